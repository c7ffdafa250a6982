/- Push: what each function comes to. -/
import Derived.Test.YthfkbabgkacfnaaPm
namespace Go.Proofs.Ythfkbabgkacfnaa
open Go Go.RowKit
set_option linter.unusedVariables false
set_option linter.unusedSimpArgs false
def push_Send_raw (d0:Buf) (d1:Arena) (d2:Int) (d3:Int) (y:Frm × Bool):Prop :=
 (smB d0)∧((sma d1)∧(∃ x25,x25=(mendB d0 d1 d2)∧((((((x25.names.length:Int)==(0:Int))||(decide (d3<(1:Int))))||(decide ((8:Int)<d3)))=true→(y=((⟨(0:Int),(0:Int),(0:Int),[(0:Int),(0:Int),(0:Int),(0:Int)],([]:List Ent)⟩:Frm),false)))∧(((((x25.names.length:Int)==(0:Int))||(decide (d3<(1:Int))))||(decide ((8:Int)<d3)))=false→(smB x25∧(sma d1∧(∃ x52,x52=(someB x25 d1 d2 d3)∧(y=((⟨(1:Int),x25.epoch,x25.first,[(0:Int),(0:Int),(0:Int),(0:Int)],x52⟩:Frm),true)))))))))
set_option maxRecDepth 20000 in
set_option maxHeartbeats 4000000 in
theorem push_Send_c {L:List Nat} {w:World} {csP0:List Value} (d0:Buf) (HP0:Stb L w (fun w=>kBuf.r w csP0 d0)) {csP1:List Value} (d1:Arena) (HP1:Stb L w (fun w=>kArena.r w csP1 d1)) (d2:Int) (d3:Int) (hL:Lt L w) {y:Frm × Bool} (h:push_Send_raw d0 d1 d2 d3 y) :
  Calls Try.prog 13 [.agg csP0.toArray,.agg csP1.toArray,.int .i64 d2,.int .i64 d3].toArray w (Ret fun v w'=>Ext w w'∧∃ (cs90:List Value),v=.tuple #[.agg cs90.toArray,.bool y.2]∧Stb L w' (fun w=>kFrm.r w cs90 y.1)):=by
 obtain ⟨A1,c2,rfl,H3⟩:=kBuf_open HP0
 obtain ⟨A4,c5,A7,c8,rfl,H6,H9⟩:=kArena_open HP1
 unfold push_Send_raw at h
 refine calls_ec Try.func13 rfl rfl rfl ?_
 refine ec_seq ?_
 refine ec_region ?_
 refine o_box (cs:=(cBuf d0 A1 c2)) rfl rfl rfl ?_
 intro b10 w10 e10 F10 B10
 have n10:w.heap.size≤b10:=Nat.le_of_eq e10.symm
 have m11:w.heap.size≤b10:=Nat.le_of_eq e10.symm
 have G12:Fr L w w10:=Fr.ext F10
 refine o_box (cs:=(cArena d1 A4 c5 A7 c8)) rfl rfl rfl ?_
 intro b13 w13 e13 F13 B13
 have S13:=B13.stb (nin ((hL.fr F10).cons B10.lt) e13)
 have E14:=F10.trans F13
 refine o_alloc zero_frame_Frame rfl rfl rfl ?_
 intro b17 w17 e17 F17 B17
 have n17:w.heap.size≤b17:=by rw [e17]; exact E14.size
 have q18:b10<b17:=by rw [e17]; exact (B10.ex F13).lt
 have m19:w.heap.size≤b17:=by rw [e17]; exact (G12.trans (Fr.ext F13)).size
 have E21:=E14.trans F17
 have G23:Fr (b10::L) w13 w17:=Fr.ext F17
 refine o_w (v:=.bool false) (r_asg rfl) ?_
 refine eo_nil_sq ?_
 refine ec_seq ?_
 refine ec_region ?_
 refine o_w (v:=.agg (cBuf d0 A1 c2).toArray) (r_lda agg_buffer_Buffer rfl (vs:=(cBuf d0 A1 c2)) rfl (((B10.ex F13).ex F17).part (n:=3) rfl)) ?_
 refine o_w (v:=.agg (cArena d1 A4 c5 A7 c8).toArray) (r_lda agg_api_Arena rfl (vs:=(cArena d1 A4 c5 A7 c8)) rfl ((S13.fr G23 (fun _ h=>h)).now.part (n:=3) rfl)) ?_
 refine o_w (v:=.int .i64 d2) (r_mov rfl) ?_
 obtain ⟨ha26,h⟩:=h
 obtain ⟨ha27,h⟩:=h
 obtain ⟨x25,hx25,h⟩:=h
 refine o_call cf_buffer_Mend rfl (buffer_Mend_c d0 (kBuf_mk (d:=d0) (H3.up ((G12.trans (Fr.ext F13)).trans (Fr.ext F17)) (fun _ h=>h) (upc (.inr m19) (upc (.inr m11) (fun _ h=>.inl h))))) d1 (kArena_mk (d:=d1) (H6.up ((G12.trans (Fr.ext F13)).trans (Fr.ext F17)) (fun _ h=>h) (upc (.inr m19) (upc (.inr m11) (fun _ h=>.inl h)))) (H9.up ((G12.trans (Fr.ext F13)).trans (Fr.ext F17)) (fun _ h=>h) (upc (.inr m19) (upc (.inr m11) (fun _ h=>.inl h))))) d2 (((hL.fr E21).cons ((B10.ex F13).ex F17).lt).cons B17.lt) (eq_ev hx25 (bufMend_ev d0 d1 d2 ha26 ha27))) rfl rfl ?_
 rintro _ w25 ⟨F25,cs28,rfl,H29⟩
 have E30:=E21.trans F25
 obtain ⟨A35,c36,rfl,H37⟩:=kBuf_open H29
 refine o_store rfl (((B10.ex F13).ex F17).ex F25) (vs:=(cBuf x25 A35 c36)) rfl sz_buffer_Buffer rfl rfl rfl ?_
 intro w38 F38 B38
 have E39:=Ext.st E30 F38 (by simp; omega)
 have G40:Fr L w w38:=(((G12.trans (Fr.ext F13)).trans (Fr.ext F17)).trans (Fr.ext F25)).stp F38 (upc (.inr m11) (fun m hm=>by cases hm))
 have G41:Fr (b10::L) w13 w38:=(G23.trans (Fr.ext F25)).stp F38 (upc (.inl (List.Mem.head _)) (fun m hm=>by cases hm))
 have G42:Fr (b17::(b10::L)) w25 w38:=(Fr.refl _ _).stp F38 (upc (.inl (List.Mem.tail _ (List.Mem.head _))) (fun m hm=>by cases hm))
 have B43:=(B17.ex F25).fr F38 (by simp; omega)
 have B38':Blk w38 b10 _ (cBuf x25 A35 c36):=B38
 refine eo_nil_sq ?_
 iterate 2 refine ec_seq ?_
 refine ec_region ?_
 refine o_w (v:=.pointer (some ⟨b10,2,none⟩)) (r_fa fld_buffer_Buffer_2 rfl rfl) ?_
 refine o_w (v:=.slice A35 x25.names.length c36) (r_ld one_s_buffer_Name rfl (B38'.cell rfl)) ?_
 refine o_w (v:=.int .i64 (x25.names.length:Int)) (r_len_slc un_s_buffer_Name rfl) ?_
 refine o_w (v:=.bool ((x25.names.length:Int)==(0:Int))) (r_int rfl rfl rfl) ?_
 refine o_w (v:=.bool ((x25.names.length:Int)==(0:Int))) (r_mov rfl) ?_
 refine o_vg (v:=.int .i64 d3) (want_cf (t:=18) rfl rfl) (fun hk=>(r_mov rfl)) rfl rfl ?_
 refine o_vg (v:=.bool (decide (d3<(1:Int)))) (want_cf (t:=18) rfl rfl) (fun hk=>(r_int (gdT hk) rfl rfl)) rfl rfl ?_
 refine o_w (v:=.bool (((x25.names.length:Int)==(0:Int))||(decide (d3<(1:Int))))) (r_pickOr rfl rfl (fun hf=>(gdT (notT hf)))) ?_
 refine o_w (v:=.bool (((x25.names.length:Int)==(0:Int))||(decide (d3<(1:Int))))) (r_mov rfl) ?_
 refine o_vg (v:=.int .i64 d3) (want_cf (t:=22) rfl rfl) (fun hk=>(r_mov rfl)) rfl rfl ?_
 refine o_vg (v:=.bool (decide ((8:Int)<d3))) (want_cf (t:=22) rfl rfl) (fun hk=>(r_int (gdT hk) rfl rfl)) rfl rfl ?_
 refine o_w (v:=.bool ((((x25.names.length:Int)==(0:Int))||(decide (d3<(1:Int))))||(decide ((8:Int)<d3)))) (r_pickOr rfl rfl (fun hf=>(gdT (notT hf)))) ?_
 refine eo_nil_sq ?_
 refine ec_cond rfl (fun hc44=>?_) (fun hc44=>?_)
 ·replace h:=h.1 hc44
  refine ec_seq ?_
  refine ec_region ?_
  refine o_w (v:=.agg #[.int .i64 (0:Int),.int .i64 (0:Int),.int .i64 (0:Int),.int .i64 (0:Int),.int .i64 (0:Int),.int .i64 (0:Int),.int .i64 (0:Int),.slice none ([]:List Ent).length 0]) (r_build bld_frame_Frame (vs:=[]) (cells:=[.int .i64 (0:Int),.int .i64 (0:Int),.int .i64 (0:Int),.int .i64 (0:Int),.int .i64 (0:Int),.int .i64 (0:Int),.int .i64 (0:Int),.slice none ([]:List Ent).length 0]) rfl rfl) ?_
  refine o_store rfl B43 (vs:=[.int .i64 (0:Int),.int .i64 (0:Int),.int .i64 (0:Int),.int .i64 (0:Int),.int .i64 (0:Int),.int .i64 (0:Int),.int .i64 (0:Int),.slice none ([]:List Ent).length 0]) rfl sz_frame_Frame rfl rfl rfl ?_
  intro w45 F45 B45
  have E46:=Ext.st E39 F45 (by simp; omega)
  have B45':Blk w45 b17 _ [.int .i64 (0:Int),.int .i64 (0:Int),.int .i64 (0:Int),.int .i64 (0:Int),.int .i64 (0:Int),.int .i64 (0:Int),.int .i64 (0:Int),.slice none ([]:List Ent).length 0]:=B45
  refine o_w (v:=.bool false) (r_asg rfl) ?_
  refine eo_nil_sq ?_
  refine ec_ret ?_
  refine sq_ret ?_
  subst h
  exact (endr2 (rv_a rfl (agg_frame_Frame) B45' (vs:=[.int .i64 (0:Int),.int .i64 (0:Int),.int .i64 (0:Int),.int .i64 (0:Int),.int .i64 (0:Int),.int .i64 (0:Int),.int .i64 (0:Int),.slice none ([]:List Ent).length 0]) rfl rfl) (rv_t rfl) ⟨_,rfl,E46,_,rfl,(kFrm_mk (d:=(⟨(0:Int),(0:Int),(0:Int),[(0:Int),(0:Int),(0:Int),(0:Int)],([]:List Ent)⟩:Frm)) stb_nil rfl)⟩)
 ·replace h:=h.2 hc44
  refine ec_skip ?_
  refine sq_n ?_
  refine ec_seq ?_
  obtain ⟨ha53,h⟩:=h
  obtain ⟨ha54,h⟩:=h
  obtain ⟨x52,hx52,h⟩:=h
  have qb51_b17:b17<w38.heap.size:=B43.lt
  refine ec_anyN (by kernel_rfl) [[],[0],[],[2],[],[],[],[],[4,5,6,7],[0,1,2,3,4,5,6,7,8],[0,1,2,3,4,5,6,7,8,9],[0,1,2,3,4,5,6,7,8,9,10]] [9,27,28,29,30,31,32,33,34,35,36] (b17::[]) [10] [[b17]] [[10,11]] [fun w'=>Blk w' b17 37 [.int .i64 (0:Int),.int .i64 (0:Int),.int .i64 (0:Int),.int .i64 (0:Int),.int .i64 (0:Int),.int .i64 (0:Int),.int .i64 (0:Int),.slice none ([]:List Ent).length 0],fun w'=>∃ A55 c56,Stb (b17::(b10::L)) w' (fun w=>SlC kEnt w A55 c56 x52)∧Blk w' b17 37 [.int .i64 (1:Int),.int .i64 x25.epoch,.int .i64 x25.first,.int .i64 (0:Int),.int .i64 (0:Int),.int .i64 (0:Int),.int .i64 (0:Int),.slice A55 x52.length c56]] [fun v _=>v=(.pointer (some ⟨b10,0,none⟩):Value),fun v _=>v=(.int .i64 x25.epoch:Value),fun v _=>v=(.pointer (some ⟨b10,1,none⟩):Value),fun v _=>v=(.int .i64 x25.first:Value),fun v _=>v=(.agg (cBuf x25 A35 c36).toArray:Value),fun v _=>v=(.agg (cArena d1 A4 c5 A7 c8).toArray:Value),fun v _=>v=(.int .i64 d2:Value),fun v _=>v=(.int .i64 d3:Value),fun v w'=>∃ A55 c56,v=(.slice A55 x52.length c56:Value)∧Stb (b17::(b10::L)) w' (fun w=>SlC kEnt w A55 c56 x52),fun v w'=>∃ A55 c56,v=(.agg #[.int .i64 (1:Int),.int .i64 x25.epoch,.int .i64 x25.first,.int .i64 (0:Int),.int .i64 (0:Int),.int .i64 (0:Int),.int .i64 (0:Int),.slice A55 x52.length c56]:Value)∧Stb (b17::(b10::L)) w' (fun w=>SlC kEnt w A55 c56 x52),fun _ _=>True,fun v _=>v=(.bool true:Value)] (by kernel_rfl) (allM1 (fun m hm=>by first | exact hm | (simp at hm ⊢; simp [hm]; done) | simp_all) (fun _ h=>by cases h)) ⟨fun _ _ _ _ _ h=>h,fun _ _ _ _ _ h=>h,fun _ _ _ _ _ h=>h,fun _ _ _ _ _ h=>h,fun _ _ _ _ _ h=>h,fun _ _ _ _ _ h=>h,fun _ _ _ _ _ h=>h,fun _ _ _ _ _ h=>h,fun _ v w' w'' F h=>by obtain ⟨A55,c56,hv,H57⟩:=h; exact ⟨A55,c56,hv,(H57.ex F)⟩,fun _ v w' w'' F h=>by obtain ⟨A55,c56,hv,H57⟩:=h; exact ⟨A55,c56,hv,(H57.ex F)⟩,fun _ _ _ _ _ h=>h,fun _ _ _ _ _ h=>h,trivial⟩ ⟨⟨fun _ _ _ _ _ h=>h,fun _ _ _ _ _ h=>h,fun _ _ _ _ _ h=>h,fun _ _ _ _ _ h=>h,fun _ _ _ _ _ h=>h,fun _ _ _ _ _ h=>h,fun _ _ _ _ _ h=>h,fun _ _ _ _ _ h=>h,fun _ v w' w'' F h=>by obtain ⟨A55,c56,hv,H57⟩:=h; exact ⟨A55,c56,hv,(H57.fr F (by simp))⟩,fun _ v w' w'' F h=>by obtain ⟨A55,c56,hv,H57⟩:=h; exact ⟨A55,c56,hv,(H57.fr F (by simp))⟩,(fun h=>absurd h (by decide)),(fun h=>absurd h (by decide)),trivial⟩,trivial⟩ ⟨fun w' w'' F h=>by have hB51_b17:=h; exact (hB51_b17.ex F),fun w' w'' F h=>by obtain ⟨A55,c56,H57,hB51_b17⟩:=h; exact ⟨A55,c56,(H57.ex F),(hB51_b17.ex F)⟩,trivial⟩ B43 ?_ ?_ ?_
  ·refine ⟨?_,?_,?_,?_,?_,?_,?_,?_,?_,?_,?_,?_,trivial⟩
   ·intro _ ρ w51o F51o hX hS hρ
    have F51o:=hX 10 rfl rfl
    have q4:ρ 4=.pointer (some ⟨b10,0,none⟩):=hρ 4 (by kernel_rfl)
    exact o_q (r_fa fld_buffer_Buffer_0 rfl q4) ⟨Fr.refl _ _,rfl⟩
   ·intro _ ρ w51o F51o hX hS hρ
    have F51o:=hX 10 rfl rfl
    have q27:ρ 27=.pointer (some ⟨b10,0,none⟩):=hS 0 (by decide) 27 rfl
    exact o_q (r_ld one_int q27 ((B38'.ex F51o).cell rfl)) ⟨Fr.refl _ _,rfl⟩
   ·intro _ ρ w51o F51o hX hS hρ
    have F51o:=hX 10 rfl rfl
    have q4:ρ 4=.pointer (some ⟨b10,0,none⟩):=hρ 4 (by kernel_rfl)
    exact o_q (r_fa fld_buffer_Buffer_1 rfl q4) ⟨Fr.refl _ _,rfl⟩
   ·intro _ ρ w51o F51o hX hS hρ
    have F51o:=hX 10 rfl rfl
    have q29:ρ 29=.pointer (some ⟨b10,1,none⟩):=hS 2 (by decide) 29 rfl
    exact o_q (r_ld one_int q29 ((B38'.ex F51o).cell rfl)) ⟨Fr.refl _ _,rfl⟩
   ·intro _ ρ w51o F51o hX hS hρ
    have F51o:=hX 10 rfl rfl
    have q4:ρ 4=.pointer (some ⟨b10,0,none⟩):=hρ 4 (by kernel_rfl)
    exact o_q (r_lda agg_buffer_Buffer q4 (vs:=(cBuf x25 A35 c36)) rfl ((B38'.ex F51o).part (n:=3) rfl)) ⟨Fr.refl _ _,rfl⟩
   ·intro _ ρ w51o F51o hX hS hρ
    have F51o:=hX 10 rfl rfl
    have q5:ρ 5=.pointer (some ⟨b13,0,none⟩):=hρ 5 (by kernel_rfl)
    exact o_q (r_lda agg_api_Arena q5 (vs:=(cArena d1 A4 c5 A7 c8)) rfl ((S13.fr (G41.trans (Fr.ext F51o)) (fun _ h=>h)).now.part (n:=3) rfl)) ⟨Fr.refl _ _,rfl⟩
   ·intro _ ρ w51o F51o hX hS hρ
    have F51o:=hX 10 rfl rfl
    have q2:ρ 2=.int .i64 d2:=hρ 2 (by kernel_rfl)
    exact o_q (r_mov q2) ⟨Fr.refl _ _,rfl⟩
   ·intro _ ρ w51o F51o hX hS hρ
    have F51o:=hX 10 rfl rfl
    have q3:ρ 3=.int .i64 d3:=hρ 3 (by kernel_rfl)
    exact o_q (r_mov q3) ⟨Fr.refl _ _,rfl⟩
   ·intro _ ρ w51o F51o hX hS hρ
    have F51o:=hX 10 rfl rfl
    have E82:=E39.trans F51o
    have q31:ρ 31=.agg (cBuf x25 A35 c36).toArray:=hS 4 (by decide) 31 rfl
    have q32:ρ 32=.agg (cArena d1 A4 c5 A7 c8).toArray:=hS 5 (by decide) 32 rfl
    have q33:ρ 33=.int .i64 d2:=hS 6 (by decide) 33 rfl
    have q34:ρ 34=.int .i64 d3:=hS 7 (by decide) 34 rfl
    refine o_call cf_buffer_Some (by simp only [List.map,ev,q31,q32,q33,q34] <;> rfl) (buffer_Some_c x25 (kBuf_mk (d:=x25) (H37.fr (G42.trans (Fr.ext F51o)) (fun _ h=>h))) d1 (kArena_mk (d:=d1) (H6.up (G40.trans (Fr.ext F51o)) (fun _ h=>h) (upc (.inr m19) (upc (.inr m11) (fun _ h=>.inl h)))) (H9.up (G40.trans (Fr.ext F51o)) (fun _ h=>h) (upc (.inr m19) (upc (.inr m11) (fun _ h=>.inl h))))) d2 d3 (((hL.fr E82).cons (B38'.ex F51o).lt).cons (B43.ex F51o).lt) (eq_ev hx52 (bufSome_ev x25 d1 d2 d3 ha53 ha54))) rfl rfl ?_
    rintro _ w' ⟨F,A55,c56,rfl,H57⟩
    exact eo_nil ⟨rfl,rfl,_,rfl,F,⟨A55,c56,rfl,H57⟩⟩
   ·intro _ ρ w51o F51o hX hS hρ
    have F51o:=hX 10 rfl rfl
    have q28:ρ 28=.int .i64 x25.epoch:=hS 1 (by decide) 28 rfl
    have q30:ρ 30=.int .i64 x25.first:=hS 3 (by decide) 30 rfl
    obtain ⟨A55,c56,q35,H57⟩:=hS 8 (by decide) 35 rfl
    exact o_q (r_build bld_frame_Frame (vs:=[(0,.int .i64 (1:Int)),(1,.int .i64 x25.epoch),(2,.int .i64 x25.first),(4,.slice A55 x52.length c56)]) (cells:=[.int .i64 (1:Int),.int .i64 x25.epoch,.int .i64 x25.first,.int .i64 (0:Int),.int .i64 (0:Int),.int .i64 (0:Int),.int .i64 (0:Int),.slice A55 x52.length c56]) (by simp only [List.map,ev,q28,q30,q35]) rfl) ⟨Fr.refl _ _,⟨A55,c56,rfl,H57⟩⟩
   ·intro hT; exact absurd hT (by decide)
   ·intro _ ρ w51o F51o hX hS hρ
    exact o_q (r_asg rfl) ⟨Fr.refl _ _,rfl⟩
  ·refine ⟨⟨_,rfl,?_⟩,trivial⟩
   ·intro ρ w51o F51o hX hI hS hρ
    have hB51_b17:=hI
    have q8:ρ 8=.pointer (some ⟨b17,0,none⟩):=hρ 8 (by kernel_rfl)
    obtain ⟨A55,c56,q36,H57⟩:=hS 9 (by decide) 36 rfl
    refine o_store (show ev ρ _=_ from q8) hB51_b17 (vs:=[.int .i64 (1:Int),.int .i64 x25.epoch,.int .i64 x25.first,.int .i64 (0:Int),.int .i64 (0:Int),.int .i64 (0:Int),.int .i64 (0:Int),.slice A55 x52.length c56]) (congrArg Value.cells q36) sz_frame_Frame rfl rfl rfl ?_
    intro w' F B2
    exact eo_nil ⟨rfl,rfl,undef,rfl,F,⟨A55,c56,(H57.fr F (by simp)),B2⟩,trivial⟩
  ·intro ρ w51 F51 hI hS hρ
   obtain ⟨A55,c56,H57,hB51_b17⟩:=hI
   have q9:ρ 9=.bool true:=hS 11 9 rfl
   obtain ⟨ρ',rfl⟩:∃ ρ',ρ=envs (ovr [9,27,28,29,30,31,32,33,34,35,36] ρ' _) [(9,.bool true)]:=⟨ρ,ovr_self hρ ⟨q9,trivial⟩⟩
   have E94:Ext w w51:=Ext.st E39 F51 (upc n17 (fun m hm=>by cases hm))
   have Z51:=Fr.refl (b17::(b10::L)) w51
   refine sq_n ?_
   refine ec_ret ?_
   subst h
   exact (endr2 (rv_a rfl (agg_frame_Frame) hB51_b17 (vs:=[.int .i64 (1:Int),.int .i64 x25.epoch,.int .i64 x25.first,.int .i64 (0:Int),.int .i64 (0:Int),.int .i64 (0:Int),.int .i64 (0:Int),.slice A55 x52.length c56]) rfl rfl) (rv_t rfl) ⟨_,rfl,E94,_,rfl,(kFrm_mk (d:=(⟨(1:Int),x25.epoch,x25.first,[(0:Int),(0:Int),(0:Int),(0:Int)],x52⟩:Frm)) (H57.up Z51 (fun _ h=>h) (fun m hm=>Or.inl (List.Mem.tail _ (List.Mem.tail _ hm)))) rfl)⟩)
def push_letter_is_raw (d0:Ltr) (d1:Int) (y:Bool):Prop :=
 (sml d0.frame.entries)∧((d0.frame.entries.length≤1000000)∧(y=(((checkF d0.frame)==(0:Int))&&(d0.frame.kind==d1))))
set_option maxRecDepth 20000 in
set_option maxHeartbeats 4000000 in
theorem push_letter_is_c {L:List Nat} {w:World} {csP0:List Value} (d0:Ltr) (HP0:Stb L w (fun w=>kLtr.r w csP0 d0)) (d1:Int) (hL:Lt L w) {y:Bool} (h:push_letter_is_raw d0 d1 y) :
  Calls Try.prog 31 [.agg csP0.toArray,.int .i64 d1].toArray w (Ret fun v w'=>Ext w w'∧v=.bool y):=by
 obtain ⟨A2,c3,rfl,H4,hl1⟩:=kLtr_open HP0
 unfold push_letter_is_raw at h
 refine calls_ec Try.func31 rfl rfl rfl ?_
 refine ec_seq ?_
 refine ec_region ?_
 refine o_box (cs:=(cLtr d0 A2 c3)) rfl rfl rfl ?_
 intro b5 w5 e5 F5 B5
 have S5:=B5.stb (nin hL e5)
 have G6:Fr L w w5:=Fr.ext F5
 refine o_w (v:=.bool false) (r_asg rfl) ?_
 refine eo_nil_sq ?_
 refine ec_seq ?_
 refine ec_region ?_
 refine o_w (v:=.pointer (some ⟨b5,0,none⟩)) (r_fa fld_push_letter_0 rfl rfl) ?_
 refine o_w (v:=.agg (cFrm d0.frame A2 c3).toArray) (r_lda agg_frame_Frame rfl (vs:=(cFrm d0.frame A2 c3)) rfl (S5.now.part (n:=8) rfl)) ?_
 obtain ⟨ha8,h⟩:=h
 obtain ⟨ha9,h⟩:=h
 refine o_call cf_frame_Check rfl (frame_Check_c d0.frame (kFrm_mk (d:=d0.frame) (H4.fr G6 (fun _ h=>h)) hl1) (hL.fr F5) (frCheck_ev d0.frame ha8 ha9)) rfl rfl ?_
 rintro _ w7 ⟨F7,rfl⟩
 have E10:=F5.trans F7
 have G12:Fr L w5 w7:=Fr.ext F7
 refine o_w (v:=.bool ((checkF d0.frame)==(0:Int))) (r_int rfl rfl rfl) ?_
 refine o_w (v:=.bool ((checkF d0.frame)==(0:Int))) (r_mov rfl) ?_
 refine o_vg (v:=.pointer (some ⟨b5,0,none⟩)) (want_ct (t:=9) rfl rfl) (fun hk=>(r_fa fld_push_letter_0 rfl rfl)) rfl rfl ?_
 refine o_vg (v:=.pointer (some ⟨b5,0,none⟩)) (want_ct (t:=9) rfl rfl) (fun hk=>(r_fa fld_frame_Frame_0 rfl (gdT hk))) rfl rfl ?_
 refine o_vg (v:=.int .i64 d0.frame.kind) (want_ct (t:=9) rfl rfl) (fun hk=>(r_ld one_int (gdT hk) ((S5.fr G12 (fun _ h=>h)).now.cell rfl))) rfl rfl ?_
 refine o_vg (v:=.int .i64 d1) (want_ct (t:=9) rfl rfl) (fun hk=>(r_mov rfl)) rfl rfl ?_
 refine o_vg (v:=.bool (d0.frame.kind==d1)) (want_ct (t:=9) rfl rfl) (fun hk=>(r_int (gdT hk) (gdT hk) rfl)) rfl rfl ?_
 refine o_w (v:=.bool (((checkF d0.frame)==(0:Int))&&(d0.frame.kind==d1))) (r_pickAnd rfl (fun ht=>(gdT ht)) rfl) ?_
 refine o_w (v:=.bool (((checkF d0.frame)==(0:Int))&&(d0.frame.kind==d1))) (r_asg rfl) ?_
 refine eo_nil_sq ?_
 refine ec_ret ?_
 subst h
 exact (end1 rfl ⟨_,rfl,E10,rfl⟩)
def push_letter_upto_raw (d0:Ltr) (y:Int):Prop :=
 y=(IntKind.i64.wrap (d0.frame.b + (d0.frame.entries.length:Int)))
set_option maxRecDepth 20000 in
set_option maxHeartbeats 4000000 in
theorem push_letter_upto_c {L:List Nat} {w:World} {csP0:List Value} (d0:Ltr) (HP0:Stb L w (fun w=>kLtr.r w csP0 d0)) (hL:Lt L w) {y:Int} (h:push_letter_upto_raw d0 y) :
  Calls Try.prog 30 [.agg csP0.toArray].toArray w (Ret fun v w'=>Ext w w'∧v=.int .i64 y):=by
 obtain ⟨A2,c3,rfl,H4,hl1⟩:=kLtr_open HP0
 unfold push_letter_upto_raw at h
 refine calls_ec Try.func30 rfl rfl rfl ?_
 refine ec_seq ?_
 refine ec_region ?_
 refine o_box (cs:=(cLtr d0 A2 c3)) rfl rfl rfl ?_
 intro b5 w5 e5 F5 B5
 have S5:=B5.stb (nin hL e5)
 refine o_w (v:=.int .i64 (0:Int)) (r_asg rfl) ?_
 refine eo_nil_sq ?_
 refine ec_seq ?_
 refine ec_region ?_
 refine o_w (v:=.pointer (some ⟨b5,0,none⟩)) (r_fa fld_push_letter_0 rfl rfl) ?_
 refine o_w (v:=.pointer (some ⟨b5,2,none⟩)) (r_fa fld_frame_Frame_2 rfl rfl) ?_
 refine o_w (v:=.int .i64 d0.frame.b) (r_ld one_int rfl (S5.now.cell rfl)) ?_
 refine o_w (v:=.pointer (some ⟨b5,0,none⟩)) (r_fa fld_push_letter_0 rfl rfl) ?_
 refine o_w (v:=.pointer (some ⟨b5,7,none⟩)) (r_fa fld_frame_Frame_4 rfl rfl) ?_
 refine o_w (v:=.slice A2 d0.frame.entries.length c3) (r_ld one_s_api_Entry rfl (S5.now.cell rfl)) ?_
 refine o_w (v:=.int .i64 (d0.frame.entries.length:Int)) (r_len_slc un_s_api_Entry rfl) ?_
 refine o_w (v:=.int .i64 (IntKind.i64.wrap (d0.frame.b + (d0.frame.entries.length:Int)))) (r_int rfl rfl rfl) ?_
 refine o_w (v:=.int .i64 (IntKind.i64.wrap (d0.frame.b + (d0.frame.entries.length:Int)))) (r_asg rfl) ?_
 refine eo_nil_sq ?_
 refine ec_ret ?_
 subst h
 exact (end1 rfl ⟨_,rfl,F5,rfl⟩)
def push_Heard_raw (d0:Frm) (y:Frm × Bool):Prop :=
 ∃ x27,push_letter_is_raw (⟨d0⟩:Ltr) (1:Int) x27∧(((!x27)=true→(y=((⟨(0:Int),(0:Int),(0:Int),[(0:Int),(0:Int),(0:Int),(0:Int)],([]:List Ent)⟩:Frm),false)))∧((!x27)=false→(∃ x39,push_letter_upto_raw (⟨d0⟩:Ltr) x39∧(((decide ((2147483647:Int)<x39))=true→(y=((⟨(0:Int),(0:Int),(0:Int),[(0:Int),(0:Int),(0:Int),(0:Int)],([]:List Ent)⟩:Frm),false)))∧((decide ((2147483647:Int)<x39))=false→(∃ x52,push_letter_upto_raw (⟨d0⟩:Ltr) x52∧(y=((⟨(2:Int),d0.a,x52,[(0:Int),(0:Int),(0:Int),(0:Int)],([]:List Ent)⟩:Frm),true))))))))
set_option maxRecDepth 20000 in
set_option maxHeartbeats 4000000 in
theorem push_Heard_c {L:List Nat} {w:World} {csP0:List Value} (d0:Frm) (HP0:Stb L w (fun w=>kFrm.r w csP0 d0)) (hL:Lt L w) {y:Frm × Bool} (h:push_Heard_raw d0 y) :
  Calls Try.prog 14 [.agg csP0.toArray].toArray w (Ret fun v w'=>Ext w w'∧∃ (cs90:List Value),v=.tuple #[.agg cs90.toArray,.bool y.2]∧Stb L w' (fun w=>kFrm.r w cs90 y.1)):=by
 obtain ⟨A2,c3,rfl,H4,hl1⟩:=kFrm_open HP0
 unfold push_Heard_raw at h
 refine calls_ec Try.func14 rfl rfl rfl ?_
 refine ec_seq ?_
 refine ec_region ?_
 refine o_box (cs:=(cFrm d0 A2 c3)) rfl rfl rfl ?_
 intro b5 w5 e5 F5 B5
 have S5:=B5.stb (nin hL e5)
 have G6:Fr L w w5:=Fr.ext F5
 refine o_alloc zero_frame_Frame rfl rfl rfl ?_
 intro b7 w7 e7 F7 B7
 have n7:w.heap.size≤b7:=by rw [e7]; exact F5.size
 have m8:w.heap.size≤b7:=by rw [e7]; exact G6.size
 have E10:=F5.trans F7
 have G12:Fr L w5 w7:=Fr.ext F7
 refine o_w (v:=.bool false) (r_asg rfl) ?_
 refine eo_nil_sq ?_
 refine ec_seq ?_
 refine ec_region ?_
 refine o_w (v:=.agg (cFrm d0 A2 c3).toArray) (r_lda agg_frame_Frame rfl (vs:=(cFrm d0 A2 c3)) rfl ((S5.fr G12 (fun _ h=>h)).now.part (n:=8) rfl)) ?_
 refine o_w (v:=.agg #[.int .i64 d0.kind,.int .i64 d0.a,.int .i64 d0.b,.int .i64 (nth d0.sums 0),.int .i64 (nth d0.sums 1),.int .i64 (nth d0.sums 2),.int .i64 (nth d0.sums 3),.slice A2 d0.entries.length c3]) (r_build bld_push_letter (vs:=[(0,.agg (cFrm d0 A2 c3).toArray)]) (cells:=[.int .i64 d0.kind,.int .i64 d0.a,.int .i64 d0.b,.int .i64 (nth d0.sums 0),.int .i64 (nth d0.sums 1),.int .i64 (nth d0.sums 2),.int .i64 (nth d0.sums 3),.slice A2 d0.entries.length c3]) rfl rfl) ?_
 refine o_alloc zero_push_letter rfl rfl rfl ?_
 intro b13 w13 e13 F13 B13
 have n13:w.heap.size≤b13:=by rw [e13]; exact E10.size
 have q14:b7<b13:=by rw [e13]; exact B7.lt
 have m15:w.heap.size≤b13:=by rw [e13]; exact (G6.trans (Fr.ext F7)).size
 have E17:=E10.trans F13
 refine o_store rfl B13 (vs:=[.int .i64 d0.kind,.int .i64 d0.a,.int .i64 d0.b,.int .i64 (nth d0.sums 0),.int .i64 (nth d0.sums 1),.int .i64 (nth d0.sums 2),.int .i64 (nth d0.sums 3),.slice A2 d0.entries.length c3]) rfl sz_push_letter rfl rfl rfl ?_
 intro w21 F21 B21
 have E22:=Ext.st E17 F21 (by simp; omega)
 have G23:Fr L w w21:=((G6.trans (Fr.ext F7)).trans (Fr.ext F13)).stp F21 (upc (.inr m15) (fun m hm=>by cases hm))
 have B25:=(B7.ex F13).fr F21 (by simp; omega)
 have B21':Blk w21 b13 _ [.int .i64 d0.kind,.int .i64 d0.a,.int .i64 d0.b,.int .i64 (nth d0.sums 0),.int .i64 (nth d0.sums 1),.int .i64 (nth d0.sums 2),.int .i64 (nth d0.sums 3),.slice A2 d0.entries.length c3]:=B21
 refine eo_nil_sq ?_
 refine ec_seq ?_
 refine ec_region ?_
 refine o_w (v:=.agg #[.int .i64 d0.kind,.int .i64 d0.a,.int .i64 d0.b,.int .i64 (nth d0.sums 0),.int .i64 (nth d0.sums 1),.int .i64 (nth d0.sums 2),.int .i64 (nth d0.sums 3),.slice A2 d0.entries.length c3]) (r_lda agg_push_letter rfl (vs:=[.int .i64 d0.kind,.int .i64 d0.a,.int .i64 d0.b,.int .i64 (nth d0.sums 0),.int .i64 (nth d0.sums 1),.int .i64 (nth d0.sums 2),.int .i64 (nth d0.sums 3),.slice A2 d0.entries.length c3]) rfl (B21'.part (n:=8) rfl)) ?_
 refine o_w (r_mkfb (us:=[.agg #[.int .i64 d0.kind,.int .i64 d0.a,.int .i64 d0.b,.int .i64 (nth d0.sums 0),.int .i64 (nth d0.sums 1),.int .i64 (nth d0.sums 2),.int .i64 (nth d0.sums 3),.slice A2 d0.entries.length c3]]) (vs:=[]) rfl rfl) ?_
 refine o_w (v:=.func (.func 30) #[.agg #[.int .i64 d0.kind,.int .i64 d0.a,.int .i64 d0.b,.int .i64 (nth d0.sums 0),.int .i64 (nth d0.sums 1),.int .i64 (nth d0.sums 2),.int .i64 (nth d0.sums 3),.slice A2 d0.entries.length c3]] #[]) (r_asg rfl) ?_
 refine eo_nil_sq ?_
 iterate 2 refine ec_seq ?_
 refine ec_region ?_
 refine o_w (v:=.agg #[.int .i64 d0.kind,.int .i64 d0.a,.int .i64 d0.b,.int .i64 (nth d0.sums 0),.int .i64 (nth d0.sums 1),.int .i64 (nth d0.sums 2),.int .i64 (nth d0.sums 3),.slice A2 d0.entries.length c3]) (r_lda agg_push_letter rfl (vs:=[.int .i64 d0.kind,.int .i64 d0.a,.int .i64 d0.b,.int .i64 (nth d0.sums 0),.int .i64 (nth d0.sums 1),.int .i64 (nth d0.sums 2),.int .i64 (nth d0.sums 3),.slice A2 d0.entries.length c3]) rfl (B21'.part (n:=8) rfl)) ?_
 obtain ⟨x27,hx27,h⟩:=h
 refine o_call cf_push_letter_is rfl (push_letter_is_c (⟨d0⟩:Ltr) (kLtr_mk (d:=(⟨d0⟩:Ltr)) (H4.up G23 (fun _ h=>h) (upc (.inr m15) (upc (.inr m8) (fun _ h=>.inl h)))) (by first | rfl | exact hl1)) (1:Int) (((hL.fr E22).cons B25.lt).cons B21'.lt) hx27) rfl rfl ?_
 rintro _ w27 ⟨F27,rfl⟩
 have E28:=E22.trans F27
 refine o_w (v:=.bool (!x27)) (r_not rfl) ?_
 refine o_w (v:=.bool (!x27)) (r_mov rfl) ?_
 rcases Bool.eq_false_or_eq_true (!x27) with hc33 | hc33
 ·replace h:=h.1 hc33
  iterate 3 refine o_no (want_f (t:=13) rfl rfl hc33) rfl ?_
  refine o_w (v:=.bool true) (r_pickT rfl hc33 rfl) ?_
  refine eo_nil_sq ?_
  refine ec_condT rfl rfl ?_
  refine ec_seq ?_
  refine ec_region ?_
  refine o_w (v:=.agg #[.int .i64 (0:Int),.int .i64 (0:Int),.int .i64 (0:Int),.int .i64 (0:Int),.int .i64 (0:Int),.int .i64 (0:Int),.int .i64 (0:Int),.slice none ([]:List Ent).length 0]) (r_build bld_frame_Frame (vs:=[]) (cells:=[.int .i64 (0:Int),.int .i64 (0:Int),.int .i64 (0:Int),.int .i64 (0:Int),.int .i64 (0:Int),.int .i64 (0:Int),.int .i64 (0:Int),.slice none ([]:List Ent).length 0]) rfl rfl) ?_
  refine o_store rfl (B25.ex F27) (vs:=[.int .i64 (0:Int),.int .i64 (0:Int),.int .i64 (0:Int),.int .i64 (0:Int),.int .i64 (0:Int),.int .i64 (0:Int),.int .i64 (0:Int),.slice none ([]:List Ent).length 0]) rfl sz_frame_Frame rfl rfl rfl ?_
  intro w34 F34 B34
  have E35:=Ext.st E28 F34 (by simp; omega)
  have B34':Blk w34 b7 _ [.int .i64 (0:Int),.int .i64 (0:Int),.int .i64 (0:Int),.int .i64 (0:Int),.int .i64 (0:Int),.int .i64 (0:Int),.int .i64 (0:Int),.slice none ([]:List Ent).length 0]:=B34
  refine o_w (v:=.bool false) (r_asg rfl) ?_
  refine eo_nil_sq ?_
  refine ec_ret ?_
  refine sq_ret ?_
  subst h
  exact (endr2 (rv_a rfl (agg_frame_Frame) B34' (vs:=[.int .i64 (0:Int),.int .i64 (0:Int),.int .i64 (0:Int),.int .i64 (0:Int),.int .i64 (0:Int),.int .i64 (0:Int),.int .i64 (0:Int),.slice none ([]:List Ent).length 0]) rfl rfl) (rv_t rfl) ⟨_,rfl,E35,_,rfl,(kFrm_mk (d:=(⟨(0:Int),(0:Int),(0:Int),[(0:Int),(0:Int),(0:Int),(0:Int)],([]:List Ent)⟩:Frm)) stb_nil rfl)⟩)
 ·replace h:=h.2 hc33
  refine o_v (v:=.func (.func 30) #[.agg #[.int .i64 d0.kind,.int .i64 d0.a,.int .i64 d0.b,.int .i64 (nth d0.sums 0),.int .i64 (nth d0.sums 1),.int .i64 (nth d0.sums 2),.int .i64 (nth d0.sums 3),.slice A2 d0.entries.length c3]] #[]) (r_mov rfl) (want_t (t:=13) rfl rfl hc33) rfl rfl ?_
  obtain ⟨x39,hx39,h⟩:=h
  refine o_callb (us:=[.agg #[.int .i64 d0.kind,.int .i64 d0.a,.int .i64 d0.b,.int .i64 (nth d0.sums 0),.int .i64 (nth d0.sums 1),.int .i64 (nth d0.sums 2),.int .i64 (nth d0.sums 3),.slice A2 d0.entries.length c3]]) (vs:=[]) (caps:=[]) cf_push_letter_upto rfl rfl (push_letter_upto_c (⟨d0⟩:Ltr) (kLtr_mk (d:=(⟨d0⟩:Ltr)) (H4.up (G23.trans (Fr.ext F27)) (fun _ h=>h) (upc (.inr m15) (upc (.inr m8) (fun _ h=>.inl h)))) (by first | rfl | exact hl1)) (((hL.fr E28).cons (B25.ex F27).lt).cons (B21'.ex F27).lt) hx39) (want_t (t:=13) rfl rfl hc33) rfl ?_
  rintro _ w39 ⟨F39,rfl⟩
  have E40:=E28.trans F39
  refine o_v (v:=.bool (decide ((2147483647:Int)<x39))) (r_int rfl rfl rfl) (want_t (t:=13) rfl rfl hc33) rfl rfl ?_
  refine o_w (v:=.bool (decide ((2147483647:Int)<x39))) (r_pickF rfl hc33 rfl) ?_
  refine eo_nil_sq ?_
  refine ec_cond rfl (fun hc45=>?_) (fun hc45=>?_)
  ·replace h:=h.1 hc45
   refine ec_seq ?_
   refine ec_region ?_
   refine o_w (v:=.agg #[.int .i64 (0:Int),.int .i64 (0:Int),.int .i64 (0:Int),.int .i64 (0:Int),.int .i64 (0:Int),.int .i64 (0:Int),.int .i64 (0:Int),.slice none ([]:List Ent).length 0]) (r_build bld_frame_Frame (vs:=[]) (cells:=[.int .i64 (0:Int),.int .i64 (0:Int),.int .i64 (0:Int),.int .i64 (0:Int),.int .i64 (0:Int),.int .i64 (0:Int),.int .i64 (0:Int),.slice none ([]:List Ent).length 0]) rfl rfl) ?_
   refine o_store rfl ((B25.ex F27).ex F39) (vs:=[.int .i64 (0:Int),.int .i64 (0:Int),.int .i64 (0:Int),.int .i64 (0:Int),.int .i64 (0:Int),.int .i64 (0:Int),.int .i64 (0:Int),.slice none ([]:List Ent).length 0]) rfl sz_frame_Frame rfl rfl rfl ?_
   intro w46 F46 B46
   have E47:=Ext.st E40 F46 (by simp; omega)
   have B46':Blk w46 b7 _ [.int .i64 (0:Int),.int .i64 (0:Int),.int .i64 (0:Int),.int .i64 (0:Int),.int .i64 (0:Int),.int .i64 (0:Int),.int .i64 (0:Int),.slice none ([]:List Ent).length 0]:=B46
   refine o_w (v:=.bool false) (r_asg rfl) ?_
   refine eo_nil_sq ?_
   refine ec_ret ?_
   refine sq_ret ?_
   subst h
   exact (endr2 (rv_a rfl (agg_frame_Frame) B46' (vs:=[.int .i64 (0:Int),.int .i64 (0:Int),.int .i64 (0:Int),.int .i64 (0:Int),.int .i64 (0:Int),.int .i64 (0:Int),.int .i64 (0:Int),.slice none ([]:List Ent).length 0]) rfl rfl) (rv_t rfl) ⟨_,rfl,E47,_,rfl,(kFrm_mk (d:=(⟨(0:Int),(0:Int),(0:Int),[(0:Int),(0:Int),(0:Int),(0:Int)],([]:List Ent)⟩:Frm)) stb_nil rfl)⟩)
  ·replace h:=h.2 hc45
   refine ec_skip ?_
   refine sq_n ?_
   refine ec_seq ?_
   obtain ⟨x52,hx52,h⟩:=h
   have qb51_b7:b7<w39.heap.size:=((B25.ex F27).ex F39).lt
   refine ec_anyN (by kernel_rfl) [[],[0],[0,1],[],[3],[0,1,2,3,4],[0,1,2,3,4,5],[0,1,2,3,4,5,6]] [3,19,20,21,22,23,24] (b7::[]) [6] [[b7]] [[6,7]] [fun w'=>Blk w' b7 37 [.int .i64 (0:Int),.int .i64 (0:Int),.int .i64 (0:Int),.int .i64 (0:Int),.int .i64 (0:Int),.int .i64 (0:Int),.int .i64 (0:Int),.slice none ([]:List Ent).length 0],fun w'=>Blk w' b7 37 [.int .i64 (2:Int),.int .i64 d0.a,.int .i64 x52,.int .i64 (0:Int),.int .i64 (0:Int),.int .i64 (0:Int),.int .i64 (0:Int),.slice none ([]:List Ent).length 0]] [fun v _=>v=(.pointer (some ⟨b13,0,none⟩):Value),fun v _=>v=(.pointer (some ⟨b13,1,none⟩):Value),fun v _=>v=(.int .i64 d0.a:Value),fun v _=>v=(.func (.func 30) #[.agg #[.int .i64 d0.kind,.int .i64 d0.a,.int .i64 d0.b,.int .i64 (nth d0.sums 0),.int .i64 (nth d0.sums 1),.int .i64 (nth d0.sums 2),.int .i64 (nth d0.sums 3),.slice A2 d0.entries.length c3]] #[]:Value),fun v _=>v=(.int .i64 x52:Value),fun v _=>v=(.agg #[.int .i64 (2:Int),.int .i64 d0.a,.int .i64 x52,.int .i64 (0:Int),.int .i64 (0:Int),.int .i64 (0:Int),.int .i64 (0:Int),.slice none ([]:List Ent).length 0]:Value),fun _ _=>True,fun v _=>v=(.bool true:Value)] (by kernel_rfl) (allM1 (fun m hm=>by first | exact hm | (simp at hm ⊢; simp [hm]; done) | simp_all) (fun _ h=>by cases h)) ⟨fun _ _ _ _ _ h=>h,fun _ _ _ _ _ h=>h,fun _ _ _ _ _ h=>h,fun _ _ _ _ _ h=>h,fun _ _ _ _ _ h=>h,fun _ _ _ _ _ h=>h,fun _ _ _ _ _ h=>h,fun _ _ _ _ _ h=>h,trivial⟩ ⟨⟨fun _ _ _ _ _ h=>h,fun _ _ _ _ _ h=>h,fun _ _ _ _ _ h=>h,fun _ _ _ _ _ h=>h,fun _ _ _ _ _ h=>h,fun _ _ _ _ _ h=>h,(fun h=>absurd h (by decide)),(fun h=>absurd h (by decide)),trivial⟩,trivial⟩ ⟨fun w' w'' F h=>by have hB51_b7:=h; exact (hB51_b7.ex F),fun w' w'' F h=>by have hB51_b7:=h; exact (hB51_b7.ex F),trivial⟩ ((B25.ex F27).ex F39) ?_ ?_ ?_
   ·refine ⟨?_,?_,?_,?_,?_,?_,?_,?_,trivial⟩
    ·intro _ ρ w51o F51o hX hS hρ
     have F51o:=hX 6 rfl rfl
     have q4:ρ 4=.pointer (some ⟨b13,0,none⟩):=hρ 4 (by kernel_rfl)
     exact o_q (r_fa fld_push_letter_0 rfl q4) ⟨Fr.refl _ _,rfl⟩
    ·intro _ ρ w51o F51o hX hS hρ
     have F51o:=hX 6 rfl rfl
     have q19:ρ 19=.pointer (some ⟨b13,0,none⟩):=hS 0 (by decide) 19 rfl
     exact o_q (r_fa fld_frame_Frame_1 rfl q19) ⟨Fr.refl _ _,rfl⟩
    ·intro _ ρ w51o F51o hX hS hρ
     have F51o:=hX 6 rfl rfl
     have q20:ρ 20=.pointer (some ⟨b13,1,none⟩):=hS 1 (by decide) 20 rfl
     exact o_q (r_ld one_int q20 ((((B21'.ex F27).ex F39).ex F51o).cell rfl)) ⟨Fr.refl _ _,rfl⟩
    ·intro _ ρ w51o F51o hX hS hρ
     have F51o:=hX 6 rfl rfl
     have q5:ρ 5=.func (.func 30) #[.agg #[.int .i64 d0.kind,.int .i64 d0.a,.int .i64 d0.b,.int .i64 (nth d0.sums 0),.int .i64 (nth d0.sums 1),.int .i64 (nth d0.sums 2),.int .i64 (nth d0.sums 3),.slice A2 d0.entries.length c3]] #[]:=hρ 5 (by kernel_rfl)
     exact o_q (r_mov q5) ⟨Fr.refl _ _,rfl⟩
    ·intro _ ρ w51o F51o hX hS hρ
     have F51o:=hX 6 rfl rfl
     have E58:=E40.trans F51o
     have q22:ρ 22=.func (.func 30) #[.agg #[.int .i64 d0.kind,.int .i64 d0.a,.int .i64 d0.b,.int .i64 (nth d0.sums 0),.int .i64 (nth d0.sums 1),.int .i64 (nth d0.sums 2),.int .i64 (nth d0.sums 3),.slice A2 d0.entries.length c3]] #[]:=hS 3 (by decide) 22 rfl
     refine o_callb (us:=[.agg #[.int .i64 d0.kind,.int .i64 d0.a,.int .i64 d0.b,.int .i64 (nth d0.sums 0),.int .i64 (nth d0.sums 1),.int .i64 (nth d0.sums 2),.int .i64 (nth d0.sums 3),.slice A2 d0.entries.length c3]]) (vs:=[]) (caps:=[]) cf_push_letter_upto (show ev ρ _=_ from q22) rfl (push_letter_upto_c (⟨d0⟩:Ltr) (kLtr_mk (d:=(⟨d0⟩:Ltr)) (H4.up (((G23.trans (Fr.ext F27)).trans (Fr.ext F39)).trans (Fr.ext F51o)) (fun _ h=>h) (upc (.inr m15) (upc (.inr m8) (fun _ h=>.inl h)))) (by first | rfl | exact hl1)) (((hL.fr E58).cons (((B25.ex F27).ex F39).ex F51o).lt).cons (((B21'.ex F27).ex F39).ex F51o).lt) hx52) rfl rfl ?_
     rintro _ w' ⟨F,rfl⟩
     exact eo_nil ⟨rfl,rfl,_,rfl,F,rfl⟩
    ·intro _ ρ w51o F51o hX hS hρ
     have F51o:=hX 6 rfl rfl
     have q21:ρ 21=.int .i64 d0.a:=hS 2 (by decide) 21 rfl
     have q23:ρ 23=.int .i64 x52:=hS 4 (by decide) 23 rfl
     exact o_q (r_build bld_frame_Frame (vs:=[(0,.int .i64 (2:Int)),(1,.int .i64 d0.a),(2,.int .i64 x52)]) (cells:=[.int .i64 (2:Int),.int .i64 d0.a,.int .i64 x52,.int .i64 (0:Int),.int .i64 (0:Int),.int .i64 (0:Int),.int .i64 (0:Int),.slice none ([]:List Ent).length 0]) (by simp only [List.map,ev,q21,q23]) rfl) ⟨Fr.refl _ _,rfl⟩
    ·intro hT; exact absurd hT (by decide)
    ·intro _ ρ w51o F51o hX hS hρ
     exact o_q (r_asg rfl) ⟨Fr.refl _ _,rfl⟩
   ·refine ⟨⟨_,rfl,?_⟩,trivial⟩
    ·intro ρ w51o F51o hX hI hS hρ
     have hB51_b7:=hI
     have q2:ρ 2=.pointer (some ⟨b7,0,none⟩):=hρ 2 (by kernel_rfl)
     have q24:ρ 24=.agg #[.int .i64 (2:Int),.int .i64 d0.a,.int .i64 x52,.int .i64 (0:Int),.int .i64 (0:Int),.int .i64 (0:Int),.int .i64 (0:Int),.slice none ([]:List Ent).length 0]:=hS 5 (by decide) 24 rfl
     refine o_store (show ev ρ _=_ from q2) hB51_b7 (vs:=[.int .i64 (2:Int),.int .i64 d0.a,.int .i64 x52,.int .i64 (0:Int),.int .i64 (0:Int),.int .i64 (0:Int),.int .i64 (0:Int),.slice none ([]:List Ent).length 0]) (congrArg Value.cells q24) sz_frame_Frame rfl rfl rfl ?_
     intro w' F B2
     exact eo_nil ⟨rfl,rfl,undef,rfl,F,B2,trivial⟩
   ·intro ρ w51 F51 hI hS hρ
    have hB51_b7:=hI
    have q3:ρ 3=.bool true:=hS 7 3 rfl
    obtain ⟨ρ',rfl⟩:∃ ρ',ρ=envs (ovr [3,19,20,21,22,23,24] ρ' _) [(3,.bool true)]:=⟨ρ,ovr_self hρ ⟨q3,trivial⟩⟩
    have E68:Ext w w51:=Ext.st E40 F51 (upc n7 (fun m hm=>by cases hm))
    refine sq_n ?_
    refine ec_ret ?_
    subst h
    exact (endr2 (rv_a rfl (agg_frame_Frame) hB51_b7 (vs:=[.int .i64 (2:Int),.int .i64 d0.a,.int .i64 x52,.int .i64 (0:Int),.int .i64 (0:Int),.int .i64 (0:Int),.int .i64 (0:Int),.slice none ([]:List Ent).length 0]) rfl rfl) (rv_t rfl) ⟨_,rfl,E68,_,rfl,(kFrm_mk (d:=(⟨(2:Int),d0.a,x52,[(0:Int),(0:Int),(0:Int),(0:Int)],([]:List Ent)⟩:Frm)) stb_nil rfl)⟩)
def push_Done_raw (d0:Buf) (d1:Arena) (d2:Int) (d3:Frm) (y:Buf):Prop :=
 ∃ x54,push_letter_is_raw (⟨d3⟩:Ltr) (2:Int) x54∧((x54=true→((smB d0)∧((sma d1)∧(∃ x63,x63=(ackB d0 d1 d2 d3.a d3.b)∧(y=x63)))))∧(x54=false→((smB d0)∧((sma d1)∧(∃ x86,x86=(mendB d0 d1 d2)∧(y=x86))))))
set_option maxRecDepth 20000 in
set_option maxHeartbeats 4000000 in
theorem push_Done_c {L:List Nat} {w:World} {csP0:List Value} (d0:Buf) (HP0:Stb L w (fun w=>kBuf.r w csP0 d0)) {csP1:List Value} (d1:Arena) (HP1:Stb L w (fun w=>kArena.r w csP1 d1)) (d2:Int) {csP3:List Value} (d3:Frm) (HP3:Stb L w (fun w=>kFrm.r w csP3 d3)) (hL:Lt L w) {y:Buf} (h:push_Done_raw d0 d1 d2 d3 y) :
  Calls Try.prog 16 [.agg csP0.toArray,.agg csP1.toArray,.int .i64 d2,.agg csP3.toArray].toArray w (Ret fun v w'=>Ext w w'∧∃ (cs90:List Value),v=.agg cs90.toArray∧Stb L w' (fun w=>kBuf.r w cs90 y)):=by
 obtain ⟨A1,c2,rfl,H3⟩:=kBuf_open HP0
 obtain ⟨A4,c5,A7,c8,rfl,H6,H9⟩:=kArena_open HP1
 obtain ⟨A11,c12,rfl,H13,hl10⟩:=kFrm_open HP3
 unfold push_Done_raw at h
 refine calls_ec Try.func16 rfl rfl rfl ?_
 refine ec_seq ?_
 refine ec_region ?_
 refine o_box (cs:=(cBuf d0 A1 c2)) rfl rfl rfl ?_
 intro b14 w14 e14 F14 B14
 have S14:=B14.stb (nin hL e14)
 have G15:Fr L w w14:=Fr.ext F14
 refine o_box (cs:=(cArena d1 A4 c5 A7 c8)) rfl rfl rfl ?_
 intro b16 w16 e16 F16 B16
 have S16:=B16.stb (nin (hL.fr F14) e16)
 have E17:=F14.trans F16
 have G19:Fr L w14 w16:=Fr.ext F16
 refine o_box (cs:=(cFrm d3 A11 c12)) rfl rfl rfl ?_
 intro b20 w20 e20 F20 B20
 have S20:=B20.stb (nin (hL.fr E17) e20)
 have E21:=E17.trans F20
 have G24:Fr L w16 w20:=Fr.ext F20
 refine o_alloc zero_buffer_Buffer rfl rfl rfl ?_
 intro b25 w25 e25 F25 B25
 have n25:w.heap.size≤b25:=by rw [e25]; exact E21.size
 have m26:w.heap.size≤b25:=by rw [e25]; exact ((G15.trans (Fr.ext F16)).trans (Fr.ext F20)).size
 have E30:=E21.trans F25
 have G34:Fr L w20 w25:=Fr.ext F25
 refine eo_nil_sq ?_
 iterate 2 refine ec_seq ?_
 refine ec_region ?_
 refine o_w (v:=.agg (cFrm d3 A11 c12).toArray) (r_lda agg_frame_Frame rfl (vs:=(cFrm d3 A11 c12)) rfl ((S20.fr G34 (fun _ h=>h)).now.part (n:=8) rfl)) ?_
 refine o_w (v:=.agg #[.int .i64 d3.kind,.int .i64 d3.a,.int .i64 d3.b,.int .i64 (nth d3.sums 0),.int .i64 (nth d3.sums 1),.int .i64 (nth d3.sums 2),.int .i64 (nth d3.sums 3),.slice A11 d3.entries.length c12]) (r_build bld_push_letter (vs:=[(0,.agg (cFrm d3 A11 c12).toArray)]) (cells:=[.int .i64 d3.kind,.int .i64 d3.a,.int .i64 d3.b,.int .i64 (nth d3.sums 0),.int .i64 (nth d3.sums 1),.int .i64 (nth d3.sums 2),.int .i64 (nth d3.sums 3),.slice A11 d3.entries.length c12]) rfl rfl) ?_
 refine o_alloc zero_push_letter rfl rfl rfl ?_
 intro b35 w35 e35 F35 B35
 have n35:w.heap.size≤b35:=by rw [e35]; exact E30.size
 have q36:b25<b35:=by rw [e35]; exact B25.lt
 have m37:w.heap.size≤b35:=by rw [e35]; exact (((G15.trans (Fr.ext F16)).trans (Fr.ext F20)).trans (Fr.ext F25)).size
 have m38:w14.heap.size≤b35:=by rw [e35]; exact ((G19.trans (Fr.ext F20)).trans (Fr.ext F25)).size
 have m39:w16.heap.size≤b35:=by rw [e35]; exact (G24.trans (Fr.ext F25)).size
 have E41:=E30.trans F35
 have G42:=(((G15.trans (Fr.ext F16)).trans (Fr.ext F20)).trans (Fr.ext F25)).trans (Fr.ext F35)
 refine o_store rfl B35 (vs:=[.int .i64 d3.kind,.int .i64 d3.a,.int .i64 d3.b,.int .i64 (nth d3.sums 0),.int .i64 (nth d3.sums 1),.int .i64 (nth d3.sums 2),.int .i64 (nth d3.sums 3),.slice A11 d3.entries.length c12]) rfl sz_push_letter rfl rfl rfl ?_
 intro w47 F47 B47
 have E48:=Ext.st E41 F47 (by simp; omega)
 have G49:Fr L w w47:=G42.stp F47 (upc (.inr m37) (fun m hm=>by cases hm))
 have G50:Fr L w14 w47:=(((G19.trans (Fr.ext F20)).trans (Fr.ext F25)).trans (Fr.ext F35)).stp F47 (upc (.inr m38) (fun m hm=>by cases hm))
 have G51:Fr L w16 w47:=((G24.trans (Fr.ext F25)).trans (Fr.ext F35)).stp F47 (upc (.inr m39) (fun m hm=>by cases hm))
 have B53:=(B25.ex F35).fr F47 (by simp; omega)
 have B47':Blk w47 b35 _ [.int .i64 d3.kind,.int .i64 d3.a,.int .i64 d3.b,.int .i64 (nth d3.sums 0),.int .i64 (nth d3.sums 1),.int .i64 (nth d3.sums 2),.int .i64 (nth d3.sums 3),.slice A11 d3.entries.length c12]:=B47
 refine eo_nil_sq ?_
 refine ec_seq ?_
 refine ec_region ?_
 refine o_w (v:=.agg #[.int .i64 d3.kind,.int .i64 d3.a,.int .i64 d3.b,.int .i64 (nth d3.sums 0),.int .i64 (nth d3.sums 1),.int .i64 (nth d3.sums 2),.int .i64 (nth d3.sums 3),.slice A11 d3.entries.length c12]) (r_lda agg_push_letter rfl (vs:=[.int .i64 d3.kind,.int .i64 d3.a,.int .i64 d3.b,.int .i64 (nth d3.sums 0),.int .i64 (nth d3.sums 1),.int .i64 (nth d3.sums 2),.int .i64 (nth d3.sums 3),.slice A11 d3.entries.length c12]) rfl (B47'.part (n:=8) rfl)) ?_
 obtain ⟨x54,hx54,h⟩:=h
 refine o_call cf_push_letter_is rfl (push_letter_is_c (⟨d3⟩:Ltr) (kLtr_mk (d:=(⟨d3⟩:Ltr)) (H13.up G49 (fun _ h=>h) (upc (.inr m37) (upc (.inr m26) (fun _ h=>.inl h)))) (by first | rfl | exact hl10)) (2:Int) (((hL.fr E48).cons B53.lt).cons B47'.lt) hx54) rfl rfl ?_
 rintro _ w54 ⟨F54,rfl⟩
 have E55:=E48.trans F54
 refine eo_nil_sq ?_
 refine ec_cond rfl (fun hc62=>?_) (fun hc62=>?_)
 ·replace h:=h.1 hc62
  refine ec_seq ?_
  refine ec_region ?_
  refine o_w (v:=.agg (cBuf d0 A1 c2).toArray) (r_lda agg_buffer_Buffer rfl (vs:=(cBuf d0 A1 c2)) rfl ((S14.fr (G50.trans (Fr.ext F54)) (fun _ h=>h)).now.part (n:=3) rfl)) ?_
  refine o_w (v:=.agg (cArena d1 A4 c5 A7 c8).toArray) (r_lda agg_api_Arena rfl (vs:=(cArena d1 A4 c5 A7 c8)) rfl ((S16.fr (G51.trans (Fr.ext F54)) (fun _ h=>h)).now.part (n:=3) rfl)) ?_
  refine o_w (v:=.int .i64 d2) (r_mov rfl) ?_
  refine o_w (v:=.pointer (some ⟨b35,0,none⟩)) (r_fa fld_push_letter_0 rfl rfl) ?_
  refine o_w (v:=.pointer (some ⟨b35,1,none⟩)) (r_fa fld_frame_Frame_1 rfl rfl) ?_
  refine o_w (v:=.int .i64 d3.a) (r_ld one_int rfl ((B47'.ex F54).cell rfl)) ?_
  refine o_w (v:=.pointer (some ⟨b35,0,none⟩)) (r_fa fld_push_letter_0 rfl rfl) ?_
  refine o_w (v:=.pointer (some ⟨b35,2,none⟩)) (r_fa fld_frame_Frame_2 rfl rfl) ?_
  refine o_w (v:=.int .i64 d3.b) (r_ld one_int rfl ((B47'.ex F54).cell rfl)) ?_
  obtain ⟨ha64,h⟩:=h
  obtain ⟨ha65,h⟩:=h
  obtain ⟨x63,hx63,h⟩:=h
  refine o_call cf_buffer_Ack rfl (buffer_Ack_c d0 (kBuf_mk (d:=d0) (H3.up (G49.trans (Fr.ext F54)) (fun _ h=>h) (upc (.inr m37) (upc (.inr m26) (fun _ h=>.inl h))))) d1 (kArena_mk (d:=d1) (H6.up (G49.trans (Fr.ext F54)) (fun _ h=>h) (upc (.inr m37) (upc (.inr m26) (fun _ h=>.inl h)))) (H9.up (G49.trans (Fr.ext F54)) (fun _ h=>h) (upc (.inr m37) (upc (.inr m26) (fun _ h=>.inl h))))) d2 d3.a d3.b (((hL.fr E55).cons (B53.ex F54).lt).cons (B47'.ex F54).lt) (eq_ev hx63 (bufAck_ev d0 d1 d2 d3.a d3.b ha64 ha65))) rfl rfl ?_
  rintro _ w63 ⟨F63,cs66,rfl,H67⟩
  have E68:=E55.trans F63
  obtain ⟨A75,c76,rfl,H77⟩:=kBuf_open H67
  refine o_store rfl ((B53.ex F54).ex F63) (vs:=(cBuf x63 A75 c76)) rfl sz_buffer_Buffer rfl rfl rfl ?_
  intro w78 F78 B78
  have E79:=Ext.st E68 F78 (by simp; omega)
  have G84:Fr (b35::(b25::L)) w63 w78:=(Fr.refl _ _).stp F78 (upc (.inl (List.Mem.tail _ (List.Mem.head _))) (fun m hm=>by cases hm))
  have B78':Blk w78 b25 _ (cBuf x63 A75 c76):=B78
  refine eo_nil_sq ?_
  refine ec_ret ?_
  refine sq_ret ?_
  replace h:=h.symm
  subst h
  exact (endr1 (rv_a rfl (agg_buffer_Buffer) B78' (vs:=(cBuf x63 A75 c76)) rfl rfl) ⟨_,rfl,E79,_,rfl,(kBuf_mk (d:=x63) (H77.up G84 (fun _ h=>h) (fun m hm=>Or.inl (List.Mem.tail _ (List.Mem.tail _ hm)))))⟩)
 ·replace h:=h.2 hc62
  refine ec_skip ?_
  refine sq_n ?_
  refine ec_seq ?_
  refine ec_region ?_
  refine o_w (v:=.agg (cBuf d0 A1 c2).toArray) (r_lda agg_buffer_Buffer rfl (vs:=(cBuf d0 A1 c2)) rfl ((S14.fr (G50.trans (Fr.ext F54)) (fun _ h=>h)).now.part (n:=3) rfl)) ?_
  refine o_w (v:=.agg (cArena d1 A4 c5 A7 c8).toArray) (r_lda agg_api_Arena rfl (vs:=(cArena d1 A4 c5 A7 c8)) rfl ((S16.fr (G51.trans (Fr.ext F54)) (fun _ h=>h)).now.part (n:=3) rfl)) ?_
  refine o_w (v:=.int .i64 d2) (r_mov rfl) ?_
  obtain ⟨ha87,h⟩:=h
  obtain ⟨ha88,h⟩:=h
  obtain ⟨x86,hx86,h⟩:=h
  refine o_call cf_buffer_Mend rfl (buffer_Mend_c d0 (kBuf_mk (d:=d0) (H3.up (G49.trans (Fr.ext F54)) (fun _ h=>h) (upc (.inr m37) (upc (.inr m26) (fun _ h=>.inl h))))) d1 (kArena_mk (d:=d1) (H6.up (G49.trans (Fr.ext F54)) (fun _ h=>h) (upc (.inr m37) (upc (.inr m26) (fun _ h=>.inl h)))) (H9.up (G49.trans (Fr.ext F54)) (fun _ h=>h) (upc (.inr m37) (upc (.inr m26) (fun _ h=>.inl h))))) d2 (((hL.fr E55).cons (B53.ex F54).lt).cons (B47'.ex F54).lt) (eq_ev hx86 (bufMend_ev d0 d1 d2 ha87 ha88))) rfl rfl ?_
  rintro _ w86 ⟨F86,cs89,rfl,H90⟩
  have E91:=E55.trans F86
  obtain ⟨A98,c99,rfl,H100⟩:=kBuf_open H90
  refine o_store rfl ((B53.ex F54).ex F86) (vs:=(cBuf x86 A98 c99)) rfl sz_buffer_Buffer rfl rfl rfl ?_
  intro w101 F101 B101
  have E102:=Ext.st E91 F101 (by simp; omega)
  have G107:Fr (b35::(b25::L)) w86 w101:=(Fr.refl _ _).stp F101 (upc (.inl (List.Mem.tail _ (List.Mem.head _))) (fun m hm=>by cases hm))
  have B101':Blk w101 b25 _ (cBuf x86 A98 c99):=B101
  refine eo_nil_sq ?_
  refine ec_ret ?_
  replace h:=h.symm
  subst h
  exact (endr1 (rv_a rfl (agg_buffer_Buffer) B101' (vs:=(cBuf x86 A98 c99)) rfl rfl) ⟨_,rfl,E102,_,rfl,(kBuf_mk (d:=x86) (H100.up G107 (fun _ h=>h) (fun m hm=>Or.inl (List.Mem.tail _ (List.Mem.tail _ hm)))))⟩)
end Go.Proofs.Ythfkbabgkacfnaa
