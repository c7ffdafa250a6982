/- The law BufferNotes: what it comes to. -/
import Derived.Test.YtpopikeebobjnaaFx
namespace Go.Proofs.Ytpopikeebobjnaa
open Go Go.RowKit
set_option linter.unusedVariables false
set_option linter.unusedSimpArgs false
def law16_BufferNotes_b188 (x41:Buf) (x143:Buf) (s188:Int) (z188:(Int) ⊕ ((Int) ⊕ (Bool))):Prop :=
 ((decide ((IntKind.i64.wrap (s188 + (1:Int)))<(x143.names.length:Int)))=true→((0≤s188∧s188<(x143.names.length:Int))∧((0≤(IntKind.i64.wrap (s188 + (IntKind.i64.wrap ((IntKind.i64.wrap ((x41.names.length:Int) + (1:Int))) - (x143.names.length:Int)))))∧(IntKind.i64.wrap (s188 + (IntKind.i64.wrap ((IntKind.i64.wrap ((x41.names.length:Int) + (1:Int))) - (x143.names.length:Int)))))<(x41.names.length:Int))∧(((!((((nth x143.names s188).kind)==((nth x41.names (IntKind.i64.wrap (s188 + (IntKind.i64.wrap ((IntKind.i64.wrap ((x41.names.length:Int) + (1:Int))) - (x143.names.length:Int)))))).kind))&&((((nth x143.names s188).key)==((nth x41.names (IntKind.i64.wrap (s188 + (IntKind.i64.wrap ((IntKind.i64.wrap ((x41.names.length:Int) + (1:Int))) - (x143.names.length:Int)))))).key))&&true)))=true→(z188=.inr (.inr false)))∧((!((((nth x143.names s188).kind)==((nth x41.names (IntKind.i64.wrap (s188 + (IntKind.i64.wrap ((IntKind.i64.wrap ((x41.names.length:Int) + (1:Int))) - (x143.names.length:Int)))))).kind))&&((((nth x143.names s188).key)==((nth x41.names (IntKind.i64.wrap (s188 + (IntKind.i64.wrap ((IntKind.i64.wrap ((x41.names.length:Int) + (1:Int))) - (x143.names.length:Int)))))).key))&&true)))=false→(z188=.inl (IntKind.i64.wrap (s188 + (1:Int)))))))))∧((decide ((IntKind.i64.wrap (s188 + (1:Int)))<(x143.names.length:Int)))=false→(z188=.inr (.inl s188)))
def law16_BufferNotes_raw (d0:Buf) (d1:Arena) (d2:Int) (d3:Int) (y:Bool):Prop :=
 ((!(worksV))=true→(y=false))∧((!(worksV))=false→(((!(!((fewB d0)&&(fewA d1))))=true→sma d1)∧(((((!((fewB d0)&&(fewA d1)))||((checkA d1) != (0:Int)))||((d1.slots.length:Int)==(0:Int)))=true→(y=(worksV)))∧((((!((fewB d0)&&(fewA d1)))||((checkA d1) != (0:Int)))||((d1.slots.length:Int)==(0:Int)))=false→((smB d0)∧((sma d1)∧(∃ x41,x41=(mendB d0 d1 (IntKind.i64.wrap ((Int.tmod (IntKind.i64.wrap d2) (8:Int)) + (1:Int))))∧(((d1.slots.length:Int)==(0:Int))=false∧((0≤(Int.tmod (IntKind.i64.wrap d3) (d1.slots.length:Int))∧(Int.tmod (IntKind.i64.wrap d3) (d1.slots.length:Int))<(d1.slots.length:Int))∧(((decide ((2147483600:Int)≤x41.first))=true→(y=(worksV)))∧((decide ((2147483600:Int)≤x41.first))=false→((smN d0)∧((sma d1)∧(∃ x143,x143=(noteB d0 d1 (IntKind.i64.wrap ((Int.tmod (IntKind.i64.wrap d2) (8:Int)) + (1:Int))) (nth d1.slots (Int.tmod (IntKind.i64.wrap d3) (d1.slots.length:Int))))∧(((((((decide ((IntKind.i64.wrap ((IntKind.i64.wrap ((x41.names.length:Int) + (1:Int))) - (x143.names.length:Int)))<(0:Int)))||(decide ((1:Int)<(IntKind.i64.wrap ((IntKind.i64.wrap ((x41.names.length:Int) + (1:Int))) - (x143.names.length:Int))))))||(x143.first != (IntKind.i64.wrap (x41.first + (IntKind.i64.wrap ((IntKind.i64.wrap ((x41.names.length:Int) + (1:Int))) - (x143.names.length:Int)))))))||(x143.epoch != x41.epoch))||(decide ((x143.names.length:Int)<(1:Int))))=true→(y=false))∧((((((decide ((IntKind.i64.wrap ((IntKind.i64.wrap ((x41.names.length:Int) + (1:Int))) - (x143.names.length:Int)))<(0:Int)))||(decide ((1:Int)<(IntKind.i64.wrap ((IntKind.i64.wrap ((x41.names.length:Int) + (1:Int))) - (x143.names.length:Int))))))||(x143.first != (IntKind.i64.wrap (x41.first + (IntKind.i64.wrap ((IntKind.i64.wrap ((x41.names.length:Int) + (1:Int))) - (x143.names.length:Int)))))))||(x143.epoch != x41.epoch))||(decide ((x143.names.length:Int)<(1:Int))))=false→(∃ x188,LoopR (law16_BufferNotes_b188 x41 x143) (0:Int) x188∧(∀ sx188,x188=.inl sx188→((0≤(IntKind.i64.wrap ((x143.names.length:Int) - (1:Int)))∧(IntKind.i64.wrap ((x143.names.length:Int) - (1:Int)))<(x143.names.length:Int))∧(y=(((((nth x143.names (IntKind.i64.wrap ((x143.names.length:Int) - (1:Int)))).kind)==(((nth d1.slots (Int.tmod (IntKind.i64.wrap d3) (d1.slots.length:Int))).val).kind))&&((((nth x143.names (IntKind.i64.wrap ((x143.names.length:Int) - (1:Int)))).key)==((nth d1.slots (Int.tmod (IntKind.i64.wrap d3) (d1.slots.length:Int))).key))&&true))&&(((IntKind.i64.wrap ((IntKind.i64.wrap ((x41.names.length:Int) + (1:Int))) - (x143.names.length:Int)))==(1:Int))==((x41.names.length:Int)==(IntKind.i64.wrap ((Int.tmod (IntKind.i64.wrap d2) (8:Int)) + (1:Int)))))))))∧(∀ y188,x188=.inr y188→(y=y188)))))))))))))))))))
set_option maxRecDepth 20000 in
set_option maxHeartbeats 4000000 in
theorem law16_BufferNotes_c {L:List Nat} {w:World} {csP0:List Value} (d0:Buf) (HP0:Stb L w (fun w=>kBuf.r w csP0 d0)) {csP1:List Value} (d1:Arena) (HP1:Stb L w (fun w=>kArena.r w csP1 d1)) (d2:Int) (d3:Int) (hL:Lt L w) {y:Bool} (h:law16_BufferNotes_raw d0 d1 d2 d3 y) :
  Calls Try.prog 5 [.agg csP0.toArray,.agg csP1.toArray,.int .u8 d2,.int .u8 d3].toArray w (Ret fun v w'=>Ext w w'∧v=.bool y):=by
 obtain ⟨A1,c2,rfl,H3⟩:=kBuf_open HP0
 obtain ⟨A4,c5,A7,c8,rfl,H6,H9⟩:=kArena_open HP1
 unfold law16_BufferNotes_raw at h
 refine calls_ec Try.func5 rfl rfl rfl ?_
 refine ec_seq ?_
 refine ec_region ?_
 refine o_box (cs:=(cBuf d0 A1 c2)) rfl rfl rfl ?_
 intro b10 w10 e10 F10 B10
 have S10:=B10.stb (nin hL e10)
 have G11:Fr L w w10:=Fr.ext F10
 refine o_box (cs:=(cArena d1 A4 c5 A7 c8)) rfl rfl rfl ?_
 intro b12 w12 e12 F12 B12
 have S12:=B12.stb (nin (hL.fr F10) e12)
 have E13:=F10.trans F12
 have G15:Fr L w10 w12:=Fr.ext F12
 refine o_w (v:=.bool false) (r_asg rfl) ?_
 refine eo_nil_sq ?_
 refine ec_seq ?_
 refine ec_region ?_
 refine o_call cf_law16_works rfl (law16_works_c (hL.fr E13) (works16_ev)) rfl rfl ?_
 rintro _ w16 ⟨F16,rfl⟩
 have E17:=E13.trans F16
 have G20:Fr L w12 w16:=Fr.ext F16
 refine o_w (v:=.bool (worksV)) (r_asg rfl) ?_
 refine eo_nil_sq ?_
 iterate 2 refine ec_seq ?_
 refine ec_region ?_
 refine o_w (v:=.bool (worksV)) (r_mov rfl) ?_
 refine o_w (v:=.bool (!(worksV))) (r_not rfl) ?_
 refine eo_nil_sq ?_
 refine ec_cond rfl (fun hc21=>?_) (fun hc21=>?_)
 ·replace h:=h.1 hc21
  refine ec_seq ?_
  refine ec_region ?_
  refine o_w (v:=.bool false) (r_asg rfl) ?_
  refine eo_nil_sq ?_
  refine ec_ret ?_
  refine sq_ret ?_
  subst h
  exact (end1 rfl ⟨_,rfl,E17,rfl⟩)
 ·replace h:=h.2 hc21
  refine ec_skip ?_
  refine sq_n ?_
  refine ec_seq ?_
  refine ec_region ?_
  refine o_w (v:=.agg (cBuf d0 A1 c2).toArray) (r_lda agg_buffer_Buffer rfl (vs:=(cBuf d0 A1 c2)) rfl ((S10.fr (G15.trans (Fr.ext F16)) (fun _ h=>h)).now.part (n:=3) rfl)) ?_
  refine o_call cf_law16_Few rfl (law16_Few_c d0 (kBuf_mk (d:=d0) (H3.fr ((G11.trans (Fr.ext F12)).trans (Fr.ext F16)) (fun _ h=>h))) (hL.fr E17) (fewB_ev d0)) rfl rfl ?_
  rintro _ w23 ⟨F23,rfl⟩
  have E24:=E17.trans F23
  refine o_w (v:=.bool (fewB d0)) (r_mov rfl) ?_
  refine o_vg (v:=.agg (cArena d1 A4 c5 A7 c8).toArray) (want_ct (t:=22) rfl rfl) (fun hk=>(r_lda agg_api_Arena rfl (vs:=(cArena d1 A4 c5 A7 c8)) rfl ((S12.fr (G20.trans (Fr.ext F23)) (fun _ h=>h)).now.part (n:=3) rfl))) rfl rfl ?_
  refine o_callg (V:=.bool (fewA d1)) cf_law08_Few (want_ct (t:=22) rfl rfl) (fun hk=>(mapv1 (gdT hk))) (fun hk=>(law08_Few_c d1 (kArena_mk (d:=d1) (H6.fr (((G11.trans (Fr.ext F12)).trans (Fr.ext F16)).trans (Fr.ext F23)) (fun _ h=>h)) (H9.fr (((G11.trans (Fr.ext F12)).trans (Fr.ext F16)).trans (Fr.ext F23)) (fun _ h=>h))) (hL.fr E24) (fewA_ev d1))) rfl ?_
  intro w28 F28
  have E29:=E24.trans F28
  have G30:=(((G11.trans (Fr.ext F12)).trans (Fr.ext F16)).trans (Fr.ext F23)).trans (Fr.ext F28)
  refine o_w (v:=.bool ((fewB d0)&&(fewA d1))) (r_pickAnd rfl (fun ht=>(gdT ht)) rfl) ?_
  refine o_w (v:=.bool ((fewB d0)&&(fewA d1))) (r_asg rfl) ?_
  refine eo_nil_sq ?_
  refine ec_seq ?_
  refine ec_region ?_
  refine o_w (v:=.int .u8 d2) (r_mov rfl) ?_
  refine o_w (v:=.int .i64 (IntKind.i64.wrap d2)) (r_conv un_uint8 un_int rfl) ?_
  refine o_w (v:=.int .i64 (Int.tmod (IntKind.i64.wrap d2) (8:Int))) (r_rem rfl rfl rfl) ?_
  refine o_w (v:=.int .i64 (IntKind.i64.wrap ((Int.tmod (IntKind.i64.wrap d2) (8:Int)) + (1:Int)))) (r_int rfl rfl rfl) ?_
  refine o_w (v:=.int .i64 (IntKind.i64.wrap ((Int.tmod (IntKind.i64.wrap d2) (8:Int)) + (1:Int)))) (r_asg rfl) ?_
  refine eo_nil_sq ?_
  iterate 2 refine ec_seq ?_
  refine ec_region ?_
  refine o_w (v:=.bool ((fewB d0)&&(fewA d1))) (r_mov rfl) ?_
  refine o_w (v:=.bool (!((fewB d0)&&(fewA d1)))) (r_not rfl) ?_
  refine o_w (v:=.bool (!((fewB d0)&&(fewA d1)))) (r_mov rfl) ?_
  refine o_vg (v:=.agg (cArena d1 A4 c5 A7 c8).toArray) (want_cf (t:=32) rfl rfl) (fun hk=>(r_lda agg_api_Arena rfl (vs:=(cArena d1 A4 c5 A7 c8)) rfl ((S12.fr ((G20.trans (Fr.ext F23)).trans (Fr.ext F28)) (fun _ h=>h)).now.part (n:=3) rfl))) rfl rfl ?_
  obtain ⟨ha35,h⟩:=h
  refine o_callg (V:=.int .i64 (checkA d1)) cf_arena_Check (want_cf (t:=32) rfl rfl) (fun hk=>(mapv1 (gdT hk))) (fun hk=>(arena_Check_c d1 (kArena_mk (d:=d1) (H6.fr G30 (fun _ h=>h)) (H9.fr G30 (fun _ h=>h))) (hL.fr E29) (arCheck_ev d1 (ha35 hk)))) rfl ?_
  intro w34 F34
  have E36:=E29.trans F34
  have G38:=(((G15.trans (Fr.ext F16)).trans (Fr.ext F23)).trans (Fr.ext F28)).trans (Fr.ext F34)
  refine o_vg (v:=.bool ((checkA d1) != (0:Int))) (want_cf (t:=32) rfl rfl) (fun hk=>(r_int (gdT hk) rfl rfl)) rfl rfl ?_
  refine o_w (v:=.bool ((!((fewB d0)&&(fewA d1)))||((checkA d1) != (0:Int)))) (r_pickOr rfl rfl (fun hf=>(gdT (notT hf)))) ?_
  refine o_w (v:=.bool ((!((fewB d0)&&(fewA d1)))||((checkA d1) != (0:Int)))) (r_mov rfl) ?_
  refine o_vg (v:=.pointer (some ⟨b12,1,none⟩)) (want_cf (t:=37) rfl rfl) (fun hk=>(r_fa fld_api_Arena_1 rfl rfl)) rfl rfl ?_
  refine o_vg (v:=.slice A4 d1.slots.length c5) (want_cf (t:=37) rfl rfl) (fun hk=>(r_ld one_s_api_Entry (gdT hk) ((S12.fr (((G20.trans (Fr.ext F23)).trans (Fr.ext F28)).trans (Fr.ext F34)) (fun _ h=>h)).now.cell rfl))) rfl rfl ?_
  refine o_vg (v:=.int .i64 (d1.slots.length:Int)) (want_cf (t:=37) rfl rfl) (fun hk=>(r_len_slc un_s_api_Entry (gdT hk))) rfl rfl ?_
  refine o_vg (v:=.bool ((d1.slots.length:Int)==(0:Int))) (want_cf (t:=37) rfl rfl) (fun hk=>(r_int (gdT hk) rfl rfl)) rfl rfl ?_
  refine o_w (v:=.bool (((!((fewB d0)&&(fewA d1)))||((checkA d1) != (0:Int)))||((d1.slots.length:Int)==(0:Int)))) (r_pickOr rfl rfl (fun hf=>(gdT (notT hf)))) ?_
  refine eo_nil_sq ?_
  refine ec_cond rfl (fun hc40=>?_) (fun hc40=>?_)
  ·replace h:=h.1 hc40
   refine ec_seq ?_
   refine ec_region ?_
   refine o_w (v:=.bool (worksV)) (r_mov rfl) ?_
   refine o_w (v:=.bool (worksV)) (r_asg rfl) ?_
   refine eo_nil_sq ?_
   refine ec_ret ?_
   refine sq_ret ?_
   subst h
   exact (end1 rfl ⟨_,rfl,E36,rfl⟩)
  ·replace h:=h.2 hc40
   refine ec_skip ?_
   refine sq_n ?_
   refine ec_seq ?_
   refine ec_region ?_
   refine o_w (v:=.agg (cBuf d0 A1 c2).toArray) (r_lda agg_buffer_Buffer rfl (vs:=(cBuf d0 A1 c2)) rfl ((S10.fr G38 (fun _ h=>h)).now.part (n:=3) rfl)) ?_
   refine o_w (v:=.agg (cArena d1 A4 c5 A7 c8).toArray) (r_lda agg_api_Arena rfl (vs:=(cArena d1 A4 c5 A7 c8)) rfl ((S12.fr (((G20.trans (Fr.ext F23)).trans (Fr.ext F28)).trans (Fr.ext F34)) (fun _ h=>h)).now.part (n:=3) rfl)) ?_
   refine o_w (v:=.int .i64 (IntKind.i64.wrap ((Int.tmod (IntKind.i64.wrap d2) (8:Int)) + (1:Int)))) (r_mov rfl) ?_
   obtain ⟨ha42,h⟩:=h
   obtain ⟨ha43,h⟩:=h
   obtain ⟨x41,hx41,h⟩:=h
   refine o_call cf_buffer_Mend rfl (buffer_Mend_c d0 (kBuf_mk (d:=d0) (H3.fr (G30.trans (Fr.ext F34)) (fun _ h=>h))) d1 (kArena_mk (d:=d1) (H6.fr (G30.trans (Fr.ext F34)) (fun _ h=>h)) (H9.fr (G30.trans (Fr.ext F34)) (fun _ h=>h))) (IntKind.i64.wrap ((Int.tmod (IntKind.i64.wrap d2) (8:Int)) + (1:Int))) (hL.fr E36) (eq_ev hx41 (bufMend_ev d0 d1 (IntKind.i64.wrap ((Int.tmod (IntKind.i64.wrap d2) (8:Int)) + (1:Int))) ha42 ha43))) rfl rfl ?_
   rintro _ w41 ⟨F41,cs44,rfl,H45⟩
   have E46:=E36.trans F41
   have G49:=(((G20.trans (Fr.ext F23)).trans (Fr.ext F28)).trans (Fr.ext F34)).trans (Fr.ext F41)
   obtain ⟨A50,c51,rfl,H52⟩:=kBuf_open H45
   refine o_alloc zero_buffer_Buffer rfl rfl rfl ?_
   intro b53 w53 e53 F53 B53
   have n53:w.heap.size≤b53:=by rw [e53]; exact E46.size
   have m54:w.heap.size≤b53:=by rw [e53]; exact ((G30.trans (Fr.ext F34)).trans (Fr.ext F41)).size
   have m55:w10.heap.size≤b53:=by rw [e53]; exact (G38.trans (Fr.ext F41)).size
   have m56:w12.heap.size≤b53:=by rw [e53]; exact G49.size
   have m57:w41.heap.size≤b53:=Nat.le_of_eq e53.symm
   have E58:=E46.trans F53
   have G62:Fr L w41 w53:=Fr.ext F53
   refine o_store rfl B53 (vs:=(cBuf x41 A50 c51)) rfl sz_buffer_Buffer rfl rfl rfl ?_
   intro w63 F63 B63
   have E64:=Ext.st E58 F63 (by simp; omega)
   have G65:Fr L w w63:=(((G30.trans (Fr.ext F34)).trans (Fr.ext F41)).trans (Fr.ext F53)).stp F63 (upc (.inr m54) (fun m hm=>by cases hm))
   have G66:Fr L w10 w63:=((G38.trans (Fr.ext F41)).trans (Fr.ext F53)).stp F63 (upc (.inr m55) (fun m hm=>by cases hm))
   have G67:Fr L w12 w63:=(G49.trans (Fr.ext F53)).stp F63 (upc (.inr m56) (fun m hm=>by cases hm))
   have G68:Fr L w41 w63:=G62.stp F63 (upc (.inr m57) (fun m hm=>by cases hm))
   have B63':Blk w63 b53 _ (cBuf x41 A50 c51):=B63
   refine eo_nil_sq ?_
   refine ec_seq ?_
   obtain ⟨ha82,h⟩:=h
   obtain ⟨ha83,h⟩:=h
   obtain ⟨cs84,l86,H85⟩:=Stb.elem (by decide) (H6.up G65 (fun _ h=>h) (upc (.inr m54) (fun _ h=>.inl h))) (Int.tmod (IntKind.i64.wrap d3) (d1.slots.length:Int)) ha83.1 ha83.2
   obtain ⟨A88,c89,A91,c92,rfl,H87,H90,H93⟩:=kEnt_open2 H85
   refine ec_anyGN (by kernel_rfl) [[],[0],[],[2],[],[4],[4,5],[2,3,4,5,6],[0,1,2,3,4,5,6,7],[0,1,2,3,4,5,6,7,8],[],[0,1,2,3,4,5,6,7,8,9,10]] [13,48,49,50,51,52,53,54,55,56,57] [] [11] 10 0 (fun g w=>∀ b,g=gOf b→Blk w b 33 [str ([]:Str),.int .i64 (0:Int),.int .i64 (0:Int),.int .i64 (0:Int),.bool false,str ([]:Str),.slice none ([]:List Int).length 0,.slice none ([]:List Int).length 0,.int .u64 (0:Int)]) (fun g81=>[own g81]) [[11]] (fun g81=>[fun w'=>(∀ b,g81=gOf b→Blk w' b 33 [str ([]:Str),.int .i64 (0:Int),.int .i64 (0:Int),.int .i64 (0:Int),.bool false,str ([]:Str),.slice none ([]:List Int).length 0,.slice none ([]:List Int).length 0,.int .u64 (0:Int)]),fun w'=>(∀ b,g81=gOf b→Blk w' b 33 (cEnt (nth d1.slots (Int.tmod (IntKind.i64.wrap d3) (d1.slots.length:Int))) A88 c89 A91 c92))]) (fun g81=>[fun v _=>v=(.pointer (some ⟨b12,1,none⟩):Value),fun v _=>v=(.slice A4 d1.slots.length c5:Value),fun v _=>v=(.int .u8 d3:Value),fun v _=>v=(.int .i64 (IntKind.i64.wrap d3):Value),fun v _=>v=(.pointer (some ⟨b12,1,none⟩):Value),fun v _=>v=(.slice A4 d1.slots.length c5:Value),fun v _=>v=(.int .i64 (d1.slots.length:Int):Value),fun v _=>v=(.int .i64 (Int.tmod (IntKind.i64.wrap d3) (d1.slots.length:Int)):Value),fun v _=>v=(.pointer (some (elemA A4 kEnt.n (Int.tmod (IntKind.i64.wrap d3) (d1.slots.length:Int)).toNat)):Value),fun v _=>v=(.agg (cEnt (nth d1.slots (Int.tmod (IntKind.i64.wrap d3) (d1.slots.length:Int))) A88 c89 A91 c92).toArray:Value),fun v w'=>∃ b81_10,v=(.pointer (some ⟨b81_10,0,none⟩):Value)∧g81=gOf b81_10∧w63.heap.size≤b81_10,fun _ _=>True]) (by kernel_rfl) (fun _=>rfl) (fun _=>rfl) (fun g81=>(allM1 (φ:=fun M=>∀ m∈M,m∈[]∨m∈own g81) (fun m hm=>.inr hm) (fun _ h=>by cases h))) (fun g81=>⟨fun _ _ _ _ _ h=>h,fun _ _ _ _ _ h=>h,fun _ _ _ _ _ h=>h,fun _ _ _ _ _ h=>h,fun _ _ _ _ _ h=>h,fun _ _ _ _ _ h=>h,fun _ _ _ _ _ h=>h,fun _ _ _ _ _ h=>h,fun _ _ _ _ _ h=>h,fun _ _ _ _ _ h=>h,fun _ v w' w'' F h=>by obtain ⟨b81_10,hv,heb81_10,lob81_10⟩:=h; exact ⟨b81_10,hv,heb81_10,lob81_10⟩,fun _ _ _ _ _ h=>h,trivial⟩) (fun g81=>⟨⟨fun _ _ _ _ _ _ h=>h,fun _ _ _ _ _ _ h=>h,fun _ _ _ _ _ _ h=>h,fun _ _ _ _ _ _ h=>h,fun _ _ _ _ _ _ h=>h,fun _ _ _ _ _ _ h=>h,fun _ _ _ _ _ _ h=>h,fun _ _ _ _ _ _ h=>h,fun _ _ _ _ _ _ h=>h,fun _ _ _ _ _ _ h=>h,fun _ v w' w'' hg81 F h=>by obtain ⟨b81_10,hv,heb81_10,lob81_10⟩:=h; exact ⟨b81_10,hv,heb81_10,lob81_10⟩,(fun h=>absurd h (by decide)),trivial⟩,trivial⟩) (fun g w hw hg=>⟨fun _ _ _ _ h=>h,fun _ _ _ _ h=>h,fun _ _ _ _ h=>h,fun _ _ _ _ h=>h,fun _ _ _ _ h=>h,fun _ _ _ _ h=>h,fun _ _ _ _ h=>h,fun _ _ _ _ h=>h,fun _ _ _ _ h=>h,fun _ _ _ _ h=>h,(fun h=>absurd h (by decide)),fun _ _ _ _ h=>h,trivial⟩) (fun g81=>⟨fun w' w'' F h=>by have hG81:=h; exact (fun b e=>(hG81 b e).ex F),fun w' w'' F h=>by have hG81:=h; exact (fun b e=>(hG81 b e).ex F),trivial⟩) (fun b e=>absurd e gNil_ne) (fun k hk g w w' hw hg F hX hI=>match k,hk,hI with | 0,_,hI=>by have hG81:=hI; exact hX | k + 1,hk,_=>absurd hk (by omega)) ?_ ?_ ?_ ?_
   ·refine ⟨?_,?_,?_,?_,?_,?_,?_,?_,?_,?_,?_,?_,trivial⟩
    ·intro _ _ g81 ρ w81o hg81 F81o hX hS hρ
     have F81o:=hX 11 rfl rfl
     have q5:ρ 5=.pointer (some ⟨b12,0,none⟩):=hρ 5 (by kernel_rfl)
     exact o_q (r_fa fld_api_Arena_1 rfl q5) ⟨Fr.refl _ _,rfl⟩
    ·intro _ _ g81 ρ w81o hg81 F81o hX hS hρ
     have F81o:=hX 11 rfl rfl
     have q48:ρ 48=.pointer (some ⟨b12,1,none⟩):=hS 0 (by decide) 48 rfl
     exact o_q (r_ld one_s_api_Entry q48 ((S12.fr (G67.trans (Fr.ext F81o)) (fun _ h=>h)).now.cell rfl)) ⟨Fr.refl _ _,rfl⟩
    ·intro _ _ g81 ρ w81o hg81 F81o hX hS hρ
     have F81o:=hX 11 rfl rfl
     have q3:ρ 3=.int .u8 d3:=hρ 3 (by kernel_rfl)
     exact o_q (r_mov q3) ⟨Fr.refl _ _,rfl⟩
    ·intro _ _ g81 ρ w81o hg81 F81o hX hS hρ
     have F81o:=hX 11 rfl rfl
     have q50:ρ 50=.int .u8 d3:=hS 2 (by decide) 50 rfl
     exact o_q (r_conv un_uint8 un_int q50) ⟨Fr.refl _ _,rfl⟩
    ·intro _ _ g81 ρ w81o hg81 F81o hX hS hρ
     have F81o:=hX 11 rfl rfl
     have q5:ρ 5=.pointer (some ⟨b12,0,none⟩):=hρ 5 (by kernel_rfl)
     exact o_q (r_fa fld_api_Arena_1 rfl q5) ⟨Fr.refl _ _,rfl⟩
    ·intro _ _ g81 ρ w81o hg81 F81o hX hS hρ
     have F81o:=hX 11 rfl rfl
     have q52:ρ 52=.pointer (some ⟨b12,1,none⟩):=hS 4 (by decide) 52 rfl
     exact o_q (r_ld one_s_api_Entry q52 ((S12.fr (G67.trans (Fr.ext F81o)) (fun _ h=>h)).now.cell rfl)) ⟨Fr.refl _ _,rfl⟩
    ·intro _ _ g81 ρ w81o hg81 F81o hX hS hρ
     have F81o:=hX 11 rfl rfl
     have q53:ρ 53=.slice A4 d1.slots.length c5:=hS 5 (by decide) 53 rfl
     exact o_q (r_len_slc un_s_api_Entry q53) ⟨Fr.refl _ _,rfl⟩
    ·intro _ _ g81 ρ w81o hg81 F81o hX hS hρ
     have F81o:=hX 11 rfl rfl
     have q51:ρ 51=.int .i64 (IntKind.i64.wrap d3):=hS 3 (by decide) 51 rfl
     have q54:ρ 54=.int .i64 (d1.slots.length:Int):=hS 6 (by decide) 54 rfl
     exact o_q (r_rem q51 q54 ha82) ⟨Fr.refl _ _,rfl⟩
    ·intro _ _ g81 ρ w81o hg81 F81o hX hS hρ
     have F81o:=hX 11 rfl rfl
     have q49:ρ 49=.slice A4 d1.slots.length c5:=hS 1 (by decide) 49 rfl
     have q55:ρ 55=.int .i64 (Int.tmod (IntKind.i64.wrap d3) (d1.slots.length:Int)):=hS 7 (by decide) 55 rfl
     exact o_q (r_ia slc_s_api_Entry q49 q55 ((H6.fr (G65.trans (Fr.ext F81o)) (fun _ h=>h)).now.2 _ (lt_toNat ha83.1 ha83.2)).1 ha83.1 ha83.2) ⟨Fr.refl _ _,rfl⟩
    ·intro _ _ g81 ρ w81o hg81 F81o hX hS hρ
     have F81o:=hX 11 rfl rfl
     have G120:Fr (b53::L) w63 w81o:=Fr.ext F81o
     have q56:ρ 56=.pointer (some (elemA A4 kEnt.n (Int.tmod (IntKind.i64.wrap d3) (d1.slots.length:Int)).toNat)):=hS 8 (by decide) 56 rfl
     exact o_q (r_lda' agg_api_Entry q56 (elemA_spot _ _ _) (vs:=(cEnt (nth d1.slots (Int.tmod (IntKind.i64.wrap d3) (d1.slots.length:Int))) A88 c89 A91 c92)) rfl ((H87.fr G120 (fun _ h=>h)).now.1)) ⟨Fr.refl _ _,rfl⟩
    ·intro _ hT; exact absurd hT (by decide)
    ·intro hT; exact absurd hT (by decide)
   ·intro o ho ρ w81o F81o hX hS hρ; cases Option.some.inj ho; refine o_alloc zero_api_Entry rfl rfl rfl ?_; intro b w' e F B; subst e
    exact eo_nil ⟨rfl,rfl,_,rfl,F,gOf _,(fun m hm=>by rw [own_gOf,List.mem_singleton] at hm; subst hm; exact ⟨Nat.le_refl _,B.lt⟩),(fun b e=>by obtain rfl:=gOf_inj e; exact B),_,rfl,rfl,F81o.size⟩
   ·refine ⟨⟨_,rfl,?_⟩,trivial⟩
    ·intro g81 ρ w81o hg81 F81o hX hI hS hρ
     have hG81:=hI
     obtain ⟨b81_10,q13,heb81_10,lob81_10⟩:=hS 10 (by decide) 13 rfl
     have q57:ρ 57=.agg (cEnt (nth d1.slots (Int.tmod (IntKind.i64.wrap d3) (d1.slots.length:Int))) A88 c89 A91 c92).toArray:=hS 9 (by decide) 57 rfl
     subst heb81_10
     have hB81_b81_10:=hG81 _ rfl
     refine o_store (show ev ρ _=_ from q13) hB81_b81_10 (vs:=[str ((nth d1.slots (Int.tmod (IntKind.i64.wrap d3) (d1.slots.length:Int))).key),.int .i64 (((nth d1.slots (Int.tmod (IntKind.i64.wrap d3) (d1.slots.length:Int))).val).kind),.int .i64 (((nth d1.slots (Int.tmod (IntKind.i64.wrap d3) (d1.slots.length:Int))).val).time),.int .i64 (((nth d1.slots (Int.tmod (IntKind.i64.wrap d3) (d1.slots.length:Int))).val).node),.bool (((nth d1.slots (Int.tmod (IntKind.i64.wrap d3) (d1.slots.length:Int))).val).dead),str (((nth d1.slots (Int.tmod (IntKind.i64.wrap d3) (d1.slots.length:Int))).val).text),.slice A88 (((nth d1.slots (Int.tmod (IntKind.i64.wrap d3) (d1.slots.length:Int))).val).plus).length c89,.slice A91 (((nth d1.slots (Int.tmod (IntKind.i64.wrap d3) (d1.slots.length:Int))).val).minus).length c92,.int .u64 (((nth d1.slots (Int.tmod (IntKind.i64.wrap d3) (d1.slots.length:Int))).val).flags)]) (congrArg Value.cells q57) sz_api_Entry rfl rfl rfl ?_
     intro w' F B2
     exact eo_nil ⟨rfl,rfl,undef,rfl,F,(fun b e=>by obtain rfl:=gOf_inj e; exact B2),trivial⟩
   ·intro g81 ρ w81 hg81 F81 hI hS hρ
    have hG81:=hI
    obtain ⟨b81_10,q13,heb81_10,lob81_10⟩:=hS 10 13 rfl
    subst heb81_10
    have hB81_b81_10:=hG81 _ rfl
    obtain ⟨ρ',rfl⟩:∃ ρ',ρ=envs (ovr [13,48,49,50,51,52,53,54,55,56,57] ρ' _) [(13,.pointer (some ⟨b81_10,0,none⟩))]:=⟨ρ,ovr_self hρ ⟨q13,trivial⟩⟩
    have n81_10:w.heap.size≤b81_10:=Nat.le_trans E64.size lob81_10
    have q129:b53<b81_10:=Nat.lt_of_lt_of_le B63'.lt lob81_10
    have m130:w.heap.size≤b81_10:=Nat.le_trans G65.size lob81_10
    have m133:w41.heap.size≤b81_10:=Nat.le_trans G68.size lob81_10
    have m134:w63.heap.size≤b81_10:=lob81_10
    have E135:=E64.trans F81
    have G140:Fr (b53::L) w63 w81:=Fr.ext F81
    refine sq_n ?_
    iterate 2 refine ec_seq ?_
    refine ec_region ?_
    refine o_w (v:=.pointer (some ⟨b53,1,none⟩)) (r_fa fld_buffer_Buffer_1 rfl rfl) ?_
    refine o_w (v:=.int .i64 x41.first) (r_ld one_int rfl ((B63'.ex F81).cell rfl)) ?_
    refine o_w (v:=.bool (decide ((2147483600:Int)≤x41.first))) (r_int rfl rfl rfl) ?_
    refine eo_nil_sq ?_
    refine ec_cond rfl (fun hc142=>?_) (fun hc142=>?_)
    ·replace h:=h.1 hc142
     refine ec_seq ?_
     refine ec_region ?_
     refine o_w (v:=.bool (worksV)) (r_mov rfl) ?_
     refine o_w (v:=.bool (worksV)) (r_asg rfl) ?_
     refine eo_nil_sq ?_
     refine ec_ret ?_
     refine sq_ret ?_
     subst h
     exact (end1 rfl ⟨_,rfl,E135,rfl⟩)
    ·replace h:=h.2 hc142
     refine ec_skip ?_
     refine sq_n ?_
     refine ec_seq ?_
     refine ec_region ?_
     refine o_w (v:=.agg (cBuf d0 A1 c2).toArray) (r_lda agg_buffer_Buffer rfl (vs:=(cBuf d0 A1 c2)) rfl ((S10.fr (G66.trans (Fr.ext F81)) (fun _ h=>h)).now.part (n:=3) rfl)) ?_
     refine o_w (v:=.agg (cArena d1 A4 c5 A7 c8).toArray) (r_lda agg_api_Arena rfl (vs:=(cArena d1 A4 c5 A7 c8)) rfl ((S12.fr (G67.trans (Fr.ext F81)) (fun _ h=>h)).now.part (n:=3) rfl)) ?_
     refine o_w (v:=.int .i64 (IntKind.i64.wrap ((Int.tmod (IntKind.i64.wrap d2) (8:Int)) + (1:Int)))) (r_mov rfl) ?_
     refine o_w (v:=.agg (cEnt (nth d1.slots (Int.tmod (IntKind.i64.wrap d3) (d1.slots.length:Int))) A88 c89 A91 c92).toArray) (r_lda agg_api_Entry rfl (vs:=(cEnt (nth d1.slots (Int.tmod (IntKind.i64.wrap d3) (d1.slots.length:Int))) A88 c89 A91 c92)) rfl (hB81_b81_10.part (n:=9) rfl)) ?_
     obtain ⟨ha144,h⟩:=h
     obtain ⟨ha145,h⟩:=h
     obtain ⟨x143,hx143,h⟩:=h
     refine o_call cf_buffer_Note rfl (buffer_Note_c d0 (kBuf_mk (d:=d0) (H3.up (G65.trans (Fr.ext F81)) (fun _ h=>h) (upc (.inr m130) (upc (.inr m54) (fun _ h=>.inl h))))) d1 (kArena_mk (d:=d1) (H6.up (G65.trans (Fr.ext F81)) (fun _ h=>h) (upc (.inr m130) (upc (.inr m54) (fun _ h=>.inl h)))) (H9.up (G65.trans (Fr.ext F81)) (fun _ h=>h) (upc (.inr m130) (upc (.inr m54) (fun _ h=>.inl h))))) (IntKind.i64.wrap ((Int.tmod (IntKind.i64.wrap d2) (8:Int)) + (1:Int))) (nth d1.slots (Int.tmod (IntKind.i64.wrap d3) (d1.slots.length:Int))) (kEnt_mk (d:=(nth d1.slots (Int.tmod (IntKind.i64.wrap d3) (d1.slots.length:Int)))) (H90.up G140 (fun _ h=>h) (upc (.inr m134) (upc (.inl (List.Mem.head _)) (fun m hm=>Or.inl (List.Mem.tail _ hm))))) (H93.up G140 (fun _ h=>h) (upc (.inr m134) (upc (.inl (List.Mem.head _)) (fun m hm=>Or.inl (List.Mem.tail _ hm)))))) (((hL.fr E135).cons (B63'.ex F81).lt).cons hB81_b81_10.lt) (eq_ev hx143 (bufNote_ev d0 d1 (IntKind.i64.wrap ((Int.tmod (IntKind.i64.wrap d2) (8:Int)) + (1:Int))) (nth d1.slots (Int.tmod (IntKind.i64.wrap d3) (d1.slots.length:Int))) ha144 ha145))) rfl rfl ?_
     rintro _ w143 ⟨F143,cs146,rfl,H147⟩
     have E148:=E135.trans F143
     obtain ⟨A156,c157,rfl,H158⟩:=kBuf_open H147
     refine o_alloc zero_buffer_Buffer rfl rfl rfl ?_
     intro b159 w159 e159 F159 B159
     have n159:w.heap.size≤b159:=by rw [e159]; exact E148.size
     have q160:b53<b159:=by rw [e159]; exact ((B63'.ex F81).ex F143).lt
     have q161:b81_10<b159:=by rw [e159]; exact (hB81_b81_10.ex F143).lt
     have m165:w41.heap.size≤b159:=by rw [e159]; exact ((G68.trans (Fr.ext F81)).trans (Fr.ext F143)).size
     have m167:w143.heap.size≤b159:=Nat.le_of_eq e159.symm
     have E168:=E148.trans F159
     have G174:Fr (b81_10::(b53::L)) w143 w159:=Fr.ext F159
     refine o_store rfl B159 (vs:=(cBuf x143 A156 c157)) rfl sz_buffer_Buffer rfl rfl rfl ?_
     intro w177 F177 B177
     have E178:=Ext.st E168 F177 (by simp; omega)
     have G182:Fr L w41 w177:=(((G68.trans (Fr.ext F81)).trans (Fr.ext F143)).trans (Fr.ext F159)).stp F177 (upc (.inr m165) (fun m hm=>by cases hm))
     have G184:Fr (b81_10::(b53::L)) w143 w177:=G174.stp F177 (upc (.inr m167) (fun m hm=>by cases hm))
     have B185:=(((B63'.ex F81).ex F143).ex F159).fr F177 (by simp; omega)
     have B186:=((hB81_b81_10.ex F143).ex F159).fr F177 (by simp; omega)
     have B177':Blk w177 b159 _ (cBuf x143 A156 c157):=B177
     refine eo_nil_sq ?_
     refine ec_seq ?_
     refine ec_region ?_
     refine o_w (v:=.pointer (some ⟨b53,2,none⟩)) (r_fa fld_buffer_Buffer_2 rfl rfl) ?_
     refine o_w (v:=.slice A50 x41.names.length c51) (r_ld one_s_buffer_Name rfl (B185.cell rfl)) ?_
     refine o_w (v:=.int .i64 (x41.names.length:Int)) (r_len_slc un_s_buffer_Name rfl) ?_
     refine o_w (v:=.int .i64 (IntKind.i64.wrap ((x41.names.length:Int) + (1:Int)))) (r_int rfl rfl rfl) ?_
     refine o_w (v:=.pointer (some ⟨b159,2,none⟩)) (r_fa fld_buffer_Buffer_2 rfl rfl) ?_
     refine o_w (v:=.slice A156 x143.names.length c157) (r_ld one_s_buffer_Name rfl (B177'.cell rfl)) ?_
     refine o_w (v:=.int .i64 (x143.names.length:Int)) (r_len_slc un_s_buffer_Name rfl) ?_
     refine o_w (v:=.int .i64 (IntKind.i64.wrap ((IntKind.i64.wrap ((x41.names.length:Int) + (1:Int))) - (x143.names.length:Int)))) (r_int rfl rfl rfl) ?_
     refine o_w (v:=.int .i64 (IntKind.i64.wrap ((IntKind.i64.wrap ((x41.names.length:Int) + (1:Int))) - (x143.names.length:Int)))) (r_asg rfl) ?_
     refine eo_nil_sq ?_
     iterate 2 refine ec_seq ?_
     refine ec_region ?_
     refine o_w (v:=.int .i64 (IntKind.i64.wrap ((IntKind.i64.wrap ((x41.names.length:Int) + (1:Int))) - (x143.names.length:Int)))) (r_mov rfl) ?_
     refine o_w (v:=.bool (decide ((IntKind.i64.wrap ((IntKind.i64.wrap ((x41.names.length:Int) + (1:Int))) - (x143.names.length:Int)))<(0:Int)))) (r_int rfl rfl rfl) ?_
     refine o_w (v:=.bool (decide ((IntKind.i64.wrap ((IntKind.i64.wrap ((x41.names.length:Int) + (1:Int))) - (x143.names.length:Int)))<(0:Int)))) (r_mov rfl) ?_
     refine o_vg (v:=.int .i64 (IntKind.i64.wrap ((IntKind.i64.wrap ((x41.names.length:Int) + (1:Int))) - (x143.names.length:Int)))) (want_cf (t:=77) rfl rfl) (fun hk=>(r_mov rfl)) rfl rfl ?_
     refine o_vg (v:=.bool (decide ((1:Int)<(IntKind.i64.wrap ((IntKind.i64.wrap ((x41.names.length:Int) + (1:Int))) - (x143.names.length:Int)))))) (want_cf (t:=77) rfl rfl) (fun hk=>(r_int (gdT hk) rfl rfl)) rfl rfl ?_
     refine o_w (v:=.bool ((decide ((IntKind.i64.wrap ((IntKind.i64.wrap ((x41.names.length:Int) + (1:Int))) - (x143.names.length:Int)))<(0:Int)))||(decide ((1:Int)<(IntKind.i64.wrap ((IntKind.i64.wrap ((x41.names.length:Int) + (1:Int))) - (x143.names.length:Int))))))) (r_pickOr rfl rfl (fun hf=>(gdT (notT hf)))) ?_
     refine o_w (v:=.bool ((decide ((IntKind.i64.wrap ((IntKind.i64.wrap ((x41.names.length:Int) + (1:Int))) - (x143.names.length:Int)))<(0:Int)))||(decide ((1:Int)<(IntKind.i64.wrap ((IntKind.i64.wrap ((x41.names.length:Int) + (1:Int))) - (x143.names.length:Int))))))) (r_mov rfl) ?_
     refine o_vg (v:=.pointer (some ⟨b159,1,none⟩)) (want_cf (t:=81) rfl rfl) (fun hk=>(r_fa fld_buffer_Buffer_1 rfl rfl)) rfl rfl ?_
     refine o_vg (v:=.int .i64 x143.first) (want_cf (t:=81) rfl rfl) (fun hk=>(r_ld one_int (gdT hk) (B177'.cell rfl))) rfl rfl ?_
     refine o_vg (v:=.pointer (some ⟨b53,1,none⟩)) (want_cf (t:=81) rfl rfl) (fun hk=>(r_fa fld_buffer_Buffer_1 rfl rfl)) rfl rfl ?_
     refine o_vg (v:=.int .i64 x41.first) (want_cf (t:=81) rfl rfl) (fun hk=>(r_ld one_int (gdT hk) (B185.cell rfl))) rfl rfl ?_
     refine o_vg (v:=.int .i64 (IntKind.i64.wrap ((IntKind.i64.wrap ((x41.names.length:Int) + (1:Int))) - (x143.names.length:Int)))) (want_cf (t:=81) rfl rfl) (fun hk=>(r_mov rfl)) rfl rfl ?_
     refine o_vg (v:=.int .i64 (IntKind.i64.wrap (x41.first + (IntKind.i64.wrap ((IntKind.i64.wrap ((x41.names.length:Int) + (1:Int))) - (x143.names.length:Int)))))) (want_cf (t:=81) rfl rfl) (fun hk=>(r_int (gdT hk) (gdT hk) rfl)) rfl rfl ?_
     refine o_vg (v:=.bool (x143.first != (IntKind.i64.wrap (x41.first + (IntKind.i64.wrap ((IntKind.i64.wrap ((x41.names.length:Int) + (1:Int))) - (x143.names.length:Int))))))) (want_cf (t:=81) rfl rfl) (fun hk=>(r_int (gdT hk) (gdT hk) rfl)) rfl rfl ?_
     refine o_w (v:=.bool (((decide ((IntKind.i64.wrap ((IntKind.i64.wrap ((x41.names.length:Int) + (1:Int))) - (x143.names.length:Int)))<(0:Int)))||(decide ((1:Int)<(IntKind.i64.wrap ((IntKind.i64.wrap ((x41.names.length:Int) + (1:Int))) - (x143.names.length:Int))))))||(x143.first != (IntKind.i64.wrap (x41.first + (IntKind.i64.wrap ((IntKind.i64.wrap ((x41.names.length:Int) + (1:Int))) - (x143.names.length:Int)))))))) (r_pickOr rfl rfl (fun hf=>(gdT (notT hf)))) ?_
     refine o_w (v:=.bool (((decide ((IntKind.i64.wrap ((IntKind.i64.wrap ((x41.names.length:Int) + (1:Int))) - (x143.names.length:Int)))<(0:Int)))||(decide ((1:Int)<(IntKind.i64.wrap ((IntKind.i64.wrap ((x41.names.length:Int) + (1:Int))) - (x143.names.length:Int))))))||(x143.first != (IntKind.i64.wrap (x41.first + (IntKind.i64.wrap ((IntKind.i64.wrap ((x41.names.length:Int) + (1:Int))) - (x143.names.length:Int)))))))) (r_mov rfl) ?_
     refine o_vg (v:=.pointer (some ⟨b159,0,none⟩)) (want_cf (t:=90) rfl rfl) (fun hk=>(r_fa fld_buffer_Buffer_0 rfl rfl)) rfl rfl ?_
     refine o_vg (v:=.int .i64 x143.epoch) (want_cf (t:=90) rfl rfl) (fun hk=>(r_ld one_int (gdT hk) (B177'.cell rfl))) rfl rfl ?_
     refine o_vg (v:=.pointer (some ⟨b53,0,none⟩)) (want_cf (t:=90) rfl rfl) (fun hk=>(r_fa fld_buffer_Buffer_0 rfl rfl)) rfl rfl ?_
     refine o_vg (v:=.int .i64 x41.epoch) (want_cf (t:=90) rfl rfl) (fun hk=>(r_ld one_int (gdT hk) (B185.cell rfl))) rfl rfl ?_
     refine o_vg (v:=.bool (x143.epoch != x41.epoch)) (want_cf (t:=90) rfl rfl) (fun hk=>(r_int (gdT hk) (gdT hk) rfl)) rfl rfl ?_
     refine o_w (v:=.bool ((((decide ((IntKind.i64.wrap ((IntKind.i64.wrap ((x41.names.length:Int) + (1:Int))) - (x143.names.length:Int)))<(0:Int)))||(decide ((1:Int)<(IntKind.i64.wrap ((IntKind.i64.wrap ((x41.names.length:Int) + (1:Int))) - (x143.names.length:Int))))))||(x143.first != (IntKind.i64.wrap (x41.first + (IntKind.i64.wrap ((IntKind.i64.wrap ((x41.names.length:Int) + (1:Int))) - (x143.names.length:Int)))))))||(x143.epoch != x41.epoch))) (r_pickOr rfl rfl (fun hf=>(gdT (notT hf)))) ?_
     refine o_w (v:=.bool ((((decide ((IntKind.i64.wrap ((IntKind.i64.wrap ((x41.names.length:Int) + (1:Int))) - (x143.names.length:Int)))<(0:Int)))||(decide ((1:Int)<(IntKind.i64.wrap ((IntKind.i64.wrap ((x41.names.length:Int) + (1:Int))) - (x143.names.length:Int))))))||(x143.first != (IntKind.i64.wrap (x41.first + (IntKind.i64.wrap ((IntKind.i64.wrap ((x41.names.length:Int) + (1:Int))) - (x143.names.length:Int)))))))||(x143.epoch != x41.epoch))) (r_mov rfl) ?_
     refine o_vg (v:=.pointer (some ⟨b159,2,none⟩)) (want_cf (t:=97) rfl rfl) (fun hk=>(r_fa fld_buffer_Buffer_2 rfl rfl)) rfl rfl ?_
     refine o_vg (v:=.slice A156 x143.names.length c157) (want_cf (t:=97) rfl rfl) (fun hk=>(r_ld one_s_buffer_Name (gdT hk) (B177'.cell rfl))) rfl rfl ?_
     refine o_vg (v:=.int .i64 (x143.names.length:Int)) (want_cf (t:=97) rfl rfl) (fun hk=>(r_len_slc un_s_buffer_Name (gdT hk))) rfl rfl ?_
     refine o_vg (v:=.bool (decide ((x143.names.length:Int)<(1:Int)))) (want_cf (t:=97) rfl rfl) (fun hk=>(r_int (gdT hk) rfl rfl)) rfl rfl ?_
     refine o_w (v:=.bool (((((decide ((IntKind.i64.wrap ((IntKind.i64.wrap ((x41.names.length:Int) + (1:Int))) - (x143.names.length:Int)))<(0:Int)))||(decide ((1:Int)<(IntKind.i64.wrap ((IntKind.i64.wrap ((x41.names.length:Int) + (1:Int))) - (x143.names.length:Int))))))||(x143.first != (IntKind.i64.wrap (x41.first + (IntKind.i64.wrap ((IntKind.i64.wrap ((x41.names.length:Int) + (1:Int))) - (x143.names.length:Int)))))))||(x143.epoch != x41.epoch))||(decide ((x143.names.length:Int)<(1:Int))))) (r_pickOr rfl rfl (fun hf=>(gdT (notT hf)))) ?_
     refine eo_nil_sq ?_
     refine ec_cond rfl (fun hc187=>?_) (fun hc187=>?_)
     ·replace h:=h.1 hc187
      refine ec_seq ?_
      refine ec_region ?_
      refine o_w (v:=.bool false) (r_asg rfl) ?_
      refine eo_nil_sq ?_
      refine ec_ret ?_
      refine sq_ret ?_
      subst h
      exact (end1 rfl ⟨_,rfl,E178,rfl⟩)
     ·replace h:=h.2 hc187
      refine ec_skip ?_
      refine sq_n ?_
      iterate 2 refine ec_seq ?_
      refine ec_region ?_
      refine o_w (v:=.int .i64 (0:Int)) (r_asg rfl) ?_
      refine eo_nil_sq ?_
      refine ec_block ?_
      obtain ⟨x188,hl188,h⟩:=h
      refine ec_loopER 0 (I:=(fun (s188:Int) ρ ds w'=>∃ (ρ':Env),ρ=envs ρ' [(16,.int .i64 s188),(9,.bool (worksV)),(11,.int .i64 (IntKind.i64.wrap ((Int.tmod (IntKind.i64.wrap d2) (8:Int)) + (1:Int)))),(12,.pointer (some ⟨b53,0,none⟩)),(13,.pointer (some ⟨b81_10,0,none⟩)),(14,.pointer (some ⟨b159,0,none⟩)),(15,.int .i64 (IntKind.i64.wrap ((IntKind.i64.wrap ((x41.names.length:Int) + (1:Int))) - (x143.names.length:Int))))]∧ds=[]∧Fr (b159::(b81_10::(b53::L))) w177 w'∧Ext w w'∧Blk w' b159 24 (cBuf x143 A156 c157)∧Blk w' b53 24 (cBuf x41 A50 c51)∧Blk w' b81_10 33 (cEnt (nth d1.slots (Int.tmod (IntKind.i64.wrap d3) (d1.slots.length:Int))) A88 c89 A91 c92))) (J:=(fun (y':Bool) ρ ds wz=>bodyE Try.prog #[.tmp 8] (Ret fun v w'=>Ext w w'∧v=.bool y') .ret ρ ds wz)) ?_ hl188 ?_ ?_ ?_
      ·intro s188 z188 ρ188 ds188 w188r hI188 hb188
       obtain ⟨ρ188r,rfl,rfl,F188r,E188r,B188rb159,B188rb53,B188rb81_10⟩:=hI188
       have h:=hb188
       unfold law16_BufferNotes_b188 at h
       have G192:Fr L w41 w188r:=G182.stp F188r (upc (.inr m165) (upc (.inr m133) (upc (.inr m57) (fun _ h=>.inl h))))
       have G194:Fr (b81_10::(b53::L)) w143 w188r:=G184.stp F188r (upc (.inr m167) (upc (.inl (List.Mem.head _)) (upc (.inl (List.Mem.tail _ (List.Mem.head _))) (fun m hm=>Or.inl (List.Mem.tail _ (List.Mem.tail _ hm))))))
       iterate 2 refine ec_seq ?_
       refine ec_region ?_
       refine o_w (v:=.int .i64 s188) (r_mov rfl) ?_
       refine o_w (v:=.int .i64 (IntKind.i64.wrap (s188 + (1:Int)))) (r_int rfl rfl rfl) ?_
       refine o_w (v:=.pointer (some ⟨b159,2,none⟩)) (r_fa fld_buffer_Buffer_2 rfl rfl) ?_
       refine o_w (v:=.slice A156 x143.names.length c157) (r_ld one_s_buffer_Name rfl (B188rb159.cell rfl)) ?_
       refine o_w (v:=.int .i64 (x143.names.length:Int)) (r_len_slc un_s_buffer_Name rfl) ?_
       refine o_w (v:=.bool (decide ((IntKind.i64.wrap (s188 + (1:Int)))<(x143.names.length:Int)))) (r_int rfl rfl rfl) ?_
       refine eo_nil_sq ?_
       refine ec_cond rfl (fun hc195=>?_) (fun hc195=>?_)
       ·replace h:=h.1 hc195
        refine ec_skip ?_
        refine sq_n ?_
        refine ec_seq ?_
        refine ec_block ?_
        refine ec_seq ?_
        obtain ⟨ha207,h⟩:=h
        obtain ⟨cs208,l210,H209⟩:=Stb.elem (by decide) (H158.up G194 (fun _ h=>h) (upc (.inr m167) (upc (.inl (List.Mem.head _)) (upc (.inl (List.Mem.tail _ (List.Mem.head _))) (fun m hm=>Or.inl (List.Mem.tail _ (List.Mem.tail _ hm))))))) s188 ha207.1 ha207.2
        obtain ⟨rfl,H211⟩:=kNm_open2 H209
        obtain ⟨ha212,h⟩:=h
        obtain ⟨cs213,l215,H214⟩:=Stb.elem (by decide) (H52.up G192 (fun _ h=>h) (upc (.inr m165) (upc (.inr m133) (upc (.inr m57) (fun _ h=>.inl h))))) (IntKind.i64.wrap (s188 + (IntKind.i64.wrap ((IntKind.i64.wrap ((x41.names.length:Int) + (1:Int))) - (x143.names.length:Int))))) ha212.1 ha212.2
        obtain ⟨rfl,H216⟩:=kNm_open2 H214
        refine ec_any0 (by kernel_rfl) [[],[0],[],[0,1,2],[0,1,2,3],[],[5],[],[],[7,8],[5,6,7,8,9],[5,6,7,8,9,10],[0,1,2,3,4,5,6,7,8,9,10,11]] [111,112,113,114,115,116,117,118,119,120,121,122,123] [fun v _=>v=(.pointer (some ⟨b159,2,none⟩):Value),fun v _=>v=(.slice A156 x143.names.length c157:Value),fun v _=>v=(.int .i64 s188:Value),fun v _=>v=(.pointer (some (elemA A156 kNm.n s188.toNat)):Value),fun v _=>v=(.agg (cNm (nth x143.names s188)).toArray:Value),fun v _=>v=(.pointer (some ⟨b53,2,none⟩):Value),fun v _=>v=(.slice A50 x41.names.length c51:Value),fun v _=>v=(.int .i64 s188:Value),fun v _=>v=(.int .i64 (IntKind.i64.wrap ((IntKind.i64.wrap ((x41.names.length:Int) + (1:Int))) - (x143.names.length:Int))):Value),fun v _=>v=(.int .i64 (IntKind.i64.wrap (s188 + (IntKind.i64.wrap ((IntKind.i64.wrap ((x41.names.length:Int) + (1:Int))) - (x143.names.length:Int))))):Value),fun v _=>v=(.pointer (some (elemA A50 kNm.n (IntKind.i64.wrap (s188 + (IntKind.i64.wrap ((IntKind.i64.wrap ((x41.names.length:Int) + (1:Int))) - (x143.names.length:Int))))).toNat)):Value),fun v _=>v=(.agg (cNm (nth x41.names (IntKind.i64.wrap (s188 + (IntKind.i64.wrap ((IntKind.i64.wrap ((x41.names.length:Int) + (1:Int))) - (x143.names.length:Int))))))).toArray:Value),fun v _=>v=(.bool (!((((nth x143.names s188).kind)==((nth x41.names (IntKind.i64.wrap (s188 + (IntKind.i64.wrap ((IntKind.i64.wrap ((x41.names.length:Int) + (1:Int))) - (x143.names.length:Int)))))).kind))&&((((nth x143.names s188).key)==((nth x41.names (IntKind.i64.wrap (s188 + (IntKind.i64.wrap ((IntKind.i64.wrap ((x41.names.length:Int) + (1:Int))) - (x143.names.length:Int)))))).key))&&true))):Value)] (by kernel_rfl) ⟨fun _ _ _ _ _ h=>h,fun _ _ _ _ _ h=>h,fun _ _ _ _ _ h=>h,fun _ _ _ _ _ h=>h,fun _ _ _ _ _ h=>h,fun _ _ _ _ _ h=>h,fun _ _ _ _ _ h=>h,fun _ _ _ _ _ h=>h,fun _ _ _ _ _ h=>h,fun _ _ _ _ _ h=>h,fun _ _ _ _ _ h=>h,fun _ _ _ _ _ h=>h,fun _ _ _ _ _ h=>h,trivial⟩ ?_ ?_
        ·refine ⟨?_,?_,?_,?_,?_,?_,?_,?_,?_,?_,?_,?_,?_,trivial⟩
         ·intro ρ w206o F206o hS hρ
          have q14:ρ 14=.pointer (some ⟨b159,0,none⟩):=hρ 14 (by kernel_rfl)
          exact o_q (r_fa fld_buffer_Buffer_2 rfl q14) ⟨Fr.refl _ _,rfl⟩
         ·intro ρ w206o F206o hS hρ
          have q111:ρ 111=.pointer (some ⟨b159,2,none⟩):=hS 0 (by decide) 111 rfl
          exact o_q (r_ld one_s_buffer_Name q111 ((B188rb159.ex F206o).cell rfl)) ⟨Fr.refl _ _,rfl⟩
         ·intro ρ w206o F206o hS hρ
          have q16:ρ 16=.int .i64 s188:=hρ 16 (by kernel_rfl)
          exact o_q (r_mov q16) ⟨Fr.refl _ _,rfl⟩
         ·intro ρ w206o F206o hS hρ
          have q112:ρ 112=.slice A156 x143.names.length c157:=hS 1 (by decide) 112 rfl
          have q113:ρ 113=.int .i64 s188:=hS 2 (by decide) 113 rfl
          exact o_q (r_ia slc_s_buffer_Name q112 q113 ((H158.fr (G194.trans (Fr.ext F206o)) (fun _ h=>h)).now.2 _ (lt_toNat ha207.1 ha207.2)).1 ha207.1 ha207.2) ⟨Fr.refl _ _,rfl⟩
         ·intro ρ w206o F206o hS hρ
          have G249:Fr (b159::(b81_10::(b53::L))) w188r w206o:=Fr.ext F206o
          have q114:ρ 114=.pointer (some (elemA A156 kNm.n s188.toNat)):=hS 3 (by decide) 114 rfl
          exact o_q (r_lda' agg_buffer_Name q114 (elemA_spot _ _ _) (vs:=(cNm (nth x143.names s188))) rfl ((H211.fr G249 (fun _ h=>h)).now.1)) ⟨Fr.refl _ _,rfl⟩
         ·intro ρ w206o F206o hS hρ
          have q12:ρ 12=.pointer (some ⟨b53,0,none⟩):=hρ 12 (by kernel_rfl)
          exact o_q (r_fa fld_buffer_Buffer_2 rfl q12) ⟨Fr.refl _ _,rfl⟩
         ·intro ρ w206o F206o hS hρ
          have q116:ρ 116=.pointer (some ⟨b53,2,none⟩):=hS 5 (by decide) 116 rfl
          exact o_q (r_ld one_s_buffer_Name q116 ((B188rb53.ex F206o).cell rfl)) ⟨Fr.refl _ _,rfl⟩
         ·intro ρ w206o F206o hS hρ
          have q16:ρ 16=.int .i64 s188:=hρ 16 (by kernel_rfl)
          exact o_q (r_mov q16) ⟨Fr.refl _ _,rfl⟩
         ·intro ρ w206o F206o hS hρ
          have q15:ρ 15=.int .i64 (IntKind.i64.wrap ((IntKind.i64.wrap ((x41.names.length:Int) + (1:Int))) - (x143.names.length:Int))):=hρ 15 (by kernel_rfl)
          exact o_q (r_mov q15) ⟨Fr.refl _ _,rfl⟩
         ·intro ρ w206o F206o hS hρ
          have q118:ρ 118=.int .i64 s188:=hS 7 (by decide) 118 rfl
          have q119:ρ 119=.int .i64 (IntKind.i64.wrap ((IntKind.i64.wrap ((x41.names.length:Int) + (1:Int))) - (x143.names.length:Int))):=hS 8 (by decide) 119 rfl
          exact o_q (r_int q118 q119 rfl) ⟨Fr.refl _ _,rfl⟩
         ·intro ρ w206o F206o hS hρ
          have q117:ρ 117=.slice A50 x41.names.length c51:=hS 6 (by decide) 117 rfl
          have q120:ρ 120=.int .i64 (IntKind.i64.wrap (s188 + (IntKind.i64.wrap ((IntKind.i64.wrap ((x41.names.length:Int) + (1:Int))) - (x143.names.length:Int))))):=hS 9 (by decide) 120 rfl
          exact o_q (r_ia slc_s_buffer_Name q117 q120 ((H52.fr (G192.trans (Fr.ext F206o)) (fun _ h=>h)).now.2 _ (lt_toNat ha212.1 ha212.2)).1 ha212.1 ha212.2) ⟨Fr.refl _ _,rfl⟩
         ·intro ρ w206o F206o hS hρ
          have G285:Fr (b159::(b81_10::(b53::L))) w188r w206o:=Fr.ext F206o
          have q121:ρ 121=.pointer (some (elemA A50 kNm.n (IntKind.i64.wrap (s188 + (IntKind.i64.wrap ((IntKind.i64.wrap ((x41.names.length:Int) + (1:Int))) - (x143.names.length:Int))))).toNat)):=hS 10 (by decide) 121 rfl
          exact o_q (r_lda' agg_buffer_Name q121 (elemA_spot _ _ _) (vs:=(cNm (nth x41.names (IntKind.i64.wrap (s188 + (IntKind.i64.wrap ((IntKind.i64.wrap ((x41.names.length:Int) + (1:Int))) - (x143.names.length:Int)))))))) rfl ((H216.fr G285 (fun _ h=>h)).now.1)) ⟨Fr.refl _ _,rfl⟩
         ·intro ρ w206o F206o hS hρ
          have q115:ρ 115=.agg (cNm (nth x143.names s188)).toArray:=hS 4 (by decide) 115 rfl
          have q122:ρ 122=.agg (cNm (nth x41.names (IntKind.i64.wrap (s188 + (IntKind.i64.wrap ((IntKind.i64.wrap ((x41.names.length:Int) + (1:Int))) - (x143.names.length:Int))))))).toArray:=hS 11 (by decide) 122 rfl
          exact o_q (r_neSt eqg_buffer_Name (eqs_buffer_Name ((nth x143.names s188).kind) ((nth x143.names s188).key) ((nth x41.names (IntKind.i64.wrap (s188 + (IntKind.i64.wrap ((IntKind.i64.wrap ((x41.names.length:Int) + (1:Int))) - (x143.names.length:Int)))))).kind) ((nth x41.names (IntKind.i64.wrap (s188 + (IntKind.i64.wrap ((IntKind.i64.wrap ((x41.names.length:Int) + (1:Int))) - (x143.names.length:Int)))))).key)) q115 q122) ⟨Fr.refl _ _,rfl⟩
        ·intro ρ w206 F206 hS hρ
         have q123:ρ 123=.bool (!((((nth x143.names s188).kind)==((nth x41.names (IntKind.i64.wrap (s188 + (IntKind.i64.wrap ((IntKind.i64.wrap ((x41.names.length:Int) + (1:Int))) - (x143.names.length:Int)))))).kind))&&((((nth x143.names s188).key)==((nth x41.names (IntKind.i64.wrap (s188 + (IntKind.i64.wrap ((IntKind.i64.wrap ((x41.names.length:Int) + (1:Int))) - (x143.names.length:Int)))))).key))&&true))):=hS 12 123 rfl
         obtain ⟨ρ',rfl⟩:∃ ρ',ρ=envs (ovr [111,112,113,114,115,116,117,118,119,120,121,122,123] ρ' _) [(123,.bool (!((((nth x143.names s188).kind)==((nth x41.names (IntKind.i64.wrap (s188 + (IntKind.i64.wrap ((IntKind.i64.wrap ((x41.names.length:Int) + (1:Int))) - (x143.names.length:Int)))))).kind))&&((((nth x143.names s188).key)==((nth x41.names (IntKind.i64.wrap (s188 + (IntKind.i64.wrap ((IntKind.i64.wrap ((x41.names.length:Int) + (1:Int))) - (x143.names.length:Int)))))).key))&&true))))]:=⟨ρ,ovr_self hρ ⟨q123,trivial⟩⟩
         have E289:=E188r.trans F206
         refine sq_n ?_
         refine ec_cond rfl (fun hc301=>?_) (fun hc301=>?_)
         ·replace h:=h.1 hc301
          refine ec_seq ?_
          refine ec_region ?_
          refine o_w (v:=.bool false) (r_asg rfl) ?_
          refine eo_nil_sq ?_
          refine ec_ret ?_
          refine blk_ret ?_
          refine sq_ret ?_
          subst h
          exact lqR_r (end1 rfl ⟨_,rfl,E289,rfl⟩)
         ·replace h:=h.2 hc301
          refine ec_skip ?_
          refine blk_n ?_
          refine sq_n ?_
          refine ec_region ?_
          refine o_w (v:=.int .i64 s188) (r_mov rfl) ?_
          refine o_w (v:=.int .i64 (IntKind.i64.wrap (s188 + (1:Int)))) (r_int rfl rfl rfl) ?_
          refine o_w (v:=.int .i64 (IntKind.i64.wrap (s188 + (1:Int)))) (r_asg rfl) ?_
          refine eo_nil ?_
          subst h
          exact lqR_n ⟨_,envs_self ⟨rfl,rfl,rfl,rfl,rfl,rfl,rfl,trivial⟩,rfl,(F188r.trans (Fr.ext F206)),E289,(B188rb159.ex F206),(B188rb53.ex F206),(B188rb81_10.ex F206)⟩
       ·replace h:=h.2 hc195
        refine ec_exit ?_
        refine sq_exit ?_
        subst h
        exact lqR_x ⟨_,envs_self ⟨rfl,rfl,rfl,rfl,rfl,rfl,rfl,trivial⟩,rfl,F188r,E188r,B188rb159,B188rb53,B188rb81_10⟩
      ·exact ⟨_,envs_self ⟨rfl,rfl,rfl,rfl,rfl,rfl,rfl,trivial⟩,rfl,(Fr.refl _ _),E178,B177',B185,B186⟩
      ·rintro sx188 rfl ρ188e ds188e w188e ⟨ρ188e,rfl,rfl,F188e,E188e,B188eb159,B188eb53,B188eb81_10⟩
       replace h:=h.1 _ rfl
       have G307:Fr (b81_10::(b53::L)) w143 w188e:=G184.stp F188e (upc (.inr m167) (upc (.inl (List.Mem.head _)) (upc (.inl (List.Mem.tail _ (List.Mem.head _))) (fun m hm=>Or.inl (List.Mem.tail _ (List.Mem.tail _ hm))))))
       refine blk_hit ?_
       refine sq_n ?_
       refine ec_seq ?_
       obtain ⟨ha324,h⟩:=h
       obtain ⟨cs325,l327,H326⟩:=Stb.elem (by decide) (H158.up G307 (fun _ h=>h) (upc (.inr m167) (upc (.inl (List.Mem.head _)) (upc (.inl (List.Mem.tail _ (List.Mem.head _))) (fun m hm=>Or.inl (List.Mem.tail _ (List.Mem.tail _ hm))))))) (IntKind.i64.wrap ((x143.names.length:Int) - (1:Int))) ha324.1 ha324.2
       obtain ⟨rfl,H328⟩:=kNm_open2 H326
       refine ec_any0 (by kernel_rfl) [[],[0],[0,1],[0,1,2],[0,1],[0,1,4],[0,1,4,5],[0,1,4,5,6],[0,1,2,3,4,5,6,7],[0,1,2,3,4,5,6,7,8],[0,1],[0,1,10],[0,1,10,11],[0,1],[0,1,13],[0,1,10,11,12,13,14],[0,1,2,3,4,5,6,7,8,9,10,11,12,13,14,15],[0,1,2,3,4,5,6,7,8,9,10,11,12,13,14,15,16],[0,1,2,3,4,5,6,7,8,9,10,11,12,13,14,15,16,17],[0,1,2,3,4,5,6,7,8,9,10,11,12,13,14,15,16,17,18],[0,1,2,3,4,5,6,7,8,9,10,11,12,13,14,15,16,17,18,19],[0,1,2,3,4,5,6,7,8,9,10,11,12,13,14,15,16,17,18],[0,1,2,3,4,5,6,7,8,9,10,11,12,13,14,15,16,17,18,21],[0,1,2,3,4,5,6,7,8,9,10,11,12,13,14,15,16,17,18,21,22],[0,1,2,3,4,5,6,7,8,9,10,11,12,13,14,15,16,17,18],[0,1,2,3,4,5,6,7,8,9,10,11,12,13,14,15,16,17,18,21,22,23,24],[0,1,2,3,4,5,6,7,8,9,10,11,12,13,14,15,16,17,18,19,20,21,22,23,24,25],[0,1,2,3,4,5,6,7,8,9,10,11,12,13,14,15,16,17,18,19,20,21,22,23,24,25,26],[0,1,2,3,4,5,6,7,8,9,10,11,12,13,14,15,16,17,18,19,20,21,22,23,24,25,26,27]] [8,124,125,126,127,128,129,130,131,132,133,134,135,136,137,138,139,140,141,142,143,144,145,146,147,148,149,150,151] [fun v _=>v=(.bool (worksV):Value),fun v _=>v=(.bool (worksV):Value),fun v _=>v=(.pointer (some ⟨b159,2,none⟩):Value),fun v _=>v=(.slice A156 x143.names.length c157:Value),fun v _=>v=(.pointer (some ⟨b159,2,none⟩):Value),fun v _=>v=(.slice A156 x143.names.length c157:Value),fun v _=>v=(.int .i64 (x143.names.length:Int):Value),fun v _=>v=(.int .i64 (IntKind.i64.wrap ((x143.names.length:Int) - (1:Int))):Value),fun v _=>v=(.pointer (some (elemA A156 kNm.n (IntKind.i64.wrap ((x143.names.length:Int) - (1:Int))).toNat)):Value),fun v _=>v=(.agg (cNm (nth x143.names (IntKind.i64.wrap ((x143.names.length:Int) - (1:Int))))).toArray:Value),fun v _=>v=(.pointer (some ⟨b81_10,1,none⟩):Value),fun v _=>v=(.pointer (some ⟨b81_10,1,none⟩):Value),fun v _=>v=(.int .i64 (((nth d1.slots (Int.tmod (IntKind.i64.wrap d3) (d1.slots.length:Int))).val).kind):Value),fun v _=>v=(.pointer (some ⟨b81_10,0,none⟩):Value),fun v _=>v=(str ((nth d1.slots (Int.tmod (IntKind.i64.wrap d3) (d1.slots.length:Int))).key):Value),fun v _=>v=(.agg #[.int .i64 (((nth d1.slots (Int.tmod (IntKind.i64.wrap d3) (d1.slots.length:Int))).val).kind),str ((nth d1.slots (Int.tmod (IntKind.i64.wrap d3) (d1.slots.length:Int))).key)]:Value),fun v _=>v=(.bool ((((nth x143.names (IntKind.i64.wrap ((x143.names.length:Int) - (1:Int)))).kind)==(((nth d1.slots (Int.tmod (IntKind.i64.wrap d3) (d1.slots.length:Int))).val).kind))&&((((nth x143.names (IntKind.i64.wrap ((x143.names.length:Int) - (1:Int)))).key)==((nth d1.slots (Int.tmod (IntKind.i64.wrap d3) (d1.slots.length:Int))).key))&&true)):Value),fun v _=>v=(.bool ((((nth x143.names (IntKind.i64.wrap ((x143.names.length:Int) - (1:Int)))).kind)==(((nth d1.slots (Int.tmod (IntKind.i64.wrap d3) (d1.slots.length:Int))).val).kind))&&((((nth x143.names (IntKind.i64.wrap ((x143.names.length:Int) - (1:Int)))).key)==((nth d1.slots (Int.tmod (IntKind.i64.wrap d3) (d1.slots.length:Int))).key))&&true)):Value),fun v _=>v=(.bool ((((nth x143.names (IntKind.i64.wrap ((x143.names.length:Int) - (1:Int)))).kind)==(((nth d1.slots (Int.tmod (IntKind.i64.wrap d3) (d1.slots.length:Int))).val).kind))&&((((nth x143.names (IntKind.i64.wrap ((x143.names.length:Int) - (1:Int)))).key)==((nth d1.slots (Int.tmod (IntKind.i64.wrap d3) (d1.slots.length:Int))).key))&&true)):Value),fun v _=>v=((bif ((((nth x143.names (IntKind.i64.wrap ((x143.names.length:Int) - (1:Int)))).kind)==(((nth d1.slots (Int.tmod (IntKind.i64.wrap d3) (d1.slots.length:Int))).val).kind))&&((((nth x143.names (IntKind.i64.wrap ((x143.names.length:Int) - (1:Int)))).key)==((nth d1.slots (Int.tmod (IntKind.i64.wrap d3) (d1.slots.length:Int))).key))&&true)) then (.int .i64 (IntKind.i64.wrap ((IntKind.i64.wrap ((x41.names.length:Int) + (1:Int))) - (x143.names.length:Int))):Value) else undef):Value),fun v _=>v=((bif ((((nth x143.names (IntKind.i64.wrap ((x143.names.length:Int) - (1:Int)))).kind)==(((nth d1.slots (Int.tmod (IntKind.i64.wrap d3) (d1.slots.length:Int))).val).kind))&&((((nth x143.names (IntKind.i64.wrap ((x143.names.length:Int) - (1:Int)))).key)==((nth d1.slots (Int.tmod (IntKind.i64.wrap d3) (d1.slots.length:Int))).key))&&true)) then (.bool ((IntKind.i64.wrap ((IntKind.i64.wrap ((x41.names.length:Int) + (1:Int))) - (x143.names.length:Int)))==(1:Int)):Value) else undef):Value),fun v _=>v=((bif ((((nth x143.names (IntKind.i64.wrap ((x143.names.length:Int) - (1:Int)))).kind)==(((nth d1.slots (Int.tmod (IntKind.i64.wrap d3) (d1.slots.length:Int))).val).kind))&&((((nth x143.names (IntKind.i64.wrap ((x143.names.length:Int) - (1:Int)))).key)==((nth d1.slots (Int.tmod (IntKind.i64.wrap d3) (d1.slots.length:Int))).key))&&true)) then (.pointer (some ⟨b53,2,none⟩):Value) else undef):Value),fun v _=>v=((bif ((((nth x143.names (IntKind.i64.wrap ((x143.names.length:Int) - (1:Int)))).kind)==(((nth d1.slots (Int.tmod (IntKind.i64.wrap d3) (d1.slots.length:Int))).val).kind))&&((((nth x143.names (IntKind.i64.wrap ((x143.names.length:Int) - (1:Int)))).key)==((nth d1.slots (Int.tmod (IntKind.i64.wrap d3) (d1.slots.length:Int))).key))&&true)) then (.slice A50 x41.names.length c51:Value) else undef):Value),fun v _=>v=((bif ((((nth x143.names (IntKind.i64.wrap ((x143.names.length:Int) - (1:Int)))).kind)==(((nth d1.slots (Int.tmod (IntKind.i64.wrap d3) (d1.slots.length:Int))).val).kind))&&((((nth x143.names (IntKind.i64.wrap ((x143.names.length:Int) - (1:Int)))).key)==((nth d1.slots (Int.tmod (IntKind.i64.wrap d3) (d1.slots.length:Int))).key))&&true)) then (.int .i64 (x41.names.length:Int):Value) else undef):Value),fun v _=>v=((bif ((((nth x143.names (IntKind.i64.wrap ((x143.names.length:Int) - (1:Int)))).kind)==(((nth d1.slots (Int.tmod (IntKind.i64.wrap d3) (d1.slots.length:Int))).val).kind))&&((((nth x143.names (IntKind.i64.wrap ((x143.names.length:Int) - (1:Int)))).key)==((nth d1.slots (Int.tmod (IntKind.i64.wrap d3) (d1.slots.length:Int))).key))&&true)) then (.int .i64 (IntKind.i64.wrap ((Int.tmod (IntKind.i64.wrap d2) (8:Int)) + (1:Int))):Value) else undef):Value),fun v _=>v=((bif ((((nth x143.names (IntKind.i64.wrap ((x143.names.length:Int) - (1:Int)))).kind)==(((nth d1.slots (Int.tmod (IntKind.i64.wrap d3) (d1.slots.length:Int))).val).kind))&&((((nth x143.names (IntKind.i64.wrap ((x143.names.length:Int) - (1:Int)))).key)==((nth d1.slots (Int.tmod (IntKind.i64.wrap d3) (d1.slots.length:Int))).key))&&true)) then (.bool ((x41.names.length:Int)==(IntKind.i64.wrap ((Int.tmod (IntKind.i64.wrap d2) (8:Int)) + (1:Int)))):Value) else undef):Value),fun v _=>v=((bif ((((nth x143.names (IntKind.i64.wrap ((x143.names.length:Int) - (1:Int)))).kind)==(((nth d1.slots (Int.tmod (IntKind.i64.wrap d3) (d1.slots.length:Int))).val).kind))&&((((nth x143.names (IntKind.i64.wrap ((x143.names.length:Int) - (1:Int)))).key)==((nth d1.slots (Int.tmod (IntKind.i64.wrap d3) (d1.slots.length:Int))).key))&&true)) then (.bool (((IntKind.i64.wrap ((IntKind.i64.wrap ((x41.names.length:Int) + (1:Int))) - (x143.names.length:Int)))==(1:Int))==((x41.names.length:Int)==(IntKind.i64.wrap ((Int.tmod (IntKind.i64.wrap d2) (8:Int)) + (1:Int))))):Value) else undef):Value),fun v _=>v=(.bool (((((nth x143.names (IntKind.i64.wrap ((x143.names.length:Int) - (1:Int)))).kind)==(((nth d1.slots (Int.tmod (IntKind.i64.wrap d3) (d1.slots.length:Int))).val).kind))&&((((nth x143.names (IntKind.i64.wrap ((x143.names.length:Int) - (1:Int)))).key)==((nth d1.slots (Int.tmod (IntKind.i64.wrap d3) (d1.slots.length:Int))).key))&&true))&&(((IntKind.i64.wrap ((IntKind.i64.wrap ((x41.names.length:Int) + (1:Int))) - (x143.names.length:Int)))==(1:Int))==((x41.names.length:Int)==(IntKind.i64.wrap ((Int.tmod (IntKind.i64.wrap d2) (8:Int)) + (1:Int)))))):Value),fun v _=>v=(.bool (((((nth x143.names (IntKind.i64.wrap ((x143.names.length:Int) - (1:Int)))).kind)==(((nth d1.slots (Int.tmod (IntKind.i64.wrap d3) (d1.slots.length:Int))).val).kind))&&((((nth x143.names (IntKind.i64.wrap ((x143.names.length:Int) - (1:Int)))).key)==((nth d1.slots (Int.tmod (IntKind.i64.wrap d3) (d1.slots.length:Int))).key))&&true))&&(((IntKind.i64.wrap ((IntKind.i64.wrap ((x41.names.length:Int) + (1:Int))) - (x143.names.length:Int)))==(1:Int))==((x41.names.length:Int)==(IntKind.i64.wrap ((Int.tmod (IntKind.i64.wrap d2) (8:Int)) + (1:Int)))))):Value)] (by kernel_rfl) ⟨fun _ _ _ _ _ h=>h,fun _ _ _ _ _ h=>h,fun _ _ _ _ _ h=>h,fun _ _ _ _ _ h=>h,fun _ _ _ _ _ h=>h,fun _ _ _ _ _ h=>h,fun _ _ _ _ _ h=>h,fun _ _ _ _ _ h=>h,fun _ _ _ _ _ h=>h,fun _ _ _ _ _ h=>h,fun _ _ _ _ _ h=>h,fun _ _ _ _ _ h=>h,fun _ _ _ _ _ h=>h,fun _ _ _ _ _ h=>h,fun _ _ _ _ _ h=>h,fun _ _ _ _ _ h=>h,fun _ _ _ _ _ h=>h,fun _ _ _ _ _ h=>h,fun _ _ _ _ _ h=>h,fun _ _ _ _ _ h=>h,fun _ _ _ _ _ h=>h,fun _ _ _ _ _ h=>h,fun _ _ _ _ _ h=>h,fun _ _ _ _ _ h=>h,fun _ _ _ _ _ h=>h,fun _ _ _ _ _ h=>h,fun _ _ _ _ _ h=>h,fun _ _ _ _ _ h=>h,fun _ _ _ _ _ h=>h,trivial⟩ ?_ ?_
       ·refine ⟨?_,?_,?_,?_,?_,?_,?_,?_,?_,?_,?_,?_,?_,?_,?_,?_,?_,?_,?_,?_,?_,?_,?_,?_,?_,?_,?_,?_,?_,trivial⟩
        ·intro ρ w323o F323o hS hρ
         have q9:ρ 9=.bool (worksV):=hρ 9 (by kernel_rfl)
         exact o_q (r_mov q9) ⟨Fr.refl _ _,rfl⟩
        ·intro ρ w323o F323o hS hρ
         have q124:ρ 124=.bool (worksV):=hS 0 (by decide) 124 rfl
         exact o_q (r_mov q124) ⟨Fr.refl _ _,rfl⟩
        ·intro ρ w323o F323o hS hρ
         have q14:ρ 14=.pointer (some ⟨b159,0,none⟩):=hρ 14 (by kernel_rfl)
         have q125:ρ 125=.bool (worksV):=hS 1 (by decide) 125 rfl
         exact o_v (r_fa fld_buffer_Buffer_2 rfl q14) (want_t (t:=125) rfl q125 (of_not hc21)) rfl rfl (eo_nil ⟨rfl,rfl,_,rfl,Fr.refl _ _,rfl⟩)
        ·intro ρ w323o F323o hS hρ
         have q125:ρ 125=.bool (worksV):=hS 1 (by decide) 125 rfl
         have q126:ρ 126=.pointer (some ⟨b159,2,none⟩):=hS 2 (by decide) 126 rfl
         exact o_v (r_ld one_s_buffer_Name q126 ((B188eb159.ex F323o).cell rfl)) (want_t (t:=125) rfl q125 (of_not hc21)) rfl rfl (eo_nil ⟨rfl,rfl,_,rfl,Fr.refl _ _,rfl⟩)
        ·intro ρ w323o F323o hS hρ
         have q14:ρ 14=.pointer (some ⟨b159,0,none⟩):=hρ 14 (by kernel_rfl)
         have q125:ρ 125=.bool (worksV):=hS 1 (by decide) 125 rfl
         exact o_v (r_fa fld_buffer_Buffer_2 rfl q14) (want_t (t:=125) rfl q125 (of_not hc21)) rfl rfl (eo_nil ⟨rfl,rfl,_,rfl,Fr.refl _ _,rfl⟩)
        ·intro ρ w323o F323o hS hρ
         have q125:ρ 125=.bool (worksV):=hS 1 (by decide) 125 rfl
         have q128:ρ 128=.pointer (some ⟨b159,2,none⟩):=hS 4 (by decide) 128 rfl
         exact o_v (r_ld one_s_buffer_Name q128 ((B188eb159.ex F323o).cell rfl)) (want_t (t:=125) rfl q125 (of_not hc21)) rfl rfl (eo_nil ⟨rfl,rfl,_,rfl,Fr.refl _ _,rfl⟩)
        ·intro ρ w323o F323o hS hρ
         have q125:ρ 125=.bool (worksV):=hS 1 (by decide) 125 rfl
         have q129:ρ 129=.slice A156 x143.names.length c157:=hS 5 (by decide) 129 rfl
         exact o_v (r_len_slc un_s_buffer_Name q129) (want_t (t:=125) rfl q125 (of_not hc21)) rfl rfl (eo_nil ⟨rfl,rfl,_,rfl,Fr.refl _ _,rfl⟩)
        ·intro ρ w323o F323o hS hρ
         have q125:ρ 125=.bool (worksV):=hS 1 (by decide) 125 rfl
         have q130:ρ 130=.int .i64 (x143.names.length:Int):=hS 6 (by decide) 130 rfl
         exact o_v (r_int q130 rfl rfl) (want_t (t:=125) rfl q125 (of_not hc21)) rfl rfl (eo_nil ⟨rfl,rfl,_,rfl,Fr.refl _ _,rfl⟩)
        ·intro ρ w323o F323o hS hρ
         have q125:ρ 125=.bool (worksV):=hS 1 (by decide) 125 rfl
         have q127:ρ 127=.slice A156 x143.names.length c157:=hS 3 (by decide) 127 rfl
         have q131:ρ 131=.int .i64 (IntKind.i64.wrap ((x143.names.length:Int) - (1:Int))):=hS 7 (by decide) 131 rfl
         exact o_v (r_ia slc_s_buffer_Name q127 q131 ((H158.fr (G307.trans (Fr.ext F323o)) (fun _ h=>h)).now.2 _ (lt_toNat ha324.1 ha324.2)).1 ha324.1 ha324.2) (want_t (t:=125) rfl q125 (of_not hc21)) rfl rfl (eo_nil ⟨rfl,rfl,_,rfl,Fr.refl _ _,rfl⟩)
        ·intro ρ w323o F323o hS hρ
         have G369:Fr (b159::(b81_10::(b53::L))) w188e w323o:=Fr.ext F323o
         have q125:ρ 125=.bool (worksV):=hS 1 (by decide) 125 rfl
         have q132:ρ 132=.pointer (some (elemA A156 kNm.n (IntKind.i64.wrap ((x143.names.length:Int) - (1:Int))).toNat)):=hS 8 (by decide) 132 rfl
         exact o_v (r_lda' agg_buffer_Name q132 (elemA_spot _ _ _) (vs:=(cNm (nth x143.names (IntKind.i64.wrap ((x143.names.length:Int) - (1:Int)))))) rfl ((H328.fr G369 (fun _ h=>h)).now.1)) (want_t (t:=125) rfl q125 (of_not hc21)) rfl rfl (eo_nil ⟨rfl,rfl,_,rfl,Fr.refl _ _,rfl⟩)
        ·intro ρ w323o F323o hS hρ
         have q13:ρ 13=.pointer (some ⟨b81_10,0,none⟩):=hρ 13 (by kernel_rfl)
         have q125:ρ 125=.bool (worksV):=hS 1 (by decide) 125 rfl
         exact o_v (r_fa fld_api_Entry_1 rfl q13) (want_t (t:=125) rfl q125 (of_not hc21)) rfl rfl (eo_nil ⟨rfl,rfl,_,rfl,Fr.refl _ _,rfl⟩)
        ·intro ρ w323o F323o hS hρ
         have q125:ρ 125=.bool (worksV):=hS 1 (by decide) 125 rfl
         have q134:ρ 134=.pointer (some ⟨b81_10,1,none⟩):=hS 10 (by decide) 134 rfl
         exact o_v (r_fa fld_api_Value_0 rfl q134) (want_t (t:=125) rfl q125 (of_not hc21)) rfl rfl (eo_nil ⟨rfl,rfl,_,rfl,Fr.refl _ _,rfl⟩)
        ·intro ρ w323o F323o hS hρ
         have q125:ρ 125=.bool (worksV):=hS 1 (by decide) 125 rfl
         have q135:ρ 135=.pointer (some ⟨b81_10,1,none⟩):=hS 11 (by decide) 135 rfl
         exact o_v (r_ld one_int q135 ((B188eb81_10.ex F323o).cell rfl)) (want_t (t:=125) rfl q125 (of_not hc21)) rfl rfl (eo_nil ⟨rfl,rfl,_,rfl,Fr.refl _ _,rfl⟩)
        ·intro ρ w323o F323o hS hρ
         have q13:ρ 13=.pointer (some ⟨b81_10,0,none⟩):=hρ 13 (by kernel_rfl)
         have q125:ρ 125=.bool (worksV):=hS 1 (by decide) 125 rfl
         exact o_v (r_fa fld_api_Entry_0 rfl q13) (want_t (t:=125) rfl q125 (of_not hc21)) rfl rfl (eo_nil ⟨rfl,rfl,_,rfl,Fr.refl _ _,rfl⟩)
        ·intro ρ w323o F323o hS hρ
         have q125:ρ 125=.bool (worksV):=hS 1 (by decide) 125 rfl
         have q137:ρ 137=.pointer (some ⟨b81_10,0,none⟩):=hS 13 (by decide) 137 rfl
         exact o_v (r_ld one_string q137 ((B188eb81_10.ex F323o).cell rfl)) (want_t (t:=125) rfl q125 (of_not hc21)) rfl rfl (eo_nil ⟨rfl,rfl,_,rfl,Fr.refl _ _,rfl⟩)
        ·intro ρ w323o F323o hS hρ
         have q125:ρ 125=.bool (worksV):=hS 1 (by decide) 125 rfl
         have q136:ρ 136=.int .i64 (((nth d1.slots (Int.tmod (IntKind.i64.wrap d3) (d1.slots.length:Int))).val).kind):=hS 12 (by decide) 136 rfl
         have q138:ρ 138=str ((nth d1.slots (Int.tmod (IntKind.i64.wrap d3) (d1.slots.length:Int))).key):=hS 14 (by decide) 138 rfl
         exact o_v (r_build bld_buffer_Name (vs:=[(0,.int .i64 (((nth d1.slots (Int.tmod (IntKind.i64.wrap d3) (d1.slots.length:Int))).val).kind)),(1,str ((nth d1.slots (Int.tmod (IntKind.i64.wrap d3) (d1.slots.length:Int))).key))]) (cells:=[.int .i64 (((nth d1.slots (Int.tmod (IntKind.i64.wrap d3) (d1.slots.length:Int))).val).kind),str ((nth d1.slots (Int.tmod (IntKind.i64.wrap d3) (d1.slots.length:Int))).key)]) (by simp only [List.map,ev,q136,q138]) rfl) (want_t (t:=125) rfl q125 (of_not hc21)) rfl rfl (eo_nil ⟨rfl,rfl,_,rfl,Fr.refl _ _,rfl⟩)
        ·intro ρ w323o F323o hS hρ
         have q125:ρ 125=.bool (worksV):=hS 1 (by decide) 125 rfl
         have q133:ρ 133=.agg (cNm (nth x143.names (IntKind.i64.wrap ((x143.names.length:Int) - (1:Int))))).toArray:=hS 9 (by decide) 133 rfl
         have q139:ρ 139=.agg #[.int .i64 (((nth d1.slots (Int.tmod (IntKind.i64.wrap d3) (d1.slots.length:Int))).val).kind),str ((nth d1.slots (Int.tmod (IntKind.i64.wrap d3) (d1.slots.length:Int))).key)]:=hS 15 (by decide) 139 rfl
         exact o_v (r_eqSt eqg_buffer_Name (eqs_buffer_Name ((nth x143.names (IntKind.i64.wrap ((x143.names.length:Int) - (1:Int)))).kind) ((nth x143.names (IntKind.i64.wrap ((x143.names.length:Int) - (1:Int)))).key) (((nth d1.slots (Int.tmod (IntKind.i64.wrap d3) (d1.slots.length:Int))).val).kind) ((nth d1.slots (Int.tmod (IntKind.i64.wrap d3) (d1.slots.length:Int))).key)) q133 q139) (want_t (t:=125) rfl q125 (of_not hc21)) rfl rfl (eo_nil ⟨rfl,rfl,_,rfl,Fr.refl _ _,rfl⟩)
        ·intro ρ w323o F323o hS hρ
         have q125:ρ 125=.bool (worksV):=hS 1 (by decide) 125 rfl
         have q140:ρ 140=.bool ((((nth x143.names (IntKind.i64.wrap ((x143.names.length:Int) - (1:Int)))).kind)==(((nth d1.slots (Int.tmod (IntKind.i64.wrap d3) (d1.slots.length:Int))).val).kind))&&((((nth x143.names (IntKind.i64.wrap ((x143.names.length:Int) - (1:Int)))).key)==((nth d1.slots (Int.tmod (IntKind.i64.wrap d3) (d1.slots.length:Int))).key))&&true)):=hS 16 (by decide) 140 rfl
         exact o_q (r_pickT q125 (of_not hc21) q140) ⟨Fr.refl _ _,rfl⟩
        ·intro ρ w323o F323o hS hρ
         have q141:ρ 141=.bool ((((nth x143.names (IntKind.i64.wrap ((x143.names.length:Int) - (1:Int)))).kind)==(((nth d1.slots (Int.tmod (IntKind.i64.wrap d3) (d1.slots.length:Int))).val).kind))&&((((nth x143.names (IntKind.i64.wrap ((x143.names.length:Int) - (1:Int)))).key)==((nth d1.slots (Int.tmod (IntKind.i64.wrap d3) (d1.slots.length:Int))).key))&&true)):=hS 17 (by decide) 141 rfl
         exact o_q (r_mov q141) ⟨Fr.refl _ _,rfl⟩
        ·intro ρ w323o F323o hS hρ
         have q15:ρ 15=.int .i64 (IntKind.i64.wrap ((IntKind.i64.wrap ((x41.names.length:Int) + (1:Int))) - (x143.names.length:Int))):=hρ 15 (by kernel_rfl)
         have q142:ρ 142=.bool ((((nth x143.names (IntKind.i64.wrap ((x143.names.length:Int) - (1:Int)))).kind)==(((nth d1.slots (Int.tmod (IntKind.i64.wrap d3) (d1.slots.length:Int))).val).kind))&&((((nth x143.names (IntKind.i64.wrap ((x143.names.length:Int) - (1:Int)))).key)==((nth d1.slots (Int.tmod (IntKind.i64.wrap d3) (d1.slots.length:Int))).key))&&true)):=hS 18 (by decide) 142 rfl
         exact o_vg (want_ct (t:=142) rfl q142) (fun hk=>(r_mov q15)) rfl rfl (eo_nil ⟨rfl,rfl,_,rfl,Fr.refl _ _,rfl⟩)
        ·intro ρ w323o F323o hS hρ
         have q142:ρ 142=.bool ((((nth x143.names (IntKind.i64.wrap ((x143.names.length:Int) - (1:Int)))).kind)==(((nth d1.slots (Int.tmod (IntKind.i64.wrap d3) (d1.slots.length:Int))).val).kind))&&((((nth x143.names (IntKind.i64.wrap ((x143.names.length:Int) - (1:Int)))).key)==((nth d1.slots (Int.tmod (IntKind.i64.wrap d3) (d1.slots.length:Int))).key))&&true)):=hS 18 (by decide) 142 rfl
         have q143:ρ 143=(bif ((((nth x143.names (IntKind.i64.wrap ((x143.names.length:Int) - (1:Int)))).kind)==(((nth d1.slots (Int.tmod (IntKind.i64.wrap d3) (d1.slots.length:Int))).val).kind))&&((((nth x143.names (IntKind.i64.wrap ((x143.names.length:Int) - (1:Int)))).key)==((nth d1.slots (Int.tmod (IntKind.i64.wrap d3) (d1.slots.length:Int))).key))&&true)) then (.int .i64 (IntKind.i64.wrap ((IntKind.i64.wrap ((x41.names.length:Int) + (1:Int))) - (x143.names.length:Int))):Value) else undef):=hS 19 (by decide) 143 rfl
         exact o_vg (want_ct (t:=142) rfl q142) (fun hk=>(r_int (q143.trans (gdT hk)) rfl rfl)) rfl rfl (eo_nil ⟨rfl,rfl,_,rfl,Fr.refl _ _,rfl⟩)
        ·intro ρ w323o F323o hS hρ
         have q12:ρ 12=.pointer (some ⟨b53,0,none⟩):=hρ 12 (by kernel_rfl)
         have q142:ρ 142=.bool ((((nth x143.names (IntKind.i64.wrap ((x143.names.length:Int) - (1:Int)))).kind)==(((nth d1.slots (Int.tmod (IntKind.i64.wrap d3) (d1.slots.length:Int))).val).kind))&&((((nth x143.names (IntKind.i64.wrap ((x143.names.length:Int) - (1:Int)))).key)==((nth d1.slots (Int.tmod (IntKind.i64.wrap d3) (d1.slots.length:Int))).key))&&true)):=hS 18 (by decide) 142 rfl
         exact o_vg (want_ct (t:=142) rfl q142) (fun hk=>(r_fa fld_buffer_Buffer_2 rfl q12)) rfl rfl (eo_nil ⟨rfl,rfl,_,rfl,Fr.refl _ _,rfl⟩)
        ·intro ρ w323o F323o hS hρ
         have q142:ρ 142=.bool ((((nth x143.names (IntKind.i64.wrap ((x143.names.length:Int) - (1:Int)))).kind)==(((nth d1.slots (Int.tmod (IntKind.i64.wrap d3) (d1.slots.length:Int))).val).kind))&&((((nth x143.names (IntKind.i64.wrap ((x143.names.length:Int) - (1:Int)))).key)==((nth d1.slots (Int.tmod (IntKind.i64.wrap d3) (d1.slots.length:Int))).key))&&true)):=hS 18 (by decide) 142 rfl
         have q145:ρ 145=(bif ((((nth x143.names (IntKind.i64.wrap ((x143.names.length:Int) - (1:Int)))).kind)==(((nth d1.slots (Int.tmod (IntKind.i64.wrap d3) (d1.slots.length:Int))).val).kind))&&((((nth x143.names (IntKind.i64.wrap ((x143.names.length:Int) - (1:Int)))).key)==((nth d1.slots (Int.tmod (IntKind.i64.wrap d3) (d1.slots.length:Int))).key))&&true)) then (.pointer (some ⟨b53,2,none⟩):Value) else undef):=hS 21 (by decide) 145 rfl
         exact o_vg (want_ct (t:=142) rfl q142) (fun hk=>(r_ld one_s_buffer_Name (q145.trans (gdT hk)) ((B188eb53.ex F323o).cell rfl))) rfl rfl (eo_nil ⟨rfl,rfl,_,rfl,Fr.refl _ _,rfl⟩)
        ·intro ρ w323o F323o hS hρ
         have q142:ρ 142=.bool ((((nth x143.names (IntKind.i64.wrap ((x143.names.length:Int) - (1:Int)))).kind)==(((nth d1.slots (Int.tmod (IntKind.i64.wrap d3) (d1.slots.length:Int))).val).kind))&&((((nth x143.names (IntKind.i64.wrap ((x143.names.length:Int) - (1:Int)))).key)==((nth d1.slots (Int.tmod (IntKind.i64.wrap d3) (d1.slots.length:Int))).key))&&true)):=hS 18 (by decide) 142 rfl
         have q146:ρ 146=(bif ((((nth x143.names (IntKind.i64.wrap ((x143.names.length:Int) - (1:Int)))).kind)==(((nth d1.slots (Int.tmod (IntKind.i64.wrap d3) (d1.slots.length:Int))).val).kind))&&((((nth x143.names (IntKind.i64.wrap ((x143.names.length:Int) - (1:Int)))).key)==((nth d1.slots (Int.tmod (IntKind.i64.wrap d3) (d1.slots.length:Int))).key))&&true)) then (.slice A50 x41.names.length c51:Value) else undef):=hS 22 (by decide) 146 rfl
         exact o_vg (want_ct (t:=142) rfl q142) (fun hk=>(r_len_slc un_s_buffer_Name (q146.trans (gdT hk)))) rfl rfl (eo_nil ⟨rfl,rfl,_,rfl,Fr.refl _ _,rfl⟩)
        ·intro ρ w323o F323o hS hρ
         have q11:ρ 11=.int .i64 (IntKind.i64.wrap ((Int.tmod (IntKind.i64.wrap d2) (8:Int)) + (1:Int))):=hρ 11 (by kernel_rfl)
         have q142:ρ 142=.bool ((((nth x143.names (IntKind.i64.wrap ((x143.names.length:Int) - (1:Int)))).kind)==(((nth d1.slots (Int.tmod (IntKind.i64.wrap d3) (d1.slots.length:Int))).val).kind))&&((((nth x143.names (IntKind.i64.wrap ((x143.names.length:Int) - (1:Int)))).key)==((nth d1.slots (Int.tmod (IntKind.i64.wrap d3) (d1.slots.length:Int))).key))&&true)):=hS 18 (by decide) 142 rfl
         exact o_vg (want_ct (t:=142) rfl q142) (fun hk=>(r_mov q11)) rfl rfl (eo_nil ⟨rfl,rfl,_,rfl,Fr.refl _ _,rfl⟩)
        ·intro ρ w323o F323o hS hρ
         have q142:ρ 142=.bool ((((nth x143.names (IntKind.i64.wrap ((x143.names.length:Int) - (1:Int)))).kind)==(((nth d1.slots (Int.tmod (IntKind.i64.wrap d3) (d1.slots.length:Int))).val).kind))&&((((nth x143.names (IntKind.i64.wrap ((x143.names.length:Int) - (1:Int)))).key)==((nth d1.slots (Int.tmod (IntKind.i64.wrap d3) (d1.slots.length:Int))).key))&&true)):=hS 18 (by decide) 142 rfl
         have q147:ρ 147=(bif ((((nth x143.names (IntKind.i64.wrap ((x143.names.length:Int) - (1:Int)))).kind)==(((nth d1.slots (Int.tmod (IntKind.i64.wrap d3) (d1.slots.length:Int))).val).kind))&&((((nth x143.names (IntKind.i64.wrap ((x143.names.length:Int) - (1:Int)))).key)==((nth d1.slots (Int.tmod (IntKind.i64.wrap d3) (d1.slots.length:Int))).key))&&true)) then (.int .i64 (x41.names.length:Int):Value) else undef):=hS 23 (by decide) 147 rfl
         have q148:ρ 148=(bif ((((nth x143.names (IntKind.i64.wrap ((x143.names.length:Int) - (1:Int)))).kind)==(((nth d1.slots (Int.tmod (IntKind.i64.wrap d3) (d1.slots.length:Int))).val).kind))&&((((nth x143.names (IntKind.i64.wrap ((x143.names.length:Int) - (1:Int)))).key)==((nth d1.slots (Int.tmod (IntKind.i64.wrap d3) (d1.slots.length:Int))).key))&&true)) then (.int .i64 (IntKind.i64.wrap ((Int.tmod (IntKind.i64.wrap d2) (8:Int)) + (1:Int))):Value) else undef):=hS 24 (by decide) 148 rfl
         exact o_vg (want_ct (t:=142) rfl q142) (fun hk=>(r_int (q147.trans (gdT hk)) (q148.trans (gdT hk)) rfl)) rfl rfl (eo_nil ⟨rfl,rfl,_,rfl,Fr.refl _ _,rfl⟩)
        ·intro ρ w323o F323o hS hρ
         have q142:ρ 142=.bool ((((nth x143.names (IntKind.i64.wrap ((x143.names.length:Int) - (1:Int)))).kind)==(((nth d1.slots (Int.tmod (IntKind.i64.wrap d3) (d1.slots.length:Int))).val).kind))&&((((nth x143.names (IntKind.i64.wrap ((x143.names.length:Int) - (1:Int)))).key)==((nth d1.slots (Int.tmod (IntKind.i64.wrap d3) (d1.slots.length:Int))).key))&&true)):=hS 18 (by decide) 142 rfl
         have q144:ρ 144=(bif ((((nth x143.names (IntKind.i64.wrap ((x143.names.length:Int) - (1:Int)))).kind)==(((nth d1.slots (Int.tmod (IntKind.i64.wrap d3) (d1.slots.length:Int))).val).kind))&&((((nth x143.names (IntKind.i64.wrap ((x143.names.length:Int) - (1:Int)))).key)==((nth d1.slots (Int.tmod (IntKind.i64.wrap d3) (d1.slots.length:Int))).key))&&true)) then (.bool ((IntKind.i64.wrap ((IntKind.i64.wrap ((x41.names.length:Int) + (1:Int))) - (x143.names.length:Int)))==(1:Int)):Value) else undef):=hS 20 (by decide) 144 rfl
         have q149:ρ 149=(bif ((((nth x143.names (IntKind.i64.wrap ((x143.names.length:Int) - (1:Int)))).kind)==(((nth d1.slots (Int.tmod (IntKind.i64.wrap d3) (d1.slots.length:Int))).val).kind))&&((((nth x143.names (IntKind.i64.wrap ((x143.names.length:Int) - (1:Int)))).key)==((nth d1.slots (Int.tmod (IntKind.i64.wrap d3) (d1.slots.length:Int))).key))&&true)) then (.bool ((x41.names.length:Int)==(IntKind.i64.wrap ((Int.tmod (IntKind.i64.wrap d2) (8:Int)) + (1:Int)))):Value) else undef):=hS 25 (by decide) 149 rfl
         exact o_vg (want_ct (t:=142) rfl q142) (fun hk=>(r_boolEq un_bool (q144.trans (gdT hk)) (q149.trans (gdT hk)))) rfl rfl (eo_nil ⟨rfl,rfl,_,rfl,Fr.refl _ _,rfl⟩)
        ·intro ρ w323o F323o hS hρ
         have q142:ρ 142=.bool ((((nth x143.names (IntKind.i64.wrap ((x143.names.length:Int) - (1:Int)))).kind)==(((nth d1.slots (Int.tmod (IntKind.i64.wrap d3) (d1.slots.length:Int))).val).kind))&&((((nth x143.names (IntKind.i64.wrap ((x143.names.length:Int) - (1:Int)))).key)==((nth d1.slots (Int.tmod (IntKind.i64.wrap d3) (d1.slots.length:Int))).key))&&true)):=hS 18 (by decide) 142 rfl
         have q150:ρ 150=(bif ((((nth x143.names (IntKind.i64.wrap ((x143.names.length:Int) - (1:Int)))).kind)==(((nth d1.slots (Int.tmod (IntKind.i64.wrap d3) (d1.slots.length:Int))).val).kind))&&((((nth x143.names (IntKind.i64.wrap ((x143.names.length:Int) - (1:Int)))).key)==((nth d1.slots (Int.tmod (IntKind.i64.wrap d3) (d1.slots.length:Int))).key))&&true)) then (.bool (((IntKind.i64.wrap ((IntKind.i64.wrap ((x41.names.length:Int) + (1:Int))) - (x143.names.length:Int)))==(1:Int))==((x41.names.length:Int)==(IntKind.i64.wrap ((Int.tmod (IntKind.i64.wrap d2) (8:Int)) + (1:Int))))):Value) else undef):=hS 26 (by decide) 150 rfl
         exact o_q (r_pickAnd q142 (fun ht=>(q150.trans (gdT ht))) rfl) ⟨Fr.refl _ _,rfl⟩
        ·intro ρ w323o F323o hS hρ
         have q151:ρ 151=.bool (((((nth x143.names (IntKind.i64.wrap ((x143.names.length:Int) - (1:Int)))).kind)==(((nth d1.slots (Int.tmod (IntKind.i64.wrap d3) (d1.slots.length:Int))).val).kind))&&((((nth x143.names (IntKind.i64.wrap ((x143.names.length:Int) - (1:Int)))).key)==((nth d1.slots (Int.tmod (IntKind.i64.wrap d3) (d1.slots.length:Int))).key))&&true))&&(((IntKind.i64.wrap ((IntKind.i64.wrap ((x41.names.length:Int) + (1:Int))) - (x143.names.length:Int)))==(1:Int))==((x41.names.length:Int)==(IntKind.i64.wrap ((Int.tmod (IntKind.i64.wrap d2) (8:Int)) + (1:Int)))))):=hS 27 (by decide) 151 rfl
         exact o_q (r_asg q151) ⟨Fr.refl _ _,rfl⟩
       ·intro ρ w323 F323 hS hρ
        have q8:ρ 8=.bool (((((nth x143.names (IntKind.i64.wrap ((x143.names.length:Int) - (1:Int)))).kind)==(((nth d1.slots (Int.tmod (IntKind.i64.wrap d3) (d1.slots.length:Int))).val).kind))&&((((nth x143.names (IntKind.i64.wrap ((x143.names.length:Int) - (1:Int)))).key)==((nth d1.slots (Int.tmod (IntKind.i64.wrap d3) (d1.slots.length:Int))).key))&&true))&&(((IntKind.i64.wrap ((IntKind.i64.wrap ((x41.names.length:Int) + (1:Int))) - (x143.names.length:Int)))==(1:Int))==((x41.names.length:Int)==(IntKind.i64.wrap ((Int.tmod (IntKind.i64.wrap d2) (8:Int)) + (1:Int)))))):=hS 28 8 rfl
        obtain ⟨ρ',rfl⟩:∃ ρ',ρ=envs (ovr [8,124,125,126,127,128,129,130,131,132,133,134,135,136,137,138,139,140,141,142,143,144,145,146,147,148,149,150,151] ρ' _) [(8,.bool (((((nth x143.names (IntKind.i64.wrap ((x143.names.length:Int) - (1:Int)))).kind)==(((nth d1.slots (Int.tmod (IntKind.i64.wrap d3) (d1.slots.length:Int))).val).kind))&&((((nth x143.names (IntKind.i64.wrap ((x143.names.length:Int) - (1:Int)))).key)==((nth d1.slots (Int.tmod (IntKind.i64.wrap d3) (d1.slots.length:Int))).key))&&true))&&(((IntKind.i64.wrap ((IntKind.i64.wrap ((x41.names.length:Int) + (1:Int))) - (x143.names.length:Int)))==(1:Int))==((x41.names.length:Int)==(IntKind.i64.wrap ((Int.tmod (IntKind.i64.wrap d2) (8:Int)) + (1:Int)))))))]:=⟨ρ,ovr_self hρ ⟨q8,trivial⟩⟩
        have E406:=E188e.trans F323
        refine sq_n ?_
        refine ec_ret ?_
        subst h
        exact (end1 rfl ⟨_,rfl,E406,rfl⟩)
      ·rintro y188 rfl ρ188q ds188q w188q hJ
       have hy:=h.2 _ rfl
       subst hy
       refine blk_ret ?_
       refine sq_ret ?_
       exact hJ
end Go.Proofs.Ytpopikeebobjnaa
