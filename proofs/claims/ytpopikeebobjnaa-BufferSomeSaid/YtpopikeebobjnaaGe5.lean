/- The law BufferSome: what it comes to. -/
import Derived.Test.YtpopikeebobjnaaFx
namespace Go.Proofs.Ytpopikeebobjnaa
open Go Go.RowKit
set_option linter.unusedVariables false
set_option linter.unusedSimpArgs false
def law16_BufferSome_b82 (d1:Arena) (x41:Buf) (x69:(List Ent)) (s82:Int) (z82:(Int) ⊕ ((Int) ⊕ (Bool))):Prop :=
 ((decide (s82<(x69.length:Int)))=true→((0≤s82∧s82<(x41.names.length:Int))∧((0≤s82∧s82<(x41.names.length:Int))∧(sma d1∧(∃ x110,x110=(findA d1 ((nth x41.names s82).kind) ((nth x41.names s82).key))∧(((decide (x110<(0:Int)))=true→(z82=.inr (.inr false)))∧((decide (x110<(0:Int)))=false→((0≤s82∧s82<(x69.length:Int))∧((0≤x110∧x110<(d1.slots.length:Int))∧(sm (nth x69 s82).val∧(((!(sameE (nth x69 s82) (nth d1.slots x110)))=true→(z82=.inr (.inr false)))∧((!(sameE (nth x69 s82) (nth d1.slots x110)))=false→(z82=.inl (IntKind.i64.wrap (s82 + (1:Int))))))))))))))))∧((decide (s82<(x69.length:Int)))=false→(z82=.inr (.inl s82)))
def law16_BufferSome_raw (d0:Buf) (d1:Arena) (d2:Int) (d3:Int) (y:Bool):Prop :=
 ((!(worksV))=true→(y=false))∧((!(worksV))=false→(((!(!((fewB d0)&&(fewA d1))))=true→sma d1)∧((((!((fewB d0)&&(fewA d1)))||((checkA d1) != (0:Int)))=true→(y=(worksV)))∧(((!((fewB d0)&&(fewA d1)))||((checkA d1) != (0:Int)))=false→((smB d0)∧((sma d1)∧(∃ x41,x41=(mendB d0 d1 (IntKind.i64.wrap ((Int.tmod (IntKind.i64.wrap d2) (8:Int)) + (1:Int))))∧((smB d0)∧((sma d1)∧(∃ x69,x69=(someB d0 d1 (IntKind.i64.wrap ((Int.tmod (IntKind.i64.wrap d2) (8:Int)) + (1:Int))) (IntKind.i64.wrap d3))∧((((x69.length:Int) != (min (IntKind.i64.wrap d3) (x41.names.length:Int)))=true→(y=false))∧(((x69.length:Int) != (min (IntKind.i64.wrap d3) (x41.names.length:Int)))=false→(∃ x82,LoopR (law16_BufferSome_b82 d1 x41 x69) (0:Int) x82∧(∀ sx82,x82=.inl sx82→(y=(worksV)))∧(∀ y82,x82=.inr y82→(y=y82)))))))))))))))
set_option maxRecDepth 20000 in
set_option maxHeartbeats 4000000 in
theorem law16_BufferSome_c {L:List Nat} {w:World} {csP0:List Value} (d0:Buf) (HP0:Stb L w (fun w=>kBuf.r w csP0 d0)) {csP1:List Value} (d1:Arena) (HP1:Stb L w (fun w=>kArena.r w csP1 d1)) (d2:Int) (d3:Int) (hL:Lt L w) {y:Bool} (h:law16_BufferSome_raw d0 d1 d2 d3 y) :
  Calls Try.prog 7 [.agg csP0.toArray,.agg csP1.toArray,.int .u8 d2,.int .u8 d3].toArray w (Ret fun v w'=>Ext w w'∧v=.bool y):=by
 obtain ⟨A1,c2,rfl,H3⟩:=kBuf_open HP0
 obtain ⟨A4,c5,A7,c8,rfl,H6,H9⟩:=kArena_open HP1
 unfold law16_BufferSome_raw at h
 refine calls_ec Try.func7 rfl rfl rfl ?_
 refine ec_seq ?_
 refine ec_region ?_
 refine o_box (cs:=(cBuf d0 A1 c2)) rfl rfl rfl ?_
 intro b10 w10 e10 F10 B10
 have S10:=B10.stb (nin hL e10)
 have G11:Fr L w w10:=Fr.ext F10
 refine o_box (cs:=(cArena d1 A4 c5 A7 c8)) rfl rfl rfl ?_
 intro b12 w12 e12 F12 B12
 have S12:=B12.stb (nin (hL.fr F10) e12)
 have E13:=F10.trans F12
 have G15:Fr L w10 w12:=Fr.ext F12
 refine o_w (v:=.bool false) (r_asg rfl) ?_
 refine eo_nil_sq ?_
 refine ec_seq ?_
 refine ec_region ?_
 refine o_call cf_law16_works rfl (law16_works_c (hL.fr E13) (works16_ev)) rfl rfl ?_
 rintro _ w16 ⟨F16,rfl⟩
 have E17:=E13.trans F16
 have G20:Fr L w12 w16:=Fr.ext F16
 refine o_w (v:=.bool (worksV)) (r_asg rfl) ?_
 refine eo_nil_sq ?_
 iterate 2 refine ec_seq ?_
 refine ec_region ?_
 refine o_w (v:=.bool (worksV)) (r_mov rfl) ?_
 refine o_w (v:=.bool (!(worksV))) (r_not rfl) ?_
 refine eo_nil_sq ?_
 refine ec_cond rfl (fun hc21=>?_) (fun hc21=>?_)
 ·replace h:=h.1 hc21
  refine ec_seq ?_
  refine ec_region ?_
  refine o_w (v:=.bool false) (r_asg rfl) ?_
  refine eo_nil_sq ?_
  refine ec_ret ?_
  refine sq_ret ?_
  subst h
  exact (end1 rfl ⟨_,rfl,E17,rfl⟩)
 ·replace h:=h.2 hc21
  refine ec_skip ?_
  refine sq_n ?_
  refine ec_seq ?_
  refine ec_region ?_
  refine o_w (v:=.agg (cBuf d0 A1 c2).toArray) (r_lda agg_buffer_Buffer rfl (vs:=(cBuf d0 A1 c2)) rfl ((S10.fr (G15.trans (Fr.ext F16)) (fun _ h=>h)).now.part (n:=3) rfl)) ?_
  refine o_call cf_law16_Few rfl (law16_Few_c d0 (kBuf_mk (d:=d0) (H3.fr ((G11.trans (Fr.ext F12)).trans (Fr.ext F16)) (fun _ h=>h))) (hL.fr E17) (fewB_ev d0)) rfl rfl ?_
  rintro _ w23 ⟨F23,rfl⟩
  have E24:=E17.trans F23
  refine o_w (v:=.bool (fewB d0)) (r_mov rfl) ?_
  refine o_vg (v:=.agg (cArena d1 A4 c5 A7 c8).toArray) (want_ct (t:=21) rfl rfl) (fun hk=>(r_lda agg_api_Arena rfl (vs:=(cArena d1 A4 c5 A7 c8)) rfl ((S12.fr (G20.trans (Fr.ext F23)) (fun _ h=>h)).now.part (n:=3) rfl))) rfl rfl ?_
  refine o_callg (V:=.bool (fewA d1)) cf_law08_Few (want_ct (t:=21) rfl rfl) (fun hk=>(mapv1 (gdT hk))) (fun hk=>(law08_Few_c d1 (kArena_mk (d:=d1) (H6.fr (((G11.trans (Fr.ext F12)).trans (Fr.ext F16)).trans (Fr.ext F23)) (fun _ h=>h)) (H9.fr (((G11.trans (Fr.ext F12)).trans (Fr.ext F16)).trans (Fr.ext F23)) (fun _ h=>h))) (hL.fr E24) (fewA_ev d1))) rfl ?_
  intro w28 F28
  have E29:=E24.trans F28
  have G30:=(((G11.trans (Fr.ext F12)).trans (Fr.ext F16)).trans (Fr.ext F23)).trans (Fr.ext F28)
  refine o_w (v:=.bool ((fewB d0)&&(fewA d1))) (r_pickAnd rfl (fun ht=>(gdT ht)) rfl) ?_
  refine o_w (v:=.bool ((fewB d0)&&(fewA d1))) (r_asg rfl) ?_
  refine eo_nil_sq ?_
  refine ec_seq ?_
  refine ec_region ?_
  refine o_w (v:=.int .u8 d2) (r_mov rfl) ?_
  refine o_w (v:=.int .i64 (IntKind.i64.wrap d2)) (r_conv un_uint8 un_int rfl) ?_
  refine o_w (v:=.int .i64 (Int.tmod (IntKind.i64.wrap d2) (8:Int))) (r_rem rfl rfl rfl) ?_
  refine o_w (v:=.int .i64 (IntKind.i64.wrap ((Int.tmod (IntKind.i64.wrap d2) (8:Int)) + (1:Int)))) (r_int rfl rfl rfl) ?_
  refine o_w (v:=.int .i64 (IntKind.i64.wrap ((Int.tmod (IntKind.i64.wrap d2) (8:Int)) + (1:Int)))) (r_asg rfl) ?_
  refine eo_nil_sq ?_
  iterate 2 refine ec_seq ?_
  refine ec_region ?_
  refine o_w (v:=.bool ((fewB d0)&&(fewA d1))) (r_mov rfl) ?_
  refine o_w (v:=.bool (!((fewB d0)&&(fewA d1)))) (r_not rfl) ?_
  refine o_w (v:=.bool (!((fewB d0)&&(fewA d1)))) (r_mov rfl) ?_
  refine o_vg (v:=.agg (cArena d1 A4 c5 A7 c8).toArray) (want_cf (t:=31) rfl rfl) (fun hk=>(r_lda agg_api_Arena rfl (vs:=(cArena d1 A4 c5 A7 c8)) rfl ((S12.fr ((G20.trans (Fr.ext F23)).trans (Fr.ext F28)) (fun _ h=>h)).now.part (n:=3) rfl))) rfl rfl ?_
  obtain ⟨ha35,h⟩:=h
  refine o_callg (V:=.int .i64 (checkA d1)) cf_arena_Check (want_cf (t:=31) rfl rfl) (fun hk=>(mapv1 (gdT hk))) (fun hk=>(arena_Check_c d1 (kArena_mk (d:=d1) (H6.fr G30 (fun _ h=>h)) (H9.fr G30 (fun _ h=>h))) (hL.fr E29) (arCheck_ev d1 (ha35 hk)))) rfl ?_
  intro w34 F34
  have E36:=E29.trans F34
  have G38:=(((G15.trans (Fr.ext F16)).trans (Fr.ext F23)).trans (Fr.ext F28)).trans (Fr.ext F34)
  refine o_vg (v:=.bool ((checkA d1) != (0:Int))) (want_cf (t:=31) rfl rfl) (fun hk=>(r_int (gdT hk) rfl rfl)) rfl rfl ?_
  refine o_w (v:=.bool ((!((fewB d0)&&(fewA d1)))||((checkA d1) != (0:Int)))) (r_pickOr rfl rfl (fun hf=>(gdT (notT hf)))) ?_
  refine eo_nil_sq ?_
  refine ec_cond rfl (fun hc40=>?_) (fun hc40=>?_)
  ·replace h:=h.1 hc40
   refine ec_seq ?_
   refine ec_region ?_
   refine o_w (v:=.bool (worksV)) (r_mov rfl) ?_
   refine o_w (v:=.bool (worksV)) (r_asg rfl) ?_
   refine eo_nil_sq ?_
   refine ec_ret ?_
   refine sq_ret ?_
   subst h
   exact (end1 rfl ⟨_,rfl,E36,rfl⟩)
  ·replace h:=h.2 hc40
   refine ec_skip ?_
   refine sq_n ?_
   refine ec_seq ?_
   refine ec_region ?_
   refine o_w (v:=.agg (cBuf d0 A1 c2).toArray) (r_lda agg_buffer_Buffer rfl (vs:=(cBuf d0 A1 c2)) rfl ((S10.fr G38 (fun _ h=>h)).now.part (n:=3) rfl)) ?_
   refine o_w (v:=.agg (cArena d1 A4 c5 A7 c8).toArray) (r_lda agg_api_Arena rfl (vs:=(cArena d1 A4 c5 A7 c8)) rfl ((S12.fr (((G20.trans (Fr.ext F23)).trans (Fr.ext F28)).trans (Fr.ext F34)) (fun _ h=>h)).now.part (n:=3) rfl)) ?_
   refine o_w (v:=.int .i64 (IntKind.i64.wrap ((Int.tmod (IntKind.i64.wrap d2) (8:Int)) + (1:Int)))) (r_mov rfl) ?_
   obtain ⟨ha42,h⟩:=h
   obtain ⟨ha43,h⟩:=h
   obtain ⟨x41,hx41,h⟩:=h
   refine o_call cf_buffer_Mend rfl (buffer_Mend_c d0 (kBuf_mk (d:=d0) (H3.fr (G30.trans (Fr.ext F34)) (fun _ h=>h))) d1 (kArena_mk (d:=d1) (H6.fr (G30.trans (Fr.ext F34)) (fun _ h=>h)) (H9.fr (G30.trans (Fr.ext F34)) (fun _ h=>h))) (IntKind.i64.wrap ((Int.tmod (IntKind.i64.wrap d2) (8:Int)) + (1:Int))) (hL.fr E36) (eq_ev hx41 (bufMend_ev d0 d1 (IntKind.i64.wrap ((Int.tmod (IntKind.i64.wrap d2) (8:Int)) + (1:Int))) ha42 ha43))) rfl rfl ?_
   rintro _ w41 ⟨F41,cs44,rfl,H45⟩
   have E46:=E36.trans F41
   have G49:=(((G20.trans (Fr.ext F23)).trans (Fr.ext F28)).trans (Fr.ext F34)).trans (Fr.ext F41)
   obtain ⟨A50,c51,rfl,H52⟩:=kBuf_open H45
   refine o_alloc zero_buffer_Buffer rfl rfl rfl ?_
   intro b53 w53 e53 F53 B53
   have n53:w.heap.size≤b53:=by rw [e53]; exact E46.size
   have m54:w.heap.size≤b53:=by rw [e53]; exact ((G30.trans (Fr.ext F34)).trans (Fr.ext F41)).size
   have m55:w10.heap.size≤b53:=by rw [e53]; exact (G38.trans (Fr.ext F41)).size
   have m56:w12.heap.size≤b53:=by rw [e53]; exact G49.size
   have m57:w41.heap.size≤b53:=Nat.le_of_eq e53.symm
   have E58:=E46.trans F53
   have G62:Fr L w41 w53:=Fr.ext F53
   refine o_store rfl B53 (vs:=(cBuf x41 A50 c51)) rfl sz_buffer_Buffer rfl rfl rfl ?_
   intro w63 F63 B63
   have E64:=Ext.st E58 F63 (by simp; omega)
   have G65:Fr L w w63:=(((G30.trans (Fr.ext F34)).trans (Fr.ext F41)).trans (Fr.ext F53)).stp F63 (upc (.inr m54) (fun m hm=>by cases hm))
   have G66:Fr L w10 w63:=((G38.trans (Fr.ext F41)).trans (Fr.ext F53)).stp F63 (upc (.inr m55) (fun m hm=>by cases hm))
   have G67:Fr L w12 w63:=(G49.trans (Fr.ext F53)).stp F63 (upc (.inr m56) (fun m hm=>by cases hm))
   have G68:Fr L w41 w63:=G62.stp F63 (upc (.inr m57) (fun m hm=>by cases hm))
   have B63':Blk w63 b53 _ (cBuf x41 A50 c51):=B63
   refine eo_nil_sq ?_
   refine ec_seq ?_
   refine ec_region ?_
   refine o_w (v:=.agg (cBuf d0 A1 c2).toArray) (r_lda agg_buffer_Buffer rfl (vs:=(cBuf d0 A1 c2)) rfl ((S10.fr G66 (fun _ h=>h)).now.part (n:=3) rfl)) ?_
   refine o_w (v:=.agg (cArena d1 A4 c5 A7 c8).toArray) (r_lda agg_api_Arena rfl (vs:=(cArena d1 A4 c5 A7 c8)) rfl ((S12.fr G67 (fun _ h=>h)).now.part (n:=3) rfl)) ?_
   refine o_w (v:=.int .i64 (IntKind.i64.wrap ((Int.tmod (IntKind.i64.wrap d2) (8:Int)) + (1:Int)))) (r_mov rfl) ?_
   refine o_w (v:=.int .u8 d3) (r_mov rfl) ?_
   refine o_w (v:=.int .i64 (IntKind.i64.wrap d3)) (r_conv un_uint8 un_int rfl) ?_
   obtain ⟨ha70,h⟩:=h
   obtain ⟨ha71,h⟩:=h
   obtain ⟨x69,hx69,h⟩:=h
   refine o_call cf_buffer_Some rfl (buffer_Some_c d0 (kBuf_mk (d:=d0) (H3.up G65 (fun _ h=>h) (upc (.inr m54) (fun _ h=>.inl h)))) d1 (kArena_mk (d:=d1) (H6.up G65 (fun _ h=>h) (upc (.inr m54) (fun _ h=>.inl h))) (H9.up G65 (fun _ h=>h) (upc (.inr m54) (fun _ h=>.inl h)))) (IntKind.i64.wrap ((Int.tmod (IntKind.i64.wrap d2) (8:Int)) + (1:Int))) (IntKind.i64.wrap d3) ((hL.fr E64).cons B63'.lt) (eq_ev hx69 (bufSome_ev d0 d1 (IntKind.i64.wrap ((Int.tmod (IntKind.i64.wrap d2) (8:Int)) + (1:Int))) (IntKind.i64.wrap d3) ha70 ha71))) rfl rfl ?_
   rintro _ w69 ⟨F69,A72,c73,rfl,H74⟩
   have E75:=E64.trans F69
   refine o_w (v:=.slice A72 x69.length c73) (r_asg rfl) ?_
   refine eo_nil_sq ?_
   iterate 2 refine ec_seq ?_
   refine ec_region ?_
   refine o_w (v:=.slice A72 x69.length c73) (r_mov rfl) ?_
   refine o_w (v:=.int .i64 (x69.length:Int)) (r_len_slc un_s_api_Entry rfl) ?_
   refine o_w (v:=.int .u8 d3) (r_mov rfl) ?_
   refine o_w (v:=.int .i64 (IntKind.i64.wrap d3)) (r_conv un_uint8 un_int rfl) ?_
   refine o_w (v:=.pointer (some ⟨b53,2,none⟩)) (r_fa fld_buffer_Buffer_2 rfl rfl) ?_
   refine o_w (v:=.slice A50 x41.names.length c51) (r_ld one_s_buffer_Name rfl ((B63'.ex F69).cell rfl)) ?_
   refine o_w (v:=.int .i64 (x41.names.length:Int)) (r_len_slc un_s_buffer_Name rfl) ?_
   refine o_w (v:=.int .i64 (min (IntKind.i64.wrap d3) (x41.names.length:Int))) (r_min rfl rfl) ?_
   refine o_w (v:=.bool ((x69.length:Int) != (min (IntKind.i64.wrap d3) (x41.names.length:Int)))) (r_int rfl rfl rfl) ?_
   refine eo_nil_sq ?_
   refine ec_cond rfl (fun hc81=>?_) (fun hc81=>?_)
   ·replace h:=h.1 hc81
    refine ec_seq ?_
    refine ec_region ?_
    refine o_w (v:=.bool false) (r_asg rfl) ?_
    refine eo_nil_sq ?_
    refine ec_ret ?_
    refine sq_ret ?_
    subst h
    exact (end1 rfl ⟨_,rfl,E75,rfl⟩)
   ·replace h:=h.2 hc81
    refine ec_skip ?_
    refine sq_n ?_
    iterate 2 refine ec_seq ?_
    refine ec_region ?_
    refine o_w (v:=.int .i64 (0:Int)) (r_asg rfl) ?_
    refine eo_nil_sq ?_
    refine ec_block ?_
    obtain ⟨x82,hl82,h⟩:=h
    refine ec_loopER 0 (I:=(fun (s82:Int) ρ ds w'=>∃ (ρ':Env),ρ=envs ρ' [(14,.int .i64 s82),(5,.pointer (some ⟨b12,0,none⟩)),(9,.bool (worksV)),(12,.pointer (some ⟨b53,0,none⟩)),(13,.slice A72 x69.length c73)]∧ds=[]∧Fr (b53::L) w69 w'∧Ext w w'∧Blk w' b53 24 (cBuf x41 A50 c51))) (J:=(fun (y':Bool) ρ ds wz=>bodyE Try.prog #[.tmp 8] (Ret fun v w'=>Ext w w'∧v=.bool y') .ret ρ ds wz)) ?_ hl82 ?_ ?_ ?_
    ·intro s82 z82 ρ82 ds82 w82r hI82 hb82
     obtain ⟨ρ82r,rfl,rfl,F82r,E82r,B82rb53⟩:=hI82
     have h:=hb82
     unfold law16_BufferSome_b82 at h
     have G83:Fr L w w82r:=(G65.trans (Fr.ext F69)).stp F82r (upc (.inr m54) (fun _ h=>.inl h))
     have G85:Fr L w12 w82r:=(G67.trans (Fr.ext F69)).stp F82r (upc (.inr m56) (fun _ h=>.inl h))
     have G86:Fr L w41 w82r:=(G68.trans (Fr.ext F69)).stp F82r (upc (.inr m57) (fun _ h=>.inl h))
     have G87:Fr (b53::L) w69 w82r:=(Fr.refl _ _).stp F82r (upc (.inl (List.Mem.head _)) (fun m hm=>Or.inl (List.Mem.tail _ hm)))
     iterate 2 refine ec_seq ?_
     refine ec_region ?_
     refine o_w (v:=.int .i64 s82) (r_mov rfl) ?_
     refine o_w (v:=.slice A72 x69.length c73) (r_mov rfl) ?_
     refine o_w (v:=.int .i64 (x69.length:Int)) (r_len_slc un_s_api_Entry rfl) ?_
     refine o_w (v:=.bool (decide (s82<(x69.length:Int)))) (r_int rfl rfl rfl) ?_
     refine eo_nil_sq ?_
     refine ec_cond rfl (fun hc88=>?_) (fun hc88=>?_)
     ·replace h:=h.1 hc88
      refine ec_skip ?_
      refine sq_n ?_
      refine ec_seq ?_
      refine ec_block ?_
      refine ec_seq ?_
      obtain ⟨ha100,h⟩:=h
      obtain ⟨cs101,l103,H102⟩:=Stb.elem (by decide) (H52.up G86 (fun _ h=>h) (upc (.inr m57) (fun _ h=>.inl h))) s82 ha100.1 ha100.2
      obtain ⟨rfl,H104⟩:=kNm_open2 H102
      obtain ⟨ha105,h⟩:=h
      obtain ⟨cs106,l108,H107⟩:=Stb.elem (by decide) (H52.up G86 (fun _ h=>h) (upc (.inr m57) (fun _ h=>.inl h))) s82 ha105.1 ha105.2
      obtain ⟨rfl,H109⟩:=kNm_open2 H107
      obtain ⟨ha111,h⟩:=h
      obtain ⟨x110,hx110,h⟩:=h
      refine ec_any0 (by kernel_rfl) [[],[],[1],[],[1,2,3],[1,2,3,4],[1,2,3,4,5],[],[7],[],[7,8,9],[7,8,9,10],[7,8,9,10,11],[0,1,2,3,4,5,6,7,8,9,10,11,12],[0,1,2,3,4,5,6,7,8,9,10,11,12,13]] [15,62,63,64,65,66,67,68,69,70,71,72,73,74,75] [fun v _=>v=(.agg (cArena d1 A4 c5 A7 c8).toArray:Value),fun v _=>v=(.pointer (some ⟨b53,2,none⟩):Value),fun v _=>v=(.slice A50 x41.names.length c51:Value),fun v _=>v=(.int .i64 s82:Value),fun v _=>v=(.pointer (some (elemA A50 kNm.n s82.toNat)):Value),fun v _=>v=(.pointer (some (ad (elemA A50 kNm.n s82.toNat) 0)):Value),fun v _=>v=(.int .i64 ((nth x41.names s82).kind):Value),fun v _=>v=(.pointer (some ⟨b53,2,none⟩):Value),fun v _=>v=(.slice A50 x41.names.length c51:Value),fun v _=>v=(.int .i64 s82:Value),fun v _=>v=(.pointer (some (elemA A50 kNm.n s82.toNat)):Value),fun v _=>v=(.pointer (some (ad (elemA A50 kNm.n s82.toNat) 1)):Value),fun v _=>v=(str ((nth x41.names s82).key):Value),fun v _=>v=(.int .i64 x110:Value),fun v _=>v=(.int .i64 x110:Value)] (by kernel_rfl) ⟨fun _ _ _ _ _ h=>h,fun _ _ _ _ _ h=>h,fun _ _ _ _ _ h=>h,fun _ _ _ _ _ h=>h,fun _ _ _ _ _ h=>h,fun _ _ _ _ _ h=>h,fun _ _ _ _ _ h=>h,fun _ _ _ _ _ h=>h,fun _ _ _ _ _ h=>h,fun _ _ _ _ _ h=>h,fun _ _ _ _ _ h=>h,fun _ _ _ _ _ h=>h,fun _ _ _ _ _ h=>h,fun _ _ _ _ _ h=>h,fun _ _ _ _ _ h=>h,trivial⟩ ?_ ?_
      ·refine ⟨?_,?_,?_,?_,?_,?_,?_,?_,?_,?_,?_,?_,?_,?_,?_,trivial⟩
       ·intro ρ w99o F99o hS hρ
        have q5:ρ 5=.pointer (some ⟨b12,0,none⟩):=hρ 5 (by kernel_rfl)
        exact o_q (r_lda agg_api_Arena q5 (vs:=(cArena d1 A4 c5 A7 c8)) rfl ((S12.fr (G85.trans (Fr.ext F99o)) (fun _ h=>h)).now.part (n:=3) rfl)) ⟨Fr.refl _ _,rfl⟩
       ·intro ρ w99o F99o hS hρ
        have q12:ρ 12=.pointer (some ⟨b53,0,none⟩):=hρ 12 (by kernel_rfl)
        exact o_q (r_fa fld_buffer_Buffer_2 rfl q12) ⟨Fr.refl _ _,rfl⟩
       ·intro ρ w99o F99o hS hρ
        have q63:ρ 63=.pointer (some ⟨b53,2,none⟩):=hS 1 (by decide) 63 rfl
        exact o_q (r_ld one_s_buffer_Name q63 ((B82rb53.ex F99o).cell rfl)) ⟨Fr.refl _ _,rfl⟩
       ·intro ρ w99o F99o hS hρ
        have q14:ρ 14=.int .i64 s82:=hρ 14 (by kernel_rfl)
        exact o_q (r_mov q14) ⟨Fr.refl _ _,rfl⟩
       ·intro ρ w99o F99o hS hρ
        have q64:ρ 64=.slice A50 x41.names.length c51:=hS 2 (by decide) 64 rfl
        have q65:ρ 65=.int .i64 s82:=hS 3 (by decide) 65 rfl
        exact o_q (r_ia slc_s_buffer_Name q64 q65 ((H52.fr (G86.trans (Fr.ext F99o)) (fun _ h=>h)).now.2 _ (lt_toNat ha100.1 ha100.2)).1 ha100.1 ha100.2) ⟨Fr.refl _ _,rfl⟩
       ·intro ρ w99o F99o hS hρ
        have q66:ρ 66=.pointer (some (elemA A50 kNm.n s82.toNat)):=hS 4 (by decide) 66 rfl
        exact o_q (r_fad fld_buffer_Name_0 (elemA_spot _ _ _) q66) ⟨Fr.refl _ _,rfl⟩
       ·intro ρ w99o F99o hS hρ
        have G146:Fr (b53::L) w82r w99o:=Fr.ext F99o
        have q67:ρ 67=.pointer (some (ad (elemA A50 kNm.n s82.toNat) 0)):=hS 5 (by decide) 67 rfl
        exact o_q (r_ld' one_int q67 rfl ((H104.fr G146 (fun _ h=>h)).now.1.at (j:=0) rfl)) ⟨Fr.refl _ _,rfl⟩
       ·intro ρ w99o F99o hS hρ
        have q12:ρ 12=.pointer (some ⟨b53,0,none⟩):=hρ 12 (by kernel_rfl)
        exact o_q (r_fa fld_buffer_Buffer_2 rfl q12) ⟨Fr.refl _ _,rfl⟩
       ·intro ρ w99o F99o hS hρ
        have q69:ρ 69=.pointer (some ⟨b53,2,none⟩):=hS 7 (by decide) 69 rfl
        exact o_q (r_ld one_s_buffer_Name q69 ((B82rb53.ex F99o).cell rfl)) ⟨Fr.refl _ _,rfl⟩
       ·intro ρ w99o F99o hS hρ
        have q14:ρ 14=.int .i64 s82:=hρ 14 (by kernel_rfl)
        exact o_q (r_mov q14) ⟨Fr.refl _ _,rfl⟩
       ·intro ρ w99o F99o hS hρ
        have q70:ρ 70=.slice A50 x41.names.length c51:=hS 8 (by decide) 70 rfl
        have q71:ρ 71=.int .i64 s82:=hS 9 (by decide) 71 rfl
        exact o_q (r_ia slc_s_buffer_Name q70 q71 ((H52.fr (G86.trans (Fr.ext F99o)) (fun _ h=>h)).now.2 _ (lt_toNat ha105.1 ha105.2)).1 ha105.1 ha105.2) ⟨Fr.refl _ _,rfl⟩
       ·intro ρ w99o F99o hS hρ
        have q72:ρ 72=.pointer (some (elemA A50 kNm.n s82.toNat)):=hS 10 (by decide) 72 rfl
        exact o_q (r_fad fld_buffer_Name_1 (elemA_spot _ _ _) q72) ⟨Fr.refl _ _,rfl⟩
       ·intro ρ w99o F99o hS hρ
        have G173:Fr (b53::L) w82r w99o:=Fr.ext F99o
        have q73:ρ 73=.pointer (some (ad (elemA A50 kNm.n s82.toNat) 1)):=hS 11 (by decide) 73 rfl
        exact o_q (r_ld' one_string q73 rfl ((H109.fr G173 (fun _ h=>h)).now.1.at (j:=1) rfl)) ⟨Fr.refl _ _,rfl⟩
       ·intro ρ w99o F99o hS hρ
        have E175:=E82r.trans F99o
        have q62:ρ 62=.agg (cArena d1 A4 c5 A7 c8).toArray:=hS 0 (by decide) 62 rfl
        have q68:ρ 68=.int .i64 ((nth x41.names s82).kind):=hS 6 (by decide) 68 rfl
        have q74:ρ 74=str ((nth x41.names s82).key):=hS 12 (by decide) 74 rfl
        refine o_call cf_arena_Find (by simp only [List.map,ev,q62,q68,q74] <;> rfl) (arena_Find_c d1 (kArena_mk (d:=d1) (H6.up (G83.trans (Fr.ext F99o)) (fun _ h=>h) (upc (.inr m54) (fun _ h=>.inl h))) (H9.up (G83.trans (Fr.ext F99o)) (fun _ h=>h) (upc (.inr m54) (fun _ h=>.inl h)))) ((nth x41.names s82).kind) ((nth x41.names s82).key) ((hL.fr E175).cons (B82rb53.ex F99o).lt) (eq_ev hx110 (arFind_ev d1 ((nth x41.names s82).kind) ((nth x41.names s82).key) ha111))) rfl rfl ?_
        rintro _ w' ⟨F,rfl⟩
        exact eo_nil ⟨rfl,rfl,_,rfl,F,rfl⟩
       ·intro ρ w99o F99o hS hρ
        have q75:ρ 75=.int .i64 x110:=hS 13 (by decide) 75 rfl
        exact o_q (r_asg q75) ⟨Fr.refl _ _,rfl⟩
      ·intro ρ w99 F99 hS hρ
       have q15:ρ 15=.int .i64 x110:=hS 14 15 rfl
       obtain ⟨ρ',rfl⟩:∃ ρ',ρ=envs (ovr [15,62,63,64,65,66,67,68,69,70,71,72,73,74,75] ρ' _) [(15,.int .i64 x110)]:=⟨ρ,ovr_self hρ ⟨q15,trivial⟩⟩
       have E184:=E82r.trans F99
       refine sq_n ?_
       refine ec_seq ?_
       rcases Bool.eq_false_or_eq_true (decide (x110<(0:Int))) with hc215 | hc215
       ·replace h:=h.1 hc215
        refine ec_any0 (by kernel_rfl) [[],[0],[0,1],[0,1,2],[0,1,2],[0,1,2,3,4],[0,1,2,3,4,5],[0,1,2],[0,1,2,7],[0,1,2],[0,1,2,7,8,9],[0,1,2,7,8,9,10],[0,1,2,3,4,5,6,7,8,9,10,11],[0,1,2,3,4,5,6,7,8,9,10,11,12],[0,1,2,3,4,5,6,7,8,9,10,11,12,13]] [76,77,78,79,80,81,82,83,84,85,86,87,88,89,90] [fun v _=>v=(.int .i64 x110:Value),fun v _=>v=(.bool (decide (x110<(0:Int))):Value),fun v _=>v=(.bool (decide (x110<(0:Int))):Value),fun v _=>v=((undef:Value):Value),fun v _=>v=((undef:Value):Value),fun v _=>v=((undef:Value):Value),fun v _=>v=((undef:Value):Value),fun v _=>v=((undef:Value):Value),fun v _=>v=((undef:Value):Value),fun v _=>v=((undef:Value):Value),fun v _=>v=((undef:Value):Value),fun v _=>v=((undef:Value):Value),fun v _=>v=((undef:Value):Value),fun v _=>v=((undef:Value):Value),fun v _=>v=(.bool true:Value)] (by kernel_rfl) ⟨fun _ _ _ _ _ h=>h,fun _ _ _ _ _ h=>h,fun _ _ _ _ _ h=>h,fun _ _ _ _ _ h=>h,fun _ _ _ _ _ h=>h,fun _ _ _ _ _ h=>h,fun _ _ _ _ _ h=>h,fun _ _ _ _ _ h=>h,fun _ _ _ _ _ h=>h,fun _ _ _ _ _ h=>h,fun _ _ _ _ _ h=>h,fun _ _ _ _ _ h=>h,fun _ _ _ _ _ h=>h,fun _ _ _ _ _ h=>h,fun _ _ _ _ _ h=>h,trivial⟩ ?_ ?_
        ·refine ⟨?_,?_,?_,?_,?_,?_,?_,?_,?_,?_,?_,?_,?_,?_,?_,trivial⟩
         ·intro ρ w216o F216o hS hρ
          have q15:ρ 15=.int .i64 x110:=hρ 15 (by kernel_rfl)
          exact o_q (r_mov q15) ⟨Fr.refl _ _,rfl⟩
         ·intro ρ w216o F216o hS hρ
          have q76:ρ 76=.int .i64 x110:=hS 0 (by decide) 76 rfl
          exact o_q (r_int q76 rfl rfl) ⟨Fr.refl _ _,rfl⟩
         ·intro ρ w216o F216o hS hρ
          have q77:ρ 77=.bool (decide (x110<(0:Int))):=hS 1 (by decide) 77 rfl
          exact o_q (r_mov q77) ⟨Fr.refl _ _,rfl⟩
         ·intro ρ w216o F216o hS hρ
          have q13:ρ 13=.slice A72 x69.length c73:=hρ 13 (by kernel_rfl)
          have q78:ρ 78=.bool (decide (x110<(0:Int))):=hS 2 (by decide) 78 rfl
          exact o_no (want_f (t:=78) rfl q78 hc215) rfl (eo_nil ⟨rfl,rfl,undef,rfl,Fr.refl _ _,rfl⟩)
         ·intro ρ w216o F216o hS hρ
          have q14:ρ 14=.int .i64 s82:=hρ 14 (by kernel_rfl)
          have q78:ρ 78=.bool (decide (x110<(0:Int))):=hS 2 (by decide) 78 rfl
          exact o_no (want_f (t:=78) rfl q78 hc215) rfl (eo_nil ⟨rfl,rfl,undef,rfl,Fr.refl _ _,rfl⟩)
         ·intro ρ w216o F216o hS hρ
          have q78:ρ 78=.bool (decide (x110<(0:Int))):=hS 2 (by decide) 78 rfl
          have q79:ρ 79=(undef:Value):=hS 3 (by decide) 79 rfl
          have q80:ρ 80=(undef:Value):=hS 4 (by decide) 80 rfl
          exact o_no (want_f (t:=78) rfl q78 hc215) rfl (eo_nil ⟨rfl,rfl,undef,rfl,Fr.refl _ _,rfl⟩)
         ·intro ρ w216o F216o hS hρ
          have q78:ρ 78=.bool (decide (x110<(0:Int))):=hS 2 (by decide) 78 rfl
          have q81:ρ 81=(undef:Value):=hS 5 (by decide) 81 rfl
          exact o_no (want_f (t:=78) rfl q78 hc215) rfl (eo_nil ⟨rfl,rfl,undef,rfl,Fr.refl _ _,rfl⟩)
         ·intro ρ w216o F216o hS hρ
          have q5:ρ 5=.pointer (some ⟨b12,0,none⟩):=hρ 5 (by kernel_rfl)
          have q78:ρ 78=.bool (decide (x110<(0:Int))):=hS 2 (by decide) 78 rfl
          exact o_no (want_f (t:=78) rfl q78 hc215) rfl (eo_nil ⟨rfl,rfl,undef,rfl,Fr.refl _ _,rfl⟩)
         ·intro ρ w216o F216o hS hρ
          have q78:ρ 78=.bool (decide (x110<(0:Int))):=hS 2 (by decide) 78 rfl
          have q83:ρ 83=(undef:Value):=hS 7 (by decide) 83 rfl
          exact o_no (want_f (t:=78) rfl q78 hc215) rfl (eo_nil ⟨rfl,rfl,undef,rfl,Fr.refl _ _,rfl⟩)
         ·intro ρ w216o F216o hS hρ
          have q15:ρ 15=.int .i64 x110:=hρ 15 (by kernel_rfl)
          have q78:ρ 78=.bool (decide (x110<(0:Int))):=hS 2 (by decide) 78 rfl
          exact o_no (want_f (t:=78) rfl q78 hc215) rfl (eo_nil ⟨rfl,rfl,undef,rfl,Fr.refl _ _,rfl⟩)
         ·intro ρ w216o F216o hS hρ
          have q78:ρ 78=.bool (decide (x110<(0:Int))):=hS 2 (by decide) 78 rfl
          have q84:ρ 84=(undef:Value):=hS 8 (by decide) 84 rfl
          have q85:ρ 85=(undef:Value):=hS 9 (by decide) 85 rfl
          exact o_no (want_f (t:=78) rfl q78 hc215) rfl (eo_nil ⟨rfl,rfl,undef,rfl,Fr.refl _ _,rfl⟩)
         ·intro ρ w216o F216o hS hρ
          have q78:ρ 78=.bool (decide (x110<(0:Int))):=hS 2 (by decide) 78 rfl
          have q86:ρ 86=(undef:Value):=hS 10 (by decide) 86 rfl
          exact o_no (want_f (t:=78) rfl q78 hc215) rfl (eo_nil ⟨rfl,rfl,undef,rfl,Fr.refl _ _,rfl⟩)
         ·intro ρ w216o F216o hS hρ
          have q78:ρ 78=.bool (decide (x110<(0:Int))):=hS 2 (by decide) 78 rfl
          have q82:ρ 82=(undef:Value):=hS 6 (by decide) 82 rfl
          have q87:ρ 87=(undef:Value):=hS 11 (by decide) 87 rfl
          exact o_no (want_f (t:=78) rfl q78 hc215) rfl (eo_nil ⟨rfl,rfl,undef,rfl,Fr.refl _ _,rfl⟩)
         ·intro ρ w216o F216o hS hρ
          have q78:ρ 78=.bool (decide (x110<(0:Int))):=hS 2 (by decide) 78 rfl
          have q88:ρ 88=(undef:Value):=hS 12 (by decide) 88 rfl
          exact o_no (want_f (t:=78) rfl q78 hc215) rfl (eo_nil ⟨rfl,rfl,undef,rfl,Fr.refl _ _,rfl⟩)
         ·intro ρ w216o F216o hS hρ
          have q78:ρ 78=.bool (decide (x110<(0:Int))):=hS 2 (by decide) 78 rfl
          have q89:ρ 89=(undef:Value):=hS 13 (by decide) 89 rfl
          exact o_q (r_pickT q78 hc215 rfl) ⟨Fr.refl _ _,rfl⟩
        ·intro ρ w216 F216 hS hρ
         have q90:ρ 90=.bool true:=hS 14 90 rfl
         obtain ⟨ρ',rfl⟩:∃ ρ',ρ=envs (ovr [76,77,78,79,80,81,82,83,84,85,86,87,88,89,90] ρ' _) [(90,.bool true)]:=⟨ρ,ovr_self hρ ⟨q90,trivial⟩⟩
         have E217:=E184.trans F216
         refine sq_n ?_
         refine ec_condT rfl rfl ?_
         refine ec_seq ?_
         refine ec_region ?_
         refine o_w (v:=.bool false) (r_asg rfl) ?_
         refine eo_nil_sq ?_
         refine ec_ret ?_
         refine blk_ret ?_
         refine sq_ret ?_
         subst h
         exact lqR_r (end1 rfl ⟨_,rfl,E217,rfl⟩)
       ·replace h:=h.2 hc215
        obtain ⟨ha271,h⟩:=h
        obtain ⟨cs272,l274,H273⟩:=Stb.elem (by decide) (H74.fr (G87.trans (Fr.ext F99)) (fun _ h=>h)) s82 ha271.1 ha271.2
        obtain ⟨A276,c277,A279,c280,rfl,H275,H278,H281⟩:=kEnt_open2 H273
        obtain ⟨ha282,h⟩:=h
        obtain ⟨cs283,l285,H284⟩:=Stb.elem (by decide) (H6.up (G83.trans (Fr.ext F99)) (fun _ h=>h) (upc (.inr m54) (fun _ h=>.inl h))) x110 ha282.1 ha282.2
        obtain ⟨A287,c288,A290,c291,rfl,H286,H289,H292⟩:=kEnt_open2 H284
        obtain ⟨ha294,h⟩:=h
        refine ec_any0 (by kernel_rfl) [[],[0],[0,1],[0,1,2],[0,1,2],[0,1,2,3,4],[0,1,2,3,4,5],[0,1,2],[0,1,2,7],[0,1,2],[0,1,2,7,8,9],[0,1,2,7,8,9,10],[0,1,2,3,4,5,6,7,8,9,10,11],[0,1,2,3,4,5,6,7,8,9,10,11,12],[0,1,2,3,4,5,6,7,8,9,10,11,12,13]] [76,77,78,79,80,81,82,83,84,85,86,87,88,89,90] [fun v _=>v=(.int .i64 x110:Value),fun v _=>v=(.bool (decide (x110<(0:Int))):Value),fun v _=>v=(.bool (decide (x110<(0:Int))):Value),fun v _=>v=(.slice A72 x69.length c73:Value),fun v _=>v=(.int .i64 s82:Value),fun v _=>v=(.pointer (some (elemA A72 kEnt.n s82.toNat)):Value),fun v _=>v=(.agg (cEnt (nth x69 s82) A276 c277 A279 c280).toArray:Value),fun v _=>v=(.pointer (some ⟨b12,1,none⟩):Value),fun v _=>v=(.slice A4 d1.slots.length c5:Value),fun v _=>v=(.int .i64 x110:Value),fun v _=>v=(.pointer (some (elemA A4 kEnt.n x110.toNat)):Value),fun v _=>v=(.agg (cEnt (nth d1.slots x110) A287 c288 A290 c291).toArray:Value),fun v _=>v=(.bool (sameE (nth x69 s82) (nth d1.slots x110)):Value),fun v _=>v=(.bool (!(sameE (nth x69 s82) (nth d1.slots x110))):Value),fun v _=>v=(.bool (!(sameE (nth x69 s82) (nth d1.slots x110))):Value)] (by kernel_rfl) ⟨fun _ _ _ _ _ h=>h,fun _ _ _ _ _ h=>h,fun _ _ _ _ _ h=>h,fun _ _ _ _ _ h=>h,fun _ _ _ _ _ h=>h,fun _ _ _ _ _ h=>h,fun _ _ _ _ _ h=>h,fun _ _ _ _ _ h=>h,fun _ _ _ _ _ h=>h,fun _ _ _ _ _ h=>h,fun _ _ _ _ _ h=>h,fun _ _ _ _ _ h=>h,fun _ _ _ _ _ h=>h,fun _ _ _ _ _ h=>h,fun _ _ _ _ _ h=>h,trivial⟩ ?_ ?_
        ·refine ⟨?_,?_,?_,?_,?_,?_,?_,?_,?_,?_,?_,?_,?_,?_,?_,trivial⟩
         ·intro ρ w270o F270o hS hρ
          have q15:ρ 15=.int .i64 x110:=hρ 15 (by kernel_rfl)
          exact o_q (r_mov q15) ⟨Fr.refl _ _,rfl⟩
         ·intro ρ w270o F270o hS hρ
          have q76:ρ 76=.int .i64 x110:=hS 0 (by decide) 76 rfl
          exact o_q (r_int q76 rfl rfl) ⟨Fr.refl _ _,rfl⟩
         ·intro ρ w270o F270o hS hρ
          have q77:ρ 77=.bool (decide (x110<(0:Int))):=hS 1 (by decide) 77 rfl
          exact o_q (r_mov q77) ⟨Fr.refl _ _,rfl⟩
         ·intro ρ w270o F270o hS hρ
          have q13:ρ 13=.slice A72 x69.length c73:=hρ 13 (by kernel_rfl)
          have q78:ρ 78=.bool (decide (x110<(0:Int))):=hS 2 (by decide) 78 rfl
          exact o_v (r_mov q13) (want_t (t:=78) rfl q78 hc215) rfl rfl (eo_nil ⟨rfl,rfl,_,rfl,Fr.refl _ _,rfl⟩)
         ·intro ρ w270o F270o hS hρ
          have q14:ρ 14=.int .i64 s82:=hρ 14 (by kernel_rfl)
          have q78:ρ 78=.bool (decide (x110<(0:Int))):=hS 2 (by decide) 78 rfl
          exact o_v (r_mov q14) (want_t (t:=78) rfl q78 hc215) rfl rfl (eo_nil ⟨rfl,rfl,_,rfl,Fr.refl _ _,rfl⟩)
         ·intro ρ w270o F270o hS hρ
          have q78:ρ 78=.bool (decide (x110<(0:Int))):=hS 2 (by decide) 78 rfl
          have q79:ρ 79=.slice A72 x69.length c73:=hS 3 (by decide) 79 rfl
          have q80:ρ 80=.int .i64 s82:=hS 4 (by decide) 80 rfl
          exact o_v (r_ia slc_s_api_Entry q79 q80 ((H74.fr ((G87.trans (Fr.ext F99)).trans (Fr.ext F270o)) (fun _ h=>h)).now.2 _ (lt_toNat ha271.1 ha271.2)).1 ha271.1 ha271.2) (want_t (t:=78) rfl q78 hc215) rfl rfl (eo_nil ⟨rfl,rfl,_,rfl,Fr.refl _ _,rfl⟩)
         ·intro ρ w270o F270o hS hρ
          have G313:Fr (b53::L) w99 w270o:=Fr.ext F270o
          have q78:ρ 78=.bool (decide (x110<(0:Int))):=hS 2 (by decide) 78 rfl
          have q81:ρ 81=.pointer (some (elemA A72 kEnt.n s82.toNat)):=hS 5 (by decide) 81 rfl
          exact o_v (r_lda' agg_api_Entry q81 (elemA_spot _ _ _) (vs:=(cEnt (nth x69 s82) A276 c277 A279 c280)) rfl ((H275.fr G313 (fun _ h=>h)).now.1)) (want_t (t:=78) rfl q78 hc215) rfl rfl (eo_nil ⟨rfl,rfl,_,rfl,Fr.refl _ _,rfl⟩)
         ·intro ρ w270o F270o hS hρ
          have q5:ρ 5=.pointer (some ⟨b12,0,none⟩):=hρ 5 (by kernel_rfl)
          have q78:ρ 78=.bool (decide (x110<(0:Int))):=hS 2 (by decide) 78 rfl
          exact o_v (r_fa fld_api_Arena_1 rfl q5) (want_t (t:=78) rfl q78 hc215) rfl rfl (eo_nil ⟨rfl,rfl,_,rfl,Fr.refl _ _,rfl⟩)
         ·intro ρ w270o F270o hS hρ
          have q78:ρ 78=.bool (decide (x110<(0:Int))):=hS 2 (by decide) 78 rfl
          have q83:ρ 83=.pointer (some ⟨b12,1,none⟩):=hS 7 (by decide) 83 rfl
          exact o_v (r_ld one_s_api_Entry q83 ((S12.fr ((G85.trans (Fr.ext F99)).trans (Fr.ext F270o)) (fun _ h=>h)).now.cell rfl)) (want_t (t:=78) rfl q78 hc215) rfl rfl (eo_nil ⟨rfl,rfl,_,rfl,Fr.refl _ _,rfl⟩)
         ·intro ρ w270o F270o hS hρ
          have q15:ρ 15=.int .i64 x110:=hρ 15 (by kernel_rfl)
          have q78:ρ 78=.bool (decide (x110<(0:Int))):=hS 2 (by decide) 78 rfl
          exact o_v (r_mov q15) (want_t (t:=78) rfl q78 hc215) rfl rfl (eo_nil ⟨rfl,rfl,_,rfl,Fr.refl _ _,rfl⟩)
         ·intro ρ w270o F270o hS hρ
          have q78:ρ 78=.bool (decide (x110<(0:Int))):=hS 2 (by decide) 78 rfl
          have q84:ρ 84=.slice A4 d1.slots.length c5:=hS 8 (by decide) 84 rfl
          have q85:ρ 85=.int .i64 x110:=hS 9 (by decide) 85 rfl
          exact o_v (r_ia slc_s_api_Entry q84 q85 ((H6.fr ((G83.trans (Fr.ext F99)).trans (Fr.ext F270o)) (fun _ h=>h)).now.2 _ (lt_toNat ha282.1 ha282.2)).1 ha282.1 ha282.2) (want_t (t:=78) rfl q78 hc215) rfl rfl (eo_nil ⟨rfl,rfl,_,rfl,Fr.refl _ _,rfl⟩)
         ·intro ρ w270o F270o hS hρ
          have G343:Fr (b53::L) w99 w270o:=Fr.ext F270o
          have q78:ρ 78=.bool (decide (x110<(0:Int))):=hS 2 (by decide) 78 rfl
          have q86:ρ 86=.pointer (some (elemA A4 kEnt.n x110.toNat)):=hS 10 (by decide) 86 rfl
          exact o_v (r_lda' agg_api_Entry q86 (elemA_spot _ _ _) (vs:=(cEnt (nth d1.slots x110) A287 c288 A290 c291)) rfl ((H286.fr G343 (fun _ h=>h)).now.1)) (want_t (t:=78) rfl q78 hc215) rfl rfl (eo_nil ⟨rfl,rfl,_,rfl,Fr.refl _ _,rfl⟩)
         ·intro ρ w270o F270o hS hρ
          have E345:=E184.trans F270o
          have G353:Fr (b53::L) w99 w270o:=Fr.ext F270o
          have q78:ρ 78=.bool (decide (x110<(0:Int))):=hS 2 (by decide) 78 rfl
          have q82:ρ 82=.agg (cEnt (nth x69 s82) A276 c277 A279 c280).toArray:=hS 6 (by decide) 82 rfl
          have q87:ρ 87=.agg (cEnt (nth d1.slots x110) A287 c288 A290 c291).toArray:=hS 11 (by decide) 87 rfl
          refine o_call cf_ref07_Same (by simp only [List.map,ev,q82,q87] <;> rfl) (ref07_Same_c (nth x69 s82) (kEnt_mk (d:=(nth x69 s82)) (H278.fr G353 (fun _ h=>h)) (H281.fr G353 (fun _ h=>h))) (nth d1.slots x110) (kEnt_mk (d:=(nth d1.slots x110)) (H289.fr G353 (fun _ h=>h)) (H292.fr G353 (fun _ h=>h))) ((hL.fr E345).cons ((B82rb53.ex F99).ex F270o).lt) (refSameE_ev (nth x69 s82) (nth d1.slots x110) ha294)) (want_t (t:=78) rfl q78 hc215) rfl ?_
          rintro _ w' ⟨F,rfl⟩
          exact eo_nil ⟨rfl,rfl,_,rfl,F,rfl⟩
         ·intro ρ w270o F270o hS hρ
          have q78:ρ 78=.bool (decide (x110<(0:Int))):=hS 2 (by decide) 78 rfl
          have q88:ρ 88=.bool (sameE (nth x69 s82) (nth d1.slots x110)):=hS 12 (by decide) 88 rfl
          exact o_v (r_not q88) (want_t (t:=78) rfl q78 hc215) rfl rfl (eo_nil ⟨rfl,rfl,_,rfl,Fr.refl _ _,rfl⟩)
         ·intro ρ w270o F270o hS hρ
          have q78:ρ 78=.bool (decide (x110<(0:Int))):=hS 2 (by decide) 78 rfl
          have q89:ρ 89=.bool (!(sameE (nth x69 s82) (nth d1.slots x110))):=hS 13 (by decide) 89 rfl
          exact o_q (r_pickF q78 hc215 q89) ⟨Fr.refl _ _,rfl⟩
        ·intro ρ w270 F270 hS hρ
         have q79:ρ 79=.slice A72 x69.length c73:=hS 3 79 rfl
         have q80:ρ 80=.int .i64 s82:=hS 4 80 rfl
         have q81:ρ 81=.pointer (some (elemA A72 kEnt.n s82.toNat)):=hS 5 81 rfl
         have q82:ρ 82=.agg (cEnt (nth x69 s82) A276 c277 A279 c280).toArray:=hS 6 82 rfl
         have q83:ρ 83=.pointer (some ⟨b12,1,none⟩):=hS 7 83 rfl
         have q84:ρ 84=.slice A4 d1.slots.length c5:=hS 8 84 rfl
         have q85:ρ 85=.int .i64 x110:=hS 9 85 rfl
         have q86:ρ 86=.pointer (some (elemA A4 kEnt.n x110.toNat)):=hS 10 86 rfl
         have q87:ρ 87=.agg (cEnt (nth d1.slots x110) A287 c288 A290 c291).toArray:=hS 11 87 rfl
         have q88:ρ 88=.bool (sameE (nth x69 s82) (nth d1.slots x110)):=hS 12 88 rfl
         have q89:ρ 89=.bool (!(sameE (nth x69 s82) (nth d1.slots x110))):=hS 13 89 rfl
         have q90:ρ 90=.bool (!(sameE (nth x69 s82) (nth d1.slots x110))):=hS 14 90 rfl
         obtain ⟨ρ',rfl⟩:∃ ρ',ρ=envs (ovr [76,77,78,79,80,81,82,83,84,85,86,87,88,89,90] ρ' _) [(79,.slice A72 x69.length c73),(80,.int .i64 s82),(81,.pointer (some (elemA A72 kEnt.n s82.toNat))),(82,.agg (cEnt (nth x69 s82) A276 c277 A279 c280).toArray),(83,.pointer (some ⟨b12,1,none⟩)),(84,.slice A4 d1.slots.length c5),(85,.int .i64 x110),(86,.pointer (some (elemA A4 kEnt.n x110.toNat))),(87,.agg (cEnt (nth d1.slots x110) A287 c288 A290 c291).toArray),(88,.bool (sameE (nth x69 s82) (nth d1.slots x110))),(89,.bool (!(sameE (nth x69 s82) (nth d1.slots x110)))),(90,.bool (!(sameE (nth x69 s82) (nth d1.slots x110))))]:=⟨ρ,ovr_self hρ ⟨q79,q80,q81,q82,q83,q84,q85,q86,q87,q88,q89,q90,trivial⟩⟩
         have E355:=E184.trans F270
         refine sq_n ?_
         refine ec_cond rfl (fun hc365=>?_) (fun hc365=>?_)
         ·replace h:=h.1 hc365
          refine ec_seq ?_
          refine ec_region ?_
          refine o_w (v:=.bool false) (r_asg rfl) ?_
          refine eo_nil_sq ?_
          refine ec_ret ?_
          refine blk_ret ?_
          refine sq_ret ?_
          subst h
          exact lqR_r (end1 rfl ⟨_,rfl,E355,rfl⟩)
         ·replace h:=h.2 hc365
          refine ec_skip ?_
          refine blk_n ?_
          refine sq_n ?_
          refine ec_region ?_
          refine o_w (v:=.int .i64 s82) (r_mov rfl) ?_
          refine o_w (v:=.int .i64 (IntKind.i64.wrap (s82 + (1:Int)))) (r_int rfl rfl rfl) ?_
          refine o_w (v:=.int .i64 (IntKind.i64.wrap (s82 + (1:Int)))) (r_asg rfl) ?_
          refine eo_nil ?_
          subst h
          exact lqR_n ⟨_,envs_self ⟨rfl,rfl,rfl,rfl,rfl,trivial⟩,rfl,((F82r.trans (Fr.ext F99)).trans (Fr.ext F270)),E355,((B82rb53.ex F99).ex F270)⟩
     ·replace h:=h.2 hc88
      refine ec_exit ?_
      refine sq_exit ?_
      subst h
      exact lqR_x ⟨_,envs_self ⟨rfl,rfl,rfl,rfl,rfl,trivial⟩,rfl,F82r,E82r,B82rb53⟩
    ·exact ⟨_,envs_self ⟨rfl,rfl,rfl,rfl,rfl,trivial⟩,rfl,(Fr.refl _ _),E75,(B63'.ex F69)⟩
    ·rintro sx82 rfl ρ82e ds82e w82e ⟨ρ82e,rfl,rfl,F82e,E82e,B82eb53⟩
     replace h:=h.1 _ rfl
     refine blk_hit ?_
     refine sq_n ?_
     refine ec_seq ?_
     refine ec_region ?_
     refine o_w (v:=.bool (worksV)) (r_mov rfl) ?_
     refine o_w (v:=.bool (worksV)) (r_asg rfl) ?_
     refine eo_nil_sq ?_
     refine ec_ret ?_
     subst h
     exact (end1 rfl ⟨_,rfl,E82e,rfl⟩)
    ·rintro y82 rfl ρ82q ds82q w82q hJ
     have hy:=h.2 _ rfl
     subst hy
     refine blk_ret ?_
     refine sq_ret ?_
     exact hJ
end Go.Proofs.Ytpopikeebobjnaa
