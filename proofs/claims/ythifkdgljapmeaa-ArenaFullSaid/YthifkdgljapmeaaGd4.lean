/- The law ArenaFull: what it comes to. -/
import Derived.Test.YthifkdgljapmeaaEy
namespace Go.Proofs.Ythifkdgljapmeaa
open Go Go.RowKit
set_option linter.unusedVariables false
set_option linter.unusedSimpArgs false
def law08_ArenaFull_raw (d0:Arena) (d1:Ent) (y:Bool):Prop :=
 ((!(worksV))=true→(y=false))∧((!(worksV))=false→(((!(!((fewA d0)&&(fewE d1))))=true→sma d0)∧(((!((!((fewA d0)&&(fewE d1)))||((checkA d0) != (0:Int))))=true→sm d1.val)∧(((((!((fewA d0)&&(fewE d1)))||((checkA d0) != (0:Int)))||((checkE d1) != (0:Int)))=true→(y=(worksV)))∧((((!((fewA d0)&&(fewE d1)))||((checkA d0) != (0:Int)))||((checkE d1) != (0:Int)))=false→((sma d0)∧((sm d1.val)∧((WfV d1.val)∧(∃ x51,x51=(joinA d0 d1)∧((sma d0)∧((((!(decide ((0:Int)≤(findA d0 d1.val.kind d1.key))))&&(!(decide ((d0.slots.length:Int)<d0.cap))))=true→(((x51.2.2==(4:Int))=true→sma d0)∧(y=((x51.2.2==(4:Int))&&(sameA d0 x51.1)))))∧(((!(decide ((0:Int)≤(findA d0 d1.val.kind d1.key))))&&(!(decide ((d0.slots.length:Int)<d0.cap))))=false→(((decide ((0:Int)≤(findA d0 d1.val.kind d1.key)))=true→(y=((x51.2.2==(0:Int))&&((x51.1.slots.length:Int)==(IntKind.i64.wrap ((d0.slots.length:Int) + (0:Int)))))))∧((decide ((0:Int)≤(findA d0 d1.val.kind d1.key)))=false→(y=((x51.2.2==(0:Int))&&((x51.1.slots.length:Int)==(IntKind.i64.wrap ((d0.slots.length:Int) + (1:Int))))))))))))))))))))
set_option maxRecDepth 20000 in
set_option maxHeartbeats 4000000 in
theorem law08_ArenaFull_c {L:List Nat} {w:World} {csP0:List Value} (d0:Arena) (HP0:Stb L w (fun w=>kArena.r w csP0 d0)) {csP1:List Value} (d1:Ent) (HP1:Stb L w (fun w=>kEnt.r w csP1 d1)) (hL:Lt L w) {y:Bool} (h:law08_ArenaFull_raw d0 d1 y) :
  Calls Try.prog 9 [.agg csP0.toArray,.agg csP1.toArray].toArray w (Ret fun v w'=>Ext w w'∧v=.bool y):=by
 obtain ⟨A1,c2,A4,c5,rfl,H3,H6⟩:=kArena_open HP0
 obtain ⟨A7,c8,A10,c11,rfl,H9,H12⟩:=kEnt_open HP1
 unfold law08_ArenaFull_raw at h
 refine calls_ec Try.func9 rfl rfl rfl ?_
 refine ec_seq ?_
 refine ec_region ?_
 refine o_box (cs:=(cArena d0 A1 c2 A4 c5)) rfl rfl rfl ?_
 intro b13 w13 e13 F13 B13
 have S13:=B13.stb (nin hL e13)
 have G14:Fr L w w13:=Fr.ext F13
 refine o_box (cs:=(cEnt d1 A7 c8 A10 c11)) rfl rfl rfl ?_
 intro b15 w15 e15 F15 B15
 have S15:=B15.stb (nin (hL.fr F13) e15)
 have E16:=F13.trans F15
 have G18:Fr L w13 w15:=Fr.ext F15
 refine o_w (v:=.bool false) (r_asg rfl) ?_
 refine eo_nil_sq ?_
 refine ec_seq ?_
 refine ec_region ?_
 refine o_call cf_law08_works rfl (law08_works_c (hL.fr E16) (works8_ev)) rfl rfl ?_
 rintro _ w19 ⟨F19,rfl⟩
 have E20:=E16.trans F19
 have G23:Fr L w15 w19:=Fr.ext F19
 refine o_w (v:=.bool (worksV)) (r_asg rfl) ?_
 refine eo_nil_sq ?_
 iterate 2 refine ec_seq ?_
 refine ec_region ?_
 refine o_w (v:=.bool (worksV)) (r_mov rfl) ?_
 refine o_w (v:=.bool (!(worksV))) (r_not rfl) ?_
 refine eo_nil_sq ?_
 refine ec_cond rfl (fun hc24=>?_) (fun hc24=>?_)
 ·replace h:=h.1 hc24
  refine ec_seq ?_
  refine ec_region ?_
  refine o_w (v:=.bool false) (r_asg rfl) ?_
  refine eo_nil_sq ?_
  refine ec_ret ?_
  refine sq_ret ?_
  subst h
  exact (end1 rfl ⟨_,rfl,E20,rfl⟩)
 ·replace h:=h.2 hc24
  refine ec_skip ?_
  refine sq_n ?_
  refine ec_seq ?_
  refine ec_region ?_
  refine o_w (v:=.agg (cArena d0 A1 c2 A4 c5).toArray) (r_lda agg_api_Arena rfl (vs:=(cArena d0 A1 c2 A4 c5)) rfl ((S13.fr (G18.trans (Fr.ext F19)) (fun _ h=>h)).now.part (n:=3) rfl)) ?_
  refine o_call cf_law08_Few rfl (law08_Few_c d0 (kArena_mk (d:=d0) (H3.fr ((G14.trans (Fr.ext F15)).trans (Fr.ext F19)) (fun _ h=>h)) (H6.fr ((G14.trans (Fr.ext F15)).trans (Fr.ext F19)) (fun _ h=>h))) (hL.fr E20) (fewA_ev d0)) rfl rfl ?_
  rintro _ w26 ⟨F26,rfl⟩
  have E27:=E20.trans F26
  refine o_w (v:=.bool (fewA d0)) (r_mov rfl) ?_
  refine o_vg (v:=.agg (cEnt d1 A7 c8 A10 c11).toArray) (want_ct (t:=18) rfl rfl) (fun hk=>(r_lda agg_api_Entry rfl (vs:=(cEnt d1 A7 c8 A10 c11)) rfl ((S15.fr (G23.trans (Fr.ext F26)) (fun _ h=>h)).now.part (n:=9) rfl))) rfl rfl ?_
  refine o_callg (V:=.bool (fewE d1)) cf_law07_Few (want_ct (t:=18) rfl rfl) (fun hk=>(mapv1 (gdT hk))) (fun hk=>(law07_Few_c d1 (kEnt_mk (d:=d1) (H9.fr (((G14.trans (Fr.ext F15)).trans (Fr.ext F19)).trans (Fr.ext F26)) (fun _ h=>h)) (H12.fr (((G14.trans (Fr.ext F15)).trans (Fr.ext F19)).trans (Fr.ext F26)) (fun _ h=>h))) (hL.fr E27) (fewE_ev d1))) rfl ?_
  intro w31 F31
  have E32:=E27.trans F31
  have G33:=(((G14.trans (Fr.ext F15)).trans (Fr.ext F19)).trans (Fr.ext F26)).trans (Fr.ext F31)
  refine o_w (v:=.bool ((fewA d0)&&(fewE d1))) (r_pickAnd rfl (fun ht=>(gdT ht)) rfl) ?_
  refine o_w (v:=.bool ((fewA d0)&&(fewE d1))) (r_asg rfl) ?_
  refine eo_nil_sq ?_
  iterate 2 refine ec_seq ?_
  refine ec_region ?_
  refine o_w (v:=.bool ((fewA d0)&&(fewE d1))) (r_mov rfl) ?_
  refine o_w (v:=.bool (!((fewA d0)&&(fewE d1)))) (r_not rfl) ?_
  refine o_w (v:=.bool (!((fewA d0)&&(fewE d1)))) (r_mov rfl) ?_
  refine o_vg (v:=.agg (cArena d0 A1 c2 A4 c5).toArray) (want_cf (t:=24) rfl rfl) (fun hk=>(r_lda agg_api_Arena rfl (vs:=(cArena d0 A1 c2 A4 c5)) rfl ((S13.fr (((G18.trans (Fr.ext F19)).trans (Fr.ext F26)).trans (Fr.ext F31)) (fun _ h=>h)).now.part (n:=3) rfl))) rfl rfl ?_
  obtain ⟨ha39,h⟩:=h
  refine o_callg (V:=.int .i64 (checkA d0)) cf_arena_Check (want_cf (t:=24) rfl rfl) (fun hk=>(mapv1 (gdT hk))) (fun hk=>(arena_Check_c d0 (kArena_mk (d:=d0) (H3.fr G33 (fun _ h=>h)) (H6.fr G33 (fun _ h=>h))) (hL.fr E32) (arCheck_ev d0 (ha39 hk)))) rfl ?_
  intro w38 F38
  have E40:=E32.trans F38
  have G42:=(((G18.trans (Fr.ext F19)).trans (Fr.ext F26)).trans (Fr.ext F31)).trans (Fr.ext F38)
  refine o_vg (v:=.bool ((checkA d0) != (0:Int))) (want_cf (t:=24) rfl rfl) (fun hk=>(r_int (gdT hk) rfl rfl)) rfl rfl ?_
  refine o_w (v:=.bool ((!((fewA d0)&&(fewE d1)))||((checkA d0) != (0:Int)))) (r_pickOr rfl rfl (fun hf=>(gdT (notT hf)))) ?_
  refine o_w (v:=.bool ((!((fewA d0)&&(fewE d1)))||((checkA d0) != (0:Int)))) (r_mov rfl) ?_
  refine o_vg (v:=.agg (cEnt d1 A7 c8 A10 c11).toArray) (want_cf (t:=29) rfl rfl) (fun hk=>(r_lda agg_api_Entry rfl (vs:=(cEnt d1 A7 c8 A10 c11)) rfl ((S15.fr (((G23.trans (Fr.ext F26)).trans (Fr.ext F31)).trans (Fr.ext F38)) (fun _ h=>h)).now.part (n:=9) rfl))) rfl rfl ?_
  obtain ⟨ha45,h⟩:=h
  refine o_callg (V:=.int .i64 (checkE d1)) cf_entry_Check (want_cf (t:=29) rfl rfl) (fun hk=>(mapv1 (gdT hk))) (fun hk=>(entry_Check_c d1 (kEnt_mk (d:=d1) (H9.fr (G33.trans (Fr.ext F38)) (fun _ h=>h)) (H12.fr (G33.trans (Fr.ext F38)) (fun _ h=>h))) (hL.fr E40) (entCheck_ev d1 (ha45 hk)))) rfl ?_
  intro w44 F44
  have E46:=E40.trans F44
  have G49:=(((G23.trans (Fr.ext F26)).trans (Fr.ext F31)).trans (Fr.ext F38)).trans (Fr.ext F44)
  refine o_vg (v:=.bool ((checkE d1) != (0:Int))) (want_cf (t:=29) rfl rfl) (fun hk=>(r_int (gdT hk) rfl rfl)) rfl rfl ?_
  refine o_w (v:=.bool (((!((fewA d0)&&(fewE d1)))||((checkA d0) != (0:Int)))||((checkE d1) != (0:Int)))) (r_pickOr rfl rfl (fun hf=>(gdT (notT hf)))) ?_
  refine eo_nil_sq ?_
  refine ec_cond rfl (fun hc50=>?_) (fun hc50=>?_)
  ·replace h:=h.1 hc50
   refine ec_seq ?_
   refine ec_region ?_
   refine o_w (v:=.bool (worksV)) (r_mov rfl) ?_
   refine o_w (v:=.bool (worksV)) (r_asg rfl) ?_
   refine eo_nil_sq ?_
   refine ec_ret ?_
   refine sq_ret ?_
   subst h
   exact (end1 rfl ⟨_,rfl,E46,rfl⟩)
  ·replace h:=h.2 hc50
   refine ec_skip ?_
   refine sq_n ?_
   refine ec_seq ?_
   refine ec_region ?_
   refine o_w (v:=.agg (cArena d0 A1 c2 A4 c5).toArray) (r_lda agg_api_Arena rfl (vs:=(cArena d0 A1 c2 A4 c5)) rfl ((S13.fr (G42.trans (Fr.ext F44)) (fun _ h=>h)).now.part (n:=3) rfl)) ?_
   refine o_w (v:=.agg (cEnt d1 A7 c8 A10 c11).toArray) (r_lda agg_api_Entry rfl (vs:=(cEnt d1 A7 c8 A10 c11)) rfl ((S15.fr G49 (fun _ h=>h)).now.part (n:=9) rfl)) ?_
   obtain ⟨ha52,h⟩:=h
   obtain ⟨ha53,h⟩:=h
   obtain ⟨ha54,h⟩:=h
   obtain ⟨x51,hx51,h⟩:=h
   refine o_call cf_arena_Join rfl (arena_Join_c d0 (kArena_mk (d:=d0) (H3.fr ((G33.trans (Fr.ext F38)).trans (Fr.ext F44)) (fun _ h=>h)) (H6.fr ((G33.trans (Fr.ext F38)).trans (Fr.ext F44)) (fun _ h=>h))) d1 (kEnt_mk (d:=d1) (H9.fr ((G33.trans (Fr.ext F38)).trans (Fr.ext F44)) (fun _ h=>h)) (H12.fr ((G33.trans (Fr.ext F38)).trans (Fr.ext F44)) (fun _ h=>h))) (hL.fr E46) (eq_ev hx51 (arJoin_ev d0 d1 ha52 ha53 ha54))) rfl rfl ?_
   rintro _ w51 ⟨F51,cs55,rfl,H56⟩
   have E57:=E46.trans F51
   obtain ⟨A61,c62,A64,c65,rfl,H63,H66⟩:=kArena_open H56
   refine o_w (v:=.tuple #[.agg (cArena x51.1 A61 c62 A64 c65).toArray,.bool x51.2.1,.int .i64 x51.2.2]) (r_mov rfl) ?_
   refine o_w (v:=.agg (cArena x51.1 A61 c62 A64 c65).toArray) (r_ext rfl rfl) ?_
   refine o_w (v:=.bool x51.2.1) (r_ext rfl rfl) ?_
   refine o_w (v:=.int .i64 x51.2.2) (r_ext rfl rfl) ?_
   refine o_alloc zero_api_Arena rfl rfl rfl ?_
   intro b67 w67 e67 F67 B67
   have n67:w.heap.size≤b67:=by rw [e67]; exact E57.size
   have m68:w.heap.size≤b67:=by rw [e67]; exact (((G33.trans (Fr.ext F38)).trans (Fr.ext F44)).trans (Fr.ext F51)).size
   have m69:w13.heap.size≤b67:=by rw [e67]; exact ((G42.trans (Fr.ext F44)).trans (Fr.ext F51)).size
   have m70:w15.heap.size≤b67:=by rw [e67]; exact (G49.trans (Fr.ext F51)).size
   have m71:w51.heap.size≤b67:=Nat.le_of_eq e67.symm
   have E72:=E57.trans F67
   have G73:=(((G33.trans (Fr.ext F38)).trans (Fr.ext F44)).trans (Fr.ext F51)).trans (Fr.ext F67)
   have G76:Fr L w51 w67:=Fr.ext F67
   refine o_store rfl B67 (vs:=(cArena x51.1 A61 c62 A64 c65)) rfl sz_api_Arena rfl rfl rfl ?_
   intro w77 F77 B77
   have E78:=Ext.st E72 F77 (by simp; omega)
   have G79:Fr L w w77:=G73.stp F77 (upc (.inr m68) (fun m hm=>by cases hm))
   have G80:Fr L w13 w77:=(((G42.trans (Fr.ext F44)).trans (Fr.ext F51)).trans (Fr.ext F67)).stp F77 (upc (.inr m69) (fun m hm=>by cases hm))
   have G81:Fr L w15 w77:=((G49.trans (Fr.ext F51)).trans (Fr.ext F67)).stp F77 (upc (.inr m70) (fun m hm=>by cases hm))
   have G82:Fr L w51 w77:=G76.stp F77 (upc (.inr m71) (fun m hm=>by cases hm))
   have B77':Blk w77 b67 _ (cArena x51.1 A61 c62 A64 c65):=B77
   refine o_w (v:=.bool x51.2.1) (r_asg rfl) ?_
   refine o_w (v:=.int .i64 x51.2.2) (r_asg rfl) ?_
   refine eo_nil_sq ?_
   refine ec_seq ?_
   refine ec_region ?_
   refine o_w (v:=.agg (cArena d0 A1 c2 A4 c5).toArray) (r_lda agg_api_Arena rfl (vs:=(cArena d0 A1 c2 A4 c5)) rfl ((S13.fr G80 (fun _ h=>h)).now.part (n:=3) rfl)) ?_
   refine o_w (v:=.pointer (some ⟨b15,1,none⟩)) (r_fa fld_api_Entry_1 rfl rfl) ?_
   refine o_w (v:=.pointer (some ⟨b15,1,none⟩)) (r_fa fld_api_Value_0 rfl rfl) ?_
   refine o_w (v:=.int .i64 d1.val.kind) (r_ld one_int rfl ((S15.fr G81 (fun _ h=>h)).now.cell rfl)) ?_
   refine o_w (v:=.pointer (some ⟨b15,0,none⟩)) (r_fa fld_api_Entry_0 rfl rfl) ?_
   refine o_w (v:=str d1.key) (r_ld one_string rfl ((S15.fr G81 (fun _ h=>h)).now.cell rfl)) ?_
   obtain ⟨ha84,h⟩:=h
   refine o_call cf_arena_Find rfl (arena_Find_c d0 (kArena_mk (d:=d0) (H3.up G79 (fun _ h=>h) (upc (.inr m68) (fun _ h=>.inl h))) (H6.up G79 (fun _ h=>h) (upc (.inr m68) (fun _ h=>.inl h)))) d1.val.kind d1.key ((hL.fr E78).cons B77'.lt) (arFind_ev d0 d1.val.kind d1.key ha84)) rfl rfl ?_
   rintro _ w83 ⟨F83,rfl⟩
   have E85:=E78.trans F83
   refine o_w (v:=.bool (decide ((0:Int)≤(findA d0 d1.val.kind d1.key)))) (r_int rfl rfl rfl) ?_
   refine o_w (v:=.bool (decide ((0:Int)≤(findA d0 d1.val.kind d1.key)))) (r_asg rfl) ?_
   refine eo_nil_sq ?_
   refine ec_seq ?_
   refine ec_region ?_
   refine o_w (v:=.pointer (some ⟨b13,1,none⟩)) (r_fa fld_api_Arena_1 rfl rfl) ?_
   refine o_w (v:=.slice A1 d0.slots.length c2) (r_ld one_s_api_Entry rfl ((S13.fr (G80.trans (Fr.ext F83)) (fun _ h=>h)).now.cell rfl)) ?_
   refine o_w (v:=.int .i64 (d0.slots.length:Int)) (r_len_slc un_s_api_Entry rfl) ?_
   refine o_w (v:=.pointer (some ⟨b13,0,none⟩)) (r_fa fld_api_Arena_0 rfl rfl) ?_
   refine o_w (v:=.int .i64 d0.cap) (r_ld one_int rfl ((S13.fr (G80.trans (Fr.ext F83)) (fun _ h=>h)).now.cell rfl)) ?_
   refine o_w (v:=.bool (decide ((d0.slots.length:Int)<d0.cap))) (r_int rfl rfl rfl) ?_
   refine o_w (v:=.bool (decide ((d0.slots.length:Int)<d0.cap))) (r_asg rfl) ?_
   refine eo_nil_sq ?_
   iterate 2 refine ec_seq ?_
   refine ec_region ?_
   refine o_w (v:=.bool (decide ((0:Int)≤(findA d0 d1.val.kind d1.key)))) (r_mov rfl) ?_
   refine o_w (v:=.bool (!(decide ((0:Int)≤(findA d0 d1.val.kind d1.key))))) (r_not rfl) ?_
   refine o_w (v:=.bool (!(decide ((0:Int)≤(findA d0 d1.val.kind d1.key))))) (r_mov rfl) ?_
   refine o_vg (v:=.bool (decide ((d0.slots.length:Int)<d0.cap))) (want_ct (t:=58) rfl rfl) (fun hk=>(r_mov rfl)) rfl rfl ?_
   refine o_vg (v:=.bool (!(decide ((d0.slots.length:Int)<d0.cap)))) (want_ct (t:=58) rfl rfl) (fun hk=>(r_not (gdT hk))) rfl rfl ?_
   refine o_w (v:=.bool ((!(decide ((0:Int)≤(findA d0 d1.val.kind d1.key))))&&(!(decide ((d0.slots.length:Int)<d0.cap))))) (r_pickAnd rfl (fun ht=>(gdT ht)) rfl) ?_
   refine eo_nil_sq ?_
   refine ec_cond rfl (fun hc91=>?_) (fun hc91=>?_)
   ·replace h:=h.1 hc91
    refine ec_seq ?_
    refine ec_region ?_
    iterate 2 refine o_w (v:=.bool (worksV)) (r_mov rfl) ?_
    refine o_v (v:=.int .i64 x51.2.2) (r_mov rfl) (want_t (t:=63) rfl rfl (of_not hc24)) rfl rfl ?_
    refine o_v (v:=.bool (x51.2.2==(4:Int))) (r_int rfl rfl rfl) (want_t (t:=63) rfl rfl (of_not hc24)) rfl rfl ?_
    refine o_w (v:=.bool (x51.2.2==(4:Int))) (r_pickT rfl (of_not hc24) rfl) ?_
    refine o_w (v:=.bool (x51.2.2==(4:Int))) (r_mov rfl) ?_
    refine o_vg (v:=.agg (cArena d0 A1 c2 A4 c5).toArray) (want_ct (t:=67) rfl rfl) (fun hk=>(r_lda agg_api_Arena rfl (vs:=(cArena d0 A1 c2 A4 c5)) rfl ((S13.fr (G80.trans (Fr.ext F83)) (fun _ h=>h)).now.part (n:=3) rfl))) rfl rfl ?_
    refine o_vg (v:=.agg (cArena x51.1 A61 c62 A64 c65).toArray) (want_ct (t:=67) rfl rfl) (fun hk=>(r_lda agg_api_Arena rfl (vs:=(cArena x51.1 A61 c62 A64 c65)) rfl ((B77'.ex F83).part (n:=3) rfl))) rfl rfl ?_
    obtain ⟨ha94,h⟩:=h
    refine o_callg (V:=.bool (sameA d0 x51.1)) cf_arena_Same (want_ct (t:=67) rfl rfl) (fun hk=>(mapv2 (gdT hk) (gdT hk))) (fun hk=>(arena_Same_c d0 (kArena_mk (d:=d0) (H3.up (G79.trans (Fr.ext F83)) (fun _ h=>h) (upc (.inr m68) (fun _ h=>.inl h))) (H6.up (G79.trans (Fr.ext F83)) (fun _ h=>h) (upc (.inr m68) (fun _ h=>.inl h)))) x51.1 (kArena_mk (d:=x51.1) (H63.up (G82.trans (Fr.ext F83)) (fun _ h=>h) (upc (.inr m71) (fun _ h=>.inl h))) (H66.up (G82.trans (Fr.ext F83)) (fun _ h=>h) (upc (.inr m71) (fun _ h=>.inl h)))) ((hL.fr E85).cons (B77'.ex F83).lt) (arSame_ev d0 x51.1 (ha94 hk)))) rfl ?_
    intro w93 F93
    have E95:=E85.trans F93
    refine o_w (v:=.bool ((x51.2.2==(4:Int))&&(sameA d0 x51.1))) (r_pickAnd rfl (fun ht=>(gdT ht)) rfl) ?_
    refine o_w (v:=.bool ((x51.2.2==(4:Int))&&(sameA d0 x51.1))) (r_asg rfl) ?_
    refine eo_nil_sq ?_
    refine ec_ret ?_
    refine sq_ret ?_
    subst h
    exact (end1 rfl ⟨_,rfl,E95,rfl⟩)
   ·replace h:=h.2 hc91
    refine ec_skip ?_
    refine sq_n ?_
    refine ec_seq ?_
    refine ec_region ?_
    refine o_w (v:=.int .i64 (1:Int)) (r_asg rfl) ?_
    refine eo_nil_sq ?_
    iterate 2 refine ec_seq ?_
    refine ec_region ?_
    refine o_w (v:=.bool (decide ((0:Int)≤(findA d0 d1.val.kind d1.key)))) (r_mov rfl) ?_
    refine eo_nil_sq ?_
    refine ec_cond rfl (fun hc101=>?_) (fun hc101=>?_)
    ·replace h:=h.1 hc101
     refine ec_region ?_
     refine o_w (v:=.int .i64 (0:Int)) (r_asg rfl) ?_
     refine eo_nil_sq ?_
     refine ec_seq ?_
     refine ec_region ?_
     iterate 2 refine o_w (v:=.bool (worksV)) (r_mov rfl) ?_
     refine o_v (v:=.int .i64 x51.2.2) (r_mov rfl) (want_t (t:=74) rfl rfl (of_not hc24)) rfl rfl ?_
     refine o_v (v:=.bool (x51.2.2==(0:Int))) (r_int rfl rfl rfl) (want_t (t:=74) rfl rfl (of_not hc24)) rfl rfl ?_
     refine o_w (v:=.bool (x51.2.2==(0:Int))) (r_pickT rfl (of_not hc24) rfl) ?_
     refine o_w (v:=.bool (x51.2.2==(0:Int))) (r_mov rfl) ?_
     refine o_vg (v:=.pointer (some ⟨b67,1,none⟩)) (want_ct (t:=78) rfl rfl) (fun hk=>(r_fa fld_api_Arena_1 rfl rfl)) rfl rfl ?_
     refine o_vg (v:=.slice A61 x51.1.slots.length c62) (want_ct (t:=78) rfl rfl) (fun hk=>(r_ld one_s_api_Entry (gdT hk) ((B77'.ex F83).cell rfl))) rfl rfl ?_
     refine o_vg (v:=.int .i64 (x51.1.slots.length:Int)) (want_ct (t:=78) rfl rfl) (fun hk=>(r_len_slc un_s_api_Entry (gdT hk))) rfl rfl ?_
     refine o_vg (v:=.pointer (some ⟨b13,1,none⟩)) (want_ct (t:=78) rfl rfl) (fun hk=>(r_fa fld_api_Arena_1 rfl rfl)) rfl rfl ?_
     refine o_vg (v:=.slice A1 d0.slots.length c2) (want_ct (t:=78) rfl rfl) (fun hk=>(r_ld one_s_api_Entry (gdT hk) ((S13.fr (G80.trans (Fr.ext F83)) (fun _ h=>h)).now.cell rfl))) rfl rfl ?_
     refine o_vg (v:=.int .i64 (d0.slots.length:Int)) (want_ct (t:=78) rfl rfl) (fun hk=>(r_len_slc un_s_api_Entry (gdT hk))) rfl rfl ?_
     refine o_vg (v:=.int .i64 (0:Int)) (want_ct (t:=78) rfl rfl) (fun hk=>(r_mov rfl)) rfl rfl ?_
     refine o_vg (v:=.int .i64 (IntKind.i64.wrap ((d0.slots.length:Int) + (0:Int)))) (want_ct (t:=78) rfl rfl) (fun hk=>(r_int (gdT hk) (gdT hk) rfl)) rfl rfl ?_
     refine o_vg (v:=.bool ((x51.1.slots.length:Int)==(IntKind.i64.wrap ((d0.slots.length:Int) + (0:Int))))) (want_ct (t:=78) rfl rfl) (fun hk=>(r_int (gdT hk) (gdT hk) rfl)) rfl rfl ?_
     refine o_w (v:=.bool ((x51.2.2==(0:Int))&&((x51.1.slots.length:Int)==(IntKind.i64.wrap ((d0.slots.length:Int) + (0:Int)))))) (r_pickAnd rfl (fun ht=>(gdT ht)) rfl) ?_
     refine o_w (v:=.bool ((x51.2.2==(0:Int))&&((x51.1.slots.length:Int)==(IntKind.i64.wrap ((d0.slots.length:Int) + (0:Int)))))) (r_asg rfl) ?_
     refine eo_nil_sq ?_
     refine ec_ret ?_
     subst h
     exact (end1 rfl ⟨_,rfl,E85,rfl⟩)
    ·replace h:=h.2 hc101
     refine ec_skip ?_
     refine sq_n ?_
     refine ec_seq ?_
     refine ec_region ?_
     iterate 2 refine o_w (v:=.bool (worksV)) (r_mov rfl) ?_
     refine o_v (v:=.int .i64 x51.2.2) (r_mov rfl) (want_t (t:=74) rfl rfl (of_not hc24)) rfl rfl ?_
     refine o_v (v:=.bool (x51.2.2==(0:Int))) (r_int rfl rfl rfl) (want_t (t:=74) rfl rfl (of_not hc24)) rfl rfl ?_
     refine o_w (v:=.bool (x51.2.2==(0:Int))) (r_pickT rfl (of_not hc24) rfl) ?_
     refine o_w (v:=.bool (x51.2.2==(0:Int))) (r_mov rfl) ?_
     refine o_vg (v:=.pointer (some ⟨b67,1,none⟩)) (want_ct (t:=78) rfl rfl) (fun hk=>(r_fa fld_api_Arena_1 rfl rfl)) rfl rfl ?_
     refine o_vg (v:=.slice A61 x51.1.slots.length c62) (want_ct (t:=78) rfl rfl) (fun hk=>(r_ld one_s_api_Entry (gdT hk) ((B77'.ex F83).cell rfl))) rfl rfl ?_
     refine o_vg (v:=.int .i64 (x51.1.slots.length:Int)) (want_ct (t:=78) rfl rfl) (fun hk=>(r_len_slc un_s_api_Entry (gdT hk))) rfl rfl ?_
     refine o_vg (v:=.pointer (some ⟨b13,1,none⟩)) (want_ct (t:=78) rfl rfl) (fun hk=>(r_fa fld_api_Arena_1 rfl rfl)) rfl rfl ?_
     refine o_vg (v:=.slice A1 d0.slots.length c2) (want_ct (t:=78) rfl rfl) (fun hk=>(r_ld one_s_api_Entry (gdT hk) ((S13.fr (G80.trans (Fr.ext F83)) (fun _ h=>h)).now.cell rfl))) rfl rfl ?_
     refine o_vg (v:=.int .i64 (d0.slots.length:Int)) (want_ct (t:=78) rfl rfl) (fun hk=>(r_len_slc un_s_api_Entry (gdT hk))) rfl rfl ?_
     refine o_vg (v:=.int .i64 (1:Int)) (want_ct (t:=78) rfl rfl) (fun hk=>(r_mov rfl)) rfl rfl ?_
     refine o_vg (v:=.int .i64 (IntKind.i64.wrap ((d0.slots.length:Int) + (1:Int)))) (want_ct (t:=78) rfl rfl) (fun hk=>(r_int (gdT hk) (gdT hk) rfl)) rfl rfl ?_
     refine o_vg (v:=.bool ((x51.1.slots.length:Int)==(IntKind.i64.wrap ((d0.slots.length:Int) + (1:Int))))) (want_ct (t:=78) rfl rfl) (fun hk=>(r_int (gdT hk) (gdT hk) rfl)) rfl rfl ?_
     refine o_w (v:=.bool ((x51.2.2==(0:Int))&&((x51.1.slots.length:Int)==(IntKind.i64.wrap ((d0.slots.length:Int) + (1:Int)))))) (r_pickAnd rfl (fun ht=>(gdT ht)) rfl) ?_
     refine o_w (v:=.bool ((x51.2.2==(0:Int))&&((x51.1.slots.length:Int)==(IntKind.i64.wrap ((d0.slots.length:Int) + (1:Int)))))) (r_asg rfl) ?_
     refine eo_nil_sq ?_
     refine ec_ret ?_
     subst h
     exact (end1 rfl ⟨_,rfl,E85,rfl⟩)
end Go.Proofs.Ythifkdgljapmeaa
