/- The law EntryTells: what it comes to. -/
import Derived.Test.YtbijobepjjokmaaHk
namespace Go.Proofs.Ytbijobepjjokmaa
open Go Go.RowKit
set_option linter.unusedVariables false
set_option linter.unusedSimpArgs false
def law07_EntryTells_raw (d0:Ent) (d1:Ent) (y:Bool):Prop :=
 ((!(worksV))=true→(y=false))∧((!(worksV))=false→(((!((fewE d0)&&(fewE d1)))=true→(y=(worksV)))∧((!((fewE d0)&&(fewE d1)))=false→((sm d0.val)∧((sm d0.val)∧(∃ x43,x43=(putE d0)∧((sm d0.val)∧((WfV d0.val)∧(∃ x49,x49=(putE d0)∧((sm d0.val)∧((sm d1.val)∧(∃ x56,x56=(joinE d0 d1)∧((sm d0.val)∧((sm d1.val)∧(∃ x87,x87=(joinE d0 d1)∧((sm x56.1.val)∧((sm d0.val)∧((sm d0.val)∧((((((((((checkE d0)==(0:Int))==(okE d0))&&(x43.1==x49.1))&&(x43.2==x49.2))&&(sameE x56.1 x87.1))&&(x56.2==x87.2))&&((lessE d0 d1)==(lessE d0 d1)))=true→sm d0.val)∧(y=(((((((((checkE d0)==(0:Int))==(okE d0))&&(x43.1==x49.1))&&(x43.2==x49.2))&&(sameE x56.1 x87.1))&&(x56.2==x87.2))&&((lessE d0 d1)==(lessE d0 d1)))&&((sameE d0 d1)==(sameE d0 d1)))))))))))))))))))))))
set_option maxRecDepth 20000 in
set_option maxHeartbeats 4000000 in
theorem law07_EntryTells_c {L:List Nat} {w:World} {csP0:List Value} (d0:Ent) (HP0:Stb L w (fun w=>kEnt.r w csP0 d0)) {csP1:List Value} (d1:Ent) (HP1:Stb L w (fun w=>kEnt.r w csP1 d1)) (hL:Lt L w) {y:Bool} (h:law07_EntryTells_raw d0 d1 y) :
  Calls Try.prog 3 [.agg csP0.toArray,.agg csP1.toArray].toArray w (Ret fun v w'=>Ext w w'∧v=.bool y):=by
 obtain ⟨A1,c2,A4,c5,rfl,H3,H6⟩:=kEnt_open HP0
 obtain ⟨A7,c8,A10,c11,rfl,H9,H12⟩:=kEnt_open HP1
 unfold law07_EntryTells_raw at h
 refine calls_ec Try.func3 rfl rfl rfl ?_
 refine ec_seq ?_
 refine ec_region ?_
 refine o_box (cs:=(cEnt d0 A1 c2 A4 c5)) rfl rfl rfl ?_
 intro b13 w13 e13 F13 B13
 have S13:=B13.stb (nin hL e13)
 have G14:Fr L w w13:=Fr.ext F13
 refine o_box (cs:=(cEnt d1 A7 c8 A10 c11)) rfl rfl rfl ?_
 intro b15 w15 e15 F15 B15
 have S15:=B15.stb (nin (hL.fr F13) e15)
 have E16:=F13.trans F15
 have G18:Fr L w13 w15:=Fr.ext F15
 refine o_w (v:=.bool false) (r_asg rfl) ?_
 refine eo_nil_sq ?_
 refine ec_seq ?_
 refine ec_region ?_
 refine o_call cf_law07_works rfl (law07_works_c (hL.fr E16) (works7_ev)) rfl rfl ?_
 rintro _ w19 ⟨F19,rfl⟩
 have E20:=E16.trans F19
 have G23:Fr L w15 w19:=Fr.ext F19
 refine o_w (v:=.bool (worksV)) (r_asg rfl) ?_
 refine eo_nil_sq ?_
 iterate 2 refine ec_seq ?_
 refine ec_region ?_
 refine o_w (v:=.bool (worksV)) (r_mov rfl) ?_
 refine o_w (v:=.bool (!(worksV))) (r_not rfl) ?_
 refine eo_nil_sq ?_
 refine ec_cond rfl (fun hc24=>?_) (fun hc24=>?_)
 ·replace h:=h.1 hc24
  refine ec_seq ?_
  refine ec_region ?_
  refine o_w (v:=.bool false) (r_asg rfl) ?_
  refine eo_nil_sq ?_
  refine ec_ret ?_
  refine sq_ret ?_
  subst h
  exact (end1 rfl ⟨_,rfl,E20,rfl⟩)
 ·replace h:=h.2 hc24
  refine ec_skip ?_
  refine sq_n ?_
  refine ec_seq ?_
  refine ec_region ?_
  refine o_w (v:=.agg (cEnt d0 A1 c2 A4 c5).toArray) (r_lda agg_api_Entry rfl (vs:=(cEnt d0 A1 c2 A4 c5)) rfl ((S13.fr (G18.trans (Fr.ext F19)) (fun _ h=>h)).now.part (n:=9) rfl)) ?_
  refine o_call cf_law07_Few rfl (law07_Few_c d0 (kEnt_mk (d:=d0) (H3.fr ((G14.trans (Fr.ext F15)).trans (Fr.ext F19)) (fun _ h=>h)) (H6.fr ((G14.trans (Fr.ext F15)).trans (Fr.ext F19)) (fun _ h=>h))) (hL.fr E20) (fewE_ev d0)) rfl rfl ?_
  rintro _ w26 ⟨F26,rfl⟩
  have E27:=E20.trans F26
  refine o_w (v:=.bool (fewE d0)) (r_mov rfl) ?_
  refine o_vg (v:=.agg (cEnt d1 A7 c8 A10 c11).toArray) (want_ct (t:=24) rfl rfl) (fun hk=>(r_lda agg_api_Entry rfl (vs:=(cEnt d1 A7 c8 A10 c11)) rfl ((S15.fr (G23.trans (Fr.ext F26)) (fun _ h=>h)).now.part (n:=9) rfl))) rfl rfl ?_
  refine o_callg (V:=.bool (fewE d1)) cf_law07_Few (want_ct (t:=24) rfl rfl) (fun hk=>(mapv1 (gdT hk))) (fun hk=>(law07_Few_c d1 (kEnt_mk (d:=d1) (H9.fr (((G14.trans (Fr.ext F15)).trans (Fr.ext F19)).trans (Fr.ext F26)) (fun _ h=>h)) (H12.fr (((G14.trans (Fr.ext F15)).trans (Fr.ext F19)).trans (Fr.ext F26)) (fun _ h=>h))) (hL.fr E27) (fewE_ev d1))) rfl ?_
  intro w31 F31
  have E32:=E27.trans F31
  have G33:=(((G14.trans (Fr.ext F15)).trans (Fr.ext F19)).trans (Fr.ext F26)).trans (Fr.ext F31)
  refine o_w (v:=.bool ((fewE d0)&&(fewE d1))) (r_pickAnd rfl (fun ht=>(gdT ht)) rfl) ?_
  refine o_w (v:=.bool ((fewE d0)&&(fewE d1))) (r_asg rfl) ?_
  refine eo_nil_sq ?_
  iterate 2 refine ec_seq ?_
  refine ec_region ?_
  refine o_w (v:=.bool ((fewE d0)&&(fewE d1))) (r_mov rfl) ?_
  refine o_w (v:=.bool (!((fewE d0)&&(fewE d1)))) (r_not rfl) ?_
  refine eo_nil_sq ?_
  refine ec_cond rfl (fun hc36=>?_) (fun hc36=>?_)
  ·replace h:=h.1 hc36
   refine ec_seq ?_
   refine ec_region ?_
   refine o_w (v:=.bool (worksV)) (r_mov rfl) ?_
   refine o_w (v:=.bool (worksV)) (r_asg rfl) ?_
   refine eo_nil_sq ?_
   refine ec_ret ?_
   refine sq_ret ?_
   subst h
   exact (end1 rfl ⟨_,rfl,E32,rfl⟩)
  ·replace h:=h.2 hc36
   refine ec_skip ?_
   refine sq_n ?_
   refine ec_seq ?_
   refine ec_region ?_
   refine o_w (v:=.agg (cEnt d0 A1 c2 A4 c5).toArray) (r_lda agg_api_Entry rfl (vs:=(cEnt d0 A1 c2 A4 c5)) rfl ((S13.fr (((G18.trans (Fr.ext F19)).trans (Fr.ext F26)).trans (Fr.ext F31)) (fun _ h=>h)).now.part (n:=9) rfl)) ?_
   obtain ⟨ha38,h⟩:=h
   refine o_call cf_ref07_Check rfl (ref07_Check_c d0 (kEnt_mk (d:=d0) (H3.fr G33 (fun _ h=>h)) (H6.fr G33 (fun _ h=>h))) (hL.fr E32) (refCheckE_ev d0 ha38)) rfl rfl ?_
   rintro _ w37 ⟨F37,rfl⟩
   have E39:=E32.trans F37
   have G41:=(((G18.trans (Fr.ext F19)).trans (Fr.ext F26)).trans (Fr.ext F31)).trans (Fr.ext F37)
   refine o_w (v:=.bool (okE d0)) (r_asg rfl) ?_
   refine eo_nil_sq ?_
   refine ec_seq ?_
   refine ec_region ?_
   refine o_w (v:=.agg (cEnt d0 A1 c2 A4 c5).toArray) (r_lda agg_api_Entry rfl (vs:=(cEnt d0 A1 c2 A4 c5)) rfl ((S13.fr G41 (fun _ h=>h)).now.part (n:=9) rfl)) ?_
   obtain ⟨ha44,h⟩:=h
   obtain ⟨x43,hx43,h⟩:=h
   refine o_call cf_entry_Put rfl (entry_Put_c d0 (kEnt_mk (d:=d0) (H3.fr (G33.trans (Fr.ext F37)) (fun _ h=>h)) (H6.fr (G33.trans (Fr.ext F37)) (fun _ h=>h))) (hL.fr E39) (eq_ev hx43 (entPut_ev d0 ha44))) rfl rfl ?_
   rintro _ w43 ⟨F43,rfl⟩
   have E45:=E39.trans F43
   have G48:=(((G23.trans (Fr.ext F26)).trans (Fr.ext F31)).trans (Fr.ext F37)).trans (Fr.ext F43)
   refine o_w (v:=.tuple #[str x43.1,.int .i64 x43.2]) (r_mov rfl) ?_
   refine o_w (v:=str x43.1) (r_ext rfl rfl) ?_
   refine o_w (v:=.int .i64 x43.2) (r_ext rfl rfl) ?_
   refine o_w (v:=str x43.1) (r_asg rfl) ?_
   refine o_w (v:=.int .i64 x43.2) (r_asg rfl) ?_
   refine eo_nil_sq ?_
   refine ec_seq ?_
   refine ec_region ?_
   refine o_w (v:=.agg (cEnt d0 A1 c2 A4 c5).toArray) (r_lda agg_api_Entry rfl (vs:=(cEnt d0 A1 c2 A4 c5)) rfl ((S13.fr (G41.trans (Fr.ext F43)) (fun _ h=>h)).now.part (n:=9) rfl)) ?_
   obtain ⟨ha50,h⟩:=h
   obtain ⟨ha51,h⟩:=h
   obtain ⟨x49,hx49,h⟩:=h
   refine o_call cf_ref07_Put rfl (ref07_Put_c d0 (kEnt_mk (d:=d0) (H3.fr ((G33.trans (Fr.ext F37)).trans (Fr.ext F43)) (fun _ h=>h)) (H6.fr ((G33.trans (Fr.ext F37)).trans (Fr.ext F43)) (fun _ h=>h))) (hL.fr E45) (eq_ev hx49 (refPutE_ev d0 ha50 ha51))) rfl rfl ?_
   rintro _ w49 ⟨F49,rfl⟩
   have E52:=E45.trans F49
   refine o_w (v:=.tuple #[str x49.1,.int .i64 x49.2]) (r_mov rfl) ?_
   refine o_w (v:=str x49.1) (r_ext rfl rfl) ?_
   refine o_w (v:=.int .i64 x49.2) (r_ext rfl rfl) ?_
   refine o_w (v:=str x49.1) (r_asg rfl) ?_
   refine o_w (v:=.int .i64 x49.2) (r_asg rfl) ?_
   refine eo_nil_sq ?_
   refine ec_seq ?_
   refine ec_region ?_
   refine o_w (v:=.agg (cEnt d0 A1 c2 A4 c5).toArray) (r_lda agg_api_Entry rfl (vs:=(cEnt d0 A1 c2 A4 c5)) rfl ((S13.fr ((G41.trans (Fr.ext F43)).trans (Fr.ext F49)) (fun _ h=>h)).now.part (n:=9) rfl)) ?_
   refine o_w (v:=.agg (cEnt d1 A7 c8 A10 c11).toArray) (r_lda agg_api_Entry rfl (vs:=(cEnt d1 A7 c8 A10 c11)) rfl ((S15.fr (G48.trans (Fr.ext F49)) (fun _ h=>h)).now.part (n:=9) rfl)) ?_
   obtain ⟨ha57,h⟩:=h
   obtain ⟨ha58,h⟩:=h
   obtain ⟨x56,hx56,h⟩:=h
   refine o_call cf_entry_Join rfl (entry_Join_c d0 (kEnt_mk (d:=d0) (H3.fr (((G33.trans (Fr.ext F37)).trans (Fr.ext F43)).trans (Fr.ext F49)) (fun _ h=>h)) (H6.fr (((G33.trans (Fr.ext F37)).trans (Fr.ext F43)).trans (Fr.ext F49)) (fun _ h=>h))) d1 (kEnt_mk (d:=d1) (H9.fr (((G33.trans (Fr.ext F37)).trans (Fr.ext F43)).trans (Fr.ext F49)) (fun _ h=>h)) (H12.fr (((G33.trans (Fr.ext F37)).trans (Fr.ext F43)).trans (Fr.ext F49)) (fun _ h=>h))) (hL.fr E52) (eq_ev hx56 (entJoin_ev d0 d1 ha57 ha58))) rfl rfl ?_
   rintro _ w56 ⟨F56,cs59,rfl,H60⟩
   have E61:=E52.trans F56
   have G62:=(((G33.trans (Fr.ext F37)).trans (Fr.ext F43)).trans (Fr.ext F49)).trans (Fr.ext F56)
   obtain ⟨A65,c66,A68,c69,rfl,H67,H70⟩:=kEnt_open H60
   refine o_w (v:=.tuple #[.agg (cEnt x56.1 A65 c66 A68 c69).toArray,.int .i64 x56.2]) (r_mov rfl) ?_
   refine o_w (v:=.agg (cEnt x56.1 A65 c66 A68 c69).toArray) (r_ext rfl rfl) ?_
   refine o_w (v:=.int .i64 x56.2) (r_ext rfl rfl) ?_
   refine o_alloc zero_api_Entry rfl rfl rfl ?_
   intro b71 w71 e71 F71 B71
   have n71:w.heap.size≤b71:=by rw [e71]; exact E61.size
   have m72:w.heap.size≤b71:=by rw [e71]; exact G62.size
   have m73:w13.heap.size≤b71:=by rw [e71]; exact (((G41.trans (Fr.ext F43)).trans (Fr.ext F49)).trans (Fr.ext F56)).size
   have m74:w15.heap.size≤b71:=by rw [e71]; exact ((G48.trans (Fr.ext F49)).trans (Fr.ext F56)).size
   have m75:w56.heap.size≤b71:=Nat.le_of_eq e71.symm
   have E76:=E61.trans F71
   have G78:=(((G41.trans (Fr.ext F43)).trans (Fr.ext F49)).trans (Fr.ext F56)).trans (Fr.ext F71)
   have G80:Fr L w56 w71:=Fr.ext F71
   refine o_store rfl B71 (vs:=(cEnt x56.1 A65 c66 A68 c69)) rfl sz_api_Entry rfl rfl rfl ?_
   intro w81 F81 B81
   have E82:=Ext.st E76 F81 (by simp; omega)
   have G83:Fr L w w81:=(G62.trans (Fr.ext F71)).stp F81 (upc (.inr m72) (fun m hm=>by cases hm))
   have G84:Fr L w13 w81:=G78.stp F81 (upc (.inr m73) (fun m hm=>by cases hm))
   have G85:Fr L w15 w81:=(((G48.trans (Fr.ext F49)).trans (Fr.ext F56)).trans (Fr.ext F71)).stp F81 (upc (.inr m74) (fun m hm=>by cases hm))
   have G86:Fr L w56 w81:=G80.stp F81 (upc (.inr m75) (fun m hm=>by cases hm))
   have B81':Blk w81 b71 _ (cEnt x56.1 A65 c66 A68 c69):=B81
   refine o_w (v:=.int .i64 x56.2) (r_asg rfl) ?_
   refine eo_nil_sq ?_
   refine ec_seq ?_
   refine ec_region ?_
   refine o_w (v:=.agg (cEnt d0 A1 c2 A4 c5).toArray) (r_lda agg_api_Entry rfl (vs:=(cEnt d0 A1 c2 A4 c5)) rfl ((S13.fr G84 (fun _ h=>h)).now.part (n:=9) rfl)) ?_
   refine o_w (v:=.agg (cEnt d1 A7 c8 A10 c11).toArray) (r_lda agg_api_Entry rfl (vs:=(cEnt d1 A7 c8 A10 c11)) rfl ((S15.fr G85 (fun _ h=>h)).now.part (n:=9) rfl)) ?_
   obtain ⟨ha88,h⟩:=h
   obtain ⟨ha89,h⟩:=h
   obtain ⟨x87,hx87,h⟩:=h
   refine o_call cf_ref07_Join rfl (ref07_Join_c d0 (kEnt_mk (d:=d0) (H3.up G83 (fun _ h=>h) (upc (.inr m72) (fun _ h=>.inl h))) (H6.up G83 (fun _ h=>h) (upc (.inr m72) (fun _ h=>.inl h)))) d1 (kEnt_mk (d:=d1) (H9.up G83 (fun _ h=>h) (upc (.inr m72) (fun _ h=>.inl h))) (H12.up G83 (fun _ h=>h) (upc (.inr m72) (fun _ h=>.inl h)))) ((hL.fr E82).cons B81'.lt) (eq_ev hx87 (refJoinE_ev d0 d1 ha88 ha89))) rfl rfl ?_
   rintro _ w87 ⟨F87,cs90,rfl,H91⟩
   have E92:=E82.trans F87
   obtain ⟨A98,c99,A101,c102,rfl,H100,H103⟩:=kEnt_open H91
   refine o_w (v:=.tuple #[.agg (cEnt x87.1 A98 c99 A101 c102).toArray,.int .i64 x87.2]) (r_mov rfl) ?_
   refine o_w (v:=.agg (cEnt x87.1 A98 c99 A101 c102).toArray) (r_ext rfl rfl) ?_
   refine o_w (v:=.int .i64 x87.2) (r_ext rfl rfl) ?_
   refine o_alloc zero_api_Entry rfl rfl rfl ?_
   intro b104 w104 e104 F104 B104
   have n104:w.heap.size≤b104:=by rw [e104]; exact E92.size
   have q105:b71<b104:=by rw [e104]; exact (B81'.ex F87).lt
   have m106:w.heap.size≤b104:=by rw [e104]; exact (G83.trans (Fr.ext F87)).size
   have m107:w13.heap.size≤b104:=by rw [e104]; exact (G84.trans (Fr.ext F87)).size
   have m108:w15.heap.size≤b104:=by rw [e104]; exact (G85.trans (Fr.ext F87)).size
   have m109:w56.heap.size≤b104:=by rw [e104]; exact (G86.trans (Fr.ext F87)).size
   have m110:w87.heap.size≤b104:=Nat.le_of_eq e104.symm
   have E111:=E92.trans F104
   have G116:Fr (b71::L) w87 w104:=Fr.ext F104
   refine o_store rfl B104 (vs:=(cEnt x87.1 A98 c99 A101 c102)) rfl sz_api_Entry rfl rfl rfl ?_
   intro w118 F118 B118
   have E119:=Ext.st E111 F118 (by simp; omega)
   have G120:Fr L w w118:=((G83.trans (Fr.ext F87)).trans (Fr.ext F104)).stp F118 (upc (.inr m106) (fun m hm=>by cases hm))
   have G121:Fr L w13 w118:=((G84.trans (Fr.ext F87)).trans (Fr.ext F104)).stp F118 (upc (.inr m107) (fun m hm=>by cases hm))
   have G122:Fr L w15 w118:=((G85.trans (Fr.ext F87)).trans (Fr.ext F104)).stp F118 (upc (.inr m108) (fun m hm=>by cases hm))
   have G123:Fr L w56 w118:=((G86.trans (Fr.ext F87)).trans (Fr.ext F104)).stp F118 (upc (.inr m109) (fun m hm=>by cases hm))
   have G124:Fr (b71::L) w87 w118:=G116.stp F118 (upc (.inr m110) (fun m hm=>by cases hm))
   have B125:=((B81'.ex F87).ex F104).fr F118 (by simp; omega)
   have B118':Blk w118 b104 _ (cEnt x87.1 A98 c99 A101 c102):=B118
   refine o_w (v:=.int .i64 x87.2) (r_asg rfl) ?_
   refine eo_nil_sq ?_
   refine ec_seq ?_
   refine ec_region ?_
   refine o_w (v:=.agg (cEnt x56.1 A65 c66 A68 c69).toArray) (r_lda agg_api_Entry rfl (vs:=(cEnt x56.1 A65 c66 A68 c69)) rfl (B125.part (n:=9) rfl)) ?_
   refine o_w (v:=.agg (cEnt x87.1 A98 c99 A101 c102).toArray) (r_lda agg_api_Entry rfl (vs:=(cEnt x87.1 A98 c99 A101 c102)) rfl (B118'.part (n:=9) rfl)) ?_
   obtain ⟨ha127,h⟩:=h
   refine o_call cf_ref07_Same rfl (ref07_Same_c x56.1 (kEnt_mk (d:=x56.1) (H67.up G123 (fun _ h=>h) (upc (.inr m109) (upc (.inr m75) (fun _ h=>.inl h)))) (H70.up G123 (fun _ h=>h) (upc (.inr m109) (upc (.inr m75) (fun _ h=>.inl h))))) x87.1 (kEnt_mk (d:=x87.1) (H100.up G124 (fun _ h=>h) (upc (.inr m110) (upc (.inl (List.Mem.head _)) (fun m hm=>Or.inl (List.Mem.tail _ hm))))) (H103.up G124 (fun _ h=>h) (upc (.inr m110) (upc (.inl (List.Mem.head _)) (fun m hm=>Or.inl (List.Mem.tail _ hm)))))) (((hL.fr E119).cons B125.lt).cons B118'.lt) (refSameE_ev x56.1 x87.1 ha127)) rfl rfl ?_
   rintro _ w126 ⟨F126,rfl⟩
   have E128:=E119.trans F126
   refine o_w (v:=.bool (sameE x56.1 x87.1)) (r_asg rfl) ?_
   refine eo_nil_sq ?_
   refine ec_seq ?_
   refine ec_region ?_
   refine o_w (v:=.agg (cEnt d0 A1 c2 A4 c5).toArray) (r_lda agg_api_Entry rfl (vs:=(cEnt d0 A1 c2 A4 c5)) rfl ((S13.fr (G121.trans (Fr.ext F126)) (fun _ h=>h)).now.part (n:=9) rfl)) ?_
   refine o_w (v:=.agg (cEnt d1 A7 c8 A10 c11).toArray) (r_lda agg_api_Entry rfl (vs:=(cEnt d1 A7 c8 A10 c11)) rfl ((S15.fr (G122.trans (Fr.ext F126)) (fun _ h=>h)).now.part (n:=9) rfl)) ?_
   refine o_call cf_ref07_Less rfl (ref07_Less_c d0 (kEnt_mk (d:=d0) (H3.up (G120.trans (Fr.ext F126)) (fun _ h=>h) (upc (.inr m106) (upc (.inr m72) (fun _ h=>.inl h)))) (H6.up (G120.trans (Fr.ext F126)) (fun _ h=>h) (upc (.inr m106) (upc (.inr m72) (fun _ h=>.inl h))))) d1 (kEnt_mk (d:=d1) (H9.up (G120.trans (Fr.ext F126)) (fun _ h=>h) (upc (.inr m106) (upc (.inr m72) (fun _ h=>.inl h)))) (H12.up (G120.trans (Fr.ext F126)) (fun _ h=>h) (upc (.inr m106) (upc (.inr m72) (fun _ h=>.inl h))))) (((hL.fr E128).cons (B125.ex F126).lt).cons (B118'.ex F126).lt) (refLess_ev d0 d1)) rfl rfl ?_
   rintro _ w136 ⟨F136,rfl⟩
   have E137:=E128.trans F136
   refine o_w (v:=.bool (lessE d0 d1)) (r_asg rfl) ?_
   refine eo_nil_sq ?_
   refine ec_seq ?_
   refine ec_region ?_
   refine o_w (v:=.agg (cEnt d0 A1 c2 A4 c5).toArray) (r_lda agg_api_Entry rfl (vs:=(cEnt d0 A1 c2 A4 c5)) rfl ((S13.fr ((G121.trans (Fr.ext F126)).trans (Fr.ext F136)) (fun _ h=>h)).now.part (n:=9) rfl)) ?_
   refine o_w (v:=.agg (cEnt d1 A7 c8 A10 c11).toArray) (r_lda agg_api_Entry rfl (vs:=(cEnt d1 A7 c8 A10 c11)) rfl ((S15.fr ((G122.trans (Fr.ext F126)).trans (Fr.ext F136)) (fun _ h=>h)).now.part (n:=9) rfl)) ?_
   obtain ⟨ha146,h⟩:=h
   refine o_call cf_ref07_Same rfl (ref07_Same_c d0 (kEnt_mk (d:=d0) (H3.up ((G120.trans (Fr.ext F126)).trans (Fr.ext F136)) (fun _ h=>h) (upc (.inr m106) (upc (.inr m72) (fun _ h=>.inl h)))) (H6.up ((G120.trans (Fr.ext F126)).trans (Fr.ext F136)) (fun _ h=>h) (upc (.inr m106) (upc (.inr m72) (fun _ h=>.inl h))))) d1 (kEnt_mk (d:=d1) (H9.up ((G120.trans (Fr.ext F126)).trans (Fr.ext F136)) (fun _ h=>h) (upc (.inr m106) (upc (.inr m72) (fun _ h=>.inl h)))) (H12.up ((G120.trans (Fr.ext F126)).trans (Fr.ext F136)) (fun _ h=>h) (upc (.inr m106) (upc (.inr m72) (fun _ h=>.inl h))))) (((hL.fr E137).cons ((B125.ex F126).ex F136).lt).cons ((B118'.ex F126).ex F136).lt) (refSameE_ev d0 d1 ha146)) rfl rfl ?_
   rintro _ w145 ⟨F145,rfl⟩
   have E147:=E137.trans F145
   have G148:=((G120.trans (Fr.ext F126)).trans (Fr.ext F136)).trans (Fr.ext F145)
   have G149:=((G121.trans (Fr.ext F126)).trans (Fr.ext F136)).trans (Fr.ext F145)
   have G150:=((G122.trans (Fr.ext F126)).trans (Fr.ext F136)).trans (Fr.ext F145)
   refine o_w (v:=.bool (sameE d0 d1)) (r_asg rfl) ?_
   refine eo_nil_sq ?_
   refine ec_seq ?_
   refine ec_region ?_
   iterate 2 refine o_w (v:=.bool (worksV)) (r_mov rfl) ?_
   refine o_v (v:=.agg (cEnt d0 A1 c2 A4 c5).toArray) (r_lda agg_api_Entry rfl (vs:=(cEnt d0 A1 c2 A4 c5)) rfl ((S13.fr G149 (fun _ h=>h)).now.part (n:=9) rfl)) (want_t (t:=65) rfl rfl (of_not hc24)) rfl rfl ?_
   obtain ⟨ha158,h⟩:=h
   refine o_call cf_entry_Check rfl (entry_Check_c d0 (kEnt_mk (d:=d0) (H3.up G148 (fun _ h=>h) (upc (.inr m106) (upc (.inr m72) (fun _ h=>.inl h)))) (H6.up G148 (fun _ h=>h) (upc (.inr m106) (upc (.inr m72) (fun _ h=>.inl h))))) (((hL.fr E147).cons (((B125.ex F126).ex F136).ex F145).lt).cons (((B118'.ex F126).ex F136).ex F145).lt) (entCheck_ev d0 ha158)) (want_t (t:=65) rfl rfl (of_not hc24)) rfl ?_
   rintro _ w157 ⟨F157,rfl⟩
   have E159:=E147.trans F157
   refine o_v (v:=.bool ((checkE d0)==(0:Int))) (r_int rfl rfl rfl) (want_t (t:=65) rfl rfl (of_not hc24)) rfl rfl ?_
   refine o_v (v:=.bool (okE d0)) (r_mov rfl) (want_t (t:=65) rfl rfl (of_not hc24)) rfl rfl ?_
   refine o_v (v:=.bool (((checkE d0)==(0:Int))==(okE d0))) (r_boolEq un_bool rfl rfl) (want_t (t:=65) rfl rfl (of_not hc24)) rfl rfl ?_
   refine o_w (v:=.bool (((checkE d0)==(0:Int))==(okE d0))) (r_pickT rfl (of_not hc24) rfl) ?_
   refine o_w (v:=.bool (((checkE d0)==(0:Int))==(okE d0))) (r_mov rfl) ?_
   refine o_vg (v:=str x43.1) (want_ct (t:=72) rfl rfl) (fun hk=>(r_mov rfl)) rfl rfl ?_
   refine o_vg (v:=str x49.1) (want_ct (t:=72) rfl rfl) (fun hk=>(r_mov rfl)) rfl rfl ?_
   refine o_vg (v:=.bool (x43.1==x49.1)) (want_ct (t:=72) rfl rfl) (fun hk=>(r_str (gdT hk) (gdT hk) rfl)) rfl rfl ?_
   refine o_w (v:=.bool ((((checkE d0)==(0:Int))==(okE d0))&&(x43.1==x49.1))) (r_pickAnd rfl (fun ht=>(gdT ht)) rfl) ?_
   refine o_w (v:=.bool ((((checkE d0)==(0:Int))==(okE d0))&&(x43.1==x49.1))) (r_mov rfl) ?_
   refine o_vg (v:=.int .i64 x43.2) (want_ct (t:=77) rfl rfl) (fun hk=>(r_mov rfl)) rfl rfl ?_
   refine o_vg (v:=.int .i64 x49.2) (want_ct (t:=77) rfl rfl) (fun hk=>(r_mov rfl)) rfl rfl ?_
   refine o_vg (v:=.bool (x43.2==x49.2)) (want_ct (t:=77) rfl rfl) (fun hk=>(r_int (gdT hk) (gdT hk) rfl)) rfl rfl ?_
   refine o_w (v:=.bool (((((checkE d0)==(0:Int))==(okE d0))&&(x43.1==x49.1))&&(x43.2==x49.2))) (r_pickAnd rfl (fun ht=>(gdT ht)) rfl) ?_
   refine o_w (v:=.bool (((((checkE d0)==(0:Int))==(okE d0))&&(x43.1==x49.1))&&(x43.2==x49.2))) (r_mov rfl) ?_
   refine o_vg (v:=.bool (sameE x56.1 x87.1)) (want_ct (t:=82) rfl rfl) (fun hk=>(r_mov rfl)) rfl rfl ?_
   refine o_w (v:=.bool ((((((checkE d0)==(0:Int))==(okE d0))&&(x43.1==x49.1))&&(x43.2==x49.2))&&(sameE x56.1 x87.1))) (r_pickAnd rfl (fun ht=>(gdT ht)) rfl) ?_
   refine o_w (v:=.bool ((((((checkE d0)==(0:Int))==(okE d0))&&(x43.1==x49.1))&&(x43.2==x49.2))&&(sameE x56.1 x87.1))) (r_mov rfl) ?_
   refine o_vg (v:=.int .i64 x56.2) (want_ct (t:=85) rfl rfl) (fun hk=>(r_mov rfl)) rfl rfl ?_
   refine o_vg (v:=.int .i64 x87.2) (want_ct (t:=85) rfl rfl) (fun hk=>(r_mov rfl)) rfl rfl ?_
   refine o_vg (v:=.bool (x56.2==x87.2)) (want_ct (t:=85) rfl rfl) (fun hk=>(r_int (gdT hk) (gdT hk) rfl)) rfl rfl ?_
   refine o_w (v:=.bool (((((((checkE d0)==(0:Int))==(okE d0))&&(x43.1==x49.1))&&(x43.2==x49.2))&&(sameE x56.1 x87.1))&&(x56.2==x87.2))) (r_pickAnd rfl (fun ht=>(gdT ht)) rfl) ?_
   refine o_w (v:=.bool (((((((checkE d0)==(0:Int))==(okE d0))&&(x43.1==x49.1))&&(x43.2==x49.2))&&(sameE x56.1 x87.1))&&(x56.2==x87.2))) (r_mov rfl) ?_
   refine o_vg (v:=.agg (cEnt d0 A1 c2 A4 c5).toArray) (want_ct (t:=90) rfl rfl) (fun hk=>(r_lda agg_api_Entry rfl (vs:=(cEnt d0 A1 c2 A4 c5)) rfl ((S13.fr (G149.trans (Fr.ext F157)) (fun _ h=>h)).now.part (n:=9) rfl))) rfl rfl ?_
   refine o_vg (v:=.agg (cEnt d1 A7 c8 A10 c11).toArray) (want_ct (t:=90) rfl rfl) (fun hk=>(r_lda agg_api_Entry rfl (vs:=(cEnt d1 A7 c8 A10 c11)) rfl ((S15.fr (G150.trans (Fr.ext F157)) (fun _ h=>h)).now.part (n:=9) rfl))) rfl rfl ?_
   refine o_callg (V:=.bool (lessE d0 d1)) cf_entry_Less (want_ct (t:=90) rfl rfl) (fun hk=>(mapv2 (gdT hk) (gdT hk))) (fun hk=>(entry_Less_c d0 (kEnt_mk (d:=d0) (H3.up (G148.trans (Fr.ext F157)) (fun _ h=>h) (upc (.inr m106) (upc (.inr m72) (fun _ h=>.inl h)))) (H6.up (G148.trans (Fr.ext F157)) (fun _ h=>h) (upc (.inr m106) (upc (.inr m72) (fun _ h=>.inl h))))) d1 (kEnt_mk (d:=d1) (H9.up (G148.trans (Fr.ext F157)) (fun _ h=>h) (upc (.inr m106) (upc (.inr m72) (fun _ h=>.inl h)))) (H12.up (G148.trans (Fr.ext F157)) (fun _ h=>h) (upc (.inr m106) (upc (.inr m72) (fun _ h=>.inl h))))) (((hL.fr E159).cons ((((B125.ex F126).ex F136).ex F145).ex F157).lt).cons ((((B118'.ex F126).ex F136).ex F145).ex F157).lt) (entLess_ev d0 d1))) rfl ?_
   intro w167 F167
   have E168:=E159.trans F167
   refine o_vg (v:=.bool (lessE d0 d1)) (want_ct (t:=90) rfl rfl) (fun hk=>(r_mov rfl)) rfl rfl ?_
   refine o_vg (v:=.bool ((lessE d0 d1)==(lessE d0 d1))) (want_ct (t:=90) rfl rfl) (fun hk=>(r_boolEq un_bool (gdT hk) (gdT hk))) rfl rfl ?_
   refine o_w (v:=.bool ((((((((checkE d0)==(0:Int))==(okE d0))&&(x43.1==x49.1))&&(x43.2==x49.2))&&(sameE x56.1 x87.1))&&(x56.2==x87.2))&&((lessE d0 d1)==(lessE d0 d1)))) (r_pickAnd rfl (fun ht=>(gdT ht)) rfl) ?_
   refine o_w (v:=.bool ((((((((checkE d0)==(0:Int))==(okE d0))&&(x43.1==x49.1))&&(x43.2==x49.2))&&(sameE x56.1 x87.1))&&(x56.2==x87.2))&&((lessE d0 d1)==(lessE d0 d1)))) (r_mov rfl) ?_
   refine o_vg (v:=.agg (cEnt d0 A1 c2 A4 c5).toArray) (want_ct (t:=97) rfl rfl) (fun hk=>(r_lda agg_api_Entry rfl (vs:=(cEnt d0 A1 c2 A4 c5)) rfl ((S13.fr ((G149.trans (Fr.ext F157)).trans (Fr.ext F167)) (fun _ h=>h)).now.part (n:=9) rfl))) rfl rfl ?_
   refine o_vg (v:=.agg (cEnt d1 A7 c8 A10 c11).toArray) (want_ct (t:=97) rfl rfl) (fun hk=>(r_lda agg_api_Entry rfl (vs:=(cEnt d1 A7 c8 A10 c11)) rfl ((S15.fr ((G150.trans (Fr.ext F157)).trans (Fr.ext F167)) (fun _ h=>h)).now.part (n:=9) rfl))) rfl rfl ?_
   obtain ⟨ha177,h⟩:=h
   refine o_callg (V:=.bool (sameE d0 d1)) cf_entry_Same (want_ct (t:=97) rfl rfl) (fun hk=>(mapv2 (gdT hk) (gdT hk))) (fun hk=>(entry_Same_c d0 (kEnt_mk (d:=d0) (H3.up ((G148.trans (Fr.ext F157)).trans (Fr.ext F167)) (fun _ h=>h) (upc (.inr m106) (upc (.inr m72) (fun _ h=>.inl h)))) (H6.up ((G148.trans (Fr.ext F157)).trans (Fr.ext F167)) (fun _ h=>h) (upc (.inr m106) (upc (.inr m72) (fun _ h=>.inl h))))) d1 (kEnt_mk (d:=d1) (H9.up ((G148.trans (Fr.ext F157)).trans (Fr.ext F167)) (fun _ h=>h) (upc (.inr m106) (upc (.inr m72) (fun _ h=>.inl h)))) (H12.up ((G148.trans (Fr.ext F157)).trans (Fr.ext F167)) (fun _ h=>h) (upc (.inr m106) (upc (.inr m72) (fun _ h=>.inl h))))) (((hL.fr E168).cons (((((B125.ex F126).ex F136).ex F145).ex F157).ex F167).lt).cons (((((B118'.ex F126).ex F136).ex F145).ex F157).ex F167).lt) (entSame_ev d0 d1 (ha177 hk)))) rfl ?_
   intro w176 F176
   have E178:=E168.trans F176
   refine o_vg (v:=.bool (sameE d0 d1)) (want_ct (t:=97) rfl rfl) (fun hk=>(r_mov rfl)) rfl rfl ?_
   refine o_vg (v:=.bool ((sameE d0 d1)==(sameE d0 d1))) (want_ct (t:=97) rfl rfl) (fun hk=>(r_boolEq un_bool (gdT hk) (gdT hk))) rfl rfl ?_
   refine o_w (v:=.bool (((((((((checkE d0)==(0:Int))==(okE d0))&&(x43.1==x49.1))&&(x43.2==x49.2))&&(sameE x56.1 x87.1))&&(x56.2==x87.2))&&((lessE d0 d1)==(lessE d0 d1)))&&((sameE d0 d1)==(sameE d0 d1)))) (r_pickAnd rfl (fun ht=>(gdT ht)) rfl) ?_
   refine o_w (v:=.bool (((((((((checkE d0)==(0:Int))==(okE d0))&&(x43.1==x49.1))&&(x43.2==x49.2))&&(sameE x56.1 x87.1))&&(x56.2==x87.2))&&((lessE d0 d1)==(lessE d0 d1)))&&((sameE d0 d1)==(sameE d0 d1)))) (r_asg rfl) ?_
   refine eo_nil_sq ?_
   refine ec_ret ?_
   subst h
   exact (end1 rfl ⟨_,rfl,E178,rfl⟩)
end Go.Proofs.Ytbijobepjjokmaa
