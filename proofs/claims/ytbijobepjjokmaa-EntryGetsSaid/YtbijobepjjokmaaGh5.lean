/- The law EntryGets: what it comes to. -/
import Derived.Test.YtbijobepjjokmaaHn
namespace Go.Proofs.Ytbijobepjjokmaa
open Go Go.RowKit
set_option linter.unusedVariables false
set_option linter.unusedSimpArgs false
def law07_EntryGets_raw (d0:Str) (y:Bool):Prop :=
 ((!(worksV))=true→(y=false))∧((!(worksV))=false→(((decide ((100:Int)<(d0.length:Int)))=true→(y=(worksV)))∧((decide ((100:Int)<(d0.length:Int)))=false→((okG d0)∧(∃ x4,x4=(getE d0)∧(∃ x22,x22=(getE d0)∧((sm x4.1.val)∧(y=((sameE x4.1 x22.1)&&(x4.2==x22.2))))))))))
set_option maxRecDepth 20000 in
set_option maxHeartbeats 4000000 in
theorem law07_EntryGets_c {L:List Nat} {w:World} (d0:Str) (hL:Lt L w) {y:Bool} (h:law07_EntryGets_raw d0 y) :
  Calls Try.prog 4 [str d0].toArray w (Ret fun v w'=>Ext w w'∧v=.bool y):=by
 unfold law07_EntryGets_raw at h
 refine calls_ec Try.func4 rfl rfl rfl ?_
 refine ec_seq ?_
 refine ec_region ?_
 refine o_w (v:=.bool false) (r_asg rfl) ?_
 refine eo_nil_sq ?_
 refine ec_seq ?_
 refine ec_region ?_
 refine o_call cf_law07_works rfl (law07_works_c hL (works7_ev)) rfl rfl ?_
 rintro _ w1 ⟨F1,rfl⟩
 refine o_w (v:=.bool (worksV)) (r_asg rfl) ?_
 refine eo_nil_sq ?_
 iterate 2 refine ec_seq ?_
 refine ec_region ?_
 refine o_w (v:=.bool (worksV)) (r_mov rfl) ?_
 refine o_w (v:=.bool (!(worksV))) (r_not rfl) ?_
 refine eo_nil_sq ?_
 refine ec_cond rfl (fun hc2=>?_) (fun hc2=>?_)
 ·replace h:=h.1 hc2
  refine ec_seq ?_
  refine ec_region ?_
  refine o_w (v:=.bool false) (r_asg rfl) ?_
  refine eo_nil_sq ?_
  refine ec_ret ?_
  refine sq_ret ?_
  subst h
  exact (end1 rfl ⟨_,rfl,F1,rfl⟩)
 ·replace h:=h.2 hc2
  refine ec_skip ?_
  refine sq_n ?_
  iterate 2 refine ec_seq ?_
  refine ec_region ?_
  refine o_w (v:=str d0) (r_mov rfl) ?_
  refine o_w (v:=.int .i64 (d0.length:Int)) (r_len_str un_string rfl) ?_
  refine o_w (v:=.bool (decide ((100:Int)<(d0.length:Int)))) (r_int rfl rfl rfl) ?_
  refine eo_nil_sq ?_
  refine ec_cond rfl (fun hc3=>?_) (fun hc3=>?_)
  ·replace h:=h.1 hc3
   refine ec_seq ?_
   refine ec_region ?_
   refine o_w (v:=.bool (worksV)) (r_mov rfl) ?_
   refine o_w (v:=.bool (worksV)) (r_asg rfl) ?_
   refine eo_nil_sq ?_
   refine ec_ret ?_
   refine sq_ret ?_
   subst h
   exact (end1 rfl ⟨_,rfl,F1,rfl⟩)
  ·replace h:=h.2 hc3
   refine ec_skip ?_
   refine sq_n ?_
   refine ec_seq ?_
   refine ec_region ?_
   refine o_w (v:=str d0) (r_mov rfl) ?_
   obtain ⟨ha5,h⟩:=h
   obtain ⟨x4,hx4,h⟩:=h
   refine o_call cf_entry_Get rfl (entry_Get_c d0 (hL.fr F1) (eq_ev hx4 (entGet_ev d0 ha5))) rfl rfl ?_
   rintro _ w4 ⟨F4,cs6,rfl,H7⟩
   have E8:=F1.trans F4
   obtain ⟨A9,c10,A12,c13,rfl,H11,H14⟩:=kEnt_open H7
   refine o_w (v:=.tuple #[.agg (cEnt x4.1 A9 c10 A12 c13).toArray,.int .i64 x4.2]) (r_mov rfl) ?_
   refine o_w (v:=.agg (cEnt x4.1 A9 c10 A12 c13).toArray) (r_ext rfl rfl) ?_
   refine o_w (v:=.int .i64 x4.2) (r_ext rfl rfl) ?_
   refine o_alloc zero_api_Entry rfl rfl rfl ?_
   intro b15 w15 e15 F15 B15
   have n15:w.heap.size≤b15:=by rw [e15]; exact E8.size
   have m16:w4.heap.size≤b15:=Nat.le_of_eq e15.symm
   have E17:=E8.trans F15
   have G18:Fr L w4 w15:=Fr.ext F15
   refine o_store rfl B15 (vs:=(cEnt x4.1 A9 c10 A12 c13)) rfl sz_api_Entry rfl rfl rfl ?_
   intro w19 F19 B19
   have E20:=Ext.st E17 F19 (by simp; omega)
   have G21:Fr L w4 w19:=G18.stp F19 (upc (.inr m16) (fun m hm=>by cases hm))
   have B19':Blk w19 b15 _ (cEnt x4.1 A9 c10 A12 c13):=B19
   refine o_w (v:=.int .i64 x4.2) (r_asg rfl) ?_
   refine eo_nil_sq ?_
   refine ec_seq ?_
   refine ec_region ?_
   refine o_w (v:=str d0) (r_mov rfl) ?_
   obtain ⟨x22,hx22,h⟩:=h
   refine o_call cf_ref07_Get rfl (ref07_Get_c d0 ((hL.fr E20).cons B19'.lt) (eq_ev hx22 (refGetE_ev d0))) rfl rfl ?_
   rintro _ w22 ⟨F22,cs23,rfl,H24⟩
   have E25:=E20.trans F22
   obtain ⟨A28,c29,A31,c32,rfl,H30,H33⟩:=kEnt_open H24
   refine o_w (v:=.tuple #[.agg (cEnt x22.1 A28 c29 A31 c32).toArray,.int .i64 x22.2]) (r_mov rfl) ?_
   refine o_w (v:=.agg (cEnt x22.1 A28 c29 A31 c32).toArray) (r_ext rfl rfl) ?_
   refine o_w (v:=.int .i64 x22.2) (r_ext rfl rfl) ?_
   refine o_alloc zero_api_Entry rfl rfl rfl ?_
   intro b34 w34 e34 F34 B34
   have n34:w.heap.size≤b34:=by rw [e34]; exact E25.size
   have q35:b15<b34:=by rw [e34]; exact (B19'.ex F22).lt
   have m36:w4.heap.size≤b34:=by rw [e34]; exact (G21.trans (Fr.ext F22)).size
   have m37:w22.heap.size≤b34:=Nat.le_of_eq e34.symm
   have E38:=E25.trans F34
   have G40:Fr (b15::L) w22 w34:=Fr.ext F34
   refine o_store rfl B34 (vs:=(cEnt x22.1 A28 c29 A31 c32)) rfl sz_api_Entry rfl rfl rfl ?_
   intro w42 F42 B42
   have E43:=Ext.st E38 F42 (by simp; omega)
   have G44:Fr L w4 w42:=((G21.trans (Fr.ext F22)).trans (Fr.ext F34)).stp F42 (upc (.inr m36) (fun m hm=>by cases hm))
   have G45:Fr (b15::L) w22 w42:=G40.stp F42 (upc (.inr m37) (fun m hm=>by cases hm))
   have B46:=((B19'.ex F22).ex F34).fr F42 (by simp; omega)
   have B42':Blk w42 b34 _ (cEnt x22.1 A28 c29 A31 c32):=B42
   refine o_w (v:=.int .i64 x22.2) (r_asg rfl) ?_
   refine eo_nil_sq ?_
   refine ec_seq ?_
   refine ec_region ?_
   refine o_w (v:=.agg (cEnt x4.1 A9 c10 A12 c13).toArray) (r_lda agg_api_Entry rfl (vs:=(cEnt x4.1 A9 c10 A12 c13)) rfl (B46.part (n:=9) rfl)) ?_
   refine o_w (v:=.agg (cEnt x22.1 A28 c29 A31 c32).toArray) (r_lda agg_api_Entry rfl (vs:=(cEnt x22.1 A28 c29 A31 c32)) rfl (B42'.part (n:=9) rfl)) ?_
   obtain ⟨ha48,h⟩:=h
   refine o_call cf_ref07_Same rfl (ref07_Same_c x4.1 (kEnt_mk (d:=x4.1) (H11.up G44 (fun _ h=>h) (upc (.inr m36) (upc (.inr m16) (fun _ h=>.inl h)))) (H14.up G44 (fun _ h=>h) (upc (.inr m36) (upc (.inr m16) (fun _ h=>.inl h))))) x22.1 (kEnt_mk (d:=x22.1) (H30.up G45 (fun _ h=>h) (upc (.inr m37) (upc (.inl (List.Mem.head _)) (fun m hm=>Or.inl (List.Mem.tail _ hm))))) (H33.up G45 (fun _ h=>h) (upc (.inr m37) (upc (.inl (List.Mem.head _)) (fun m hm=>Or.inl (List.Mem.tail _ hm)))))) (((hL.fr E43).cons B46.lt).cons B42'.lt) (refSameE_ev x4.1 x22.1 ha48)) rfl rfl ?_
   rintro _ w47 ⟨F47,rfl⟩
   have E49:=E43.trans F47
   refine o_w (v:=.bool (sameE x4.1 x22.1)) (r_asg rfl) ?_
   refine eo_nil_sq ?_
   refine ec_seq ?_
   refine ec_region ?_
   iterate 2 refine o_w (v:=.bool (worksV)) (r_mov rfl) ?_
   refine o_v (v:=.bool (sameE x4.1 x22.1)) (r_mov rfl) (want_t (t:=30) rfl rfl (of_not hc2)) rfl rfl ?_
   refine o_w (v:=.bool (sameE x4.1 x22.1)) (r_pickT rfl (of_not hc2) rfl) ?_
   refine o_w (v:=.bool (sameE x4.1 x22.1)) (r_mov rfl) ?_
   refine o_vg (v:=.int .i64 x4.2) (want_ct (t:=33) rfl rfl) (fun hk=>(r_mov rfl)) rfl rfl ?_
   refine o_vg (v:=.int .i64 x22.2) (want_ct (t:=33) rfl rfl) (fun hk=>(r_mov rfl)) rfl rfl ?_
   refine o_vg (v:=.bool (x4.2==x22.2)) (want_ct (t:=33) rfl rfl) (fun hk=>(r_int (gdT hk) (gdT hk) rfl)) rfl rfl ?_
   refine o_w (v:=.bool ((sameE x4.1 x22.1)&&(x4.2==x22.2))) (r_pickAnd rfl (fun ht=>(gdT ht)) rfl) ?_
   refine o_w (v:=.bool ((sameE x4.1 x22.1)&&(x4.2==x22.2))) (r_asg rfl) ?_
   refine eo_nil_sq ?_
   refine ec_ret ?_
   subst h
   exact (end1 rfl ⟨_,rfl,E49,rfl⟩)
end Go.Proofs.Ytbijobepjjokmaa
