/- The law EntryBack: what it comes to. -/
import Derived.Test.YtbijobepjjokmaaHj
namespace Go.Proofs.Ytbijobepjjokmaa
open Go Go.RowKit
set_option linter.unusedVariables false
set_option linter.unusedSimpArgs false
def law07_EntryBack_raw (d0:Ent) (d1:Str) (y:Bool):Prop :=
 ((!(worksV))=true→(y=false))∧((!(worksV))=false→((((!(fewE d0))||(decide ((100:Int)<(d1.length:Int))))=true→(y=(worksV)))∧(((!(fewE d0))||(decide ((100:Int)<(d1.length:Int))))=false→((sm d0.val)∧(∃ x19,x19=(putE d0)∧((okG x19.1)∧(∃ x24,x24=(getE x19.1)∧((((x19.2==(0:Int))&&(!(x24.2 != (0:Int))))=true→sm d0.val)∧(((((x19.2==(0:Int))&&(((x24.2 != (0:Int))||(!(sameE d0 x24.1)))||((x19.1.length:Int) != (42:Int))))||((x19.2 != (0:Int))&&(!(x19.1==([]:Str)))))=true→(y=false))∧((((x19.2==(0:Int))&&(((x24.2 != (0:Int))||(!(sameE d0 x24.1)))||((x19.1.length:Int) != (42:Int))))||((x19.2 != (0:Int))&&(!(x19.1==([]:Str)))))=false→((okG d1)∧(∃ x59,x59=(getE d1)∧((sm x59.1.val)∧(∃ x93,x93=(putE x59.1)∧(((((x59.2==(0:Int))&&(x93.2==(0:Int)))&&(x93.1==d1))=true→sm x59.1.val)∧((((!((((x59.2==(0:Int))&&(x93.2==(0:Int)))&&(x93.1==d1))&&((checkE x59.1)==(0:Int))))&&(x59.2==(2:Int)))=true→sm x59.1.val)∧(y=(((((x59.2==(0:Int))&&(x93.2==(0:Int)))&&(x93.1==d1))&&((checkE x59.1)==(0:Int)))||((x59.2==(2:Int))&&(sameE x59.1 (⟨([]:Str),(⟨(0:Int),(0:Int),(0:Int),false,([]:Str),([]:List Int),([]:List Int),(0:Int)⟩:Val)⟩:Ent)))))))))))))))))))))
set_option maxRecDepth 20000 in
set_option maxHeartbeats 4000000 in
theorem law07_EntryBack_c {L:List Nat} {w:World} {csP0:List Value} (d0:Ent) (HP0:Stb L w (fun w=>kEnt.r w csP0 d0)) (d1:Str) (hL:Lt L w) {y:Bool} (h:law07_EntryBack_raw d0 d1 y) :
  Calls Try.prog 5 [.agg csP0.toArray,str d1].toArray w (Ret fun v w'=>Ext w w'∧v=.bool y):=by
 obtain ⟨A1,c2,A4,c5,rfl,H3,H6⟩:=kEnt_open HP0
 unfold law07_EntryBack_raw at h
 refine calls_ec Try.func5 rfl rfl rfl ?_
 refine ec_seq ?_
 refine ec_region ?_
 refine o_box (cs:=(cEnt d0 A1 c2 A4 c5)) rfl rfl rfl ?_
 intro b7 w7 e7 F7 B7
 have S7:=B7.stb (nin hL e7)
 have G8:Fr L w w7:=Fr.ext F7
 refine o_w (v:=.bool false) (r_asg rfl) ?_
 refine eo_nil_sq ?_
 refine ec_seq ?_
 refine ec_region ?_
 refine o_call cf_law07_works rfl (law07_works_c (hL.fr F7) (works7_ev)) rfl rfl ?_
 rintro _ w9 ⟨F9,rfl⟩
 have E10:=F7.trans F9
 have G12:Fr L w7 w9:=Fr.ext F9
 refine o_w (v:=.bool (worksV)) (r_asg rfl) ?_
 refine eo_nil_sq ?_
 iterate 2 refine ec_seq ?_
 refine ec_region ?_
 refine o_w (v:=.bool (worksV)) (r_mov rfl) ?_
 refine o_w (v:=.bool (!(worksV))) (r_not rfl) ?_
 refine eo_nil_sq ?_
 refine ec_cond rfl (fun hc13=>?_) (fun hc13=>?_)
 ·replace h:=h.1 hc13
  refine ec_seq ?_
  refine ec_region ?_
  refine o_w (v:=.bool false) (r_asg rfl) ?_
  refine eo_nil_sq ?_
  refine ec_ret ?_
  refine sq_ret ?_
  subst h
  exact (end1 rfl ⟨_,rfl,E10,rfl⟩)
 ·replace h:=h.2 hc13
  refine ec_skip ?_
  refine sq_n ?_
  refine ec_seq ?_
  refine ec_region ?_
  refine o_w (v:=.agg (cEnt d0 A1 c2 A4 c5).toArray) (r_lda agg_api_Entry rfl (vs:=(cEnt d0 A1 c2 A4 c5)) rfl ((S7.fr G12 (fun _ h=>h)).now.part (n:=9) rfl)) ?_
  refine o_call cf_law07_Few rfl (law07_Few_c d0 (kEnt_mk (d:=d0) (H3.fr (G8.trans (Fr.ext F9)) (fun _ h=>h)) (H6.fr (G8.trans (Fr.ext F9)) (fun _ h=>h))) (hL.fr E10) (fewE_ev d0)) rfl rfl ?_
  rintro _ w14 ⟨F14,rfl⟩
  have E15:=E10.trans F14
  refine o_w (v:=.bool (fewE d0)) (r_asg rfl) ?_
  refine eo_nil_sq ?_
  iterate 2 refine ec_seq ?_
  refine ec_region ?_
  refine o_w (v:=.bool (fewE d0)) (r_mov rfl) ?_
  refine o_w (v:=.bool (!(fewE d0))) (r_not rfl) ?_
  refine o_w (v:=.bool (!(fewE d0))) (r_mov rfl) ?_
  refine o_vg (v:=str d1) (want_cf (t:=22) rfl rfl) (fun hk=>(r_mov rfl)) rfl rfl ?_
  refine o_vg (v:=.int .i64 (d1.length:Int)) (want_cf (t:=22) rfl rfl) (fun hk=>(r_len_str un_string (gdT hk))) rfl rfl ?_
  refine o_vg (v:=.bool (decide ((100:Int)<(d1.length:Int)))) (want_cf (t:=22) rfl rfl) (fun hk=>(r_int (gdT hk) rfl rfl)) rfl rfl ?_
  refine o_w (v:=.bool ((!(fewE d0))||(decide ((100:Int)<(d1.length:Int))))) (r_pickOr rfl rfl (fun hf=>(gdT (notT hf)))) ?_
  refine eo_nil_sq ?_
  refine ec_cond rfl (fun hc18=>?_) (fun hc18=>?_)
  ·replace h:=h.1 hc18
   refine ec_seq ?_
   refine ec_region ?_
   refine o_w (v:=.bool (worksV)) (r_mov rfl) ?_
   refine o_w (v:=.bool (worksV)) (r_asg rfl) ?_
   refine eo_nil_sq ?_
   refine ec_ret ?_
   refine sq_ret ?_
   subst h
   exact (end1 rfl ⟨_,rfl,E15,rfl⟩)
  ·replace h:=h.2 hc18
   refine ec_skip ?_
   refine sq_n ?_
   refine ec_seq ?_
   refine ec_region ?_
   refine o_w (v:=.agg (cEnt d0 A1 c2 A4 c5).toArray) (r_lda agg_api_Entry rfl (vs:=(cEnt d0 A1 c2 A4 c5)) rfl ((S7.fr (G12.trans (Fr.ext F14)) (fun _ h=>h)).now.part (n:=9) rfl)) ?_
   obtain ⟨ha20,h⟩:=h
   obtain ⟨x19,hx19,h⟩:=h
   refine o_call cf_entry_Put rfl (entry_Put_c d0 (kEnt_mk (d:=d0) (H3.fr ((G8.trans (Fr.ext F9)).trans (Fr.ext F14)) (fun _ h=>h)) (H6.fr ((G8.trans (Fr.ext F9)).trans (Fr.ext F14)) (fun _ h=>h))) (hL.fr E15) (eq_ev hx19 (entPut_ev d0 ha20))) rfl rfl ?_
   rintro _ w19 ⟨F19,rfl⟩
   have E21:=E15.trans F19
   refine o_w (v:=.tuple #[str x19.1,.int .i64 x19.2]) (r_mov rfl) ?_
   refine o_w (v:=str x19.1) (r_ext rfl rfl) ?_
   refine o_w (v:=.int .i64 x19.2) (r_ext rfl rfl) ?_
   refine o_w (v:=str x19.1) (r_asg rfl) ?_
   refine o_w (v:=.int .i64 x19.2) (r_asg rfl) ?_
   refine eo_nil_sq ?_
   refine ec_seq ?_
   refine ec_region ?_
   refine o_w (v:=str x19.1) (r_mov rfl) ?_
   obtain ⟨ha25,h⟩:=h
   obtain ⟨x24,hx24,h⟩:=h
   refine o_call cf_entry_Get rfl (entry_Get_c x19.1 (hL.fr E21) (eq_ev hx24 (entGet_ev x19.1 ha25))) rfl rfl ?_
   rintro _ w24 ⟨F24,cs26,rfl,H27⟩
   have E28:=E21.trans F24
   have G29:=(((G8.trans (Fr.ext F9)).trans (Fr.ext F14)).trans (Fr.ext F19)).trans (Fr.ext F24)
   obtain ⟨A31,c32,A34,c35,rfl,H33,H36⟩:=kEnt_open H27
   refine o_w (v:=.tuple #[.agg (cEnt x24.1 A31 c32 A34 c35).toArray,.int .i64 x24.2]) (r_mov rfl) ?_
   refine o_w (v:=.agg (cEnt x24.1 A31 c32 A34 c35).toArray) (r_ext rfl rfl) ?_
   refine o_w (v:=.int .i64 x24.2) (r_ext rfl rfl) ?_
   refine o_alloc zero_api_Entry rfl rfl rfl ?_
   intro b37 w37 e37 F37 B37
   have n37:w.heap.size≤b37:=by rw [e37]; exact E28.size
   have m38:w.heap.size≤b37:=by rw [e37]; exact G29.size
   have m39:w7.heap.size≤b37:=by rw [e37]; exact (((G12.trans (Fr.ext F14)).trans (Fr.ext F19)).trans (Fr.ext F24)).size
   have m40:w24.heap.size≤b37:=Nat.le_of_eq e37.symm
   have E41:=E28.trans F37
   have G43:=(((G12.trans (Fr.ext F14)).trans (Fr.ext F19)).trans (Fr.ext F24)).trans (Fr.ext F37)
   have G44:Fr L w24 w37:=Fr.ext F37
   refine o_store rfl B37 (vs:=(cEnt x24.1 A31 c32 A34 c35)) rfl sz_api_Entry rfl rfl rfl ?_
   intro w45 F45 B45
   have E46:=Ext.st E41 F45 (by simp; omega)
   have G47:Fr L w w45:=(G29.trans (Fr.ext F37)).stp F45 (upc (.inr m38) (fun m hm=>by cases hm))
   have G48:Fr L w7 w45:=G43.stp F45 (upc (.inr m39) (fun m hm=>by cases hm))
   have G49:Fr L w24 w45:=G44.stp F45 (upc (.inr m40) (fun m hm=>by cases hm))
   have B45':Blk w45 b37 _ (cEnt x24.1 A31 c32 A34 c35):=B45
   refine o_w (v:=.int .i64 x24.2) (r_asg rfl) ?_
   refine eo_nil_sq ?_
   iterate 2 refine ec_seq ?_
   refine ec_region ?_
   refine o_w (v:=.int .i64 x19.2) (r_mov rfl) ?_
   refine o_w (v:=.bool (x19.2==(0:Int))) (r_int rfl rfl rfl) ?_
   refine o_w (v:=.bool (x19.2==(0:Int))) (r_mov rfl) ?_
   refine o_vg (v:=.int .i64 x24.2) (want_ct (t:=40) rfl rfl) (fun hk=>(r_mov rfl)) rfl rfl ?_
   refine o_vg (v:=.bool (x24.2 != (0:Int))) (want_ct (t:=40) rfl rfl) (fun hk=>(r_int (gdT hk) rfl rfl)) rfl rfl ?_
   refine o_vg (v:=.bool (x24.2 != (0:Int))) (want_ct (t:=40) rfl rfl) (fun hk=>(r_mov (gdT hk))) rfl rfl ?_
   refine o_vg (v:=.agg (cEnt d0 A1 c2 A4 c5).toArray) (want_gf (t:=43) rfl rfl) (fun hk=>(r_lda agg_api_Entry rfl (vs:=(cEnt d0 A1 c2 A4 c5)) rfl ((S7.fr G48 (fun _ h=>h)).now.part (n:=9) rfl))) rfl rfl ?_
   refine o_vg (v:=.agg (cEnt x24.1 A31 c32 A34 c35).toArray) (want_gf (t:=43) rfl rfl) (fun hk=>(r_lda agg_api_Entry rfl (vs:=(cEnt x24.1 A31 c32 A34 c35)) rfl (B45'.part (n:=9) rfl))) rfl rfl ?_
   obtain ⟨ha52,h⟩:=h
   refine o_callg (V:=.bool (sameE d0 x24.1)) cf_entry_Same (want_gf (t:=43) rfl rfl) (fun hk=>(mapv2 (gdT hk) (gdT hk))) (fun hk=>(entry_Same_c d0 (kEnt_mk (d:=d0) (H3.up G47 (fun _ h=>h) (upc (.inr m38) (fun _ h=>.inl h))) (H6.up G47 (fun _ h=>h) (upc (.inr m38) (fun _ h=>.inl h)))) x24.1 (kEnt_mk (d:=x24.1) (H33.up G49 (fun _ h=>h) (upc (.inr m40) (fun _ h=>.inl h))) (H36.up G49 (fun _ h=>h) (upc (.inr m40) (fun _ h=>.inl h)))) ((hL.fr E46).cons B45'.lt) (entSame_ev d0 x24.1 (ha52 hk)))) rfl ?_
   intro w51 F51
   have E53:=E46.trans F51
   refine o_vg (v:=.bool (!(sameE d0 x24.1))) (want_gf (t:=43) rfl rfl) (fun hk=>(r_not (gdT hk))) rfl rfl ?_
   refine o_vg (v:=.bool ((x24.2 != (0:Int))||(!(sameE d0 x24.1)))) (want_ct (t:=40) rfl rfl) (fun hk=>(r_pickOr (gdT hk) rfl (fun hf=>(gdT (andM hk (notT hf)))))) rfl rfl ?_
   refine o_vg (v:=.bool ((x24.2 != (0:Int))||(!(sameE d0 x24.1)))) (want_ct (t:=40) rfl rfl) (fun hk=>(r_mov (gdT hk))) rfl rfl ?_
   refine o_vg (v:=str x19.1) (want_gf (t:=49) rfl rfl) (fun hk=>(r_mov rfl)) rfl rfl ?_
   refine o_vg (v:=.int .i64 (x19.1.length:Int)) (want_gf (t:=49) rfl rfl) (fun hk=>(r_len_str un_string (gdT hk))) rfl rfl ?_
   refine o_vg (v:=.bool ((x19.1.length:Int) != (42:Int))) (want_gf (t:=49) rfl rfl) (fun hk=>(r_int (gdT hk) rfl rfl)) rfl rfl ?_
   refine o_vg (v:=.bool (((x24.2 != (0:Int))||(!(sameE d0 x24.1)))||((x19.1.length:Int) != (42:Int)))) (want_ct (t:=40) rfl rfl) (fun hk=>(r_pickOr (gdT hk) rfl (fun hf=>(gdT (andM hk (notT hf)))))) rfl rfl ?_
   refine o_w (v:=.bool ((x19.2==(0:Int))&&(((x24.2 != (0:Int))||(!(sameE d0 x24.1)))||((x19.1.length:Int) != (42:Int))))) (r_pickAnd rfl (fun ht=>(gdT ht)) rfl) ?_
   refine o_w (v:=.bool ((x19.2==(0:Int))&&(((x24.2 != (0:Int))||(!(sameE d0 x24.1)))||((x19.1.length:Int) != (42:Int))))) (r_mov rfl) ?_
   refine o_vg (v:=.int .i64 x19.2) (want_cf (t:=55) rfl rfl) (fun hk=>(r_mov rfl)) rfl rfl ?_
   refine o_vg (v:=.bool (x19.2 != (0:Int))) (want_cf (t:=55) rfl rfl) (fun hk=>(r_int (gdT hk) rfl rfl)) rfl rfl ?_
   refine o_vg (v:=.bool (x19.2 != (0:Int))) (want_cf (t:=55) rfl rfl) (fun hk=>(r_mov (gdT hk))) rfl rfl ?_
   refine o_vg (v:=str x19.1) (want_gt (t:=58) rfl rfl) (fun hk=>(r_mov rfl)) rfl rfl ?_
   refine o_vg (v:=.bool (!(x19.1==([]:Str)))) (want_gt (t:=58) rfl rfl) (fun hk=>(r_str (gdT hk) rfl rfl)) rfl rfl ?_
   refine o_vg (v:=.bool ((x19.2 != (0:Int))&&(!(x19.1==([]:Str))))) (want_cf (t:=55) rfl rfl) (fun hk=>(r_pickAnd (gdT hk) (fun ht=>(gdT (andM hk ht))) rfl)) rfl rfl ?_
   refine o_w (v:=.bool (((x19.2==(0:Int))&&(((x24.2 != (0:Int))||(!(sameE d0 x24.1)))||((x19.1.length:Int) != (42:Int))))||((x19.2 != (0:Int))&&(!(x19.1==([]:Str)))))) (r_pickOr rfl rfl (fun hf=>(gdT (notT hf)))) ?_
   refine eo_nil_sq ?_
   refine ec_cond rfl (fun hc58=>?_) (fun hc58=>?_)
   ·replace h:=h.1 hc58
    refine ec_seq ?_
    refine ec_region ?_
    refine o_w (v:=.bool false) (r_asg rfl) ?_
    refine eo_nil_sq ?_
    refine ec_ret ?_
    refine sq_ret ?_
    subst h
    exact (end1 rfl ⟨_,rfl,E53,rfl⟩)
   ·replace h:=h.2 hc58
    refine ec_skip ?_
    refine sq_n ?_
    refine ec_seq ?_
    refine ec_region ?_
    refine o_w (v:=str d1) (r_mov rfl) ?_
    obtain ⟨ha60,h⟩:=h
    obtain ⟨x59,hx59,h⟩:=h
    refine o_call cf_entry_Get rfl (entry_Get_c d1 ((hL.fr E53).cons (B45'.ex F51).lt) (eq_ev hx59 (entGet_ev d1 ha60))) rfl rfl ?_
    rintro _ w59 ⟨F59,cs61,rfl,H62⟩
    have E63:=E53.trans F59
    obtain ⟨A68,c69,A71,c72,rfl,H70,H73⟩:=kEnt_open H62
    refine o_w (v:=.tuple #[.agg (cEnt x59.1 A68 c69 A71 c72).toArray,.int .i64 x59.2]) (r_mov rfl) ?_
    refine o_w (v:=.agg (cEnt x59.1 A68 c69 A71 c72).toArray) (r_ext rfl rfl) ?_
    refine o_w (v:=.int .i64 x59.2) (r_ext rfl rfl) ?_
    refine o_alloc zero_api_Entry rfl rfl rfl ?_
    intro b74 w74 e74 F74 B74
    have n74:w.heap.size≤b74:=by rw [e74]; exact E63.size
    have q75:b37<b74:=by rw [e74]; exact ((B45'.ex F51).ex F59).lt
    have m79:w59.heap.size≤b74:=Nat.le_of_eq e74.symm
    have E80:=E63.trans F74
    have G84:Fr (b37::L) w59 w74:=Fr.ext F74
    refine o_store rfl B74 (vs:=(cEnt x59.1 A68 c69 A71 c72)) rfl sz_api_Entry rfl rfl rfl ?_
    intro w86 F86 B86
    have E87:=Ext.st E80 F86 (by simp; omega)
    have G91:Fr (b37::L) w59 w86:=G84.stp F86 (upc (.inr m79) (fun m hm=>by cases hm))
    have B92:=(((B45'.ex F51).ex F59).ex F74).fr F86 (by simp; omega)
    have B86':Blk w86 b74 _ (cEnt x59.1 A68 c69 A71 c72):=B86
    refine o_w (v:=.int .i64 x59.2) (r_asg rfl) ?_
    refine eo_nil_sq ?_
    refine ec_seq ?_
    refine ec_region ?_
    refine o_w (v:=.agg (cEnt x59.1 A68 c69 A71 c72).toArray) (r_lda agg_api_Entry rfl (vs:=(cEnt x59.1 A68 c69 A71 c72)) rfl (B86'.part (n:=9) rfl)) ?_
    obtain ⟨ha94,h⟩:=h
    obtain ⟨x93,hx93,h⟩:=h
    refine o_call cf_entry_Put rfl (entry_Put_c x59.1 (kEnt_mk (d:=x59.1) (H70.up G91 (fun _ h=>h) (upc (.inr m79) (upc (.inl (List.Mem.head _)) (fun m hm=>Or.inl (List.Mem.tail _ hm))))) (H73.up G91 (fun _ h=>h) (upc (.inr m79) (upc (.inl (List.Mem.head _)) (fun m hm=>Or.inl (List.Mem.tail _ hm)))))) (((hL.fr E87).cons B92.lt).cons B86'.lt) (eq_ev hx93 (entPut_ev x59.1 ha94))) rfl rfl ?_
    rintro _ w93 ⟨F93,rfl⟩
    have E95:=E87.trans F93
    refine o_w (v:=.tuple #[str x93.1,.int .i64 x93.2]) (r_mov rfl) ?_
    refine o_w (v:=str x93.1) (r_ext rfl rfl) ?_
    refine o_w (v:=.int .i64 x93.2) (r_ext rfl rfl) ?_
    refine o_w (v:=str x93.1) (r_asg rfl) ?_
    refine o_w (v:=.int .i64 x93.2) (r_asg rfl) ?_
    refine eo_nil_sq ?_
    refine ec_seq ?_
    refine ec_region ?_
    iterate 2 refine o_w (v:=.bool (worksV)) (r_mov rfl) ?_
    refine o_v (v:=.int .i64 x59.2) (r_mov rfl) (want_t (t:=74) rfl rfl (of_not hc13)) rfl rfl ?_
    refine o_v (v:=.bool (x59.2==(0:Int))) (r_int rfl rfl rfl) (want_t (t:=74) rfl rfl (of_not hc13)) rfl rfl ?_
    refine o_v (v:=.bool (x59.2==(0:Int))) (r_mov rfl) (want_t (t:=74) rfl rfl (of_not hc13)) rfl rfl ?_
    refine o_vg (v:=.int .i64 x93.2) (want_ct (t:=77) rfl rfl) (fun hk=>(r_mov rfl)) rfl rfl ?_
    refine o_vg (v:=.bool (x93.2==(0:Int))) (want_ct (t:=77) rfl rfl) (fun hk=>(r_int (gdT hk) rfl rfl)) rfl rfl ?_
    refine o_v (v:=.bool ((x59.2==(0:Int))&&(x93.2==(0:Int)))) (r_pickAnd rfl (fun ht=>(gdT ht)) rfl) (want_t (t:=74) rfl rfl (of_not hc13)) rfl rfl ?_
    refine o_v (v:=.bool ((x59.2==(0:Int))&&(x93.2==(0:Int)))) (r_mov rfl) (want_t (t:=74) rfl rfl (of_not hc13)) rfl rfl ?_
    refine o_vg (v:=str x93.1) (want_ct (t:=81) rfl rfl) (fun hk=>(r_mov rfl)) rfl rfl ?_
    refine o_vg (v:=str d1) (want_ct (t:=81) rfl rfl) (fun hk=>(r_mov rfl)) rfl rfl ?_
    refine o_vg (v:=.bool (x93.1==d1)) (want_ct (t:=81) rfl rfl) (fun hk=>(r_str (gdT hk) (gdT hk) rfl)) rfl rfl ?_
    refine o_v (v:=.bool (((x59.2==(0:Int))&&(x93.2==(0:Int)))&&(x93.1==d1))) (r_pickAnd rfl (fun ht=>(gdT ht)) rfl) (want_t (t:=74) rfl rfl (of_not hc13)) rfl rfl ?_
    refine o_v (v:=.bool (((x59.2==(0:Int))&&(x93.2==(0:Int)))&&(x93.1==d1))) (r_mov rfl) (want_t (t:=74) rfl rfl (of_not hc13)) rfl rfl ?_
    refine o_vg (v:=.agg (cEnt x59.1 A68 c69 A71 c72).toArray) (want_ct (t:=86) rfl rfl) (fun hk=>(r_lda agg_api_Entry rfl (vs:=(cEnt x59.1 A68 c69 A71 c72)) rfl ((B86'.ex F93).part (n:=9) rfl))) rfl rfl ?_
    obtain ⟨ha105,h⟩:=h
    refine o_callg (V:=.int .i64 (checkE x59.1)) cf_entry_Check (want_ct (t:=86) rfl rfl) (fun hk=>(mapv1 (gdT hk))) (fun hk=>(entry_Check_c x59.1 (kEnt_mk (d:=x59.1) (H70.up (G91.trans (Fr.ext F93)) (fun _ h=>h) (upc (.inr m79) (upc (.inl (List.Mem.head _)) (fun m hm=>Or.inl (List.Mem.tail _ hm))))) (H73.up (G91.trans (Fr.ext F93)) (fun _ h=>h) (upc (.inr m79) (upc (.inl (List.Mem.head _)) (fun m hm=>Or.inl (List.Mem.tail _ hm)))))) (((hL.fr E95).cons (B92.ex F93).lt).cons (B86'.ex F93).lt) (entCheck_ev x59.1 (ha105 hk)))) rfl ?_
    intro w104 F104
    have E106:=E95.trans F104
    refine o_vg (v:=.bool ((checkE x59.1)==(0:Int))) (want_ct (t:=86) rfl rfl) (fun hk=>(r_int (gdT hk) rfl rfl)) rfl rfl ?_
    refine o_v (v:=.bool ((((x59.2==(0:Int))&&(x93.2==(0:Int)))&&(x93.1==d1))&&((checkE x59.1)==(0:Int)))) (r_pickAnd rfl (fun ht=>(gdT ht)) rfl) (want_t (t:=74) rfl rfl (of_not hc13)) rfl rfl ?_
    refine o_v (v:=.bool ((((x59.2==(0:Int))&&(x93.2==(0:Int)))&&(x93.1==d1))&&((checkE x59.1)==(0:Int)))) (r_mov rfl) (want_t (t:=74) rfl rfl (of_not hc13)) rfl rfl ?_
    refine o_vg (v:=.int .i64 x59.2) (want_cf (t:=91) rfl rfl) (fun hk=>(r_mov rfl)) rfl rfl ?_
    refine o_vg (v:=.bool (x59.2==(2:Int))) (want_cf (t:=91) rfl rfl) (fun hk=>(r_int (gdT hk) rfl rfl)) rfl rfl ?_
    refine o_vg (v:=.bool (x59.2==(2:Int))) (want_cf (t:=91) rfl rfl) (fun hk=>(r_mov (gdT hk))) rfl rfl ?_
    refine o_vg (v:=.agg (cEnt x59.1 A68 c69 A71 c72).toArray) (want_gt (t:=94) rfl rfl) (fun hk=>(r_lda agg_api_Entry rfl (vs:=(cEnt x59.1 A68 c69 A71 c72)) rfl (((B86'.ex F93).ex F104).part (n:=9) rfl))) rfl rfl ?_
    refine o_vg (v:=.agg #[str ([]:Str),.int .i64 (0:Int),.int .i64 (0:Int),.int .i64 (0:Int),.bool false,str ([]:Str),.slice none ([]:List Int).length 0,.slice none ([]:List Int).length 0,.int .u64 (0:Int)]) (want_gt (t:=94) rfl rfl) (fun hk=>(r_build bld_api_Entry (vs:=[]) (cells:=[str ([]:Str),.int .i64 (0:Int),.int .i64 (0:Int),.int .i64 (0:Int),.bool false,str ([]:Str),.slice none ([]:List Int).length 0,.slice none ([]:List Int).length 0,.int .u64 (0:Int)]) rfl rfl)) rfl rfl ?_
    obtain ⟨ha114,h⟩:=h
    refine o_callg (V:=.bool (sameE x59.1 (⟨([]:Str),(⟨(0:Int),(0:Int),(0:Int),false,([]:Str),([]:List Int),([]:List Int),(0:Int)⟩:Val)⟩:Ent))) cf_entry_Same (want_gt (t:=94) rfl rfl) (fun hk=>(mapv2 (gdT hk) (gdT hk))) (fun hk=>(entry_Same_c x59.1 (kEnt_mk (d:=x59.1) (H70.up ((G91.trans (Fr.ext F93)).trans (Fr.ext F104)) (fun _ h=>h) (upc (.inr m79) (upc (.inl (List.Mem.head _)) (fun m hm=>Or.inl (List.Mem.tail _ hm))))) (H73.up ((G91.trans (Fr.ext F93)).trans (Fr.ext F104)) (fun _ h=>h) (upc (.inr m79) (upc (.inl (List.Mem.head _)) (fun m hm=>Or.inl (List.Mem.tail _ hm)))))) (⟨([]:Str),(⟨(0:Int),(0:Int),(0:Int),false,([]:Str),([]:List Int),([]:List Int),(0:Int)⟩:Val)⟩:Ent) (kEnt_mk (d:=(⟨([]:Str),(⟨(0:Int),(0:Int),(0:Int),false,([]:Str),([]:List Int),([]:List Int),(0:Int)⟩:Val)⟩:Ent)) stb_nil stb_nil) (((hL.fr E106).cons ((B92.ex F93).ex F104).lt).cons ((B86'.ex F93).ex F104).lt) (entSame_ev x59.1 (⟨([]:Str),(⟨(0:Int),(0:Int),(0:Int),false,([]:Str),([]:List Int),([]:List Int),(0:Int)⟩:Val)⟩:Ent) (ha114 hk)))) rfl ?_
    intro w113 F113
    have E115:=E106.trans F113
    refine o_vg (v:=.bool ((x59.2==(2:Int))&&(sameE x59.1 (⟨([]:Str),(⟨(0:Int),(0:Int),(0:Int),false,([]:Str),([]:List Int),([]:List Int),(0:Int)⟩:Val)⟩:Ent)))) (want_cf (t:=91) rfl rfl) (fun hk=>(r_pickAnd (gdT hk) (fun ht=>(gdT (andM hk ht))) rfl)) rfl rfl ?_
    refine o_v (v:=.bool (((((x59.2==(0:Int))&&(x93.2==(0:Int)))&&(x93.1==d1))&&((checkE x59.1)==(0:Int)))||((x59.2==(2:Int))&&(sameE x59.1 (⟨([]:Str),(⟨(0:Int),(0:Int),(0:Int),false,([]:Str),([]:List Int),([]:List Int),(0:Int)⟩:Val)⟩:Ent))))) (r_pickOr rfl rfl (fun hf=>(gdT (notT hf)))) (want_t (t:=74) rfl rfl (of_not hc13)) rfl rfl ?_
    refine o_w (v:=.bool (((((x59.2==(0:Int))&&(x93.2==(0:Int)))&&(x93.1==d1))&&((checkE x59.1)==(0:Int)))||((x59.2==(2:Int))&&(sameE x59.1 (⟨([]:Str),(⟨(0:Int),(0:Int),(0:Int),false,([]:Str),([]:List Int),([]:List Int),(0:Int)⟩:Val)⟩:Ent))))) (r_pickT rfl (of_not hc13) rfl) ?_
    refine o_w (v:=.bool (((((x59.2==(0:Int))&&(x93.2==(0:Int)))&&(x93.1==d1))&&((checkE x59.1)==(0:Int)))||((x59.2==(2:Int))&&(sameE x59.1 (⟨([]:Str),(⟨(0:Int),(0:Int),(0:Int),false,([]:Str),([]:List Int),([]:List Int),(0:Int)⟩:Val)⟩:Ent))))) (r_asg rfl) ?_
    refine eo_nil_sq ?_
    refine ec_ret ?_
    subst h
    exact (end1 rfl ⟨_,rfl,E115,rfl⟩)
end Go.Proofs.Ytbijobepjjokmaa
