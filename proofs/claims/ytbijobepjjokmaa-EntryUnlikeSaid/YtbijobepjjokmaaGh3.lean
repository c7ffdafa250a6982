/- The law EntryUnlike: what it comes to. -/
import Derived.Test.YtbijobepjjokmaaHj
namespace Go.Proofs.Ytbijobepjjokmaa
open Go Go.RowKit
set_option linter.unusedVariables false
set_option linter.unusedSimpArgs false
def law07_EntryUnlike_raw (d0:Ent) (d1:Ent) (y:Bool):Prop :=
 ((!(worksV))=true→(y=false))∧((!(worksV))=false→(((!((fewE d0)&&(fewE d1)))=true→(y=(worksV)))∧((!((fewE d0)&&(fewE d1)))=false→((sm d0.val)∧(∃ x37,x37=(putE d0)∧((sm d1.val)∧(∃ x43,x43=(putE d1)∧((((x37.2 != (0:Int))||(x43.2 != (0:Int)))=true→(y=(worksV)))∧(((x37.2 != (0:Int))||(x43.2 != (0:Int)))=false→(((((x37.1.length:Int)==(42:Int))&&((x43.1.length:Int)==(42:Int)))=true→sm d0.val)∧(y=((((x37.1.length:Int)==(42:Int))&&((x43.1.length:Int)==(42:Int)))&&((x37.1==x43.1)==(sameE d0 d1))))))))))))))
set_option maxRecDepth 20000 in
set_option maxHeartbeats 4000000 in
theorem law07_EntryUnlike_c {L:List Nat} {w:World} {csP0:List Value} (d0:Ent) (HP0:Stb L w (fun w=>kEnt.r w csP0 d0)) {csP1:List Value} (d1:Ent) (HP1:Stb L w (fun w=>kEnt.r w csP1 d1)) (hL:Lt L w) {y:Bool} (h:law07_EntryUnlike_raw d0 d1 y) :
  Calls Try.prog 8 [.agg csP0.toArray,.agg csP1.toArray].toArray w (Ret fun v w'=>Ext w w'∧v=.bool y):=by
 obtain ⟨A1,c2,A4,c5,rfl,H3,H6⟩:=kEnt_open HP0
 obtain ⟨A7,c8,A10,c11,rfl,H9,H12⟩:=kEnt_open HP1
 unfold law07_EntryUnlike_raw at h
 refine calls_ec Try.func8 rfl rfl rfl ?_
 refine ec_seq ?_
 refine ec_region ?_
 refine o_box (cs:=(cEnt d0 A1 c2 A4 c5)) rfl rfl rfl ?_
 intro b13 w13 e13 F13 B13
 have S13:=B13.stb (nin hL e13)
 have G14:Fr L w w13:=Fr.ext F13
 refine o_box (cs:=(cEnt d1 A7 c8 A10 c11)) rfl rfl rfl ?_
 intro b15 w15 e15 F15 B15
 have S15:=B15.stb (nin (hL.fr F13) e15)
 have E16:=F13.trans F15
 have G18:Fr L w13 w15:=Fr.ext F15
 refine o_w (v:=.bool false) (r_asg rfl) ?_
 refine eo_nil_sq ?_
 refine ec_seq ?_
 refine ec_region ?_
 refine o_call cf_law07_works rfl (law07_works_c (hL.fr E16) (works7_ev)) rfl rfl ?_
 rintro _ w19 ⟨F19,rfl⟩
 have E20:=E16.trans F19
 have G23:Fr L w15 w19:=Fr.ext F19
 refine o_w (v:=.bool (worksV)) (r_asg rfl) ?_
 refine eo_nil_sq ?_
 iterate 2 refine ec_seq ?_
 refine ec_region ?_
 refine o_w (v:=.bool (worksV)) (r_mov rfl) ?_
 refine o_w (v:=.bool (!(worksV))) (r_not rfl) ?_
 refine eo_nil_sq ?_
 refine ec_cond rfl (fun hc24=>?_) (fun hc24=>?_)
 ·replace h:=h.1 hc24
  refine ec_seq ?_
  refine ec_region ?_
  refine o_w (v:=.bool false) (r_asg rfl) ?_
  refine eo_nil_sq ?_
  refine ec_ret ?_
  refine sq_ret ?_
  subst h
  exact (end1 rfl ⟨_,rfl,E20,rfl⟩)
 ·replace h:=h.2 hc24
  refine ec_skip ?_
  refine sq_n ?_
  refine ec_seq ?_
  refine ec_region ?_
  refine o_w (v:=.agg (cEnt d0 A1 c2 A4 c5).toArray) (r_lda agg_api_Entry rfl (vs:=(cEnt d0 A1 c2 A4 c5)) rfl ((S13.fr (G18.trans (Fr.ext F19)) (fun _ h=>h)).now.part (n:=9) rfl)) ?_
  refine o_call cf_law07_Few rfl (law07_Few_c d0 (kEnt_mk (d:=d0) (H3.fr ((G14.trans (Fr.ext F15)).trans (Fr.ext F19)) (fun _ h=>h)) (H6.fr ((G14.trans (Fr.ext F15)).trans (Fr.ext F19)) (fun _ h=>h))) (hL.fr E20) (fewE_ev d0)) rfl rfl ?_
  rintro _ w26 ⟨F26,rfl⟩
  have E27:=E20.trans F26
  refine o_w (v:=.bool (fewE d0)) (r_mov rfl) ?_
  refine o_vg (v:=.agg (cEnt d1 A7 c8 A10 c11).toArray) (want_ct (t:=16) rfl rfl) (fun hk=>(r_lda agg_api_Entry rfl (vs:=(cEnt d1 A7 c8 A10 c11)) rfl ((S15.fr (G23.trans (Fr.ext F26)) (fun _ h=>h)).now.part (n:=9) rfl))) rfl rfl ?_
  refine o_callg (V:=.bool (fewE d1)) cf_law07_Few (want_ct (t:=16) rfl rfl) (fun hk=>(mapv1 (gdT hk))) (fun hk=>(law07_Few_c d1 (kEnt_mk (d:=d1) (H9.fr (((G14.trans (Fr.ext F15)).trans (Fr.ext F19)).trans (Fr.ext F26)) (fun _ h=>h)) (H12.fr (((G14.trans (Fr.ext F15)).trans (Fr.ext F19)).trans (Fr.ext F26)) (fun _ h=>h))) (hL.fr E27) (fewE_ev d1))) rfl ?_
  intro w31 F31
  have E32:=E27.trans F31
  have G33:=(((G14.trans (Fr.ext F15)).trans (Fr.ext F19)).trans (Fr.ext F26)).trans (Fr.ext F31)
  refine o_w (v:=.bool ((fewE d0)&&(fewE d1))) (r_pickAnd rfl (fun ht=>(gdT ht)) rfl) ?_
  refine o_w (v:=.bool ((fewE d0)&&(fewE d1))) (r_asg rfl) ?_
  refine eo_nil_sq ?_
  iterate 2 refine ec_seq ?_
  refine ec_region ?_
  refine o_w (v:=.bool ((fewE d0)&&(fewE d1))) (r_mov rfl) ?_
  refine o_w (v:=.bool (!((fewE d0)&&(fewE d1)))) (r_not rfl) ?_
  refine eo_nil_sq ?_
  refine ec_cond rfl (fun hc36=>?_) (fun hc36=>?_)
  ·replace h:=h.1 hc36
   refine ec_seq ?_
   refine ec_region ?_
   refine o_w (v:=.bool (worksV)) (r_mov rfl) ?_
   refine o_w (v:=.bool (worksV)) (r_asg rfl) ?_
   refine eo_nil_sq ?_
   refine ec_ret ?_
   refine sq_ret ?_
   subst h
   exact (end1 rfl ⟨_,rfl,E32,rfl⟩)
  ·replace h:=h.2 hc36
   refine ec_skip ?_
   refine sq_n ?_
   refine ec_seq ?_
   refine ec_region ?_
   refine o_w (v:=.agg (cEnt d0 A1 c2 A4 c5).toArray) (r_lda agg_api_Entry rfl (vs:=(cEnt d0 A1 c2 A4 c5)) rfl ((S13.fr (((G18.trans (Fr.ext F19)).trans (Fr.ext F26)).trans (Fr.ext F31)) (fun _ h=>h)).now.part (n:=9) rfl)) ?_
   obtain ⟨ha38,h⟩:=h
   obtain ⟨x37,hx37,h⟩:=h
   refine o_call cf_entry_Put rfl (entry_Put_c d0 (kEnt_mk (d:=d0) (H3.fr G33 (fun _ h=>h)) (H6.fr G33 (fun _ h=>h))) (hL.fr E32) (eq_ev hx37 (entPut_ev d0 ha38))) rfl rfl ?_
   rintro _ w37 ⟨F37,rfl⟩
   have E39:=E32.trans F37
   have G41:=(((G18.trans (Fr.ext F19)).trans (Fr.ext F26)).trans (Fr.ext F31)).trans (Fr.ext F37)
   refine o_w (v:=.tuple #[str x37.1,.int .i64 x37.2]) (r_mov rfl) ?_
   refine o_w (v:=str x37.1) (r_ext rfl rfl) ?_
   refine o_w (v:=.int .i64 x37.2) (r_ext rfl rfl) ?_
   refine o_w (v:=str x37.1) (r_asg rfl) ?_
   refine o_w (v:=.int .i64 x37.2) (r_asg rfl) ?_
   refine eo_nil_sq ?_
   refine ec_seq ?_
   refine ec_region ?_
   refine o_w (v:=.agg (cEnt d1 A7 c8 A10 c11).toArray) (r_lda agg_api_Entry rfl (vs:=(cEnt d1 A7 c8 A10 c11)) rfl ((S15.fr (((G23.trans (Fr.ext F26)).trans (Fr.ext F31)).trans (Fr.ext F37)) (fun _ h=>h)).now.part (n:=9) rfl)) ?_
   obtain ⟨ha44,h⟩:=h
   obtain ⟨x43,hx43,h⟩:=h
   refine o_call cf_entry_Put rfl (entry_Put_c d1 (kEnt_mk (d:=d1) (H9.fr (G33.trans (Fr.ext F37)) (fun _ h=>h)) (H12.fr (G33.trans (Fr.ext F37)) (fun _ h=>h))) (hL.fr E39) (eq_ev hx43 (entPut_ev d1 ha44))) rfl rfl ?_
   rintro _ w43 ⟨F43,rfl⟩
   have E45:=E39.trans F43
   have G48:=(((G23.trans (Fr.ext F26)).trans (Fr.ext F31)).trans (Fr.ext F37)).trans (Fr.ext F43)
   refine o_w (v:=.tuple #[str x43.1,.int .i64 x43.2]) (r_mov rfl) ?_
   refine o_w (v:=str x43.1) (r_ext rfl rfl) ?_
   refine o_w (v:=.int .i64 x43.2) (r_ext rfl rfl) ?_
   refine o_w (v:=str x43.1) (r_asg rfl) ?_
   refine o_w (v:=.int .i64 x43.2) (r_asg rfl) ?_
   refine eo_nil_sq ?_
   iterate 2 refine ec_seq ?_
   refine ec_region ?_
   refine o_w (v:=.int .i64 x37.2) (r_mov rfl) ?_
   refine o_w (v:=.bool (x37.2 != (0:Int))) (r_int rfl rfl rfl) ?_
   refine o_w (v:=.bool (x37.2 != (0:Int))) (r_mov rfl) ?_
   refine o_vg (v:=.int .i64 x43.2) (want_cf (t:=35) rfl rfl) (fun hk=>(r_mov rfl)) rfl rfl ?_
   refine o_vg (v:=.bool (x43.2 != (0:Int))) (want_cf (t:=35) rfl rfl) (fun hk=>(r_int (gdT hk) rfl rfl)) rfl rfl ?_
   refine o_w (v:=.bool ((x37.2 != (0:Int))||(x43.2 != (0:Int)))) (r_pickOr rfl rfl (fun hf=>(gdT (notT hf)))) ?_
   refine eo_nil_sq ?_
   refine ec_cond rfl (fun hc49=>?_) (fun hc49=>?_)
   ·replace h:=h.1 hc49
    refine ec_seq ?_
    refine ec_region ?_
    refine o_w (v:=.bool (worksV)) (r_mov rfl) ?_
    refine o_w (v:=.bool (worksV)) (r_asg rfl) ?_
    refine eo_nil_sq ?_
    refine ec_ret ?_
    refine sq_ret ?_
    subst h
    exact (end1 rfl ⟨_,rfl,E45,rfl⟩)
   ·replace h:=h.2 hc49
    refine ec_skip ?_
    refine sq_n ?_
    refine ec_seq ?_
    refine ec_region ?_
    iterate 2 refine o_w (v:=.bool (worksV)) (r_mov rfl) ?_
    refine o_v (v:=str x37.1) (r_mov rfl) (want_t (t:=41) rfl rfl (of_not hc24)) rfl rfl ?_
    refine o_v (v:=.int .i64 (x37.1.length:Int)) (r_len_str un_string rfl) (want_t (t:=41) rfl rfl (of_not hc24)) rfl rfl ?_
    refine o_v (v:=.bool ((x37.1.length:Int)==(42:Int))) (r_int rfl rfl rfl) (want_t (t:=41) rfl rfl (of_not hc24)) rfl rfl ?_
    refine o_w (v:=.bool ((x37.1.length:Int)==(42:Int))) (r_pickT rfl (of_not hc24) rfl) ?_
    refine o_w (v:=.bool ((x37.1.length:Int)==(42:Int))) (r_mov rfl) ?_
    refine o_vg (v:=str x43.1) (want_ct (t:=46) rfl rfl) (fun hk=>(r_mov rfl)) rfl rfl ?_
    refine o_vg (v:=.int .i64 (x43.1.length:Int)) (want_ct (t:=46) rfl rfl) (fun hk=>(r_len_str un_string (gdT hk))) rfl rfl ?_
    refine o_vg (v:=.bool ((x43.1.length:Int)==(42:Int))) (want_ct (t:=46) rfl rfl) (fun hk=>(r_int (gdT hk) rfl rfl)) rfl rfl ?_
    refine o_w (v:=.bool (((x37.1.length:Int)==(42:Int))&&((x43.1.length:Int)==(42:Int)))) (r_pickAnd rfl (fun ht=>(gdT ht)) rfl) ?_
    refine o_w (v:=.bool (((x37.1.length:Int)==(42:Int))&&((x43.1.length:Int)==(42:Int)))) (r_mov rfl) ?_
    refine o_vg (v:=str x37.1) (want_ct (t:=51) rfl rfl) (fun hk=>(r_mov rfl)) rfl rfl ?_
    refine o_vg (v:=str x43.1) (want_ct (t:=51) rfl rfl) (fun hk=>(r_mov rfl)) rfl rfl ?_
    refine o_vg (v:=.bool (x37.1==x43.1)) (want_ct (t:=51) rfl rfl) (fun hk=>(r_str (gdT hk) (gdT hk) rfl)) rfl rfl ?_
    refine o_vg (v:=.agg (cEnt d0 A1 c2 A4 c5).toArray) (want_ct (t:=51) rfl rfl) (fun hk=>(r_lda agg_api_Entry rfl (vs:=(cEnt d0 A1 c2 A4 c5)) rfl ((S13.fr (G41.trans (Fr.ext F43)) (fun _ h=>h)).now.part (n:=9) rfl))) rfl rfl ?_
    refine o_vg (v:=.agg (cEnt d1 A7 c8 A10 c11).toArray) (want_ct (t:=51) rfl rfl) (fun hk=>(r_lda agg_api_Entry rfl (vs:=(cEnt d1 A7 c8 A10 c11)) rfl ((S15.fr G48 (fun _ h=>h)).now.part (n:=9) rfl))) rfl rfl ?_
    obtain ⟨ha52,h⟩:=h
    refine o_callg (V:=.bool (sameE d0 d1)) cf_entry_Same (want_ct (t:=51) rfl rfl) (fun hk=>(mapv2 (gdT hk) (gdT hk))) (fun hk=>(entry_Same_c d0 (kEnt_mk (d:=d0) (H3.fr ((G33.trans (Fr.ext F37)).trans (Fr.ext F43)) (fun _ h=>h)) (H6.fr ((G33.trans (Fr.ext F37)).trans (Fr.ext F43)) (fun _ h=>h))) d1 (kEnt_mk (d:=d1) (H9.fr ((G33.trans (Fr.ext F37)).trans (Fr.ext F43)) (fun _ h=>h)) (H12.fr ((G33.trans (Fr.ext F37)).trans (Fr.ext F43)) (fun _ h=>h))) (hL.fr E45) (entSame_ev d0 d1 (ha52 hk)))) rfl ?_
    intro w51 F51
    have E53:=E45.trans F51
    refine o_vg (v:=.bool ((x37.1==x43.1)==(sameE d0 d1))) (want_ct (t:=51) rfl rfl) (fun hk=>(r_boolEq un_bool (gdT hk) (gdT hk))) rfl rfl ?_
    refine o_w (v:=.bool ((((x37.1.length:Int)==(42:Int))&&((x43.1.length:Int)==(42:Int)))&&((x37.1==x43.1)==(sameE d0 d1)))) (r_pickAnd rfl (fun ht=>(gdT ht)) rfl) ?_
    refine o_w (v:=.bool ((((x37.1.length:Int)==(42:Int))&&((x43.1.length:Int)==(42:Int)))&&((x37.1==x43.1)==(sameE d0 d1)))) (r_asg rfl) ?_
    refine eo_nil_sq ?_
    refine ec_ret ?_
    subst h
    exact (end1 rfl ⟨_,rfl,E53,rfl⟩)
end Go.Proofs.Ytbijobepjjokmaa
