/- The law EntryOrder: what it comes to. -/
import Derived.Test.YtbijobepjjokmaaHj
namespace Go.Proofs.Ytbijobepjjokmaa
open Go Go.RowKit
set_option linter.unusedVariables false
set_option linter.unusedSimpArgs false
def law07_EntryOrder_raw (d0:Ent) (d1:Ent) (d2:Ent) (y:Bool):Prop :=
 ((!(worksV))=true→(y=false))∧((!(worksV))=false→(((!(((fewE d0)&&(fewE d1))&&(fewE d2)))=true→(y=(worksV)))∧((!(((fewE d0)&&(fewE d1))&&(fewE d2)))=false→((sm d0.val)∧((sm d1.val)∧(∃ x70,x70=(joinE d0 d1)∧((((((lessE d0 d1)&&(lessE d1 d0))||(((d0.val.kind==d1.val.kind)&&(d0.key==d1.key))==((lessE d0 d1)||(lessE d1 d0))))||(((lessE d0 d1)&&(lessE d1 d2))&&(!(lessE d0 d2))))=true→(y=false))∧(((((lessE d0 d1)&&(lessE d1 d0))||(((d0.val.kind==d1.val.kind)&&(d0.key==d1.key))==((lessE d0 d1)||(lessE d1 d0))))||(((lessE d0 d1)&&(lessE d1 d2))&&(!(lessE d0 d2))))=false→(y=(((x70.2 != (0:Int))||((d0.val.kind==d1.val.kind)&&(d0.key==d1.key)))&&((!((d0.val.kind==d1.val.kind)&&(d0.key==d1.key)))||(x70.2 != (3:Int)))))))))))))
set_option maxRecDepth 20000 in
set_option maxHeartbeats 4000000 in
theorem law07_EntryOrder_c {L:List Nat} {w:World} {csP0:List Value} (d0:Ent) (HP0:Stb L w (fun w=>kEnt.r w csP0 d0)) {csP1:List Value} (d1:Ent) (HP1:Stb L w (fun w=>kEnt.r w csP1 d1)) {csP2:List Value} (d2:Ent) (HP2:Stb L w (fun w=>kEnt.r w csP2 d2)) (hL:Lt L w) {y:Bool} (h:law07_EntryOrder_raw d0 d1 d2 y) :
  Calls Try.prog 6 [.agg csP0.toArray,.agg csP1.toArray,.agg csP2.toArray].toArray w (Ret fun v w'=>Ext w w'∧v=.bool y):=by
 obtain ⟨A1,c2,A4,c5,rfl,H3,H6⟩:=kEnt_open HP0
 obtain ⟨A7,c8,A10,c11,rfl,H9,H12⟩:=kEnt_open HP1
 obtain ⟨A13,c14,A16,c17,rfl,H15,H18⟩:=kEnt_open HP2
 unfold law07_EntryOrder_raw at h
 refine calls_ec Try.func6 rfl rfl rfl ?_
 refine ec_seq ?_
 refine ec_region ?_
 refine o_box (cs:=(cEnt d0 A1 c2 A4 c5)) rfl rfl rfl ?_
 intro b19 w19 e19 F19 B19
 have S19:=B19.stb (nin hL e19)
 have G20:Fr L w w19:=Fr.ext F19
 refine o_box (cs:=(cEnt d1 A7 c8 A10 c11)) rfl rfl rfl ?_
 intro b21 w21 e21 F21 B21
 have S21:=B21.stb (nin (hL.fr F19) e21)
 have E22:=F19.trans F21
 have G24:Fr L w19 w21:=Fr.ext F21
 refine o_box (cs:=(cEnt d2 A13 c14 A16 c17)) rfl rfl rfl ?_
 intro b25 w25 e25 F25 B25
 have S25:=B25.stb (nin (hL.fr E22) e25)
 have E26:=E22.trans F25
 have G29:Fr L w21 w25:=Fr.ext F25
 refine o_w (v:=.bool false) (r_asg rfl) ?_
 refine eo_nil_sq ?_
 refine ec_seq ?_
 refine ec_region ?_
 refine o_call cf_law07_works rfl (law07_works_c (hL.fr E26) (works7_ev)) rfl rfl ?_
 rintro _ w30 ⟨F30,rfl⟩
 have E31:=E26.trans F30
 have G35:Fr L w25 w30:=Fr.ext F30
 refine o_w (v:=.bool (worksV)) (r_asg rfl) ?_
 refine eo_nil_sq ?_
 iterate 2 refine ec_seq ?_
 refine ec_region ?_
 refine o_w (v:=.bool (worksV)) (r_mov rfl) ?_
 refine o_w (v:=.bool (!(worksV))) (r_not rfl) ?_
 refine eo_nil_sq ?_
 refine ec_cond rfl (fun hc36=>?_) (fun hc36=>?_)
 ·replace h:=h.1 hc36
  refine ec_seq ?_
  refine ec_region ?_
  refine o_w (v:=.bool false) (r_asg rfl) ?_
  refine eo_nil_sq ?_
  refine ec_ret ?_
  refine sq_ret ?_
  subst h
  exact (end1 rfl ⟨_,rfl,E31,rfl⟩)
 ·replace h:=h.2 hc36
  refine ec_skip ?_
  refine sq_n ?_
  refine ec_seq ?_
  refine ec_region ?_
  refine o_w (v:=.agg (cEnt d0 A1 c2 A4 c5).toArray) (r_lda agg_api_Entry rfl (vs:=(cEnt d0 A1 c2 A4 c5)) rfl ((S19.fr ((G24.trans (Fr.ext F25)).trans (Fr.ext F30)) (fun _ h=>h)).now.part (n:=9) rfl)) ?_
  refine o_call cf_law07_Few rfl (law07_Few_c d0 (kEnt_mk (d:=d0) (H3.fr (((G20.trans (Fr.ext F21)).trans (Fr.ext F25)).trans (Fr.ext F30)) (fun _ h=>h)) (H6.fr (((G20.trans (Fr.ext F21)).trans (Fr.ext F25)).trans (Fr.ext F30)) (fun _ h=>h))) (hL.fr E31) (fewE_ev d0)) rfl rfl ?_
  rintro _ w39 ⟨F39,rfl⟩
  have E40:=E31.trans F39
  have G41:=(((G20.trans (Fr.ext F21)).trans (Fr.ext F25)).trans (Fr.ext F30)).trans (Fr.ext F39)
  refine o_w (v:=.bool (fewE d0)) (r_mov rfl) ?_
  refine o_vg (v:=.agg (cEnt d1 A7 c8 A10 c11).toArray) (want_ct (t:=19) rfl rfl) (fun hk=>(r_lda agg_api_Entry rfl (vs:=(cEnt d1 A7 c8 A10 c11)) rfl ((S21.fr ((G29.trans (Fr.ext F30)).trans (Fr.ext F39)) (fun _ h=>h)).now.part (n:=9) rfl))) rfl rfl ?_
  refine o_callg (V:=.bool (fewE d1)) cf_law07_Few (want_ct (t:=19) rfl rfl) (fun hk=>(mapv1 (gdT hk))) (fun hk=>(law07_Few_c d1 (kEnt_mk (d:=d1) (H9.fr G41 (fun _ h=>h)) (H12.fr G41 (fun _ h=>h))) (hL.fr E40) (fewE_ev d1))) rfl ?_
  intro w45 F45
  have E46:=E40.trans F45
  have G48:=(((G24.trans (Fr.ext F25)).trans (Fr.ext F30)).trans (Fr.ext F39)).trans (Fr.ext F45)
  refine o_w (v:=.bool ((fewE d0)&&(fewE d1))) (r_pickAnd rfl (fun ht=>(gdT ht)) rfl) ?_
  refine o_w (v:=.bool ((fewE d0)&&(fewE d1))) (r_mov rfl) ?_
  refine o_vg (v:=.agg (cEnt d2 A13 c14 A16 c17).toArray) (want_ct (t:=23) rfl rfl) (fun hk=>(r_lda agg_api_Entry rfl (vs:=(cEnt d2 A13 c14 A16 c17)) rfl ((S25.fr ((G35.trans (Fr.ext F39)).trans (Fr.ext F45)) (fun _ h=>h)).now.part (n:=9) rfl))) rfl rfl ?_
  refine o_callg (V:=.bool (fewE d2)) cf_law07_Few (want_ct (t:=23) rfl rfl) (fun hk=>(mapv1 (gdT hk))) (fun hk=>(law07_Few_c d2 (kEnt_mk (d:=d2) (H15.fr (G41.trans (Fr.ext F45)) (fun _ h=>h)) (H18.fr (G41.trans (Fr.ext F45)) (fun _ h=>h))) (hL.fr E46) (fewE_ev d2))) rfl ?_
  intro w51 F51
  have E52:=E46.trans F51
  have G55:=(((G29.trans (Fr.ext F30)).trans (Fr.ext F39)).trans (Fr.ext F45)).trans (Fr.ext F51)
  refine o_w (v:=.bool (((fewE d0)&&(fewE d1))&&(fewE d2))) (r_pickAnd rfl (fun ht=>(gdT ht)) rfl) ?_
  refine o_w (v:=.bool (((fewE d0)&&(fewE d1))&&(fewE d2))) (r_asg rfl) ?_
  refine eo_nil_sq ?_
  iterate 2 refine ec_seq ?_
  refine ec_region ?_
  refine o_w (v:=.bool (((fewE d0)&&(fewE d1))&&(fewE d2))) (r_mov rfl) ?_
  refine o_w (v:=.bool (!(((fewE d0)&&(fewE d1))&&(fewE d2)))) (r_not rfl) ?_
  refine eo_nil_sq ?_
  refine ec_cond rfl (fun hc57=>?_) (fun hc57=>?_)
  ·replace h:=h.1 hc57
   refine ec_seq ?_
   refine ec_region ?_
   refine o_w (v:=.bool (worksV)) (r_mov rfl) ?_
   refine o_w (v:=.bool (worksV)) (r_asg rfl) ?_
   refine eo_nil_sq ?_
   refine ec_ret ?_
   refine sq_ret ?_
   subst h
   exact (end1 rfl ⟨_,rfl,E52,rfl⟩)
  ·replace h:=h.2 hc57
   refine ec_skip ?_
   refine sq_n ?_
   refine ec_seq ?_
   refine ec_region ?_
   refine o_w (v:=.agg (cEnt d0 A1 c2 A4 c5).toArray) (r_lda agg_api_Entry rfl (vs:=(cEnt d0 A1 c2 A4 c5)) rfl ((S19.fr (G48.trans (Fr.ext F51)) (fun _ h=>h)).now.part (n:=9) rfl)) ?_
   refine o_w (v:=.agg (cEnt d1 A7 c8 A10 c11).toArray) (r_lda agg_api_Entry rfl (vs:=(cEnt d1 A7 c8 A10 c11)) rfl ((S21.fr G55 (fun _ h=>h)).now.part (n:=9) rfl)) ?_
   refine o_call cf_entry_Less rfl (entry_Less_c d0 (kEnt_mk (d:=d0) (H3.fr ((G41.trans (Fr.ext F45)).trans (Fr.ext F51)) (fun _ h=>h)) (H6.fr ((G41.trans (Fr.ext F45)).trans (Fr.ext F51)) (fun _ h=>h))) d1 (kEnt_mk (d:=d1) (H9.fr ((G41.trans (Fr.ext F45)).trans (Fr.ext F51)) (fun _ h=>h)) (H12.fr ((G41.trans (Fr.ext F45)).trans (Fr.ext F51)) (fun _ h=>h))) (hL.fr E52) (entLess_ev d0 d1)) rfl rfl ?_
   rintro _ w58 ⟨F58,rfl⟩
   have E59:=E52.trans F58
   have G63:=(((G35.trans (Fr.ext F39)).trans (Fr.ext F45)).trans (Fr.ext F51)).trans (Fr.ext F58)
   refine o_w (v:=.bool (lessE d0 d1)) (r_asg rfl) ?_
   refine eo_nil_sq ?_
   refine ec_seq ?_
   refine ec_region ?_
   refine o_w (v:=.agg (cEnt d1 A7 c8 A10 c11).toArray) (r_lda agg_api_Entry rfl (vs:=(cEnt d1 A7 c8 A10 c11)) rfl ((S21.fr (G55.trans (Fr.ext F58)) (fun _ h=>h)).now.part (n:=9) rfl)) ?_
   refine o_w (v:=.agg (cEnt d0 A1 c2 A4 c5).toArray) (r_lda agg_api_Entry rfl (vs:=(cEnt d0 A1 c2 A4 c5)) rfl ((S19.fr ((G48.trans (Fr.ext F51)).trans (Fr.ext F58)) (fun _ h=>h)).now.part (n:=9) rfl)) ?_
   refine o_call cf_entry_Less rfl (entry_Less_c d1 (kEnt_mk (d:=d1) (H9.fr (((G41.trans (Fr.ext F45)).trans (Fr.ext F51)).trans (Fr.ext F58)) (fun _ h=>h)) (H12.fr (((G41.trans (Fr.ext F45)).trans (Fr.ext F51)).trans (Fr.ext F58)) (fun _ h=>h))) d0 (kEnt_mk (d:=d0) (H3.fr (((G41.trans (Fr.ext F45)).trans (Fr.ext F51)).trans (Fr.ext F58)) (fun _ h=>h)) (H6.fr (((G41.trans (Fr.ext F45)).trans (Fr.ext F51)).trans (Fr.ext F58)) (fun _ h=>h))) (hL.fr E59) (entLess_ev d1 d0)) rfl rfl ?_
   rintro _ w64 ⟨F64,rfl⟩
   have E65:=E59.trans F64
   have G66:=(((G41.trans (Fr.ext F45)).trans (Fr.ext F51)).trans (Fr.ext F58)).trans (Fr.ext F64)
   refine o_w (v:=.bool (lessE d1 d0)) (r_asg rfl) ?_
   refine eo_nil_sq ?_
   refine ec_seq ?_
   refine ec_region ?_
   refine o_w (v:=.pointer (some ⟨b19,1,none⟩)) (r_fa fld_api_Entry_1 rfl rfl) ?_
   refine o_w (v:=.pointer (some ⟨b19,1,none⟩)) (r_fa fld_api_Value_0 rfl rfl) ?_
   refine o_w (v:=.int .i64 d0.val.kind) (r_ld one_int rfl ((S19.fr (((G48.trans (Fr.ext F51)).trans (Fr.ext F58)).trans (Fr.ext F64)) (fun _ h=>h)).now.cell rfl)) ?_
   refine o_w (v:=.pointer (some ⟨b21,1,none⟩)) (r_fa fld_api_Entry_1 rfl rfl) ?_
   refine o_w (v:=.pointer (some ⟨b21,1,none⟩)) (r_fa fld_api_Value_0 rfl rfl) ?_
   refine o_w (v:=.int .i64 d1.val.kind) (r_ld one_int rfl ((S21.fr ((G55.trans (Fr.ext F58)).trans (Fr.ext F64)) (fun _ h=>h)).now.cell rfl)) ?_
   refine o_w (v:=.bool (d0.val.kind==d1.val.kind)) (r_int rfl rfl rfl) ?_
   refine o_w (v:=.bool (d0.val.kind==d1.val.kind)) (r_mov rfl) ?_
   refine o_vg (v:=.pointer (some ⟨b19,0,none⟩)) (want_ct (t:=43) rfl rfl) (fun hk=>(r_fa fld_api_Entry_0 rfl rfl)) rfl rfl ?_
   refine o_vg (v:=str d0.key) (want_ct (t:=43) rfl rfl) (fun hk=>(r_ld one_string (gdT hk) ((S19.fr (((G48.trans (Fr.ext F51)).trans (Fr.ext F58)).trans (Fr.ext F64)) (fun _ h=>h)).now.cell rfl))) rfl rfl ?_
   refine o_vg (v:=.pointer (some ⟨b21,0,none⟩)) (want_ct (t:=43) rfl rfl) (fun hk=>(r_fa fld_api_Entry_0 rfl rfl)) rfl rfl ?_
   refine o_vg (v:=str d1.key) (want_ct (t:=43) rfl rfl) (fun hk=>(r_ld one_string (gdT hk) ((S21.fr ((G55.trans (Fr.ext F58)).trans (Fr.ext F64)) (fun _ h=>h)).now.cell rfl))) rfl rfl ?_
   refine o_vg (v:=.bool (d0.key==d1.key)) (want_ct (t:=43) rfl rfl) (fun hk=>(r_str (gdT hk) (gdT hk) rfl)) rfl rfl ?_
   refine o_w (v:=.bool ((d0.val.kind==d1.val.kind)&&(d0.key==d1.key))) (r_pickAnd rfl (fun ht=>(gdT ht)) rfl) ?_
   refine o_w (v:=.bool ((d0.val.kind==d1.val.kind)&&(d0.key==d1.key))) (r_asg rfl) ?_
   refine eo_nil_sq ?_
   refine ec_seq ?_
   refine ec_region ?_
   refine o_w (v:=.agg (cEnt d0 A1 c2 A4 c5).toArray) (r_lda agg_api_Entry rfl (vs:=(cEnt d0 A1 c2 A4 c5)) rfl ((S19.fr (((G48.trans (Fr.ext F51)).trans (Fr.ext F58)).trans (Fr.ext F64)) (fun _ h=>h)).now.part (n:=9) rfl)) ?_
   refine o_w (v:=.agg (cEnt d1 A7 c8 A10 c11).toArray) (r_lda agg_api_Entry rfl (vs:=(cEnt d1 A7 c8 A10 c11)) rfl ((S21.fr ((G55.trans (Fr.ext F58)).trans (Fr.ext F64)) (fun _ h=>h)).now.part (n:=9) rfl)) ?_
   obtain ⟨ha71,h⟩:=h
   obtain ⟨ha72,h⟩:=h
   obtain ⟨x70,hx70,h⟩:=h
   refine o_call cf_entry_Join rfl (entry_Join_c d0 (kEnt_mk (d:=d0) (H3.fr G66 (fun _ h=>h)) (H6.fr G66 (fun _ h=>h))) d1 (kEnt_mk (d:=d1) (H9.fr G66 (fun _ h=>h)) (H12.fr G66 (fun _ h=>h))) (hL.fr E65) (eq_ev hx70 (entJoin_ev d0 d1 ha71 ha72))) rfl rfl ?_
   rintro _ w70 ⟨F70,cs73,rfl,H74⟩
   have E75:=E65.trans F70
   have G77:=(((G48.trans (Fr.ext F51)).trans (Fr.ext F58)).trans (Fr.ext F64)).trans (Fr.ext F70)
   obtain ⟨A80,c81,A83,c84,rfl,H82,H85⟩:=kEnt_open H74
   refine o_w (v:=.tuple #[.agg (cEnt x70.1 A80 c81 A83 c84).toArray,.int .i64 x70.2]) (r_mov rfl) ?_
   refine o_w (v:=.agg (cEnt x70.1 A80 c81 A83 c84).toArray) (r_ext rfl rfl) ?_
   refine o_w (v:=.int .i64 x70.2) (r_ext rfl rfl) ?_
   refine o_alloc zero_api_Entry rfl rfl rfl ?_
   intro b86 w86 e86 F86 B86
   have n86:w.heap.size≤b86:=by rw [e86]; exact E75.size
   have m87:w.heap.size≤b86:=by rw [e86]; exact (G66.trans (Fr.ext F70)).size
   have m88:w19.heap.size≤b86:=by rw [e86]; exact G77.size
   have m89:w21.heap.size≤b86:=by rw [e86]; exact (((G55.trans (Fr.ext F58)).trans (Fr.ext F64)).trans (Fr.ext F70)).size
   have m90:w25.heap.size≤b86:=by rw [e86]; exact ((G63.trans (Fr.ext F64)).trans (Fr.ext F70)).size
   have E92:=E75.trans F86
   have G95:=(((G55.trans (Fr.ext F58)).trans (Fr.ext F64)).trans (Fr.ext F70)).trans (Fr.ext F86)
   refine o_store rfl B86 (vs:=(cEnt x70.1 A80 c81 A83 c84)) rfl sz_api_Entry rfl rfl rfl ?_
   intro w98 F98 B98
   have E99:=Ext.st E92 F98 (by simp; omega)
   have G100:Fr L w w98:=((G66.trans (Fr.ext F70)).trans (Fr.ext F86)).stp F98 (upc (.inr m87) (fun m hm=>by cases hm))
   have G101:Fr L w19 w98:=(G77.trans (Fr.ext F86)).stp F98 (upc (.inr m88) (fun m hm=>by cases hm))
   have G102:Fr L w21 w98:=G95.stp F98 (upc (.inr m89) (fun m hm=>by cases hm))
   have G103:Fr L w25 w98:=(((G63.trans (Fr.ext F64)).trans (Fr.ext F70)).trans (Fr.ext F86)).stp F98 (upc (.inr m90) (fun m hm=>by cases hm))
   have B98':Blk w98 b86 _ (cEnt x70.1 A80 c81 A83 c84):=B98
   refine o_w (v:=.int .i64 x70.2) (r_asg rfl) ?_
   refine eo_nil_sq ?_
   iterate 2 refine ec_seq ?_
   refine ec_region ?_
   iterate 2 refine o_w (v:=.bool (lessE d0 d1)) (r_mov rfl) ?_
   refine o_vg (v:=.bool (lessE d1 d0)) (want_ct (t:=57) rfl rfl) (fun hk=>(r_mov rfl)) rfl rfl ?_
   refine o_w (v:=.bool ((lessE d0 d1)&&(lessE d1 d0))) (r_pickAnd rfl (fun ht=>(gdT ht)) rfl) ?_
   refine o_w (v:=.bool ((lessE d0 d1)&&(lessE d1 d0))) (r_mov rfl) ?_
   refine o_vg (v:=.bool ((d0.val.kind==d1.val.kind)&&(d0.key==d1.key))) (want_cf (t:=60) rfl rfl) (fun hk=>(r_mov rfl)) rfl rfl ?_
   refine o_vg (v:=.bool (lessE d0 d1)) (want_cf (t:=60) rfl rfl) (fun hk=>(r_mov rfl)) rfl rfl ?_
   refine o_vg (v:=.bool (lessE d0 d1)) (want_cf (t:=60) rfl rfl) (fun hk=>(r_mov (gdT hk))) rfl rfl ?_
   refine o_vg (v:=.bool (lessE d1 d0)) (want_gf (t:=63) rfl rfl) (fun hk=>(r_mov rfl)) rfl rfl ?_
   refine o_vg (v:=.bool ((lessE d0 d1)||(lessE d1 d0))) (want_cf (t:=60) rfl rfl) (fun hk=>(r_pickOr (gdT hk) rfl (fun hf=>(gdT (andM hk (notT hf)))))) rfl rfl ?_
   refine o_vg (v:=.bool (((d0.val.kind==d1.val.kind)&&(d0.key==d1.key))==((lessE d0 d1)||(lessE d1 d0)))) (want_cf (t:=60) rfl rfl) (fun hk=>(r_boolEq un_bool (gdT hk) (gdT hk))) rfl rfl ?_
   refine o_w (v:=.bool (((lessE d0 d1)&&(lessE d1 d0))||(((d0.val.kind==d1.val.kind)&&(d0.key==d1.key))==((lessE d0 d1)||(lessE d1 d0))))) (r_pickOr rfl rfl (fun hf=>(gdT (notT hf)))) ?_
   refine o_w (v:=.bool (((lessE d0 d1)&&(lessE d1 d0))||(((d0.val.kind==d1.val.kind)&&(d0.key==d1.key))==((lessE d0 d1)||(lessE d1 d0))))) (r_mov rfl) ?_
   refine o_vg (v:=.bool (lessE d0 d1)) (want_cf (t:=68) rfl rfl) (fun hk=>(r_mov rfl)) rfl rfl ?_
   refine o_vg (v:=.bool (lessE d0 d1)) (want_cf (t:=68) rfl rfl) (fun hk=>(r_mov (gdT hk))) rfl rfl ?_
   refine o_vg (v:=.agg (cEnt d1 A7 c8 A10 c11).toArray) (want_gt (t:=70) rfl rfl) (fun hk=>(r_lda agg_api_Entry rfl (vs:=(cEnt d1 A7 c8 A10 c11)) rfl ((S21.fr G102 (fun _ h=>h)).now.part (n:=9) rfl))) rfl rfl ?_
   refine o_vg (v:=.agg (cEnt d2 A13 c14 A16 c17).toArray) (want_gt (t:=70) rfl rfl) (fun hk=>(r_lda agg_api_Entry rfl (vs:=(cEnt d2 A13 c14 A16 c17)) rfl ((S25.fr G103 (fun _ h=>h)).now.part (n:=9) rfl))) rfl rfl ?_
   refine o_callg (V:=.bool (lessE d1 d2)) cf_entry_Less (want_gt (t:=70) rfl rfl) (fun hk=>(mapv2 (gdT hk) (gdT hk))) (fun hk=>(entry_Less_c d1 (kEnt_mk (d:=d1) (H9.up G100 (fun _ h=>h) (upc (.inr m87) (fun _ h=>.inl h))) (H12.up G100 (fun _ h=>h) (upc (.inr m87) (fun _ h=>.inl h)))) d2 (kEnt_mk (d:=d2) (H15.up G100 (fun _ h=>h) (upc (.inr m87) (fun _ h=>.inl h))) (H18.up G100 (fun _ h=>h) (upc (.inr m87) (fun _ h=>.inl h)))) ((hL.fr E99).cons B98'.lt) (entLess_ev d1 d2))) rfl ?_
   intro w107 F107
   have E108:=E99.trans F107
   refine o_vg (v:=.bool ((lessE d0 d1)&&(lessE d1 d2))) (want_cf (t:=68) rfl rfl) (fun hk=>(r_pickAnd (gdT hk) (fun ht=>(gdT (andM hk ht))) rfl)) rfl rfl ?_
   refine o_vg (v:=.bool ((lessE d0 d1)&&(lessE d1 d2))) (want_cf (t:=68) rfl rfl) (fun hk=>(r_mov (gdT hk))) rfl rfl ?_
   refine o_vg (v:=.agg (cEnt d0 A1 c2 A4 c5).toArray) (want_gt (t:=75) rfl rfl) (fun hk=>(r_lda agg_api_Entry rfl (vs:=(cEnt d0 A1 c2 A4 c5)) rfl ((S19.fr (G101.trans (Fr.ext F107)) (fun _ h=>h)).now.part (n:=9) rfl))) rfl rfl ?_
   refine o_vg (v:=.agg (cEnt d2 A13 c14 A16 c17).toArray) (want_gt (t:=75) rfl rfl) (fun hk=>(r_lda agg_api_Entry rfl (vs:=(cEnt d2 A13 c14 A16 c17)) rfl ((S25.fr (G103.trans (Fr.ext F107)) (fun _ h=>h)).now.part (n:=9) rfl))) rfl rfl ?_
   refine o_callg (V:=.bool (lessE d0 d2)) cf_entry_Less (want_gt (t:=75) rfl rfl) (fun hk=>(mapv2 (gdT hk) (gdT hk))) (fun hk=>(entry_Less_c d0 (kEnt_mk (d:=d0) (H3.up (G100.trans (Fr.ext F107)) (fun _ h=>h) (upc (.inr m87) (fun _ h=>.inl h))) (H6.up (G100.trans (Fr.ext F107)) (fun _ h=>h) (upc (.inr m87) (fun _ h=>.inl h)))) d2 (kEnt_mk (d:=d2) (H15.up (G100.trans (Fr.ext F107)) (fun _ h=>h) (upc (.inr m87) (fun _ h=>.inl h))) (H18.up (G100.trans (Fr.ext F107)) (fun _ h=>h) (upc (.inr m87) (fun _ h=>.inl h)))) ((hL.fr E108).cons (B98'.ex F107).lt) (entLess_ev d0 d2))) rfl ?_
   intro w115 F115
   have E116:=E108.trans F115
   refine o_vg (v:=.bool (!(lessE d0 d2))) (want_gt (t:=75) rfl rfl) (fun hk=>(r_not (gdT hk))) rfl rfl ?_
   refine o_vg (v:=.bool (((lessE d0 d1)&&(lessE d1 d2))&&(!(lessE d0 d2)))) (want_cf (t:=68) rfl rfl) (fun hk=>(r_pickAnd (gdT hk) (fun ht=>(gdT (andM hk ht))) rfl)) rfl rfl ?_
   refine o_w (v:=.bool ((((lessE d0 d1)&&(lessE d1 d0))||(((d0.val.kind==d1.val.kind)&&(d0.key==d1.key))==((lessE d0 d1)||(lessE d1 d0))))||(((lessE d0 d1)&&(lessE d1 d2))&&(!(lessE d0 d2))))) (r_pickOr rfl rfl (fun hf=>(gdT (notT hf)))) ?_
   refine eo_nil_sq ?_
   refine ec_cond rfl (fun hc123=>?_) (fun hc123=>?_)
   ·replace h:=h.1 hc123
    refine ec_seq ?_
    refine ec_region ?_
    refine o_w (v:=.bool false) (r_asg rfl) ?_
    refine eo_nil_sq ?_
    refine ec_ret ?_
    refine sq_ret ?_
    subst h
    exact (end1 rfl ⟨_,rfl,E116,rfl⟩)
   ·replace h:=h.2 hc123
    refine ec_skip ?_
    refine sq_n ?_
    refine ec_seq ?_
    refine ec_region ?_
    iterate 2 refine o_w (v:=.bool (worksV)) (r_mov rfl) ?_
    refine o_v (v:=.int .i64 x70.2) (r_mov rfl) (want_t (t:=83) rfl rfl (of_not hc36)) rfl rfl ?_
    refine o_v (v:=.bool (x70.2 != (0:Int))) (r_int rfl rfl rfl) (want_t (t:=83) rfl rfl (of_not hc36)) rfl rfl ?_
    refine o_v (v:=.bool (x70.2 != (0:Int))) (r_mov rfl) (want_t (t:=83) rfl rfl (of_not hc36)) rfl rfl ?_
    refine o_vg (v:=.bool ((d0.val.kind==d1.val.kind)&&(d0.key==d1.key))) (want_cf (t:=86) rfl rfl) (fun hk=>(r_mov rfl)) rfl rfl ?_
    refine o_v (v:=.bool ((x70.2 != (0:Int))||((d0.val.kind==d1.val.kind)&&(d0.key==d1.key)))) (r_pickOr rfl rfl (fun hf=>(gdT (notT hf)))) (want_t (t:=83) rfl rfl (of_not hc36)) rfl rfl ?_
    refine o_w (v:=.bool ((x70.2 != (0:Int))||((d0.val.kind==d1.val.kind)&&(d0.key==d1.key)))) (r_pickT rfl (of_not hc36) rfl) ?_
    refine o_w (v:=.bool ((x70.2 != (0:Int))||((d0.val.kind==d1.val.kind)&&(d0.key==d1.key)))) (r_mov rfl) ?_
    refine o_vg (v:=.bool ((d0.val.kind==d1.val.kind)&&(d0.key==d1.key))) (want_ct (t:=90) rfl rfl) (fun hk=>(r_mov rfl)) rfl rfl ?_
    refine o_vg (v:=.bool (!((d0.val.kind==d1.val.kind)&&(d0.key==d1.key)))) (want_ct (t:=90) rfl rfl) (fun hk=>(r_not (gdT hk))) rfl rfl ?_
    refine o_vg (v:=.bool (!((d0.val.kind==d1.val.kind)&&(d0.key==d1.key)))) (want_ct (t:=90) rfl rfl) (fun hk=>(r_mov (gdT hk))) rfl rfl ?_
    refine o_vg (v:=.int .i64 x70.2) (want_gf (t:=93) rfl rfl) (fun hk=>(r_mov rfl)) rfl rfl ?_
    refine o_vg (v:=.bool (x70.2 != (3:Int))) (want_gf (t:=93) rfl rfl) (fun hk=>(r_int (gdT hk) rfl rfl)) rfl rfl ?_
    refine o_vg (v:=.bool ((!((d0.val.kind==d1.val.kind)&&(d0.key==d1.key)))||(x70.2 != (3:Int)))) (want_ct (t:=90) rfl rfl) (fun hk=>(r_pickOr (gdT hk) rfl (fun hf=>(gdT (andM hk (notT hf)))))) rfl rfl ?_
    refine o_w (v:=.bool (((x70.2 != (0:Int))||((d0.val.kind==d1.val.kind)&&(d0.key==d1.key)))&&((!((d0.val.kind==d1.val.kind)&&(d0.key==d1.key)))||(x70.2 != (3:Int))))) (r_pickAnd rfl (fun ht=>(gdT ht)) rfl) ?_
    refine o_w (v:=.bool (((x70.2 != (0:Int))||((d0.val.kind==d1.val.kind)&&(d0.key==d1.key)))&&((!((d0.val.kind==d1.val.kind)&&(d0.key==d1.key)))||(x70.2 != (3:Int))))) (r_asg rfl) ?_
    refine eo_nil_sq ?_
    refine ec_ret ?_
    subst h
    exact (end1 rfl ⟨_,rfl,E116,rfl⟩)
end Go.Proofs.Ytbijobepjjokmaa
