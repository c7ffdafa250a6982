/- The law FrameSizes: what it comes to. -/
import Derived.Test.YtdfjbkoimpjkaaaGreatVn
namespace Go.Proofs.YtdfjbkoimpjkaaaGreat
open Go Go.RowKit
set_option linter.unusedVariables false
set_option linter.unusedSimpArgs false
def law14_FrameSizes_raw (d0:Frm) (y:Bool):Prop :=
 ((!(worksV))=true→(y=false))∧((!(worksV))=false→((((12:Int):Int)≤100)∧(((!(entriesB d0.entries (12:Int)))=true→(y=(worksV)))∧((!(entriesB d0.entries (12:Int)))=false→((sml d0.entries)∧(∃ x18,x18=(putFr d0)∧((sml d0.entries)∧(y=(((x18.2==0)==((checkF d0)==0))&&((x18.2 != (0:Int))||(((x18.1.length:Int)==(IntKind.i64.wrap ((30:Int) + (IntKind.i64.wrap ((42:Int) * (d0.entries.length:Int))))))&&(decide ((d0.entries.length:Int)≤8)))))))))))))
set_option maxRecDepth 20000 in
set_option maxHeartbeats 4000000 in
theorem law14_FrameSizes_c {L:List Nat} {w:World} {csP0:List Value} (d0:Frm) (HP0:Stb L w (fun w=>kFrm.r w csP0 d0)) (hL:Lt L w) {y:Bool} (h:law14_FrameSizes_raw d0 y) :
  Calls Tryz.prog 6 [.agg csP0.toArray].toArray w (Ret fun v w'=>Ext w w'∧v=.bool y):=by
 obtain ⟨A2,c3,rfl,H4,hl1⟩:=kFrm_open HP0
 unfold law14_FrameSizes_raw at h
 refine calls_ec Tryz.func6 rfl rfl rfl ?_
 refine ec_sr ?_
 refine o_box (cs:=(cFrm d0 A2 c3)) rfl rfl rfl ?_
 intro b5 w5 e5 F5 B5
 have S5:=B5.stb (nin hL e5)
 have G6:Fr L w w5:=Fr.ext F5
 refine o_w (v:=.bool false) (r_asg rfl) ?_
 refine eo_r ?_
 refine o_call cf_law14_works rfl (law14_works_c (hL.fr F5) (works14_ev)) rfl rfl ?_
 rintro _ w7 ⟨F7,rfl⟩
 have E8:=F5.trans F7
 have G10:Fr L w5 w7:=Fr.ext F7
 refine o_w (v:=.bool (worksV)) (r_asg rfl) ?_
 refine eo_nil_sq ?_
 refine ec_seq ?_
 refine ec_sr ?_
 refine o_w (v:=.bool (worksV)) (r_mov rfl) ?_
 refine o_w (v:=.bool (!(worksV))) (r_not rfl) ?_
 refine eo_nil_sq ?_
 refine ec_cond rfl (fun hc11=>?_) (fun hc11=>?_)
 ·replace h:=h.1 hc11
  refine ec_sr ?_
  refine o_w (v:=.bool false) (r_asg rfl) ?_
  refine eo_nil_sq ?_
  refine ec_ret ?_
  refine sq_ret ?_
  subst h
  exact (end1 rfl ⟨_,rfl,E8,rfl⟩)
 ·replace h:=h.2 hc11
  refine ec_skip ?_
  refine sq_n ?_
  refine ec_sr ?_
  refine o_w (v:=.pointer (some ⟨b5,7,none⟩)) (r_fa fld_frame_Frame_4 rfl rfl) ?_
  refine o_w (v:=.slice A2 d0.entries.length c3) (r_ld one_s_api_Entry rfl ((S5.fr G10 sI).now.cell rfl)) ?_
  obtain ⟨ha13,h⟩:=h
  refine o_call cf_law08_Entries rfl (law08_Entries_c d0.entries (H4.fr (G6.trans (Fr.ext F7)) sI) (12:Int) (hL.fr E8) (entries_ev d0.entries (12:Int) ha13)) rfl rfl ?_
  rintro _ w12 ⟨F12,rfl⟩
  have E14:=E8.trans F12
  refine o_w (v:=.bool (entriesB d0.entries (12:Int))) (r_asg rfl) ?_
  refine eo_nil_sq ?_
  refine ec_seq ?_
  refine ec_sr ?_
  refine o_w (v:=.bool (entriesB d0.entries (12:Int))) (r_mov rfl) ?_
  refine o_w (v:=.bool (!(entriesB d0.entries (12:Int)))) (r_not rfl) ?_
  refine eo_nil_sq ?_
  refine ec_cond rfl (fun hc17=>?_) (fun hc17=>?_)
  ·replace h:=h.1 hc17
   refine ec_sr ?_
   refine o_w (v:=.bool (worksV)) (r_mov rfl) ?_
   refine o_w (v:=.bool (worksV)) (r_asg rfl) ?_
   refine eo_nil_sq ?_
   refine ec_ret ?_
   refine sq_ret ?_
   subst h
   exact (end1 rfl ⟨_,rfl,E14,rfl⟩)
  ·replace h:=h.2 hc17
   refine ec_skip ?_
   refine sq_n ?_
   refine ec_sr ?_
   refine o_w (v:=.agg (cFrm d0 A2 c3).toArray) (r_lda agg_frame_Frame rfl (vs:=(cFrm d0 A2 c3)) rfl ((S5.fr (G10.trans (Fr.ext F12)) sI).now.part (n:=8) rfl)) ?_
   obtain ⟨ha19,h⟩:=h
   obtain ⟨x18,hx18,h⟩:=h
   refine o_call cf_frame_Put rfl (frame_Put_c d0 (kFrm_mk (d:=d0) (H4.fr ((G6.trans (Fr.ext F7)).trans (Fr.ext F12)) sI) hl1) (hL.fr E14) (eq_ev hx18 (frPut_ev d0 ha19))) rfl rfl ?_
   rintro _ w18 ⟨F18,rfl⟩
   have E20:=E14.trans F18
   refine o_w (v:=.tuple #[str x18.1,.int .i64 x18.2]) (r_mov rfl) ?_
   refine o_w (v:=str x18.1) (r_ext rfl rfl) ?_
   refine o_w (v:=.int .i64 x18.2) (r_ext rfl rfl) ?_
   refine o_w (v:=str x18.1) (r_asg rfl) ?_
   refine o_w (v:=.int .i64 x18.2) (r_asg rfl) ?_
   refine eo_r ?_
   iterate 2 refine o_w (v:=.bool (worksV)) (r_mov rfl) ?_
   refine o_v (v:=.int .i64 x18.2) (r_mov rfl) (want_t (t:=22) rfl rfl (of_not hc11)) rfl rfl ?_
   refine o_v (v:=.bool (x18.2==0)) (r_int rfl rfl rfl) (want_t (t:=22) rfl rfl (of_not hc11)) rfl rfl ?_
   refine o_v (v:=.agg (cFrm d0 A2 c3).toArray) (r_lda agg_frame_Frame rfl (vs:=(cFrm d0 A2 c3)) rfl ((S5.fr ((G10.trans (Fr.ext F12)).trans (Fr.ext F18)) sI).now.part (n:=8) rfl)) (want_t (t:=22) rfl rfl (of_not hc11)) rfl rfl ?_
   obtain ⟨ha24,h⟩:=h
   refine o_call cf_frame_Check rfl (frame_Check_c d0 (kFrm_mk (d:=d0) (H4.fr (((G6.trans (Fr.ext F7)).trans (Fr.ext F12)).trans (Fr.ext F18)) sI) hl1) (hL.fr E20) (frCheckA_ev d0 ha24)) (want_t (t:=22) rfl rfl (of_not hc11)) rfl ?_
   rintro _ w23 ⟨F23,rfl⟩
   have E25:=E20.trans F23
   refine o_v (v:=.bool ((checkF d0)==0)) (r_int rfl rfl rfl) (want_t (t:=22) rfl rfl (of_not hc11)) rfl rfl ?_
   refine o_v (v:=.bool ((x18.2==0)==((checkF d0)==0))) (r_boolEq un_bool rfl rfl) (want_t (t:=22) rfl rfl (of_not hc11)) rfl rfl ?_
   refine o_w (v:=.bool ((x18.2==0)==((checkF d0)==0))) (r_pickT rfl (of_not hc11) rfl) ?_
   refine o_w (v:=.bool ((x18.2==0)==((checkF d0)==0))) (r_mov rfl) ?_
   refine o_vg (v:=.int .i64 x18.2) (want_ct (t:=30) rfl rfl) (fun hk=>(r_mov rfl)) rfl rfl ?_
   refine o_vg (v:=.bool (x18.2 != (0:Int))) (want_ct (t:=30) rfl rfl) (fun hk=>(r_int (gdT (u:=undef) hk) rfl rfl)) rfl rfl ?_
   refine o_vg (v:=.bool (x18.2 != (0:Int))) (want_ct (t:=30) rfl rfl) (fun hk=>(r_mov (gdT (u:=undef) hk))) rfl rfl ?_
   refine o_vg (v:=str x18.1) (want_gf (t:=33) rfl rfl) (fun hk=>(r_mov rfl)) rfl rfl ?_
   refine o_vg (v:=.int .i64 (x18.1.length:Int)) (want_gf (t:=33) rfl rfl) (fun hk=>(r_len_str un_string (gdT (u:=undef) hk))) rfl rfl ?_
   refine o_vg (v:=.pointer (some ⟨b5,7,none⟩)) (want_gf (t:=33) rfl rfl) (fun hk=>(r_fa fld_frame_Frame_4 rfl rfl)) rfl rfl ?_
   refine o_vg (v:=.slice A2 d0.entries.length c3) (want_gf (t:=33) rfl rfl) (fun hk=>(r_ld one_s_api_Entry (gdT (u:=undef) hk) ((S5.fr (((G10.trans (Fr.ext F12)).trans (Fr.ext F18)).trans (Fr.ext F23)) sI).now.cell rfl))) rfl rfl ?_
   refine o_vg (v:=.int .i64 (d0.entries.length:Int)) (want_gf (t:=33) rfl rfl) (fun hk=>(r_len_slc un_s_api_Entry (gdT (u:=undef) hk))) rfl rfl ?_
   refine o_vg (v:=.int .i64 (IntKind.i64.wrap ((42:Int) * (d0.entries.length:Int)))) (want_gf (t:=33) rfl rfl) (fun hk=>(r_int rfl (gdT (u:=undef) hk) rfl)) rfl rfl ?_
   refine o_vg (v:=.int .i64 (IntKind.i64.wrap ((30:Int) + (IntKind.i64.wrap ((42:Int) * (d0.entries.length:Int)))))) (want_gf (t:=33) rfl rfl) (fun hk=>(r_int rfl (gdT (u:=undef) hk) rfl)) rfl rfl ?_
   refine o_vg (v:=.bool ((x18.1.length:Int)==(IntKind.i64.wrap ((30:Int) + (IntKind.i64.wrap ((42:Int) * (d0.entries.length:Int))))))) (want_gf (t:=33) rfl rfl) (fun hk=>(r_int (gdT (u:=undef) hk) (gdT (u:=undef) hk) rfl)) rfl rfl ?_
   refine o_vg (v:=.bool ((x18.1.length:Int)==(IntKind.i64.wrap ((30:Int) + (IntKind.i64.wrap ((42:Int) * (d0.entries.length:Int))))))) (want_gf (t:=33) rfl rfl) (fun hk=>(r_mov (gdT (u:=undef) hk))) rfl rfl ?_
   refine o_vg (v:=.pointer (some ⟨b5,7,none⟩)) (want_gt (t:=42) rfl rfl) (fun hk=>(r_fa fld_frame_Frame_4 rfl rfl)) rfl rfl ?_
   refine o_vg (v:=.slice A2 d0.entries.length c3) (want_gt (t:=42) rfl rfl) (fun hk=>(r_ld one_s_api_Entry (gdT (u:=undef) hk) ((S5.fr (((G10.trans (Fr.ext F12)).trans (Fr.ext F18)).trans (Fr.ext F23)) sI).now.cell rfl))) rfl rfl ?_
   refine o_vg (v:=.int .i64 (d0.entries.length:Int)) (want_gt (t:=42) rfl rfl) (fun hk=>(r_len_slc un_s_api_Entry (gdT (u:=undef) hk))) rfl rfl ?_
   refine o_vg (v:=.bool (decide ((d0.entries.length:Int)≤8))) (want_gt (t:=42) rfl rfl) (fun hk=>(r_int (gdT (u:=undef) hk) rfl rfl)) rfl rfl ?_
   refine o_vg (v:=.bool (((x18.1.length:Int)==(IntKind.i64.wrap ((30:Int) + (IntKind.i64.wrap ((42:Int) * (d0.entries.length:Int))))))&&(decide ((d0.entries.length:Int)≤8)))) (want_gf (t:=33) rfl rfl) (fun hk=>(r_pickAnd (gdT (u:=undef) hk) (fun ht=>(gdT (u:=undef) (andM hk ht))) rfl)) rfl rfl ?_
   refine o_vg (v:=.bool ((x18.2 != (0:Int))||(((x18.1.length:Int)==(IntKind.i64.wrap ((30:Int) + (IntKind.i64.wrap ((42:Int) * (d0.entries.length:Int))))))&&(decide ((d0.entries.length:Int)≤8))))) (want_ct (t:=30) rfl rfl) (fun hk=>(r_pickOr (gdT (u:=undef) hk) rfl (fun hf=>(gdT (u:=undef) (andM hk (notT hf)))))) rfl rfl ?_
   refine o_w (v:=.bool (((x18.2==0)==((checkF d0)==0))&&((x18.2 != (0:Int))||(((x18.1.length:Int)==(IntKind.i64.wrap ((30:Int) + (IntKind.i64.wrap ((42:Int) * (d0.entries.length:Int))))))&&(decide ((d0.entries.length:Int)≤8)))))) (r_pickAnd rfl (fun ht=>(gdT (u:=undef) ht)) rfl) ?_
   refine o_w (v:=.bool (((x18.2==0)==((checkF d0)==0))&&((x18.2 != (0:Int))||(((x18.1.length:Int)==(IntKind.i64.wrap ((30:Int) + (IntKind.i64.wrap ((42:Int) * (d0.entries.length:Int))))))&&(decide ((d0.entries.length:Int)≤8)))))) (r_asg rfl) ?_
   refine eo_nil_sq ?_
   refine ec_ret ?_
   subst h
   exact (end1 rfl ⟨_,rfl,E25,rfl⟩)
end Go.Proofs.YtdfjbkoimpjkaaaGreat
