/- The law FrameTells: what it comes to. -/
import Derived.Test.YtdfjbkoimpjkaaaGreatVn
namespace Go.Proofs.YtdfjbkoimpjkaaaGreat
open Go Go.RowKit
set_option linter.unusedVariables false
set_option linter.unusedSimpArgs false
def law14_FrameTells_raw (d0:Frm) (d1:Frm) (y:Bool):Prop :=
 ((!(worksV))=true→(y=false))∧((!(worksV))=false→((((12:Int):Int)≤100)∧(((entriesB d0.entries (12:Int))=true→((12:Int):Int)≤100)∧(((!((entriesB d0.entries (12:Int))&&(entriesB d1.entries (12:Int))))=true→(y=(worksV)))∧((!((entriesB d0.entries (12:Int))&&(entriesB d1.entries (12:Int))))=false→(∃ x35,x35=(ofF d0)∧((sml x35.entries)∧((x35.entries.length≤1000000)∧((maxS x35.sums)∧((sml d0.entries)∧(∃ x55,x55=(putFr d0)∧(∃ x62,x62=(ofF d0)∧((sml x62.entries)∧((x62.entries.length≤1000000)∧((maxS x62.sums)∧((wfl x62.entries)∧(∃ x74,x74=(putFr x62)∧(∃ x86,x86=(ofF d0)∧(∃ x90,x90=(ofF d1)∧(x86.sums.length=4∧(x90.sums.length=4∧(sml x86.entries∧((sml d0.entries)∧(((((((checkF d0)==0)==(okFr x35))&&(x55.1==x74.1))&&(x55.2==x74.2))=true→sml d0.entries)∧(y=((((((checkF d0)==0)==(okFr x35))&&(x55.1==x74.1))&&(x55.2==x74.2))&&((sameF d0 d1)==(sameF x86 x90))))))))))))))))))))))))))))
set_option maxRecDepth 20000 in
set_option maxHeartbeats 4000000 in
theorem law14_FrameTells_c {L:List Nat} {w:World} {csP0:List Value} (d0:Frm) (HP0:Stb L w (fun w=>kFrm.r w csP0 d0)) {csP1:List Value} (d1:Frm) (HP1:Stb L w (fun w=>kFrm.r w csP1 d1)) (hL:Lt L w) {y:Bool} (h:law14_FrameTells_raw d0 d1 y) :
  Calls Tryz.prog 3 [.agg csP0.toArray,.agg csP1.toArray].toArray w (Ret fun v w'=>Ext w w'∧v=.bool y):=by
 obtain ⟨A2,c3,rfl,H4,hl1⟩:=kFrm_open HP0
 obtain ⟨A6,c7,rfl,H8,hl5⟩:=kFrm_open HP1
 unfold law14_FrameTells_raw at h
 refine calls_ec Tryz.func3 rfl rfl rfl ?_
 refine ec_sr ?_
 refine o_box (cs:=(cFrm d0 A2 c3)) rfl rfl rfl ?_
 intro b9 w9 e9 F9 B9
 have S9:=B9.stb (nin hL e9)
 have G10:Fr L w w9:=Fr.ext F9
 refine o_box (cs:=(cFrm d1 A6 c7)) rfl rfl rfl ?_
 intro b11 w11 e11 F11 B11
 have S11:=B11.stb (nin (hL.fr F9) e11)
 have E12:=F9.trans F11
 have G14:Fr L w9 w11:=Fr.ext F11
 refine o_w (v:=.bool false) (r_asg rfl) ?_
 refine eo_r ?_
 refine o_call cf_law14_works rfl (law14_works_c (hL.fr E12) (works14_ev)) rfl rfl ?_
 rintro _ w15 ⟨F15,rfl⟩
 have E16:=E12.trans F15
 have G19:Fr L w11 w15:=Fr.ext F15
 refine o_w (v:=.bool (worksV)) (r_asg rfl) ?_
 refine eo_nil_sq ?_
 refine ec_seq ?_
 refine ec_sr ?_
 refine o_w (v:=.bool (worksV)) (r_mov rfl) ?_
 refine o_w (v:=.bool (!(worksV))) (r_not rfl) ?_
 refine eo_nil_sq ?_
 refine ec_cond rfl (fun hc20=>?_) (fun hc20=>?_)
 ·replace h:=h.1 hc20
  refine ec_sr ?_
  refine o_w (v:=.bool false) (r_asg rfl) ?_
  refine eo_nil_sq ?_
  refine ec_ret ?_
  refine sq_ret ?_
  subst h
  exact (end1 rfl ⟨_,rfl,E16,rfl⟩)
 ·replace h:=h.2 hc20
  refine ec_skip ?_
  refine sq_n ?_
  refine ec_sr ?_
  refine o_w (v:=.pointer (some ⟨b9,7,none⟩)) (r_fa fld_frame_Frame_4 rfl rfl) ?_
  refine o_w (v:=.slice A2 d0.entries.length c3) (r_ld one_s_api_Entry rfl ((S9.fr (G14.trans (Fr.ext F15)) sI).now.cell rfl)) ?_
  obtain ⟨ha23,h⟩:=h
  refine o_call cf_law08_Entries rfl (law08_Entries_c d0.entries (H4.fr ((G10.trans (Fr.ext F11)).trans (Fr.ext F15)) sI) (12:Int) (hL.fr E16) (entries_ev d0.entries (12:Int) ha23)) rfl rfl ?_
  rintro _ w22 ⟨F22,rfl⟩
  have E24:=E16.trans F22
  refine o_w (v:=.bool (entriesB d0.entries (12:Int))) (r_mov rfl) ?_
  refine o_vg (v:=.pointer (some ⟨b11,7,none⟩)) (want_ct (t:=19) rfl rfl) (fun hk=>(r_fa fld_frame_Frame_4 rfl rfl)) rfl rfl ?_
  refine o_vg (v:=.slice A6 d1.entries.length c7) (want_ct (t:=19) rfl rfl) (fun hk=>(r_ld one_s_api_Entry (gdT (u:=undef) hk) ((S11.fr (G19.trans (Fr.ext F22)) sI).now.cell rfl))) rfl rfl ?_
  obtain ⟨ha29,h⟩:=h
  refine o_callg (V:=.bool (entriesB d1.entries (12:Int))) cf_law08_Entries (want_ct (t:=19) rfl rfl) (fun hk=>(mapv2 (gdT (u:=undef) hk) rfl)) (fun hk=>(law08_Entries_c d1.entries (H8.fr (((G10.trans (Fr.ext F11)).trans (Fr.ext F15)).trans (Fr.ext F22)) sI) (12:Int) (hL.fr E24) (entries_ev d1.entries (12:Int) (ha29 hk)))) rfl ?_
  intro w28 F28
  have E30:=E24.trans F28
  have G31:=(((G10.trans (Fr.ext F11)).trans (Fr.ext F15)).trans (Fr.ext F22)).trans (Fr.ext F28)
  refine o_w (v:=.bool ((entriesB d0.entries (12:Int))&&(entriesB d1.entries (12:Int)))) (r_pickAnd rfl (fun ht=>(gdT (u:=undef) ht)) rfl) ?_
  refine o_w (v:=.bool ((entriesB d0.entries (12:Int))&&(entriesB d1.entries (12:Int)))) (r_asg rfl) ?_
  refine eo_nil_sq ?_
  refine ec_seq ?_
  refine ec_sr ?_
  refine o_w (v:=.bool ((entriesB d0.entries (12:Int))&&(entriesB d1.entries (12:Int)))) (r_mov rfl) ?_
  refine o_w (v:=.bool (!((entriesB d0.entries (12:Int))&&(entriesB d1.entries (12:Int))))) (r_not rfl) ?_
  refine eo_nil_sq ?_
  refine ec_cond rfl (fun hc34=>?_) (fun hc34=>?_)
  ·replace h:=h.1 hc34
   refine ec_sr ?_
   refine o_w (v:=.bool (worksV)) (r_mov rfl) ?_
   refine o_w (v:=.bool (worksV)) (r_asg rfl) ?_
   refine eo_nil_sq ?_
   refine ec_ret ?_
   refine sq_ret ?_
   subst h
   exact (end1 rfl ⟨_,rfl,E30,rfl⟩)
  ·replace h:=h.2 hc34
   refine ec_skip ?_
   refine sq_n ?_
   refine ec_sr ?_
   refine o_w (v:=.agg (cFrm d0 A2 c3).toArray) (r_lda agg_frame_Frame rfl (vs:=(cFrm d0 A2 c3)) rfl ((S9.fr (((G14.trans (Fr.ext F15)).trans (Fr.ext F22)).trans (Fr.ext F28)) sI).now.part (n:=8) rfl)) ?_
   obtain ⟨x35,hx35,h⟩:=h
   refine o_call cf_law14_Of rfl (law14_Of_c d0 (kFrm_mk (d:=d0) (H4.fr G31 sI) hl1) (hL.fr E30) (eq_ev hx35 (ofF_ev d0))) rfl rfl ?_
   rintro _ w35 ⟨F35,cs36,rfl,H37⟩
   have E38:=E30.trans F35
   have G40:=(((G14.trans (Fr.ext F15)).trans (Fr.ext F22)).trans (Fr.ext F28)).trans (Fr.ext F35)
   obtain ⟨A43,c44,rfl,H45,hl42⟩:=kFrm_open H37
   obtain ⟨ha47,h⟩:=h
   obtain ⟨ha48,h⟩:=h
   obtain ⟨ha49,h⟩:=h
   refine o_call cf_ref14_Check rfl (ref14_Check_c x35 (kFrm_mk (d:=x35) H45 hl42) (hL.fr E38) (refCheckF_ev x35 ha47 ha48 ha49)) rfl rfl ?_
   rintro _ w46 ⟨F46,rfl⟩
   have E50:=E38.trans F46
   have G53:=(((G19.trans (Fr.ext F22)).trans (Fr.ext F28)).trans (Fr.ext F35)).trans (Fr.ext F46)
   refine o_w (v:=.bool (okFr x35)) (r_asg rfl) ?_
   refine eo_r ?_
   refine o_w (v:=.agg (cFrm d0 A2 c3).toArray) (r_lda agg_frame_Frame rfl (vs:=(cFrm d0 A2 c3)) rfl ((S9.fr (G40.trans (Fr.ext F46)) sI).now.part (n:=8) rfl)) ?_
   obtain ⟨ha56,h⟩:=h
   obtain ⟨x55,hx55,h⟩:=h
   refine o_call cf_frame_Put rfl (frame_Put_c d0 (kFrm_mk (d:=d0) (H4.fr ((G31.trans (Fr.ext F35)).trans (Fr.ext F46)) sI) hl1) (hL.fr E50) (eq_ev hx55 (frPut_ev d0 ha56))) rfl rfl ?_
   rintro _ w55 ⟨F55,rfl⟩
   have E57:=E50.trans F55
   refine o_w (v:=.tuple #[str x55.1,.int .i64 x55.2]) (r_mov rfl) ?_
   refine o_w (v:=str x55.1) (r_ext rfl rfl) ?_
   refine o_w (v:=.int .i64 x55.2) (r_ext rfl rfl) ?_
   refine o_w (v:=str x55.1) (r_asg rfl) ?_
   refine o_w (v:=.int .i64 x55.2) (r_asg rfl) ?_
   refine eo_r ?_
   refine o_w (v:=.agg (cFrm d0 A2 c3).toArray) (r_lda agg_frame_Frame rfl (vs:=(cFrm d0 A2 c3)) rfl ((S9.fr ((G40.trans (Fr.ext F46)).trans (Fr.ext F55)) sI).now.part (n:=8) rfl)) ?_
   obtain ⟨x62,hx62,h⟩:=h
   refine o_call cf_law14_Of rfl (law14_Of_c d0 (kFrm_mk (d:=d0) (H4.fr (((G31.trans (Fr.ext F35)).trans (Fr.ext F46)).trans (Fr.ext F55)) sI) hl1) (hL.fr E57) (eq_ev hx62 (ofF_ev d0))) rfl rfl ?_
   rintro _ w62 ⟨F62,cs63,rfl,H64⟩
   have E65:=E57.trans F62
   have G66:=(((G31.trans (Fr.ext F35)).trans (Fr.ext F46)).trans (Fr.ext F55)).trans (Fr.ext F62)
   obtain ⟨A71,c72,rfl,H73,hl70⟩:=kFrm_open H64
   obtain ⟨ha75,h⟩:=h
   obtain ⟨ha76,h⟩:=h
   obtain ⟨ha77,h⟩:=h
   obtain ⟨ha78,h⟩:=h
   obtain ⟨x74,hx74,h⟩:=h
   refine o_call cf_ref14_Put rfl (ref14_Put_c x62 (kFrm_mk (d:=x62) H73 hl70) (hL.fr E65) (eq_ev hx74 (refPutFr_ev x62 ha75 ha76 ha77 ha78))) rfl rfl ?_
   rintro _ w74 ⟨F74,rfl⟩
   have E79:=E65.trans F74
   have G81:=(((G40.trans (Fr.ext F46)).trans (Fr.ext F55)).trans (Fr.ext F62)).trans (Fr.ext F74)
   refine o_w (v:=.tuple #[str x74.1,.int .i64 x74.2]) (r_mov rfl) ?_
   refine o_w (v:=str x74.1) (r_ext rfl rfl) ?_
   refine o_w (v:=.int .i64 x74.2) (r_ext rfl rfl) ?_
   refine o_w (v:=str x74.1) (r_asg rfl) ?_
   refine o_w (v:=.int .i64 x74.2) (r_asg rfl) ?_
   refine eo_nil_sq ?_
   refine ec_seq ?_
   obtain ⟨x86,hx86,h⟩:=h
   obtain ⟨x90,hx90,h⟩:=h
   obtain ⟨ha94,h⟩:=h
   obtain ⟨ha95,h⟩:=h
   obtain ⟨ha97,h⟩:=h
   refine ec_any0 (by kernel_rfl) [[],[0],[],[0,1,2],[0,1,2,3],[0,1,2,3,4]] [12,41,42,43,44,45] [fun v _=>v=(.agg (cFrm d0 A2 c3).toArray:Value),fun v w'=>∃ A87 c88,v=(.agg (cFrm x86 A87 c88).toArray:Value)∧Stb L w' (fun w=>SlC kEnt w A87 c88 x86.entries),fun v _=>v=(.agg (cFrm d1 A6 c7).toArray:Value),fun v w'=>∃ A91 c92,v=(.agg (cFrm x90 A91 c92).toArray:Value)∧Stb L w' (fun w=>SlC kEnt w A91 c92 x90.entries),fun v _=>v=(.bool (sameF x86 x90):Value),fun v _=>v=(.bool (sameF x86 x90):Value)] (by kernel_rfl) ⟨fun _ _ _ _ _ h=>h,fun _ v w' w'' F h=>by obtain ⟨A87,c88,hv,H89⟩:=h; exact ⟨A87,c88,hv,(H89.ex F)⟩,fun _ _ _ _ _ h=>h,fun _ v w' w'' F h=>by obtain ⟨A91,c92,hv,H93⟩:=h; exact ⟨A91,c92,hv,(H93.ex F)⟩,fun _ _ _ _ _ h=>h,fun _ _ _ _ _ h=>h,trivial⟩ ?_ ?_
   ·refine ⟨?_,?_,?_,?_,?_,?_,trivial⟩
    ·intro ρ w85o F85o hS hρ
     have q2:ρ 2=.pointer (some ⟨b9,0,none⟩):=hρ 2 (by kernel_rfl)
     exact o_q (r_lda agg_frame_Frame q2 (vs:=(cFrm d0 A2 c3)) rfl ((S9.fr (G81.trans (Fr.ext F85o)) sI).now.part (n:=8) rfl)) ⟨Fr.refl _ _,rfl⟩
    ·intro ρ w85o F85o hS hρ
     have E104:=E79.trans F85o
     have q41:ρ 41=.agg (cFrm d0 A2 c3).toArray:=hS 0 (by decide) 41 rfl
     refine o_call cf_law14_Of (by simp only [List.map,ev,q41] <;> rfl) (law14_Of_c d0 (kFrm_mk (d:=d0) (H4.fr ((G66.trans (Fr.ext F74)).trans (Fr.ext F85o)) sI) hl1) (hL.fr E104) (eq_ev hx86 (ofF_ev d0))) rfl rfl ?_
     rintro _ w' ⟨F,cs110,rfl,H111⟩
     obtain ⟨A87,c88,rfl,H89,_⟩:=kFrm_open H111
     exact eo_nil ⟨rfl,rfl,_,rfl,F,⟨A87,c88,rfl,H89⟩⟩
    ·intro ρ w85o F85o hS hρ
     have G115:=(((G53.trans (Fr.ext F55)).trans (Fr.ext F62)).trans (Fr.ext F74)).trans (Fr.ext F85o)
     have q3:ρ 3=.pointer (some ⟨b11,0,none⟩):=hρ 3 (by kernel_rfl)
     exact o_q (r_lda agg_frame_Frame q3 (vs:=(cFrm d1 A6 c7)) rfl ((S11.fr G115 sI).now.part (n:=8) rfl)) ⟨Fr.refl _ _,rfl⟩
    ·intro ρ w85o F85o hS hρ
     have E118:=E79.trans F85o
     have q43:ρ 43=.agg (cFrm d1 A6 c7).toArray:=hS 2 (by decide) 43 rfl
     refine o_call cf_law14_Of (by simp only [List.map,ev,q43] <;> rfl) (law14_Of_c d1 (kFrm_mk (d:=d1) (H8.fr ((G66.trans (Fr.ext F74)).trans (Fr.ext F85o)) sI) hl5) (hL.fr E118) (eq_ev hx90 (ofF_ev d1))) rfl rfl ?_
     rintro _ w' ⟨F,cs124,rfl,H125⟩
     obtain ⟨A91,c92,rfl,H93,_⟩:=kFrm_open H125
     exact eo_nil ⟨rfl,rfl,_,rfl,F,⟨A91,c92,rfl,H93⟩⟩
    ·intro ρ w85o F85o hS hρ
     have E126:=E79.trans F85o
     obtain ⟨A87,c88,q42,H89⟩:=hS 1 (by decide) 42 rfl
     obtain ⟨A91,c92,q44,H93⟩:=hS 3 (by decide) 44 rfl
     refine o_call cf_ref14_Same (by simp only [List.map,ev,q42,q44] <;> rfl) (ref14_Same_c x86 (kFrm_mk (d:=x86) H89 ha94) x90 (kFrm_mk (d:=x90) H93 ha95) (hL.fr E126) (refSameF_ev x86 x90 ha97)) rfl rfl ?_
     rintro _ w' ⟨F,rfl⟩
     exact eo_nil ⟨rfl,rfl,_,rfl,F,rfl⟩
    ·intro ρ w85o F85o hS hρ
     have q45:ρ 45=.bool (sameF x86 x90):=hS 4 (by decide) 45 rfl
     exact o_q (r_asg q45) ⟨Fr.refl _ _,rfl⟩
   ·intro ρ w85 F85 hS hρ
    have q12:ρ 12=.bool (sameF x86 x90):=hS 5 12 rfl
    obtain ⟨ρ',rfl⟩:∃ ρ',ρ=envs (ovr [12,41,42,43,44,45] ρ' _) [(12,.bool (sameF x86 x90))]:=⟨ρ,ovr_self hρ ⟨q12,trivial⟩⟩
    have E132:=E79.trans F85
    have G135:=(((G53.trans (Fr.ext F55)).trans (Fr.ext F62)).trans (Fr.ext F74)).trans (Fr.ext F85)
    refine sq_n ?_
    refine ec_sr ?_
    iterate 2 refine o_w (v:=.bool (worksV)) (r_mov rfl) ?_
    refine o_v (v:=.agg (cFrm d0 A2 c3).toArray) (r_lda agg_frame_Frame rfl (vs:=(cFrm d0 A2 c3)) rfl ((S9.fr (G81.trans (Fr.ext F85)) sI).now.part (n:=8) rfl)) (want_t (t:=47) rfl rfl (of_not hc20)) rfl rfl ?_
    obtain ⟨ha140,h⟩:=h
    refine o_call cf_frame_Check rfl (frame_Check_c d0 (kFrm_mk (d:=d0) (H4.fr ((G66.trans (Fr.ext F74)).trans (Fr.ext F85)) sI) hl1) (hL.fr E132) (frCheckA_ev d0 ha140)) (want_t (t:=47) rfl rfl (of_not hc20)) rfl ?_
    rintro _ w139 ⟨F139,rfl⟩
    have E141:=E132.trans F139
    refine o_v (v:=.bool ((checkF d0)==0)) (r_int rfl rfl rfl) (want_t (t:=47) rfl rfl (of_not hc20)) rfl rfl ?_
    refine o_v (v:=.bool (okFr x35)) (r_mov rfl) (want_t (t:=47) rfl rfl (of_not hc20)) rfl rfl ?_
    refine o_v (v:=.bool (((checkF d0)==0)==(okFr x35))) (r_boolEq un_bool rfl rfl) (want_t (t:=47) rfl rfl (of_not hc20)) rfl rfl ?_
    refine o_w (v:=.bool (((checkF d0)==0)==(okFr x35))) (r_pickT rfl (of_not hc20) rfl) ?_
    refine o_w (v:=.bool (((checkF d0)==0)==(okFr x35))) (r_mov rfl) ?_
    refine o_vg (v:=str x55.1) (want_ct (t:=54) rfl rfl) (fun hk=>(r_mov rfl)) rfl rfl ?_
    refine o_vg (v:=str x74.1) (want_ct (t:=54) rfl rfl) (fun hk=>(r_mov rfl)) rfl rfl ?_
    refine o_vg (v:=.bool (x55.1==x74.1)) (want_ct (t:=54) rfl rfl) (fun hk=>(r_str (gdT (u:=undef) hk) (gdT (u:=undef) hk) rfl)) rfl rfl ?_
    refine o_w (v:=.bool ((((checkF d0)==0)==(okFr x35))&&(x55.1==x74.1))) (r_pickAnd rfl (fun ht=>(gdT (u:=undef) ht)) rfl) ?_
    refine o_w (v:=.bool ((((checkF d0)==0)==(okFr x35))&&(x55.1==x74.1))) (r_mov rfl) ?_
    refine o_vg (v:=.int .i64 x55.2) (want_ct (t:=59) rfl rfl) (fun hk=>(r_mov rfl)) rfl rfl ?_
    refine o_vg (v:=.int .i64 x74.2) (want_ct (t:=59) rfl rfl) (fun hk=>(r_mov rfl)) rfl rfl ?_
    refine o_vg (v:=.bool (x55.2==x74.2)) (want_ct (t:=59) rfl rfl) (fun hk=>(r_int (gdT (u:=undef) hk) (gdT (u:=undef) hk) rfl)) rfl rfl ?_
    refine o_w (v:=.bool (((((checkF d0)==0)==(okFr x35))&&(x55.1==x74.1))&&(x55.2==x74.2))) (r_pickAnd rfl (fun ht=>(gdT (u:=undef) ht)) rfl) ?_
    refine o_w (v:=.bool (((((checkF d0)==0)==(okFr x35))&&(x55.1==x74.1))&&(x55.2==x74.2))) (r_mov rfl) ?_
    refine o_vg (v:=.agg (cFrm d0 A2 c3).toArray) (want_ct (t:=64) rfl rfl) (fun hk=>(r_lda agg_frame_Frame rfl (vs:=(cFrm d0 A2 c3)) rfl ((S9.fr ((G81.trans (Fr.ext F85)).trans (Fr.ext F139)) sI).now.part (n:=8) rfl))) rfl rfl ?_
    refine o_vg (v:=.agg (cFrm d1 A6 c7).toArray) (want_ct (t:=64) rfl rfl) (fun hk=>(r_lda agg_frame_Frame rfl (vs:=(cFrm d1 A6 c7)) rfl ((S11.fr (G135.trans (Fr.ext F139)) sI).now.part (n:=8) rfl))) rfl rfl ?_
    obtain ⟨ha149,h⟩:=h
    refine o_callg (V:=.bool (sameF d0 d1)) cf_frame_Same (want_ct (t:=64) rfl rfl) (fun hk=>(mapv2 (gdT (u:=undef) hk) (gdT (u:=undef) hk))) (fun hk=>(frame_Same_c d0 (kFrm_mk (d:=d0) (H4.fr (((G66.trans (Fr.ext F74)).trans (Fr.ext F85)).trans (Fr.ext F139)) sI) hl1) d1 (kFrm_mk (d:=d1) (H8.fr (((G66.trans (Fr.ext F74)).trans (Fr.ext F85)).trans (Fr.ext F139)) sI) hl5) (hL.fr E141) (frSame_ev d0 d1 (ha149 hk)))) rfl ?_
    intro w148 F148
    have E150:=E141.trans F148
    refine o_vg (v:=.bool (sameF x86 x90)) (want_ct (t:=64) rfl rfl) (fun hk=>(r_mov rfl)) rfl rfl ?_
    refine o_vg (v:=.bool ((sameF d0 d1)==(sameF x86 x90))) (want_ct (t:=64) rfl rfl) (fun hk=>(r_boolEq un_bool (gdT (u:=undef) hk) (gdT (u:=undef) hk))) rfl rfl ?_
    refine o_w (v:=.bool ((((((checkF d0)==0)==(okFr x35))&&(x55.1==x74.1))&&(x55.2==x74.2))&&((sameF d0 d1)==(sameF x86 x90)))) (r_pickAnd rfl (fun ht=>(gdT (u:=undef) ht)) rfl) ?_
    refine o_w (v:=.bool ((((((checkF d0)==0)==(okFr x35))&&(x55.1==x74.1))&&(x55.2==x74.2))&&((sameF d0 d1)==(sameF x86 x90)))) (r_asg rfl) ?_
    refine eo_nil_sq ?_
    refine ec_ret ?_
    subst h
    exact (end1 rfl ⟨_,rfl,E150,rfl⟩)
end Go.Proofs.YtdfjbkoimpjkaaaGreat
