/- The law DeltaReads: what it comes to. -/
import Derived.Test.YthhjcijhanacnaaGreatLn
import Derived.Test.YthhjcijhanacnaaGreatLh
namespace Go.Proofs.YthhjcijhanacnaaGreat
open Go Go.RowKit
set_option linter.unusedVariables false
set_option linter.unusedSimpArgs false
def law09_DeltaReads_raw (d0:Arena) (d1:Str) (y:Bool):Prop :=
 ((!(worksV))=true→(y=false))∧((!(worksV))=false→((((!(fewA d0))||(decide (100<(d1.length:Int))))=true→(y=(worksV)))∧(((!(fewA d0))||(decide (100<(d1.length:Int))))=false→((sma d0)∧(∃ x19,x19=(textU d0 d1)∧((sma d0)∧(∃ x24,x24=(textU d0 d1)∧((sma d0)∧(∃ x29,x29=(sumU d0 d1)∧((sma d0)∧(∃ x34,x34=(sumU d0 d1)∧((sma d0)∧(∃ x39,x39=(flagsU d0 d1)∧((sma d0)∧(∃ x44,x44=(flagsU d0 d1)∧(sma d0∧(∃ x50,x50=(scanU d0)∧(sma d0∧(∃ x55,x55=(scanU d0)∧(sml x50∧(y=(((((((x19.1==x24.1)&&(x19.2==x24.2))&&(x29.1==x34.1))&&(x29.2==x34.2))&&(x39.1==x44.1))&&(x39.2==x44.2))&&(allE x50 x55)))))))))))))))))))))))
set_option maxRecDepth 20000 in
set_option maxHeartbeats 4000000 in
theorem law09_DeltaReads_c {L:List Nat} {w:World} {csP0:List Value} (d0:Arena) (HP0:Stb L w (fun w=>kArena.r w csP0 d0)) (d1:Str) (hL:Lt L w) {y:Bool} (h:law09_DeltaReads_raw d0 d1 y) :
  Calls Tryz.prog 4 [.agg csP0.toArray,str d1].toArray w (Ret fun v w'=>Ext w w'∧v=.bool y):=by
 obtain ⟨A1,c2,A4,c5,rfl,H3,H6⟩:=kArena_open HP0
 unfold law09_DeltaReads_raw at h
 refine calls_ec Tryz.func4 rfl rfl rfl ?_
 refine ec_seq ?_
 refine ec_region ?_
 refine o_box (cs:=(cArena d0 A1 c2 A4 c5)) rfl rfl rfl ?_
 intro b7 w7 e7 F7 B7
 have S7:=B7.stb (nin hL e7)
 have G8:Fr L w w7:=Fr.ext F7
 refine o_w (v:=.bool false) (r_asg rfl) ?_
 refine eo_nil_sq ?_
 refine ec_seq ?_
 refine ec_region ?_
 refine o_call cf_law09_works rfl (law09_works_c (hL.fr F7) (works9_ev)) rfl rfl ?_
 rintro _ w9 ⟨F9,rfl⟩
 have E10:=F7.trans F9
 have G12:Fr L w7 w9:=Fr.ext F9
 refine o_w (v:=.bool (worksV)) (r_asg rfl) ?_
 refine eo_nil_sq ?_
 iterate 2 refine ec_seq ?_
 refine ec_region ?_
 refine o_w (v:=.bool (worksV)) (r_mov rfl) ?_
 refine o_w (v:=.bool (!(worksV))) (r_not rfl) ?_
 refine eo_nil_sq ?_
 refine ec_cond rfl (fun hc13=>?_) (fun hc13=>?_)
 ·replace h:=h.1 hc13
  refine ec_seq ?_
  refine ec_region ?_
  refine o_w (v:=.bool false) (r_asg rfl) ?_
  refine eo_nil_sq ?_
  refine ec_ret ?_
  refine sq_ret ?_
  subst h
  exact (end1 rfl ⟨_,rfl,E10,rfl⟩)
 ·replace h:=h.2 hc13
  refine ec_skip ?_
  refine sq_n ?_
  refine ec_seq ?_
  refine ec_region ?_
  refine o_w (v:=.agg (cArena d0 A1 c2 A4 c5).toArray) (r_lda agg_api_Arena rfl (vs:=(cArena d0 A1 c2 A4 c5)) rfl ((S7.fr G12 sI).now.part (n:=3) rfl)) ?_
  refine o_call cf_law08_Few rfl (law08_Few_c d0 (kArena_mk (d:=d0) (H3.fr (G8.trans (Fr.ext F9)) sI) (H6.fr (G8.trans (Fr.ext F9)) sI)) (hL.fr E10) (fewA_ev d0)) rfl rfl ?_
  rintro _ w14 ⟨F14,rfl⟩
  have E15:=E10.trans F14
  refine o_w (v:=.bool (fewA d0)) (r_asg rfl) ?_
  refine eo_nil_sq ?_
  iterate 2 refine ec_seq ?_
  refine ec_region ?_
  refine o_w (v:=.bool (fewA d0)) (r_mov rfl) ?_
  refine o_w (v:=.bool (!(fewA d0))) (r_not rfl) ?_
  refine o_w (v:=.bool (!(fewA d0))) (r_mov rfl) ?_
  refine o_vg (v:=str d1) (want_cf (t:=27) rfl rfl) (fun hk=>(r_mov rfl)) rfl rfl ?_
  refine o_vg (v:=.int .i64 (d1.length:Int)) (want_cf (t:=27) rfl rfl) (fun hk=>(r_len_str un_string (gdT hk))) rfl rfl ?_
  refine o_vg (v:=.bool (decide (100<(d1.length:Int)))) (want_cf (t:=27) rfl rfl) (fun hk=>(r_int (gdT hk) rfl rfl)) rfl rfl ?_
  refine o_w (v:=.bool ((!(fewA d0))||(decide (100<(d1.length:Int))))) (r_pickOr rfl rfl (fun hf=>(gdT (notT hf)))) ?_
  refine eo_nil_sq ?_
  refine ec_cond rfl (fun hc18=>?_) (fun hc18=>?_)
  ·replace h:=h.1 hc18
   refine ec_seq ?_
   refine ec_region ?_
   refine o_w (v:=.bool (worksV)) (r_mov rfl) ?_
   refine o_w (v:=.bool (worksV)) (r_asg rfl) ?_
   refine eo_nil_sq ?_
   refine ec_ret ?_
   refine sq_ret ?_
   subst h
   exact (end1 rfl ⟨_,rfl,E15,rfl⟩)
  ·replace h:=h.2 hc18
   refine ec_skip ?_
   refine sq_n ?_
   refine ec_seq ?_
   refine ec_region ?_
   refine o_w (v:=.agg (cArena d0 A1 c2 A4 c5).toArray) (r_lda agg_api_Arena rfl (vs:=(cArena d0 A1 c2 A4 c5)) rfl ((S7.fr (G12.trans (Fr.ext F14)) sI).now.part (n:=3) rfl)) ?_
   refine o_w (v:=str d1) (r_mov rfl) ?_
   obtain ⟨ha20,h⟩:=h
   obtain ⟨x19,hx19,h⟩:=h
   refine o_call cf_delta_Text rfl (delta_Text_c d0 (kArena_mk (d:=d0) (H3.fr ((G8.trans (Fr.ext F9)).trans (Fr.ext F14)) sI) (H6.fr ((G8.trans (Fr.ext F9)).trans (Fr.ext F14)) sI)) d1 (hL.fr E15) (eq_ev hx19 (text_ev d0 d1 ha20))) rfl rfl ?_
   rintro _ w19 ⟨F19,rfl⟩
   have E21:=E15.trans F19
   refine o_w (v:=.tuple #[str x19.1,.bool x19.2]) (r_mov rfl) ?_
   refine o_w (v:=str x19.1) (r_ext rfl rfl) ?_
   refine o_w (v:=.bool x19.2) (r_ext rfl rfl) ?_
   refine o_w (v:=str x19.1) (r_asg rfl) ?_
   refine o_w (v:=.bool x19.2) (r_asg rfl) ?_
   refine eo_nil_sq ?_
   refine ec_seq ?_
   refine ec_region ?_
   refine o_w (v:=.agg (cArena d0 A1 c2 A4 c5).toArray) (r_lda agg_api_Arena rfl (vs:=(cArena d0 A1 c2 A4 c5)) rfl ((S7.fr ((G12.trans (Fr.ext F14)).trans (Fr.ext F19)) sI).now.part (n:=3) rfl)) ?_
   refine o_w (v:=str d1) (r_mov rfl) ?_
   obtain ⟨ha25,h⟩:=h
   obtain ⟨x24,hx24,h⟩:=h
   refine o_call cf_ref09_Text rfl (ref09_Text_c d0 (kArena_mk (d:=d0) (H3.fr (((G8.trans (Fr.ext F9)).trans (Fr.ext F14)).trans (Fr.ext F19)) sI) (H6.fr (((G8.trans (Fr.ext F9)).trans (Fr.ext F14)).trans (Fr.ext F19)) sI)) d1 (hL.fr E21) (eq_ev hx24 (rtext_ev d0 d1 ha25))) rfl rfl ?_
   rintro _ w24 ⟨F24,rfl⟩
   have E26:=E21.trans F24
   have G27:=(((G8.trans (Fr.ext F9)).trans (Fr.ext F14)).trans (Fr.ext F19)).trans (Fr.ext F24)
   refine o_w (v:=.tuple #[str x24.1,.bool x24.2]) (r_mov rfl) ?_
   refine o_w (v:=str x24.1) (r_ext rfl rfl) ?_
   refine o_w (v:=.bool x24.2) (r_ext rfl rfl) ?_
   refine o_w (v:=str x24.1) (r_asg rfl) ?_
   refine o_w (v:=.bool x24.2) (r_asg rfl) ?_
   refine eo_nil_sq ?_
   refine ec_seq ?_
   refine ec_region ?_
   refine o_w (v:=.agg (cArena d0 A1 c2 A4 c5).toArray) (r_lda agg_api_Arena rfl (vs:=(cArena d0 A1 c2 A4 c5)) rfl ((S7.fr (((G12.trans (Fr.ext F14)).trans (Fr.ext F19)).trans (Fr.ext F24)) sI).now.part (n:=3) rfl)) ?_
   refine o_w (v:=str d1) (r_mov rfl) ?_
   obtain ⟨ha30,h⟩:=h
   obtain ⟨x29,hx29,h⟩:=h
   refine o_call cf_delta_Sum rfl (delta_Sum_c d0 (kArena_mk (d:=d0) (H3.fr G27 sI) (H6.fr G27 sI)) d1 (hL.fr E26) (eq_ev hx29 (sum_ev d0 d1 ha30))) rfl rfl ?_
   rintro _ w29 ⟨F29,rfl⟩
   have E31:=E26.trans F29
   have G33:=(((G12.trans (Fr.ext F14)).trans (Fr.ext F19)).trans (Fr.ext F24)).trans (Fr.ext F29)
   refine o_w (v:=.tuple #[.int .i64 x29.1,.bool x29.2]) (r_mov rfl) ?_
   refine o_w (v:=.int .i64 x29.1) (r_ext rfl rfl) ?_
   refine o_w (v:=.bool x29.2) (r_ext rfl rfl) ?_
   refine o_w (v:=.int .i64 x29.1) (r_asg rfl) ?_
   refine o_w (v:=.bool x29.2) (r_asg rfl) ?_
   refine eo_nil_sq ?_
   refine ec_seq ?_
   refine ec_region ?_
   refine o_w (v:=.agg (cArena d0 A1 c2 A4 c5).toArray) (r_lda agg_api_Arena rfl (vs:=(cArena d0 A1 c2 A4 c5)) rfl ((S7.fr G33 sI).now.part (n:=3) rfl)) ?_
   refine o_w (v:=str d1) (r_mov rfl) ?_
   obtain ⟨ha35,h⟩:=h
   obtain ⟨x34,hx34,h⟩:=h
   refine o_call cf_ref09_Sum rfl (ref09_Sum_c d0 (kArena_mk (d:=d0) (H3.fr (G27.trans (Fr.ext F29)) sI) (H6.fr (G27.trans (Fr.ext F29)) sI)) d1 (hL.fr E31) (eq_ev hx34 (rsum_ev d0 d1 ha35))) rfl rfl ?_
   rintro _ w34 ⟨F34,rfl⟩
   have E36:=E31.trans F34
   refine o_w (v:=.tuple #[.int .i64 x34.1,.bool x34.2]) (r_mov rfl) ?_
   refine o_w (v:=.int .i64 x34.1) (r_ext rfl rfl) ?_
   refine o_w (v:=.bool x34.2) (r_ext rfl rfl) ?_
   refine o_w (v:=.int .i64 x34.1) (r_asg rfl) ?_
   refine o_w (v:=.bool x34.2) (r_asg rfl) ?_
   refine eo_nil_sq ?_
   refine ec_seq ?_
   refine ec_region ?_
   refine o_w (v:=.agg (cArena d0 A1 c2 A4 c5).toArray) (r_lda agg_api_Arena rfl (vs:=(cArena d0 A1 c2 A4 c5)) rfl ((S7.fr (G33.trans (Fr.ext F34)) sI).now.part (n:=3) rfl)) ?_
   refine o_w (v:=str d1) (r_mov rfl) ?_
   obtain ⟨ha40,h⟩:=h
   obtain ⟨x39,hx39,h⟩:=h
   refine o_call cf_delta_Flags rfl (delta_Flags_c d0 (kArena_mk (d:=d0) (H3.fr ((G27.trans (Fr.ext F29)).trans (Fr.ext F34)) sI) (H6.fr ((G27.trans (Fr.ext F29)).trans (Fr.ext F34)) sI)) d1 (hL.fr E36) (eq_ev hx39 (flags_ev d0 d1 ha40))) rfl rfl ?_
   rintro _ w39 ⟨F39,rfl⟩
   have E41:=E36.trans F39
   refine o_w (v:=.tuple #[.int .u64 x39.1,.bool x39.2]) (r_mov rfl) ?_
   refine o_w (v:=.int .u64 x39.1) (r_ext rfl rfl) ?_
   refine o_w (v:=.bool x39.2) (r_ext rfl rfl) ?_
   refine o_w (v:=.int .u64 x39.1) (r_asg rfl) ?_
   refine o_w (v:=.bool x39.2) (r_asg rfl) ?_
   refine eo_nil_sq ?_
   refine ec_seq ?_
   refine ec_region ?_
   refine o_w (v:=.agg (cArena d0 A1 c2 A4 c5).toArray) (r_lda agg_api_Arena rfl (vs:=(cArena d0 A1 c2 A4 c5)) rfl ((S7.fr ((G33.trans (Fr.ext F34)).trans (Fr.ext F39)) sI).now.part (n:=3) rfl)) ?_
   refine o_w (v:=str d1) (r_mov rfl) ?_
   obtain ⟨ha45,h⟩:=h
   obtain ⟨x44,hx44,h⟩:=h
   refine o_call cf_ref09_Flags rfl (ref09_Flags_c d0 (kArena_mk (d:=d0) (H3.fr (((G27.trans (Fr.ext F29)).trans (Fr.ext F34)).trans (Fr.ext F39)) sI) (H6.fr (((G27.trans (Fr.ext F29)).trans (Fr.ext F34)).trans (Fr.ext F39)) sI)) d1 (hL.fr E41) (eq_ev hx44 (rflags_ev d0 d1 ha45))) rfl rfl ?_
   rintro _ w44 ⟨F44,rfl⟩
   have E46:=E41.trans F44
   have G47:=(((G27.trans (Fr.ext F29)).trans (Fr.ext F34)).trans (Fr.ext F39)).trans (Fr.ext F44)
   refine o_w (v:=.tuple #[.int .u64 x44.1,.bool x44.2]) (r_mov rfl) ?_
   refine o_w (v:=.int .u64 x44.1) (r_ext rfl rfl) ?_
   refine o_w (v:=.bool x44.2) (r_ext rfl rfl) ?_
   refine o_w (v:=.int .u64 x44.1) (r_asg rfl) ?_
   refine o_w (v:=.bool x44.2) (r_asg rfl) ?_
   refine eo_nil_sq ?_
   refine ec_seq ?_
   obtain ⟨ha51,h⟩:=h
   obtain ⟨x50,hx50,h⟩:=h
   obtain ⟨ha56,h⟩:=h
   obtain ⟨x55,hx55,h⟩:=h
   obtain ⟨ha61,h⟩:=h
   refine ec_any0 (by kernel_rfl) [[],[0],[],[0,1,2],[0,1,2,3],[0,1,2,3,4]] [19,69,70,71,72,73] [fun v _=>v=(.agg (cArena d0 A1 c2 A4 c5).toArray:Value),fun v w'=>∃ A52 c53,v=(.slice A52 x50.length c53:Value)∧Stb L w' (fun w=>SlC kEnt w A52 c53 x50),fun v _=>v=(.agg (cArena d0 A1 c2 A4 c5).toArray:Value),fun v w'=>∃ A57 c58,v=(.slice A57 x55.length c58:Value)∧Stb L w' (fun w=>SlC kEnt w A57 c58 x55),fun v _=>v=(.bool (allE x50 x55):Value),fun v _=>v=(.bool (allE x50 x55):Value)] (by kernel_rfl) ⟨fun _ _ _ _ _ h=>h,fun _ v w' w'' F h=>by obtain ⟨A52,c53,hv,H54⟩:=h; exact ⟨A52,c53,hv,(H54.ex F)⟩,fun _ _ _ _ _ h=>h,fun _ v w' w'' F h=>by obtain ⟨A57,c58,hv,H59⟩:=h; exact ⟨A57,c58,hv,(H59.ex F)⟩,fun _ _ _ _ _ h=>h,fun _ _ _ _ _ h=>h,trivial⟩ ?_ ?_
   ·refine ⟨?_,?_,?_,?_,?_,?_,trivial⟩
    ·intro ρ w49o F49o hS hρ
     have G64:=(((G33.trans (Fr.ext F34)).trans (Fr.ext F39)).trans (Fr.ext F44)).trans (Fr.ext F49o)
     have q2:ρ 2=.pointer (some ⟨b7,0,none⟩):=hρ 2 (by kernel_rfl)
     exact o_q (r_lda agg_api_Arena q2 (vs:=(cArena d0 A1 c2 A4 c5)) rfl ((S7.fr G64 sI).now.part (n:=3) rfl)) ⟨Fr.refl _ _,rfl⟩
    ·intro ρ w49o F49o hS hρ
     have E65:=E46.trans F49o
     have q69:ρ 69=.agg (cArena d0 A1 c2 A4 c5).toArray:=hS 0 (by decide) 69 rfl
     refine o_call cf_delta_Scan (by simp only [List.map,ev,q69] <;> rfl) (delta_Scan_c d0 (kArena_mk (d:=d0) (H3.fr (G47.trans (Fr.ext F49o)) sI) (H6.fr (G47.trans (Fr.ext F49o)) sI)) (hL.fr E65) (eq_ev hx50 (scan_ev d0 ha51))) rfl rfl ?_
     rintro _ w' ⟨F,A52,c53,rfl,H54⟩
     exact eo_nil ⟨rfl,rfl,_,rfl,F,⟨A52,c53,rfl,H54⟩⟩
    ·intro ρ w49o F49o hS hρ
     have G70:=(((G33.trans (Fr.ext F34)).trans (Fr.ext F39)).trans (Fr.ext F44)).trans (Fr.ext F49o)
     have q2:ρ 2=.pointer (some ⟨b7,0,none⟩):=hρ 2 (by kernel_rfl)
     exact o_q (r_lda agg_api_Arena q2 (vs:=(cArena d0 A1 c2 A4 c5)) rfl ((S7.fr G70 sI).now.part (n:=3) rfl)) ⟨Fr.refl _ _,rfl⟩
    ·intro ρ w49o F49o hS hρ
     have E71:=E46.trans F49o
     have q71:ρ 71=.agg (cArena d0 A1 c2 A4 c5).toArray:=hS 2 (by decide) 71 rfl
     refine o_call cf_ref09_Scan (by simp only [List.map,ev,q71] <;> rfl) (ref09_Scan_c d0 (kArena_mk (d:=d0) (H3.fr (G47.trans (Fr.ext F49o)) sI) (H6.fr (G47.trans (Fr.ext F49o)) sI)) (hL.fr E71) (eq_ev hx55 (rscan_ev d0 ha56))) rfl rfl ?_
     rintro _ w' ⟨F,A57,c58,rfl,H59⟩
     exact eo_nil ⟨rfl,rfl,_,rfl,F,⟨A57,c58,rfl,H59⟩⟩
    ·intro ρ w49o F49o hS hρ
     have E74:=E46.trans F49o
     obtain ⟨A52,c53,q70,H54⟩:=hS 1 (by decide) 70 rfl
     obtain ⟨A57,c58,q72,H59⟩:=hS 3 (by decide) 72 rfl
     refine o_call cf_ref07_All (by simp only [List.map,ev,q70,q72] <;> rfl) (ref07_All_c x50 H54 x55 H59 (hL.fr E74) (refAll_ev x50 x55 ha61)) rfl rfl ?_
     rintro _ w' ⟨F,rfl⟩
     exact eo_nil ⟨rfl,rfl,_,rfl,F,rfl⟩
    ·intro ρ w49o F49o hS hρ
     have q73:ρ 73=.bool (allE x50 x55):=hS 4 (by decide) 73 rfl
     exact o_q (r_asg q73) ⟨Fr.refl _ _,rfl⟩
   ·intro ρ w49 F49 hS hρ
    have q19:ρ 19=.bool (allE x50 x55):=hS 5 19 rfl
    obtain ⟨ρ',rfl⟩:∃ ρ',ρ=envs (ovr [19,69,70,71,72,73] ρ' _) [(19,.bool (allE x50 x55))]:=⟨ρ,ovr_self hρ ⟨q19,trivial⟩⟩
    have E77:=E46.trans F49
    refine sq_n ?_
    refine ec_seq ?_
    refine ec_region ?_
    iterate 2 refine o_w (v:=.bool (worksV)) (r_mov rfl) ?_
    refine o_v (v:=str x19.1) (r_mov rfl) (want_t (t:=75) rfl rfl (of_not hc13)) rfl rfl ?_
    refine o_v (v:=str x24.1) (r_mov rfl) (want_t (t:=75) rfl rfl (of_not hc13)) rfl rfl ?_
    refine o_v (v:=.bool (x19.1==x24.1)) (r_str rfl rfl rfl) (want_t (t:=75) rfl rfl (of_not hc13)) rfl rfl ?_
    refine o_w (v:=.bool (x19.1==x24.1)) (r_pickT rfl (of_not hc13) rfl) ?_
    refine o_w (v:=.bool (x19.1==x24.1)) (r_mov rfl) ?_
    refine o_vg (v:=.bool x19.2) (want_ct (t:=80) rfl rfl) (fun hk=>(r_mov rfl)) rfl rfl ?_
    refine o_vg (v:=.bool x24.2) (want_ct (t:=80) rfl rfl) (fun hk=>(r_mov rfl)) rfl rfl ?_
    refine o_vg (v:=.bool (x19.2==x24.2)) (want_ct (t:=80) rfl rfl) (fun hk=>(r_boolEq un_bool (gdT hk) (gdT hk))) rfl rfl ?_
    refine o_w (v:=.bool ((x19.1==x24.1)&&(x19.2==x24.2))) (r_pickAnd rfl (fun ht=>(gdT ht)) rfl) ?_
    refine o_w (v:=.bool ((x19.1==x24.1)&&(x19.2==x24.2))) (r_mov rfl) ?_
    refine o_vg (v:=.int .i64 x29.1) (want_ct (t:=85) rfl rfl) (fun hk=>(r_mov rfl)) rfl rfl ?_
    refine o_vg (v:=.int .i64 x34.1) (want_ct (t:=85) rfl rfl) (fun hk=>(r_mov rfl)) rfl rfl ?_
    refine o_vg (v:=.bool (x29.1==x34.1)) (want_ct (t:=85) rfl rfl) (fun hk=>(r_int (gdT hk) (gdT hk) rfl)) rfl rfl ?_
    refine o_w (v:=.bool (((x19.1==x24.1)&&(x19.2==x24.2))&&(x29.1==x34.1))) (r_pickAnd rfl (fun ht=>(gdT ht)) rfl) ?_
    refine o_w (v:=.bool (((x19.1==x24.1)&&(x19.2==x24.2))&&(x29.1==x34.1))) (r_mov rfl) ?_
    refine o_vg (v:=.bool x29.2) (want_ct (t:=90) rfl rfl) (fun hk=>(r_mov rfl)) rfl rfl ?_
    refine o_vg (v:=.bool x34.2) (want_ct (t:=90) rfl rfl) (fun hk=>(r_mov rfl)) rfl rfl ?_
    refine o_vg (v:=.bool (x29.2==x34.2)) (want_ct (t:=90) rfl rfl) (fun hk=>(r_boolEq un_bool (gdT hk) (gdT hk))) rfl rfl ?_
    refine o_w (v:=.bool ((((x19.1==x24.1)&&(x19.2==x24.2))&&(x29.1==x34.1))&&(x29.2==x34.2))) (r_pickAnd rfl (fun ht=>(gdT ht)) rfl) ?_
    refine o_w (v:=.bool ((((x19.1==x24.1)&&(x19.2==x24.2))&&(x29.1==x34.1))&&(x29.2==x34.2))) (r_mov rfl) ?_
    refine o_vg (v:=.int .u64 x39.1) (want_ct (t:=95) rfl rfl) (fun hk=>(r_mov rfl)) rfl rfl ?_
    refine o_vg (v:=.int .u64 x44.1) (want_ct (t:=95) rfl rfl) (fun hk=>(r_mov rfl)) rfl rfl ?_
    refine o_vg (v:=.bool (x39.1==x44.1)) (want_ct (t:=95) rfl rfl) (fun hk=>(r_int (gdT hk) (gdT hk) rfl)) rfl rfl ?_
    refine o_w (v:=.bool (((((x19.1==x24.1)&&(x19.2==x24.2))&&(x29.1==x34.1))&&(x29.2==x34.2))&&(x39.1==x44.1))) (r_pickAnd rfl (fun ht=>(gdT ht)) rfl) ?_
    refine o_w (v:=.bool (((((x19.1==x24.1)&&(x19.2==x24.2))&&(x29.1==x34.1))&&(x29.2==x34.2))&&(x39.1==x44.1))) (r_mov rfl) ?_
    refine o_vg (v:=.bool x39.2) (want_ct (t:=100) rfl rfl) (fun hk=>(r_mov rfl)) rfl rfl ?_
    refine o_vg (v:=.bool x44.2) (want_ct (t:=100) rfl rfl) (fun hk=>(r_mov rfl)) rfl rfl ?_
    refine o_vg (v:=.bool (x39.2==x44.2)) (want_ct (t:=100) rfl rfl) (fun hk=>(r_boolEq un_bool (gdT hk) (gdT hk))) rfl rfl ?_
    refine o_w (v:=.bool ((((((x19.1==x24.1)&&(x19.2==x24.2))&&(x29.1==x34.1))&&(x29.2==x34.2))&&(x39.1==x44.1))&&(x39.2==x44.2))) (r_pickAnd rfl (fun ht=>(gdT ht)) rfl) ?_
    refine o_w (v:=.bool ((((((x19.1==x24.1)&&(x19.2==x24.2))&&(x29.1==x34.1))&&(x29.2==x34.2))&&(x39.1==x44.1))&&(x39.2==x44.2))) (r_mov rfl) ?_
    refine o_vg (v:=.bool (allE x50 x55)) (want_ct (t:=105) rfl rfl) (fun hk=>(r_mov rfl)) rfl rfl ?_
    refine o_w (v:=.bool (((((((x19.1==x24.1)&&(x19.2==x24.2))&&(x29.1==x34.1))&&(x29.2==x34.2))&&(x39.1==x44.1))&&(x39.2==x44.2))&&(allE x50 x55))) (r_pickAnd rfl (fun ht=>(gdT ht)) rfl) ?_
    refine o_w (v:=.bool (((((((x19.1==x24.1)&&(x19.2==x24.2))&&(x29.1==x34.1))&&(x29.2==x34.2))&&(x39.1==x44.1))&&(x39.2==x44.2))&&(allE x50 x55))) (r_asg rfl) ?_
    refine eo_nil_sq ?_
    refine ec_ret ?_
    subst h
    exact (end1 rfl ⟨_,rfl,E77,rfl⟩)
end Go.Proofs.YthhjcijhanacnaaGreat
