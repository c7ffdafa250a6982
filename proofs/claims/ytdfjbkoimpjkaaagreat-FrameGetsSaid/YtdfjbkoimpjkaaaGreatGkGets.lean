/- The law FrameGets: what it comes to. -/
import Derived.Test.YtdfjbkoimpjkaaaGreatVn
namespace Go.Proofs.YtdfjbkoimpjkaaaGreat
open Go Go.RowKit
set_option linter.unusedVariables false
set_option linter.unusedSimpArgs false
def law14_FrameGets_raw (d0:Str) (y:Bool):Prop :=
 ((!(worksV))=true→(y=false))∧((!(worksV))=false→(((decide (450<(d0.length:Int)))=true→(y=(worksV)))∧((decide (450<(d0.length:Int)))=false→((d0.length≤1000000000)∧(∃ x4,x4=(getFr d0)∧((d0.length≤1000000000)∧(∃ x20,x20=(getFr d0)∧(∃ x45,x45=(ofF x4.1)∧(x45.sums.length=4∧(sml x45.entries∧(y=((sameF x45 x20.1)&&(x4.2==x20.2)))))))))))))
set_option maxRecDepth 20000 in
set_option maxHeartbeats 4000000 in
theorem law14_FrameGets_c {L:List Nat} {w:World} (d0:Str) (hL:Lt L w) {y:Bool} (h:law14_FrameGets_raw d0 y) :
  Calls Tryz.prog 4 [str d0].toArray w (Ret fun v w'=>Ext w w'∧v=.bool y):=by
 unfold law14_FrameGets_raw at h
 refine calls_ec Tryz.func4 rfl rfl rfl ?_
 refine ec_sr ?_
 refine o_w (v:=.bool false) (r_asg rfl) ?_
 refine eo_r ?_
 refine o_call cf_law14_works rfl (law14_works_c hL (works14_ev)) rfl rfl ?_
 rintro _ w1 ⟨F1,rfl⟩
 refine o_w (v:=.bool (worksV)) (r_asg rfl) ?_
 refine eo_nil_sq ?_
 refine ec_seq ?_
 refine ec_sr ?_
 refine o_w (v:=.bool (worksV)) (r_mov rfl) ?_
 refine o_w (v:=.bool (!(worksV))) (r_not rfl) ?_
 refine eo_nil_sq ?_
 refine ec_cond rfl (fun hc2=>?_) (fun hc2=>?_)
 ·replace h:=h.1 hc2
  refine ec_sr ?_
  refine o_w (v:=.bool false) (r_asg rfl) ?_
  refine eo_nil_sq ?_
  refine ec_ret ?_
  refine sq_ret ?_
  subst h
  exact (end1 rfl ⟨_,rfl,F1,rfl⟩)
 ·replace h:=h.2 hc2
  refine ec_skip ?_
  refine sq_n ?_
  refine ec_seq ?_
  refine ec_sr ?_
  refine o_w (v:=str d0) (r_mov rfl) ?_
  refine o_w (v:=.int .i64 (d0.length:Int)) (r_len_str un_string rfl) ?_
  refine o_w (v:=.bool (decide (450<(d0.length:Int)))) (r_int rfl rfl rfl) ?_
  refine eo_nil_sq ?_
  refine ec_cond rfl (fun hc3=>?_) (fun hc3=>?_)
  ·replace h:=h.1 hc3
   refine ec_sr ?_
   refine o_w (v:=.bool (worksV)) (r_mov rfl) ?_
   refine o_w (v:=.bool (worksV)) (r_asg rfl) ?_
   refine eo_nil_sq ?_
   refine ec_ret ?_
   refine sq_ret ?_
   subst h
   exact (end1 rfl ⟨_,rfl,F1,rfl⟩)
  ·replace h:=h.2 hc3
   refine ec_skip ?_
   refine sq_n ?_
   refine ec_sr ?_
   refine o_w (v:=str d0) (r_mov rfl) ?_
   obtain ⟨ha5,h⟩:=h
   obtain ⟨x4,hx4,h⟩:=h
   refine o_call cf_frame_Get rfl (frame_Get_c d0 (hL.fr F1) (eq_ev hx4 (frGet_ev d0 ha5))) rfl rfl ?_
   rintro _ w4 ⟨F4,cs6,rfl,H7⟩
   have E8:=F1.trans F4
   obtain ⟨A10,c11,rfl,H12,hl9⟩:=kFrm_open H7
   refine o_w (v:=.tuple #[.agg (cFrm x4.1 A10 c11).toArray,.int .i64 x4.2]) (r_mov rfl) ?_
   refine o_w (v:=.agg (cFrm x4.1 A10 c11).toArray) (r_ext rfl rfl) ?_
   refine o_w (v:=.int .i64 x4.2) (r_ext rfl rfl) ?_
   refine o_alloc zero_frame_Frame rfl rfl rfl ?_
   intro b13 w13 e13 F13 B13
   have n13:w.heap.size≤b13:=by rw [e13]; exact E8.size
   have m14:w4.heap.size≤b13:=Nat.le_of_eq e13.symm
   have E15:=E8.trans F13
   have G16:Fr L w4 w13:=Fr.ext F13
   refine o_store rfl B13 (vs:=(cFrm x4.1 A10 c11)) rfl sz_frame_Frame rfl rfl rfl ?_
   intro w17 F17 B17
   have E18:=Ext.st E15 F17 (by simp; omega)
   have G19:Fr L w4 w17:=G16.stp F17 (upc (.inr m14) (fun m hm=>by cases hm))
   have B17':Blk w17 b13 _ (cFrm x4.1 A10 c11):=B17
   refine o_w (v:=.int .i64 x4.2) (r_asg rfl) ?_
   refine eo_r ?_
   refine o_w (v:=str d0) (r_mov rfl) ?_
   obtain ⟨ha21,h⟩:=h
   obtain ⟨x20,hx20,h⟩:=h
   refine o_call cf_ref14_Get rfl (ref14_Get_c d0 ((hL.fr E18).cons B17'.lt) (eq_ev hx20 (refGetFr_ev d0 ha21))) rfl rfl ?_
   rintro _ w20 ⟨F20,cs22,rfl,H23⟩
   have E24:=E18.trans F20
   obtain ⟨A28,c29,rfl,H30,hl27⟩:=kFrm_open H23
   refine o_w (v:=.tuple #[.agg (cFrm x20.1 A28 c29).toArray,.int .i64 x20.2]) (r_mov rfl) ?_
   refine o_w (v:=.agg (cFrm x20.1 A28 c29).toArray) (r_ext rfl rfl) ?_
   refine o_w (v:=.int .i64 x20.2) (r_ext rfl rfl) ?_
   refine o_alloc zero_ouroborosref14_Frame rfl rfl rfl ?_
   intro b31 w31 e31 F31 B31
   have n31:w.heap.size≤b31:=by rw [e31]; exact E24.size
   have q32:b13<b31:=by rw [e31]; exact (B17'.ex F20).lt
   have m33:w4.heap.size≤b31:=by rw [e31]; exact (G19.trans (Fr.ext F20)).size
   have m34:w20.heap.size≤b31:=Nat.le_of_eq e31.symm
   have E35:=E24.trans F31
   have G37:Fr (b13::L) w20 w31:=Fr.ext F31
   refine o_store rfl B31 (vs:=(cFrm x20.1 A28 c29)) rfl sz_ouroborosref14_Frame rfl rfl rfl ?_
   intro w39 F39 B39
   have E40:=Ext.st E35 F39 (by simp; omega)
   have G41:Fr L w4 w39:=((G19.trans (Fr.ext F20)).trans (Fr.ext F31)).stp F39 (upc (.inr m33) (fun m hm=>by cases hm))
   have G42:Fr (b13::L) w20 w39:=G37.stp F39 (upc (.inr m34) (fun m hm=>by cases hm))
   have B43:=((B17'.ex F20).ex F31).fr F39 (by simp; omega)
   have B39':Blk w39 b31 _ (cFrm x20.1 A28 c29):=B39
   refine o_w (v:=.int .i64 x20.2) (r_asg rfl) ?_
   refine eo_nil_sq ?_
   refine ec_seq ?_
   obtain ⟨x45,hx45,h⟩:=h
   obtain ⟨ha49,h⟩:=h
   obtain ⟨ha51,h⟩:=h
   refine ec_any0 (by kernel_rfl) [[],[0],[],[0,1,2],[0,1,2,3]] [8,26,27,28,29] [fun v _=>v=(.agg (cFrm x4.1 A10 c11).toArray:Value),fun v w'=>∃ A46 c47,v=(.agg (cFrm x45 A46 c47).toArray:Value)∧Stb (b31::(b13::L)) w' (fun w=>SlC kEnt w A46 c47 x45.entries),fun v _=>v=(.agg (cFrm x20.1 A28 c29).toArray:Value),fun v _=>v=(.bool (sameF x45 x20.1):Value),fun v _=>v=(.bool (sameF x45 x20.1):Value)] (by kernel_rfl) ⟨fun _ _ _ _ _ h=>h,fun _ v w' w'' F h=>by obtain ⟨A46,c47,hv,H48⟩:=h; exact ⟨A46,c47,hv,(H48.ex F)⟩,fun _ _ _ _ _ h=>h,fun _ _ _ _ _ h=>h,fun _ _ _ _ _ h=>h,trivial⟩ ?_ ?_
   ·refine ⟨?_,?_,?_,?_,?_,trivial⟩
    ·intro ρ w44o F44o hS hρ
     have q4:ρ 4=.pointer (some ⟨b13,0,none⟩):=hρ 4 (by kernel_rfl)
     exact o_q (r_lda agg_frame_Frame q4 (vs:=(cFrm x4.1 A10 c11)) rfl ((B43.ex F44o).part (n:=8) rfl)) ⟨Fr.refl _ _,rfl⟩
    ·intro ρ w44o F44o hS hρ
     have E57:=E40.trans F44o
     have q26:ρ 26=.agg (cFrm x4.1 A10 c11).toArray:=hS 0 (by decide) 26 rfl
     refine o_call cf_law14_Of (by simp only [List.map,ev,q26] <;> rfl) (law14_Of_c x4.1 (kFrm_mk (d:=x4.1) (H12.up (G41.trans (Fr.ext F44o)) sI (upc (.inr m33) (upc (.inr m14) (fun _ h=>.inl h)))) hl9) (((hL.fr E57).cons (B43.ex F44o).lt).cons (B39'.ex F44o).lt) (eq_ev hx45 (ofF_ev x4.1))) rfl rfl ?_
     rintro _ w' ⟨F,cs62,rfl,H63⟩
     obtain ⟨A46,c47,rfl,H48,_⟩:=kFrm_open H63
     exact eo_nil ⟨rfl,rfl,_,rfl,F,⟨A46,c47,rfl,H48⟩⟩
    ·intro ρ w44o F44o hS hρ
     have q6:ρ 6=.pointer (some ⟨b31,0,none⟩):=hρ 6 (by kernel_rfl)
     exact o_q (r_lda agg_ouroborosref14_Frame q6 (vs:=(cFrm x20.1 A28 c29)) rfl ((B39'.ex F44o).part (n:=8) rfl)) ⟨Fr.refl _ _,rfl⟩
    ·intro ρ w44o F44o hS hρ
     have E69:=E40.trans F44o
     obtain ⟨A46,c47,q27,H48⟩:=hS 1 (by decide) 27 rfl
     have q28:ρ 28=.agg (cFrm x20.1 A28 c29).toArray:=hS 2 (by decide) 28 rfl
     refine o_call cf_ref14_Same (by simp only [List.map,ev,q27,q28] <;> rfl) (ref14_Same_c x45 (kFrm_mk (d:=x45) H48 ha49) x20.1 (kFrm_mk (d:=x20.1) (H30.up (G42.trans (Fr.ext F44o)) sI (upc (.inr m34) (upc (.inl mH) (fun m hm=>Or.inl (mT hm))))) hl27) (((hL.fr E69).cons (B43.ex F44o).lt).cons (B39'.ex F44o).lt) (refSameF_ev x45 x20.1 ha51)) rfl rfl ?_
     rintro _ w' ⟨F,rfl⟩
     exact eo_nil ⟨rfl,rfl,_,rfl,F,rfl⟩
    ·intro ρ w44o F44o hS hρ
     have q29:ρ 29=.bool (sameF x45 x20.1):=hS 3 (by decide) 29 rfl
     exact o_q (r_asg q29) ⟨Fr.refl _ _,rfl⟩
   ·intro ρ w44 F44 hS hρ
    have q8:ρ 8=.bool (sameF x45 x20.1):=hS 4 8 rfl
    obtain ⟨ρ',rfl⟩:∃ ρ',ρ=envs (ovr [8,26,27,28,29] ρ' _) [(8,.bool (sameF x45 x20.1))]:=⟨ρ,ovr_self hρ ⟨q8,trivial⟩⟩
    have E74:=E40.trans F44
    refine sq_n ?_
    refine ec_sr ?_
    iterate 2 refine o_w (v:=.bool (worksV)) (r_mov rfl) ?_
    refine o_v (v:=.bool (sameF x45 x20.1)) (r_mov rfl) (want_t (t:=31) rfl rfl (of_not hc2)) rfl rfl ?_
    refine o_w (v:=.bool (sameF x45 x20.1)) (r_pickT rfl (of_not hc2) rfl) ?_
    refine o_w (v:=.bool (sameF x45 x20.1)) (r_mov rfl) ?_
    refine o_vg (v:=.int .i64 x4.2) (want_ct (t:=34) rfl rfl) (fun hk=>(r_mov rfl)) rfl rfl ?_
    refine o_vg (v:=.int .i64 x20.2) (want_ct (t:=34) rfl rfl) (fun hk=>(r_mov rfl)) rfl rfl ?_
    refine o_vg (v:=.bool (x4.2==x20.2)) (want_ct (t:=34) rfl rfl) (fun hk=>(r_int (gdT (u:=undef) hk) (gdT (u:=undef) hk) rfl)) rfl rfl ?_
    refine o_w (v:=.bool ((sameF x45 x20.1)&&(x4.2==x20.2))) (r_pickAnd rfl (fun ht=>(gdT (u:=undef) ht)) rfl) ?_
    refine o_w (v:=.bool ((sameF x45 x20.1)&&(x4.2==x20.2))) (r_asg rfl) ?_
    refine eo_nil_sq ?_
    refine ec_ret ?_
    subst h
    exact (end1 rfl ⟨_,rfl,E74,rfl⟩)
end Go.Proofs.YtdfjbkoimpjkaaaGreat
