/- References: frames. -/
import Derived.Test.YtdfjbkoimpjkaaaGreatQl
namespace Go.Proofs.YtdfjbkoimpjkaaaGreat
open Go Go.RowKit
set_option linter.unusedVariables false
set_option linter.unusedSimpArgs false
def ref14_entries_b1 (d0:(List Ent)) (s1:Int) (z1:(Int) ⊕ ((Int) ⊕ (Bool))):Prop :=
 ((decide (s1<(d0.length:Int)))=true→((0≤s1∧s1<(d0.length:Int))∧((sm (nth d0 s1).val)∧(((!(okE (nth d0 s1)))=true→(z1=.inr (.inr false)))∧((!(okE (nth d0 s1)))=false→(z1=.inl (IntKind.i64.wrap (s1 + (1:Int)))))))))∧((decide (s1<(d0.length:Int)))=false→(z1=.inr (.inl s1)))
def ref14_entries_raw (d0:(List Ent)) (y:Bool):Prop :=
 ∃ x1,LoopR (ref14_entries_b1 d0) (0:Int) x1∧(∀ sx1,x1=.inl sx1→(y=(decide ((d0.length:Int)≤8))))∧(∀ y1,x1=.inr y1→(y=y1))
set_option maxRecDepth 20000 in
set_option maxHeartbeats 4000000 in
theorem ref14_entries_c {L:List Nat} {w:World} {AP0:Option Addr} {cP0:Nat} (d0:(List Ent)) (HP0:Stb L w (fun w=>SlC kEnt w AP0 cP0 d0)) (hL:Lt L w) {y:Bool} (h:ref14_entries_raw d0 y) :
  Calls Tryz.prog 23 [.slice AP0 d0.length cP0].toArray w (Ret fun v w'=>Ext w w'∧v=.bool y):=by
 unfold ref14_entries_raw at h
 refine calls_ec Tryz.func23 rfl rfl rfl ?_
 refine ec_sr ?_
 refine o_w (v:=.bool false) (r_asg rfl) ?_
 refine eo_nil_sq ?_
 refine ec_seq ?_
 refine ec_sr ?_
 refine o_w (v:=.int .i64 0) (r_asg rfl) ?_
 refine eo_nil_sq ?_
 refine ec_block ?_
 obtain ⟨x1,hl1,h⟩:=h
 refine ec_loopER 0 (I:=(fun (s1:Int) ρ ds w'=>∃ (ρ':Env),ρ=envs ρ' [(3,.int .i64 s1),(0,.slice AP0 d0.length cP0)]∧ds=[]∧Fr L w w'∧Ext w w')) (J:=(fun (y':Bool) ρ ds wz=>bodyE Tryz.prog #[.tmp 2] (Ret fun v w'=>Ext w w'∧v=.bool y') .ret ρ ds wz)) ?_ hl1 ?_ ?_ ?_
 ·intro s1 z1 ρ1 ds1 w1r hI1 hb1
  obtain ⟨ρ1r,rfl,rfl,F1r,E1r⟩:=hI1
  have h:=hb1
  unfold ref14_entries_b1 at h
  have G2:Fr L w w1r:=(Fr.refl _ _).stp F1r (fun _ h=>.inl h)
  refine ec_seq ?_
  refine ec_sr ?_
  refine o_w (v:=.int .i64 s1) (r_mov rfl) ?_
  refine o_w (v:=.slice AP0 d0.length cP0) (r_mov rfl) ?_
  refine o_w (v:=.int .i64 (d0.length:Int)) (r_len_slc un_s_api_Entry rfl) ?_
  refine o_w (v:=.bool (decide (s1<(d0.length:Int)))) (r_int rfl rfl rfl) ?_
  refine eo_nil_sq ?_
  refine ec_cond rfl (fun hc3=>?_) (fun hc3=>?_)
  ·replace h:=h.1 hc3
   refine ec_skip ?_
   refine sq_n ?_
   refine ec_seq ?_
   refine ec_block ?_
   refine ec_sr ?_
   refine o_w (v:=.slice AP0 d0.length cP0) (r_mov rfl) ?_
   refine o_w (v:=.int .i64 s1) (r_mov rfl) ?_
   obtain ⟨ha4,h⟩:=h
   obtain ⟨cs5,l7,H6⟩:=Stb.elem (by decide) (HP0.fr G2 sI) s1 ha4.1 ha4.2
   obtain ⟨A9,c10,A12,c13,rfl,H8,H11,H14⟩:=kEnt_open2 H6
   refine o_w (v:=.pointer (some (elemA AP0 kEnt.n s1.toNat))) (r_ia slc_s_api_Entry rfl rfl ((HP0.fr G2 sI).now.2 _ (lt_toNat ha4.1 ha4.2)).1 ha4.1 ha4.2) ?_
   refine o_w (v:=.agg (cEnt (nth d0 s1) A9 c10 A12 c13).toArray) (r_lda' agg_api_Entry rfl (elemA_spot _ _ _) (vs:=(cEnt (nth d0 s1) A9 c10 A12 c13)) rfl (H8.now.1)) ?_
   obtain ⟨ha16,h⟩:=h
   refine o_call cf_ref07_Check rfl (ref07_Check_c (nth d0 s1) (kEnt_mk (d:=(nth d0 s1)) H11 H14) (hL.fr E1r) (refCheckE_ev (nth d0 s1) ha16)) rfl rfl ?_
   rintro _ w15 ⟨F15,rfl⟩
   have E17:=E1r.trans F15
   refine o_w (v:=.bool (!(okE (nth d0 s1)))) (r_not rfl) ?_
   refine eo_nil_sq ?_
   refine ec_cond rfl (fun hc21=>?_) (fun hc21=>?_)
   ·replace h:=h.1 hc21
    refine ec_sr ?_
    refine o_w (v:=.bool false) (r_asg rfl) ?_
    refine eo_nil_sq ?_
    refine ec_ret ?_
    refine blk_ret ?_
    refine sq_ret ?_
    subst h
    exact lqR_r (end1 rfl ⟨_,rfl,E17,rfl⟩)
   ·replace h:=h.2 hc21
    refine ec_skip ?_
    refine blk_n ?_
    refine sq_n ?_
    refine ec_region ?_
    refine o_w (v:=.int .i64 s1) (r_mov rfl) ?_
    refine o_w (v:=.int .i64 (IntKind.i64.wrap (s1 + (1:Int)))) (r_int rfl rfl rfl) ?_
    refine o_w (v:=.int .i64 (IntKind.i64.wrap (s1 + (1:Int)))) (r_asg rfl) ?_
    refine eo_nil ?_
    subst h
    exact lqR_n ⟨_,envs_self ⟨rfl,rfl,trivial⟩,rfl,(F1r.trans (Fr.ext F15)),E17⟩
  ·replace h:=h.2 hc3
   refine ec_exit ?_
   refine sq_exit ?_
   subst h
   exact lqR_x ⟨_,envs_self ⟨rfl,rfl,trivial⟩,rfl,F1r,E1r⟩
 ·exact ⟨_,envs_self ⟨rfl,rfl,trivial⟩,rfl,(Fr.refl _ _),(Fr.refl _ _)⟩
 ·rintro sx1 rfl ρ1e ds1e w1e ⟨ρ1e,rfl,rfl,F1e,E1e⟩
  replace h:=h.1 _ rfl
  refine blk_hit ?_
  refine sq_n ?_
  refine ec_sr ?_
  refine o_w (v:=.slice AP0 d0.length cP0) (r_mov rfl) ?_
  refine o_w (v:=.int .i64 (d0.length:Int)) (r_len_slc un_s_api_Entry rfl) ?_
  refine o_w (v:=.bool (decide ((d0.length:Int)≤8))) (r_int rfl rfl rfl) ?_
  refine o_w (v:=.bool (decide ((d0.length:Int)≤8))) (r_asg rfl) ?_
  refine eo_nil_sq ?_
  refine ec_ret ?_
  subst h
  exact (end1 rfl ⟨_,rfl,E1e,rfl⟩)
 ·rintro y1 rfl ρ1q ds1q w1q hJ
  have hy:=h.2 _ rfl
  subst hy
  refine blk_ret ?_
  refine sq_ret ?_
  exact hJ
end Go.Proofs.YtdfjbkoimpjkaaaGreat
