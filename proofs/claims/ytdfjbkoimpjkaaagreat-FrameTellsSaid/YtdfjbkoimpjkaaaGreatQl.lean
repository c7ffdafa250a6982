import Derived.Test.YtdfjbkoimpjkaaaGreatQk
namespace Go.Proofs.YtdfjbkoimpjkaaaGreat
open Go Go.RowKit
set_option linter.unusedVariables false
set_option linter.unusedSimpArgs false
def ref10_Put_b2 (d0:(List Int)) (s2:Str × Int) (z2:(Str × Int) ⊕ ((Str × Int) ⊕ (Str × Int))):Prop :=
 ((decide (s2.2<4))=true→((0≤s2.2∧s2.2<((4:Nat):Int))∧(((nth d0 s2.2)≤9223372036854775807)∧(∃ x6,x6=(putO (nth d0 s2.2) (4:Int))∧(((x6.2 != (0:Int))=true→(z2=.inr (.inr (([]:Str),(1:Int)))))∧((x6.2 != (0:Int))=false→(s2.1.length + x6.1.length≤9223372036854775807∧(z2=.inl ((s2.1++x6.1),(IntKind.i64.wrap (s2.2 + (1:Int))))))))))))∧((decide (s2.2<4))=false→(z2=.inr (.inl (s2.1,s2.2))))
def ref10_Put_raw (d0:(List Int)) (y:Str × Int):Prop :=
 ∃ x2,LoopR (ref10_Put_b2 d0) (([]:Str),(0:Int)) x2∧(∀ sx2,x2=.inl sx2→(y=(sx2.1,(0:Int))))∧(∀ y2,x2=.inr y2→(y=y2))
set_option maxRecDepth 20000 in
set_option maxHeartbeats 4000000 in
theorem ref10_Put_c {L:List Nat} {w:World} (d0:(List Int)) (hlP0:d0.length=4) (hL:Lt L w) {y:Str × Int} (h:ref10_Put_raw d0 y) :
  Calls Tryz.prog 22 [(.agg #[.int .i64 (nth d0 0),.int .i64 (nth d0 1),.int .i64 (nth d0 2),.int .i64 (nth d0 3)]:Value)].toArray w (Ret fun v w'=>Ext w w'∧v=.tuple #[str y.1,.int .i64 y.2]):=by
 unfold ref10_Put_raw at h
 refine calls_ec Tryz.func22 rfl rfl rfl ?_
 refine ec_sr ?_
 refine o_box (cs:=[.int .i64 (nth d0 0),.int .i64 (nth d0 1),.int .i64 (nth d0 2),.int .i64 (nth d0 3)]) rfl rfl rfl ?_
 intro b1 w1 e1 F1 B1
 have S1:=B1.stb (nin hL e1)
 refine o_w (v:=str []) (r_asg rfl) ?_
 refine o_w (v:=.int .i64 0) (r_asg rfl) ?_
 refine eo_r ?_
 refine o_w (v:=str []) (r_asg rfl) ?_
 refine eo_nil_sq ?_
 refine ec_seq ?_
 refine ec_sr ?_
 refine o_w (v:=.int .i64 0) (r_asg rfl) ?_
 refine eo_nil_sq ?_
 refine ec_block ?_
 obtain ⟨x2,hl2,h⟩:=h
 refine ec_loopER 0 (I:=(fun (s2:Str × Int) ρ ds w'=>∃ (ρ':Env),ρ=envs ρ' [(4,str s2.1),(5,.int .i64 s2.2),(1,.pointer (some ⟨b1,0,none⟩))]∧ds=[]∧Fr L w1 w'∧Ext w w')) (J:=(fun (y':Str × Int) ρ ds wz=>bodyE Tryz.prog #[.tmp 2,.tmp 3] (Ret fun v w'=>Ext w w'∧v=.tuple #[str y'.1,.int .i64 y'.2]) .ret ρ ds wz)) ?_ hl2 ?_ ?_ ?_
 ·intro s2 z2 ρ2 ds2 w2r hI2 hb2
  obtain ⟨ρ2r,rfl,rfl,F2r,E2r⟩:=hI2
  have h:=hb2
  unfold ref10_Put_b2 at h
  have G3:Fr L w1 w2r:=(Fr.refl _ _).stp F2r (fun _ h=>.inl h)
  refine ec_seq ?_
  refine ec_sr ?_
  refine o_w (v:=.int .i64 s2.2) (r_mov rfl) ?_
  refine o_w (v:=.bool (decide (s2.2<4))) (r_int rfl rfl rfl) ?_
  refine eo_nil_sq ?_
  refine ec_cond rfl (fun hc4=>?_) (fun hc4=>?_)
  ·replace h:=h.1 hc4
   refine ec_skip ?_
   refine sq_n ?_
   refine ec_seq ?_
   refine ec_block ?_
   refine ec_sr ?_
   refine o_w (v:=.int .i64 s2.2) (r_mov rfl) ?_
   obtain ⟨ha5,h⟩:=h
   refine o_w (v:=.pointer (some ⟨b1,s2.2.toNat,none⟩)) (r_iaA un_4_int sz_int rfl rfl ha5) ?_
   refine o_w (v:=.int .i64 (nth d0 s2.2)) (r_ld one_int rfl (Blk.cellV (f:=(Value.int .i64)) (m:=4) (e:=d0) (S1.fr G3 sI).now ha5)) ?_
   obtain ⟨ha7,h⟩:=h
   obtain ⟨x6,hx6,h⟩:=h
   refine o_call cf_ref01_Put rfl (ref01_Put_c (nth d0 s2.2) (4:Int) (hL.fr E2r) (eq_ev hx6 (refPutO_ev (nth d0 s2.2) (4:Int) ha7))) rfl rfl ?_
   rintro _ w6 ⟨F6,rfl⟩
   have E8:=E2r.trans F6
   refine o_w (v:=.tuple #[str x6.1,.int .i64 x6.2]) (r_mov rfl) ?_
   refine o_w (v:=str x6.1) (r_ext rfl rfl) ?_
   refine o_w (v:=.int .i64 x6.2) (r_ext rfl rfl) ?_
   refine o_w (v:=str x6.1) (r_asg rfl) ?_
   refine o_w (v:=.int .i64 x6.2) (r_asg rfl) ?_
   refine eo_nil_sq ?_
   refine ec_seq ?_
   refine ec_sr ?_
   refine o_w (v:=.int .i64 x6.2) (r_mov rfl) ?_
   refine o_w (v:=.bool (x6.2 != (0:Int))) (r_int rfl rfl rfl) ?_
   refine eo_nil_sq ?_
   refine ec_cond rfl (fun hc11=>?_) (fun hc11=>?_)
   ·replace h:=h.1 hc11
    refine ec_sr ?_
    refine o_w (v:=str []) (r_asg rfl) ?_
    refine o_w (v:=.int .i64 1) (r_asg rfl) ?_
    refine eo_nil_sq ?_
    refine ec_ret ?_
    refine sq_ret ?_
    refine blk_ret ?_
    refine sq_ret ?_
    subst h
    exact lqR_r (end2 rfl rfl ⟨_,rfl,E8,rfl⟩)
   ·replace h:=h.2 hc11
    refine ec_skip ?_
    refine sq_n ?_
    refine ec_region ?_
    refine o_w (v:=str s2.1) (r_mov rfl) ?_
    refine o_w (v:=str x6.1) (r_mov rfl) ?_
    obtain ⟨ha12,h⟩:=h
    refine o_w (v:=str (s2.1++x6.1)) (r_cat rfl rfl ha12) ?_
    refine o_w (v:=str (s2.1++x6.1)) (r_asg rfl) ?_
    refine eo_nil ?_
    refine blk_n ?_
    refine sq_n ?_
    refine ec_region ?_
    refine o_w (v:=.int .i64 s2.2) (r_mov rfl) ?_
    refine o_w (v:=.int .i64 (IntKind.i64.wrap (s2.2 + (1:Int)))) (r_int rfl rfl rfl) ?_
    refine o_w (v:=.int .i64 (IntKind.i64.wrap (s2.2 + (1:Int)))) (r_asg rfl) ?_
    refine eo_nil ?_
    subst h
    exact lqR_n ⟨_,envs_self ⟨rfl,rfl,rfl,trivial⟩,rfl,(F2r.trans (Fr.ext F6)),E8⟩
  ·replace h:=h.2 hc4
   refine ec_exit ?_
   refine sq_exit ?_
   subst h
   exact lqR_x ⟨_,envs_self ⟨rfl,rfl,rfl,trivial⟩,rfl,F2r,E2r⟩
 ·exact ⟨_,envs_self ⟨rfl,rfl,rfl,trivial⟩,rfl,(Fr.refl _ _),F1⟩
 ·rintro sx2 rfl ρ2e ds2e w2e ⟨ρ2e,rfl,rfl,F2e,E2e⟩
  replace h:=h.1 _ rfl
  refine blk_hit ?_
  refine sq_n ?_
  refine ec_sr ?_
  refine o_w (v:=str sx2.1) (r_mov rfl) ?_
  refine o_w (v:=str sx2.1) (r_asg rfl) ?_
  refine o_w (v:=.int .i64 0) (r_asg rfl) ?_
  refine eo_nil_sq ?_
  refine ec_ret ?_
  subst h
  exact (end2 rfl rfl ⟨_,rfl,E2e,rfl⟩)
 ·rintro y2 rfl ρ2q ds2q w2q hJ
  have hy:=h.2 _ rfl
  subst hy
  refine blk_ret ?_
  refine sq_ret ?_
  exact hJ

theorem refD_run (l:List Int) (hm:maxS l):∀ (k i:Nat) (s:Str),i + k=4→s.length≤7 * i→∃ x,LoopR (ref10_Put_b2 l) (s,(i:Int)) x∧(∀ sx,x=.inl sx→putDF k i l s=(sx.1,(0:Int)))∧∀ y,x=.inr y→putDF k i l s=y
 | 0,i,s,hi,hs=>⟨.inl (s,(i:Int)),.done ⟨fun c=>by simp at c; omega,fun _=>rfl⟩,fun _ e=>by cases e; rfl,fun _ e=>by cases e⟩
 | k + 1,i,s,hi,hs=>by
  cases hc:((putO (nth l (i:Int)) 4).2 != 0) with
  | true=>
   refine ⟨.inr ([],1),.done ⟨fun _=>⟨⟨by omega,by omega⟩,maxS_nth hm i,_,rfl,fun _=>rfl,fun c=>by rw [hc] at c; cases c⟩,fun c=>by simp at c; omega⟩,fun _ e=>(by cases e),fun y e=>?_⟩
   cases e; unfold putDF; rw [hc]; rfl
  | false =>
   have hl:=putO_len (nth l (i:Int)) 4
   obtain ⟨x,hx,h1,h2⟩:=refD_run l hm k (i + 1) (s++(putO (nth l (i:Int)) 4).1) (by omega) (by simp; omega)
   refine ⟨x,.step ⟨fun _=>⟨⟨by omega,by omega⟩,maxS_nth hm i,_,rfl,fun c=>(by rw [hc] at c; cases c),fun _=>⟨by show s.length + (putO (nth l (i:Int)) 4).1.length≤_; omega,?_⟩⟩,fun c=>by simp at c; omega⟩ hx,fun sx e=>?_,fun y e=>?_⟩
   ·have e:IntKind.i64.wrap ((i:Int) + (1:Int))=((i + 1:Nat):Int):=wrapS (n:=i + 1) (by omega) (by omega)
    rw [e]
   ·rw [← h1 sx e]; rw [putDF,hc]; rfl
   ·rw [← h2 y e]; rw [putDF,hc]; rfl
theorem refPutD_ev (l:List Int) (hm:maxS l):ref10_Put_raw l (putD l):=by
 obtain ⟨x,hx,h1,h2⟩:=refD_run l hm 4 0 [] rfl (by simp)
 exact ⟨x,hx,h1,h2⟩
end Go.Proofs.YtdfjbkoimpjkaaaGreat