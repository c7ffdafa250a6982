import Derived.Test.YtdfjbkoimpjkaaaGreatBh
namespace Go.Proofs.YtdfjbkoimpjkaaaGreat
open Go Go.RowKit
set_option linter.unusedVariables false
set_option linter.unusedSimpArgs false
def digest_Put_b2 (d0:(List Int)) (s2:Str × Int) (z2:(Str × Int) ⊕ ((Str × Int) ⊕ (Str × Int))):Prop :=
 ((decide (s2.2<4))=true→((0≤s2.2∧s2.2<((4:Nat):Int))∧(∃ x6,x6=(putO (nth d0 s2.2) (4:Int))∧(((x6.2 != (0:Int))=true→(z2=.inr (.inr (([]:Str),(1:Int)))))∧((x6.2 != (0:Int))=false→(s2.1.length + x6.1.length≤9223372036854775807∧(z2=.inl ((s2.1++x6.1),(IntKind.i64.wrap (s2.2 + (1:Int)))))))))))∧((decide (s2.2<4))=false→(z2=.inr (.inl (s2.1,s2.2))))
def digest_Put_raw (d0:(List Int)) (y:Str × Int):Prop :=
 ∃ x2,LoopR (digest_Put_b2 d0) (([]:Str),(0:Int)) x2∧(∀ sx2,x2=.inl sx2→(y=(sx2.1,(0:Int))))∧(∀ y2,x2=.inr y2→(y=y2))
set_option maxRecDepth 20000 in
set_option maxHeartbeats 4000000 in
theorem digest_Put_c {L:List Nat} {w:World} (d0:(List Int)) (hlP0:d0.length=4) (hL:Lt L w) {y:Str × Int} (h:digest_Put_raw d0 y) :
  Calls Tryz.prog 24 [(.agg #[.int .i64 (nth d0 0),.int .i64 (nth d0 1),.int .i64 (nth d0 2),.int .i64 (nth d0 3)]:Value)].toArray w (Ret fun v w'=>Ext w w'∧v=.tuple #[str y.1,.int .i64 y.2]):=by
 unfold digest_Put_raw at h
 refine calls_ec Tryz.func24 rfl rfl rfl ?_
 refine ec_sr ?_
 refine o_box (cs:=[.int .i64 (nth d0 0),.int .i64 (nth d0 1),.int .i64 (nth d0 2),.int .i64 (nth d0 3)]) rfl rfl rfl ?_
 intro b1 w1 e1 F1 B1
 have S1:=B1.stb (nin hL e1)
 refine o_w (v:=str []) (r_asg rfl) ?_
 refine o_w (v:=.int .i64 0) (r_asg rfl) ?_
 refine eo_r ?_
 refine o_w (v:=str []) (r_asg rfl) ?_
 refine eo_nil_sq ?_
 refine ec_seq ?_
 refine ec_sr ?_
 refine o_w (v:=.agg #[.int .i64 (nth d0 0),.int .i64 (nth d0 1),.int .i64 (nth d0 2),.int .i64 (nth d0 3)]) (r_lda agg_4_int rfl (vs:=[.int .i64 (nth d0 0),.int .i64 (nth d0 1),.int .i64 (nth d0 2),.int .i64 (nth d0 3)]) rfl (S1.now.part (n:=4) rfl)) ?_
 refine o_w (v:=.int .i64 0) (r_mov rfl) ?_
 refine eo_nil_sq ?_
 refine ec_block ?_
 obtain ⟨x2,hl2,h⟩:=h
 refine ec_loopER 0 (I:=(fun (s2:Str × Int) ρ ds w'=>∃ (ρ':Env),ρ=envs ρ' [(4,str s2.1),(10,.int .i64 s2.2),(9,.agg #[.int .i64 (nth d0 0),.int .i64 (nth d0 1),.int .i64 (nth d0 2),.int .i64 (nth d0 3)])]∧ds=[]∧Fr L w1 w'∧Ext w w')) (J:=(fun (y':Str × Int) ρ ds wz=>bodyE Tryz.prog #[.tmp 2,.tmp 3] (Ret fun v w'=>Ext w w'∧v=.tuple #[str y'.1,.int .i64 y'.2]) .ret ρ ds wz)) ?_ hl2 ?_ ?_ ?_
 ·intro s2 z2 ρ2 ds2 w2r hI2 hb2
  obtain ⟨ρ2r,rfl,rfl,F2r,E2r⟩:=hI2
  have h:=hb2
  unfold digest_Put_b2 at h
  refine ec_sr ?_
  refine o_w (v:=.bool (decide (s2.2<4))) (r_int rfl rfl rfl) ?_
  refine eo_nil_sq ?_
  refine ec_seq ?_
  refine ec_cond rfl (fun hc4=>?_) (fun hc4=>?_)
  ·replace h:=h.1 hc4
   refine ec_skip ?_
   refine sq_n ?_
   refine ec_seq ?_
   refine ec_block ?_
   refine ec_sr ?_
   obtain ⟨ha5,h⟩:=h
   refine o_w (v:=.int .i64 (nth d0 s2.2)) (r_ixA (f:=(Value.int .i64)) (e:=d0) (m:=4) un_4_int one_int sz_int rfl rfl ha5) ?_
   refine o_w (v:=.int .i64 (nth d0 s2.2)) (r_asg rfl) ?_
   refine eo_r ?_
   refine o_w (v:=.int .i64 (nth d0 s2.2)) (r_mov rfl) ?_
   obtain ⟨x6,hx6,h⟩:=h
   refine o_call cf_octet_Put rfl (octet_Put_c (nth d0 s2.2) (4:Int) (hL.fr E2r) (eq_ev hx6 (octPut_ev (nth d0 s2.2) (4:Int)))) rfl rfl ?_
   rintro _ w6 ⟨F6,rfl⟩
   have E7:=E2r.trans F6
   refine o_w (v:=.tuple #[str x6.1,.int .i64 x6.2]) (r_mov rfl) ?_
   refine o_w (v:=str x6.1) (r_ext rfl rfl) ?_
   refine o_w (v:=.int .i64 x6.2) (r_ext rfl rfl) ?_
   refine o_w (v:=str x6.1) (r_asg rfl) ?_
   refine o_w (v:=.int .i64 x6.2) (r_asg rfl) ?_
   refine eo_nil_sq ?_
   refine ec_seq ?_
   refine ec_sr ?_
   refine o_w (v:=.int .i64 x6.2) (r_mov rfl) ?_
   refine o_w (v:=.bool (x6.2 != (0:Int))) (r_int rfl rfl rfl) ?_
   refine eo_nil_sq ?_
   refine ec_cond rfl (fun hc10=>?_) (fun hc10=>?_)
   ·replace h:=h.1 hc10
    refine ec_sr ?_
    refine o_w (v:=str []) (r_asg rfl) ?_
    refine o_w (v:=.int .i64 1) (r_asg rfl) ?_
    refine eo_nil_sq ?_
    refine ec_ret ?_
    refine sq_ret ?_
    refine blk_ret ?_
    refine sq_ret ?_
    subst h
    exact lqR_r (end2 rfl rfl ⟨_,rfl,E7,rfl⟩)
   ·replace h:=h.2 hc10
    refine ec_skip ?_
    refine sq_n ?_
    refine ec_region ?_
    refine o_w (v:=str s2.1) (r_mov rfl) ?_
    refine o_w (v:=str x6.1) (r_mov rfl) ?_
    obtain ⟨ha11,h⟩:=h
    refine o_w (v:=str (s2.1++x6.1)) (r_cat rfl rfl ha11) ?_
    refine o_w (v:=str (s2.1++x6.1)) (r_asg rfl) ?_
    refine eo_nil ?_
    refine blk_n ?_
    refine sq_n ?_
    refine ec_region ?_
    refine o_w (v:=.int .i64 (IntKind.i64.wrap (s2.2 + (1:Int)))) (r_int rfl rfl rfl) ?_
    refine o_w (v:=.int .i64 (IntKind.i64.wrap (s2.2 + (1:Int)))) (r_mov rfl) ?_
    refine eo_nil ?_
    subst h
    exact lqR_n ⟨_,envs_self ⟨rfl,rfl,rfl,trivial⟩,rfl,(F2r.trans (Fr.ext F6)),E7⟩
  ·replace h:=h.2 hc4
   refine ec_exit ?_
   refine sq_exit ?_
   subst h
   exact lqR_x ⟨_,envs_self ⟨rfl,rfl,rfl,trivial⟩,rfl,F2r,E2r⟩
 ·exact ⟨_,envs_self ⟨rfl,rfl,rfl,trivial⟩,rfl,(Fr.refl _ _),F1⟩
 ·rintro sx2 rfl ρ2e ds2e w2e ⟨ρ2e,rfl,rfl,F2e,E2e⟩
  replace h:=h.1 _ rfl
  refine blk_hit ?_
  refine sq_n ?_
  refine ec_sr ?_
  refine o_w (v:=str sx2.1) (r_mov rfl) ?_
  refine o_w (v:=str sx2.1) (r_asg rfl) ?_
  refine o_w (v:=.int .i64 0) (r_asg rfl) ?_
  refine eo_nil_sq ?_
  refine ec_ret ?_
  subst h
  exact (end2 rfl rfl ⟨_,rfl,E2e,rfl⟩)
 ·rintro y2 rfl ρ2q ds2q w2q hJ
  have hy:=h.2 _ rfl
  subst hy
  refine blk_ret ?_
  refine sq_ret ?_
  exact hJ

def putDF:Nat→Nat→List Int→Str→Str × Int
 | 0,_,_,s=>(s,0)
 | k + 1,i,l,s=>bif (putO (nth l (i:Int)) 4).2 != 0 then ([],1) else putDF k (i + 1) l (s++(putO (nth l (i:Int)) 4).1)
def putD (l:List Int):Str × Int:=putDF 4 0 l []
theorem putD_run (l:List Int):∀ (k i:Nat) (s:Str),i + k=4→s.length≤7 * i→∃ x,LoopR (digest_Put_b2 l) (s,(i:Int)) x∧(∀ sx,x=.inl sx→putDF k i l s=(sx.1,(0:Int)))∧∀ y,x=.inr y→putDF k i l s=y
 | 0,i,s,hi,hs=>⟨.inl (s,(i:Int)),.done ⟨fun c=>by simp at c; omega,fun _=>rfl⟩,fun _ e=>by cases e; rfl,fun _ e=>by cases e⟩
 | k + 1,i,s,hi,hs=>by
  cases hc:((putO (nth l (i:Int)) 4).2 != 0) with
  | true=>
   refine ⟨.inr ([],1),.done ⟨fun _=>⟨⟨by omega,by omega⟩,_,rfl,fun _=>rfl,fun c=>by rw [hc] at c; cases c⟩,fun c=>by simp at c; omega⟩,fun _ e=>(by cases e),fun y e=>?_⟩
   cases e; unfold putDF; rw [hc]; rfl
  | false =>
   have hl:=putO_len (nth l (i:Int)) 4
   obtain ⟨x,hx,h1,h2⟩:=putD_run l k (i + 1) (s++(putO (nth l (i:Int)) 4).1) (by omega) (by simp; omega)
   refine ⟨x,.step ⟨fun _=>⟨⟨by omega,by omega⟩,_,rfl,fun c=>(by rw [hc] at c; cases c),fun _=>⟨by show s.length + (putO (nth l (i:Int)) 4).1.length≤_; omega,?_⟩⟩,fun c=>by simp at c; omega⟩ hx,fun sx e=>?_,fun y e=>?_⟩
   ·have e:IntKind.i64.wrap ((i:Int) + (1:Int))=((i + 1:Nat):Int):=wrapS (n:=i + 1) (by omega) (by omega)
    rw [e]
   ·rw [← h1 sx e]; rw [putDF,hc]; rfl
   ·rw [← h2 y e]; rw [putDF,hc]; rfl
theorem digPut_ev (l:List Int):digest_Put_raw l (putD l):=by
 obtain ⟨x,hx,h1,h2⟩:=putD_run l 4 0 [] rfl (by simp)
 exact ⟨x,hx,h1,h2⟩
def frame_forms_raw (y:(List (Int × Fm))):Prop :=
 y=([((1:Int),(⟨(0:Int),(2147483647:Int),(2147483647:Int),false,true⟩:Fm)),((2:Int),(⟨(0:Int),(2147483647:Int),(2147483647:Int),false,false⟩:Fm)),((3:Int),(⟨(0:Int),(0:Int),(0:Int),true,false⟩:Fm)),((4:Int),(⟨(1:Int),(15:Int),(0:Int),false,true⟩:Fm)),((5:Int),(⟨(0:Int),(0:Int),(0:Int),false,true⟩:Fm)),((6:Int),(⟨(0:Int),(2147483647:Int),(0:Int),false,true⟩:Fm)),((7:Int),(⟨(0:Int),(2147483647:Int),(0:Int),false,false⟩:Fm))]:List (Int × Fm))
set_option maxRecDepth 20000 in
set_option maxHeartbeats 4000000 in
theorem frame_forms_c {L:List Nat} {w:World}  (hL:Lt L w) {y:(List (Int × Fm))} (h:frame_forms_raw y) :
  Calls Tryz.prog 32 [].toArray w (Ret fun v w'=>Ext w w'∧∃ (b90:Nat),v=.map (some b90)∧Stb L w' (fun w=>Lp w b90 (mObj .i64 (fun d:Fm=>.agg (cFm d).toArray) y))):=by
 have hL0:=hL
 unfold frame_forms_raw at h
 refine calls_ec Tryz.func32 rfl rfl rfl ?_
 refine ec_sr ?_
 refine o_w (v:=.map none) (r_asg rfl) ?_
 refine eo_r ?_
 refine o_mkmap (k:=.i64) (enc:=(fun d:Fm=>.agg (cFm d).toArray)) rfl rfl ?_
 intro b1 w1 e1 F1 B1
 have n1:w.heap.size≤b1:=Nat.le_of_eq e1.symm
 refine o_w (v:=.agg #[.int .i64 0,.int .i64 2147483647,.int .i64 2147483647,.bool false,.bool true]) (r_build bld_frame_form (vs:=[(0,.int .i64 0),(1,.int .i64 2147483647),(2,.int .i64 2147483647),(3,.bool false),(4,.bool true)]) (cells:=[.int .i64 0,.int .i64 2147483647,.int .i64 2147483647,.bool false,.bool true]) rfl rfl) ?_
 refine o_insert (enc:=(fun d:Fm=>.agg (cFm d).toArray)) (l:=([]:List (Int × Fm))) (x:=(⟨(0:Int),(2147483647:Int),(2147483647:Int),false,true⟩:Fm)) mp_map_int_frame_form B1 rfl rfl rfl rfl rfl ?_
 intro w2 F2 B2
 have E3:=Ext.st F1 F2 (by simp; omega)
 have B2':Lp w2 b1 (mObj .i64 (fun d:Fm=>.agg (cFm d).toArray) ([((1:Int),(⟨(0:Int),(2147483647:Int),(2147483647:Int),false,true⟩:Fm))]:List (Int × Fm))):=B2
 refine o_w (v:=.agg #[.int .i64 0,.int .i64 2147483647,.int .i64 2147483647,.bool false,.bool false]) (r_build bld_frame_form (vs:=[(0,.int .i64 0),(1,.int .i64 2147483647),(2,.int .i64 2147483647),(3,.bool false),(4,.bool false)]) (cells:=[.int .i64 0,.int .i64 2147483647,.int .i64 2147483647,.bool false,.bool false]) rfl rfl) ?_
 refine o_insert (enc:=(fun d:Fm=>.agg (cFm d).toArray)) (l:=([((1:Int),(⟨(0:Int),(2147483647:Int),(2147483647:Int),false,true⟩:Fm))]:List (Int × Fm))) (x:=(⟨(0:Int),(2147483647:Int),(2147483647:Int),false,false⟩:Fm)) mp_map_int_frame_form B2' rfl rfl rfl rfl rfl ?_
 intro w4 F4 B4
 have E5:=Ext.st E3 F4 (by simp; omega)
 have B4':Lp w4 b1 (mObj .i64 (fun d:Fm=>.agg (cFm d).toArray) ([((1:Int),(⟨(0:Int),(2147483647:Int),(2147483647:Int),false,true⟩:Fm)),((2:Int),(⟨(0:Int),(2147483647:Int),(2147483647:Int),false,false⟩:Fm))]:List (Int × Fm))):=B4
 refine o_w (v:=.agg #[.int .i64 0,.int .i64 0,.int .i64 0,.bool true,.bool false]) (r_build bld_frame_form (vs:=[(0,.int .i64 0),(1,.int .i64 0),(2,.int .i64 0),(3,.bool true),(4,.bool false)]) (cells:=[.int .i64 0,.int .i64 0,.int .i64 0,.bool true,.bool false]) rfl rfl) ?_
 refine o_insert (enc:=(fun d:Fm=>.agg (cFm d).toArray)) (l:=([((1:Int),(⟨(0:Int),(2147483647:Int),(2147483647:Int),false,true⟩:Fm)),((2:Int),(⟨(0:Int),(2147483647:Int),(2147483647:Int),false,false⟩:Fm))]:List (Int × Fm))) (x:=(⟨(0:Int),(0:Int),(0:Int),true,false⟩:Fm)) mp_map_int_frame_form B4' rfl rfl rfl rfl rfl ?_
 intro w6 F6 B6
 have E7:=Ext.st E5 F6 (by simp; omega)
 have B6':Lp w6 b1 (mObj .i64 (fun d:Fm=>.agg (cFm d).toArray) ([((1:Int),(⟨(0:Int),(2147483647:Int),(2147483647:Int),false,true⟩:Fm)),((2:Int),(⟨(0:Int),(2147483647:Int),(2147483647:Int),false,false⟩:Fm)),((3:Int),(⟨(0:Int),(0:Int),(0:Int),true,false⟩:Fm))]:List (Int × Fm))):=B6
 refine o_w (v:=.agg #[.int .i64 1,.int .i64 15,.int .i64 0,.bool false,.bool true]) (r_build bld_frame_form (vs:=[(0,.int .i64 1),(1,.int .i64 15),(2,.int .i64 0),(3,.bool false),(4,.bool true)]) (cells:=[.int .i64 1,.int .i64 15,.int .i64 0,.bool false,.bool true]) rfl rfl) ?_
 refine o_insert (enc:=(fun d:Fm=>.agg (cFm d).toArray)) (l:=([((1:Int),(⟨(0:Int),(2147483647:Int),(2147483647:Int),false,true⟩:Fm)),((2:Int),(⟨(0:Int),(2147483647:Int),(2147483647:Int),false,false⟩:Fm)),((3:Int),(⟨(0:Int),(0:Int),(0:Int),true,false⟩:Fm))]:List (Int × Fm))) (x:=(⟨(1:Int),(15:Int),(0:Int),false,true⟩:Fm)) mp_map_int_frame_form B6' rfl rfl rfl rfl rfl ?_
 intro w8 F8 B8
 have E9:=Ext.st E7 F8 (by simp; omega)
 have B8':Lp w8 b1 (mObj .i64 (fun d:Fm=>.agg (cFm d).toArray) ([((1:Int),(⟨(0:Int),(2147483647:Int),(2147483647:Int),false,true⟩:Fm)),((2:Int),(⟨(0:Int),(2147483647:Int),(2147483647:Int),false,false⟩:Fm)),((3:Int),(⟨(0:Int),(0:Int),(0:Int),true,false⟩:Fm)),((4:Int),(⟨(1:Int),(15:Int),(0:Int),false,true⟩:Fm))]:List (Int × Fm))):=B8
 refine o_w (v:=.agg #[.int .i64 0,.int .i64 0,.int .i64 0,.bool false,.bool true]) (r_build bld_frame_form (vs:=[(0,.int .i64 0),(1,.int .i64 0),(2,.int .i64 0),(3,.bool false),(4,.bool true)]) (cells:=[.int .i64 0,.int .i64 0,.int .i64 0,.bool false,.bool true]) rfl rfl) ?_
 refine o_insert (enc:=(fun d:Fm=>.agg (cFm d).toArray)) (l:=([((1:Int),(⟨(0:Int),(2147483647:Int),(2147483647:Int),false,true⟩:Fm)),((2:Int),(⟨(0:Int),(2147483647:Int),(2147483647:Int),false,false⟩:Fm)),((3:Int),(⟨(0:Int),(0:Int),(0:Int),true,false⟩:Fm)),((4:Int),(⟨(1:Int),(15:Int),(0:Int),false,true⟩:Fm))]:List (Int × Fm))) (x:=(⟨(0:Int),(0:Int),(0:Int),false,true⟩:Fm)) mp_map_int_frame_form B8' rfl rfl rfl rfl rfl ?_
 intro w10 F10 B10
 have E11:=Ext.st E9 F10 (by simp; omega)
 have B10':Lp w10 b1 (mObj .i64 (fun d:Fm=>.agg (cFm d).toArray) ([((1:Int),(⟨(0:Int),(2147483647:Int),(2147483647:Int),false,true⟩:Fm)),((2:Int),(⟨(0:Int),(2147483647:Int),(2147483647:Int),false,false⟩:Fm)),((3:Int),(⟨(0:Int),(0:Int),(0:Int),true,false⟩:Fm)),((4:Int),(⟨(1:Int),(15:Int),(0:Int),false,true⟩:Fm)),((5:Int),(⟨(0:Int),(0:Int),(0:Int),false,true⟩:Fm))]:List (Int × Fm))):=B10
 refine o_w (v:=.agg #[.int .i64 0,.int .i64 2147483647,.int .i64 0,.bool false,.bool true]) (r_build bld_frame_form (vs:=[(0,.int .i64 0),(1,.int .i64 2147483647),(2,.int .i64 0),(3,.bool false),(4,.bool true)]) (cells:=[.int .i64 0,.int .i64 2147483647,.int .i64 0,.bool false,.bool true]) rfl rfl) ?_
 refine o_insert (enc:=(fun d:Fm=>.agg (cFm d).toArray)) (l:=([((1:Int),(⟨(0:Int),(2147483647:Int),(2147483647:Int),false,true⟩:Fm)),((2:Int),(⟨(0:Int),(2147483647:Int),(2147483647:Int),false,false⟩:Fm)),((3:Int),(⟨(0:Int),(0:Int),(0:Int),true,false⟩:Fm)),((4:Int),(⟨(1:Int),(15:Int),(0:Int),false,true⟩:Fm)),((5:Int),(⟨(0:Int),(0:Int),(0:Int),false,true⟩:Fm))]:List (Int × Fm))) (x:=(⟨(0:Int),(2147483647:Int),(0:Int),false,true⟩:Fm)) mp_map_int_frame_form B10' rfl rfl rfl rfl rfl ?_
 intro w12 F12 B12
 have E13:=Ext.st E11 F12 (by simp; omega)
 have B12':Lp w12 b1 (mObj .i64 (fun d:Fm=>.agg (cFm d).toArray) ([((1:Int),(⟨(0:Int),(2147483647:Int),(2147483647:Int),false,true⟩:Fm)),((2:Int),(⟨(0:Int),(2147483647:Int),(2147483647:Int),false,false⟩:Fm)),((3:Int),(⟨(0:Int),(0:Int),(0:Int),true,false⟩:Fm)),((4:Int),(⟨(1:Int),(15:Int),(0:Int),false,true⟩:Fm)),((5:Int),(⟨(0:Int),(0:Int),(0:Int),false,true⟩:Fm)),((6:Int),(⟨(0:Int),(2147483647:Int),(0:Int),false,true⟩:Fm))]:List (Int × Fm))):=B12
 refine o_w (v:=.agg #[.int .i64 0,.int .i64 2147483647,.int .i64 0,.bool false,.bool false]) (r_build bld_frame_form (vs:=[(0,.int .i64 0),(1,.int .i64 2147483647),(2,.int .i64 0),(3,.bool false),(4,.bool false)]) (cells:=[.int .i64 0,.int .i64 2147483647,.int .i64 0,.bool false,.bool false]) rfl rfl) ?_
 refine o_insert (enc:=(fun d:Fm=>.agg (cFm d).toArray)) (l:=([((1:Int),(⟨(0:Int),(2147483647:Int),(2147483647:Int),false,true⟩:Fm)),((2:Int),(⟨(0:Int),(2147483647:Int),(2147483647:Int),false,false⟩:Fm)),((3:Int),(⟨(0:Int),(0:Int),(0:Int),true,false⟩:Fm)),((4:Int),(⟨(1:Int),(15:Int),(0:Int),false,true⟩:Fm)),((5:Int),(⟨(0:Int),(0:Int),(0:Int),false,true⟩:Fm)),((6:Int),(⟨(0:Int),(2147483647:Int),(0:Int),false,true⟩:Fm))]:List (Int × Fm))) (x:=(⟨(0:Int),(2147483647:Int),(0:Int),false,false⟩:Fm)) mp_map_int_frame_form B12' rfl rfl rfl rfl rfl ?_
 intro w14 F14 B14
 have E15:=Ext.st E13 F14 (by simp; omega)
 have B14':Lp w14 b1 (mObj .i64 (fun d:Fm=>.agg (cFm d).toArray) ([((1:Int),(⟨(0:Int),(2147483647:Int),(2147483647:Int),false,true⟩:Fm)),((2:Int),(⟨(0:Int),(2147483647:Int),(2147483647:Int),false,false⟩:Fm)),((3:Int),(⟨(0:Int),(0:Int),(0:Int),true,false⟩:Fm)),((4:Int),(⟨(1:Int),(15:Int),(0:Int),false,true⟩:Fm)),((5:Int),(⟨(0:Int),(0:Int),(0:Int),false,true⟩:Fm)),((6:Int),(⟨(0:Int),(2147483647:Int),(0:Int),false,true⟩:Fm)),((7:Int),(⟨(0:Int),(2147483647:Int),(0:Int),false,false⟩:Fm))]:List (Int × Fm))):=B14
 refine o_w (v:=.map (some b1)) (r_mov rfl) ?_
 refine o_w (v:=.map (some b1)) (r_asg rfl) ?_
 refine eo_nil_sq ?_
 refine ec_ret ?_
 subst h
 exact (end1 rfl ⟨_,rfl,E15,_,rfl,(B14'.stb (fun hm=>by have h1:=hL0 _ hm; omega))⟩)
def frame_Check_1_raw (d0:Ent) (y:Bool):Prop :=
 (sm d0.val)∧(y=((checkE d0) != (0:Int)))
set_option maxRecDepth 20000 in
set_option maxHeartbeats 4000000 in
theorem frame_Check_1_c {L:List Nat} {w:World} {csP0:List Value} (d0:Ent) (HP0:Stb L w (fun w=>kEnt.r w csP0 d0)) (hL:Lt L w) {y:Bool} (h:frame_Check_1_raw d0 y) :
  Calls Tryz.prog 33 [.agg csP0.toArray].toArray w (Ret fun v w'=>Ext w w'∧v=.bool y):=by
 obtain ⟨A1,c2,A4,c5,rfl,H3,H6⟩:=kEnt_open HP0
 unfold frame_Check_1_raw at h
 refine calls_ec Tryz.func33 rfl rfl rfl ?_
 refine ec_sr ?_
 refine o_box (cs:=(cEnt d0 A1 c2 A4 c5)) rfl rfl rfl ?_
 intro b7 w7 e7 F7 B7
 have S7:=B7.stb (nin hL e7)
 have G8:Fr L w w7:=Fr.ext F7
 refine o_w (v:=.bool false) (r_asg rfl) ?_
 refine eo_r ?_
 refine o_w (v:=.agg (cEnt d0 A1 c2 A4 c5).toArray) (r_lda agg_api_Entry rfl (vs:=(cEnt d0 A1 c2 A4 c5)) rfl (S7.now.part (n:=9) rfl)) ?_
 obtain ⟨ha10,h⟩:=h
 refine o_call cf_entry_Check rfl (entry_Check_c d0 (kEnt_mk (d:=d0) (H3.fr G8 sI) (H6.fr G8 sI)) (hL.fr F7) (entCheck_ev d0 ha10)) rfl rfl ?_
 rintro _ w9 ⟨F9,rfl⟩
 have E11:=F7.trans F9
 refine o_w (v:=.bool ((checkE d0) != (0:Int))) (r_int rfl rfl rfl) ?_
 refine o_w (v:=.bool ((checkE d0) != (0:Int))) (r_asg rfl) ?_
 refine eo_nil_sq ?_
 refine ec_ret ?_
 subst h
 exact (end1 rfl ⟨_,rfl,E11,rfl⟩)
def idxf_frame_b1 (d0:(List Ent)) (s1:Int) (z1:(Int) ⊕ ((Int) ⊕ (Int))):Prop :=
 ((decide (s1<(d0.length:Int)))=true→((0≤s1∧s1<(d0.length:Int))∧(∃ x15,frame_Check_1_raw (nth d0 s1) x15∧((x15=true→(z1=.inr (.inr s1)))∧(x15=false→(z1=.inl (IntKind.i64.wrap (s1 + (1:Int)))))))))∧((decide (s1<(d0.length:Int)))=false→(z1=.inr (.inl s1)))
def idxf_frame_raw (d0:(List Ent)) (y:Int):Prop :=
 ∃ x1,LoopR (idxf_frame_b1 d0) (0:Int) x1∧(∀ sx1,x1=.inl sx1→(y=(-1:Int)))∧(∀ y1,x1=.inr y1→(y=y1))
set_option maxRecDepth 20000 in
set_option maxHeartbeats 4000000 in
theorem idxf_frame_c {L:List Nat} {w:World} {AP0:Option Addr} {cP0:Nat} (d0:(List Ent)) (HP0:Stb L w (fun w=>SlC kEnt w AP0 cP0 d0)) (hL:Lt L w) {y:Int} (h:idxf_frame_raw d0 y) :
  Calls Tryz.prog 70 [.slice AP0 d0.length cP0,.func (.func 33) #[] #[]].toArray w (Ret fun v w'=>Ext w w'∧v=.int .i64 y):=by
 unfold idxf_frame_raw at h
 refine calls_ec Tryz.func70 rfl rfl rfl ?_
 refine ec_sr ?_
 refine o_w (v:=.int .i64 0) (r_asg rfl) ?_
 refine eo_nil_sq ?_
 refine ec_seq ?_
 refine ec_sr ?_
 refine o_w (v:=.slice AP0 d0.length cP0) (r_mov rfl) ?_
 refine o_w (v:=.int .i64 (d0.length:Int)) (r_len_slc un_s_api_Entry rfl) ?_
 refine o_w (v:=.int .i64 0) (r_mov rfl) ?_
 refine eo_nil_sq ?_
 refine ec_block ?_
 obtain ⟨x1,hl1,h⟩:=h
 refine ec_loopER 0 (I:=(fun (s1:Int) ρ ds w'=>∃ (ρ':Env),ρ=envs ρ' [(8,.int .i64 s1),(0,.slice AP0 d0.length cP0),(1,.func (.func 33) #[] #[]),(7,.int .i64 (d0.length:Int))]∧ds=[]∧Fr L w w'∧Ext w w')) (J:=(fun (y':Int) ρ ds wz=>bodyE Tryz.prog #[.tmp 4] (Ret fun v w'=>Ext w w'∧v=.int .i64 y') .ret ρ ds wz)) ?_ hl1 ?_ ?_ ?_
 ·intro s1 z1 ρ1 ds1 w1r hI1 hb1
  obtain ⟨ρ1r,rfl,rfl,F1r,E1r⟩:=hI1
  have h:=hb1
  unfold idxf_frame_b1 at h
  have G2:Fr L w w1r:=(Fr.refl _ _).stp F1r (fun _ h=>.inl h)
  refine ec_sr ?_
  refine o_w (v:=.bool (decide (s1<(d0.length:Int)))) (r_int rfl rfl rfl) ?_
  refine eo_nil_sq ?_
  refine ec_seq ?_
  refine ec_cond rfl (fun hc3=>?_) (fun hc3=>?_)
  ·replace h:=h.1 hc3
   refine ec_skip ?_
   refine sq_n ?_
   refine ec_seq ?_
   refine ec_block ?_
   refine ec_sr ?_
   refine o_w (v:=.int .i64 s1) (r_mov rfl) ?_
   refine o_w (v:=.int .i64 s1) (r_asg rfl) ?_
   refine eo_r ?_
   refine o_w (v:=.func (.func 33) #[] #[]) (r_mov rfl) ?_
   refine o_w (v:=.slice AP0 d0.length cP0) (r_mov rfl) ?_
   refine o_w (v:=.int .i64 s1) (r_mov rfl) ?_
   obtain ⟨ha4,h⟩:=h
   obtain ⟨cs5,l7,H6⟩:=Stb.elem (by decide) (HP0.fr G2 sI) s1 ha4.1 ha4.2
   obtain ⟨A9,c10,A12,c13,rfl,H8,H11,H14⟩:=kEnt_open2 H6
   refine o_w (v:=.pointer (some (elemA AP0 kEnt.n s1.toNat))) (r_ia slc_s_api_Entry rfl rfl ((HP0.fr G2 sI).now.2 _ (lt_toNat ha4.1 ha4.2)).1 ha4.1 ha4.2) ?_
   refine o_w (v:=.agg (cEnt (nth d0 s1) A9 c10 A12 c13).toArray) (r_lda' agg_api_Entry rfl (elemA_spot _ _ _) (vs:=(cEnt (nth d0 s1) A9 c10 A12 c13)) rfl (H8.now.1)) ?_
   obtain ⟨x15,hx15,h⟩:=h
   refine o_callv cf_frame_Check_1 rfl rfl (frame_Check_1_c (nth d0 s1) (kEnt_mk (d:=(nth d0 s1)) H11 H14) (hL.fr E1r) hx15) rfl rfl ?_
   rintro _ w15 ⟨F15,rfl⟩
   have E16:=E1r.trans F15
   refine eo_nil_sq ?_
   refine ec_cond rfl (fun hc20=>?_) (fun hc20=>?_)
   ·replace h:=h.1 hc20
    refine ec_sr ?_
    refine o_w (v:=.int .i64 s1) (r_mov rfl) ?_
    refine o_w (v:=.int .i64 s1) (r_asg rfl) ?_
    refine eo_nil_sq ?_
    refine ec_ret ?_
    refine blk_ret ?_
    refine sq_ret ?_
    subst h
    exact lqR_r (end1 rfl ⟨_,rfl,E16,rfl⟩)
   ·replace h:=h.2 hc20
    refine ec_skip ?_
    refine blk_n ?_
    refine sq_n ?_
    refine ec_region ?_
    refine o_w (v:=.int .i64 (IntKind.i64.wrap (s1 + (1:Int)))) (r_int rfl rfl rfl) ?_
    refine o_w (v:=.int .i64 (IntKind.i64.wrap (s1 + (1:Int)))) (r_mov rfl) ?_
    refine eo_nil ?_
    subst h
    exact lqR_n ⟨_,envs_self ⟨rfl,rfl,rfl,rfl,trivial⟩,rfl,(F1r.trans (Fr.ext F15)),E16⟩
  ·replace h:=h.2 hc3
   refine ec_exit ?_
   refine sq_exit ?_
   subst h
   exact lqR_x ⟨_,envs_self ⟨rfl,rfl,rfl,rfl,trivial⟩,rfl,F1r,E1r⟩
 ·exact ⟨_,envs_self ⟨rfl,rfl,rfl,rfl,trivial⟩,rfl,(Fr.refl _ _),(Fr.refl _ _)⟩
 ·rintro sx1 rfl ρ1e ds1e w1e ⟨ρ1e,rfl,rfl,F1e,E1e⟩
  replace h:=h.1 _ rfl
  refine blk_hit ?_
  refine sq_n ?_
  refine ec_sr ?_
  refine o_w (v:=.int .i64 (-1:Int)) (r_asg rfl) ?_
  refine eo_nil_sq ?_
  refine ec_ret ?_
  subst h
  exact (end1 rfl ⟨_,rfl,E1e,rfl⟩)
 ·rintro y1 rfl ρ1q ds1q w1q hJ
  have hy:=h.2 _ rfl
  subst hy
  refine blk_ret ?_
  refine sq_ret ?_
  exact hJ
def conf_frame_raw (d0:(List Ent)) (y:Bool):Prop :=
 ∃ x1,idxf_frame_raw d0 x1∧(y=(decide (0≤x1)))
set_option maxRecDepth 20000 in
set_option maxHeartbeats 4000000 in
theorem conf_frame_c {L:List Nat} {w:World} {AP0:Option Addr} {cP0:Nat} (d0:(List Ent)) (HP0:Stb L w (fun w=>SlC kEnt w AP0 cP0 d0)) (hL:Lt L w) {y:Bool} (h:conf_frame_raw d0 y) :
  Calls Tryz.prog 35 [.slice AP0 d0.length cP0,.func (.func 33) #[] #[]].toArray w (Ret fun v w'=>Ext w w'∧v=.bool y):=by
 unfold conf_frame_raw at h
 refine calls_ec Tryz.func35 rfl rfl rfl ?_
 refine ec_sr ?_
 refine o_w (v:=.bool false) (r_asg rfl) ?_
 refine eo_r ?_
 refine o_w (v:=.slice AP0 d0.length cP0) (r_mov rfl) ?_
 refine o_w (v:=.func (.func 33) #[] #[]) (r_mov rfl) ?_
 obtain ⟨x1,hx1,h⟩:=h
 refine o_call cf_slices_IndexFunc_Entry rfl (idxf_frame_c d0 HP0 hL hx1) rfl rfl ?_
 rintro _ w1 ⟨F1,rfl⟩
 refine o_w (v:=.bool (decide (0≤x1))) (r_int rfl rfl rfl) ?_
 refine o_w (v:=.bool (decide (0≤x1))) (r_asg rfl) ?_
 refine eo_nil_sq ?_
 refine ec_ret ?_
 subst h
 exact (end1 rfl ⟨_,rfl,F1,rfl⟩)
def frame_Check_raw (d0:Frm) (y:Int):Prop :=
 ∃ x8,frame_forms_raw x8∧(∃ x28,x28=(putD d0.sums)∧(∃ x35,((!((!((((((((hasM x8 d0.kind)&&(x28.2==0))&&(decide (((getM (⟨(0:Int),(0:Int),(0:Int),false,false⟩:Fm) x8 d0.kind).la)≤d0.a)))&&(decide (d0.a≤((getM (⟨(0:Int),(0:Int),(0:Int),false,false⟩:Fm) x8 d0.kind).ma))))&&(decide (0≤d0.b)))&&(decide (d0.b≤((getM (⟨(0:Int),(0:Int),(0:Int),false,false⟩:Fm) x8 d0.kind).mb))))&&(((getM (⟨(0:Int),(0:Int),(0:Int),false,false⟩:Fm) x8 d0.kind).sums)||(((nth d0.sums 0)==0)&&(((nth d0.sums 1)==0)&&(((nth d0.sums 2)==0)&&(((nth d0.sums 3)==0)&&true))))))&&(((getM (⟨(0:Int),(0:Int),(0:Int),false,false⟩:Fm) x8 d0.kind).ents)||((d0.entries.length:Int)==0))))||(decide (8<(d0.entries.length:Int)))))=true→conf_frame_raw d0.entries x35)∧(((((!((((((((hasM x8 d0.kind)&&(x28.2==0))&&(decide (((getM (⟨(0:Int),(0:Int),(0:Int),false,false⟩:Fm) x8 d0.kind).la)≤d0.a)))&&(decide (d0.a≤((getM (⟨(0:Int),(0:Int),(0:Int),false,false⟩:Fm) x8 d0.kind).ma))))&&(decide (0≤d0.b)))&&(decide (d0.b≤((getM (⟨(0:Int),(0:Int),(0:Int),false,false⟩:Fm) x8 d0.kind).mb))))&&(((getM (⟨(0:Int),(0:Int),(0:Int),false,false⟩:Fm) x8 d0.kind).sums)||(((nth d0.sums 0)==0)&&(((nth d0.sums 1)==0)&&(((nth d0.sums 2)==0)&&(((nth d0.sums 3)==0)&&true))))))&&(((getM (⟨(0:Int),(0:Int),(0:Int),false,false⟩:Fm) x8 d0.kind).ents)||((d0.entries.length:Int)==0))))||(decide (8<(d0.entries.length:Int))))||x35)=true→(y=(2:Int)))∧((((!((((((((hasM x8 d0.kind)&&(x28.2==0))&&(decide (((getM (⟨(0:Int),(0:Int),(0:Int),false,false⟩:Fm) x8 d0.kind).la)≤d0.a)))&&(decide (d0.a≤((getM (⟨(0:Int),(0:Int),(0:Int),false,false⟩:Fm) x8 d0.kind).ma))))&&(decide (0≤d0.b)))&&(decide (d0.b≤((getM (⟨(0:Int),(0:Int),(0:Int),false,false⟩:Fm) x8 d0.kind).mb))))&&(((getM (⟨(0:Int),(0:Int),(0:Int),false,false⟩:Fm) x8 d0.kind).sums)||(((nth d0.sums 0)==0)&&(((nth d0.sums 1)==0)&&(((nth d0.sums 2)==0)&&(((nth d0.sums 3)==0)&&true))))))&&(((getM (⟨(0:Int),(0:Int),(0:Int),false,false⟩:Fm) x8 d0.kind).ents)||((d0.entries.length:Int)==0))))||(decide (8<(d0.entries.length:Int))))||x35)=false→(y=(0:Int))))))
set_option maxRecDepth 20000 in
set_option maxHeartbeats 4000000 in
theorem frame_Check_c {L:List Nat} {w:World} {csP0:List Value} (d0:Frm) (HP0:Stb L w (fun w=>kFrm.r w csP0 d0)) (hL:Lt L w) {y:Int} (h:frame_Check_raw d0 y) :
  Calls Tryz.prog 16 [.agg csP0.toArray].toArray w (Ret fun v w'=>Ext w w'∧v=.int .i64 y):=by
 obtain ⟨A2,c3,rfl,H4,hl1⟩:=kFrm_open HP0
 unfold frame_Check_raw at h
 refine calls_ec Tryz.func16 rfl rfl rfl ?_
 refine ec_sr ?_
 refine o_box (cs:=(cFrm d0 A2 c3)) rfl rfl rfl ?_
 intro b5 w5 e5 F5 B5
 have S5:=B5.stb (nin hL e5)
 have G6:Fr L w w5:=Fr.ext F5
 refine o_w (v:=.int .i64 0) (r_asg rfl) ?_
 refine eo_nil_sq ?_
 refine ec_seq ?_
 obtain ⟨x8,hx8,h⟩:=h
 refine ec_anyGN (by kernel_rfl) [[],[],[1],[0,1,2],[0,1,2,3],[0,1,2,3,4],[0,1,2,3,4],[],[0,1,2,3,4,5,7],[0,1,2,3,4,5,6,7,8]] [3,4,9,10,11,12,13,14,15] [] [8] 7 0 (fun g w=>∀ b,g=gOf b→Blk w b 66 [.int .i64 0,.int .i64 0,.int .i64 0,.bool false,.bool false]) (fun g7=>[own g7]) [[8,9]] (fun g7=>[fun w'=>(∀ b,g7=gOf b→Blk w' b 66 [.int .i64 0,.int .i64 0,.int .i64 0,.bool false,.bool false]),fun w'=>(∀ b,g7=gOf b→Blk w' b 66 [.int .i64 ((getM (⟨(0:Int),(0:Int),(0:Int),false,false⟩:Fm) x8 d0.kind).la),.int .i64 ((getM (⟨(0:Int),(0:Int),(0:Int),false,false⟩:Fm) x8 d0.kind).ma),.int .i64 ((getM (⟨(0:Int),(0:Int),(0:Int),false,false⟩:Fm) x8 d0.kind).mb),.bool ((getM (⟨(0:Int),(0:Int),(0:Int),false,false⟩:Fm) x8 d0.kind).sums),.bool ((getM (⟨(0:Int),(0:Int),(0:Int),false,false⟩:Fm) x8 d0.kind).ents)])]) (fun g7=>[fun v w'=>∃ b9,v=(.map (some b9):Value)∧Stb (own g7++L) w' (fun w=>Lp w b9 (mObj .i64 (fun d:Fm=>.agg (cFm d).toArray) x8)),fun v _=>v=(.pointer (some ⟨b5,0,none⟩):Value),fun v _=>v=(.int .i64 d0.kind:Value),fun v _=>v=(.tuple #[.agg #[.int .i64 ((getM (⟨(0:Int),(0:Int),(0:Int),false,false⟩:Fm) x8 d0.kind).la),.int .i64 ((getM (⟨(0:Int),(0:Int),(0:Int),false,false⟩:Fm) x8 d0.kind).ma),.int .i64 ((getM (⟨(0:Int),(0:Int),(0:Int),false,false⟩:Fm) x8 d0.kind).mb),.bool ((getM (⟨(0:Int),(0:Int),(0:Int),false,false⟩:Fm) x8 d0.kind).sums),.bool ((getM (⟨(0:Int),(0:Int),(0:Int),false,false⟩:Fm) x8 d0.kind).ents)],.bool (hasM x8 d0.kind)]:Value),fun v _=>v=(.tuple #[.agg #[.int .i64 ((getM (⟨(0:Int),(0:Int),(0:Int),false,false⟩:Fm) x8 d0.kind).la),.int .i64 ((getM (⟨(0:Int),(0:Int),(0:Int),false,false⟩:Fm) x8 d0.kind).ma),.int .i64 ((getM (⟨(0:Int),(0:Int),(0:Int),false,false⟩:Fm) x8 d0.kind).mb),.bool ((getM (⟨(0:Int),(0:Int),(0:Int),false,false⟩:Fm) x8 d0.kind).sums),.bool ((getM (⟨(0:Int),(0:Int),(0:Int),false,false⟩:Fm) x8 d0.kind).ents)],.bool (hasM x8 d0.kind)]:Value),fun v _=>v=(.agg #[.int .i64 ((getM (⟨(0:Int),(0:Int),(0:Int),false,false⟩:Fm) x8 d0.kind).la),.int .i64 ((getM (⟨(0:Int),(0:Int),(0:Int),false,false⟩:Fm) x8 d0.kind).ma),.int .i64 ((getM (⟨(0:Int),(0:Int),(0:Int),false,false⟩:Fm) x8 d0.kind).mb),.bool ((getM (⟨(0:Int),(0:Int),(0:Int),false,false⟩:Fm) x8 d0.kind).sums),.bool ((getM (⟨(0:Int),(0:Int),(0:Int),false,false⟩:Fm) x8 d0.kind).ents)]:Value),fun v _=>v=(.bool (hasM x8 d0.kind):Value),fun v w'=>∃ b7_7,v=(.pointer (some ⟨b7_7,0,none⟩):Value)∧g7=gOf b7_7∧w5.heap.size≤b7_7,fun _ _=>True,fun v _=>v=(.bool (hasM x8 d0.kind):Value)]) (by kernel_rfl) (fun _=>rfl) (fun _=>rfl) (fun g7=>(allM1 (φ:=fun M=>∀ m∈M,m∈[]∨m∈own g7) (fun m hm=>.inr hm) (fun _ h=>by cases h))) (fun g7=>⟨fun _ v w' w'' F h=>by obtain ⟨b9,hv,H10⟩:=h; exact ⟨b9,hv,(H10.ex F)⟩,fun _ _ _ _ _ h=>h,fun _ _ _ _ _ h=>h,fun _ _ _ _ _ h=>h,fun _ _ _ _ _ h=>h,fun _ _ _ _ _ h=>h,fun _ _ _ _ _ h=>h,fun _ v w' w'' F h=>by obtain ⟨b7_7,hv,heb7_7,lob7_7⟩:=h; exact ⟨b7_7,hv,heb7_7,lob7_7⟩,fun _ _ _ _ _ h=>h,fun _ _ _ _ _ h=>h,trivial⟩) (fun g7=>⟨⟨fun _ v w' w'' hg7 F h=>by obtain ⟨b9,hv,H10⟩:=h; exact ⟨b9,hv,(H10.fr F (fun m hm=>List.mem_append_left _ hm))⟩,fun _ _ _ _ _ _ h=>h,fun _ _ _ _ _ _ h=>h,fun _ _ _ _ _ _ h=>h,fun _ _ _ _ _ _ h=>h,fun _ _ _ _ _ _ h=>h,fun _ _ _ _ _ _ h=>h,fun _ v w' w'' hg7 F h=>by obtain ⟨b7_7,hv,heb7_7,lob7_7⟩:=h; exact ⟨b7_7,hv,heb7_7,lob7_7⟩,(fun h=>absurd h (by decide)),(fun h=>absurd h (by decide)),trivial⟩,trivial⟩) (fun g w hw hg=>⟨fun _ v w' F h=>by obtain ⟨b9,hv,H10⟩:=h; exact ⟨b9,hv,(stb_born H10 hg F)⟩,fun _ _ _ _ h=>h,fun _ _ _ _ h=>h,fun _ _ _ _ h=>h,fun _ _ _ _ h=>h,fun _ _ _ _ h=>h,fun _ _ _ _ h=>h,(fun h=>absurd h (by decide)),fun _ _ _ _ h=>h,fun _ _ _ _ h=>h,trivial⟩) (fun g7=>⟨fun w' w'' F h=>by have hG7:=h; exact (fun b e=>(hG7 b e).ex F),fun w' w'' F h=>by have hG7:=h; exact (fun b e=>(hG7 b e).ex F),trivial⟩) (fun b e=>absurd e gNil_ne) (fun k hk g w w' hw hg F hX hI=>match k,hk,hI with | 0,_,hI=>by have hG7:=hI; exact hX | k + 1,hk,_=>absurd hk (by omega)) ?_ ?_ ?_ ?_
 ·refine ⟨?_,?_,?_,?_,?_,?_,?_,?_,?_,?_,trivial⟩
  ·intro _ _ g7 ρ w7o hg7 F7o hX hS hρ
   have F7o:=hX 8 rfl rfl
   have E11:=F5.trans F7o
   refine o_call cf_frame_forms rfl (frame_forms_c (lt_ghost (hL.fr E11) hg7) hx8) rfl rfl ?_
   rintro _ w' ⟨F,b9,rfl,H10⟩
   exact eo_nil ⟨rfl,rfl,_,rfl,F,⟨b9,rfl,H10⟩⟩
  ·intro _ _ g7 ρ w7o hg7 F7o hX hS hρ
   have F7o:=hX 8 rfl rfl
   have q1:ρ 1=.pointer (some ⟨b5,0,none⟩):=hρ 1 (by kernel_rfl)
   exact o_q (r_fa fld_frame_Frame_0 rfl q1) ⟨Fr.refl _ _,rfl⟩
  ·intro _ _ g7 ρ w7o hg7 F7o hX hS hρ
   have F7o:=hX 8 rfl rfl
   have G16:Fr L w5 w7o:=Fr.ext F7o
   have q11:ρ 11=.pointer (some ⟨b5,0,none⟩):=hS 1 (by decide) 11 rfl
   exact o_q (r_ld one_int q11 ((S5.fr G16 sI).now.cell rfl)) ⟨Fr.refl _ _,rfl⟩
  ·intro _ _ g7 ρ w7o hg7 F7o hX hS hρ
   have F7o:=hX 8 rfl rfl
   obtain ⟨b9,q10,H10⟩:=hS 0 (by decide) 10 rfl
   have q12:ρ 12=.int .i64 d0.kind:=hS 2 (by decide) 12 rfl
   exact o_q (r_lookupT (enc:=(fun d:Fm=>.agg (cFm d).toArray)) (z:=(⟨(0:Int),(0:Int),(0:Int),false,false⟩:Fm)) mp_map_int_frame_form zero_frame_form H10.now q10 q12) ⟨Fr.refl _ _,rfl⟩
  ·intro _ _ g7 ρ w7o hg7 F7o hX hS hρ
   have F7o:=hX 8 rfl rfl
   have q13:ρ 13=.tuple #[.agg #[.int .i64 ((getM (⟨(0:Int),(0:Int),(0:Int),false,false⟩:Fm) x8 d0.kind).la),.int .i64 ((getM (⟨(0:Int),(0:Int),(0:Int),false,false⟩:Fm) x8 d0.kind).ma),.int .i64 ((getM (⟨(0:Int),(0:Int),(0:Int),false,false⟩:Fm) x8 d0.kind).mb),.bool ((getM (⟨(0:Int),(0:Int),(0:Int),false,false⟩:Fm) x8 d0.kind).sums),.bool ((getM (⟨(0:Int),(0:Int),(0:Int),false,false⟩:Fm) x8 d0.kind).ents)],.bool (hasM x8 d0.kind)]:=hS 3 (by decide) 13 rfl
   exact o_q (r_mov q13) ⟨Fr.refl _ _,rfl⟩
  ·intro _ _ g7 ρ w7o hg7 F7o hX hS hρ
   have F7o:=hX 8 rfl rfl
   have q9:ρ 9=.tuple #[.agg #[.int .i64 ((getM (⟨(0:Int),(0:Int),(0:Int),false,false⟩:Fm) x8 d0.kind).la),.int .i64 ((getM (⟨(0:Int),(0:Int),(0:Int),false,false⟩:Fm) x8 d0.kind).ma),.int .i64 ((getM (⟨(0:Int),(0:Int),(0:Int),false,false⟩:Fm) x8 d0.kind).mb),.bool ((getM (⟨(0:Int),(0:Int),(0:Int),false,false⟩:Fm) x8 d0.kind).sums),.bool ((getM (⟨(0:Int),(0:Int),(0:Int),false,false⟩:Fm) x8 d0.kind).ents)],.bool (hasM x8 d0.kind)]:=hS 4 (by decide) 9 rfl
   exact o_q (r_ext q9 rfl) ⟨Fr.refl _ _,rfl⟩
  ·intro _ _ g7 ρ w7o hg7 F7o hX hS hρ
   have q9:ρ 9=.tuple #[.agg #[.int .i64 ((getM (⟨(0:Int),(0:Int),(0:Int),false,false⟩:Fm) x8 d0.kind).la),.int .i64 ((getM (⟨(0:Int),(0:Int),(0:Int),false,false⟩:Fm) x8 d0.kind).ma),.int .i64 ((getM (⟨(0:Int),(0:Int),(0:Int),false,false⟩:Fm) x8 d0.kind).mb),.bool ((getM (⟨(0:Int),(0:Int),(0:Int),false,false⟩:Fm) x8 d0.kind).sums),.bool ((getM (⟨(0:Int),(0:Int),(0:Int),false,false⟩:Fm) x8 d0.kind).ents)],.bool (hasM x8 d0.kind)]:=hS 4 (by decide) 9 rfl
   exact o_q (r_ext q9 rfl) ⟨Fr.refl _ _,rfl⟩
  ·intro _ hT; exact absurd hT (by decide)
  ·intro hT; exact absurd hT (by decide)
  ·intro _ _ g7 ρ w7o hg7 F7o hX hS hρ
   have q15:ρ 15=.bool (hasM x8 d0.kind):=hS 6 (by decide) 15 rfl
   exact o_q (r_asg q15) ⟨Fr.refl _ _,rfl⟩
 ·intro o ho ρ w7o F7o hX hS hρ; cases Option.some.inj ho; refine o_alloc zero_frame_form rfl rfl rfl ?_; intro b w' e F B; subst e
  exact eo_nil ⟨rfl,rfl,_,rfl,F,gOf _,(fun m hm=>by rw [own_gOf,List.mem_singleton] at hm; subst hm; exact ⟨Nat.le_refl _,B.lt⟩),(fun b e=>by obtain rfl:=gOf_inj e; exact B),_,rfl,rfl,F7o.size⟩
 ·refine ⟨⟨_,rfl,?_⟩,trivial⟩
  ·intro g7 ρ w7o hg7 F7o hX hI hS hρ
   have hG7:=hI
   obtain ⟨b7_7,q3,heb7_7,lob7_7⟩:=hS 7 (by decide) 3 rfl
   have q14:ρ 14=.agg #[.int .i64 ((getM (⟨(0:Int),(0:Int),(0:Int),false,false⟩:Fm) x8 d0.kind).la),.int .i64 ((getM (⟨(0:Int),(0:Int),(0:Int),false,false⟩:Fm) x8 d0.kind).ma),.int .i64 ((getM (⟨(0:Int),(0:Int),(0:Int),false,false⟩:Fm) x8 d0.kind).mb),.bool ((getM (⟨(0:Int),(0:Int),(0:Int),false,false⟩:Fm) x8 d0.kind).sums),.bool ((getM (⟨(0:Int),(0:Int),(0:Int),false,false⟩:Fm) x8 d0.kind).ents)]:=hS 5 (by decide) 14 rfl
   subst heb7_7
   have hB7_b7_7:=hG7 _ rfl
   refine o_store (show ev ρ _=_ from q3) hB7_b7_7 (vs:=[.int .i64 ((getM (⟨(0:Int),(0:Int),(0:Int),false,false⟩:Fm) x8 d0.kind).la),.int .i64 ((getM (⟨(0:Int),(0:Int),(0:Int),false,false⟩:Fm) x8 d0.kind).ma),.int .i64 ((getM (⟨(0:Int),(0:Int),(0:Int),false,false⟩:Fm) x8 d0.kind).mb),.bool ((getM (⟨(0:Int),(0:Int),(0:Int),false,false⟩:Fm) x8 d0.kind).sums),.bool ((getM (⟨(0:Int),(0:Int),(0:Int),false,false⟩:Fm) x8 d0.kind).ents)]) (congrArg Value.cells q14) sz_frame_form rfl rfl rfl ?_
   intro w' F B2
   exact eo_nil ⟨rfl,rfl,undef,rfl,F,(fun b e=>by obtain rfl:=gOf_inj e; exact B2),trivial⟩
 ·intro g7 ρ w7 hg7 F7 hI hS hρ
  have hG7:=hI
  obtain ⟨b7_7,q3,heb7_7,lob7_7⟩:=hS 7 3 rfl
  subst heb7_7
  have hB7_b7_7:=hG7 _ rfl
  have q4:ρ 4=.bool (hasM x8 d0.kind):=hS 9 4 rfl
  obtain ⟨ρ',rfl⟩:∃ ρ',ρ=envs (ovr [3,4,9,10,11,12,13,14,15] ρ' _) [(3,.pointer (some ⟨b7_7,0,none⟩)),(4,.bool (hasM x8 d0.kind))]:=⟨ρ,ovr_self hρ ⟨q3,q4,trivial⟩⟩
  have n7_7:w.heap.size≤b7_7:=Nat.le_trans F5.size lob7_7
  have m23:w.heap.size≤b7_7:=Nat.le_trans G6.size lob7_7
  have E25:=F5.trans F7
  have G27:Fr L w5 w7:=Fr.ext F7
  refine sq_n ?_
  refine ec_sr ?_
  refine o_w (v:=.pointer (some ⟨b5,3,none⟩)) (r_fa fld_frame_Frame_3 rfl rfl) ?_
  refine o_w (v:=.agg #[.int .i64 (nth d0.sums 0),.int .i64 (nth d0.sums 1),.int .i64 (nth d0.sums 2),.int .i64 (nth d0.sums 3)]) (r_lda agg_4_int rfl (vs:=[.int .i64 (nth d0.sums 0),.int .i64 (nth d0.sums 1),.int .i64 (nth d0.sums 2),.int .i64 (nth d0.sums 3)]) rfl ((S5.fr G27 sI).now.part (n:=4) rfl)) ?_
  obtain ⟨x28,hx28,h⟩:=h
  refine o_call cf_digest_Put rfl (digest_Put_c d0.sums hl1 ((hL.fr E25).cons hB7_b7_7.lt) (eq_ev hx28 (digPut_ev d0.sums))) rfl rfl ?_
  rintro _ w28 ⟨F28,rfl⟩
  have E29:=E25.trans F28
  refine o_w (v:=.tuple #[str x28.1,.int .i64 x28.2]) (r_mov rfl) ?_
  refine o_w (v:=str x28.1) (r_ext rfl rfl) ?_
  refine o_w (v:=.int .i64 x28.2) (r_ext rfl rfl) ?_
  refine o_w (v:=str x28.1) (r_asg rfl) ?_
  refine o_w (v:=.int .i64 x28.2) (r_asg rfl) ?_
  refine eo_r ?_
  refine o_w (v:=.func (.func 33) #[] #[]) (r_asg rfl) ?_
  refine eo_r ?_
  iterate 2 refine o_w (v:=.bool (hasM x8 d0.kind)) (r_mov rfl) ?_
  refine o_vg (v:=.int .i64 x28.2) (want_ct (t:=23) rfl rfl) (fun hk=>(r_mov rfl)) rfl rfl ?_
  refine o_vg (v:=.bool (x28.2==0)) (want_ct (t:=23) rfl rfl) (fun hk=>(r_int (gdT hk) rfl rfl)) rfl rfl ?_
  refine o_w (v:=.bool ((hasM x8 d0.kind)&&(x28.2==0))) (r_pickAnd rfl (fun ht=>(gdT ht)) rfl) ?_
  refine o_w (v:=.bool ((hasM x8 d0.kind)&&(x28.2==0))) (r_mov rfl) ?_
  refine o_vg (v:=.pointer (some ⟨b5,1,none⟩)) (want_ct (t:=27) rfl rfl) (fun hk=>(r_fa fld_frame_Frame_1 rfl rfl)) rfl rfl ?_
  refine o_vg (v:=.int .i64 d0.a) (want_ct (t:=27) rfl rfl) (fun hk=>(r_ld one_int (gdT hk) ((S5.fr (G27.trans (Fr.ext F28)) sI).now.cell rfl))) rfl rfl ?_
  refine o_vg (v:=.pointer (some ⟨b7_7,0,none⟩)) (want_ct (t:=27) rfl rfl) (fun hk=>(r_fa fld_frame_form_0 rfl rfl)) rfl rfl ?_
  refine o_vg (v:=.int .i64 ((getM (⟨(0:Int),(0:Int),(0:Int),false,false⟩:Fm) x8 d0.kind).la)) (want_ct (t:=27) rfl rfl) (fun hk=>(r_ld one_int (gdT hk) ((hB7_b7_7.ex F28).cell rfl))) rfl rfl ?_
  refine o_vg (v:=.bool (decide (((getM (⟨(0:Int),(0:Int),(0:Int),false,false⟩:Fm) x8 d0.kind).la)≤d0.a))) (want_ct (t:=27) rfl rfl) (fun hk=>(r_int (gdT hk) (gdT hk) rfl)) rfl rfl ?_
  refine o_w (v:=.bool (((hasM x8 d0.kind)&&(x28.2==0))&&(decide (((getM (⟨(0:Int),(0:Int),(0:Int),false,false⟩:Fm) x8 d0.kind).la)≤d0.a)))) (r_pickAnd rfl (fun ht=>(gdT ht)) rfl) ?_
  refine o_w (v:=.bool (((hasM x8 d0.kind)&&(x28.2==0))&&(decide (((getM (⟨(0:Int),(0:Int),(0:Int),false,false⟩:Fm) x8 d0.kind).la)≤d0.a)))) (r_mov rfl) ?_
  refine o_vg (v:=.pointer (some ⟨b5,1,none⟩)) (want_ct (t:=34) rfl rfl) (fun hk=>(r_fa fld_frame_Frame_1 rfl rfl)) rfl rfl ?_
  refine o_vg (v:=.int .i64 d0.a) (want_ct (t:=34) rfl rfl) (fun hk=>(r_ld one_int (gdT hk) ((S5.fr (G27.trans (Fr.ext F28)) sI).now.cell rfl))) rfl rfl ?_
  refine o_vg (v:=.pointer (some ⟨b7_7,1,none⟩)) (want_ct (t:=34) rfl rfl) (fun hk=>(r_fa fld_frame_form_1 rfl rfl)) rfl rfl ?_
  refine o_vg (v:=.int .i64 ((getM (⟨(0:Int),(0:Int),(0:Int),false,false⟩:Fm) x8 d0.kind).ma)) (want_ct (t:=34) rfl rfl) (fun hk=>(r_ld one_int (gdT hk) ((hB7_b7_7.ex F28).cell rfl))) rfl rfl ?_
  refine o_vg (v:=.bool (decide (d0.a≤((getM (⟨(0:Int),(0:Int),(0:Int),false,false⟩:Fm) x8 d0.kind).ma)))) (want_ct (t:=34) rfl rfl) (fun hk=>(r_int (gdT hk) (gdT hk) rfl)) rfl rfl ?_
  refine o_w (v:=.bool ((((hasM x8 d0.kind)&&(x28.2==0))&&(decide (((getM (⟨(0:Int),(0:Int),(0:Int),false,false⟩:Fm) x8 d0.kind).la)≤d0.a)))&&(decide (d0.a≤((getM (⟨(0:Int),(0:Int),(0:Int),false,false⟩:Fm) x8 d0.kind).ma))))) (r_pickAnd rfl (fun ht=>(gdT ht)) rfl) ?_
  refine o_w (v:=.bool ((((hasM x8 d0.kind)&&(x28.2==0))&&(decide (((getM (⟨(0:Int),(0:Int),(0:Int),false,false⟩:Fm) x8 d0.kind).la)≤d0.a)))&&(decide (d0.a≤((getM (⟨(0:Int),(0:Int),(0:Int),false,false⟩:Fm) x8 d0.kind).ma))))) (r_mov rfl) ?_
  refine o_vg (v:=.pointer (some ⟨b5,2,none⟩)) (want_ct (t:=41) rfl rfl) (fun hk=>(r_fa fld_frame_Frame_2 rfl rfl)) rfl rfl ?_
  refine o_vg (v:=.int .i64 d0.b) (want_ct (t:=41) rfl rfl) (fun hk=>(r_ld one_int (gdT hk) ((S5.fr (G27.trans (Fr.ext F28)) sI).now.cell rfl))) rfl rfl ?_
  refine o_vg (v:=.bool (decide (0≤d0.b))) (want_ct (t:=41) rfl rfl) (fun hk=>(r_int (gdT hk) rfl rfl)) rfl rfl ?_
  refine o_w (v:=.bool (((((hasM x8 d0.kind)&&(x28.2==0))&&(decide (((getM (⟨(0:Int),(0:Int),(0:Int),false,false⟩:Fm) x8 d0.kind).la)≤d0.a)))&&(decide (d0.a≤((getM (⟨(0:Int),(0:Int),(0:Int),false,false⟩:Fm) x8 d0.kind).ma))))&&(decide (0≤d0.b)))) (r_pickAnd rfl (fun ht=>(gdT ht)) rfl) ?_
  refine o_w (v:=.bool (((((hasM x8 d0.kind)&&(x28.2==0))&&(decide (((getM (⟨(0:Int),(0:Int),(0:Int),false,false⟩:Fm) x8 d0.kind).la)≤d0.a)))&&(decide (d0.a≤((getM (⟨(0:Int),(0:Int),(0:Int),false,false⟩:Fm) x8 d0.kind).ma))))&&(decide (0≤d0.b)))) (r_mov rfl) ?_
  refine o_vg (v:=.pointer (some ⟨b5,2,none⟩)) (want_ct (t:=46) rfl rfl) (fun hk=>(r_fa fld_frame_Frame_2 rfl rfl)) rfl rfl ?_
  refine o_vg (v:=.int .i64 d0.b) (want_ct (t:=46) rfl rfl) (fun hk=>(r_ld one_int (gdT hk) ((S5.fr (G27.trans (Fr.ext F28)) sI).now.cell rfl))) rfl rfl ?_
  refine o_vg (v:=.pointer (some ⟨b7_7,2,none⟩)) (want_ct (t:=46) rfl rfl) (fun hk=>(r_fa fld_frame_form_2 rfl rfl)) rfl rfl ?_
  refine o_vg (v:=.int .i64 ((getM (⟨(0:Int),(0:Int),(0:Int),false,false⟩:Fm) x8 d0.kind).mb)) (want_ct (t:=46) rfl rfl) (fun hk=>(r_ld one_int (gdT hk) ((hB7_b7_7.ex F28).cell rfl))) rfl rfl ?_
  refine o_vg (v:=.bool (decide (d0.b≤((getM (⟨(0:Int),(0:Int),(0:Int),false,false⟩:Fm) x8 d0.kind).mb)))) (want_ct (t:=46) rfl rfl) (fun hk=>(r_int (gdT hk) (gdT hk) rfl)) rfl rfl ?_
  refine o_w (v:=.bool ((((((hasM x8 d0.kind)&&(x28.2==0))&&(decide (((getM (⟨(0:Int),(0:Int),(0:Int),false,false⟩:Fm) x8 d0.kind).la)≤d0.a)))&&(decide (d0.a≤((getM (⟨(0:Int),(0:Int),(0:Int),false,false⟩:Fm) x8 d0.kind).ma))))&&(decide (0≤d0.b)))&&(decide (d0.b≤((getM (⟨(0:Int),(0:Int),(0:Int),false,false⟩:Fm) x8 d0.kind).mb))))) (r_pickAnd rfl (fun ht=>(gdT ht)) rfl) ?_
  refine o_w (v:=.bool ((((((hasM x8 d0.kind)&&(x28.2==0))&&(decide (((getM (⟨(0:Int),(0:Int),(0:Int),false,false⟩:Fm) x8 d0.kind).la)≤d0.a)))&&(decide (d0.a≤((getM (⟨(0:Int),(0:Int),(0:Int),false,false⟩:Fm) x8 d0.kind).ma))))&&(decide (0≤d0.b)))&&(decide (d0.b≤((getM (⟨(0:Int),(0:Int),(0:Int),false,false⟩:Fm) x8 d0.kind).mb))))) (r_mov rfl) ?_
  refine o_vg (v:=.pointer (some ⟨b7_7,3,none⟩)) (want_ct (t:=53) rfl rfl) (fun hk=>(r_fa fld_frame_form_3 rfl rfl)) rfl rfl ?_
  refine o_vg (v:=.bool ((getM (⟨(0:Int),(0:Int),(0:Int),false,false⟩:Fm) x8 d0.kind).sums)) (want_ct (t:=53) rfl rfl) (fun hk=>(r_ld one_bool (gdT hk) ((hB7_b7_7.ex F28).cell rfl))) rfl rfl ?_
  refine o_vg (v:=.bool ((getM (⟨(0:Int),(0:Int),(0:Int),false,false⟩:Fm) x8 d0.kind).sums)) (want_ct (t:=53) rfl rfl) (fun hk=>(r_mov (gdT hk))) rfl rfl ?_
  refine o_vg (v:=.pointer (some ⟨b5,3,none⟩)) (want_gf (t:=56) rfl rfl) (fun hk=>(r_fa fld_frame_Frame_3 rfl rfl)) rfl rfl ?_
  refine o_vg (v:=.agg #[.int .i64 (nth d0.sums 0),.int .i64 (nth d0.sums 1),.int .i64 (nth d0.sums 2),.int .i64 (nth d0.sums 3)]) (want_gf (t:=56) rfl rfl) (fun hk=>(r_lda agg_4_int (gdT hk) (vs:=[.int .i64 (nth d0.sums 0),.int .i64 (nth d0.sums 1),.int .i64 (nth d0.sums 2),.int .i64 (nth d0.sums 3)]) rfl ((S5.fr (G27.trans (Fr.ext F28)) sI).now.part (n:=4) rfl))) rfl rfl ?_
  refine o_vg (v:=.agg #[.int .i64 0,.int .i64 0,.int .i64 0,.int .i64 0]) (want_gf (t:=56) rfl rfl) (fun hk=>(r_build bld_4_int (vs:=[]) (cells:=[.int .i64 0,.int .i64 0,.int .i64 0,.int .i64 0]) rfl rfl)) rfl rfl ?_
  refine o_vg (v:=.bool (((nth d0.sums 0)==0)&&(((nth d0.sums 1)==0)&&(((nth d0.sums 2)==0)&&(((nth d0.sums 3)==0)&&true))))) (want_gf (t:=56) rfl rfl) (fun hk=>(r_eqSt eqg_4_int (eqs_4_int (nth d0.sums 0) (nth d0.sums 1) (nth d0.sums 2) (nth d0.sums 3) (0:Int) (0:Int) (0:Int) (0:Int)) (gdT hk) (gdT hk))) rfl rfl ?_
  refine o_vg (v:=.bool (((getM (⟨(0:Int),(0:Int),(0:Int),false,false⟩:Fm) x8 d0.kind).sums)||(((nth d0.sums 0)==0)&&(((nth d0.sums 1)==0)&&(((nth d0.sums 2)==0)&&(((nth d0.sums 3)==0)&&true)))))) (want_ct (t:=53) rfl rfl) (fun hk=>(r_pickOr (gdT hk) rfl (fun hf=>(gdT (andM hk (notT hf)))))) rfl rfl ?_
  refine o_w (v:=.bool (((((((hasM x8 d0.kind)&&(x28.2==0))&&(decide (((getM (⟨(0:Int),(0:Int),(0:Int),false,false⟩:Fm) x8 d0.kind).la)≤d0.a)))&&(decide (d0.a≤((getM (⟨(0:Int),(0:Int),(0:Int),false,false⟩:Fm) x8 d0.kind).ma))))&&(decide (0≤d0.b)))&&(decide (d0.b≤((getM (⟨(0:Int),(0:Int),(0:Int),false,false⟩:Fm) x8 d0.kind).mb))))&&(((getM (⟨(0:Int),(0:Int),(0:Int),false,false⟩:Fm) x8 d0.kind).sums)||(((nth d0.sums 0)==0)&&(((nth d0.sums 1)==0)&&(((nth d0.sums 2)==0)&&(((nth d0.sums 3)==0)&&true))))))) (r_pickAnd rfl (fun ht=>(gdT ht)) rfl) ?_
  refine o_w (v:=.bool (((((((hasM x8 d0.kind)&&(x28.2==0))&&(decide (((getM (⟨(0:Int),(0:Int),(0:Int),false,false⟩:Fm) x8 d0.kind).la)≤d0.a)))&&(decide (d0.a≤((getM (⟨(0:Int),(0:Int),(0:Int),false,false⟩:Fm) x8 d0.kind).ma))))&&(decide (0≤d0.b)))&&(decide (d0.b≤((getM (⟨(0:Int),(0:Int),(0:Int),false,false⟩:Fm) x8 d0.kind).mb))))&&(((getM (⟨(0:Int),(0:Int),(0:Int),false,false⟩:Fm) x8 d0.kind).sums)||(((nth d0.sums 0)==0)&&(((nth d0.sums 1)==0)&&(((nth d0.sums 2)==0)&&(((nth d0.sums 3)==0)&&true))))))) (r_mov rfl) ?_
  refine o_vg (v:=.pointer (some ⟨b7_7,4,none⟩)) (want_ct (t:=63) rfl rfl) (fun hk=>(r_fa fld_frame_form_4 rfl rfl)) rfl rfl ?_
  refine o_vg (v:=.bool ((getM (⟨(0:Int),(0:Int),(0:Int),false,false⟩:Fm) x8 d0.kind).ents)) (want_ct (t:=63) rfl rfl) (fun hk=>(r_ld one_bool (gdT hk) ((hB7_b7_7.ex F28).cell rfl))) rfl rfl ?_
  refine o_vg (v:=.bool ((getM (⟨(0:Int),(0:Int),(0:Int),false,false⟩:Fm) x8 d0.kind).ents)) (want_ct (t:=63) rfl rfl) (fun hk=>(r_mov (gdT hk))) rfl rfl ?_
  refine o_vg (v:=.pointer (some ⟨b5,7,none⟩)) (want_gf (t:=66) rfl rfl) (fun hk=>(r_fa fld_frame_Frame_4 rfl rfl)) rfl rfl ?_
  refine o_vg (v:=.slice A2 d0.entries.length c3) (want_gf (t:=66) rfl rfl) (fun hk=>(r_ld one_s_api_Entry (gdT hk) ((S5.fr (G27.trans (Fr.ext F28)) sI).now.cell rfl))) rfl rfl ?_
  refine o_vg (v:=.int .i64 (d0.entries.length:Int)) (want_gf (t:=66) rfl rfl) (fun hk=>(r_len_slc un_s_api_Entry (gdT hk))) rfl rfl ?_
  refine o_vg (v:=.bool ((d0.entries.length:Int)==0)) (want_gf (t:=66) rfl rfl) (fun hk=>(r_int (gdT hk) rfl rfl)) rfl rfl ?_
  refine o_vg (v:=.bool (((getM (⟨(0:Int),(0:Int),(0:Int),false,false⟩:Fm) x8 d0.kind).ents)||((d0.entries.length:Int)==0))) (want_ct (t:=63) rfl rfl) (fun hk=>(r_pickOr (gdT hk) rfl (fun hf=>(gdT (andM hk (notT hf)))))) rfl rfl ?_
  refine o_w (v:=.bool ((((((((hasM x8 d0.kind)&&(x28.2==0))&&(decide (((getM (⟨(0:Int),(0:Int),(0:Int),false,false⟩:Fm) x8 d0.kind).la)≤d0.a)))&&(decide (d0.a≤((getM (⟨(0:Int),(0:Int),(0:Int),false,false⟩:Fm) x8 d0.kind).ma))))&&(decide (0≤d0.b)))&&(decide (d0.b≤((getM (⟨(0:Int),(0:Int),(0:Int),false,false⟩:Fm) x8 d0.kind).mb))))&&(((getM (⟨(0:Int),(0:Int),(0:Int),false,false⟩:Fm) x8 d0.kind).sums)||(((nth d0.sums 0)==0)&&(((nth d0.sums 1)==0)&&(((nth d0.sums 2)==0)&&(((nth d0.sums 3)==0)&&true))))))&&(((getM (⟨(0:Int),(0:Int),(0:Int),false,false⟩:Fm) x8 d0.kind).ents)||((d0.entries.length:Int)==0)))) (r_pickAnd rfl (fun ht=>(gdT ht)) rfl) ?_
  refine o_w (v:=.bool ((((((((hasM x8 d0.kind)&&(x28.2==0))&&(decide (((getM (⟨(0:Int),(0:Int),(0:Int),false,false⟩:Fm) x8 d0.kind).la)≤d0.a)))&&(decide (d0.a≤((getM (⟨(0:Int),(0:Int),(0:Int),false,false⟩:Fm) x8 d0.kind).ma))))&&(decide (0≤d0.b)))&&(decide (d0.b≤((getM (⟨(0:Int),(0:Int),(0:Int),false,false⟩:Fm) x8 d0.kind).mb))))&&(((getM (⟨(0:Int),(0:Int),(0:Int),false,false⟩:Fm) x8 d0.kind).sums)||(((nth d0.sums 0)==0)&&(((nth d0.sums 1)==0)&&(((nth d0.sums 2)==0)&&(((nth d0.sums 3)==0)&&true))))))&&(((getM (⟨(0:Int),(0:Int),(0:Int),false,false⟩:Fm) x8 d0.kind).ents)||((d0.entries.length:Int)==0)))) (r_asg rfl) ?_
  refine eo_nil_sq ?_
  refine ec_seq ?_
  refine ec_sr ?_
  refine o_w (v:=.bool ((((((((hasM x8 d0.kind)&&(x28.2==0))&&(decide (((getM (⟨(0:Int),(0:Int),(0:Int),false,false⟩:Fm) x8 d0.kind).la)≤d0.a)))&&(decide (d0.a≤((getM (⟨(0:Int),(0:Int),(0:Int),false,false⟩:Fm) x8 d0.kind).ma))))&&(decide (0≤d0.b)))&&(decide (d0.b≤((getM (⟨(0:Int),(0:Int),(0:Int),false,false⟩:Fm) x8 d0.kind).mb))))&&(((getM (⟨(0:Int),(0:Int),(0:Int),false,false⟩:Fm) x8 d0.kind).sums)||(((nth d0.sums 0)==0)&&(((nth d0.sums 1)==0)&&(((nth d0.sums 2)==0)&&(((nth d0.sums 3)==0)&&true))))))&&(((getM (⟨(0:Int),(0:Int),(0:Int),false,false⟩:Fm) x8 d0.kind).ents)||((d0.entries.length:Int)==0)))) (r_mov rfl) ?_
  refine o_w (v:=.bool (!((((((((hasM x8 d0.kind)&&(x28.2==0))&&(decide (((getM (⟨(0:Int),(0:Int),(0:Int),false,false⟩:Fm) x8 d0.kind).la)≤d0.a)))&&(decide (d0.a≤((getM (⟨(0:Int),(0:Int),(0:Int),false,false⟩:Fm) x8 d0.kind).ma))))&&(decide (0≤d0.b)))&&(decide (d0.b≤((getM (⟨(0:Int),(0:Int),(0:Int),false,false⟩:Fm) x8 d0.kind).mb))))&&(((getM (⟨(0:Int),(0:Int),(0:Int),false,false⟩:Fm) x8 d0.kind).sums)||(((nth d0.sums 0)==0)&&(((nth d0.sums 1)==0)&&(((nth d0.sums 2)==0)&&(((nth d0.sums 3)==0)&&true))))))&&(((getM (⟨(0:Int),(0:Int),(0:Int),false,false⟩:Fm) x8 d0.kind).ents)||((d0.entries.length:Int)==0))))) (r_not rfl) ?_
  refine o_w (v:=.bool (!((((((((hasM x8 d0.kind)&&(x28.2==0))&&(decide (((getM (⟨(0:Int),(0:Int),(0:Int),false,false⟩:Fm) x8 d0.kind).la)≤d0.a)))&&(decide (d0.a≤((getM (⟨(0:Int),(0:Int),(0:Int),false,false⟩:Fm) x8 d0.kind).ma))))&&(decide (0≤d0.b)))&&(decide (d0.b≤((getM (⟨(0:Int),(0:Int),(0:Int),false,false⟩:Fm) x8 d0.kind).mb))))&&(((getM (⟨(0:Int),(0:Int),(0:Int),false,false⟩:Fm) x8 d0.kind).sums)||(((nth d0.sums 0)==0)&&(((nth d0.sums 1)==0)&&(((nth d0.sums 2)==0)&&(((nth d0.sums 3)==0)&&true))))))&&(((getM (⟨(0:Int),(0:Int),(0:Int),false,false⟩:Fm) x8 d0.kind).ents)||((d0.entries.length:Int)==0))))) (r_mov rfl) ?_
  refine o_vg (v:=.pointer (some ⟨b5,7,none⟩)) (want_cf (t:=75) rfl rfl) (fun hk=>(r_fa fld_frame_Frame_4 rfl rfl)) rfl rfl ?_
  refine o_vg (v:=.slice A2 d0.entries.length c3) (want_cf (t:=75) rfl rfl) (fun hk=>(r_ld one_s_api_Entry (gdT hk) ((S5.fr (G27.trans (Fr.ext F28)) sI).now.cell rfl))) rfl rfl ?_
  refine o_vg (v:=.int .i64 (d0.entries.length:Int)) (want_cf (t:=75) rfl rfl) (fun hk=>(r_len_slc un_s_api_Entry (gdT hk))) rfl rfl ?_
  refine o_vg (v:=.bool (decide (8<(d0.entries.length:Int)))) (want_cf (t:=75) rfl rfl) (fun hk=>(r_int (gdT hk) rfl rfl)) rfl rfl ?_
  refine o_w (v:=.bool ((!((((((((hasM x8 d0.kind)&&(x28.2==0))&&(decide (((getM (⟨(0:Int),(0:Int),(0:Int),false,false⟩:Fm) x8 d0.kind).la)≤d0.a)))&&(decide (d0.a≤((getM (⟨(0:Int),(0:Int),(0:Int),false,false⟩:Fm) x8 d0.kind).ma))))&&(decide (0≤d0.b)))&&(decide (d0.b≤((getM (⟨(0:Int),(0:Int),(0:Int),false,false⟩:Fm) x8 d0.kind).mb))))&&(((getM (⟨(0:Int),(0:Int),(0:Int),false,false⟩:Fm) x8 d0.kind).sums)||(((nth d0.sums 0)==0)&&(((nth d0.sums 1)==0)&&(((nth d0.sums 2)==0)&&(((nth d0.sums 3)==0)&&true))))))&&(((getM (⟨(0:Int),(0:Int),(0:Int),false,false⟩:Fm) x8 d0.kind).ents)||((d0.entries.length:Int)==0))))||(decide (8<(d0.entries.length:Int))))) (r_pickOr rfl rfl (fun hf=>(gdT (notT hf)))) ?_
  refine o_w (v:=.bool ((!((((((((hasM x8 d0.kind)&&(x28.2==0))&&(decide (((getM (⟨(0:Int),(0:Int),(0:Int),false,false⟩:Fm) x8 d0.kind).la)≤d0.a)))&&(decide (d0.a≤((getM (⟨(0:Int),(0:Int),(0:Int),false,false⟩:Fm) x8 d0.kind).ma))))&&(decide (0≤d0.b)))&&(decide (d0.b≤((getM (⟨(0:Int),(0:Int),(0:Int),false,false⟩:Fm) x8 d0.kind).mb))))&&(((getM (⟨(0:Int),(0:Int),(0:Int),false,false⟩:Fm) x8 d0.kind).sums)||(((nth d0.sums 0)==0)&&(((nth d0.sums 1)==0)&&(((nth d0.sums 2)==0)&&(((nth d0.sums 3)==0)&&true))))))&&(((getM (⟨(0:Int),(0:Int),(0:Int),false,false⟩:Fm) x8 d0.kind).ents)||((d0.entries.length:Int)==0))))||(decide (8<(d0.entries.length:Int))))) (r_mov rfl) ?_
  refine o_vg (v:=.pointer (some ⟨b5,7,none⟩)) (want_cf (t:=81) rfl rfl) (fun hk=>(r_fa fld_frame_Frame_4 rfl rfl)) rfl rfl ?_
  refine o_vg (v:=.slice A2 d0.entries.length c3) (want_cf (t:=81) rfl rfl) (fun hk=>(r_ld one_s_api_Entry (gdT hk) ((S5.fr (G27.trans (Fr.ext F28)) sI).now.cell rfl))) rfl rfl ?_
  refine o_vg (v:=.func (.func 33) #[] #[]) (want_cf (t:=81) rfl rfl) (fun hk=>(r_mov rfl)) rfl rfl ?_
  obtain ⟨x35,hx35,h⟩:=h
  refine o_callg (V:=.bool x35) cf_slices_ContainsFunc_Entry (want_cf (t:=81) rfl rfl) (fun hk=>(mapv2 (gdT hk) (gdT hk))) (fun hk=>(conf_frame_c d0.entries (H4.up ((G6.trans (Fr.ext F7)).trans (Fr.ext F28)) sI (upc (.inr m23) (fun _ h=>.inl h))) ((hL.fr E29).cons (hB7_b7_7.ex F28).lt) (hx35 hk))) rfl ?_
  intro w35 F35
  have E36:=E29.trans F35
  refine o_w (v:=.bool (((!((((((((hasM x8 d0.kind)&&(x28.2==0))&&(decide (((getM (⟨(0:Int),(0:Int),(0:Int),false,false⟩:Fm) x8 d0.kind).la)≤d0.a)))&&(decide (d0.a≤((getM (⟨(0:Int),(0:Int),(0:Int),false,false⟩:Fm) x8 d0.kind).ma))))&&(decide (0≤d0.b)))&&(decide (d0.b≤((getM (⟨(0:Int),(0:Int),(0:Int),false,false⟩:Fm) x8 d0.kind).mb))))&&(((getM (⟨(0:Int),(0:Int),(0:Int),false,false⟩:Fm) x8 d0.kind).sums)||(((nth d0.sums 0)==0)&&(((nth d0.sums 1)==0)&&(((nth d0.sums 2)==0)&&(((nth d0.sums 3)==0)&&true))))))&&(((getM (⟨(0:Int),(0:Int),(0:Int),false,false⟩:Fm) x8 d0.kind).ents)||((d0.entries.length:Int)==0))))||(decide (8<(d0.entries.length:Int))))||x35)) (r_pickOr rfl rfl (fun hf=>(gdT (notT hf)))) ?_
  refine eo_nil_sq ?_
  refine ec_cond rfl (fun hc41=>?_) (fun hc41=>?_)
  ·replace h:=h.1 hc41
   refine ec_sr ?_
   refine o_w (v:=.int .i64 2) (r_asg rfl) ?_
   refine eo_nil_sq ?_
   refine ec_ret ?_
   refine sq_ret ?_
   subst h
   exact (end1 rfl ⟨_,rfl,E36,rfl⟩)
  ·replace h:=h.2 hc41
   refine ec_skip ?_
   refine sq_n ?_
   refine ec_sr ?_
   refine o_w (v:=.int .i64 0) (r_asg rfl) ?_
   refine eo_nil_sq ?_
   refine ec_ret ?_
   subst h
   exact (end1 rfl ⟨_,rfl,E36,rfl⟩)
def frame_Same_raw (d0:Frm) (d1:Frm) (y:Bool):Prop :=
 (((((d0.kind==d1.kind)&&(d0.a==d1.a))&&(d0.b==d1.b))&&(((nth d0.sums 0)==(nth d1.sums 0))&&(((nth d0.sums 1)==(nth d1.sums 1))&&(((nth d0.sums 2)==(nth d1.sums 2))&&(((nth d0.sums 3)==(nth d1.sums 3))&&true)))))=true→sml d0.entries)∧(y=(((((d0.kind==d1.kind)&&(d0.a==d1.a))&&(d0.b==d1.b))&&(((nth d0.sums 0)==(nth d1.sums 0))&&(((nth d0.sums 1)==(nth d1.sums 1))&&(((nth d0.sums 2)==(nth d1.sums 2))&&(((nth d0.sums 3)==(nth d1.sums 3))&&true)))))&&(allE d0.entries d1.entries)))
set_option maxRecDepth 20000 in
set_option maxHeartbeats 4000000 in
theorem frame_Same_c {L:List Nat} {w:World} {csP0:List Value} (d0:Frm) (HP0:Stb L w (fun w=>kFrm.r w csP0 d0)) {csP1:List Value} (d1:Frm) (HP1:Stb L w (fun w=>kFrm.r w csP1 d1)) (hL:Lt L w) {y:Bool} (h:frame_Same_raw d0 d1 y) :
  Calls Tryz.prog 17 [.agg csP0.toArray,.agg csP1.toArray].toArray w (Ret fun v w'=>Ext w w'∧v=.bool y):=by
 obtain ⟨A2,c3,rfl,H4,hl1⟩:=kFrm_open HP0
 obtain ⟨A6,c7,rfl,H8,hl5⟩:=kFrm_open HP1
 unfold frame_Same_raw at h
 refine calls_ec Tryz.func17 rfl rfl rfl ?_
 refine ec_sr ?_
 refine o_box (cs:=(cFrm d0 A2 c3)) rfl rfl rfl ?_
 intro b9 w9 e9 F9 B9
 have S9:=B9.stb (nin hL e9)
 have G10:Fr L w w9:=Fr.ext F9
 refine o_box (cs:=(cFrm d1 A6 c7)) rfl rfl rfl ?_
 intro b11 w11 e11 F11 B11
 have S11:=B11.stb (nin (hL.fr F9) e11)
 have E12:=F9.trans F11
 have G14:Fr L w9 w11:=Fr.ext F11
 refine o_w (v:=.bool false) (r_asg rfl) ?_
 refine eo_r ?_
 refine o_w (v:=.pointer (some ⟨b9,0,none⟩)) (r_fa fld_frame_Frame_0 rfl rfl) ?_
 refine o_w (v:=.int .i64 d0.kind) (r_ld one_int rfl ((S9.fr G14 sI).now.cell rfl)) ?_
 refine o_w (v:=.pointer (some ⟨b11,0,none⟩)) (r_fa fld_frame_Frame_0 rfl rfl) ?_
 refine o_w (v:=.int .i64 d1.kind) (r_ld one_int rfl (S11.now.cell rfl)) ?_
 refine o_w (v:=.bool (d0.kind==d1.kind)) (r_int rfl rfl rfl) ?_
 refine o_w (v:=.bool (d0.kind==d1.kind)) (r_mov rfl) ?_
 refine o_vg (v:=.pointer (some ⟨b9,1,none⟩)) (want_ct (t:=10) rfl rfl) (fun hk=>(r_fa fld_frame_Frame_1 rfl rfl)) rfl rfl ?_
 refine o_vg (v:=.int .i64 d0.a) (want_ct (t:=10) rfl rfl) (fun hk=>(r_ld one_int (gdT hk) ((S9.fr G14 sI).now.cell rfl))) rfl rfl ?_
 refine o_vg (v:=.pointer (some ⟨b11,1,none⟩)) (want_ct (t:=10) rfl rfl) (fun hk=>(r_fa fld_frame_Frame_1 rfl rfl)) rfl rfl ?_
 refine o_vg (v:=.int .i64 d1.a) (want_ct (t:=10) rfl rfl) (fun hk=>(r_ld one_int (gdT hk) (S11.now.cell rfl))) rfl rfl ?_
 refine o_vg (v:=.bool (d0.a==d1.a)) (want_ct (t:=10) rfl rfl) (fun hk=>(r_int (gdT hk) (gdT hk) rfl)) rfl rfl ?_
 refine o_w (v:=.bool ((d0.kind==d1.kind)&&(d0.a==d1.a))) (r_pickAnd rfl (fun ht=>(gdT ht)) rfl) ?_
 refine o_w (v:=.bool ((d0.kind==d1.kind)&&(d0.a==d1.a))) (r_mov rfl) ?_
 refine o_vg (v:=.pointer (some ⟨b9,2,none⟩)) (want_ct (t:=17) rfl rfl) (fun hk=>(r_fa fld_frame_Frame_2 rfl rfl)) rfl rfl ?_
 refine o_vg (v:=.int .i64 d0.b) (want_ct (t:=17) rfl rfl) (fun hk=>(r_ld one_int (gdT hk) ((S9.fr G14 sI).now.cell rfl))) rfl rfl ?_
 refine o_vg (v:=.pointer (some ⟨b11,2,none⟩)) (want_ct (t:=17) rfl rfl) (fun hk=>(r_fa fld_frame_Frame_2 rfl rfl)) rfl rfl ?_
 refine o_vg (v:=.int .i64 d1.b) (want_ct (t:=17) rfl rfl) (fun hk=>(r_ld one_int (gdT hk) (S11.now.cell rfl))) rfl rfl ?_
 refine o_vg (v:=.bool (d0.b==d1.b)) (want_ct (t:=17) rfl rfl) (fun hk=>(r_int (gdT hk) (gdT hk) rfl)) rfl rfl ?_
 refine o_w (v:=.bool (((d0.kind==d1.kind)&&(d0.a==d1.a))&&(d0.b==d1.b))) (r_pickAnd rfl (fun ht=>(gdT ht)) rfl) ?_
 refine o_w (v:=.bool (((d0.kind==d1.kind)&&(d0.a==d1.a))&&(d0.b==d1.b))) (r_mov rfl) ?_
 refine o_vg (v:=.pointer (some ⟨b9,3,none⟩)) (want_ct (t:=24) rfl rfl) (fun hk=>(r_fa fld_frame_Frame_3 rfl rfl)) rfl rfl ?_
 refine o_vg (v:=.agg #[.int .i64 (nth d0.sums 0),.int .i64 (nth d0.sums 1),.int .i64 (nth d0.sums 2),.int .i64 (nth d0.sums 3)]) (want_ct (t:=24) rfl rfl) (fun hk=>(r_lda agg_4_int (gdT hk) (vs:=[.int .i64 (nth d0.sums 0),.int .i64 (nth d0.sums 1),.int .i64 (nth d0.sums 2),.int .i64 (nth d0.sums 3)]) rfl ((S9.fr G14 sI).now.part (n:=4) rfl))) rfl rfl ?_
 refine o_vg (v:=.pointer (some ⟨b11,3,none⟩)) (want_ct (t:=24) rfl rfl) (fun hk=>(r_fa fld_frame_Frame_3 rfl rfl)) rfl rfl ?_
 refine o_vg (v:=.agg #[.int .i64 (nth d1.sums 0),.int .i64 (nth d1.sums 1),.int .i64 (nth d1.sums 2),.int .i64 (nth d1.sums 3)]) (want_ct (t:=24) rfl rfl) (fun hk=>(r_lda agg_4_int (gdT hk) (vs:=[.int .i64 (nth d1.sums 0),.int .i64 (nth d1.sums 1),.int .i64 (nth d1.sums 2),.int .i64 (nth d1.sums 3)]) rfl (S11.now.part (n:=4) rfl))) rfl rfl ?_
 refine o_vg (v:=.bool (((nth d0.sums 0)==(nth d1.sums 0))&&(((nth d0.sums 1)==(nth d1.sums 1))&&(((nth d0.sums 2)==(nth d1.sums 2))&&(((nth d0.sums 3)==(nth d1.sums 3))&&true))))) (want_ct (t:=24) rfl rfl) (fun hk=>(r_eqSt eqg_4_int (eqs_4_int (nth d0.sums 0) (nth d0.sums 1) (nth d0.sums 2) (nth d0.sums 3) (nth d1.sums 0) (nth d1.sums 1) (nth d1.sums 2) (nth d1.sums 3)) (gdT hk) (gdT hk))) rfl rfl ?_
 refine o_w (v:=.bool ((((d0.kind==d1.kind)&&(d0.a==d1.a))&&(d0.b==d1.b))&&(((nth d0.sums 0)==(nth d1.sums 0))&&(((nth d0.sums 1)==(nth d1.sums 1))&&(((nth d0.sums 2)==(nth d1.sums 2))&&(((nth d0.sums 3)==(nth d1.sums 3))&&true)))))) (r_pickAnd rfl (fun ht=>(gdT ht)) rfl) ?_
 refine o_w (v:=.bool ((((d0.kind==d1.kind)&&(d0.a==d1.a))&&(d0.b==d1.b))&&(((nth d0.sums 0)==(nth d1.sums 0))&&(((nth d0.sums 1)==(nth d1.sums 1))&&(((nth d0.sums 2)==(nth d1.sums 2))&&(((nth d0.sums 3)==(nth d1.sums 3))&&true)))))) (r_mov rfl) ?_
 refine o_vg (v:=.pointer (some ⟨b9,7,none⟩)) (want_ct (t:=31) rfl rfl) (fun hk=>(r_fa fld_frame_Frame_4 rfl rfl)) rfl rfl ?_
 refine o_vg (v:=.slice A2 d0.entries.length c3) (want_ct (t:=31) rfl rfl) (fun hk=>(r_ld one_s_api_Entry (gdT hk) ((S9.fr G14 sI).now.cell rfl))) rfl rfl ?_
 refine o_vg (v:=.pointer (some ⟨b11,7,none⟩)) (want_ct (t:=31) rfl rfl) (fun hk=>(r_fa fld_frame_Frame_4 rfl rfl)) rfl rfl ?_
 refine o_vg (v:=.slice A6 d1.entries.length c7) (want_ct (t:=31) rfl rfl) (fun hk=>(r_ld one_s_api_Entry (gdT hk) (S11.now.cell rfl))) rfl rfl ?_
 obtain ⟨ha17,h⟩:=h
 refine o_callg (V:=.bool (allE d0.entries d1.entries)) cf_slices_EqualFunc_Entry (want_ct (t:=31) rfl rfl) (fun hk=>(mapv3 (gdT hk) (gdT hk) rfl)) (fun hk=>(slices_EqualFunc_Entry_Same_c d0.entries (H4.fr (G10.trans (Fr.ext F11)) sI) d1.entries (H8.fr (G10.trans (Fr.ext F11)) sI) (hL.fr E12) (eqFunc_ev d0.entries d1.entries (ha17 hk)))) rfl ?_
 intro w16 F16
 have E18:=E12.trans F16
 refine o_w (v:=.bool (((((d0.kind==d1.kind)&&(d0.a==d1.a))&&(d0.b==d1.b))&&(((nth d0.sums 0)==(nth d1.sums 0))&&(((nth d0.sums 1)==(nth d1.sums 1))&&(((nth d0.sums 2)==(nth d1.sums 2))&&(((nth d0.sums 3)==(nth d1.sums 3))&&true)))))&&(allE d0.entries d1.entries))) (r_pickAnd rfl (fun ht=>(gdT ht)) rfl) ?_
 refine o_w (v:=.bool (((((d0.kind==d1.kind)&&(d0.a==d1.a))&&(d0.b==d1.b))&&(((nth d0.sums 0)==(nth d1.sums 0))&&(((nth d0.sums 1)==(nth d1.sums 1))&&(((nth d0.sums 2)==(nth d1.sums 2))&&(((nth d0.sums 3)==(nth d1.sums 3))&&true)))))&&(allE d0.entries d1.entries))) (r_asg rfl) ?_
 refine eo_nil_sq ?_
 refine ec_ret ?_
 subst h
 exact (end1 rfl ⟨_,rfl,E18,rfl⟩)

def formsL:List (Int × Fm):=[((1:Int),(⟨(0:Int),(2147483647:Int),(2147483647:Int),false,true⟩:Fm)),((2:Int),(⟨(0:Int),(2147483647:Int),(2147483647:Int),false,false⟩:Fm)),((3:Int),(⟨(0:Int),(0:Int),(0:Int),true,false⟩:Fm)),((4:Int),(⟨(1:Int),(15:Int),(0:Int),false,true⟩:Fm)),((5:Int),(⟨(0:Int),(0:Int),(0:Int),false,true⟩:Fm)),((6:Int),(⟨(0:Int),(2147483647:Int),(0:Int),false,true⟩:Fm)),((7:Int),(⟨(0:Int),(2147483647:Int),(0:Int),false,false⟩:Fm))]
def formF (k:Int):Fm:=getM (⟨(0:Int),(0:Int),(0:Int),false,false⟩:Fm) formsL k
def noSums (l:List Int):Bool:=(((nth l 0)==0)&&(((nth l 1)==0)&&(((nth l 2)==0)&&(((nth l 3)==0)&&true))))
def headF (f:Frm):Bool:=((((((((hasM formsL f.kind)&&((putD f.sums).2==(0:Int)))&&(decide ((formF f.kind).la≤f.a)))&&(decide (f.a≤(formF f.kind).ma)))&&(decide (0≤f.b)))&&(decide (f.b≤(formF f.kind).mb)))&&((formF f.kind).sums||noSums f.sums))&&((formF f.kind).ents||((f.entries.length:Int)==0)))
def oddF (f:Frm):Bool:=((!(headF f))||(decide (8<(f.entries.length:Int))))||oddE f.entries
def checkF (f:Frm):Int:=bif oddF f then 2 else 0
def sameF (a b:Frm):Bool:=(((((a.kind==b.kind)&&(a.a==b.a))&&(a.b==b.b))&&(((nth a.sums 0)==(nth b.sums 0))&&(((nth a.sums 1)==(nth b.sums 1))&&(((nth a.sums 2)==(nth b.sums 2))&&(((nth a.sums 3)==(nth b.sums 3))&&true)))))&&(allE a.entries b.entries))

theorem oddFr_ev (d:List Ent) (h:sml d) (hd:d.length≤1000000):conf_frame_raw d (oddE d):=by
 obtain ⟨x,hx,h2⟩:=loop_scan (body:=idxf_frame_b1 d) d.length (fun i=>okE (d.getD i default)) (fun i=>(i:Int))
  (fun i hi hp=>⟨fun _=>⟨⟨by omega,by omega⟩,_,⟨h.2 _ (by rw [nth_nat]; exact getD_mem hi),rfl⟩,fun e=>(by rw [nth_nat,checkE_odd,hp] at e; cases e),fun e=>by rw [wrapS hi (by omega)]⟩,fun h=>by simp at h; omega⟩)
  (fun i hi hp=>⟨fun _=>⟨⟨by omega,by omega⟩,_,⟨h.2 _ (by rw [nth_nat]; exact getD_mem hi),rfl⟩,fun e=>rfl,fun e=>(by rw [nth_nat,checkE_odd,hp] at e; cases e)⟩,fun h=>by simp at h; omega⟩)
  ⟨fun h=>by simp at h,fun _=>rfl⟩
 rcases h2 with ⟨h3,h4⟩ | ⟨i,hi,h4,_,h6⟩
 ·refine ⟨(-1:Int),⟨x,hx,fun _ _=>rfl,fun y e=>?_⟩,?_⟩
  ·rw [e] at h3; cases h3
  ·have:d.all okE=true:=by
    rw [List.all_eq_true]; intro e he
    obtain ⟨i,hi,rfl⟩:=List.getElem_of_mem he
    have:=h4 i hi; simpa [hi] using this
   unfold oddE; rw [this]; rfl
 ·refine ⟨(i:Int),⟨x,hx,fun s e=>?_,fun y e=>?_⟩,?_⟩
  ·rw [e] at h6; cases h6
  ·rw [e] at h6; cases h6; rfl
  ·have:d.all okE=false:=by rw [List.all_eq_false]; exact ⟨_,getD_mem hi,by simpa using h4⟩
   unfold oddE; rw [this]; simp
theorem frCheck_ev (f:Frm) (h:sml f.entries) (hl:f.entries.length≤1000000):frame_Check_raw f (checkF f):=by
 refine ⟨formsL,rfl,_,rfl,oddE f.entries,fun _=>oddFr_ev _ h hl,fun hc=>?_,fun hc=>?_⟩
 ·have h1:oddF f=true:=hc
  unfold checkF; rw [h1]; rfl
 ·have h1:oddF f=false:=hc
  unfold checkF; rw [h1]; rfl
theorem frSame_ev (a b:Frm) (h:sml a.entries):frame_Same_raw a b (sameF a b):=⟨fun _=>h,rfl⟩

def frm0:Frm:=⟨(0:Int),(0:Int),(0:Int),[(0:Int),(0:Int),(0:Int),(0:Int)],([]:List Ent)⟩
end Go.Proofs.YtdfjbkoimpjkaaaGreat