/- FrameBursts is true, whatever the input, and the input reads as it did. -/
import Derived.Test.YtdfjbkoimpjkaaaGreatKt
import Derived.Test.YtdfjbkoimpjkaaaGreatSv4
namespace Go.Proofs.YtdfjbkoimpjkaaaGreat
open Go Go.ChangeShapes Go.WideShapes Go.ChangeAt Go.RowKit
set_option linter.unusedVariables false
set_option maxRecDepth 100000 in
theorem frameBursts_lifted (os:Os) (started:os.Started) (H:Type) (enc:TypeId × Value→H) :
  ReturnsInHanded {} Tryz.checked os 8 .any (Rows.frameBurstsSpec.pre6 enc Tryz.prog Tryz.f8 Rows.frameBurstsRow.domain false) (Rows.frameBurstsSpec.post enc Tryz.prog Tryz.f8 false true false false):=by
 refine returnsInHanded_of_change (C:=Tryz.checked) own_knob started (by kernel_rfl) Tryz.func8
  (ChangeSpec.witness6 (enc:=enc) (C:=Tryz.checked) false ⟨#[],#[.agg #[.int .i64 0,.int .i64 0,.int .i64 0,.int .i64 0,.int .i64 0,.int .i64 0,.int .i64 0,.slice none 0 0],.int .u16 0,.agg #[.int .u8 0,.int .u8 0,.int .u8 0,.int .u8 0]],[]⟩ 8 (by kernel_rfl) (by kernel_rfl) (by kernel_rfl) (by kernel_rfl)) ?_
 intro W base args ds gs before hval0 hW hcnd _
 have hval:∀ (j:Nat) t v,Tryz.f8.params[j]?=some t→args[j]?=some v→Value.okWide Tryz.prog W .any base t v:=hval0
 have hW':=hW
 obtain ⟨p,q,hA0,hV,rfl,hfz,hnd⟩:=hW
 have hA:DataW.TrodAll enc Tryz.prog W 0 (fun _=>true) true Tryz.f8.params.toList args.toList ds p:=hA0
 rw [Tryz.params8] at hA hval
 obtain ⟨v0,vs0,d0,ds0,p0,q0,hargs,rfl,rfl,h0,r0⟩:=trodAll_cons hA
 obtain ⟨v1,vs1,d1,ds1,p1,q1,rfl,rfl,rfl,h1,r1⟩:=trodAll_cons r0
 obtain ⟨v2,vs2,d2,ds2,p2,q2,rfl,rfl,rfl,h2,r2⟩:=trodAll_cons r1
 obtain ⟨rfl,rfl,rfl⟩:=trodAll_nil r2
 obtain rfl:args=#[v0,v1,v2]:=by cases args; simp_all
 obtain ⟨rfl,rfl⟩:=trodVars_none hV
 have k0:=h0
 have k2:=h2
 have lt0:∀ x∈p0,x.block<W.heap.size:=by obtain ⟨m,hm⟩:=k0; exact DataW.trod_lt m _ _ _ hm
 have lt2:∀ x∈p2,x.block<W.heap.size:=by obtain ⟨m,hm⟩:=k2; exact DataW.trod_lt m _ _ _ hm
 obtain ⟨cs0,rfl,hsz0⟩:=okWide_struct Tryz.underlying25 (hval 0 _ v0 rfl rfl)
 obtain ⟨x0,_,g0,S0⟩:∃ d,cs0.toList.length=kFrm.n∧GFrm d∧Stb [] W (fun w=>kFrm.r w cs0.toList d):=by obtain ⟨m,hm⟩:=h0; exact opens_Frm H enc _ _ _ _ _ _ _ hm
 obtain ⟨a1,rfl,rfl,rfl,w1⟩:=open_int un_uint16 (hval 1 _ v1 rfl rfl) h1
 obtain ⟨cs2,rfl,hsz2⟩:=okWide_array Tryz.underlying46 (hval 2 _ v2 rfl rfl)
 obtain ⟨x2,_,g2,S2⟩:∃ d,cs2.toList.length=kU4.n∧(d.length=4∧(∀ n∈d,inK .u8 n))∧Stb [] W (fun w=>kU4.r w cs2.toList d):=by obtain ⟨m,hm⟩:=h2; exact opens_U4 H enc _ _ _ _ _ _ _ hm
 obtain rfl:cs2=#[.int .u8 (nth x2 0),.int .u8 (nth x2 1),.int .u8 (nth x2 2),.int .u8 (nth x2 3)]:=by have h:=S2.now.2; apply Array.ext'; simpa using h
 clear hA0 hval0
 have hc:=law_any (law14_FrameBursts_c (L:=[]) x0 S0 a1 x2 g2.1 (lt_nil W) (frameBursts_row x0 a1 x2 g0 w1 g2))
 try simp only [Array.toArray_toList] at hc
 refine hc.mono fun e W' ⟨he,bel⟩=>?_
 subst he
 exact ⟨_,rfl,_,_,_,[],_,[],hW',trodAll_mk1 (shut_bool un_bool _),(trodAll_cons_mk (Below.trod laid_out (by kernel_rfl) (of_decide_eq_true (by kernel_rfl)) k0 bel lt0) (trodAll_cons_mk (shut_int un_uint16 w1) (trodAll_cons_mk (Below.trod laid_out (by kernel_rfl) (of_decide_eq_true (by kernel_rfl)) k2 bel lt2) trodAll_mk0))),rfl,bel.frame _,fun h=>by cases h⟩
theorem frameBursts_closed:joinedFacts Tryz.prog 8 Tryz.f8 Rows.frameBurstsSpec Rows.frameBurstsRow=true:=by kernel_rfl
theorem frameBursts_holds:Rows.FrameBurstsSaid :=
 OpenClaim.holds_of_wide 8 Tryz.f8 rfl rfl rfl rfl rfl rfl rfl ⟨rfl,rfl,rfl,rfl,rfl⟩ rfl rfl rfl rfl rfl (by kernel_rfl) Tryz.func8 frameBursts_closed
  (of_decide_eq_true (by kernel_rfl)) (by unfold Func.isWrapper; first | (rw [if_pos (by decide +kernel)]; kernel_rfl) | (rw [if_neg (by decide +kernel)]; exact ⟨rfl,rfl⟩))
  (fun os started H enc _=>frameBursts_lifted os started H enc)
#print axioms frameBursts_holds
end Go.Proofs.YtdfjbkoimpjkaaaGreat
