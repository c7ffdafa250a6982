/- ValueSums is true, whatever the input, and the input reads as it did. -/
import Derived.Test.YtdojgmmpcdbeoaaKt
import Derived.Test.YtdojgmmpcdbeoaaSf8
import Derived.Test.YtdojgmmpcdbeoaaGc7
namespace Go.Proofs.Ytdojgmmpcdbeoaa
open Go Go.ChangeShapes Go.WideShapes Go.ChangeAt Go.RowKit
set_option linter.unusedVariables false
set_option maxRecDepth 100000 in
theorem valueSums_lifted (os:Os) (started:os.Started) (H:Type) (enc:TypeId × Value→H) :
  ReturnsInHanded {} Try.checked os 7 .any (Rows.valueSumsSpec.pre6 enc Try.prog Try.f7 Rows.valueSumsRow.domain false) (Rows.valueSumsSpec.post enc Try.prog Try.f7 false true false false):=by
 refine returnsInHanded_of_change (C:=Try.checked) own_knob started (by kernel_rfl) Try.func7
  (ChangeSpec.witness6 (enc:=enc) (C:=Try.checked) false ⟨#[],#[.agg #[.int .u16 0,.int .u16 0,.int .u16 0,.int .u16 0,.int .u16 0,.int .u16 0,.int .u16 0,.int .u16 0],.agg #[.int .u16 0,.int .u16 0,.int .u16 0,.int .u16 0,.int .u16 0,.int .u16 0,.int .u16 0,.int .u16 0],.agg #[.bool false,.bool false,.bool false,.bool false,.bool false,.bool false,.bool false,.bool false]],[]⟩ 8 (by kernel_rfl) (by kernel_rfl) (by kernel_rfl) (by kernel_rfl)) ?_
 intro W base args ds gs before hval0 hW hcnd _
 have hval:∀ (j:Nat) t v,Try.f7.params[j]?=some t→args[j]?=some v→Value.okWide Try.prog W .any base t v:=hval0
 have hW':=hW
 obtain ⟨p,q,hA0,hV,rfl,hfz,hnd⟩:=hW
 have hA:DataW.TrodAll enc Try.prog W 0 (fun _=>true) true Try.f7.params.toList args.toList ds p:=hA0
 rw [Try.params7] at hA hval
 obtain ⟨v0,vs0,d0,ds0,p0,q0,hargs,rfl,rfl,h0,r0⟩:=trodAll_cons hA
 obtain ⟨v1,vs1,d1,ds1,p1,q1,rfl,rfl,rfl,h1,r1⟩:=trodAll_cons r0
 obtain ⟨v2,vs2,d2,ds2,p2,q2,rfl,rfl,rfl,h2,r2⟩:=trodAll_cons r1
 obtain ⟨rfl,rfl,rfl⟩:=trodAll_nil r2
 obtain rfl:args=#[v0,v1,v2]:=by cases args; simp_all
 obtain ⟨rfl,rfl⟩:=trodVars_none hV
 have k0:=h0
 have k1:=h1
 have k2:=h2
 have lt0:∀ x∈p0,x.block<W.heap.size:=by obtain ⟨m,hm⟩:=k0; exact DataW.trod_lt m _ _ _ hm
 have lt1:∀ x∈p1,x.block<W.heap.size:=by obtain ⟨m,hm⟩:=k1; exact DataW.trod_lt m _ _ _ hm
 have lt2:∀ x∈p2,x.block<W.heap.size:=by obtain ⟨m,hm⟩:=k2; exact DataW.trod_lt m _ _ _ hm
 obtain ⟨cs0,rfl,hsz0⟩:=okWide_array Try.underlying38 (hval 0 _ v0 rfl rfl)
 obtain ⟨x0,_,g0,S0⟩:∃ d,cs0.toList.length=8∧(d.length=8∧∀ n∈d,inK .u16 n)∧Stb [] W (fun w=>(kA (Value.int .u16) 8).r w cs0.toList d):=by obtain ⟨m,hm⟩:=h0; exact opens_u16s H enc _ _ _ _ _ _ _ hm
 obtain rfl:cs0=(arC (Value.int .u16) 8 x0).toArray:=by have h:=S0.now.2; apply Array.ext'; simpa using h
 obtain ⟨cs1,rfl,hsz1⟩:=okWide_array Try.underlying38 (hval 1 _ v1 rfl rfl)
 obtain ⟨x1,_,g1,S1⟩:∃ d,cs1.toList.length=8∧(d.length=8∧∀ n∈d,inK .u16 n)∧Stb [] W (fun w=>(kA (Value.int .u16) 8).r w cs1.toList d):=by obtain ⟨m,hm⟩:=h1; exact opens_u16s H enc _ _ _ _ _ _ _ hm
 obtain rfl:cs1=(arC (Value.int .u16) 8 x1).toArray:=by have h:=S1.now.2; apply Array.ext'; simpa using h
 obtain ⟨cs2,rfl,hsz2⟩:=okWide_array Try.underlying39 (hval 2 _ v2 rfl rfl)
 obtain ⟨x2,_,g2,S2⟩:∃ d,cs2.toList.length=8∧(d.length=8∧∀ n∈d,True)∧Stb [] W (fun w=>(kA (Value.bool) 8).r w cs2.toList d):=by obtain ⟨m,hm⟩:=h2; exact opens_bools H enc _ _ _ _ _ _ _ hm
 obtain rfl:cs2=(arC (Value.bool) 8 x2).toArray:=by have h:=S2.now.2; apply Array.ext'; simpa using h
 clear hA0 hval0
 have hc:=law_any (law06_ValueSums_c (L:=[]) x0 x1 x2 (lt_nil W) ⟨g0.1,fun n hn=>inU16 (g0.2 n hn)⟩ ⟨g1.1,fun n hn=>inU16 (g1.2 n hn)⟩ g2.1)
 try simp only [Array.toArray_toList] at hc
 refine hc.mono fun e W' ⟨he,bel⟩=>?_
 subst he
 exact ⟨_,rfl,_,_,_,[],_,[],hW',trodAll_mk1 (shut_bool un_bool _),(trodAll_cons_mk (Below.trod laid_out (by kernel_rfl) (of_decide_eq_true (by kernel_rfl)) k0 bel lt0) (trodAll_cons_mk (Below.trod laid_out (by kernel_rfl) (of_decide_eq_true (by kernel_rfl)) k1 bel lt1) (trodAll_cons_mk (Below.trod laid_out (by kernel_rfl) (of_decide_eq_true (by kernel_rfl)) k2 bel lt2) trodAll_mk0))),rfl,bel.frame _,fun h=>by cases h⟩
theorem valueSums_closed:joinedFacts Try.prog 7 Try.f7 Rows.valueSumsSpec Rows.valueSumsRow=true:=by kernel_rfl
theorem valueSums_holds:Rows.ValueSumsSaid :=
 OpenClaim.holds_of_wide 7 Try.f7 rfl rfl rfl rfl rfl rfl rfl ⟨rfl,rfl,rfl,rfl,rfl⟩ rfl rfl rfl rfl rfl (by kernel_rfl) Try.func7 valueSums_closed
  (of_decide_eq_true (by kernel_rfl)) (by unfold Func.isWrapper; first | (rw [if_pos (by decide +kernel)]; kernel_rfl) | (rw [if_neg (by decide +kernel)]; exact ⟨rfl,rfl⟩))
  (fun os started H enc _=>valueSums_lifted os started H enc)
#print axioms valueSums_holds
end Go.Proofs.Ytdojgmmpcdbeoaa
