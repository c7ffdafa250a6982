/- DeltaRefuses is true, whatever the input, and the input reads as it did. -/
import Derived.Test.YthhjcijhanacnaaKt
import Derived.Test.YthhjcijhanacnaaSr3
namespace Go.Proofs.Ythhjcijhanacnaa
open Go Go.ChangeShapes Go.WideShapes Go.ChangeAt Go.RowKit
set_option linter.unusedVariables false
set_option maxRecDepth 100000 in
theorem deltaRefuses_lifted (os:Os) (started:os.Started) (H:Type) (enc:TypeId × Value→H) :
  ReturnsInHanded {} Try.checked os 4 .any (Rows.deltaRefusesSpec.pre6 enc Try.prog Try.f4 Rows.deltaRefusesRow.domain false) (Rows.deltaRefusesSpec.post enc Try.prog Try.f4 false true false false):=by
 refine returnsInHanded_of_change (C:=Try.checked) own_knob started (by kernel_rfl) Try.func4
  (ChangeSpec.witness6 (enc:=enc) (C:=Try.checked) false ⟨#[],#[.agg #[.int .i64 0,.slice none 0 0,.slice none 0 0],.int .i64 0,.string ByteArray.empty,.int .i64 0],[]⟩ 8 (by kernel_rfl) (by kernel_rfl) (by kernel_rfl) (by kernel_rfl)) ?_
 intro W base args ds gs before hval0 hW hcnd _
 have hval:∀ (j:Nat) t v,Try.f4.params[j]?=some t→args[j]?=some v→Value.okWide Try.prog W .any base t v:=hval0
 have hW':=hW
 obtain ⟨p,q,hA0,hV,rfl,hfz,hnd⟩:=hW
 have hA:DataW.TrodAll enc Try.prog W 0 (fun _=>true) true Try.f4.params.toList args.toList ds p:=hA0
 rw [Try.params4] at hA hval
 obtain ⟨v0,vs0,d0,ds0,p0,q0,hargs,rfl,rfl,h0,r0⟩:=trodAll_cons hA
 obtain ⟨v1,vs1,d1,ds1,p1,q1,rfl,rfl,rfl,h1,r1⟩:=trodAll_cons r0
 obtain ⟨v2,vs2,d2,ds2,p2,q2,rfl,rfl,rfl,h2,r2⟩:=trodAll_cons r1
 obtain ⟨v3,vs3,d3,ds3,p3,q3,rfl,rfl,rfl,h3,r3⟩:=trodAll_cons r2
 obtain ⟨rfl,rfl,rfl⟩:=trodAll_nil r3
 obtain rfl:args=#[v0,v1,v2,v3]:=by cases args; simp_all
 obtain ⟨rfl,rfl⟩:=trodVars_none hV
 have k0:=h0
 have k2:=h2
 have lt0:∀ x∈p0,x.block<W.heap.size:=by obtain ⟨m,hm⟩:=k0; exact DataW.trod_lt m _ _ _ hm
 have lt2:∀ x∈p2,x.block<W.heap.size:=by obtain ⟨m,hm⟩:=k2; exact DataW.trod_lt m _ _ _ hm
 obtain ⟨cs0,rfl,hsz0⟩:=okWide_struct Try.underlying25 (hval 0 _ v0 rfl rfl)
 obtain ⟨x0,_,g0,S0⟩:∃ d,cs0.toList.length=kArena.n∧GArena d∧Stb [] W (fun w=>kArena.r w cs0.toList d):=by obtain ⟨m,hm⟩:=h0; exact opens_Arena H enc _ _ _ _ _ _ _ hm
 obtain ⟨a1,rfl,rfl,rfl,w1⟩:=open_int un_int (hval 1 _ v1 rfl rfl) h1
 obtain ⟨s2,rfl⟩:=okWide_string un_string (hval 2 _ v2 rfl rfl)
 obtain ⟨x2,rfl⟩:∃ l:Str,s2=⟨l.toArray⟩:=⟨s2.data.toList,by simp⟩
 have g2:shortL x2:=by obtain ⟨m,hm⟩:=h2; obtain ⟨s',e',_,hs'⟩:=DataW.trod_string un_string hm; simp only [Value.cells,List.cons.injEq,Value.string.injEq,and_true] at e'; subst e'; simpa [shortL,maxLen,size_str] using hs'
 obtain ⟨a3,rfl,rfl,rfl,w3⟩:=open_int un_int (hval 3 _ v3 rfl rfl) h3
 clear hA0 hval0
 have hc:=law_any (law09_DeltaRefuses_c (L:=[]) x0 S0 a1 x2 a3 (lt_nil W) (deltaRefuses_row x0 a1 x2 a3 g0 w1 g2 w3))
 try simp only [Array.toArray_toList] at hc
 refine hc.mono fun e W' ⟨he,bel⟩=>?_
 subst he
 exact ⟨_,rfl,_,_,_,[],_,[],hW',trodAll_mk1 (shut_bool un_bool _),(trodAll_cons_mk (Below.trod laid_out (by kernel_rfl) (of_decide_eq_true (by kernel_rfl)) k0 bel lt0) (trodAll_cons_mk (shut_int un_int w1) (trodAll_cons_mk (Below.trod laid_out (by kernel_rfl) (of_decide_eq_true (by kernel_rfl)) k2 bel lt2) (trodAll_cons_mk (shut_int un_int w3) trodAll_mk0)))),rfl,bel.frame _,fun h=>by cases h⟩
theorem deltaRefuses_closed:joinedFacts Try.prog 4 Try.f4 Rows.deltaRefusesSpec Rows.deltaRefusesRow=true:=by kernel_rfl
theorem deltaRefuses_holds:Rows.DeltaRefusesSaid :=
 OpenClaim.holds_of_wide 4 Try.f4 rfl rfl rfl rfl rfl rfl rfl ⟨rfl,rfl,rfl,rfl,rfl⟩ rfl rfl rfl rfl rfl (by kernel_rfl) Try.func4 deltaRefuses_closed
  (of_decide_eq_true (by kernel_rfl)) (by unfold Func.isWrapper; first | (rw [if_pos (by decide +kernel)]; kernel_rfl) | (rw [if_neg (by decide +kernel)]; exact ⟨rfl,rfl⟩))
  (fun os started H enc _=>deltaRefuses_lifted os started H enc)
#print axioms deltaRefuses_holds
end Go.Proofs.Ythhjcijhanacnaa
