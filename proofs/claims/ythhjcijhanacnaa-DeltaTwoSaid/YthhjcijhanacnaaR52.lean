/- DeltaTwo is true, whatever the input, and the input reads as it did. -/
import Derived.Test.YthhjcijhanacnaaKt
import Derived.Test.YthhjcijhanacnaaSr2
namespace Go.Proofs.Ythhjcijhanacnaa
open Go Go.ChangeShapes Go.WideShapes Go.ChangeAt Go.RowKit
set_option linter.unusedVariables false
set_option maxRecDepth 100000 in
theorem deltaTwo_lifted (os:Os) (started:os.Started) (H:Type) (enc:TypeId × Value→H) :
  ReturnsInHanded {} Try.checked os 6 .any (Rows.deltaTwoSpec.pre6 enc Try.prog Try.f6 Rows.deltaTwoRow.domain false) (Rows.deltaTwoSpec.post enc Try.prog Try.f6 false true false false):=by
 refine returnsInHanded_of_change (C:=Try.checked) own_knob started (by kernel_rfl) Try.func6
  (ChangeSpec.witness6 (enc:=enc) (C:=Try.checked) false ⟨#[],#[.agg #[.int .i64 0,.slice none 0 0,.slice none 0 0],.int .u8 0,.int .u8 0,.string ByteArray.empty,.int .i64 0,.int .i64 0,.string ByteArray.empty,.string ByteArray.empty],[]⟩ 8 (by kernel_rfl) (by kernel_rfl) (by kernel_rfl) (by kernel_rfl)) ?_
 intro W base args ds gs before hval0 hW hcnd _
 have hval:∀ (j:Nat) t v,Try.f6.params[j]?=some t→args[j]?=some v→Value.okWide Try.prog W .any base t v:=hval0
 have hW':=hW
 obtain ⟨p,q,hA0,hV,rfl,hfz,hnd⟩:=hW
 have hA:DataW.TrodAll enc Try.prog W 0 (fun _=>true) true Try.f6.params.toList args.toList ds p:=hA0
 rw [Try.params6] at hA hval
 obtain ⟨v0,vs0,d0,ds0,p0,q0,hargs,rfl,rfl,h0,r0⟩:=trodAll_cons hA
 obtain ⟨v1,vs1,d1,ds1,p1,q1,rfl,rfl,rfl,h1,r1⟩:=trodAll_cons r0
 obtain ⟨v2,vs2,d2,ds2,p2,q2,rfl,rfl,rfl,h2,r2⟩:=trodAll_cons r1
 obtain ⟨v3,vs3,d3,ds3,p3,q3,rfl,rfl,rfl,h3,r3⟩:=trodAll_cons r2
 obtain ⟨v4,vs4,d4,ds4,p4,q4,rfl,rfl,rfl,h4,r4⟩:=trodAll_cons r3
 obtain ⟨v5,vs5,d5,ds5,p5,q5,rfl,rfl,rfl,h5,r5⟩:=trodAll_cons r4
 obtain ⟨v6,vs6,d6,ds6,p6,q6,rfl,rfl,rfl,h6,r6⟩:=trodAll_cons r5
 obtain ⟨v7,vs7,d7,ds7,p7,q7,rfl,rfl,rfl,h7,r7⟩:=trodAll_cons r6
 obtain ⟨rfl,rfl,rfl⟩:=trodAll_nil r7
 obtain rfl:args=#[v0,v1,v2,v3,v4,v5,v6,v7]:=by cases args; simp_all
 obtain ⟨rfl,rfl⟩:=trodVars_none hV
 have k0:=h0
 have k3:=h3
 have k6:=h6
 have k7:=h7
 have lt0:∀ x∈p0,x.block<W.heap.size:=by obtain ⟨m,hm⟩:=k0; exact DataW.trod_lt m _ _ _ hm
 have lt3:∀ x∈p3,x.block<W.heap.size:=by obtain ⟨m,hm⟩:=k3; exact DataW.trod_lt m _ _ _ hm
 have lt6:∀ x∈p6,x.block<W.heap.size:=by obtain ⟨m,hm⟩:=k6; exact DataW.trod_lt m _ _ _ hm
 have lt7:∀ x∈p7,x.block<W.heap.size:=by obtain ⟨m,hm⟩:=k7; exact DataW.trod_lt m _ _ _ hm
 obtain ⟨cs0,rfl,hsz0⟩:=okWide_struct Try.underlying25 (hval 0 _ v0 rfl rfl)
 obtain ⟨x0,_,g0,S0⟩:∃ d,cs0.toList.length=kArena.n∧GArena d∧Stb [] W (fun w=>kArena.r w cs0.toList d):=by obtain ⟨m,hm⟩:=h0; exact opens_Arena H enc _ _ _ _ _ _ _ hm
 obtain ⟨a1,rfl,rfl,rfl,w1⟩:=open_int un_uint8 (hval 1 _ v1 rfl rfl) h1
 obtain ⟨a2,rfl,rfl,rfl,w2⟩:=open_int un_uint8 (hval 2 _ v2 rfl rfl) h2
 obtain ⟨s3,rfl⟩:=okWide_string un_string (hval 3 _ v3 rfl rfl)
 obtain ⟨x3,rfl⟩:∃ l:Str,s3=⟨l.toArray⟩:=⟨s3.data.toList,by simp⟩
 have g3:shortL x3:=by obtain ⟨m,hm⟩:=h3; obtain ⟨s',e',_,hs'⟩:=DataW.trod_string un_string hm; simp only [Value.cells,List.cons.injEq,Value.string.injEq,and_true] at e'; subst e'; simpa [shortL,maxLen,size_str] using hs'
 obtain ⟨a4,rfl,rfl,rfl,w4⟩:=open_int un_int (hval 4 _ v4 rfl rfl) h4
 obtain ⟨a5,rfl,rfl,rfl,w5⟩:=open_int un_int (hval 5 _ v5 rfl rfl) h5
 obtain ⟨s6,rfl⟩:=okWide_string un_string (hval 6 _ v6 rfl rfl)
 obtain ⟨x6,rfl⟩:∃ l:Str,s6=⟨l.toArray⟩:=⟨s6.data.toList,by simp⟩
 have g6:shortL x6:=by obtain ⟨m,hm⟩:=h6; obtain ⟨s',e',_,hs'⟩:=DataW.trod_string un_string hm; simp only [Value.cells,List.cons.injEq,Value.string.injEq,and_true] at e'; subst e'; simpa [shortL,maxLen,size_str] using hs'
 obtain ⟨s7,rfl⟩:=okWide_string un_string (hval 7 _ v7 rfl rfl)
 obtain ⟨x7,rfl⟩:∃ l:Str,s7=⟨l.toArray⟩:=⟨s7.data.toList,by simp⟩
 have g7:shortL x7:=by obtain ⟨m,hm⟩:=h7; obtain ⟨s',e',_,hs'⟩:=DataW.trod_string un_string hm; simp only [Value.cells,List.cons.injEq,Value.string.injEq,and_true] at e'; subst e'; simpa [shortL,maxLen,size_str] using hs'
 clear hA0 hval0
 have hc:=law_any (law09_DeltaTwo_c (L:=[]) x0 S0 a1 a2 x3 a4 a5 x6 x7 (lt_nil W) (deltaTwo_row x0 a1 a2 x3 a4 a5 x6 x7 g0 w1 w2 g3 w4 w5 g6 g7))
 try simp only [Array.toArray_toList] at hc
 refine hc.mono fun e W' ⟨he,bel⟩=>?_
 subst he
 exact ⟨_,rfl,_,_,_,[],_,[],hW',trodAll_mk1 (shut_bool un_bool _),(trodAll_cons_mk (Below.trod laid_out (by kernel_rfl) (of_decide_eq_true (by kernel_rfl)) k0 bel lt0) (trodAll_cons_mk (shut_int un_uint8 w1) (trodAll_cons_mk (shut_int un_uint8 w2) (trodAll_cons_mk (Below.trod laid_out (by kernel_rfl) (of_decide_eq_true (by kernel_rfl)) k3 bel lt3) (trodAll_cons_mk (shut_int un_int w4) (trodAll_cons_mk (shut_int un_int w5) (trodAll_cons_mk (Below.trod laid_out (by kernel_rfl) (of_decide_eq_true (by kernel_rfl)) k6 bel lt6) (trodAll_cons_mk (Below.trod laid_out (by kernel_rfl) (of_decide_eq_true (by kernel_rfl)) k7 bel lt7) trodAll_mk0)))))))),rfl,bel.frame _,fun h=>by cases h⟩
theorem deltaTwo_closed:joinedFacts Try.prog 6 Try.f6 Rows.deltaTwoSpec Rows.deltaTwoRow=true:=by kernel_rfl
theorem deltaTwo_holds:Rows.DeltaTwoSaid :=
 OpenClaim.holds_of_wide 6 Try.f6 rfl rfl rfl rfl rfl rfl rfl ⟨rfl,rfl,rfl,rfl,rfl⟩ rfl rfl rfl rfl rfl (by kernel_rfl) Try.func6 deltaTwo_closed
  (of_decide_eq_true (by kernel_rfl)) (by unfold Func.isWrapper; first | (rw [if_pos (by decide +kernel)]; kernel_rfl) | (rw [if_neg (by decide +kernel)]; exact ⟨rfl,rfl⟩))
  (fun os started H enc _=>deltaTwo_lifted os started H enc)
#print axioms deltaTwo_holds
end Go.Proofs.Ythhjcijhanacnaa
