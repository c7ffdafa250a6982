/- DigestTells is true, whatever the input, and the input reads as it did. -/
import Derived.Test.YthbfhgenkhkpfaaGreatKt
import Derived.Test.YthbfhgenkhkpfaaGreatSu1
import Derived.Test.YthbfhgenkhkpfaaGreatSf5
namespace Go.Proofs.YthbfhgenkhkpfaaGreat
open Go Go.ChangeShapes Go.WideShapes Go.ChangeAt Go.RowKit
set_option linter.unusedVariables false
set_option maxRecDepth 100000 in
theorem digestTells_lifted (os:Os) (started:os.Started) (H:Type) (enc:TypeId × Value→H) :
  ReturnsInHanded {} Tryz.checked os 3 .any (Rows.digestTellsSpec.pre6 enc Tryz.prog Tryz.f3 Rows.digestTellsRow.domain false) (Rows.digestTellsSpec.post enc Tryz.prog Tryz.f3 false true false false):=by
 refine returnsInHanded_of_change (C:=Tryz.checked) own_knob started (by kernel_rfl) Tryz.func3
  (ChangeSpec.witness6 (enc:=enc) (C:=Tryz.checked) false ⟨#[],#[.agg #[.int .i64 0,.slice none 0 0,.slice none 0 0],.int .i64 0,.string ByteArray.empty,.agg #[.int .i64 0,.int .i64 0,.int .i64 0,.int .i64 0],.agg #[.int .i64 0,.int .i64 0,.int .i64 0,.int .i64 0],.int .i64 0,.int .i64 0],[]⟩ 8 (by kernel_rfl) (by kernel_rfl) (by kernel_rfl) (by kernel_rfl)) ?_
 intro W base args ds gs before hval0 hW hcnd _
 have hval:∀ (j:Nat) t v,Tryz.f3.params[j]?=some t→args[j]?=some v→Value.okWide Tryz.prog W .any base t v:=hval0
 have hW':=hW
 obtain ⟨p,q,hA0,hV,rfl,hfz,hnd⟩:=hW
 have hA:DataW.TrodAll enc Tryz.prog W 0 (fun _=>true) true Tryz.f3.params.toList args.toList ds p:=hA0
 rw [Tryz.params3] at hA hval
 obtain ⟨v0,vs0,d0,ds0,p0,q0,hargs,rfl,rfl,h0,r0⟩:=trodAll_cons hA
 obtain ⟨v1,vs1,d1,ds1,p1,q1,rfl,rfl,rfl,h1,r1⟩:=trodAll_cons r0
 obtain ⟨v2,vs2,d2,ds2,p2,q2,rfl,rfl,rfl,h2,r2⟩:=trodAll_cons r1
 obtain ⟨v3,vs3,d3,ds3,p3,q3,rfl,rfl,rfl,h3,r3⟩:=trodAll_cons r2
 obtain ⟨v4,vs4,d4,ds4,p4,q4,rfl,rfl,rfl,h4,r4⟩:=trodAll_cons r3
 obtain ⟨v5,vs5,d5,ds5,p5,q5,rfl,rfl,rfl,h5,r5⟩:=trodAll_cons r4
 obtain ⟨v6,vs6,d6,ds6,p6,q6,rfl,rfl,rfl,h6,r6⟩:=trodAll_cons r5
 obtain ⟨rfl,rfl,rfl⟩:=trodAll_nil r6
 obtain rfl:args=#[v0,v1,v2,v3,v4,v5,v6]:=by cases args; simp_all
 obtain ⟨rfl,rfl⟩:=trodVars_none hV
 have k0:=h0
 have k2:=h2
 have k3:=h3
 have k4:=h4
 have lt0:∀ x∈p0,x.block<W.heap.size:=by obtain ⟨m,hm⟩:=k0; exact DataW.trod_lt m _ _ _ hm
 have lt2:∀ x∈p2,x.block<W.heap.size:=by obtain ⟨m,hm⟩:=k2; exact DataW.trod_lt m _ _ _ hm
 have lt3:∀ x∈p3,x.block<W.heap.size:=by obtain ⟨m,hm⟩:=k3; exact DataW.trod_lt m _ _ _ hm
 have lt4:∀ x∈p4,x.block<W.heap.size:=by obtain ⟨m,hm⟩:=k4; exact DataW.trod_lt m _ _ _ hm
 obtain ⟨cs0,rfl,hsz0⟩:=okWide_struct Tryz.underlying25 (hval 0 _ v0 rfl rfl)
 obtain ⟨x0,_,g0,S0⟩:∃ d,cs0.toList.length=kArena.n∧GArena d∧Stb [] W (fun w=>kArena.r w cs0.toList d):=by obtain ⟨m,hm⟩:=h0; exact opens_Arena H enc _ _ _ _ _ _ _ hm
 obtain ⟨a1,rfl,rfl,rfl,w1⟩:=open_int un_int (hval 1 _ v1 rfl rfl) h1
 obtain ⟨s2,rfl⟩:=okWide_string un_string (hval 2 _ v2 rfl rfl)
 obtain ⟨x2,rfl⟩:∃ l:Str,s2=⟨l.toArray⟩:=⟨s2.data.toList,by simp⟩
 have g2:shortL x2:=by obtain ⟨m,hm⟩:=h2; obtain ⟨s',e',_,hs'⟩:=DataW.trod_string un_string hm; simp only [Value.cells,List.cons.injEq,Value.string.injEq,and_true] at e'; subst e'; simpa [shortL,maxLen,size_str] using hs'
 obtain ⟨cs3,rfl,hsz3⟩:=okWide_array Tryz.underlying26 (hval 3 _ v3 rfl rfl)
 obtain ⟨x3,_,g3,S3⟩:∃ d,cs3.toList.length=kI4.n∧(d.length=4∧∀ n∈d,inI n)∧Stb [] W (fun w=>kI4.r w cs3.toList d):=by obtain ⟨m,hm⟩:=h3; exact opens_I4 H enc _ _ _ _ _ _ _ hm
 obtain rfl:cs3=#[.int .i64 (nth x3 0),.int .i64 (nth x3 1),.int .i64 (nth x3 2),.int .i64 (nth x3 3)]:=by have h:=S3.now.2; apply Array.ext'; simpa using h
 obtain ⟨cs4,rfl,hsz4⟩:=okWide_array Tryz.underlying26 (hval 4 _ v4 rfl rfl)
 obtain ⟨x4,_,g4,S4⟩:∃ d,cs4.toList.length=kI4.n∧(d.length=4∧∀ n∈d,inI n)∧Stb [] W (fun w=>kI4.r w cs4.toList d):=by obtain ⟨m,hm⟩:=h4; exact opens_I4 H enc _ _ _ _ _ _ _ hm
 obtain rfl:cs4=#[.int .i64 (nth x4 0),.int .i64 (nth x4 1),.int .i64 (nth x4 2),.int .i64 (nth x4 3)]:=by have h:=S4.now.2; apply Array.ext'; simpa using h
 obtain ⟨a5,rfl,rfl,rfl,w5⟩:=open_int un_int (hval 5 _ v5 rfl rfl) h5
 obtain ⟨a6,rfl,rfl,rfl,w6⟩:=open_int un_int (hval 6 _ v6 rfl rfl) h6
 clear hA0 hval0
 have hc:=law_any (law10_DigestTells_c (L:=[]) x0 S0 a1 x2 x3 g3.1 x4 g4.1 a5 a6 (lt_nil W) (digestTells_row x0 a1 x2 x3 x4 a5 a6 g0 w1 g2 g3 g4 w5 w6))
 try simp only [Array.toArray_toList] at hc
 refine hc.mono fun e W' ⟨he,bel⟩=>?_
 subst he
 exact ⟨_,rfl,_,_,_,[],_,[],hW',trodAll_mk1 (shut_bool un_bool _),(trodAll_cons_mk (Below.trod laid_out (by kernel_rfl) (of_decide_eq_true (by kernel_rfl)) k0 bel lt0) (trodAll_cons_mk (shut_int un_int w1) (trodAll_cons_mk (Below.trod laid_out (by kernel_rfl) (of_decide_eq_true (by kernel_rfl)) k2 bel lt2) (trodAll_cons_mk (Below.trod laid_out (by kernel_rfl) (of_decide_eq_true (by kernel_rfl)) k3 bel lt3) (trodAll_cons_mk (Below.trod laid_out (by kernel_rfl) (of_decide_eq_true (by kernel_rfl)) k4 bel lt4) (trodAll_cons_mk (shut_int un_int w5) (trodAll_cons_mk (shut_int un_int w6) trodAll_mk0))))))),rfl,bel.frame _,fun h=>by cases h⟩
theorem digestTells_closed:joinedFacts Tryz.prog 3 Tryz.f3 Rows.digestTellsSpec Rows.digestTellsRow=true:=by kernel_rfl
theorem digestTells_holds:Rows.DigestTellsSaid :=
 OpenClaim.holds_of_wide 3 Tryz.f3 rfl rfl rfl rfl rfl rfl rfl ⟨rfl,rfl,rfl,rfl,rfl⟩ rfl rfl rfl rfl rfl (by kernel_rfl) Tryz.func3 digestTells_closed
  (of_decide_eq_true (by kernel_rfl)) (by unfold Func.isWrapper; first | (rw [if_pos (by decide +kernel)]; kernel_rfl) | (rw [if_neg (by decide +kernel)]; exact ⟨rfl,rfl⟩))
  (fun os started H enc _=>digestTells_lifted os started H enc)
#print axioms digestTells_holds
end Go.Proofs.YthbfhgenkhkpfaaGreat
