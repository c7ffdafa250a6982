/- FrameGets is true, whatever the input, and the input reads as it did. -/
import Derived.Test.YtdfjbkoimpjkaaaGreatKt
import Derived.Test.YtdfjbkoimpjkaaaGreatSv2
namespace Go.Proofs.YtdfjbkoimpjkaaaGreat
open Go Go.ChangeShapes Go.WideShapes Go.ChangeAt Go.RowKit
set_option linter.unusedVariables false
set_option maxRecDepth 100000 in
theorem frameGets_lifted (os:Os) (started:os.Started) (H:Type) (enc:TypeId × Value→H) :
  ReturnsInHanded {} Tryz.checked os 4 .any (Rows.frameGetsSpec.pre6 enc Tryz.prog Tryz.f4 Rows.frameGetsRow.domain false) (Rows.frameGetsSpec.post enc Tryz.prog Tryz.f4 false true false false):=by
 refine returnsInHanded_of_change (C:=Tryz.checked) own_knob started (by kernel_rfl) Tryz.func4
  (ChangeSpec.witness6 (enc:=enc) (C:=Tryz.checked) false ⟨#[],#[.string ByteArray.empty],[]⟩ 8 (by kernel_rfl) (by kernel_rfl) (by kernel_rfl) (by kernel_rfl)) ?_
 intro W base args ds gs before hval0 hW hcnd _
 have hval:∀ (j:Nat) t v,Tryz.f4.params[j]?=some t→args[j]?=some v→Value.okWide Tryz.prog W .any base t v:=hval0
 have hW':=hW
 obtain ⟨p,q,hA0,hV,rfl,hfz,hnd⟩:=hW
 have hA:DataW.TrodAll enc Tryz.prog W 0 (fun _=>true) true Tryz.f4.params.toList args.toList ds p:=hA0
 rw [Tryz.params4] at hA hval
 obtain ⟨v0,vs0,d0,ds0,p0,q0,hargs,rfl,rfl,h0,r0⟩:=trodAll_cons hA
 obtain ⟨rfl,rfl,rfl⟩:=trodAll_nil r0
 obtain rfl:args=#[v0]:=by cases args; simp_all
 obtain ⟨rfl,rfl⟩:=trodVars_none hV
 have k0:=h0
 have lt0:∀ x∈p0,x.block<W.heap.size:=by obtain ⟨m,hm⟩:=k0; exact DataW.trod_lt m _ _ _ hm
 obtain ⟨s0,rfl⟩:=okWide_string un_string (hval 0 _ v0 rfl rfl)
 obtain ⟨x0,rfl⟩:∃ l:Str,s0=⟨l.toArray⟩:=⟨s0.data.toList,by simp⟩
 have g0:shortL x0:=by obtain ⟨m,hm⟩:=h0; obtain ⟨s',e',_,hs'⟩:=DataW.trod_string un_string hm; simp only [Value.cells,List.cons.injEq,Value.string.injEq,and_true] at e'; subst e'; simpa [shortL,maxLen,size_str] using hs'
 clear hA0 hval0
 have hc:=law_any (law14_FrameGets_c (L:=[]) x0 (lt_nil W) (frameGets_row x0 g0))
 try simp only [Array.toArray_toList] at hc
 refine hc.mono fun e W' ⟨he,bel⟩=>?_
 subst he
 exact ⟨_,rfl,_,_,_,[],_,[],hW',trodAll_mk1 (shut_bool un_bool _),(trodAll_cons_mk (Below.trod laid_out (by kernel_rfl) (of_decide_eq_true (by kernel_rfl)) k0 bel lt0) trodAll_mk0),rfl,bel.frame _,fun h=>by cases h⟩
theorem frameGets_closed:joinedFacts Tryz.prog 4 Tryz.f4 Rows.frameGetsSpec Rows.frameGetsRow=true:=by kernel_rfl
theorem frameGets_holds:Rows.FrameGetsSaid :=
 OpenClaim.holds_of_wide 4 Tryz.f4 rfl rfl rfl rfl rfl rfl rfl ⟨rfl,rfl,rfl,rfl,rfl⟩ rfl rfl rfl rfl rfl (by kernel_rfl) Tryz.func4 frameGets_closed
  (of_decide_eq_true (by kernel_rfl)) (by unfold Func.isWrapper; first | (rw [if_pos (by decide +kernel)]; kernel_rfl) | (rw [if_neg (by decide +kernel)]; exact ⟨rfl,rfl⟩))
  (fun os started H enc _=>frameGets_lifted os started H enc)
#print axioms frameGets_holds
end Go.Proofs.YtdfjbkoimpjkaaaGreat
