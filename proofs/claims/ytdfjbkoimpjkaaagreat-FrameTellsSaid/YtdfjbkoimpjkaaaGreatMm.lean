import Derived.Test.YtdfjbkoimpjkaaaGreatMd
import Derived.Test.YtdfjbkoimpjkaaaGreatEw
namespace Go.Proofs.YtdfjbkoimpjkaaaGreat
open Go Go.RowKit
set_option linter.unusedVariables false
set_option linter.unusedSimpArgs false
/-! ### slots of buckets -/
/-! ### where sums differ -/
/-! ### sums of bytes -/
def getD4 (s:Str):List Int:=[(getO s 0 4).1,(getO s 4 4).1,(getO s 8 4).1,(getO s 12 4).1]
def getD (s:Str):List Int × Int:=bif (s.length:Int) != 16 then ([0,0,0,0],2) else (getD4 s,0)
theorem getDigLoop (s:Str) (hs:s.length≤9223372036854775807):LoopR (digest_Get_b10 s) ((0:Int),(0:Int),(0:Int),(0:Int),(0:Int)) ((4:Int),(getO s 0 4).1,(getO s 4 4).1,(getO s 8 4).1,(getO s 12 4).1):=by
 refine .step (s':=((1:Int),(getO s 0 4).1,(0:Int),(0:Int),(0:Int))) ⟨fun _=>⟨hs,getO s 0 4,rfl,⟨(by decide:(0:Int)≤0),(by decide:(0:Int)<((4:Nat):Int))⟩,rfl⟩,fun c=>absurd c (by show ¬ (decide ((0:Int)<4)=false); decide)⟩ ?_
 refine .step (s':=((2:Int),(getO s 0 4).1,(getO s 4 4).1,(0:Int),(0:Int))) ⟨fun _=>⟨hs,getO s 4 4,rfl,⟨(by decide:(0:Int)≤1),(by decide:(1:Int)<((4:Nat):Int))⟩,rfl⟩,fun c=>absurd c (by show ¬ (decide ((1:Int)<4)=false); decide)⟩ ?_
 refine .step (s':=((3:Int),(getO s 0 4).1,(getO s 4 4).1,(getO s 8 4).1,(0:Int))) ⟨fun _=>⟨hs,getO s 8 4,rfl,⟨(by decide:(0:Int)≤2),(by decide:(2:Int)<((4:Nat):Int))⟩,rfl⟩,fun c=>absurd c (by show ¬ (decide ((2:Int)<4)=false); decide)⟩ ?_
 refine .step (s':=((4:Int),(getO s 0 4).1,(getO s 4 4).1,(getO s 8 4).1,(getO s 12 4).1)) ⟨fun _=>⟨hs,getO s 12 4,rfl,⟨(by decide:(0:Int)≤3),(by decide:(3:Int)<((4:Nat):Int))⟩,rfl⟩,fun c=>absurd c (by show ¬ (decide ((3:Int)<4)=false); decide)⟩ ?_
 exact .done ⟨fun c=>absurd c (by show ¬ (decide ((4:Int)<4)=true); decide),fun _=>rfl⟩
theorem digGet_ev (s:Str):digest_Get_raw s (getD s):=by
 refine ⟨fun c=>by unfold getD; rw [c]; rfl,fun c=>?_⟩
 have hl:s.length≤9223372036854775807:=by
  have:(s.length:Int)=16:=by simpa using c
  omega
 refine ⟨_,getDigLoop s hl,?_⟩
 unfold getD; rw [c]; rfl
end Go.Proofs.YtdfjbkoimpjkaaaGreat