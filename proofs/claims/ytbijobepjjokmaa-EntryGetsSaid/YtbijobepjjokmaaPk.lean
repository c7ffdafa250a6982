/- A number as bytes. -/
import Derived.Test.YtbijobepjjokmaaPa
namespace Go.Proofs.Ytbijobepjjokmaa
open Go Go.RowKit
set_option linter.unusedVariables false
set_option linter.unusedSimpArgs false

def bytesF:Nat→Int→List Int
 | 0,_=>[]
 | k + 1,n=>IntKind.u8.wrap (lo8 n)::bytesF k (sh8 n)
def restF:Nat→Int→Int
 | 0,n=>n
 | k + 1,n=>restF k (sh8 n)
theorem bytesF_length:∀ (k:Nat) (n:Int),(bytesF k n).length=k
 | 0,_=>rfl
 | k + 1,n=>by simp [bytesF,bytesF_length k]
def putO (n w:Int):Str × Int :=
 bif (decide (w<1)||decide (7<w))||decide (n<0) then ([],1) else bif decide (0<restF w.toNat n) then ([],1) else (bstr (bytesF w.toNat n),0)
theorem putO_run (w:Int):∀ (k i:Nat) (n:Int) (pre:List Int),((i + k:Nat):Int)=w→pre.length=i →
  ItR (octet_Put_b66 w) (pre++List.replicate k (0:Int),([]:Str),(0:Int)) (partsF k (i:Int) n) (bif decide (0<restF k n) then .inr (pre++bytesF k n,([]:Str),(1:Int)) else .inl (pre++bytesF k n,([]:Str),(0:Int)))
 | 0,i,n,pre,hi,hl=>by
  cases hr:decide (0<restF 0 n) with
  | true=>exact .stop ⟨fun c=>by simp at c; omega,fun _=>⟨fun _=>by simp [bytesF],fun c=>by have c':decide (0<n)=false:=c; have:decide (0<n)=true:=hr; rw [c'] at this; cases this⟩⟩
  | false=>exact .step ⟨fun c=>by simp at c; omega,fun _=>⟨fun c=>(by have c':decide (0<n)=true:=c; have:decide (0<n)=false:=hr; rw [c'] at this; cases this),fun _=>by simp [bytesF]⟩⟩ .nil
 | k + 1,i,n,pre,hi,hl=>by
  have ih:=putO_run w k (i + 1) (sh8 n) (pre++[IntKind.u8.wrap (lo8 n)]) (by omega) (by simp [hl])
  have e1:((i + 1:Nat):Int)=(i:Int) + 1:=by omega
  have e2:∀ z,pre++[IntKind.u8.wrap (lo8 n)]++z=pre++(IntKind.u8.wrap (lo8 n)::z):=fun z=>by simp
  rw [e1,e2,e2] at ih
  refine .step ⟨fun _=>⟨⟨by omega,by simp; omega⟩,?_⟩,fun c=>by simp at c; omega⟩ ih
  congr 2
  simp only [List.replicate_succ,Int.toNat_natCast]
  rw [List.set_append_right _ _ (by omega)]
  simp [hl]
theorem octPut_ev (n w:Int):octet_Put_raw n w (putO n w):=by
 refine ⟨fun hc=>by unfold putO; rw [hc]; rfl,fun hc=>?_⟩
 have hc':=hc
 simp only [Bool.or_eq_false_iff,decide_eq_false_iff_not] at hc'
 refine ⟨⟨by omega,by omega,by omega⟩,⟨by omega,by omega⟩,_,putO_run w w.toNat 0 n [] (by omega) rfl,?_⟩
 unfold putO
 rw [hc]
 cases hr:decide (0<restF w.toNat n) with
 | true=>exact ⟨fun s e=>(by cases e),fun s e=>(by cases e; rfl)⟩
 | false=>exact ⟨fun s e=>(by cases e; rfl),fun s e=>(by cases e)⟩
theorem putO_len (n w:Int):(putO n w).1.length≤7:=by
 unfold putO
 cases hc:((decide (w<1)||decide (7<w))||decide (n<0)) with
 | true=>simp
 | false =>
  simp only [Bool.or_eq_false_iff,decide_eq_false_iff_not] at hc
  cases hr:decide (0<restF w.toNat n) with
  | true=>simp
  | false=>simp [bstr,bytesF_length]; omega
end Go.Proofs.Ytbijobepjjokmaa
