/- Sums of texts that differ in four bytes that stand next to each other: in plain Lean. -/
import Derived.Test.YtdfjbkoimpjkaaaGreatMb
import Derived.Test.YtdfjbkoimpjkaaaGreatHm
namespace Go.Proofs.YtdfjbkoimpjkaaaGreat
open Go Go.RowKit
set_option linter.unusedVariables false
set_option linter.unusedSimpArgs false

theorem xorC (x y z u:Nat):(x ^^^ y) ^^^ (z ^^^ u)=(x ^^^ z) ^^^ (y ^^^ u):=by
 rw [Nat.xor_assoc,Nat.xor_assoc]; congr 1; rw [← Nat.xor_assoc,Nat.xor_comm y z,Nat.xor_assoc]
def b8 (x:Nat):Nat:=b4 (b4 x)
theorem b8_xor (a b:Nat):b8 (a ^^^ b)=b8 a ^^^ b8 b:=by unfold b8; rw [b4_xor,b4_xor]
theorem b8_256 (h:Nat):b8 (256 * h)=h:=by
 unfold b8; rw [show 256 * h=16 * (16 * h) by omega,b4_16,b4_16]
theorem byN_b8 (n c:Nat) (hc:c<256):byN n c=b8 (n ^^^ c):=by
 unfold byN b8
 rw [stN_b4 _ _ (Nat.mod_lt _ (by decide)),stN_b4 _ _ (by omega)]
 have h:b4 (n ^^^ c % 16) ^^^ c / 16=b4 (n ^^^ c):=by
  conv=>rhs; rw [split16 c]
  rw [b4_xor,b4_xor,b4_xor,b4_16,Nat.xor_assoc,Nat.xor_comm (b4 (c % 16))]
 rw [h]
theorem bN_zero {x:Nat} (h:x<4294967296) (e:bN x=0):x=0:=by
 unfold bN at e
 by_cases hx:x % 2=1
 ·rw [if_pos hx] at e
  have h1:=congrArg (fun z=>z ^^^ 3988292384) e
  simp only [Nat.xor_assoc,Nat.xor_self,Nat.xor_zero,Nat.zero_xor] at h1
  omega
 ·rw [if_neg hx,Nat.xor_zero] at e; omega
theorem b4_zero {x:Nat} (h:x<4294967296) (e:b4 x=0):x=0 :=
 bN_zero h (bN_zero (bN_lt h) (bN_zero (bN_lt (bN_lt h)) (bN_zero (bN_lt (bN_lt (bN_lt h))) e)))
theorem b8_zero {x:Nat} (h:x<4294967296) (e:b8 x=0):x=0:=b4_zero h (b4_zero (b4_lt h) e)
theorem b8_lt {x:Nat} (h:x<4294967296):b8 x<4294967296:=b4_lt (b4_lt h)
theorem b8_0:b8 0=0:=by decide
theorem onN_app (n:Nat) (s t:Str):onN n (s++t)=onN (onN n s) t:=List.foldl_append
theorem onN_cons (n:Nat) (c:UInt8) (s:Str):onN n (c::s)=onN (b8 (n ^^^ c.toNat)) s:=by
 show onN (byN n c.toNat) s=_
 rw [byN_b8 _ _ (byte_lt c)]
/-- Two texts of one length, bit by bit. -/
def xorL (s t : Str) : Str := List.zipWith (fun x y => x ^^^ y) s t
theorem onN_xor:∀ (s t:Str) (a b:Nat),s.length=t.length→onN (a ^^^ b) (xorL s t)=onN a s ^^^ onN b t
 | [],[],a,b,_=>rfl
 | [],_::_,_,_,h=>by cases h
 | _::_,[],_,_,h=>by cases h
 | x::s,y::t,a,b,h=>by
  have e:xorL (x::s) (y::t)=(x ^^^ y)::xorL s t:=rfl
  rw [e,onN_cons,onN_cons,onN_cons,UInt8.toNat_xor,xorC,b8_xor]
  exact onN_xor s t _ _ (by simpa using h)
theorem onN_zeros:∀ (k:Nat) (z:Nat),z<4294967296→onN z (List.replicate k 0)=0→z=0
 | 0,z,_,h=>h
 | k + 1,z,hz,h=>by
  rw [List.replicate_succ,onN_cons] at h
  have h0:z ^^^ (0:UInt8).toNat=z:=Nat.xor_zero z
  rw [h0] at h
  exact b8_zero hz (onN_zeros k _ (b8_lt hz) h)
theorem onN_0:∀ (k:Nat),onN 0 (List.replicate k 0)=0
 | 0=>rfl
 | k + 1=>by
  rw [List.replicate_succ,onN_cons]
  have h0:0 ^^^ (0:UInt8).toNat=0:=rfl
  rw [h0,b8_0,onN_0 k]
/-- A number's low byte, and the rest. -/
theorem split256 (m h : Nat) (hm : m < 256) : m + 256 * h = m ^^^ 256 * h := by
  have := Nat.two_pow_add_eq_or_of_lt (b := m) (i := 8) (by omega) h
  apply Nat.eq_of_testBit_eq
  intro i
  rw [Nat.testBit_xor, show 256 * h = 2 ^ 8 * h by omega, Nat.add_comm, Nat.testBit_two_pow_mul]
  rw [Nat.testBit_two_pow_mul_add h (by omega : m < 2 ^ 8)]
  by_cases hi : i < 8
  · rw [if_pos hi]
    have : ¬ 8 ≤ i := by omega
    simp [this]
  · rw [if_neg hi]
    have h8 : m.testBit i = false := Nat.testBit_lt_two_pow (Nat.lt_of_lt_of_le (show m < 2 ^ 8 by omega) (Nat.pow_le_pow_right (by decide) (by omega)))
    rw [h8]
    have : 8 ≤ i := by omega
    simp [this]
def bK:Nat→Nat→Nat
 | 0,x=>x
 | k + 1,x=>bK k (b8 x)
theorem bK_zero:∀ (k:Nat) {x:Nat},x<4294967296→bK k x=0→x=0
 | 0,_,_,h=>h
 | k + 1,_,hx,h=>b8_zero hx (bK_zero k (b8_lt hx) h)
theorem onN_leN:∀ (c:Str) (n:Nat),onN n c=bK c.length (n ^^^ leN c)
 | [],n=>by show n=n ^^^ 0; rw [Nat.xor_zero]
 | x::c,n=>by
  rw [onN_cons,onN_leN c]
  show _=bK c.length (b8 (n ^^^ (x.toNat + 256 * leN c)))
  rw [split256 _ _ (byte_lt x),← Nat.xor_assoc,b8_xor (n ^^^ x.toNat),b8_256]
theorem xor_cancel (a b:Nat):a ^^^ (b ^^^ a)=b:=by rw [Nat.xor_comm b,← Nat.xor_assoc,Nat.xor_self,Nat.zero_xor]
/-- What is sealed has one sum. -/
theorem on_sealed (t c : Str) (hc : c.length = 4) (h : leN c = crcN t) : onN 4294967295 (t ++ c) = bK 4 4294967295 := by
  rw [onN_app, onN_leN, hc, h]
  unfold crcN
  rw [xor_cancel]
theorem leN_zero:∀ (c:Str),leN c=0→c=List.replicate c.length 0
 | [],_=>rfl
 | x::c,h=>by
  have h':x.toNat + 256 * leN c=0:=h
  have h1:x.toNat=0:=by omega
  have h2:x=0:=UInt8.toNat_inj.1 h1
  subst h2
  rw [List.length_cons,List.replicate_succ,← leN_zero c (by omega)]
/-- Two sealed texts that differ in four bytes at most are one. -/
theorem burst {s x : Str} (k m : Nat) (d : Str) (hd : d.length = 4) (hl : s.length = k + 4 + m) (hx : x = xorL s (List.replicate k 0 ++ d ++ List.replicate m 0))
    (hs : onN 4294967295 s = bK 4 4294967295) (hy : onN 4294967295 x = bK 4 4294967295) : d = List.replicate 4 0 := by
  have h1 := onN_xor s (List.replicate k 0 ++ d ++ List.replicate m 0) 4294967295 0 (by simp [hl, hd]; omega)
  rw [Nat.xor_zero, ← hx, hs, hy, onN_app, onN_app, onN_0, onN_leN d, hd, Nat.zero_xor] at h1
  have h2 : onN (bK 4 (leN d)) (List.replicate m 0) = 0 := by
    have h3 := congrArg (fun z => bK 4 4294967295 ^^^ z) h1
    simp only [Nat.xor_self] at h3
    rw [← Nat.xor_assoc, Nat.xor_self, Nat.zero_xor] at h3
    exact h3.symm
  have hle : leN d < 4294967296 := by
    have := leN_lt d
    rw [hd] at this; exact this
  have hlt : ∀ (k x : Nat), x < 4294967296 → bK k x < 4294967296 := fun k => by
    induction k with
    | zero => exact fun _ h => h
    | succ k ih => exact fun x h => ih _ (b8_lt h)
  have h4 := bK_zero 4 hle (onN_zeros m _ (hlt 4 _ hle) h2)
  have := leN_zero d h4
  rw [hd] at this; exact this
theorem xorL_zeros:∀ (s:Str) (n:Nat),s.length=n→xorL s (List.replicate n 0)=s
 | [],0,_=>rfl
 | [],_ + 1,h=>by cases h
 | x::s,0,h=>by cases h
 | x::s,n + 1,h=>by
  show (x ^^^ 0)::xorL s (List.replicate n 0)=_
  rw [xorL_zeros s n (by simpa using h),UInt8.xor_zero]
end Go.Proofs.YtdfjbkoimpjkaaaGreat
