/- The reference's number as bytes. -/
import Derived.Test.YtbijobepjjokmaaQa
namespace Go.Proofs.Ytbijobepjjokmaa
open Go Go.RowKit
set_option linter.unusedVariables false
set_option linter.unusedSimpArgs false

theorem lo8_mod {n:Int} (h:0≤n):lo8 n=n % 256:=by
 obtain ⟨k,rfl⟩:=Int.eq_ofNat_of_zero_le h
 unfold lo8
 have e:(BitVec.ofInt IntKind.i64.bits (k:Int) &&& BitVec.ofInt IntKind.i64.bits (255:Int)).toNat=k % 256:=by
  show (BitVec.ofInt 64 (k:Int) &&& BitVec.ofInt 64 (255:Int)).toNat=k % 256
  rw [BitVec.toNat_and,BitVec.ofInt_natCast,BitVec.toNat_ofNat]
  have e2:(BitVec.ofInt 64 (255:Int)).toNat=2 ^ 8 - 1:=by decide
  rw [e2,Nat.and_two_pow_sub_one_eq_mod]
  omega
 rw [e,wrap64 (by omega) (by omega)]
 omega
theorem sh8_div {n:Int} (h:0≤n):sh8 n=n / 256:=by
 unfold sh8
 have e:(2:Int) ^ min ((8:Int)).toNat IntKind.i64.bits=256:=by decide
 rw [e,Int.fdiv_eq_ediv_of_nonneg _ (by decide)]
theorem refO_run (w:Int) (hw:w≤7):∀ (k i:Nat) (n:Int) (pre:List Int),((i + k:Nat):Int)=w→pre.length=i→0≤n→n≤9223372036854775807 →
  LoopR (ref01_Put_b2 w) (n,pre,(i:Int)) (restF k n,pre++bytesF k n,w)
 | 0,i,n,pre,hi,hl,h0,hn=>by
  obtain rfl:(i:Int)=w:=by omega
  exact .done ⟨fun c=>by simp at c,fun _=>by simp [restF,bytesF]⟩
 | k + 1,i,n,pre,hi,hl,h0,hn=>by
  have e1:=lo8_mod h0
  have e2:=sh8_div h0
  have ih:=refO_run w hw k (i + 1) (sh8 n) (pre++[IntKind.u8.wrap (lo8 n)]) (by omega) (by simp [hl]) (by rw [e2]; omega) (by rw [e2]; omega)
  have e3:∀ z,pre++[IntKind.u8.wrap (lo8 n)]++z=pre++(IntKind.u8.wrap (lo8 n)::z):=fun z=>by simp
  rw [e3] at ih
  refine .step ⟨fun _=>⟨⟨by show pre.length + 1≤_; omega,by show (pre.length + 1) * 1≤_; omega⟩,?_⟩,fun c=>by simp at c; omega⟩ ih
  have t1:Int.tdiv n 256=n / 256:=Int.tdiv_eq_ediv_of_nonneg h0
  have t2:Int.tmod n 256=n % 256:=Int.tmod_eq_emod_of_nonneg h0
  show _=Sum.inl (IntKind.i64.wrap (Int.tdiv n 256),pre++[IntKind.u8.wrap (Int.tmod n 256)],IntKind.i64.wrap ((i:Int) + 1))
  rw [t1,t2,e1,e2,wrap64 (n:=n / 256) (by omega) (by omega),wrap64 (n:=(i:Int) + 1) (by omega) (by omega)]
  rfl
theorem refPutO_ev (n w:Int) (hn:n≤9223372036854775807):ref01_Put_raw n w (putO n w):=by
 refine ⟨fun hc=>by unfold putO; rw [hc]; rfl,fun hc=>?_⟩
 have hc':=hc
 simp only [Bool.or_eq_false_iff,decide_eq_false_iff_not] at hc'
 refine ⟨_,refO_run w (by omega) w.toNat 0 n [] (by omega) rfl (by omega) hn,?_⟩
 unfold putO
 rw [hc]
 refine ⟨fun c=>?_,fun c=>?_⟩
 ·have c':decide (0<restF w.toNat n)=true:=c
  rw [c']; rfl
 ·have c':decide (0<restF w.toNat n)=false:=c
  rw [c']; rfl
end Go.Proofs.Ytbijobepjjokmaa
