/- The number of bytes. -/
import Derived.Test.YtbijobepjjokmaaHa
namespace Go.Proofs.Ytbijobepjjokmaa
open Go Go.RowKit
set_option linter.unusedVariables false
set_option linter.unusedSimpArgs false

/-- Bytes as a number, the first the least. -/
def leN : List UInt8 → Nat
  | [] => 0
  | b :: l => b.toNat + 256 * leN l
theorem leN_lt:∀ (l:List UInt8),leN l<256 ^ l.length
 | []=>by simp [leN]
 | b::l=>by
  have h1:=leN_lt l
  have h2:b.toNat<256:=b.toNat_lt
  have e:256 ^ (b::l).length=256 * 256 ^ l.length:=by rw [List.length_cons,Nat.pow_succ,Nat.mul_comm]
  rw [e]; simp only [leN]; omega
theorem leN_snoc:∀ (l:List UInt8) (b:UInt8),leN (l++[b])=leN l + b.toNat * 256 ^ l.length
 | [],b=>by simp [leN]
 | c::l,b=>by
  simp only [List.cons_append,leN,leN_snoc l b,List.length_cons,Nat.pow_succ]
  rw [Nat.mul_add,← Nat.add_assoc,Nat.mul_left_comm,Nat.mul_comm 256 (256 ^ l.length)]
def getO (s:Str) (at_ w:Int):Int × Int :=
 bif decide (w<1)||decide (7<w) then (0,1) else bif (decide (at_<0)||decide ((s.length:Int)<at_))||decide ((s.length:Int) - at_<w) then (0,2) else ((leN ((s.drop at_.toNat).take w.toNat):Int),0)
theorem pow256 (k:Nat):(256:Nat) ^ k=2 ^ (8 * k):=by rw [show (256:Nat)=2 ^ 8 from rfl,← Nat.pow_mul]
theorem or_step (n b k:Nat) (hn:n<256 ^ k) (hb:b<256) (hk:k<7) :
  IntKind.i64.wrap ((BitVec.ofInt IntKind.i64.bits (n:Int) ||| BitVec.ofInt IntKind.i64.bits (((b:Int)) * 2 ^ (8 * k))).toNat:Int)=((n + b * 256 ^ k:Nat):Int):=by
 have h7:n + b * 256 ^ k<256 ^ 7:=by
  have h1:(256:Nat) ^ (k + 1)≤256 ^ 7:=Nat.pow_le_pow_right (by decide) (by omega)
  have h2:b * 256 ^ k≤255 * 256 ^ k:=Nat.mul_le_mul_right _ (by omega)
  rw [Nat.pow_succ] at h1; omega
 have e7:(256:Nat) ^ 7=72057594037927936:=by decide
 have hbk:b * 256 ^ k<72057594037927936:=by omega
 have hcast:((b:Int)) * 2 ^ (8 * k)=((b * 256 ^ k:Nat):Int):=by rw [pow256]; simp
 have e:(BitVec.ofInt IntKind.i64.bits (n:Int) ||| BitVec.ofInt IntKind.i64.bits (((b:Int)) * 2 ^ (8 * k))).toNat=n + b * 256 ^ k:=by
  rw [hcast]
  show (BitVec.ofInt 64 ((n:Nat):Int) ||| BitVec.ofInt 64 ((b * 256 ^ k:Nat):Int)).toNat=_
  rw [BitVec.toNat_or,BitVec.ofInt_natCast,BitVec.ofInt_natCast,BitVec.toNat_ofNat,BitVec.toNat_ofNat,Nat.mod_eq_of_lt (by omega),Nat.mod_eq_of_lt (by omega)]
  have:=Nat.two_pow_add_eq_or_of_lt (b:=n) (i:=8 * k) (by rw [← pow256]; exact hn) b
  rw [pow256,Nat.mul_comm b,Nat.or_comm,← this,Nat.add_comm]
 rw [e,wrap64 (by omega) (by omega)]
theorem octGet_run (s:Str) (a w:Nat) (hw:w≤7) (hl:a + w≤s.length) (hs:s.length≤9223372036854775807):∀ (k i:Nat),i + k=w →
  LoopR (octet_Get_b3 s (a:Int) (w:Int)) ((leN ((s.drop a).take i):Int),(i:Int)) ((leN ((s.drop a).take w):Int),(w:Int))
 | 0,i,hi=>by
  obtain rfl:i=w:=by omega
  exact .done ⟨fun c=>by simp at c,fun _=>rfl⟩
 | k + 1,i,hi=>by
  have hlen:((s.drop a).take i).length=i:=by simp; omega
  have hlt:=leN_lt ((s.drop a).take i)
  rw [hlen] at hlt
  have e1:IntKind.i64.wrap ((a:Int) + (i:Int))=((a + i:Nat):Int):=by rw [wrap64 (by omega) (by omega)]; omega
  have e2:IntKind.i64.wrap ((8:Int) * (i:Int))=((8 * i:Nat):Int):=by rw [wrap64 (by omega) (by omega)]; omega
  have hb:(s.getD (a + i) default).toNat<256:=(s.getD (a + i) default).toNat_lt
  have e3:IntKind.i64.wrap ((s.getD (a + i) default).toNat:Int)=((s.getD (a + i) default).toNat:Int):=wrap64 (by omega) (by omega)
  have esn:(s.drop a).take (i + 1)=(s.drop a).take i++[s.getD (a + i) default]:=by
   rw [List.take_add_one]; simp [show a + i<s.length by omega]
  have ih:=octGet_run s a w hw hl hs k (i + 1) (by omega)
  rw [esn,leN_snoc,hlen] at ih
  refine .step ⟨fun _=>?_,fun c=>by simp at c; omega⟩ ih
  simp only [e1,e2,nth_nat,e3]
  refine ⟨⟨by omega,by omega⟩,by rw [decide_eq_true_eq]; omega,?_⟩
  have hp:(256:Nat) ^ i≤256 ^ 6:=Nat.pow_le_pow_right (by decide) (by omega)
  have e6:(256:Nat) ^ 6=281474976710656:=by decide
  have hm:(s.getD (a + i) default).toNat * 256 ^ i≤255 * 281474976710656:=Nat.le_trans (Nat.mul_le_mul_right _ (by omega)) (Nat.mul_le_mul_left _ (by omega))
  have e4:min (((8 * i:Nat):Int)).toNat IntKind.i64.bits=8 * i:=by
   show min (((8 * i:Nat):Int)).toNat 64=8 * i
   rw [Int.toNat_natCast]; omega
  rw [e4]
  have e5:IntKind.i64.wrap (((s.getD (a + i) default).toNat:Int) * 2 ^ (8 * i))=((s.getD (a + i) default).toNat:Int) * 2 ^ (8 * i):=by
   have hc:((s.getD (a + i) default).toNat:Int) * 2 ^ (8 * i)=(((s.getD (a + i) default).toNat * 256 ^ i:Nat):Int):=by rw [pow256]; simp
   rw [hc,wrap64 (by omega) (by omega)]
  rw [e5,or_step _ _ _ hlt hb (by omega),wrap64 (n:=(i:Int) + 1) (by omega) (by omega)]
  rfl
theorem octGet_ev (s:Str) (a w:Int) (hs:s.length≤9223372036854775807):octet_Get_raw s a w (getO s a w):=by
 refine ⟨fun hc=>by unfold getO; rw [hc]; rfl,fun hc=>⟨fun hd=>?_,fun hd=>?_⟩⟩
 ·unfold getO
  rw [hc]
  by_cases ha:(decide (a<0)||decide ((s.length:Int)<a))=true
  ·rw [ha]; rfl
  ·have ha':(decide (a<0)||decide ((s.length:Int)<a))=false:=by simpa using ha
   rw [ha'] at hd ⊢
   simp only [Bool.or_eq_false_iff,decide_eq_false_iff_not] at ha'
   rw [wrap64 (by omega) (by omega)] at hd
   rw [hd]; rfl
 ·simp only [Bool.or_eq_false_iff,decide_eq_false_iff_not] at hc hd
  obtain ⟨⟨hd1,hd2⟩,hd3⟩:=hd
  rw [wrap64 (by omega) (by omega)] at hd3
  obtain ⟨m,rfl⟩:=Int.eq_ofNat_of_zero_le (show 0≤a by omega)
  obtain ⟨n,rfl⟩:=Int.eq_ofNat_of_zero_le (show 0≤w by omega)
  refine ⟨_,by simpa [leN] using octGet_run s m n (by omega) (by omega) hs n 0 (by omega),?_⟩
  have h1:(decide ((n:Int)<1)||decide (7<(n:Int)))=false:=by simp; omega
  have h2:((decide ((m:Int)<0)||decide ((s.length:Int)<(m:Int)))||decide ((s.length:Int) - (m:Int)<(n:Int)))=false:=by simp; omega
  unfold getO
  rw [h1,h2]; rfl
end Go.Proofs.Ytbijobepjjokmaa
