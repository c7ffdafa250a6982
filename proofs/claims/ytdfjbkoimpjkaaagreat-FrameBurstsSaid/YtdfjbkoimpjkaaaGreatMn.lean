/- Numbers and sums put and got, in plain Lean. -/
import Derived.Test.YtdfjbkoimpjkaaaGreatMm
import Derived.Test.YtdfjbkoimpjkaaaGreatHm
namespace Go.Proofs.YtdfjbkoimpjkaaaGreat
open Go Go.RowKit
set_option linter.unusedVariables false
set_option linter.unusedSimpArgs false
theorem leN_inj:∀ {s t:Str},s.length=t.length→leN s=leN t→s=t
 | [],[],_,_=>rfl
 | [],_::_,h,_=>by cases h
 | _::_,[],h,_=>by cases h
 | a::s,b::t,h,e=>by
  have e':a.toNat + 256 * leN s=b.toNat + 256 * leN t:=e
  have ha:a.toNat<256:=byte_lt a
  have hb:b.toNat<256:=byte_lt b
  have h1:a.toNat=b.toNat:=by omega
  have h2:leN s=leN t:=by omega
  rw [leN_inj (by simpa using h) h2,UInt8.toNat_inj.1 h1]
theorem restF_nat:∀ (k n:Nat),restF k (n:Int)=((n / 256 ^ k:Nat):Int)
 | 0,n=>by show (n:Int)=_; rw [Nat.pow_zero,Nat.div_one]
 | k + 1,n=>by
  show restF k (sh8 (n:Int))=_
  rw [sh8_nat,restF_nat k,Nat.div_div_eq_div_mul,Nat.pow_succ,Nat.mul_comm]
/-- What can be put. -/
theorem putO4 {n : Int} (h : (putO n 4).2 = 0) : (putO n 4).1.length = 4 ∧ (leN (putO n 4).1 : Int) = n := by
  have h0 : 0 ≤ n := by
    rcases Int.lt_or_le n 0 with hn | hn
    · exfalso
      revert h; unfold putO
      rw [show ((decide ((4 : Int) < 1) || decide ((7 : Int) < 4)) || decide (n < 0)) = true by simp; omega]
      intro h; cases h
    · exact hn
  obtain ⟨m, rfl⟩ := Int.eq_ofNat_of_zero_le h0
  have hm : m < 256 ^ 4 := by
    rcases Nat.lt_or_ge m (256 ^ 4) with h1 | h1
    · exact h1
    · exfalso
      revert h; unfold putO
      rw [show ((decide ((4 : Int) < 1) || decide ((7 : Int) < 4)) || decide ((m : Int) < 0)) = false by simp, show (4 : Int).toNat = 4 from rfl, restF_nat]
      have : 0 < m / 256 ^ 4 := Nat.div_pos h1 (by decide)
      rw [show decide ((0 : Int) < ((m / 256 ^ 4 : Nat) : Int)) = true by simp; omega]
      intro h; cases h
  obtain ⟨_, h2, h3⟩ := putO_fit (n := (m : Int)) 4 (by decide) (by decide) h0 (by omega)
  exact ⟨h2, h3⟩
theorem putO_leN {c:Str} (h:c.length=4):putO (leN c:Int) 4=(c,0):=by
 have hl:=leN_lt c
 rw [h] at hl
 obtain ⟨h1,h2,h3⟩:=putO_fit (n:=(leN c:Int)) 4 (by decide) (by decide) (by omega) (by omega)
 have h1':(putO (leN c:Int) 4).2=0:=h1
 have h2':(putO (leN c:Int) 4).1.length=4:=h2
 have h3':leN (putO (leN c:Int) 4).1=leN c:=by
  have:(leN (putO (leN c:Int) 4).1:Int)=leN c:=h3
  omega
 exact Prod.ext (leN_inj (by rw [h2',h]) h3') h1'
theorem putD_ok {l:List Int} (h:(putD l).2=0):(∀ i,i<4→(putO (nth l ((i:Nat):Int)) 4).2=0)∧(putD l).1=(((([]++(putO (nth l ((0:Nat):Int)) 4).1)++(putO (nth l ((1:Nat):Int)) 4).1)++(putO (nth l ((2:Nat):Int)) 4).1)++(putO (nth l ((3:Nat):Int)) 4).1):=by
 revert h
 unfold putD
 simp only [putDF]
 cases h0:((putO (nth l ((0:Nat):Int)) 4).2 != 0) with
 | true=>intro h; cases h
 | false =>
  cases h1:((putO (nth l ((0 + 1:Nat):Int)) 4).2 != 0) with
  | true=>intro h; cases h
  | false =>
   cases h2:((putO (nth l ((0 + 1 + 1:Nat):Int)) 4).2 != 0) with
   | true=>intro h; cases h
   | false =>
    cases h3:((putO (nth l ((0 + 1 + 1 + 1:Nat):Int)) 4).2 != 0) with
    | true=>intro h; cases h
    | false =>
     intro _
     refine ⟨fun i hi=>?_,rfl⟩
     have hi4:i=0∨i=1∨i=2∨i=3:=by omega
     rcases hi4 with rfl | rfl | rfl | rfl
     ·simpa using h0
     ·simpa using h1
     ·simpa using h2
     ·simpa using h3
theorem putD_all {l:List Int} (h:∀ i,i<4→(putO (nth l ((i:Nat):Int)) 4).2=0):putD l=(((([]++(putO (nth l ((0:Nat):Int)) 4).1)++(putO (nth l ((1:Nat):Int)) 4).1)++(putO (nth l ((2:Nat):Int)) 4).1)++(putO (nth l ((3:Nat):Int)) 4).1,0):=by
 unfold putD
 simp only [putDF]
 have h0:((putO (nth l ((0:Nat):Int)) 4).2 != 0)=false:=by rw [h 0 (by decide)]; rfl
 have h1:((putO (nth l ((0 + 1:Nat):Int)) 4).2 != 0)=false:=by rw [h 1 (by decide)]; rfl
 have h2:((putO (nth l ((0 + 1 + 1:Nat):Int)) 4).2 != 0)=false:=by rw [h 2 (by decide)]; rfl
 have h3:((putO (nth l ((0 + 1 + 1 + 1:Nat):Int)) 4).2 != 0)=false:=by rw [h 3 (by decide)]; rfl
 rw [h0,h1,h2,h3]; rfl
theorem cut4 (p0 p1 p2 p3:Str) (h0:p0.length=4) (h1:p1.length=4) (h2:p2.length=4) (h3:p3.length=4) :
  ((((([]++p0)++p1)++p2)++p3).drop 0).take 4=p0∧((((([]++p0)++p1)++p2)++p3).drop 4).take 4=p1∧((((([]++p0)++p1)++p2)++p3).drop 8).take 4=p2∧((((([]++p0)++p1)++p2)++p3).drop 12).take 4=p3:=by
 match p0,h0,p1,h1,p2,h2,p3,h3 with
 | [_,_,_,_],_,[_,_,_,_],_,[_,_,_,_],_,[_,_,_,_],_=>exact ⟨rfl,rfl,rfl,rfl⟩
theorem getO_at (s:Str) (a:Nat) (h:a + 4≤s.length):(getO s (a:Int) 4).1=(leN ((s.drop a).take 4):Int):=by
 unfold getO
 rw [show (decide ((4:Int)<1)||decide ((7:Int)<4))=false from rfl,cond_false,show ((decide ((a:Int)<0)||decide ((s.length:Int)<(a:Int)))||decide ((s.length:Int) - (a:Int)<4))=false by simp; omega]
 rfl
theorem getD4_at {s:Str} (h:s.length=16):getD4 s=[(leN ((s.drop 0).take 4):Int),(leN ((s.drop 4).take 4):Int),(leN ((s.drop 8).take 4):Int),(leN ((s.drop 12).take 4):Int)]:=by
 unfold getD4
 have e0:=getO_at s 0 (by omega)
 have e1:=getO_at s 4 (by omega)
 have e2:=getO_at s 8 (by omega)
 have e3:=getO_at s 12 (by omega)
 rw [show getO s 0 4=getO s ((0:Nat):Int) 4 from rfl,show getO s 4 4=getO s ((4:Nat):Int) 4 from rfl,show getO s 8 4=getO s ((8:Nat):Int) 4 from rfl,show getO s 12 4=getO s ((12:Nat):Int) 4 from rfl,e0,e1,e2,e3]
theorem getD_ok {s:Str} (h:s.length=16):getD s=(getD4 s,0):=by
 unfold getD; rw [show ((s.length:Int) != 16)=false by rw [h]; rfl]; rfl
/-- What is put is got again. -/
theorem get_put {l : List Int} (h : (putD l).2 = 0) : (getD (putD l).1).2 = 0 ∧ nth (getD (putD l).1).1 0 = nth l 0 ∧ nth (getD (putD l).1).1 1 = nth l 1 ∧ nth (getD (putD l).1).1 2 = nth l 2 ∧ nth (getD (putD l).1).1 3 = nth l 3 := by
  obtain ⟨hi, ht⟩ := putD_ok h
  obtain ⟨a0, b0⟩ := putO4 (hi 0 (by decide))
  obtain ⟨a1, b1⟩ := putO4 (hi 1 (by decide))
  obtain ⟨a2, b2⟩ := putO4 (hi 2 (by decide))
  obtain ⟨a3, b3⟩ := putO4 (hi 3 (by decide))
  rw [ht]
  obtain ⟨c0, c1, c2, c3⟩ := cut4 _ _ _ _ a0 a1 a2 a3
  have hl : ((((([] ++ (putO (nth l ((0 : Nat) : Int)) 4).1) ++ (putO (nth l ((1 : Nat) : Int)) 4).1) ++ (putO (nth l ((2 : Nat) : Int)) 4).1) ++ (putO (nth l ((3 : Nat) : Int)) 4).1) : Str).length = 16 := by
    simp only [List.length_append, List.length_nil, a0, a1, a2, a3]
  rw [getD_ok hl, getD4_at hl, c0, c1, c2, c3]
  exact ⟨rfl, b0, b1, b2, b3⟩
/-- What is got is put again. -/
theorem put_get {s : Str} (h : (getD s).2 = 0) : putD (getD s).1 = (s, 0) := by
  have hl : s.length = 16 := by
    revert h; unfold getD
    cases hc : ((s.length : Int) != 16) with
    | true => intro h; cases h
    | false => intro _; have : (s.length : Int) = 16 := by simpa using hc
               omega
  rw [getD_ok hl, getD4_at hl]
  have l0 : ((s.drop 0).take 4).length = 4 := by simp; omega
  have l1 : ((s.drop 4).take 4).length = 4 := by simp; omega
  have l2 : ((s.drop 8).take 4).length = 4 := by simp; omega
  have l3 : ((s.drop 12).take 4).length = 4 := by simp; omega
  rw [putD_all (fun i hi => ?_)]
  · refine Prod.ext ?_ rfl
    show (((([] ++ (putO (leN ((s.drop 0).take 4) : Int) 4).1) ++ (putO (leN ((s.drop 4).take 4) : Int) 4).1) ++ (putO (leN ((s.drop 8).take 4) : Int) 4).1) ++ (putO (leN ((s.drop 12).take 4) : Int) 4).1 : Str) = s
    rw [putO_leN l0, putO_leN l1, putO_leN l2, putO_leN l3]
    match s, hl with
    | [_, _, _, _, _, _, _, _, _, _, _, _, _, _, _, _], _ => rfl
  · have hi4 : i = 0 ∨ i = 1 ∨ i = 2 ∨ i = 3 := by omega
    rcases hi4 with rfl | rfl | rfl | rfl
    · show (putO (leN ((s.drop 0).take 4) : Int) 4).2 = 0; rw [putO_leN l0]
    · show (putO (leN ((s.drop 4).take 4) : Int) 4).2 = 0; rw [putO_leN l1]
    · show (putO (leN ((s.drop 8).take 4) : Int) 4).2 = 0; rw [putO_leN l2]
    · show (putO (leN ((s.drop 12).take 4) : Int) 4).2 = 0; rw [putO_leN l3]
end Go.Proofs.YtdfjbkoimpjkaaaGreat
