/- What holds of the join of values: it is the least of those that both are below. -/
import Derived.Test.YthifkdgljapmeaaSc
namespace Go.Proofs.Ythifkdgljapmeaa
open Go Go.RowKit
set_option linter.unusedVariables false
set_option linter.unusedSimpArgs false

/-! ### what lies in a word -/
def inI (n:Int):Prop:=-9223372036854775808≤n∧n<9223372036854775808
def inU (n:Int):Prop:=0≤n∧n<18446744073709551616
structure WfV (v:Val):Prop where
 kind:inI v.kind
 time:inI v.time
 node:inI v.node
 plus:∀ x∈v.plus,inI x
 minus:∀ x∈v.minus,inI x
 flags:inU v.flags
theorem orF_nat {a b:Int} (ha:inU a) (hb:inU b):orF a b=((a.toNat ||| b.toNat:Nat):Int):=by
 obtain ⟨n,rfl⟩:=Int.eq_ofNat_of_zero_le ha.1
 obtain ⟨m,rfl⟩:=Int.eq_ofNat_of_zero_le hb.1
 have hn:n<2 ^ 64:=by have:=ha.2; omega
 have hm:m<2 ^ 64:=by have:=hb.2; omega
 have hnm:n ||| m<2 ^ 64:=Nat.or_lt_two_pow hn hm
 unfold orF
 have e:(BitVec.ofInt IntKind.u64.bits (n:Int) ||| BitVec.ofInt IntKind.u64.bits (m:Int)).toNat=n ||| m:=by
  rw [BitVec.toNat_or,BitVec.toNat_ofInt,BitVec.toNat_ofInt]
  have h64:IntKind.u64.bits=64:=rfl
  rw [h64]
  have e1:((n:Int) % ((2 ^ 64:Nat):Int)).toNat=n:=by omega
  have e2:((m:Int) % ((2 ^ 64:Nat):Int)).toNat=m:=by omega
  rw [e1,e2]
 rw [e]
 have:IntKind.u64.wrap ((n ||| m:Nat):Int)=((n ||| m:Nat):Int):=by
  simp [IntKind.wrap,IntKind.bits,IntKind.signed]
  omega
 rw [this]; simp
theorem orF_in {a b:Int} (ha:inU a) (hb:inU b):inU (orF a b):=by
 rw [orF_nat ha hb]
 have h1:a.toNat<2 ^ 64:=by have:=ha.1; have:=ha.2; omega
 have h2:b.toNat<2 ^ 64:=by have:=hb.1; have:=hb.2; omega
 have:=Nat.or_lt_two_pow h1 h2
 unfold inU; omega
theorem orF_self {a:Int} (ha:inU a):orF a a=a:=by
 rw [orF_nat ha ha,Nat.or_self]; have:=ha.1; omega
theorem orF_comm {a b:Int} (ha:inU a) (hb:inU b):orF a b=orF b a:=by
 rw [orF_nat ha hb,orF_nat hb ha,Nat.or_comm]
theorem orF_assoc {a b c:Int} (ha:inU a) (hb:inU b) (hc:inU c):orF (orF a b) c=orF a (orF b c):=by
 rw [orF_nat (orF_in ha hb) hc,orF_nat ha (orF_in hb hc),orF_nat ha hb,orF_nat hb hc]
 simp only [Int.toNat_natCast,Nat.or_assoc]

/-! ### the greater of two -/
theorem mostL_self (a:List Int):mostL a a=a:=by
 unfold mostL
 apply List.ext_getElem
 ·simp
 ·intro i h1 h2
  simp
theorem mostL_comm (a b:List Int):mostL a b=mostL b a:=by
 unfold mostL
 apply List.ext_getElem
 ·simp; omega
 ·intro i h1 h2
  simp only [List.getElem_zipWith]; omega
theorem mostL_assoc (a b c:List Int):mostL (mostL a b) c=mostL a (mostL b c):=by
 unfold mostL
 apply List.ext_getElem
 ·simp
 ·intro i h1 h2
  simp only [List.getElem_zipWith]; omega
theorem mostL_length (a b:List Int):(mostL a b).length=min a.length b.length:=by unfold mostL; simp
theorem mostL_mem {a b:List Int} {x:Int} (h:x∈mostL a b):x∈a∨x∈b:=by
 unfold mostL at h
 obtain ⟨i,hi,rfl⟩:=List.getElem_of_mem h
 simp only [List.length_zipWith] at hi
 rw [List.getElem_zipWith]
 by_cases hle:a[i]≤b[i]
 ·right; rw [Int.max_eq_right hle]; exact List.getElem_mem _
 ·left; rw [Int.max_eq_left (by omega)]; exact List.getElem_mem _

/-! ### which of two registers is behind: texts in order -/
theorem lt_str {x y:Str}:Op.bytesLess x y=decide (x<y):=bytesLess_eq x y
theorem behind_irrefl (a:Val):behind a a=false:=by
 unfold behind; simp
def ltR (a b:Val):Prop:=a.time<b.time∨(a.time=b.time∧(a.node<b.node∨(a.node=b.node∧((a.dead=false∧b.dead=true)∨(a.dead=b.dead∧a.text<b.text)))))
theorem behind_iff (a b:Val):behind b a=true↔ltR a b:=by
 have hs:(!(Op.bytesLess b.text a.text||b.text==a.text))=true↔a.text<b.text:=by
  rw [lt_str]
  simp only [Bool.not_eq_true',Bool.or_eq_false_iff,decide_eq_false_iff_not,beq_eq_false_iff_ne]
  constructor
  ·rintro ⟨h1,h2⟩
   rcases List.le_iff_lt_or_eq.1 (List.not_lt.1 h1) with h | h
   ·exact h
   ·exact absurd h.symm h2
  ·intro h
   exact ⟨List.lt_asymm h,fun e=>List.lt_irrefl _ (e ▸ h)⟩
 unfold behind ltR
 by_cases h1:b.time=a.time
 ·have e1:(b.time != a.time)=false:=by simp [h1]
  rw [e1,cond_false]
  by_cases h2:b.node=a.node
  ·have e2:(b.node != a.node)=false:=by simp [h2]
   rw [e2,cond_false]
   by_cases h3:b.dead=a.dead
   ·have e3:(!(b.dead==a.dead))=false:=by simp [h3]
    rw [e3,cond_false,hs]
    simp [h1,h2,h3]
   ·have e3:(!(b.dead==a.dead))=true:=by simp [h3]
    rw [e3,cond_true]
    cases hb:b.dead <;> cases ha:a.dead <;> simp_all
  ·have e2:(b.node != a.node)=true:=by simp [h2]
   rw [e2,cond_true,decide_eq_true_eq]
   have h2':¬ a.node=b.node:=fun e=>h2 e.symm
   simp [h1,h2']
 ·have e1:(b.time != a.time)=true:=by simp [h1]
  rw [e1,cond_true,decide_eq_true_eq]
  have h1':¬ a.time=b.time:=fun e=>h1 e.symm
  simp [h1']
theorem ltR_trans {a b c:Val} (h:ltR a b) (k:ltR b c):ltR a c:=by
 unfold ltR at *
 rcases h with h | ⟨h1,h⟩
 ·rcases k with k | ⟨k1,_⟩ <;> (left; omega)
 ·rcases k with k | ⟨k1,k⟩
  ·left; omega
  ·right; refine ⟨by omega,?_⟩
   rcases h with h | ⟨h2,h⟩
   ·rcases k with k | ⟨k2,_⟩ <;> (left; omega)
   ·rcases k with k | ⟨k2,k⟩
    ·left; omega
    ·right; refine ⟨by omega,?_⟩
     rcases h with ⟨h3,h4⟩ | ⟨h3,h4⟩
     ·rcases k with ⟨k3,_⟩ | ⟨k3,_⟩
      ·rw [h4] at k3; cases k3
      ·left; exact ⟨h3,by rw [← k3]; exact h4⟩
     ·rcases k with ⟨k3,k4⟩ | ⟨k3,k4⟩
      ·left; exact ⟨by rw [h3]; exact k3,k4⟩
      ·right; exact ⟨h3.trans k3,List.lt_trans h4 k4⟩
theorem ltR_total (a b:Val):ltR a b∨ltR b a∨(a.time=b.time∧a.node=b.node∧a.dead=b.dead∧a.text=b.text):=by
 unfold ltR
 rcases Int.lt_trichotomy a.time b.time with h | h | h
 ·left; left; exact h
 ·rcases Int.lt_trichotomy a.node b.node with h2 | h2 | h2
  ·left; right; exact ⟨h,.inl h2⟩
  ·cases ha:a.dead <;> cases hb:b.dead
   ·rcases Classical.em (a.text<b.text) with h3 | h3
    ·left; right; exact ⟨h,.inr ⟨h2,.inr ⟨rfl,h3⟩⟩⟩
    ·rcases List.le_iff_lt_or_eq.1 (List.not_lt.1 h3) with h4 | h4
     ·right; left; right; exact ⟨h.symm,.inr ⟨h2.symm,.inr ⟨rfl,h4⟩⟩⟩
     ·right; right; exact ⟨h,h2,rfl,h4.symm⟩
   ·left; right; exact ⟨h,.inr ⟨h2,.inl ⟨rfl,rfl⟩⟩⟩
   ·right; left; right; exact ⟨h.symm,.inr ⟨h2.symm,.inl ⟨rfl,rfl⟩⟩⟩
   ·rcases Classical.em (a.text<b.text) with h3 | h3
    ·left; right; exact ⟨h,.inr ⟨h2,.inr ⟨rfl,h3⟩⟩⟩
    ·rcases List.le_iff_lt_or_eq.1 (List.not_lt.1 h3) with h4 | h4
     ·right; left; right; exact ⟨h.symm,.inr ⟨h2.symm,.inr ⟨rfl,h4⟩⟩⟩
     ·right; right; exact ⟨h,h2,rfl,h4.symm⟩
  ·right; left; right; exact ⟨h.symm,.inl h2⟩
 ·right; left; left; exact h
theorem ltR_irrefl (a:Val):¬ ltR a a:=fun h=>by
 have:=(behind_iff a a).2 h
 rw [behind_irrefl] at this; cases this
theorem ltR_asymm {a b:Val} (h:ltR a b):¬ ltR b a:=fun k=>ltR_irrefl a (ltR_trans h k)

/-! ### the join of two values of a kind -/
structure Ok2 (a b:Val):Prop where
 l:okV a=true
 r:okV b=true
 k:a.kind=b.kind
theorem Ok2.symm {a b:Val} (h:Ok2 a b):Ok2 b a:=⟨h.r,h.l,h.k.symm⟩
theorem kinds_of {a:Val} (h:okV a=true):a.kind=1∨a.kind=2∨a.kind=3:=by
 unfold okV at h
 by_cases h1:a.kind=1
 ·exact .inl h1
 ·by_cases h2:a.kind=2
  ·exact .inr (.inl h2)
  ·have e1:(a.kind==1)=false:=by simpa using h1
   have e2:(a.kind==2)=false:=by simpa using h2
   rw [e1,e2,cond_false,cond_false] at h
   simp only [Bool.and_eq_true,beq_iff_eq] at h
   exact .inr (.inr h.1)
theorem joinV_2 (a b:Val):((joinV a b).2=0)↔Ok2 a b:=by
 unfold joinV
 cases ha:okV a
 ·simp only [Bool.not_false,cond_true]; constructor
  ·intro h; cases h
  ·intro h; have:=h.l; rw [ha] at this; cases this
 ·cases hb:okV b
  ·simp only [Bool.not_true,Bool.not_false,cond_true,cond_false]; constructor
   ·intro h; cases h
   ·intro h; have:=h.r; rw [hb] at this; cases this
  ·cases hk:(a.kind != b.kind)
   ·have hk':a.kind=b.kind:=by simpa using hk
    simp only [Bool.not_true,cond_false]
    constructor
    ·intro _; exact ⟨ha,hb,hk'⟩
    ·intro _; cases (a.kind==1) <;> cases (a.kind==2) <;> rfl
   ·have hk':¬ a.kind=b.kind:=by simpa using hk
    simp only [Bool.not_true,cond_true,cond_false]
    constructor
    ·intro h; cases h
    ·intro h; exact absurd h.k hk'
abbrev J (a b:Val):Val:=(joinV a b).1
theorem J_1 {a b:Val} (h:Ok2 a b) (k:a.kind=1):J a b=bif behind b a then b else a:=by
 have e1:(a.kind != b.kind)=false:=by simpa using h.k
 have e2:(a.kind==1)=true:=by simpa using k
 unfold J joinV; rw [h.l,h.r,e1,e2]; rfl
theorem J_2 {a b:Val} (h:Ok2 a b) (k:a.kind=2):J a b=⟨a.kind,a.time,a.node,a.dead,a.text,mostL a.plus b.plus,mostL a.minus b.minus,0⟩:=by
 have e1:(a.kind != b.kind)=false:=by simpa using h.k
 have e2:(a.kind==1)=false:=by simp [k]
 have e3:(a.kind==2)=true:=by simpa using k
 unfold J joinV; rw [h.l,h.r,e1,e2,e3]; rfl
theorem J_3 {a b:Val} (h:Ok2 a b) (k:a.kind=3):J a b=⟨a.kind,a.time,a.node,a.dead,a.text,[],[],orF a.flags b.flags⟩:=by
 have e1:(a.kind != b.kind)=false:=by simpa using h.k
 have e2:(a.kind==1)=false:=by simp [k]
 have e3:(a.kind==2)=false:=by simp [k]
 unfold J joinV; rw [h.l,h.r,e1,e2,e3]; rfl
theorem ok1 {a:Val} (h:okV a=true) (k:a.kind=1):okR a=true:=by unfold okV at h; rw [k] at h; exact h
theorem ok2 {a:Val} (h:okV a=true) (k:a.kind=2):okC a=true:=by unfold okV at h; rw [k] at h; exact h
theorem ok3 {a:Val} (h:okV a=true) (k:a.kind=3):okF a=true:=by unfold okV at h; rw [k] at h; exact h
theorem noReg_eq {a:Val} (h:noReg a=true):a.time=0∧a.node=0∧a.dead=false∧a.text=[]:=by
 simp only [noReg,Bool.and_eq_true,beq_iff_eq,Bool.not_eq_true'] at h
 exact ⟨h.1,h.2.1,h.2.2.1,h.2.2.2⟩
theorem okR_eq {a:Val} (h:okR a=true):a.plus=[]∧a.minus=[]∧a.flags=0:=by
 simp only [okR,Bool.and_eq_true,beq_iff_eq] at h
 exact ⟨h.2.2.2.2.2.2.1.1,h.2.2.2.2.2.2.1.2,h.2.2.2.2.2.2.2⟩
theorem okC_eq {a:Val} (h:okC a=true):okN a.plus=true∧okN a.minus=true∧noReg a=true∧a.flags=0:=by
 simp only [okC,Bool.and_eq_true,beq_iff_eq] at h
 exact ⟨h.1,h.2.1,h.2.2.1,h.2.2.2⟩
theorem okF_eq {a:Val} (h:okF a=true):noReg a=true∧a.plus=[]∧a.minus=[]:=by
 simp only [okF,Bool.and_eq_true,beq_iff_eq] at h
 exact ⟨h.1,h.2.1,h.2.2⟩
theorem val_ext {a b:Val} (h1:a.kind=b.kind) (h2:a.time=b.time) (h3:a.node=b.node) (h4:a.dead=b.dead) (h5:a.text=b.text) (h6:a.plus=b.plus) (h7:a.minus=b.minus) (h8:a.flags=b.flags):a=b:=by
 cases a; cases b; simp_all
theorem okN_most {a b:List Int} (ha:okN a=true) (hb:okN b=true):okN (mostL a b)=true:=by
 simp only [okN,Bool.and_eq_true,List.all_eq_true,decide_eq_true_eq,beq_iff_eq] at *
 refine ⟨fun x hx=>?_,by rw [mostL_length]; omega⟩
 rcases mostL_mem hx with h | h
 ·exact ha.1 x h
 ·exact hb.1 x h
theorem J_kind {a b:Val} (h:Ok2 a b):(J a b).kind=a.kind:=by
 rcases kinds_of h.l with k | k | k
 ·rw [J_1 h k]; cases behind b a
  ·rfl
  ·exact h.k.symm
 ·rw [J_2 h k]
 ·rw [J_3 h k]
theorem J_ok {a b:Val} (h:Ok2 a b):okV (J a b)=true:=by
 rcases kinds_of h.l with k | k | k
 ·rw [J_1 h k]; cases behind b a
  ·exact h.l
  ·exact h.r
 ·have hb:b.kind=2:=by rw [← h.k]; exact k
  obtain ⟨a1,a2,a3,a4⟩:=okC_eq (ok2 h.l k)
  obtain ⟨b1,b2,b3,b4⟩:=okC_eq (ok2 h.r hb)
  obtain ⟨n1,n2,n3,n4⟩:=noReg_eq a3
  rw [J_2 h k]
  unfold okV
  rw [k]
  show okC _=true
  simp only [okC,okN_most a1 b1,okN_most a2 b2,noReg,n1,n2,n3,n4]
  rfl
 ·obtain ⟨a3,a1,a2⟩:=okF_eq (ok3 h.l k)
  obtain ⟨n1,n2,n3,n4⟩:=noReg_eq a3
  rw [J_3 h k]
  unfold okV
  rw [k]
  show okF _=true
  simp only [okF,noReg,n1,n2,n3,n4]
  rfl
theorem J_wf {a b:Val} (h:Ok2 a b) (ha:WfV a) (hb:WfV b):WfV (J a b):=by
 rcases kinds_of h.l with k | k | k
 ·rw [J_1 h k]; cases behind b a
  ·exact ha
  ·exact hb
 ·rw [J_2 h k]
  refine ⟨ha.kind,ha.time,ha.node,fun x hx=>?_,fun x hx=>?_,⟨Int.le_refl 0,by show (0:Int)<_; decide⟩⟩
  ·rcases mostL_mem hx with h | h
   ·exact ha.plus x h
   ·exact hb.plus x h
  ·rcases mostL_mem hx with h | h
   ·exact ha.minus x h
   ·exact hb.minus x h
 ·rw [J_3 h k]
  exact ⟨ha.kind,ha.time,ha.node,(fun x hx=>by cases hx),(fun x hx=>by cases hx),orF_in ha.flags hb.flags⟩
theorem Ok2.j {a b c:Val} (h:Ok2 a b) (k:Ok2 b c):Ok2 (J a b) c:=⟨J_ok h,k.r,(J_kind h).trans (h.k.trans k.k)⟩
theorem Ok2.j' {a b c:Val} (h:Ok2 a b) (k:Ok2 b c):Ok2 a (J b c):=⟨h.l,J_ok k,h.k.trans (J_kind k).symm⟩
theorem J_self {a:Val} (h:okV a=true) (w:WfV a):J a a=a:=by
 have hh:Ok2 a a:=⟨h,h,rfl⟩
 rcases kinds_of h with k | k | k
 ·rw [J_1 hh k,behind_irrefl]; rfl
 ·rw [J_2 hh k,mostL_self,mostL_self]
  exact val_ext rfl rfl rfl rfl rfl rfl rfl (okC_eq (ok2 h k)).2.2.2.symm
 ·rw [J_3 hh k,orF_self w.flags]
  obtain ⟨_,a1,a2⟩:=okF_eq (ok3 h k)
  exact val_ext rfl rfl rfl rfl rfl a1.symm a2.symm rfl
theorem reg_eq {a b:Val} (h:Ok2 a b) (k:a.kind=1) (e:a.time=b.time∧a.node=b.node∧a.dead=b.dead∧a.text=b.text):a=b:=by
 obtain ⟨a1,a2,a3⟩:=okR_eq (ok1 h.l k)
 obtain ⟨b1,b2,b3⟩:=okR_eq (ok1 h.r (by rw [← h.k]; exact k))
 exact val_ext h.k e.1 e.2.1 e.2.2.1 e.2.2.2 (a1.trans b1.symm) (a2.trans b2.symm) (a3.trans b3.symm)
theorem J_comm {a b:Val} (h:Ok2 a b) (wa:WfV a) (wb:WfV b):J a b=J b a:=by
 rcases kinds_of h.l with k | k | k
 ·have kb:b.kind=1:=by rw [← h.k]; exact k
  rw [J_1 h k,J_1 h.symm kb]
  rcases ltR_total a b with e | e | e
  ·have h2:behind a b=false:=by cases hc:behind a b with
    | false=>rfl
    | true=>exact absurd ((behind_iff b a).1 hc) (ltR_asymm e)
   rw [(behind_iff a b).2 e,h2]; rfl
  ·have h2:behind b a=false:=by cases hc:behind b a with
    | false=>rfl
    | true=>exact absurd ((behind_iff a b).1 hc) (ltR_asymm e)
   rw [(behind_iff b a).2 e,h2]; rfl
  ·have:=reg_eq h k e
   subst this; rfl
 ·have kb:b.kind=2:=by rw [← h.k]; exact k
  obtain ⟨_,_,a3,_⟩:=okC_eq (ok2 h.l k)
  obtain ⟨_,_,b3,_⟩:=okC_eq (ok2 h.r kb)
  obtain ⟨n1,n2,n3,n4⟩:=noReg_eq a3
  obtain ⟨m1,m2,m3,m4⟩:=noReg_eq b3
  rw [J_2 h k,J_2 h.symm kb,mostL_comm a.plus,mostL_comm a.minus,n1,n2,n3,n4,m1,m2,m3,m4,h.k]
 ·have kb:b.kind=3:=by rw [← h.k]; exact k
  obtain ⟨a3,_,_⟩:=okF_eq (ok3 h.l k)
  obtain ⟨b3,_,_⟩:=okF_eq (ok3 h.r kb)
  obtain ⟨n1,n2,n3,n4⟩:=noReg_eq a3
  obtain ⟨m1,m2,m3,m4⟩:=noReg_eq b3
  rw [J_3 h k,J_3 h.symm kb,orF_comm wa.flags wb.flags,n1,n2,n3,n4,m1,m2,m3,m4,h.k]
theorem J_assoc {a b c:Val} (h:Ok2 a b) (hc:Ok2 b c) (wa:WfV a) (wb:WfV b) (wc:WfV c):J (J a b) c=J a (J b c):=by
 rcases kinds_of h.l with k | k | k
 ·have kb:b.kind=1:=by rw [← h.k]; exact k
  rw [J_1 (h.j hc) ((J_kind h).trans k),J_1 (h.j' hc) k,J_1 h k,J_1 hc kb]
  cases hab:behind b a with
  | true =>
   simp only [cond_true]
   cases hbc:behind c b with
   | true =>
    simp only [cond_true]
    have:=(behind_iff a c).2 (ltR_trans ((behind_iff a b).1 hab) ((behind_iff b c).1 hbc))
    rw [this]; rfl
   | false=>simp only [cond_false]; rw [hab]; rfl
  | false =>
   simp only [cond_false]
   cases hbc:behind c b with
   | true=>simp only [cond_true]
   | false =>
    simp only [cond_false,hab]
    cases hac:behind c a with
    | false=>rfl
    | true =>
     exfalso
     have e1:ltR a c:=(behind_iff a c).1 hac
     have n1:¬ ltR a b:=fun e=>by rw [(behind_iff a b).2 e] at hab; cases hab
     have n2:¬ ltR b c:=fun e=>by rw [(behind_iff b c).2 e] at hbc; cases hbc
     rcases ltR_total a b with e | e | e
     ·exact n1 e
     ·exact n2 (ltR_trans e e1)
     ·have:=reg_eq h k e
      subst this; exact n2 e1
 ·have kb:b.kind=2:=by rw [← h.k]; exact k
  rw [J_2 (h.j hc) ((J_kind h).trans k),J_2 (h.j' hc) k,J_2 h k,J_2 hc kb]
  simp only [mostL_assoc]
 ·have kb:b.kind=3:=by rw [← h.k]; exact k
  rw [J_3 (h.j hc) ((J_kind h).trans k),J_3 (h.j' hc) k,J_3 h k,J_3 hc kb]
  simp only [orF_assoc wa.flags wb.flags wc.flags]

/-! ### below -/
theorem belowV_iff (a b:Val):belowV a b=true↔Ok2 a b∧J a b=b:=by
 unfold belowV
 rw [Bool.and_eq_true,beq_iff_eq,joinV_2,sameV_iff]
theorem below_refl {a:Val} (h:okV a=true) (w:WfV a):belowV a a=true:=(belowV_iff a a).2 ⟨⟨h,h,rfl⟩,J_self h w⟩
theorem below_trans {a b c:Val} (wa:WfV a) (wb:WfV b) (wc:WfV c) (h:belowV a b=true) (k:belowV b c=true):belowV a c=true:=by
 obtain ⟨h1,h2⟩:=(belowV_iff a b).1 h
 obtain ⟨k1,k2⟩:=(belowV_iff b c).1 k
 refine (belowV_iff a c).2 ⟨⟨h1.l,k1.r,h1.k.trans k1.k⟩,?_⟩
 have:=J_assoc h1 k1 wa wb wc
 rw [h2,k2] at this
 exact this.symm
theorem below_anti {a b:Val} (wa:WfV a) (wb:WfV b) (h:belowV a b=true) (k:belowV b a=true):a=b:=by
 obtain ⟨h1,h2⟩:=(belowV_iff a b).1 h
 obtain ⟨k1,k2⟩:=(belowV_iff b a).1 k
 rw [J_comm h1 wa wb] at h2
 exact k2.symm.trans h2
theorem below_l {a b:Val} (h:Ok2 a b) (wa:WfV a) (wb:WfV b):belowV a (J a b)=true:=by
 have haa:Ok2 a a:=⟨h.l,h.l,rfl⟩
 refine (belowV_iff _ _).2 ⟨haa.j' h,?_⟩
 have:=J_assoc haa h wa wa wb
 rw [J_self h.l wa] at this
 exact this.symm
theorem below_r {a b:Val} (h:Ok2 a b) (wa:WfV a) (wb:WfV b):belowV b (J a b)=true:=by
 rw [J_comm h wa wb]; exact below_l h.symm wb wa
theorem below_lub {a b c:Val} (h:Ok2 a b) (wa:WfV a) (wb:WfV b) (wc:WfV c):belowV (J a b) c=(belowV a c&&belowV b c):=by
 rw [Bool.eq_iff_iff,Bool.and_eq_true]
 constructor
 ·intro k
  exact ⟨below_trans wa (J_wf h wa wb) wc (below_l h wa wb) k,below_trans wb (J_wf h wa wb) wc (below_r h wa wb) k⟩
 ·rintro ⟨k1,k2⟩
  obtain ⟨a1,a2⟩:=(belowV_iff a c).1 k1
  obtain ⟨b1,b2⟩:=(belowV_iff b c).1 k2
  refine (belowV_iff _ _).2 ⟨h.j b1,?_⟩
  rw [J_assoc h b1 wa wb wc,b2,a2]
end Go.Proofs.Ythifkdgljapmeaa
