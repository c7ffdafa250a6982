import Derived.Test.YtdfjbkoimpjkaaaGreatGa2
import Derived.Laws.Runes
import Derived.Sort.Walk0
namespace Go.Proofs.YtdfjbkoimpjkaaaGreat
open Go Go.RowKit
set_option linter.unusedVariables false
set_option linter.unusedSimpArgs false

/-! ### loops -/
theorem wrap64 {n:Int} (h0 : -9223372036854775808≤n) (h1:n<9223372036854775808):IntKind.i64.wrap n=n:=by
 simp [IntKind.wrap,IntKind.bits,IntKind.signed]
 omega
theorem wrapS {i n:Nat} (h:i<n) (hn:n≤9223372036854775807):IntKind.i64.wrap ((i:Int) + (1:Int))=((i + 1:Nat):Int):=by
 rw [wrap64 (by omega) (by omega)]; rfl
theorem loop_scan {Y:Type} {body:Int→Int ⊕ (Int ⊕ Y)→Prop} (n:Nat) (p:Nat→Bool) (r:Nat→Y) (hs:∀ i:Nat,i<n→p i=true→body (i:Int) (.inl ((i + 1:Nat):Int)))
  (hb:∀ i:Nat,i<n→p i=false→body (i:Int) (.inr (.inr (r i)))) (he:body (n:Int) (.inr (.inl (n:Int)))) :
  ∃ x,LoopR body (0:Int) x∧((x=.inl (n:Int)∧∀ i,i<n→p i=true)∨∃ i,i<n∧p i=false∧(∀ j,j<i→p j=true)∧x=.inr (r i)):=by
 have key:∀ d i:Nat,i + d=n→(∀ j,j<i→p j=true)→∃ x,LoopR body (i:Int) x∧((x=.inl (n:Int)∧∀ i,i<n→p i=true)∨∃ i,i<n∧p i=false∧(∀ j,j<i→p j=true)∧x=.inr (r i)):=by
  intro d
  induction d with
  | zero=>intro i hi hp; obtain rfl:i=n:=(by omega); exact ⟨_,.done he,.inl ⟨rfl,hp⟩⟩
  | succ d ih =>
   intro i hi hp
   cases hpi:p i with
   | false=>exact ⟨_,.done (hb i (by omega) hpi),.inr ⟨i,by omega,hpi,hp,rfl⟩⟩
   | true =>
    obtain ⟨x,h1,h2⟩:=ih (i + 1) (by omega) (fun j hj=>by
     rcases Nat.lt_or_ge j i with h | h
     ·exact hp j h
     ·obtain rfl:j=i:=by omega
      exact hpi)
    exact ⟨x,.step (hs i (by omega) hpi) h1,h2⟩
 exact key n 0 (by omega) (fun j hj=>by omega)
theorem nth_nat {T:Type} [Inhabited T] (l:List T) (i:Nat):nth l (i:Int)=l.getD i default:=rfl

/-! ### what they are -/
def sm (v:Val):Prop:=v.plus.length≤9223372036854775807∧v.minus.length≤9223372036854775807
instance (v:Val):Decidable (sm v):=inferInstanceAs (Decidable (_∧_))
def sameV (a b:Val):Bool:=a.kind==b.kind&&(a.time==b.time&&(a.node==b.node&&(a.dead==b.dead&&(a.text==b.text&&(a.flags==b.flags&&(a.plus==b.plus&&a.minus==b.minus))))))
theorem sameV_iff {a b:Val}:sameV a b=true↔a=b:=by
 obtain ⟨_,_,_,_,_,_,_,_⟩:=a
 obtain ⟨_,_,_,_,_,_,_,_⟩:=b
 simp only [sameV,Bool.and_eq_true,beq_iff_eq,Val.mk.injEq]
 constructor
 ·rintro ⟨h1,h2,h3,h4,h5,h6,h7,h8⟩; exact ⟨h1,h2,h3,h4,h5,h7,h8,h6⟩
 ·rintro ⟨h1,h2,h3,h4,h5,h7,h8,h6⟩; exact ⟨h1,h2,h3,h4,h5,h6,h7,h8⟩
def okN (l:List Int):Bool:=l.all (fun n=>decide (0≤n)&&decide (n≤65535))&&l.length==8
def noReg (v:Val):Bool:=v.time==0&&(v.node==0&&(!v.dead&&v.text==[]))
def okR (v:Val):Bool:=decide (0≤v.time)&&(decide (v.time≤2147483647)&&(decide (0≤v.node)&&(decide (v.node≤7)&&(decide (v.text.length≤8)&&((!v.dead||v.text==[])&&((v.plus==[]&&v.minus==[])&&v.flags==0))))))
def okC (v:Val):Bool:=okN v.plus&&(okN v.minus&&(noReg v&&v.flags==0))
def okF (v:Val):Bool:=noReg v&&(v.plus==[]&&v.minus==[])
def okV (v:Val):Bool:=bif v.kind==1 then okR v else bif v.kind==2 then okC v else v.kind==3&&okF v
def checkV (v:Val):Int:=bif okV v then 0 else 2
def zeroV:Val:=⟨0,0,0,false,[],[],[],0⟩
def behind (a b:Val):Bool :=
 bif a.time != b.time then decide (b.time<a.time) else bif a.node != b.node then decide (b.node<a.node) else bif !(a.dead==b.dead) then a.dead else !(Op.bytesLess a.text b.text||a.text==b.text)
def mostL (a b:List Int):List Int:=List.zipWith max a b
def orF (a b:Int):Int:=IntKind.u64.wrap ((BitVec.ofInt IntKind.u64.bits a ||| BitVec.ofInt IntKind.u64.bits b).toNat:Int)
def joinV (a b:Val):Val × Int :=
 bif !okV a then (zeroV,2) else bif !okV b then (zeroV,2) else bif a.kind != b.kind then (zeroV,3) else
 bif a.kind==1 then (bif behind b a then b else a,0) else
 bif a.kind==2 then (⟨a.kind,a.time,a.node,a.dead,a.text,mostL a.plus b.plus,mostL a.minus b.minus,0⟩,0) else (⟨a.kind,a.time,a.node,a.dead,a.text,[],[],orF a.flags b.flags⟩,0)
def fewV (v:Val):Bool:=decide (v.text.length≤100)&&(decide (v.plus.length≤40)&&decide (v.minus.length≤40))

/-! ### lists -/
theorem eq_of_nth {a b:List Int} (hl:a.length=b.length) (h:∀ i,i<a.length→(a.getD i default==b.getD i default)=true):(a==b)=true:=by
 rw [beq_iff_eq]
 apply List.ext_getElem hl
 intro i h1 h2
 have:=h i h1
 simpa [h1,h2] using this
theorem ne_of_nth {a b:List Int} {i:Nat} (h:(a.getD i default==b.getD i default)=false):(a==b)=false:=by
 rw [beq_eq_false_iff_ne] at h ⊢
 rintro rfl; exact h rfl
theorem equal_ev (a b:List Int) (ha:a.length≤9223372036854775807):slices_Equal_int_raw a b (a==b):=by
 refine ⟨fun h=>?_,fun h=>?_⟩
 ·have:¬ ((a.length:Int)=b.length):=by simpa using h
  rw [beq_eq_false_iff_ne]; rintro rfl; exact this rfl
 ·have hl:a.length=b.length:=by
   have:¬ (a.length:Int)≠b.length:=by simpa using h
   omega
  obtain ⟨x,hx,h2⟩:=loop_scan (body:=slices_Equal_int_b2 a b) a.length (fun i=>a.getD i default==b.getD i default) (fun _=>false)
   (fun i hi hp=>⟨fun _=>⟨⟨by omega,by omega⟩,⟨by omega,by omega⟩,fun h=>(by rw [nth_nat,nth_nat,bne,hp] at h; cases h),fun _=>by rw [wrapS hi (by omega)]⟩,fun h=>by simp at h; omega⟩)
   (fun i hi hp=>⟨fun _=>⟨⟨by omega,by omega⟩,⟨by omega,by omega⟩,fun _=>rfl,fun h=>(by rw [nth_nat,nth_nat,bne,hp] at h; cases h)⟩,fun h=>by simp at h; omega⟩)
   ⟨fun h=>by simp at h,fun _=>rfl⟩
  refine ⟨x,hx,fun s e=>?_,fun y e=>?_⟩
  ·rcases h2 with ⟨_,h3⟩ | ⟨i,_,_,_,h6⟩
   ·exact eq_of_nth hl h3
   ·rw [e] at h6; cases h6
  ·rcases h2 with ⟨h3,_⟩ | ⟨i,_,h4,_,h6⟩
   ·rw [e] at h3; cases h3
   ·rw [e] at h6; cases h6; exact ne_of_nth h4
theorem counts_ev (l:List Int) (hl:l.length≤9223372036854775807):ref06_counts_raw l (okN l):=by
 obtain ⟨x,hx,h2⟩:=loop_scan (body:=ref06_counts_b1 l) l.length (fun i=>decide (0≤l.getD i default)&&decide (l.getD i default≤65535)) (fun _=>false)
  (fun i hi hp=>by
   simp only [Bool.and_eq_true,decide_eq_true_eq] at hp
   refine ⟨fun _=>⟨⟨by omega,by omega⟩,fun h=>?_,fun _=>⟨⟨by omega,by omega⟩,fun h=>?_,fun _=>by rw [wrapS hi (by omega)]⟩⟩,fun h=>by simp at h; omega⟩
   ·rw [nth_nat] at h; simp only [decide_eq_true_eq] at h; omega
   ·rw [nth_nat] at h; simp only [decide_eq_true_eq] at h; omega)
  (fun i hi hp=>by
   refine ⟨fun _=>⟨⟨by omega,by omega⟩,fun h=>rfl,fun h=>⟨⟨by omega,by omega⟩,fun h=>rfl,fun h'=>?_⟩⟩,fun h=>by simp at h; omega⟩
   rw [nth_nat] at h h'
   simp only [decide_eq_false_iff_not] at h h'
   have:(decide (0≤l.getD i default)&&decide (l.getD i default≤65535))=true:=by simp only [Bool.and_eq_true,decide_eq_true_eq]; omega
   rw [this] at hp; cases hp)
  ⟨fun h=>by simp at h,fun _=>rfl⟩
 refine ⟨x,hx,fun s e=>?_,fun y e=>?_⟩
 ·rcases h2 with ⟨_,h3⟩ | ⟨i,_,_,_,h6⟩
  ·have:l.all (fun n=>decide (0≤n)&&decide (n≤65535))=true:=by
    rw [List.all_eq_true]
    intro n hn
    obtain ⟨i,hi,rfl⟩:=List.getElem_of_mem hn
    have:=h3 i hi
    simpa [hi] using this
   unfold okN; rw [this,Bool.true_and]
   rw [Bool.eq_iff_iff]; simp; omega
  ·rw [e] at h6; cases h6
 ·rcases h2 with ⟨h3,_⟩ | ⟨i,hi,h4,_,h6⟩
  ·rw [e] at h3; cases h3
  ·rw [e] at h6; cases h6
   have:l.all (fun n=>decide (0≤n)&&decide (n≤65535))=false:=by
    rw [List.all_eq_false]
    refine ⟨l[i],List.getElem_mem hi,?_⟩
    simpa [hi] using h4
   unfold okN; rw [this,Bool.false_and]
theorem contains_ev (l:List Int) (hl:l.length≤9223372036854775807):slices_ContainsFunc_int_is_1_raw l (!(l.all (fun n=>decide (0≤n)&&decide (n≤65535)))):=by
 have hodd:∀ n:Int,value_counter_is_1_raw n (!(decide (0≤n)&&decide (n≤65535))):=fun n=>by
  unfold value_counter_is_1_raw
  rw [Bool.eq_iff_iff]; simp
 obtain ⟨x,hx,h2⟩:=loop_scan (body:=slices_IndexFunc_int_is_1_b1 l) l.length (fun i=>decide (0≤l.getD i default)&&decide (l.getD i default≤65535)) (fun i=>(i:Int))
  (fun i hi hp=>⟨fun _=>⟨⟨by omega,by omega⟩,_,hodd _,fun h=>(by rw [nth_nat,hp] at h; cases h),fun _=>by rw [wrapS hi (by omega)]⟩,fun h=>by simp at h; omega⟩)
  (fun i hi hp=>⟨fun _=>⟨⟨by omega,by omega⟩,_,hodd _,fun h=>rfl,fun h=>(by rw [nth_nat,hp] at h; cases h)⟩,fun h=>by simp at h; omega⟩)
  ⟨fun h=>by simp at h,fun _=>rfl⟩
 rcases h2 with ⟨h3,h4⟩ | ⟨i,hi,h4,_,h6⟩
 ·refine ⟨-1,⟨x,hx,fun _ _=>rfl,fun y e=>by rw [e] at h3; cases h3⟩,?_⟩
  have:l.all (fun n=>decide (0≤n)&&decide (n≤65535))=true:=by
   rw [List.all_eq_true]
   intro n hn
   obtain ⟨i,hi,rfl⟩:=List.getElem_of_mem hn
   have:=h4 i hi
   simpa [hi] using this
  rw [this]; rfl
 ·refine ⟨(i:Int),⟨x,hx,fun s e=>(by rw [e] at h6; cases h6),fun y e=>(by rw [e] at h6; cases h6; rfl)⟩,?_⟩
  have:l.all (fun n=>decide (0≤n)&&decide (n≤65535))=false:=by
   rw [List.all_eq_false]
   refine ⟨l[i],List.getElem_mem hi,?_⟩
   simpa [hi] using h4
  rw [this]; simp
theorem same_ev (a b:Val) (ha:sm a) {E:List Int→List Int→Bool→Prop} (hE:E=slices_Equal_int_raw) {raw:Val→Val→Bool→Prop}
  (hr:raw=fun d0 d1 y=>∃ x21,(((((((d0.kind==d1.kind)&&(d0.time==d1.time))&&(d0.node==d1.node))&&(d0.dead==d1.dead))&&(d0.text==d1.text))&&(d0.flags==d1.flags))=true→E d0.plus d1.plus x21)∧(∃ x26,((((((((d0.kind==d1.kind)&&(d0.time==d1.time))&&(d0.node==d1.node))&&(d0.dead==d1.dead))&&(d0.text==d1.text))&&(d0.flags==d1.flags))&&x21)=true→E d0.minus d1.minus x26)∧(y=((((((((d0.kind==d1.kind)&&(d0.time==d1.time))&&(d0.node==d1.node))&&(d0.dead==d1.dead))&&(d0.text==d1.text))&&(d0.flags==d1.flags))&&x21)&&x26)))) :
  raw a b (sameV a b):=by
 subst hr; subst hE
 exact ⟨_,fun _=>equal_ev _ _ ha.1,_,fun _=>equal_ev _ _ ha.2,by simp only [sameV,Bool.and_assoc]⟩
theorem valSame_ev (a b:Val) (ha:sm a):value_Same_raw a b (sameV a b):=same_ev a b ha rfl rfl
theorem refSame_ev (a b:Val) (ha:sm a):ref06_Same_raw a b (sameV a b):=same_ev a b ha rfl rfl

theorem noReg_ev (d:Val):ref06_noReg_raw d (noReg d):=by
 unfold ref06_noReg_raw noReg
 simp only [Bool.and_assoc]
theorem noCount_ev (d:Val) (h:sm d):ref06_noCount_raw d (d.plus==[]&&d.minus==[]):=by
 unfold ref06_noCount_raw
 obtain ⟨h1,h2⟩:=h
 have hw:(IntKind.i64.wrap ((d.plus.length:Int) + (d.minus.length:Int))=0)↔(d.plus.length:Int) + (d.minus.length:Int)=0:=by
  by_cases hs:(d.plus.length:Int) + (d.minus.length:Int)≤9223372036854775807
  ·rw [wrap64 (by omega) (by omega)]
  ·generalize hk:(d.plus.length:Int) + (d.minus.length:Int)=k at *
   have hk2:k≤18446744073709551614:=by omega
   have hk3:9223372036854775808≤k:=by omega
   have:IntKind.i64.wrap k=k - 18446744073709551616:=by
    unfold IntKind.wrap
    simp only [IntKind.signed,IntKind.bits]
    simp
    omega
   rw [this]; omega
 rw [Bool.eq_iff_iff]
 simp only [Bool.and_eq_true,beq_iff_eq,← List.length_eq_zero_iff]
 rw [hw]
 omega
theorem dec_cast {n m:Nat}:decide ((n:Int)≤(m:Int))=decide (n≤m):=by rw [Bool.eq_iff_iff]; simp
theorem dec_lt8 {n:Int}:decide (n<8)=decide (n≤7):=by rw [Bool.eq_iff_iff]; simp; omega
theorem refCheck_ev (d:Val) (h:sm d):ref06_Check_raw d (okV d):=by
 have hl:decide ((d.text.length:Int)≤8)=decide (d.text.length≤8):=dec_cast (m:=8)
 unfold ref06_Check_raw okV okR okC okF
 rw [hl]
 refine ⟨fun k1=>⟨_,fun _=>noCount_ev d h,?_⟩,fun k1=>⟨fun k2=>⟨_,counts_ev _ h.1,_,fun _=>counts_ev _ h.2,_,fun _=>noReg_ev d,?_⟩,fun k2=>⟨_,fun _=>noReg_ev d,_,fun _=>noCount_ev d h,?_⟩⟩⟩
 ·rw [k1,cond_true]; ac_rfl
 ·rw [k1,k2,cond_false,cond_true]; ac_rfl
 ·rw [k1,k2,cond_false,cond_false]; ac_rfl
theorem chk_ev {d:Val} {b:Bool} (e:b=okV d):(b=true→checkV d=0)∧(b=false→checkV d=2):=by
 subst e; unfold checkV
 exact ⟨fun h=>by rw [h]; rfl,fun h=>by rw [h]; rfl⟩
theorem checkV_f {d:Val} (h:okV d=false):checkV d=2:=by unfold checkV; rw [h]; rfl
theorem okN_and (l:List Int):okN l=(((l.length:Int)==8)&&l.all (fun n=>decide (0≤n)&&decide (n≤65535))):=by
 unfold okN; rw [Bool.and_comm]; congr 1; rw [Bool.eq_iff_iff]; simp; omega
theorem sameV_reg (d:Val):sameV d ⟨d.kind,d.time,d.node,d.dead,d.text,[],[],0⟩=(d.flags==0&&(d.plus==[]&&d.minus==[])):=by simp [sameV]
theorem sameV_cnt (d:Val):sameV d ⟨d.kind,0,0,false,[],d.plus,d.minus,0⟩=(noReg d&&d.flags==0):=by simp [sameV,noReg,Bool.and_assoc]
theorem sameV_flg (d:Val):sameV d ⟨d.kind,0,0,false,[],[],[],d.flags⟩=(noReg d&&(d.plus==[]&&d.minus==[])):=by simp [sameV,noReg,Bool.and_assoc]
theorem valCheck_ev (d:Val) (h:sm d):value_Check_raw d (checkV d):=by
 have hl:decide ((d.text.length:Int)≤8)=decide (d.text.length≤8):=dec_cast (m:=8)
 have s1:=valSame_ev d ⟨d.kind,d.time,d.node,d.dead,d.text,[],[],0⟩ h
 have s2:=valSame_ev d ⟨d.kind,0,0,false,[],d.plus,d.minus,0⟩ h
 have s3:=valSame_ev d ⟨d.kind,0,0,false,[],[],[],d.flags⟩ h
 rw [sameV_reg] at s1
 rw [sameV_cnt] at s2
 rw [sameV_flg] at s3
 unfold value_Check_raw
 rw [hl,dec_lt8]
 have e:okV d=bif d.kind==1 then okR d else bif d.kind==2 then okC d else d.kind==3&&okF d:=rfl
 refine ⟨fun k1=>⟨_,s1,chk_ev ?_⟩,fun k1=>⟨fun k2=>⟨_,s2,_,fun _=>contains_ev _ h.1,_,fun _=>contains_ev _ h.2,chk_ev ?_⟩,fun k2=>⟨fun k3=>⟨_,s3,chk_ev ?_⟩,fun k3=>?_⟩⟩⟩
 ·rw [e,k1,cond_true]; unfold okR; ac_rfl
 ·rw [e,k1,k2,cond_false,cond_true]; unfold okC; rw [okN_and,okN_and]; simp only [Bool.not_not]; ac_rfl
 ·rw [e,k1,k2,k3,cond_false,cond_false]; rfl
 ·exact checkV_f (by rw [e,k1,k2,k3,cond_false,cond_false]; rfl)

/-! ### Join and what is made of it -/
theorem okV_cc {v:Val} (h:okV v=true) (k:v.kind=2):okN v.plus=true∧okN v.minus=true∧v.plus.length=8∧v.minus.length=8:=by
 unfold okV at h; rw [k] at h
 have h:okC v=true:=h
 simp only [okC,Bool.and_eq_true] at h
 have l1:=h.1
 have l2:=h.2.1
 simp only [okN,Bool.and_eq_true,beq_iff_eq] at l1 l2
 exact ⟨h.1,h.2.1,l1.2,l2.2⟩
theorem few_ev (v:Val):law06_Few_raw v (fewV v):=by
 have e1:decide ((v.text.length:Int)≤100)=decide (v.text.length≤100):=dec_cast (m:=100)
 have e2:decide ((v.plus.length:Int)≤40)=decide (v.plus.length≤40):=dec_cast (m:=40)
 have e3:decide ((v.minus.length:Int)≤40)=decide (v.minus.length≤40):=dec_cast (m:=40)
 unfold law06_Few_raw fewV
 rw [e1,e2,e3,Bool.and_assoc]
def worksV:Bool:=true

/-! ### what lies in a word -/
def inI (n:Int):Prop:=-9223372036854775808≤n∧n<9223372036854775808
def inU (n:Int):Prop:=0≤n∧n<18446744073709551616
structure WfV (v:Val):Prop where
 kind:inI v.kind
 time:inI v.time
 node:inI v.node
 plus:∀ x∈v.plus,inI x
 minus:∀ x∈v.minus,inI x
 flags:inU v.flags
/-! ### the greater of two -/
theorem mostL_length (a b:List Int):(mostL a b).length=min a.length b.length:=by unfold mostL; simp
theorem mostL_mem {a b:List Int} {x:Int} (h:x∈mostL a b):x∈a∨x∈b:=by
 unfold mostL at h
 obtain ⟨i,hi,rfl⟩:=List.getElem_of_mem h
 simp only [List.length_zipWith] at hi
 rw [List.getElem_zipWith]
 by_cases hle:a[i]≤b[i]
 ·right; rw [Int.max_eq_right hle]; exact List.getElem_mem _
 ·left; rw [Int.max_eq_left (by omega)]; exact List.getElem_mem _

/-! ### which of two registers is behind: texts in order -/
/-! ### the join of two values of a kind -/
structure Ok2 (a b:Val):Prop where
 l:okV a=true
 r:okV b=true
 k:a.kind=b.kind
theorem Ok2.symm {a b:Val} (h:Ok2 a b):Ok2 b a:=⟨h.r,h.l,h.k.symm⟩
theorem kinds_of {a:Val} (h:okV a=true):a.kind=1∨a.kind=2∨a.kind=3:=by
 unfold okV at h
 by_cases h1:a.kind=1
 ·exact .inl h1
 ·by_cases h2:a.kind=2
  ·exact .inr (.inl h2)
  ·have e1:(a.kind==1)=false:=by simpa using h1
   have e2:(a.kind==2)=false:=by simpa using h2
   rw [e1,e2,cond_false,cond_false] at h
   simp only [Bool.and_eq_true,beq_iff_eq] at h
   exact .inr (.inr h.1)
abbrev J (a b:Val):Val:=(joinV a b).1
theorem J_1 {a b:Val} (h:Ok2 a b) (k:a.kind=1):J a b=bif behind b a then b else a:=by
 have e1:(a.kind != b.kind)=false:=by simpa using h.k
 have e2:(a.kind==1)=true:=by simpa using k
 unfold J joinV; rw [h.l,h.r,e1,e2]; rfl
theorem J_2 {a b:Val} (h:Ok2 a b) (k:a.kind=2):J a b=⟨a.kind,a.time,a.node,a.dead,a.text,mostL a.plus b.plus,mostL a.minus b.minus,0⟩:=by
 have e1:(a.kind != b.kind)=false:=by simpa using h.k
 have e2:(a.kind==1)=false:=by simp [k]
 have e3:(a.kind==2)=true:=by simpa using k
 unfold J joinV; rw [h.l,h.r,e1,e2,e3]; rfl
theorem J_3 {a b:Val} (h:Ok2 a b) (k:a.kind=3):J a b=⟨a.kind,a.time,a.node,a.dead,a.text,[],[],orF a.flags b.flags⟩:=by
 have e1:(a.kind != b.kind)=false:=by simpa using h.k
 have e2:(a.kind==1)=false:=by simp [k]
 have e3:(a.kind==2)=false:=by simp [k]
 unfold J joinV; rw [h.l,h.r,e1,e2,e3]; rfl
theorem ok1 {a:Val} (h:okV a=true) (k:a.kind=1):okR a=true:=by unfold okV at h; rw [k] at h; exact h
theorem ok2 {a:Val} (h:okV a=true) (k:a.kind=2):okC a=true:=by unfold okV at h; rw [k] at h; exact h
theorem ok3 {a:Val} (h:okV a=true) (k:a.kind=3):okF a=true:=by unfold okV at h; rw [k] at h; exact h
theorem noReg_eq {a:Val} (h:noReg a=true):a.time=0∧a.node=0∧a.dead=false∧a.text=[]:=by
 simp only [noReg,Bool.and_eq_true,beq_iff_eq,Bool.not_eq_true'] at h
 exact ⟨h.1,h.2.1,h.2.2.1,h.2.2.2⟩
theorem okC_eq {a:Val} (h:okC a=true):okN a.plus=true∧okN a.minus=true∧noReg a=true∧a.flags=0:=by
 simp only [okC,Bool.and_eq_true,beq_iff_eq] at h
 exact ⟨h.1,h.2.1,h.2.2.1,h.2.2.2⟩
theorem okF_eq {a:Val} (h:okF a=true):noReg a=true∧a.plus=[]∧a.minus=[]:=by
 simp only [okF,Bool.and_eq_true,beq_iff_eq] at h
 exact ⟨h.1,h.2.1,h.2.2⟩
theorem okN_most {a b:List Int} (ha:okN a=true) (hb:okN b=true):okN (mostL a b)=true:=by
 simp only [okN,Bool.and_eq_true,List.all_eq_true,decide_eq_true_eq,beq_iff_eq] at *
 refine ⟨fun x hx=>?_,by rw [mostL_length]; omega⟩
 rcases mostL_mem hx with h | h
 ·exact ha.1 x h
 ·exact hb.1 x h
theorem J_kind {a b:Val} (h:Ok2 a b):(J a b).kind=a.kind:=by
 rcases kinds_of h.l with k | k | k
 ·rw [J_1 h k]; cases behind b a
  ·rfl
  ·exact h.k.symm
 ·rw [J_2 h k]
 ·rw [J_3 h k]
theorem J_ok {a b:Val} (h:Ok2 a b):okV (J a b)=true:=by
 rcases kinds_of h.l with k | k | k
 ·rw [J_1 h k]; cases behind b a
  ·exact h.l
  ·exact h.r
 ·have hb:b.kind=2:=by rw [← h.k]; exact k
  obtain ⟨a1,a2,a3,a4⟩:=okC_eq (ok2 h.l k)
  obtain ⟨b1,b2,b3,b4⟩:=okC_eq (ok2 h.r hb)
  obtain ⟨n1,n2,n3,n4⟩:=noReg_eq a3
  rw [J_2 h k]
  unfold okV
  rw [k]
  show okC _=true
  simp only [okC,okN_most a1 b1,okN_most a2 b2,noReg,n1,n2,n3,n4]
  rfl
 ·obtain ⟨a3,a1,a2⟩:=okF_eq (ok3 h.l k)
  obtain ⟨n1,n2,n3,n4⟩:=noReg_eq a3
  rw [J_3 h k]
  unfold okV
  rw [k]
  show okF _=true
  simp only [okF,noReg,n1,n2,n3,n4]
  rfl
theorem Ok2.j {a b c:Val} (h:Ok2 a b) (k:Ok2 b c):Ok2 (J a b) c:=⟨J_ok h,k.r,(J_kind h).trans (h.k.trans k.k)⟩
theorem Ok2.j' {a b c:Val} (h:Ok2 a b) (k:Ok2 b c):Ok2 a (J b c):=⟨h.l,J_ok k,h.k.trans (J_kind k).symm⟩
/-! ### below -/
end Go.Proofs.YtdfjbkoimpjkaaaGreat