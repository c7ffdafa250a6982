/- The functions of value and of its reference, in plain Lean; each relation that the walks came to has these as what they come to. -/
import Derived.Test.YtdojgmmpcdbeoaaCt
import Derived.Test.YtdojgmmpcdbeoaaGa3
import Derived.Laws.Runes
import Derived.Sort.Walk0
namespace Go.Proofs.Ytdojgmmpcdbeoaa
open Go Go.RowKit
set_option linter.unusedVariables false
set_option linter.unusedSimpArgs false

/-! ### loops -/
theorem wrap64 {n:Int} (h0 : -9223372036854775808≤n) (h1:n<9223372036854775808):IntKind.i64.wrap n=n:=by
 simp [IntKind.wrap,IntKind.bits,IntKind.signed]
 omega
theorem wrapS {i n:Nat} (h:i<n) (hn:n≤9223372036854775807):IntKind.i64.wrap ((i:Int) + (1:Int))=((i + 1:Nat):Int):=by
 rw [wrap64 (by omega) (by omega)]; rfl
theorem loop_scan {Y:Type} {body:Int→Int ⊕ (Int ⊕ Y)→Prop} (n:Nat) (p:Nat→Bool) (r:Nat→Y) (hs:∀ i:Nat,i<n→p i=true→body (i:Int) (.inl ((i + 1:Nat):Int)))
  (hb:∀ i:Nat,i<n→p i=false→body (i:Int) (.inr (.inr (r i)))) (he:body (n:Int) (.inr (.inl (n:Int)))) :
  ∃ x,LoopR body (0:Int) x∧((x=.inl (n:Int)∧∀ i,i<n→p i=true)∨∃ i,i<n∧p i=false∧(∀ j,j<i→p j=true)∧x=.inr (r i)):=by
 have key:∀ d i:Nat,i + d=n→(∀ j,j<i→p j=true)→∃ x,LoopR body (i:Int) x∧((x=.inl (n:Int)∧∀ i,i<n→p i=true)∨∃ i,i<n∧p i=false∧(∀ j,j<i→p j=true)∧x=.inr (r i)):=by
  intro d
  induction d with
  | zero=>intro i hi hp; obtain rfl:i=n:=(by omega); exact ⟨_,.done he,.inl ⟨rfl,hp⟩⟩
  | succ d ih =>
   intro i hi hp
   cases hpi:p i with
   | false=>exact ⟨_,.done (hb i (by omega) hpi),.inr ⟨i,by omega,hpi,hp,rfl⟩⟩
   | true =>
    obtain ⟨x,h1,h2⟩:=ih (i + 1) (by omega) (fun j hj=>by
     rcases Nat.lt_or_ge j i with h | h
     ·exact hp j h
     ·obtain rfl:j=i:=by omega
      exact hpi)
    exact ⟨x,.step (hs i (by omega) hpi) h1,h2⟩
 exact key n 0 (by omega) (fun j hj=>by omega)
theorem loop_fold {S:Type} {body:S→S ⊕ S→Prop} (n:Nat) (st:Nat→S) (hs:∀ i:Nat,i<n→body (st i) (.inl (st (i + 1)))) (he:body (st n) (.inr (st n))):LoopR body (st 0) (st n):=by
 have key:∀ d i:Nat,i + d=n→LoopR body (st i) (st n):=by
  intro d
  induction d with
  | zero=>intro i hi; obtain rfl:i=n:=(by omega); exact .done he
  | succ d ih=>intro i hi; exact .step (hs i (by omega)) (ih (i + 1) (by omega))
 exact key n 0 (by omega)
theorem nth_nat {T:Type} [Inhabited T] (l:List T) (i:Nat):nth l (i:Int)=l.getD i default:=rfl

/-! ### what they are -/
def sm (v:Val):Prop:=v.plus.length≤9223372036854775807∧v.minus.length≤9223372036854775807
instance (v:Val):Decidable (sm v):=inferInstanceAs (Decidable (_∧_))
def sameV (a b:Val):Bool:=a.kind==b.kind&&(a.time==b.time&&(a.node==b.node&&(a.dead==b.dead&&(a.text==b.text&&(a.flags==b.flags&&(a.plus==b.plus&&a.minus==b.minus))))))
def okN (l:List Int):Bool:=l.all (fun n=>decide (0≤n)&&decide (n≤65535))&&l.length==8
def noReg (v:Val):Bool:=v.time==0&&(v.node==0&&(!v.dead&&v.text==[]))
def okR (v:Val):Bool:=decide (0≤v.time)&&(decide (v.time≤2147483647)&&(decide (0≤v.node)&&(decide (v.node≤7)&&(decide (v.text.length≤8)&&((!v.dead||v.text==[])&&((v.plus==[]&&v.minus==[])&&v.flags==0))))))
def okC (v:Val):Bool:=okN v.plus&&(okN v.minus&&(noReg v&&v.flags==0))
def okF (v:Val):Bool:=noReg v&&(v.plus==[]&&v.minus==[])
def okV (v:Val):Bool:=bif v.kind==1 then okR v else bif v.kind==2 then okC v else v.kind==3&&okF v
def checkV (v:Val):Int:=bif okV v then 0 else 2
def zeroV:Val:=⟨0,0,0,false,[],[],[],0⟩
def behind (a b:Val):Bool :=
 bif a.time != b.time then decide (b.time<a.time) else bif a.node != b.node then decide (b.node<a.node) else bif !(a.dead==b.dead) then a.dead else !(Op.bytesLess a.text b.text||a.text==b.text)
def mostL (a b:List Int):List Int:=List.zipWith max a b
def orF (a b:Int):Int:=IntKind.u64.wrap ((BitVec.ofInt IntKind.u64.bits a ||| BitVec.ofInt IntKind.u64.bits b).toNat:Int)
def joinV (a b:Val):Val × Int :=
 bif !okV a then (zeroV,2) else bif !okV b then (zeroV,2) else bif a.kind != b.kind then (zeroV,3) else
 bif a.kind==1 then (bif behind b a then b else a,0) else
 bif a.kind==2 then (⟨a.kind,a.time,a.node,a.dead,a.text,mostL a.plus b.plus,mostL a.minus b.minus,0⟩,0) else (⟨a.kind,a.time,a.node,a.dead,a.text,[],[],orF a.flags b.flags⟩,0)
def belowV (a b:Val):Bool:=(joinV a b).2==0&&sameV (joinV a b).1 b
def leastV (k:Int):Val × Int :=
 bif k==1 then (⟨1,0,0,false,[],[],[],0⟩,0) else bif k==2 then (⟨2,0,0,false,[],List.replicate 8 0,List.replicate 8 0,0⟩,0) else bif k==3 then (⟨3,0,0,false,[],[],[],0⟩,0) else (zeroV,3)
def sumTo (v:Val):Nat→Int
 | 0=>0
 | i + 1=>sumTo v i + v.plus.getD i 0 - v.minus.getD i 0
def sumV (v:Val):Int:=bif v.kind==2&&okV v then sumTo v 8 else 0
/-! ### lists -/
theorem eq_of_nth {a b:List Int} (hl:a.length=b.length) (h:∀ i,i<a.length→(a.getD i default==b.getD i default)=true):(a==b)=true:=by
 rw [beq_iff_eq]
 apply List.ext_getElem hl
 intro i h1 h2
 have:=h i h1
 simpa [h1,h2] using this
theorem ne_of_nth {a b:List Int} {i:Nat} (h:(a.getD i default==b.getD i default)=false):(a==b)=false:=by
 rw [beq_eq_false_iff_ne] at h ⊢
 rintro rfl; exact h rfl
theorem equal_ev (a b:List Int) (ha:a.length≤9223372036854775807):slices_Equal_int_raw a b (a==b):=by
 refine ⟨fun h=>?_,fun h=>?_⟩
 ·have:¬ ((a.length:Int)=b.length):=by simpa using h
  rw [beq_eq_false_iff_ne]; rintro rfl; exact this rfl
 ·have hl:a.length=b.length:=by
   have:¬ (a.length:Int)≠b.length:=by simpa using h
   omega
  obtain ⟨x,hx,h2⟩:=loop_scan (body:=slices_Equal_int_b2 a b) a.length (fun i=>a.getD i default==b.getD i default) (fun _=>false)
   (fun i hi hp=>⟨fun _=>⟨⟨by omega,by omega⟩,⟨by omega,by omega⟩,fun h=>(by rw [nth_nat,nth_nat,bne,hp] at h; cases h),fun _=>by rw [wrapS hi (by omega)]⟩,fun h=>by simp at h; omega⟩)
   (fun i hi hp=>⟨fun _=>⟨⟨by omega,by omega⟩,⟨by omega,by omega⟩,fun _=>rfl,fun h=>(by rw [nth_nat,nth_nat,bne,hp] at h; cases h)⟩,fun h=>by simp at h; omega⟩)
   ⟨fun h=>by simp at h,fun _=>rfl⟩
  refine ⟨x,hx,fun s e=>?_,fun y e=>?_⟩
  ·rcases h2 with ⟨_,h3⟩ | ⟨i,_,_,_,h6⟩
   ·exact eq_of_nth hl h3
   ·rw [e] at h6; cases h6
  ·rcases h2 with ⟨h3,_⟩ | ⟨i,_,h4,_,h6⟩
   ·rw [e] at h3; cases h3
   ·rw [e] at h6; cases h6; exact ne_of_nth h4
theorem contains_ev (l:List Int) (hl:l.length≤9223372036854775807):slices_ContainsFunc_int_is_1_raw l (!(l.all (fun n=>decide (0≤n)&&decide (n≤65535)))):=by
 have hodd:∀ n:Int,value_counter_is_1_raw n (!(decide (0≤n)&&decide (n≤65535))):=fun n=>by
  unfold value_counter_is_1_raw
  rw [Bool.eq_iff_iff]; simp
 obtain ⟨x,hx,h2⟩:=loop_scan (body:=slices_IndexFunc_int_is_1_b1 l) l.length (fun i=>decide (0≤l.getD i default)&&decide (l.getD i default≤65535)) (fun i=>(i:Int))
  (fun i hi hp=>⟨fun _=>⟨⟨by omega,by omega⟩,_,hodd _,fun h=>(by rw [nth_nat,hp] at h; cases h),fun _=>by rw [wrapS hi (by omega)]⟩,fun h=>by simp at h; omega⟩)
  (fun i hi hp=>⟨fun _=>⟨⟨by omega,by omega⟩,_,hodd _,fun h=>rfl,fun h=>(by rw [nth_nat,hp] at h; cases h)⟩,fun h=>by simp at h; omega⟩)
  ⟨fun h=>by simp at h,fun _=>rfl⟩
 rcases h2 with ⟨h3,h4⟩ | ⟨i,hi,h4,_,h6⟩
 ·refine ⟨-1,⟨x,hx,fun _ _=>rfl,fun y e=>by rw [e] at h3; cases h3⟩,?_⟩
  have:l.all (fun n=>decide (0≤n)&&decide (n≤65535))=true:=by
   rw [List.all_eq_true]
   intro n hn
   obtain ⟨i,hi,rfl⟩:=List.getElem_of_mem hn
   have:=h4 i hi
   simpa [hi] using this
  rw [this]; rfl
 ·refine ⟨(i:Int),⟨x,hx,fun s e=>(by rw [e] at h6; cases h6),fun y e=>(by rw [e] at h6; cases h6; rfl)⟩,?_⟩
  have:l.all (fun n=>decide (0≤n)&&decide (n≤65535))=false:=by
   rw [List.all_eq_false]
   refine ⟨l[i],List.getElem_mem hi,?_⟩
   simpa [hi] using h4
  rw [this]; simp
theorem same_ev (a b:Val) (ha:sm a) {E:List Int→List Int→Bool→Prop} (hE:E=slices_Equal_int_raw) {raw:Val→Val→Bool→Prop}
  (hr:raw=fun d0 d1 y=>∃ x21,(((((((d0.kind==d1.kind)&&(d0.time==d1.time))&&(d0.node==d1.node))&&(d0.dead==d1.dead))&&(d0.text==d1.text))&&(d0.flags==d1.flags))=true→E d0.plus d1.plus x21)∧(∃ x26,((((((((d0.kind==d1.kind)&&(d0.time==d1.time))&&(d0.node==d1.node))&&(d0.dead==d1.dead))&&(d0.text==d1.text))&&(d0.flags==d1.flags))&&x21)=true→E d0.minus d1.minus x26)∧(y=((((((((d0.kind==d1.kind)&&(d0.time==d1.time))&&(d0.node==d1.node))&&(d0.dead==d1.dead))&&(d0.text==d1.text))&&(d0.flags==d1.flags))&&x21)&&x26)))) :
  raw a b (sameV a b):=by
 subst hr; subst hE
 exact ⟨_,fun _=>equal_ev _ _ ha.1,_,fun _=>equal_ev _ _ ha.2,by simp only [sameV,Bool.and_assoc]⟩
theorem valSame_ev (a b:Val) (ha:sm a):value_Same_raw a b (sameV a b):=same_ev a b ha rfl rfl
end Go.Proofs.Ytdojgmmpcdbeoaa
