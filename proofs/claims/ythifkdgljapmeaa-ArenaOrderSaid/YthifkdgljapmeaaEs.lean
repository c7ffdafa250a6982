/- The functions of entry and of its reference, in plain Lean. -/
import Derived.Test.YthifkdgljapmeaaEa
namespace Go.Proofs.Ythifkdgljapmeaa
open Go Go.RowKit
set_option linter.unusedVariables false
set_option linter.unusedSimpArgs false

def okE (e:Ent):Bool:=decide (1≤e.key.length)&&(decide (e.key.length≤8)&&okV e.val)
def checkE (e:Ent):Int:=bif okE e then 0 else 2
def zeroE:Ent:=⟨[],zeroV⟩
def nameE (a b:Ent):Bool:=a.val.kind==b.val.kind&&a.key==b.key
def lessE (a b:Ent):Bool:=bif a.val.kind != b.val.kind then decide (a.val.kind<b.val.kind) else Op.bytesLess a.key b.key
def sameE (a b:Ent):Bool:=a.key==b.key&&sameV a.val b.val
def joinE (a b:Ent):Ent × Int:=bif !okE a||!okE b then (zeroE,2) else bif !nameE a b then (zeroE,3) else (⟨a.key,(joinV a.val b.val).1⟩,0)
def sml (l:List Ent):Prop:=l.length≤9223372036854775807∧∀ e∈l,sm e.val
theorem sameE_iff {a b:Ent}:sameE a b=true↔a=b:=by
 obtain ⟨_,_⟩:=a
 obtain ⟨_,_⟩:=b
 simp only [sameE,Bool.and_eq_true,beq_iff_eq,Ent.mk.injEq,sameV_iff]
theorem sameE_self (a:Ent):sameE a a=true:=sameE_iff.2 rfl
def allE:List Ent→List Ent→Bool
 | [],[]=>true
 | a::ar,b::bs=>sameE a b&&allE ar bs
 | _,_=>false
theorem allE_iff:∀ {a b:List Ent},allE a b=true↔a=b
 | [],[]=>by simp [allE]
 | [],b::bs=>by simp [allE]
 | a::ar,[]=>by simp [allE]
 | a::ar,b::bs=>by simp only [allE,Bool.and_eq_true,sameE_iff,allE_iff,List.cons.injEq]
theorem allE_self (a:List Ent):allE a a=true:=allE_iff.2 rfl
def fewE (e:Ent):Bool:=fewV e.val&&decide (e.key.length≤100)
def entriesB (l:List Ent) (most:Int):Bool:=decide ((l.length:Int)≤most)&&l.all fewE
def fewA (a:Arena):Bool:=entriesB a.slots 12&&decide (a.idx.length≤40)

theorem entCheck_ev (e:Ent) (h:sm e.val):entry_Check_raw e (checkE e):=by
 refine ⟨fun h1=>?_,fun h1=>⟨h,?_⟩⟩
 ·have:okE e=false:=by
   simp only [Bool.or_eq_true,beq_iff_eq,decide_eq_true_eq] at h1
   unfold okE
   rcases h1 with h1 | h1
   ·rw [h1]; rfl
   ·have:decide (e.key.length≤8)=false:=by simp; omega
    rw [this]; simp
  unfold checkE; rw [this]; rfl
 ·simp only [Bool.or_eq_false_iff,beq_eq_false_iff_ne,decide_eq_false_iff_not] at h1
  have l1:1≤e.key.length:=by
   have:=List.length_pos_iff.2 h1.1; omega
  have l2:e.key.length≤8:=by have:=h1.2; omega
  have:okE e=okV e.val:=by unfold okE; simp [l1,l2]
  unfold checkE checkV; rw [this]
theorem less_ev {raw:Ent→Ent→Bool→Prop} (hr:raw=fun d0 d1 y=>((d0.val.kind != d1.val.kind)=true→(y=(decide (d0.val.kind<d1.val.kind))))∧((d0.val.kind != d1.val.kind)=false→(y=(Op.bytesLess d0.key d1.key)))) (a b:Ent):raw a b (lessE a b):=by
 subst hr
 exact ⟨fun h=>by unfold lessE; rw [h]; rfl,fun h=>by unfold lessE; rw [h]; rfl⟩
theorem entLess_ev (a b:Ent):entry_Less_raw a b (lessE a b):=less_ev rfl a b
theorem refSameE_ev (a b:Ent) (h:sm a.val):ref07_Same_raw a b (sameE a b):=⟨fun _=>h,rfl⟩
theorem entSame_ev (a b:Ent) (h:sm a.val):entry_Same_raw a b (sameE a b):=⟨fun _=>h,rfl⟩
theorem checkE_ne (e:Ent):(checkE e != 0)=!okE e:=by unfold checkE; cases okE e <;> rfl
theorem entJoin_ev (a b:Ent) (ha:sm a.val) (hb:sm b.val):entry_Join_raw a b (joinE a b):=by
 refine ⟨_,entCheck_ev a ha,fun h=>?_,fun h=>⟨_,entCheck_ev b hb,fun h2=>?_,fun h2=>⟨fun h3=>?_,fun h3=>⟨ha,hb,_,rfl,?_⟩⟩⟩⟩ <;> rw [checkE_ne] at h <;> (try rw [checkE_ne] at h2)
 ·unfold joinE; rw [h]; rfl
 ·unfold joinE; rw [h,h2]; rfl
 ·have:nameE a b=false:=by revert h3; unfold nameE bne; cases a.key==b.key <;> cases a.val.kind==b.val.kind <;> simp
  unfold joinE; rw [h,h2,this]; rfl
 ·have:nameE a b=true:=by revert h3; unfold nameE bne; cases a.key==b.key <;> cases a.val.kind==b.val.kind <;> simp
  unfold joinE; rw [h,h2,this]; rfl
theorem fewE_ev (e:Ent):law07_Few_raw e (fewE e):=by
 have e1:decide ((e.key.length:Int)≤100)=decide (e.key.length≤100):=dec_cast (m:=100)
 unfold law07_Few_raw fewE; rw [e1]
theorem getD_mem {T:Type} [Inhabited T] {l:List T} {i:Nat} (h:i<l.length):l.getD i default∈l:=by
 simp [h]
theorem allE_nth:∀ {a b:List Ent},a.length=b.length→(∀ i,i<a.length→sameE (a.getD i default) (b.getD i default)=true)→allE a b=true:=fun {a b} hl h=>by
 rw [allE_iff]
 apply List.ext_getElem hl
 intro i h1 h2
 have:=sameE_iff.1 (h i h1)
 simpa [h1,h2] using this
theorem allE_no {a b:List Ent} {i:Nat} (h:sameE (a.getD i default) (b.getD i default)=false):allE a b=false:=by
 cases hc:allE a b with
 | false=>rfl
 | true=>rw [allE_iff] at hc; subst hc; rw [sameE_self] at h; cases h
theorem allE_len {a b:List Ent} (h:a.length≠b.length):allE a b=false:=by
 cases hc:allE a b with
 | false=>rfl
 | true=>rw [allE_iff] at hc; subst hc; exact absurd rfl h
theorem refAll_ev (a b:List Ent) (ha:sml a):ref07_All_raw a b (allE a b):=by
 refine ⟨fun h=>?_,fun h=>?_⟩
 ·have h':¬ ((a.length:Int)=b.length):=by simpa using h
  exact allE_len (fun e=>h' (by rw [e]))
 ·have hl:a.length=b.length:=by
   have:¬ (a.length:Int)≠b.length:=by simpa using h
   omega
  have hla:=ha.1
  obtain ⟨x,hx,h2⟩:=loop_scan (body:=ref07_All_b2 a b) a.length (fun i=>sameE (a.getD i default) (b.getD i default)) (fun _=>false)
   (fun i hi hp=>⟨fun _=>⟨⟨by omega,by omega⟩,⟨by omega,by omega⟩,_,refSameE_ev _ _ (ha.2 _ (getD_mem hi)),fun h=>(by rw [nth_nat,nth_nat,hp] at h; cases h),fun _=>by rw [wrapS hi (by omega)]⟩,fun h=>by simp at h; omega⟩)
   (fun i hi hp=>⟨fun _=>⟨⟨by omega,by omega⟩,⟨by omega,by omega⟩,_,refSameE_ev _ _ (ha.2 _ (getD_mem hi)),fun _=>rfl,fun h=>(by rw [nth_nat,nth_nat,hp] at h; cases h)⟩,fun h=>by simp at h; omega⟩)
   ⟨fun h=>by simp at h,fun _=>rfl⟩
  refine ⟨x,hx,fun s e=>?_,fun y e=>?_⟩
  ·rcases h2 with ⟨_,h3⟩ | ⟨i,_,_,_,h6⟩
   ·exact allE_nth hl h3
   ·rw [e] at h6; cases h6
  ·rcases h2 with ⟨h3,_⟩ | ⟨i,_,h4,_,h6⟩
   ·rw [e] at h3; cases h3
   ·rw [e] at h6; cases h6; exact allE_no h4
theorem entries_ev (l:List Ent) (most:Int) (hm:most≤100):law08_Entries_raw l most (entriesB l most):=by
 -- the loop goes over the first most + 1
 obtain ⟨x,hx,h2⟩:=loop_scan (body:=law08_Entries_b1 l most) (min l.length (most + 1).toNat) (fun i=>fewE (l.getD i default)) (fun _=>false)
  (fun i hi hp=>by
   have e1:(decide ((i:Int)<(l.length:Int))&&decide ((i:Int)≤most))=true:=by simp; omega
   refine ⟨fun _=>⟨⟨by omega,by omega⟩,_,fewE_ev _,fun h=>(by rw [nth_nat,hp] at h; cases h),fun _=>by rw [wrapS (n:=102) (by omega) (by decide)]⟩,fun h=>by rw [e1] at h; cases h⟩)
  (fun i hi hp=>by
   have e1:(decide ((i:Int)<(l.length:Int))&&decide ((i:Int)≤most))=true:=by simp; omega
   refine ⟨fun _=>⟨⟨by omega,by omega⟩,_,fewE_ev _,fun h=>rfl,fun h=>(by rw [nth_nat,hp] at h; cases h)⟩,fun h=>by rw [e1] at h; cases h⟩)
  ⟨fun h=>by simp at h; omega,fun _=>rfl⟩
 refine ⟨x,hx,fun s e=>?_,fun y e=>?_⟩
 ·rcases h2 with ⟨_,h3⟩ | ⟨i,_,_,_,h6⟩
  ·unfold entriesB
   by_cases hle:(l.length:Int)≤most
   ·have:l.all fewE=true:=by
     rw [List.all_eq_true]
     intro n hn
     obtain ⟨i,hi,rfl⟩:=List.getElem_of_mem hn
     have:=h3 i (by omega)
     simpa [hi] using this
    rw [this,Bool.and_true]
   ·have:decide ((l.length:Int)≤most)=false:=by simpa using hle
    rw [this]; rfl
  ·rw [e] at h6; cases h6
 ·rcases h2 with ⟨h3,_⟩ | ⟨i,hi,h4,_,h6⟩
  ·rw [e] at h3; cases h3
  ·rw [e] at h6; cases h6
   have hil:i<l.length:=by omega
   have:l.all fewE=false:=by
    rw [List.all_eq_false]
    exact ⟨_,getD_mem hil,by simpa using h4⟩
   unfold entriesB; rw [this,Bool.and_false]
theorem fewA_ev (a:Arena):law08_Few_raw a (fewA a):=by
 have e1:decide ((a.idx.length:Int)≤40)=decide (a.idx.length≤40):=dec_cast (m:=40)
 refine ⟨_,entries_ev _ _ (by decide),?_⟩
 unfold fewA; rw [e1]
theorem fewE_sm {e:Ent} (h:fewE e=true):sm e.val:=few_sm (andL h)
theorem entriesB_sml {l:List Ent} {m:Int} (h:entriesB l m=true) (hm:m≤100):sml l:=by
 unfold entriesB at h
 have h1:=andL h
 have h2:=andR h
 simp only [decide_eq_true_eq] at h1
 refine ⟨by omega,fun e he=>fewE_sm (List.all_eq_true.1 h2 e he)⟩
theorem sm_joinE {a b:Ent} (ha:sm a.val) (hb:sm b.val):sm (joinE a b).1.val:=by
 unfold joinE
 cases (!okE a||!okE b) with
 | true=>exact ⟨Nat.zero_le _,Nat.zero_le _⟩
 | false =>
  cases nameE a b with
  | false=>exact ⟨Nat.zero_le _,Nat.zero_le _⟩
  | true=>exact sm_join ha hb
end Go.Proofs.Ythifkdgljapmeaa
