/- The functions of entry and of its reference, in plain Lean. -/
import Derived.Test.YtbijobepjjokmaaEa
namespace Go.Proofs.Ytbijobepjjokmaa
open Go Go.RowKit
set_option linter.unusedVariables false
set_option linter.unusedSimpArgs false

def okE (e:Ent):Bool:=decide (1≤e.key.length)&&(decide (e.key.length≤8)&&okV e.val)
def checkE (e:Ent):Int:=bif okE e then 0 else 2
def zeroE:Ent:=⟨[],zeroV⟩
def nameE (a b:Ent):Bool:=a.val.kind==b.val.kind&&a.key==b.key
def lessE (a b:Ent):Bool:=bif a.val.kind != b.val.kind then decide (a.val.kind<b.val.kind) else Op.bytesLess a.key b.key
def sameE (a b:Ent):Bool:=a.key==b.key&&sameV a.val b.val
def joinE (a b:Ent):Ent × Int:=bif !okE a||!okE b then (zeroE,2) else bif !nameE a b then (zeroE,3) else (⟨a.key,(joinV a.val b.val).1⟩,0)
def sml (l:List Ent):Prop:=l.length≤9223372036854775807∧∀ e∈l,sm e.val
theorem sameE_iff {a b:Ent}:sameE a b=true↔a=b:=by
 obtain ⟨_,_⟩:=a
 obtain ⟨_,_⟩:=b
 simp only [sameE,Bool.and_eq_true,beq_iff_eq,Ent.mk.injEq,sameV_iff]
theorem sameE_self (a:Ent):sameE a a=true:=sameE_iff.2 rfl
def fewE (e:Ent):Bool:=fewV e.val&&decide (e.key.length≤100)
theorem dec_le8 {n:Nat}:decide ((n:Int)≤(8:Int))=decide (n≤8):=dec_cast (m:=8)
theorem dec_1le {n:Nat}:decide ((1:Int)≤(n:Int))=decide (1≤n):=dec_cast (n:=1)
theorem refCheckE_ev (e:Ent) (h:sm e.val):ref07_Check_raw e (okE e):=by
 refine ⟨fun _=>h,?_⟩
 rw [dec_le8,dec_1le]; unfold okE; ac_rfl
theorem entCheck_ev (e:Ent) (h:sm e.val):entry_Check_raw e (checkE e):=by
 refine ⟨fun h1=>?_,fun h1=>⟨h,?_⟩⟩
 ·have:okE e=false:=by
   simp only [Bool.or_eq_true,beq_iff_eq,decide_eq_true_eq] at h1
   unfold okE
   rcases h1 with h1 | h1
   ·rw [h1]; rfl
   ·have:decide (e.key.length≤8)=false:=by simp; omega
    rw [this]; simp
  unfold checkE; rw [this]; rfl
 ·simp only [Bool.or_eq_false_iff,beq_eq_false_iff_ne,decide_eq_false_iff_not] at h1
  have l1:1≤e.key.length:=by
   have:=List.length_pos_iff.2 h1.1; omega
  have l2:e.key.length≤8:=by have:=h1.2; omega
  have:okE e=okV e.val:=by unfold okE; simp [l1,l2]
  unfold checkE checkV; rw [this]
theorem less_ev {raw:Ent→Ent→Bool→Prop} (hr:raw=fun d0 d1 y=>((d0.val.kind != d1.val.kind)=true→(y=(decide (d0.val.kind<d1.val.kind))))∧((d0.val.kind != d1.val.kind)=false→(y=(Op.bytesLess d0.key d1.key)))) (a b:Ent):raw a b (lessE a b):=by
 subst hr
 exact ⟨fun h=>by unfold lessE; rw [h]; rfl,fun h=>by unfold lessE; rw [h]; rfl⟩
theorem entLess_ev (a b:Ent):entry_Less_raw a b (lessE a b):=less_ev rfl a b
theorem refSameE_ev (a b:Ent) (h:sm a.val):ref07_Same_raw a b (sameE a b):=⟨fun _=>h,rfl⟩
theorem entSame_ev (a b:Ent) (h:sm a.val):entry_Same_raw a b (sameE a b):=⟨fun _=>h,rfl⟩
theorem checkE_ne (e:Ent):(checkE e != 0)=!okE e:=by unfold checkE; cases okE e <;> rfl
theorem checkE_eq (e:Ent):(checkE e==0)=okE e:=by unfold checkE; cases okE e <;> rfl
theorem entJoin_ev (a b:Ent) (ha:sm a.val) (hb:sm b.val):entry_Join_raw a b (joinE a b):=by
 refine ⟨_,entCheck_ev a ha,fun h=>?_,fun h=>⟨_,entCheck_ev b hb,fun h2=>?_,fun h2=>⟨fun h3=>?_,fun h3=>⟨ha,hb,_,rfl,?_⟩⟩⟩⟩ <;> rw [checkE_ne] at h <;> (try rw [checkE_ne] at h2)
 ·unfold joinE; rw [h]; rfl
 ·unfold joinE; rw [h,h2]; rfl
 ·have:nameE a b=false:=by revert h3; unfold nameE bne; cases a.key==b.key <;> cases a.val.kind==b.val.kind <;> simp
  unfold joinE; rw [h,h2,this]; rfl
 ·have:nameE a b=true:=by revert h3; unfold nameE bne; cases a.key==b.key <;> cases a.val.kind==b.val.kind <;> simp
  unfold joinE; rw [h,h2,this]; rfl
theorem fewE_ev (e:Ent):law07_Few_raw e (fewE e):=by
 have e1:decide ((e.key.length:Int)≤(100:Int))=decide (e.key.length≤100):=dec_cast (m:=100)
 unfold law07_Few_raw fewE; rw [e1]
theorem getD_mem {T:Type} [Inhabited T] {l:List T} {i:Nat} (h:i<l.length):l.getD i default∈l:=by
 simp [h]
theorem fewE_sm {e:Ent} (h:fewE e=true):sm e.val:=few_sm (andL h)
end Go.Proofs.Ytbijobepjjokmaa
