/- The operations that make or turn memory, calls, and what grows. -/
import Derived.Test.YtpopikeebobjnaaWp
namespace Go.Proofs.Ytpopikeebobjnaa
open Go Go.RowKit
set_option linter.unusedVariables false
set_option linter.unusedSimpArgs false

def setL:List Value→Nat→List Value→List Value
 | cs,_,[]=>cs
 | cs,o,v::vs=>setL (cs.set o v) (o + 1) vs
theorem setL_length:∀ (vs:List Value) (cs:List Value) (o:Nat),(setL cs o vs).length=cs.length
 | [],_,_=>rfl
 | v::vs,cs,o=>by rw [setL,setL_length vs]; simp
def oneC:Value→Bool
 | .agg _ | .tuple _=>false
 | _=>true

theorem run_store1 {P:Program} {w:World} {b o:Nat} {e:TypeId} {cs:List Value} (hB:Blk w b e cs) (v:Value) (h1:oneC v=true) (ho:o<cs.length) :
  (store ⟨b,o,none⟩ v).run P w=.ok () (w.setCell ⟨b,o,none⟩ v):=by
 have hc:w.cell? ⟨b,o,none⟩=some cs[o]:=hB.cell (by simp [ho])
 have hf:w.frozen? ⟨b,o,none⟩=false:=hB.frozen
 unfold store
 cases v <;> first | (simp [oneC] at h1; done) | simp [Sem.run,hc,hf]

theorem run_storeL {P:Program} {b o:Nat} {e:TypeId}:∀ (vs:List Value) (i:Nat) (cs:List Value) (w:World),Blk w b e cs→vs.all oneC=true→o + i + vs.length≤cs.length →
  ∃ w',(storeCells ⟨b,o,none⟩ vs i).run P w=.ok () w'∧Fr [b] w w'∧Blk w' b e (setL cs (o + i) vs):=by
 intro vs
 induction vs with
 | nil=>intro i cs w hB _ _; exact ⟨w,rfl,Fr.refl _ _,hB⟩
 | cons v vs ih =>
  intro i cs w hB h1 hl
  simp only [List.all_cons,Bool.and_eq_true,List.length_cons] at h1 hl
  have hadd:(⟨b,o,none⟩:Addr).add i=⟨b,o + i,none⟩:=by unfold Addr.add; split <;> simp_all
  have hr:=run_store1 (P:=P) hB v h1.1 (show o + i<cs.length by omega)
  obtain ⟨w',h2,h3,h4⟩:=ih (i + 1) (cs.set (o + i) v) (w.setCell ⟨b,o + i,none⟩ v) (hB.set v) h1.2 (by simp; omega)
  refine ⟨w',?_,(Fr.setCell w ⟨b,o + i,none⟩ v).trans h3,h4⟩
  simp only [storeCells,hadd]
  rw [Sem.run_bind,hr]
  exact h2

/-- So many cells. -/
def Sz (P : Program) (T : TypeId) (n : Nat) : Prop := ∃ i, P.info? T = some i ∧ i.size = n

/-- What a call to this function is. -/
def CF (P : Program) (f : FuncId) : Prop := ∀ args w, (callFunc f args).run P w = .ok (.enter f args) w

section ops
variable {P : Program} {r : Option Nat} {N : Nat} {ops : Array Oper} {Q : Post} {rest : List Oper} {ρ : Env} {ds : List Deferred} {w : World}
variable {d : Nat} {ty : TypeId} {pos : String} {after : Array Edge} {g : Option (Nat × Bool)}

theorem o_v {op:Op} {v:Value} (hr:RunV P ρ w ⟨some d,op,ty,pos,after,g⟩ v) (hg:wantE ops ρ g=true) (hp:plainOp op=true) (hd:Nat.blt d N=true)
  (h:EO P r N ops Q rest (upd ρ d v) ds w):EO P r N ops Q (⟨some d,op,ty,pos,after,g⟩::rest) ρ ds w:=eo_val hg hp hd hr h
theorem o_no {op:Op} (hg:wantE ops ρ g=false) (hd:Nat.blt d N=true) (h:EO P r N ops Q rest (upd ρ d undef) ds w) :
  EO P r N ops Q (⟨some d,op,ty,pos,after,g⟩::rest) ρ ds w:=eo_no (o:=⟨some d,op,ty,pos,after,g⟩) hg hd h
theorem o_box {T:TypeId} {X:Operand} {cs:List Value} (hX:(ev ρ X).cells=cs.toArray) (hg:wantE ops ρ g=true) (hd:Nat.blt d N=true)
  (h:∀ b w',b=w.heap.size→Ext w w'→Blk w' b T cs→EO P r N ops Q rest (upd ρ d (.pointer (some ⟨b,0,none⟩))) ds w') :
  EO P r N ops Q (⟨some d,.box T X,ty,pos,after,g⟩::rest) ρ ds w:=by
 refine eo_val (o:=⟨some d,.box T X,ty,pos,after,g⟩) hg rfl hd ?_ (h w.heap.size (w.alloc (.cells cs.toArray T)) rfl (Ext.alloc _ _) (Blk.alloc _ _ _))
 simp only [execOp,Instr.box,newVar,newRow,newObj,hX]
 rfl
theorem o_alloc {T:TypeId} {z:Value} {cs:List Value} (hz:Zero P T z) (hc:z.cells=cs.toArray) (hg:wantE ops ρ g=true) (hd:Nat.blt d N=true)
  (h:∀ b w',b=w.heap.size→Ext w w'→Blk w' b T cs→EO P r N ops Q rest (upd ρ d (.pointer (some ⟨b,0,none⟩))) ds w') :
  EO P r N ops Q (⟨some d,.alloc T,ty,pos,after,g⟩::rest) ρ ds w:=by
 obtain ⟨i,h1,h2⟩:=hz
 refine eo_val (o:=⟨some d,.alloc T,ty,pos,after,g⟩) hg rfl hd ?_ (h w.heap.size (w.alloc (.cells cs.toArray T)) rfl (Ext.alloc _ _) (Blk.alloc _ _ _))
 have hz:(zeroValue T).run P w=.ok z w:=by simp [zeroValue,typeInfo,h1,h2,program,Sem.run,Result.andThen]
 simp only [execOp,Instr.alloc,Sem.run_bind,hz,Result.andThen,newVar,newRow,newObj,hc]
 rfl
theorem o_store {T:TypeId} {X Y:Operand} {b o:Nat} {e:TypeId} {cs vs:List Value} (hX:ev ρ X=.pointer (some ⟨b,o,none⟩)) (hB:Blk w b e cs) (hY:(ev ρ Y).cells=vs.toArray)
  (hT:Sz P T vs.length) (h1:vs.all oneC=true) (ho:Nat.ble (o + vs.length) cs.length=true) (hg:wantE ops ρ g=true)
  (h:∀ w',Fr [b] w w'→Blk w' b e (setL cs o vs)→EO P r N ops Q rest ρ ds w') :
  EO P r N ops Q (⟨none,.store T X Y,ty,pos,after,g⟩::rest) ρ ds w:=by
 obtain ⟨i,h2,h3⟩:=hT
 obtain ⟨w',hr,hf,hb⟩:=run_storeL (P:=P) (o:=o) vs 0 cs w hB h1 (by have:=Nat.le_of_ble_eq_true ho; omega)
 refine eo_unit (o:=⟨none,.store T X Y,ty,pos,after,g⟩) hg rfl rfl ?_ (h w' hf hb)
 simp [execOp,hX,Instr.storeAt,Instr.sureAddr,storeVar,hY,sizeOf,typeInfo,h2,h3,hr,program,Sem.run,Result.andThen]

theorem o_call {f:FuncId} {as:List Operand} {vs:List Value} {ts:Array TypeId} {post:Value→World→Prop} (hf:CF P f) (ha:as.map (ev ρ)=vs)
  (hc:Calls P f vs.toArray w (Ret post)) (hg:wantE ops ρ g=true) (hd:Nat.blt d N=true)
  (h:∀ v w',post v w'→EO P r N ops Q rest (upd ρ d v) ds w') :
  EO P r N ops Q (⟨some d,.call { callee:=.value (.func f),args:=as.toArray,argTypes:=ts },ty,pos,after,g⟩::rest) ρ ds w:=by
 refine eo_enter (o:=⟨some d,.call { callee:=.value (.func f),args:=as.toArray,argTypes:=ts },ty,pos,after,g⟩) hg rfl hd ?_ hc
  (fun v w'' ⟨u,e,hp⟩=>by cases e; exact h _ _ hp) (fun c w'' ⟨u,e,hp⟩=>by cases e) (fun w'' ⟨u,e,hp⟩=>by cases e)
 have:=hf vs.toArray w
 simp [execOp,resolve,ev,Deferred.ofValue,invoke,ha,this]
end ops
end Go.Proofs.Ytpopikeebobjnaa
