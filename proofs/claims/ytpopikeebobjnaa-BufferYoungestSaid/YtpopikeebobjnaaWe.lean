/- Structs and arrays that are compared. -/
import Derived.Test.YtpopikeebobjnaaWz
import Derived.ChangeKeysEq
namespace Go.Proofs.Ytpopikeebobjnaa
open Go Go.RowKit
set_option linter.unusedVariables false
set_option linter.unusedSimpArgs false

/-- What an equality of two of a type comes to. -/
def EqR (P : Program) (t : TypeId) (n : Nat) (x y : Value) (b : Bool) : Prop := ∀ d w, (Op.equalIn (d + n) t x y).run P w = .ok b w
def PartR (P:Program) (t:TypeId) (cs:Array Value) (o:Nat) (v:Value):Prop:=∀ w,(part t cs o).run P w=.ok v w
def EqF (P:Program) (n:Nat) (xs ys:Array Value):List Field→Bool→Prop
 | [],b=>b=true
 | f::fs,b=>f.name≠"_"∧∃ x y c bs,PartR P f.type xs f.offset x∧PartR P f.type ys f.offset y∧EqR P f.type n x y c∧EqF P n xs ys fs bs∧b=(c&&bs)
section eqs
variable {P : Program} {t e : TypeId}
theorem eq_int {k:IntKind} {a b:Int} (h:P.underlying t=some (.int k)):EqR P t 1 (.int k a) (.int k b) (a==b):=fun d w=>run_equalIn_int w d t k k a b h
theorem eq_str {a b:Str} (h:P.underlying t=some .string):EqR P t 1 (str a) (str b) (a==b):=fun d w=>by
 unfold str; rw [run_equalIn_string w d t _ _ h,toList_str,toList_str]
theorem part1 {cs:Array Value} {o:Nat} {v:Value} (hT:One P t) (hv:cs[o]?=some v):PartR P t cs o v:=fun w=>by
 obtain ⟨⟨x,h1,h2⟩,_⟩:=hT
 have:(isAgg t).run P w=.ok false w:=by
  unfold isAgg; simp only [Sem.run_bind,run_underlying h1,Result.andThen]
  cases x <;> first | exact h2.elim | rfl
 unfold part
 simp only [Sem.run_bind,this,Result.andThen_ok,hv]
 rfl
theorem eqF_run {n:Nat} {xs ys:Array Value}:∀ {fs:List Field} {b:Bool},EqF P n xs ys fs b→∀ d w,(Op.eqFields (d + n) xs ys fs).run P w=.ok b w
 | [],b,h,d,w=>by have h:b=true:=h; subst h; rfl
 | f::fs,b,h,d,w=>by
  obtain ⟨h1,x,y,c,bs,h2,h3,h4,h5,rfl⟩:=h
  unfold Op.eqFields
  rw [if_pos h1]
  simp only [Sem.run_bind,h2 w,h3 w,h4 d w,Result.andThen_ok]
  cases c with
  | false=>rfl
  | true=>simpa using eqF_run h5 d w
theorem eq_struct {n:Nat} {fs:Array Field} {xs ys:Array Value} {b:Bool} (hu:P.underlying t=some (.struct fs)) (hp:P.stoodInHeld t=false) (h:EqF P n xs ys fs.toList b):EqR P t (n + 1) (.agg xs) (.agg ys) b:=fun d w=>by
 have hf:P.fieldsOf t=fs:=by unfold Program.fieldsOf; rw [hu]
 rw [show d + (n + 1)=(d + n) + 1 from rfl,run_equalIn_struct w (d + n) t xs ys (by rw [hf]; exact hu) hp,hf]
 exact eqF_run h d w
end eqs
/-- A field of a struct's value. -/
def FldV (P : Program) (T : TypeId) (f : Nat) (t : TypeId) (o : Nat) : Prop := ∃ fs, P.underlying T = some (.struct fs) ∧ ∃ x, fs[f]? = some x ∧ x.type = t ∧ x.offset = o
section runs
variable {P : Program} {ρ : Env} {w : World} {d : Option Nat} {ty : TypeId} {pos : String} {after : Array Edge} {g : Option (Nat × Bool)}
theorem r_eqSt {T t':TypeId} {X Y:Operand} {xs ys:Array Value} {b:Bool} (hg:P.eqGuardType P.depth T=false) (h:EqR P T 2 (.agg xs) (.agg ys) b) (hX:ev ρ X=.agg xs) (hY:ev ρ Y=.agg ys) :
  RunV P ρ w ⟨d,.binOp .eql T X Y t',ty,pos,after,g⟩ (.bool b):=by
 have h1:=run_eqGuard_agg (P:=P) w .eql T X Y xs ys hg
 have h2:=run_eql_struct (P:=P) w T xs ys
 have h3:=h 9998 w
 rw [h3] at h2
 simp only [Result.andThen_ok] at h2
 simp only [RunV,execOp,hX,hY,Sem.run_bind,h1,h2,Result.andThen_ok]
 rfl
theorem r_neSt {T t':TypeId} {X Y:Operand} {xs ys:Array Value} {b:Bool} (hg:P.eqGuardType P.depth T=false) (h:EqR P T 2 (.agg xs) (.agg ys) b) (hX:ev ρ X=.agg xs) (hY:ev ρ Y=.agg ys) :
  RunV P ρ w ⟨d,.binOp .neq T X Y t',ty,pos,after,g⟩ (.bool (!b)):=by
 have h1:=run_eqGuard_agg (P:=P) w .neq T X Y xs ys hg
 have h2:=run_neq_struct (P:=P) w T xs ys
 have h3:=h 9998 w
 rw [h3] at h2
 simp only [Result.andThen_ok] at h2
 simp only [RunV,execOp,hX,hY,Sem.run_bind,h1,h2,Result.andThen_ok]
 rfl
theorem r_fld {T f o:Nat} {t:TypeId} {X:Operand} {cs:Array Value} {v:Value} (hF:FldV P T f t o) (hT:One P t) (hX:ev ρ X=.agg cs) (hv:cs[o]?=some v):RunV P ρ w ⟨d,.field T X f,ty,pos,after,g⟩ v:=by
 obtain ⟨fs,h1,x,h2,rfl,rfl⟩:=hF
 have:=part1 hT hv w
 simp [RunV,execOp,hX,Instr.field,run_underlying h1,h2,asAgg,this]
end runs
end Go.Proofs.Ytpopikeebobjnaa
