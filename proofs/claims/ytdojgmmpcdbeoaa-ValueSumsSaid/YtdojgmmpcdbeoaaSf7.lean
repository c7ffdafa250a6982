/- Arrays of eight as arguments. -/
import Derived.Test.YtdojgmmpcdbeoaaSf
import Derived.Test.YtdojgmmpcdbeoaaWm
namespace Go.Proofs.Ytdojgmmpcdbeoaa
open Go Go.ChangeShapes Go.WideShapes Go.ChangeAt Go.RowKit Go.Deep
set_option linter.unusedVariables false
set_option linter.unusedSimpArgs false

def kA {T:Type} [Inhabited T] (f:T→Value) (m:Nat):Kd (List T):=⟨m,fun _ cs d=>d.length=m∧cs=arC f m d⟩
theorem opens_arr {T:Type} [Inhabited T] {P:Program} {t e:TypeId} {f:T→Value} {G:T→Prop} (m:Nat) (ht:P.underlying t=some (.array m e)) (hc:P.cellsOf e=1) (hc4:P.cellsOf t=m)
  (he:∀ {H:Type} {enc:TypeId × Value→H} {w:World} {base:Nat} {spare:Nat→Bool} {held:Bool} {fuel:Nat} {cs:List Value} {x:DataW H × List MemPlace},DataW.trod enc P w base spare held fuel e cs=some x→∃ n,cs=[f n]∧G n) :
  Opens P t (kA f m) (fun l=>l.length=m∧∀ n∈l,G n):=fun H enc w base spare held fuel cs x h=>by
 obtain ⟨xs,fu,_,_,hl,hx,hf⟩:=DataW.trod_array ht h
 rw [hc4] at hl
 rw [hc] at hf
 have hex:∀ i,i<m→∃ n:T,((cs.drop (i * 1)).take 1)=[f n]∧G n:=fun i hi=>by
  have h1:=hf i hi
  rw [List.getElem?_eq_getElem (by omega)] at h1
  exact he h1
 obtain ⟨F,hF⟩:=choose_lt hex
 have hn:∀ j,j<m→nth ((List.range m).map F) ((j:Nat):Int)=F j:=fun j hj=>by rw [nth_nat]; simp [hj]
 refine ⟨(List.range m).map F,hl,⟨by simp,fun n hn=>?_⟩,fun _ _=>⟨by simp,?_⟩⟩
 ·obtain ⟨i,hi,rfl⟩:=List.mem_map.1 hn
  exact (hF i (by simpa using hi)).2
 ·apply List.ext_getElem
  ·simp [arC,hl]
  ·intro j h1 h2
   have hj:j<m:=by omega
   have h3:=(hF j hj).1
   rw [Nat.mul_one,List.drop_eq_getElem_cons h1] at h3
   simp only [List.take_succ_cons,List.take_zero,List.cons.injEq,and_true] at h3
   rw [h3]
   simp only [arC,List.getElem_map,List.getElem_range]
   rw [hn j hj]
theorem opens_u16s:Opens Try.prog 38 (kA (Value.int .u16) 8) (fun l=>l.length=8∧∀ n∈l,inK .u16 n) :=
 opens_arr 8 Try.underlying38 (by kernel_rfl) (by kernel_rfl) (fun h=>by
  obtain ⟨n,h1,_,h2⟩:=DataW.trod_int (show Try.prog.underlying 37=some (.int .u16) from Try.underlying37) h
  exact ⟨n,h1,h2⟩)
theorem opens_bools:Opens Try.prog 39 (kA Value.bool 8) (fun l=>l.length=8∧∀ n∈l,True) :=
 opens_arr 8 Try.underlying39 (by kernel_rfl) (by kernel_rfl) (fun h=>by
  obtain ⟨n,h1,_⟩:=DataW.trod_bool (show Try.prog.underlying 4=some .bool from Try.underlying4) h
  exact ⟨n,h1,trivial⟩)
theorem inU16 {n:Int} (h:inK .u16 n):0≤n∧n≤65535:=by
 have h:(decide (IntKind.u16.min≤n)&&decide (n≤IntKind.u16.max))=true:=h
 simp only [Bool.and_eq_true,decide_eq_true_eq] at h
 have e1:IntKind.u16.min=0:=by decide
 have e2:IntKind.u16.max=65535:=by decide
 rw [e1,e2] at h
 omega
end Go.Proofs.Ytdojgmmpcdbeoaa
