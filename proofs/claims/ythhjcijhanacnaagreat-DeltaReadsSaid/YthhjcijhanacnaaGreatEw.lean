/- Below, and joined: the evaluations. -/
import Derived.Test.YthhjcijhanacnaaGreatEf
namespace Go.Proofs.YthhjcijhanacnaaGreat
open Go Go.RowKit
set_option linter.unusedVariables false
set_option linter.unusedSimpArgs false

def wfl (l:List Ent):Prop:=∀ e∈l,WfV e.val
theorem isN_iff {k:Int} {key:Str} {e:Ent}:isN k key e=true↔e.val.kind=k∧e.key=key:=by unfold isN; simp
theorem findL_spec (l:List Ent) (k:Int) (key:Str):(findL l k key=-1∧∀ i,i<l.length→isN k key (l.getD i default)=false)∨∃ i:Nat,i<l.length∧findL l k key=(i:Int)∧isN k key (l.getD i default)=true:=by
 by_cases h:l.findIdx (isN k key)<l.length
 ·refine .inr ⟨_,h,?_,?_⟩
  ·unfold findL; simp [h]
  ·have:=List.findIdx_getElem (w:=h); simpa [h] using this
 ·refine .inl ⟨?_,fun i hi=>?_⟩
  ·unfold findL; simp [h]
  ·have:=List.not_of_lt_findIdx (p:=isN k key) (xs:=l) (i:=i) (by omega)
   simpa [hi] using this
theorem findA_ok {a:Arena} (h:arOk a=true) (k:Int) (key:Str):findA a k key=findL a.slots k key:=by unfold findA; rw [h]; rfl
theorem findA_no {a:Arena} (h:arOk a=false) (k:Int) (key:Str):findA a k key=-1:=by unfold findA; rw [h]; rfl
theorem joinE_self {e:Ent} (h:okE e=true) (w:WfV e.val):joinE e e=(e,0):=by
 have hv:okV e.val=true:=by unfold okE at h; exact andR (andR h)
 have hn:nameE e e=true:=by simp [nameE]
 have hj:(joinV e.val e.val).1=e.val:=J_self hv w
 unfold joinE; rw [h,hn]; simp [hj]
def joinA (a:Arena) (e:Ent):Arena × Bool × Int :=
 bif !arOk a||!okE e then (a,false,2) else
 bif decide (findA a e.val.kind e.key<0)&&((a.slots.length:Int)==a.cap) then (a,false,4) else
 bif decide (findA a e.val.kind e.key<0) then (⟨a.cap,a.slots++[e],idxR (a.slots++[e])⟩,true,0) else
 (⟨a.cap,a.slots.set (findA a e.val.kind e.key).toNat (joinE (nth a.slots (findA a e.val.kind e.key)) e).1,a.idx⟩,!sameE (nth a.slots (findA a e.val.kind e.key)) (joinE (nth a.slots (findA a e.val.kind e.key)) e).1,0)
theorem sml_nth {l:List Ent} (h:sml l) {i:Int} (h0:0≤i) (h1:i<l.length):sm (nth l i).val:=h.2 _ (by unfold nth; exact getD_mem' (by omega))
/-- A new name's slots. -/
theorem slots_new {a : Arena} {e : Ent} (ho : arOk a = true) (he : okE e = true) (hf : findA a e.val.kind e.key < 0) : slotsB (a.slots ++ [e]) = true := by
  obtain ⟨_, h1, h2, _⟩ := arOk_iff.1 ho
  rw [findA_ok ho] at hf
  rcases findL_spec a.slots e.val.kind e.key with ⟨_, hn⟩ | ⟨j, _, e1, _⟩
  · refine slotsB_iff.2 ⟨fun z hz => ?_, fun i k hki hi => ?_⟩
    · rcases List.mem_append.1 hz with hz | hz
      · exact h1 z hz
      · rw [List.mem_singleton] at hz; rw [hz]; exact he
    · simp only [List.length_append, List.length_singleton] at hi
      by_cases hil : i < a.slots.length
      · have g : ∀ j, j < a.slots.length → (a.slots ++ [e]).getD j default = a.slots.getD j default := fun j hj => by simp [List.getElem?_append, hj]
        rw [g i hil, g k (by omega)]; exact h2 i k hki hil
      · obtain rfl : i = a.slots.length := by omega
        have g1 : (a.slots ++ [e]).getD a.slots.length default = e := by simp
        have g2 : (a.slots ++ [e]).getD k default = a.slots.getD k default := by simp [List.getElem?_append, hki]
        rw [g1, g2, nameE_no]
        rintro ⟨k1, k2⟩
        have := hn k hki
        unfold isN at this; rw [← k1, ← k2] at this; simp at this
  · omega
theorem ok_smallL {a:Arena} {b:Bool} (h:(!arOk a||b)=false):a.slots.length≤8:=(ok_small (by revert h; cases arOk a <;> simp)).1
theorem ok_smallC {a:Arena} {b:Bool} (h:((checkA a != 0)||b)=false):a.slots.length≤8:=ok_smallL (b:=b) (by rw [checkA_ne] at h; exact h)
theorem arJoin_ev (a:Arena) (e:Ent) (ha:sma a) (he:sm e.val) (w:WfV e.val):arena_Join_raw a e (joinA a e):=by
 have h2:=ha.2.1
 refine ⟨ha,fun _=>he,fun c=>?_,fun c=>⟨ha,fun c2=>?_,fun c2=>⟨a.slots,cloneE_ev _ (by have:=ok_smallC c; omega),fun c3=>?_,fun c3=>?_⟩⟩⟩ <;> rw [checkA_ne,checkE_ne] at c
 ·unfold joinA; rw [c]; rfl
 ·unfold joinA; rw [c,c2]; rfl
 ·have ho:arOk a=true∧okE e=true:=by revert c; cases arOk a <;> cases okE e <;> simp
  have hf:findA a e.val.kind e.key<0:=by simpa using c3
  have hl:=(arOk_iff.1 ho.1).1
  refine ⟨he,he,_,rfl,by omega,?_⟩
  rw [joinE_self ho.2 w]
  refine ⟨slots_new ho.1 ho.2 hf,by simp; omega,_,rfl,?_⟩
  unfold joinA; rw [c,c2,c3]; rfl
 ·have ho:arOk a=true∧okE e=true:=by revert c; cases arOk a <;> cases okE e <;> simp
  have hf:¬ findA a e.val.kind e.key<0:=by simpa using c3
  have hr:findA a e.val.kind e.key<(a.slots.length:Int):=by
   rw [findA_ok ho.1] at hf ⊢
   rcases findL_spec a.slots e.val.kind e.key with ⟨e1,_⟩ | ⟨j,hj,e1,_⟩ <;> omega
  have hs:=sml_nth ha.1 (i:=findA a e.val.kind e.key) (by omega) hr
  refine ⟨⟨by omega,hr⟩,hs,he,_,rfl,⟨by omega,hr⟩,sm_joinE hs he,_,rfl,⟨by omega,hr⟩,?_⟩
  unfold joinA; rw [c,c2,c3]
  have:∀ x y:Ent,sameE x y=sameE y x:=fun x y=>by rw [Bool.eq_iff_iff,sameE_iff,sameE_iff]; exact eq_comm
  rw [this]; rfl
end Go.Proofs.YthhjcijhanacnaaGreat
