/- Below, and joined: the evaluations. -/
import Derived.Test.YthifkdgljapmeaaEf
namespace Go.Proofs.Ythifkdgljapmeaa
open Go Go.RowKit
set_option linter.unusedVariables false
set_option linter.unusedSimpArgs false

def wfl (l:List Ent):Prop:=∀ e∈l,WfV e.val
theorem isN_iff {k:Int} {key:Str} {e:Ent}:isN k key e=true↔e.val.kind=k∧e.key=key:=by unfold isN; simp
theorem findL_spec (l:List Ent) (k:Int) (key:Str):(findL l k key=-1∧∀ i,i<l.length→isN k key (l.getD i default)=false)∨∃ i:Nat,i<l.length∧findL l k key=(i:Int)∧isN k key (l.getD i default)=true:=by
 by_cases h:l.findIdx (isN k key)<l.length
 ·refine .inr ⟨_,h,?_,?_⟩
  ·unfold findL; simp [h]
  ·have:=List.findIdx_getElem (w:=h); simpa [h] using this
 ·refine .inl ⟨?_,fun i hi=>?_⟩
  ·unfold findL; simp [h]
  ·have:=List.not_of_lt_findIdx (p:=isN k key) (xs:=l) (i:=i) (by omega)
   simpa [hi] using this
theorem findA_ok {a:Arena} (h:arOk a=true) (k:Int) (key:Str):findA a k key=findL a.slots k key:=by unfold findA; rw [h]; rfl
theorem joinE_self {e:Ent} (h:okE e=true) (w:WfV e.val):joinE e e=(e,0):=by
 have hv:okV e.val=true:=by unfold okE at h; exact andR (andR h)
 have hn:nameE e e=true:=by simp [nameE]
 have hj:(joinV e.val e.val).1=e.val:=J_self hv w
 unfold joinE; rw [h,hn]; simp [hj]
def belowA (a b:Arena):Bool:=(arOk a&&arOk b)&&a.slots.all fun e=>decide (0≤findA b e.val.kind e.key)&&belowV e.val (nth b.slots (findA b e.val.kind e.key)).val
def joinA (a:Arena) (e:Ent):Arena × Bool × Int :=
 bif !arOk a||!okE e then (a,false,2) else
 bif decide (findA a e.val.kind e.key<0)&&((a.slots.length:Int)==a.cap) then (a,false,4) else
 bif decide (findA a e.val.kind e.key<0) then (⟨a.cap,a.slots++[e],idxR (a.slots++[e])⟩,true,0) else
 (⟨a.cap,a.slots.set (findA a e.val.kind e.key).toNat (joinE (nth a.slots (findA a e.val.kind e.key)) e).1,a.idx⟩,!sameE (nth a.slots (findA a e.val.kind e.key)) (joinE (nth a.slots (findA a e.val.kind e.key)) e).1,0)
theorem sml_nth {l:List Ent} (h:sml l) {i:Int} (h0:0≤i) (h1:i<l.length):sm (nth l i).val:=h.2 _ (by unfold nth; exact getD_mem' (by omega))
theorem joinE_below {a b:Ent} (ha:okE a=true) (hb:okE b=true) (hn:nameE a b=true):sameE (joinE a b).1 b=belowV a.val b.val:=by
 have hn':=nameE_iff.1 hn
 have va:okV a.val=true:=by unfold okE at ha; exact andR (andR ha)
 have vb:okV b.val=true:=by unfold okE at hb; exact andR (andR hb)
 have ok2:Ok2 a.val b.val:=⟨va,vb,hn'.1⟩
 have e:(joinE a b).1=⟨a.key,J a.val b.val⟩:=by unfold joinE; rw [ha,hb,hn]; rfl
 rw [e,Bool.eq_iff_iff,sameE_iff,belowV_iff]
 constructor
 ·intro h
  have:=congrArg Ent.val h
  exact ⟨ok2,this⟩
 ·rintro ⟨_,h⟩
  obtain ⟨bk,bv⟩:=b
  simp only at hn' h
  rw [h,hn'.2]
theorem arBelow_ev (a b:Arena) (ha:sma a) (hb:sma b):arena_Below_raw a b (belowA a b):=by
 refine ⟨ha,fun _=>hb,fun c=>?_,fun c=>⟨ha,?_⟩⟩ <;> rw [checkA_ne,checkA_ne] at c
 ·have:(arOk a&&arOk b)=false:=by revert c; cases arOk a <;> cases arOk b <;> simp
  unfold belowA; rw [this]; rfl
 ·have h12:arOk a=true∧arOk b=true:=by revert c; cases arOk a <;> cases arOk b <;> simp
  have hoa:=(arOk_iff.1 h12.1).2.1
  have hob:=(arOk_iff.1 h12.2).2.1
  rw [eachA_ok h12.1]
  -- a round
  have rnd:∀ (e:Ent) (i:Int),e∈a.slots→∀ z,(z=bif decide (0≤findA b e.val.kind e.key)&&belowV e.val (nth b.slots (findA b e.val.kind e.key)).val then .inl false else .inr false)→arena_Below_b54 b false (i,e) z:=by
   intro e i he z hz
   refine ⟨hb,fun c=>?_,fun c=>?_⟩
   ·simp only [decide_eq_true_eq] at c
    have:decide (0≤findA b e.val.kind e.key)=false:=by simp; omega
    rw [this] at hz; exact hz
   ·simp only [decide_eq_false_iff_not] at c
    have hd:decide (0≤findA b e.val.kind e.key)=true:=by simp; omega
    rw [hd,Bool.true_and] at hz
    rw [findA_ok h12.2] at c hz ⊢
    rcases findL_spec b.slots e.val.kind e.key with ⟨e1,_⟩ | ⟨j,hj,e1,e2⟩
    ·omega
    ·have hs:=sml_nth hb.1 (i:=findL b.slots e.val.kind e.key) (by omega) (by omega)
     have he2:nameE e (nth b.slots (findL b.slots e.val.kind e.key))=true:=by
      rw [e1,nth_nat,nameE_iff]; have:=isN_iff.1 e2; exact ⟨this.1.symm,this.2.symm⟩
     have hbe:=joinE_below (hoa e he) (hob _ (by rw [e1,nth_nat]; exact getD_mem' hj)) he2
     simp only
     refine ⟨⟨by omega,by omega⟩,ha.1.2 e he,hs,_,rfl,⟨by omega,by omega⟩,sm_joinE (ha.1.2 e he) hs,_,rfl,fun c2=>?_,fun c2=>?_⟩
     ·rw [hbe,Bool.not_eq_true'] at c2; rw [c2] at hz; exact hz
     ·rw [hbe,Bool.not_eq_false'] at c2; rw [c2] at hz; exact hz
  obtain ⟨x,hx,hc⟩:=itr_scan (body:=arena_Below_b54 b) false a.slots (fun i=>!(decide (0≤findA b (a.slots.getD i default).val.kind (a.slots.getD i default).key)&&belowV (a.slots.getD i default).val (nth b.slots (findA b (a.slots.getD i default).val.kind (a.slots.getD i default).key)).val)) (fun _=>false)
   (fun i hi hp=>rnd _ _ (getD_mem' hi) _ (by simp only [Bool.not_eq_false'] at hp; rw [hp]; rfl))
   (fun i hi hp=>rnd _ _ (getD_mem' hi) _ (by simp only [Bool.not_eq_true'] at hp; rw [hp]; rfl))
  have e0:belowA a b=a.slots.all fun e=>decide (0≤findA b e.val.kind e.key)&&belowV e.val (nth b.slots (findA b e.val.kind e.key)).val:=by unfold belowA; rw [h12.1,h12.2]; rfl
  rw [e0]
  refine ⟨x,hx,fun s e=>?_,fun y e=>?_⟩
  ·rcases hc with ⟨_,h3⟩ | ⟨i,_,_,_,h6⟩
   ·rw [List.all_eq_true]; intro z hz
    obtain ⟨i,hi,rfl⟩:=List.getElem_of_mem hz
    have:=h3 i hi; simpa [hi] using this
   ·rw [e] at h6; cases h6
  ·rcases hc with ⟨h3,_⟩ | ⟨i,hi,h4,_,h6⟩
   ·rw [e] at h3; cases h3
   ·rw [e] at h6; cases h6
    rw [List.all_eq_false]; exact ⟨_,getD_mem' hi,by first | simpa using h4 | (simp only [Bool.not_eq_true'] at h4; rw [h4]; simp)⟩
/-- A new name's slots. -/
theorem slots_new {a : Arena} {e : Ent} (ho : arOk a = true) (he : okE e = true) (hf : findA a e.val.kind e.key < 0) : slotsB (a.slots ++ [e]) = true := by
  obtain ⟨_, h1, h2, _⟩ := arOk_iff.1 ho
  rw [findA_ok ho] at hf
  rcases findL_spec a.slots e.val.kind e.key with ⟨_, hn⟩ | ⟨j, _, e1, _⟩
  · refine slotsB_iff.2 ⟨fun z hz => ?_, fun i k hki hi => ?_⟩
    · rcases List.mem_append.1 hz with hz | hz
      · exact h1 z hz
      · rw [List.mem_singleton] at hz; rw [hz]; exact he
    · simp only [List.length_append, List.length_singleton] at hi
      by_cases hil : i < a.slots.length
      · have g : ∀ j, j < a.slots.length → (a.slots ++ [e]).getD j default = a.slots.getD j default := fun j hj => by simp [List.getElem?_append, hj]
        rw [g i hil, g k (by omega)]; exact h2 i k hki hil
      · obtain rfl : i = a.slots.length := by omega
        have g1 : (a.slots ++ [e]).getD a.slots.length default = e := by simp
        have g2 : (a.slots ++ [e]).getD k default = a.slots.getD k default := by simp [List.getElem?_append, hki]
        rw [g1, g2, nameE_no]
        rintro ⟨k1, k2⟩
        have := hn k hki
        unfold isN at this; rw [← k1, ← k2] at this; simp at this
  · omega
theorem ok_smallL {a:Arena} {b:Bool} (h:(!arOk a||b)=false):a.slots.length≤8:=(ok_small (by revert h; cases arOk a <;> simp)).1
theorem ok_smallC {a:Arena} {b:Bool} (h:((checkA a != 0)||b)=false):a.slots.length≤8:=ok_smallL (b:=b) (by rw [checkA_ne] at h; exact h)
theorem arJoin_ev (a:Arena) (e:Ent) (ha:sma a) (he:sm e.val) (w:WfV e.val):arena_Join_raw a e (joinA a e):=by
 have h2:=ha.2.1
 refine ⟨ha,fun _=>he,fun c=>?_,fun c=>⟨ha,fun c2=>?_,fun c2=>⟨a.slots,cloneE_ev _ (by have:=ok_smallC c; omega),fun c3=>?_,fun c3=>?_⟩⟩⟩ <;> rw [checkA_ne,checkE_ne] at c
 ·unfold joinA; rw [c]; rfl
 ·unfold joinA; rw [c,c2]; rfl
 ·have ho:arOk a=true∧okE e=true:=by revert c; cases arOk a <;> cases okE e <;> simp
  have hf:findA a e.val.kind e.key<0:=by simpa using c3
  have hl:=(arOk_iff.1 ho.1).1
  refine ⟨he,he,_,rfl,by omega,?_⟩
  rw [joinE_self ho.2 w]
  refine ⟨slots_new ho.1 ho.2 hf,by simp; omega,_,rfl,?_⟩
  unfold joinA; rw [c,c2,c3]; rfl
 ·have ho:arOk a=true∧okE e=true:=by revert c; cases arOk a <;> cases okE e <;> simp
  have hf:¬ findA a e.val.kind e.key<0:=by simpa using c3
  have hr:findA a e.val.kind e.key<(a.slots.length:Int):=by
   rw [findA_ok ho.1] at hf ⊢
   rcases findL_spec a.slots e.val.kind e.key with ⟨e1,_⟩ | ⟨j,hj,e1,_⟩ <;> omega
  have hs:=sml_nth ha.1 (i:=findA a e.val.kind e.key) (by omega) hr
  refine ⟨⟨by omega,hr⟩,hs,he,_,rfl,⟨by omega,hr⟩,sm_joinE hs he,_,rfl,⟨by omega,hr⟩,?_⟩
  unfold joinA; rw [c,c2,c3]
  have:∀ x y:Ent,sameE x y=sameE y x:=fun x y=>by rw [Bool.eq_iff_iff,sameE_iff,sameE_iff]; exact eq_comm
  rw [this]; rfl
end Go.Proofs.Ythifkdgljapmeaa
