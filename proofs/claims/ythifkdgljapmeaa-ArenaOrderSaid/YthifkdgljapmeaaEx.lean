/- Alike, and merged: the evaluations. -/
import Derived.Test.YthifkdgljapmeaaEg
namespace Go.Proofs.Ythifkdgljapmeaa
open Go Go.RowKit
set_option linter.unusedVariables false
set_option linter.unusedSimpArgs false

def alikeA (a b:Arena):Bool:=belowA a b&&belowA b a
theorem arAlike_ev (a b:Arena) (ha:sma a) (hb:sma b):arena_Alike_raw a b (alikeA a b):=⟨ha,hb,fun _=>hb,fun _=>ha,rfl⟩
theorem sml_set {l:List Ent} (h:sml l) {i:Nat} {x:Ent} (hx:sm x.val):sml (l.set i x):=⟨by rw [List.length_set]; exact h.1,fun e he=>by
 rcases List.mem_or_eq_of_mem_set he with h1 | h1
 ·exact h.2 e h1
 ·rw [h1]; exact hx⟩
theorem sma_join {a:Arena} {e:Ent} (ha:sma a) (he:sm e.val):sma (joinA a e).1:=by
 unfold joinA
 cases hc:(!arOk a||!okE e) with
 | true=>exact ha
 | false =>
  rw [cond_false]
  have ho:arOk a=true∧okE e=true:=by revert hc; cases arOk a <;> cases okE e <;> simp
  have hl:=(arOk_iff.1 ho.1).1
  cases hc2:(decide (findA a e.val.kind e.key<0)&&((a.slots.length:Int)==a.cap)) with
  | true=>exact ha
  | false =>
   rw [cond_false]
   cases hc3:decide (findA a e.val.kind e.key<0) with
   | true =>
    rw [cond_true]
    refine ⟨⟨?_,fun x hx=>?_⟩,?_,?_⟩
    ·simp; omega
    ·rcases List.mem_append.1 hx with h | h
     ·exact ha.1.2 x h
     ·rw [List.mem_singleton] at h; rw [h]; exact he
    ·simp; omega
    ·show (idxR (a.slots++[e])).length≤9223372036854775807
     rw [idxR_length]; simp; omega
   | false =>
    rw [cond_false]
    have hf:¬ findA a e.val.kind e.key<0:=by simpa using hc3
    have hr:findA a e.val.kind e.key<(a.slots.length:Int):=by
     rw [findA_ok ho.1] at hf ⊢
     rcases findL_spec a.slots e.val.kind e.key with ⟨e1,_⟩ | ⟨j,hj,e1,_⟩ <;> omega
    exact ⟨sml_set ha.1 (sm_joinE (sml_nth ha.1 (by omega) hr) he),by show (a.slots.set _ _).length≤9223372036854775807; rw [List.length_set]; exact ha.2.1,ha.2.2⟩
def stepA (s:Arena × Int × Int) (e:Ent):Arena × Int × Int:=((joinA s.1 e).1,bif (joinA s.1 e).2.1 then s.2.1 + 1 else s.2.1,bif (joinA s.1 e).2.2 != 0 then s.2.2 + 1 else s.2.2)
def mergeA (a:Arena) (l:List Ent):Arena × Int × Int:=l.foldl stepA (a,0,0)
theorem merge_inv {a:Arena} {l:List Ent} (ha:sma a) (hl:sml l):∀ i,i≤l.length→sma ((l.take i).foldl stepA (a,0,0)).1∧0≤((l.take i).foldl stepA (a,0,0)).2.1∧((l.take i).foldl stepA (a,0,0)).2.1≤i∧0≤((l.take i).foldl stepA (a,0,0)).2.2∧((l.take i).foldl stepA (a,0,0)).2.2≤i:=by
 intro i
 induction i with
 | zero=>intro _; exact ⟨ha,by simp,by simp,by simp,by simp⟩
 | succ i ih =>
  intro hi
  obtain ⟨h1,h2,h3,h4,h5⟩:=ih (by omega)
  have et:l.take (i + 1)=l.take i++[l.getD i default]:=by rw [List.take_add_one]; simp [show i<l.length by omega]
  rw [et,List.foldl_append]
  generalize (l.take i).foldl stepA (a,0,0)=s at *
  have he:=hl.2 _ (getD_mem' (show i<l.length by omega))
  simp only [List.foldl_cons,List.foldl_nil,stepA]
  refine ⟨sma_join h1 he,?_,?_,?_,?_⟩
  ·cases (joinA s.1 (l.getD i default)).2.1 <;> simp <;> omega
  ·cases (joinA s.1 (l.getD i default)).2.1 <;> simp <;> omega
  ·cases ((joinA s.1 (l.getD i default)).2.2 != 0) <;> simp <;> omega
  ·cases ((joinA s.1 (l.getD i default)).2.2 != 0) <;> simp <;> omega
theorem merge_loop {a:Arena} {l:List Ent} (ha:sma a) (hl:sml l) {body:Int × Int × Int × Int × List Ent × List Int→(Int × Int × Int × Int × List Ent × List Int) ⊕ (Int × Int × Int × Int × List Ent × List Int)→Prop}
  (hb:∀ (m o:Int) (i:Nat) (b:Arena),i<l.length→sma b→sm (l.getD i default).val→∀ z,(z=.inl (bif (joinA b (l.getD i default)).2.1 then IntKind.i64.wrap (m + 1) else m,bif (joinA b (l.getD i default)).2.2 != 0 then IntKind.i64.wrap (o + 1) else o,IntKind.i64.wrap ((i:Int) + 1),(joinA b (l.getD i default)).1.cap,(joinA b (l.getD i default)).1.slots,(joinA b (l.getD i default)).1.idx))→body (m,o,(i:Int),b.cap,b.slots,b.idx) z)
  (he:∀ m o c s x,body (m,o,(l.length:Int),c,s,x) (.inr (m,o,(l.length:Int),c,s,x))) :
  ∃ x,LoopR body ((0:Int),(0:Int),(0:Int),a.cap,a.slots,a.idx) x∧mergeA a l=(⟨x.2.2.2.1,x.2.2.2.2.1,x.2.2.2.2.2⟩,x.1,x.2.1):=by
 have hl1:=hl.1
 refine ⟨_,loop_fold (body:=body) l.length (fun i=>(((l.take i).foldl stepA (a,0,0)).2.1,((l.take i).foldl stepA (a,0,0)).2.2,(i:Int),((l.take i).foldl stepA (a,0,0)).1.cap,((l.take i).foldl stepA (a,0,0)).1.slots,((l.take i).foldl stepA (a,0,0)).1.idx)) (fun i hi=>?_) (he _ _ _ _ _),?_⟩
 ·obtain ⟨h1,h2,h3,h4,h5⟩:=merge_inv ha hl i (by omega)
  refine hb _ _ i _ hi h1 (hl.2 _ (getD_mem' hi)) _ ?_
  have et:l.take (i + 1)=l.take i++[l.getD i default]:=by rw [List.take_add_one]; simp [hi]
  rw [et,List.foldl_append]
  generalize (l.take i).foldl stepA (a,0,0)=s at *
  simp only [List.foldl_cons,List.foldl_nil,stepA]
  rw [wrapS hi (by omega),wrap64 (n:=s.2.1 + 1) (by omega) (by omega),wrap64 (n:=s.2.2 + 1) (by omega) (by omega)]
 ·simp only [List.take_length]; rfl
theorem arMerge_ev (a:Arena) (l:List Ent) (ha:sma a) (hl:sml l) (hw:wfl l):arena_Merge_raw a l (mergeA a l):=by
 obtain ⟨x,hx,e⟩:=merge_loop (body:=arena_Merge_b16 l) ha hl (fun m o i b hi hb he z hz=>by
  refine ⟨fun _=>⟨⟨Int.natCast_nonneg i,by simpa using hi⟩,hb,he,hw _ (by rw [nth_nat]; exact getD_mem' hi),_,rfl,fun c=>⟨fun c2=>?_,fun c2=>?_⟩,fun c=>⟨fun c2=>?_,fun c2=>?_⟩⟩,fun h=>by simp at h; omega⟩ <;>
   (simp only [nth_nat l] at c c2 ⊢; rw [hz,c,c2]; rfl)) (fun m o c s x=>⟨fun h=>by simp at h,fun _=>rfl⟩)
 exact ⟨x,hx,e⟩
end Go.Proofs.Ythifkdgljapmeaa
