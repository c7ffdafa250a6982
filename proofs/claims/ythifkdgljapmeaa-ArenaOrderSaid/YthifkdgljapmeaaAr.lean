/- Arenas as sets of entries, one of a name: what a join comes to. -/
import Derived.Test.YthifkdgljapmeaaEx
namespace Go.Proofs.Ythifkdgljapmeaa
open Go Go.RowKit
set_option linter.unusedVariables false
set_option linter.unusedSimpArgs false

theorem nameE_self (a:Ent):nameE a a=true:=by simp [nameE]
theorem nameE_symm {a b:Ent} (h:nameE a b=true):nameE b a=true:=by rw [nameE_iff] at *; exact ⟨h.1.symm,h.2.symm⟩
theorem nameE_trans {a b c:Ent} (h:nameE a b=true) (k:nameE b c=true):nameE a c=true:=by rw [nameE_iff] at *; exact ⟨h.1.trans k.1,h.2.trans k.2⟩
theorem mem_getD {T:Type} [Inhabited T] {l:List T} {x:T} (h:x∈l):∃ i,i<l.length∧l.getD i default=x:=by
 obtain ⟨i,hi,rfl⟩:=List.getElem_of_mem h
 exact ⟨i,hi,by simp [hi]⟩
theorem dist_uniq {d:List Ent} (h:Dist d) {f g:Ent} (hf:f∈d) (hg:g∈d) (hn:nameE f g=true):f=g:=by
 obtain ⟨i,hi,rfl⟩:=mem_getD hf
 obtain ⟨j,hj,rfl⟩:=mem_getD hg
 rcases Nat.lt_trichotomy i j with hl | hl | hl
 ·have:=h j i hl hj; rw [nameE_symm hn] at this; cases this
 ·rw [hl]
 ·have:=h i j hl hi; rw [hn] at this; cases this
theorem okE_V {e:Ent} (h:okE e=true):okV e.val=true:=by unfold okE at h; exact andR (andR h)
/-- The place of a name. -/
theorem find_cases {a : Arena} (h : arOk a = true) (e : Ent) : (findA a e.val.kind e.key = -1 ∧ ∀ f ∈ a.slots, nameE f e = false) ∨ ∃ i : Nat, i < a.slots.length ∧ findA a e.val.kind e.key = (i : Int) ∧ nameE (a.slots.getD i default) e = true := by
  rw [findA_ok h]
  rcases findL_spec a.slots e.val.kind e.key with ⟨h1, h2⟩ | ⟨i, h1, h2, h3⟩
  · refine .inl ⟨h1, fun f hf => ?_⟩
    obtain ⟨i, hi, rfl⟩ := mem_getD hf
    exact h2 i hi
  · exact .inr ⟨i, h1, h2, h3⟩
theorem find_at {a:Arena} (h:arOk a=true) {e:Ent} {i:Nat} (hi:i<a.slots.length) (hn:nameE (a.slots.getD i default) e=true):findA a e.val.kind e.key=(i:Int):=by
 rcases find_cases h e with ⟨_,h2⟩ | ⟨j,h1,h2,h3⟩
 ·have:=h2 _ (getD_mem' hi); rw [hn] at this; cases this
 ·rw [h2]
  have hD:=(arOk_iff.1 h).2.2.1
  rcases Nat.lt_trichotomy i j with hl | hl | hl
  ·have:=hD j i hl h1; rw [nameE_trans h3 (nameE_symm hn)] at this; cases this
  ·rw [hl]
  ·have:=hD i j hl hi; rw [nameE_trans hn (nameE_symm h3)] at this; cases this
/-- x is below what t has of its name. -/
def Blw (x : Ent) (t : Arena) : Prop := ∃ f ∈ t.slots, nameE x f = true ∧ belowV x.val f.val = true
theorem belowA_iff {a b:Arena}:belowA a b=true↔arOk a=true∧arOk b=true∧∀ x∈a.slots,Blw x b:=by
 unfold belowA
 simp only [Bool.and_eq_true,List.all_eq_true,decide_eq_true_eq,and_assoc]
 refine and_congr_right fun ha=>and_congr_right fun hb=>forall_congr' fun x=>imp_congr_right fun hx=>?_
 constructor
 ·rintro ⟨h1,h2⟩
  rcases find_cases hb x with ⟨h3,_⟩ | ⟨i,h3,h4,h5⟩
  ·omega
  ·rw [h4,nth_nat] at h2
   exact ⟨_,getD_mem' h3,nameE_symm h5,h2⟩
 ·rintro ⟨f,hf,hn,hv⟩
  obtain ⟨i,hi,rfl⟩:=mem_getD hf
  rw [find_at hb hi (nameE_symm hn),nth_nat]
  exact ⟨by omega,hv⟩
def wfa (a:Arena):Prop:=wfl a.slots
theorem Blw.trans {x:Ent} {b c:Arena} (wx:WfV x.val) (wb:wfa b) (wc:wfa c) (h:Blw x b) (k:belowA b c=true):Blw x c:=by
 obtain ⟨f,hf,hn,hv⟩:=h
 obtain ⟨g,hg,hn2,hv2⟩:=(belowA_iff.1 k).2.2 f hf
 exact ⟨g,hg,nameE_trans hn hn2,below_trans wx (wb f hf) (wc g hg) hv hv2⟩
theorem Blw.self {x:Ent} {a:Arena} (h:x∈a.slots) (hx:okE x=true) (w:WfV x.val):Blw x a:=⟨x,h,nameE_self x,below_refl (okE_V hx) w⟩
theorem belowA_self {a:Arena} (h:arOk a=true) (w:wfa a):belowA a a=true:=belowA_iff.2 ⟨h,h,fun x hx=>Blw.self hx ((arOk_iff.1 h).2.1 x hx) (w x hx)⟩
theorem belowA_trans {a b c:Arena} (wa:wfa a) (wb:wfa b) (wc:wfa c) (h:belowA a b=true) (k:belowA b c=true):belowA a c=true :=
 belowA_iff.2 ⟨(belowA_iff.1 h).1,(belowA_iff.1 k).2.1,fun x hx=>((belowA_iff.1 h).2.2 x hx).trans (wa x hx) wb wc k⟩

theorem idxR_names {d d':List Ent} (hl:d'.length=d.length) (hD:Dist d') (h:∀ i,i<d.length→nameE (d.getD i default) (d'.getD i default)=true):idxR d=idxR d':=by
 refine idxR_eq hD (by rw [hl]; exact idxR_perm d) ?_
 have hs:=idxR_srt d
 unfold Srt at *
 refine List.Pairwise.imp_of_mem (fun {i j} hi hj hp=>?_) hs
 have hi':=idR_mem.1 ((idxR_perm d).mem_iff.1 hi)
 have hj':=idR_mem.1 ((idxR_perm d).mem_iff.1 hj)
 unfold leP at *
 intro hlt
 apply hp
 have e1:=nameE_iff.1 (h i.toNat (by omega))
 have e2:=nameE_iff.1 (h j.toNat (by omega))
 exact (ltN_name (a:=nth d j) (b:=nth d' j) e2).1.2 ((ltN_name (a:=nth d i) (b:=nth d' i) e1).2.2 hlt)

theorem joinE_ok {a b:Ent} (ha:okE a=true) (hb:okE b=true) (hn:nameE a b=true):Ok2 a.val b.val∧joinE a b=(⟨a.key,J a.val b.val⟩,0) :=
 ⟨⟨okE_V ha,okE_V hb,(nameE_iff.1 hn).1⟩,by unfold joinE; rw [ha,hb,hn]; rfl⟩
theorem joinE_okE {a b:Ent} (ha:okE a=true) (hb:okE b=true) (hn:nameE a b=true):okE (joinE a b).1=true:=by
 obtain ⟨o,e⟩:=joinE_ok ha hb hn
 rw [e]
 unfold okE at ha ⊢
 rw [andL ha,andL (andR ha)]
 have:=J_ok o
 simpa using this
theorem joinE_name {a b:Ent} (ha:okE a=true) (hb:okE b=true) (hn:nameE a b=true):nameE (joinE a b).1 a=true:=by
 obtain ⟨o,e⟩:=joinE_ok ha hb hn
 rw [e,nameE_iff]; exact ⟨J_kind o,rfl⟩
theorem joinE_wf {a b:Ent} (ha:okE a=true) (hb:okE b=true) (hn:nameE a b=true) (wa:WfV a.val) (wb:WfV b.val):WfV (joinE a b).1.val:=by
 obtain ⟨o,e⟩:=joinE_ok ha hb hn
 rw [e]; exact J_wf o wa wb

/-- What a join comes to. -/
theorem join_cases (a : Arena) (e : Ent) :
    ((arOk a = false ∨ okE e = false) ∧ joinA a e = (a, false, 2)) ∨
    (arOk a = true ∧ okE e = true ∧
      (((∀ f ∈ a.slots, nameE f e = false) ∧ findA a e.val.kind e.key = -1 ∧ (a.slots.length : Int) = a.cap ∧ joinA a e = (a, false, 4)) ∨
       ((∀ f ∈ a.slots, nameE f e = false) ∧ findA a e.val.kind e.key = -1 ∧ (a.slots.length : Int) < a.cap ∧ joinA a e = (⟨a.cap, a.slots ++ [e], idxR (a.slots ++ [e])⟩, true, 0)) ∨
       (∃ i : Nat, i < a.slots.length ∧ findA a e.val.kind e.key = (i : Int) ∧ nameE (a.slots.getD i default) e = true ∧
         joinA a e = (⟨a.cap, a.slots.set i (joinE (a.slots.getD i default) e).1, a.idx⟩, !sameE (a.slots.getD i default) (joinE (a.slots.getD i default) e).1, 0)))) := by
  cases ho : arOk a with
  | false => refine .inl ⟨.inl rfl, ?_⟩; unfold joinA; rw [ho]; rfl
  | true =>
    cases he : okE e with
    | false => refine .inl ⟨.inr rfl, ?_⟩; unfold joinA; rw [ho, he]; rfl
    | true =>
      refine .inr ⟨rfl, rfl, ?_⟩
      have hle := (arOk_iff.1 ho).1.2.2
      rcases find_cases ho e with ⟨h1, h2⟩ | ⟨i, h1, h2, h3⟩
      · by_cases hc : (a.slots.length : Int) = a.cap
        · refine .inl ⟨h2, h1, hc, ?_⟩
          unfold joinA; rw [ho, he, h1, hc]; simp
        · refine .inr (.inl ⟨h2, h1, by omega, ?_⟩)
          have : ((a.slots.length : Int) == a.cap) = false := by simpa using hc
          unfold joinA; rw [ho, he, h1, this]; simp
      · refine .inr (.inr ⟨i, h1, h2, h3, ?_⟩)
        have : decide ((i : Int) < 0) = false := by simp
        unfold joinA; rw [ho, he, h2, this]; simp [nth_nat]
theorem set_getD {l:List Ent} {i j:Nat} {x:Ent}:(l.set i x).getD j default=if i=j∧j<l.length then x else l.getD j default:=by
 simp only [List.getD_eq_getElem?_getD,List.getElem?_set]
 by_cases h:i=j
 ·subst h
  by_cases hi:i<l.length
  ·simp [hi]
  ·simp [hi]
 ·simp [h]
/-- Names at places stay. -/
theorem set_names {l : List Ent} {i : Nat} {x : Ent} (hn : nameE x (l.getD i default) = true) (j : Nat) : nameE ((l.set i x).getD j default) (l.getD j default) = true := by
  rw [set_getD]
  split
  · rename_i h; rw [← h.1]; exact hn
  · exact nameE_self _
theorem dist_names {d d':List Ent} (hl:d'.length=d.length) (h:∀ i,i<d.length→nameE (d'.getD i default) (d.getD i default)=true) (hD:Dist d):Dist d':=by
 intro i k hki hi
 rw [hl] at hi
 have:=hD i k hki hi
 cases hc:nameE (d'.getD i default) (d'.getD k default) with
 | false=>rfl
 | true=>rw [nameE_trans (nameE_trans (nameE_symm (h i hi)) hc) (h k (by omega))] at this; cases this
theorem join_arOk {a:Arena} (e:Ent) (h:arOk a=true):arOk (joinA a e).1=true:=by
 rcases join_cases a e with ⟨_,h1⟩ | ⟨ho,he,⟨_,_,_,h1⟩ | ⟨hn,hf,hl,h1⟩ | ⟨i,hi,hf,hn,h1⟩⟩ <;> rw [h1]
 ·exact h
 ·exact h
 ·have hs:=slotsB_iff.1 (slots_new ho he (by omega))
  obtain ⟨⟨c1,c2,c3⟩,_⟩:=arOk_iff.1 ho
  exact arOk_iff.2 ⟨⟨c1,c2,by simp; omega⟩,hs.1,hs.2,rfl⟩
 ·obtain ⟨⟨c1,c2,c3⟩,k1,k2,k3⟩:=arOk_iff.1 ho
  have hx:=k1 _ (getD_mem' hi)
  have hnm:=joinE_name hx he hn
  have hD:Dist (a.slots.set i (joinE (a.slots.getD i default) e).1):=dist_names (by simp) (fun j _=>set_names hnm j) k2
  refine arOk_iff.2 ⟨⟨c1,c2,by simpa using c3⟩,fun z hz=>?_,hD,?_⟩
  ·rcases List.mem_or_eq_of_mem_set hz with h2 | h2
   ·exact k1 z h2
   ·rw [h2]; exact joinE_okE hx he hn
  ·show a.idx=idxR _
   rw [k3]
   exact idxR_names (by simp) hD (fun j _=>nameE_symm (set_names hnm j))
theorem join_wfa {a:Arena} {e:Ent} (wa:wfa a) (we:WfV e.val):wfa (joinA a e).1:=by
 rcases join_cases a e with ⟨_,h1⟩ | ⟨ho,he,⟨_,_,_,h1⟩ | ⟨hn,hf,hl,h1⟩ | ⟨i,hi,hf,hn,h1⟩⟩ <;> rw [h1]
 ·exact wa
 ·exact wa
 ·intro x hx
  rcases List.mem_append.1 hx with h | h
  ·exact wa x h
  ·rw [List.mem_singleton] at h; rw [h]; exact we
 ·intro x hx
  have hm:=getD_mem' hi
  rcases List.mem_or_eq_of_mem_set hx with h2 | h2
  ·exact wa x h2
  ·rw [h2]; exact joinE_wf ((arOk_iff.1 ho).2.1 _ hm) he hn (wa _ hm) we
theorem join_cap (a:Arena) (e:Ent):(joinA a e).1.cap=a.cap:=by
 rcases join_cases a e with ⟨_,h1⟩ | ⟨ho,he,⟨_,_,_,h1⟩ | ⟨hn,hf,hl,h1⟩ | ⟨i,hi,hf,hn,h1⟩⟩ <;> rw [h1]
/-- What was there is below it. -/
theorem join_above {a : Arena} {e : Ent} (h : arOk a = true) (wa : wfa a) (we : WfV e.val) : belowA a (joinA a e).1 = true := by
  have hok := join_arOk e h
  refine belowA_iff.2 ⟨h, hok, fun x hx => ?_⟩
  have hxo := (arOk_iff.1 h).2.1 x hx
  rcases join_cases a e with ⟨_, h1⟩ | ⟨ho, he, ⟨_, _, _, h1⟩ | ⟨hn, hf, hl, h1⟩ | ⟨i, hi, hf, hn, h1⟩⟩ <;> rw [h1]
  · exact Blw.self hx hxo (wa x hx)
  · exact Blw.self hx hxo (wa x hx)
  · exact Blw.self (List.mem_append_left _ hx) hxo (wa x hx)
  · obtain ⟨j, hj, rfl⟩ := mem_getD hx
    by_cases e1 : i = j
    · subst e1
      obtain ⟨o, q⟩ := joinE_ok hxo he hn
      refine ⟨(joinE (a.slots.getD i default) e).1, List.mem_set hi _, nameE_symm (joinE_name hxo he hn), ?_⟩
      rw [q]; exact below_l o (wa _ hx) we
    · have : (a.slots.set i (joinE (a.slots.getD i default) e).1).getD j default = a.slots.getD j default := by rw [set_getD, if_neg (fun h => e1 h.1)]
      refine Blw.self ?_ hxo (wa _ hx)
      rw [← this]; exact getD_mem' (by simpa using hj)
/-- What is joined is there. -/
theorem join_there {a : Arena} {e : Ent} (wa : wfa a) (we : WfV e.val) (h : (joinA a e).2.2 = 0) : arOk a = true ∧ okE e = true ∧ Blw e (joinA a e).1 := by
  rcases join_cases a e with ⟨_, h1⟩ | ⟨ho, he, ⟨_, _, _, h1⟩ | ⟨hn, hf, hl, h1⟩ | ⟨i, hi, hf, hn, h1⟩⟩ <;> rw [h1] at h ⊢
  · cases h
  · cases h
  · exact ⟨ho, he, Blw.self (by simp) he we⟩
  · have hm := getD_mem' hi
    have hxo := (arOk_iff.1 ho).2.1 _ hm
    obtain ⟨o, q⟩ := joinE_ok hxo he hn
    refine ⟨ho, he, (joinE (a.slots.getD i default) e).1, List.mem_set hi _, nameE_trans (nameE_symm hn) (nameE_symm (joinE_name hxo he hn)), ?_⟩
    rw [q]; exact below_r o (wa _ hm) we
/-- It is the least. -/
theorem join_least {a t : Arena} {e : Ent} (wa : wfa a) (we : WfV e.val) (wt : wfa t) (h : belowA a t = true) (k : Blw e t) : belowA (joinA a e).1 t = true := by
  obtain ⟨ha, ht, hall⟩ := belowA_iff.1 h
  refine belowA_iff.2 ⟨join_arOk e ha, ht, fun x hx => ?_⟩
  rcases join_cases a e with ⟨_, h1⟩ | ⟨ho, he, ⟨_, _, _, h1⟩ | ⟨hn, hf, hl, h1⟩ | ⟨i, hi, hf, hn, h1⟩⟩ <;> rw [h1] at hx
  · exact hall x hx
  · exact hall x hx
  · rcases List.mem_append.1 hx with h2 | h2
    · exact hall x h2
    · rw [List.mem_singleton] at h2; rw [h2]; exact k
  · have hm := getD_mem' hi
    have hxo := (arOk_iff.1 ho).2.1 _ hm
    rcases List.mem_or_eq_of_mem_set hx with h2 | h2
    · exact hall x h2
    · obtain ⟨f, hf1, hf2, hf3⟩ := k
      obtain ⟨g, hg1, hg2, hg3⟩ := hall _ hm
      have hfg : f = g := dist_uniq (arOk_iff.1 ht).2.2.1 hf1 hg1 (nameE_trans (nameE_trans (nameE_symm hf2) (nameE_symm hn)) hg2)
      subst hfg
      obtain ⟨o, q⟩ := joinE_ok hxo he hn
      rw [h2]
      refine ⟨f, hf1, nameE_trans (joinE_name hxo he hn) hg2, ?_⟩
      rw [q]
      show belowV (J _ _) f.val = true
      rw [below_lub o (wa _ hm) we (wt f hf1), hg3, hf3]; rfl
end Go.Proofs.Ythifkdgljapmeaa
