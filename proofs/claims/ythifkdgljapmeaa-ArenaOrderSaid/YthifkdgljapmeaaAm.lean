/- What a merge comes to. -/
import Derived.Test.YthifkdgljapmeaaAr
namespace Go.Proofs.Ythifkdgljapmeaa
open Go Go.RowKit
set_option linter.unusedVariables false
set_option linter.unusedSimpArgs false

def runA:Arena→List Ent→Arena
 | a,[]=>a
 | a,e::l=>runA (joinA a e).1 l
def NoErr:Arena→List Ent→Prop
 | _,[]=>True
 | a,e::l=>(joinA a e).2.2=0∧NoErr (joinA a e).1 l
theorem fold_spec:∀ (l:List Ent) (a:Arena) (m o:Int),(l.foldl stepA (a,m,o)).1=runA a l∧o≤(l.foldl stepA (a,m,o)).2.2∧((l.foldl stepA (a,m,o)).2.2=o↔NoErr a l)
 | [],a,m,o=>⟨rfl,Int.le_refl _,by simp [NoErr]⟩
 | e::l,a,m,o=>by
  simp only [List.foldl_cons]
  have h:=fold_spec l (joinA a e).1 (bif (joinA a e).2.1 then m + 1 else m) (bif (joinA a e).2.2 != 0 then o + 1 else o)
  have hs:stepA (a,m,o) e=((joinA a e).1,bif (joinA a e).2.1 then m + 1 else m,bif (joinA a e).2.2 != 0 then o + 1 else o):=rfl
  rw [hs]
  obtain ⟨h1,h2,h3⟩:=h
  refine ⟨h1,?_,?_⟩
  ·cases hc:((joinA a e).2.2 != 0) with
   | true=>rw [hc] at h2; simp only [cond_true] at h2 ⊢; omega
   | false=>rw [hc] at h2; simp only [cond_false] at h2 ⊢; omega
  ·cases hc:((joinA a e).2.2 != 0) with
   | true =>
    rw [hc] at h2 h3
    simp only [cond_true] at h2 h3 ⊢
    constructor
    ·intro h; omega
    ·intro h; have:=h.1; rw [this] at hc; cases hc
   | false =>
    rw [hc] at h2 h3
    simp only [cond_false] at h2 h3 ⊢
    rw [h3]
    have:(joinA a e).2.2=0:=by simpa using hc
    exact ⟨fun h=>⟨this,h⟩,fun h=>h.2⟩
theorem merge_1 (a:Arena) (l:List Ent):(mergeA a l).1=runA a l:=(fold_spec l a 0 0).1
theorem merge_odd {a:Arena} {l:List Ent}:decide (0<(mergeA a l).2.2)=false↔NoErr a l:=by
 have h:=fold_spec l a 0 0
 rw [← h.2.2]
 have h2:=h.2.1
 unfold mergeA
 simp only [decide_eq_false_iff_not]
 constructor <;> intro h <;> omega
theorem run_arOk:∀ (l:List Ent) {a:Arena},arOk a=true→arOk (runA a l)=true
 | [],_,h=>h
 | e::l,_,h=>run_arOk l (join_arOk e h)
theorem run_wfa:∀ (l:List Ent) {a:Arena},wfa a→wfl l→wfa (runA a l)
 | [],_,h,_=>h
 | e::l,_,h,w=>run_wfa l (join_wfa h (w e (List.mem_cons_self))) (fun x hx=>w x (List.mem_cons_of_mem _ hx))
theorem run_cap:∀ (l:List Ent) (a:Arena),(runA a l).cap=a.cap
 | [],_=>rfl
 | e::l,a=>(run_cap l _).trans (join_cap a e)
theorem run_above:∀ (l:List Ent) {a:Arena},arOk a=true→wfa a→wfl l→belowA a (runA a l)=true
 | [],_,h,w,_=>belowA_self h w
 | e::l,a,h,w,wl=>by
  have we:=wl e (List.mem_cons_self)
  have wl':wfl l:=fun x hx=>wl x (List.mem_cons_of_mem _ hx)
  have w1:=join_wfa w we
  exact belowA_trans w w1 (run_wfa l w1 wl') (join_above h w we) (run_above l (join_arOk e h) w1 wl')
theorem run_there:∀ (l:List Ent) {a:Arena},wfa a→wfl l→NoErr a l→∀ x∈l,okE x=true∧Blw x (runA a l)
 | [],_,_,_,_,_,h=>by cases h
 | e::l,a,w,wl,hn,x,hx=>by
  have we:=wl e (List.mem_cons_self)
  have wl':wfl l:=fun x hx=>wl x (List.mem_cons_of_mem _ hx)
  have w1:=join_wfa w we
  rcases List.mem_cons.1 hx with rfl | hx
  ·obtain ⟨h1,h2,h3⟩:=join_there w we hn.1
   exact ⟨h2,h3.trans we w1 (run_wfa l w1 wl') (run_above l (join_arOk _ h1) w1 wl')⟩
  ·exact run_there l w1 wl' hn.2 x hx
theorem run_least:∀ (l:List Ent) {a t:Arena},wfa a→wfl l→wfa t→belowA a t=true→(∀ x∈l,Blw x t)→belowA (runA a l) t=true
 | [],_,_,_,_,_,h,_=>h
 | e::l,a,t,w,wl,wt,h,k=>by
  have we:=wl e (List.mem_cons_self)
  exact run_least l (join_wfa w we) (fun x hx=>wl x (List.mem_cons_of_mem _ hx)) wt (join_least w we wt h (k e (List.mem_cons_self))) (fun x hx=>k x (List.mem_cons_of_mem _ hx))

/-! ### all slots, in order -/
theorem idx_ok {a:Arena} (h:arOk a=true):∀ i∈idxR a.slots,0≤i∧i<(a.slots.length:Int):=fun i hi=>idR_mem.1 ((idxR_perm _).mem_iff.1 hi)
theorem allA_eq {a:Arena} (h:arOk a=true):allA a=(idxR a.slots).map (nth a.slots):=by unfold allA; rw [h,(arOk_iff.1 h).2.2.2]; rfl
theorem allA_mem {a:Arena} (h:arOk a=true) {x:Ent}:x∈allA a↔x∈a.slots:=by
 rw [allA_eq h,List.mem_map]
 constructor
 ·rintro ⟨i,hi,rfl⟩
  have:=idx_ok h i hi
  exact getD_mem' (by omega)
 ·intro hx
  obtain ⟨i,hi,rfl⟩:=mem_getD hx
  exact ⟨(i:Int),(idxR_perm _).mem_iff.2 (idR_mem.2 ⟨by omega,by omega⟩),rfl⟩
theorem allA_sorted {a:Arena} (h:arOk a=true):(allA a).Pairwise ltN:=by
 rw [allA_eq h,List.pairwise_map]
 have hD:=(arOk_iff.1 h).2.2.1
 have hnd:(idxR a.slots).Nodup:=(idxR_perm a.slots).symm.nodup (idR_nodup _)
 refine List.Pairwise.imp_of_mem (fun {i j} hi hj hp=>?_) ((idxR_srt a.slots).and (List.nodup_iff_pairwise_ne.1 hnd))
 by_cases hl:ltN (nth a.slots i) (nth a.slots j)
 ·exact hl
 ·exact absurd (dist_ne hD ((idxR_perm _).mem_iff.1 hi) ((idxR_perm _).mem_iff.1 hj) (ltN_tri hl hp.1)) hp.2
theorem sorted_eq {p q:List Ent} (hp:p.Pairwise ltN) (hq:q.Pairwise ltN) (h:∀ x,x∈p↔x∈q):p=q:=by
 induction p generalizing q with
 | nil =>
  cases q with
  | nil=>rfl
  | cons y q=>have:=(h y).2 (List.mem_cons_self); cases this
 | cons x p ih =>
  cases q with
  | nil=>have:=(h x).1 (List.mem_cons_self); cases this
  | cons y q =>
   have hp':=List.pairwise_cons.1 hp
   have hq':=List.pairwise_cons.1 hq
   have hxy:x=y:=by
    rcases List.mem_cons.1 ((h x).1 (List.mem_cons_self)) with e | e
    ·exact e
    ·rcases List.mem_cons.1 ((h y).2 (List.mem_cons_self)) with e2 | e2
     ·exact e2.symm
     ·exact absurd (hp'.1 y e2) (ltN_asymm (hq'.1 x e))
   subst hxy
   rw [ih hp'.2 hq'.2 (fun z=>?_)]
   constructor
   ·intro hz
    rcases List.mem_cons.1 ((h z).1 (List.mem_cons_of_mem _ hz)) with e | e
    ·subst e; exact absurd (hp'.1 _ hz) (ltN_irr _)
    ·exact e
   ·intro hz
    rcases List.mem_cons.1 ((h z).2 (List.mem_cons_of_mem _ hz)) with e | e
    ·subst e; exact absurd (hq'.1 _ hz) (ltN_irr _)
    ·exact e
/-- Alike arenas have the same entries. -/
theorem ent_eq {a b : Ent} (hn : nameE a b = true) (hv : a.val = b.val) : a = b := by
  obtain ⟨k, v⟩ := a; obtain ⟨k', v'⟩ := b
  have := (nameE_iff.1 hn).2
  simp only at this hv; subst this; subst hv; rfl
theorem alike_mem {a b:Arena} (wa:wfa a) (wb:wfa b) (h:belowA a b=true) (k:belowA b a=true) {x:Ent} (hx:x∈a.slots):x∈b.slots:=by
 obtain ⟨f,hf1,hf2,hf3⟩:=(belowA_iff.1 h).2.2 x hx
 obtain ⟨g,hg1,hg2,hg3⟩:=(belowA_iff.1 k).2.2 f hf1
 have:x=g:=dist_uniq (arOk_iff.1 (belowA_iff.1 h).1).2.2.1 hx hg1 (nameE_trans hf2 hg2)
 subst this
 have:=below_anti (wa x hx) (wb f hf1) hf3 hg3
 have e:=ent_eq hf2 this
 rw [e]; exact hf1
theorem alike_all {a b:Arena} (wa:wfa a) (wb:wfa b) (h:belowA a b=true) (k:belowA b a=true):allA a=allA b:=by
 have ha:=(belowA_iff.1 h).1
 have hb:=(belowA_iff.1 k).1
 refine sorted_eq (allA_sorted ha) (allA_sorted hb) (fun x=>?_)
 rw [allA_mem ha,allA_mem hb]
 exact ⟨alike_mem wa wb h k,alike_mem wb wa k h⟩

/-! ### room -/
theorem names_le:∀ {d t:List Ent},Dist d→(∀ x∈d,∃ f∈t,nameE x f=true)→d.length≤t.length:=by
 intro d
 induction d with
 | nil=>intro t _ _; exact Nat.zero_le _
 | cons x d ih =>
  intro t hD h
  obtain ⟨f,hf,hn⟩:=h x (List.mem_cons_self)
  obtain ⟨s,r,rfl⟩:=List.append_of_mem hf
  have hx:∀ y∈d,nameE x y=false:=fun y hy=>by
   obtain ⟨i,hi,rfl⟩:=mem_getD hy
   have:=hD (i + 1) 0 (by omega) (by simpa using hi)
   cases hc:nameE x (d.getD i default) with
   | false=>rfl
   | true =>
    have h2:=nameE_symm hc
    simp only [List.getD_cons_succ,List.getD_cons_zero] at this
    rw [h2] at this; cases this
  have hD':Dist d:=fun i k hki hi=>by
   have:=hD (i + 1) (k + 1) (by omega) (by simpa using hi)
   simpa only [List.getD_cons_succ] using this
  have:=ih (t:=s++r) hD' (fun y hy=>by
   obtain ⟨g,hg,hgn⟩:=h y (List.mem_cons_of_mem _ hy)
   refine ⟨g,?_,hgn⟩
   rcases List.mem_append.1 hg with h1 | h1
   ·exact List.mem_append_left _ h1
   ·rcases List.mem_cons.1 h1 with e | h1
    ·subst e
     have:=hx y hy
     rw [nameE_trans hn (nameE_symm hgn)] at this; cases this
    ·exact List.mem_append_right _ h1)
  simp only [List.length_append,List.length_cons] at this ⊢
  omega
/-- Where an arena of no more room has all names, all have room. -/
theorem run_room : ∀ (l : List Ent) {a t : Arena}, arOk a = true → wfa a → wfl l → arOk t = true → t.cap = a.cap → (∀ x ∈ a.slots, ∃ f ∈ t.slots, nameE x f = true) → (∀ x ∈ l, okE x = true ∧ ∃ f ∈ t.slots, nameE x f = true) → NoErr a l
  | [], _, _, _, _, _, _, _, _, _ => trivial
  | e :: l, a, t, h, w, wl, ht, hc, hn, hl => by
    have we := wl e (List.mem_cons_self)
    obtain ⟨he, f, hf, hfn⟩ := hl e (List.mem_cons_self)
    have wl' : wfl l := fun x hx => wl x (List.mem_cons_of_mem _ hx)
    have h0 : (joinA a e).2.2 = 0 ∧ ∀ x ∈ (joinA a e).1.slots, ∃ f ∈ t.slots, nameE x f = true := by
      rcases join_cases a e with ⟨h1 | h1, _⟩ | ⟨_, _, ⟨hno, h2, h3, h4⟩ | ⟨hno, _, _, h1⟩ | ⟨i, hi, hfi, hni, h1⟩⟩
      · rw [h] at h1; cases h1
      · rw [he] at h1; cases h1
      · exfalso
        have hs := slotsB_iff.1 (slots_new h he (by omega))
        have := names_le (t := t.slots) hs.2 (fun x hx => by
          rcases List.mem_append.1 hx with h5 | h5
          · exact hn x h5
          · rw [List.mem_singleton] at h5; rw [h5]; exact ⟨f, hf, hfn⟩)
        have h6 := (arOk_iff.1 ht).1.2.2
        simp only [List.length_append, List.length_singleton] at this
        omega
      · rw [h1]
        refine ⟨rfl, fun x hx => ?_⟩
        rcases List.mem_append.1 hx with h5 | h5
        · exact hn x h5
        · rw [List.mem_singleton] at h5; rw [h5]; exact ⟨f, hf, hfn⟩
      · rw [h1]
        refine ⟨rfl, fun x hx => ?_⟩
        have hm := getD_mem' hi
        rcases List.mem_or_eq_of_mem_set hx with h5 | h5
        · exact hn x h5
        · obtain ⟨g, hg, hgn⟩ := hn _ hm
          rw [h5]
          exact ⟨g, hg, nameE_trans (joinE_name ((arOk_iff.1 h).2.1 _ hm) he hni) hgn⟩
    exact ⟨h0.1, run_room l (join_arOk e h) (join_wfa w we) wl' ht (by rw [hc, join_cap]) h0.2 (fun x hx => hl x (List.mem_cons_of_mem _ hx))⟩
end Go.Proofs.Ythifkdgljapmeaa
