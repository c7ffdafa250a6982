/- What a merge comes to. -/
import Derived.Test.YthifkdgljapmeaaAr
namespace Go.Proofs.Ythifkdgljapmeaa
open Go Go.RowKit
set_option linter.unusedVariables false
set_option linter.unusedSimpArgs false

def runA:Arena→List Ent→Arena
 | a,[]=>a
 | a,e::l=>runA (joinA a e).1 l
def NoErr:Arena→List Ent→Prop
 | _,[]=>True
 | a,e::l=>(joinA a e).2.2=0∧NoErr (joinA a e).1 l
theorem fold_spec:∀ (l:List Ent) (a:Arena) (m o:Int),(l.foldl stepA (a,m,o)).1=runA a l∧o≤(l.foldl stepA (a,m,o)).2.2∧((l.foldl stepA (a,m,o)).2.2=o↔NoErr a l)
 | [],a,m,o=>⟨rfl,Int.le_refl _,by simp [NoErr]⟩
 | e::l,a,m,o=>by
  simp only [List.foldl_cons]
  have h:=fold_spec l (joinA a e).1 (bif (joinA a e).2.1 then m + 1 else m) (bif (joinA a e).2.2 != 0 then o + 1 else o)
  have hs:stepA (a,m,o) e=((joinA a e).1,bif (joinA a e).2.1 then m + 1 else m,bif (joinA a e).2.2 != 0 then o + 1 else o):=rfl
  rw [hs]
  obtain ⟨h1,h2,h3⟩:=h
  refine ⟨h1,?_,?_⟩
  ·cases hc:((joinA a e).2.2 != 0) with
   | true=>rw [hc] at h2; simp only [cond_true] at h2 ⊢; omega
   | false=>rw [hc] at h2; simp only [cond_false] at h2 ⊢; omega
  ·cases hc:((joinA a e).2.2 != 0) with
   | true =>
    rw [hc] at h2 h3
    simp only [cond_true] at h2 h3 ⊢
    constructor
    ·intro h; omega
    ·intro h; have:=h.1; rw [this] at hc; cases hc
   | false =>
    rw [hc] at h2 h3
    simp only [cond_false] at h2 h3 ⊢
    rw [h3]
    have:(joinA a e).2.2=0:=by simpa using hc
    exact ⟨fun h=>⟨this,h⟩,fun h=>h.2⟩
theorem merge_1 (a:Arena) (l:List Ent):(mergeA a l).1=runA a l:=(fold_spec l a 0 0).1
theorem merge_odd {a:Arena} {l:List Ent}:decide (0<(mergeA a l).2.2)=false↔NoErr a l:=by
 have h:=fold_spec l a 0 0
 rw [← h.2.2]
 have h2:=h.2.1
 unfold mergeA
 simp only [decide_eq_false_iff_not]
 constructor <;> intro h <;> omega
theorem run_arOk:∀ (l:List Ent) {a:Arena},arOk a=true→arOk (runA a l)=true
 | [],_,h=>h
 | e::l,_,h=>run_arOk l (join_arOk e h)
theorem run_wfa:∀ (l:List Ent) {a:Arena},wfa a→wfl l→wfa (runA a l)
 | [],_,h,_=>h
 | e::l,_,h,w=>run_wfa l (join_wfa h (w e (List.mem_cons_self))) (fun x hx=>w x (List.mem_cons_of_mem _ hx))
theorem run_cap:∀ (l:List Ent) (a:Arena),(runA a l).cap=a.cap
 | [],_=>rfl
 | e::l,a=>(run_cap l _).trans (join_cap a e)
theorem run_len:∀ (l:List Ent) (a:Arena),a.slots.length≤(runA a l).slots.length
 | [],_=>Nat.le_refl _
 | e::l,a=>Nat.le_trans (join_len a e) (run_len l _)
theorem run_names:∀ (l:List Ent) (a:Arena) (i:Nat),i<a.slots.length→nameE ((runA a l).slots.getD i default) (a.slots.getD i default)=true
 | [],_,_,_=>nameE_self _
 | e::l,a,i,h=>nameE_trans (run_names l _ i (Nat.lt_of_lt_of_le h (join_len a e))) (join_names a e i h)
theorem run_above:∀ (l:List Ent) {a:Arena},arOk a=true→wfa a→wfl l→belowA a (runA a l)=true
 | [],_,h,w,_=>belowA_self h w
 | e::l,a,h,w,wl=>by
  have we:=wl e (List.mem_cons_self)
  have wl':wfl l:=fun x hx=>wl x (List.mem_cons_of_mem _ hx)
  have w1:=join_wfa w we
  exact belowA_trans w w1 (run_wfa l w1 wl') (join_above h w we) (run_above l (join_arOk e h) w1 wl')
theorem run_there:∀ (l:List Ent) {a:Arena},wfa a→wfl l→NoErr a l→∀ x∈l,okE x=true∧Blw x (runA a l)
 | [],_,_,_,_,_,h=>by cases h
 | e::l,a,w,wl,hn,x,hx=>by
  have we:=wl e (List.mem_cons_self)
  have wl':wfl l:=fun x hx=>wl x (List.mem_cons_of_mem _ hx)
  have w1:=join_wfa w we
  rcases List.mem_cons.1 hx with rfl | hx
  ·obtain ⟨h1,h2,h3⟩:=join_there w we hn.1
   exact ⟨h2,h3.trans we w1 (run_wfa l w1 wl') (run_above l (join_arOk _ h1) w1 wl')⟩
  ·exact run_there l w1 wl' hn.2 x hx
theorem run_least:∀ (l:List Ent) {a t:Arena},wfa a→wfl l→wfa t→belowA a t=true→(∀ x∈l,Blw x t)→belowA (runA a l) t=true
 | [],_,_,_,_,_,h,_=>h
 | e::l,a,t,w,wl,wt,h,k=>by
  have we:=wl e (List.mem_cons_self)
  exact run_least l (join_wfa w we) (fun x hx=>wl x (List.mem_cons_of_mem _ hx)) wt (join_least w we wt h (k e (List.mem_cons_self))) (fun x hx=>k x (List.mem_cons_of_mem _ hx))

/-! ### all slots, in order -/
theorem allA_eq {a:Arena} (h:arOk a=true):allA a=(idxR a.slots).map (nth a.slots):=by unfold allA; rw [h,(arOk_iff.1 h).2.2.2]; rfl
theorem allA_length {a:Arena} (h:arOk a=true):(allA a).length=a.slots.length:=by rw [allA_eq h,List.length_map,idxR_length]
theorem allA_sorted {a:Arena} (h:arOk a=true):(allA a).Pairwise ltN:=by
 rw [allA_eq h,List.pairwise_map]
 have hD:=(arOk_iff.1 h).2.2.1
 have hnd:(idxR a.slots).Nodup:=(idxR_perm a.slots).symm.nodup (idR_nodup _)
 refine List.Pairwise.imp_of_mem (fun {i j} hi hj hp=>?_) ((idxR_srt a.slots).and (List.nodup_iff_pairwise_ne.1 hnd))
 by_cases hl:ltN (nth a.slots i) (nth a.slots j)
 ·exact hl
 ·exact absurd (dist_ne hD ((idxR_perm _).mem_iff.1 hi) ((idxR_perm _).mem_iff.1 hj) (ltN_tri hl hp.1)) hp.2
/-! ### room -/
end Go.Proofs.Ythifkdgljapmeaa
