/- Which arenas may be. -/
import Derived.Test.YthifkdgljapmeaaEd
namespace Go.Proofs.Ythifkdgljapmeaa
open Go Go.RowKit
set_option linter.unusedVariables false
set_option linter.unusedSimpArgs false

def sma (a:Arena):Prop:=sml a.slots∧a.slots.length≤9223372036854775807∧a.idx.length≤9223372036854775807
def arOk (a:Arena):Bool:=decide (1≤a.cap)&&(decide (a.cap≤8)&&(decide ((a.slots.length:Int)≤a.cap)&&(slotsB a.slots&&eqInts a.idx (idxR a.slots))))
def checkA (a:Arena):Int:=bif arOk a then 0 else 2
theorem checkA_ne (a:Arena):(checkA a != 0)=!arOk a:=by unfold checkA; cases arOk a <;> rfl
theorem arOk_iff {a:Arena}:arOk a=true↔(1≤a.cap∧a.cap≤8∧(a.slots.length:Int)≤a.cap)∧(∀ e∈a.slots,okE e=true)∧Dist a.slots∧a.idx=idxR a.slots:=by
 unfold arOk eqInts
 simp only [Bool.and_eq_true,decide_eq_true_eq,slotsB_iff,beq_iff_eq]
 constructor
 ·rintro ⟨h1,h2,h3,⟨h4,h5⟩,h6⟩; exact ⟨⟨h1,h2,h3⟩,h4,h5,h6⟩
 ·rintro ⟨⟨h1,h2,h3⟩,h4,h5,h6⟩; exact ⟨h1,h2,h3,⟨h4,h5⟩,h6⟩
theorem chain_pair {d:List Ent} {p:List Int} (h:∀ i,1≤i→i<p.length→ltN (nth d (p.getD (i - 1) default)) (nth d (p.getD i default))):∀ i j,i<j→j<p.length→ltN (nth d (p.getD i default)) (nth d (p.getD j default)):=by
 intro i j hij
 induction j with
 | zero=>omega
 | succ j ih =>
  intro hj
  have h1:=h (j + 1) (by omega) hj
  rw [Nat.add_sub_cancel] at h1
  by_cases e:i=j
  ·subst e; exact h1
  ·exact ltN_trans (ih (by omega) (by omega)) h1
theorem chain_dist {d:List Ent} {p:List Int} (hp:p.Perm (idR d.length)) (h:∀ i,1≤i→i<p.length→ltN (nth d (p.getD (i - 1) default)) (nth d (p.getD i default))):Dist d:=by
 intro i k hki hi
 rw [nameE_no]
 intro hn
 have hI:(i:Int)∈p:=hp.mem_iff.2 (idR_mem.2 ⟨by omega,by omega⟩)
 have hK:(k:Int)∈p:=hp.mem_iff.2 (idR_mem.2 ⟨by omega,by omega⟩)
 obtain ⟨x,hx,ex⟩:=List.getElem_of_mem hI
 obtain ⟨y,hy,ey⟩:=List.getElem_of_mem hK
 have gx:p.getD x default=(i:Int):=by simp [hx,ex]
 have gy:p.getD y default=(k:Int):=by simp [hy,ey]
 have nx:nth d (i:Int)=d.getD i default:=nth_nat d i
 have ny:nth d (k:Int)=d.getD k default:=nth_nat d k
 rcases Nat.lt_trichotomy x y with hl | hl | hl
 ·have:=chain_pair h x y hl hy
  rw [gx,gy,nx,ny] at this
  exact ltN_irr _ ((ltN_name hn).1.1 this)
 ·subst hl; rw [ex] at ey; omega
 ·have:=chain_pair h y x hl hx
  rw [gx,gy,nx,ny] at this
  exact ltN_irr _ ((ltN_name hn).2.1 this)
theorem idR_nodup (n:Nat):(idR n).Nodup:=by
 unfold idR
 rw [List.nodup_iff_pairwise_ne,List.pairwise_map]
 exact (List.nodup_iff_pairwise_ne.1 (List.nodup_range (n:=n))).imp fun h e=>h (by omega)
theorem arCheck_ev (a:Arena) (h:sma a):arena_Check_raw a (checkA a):=by
 have h1:=h.1
 have h2:=h.2.1
 have h3:=h.2.2
 refine ⟨fun _=>h1,fun c=>(by simp only [Bool.not_eq_true',Bool.or_eq_false_iff,decide_eq_false_iff_not] at c; omega),fun c=>?_,fun c=>?_⟩
 ·have:arOk a=false:=by
   cases ho:arOk a with
   | false=>rfl
   | true =>
    obtain ⟨⟨k1,k2,k3⟩,k4,_⟩:=arOk_iff.1 ho
    exfalso
    simp only [Bool.or_eq_true,decide_eq_true_eq] at c
    rcases c with ((c | c) | c) | c
    ·omega
    ·omega
    ·omega
    ·unfold oddE at c
     have:a.slots.all okE=true:=List.all_eq_true.2 k4
     rw [this] at c; cases c
  unfold checkA; rw [this]; rfl
 ·simp only [Bool.or_eq_false_iff,decide_eq_false_iff_not] at c
  obtain ⟨⟨⟨c1,c2⟩,c3⟩,c4⟩:=c
  have hall:∀ e∈a.slots,okE e=true:=by
   unfold oddE at c4; simp only [Bool.not_eq_false'] at c4; exact List.all_eq_true.1 c4
  obtain ⟨p,hraw,hp,hs⟩:=arIndex_ex a.slots (by omega)
  have hpl:p.length=a.slots.length:=by rw [hp.length_eq,idR_length]
  have hm:∀ i,i<p.length→0≤p.getD i default∧p.getD i default<(a.slots.length:Int):=fun i hi=>idR_mem.1 (hp.mem_iff.1 (getD_mem' hi))
  refine ⟨p,hraw,?_⟩
  have run:∃ x,LoopR (arena_Check_b24 a p) (1:Int) x∧((∃ s,x=.inl s∧∀ i,1≤i→i<p.length→ltN (nth a.slots (p.getD (i - 1) default)) (nth a.slots (p.getD i default)))∨(x=.inr 2∧∃ i,1≤i∧i<p.length∧¬ ltN (nth a.slots (p.getD (i - 1) default)) (nth a.slots (p.getD i default)))):=by
   refine loop_run (fun s=>p.length + 1 - s.toNat) (fun s=>∃ i:Nat,s=(i:Int)∧1≤i∧∀ j,1≤j→j<i→j<p.length→ltN (nth a.slots (p.getD (j - 1) default)) (nth a.slots (p.getD j default))) _ ?_ _ ⟨1,rfl,by omega,fun j h1 h2=>by omega⟩
   rintro s ⟨i,rfl,hi1,hall⟩
   by_cases hlt:i<p.length
   ·have e1:IntKind.i64.wrap ((i:Int) - 1)=((i - 1:Nat):Int):=by rw [wrap64 (by omega) (by omega)]; omega
    have hm1:=hm (i - 1) (by omega)
    have hm2:=hm i hlt
    cases hl:lessE (nth a.slots (p.getD (i - 1) default)) (nth a.slots (p.getD i default)) with
    | true =>
     refine .inl ⟨((i + 1:Nat):Int),⟨fun _=>?_,fun h=>by simp at h; omega⟩,⟨i + 1,rfl,by omega,fun j j1 j2 j3=>?_⟩,by simp; omega⟩
     ·simp only [e1,nth_nat p,hl]
      exact ⟨⟨by omega,by omega⟩,hm1,⟨by omega,by omega⟩,hm2,_,rfl,fun h=>by simp at h,fun _=>by rw [wrapS hlt (by omega)]⟩
     ·by_cases e:j=i
      ·subst e; exact lessE_iff.1 hl
      ·exact hall j j1 (by omega) j3
    | false =>
     refine .inr ⟨_,⟨fun _=>?_,fun h=>by simp at h; omega⟩,.inr ⟨rfl,i,hi1,hlt,lessE_no.1 hl⟩⟩
     simp only [e1,nth_nat p,hl]
     exact ⟨⟨by omega,by omega⟩,hm1,⟨by omega,by omega⟩,hm2,_,rfl,fun _=>by simp,fun h=>by simp at h⟩
   ·exact .inr ⟨_,⟨fun h=>by simp at h; omega,fun _=>rfl⟩,.inl ⟨_,rfl,fun j j1 j2=>hall j j1 (by omega) j2⟩⟩
  obtain ⟨x,hx,hcase⟩:=run
  refine ⟨x,hx,fun s e=>⟨by omega,fun c=>?_,fun c=>?_⟩,fun y e=>?_⟩
  ·rcases hcase with ⟨s',e',hch⟩ | ⟨e',_⟩
   ·have hD:=chain_dist hp hch
    have hpe:=idxR_eq hD hp hs
    have:arOk a=false:=by
     cases ho:arOk a with
     | false=>rfl
     | true =>
      have:=(arOk_iff.1 ho).2.2.2
      rw [this,hpe] at c; simp [eqInts] at c
    unfold checkA; rw [this]; rfl
   ·rw [e] at e'; cases e'
  ·rcases hcase with ⟨s',e',hch⟩ | ⟨e',_⟩
   ·have hD:=chain_dist hp hch
    have hpe:=idxR_eq hD hp hs
    have:arOk a=true:=arOk_iff.2 ⟨⟨by omega,by omega,by omega⟩,hall,hD,by
     rw [← hpe]; simp only [eqInts,Bool.not_eq_false',beq_iff_eq] at c; exact c.symm⟩
    unfold checkA; rw [this]; rfl
   ·rw [e] at e'; cases e'
  ·rcases hcase with ⟨s',e',_⟩ | ⟨e',i,hi1,hi2,hno⟩
   ·rw [e] at e'; cases e'
   ·rw [e] at e'; cases e'
    have:arOk a=false:=by
     cases ho:arOk a with
     | false=>rfl
     | true =>
      exfalso
      have hD:=(arOk_iff.1 ho).2.2.1
      have hle:=List.pairwise_iff_getElem.1 hs (i - 1) i (by omega) hi2 (by omega)
      have e1:p.getD (i - 1) default=p[i - 1]:=by simp [show i - 1<p.length by omega]
      have e2:p.getD i default=p[i]:=by simp [hi2]
      rw [e1,e2] at hno
      have heq:=dist_ne hD (hp.mem_iff.1 (List.getElem_mem (show i - 1<p.length by omega))) (hp.mem_iff.1 (List.getElem_mem hi2)) (ltN_tri hno hle)
      have hnd:p.Nodup:=hp.symm.nodup (idR_nodup _)
      have:=(List.getElem_inj hnd).1 heq
      omega
    unfold checkA; rw [this]; rfl
end Go.Proofs.Ythifkdgljapmeaa
