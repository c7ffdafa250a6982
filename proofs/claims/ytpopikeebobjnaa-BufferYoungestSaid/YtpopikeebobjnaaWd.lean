/- A region that draws its order: each operation is shown once, from what those before which it must come have left. -/
import Derived.Test.YtpopikeebobjnaaWq
namespace Go.Proofs.Ytpopikeebobjnaa
open Go Go.RowKit
set_option linter.unusedVariables false
set_option linter.unusedSimpArgs false

def envs (ρ:Env):List (Nat × Value)→Env
 | []=>ρ
 | (t,v)::r=>upd (envs ρ r) t v
def AllEq (ρ:Env):List (Nat × Value)→Prop
 | []=>True
 | (t,v)::r=>ρ t=v∧AllEq ρ r
theorem upd_self {ρ ρ':Env} {t:Nat} {v:Value} (h:ρ t=v) (e:ρ=ρ'):ρ=upd ρ' t v:=by
 subst e
 funext s
 by_cases hs:s=t
 ·subst hs; rw [upd_same,h]
 ·rw [upd_ne _ _ hs]
theorem envs_eq {ρ ρ':Env} (e:ρ=ρ'):∀ {l:List (Nat × Value)},AllEq ρ l→ρ=envs ρ' l
 | [],_=>e
 | (t,v)::r,h=>upd_self h.1 (envs_eq e h.2)
theorem envs_self {ρ:Env} {l:List (Nat × Value)} (h:AllEq ρ l):ρ=envs ρ l:=envs_eq rfl h
/-- D's from ρ', the others from ρ. -/
def ovr (D : List Nat) (ρ' ρ : Env) : Env := fun t => bif D.elem t then ρ' t else ρ t
theorem ovr_self {D:List Nat} {ρ ρ0:Env} {l:List (Nat × Value)} (h:∀ t,D.elem t=false→ρ t=ρ0 t) (ha:AllEq ρ l):ρ=envs (ovr D ρ ρ0) l:=by
 refine envs_eq ?_ ha
 funext t
 unfold ovr
 cases e:D.elem t with
 | true=>rfl
 | false=>simp [h t e]

def dstOf (ops:Array Oper) (j:Nat):Option Nat:=(ops[j]?).bind (·.dst)
/-- A: for each operation some that must come before it. -/
def okA (ops : Array Oper) (A : List (List Nat)) : Bool :=
  (List.range ops.size).all fun i => (A.getD i []).all fun j =>
    match ops[i]? with
    | some o => o.after.any fun e => Region.binds .any e && (e.on == j || (A.getD e.on []).contains j)
    | none => false
/-- No operation that may have come by now, but for those that come behind i, writes t. -/
def oldB (ops : Array Oper) (A : List (List Nat)) (i t : Nat) : Bool :=
  (List.range ops.size).all fun j => dstOf ops j != some t || j == i || (A.getD j []).contains i
/-- The tail's operations come in their order. -/
def chainB (A : List (List Nat)) : List Nat → Bool
  | [] => true
  | [_] => true
  | a :: b :: r => (A.getD b []).contains a && chainB A (b :: r)
section
variable {P : Program} {r : Option Nat} {N : Nat} {ops : Array Oper} {Q : Post} {ρ0 : Env} {ds : List Deferred} {w0 : World}

/-- What is asked of one operation. -/
def OneOp (P : Program) (r : Option Nat) (N : Nat) (ops : Array Oper) (ds : List Deferred) (o : Oper) (ρ : Env) (w : World) (R : Value → World → Prop) : Prop :=
  EO P r N ops (fun e ρ' ds' w' => e = .normal ∧ ds' = ds ∧ ∃ v, ρ' = put ρ o.dst v ∧ R v w') [o] ρ ds w

structure St (ops:Array Oper) (A:List (List Nat)) (T:List Nat) (S:Nat→Value→World→Prop) (I:Nat→World→Prop) (LL:List Nat) (N:Nat) (ρ0:Env) (ds:List Deferred) (w0:World)
  (listed:Array Bool) (a:Act) (w:World):Prop where
 size:a.tmps.size=N
 dsz:a.defers=ds
 len:listed.size=ops.size
 rel:Fr LL w0 w
 ext:(∀ x,T.head?=some x→listed.getD x false=false)→Ext w0 w
 env:∀ t,(∀ j,dstOf ops j=some t→listed.getD j false=false)→envOf a t=ρ0 t
 clo:∀ i,listed.getD i false=true→∀ j∈A.getD i [],listed.getD j false=true
 spec:∀ i t,listed.getD i false=true→dstOf ops i=some t→S i (envOf a t) w
 tail:∃ k,k≤T.length∧I k w∧(∀ m x,T[m]?=some x→(listed.getD x false=true↔m<k))

theorem getD_set_self {l:Array Bool} {i:Nat} (h:i<l.size):(l.setIfInBounds i true).getD i false=true:=by simp [h]
theorem getD_set_other {l:Array Bool} {i j:Nat} (h:j≠i):(l.setIfInBounds i true).getD j false=l.getD j false:=by
 simp [Array.getElem?_setIfInBounds_ne (Ne.symm h)]

/-- Each temporary is written by one operation. -/
def onceB (ops : Array Oper) : Bool :=
  (List.range ops.size).all fun i => (List.range ops.size).all fun j => i == j || dstOf ops i == none || dstOf ops i != dstOf ops j

theorem okA_spec {A:List (List Nat)} (h:okA ops A=true) {i j:Nat} {o:Oper} (hi:ops[i]?=some o) (hj:j∈A.getD i []) :
  ∃ e∈o.after,Region.binds .any e=true∧(e.on=j∨j∈A.getD e.on []):=by
 have hlt:i<ops.size:=(Array.getElem?_eq_some_iff.1 hi).1
 have h1:=List.all_eq_true.1 h i (by simp [hlt])
 have h2:=List.all_eq_true.1 h1 j hj
 rw [hi] at h2
 obtain ⟨e,he,hb⟩:=Array.any_eq_true'.1 h2
 simp only [Bool.and_eq_true,Bool.or_eq_true,beq_iff_eq,List.contains_iff_mem] at hb
 exact ⟨e,he,hb.1,hb.2⟩

theorem onceB_spec (h:onceB ops=true) {i j t:Nat} (hi:dstOf ops i=some t) (hj:dstOf ops j=some t):i=j:=by
 have hlt:∀ k,dstOf ops k=some t→k<ops.size:=fun k hk=>by
  unfold dstOf at hk
  cases ho:ops[k]? with
  | none=>rw [ho] at hk; cases hk
  | some o=>exact (Array.getElem?_eq_some_iff.1 ho).1
 have h1:=List.all_eq_true.1 (List.all_eq_true.1 h i (by simp [hlt i hi])) j (by simp [hlt j hj])
 simpa [hi,hj] using h1

theorem chainB_spec {A:List (List Nat)}:∀ {T:List Nat},chainB A T=true→∀ m x y,T[m]?=some x→T[m + 1]?=some y→x∈A.getD y []:=by
 intro T
 induction T with
 | nil=>intro _ m x y h; simp at h
 | cons a T ih =>
  intro h m x y hx hy
  cases T with
  | nil=>simp at hy
  | cons b T =>
   simp only [chainB,Bool.and_eq_true,List.contains_iff_mem] at h
   cases m with
   | zero=>simp at hx hy; subst hx; subst hy; exact h.1
   | succ m=>exact ih h.2 m x y (by simpa using hx) (by simpa using hy)

theorem mem_ready' {listed:Array Bool} (hl:listed.size=ops.size) {i:Nat} (h:i∈Region.ready .any ops listed) :
  listed.getD i false=false∧∃ o,ops[i]?=some o∧∀ e∈o.after,Region.binds .any e=true→listed.getD e.on false=true:=by
 unfold Region.ready at h
 simp only [List.mem_filter,List.mem_range,Bool.and_eq_true,Bool.not_eq_true'] at h
 obtain ⟨hi,h1,h2⟩:=h
 refine ⟨?_,?_⟩
 ·have:i<listed.size:=by omega
  simpa [this] using h1
 ·cases ho:ops[i]? with
  | none=>rw [ho] at h2; simp at h2
  | some o =>
   rw [ho] at h2
   refine ⟨o,rfl,fun e he hb=>?_⟩
   simp only [Option.map_some,Option.getD_some] at h2
   have:=Array.all_eq_true'.1 h2 e he
   simpa [hb] using this

theorem St.step {A:List (List Nat)} {T:List Nat} {S:Nat→Value→World→Prop} {I:Nat→World→Prop} {LL:List Nat} {M:Nat→List Nat}
  (hA:okA ops A=true) (hO:onceB ops=true) (hT:chainB A T=true) (hN:T.Nodup)
  (hS:∀ i v w w',Ext w w'→S i v w→S i v w') (hM:∀ k,∀ m∈M k,m∈LL) (hS2:∀ k x i v w w',T[k]?=some x→i≠x→x∉A.getD i []→Fr (M k) w w'→S i v w→S i v w') (hI:∀ k w w',Ext w w'→I k w→I k w')
  (hqu:∀ (i:Nat) (o:Oper),ops[i]?=some o→i∉T→∀ ρ w,Fr LL w0 w→(∀ t,T.head?=some t→(A.getD t []).elem i=true→Ext w0 w)→(∀ j∈A.getD i [],∀ t,dstOf ops j=some t→S j (ρ t) w)→(∀ t,oldB ops A i t=true→ρ t=ρ0 t) →
   OneOp P r N ops ds o ρ w (fun v w'=>Ext w w'∧S i v w'))
  (hta:∀ (k i:Nat) (o:Oper),T[k]?=some i→ops[i]?=some o→∀ ρ w,Fr LL w0 w→(k=0→Ext w0 w)→I k w→(∀ j∈A.getD i [],∀ t,dstOf ops j=some t→S j (ρ t) w)→(∀ t,oldB ops A i t=true→ρ t=ρ0 t) →
   OneOp P r N ops ds o ρ w (fun v w'=>Fr (M k) w w'∧I (k + 1) w'∧S i v w'))
  {K:Act→World→Prop} {listed:Array Bool} {a:Act} {w:World} (hs:St ops A T S I LL N ρ0 ds w0 listed a w) {i:Nat} (hi:i∈Region.ready .any ops listed)
  (hd:∀ (i:Nat) (o:Oper),ops[i]?=some o→okd N o.dst=true)
  (hK:∀ a' w',St ops A T S I LL N ρ0 ds w0 (listed.setIfInBounds i true) a' w'→K a' w'):wpOpIn (FW r) 0 P ops (lift N Q) i K a w:=by
 obtain ⟨hnl,o,ho,hall⟩:=mem_ready' hs.len hi
 have hlt:i<ops.size:=(Array.getElem?_eq_some_iff.1 ho).1
 have hanc:∀ j∈A.getD i [],listed.getD j false=true:=fun j hj=>by
  obtain ⟨e,he,hb,h⟩:=okA_spec hA ho hj
  rcases h with rfl | h
  ·exact hall e he hb
  ·exact hs.clo _ (hall e he hb) j h
 have hold:∀ t,oldB ops A i t=true→envOf a t=ρ0 t:=fun t ht=>hs.env t fun j hj=>by
  have hjlt:j<ops.size:=by
   unfold dstOf at hj
   cases hoj:ops[j]? with
   | none=>rw [hoj] at hj; cases hj
   | some o=>exact (Array.getElem?_eq_some_iff.1 hoj).1
  have h1:=List.all_eq_true.1 ht j (by simp [hjlt])
  simp only [Bool.or_eq_true,bne_iff_ne,ne_eq,beq_iff_eq,List.contains_iff_mem,hj,not_true_eq_false,false_or] at h1
  rcases h1 with rfl | h1
  ·exact hnl
  ·cases hl:listed.getD j false with
   | false=>rfl
   | true=>exact absurd (hs.clo j hl i h1) (by rw [hnl]; simp)
 have hanc':∀ j∈A.getD i [],∀ t,dstOf ops j=some t→S j (envOf a t) w:=fun j hj t ht=>hs.spec j t (hanc j hj) ht
 obtain ⟨k,hk,hIk,hTk⟩:=hs.tail
 -- the operation,once
 have fin:∀ (R:Value→World→Prop),OneOp P r N ops ds o (envOf a) w R →
   (∀ a' w' v,a'.tmps.size=N→a'.defers=ds→envOf a'=put (envOf a) o.dst v→R v w'→St ops A T S I LL N ρ0 ds w0 (listed.setIfInBounds i true) a' w')→wpOpIn (FW r) 0 P ops (lift N Q) i K a w:=by
  intro R hone hcont
  have h:=hone a hs.size rfl hs.dsz
  unfold wpOpIn
  simp only [ho]
  unfold wpListIn at h
  split
  ·rename_i hw
   rw [if_pos hw] at h
   -- the rest of the list is empty
   have conv:∀ a' w',wpListIn (FW r) 0 P ops (lift N (fun e ρ' ds' w'=>e=.normal∧ds'=ds∧∃ v,ρ'=put (envOf a) o.dst v∧R v w')) [] a' w'→K a' w':=by
    rintro a' w' ⟨h1,_,h2,v,h3,h4⟩
    exact hK _ _ (hcont a' w' v h1 h2 h3 h4)
   unfold Oper.wpIn at h ⊢
   refine ⟨h.1,?_⟩
   have h2:=h.2
   generalize (o.semAt (FW r).round a.eval).run P w=x at h2 ⊢
   cases x with
   | ok nx w1 =>
    cases nx <;> simp only [Oper.uponIn] at h2 ⊢ <;>
     first
      | exact conv _ _ h2
      | exact ⟨h2.1,CallsIn.mono h2.2 (fun e w'' he=>by
        cases e with
        | returned v=>exact conv _ _ he
        | panicked c=>exact absurd he.2.1 (by simp)
        | outgrown=>obtain ⟨_,_,_,hh,_⟩:=he; cases hh)⟩
      | exact ⟨h2.1,RowsIn.mono h2.2 (fun _ _ he=>conv _ _ he)⟩
      | exact ⟨h2.1,RoundIn.mono h2.2 (fun e w'' he=>by
        cases e with
        | returned v=>exact conv _ _ he
        | panicked c=>exact absurd he.2.1 (by simp)
        | outgrown=>obtain ⟨_,_,_,hh,_⟩:=he; cases hh)⟩
   | halt x w1 =>
    cases x <;> simp only [Oper.uponIn] at h2 ⊢
    exact absurd h2.2.1 (by simp)
  ·rename_i hw
   rw [if_neg hw] at h
   obtain ⟨h0,h1,_,h2,v,h3,h4⟩:=h
   exact ⟨h0,hK _ _ (hcont _ w v h1 h2 h3 h4)⟩
 -- what is kept
 have mk:∀ a' w' v,a'.tmps.size=N→a'.defers=ds→envOf a'=put (envOf a) o.dst v→Fr LL w w'→((∀ x,T.head?=some x→(listed.setIfInBounds i true).getD x false=false)→Ext w0 w')→(∀ j u,j≠i→listed.getD j false=true→S j u w→S j u w')→S i v w'→(∃ k,k≤T.length∧I k w'∧(∀ m x,T[m]?=some x→((listed.setIfInBounds i true).getD x false=true↔m<k))) →
   St ops A T S I LL N ρ0 ds w0 (listed.setIfInBounds i true) a' w':=by
  intro a' w' v h1 h2 h3 h4 hxt hpres h5 h6
  have hdi:dstOf ops i=o.dst:=by simp [dstOf,ho]
  refine ⟨h1,h2,by simp [hs.len],hs.rel.trans h4,hxt,?_,?_,?_,h6⟩
  ·intro t ht
   rw [h3]
   have hne:o.dst≠some t:=fun e=>by
    have:=ht i (by rw [hdi,e])
    rw [getD_set_self (by rw [hs.len]; exact hlt)] at this; cases this
   have:put (envOf a) o.dst v t=envOf a t:=by
    cases hod:o.dst with
    | none=>rfl
    | some d=>exact upd_ne _ _ (fun e=>hne (by rw [hod,e]))
   rw [this]
   refine hs.env t fun j hj=>?_
   have hji:j≠i:=fun e=>hne (by rw [← hdi,← e]; exact hj)
   rw [← getD_set_other hji]; exact ht j hj
  ·intro j hj x hx
   by_cases hji:j=i
   ·subst hji
    have h7:=hanc x hx
    by_cases hxi:x=j
    ·subst hxi; exact hj
    ·rw [getD_set_other hxi]; exact h7
   ·rw [getD_set_other hji] at hj
    have h7:=hs.clo j hj x hx
    by_cases hxi:x=i
    ·subst hxi; exact getD_set_self (by rw [hs.len]; exact hlt)
    ·rw [getD_set_other hxi]; exact h7
  ·intro j t hj ht
   rw [h3]
   by_cases hji:j=i
   ·subst hji
    rw [hdi] at ht
    rw [ht]
    show S j (upd _ t v t) w'
    rw [upd_same]; exact h5
   ·rw [getD_set_other hji] at hj
    have hne:o.dst≠some t:=fun e=>hji (onceB_spec hO ht (by rw [hdi,e]))
    have:put (envOf a) o.dst v t=envOf a t:=by
     cases hod:o.dst with
     | none=>rfl
     | some d=>exact upd_ne _ _ (fun e=>hne (by rw [hod,e]))
    rw [this]
    exact hpres _ _ hji hj (hs.spec j t hj ht)
 by_cases hiT:i∈T
 ·obtain ⟨m,hm,hmi⟩:=List.getElem_of_mem hiT
  have hmi':T[m]?=some i:=by rw [List.getElem?_eq_getElem hm,hmi]
  have hmk:¬ m<k:=fun h=>by rw [(hTk m i hmi').2 h] at hnl; cases hnl
  have hmk':m=k:=by
   rcases Nat.lt_or_ge k m with h | h
   · -- T[k] is before i and is listed: against k
    have step:∀ n,k≤n→n<m→∀ x,T[n]?=some x→listed.getD x false=true:=by
     intro n hn hnm
     -- downwards from m
     have:∀ d n,n + d + 1=m→∀ x,T[n]?=some x→listed.getD x false=true:=by
      intro d
      induction d with
      | zero =>
       intro n hn x hx
       exact hanc x (chainB_spec hT n x i hx (by rw [show n + 1=m by omega]; exact hmi'))
      | succ d ih =>
       intro n hn x hx
       have hlt':n + 1<T.length:=by omega
       have hy:T[n + 1]?=some T[n + 1]:=List.getElem?_eq_getElem hlt'
       exact hs.clo _ (ih (n + 1) (by omega) _ hy) x (chainB_spec hT n x _ hx hy)
     exact this (m - n - 1) n (by omega)
    have hklt:k<T.length:=by omega
    have hx:T[k]?=some T[k]:=List.getElem?_eq_getElem hklt
    have:=(hTk k _ hx).1 (step k (Nat.le_refl _) h _ hx)
    omega
   ·omega
  subst hmk'
  refine fin _ (hta m i o hmi' ho _ w hs.rel (fun e=>hs.ext fun x hx=>by
   subst e
   cases T with
   | nil=>cases hx
   | cons y T=>simp at hx hmi'; subst hx; subst hmi'; exact hnl) hIk hanc' hold) fun a' w' v h1 h2 h3 ⟨h4,h5,h6⟩=>mk a' w' v h1 h2 h3 (h4.mono (hM m)) (fun hx=>(by
   exfalso
   cases T with
   | nil=>simp at hmi'
   | cons y T =>
    have h7:=hx y rfl
    cases m with
    | zero=>simp at hmi'; subst hmi'; rw [getD_set_self (by rw [hs.len]; exact hlt)] at h7; cases h7
    | succ m =>
     have h8:=(hTk 0 y rfl).2 (by omega)
     by_cases hyi:y=i
     ·subst hyi; rw [hnl] at h8; cases h8
     ·rw [getD_set_other hyi,h8] at h7; cases h7)) (fun j u hj hl=>hS2 m i j u _ _ hmi' hj (fun hm=>by rw [hs.clo j hl i hm] at hnl; cases hnl) h4) h6 ⟨m + 1,by omega,h5,fun n x hx=>?_⟩
  by_cases hxi:x=i
  ·subst hxi
   rw [getD_set_self (by rw [hs.len]; exact hlt)]
   have hn:n=m:=by
    have hnlt:n<T.length:=(List.getElem?_eq_some_iff.1 hx).1
    exact (List.getElem_inj hN).1 (by rw [hmi]; exact (List.getElem?_eq_some_iff.1 hx).2)
   simp [hn]
  ·rw [getD_set_other hxi,hTk n x hx]
   have hn:n≠m:=fun e=>hxi (by subst e; rw [hmi'] at hx; cases hx; rfl)
   omega
 ·refine fin _ (hqu i o ho hiT _ w hs.rel (fun t ht he=>hs.ext fun x hx=>by
   rw [hx] at ht; cases ht
   cases hl:listed.getD t false with
   | false=>rfl
   | true=>rw [hs.clo t hl i (by simpa using he)] at hnl; cases hnl) hanc' hold) fun a' w' v h1 h2 h3 ⟨h4,h5⟩=>mk a' w' v h1 h2 h3 (Fr.ext h4) (fun hx=>(hs.ext fun x hxx=>(by
   have h7:=hx x hxx
   have hxi:x≠i:=fun e=>hiT (by rw [← e]; cases T with
    | nil=>cases hxx
    | cons y T=>simp at hxx; subst hxx; simp)
   rwa [getD_set_other hxi] at h7)).trans h4) (fun j u _ _=>hS j u _ _ h4) h5 ⟨k,hk,hI k _ _ h4 hIk,fun n x hx=>?_⟩
  have hxi:x≠i:=fun e=>hiT (e ▸ List.mem_of_getElem? hx)
  rw [getD_set_other hxi]; exact hTk n x hx

theorem any_of_st {A:List (List Nat)} {T:List Nat} {S:Nat→Value→World→Prop} {I:Nat→World→Prop} {LL:List Nat}
  (hstep:∀ (K:Act→World→Prop) (listed:Array Bool) (a:Act) (w:World),St ops A T S I LL N ρ0 ds w0 listed a w→∀ i∈Region.ready .any ops listed,
   (∀ a' w',St ops A T S I LL N ρ0 ds w0 (listed.setIfInBounds i true) a' w'→K a' w')→wpOpIn (FW r) 0 P ops (lift N Q) i K a w)
  (hend:∀ listed a w,Region.ready .any ops listed=[]→St ops A T S I LL N ρ0 ds w0 listed a w→lift N Q .normal a w) :
  ∀ (fuel:Nat) (listed:Array Bool) (a:Act) (w:World),((List.range ops.size).filter fun i=>!listed.getD i false).length≤fuel→St ops A T S I LL N ρ0 ds w0 listed a w→wpAnyIn (FW r) 0 P .any ops (lift N Q) fuel listed a w:=by
 intro fuel
 induction fuel with
 | zero =>
  intro listed a w hf hs
  have hr:Region.ready .any ops listed=[]:=by
   cases hc:Region.ready .any ops listed with
   | nil=>rfl
   | cons i l =>
    have hi:i∈Region.ready .any ops listed:=by rw [hc]; simp
    obtain ⟨h1,o,ho,_⟩:=mem_ready' hs.len hi
    have:i∈(List.range ops.size).filter fun i=>!listed.getD i false:=by
     simp only [List.mem_filter,List.mem_range]
     exact ⟨(Array.getElem?_eq_some_iff.1 ho).1,by rw [h1]; rfl⟩
    have:=List.length_pos_of_mem this
    omega
  exact ⟨hr,hend _ _ _ hr hs⟩
 | succ fuel ih =>
  intro listed a w hf hs
  refine ⟨fun hr=>hend _ _ _ hr hs,fun i hi=>hstep _ listed a w hs i hi fun a' w' hs'=>ih _ a' w' ?_ hs'⟩
  obtain ⟨h1,o,ho,_⟩:=mem_ready' hs.len hi
  have hlt:i<ops.size:=(Array.getElem?_eq_some_iff.1 ho).1
  have key:∀ (l:List Nat),l.Nodup→i∈l→(l.filter fun j=>!(listed.setIfInBounds i true).getD j false).length + 1≤(l.filter fun j=>!listed.getD j false).length:=by
   intro l
   induction l with
   | nil=>intro _ h; cases h
   | cons x l ihl =>
    intro hnd hm
    simp only [List.nodup_cons] at hnd
    by_cases hx:x=i
    ·subst hx
     have hrest:(l.filter fun j=>!(listed.setIfInBounds x true).getD j false)=l.filter fun j=>!listed.getD j false :=
      List.filter_congr fun j hj=>by rw [getD_set_other (fun e:j=x=>hnd.1 (by rw [← e]; exact hj))]
     rw [List.filter_cons,List.filter_cons,if_neg (by rw [getD_set_self (by rw [hs.len]; exact hlt)]; simp),if_pos (by rw [h1]; rfl),hrest]
     simp
    ·have hm':i∈l:=by simpa [Ne.symm hx] using hm
     have:=ihl hnd.2 hm'
     rw [List.filter_cons,List.filter_cons,getD_set_other hx]
     split
     ·rw [List.length_cons,List.length_cons]; omega
     ·exact this
  have:=key (List.range ops.size) List.nodup_range (List.mem_range.2 hlt)
  omega

/-- Not all are listed, and none is ready: that can't be, where each waits for earlier ones alone. -/
def backB (ops : Array Oper) : Bool := (List.range ops.size).all fun i => match ops[i]? with
  | some o => o.after.all fun e => !Region.binds .any e || decide (e.on < i)
  | none => true
theorem all_listed (hb:backB ops=true) {listed:Array Bool} (hl:listed.size=ops.size) (hr:Region.ready .any ops listed=[]):∀ i,i<ops.size→listed.getD i false=true:=by
 intro i
 induction i using Nat.strongRecOn with
 | _ i ih =>
  intro hi
  cases hx:listed.getD i false with
  | true=>rfl
  | false =>
   exfalso
   have hmem:i∈Region.ready .any ops listed:=by
    unfold Region.ready
    have hilt:i<listed.size:=by omega
    have ho:ops[i]?=some ops[i]:=by simp [hi]
    simp only [List.mem_filter,List.mem_range,Bool.and_eq_true,Bool.not_eq_true',ho,Option.map_some,Option.getD_some]
    refine ⟨hi,by simpa [hilt] using hx,?_⟩
    rw [Array.all_eq_true']
    intro e he
    cases hbd:Region.binds .any e with
    | false=>rfl
    | true =>
     have h1:=List.all_eq_true.1 hb i (by simp [hi])
     rw [ho] at h1
     have h2:=Array.all_eq_true'.1 h1 e he
     simp only [hbd,Bool.not_true,Bool.false_or,decide_eq_true_eq] at h2
     simp [ih e.on h2 (by omega)]
   rw [hr] at hmem; cases hmem

theorem ec_any {id:Nat} (hm:P.follows .mixedOrders=true) (A:List (List Nat)) (T:List Nat) (S:Nat→Value→World→Prop) (I:Nat→World→Prop) (LL:List Nat) (M:Nat→List Nat)
  (hc:(okA ops A&&onceB ops&&chainB A T&&backB ops&&decide T.Nodup&&T.all (fun i=>decide (i<ops.size))&&(List.range ops.size).all fun i=>okd N (dstOf ops i))=true)
  (hS:∀ i v w w',Ext w w'→S i v w→S i v w') (hM:∀ k,∀ m∈M k,m∈LL) (hS2:∀ k x i v w w',T[k]?=some x→i≠x→x∉A.getD i []→Fr (M k) w w'→S i v w→S i v w') (hI:∀ k w w',Ext w w'→I k w→I k w')
  (hI0:∀ w,Ext w0 w→I 0 w)
  (hqu:∀ (i:Nat) (o:Oper),ops[i]?=some o→i∉T→∀ ρ w,Fr LL w0 w→(∀ t,T.head?=some t→(A.getD t []).elem i=true→Ext w0 w)→(∀ j∈A.getD i [],∀ t,dstOf ops j=some t→S j (ρ t) w)→(∀ t,oldB ops A i t=true→ρ t=ρ0 t) →
   OneOp P r N ops ds o ρ w (fun v w'=>Ext w w'∧S i v w'))
  (hta:∀ (k i:Nat) (o:Oper),T[k]?=some i→ops[i]?=some o→∀ ρ w,Fr LL w0 w→(k=0→Ext w0 w)→I k w→(∀ j∈A.getD i [],∀ t,dstOf ops j=some t→S j (ρ t) w)→(∀ t,oldB ops A i t=true→ρ t=ρ0 t) →
   OneOp P r N ops ds o ρ w (fun v w'=>Fr (M k) w w'∧I (k + 1) w'∧S i v w'))
  (hend:∀ ρ w,Fr LL w0 w→I T.length w→(∀ i t,dstOf ops i=some t→S i (ρ t) w)→(∀ t,((List.range ops.size).all fun j=>dstOf ops j != some t)=true→ρ t=ρ0 t)→Q .normal ρ ds w) :
  EC P r N (.region id ops true) Q ρ0 ds w0:=by
 simp only [Bool.and_eq_true,decide_eq_true_eq] at hc
 obtain ⟨⟨⟨⟨⟨⟨hA,hO⟩,hT⟩,hB⟩,hN⟩,hTin⟩,hdd⟩:=hc
 have hd:∀ (i:Nat) (o:Oper),ops[i]?=some o→okd N o.dst=true:=fun i o ho=>by
  have hlt:i<ops.size:=(Array.getElem?_eq_some_iff.1 ho).1
  have:=List.all_eq_true.1 hdd i (by simp [hlt])
  simpa [dstOf,ho] using this
 intro a h1 h2 h3
 have hdrew:Ext w0 { w0 with drawn:=w0.drawn + 1 }:=Ext.drew w0
 refine wpIn_region_any hm (any_of_st (A:=A) (T:=T) (S:=S) (I:=I) (LL:=LL) (ρ0:=ρ0) (ds:=ds) (w0:=w0)
  (fun K listed a w hs i hi hK=>St.step hA hO hT hN hS hM hS2 hI hqu hta hs hi hd hK) ?_ _ _ _ _ ?_ ?_)
 ·intro listed a w hr hs
  have hall:=all_listed hB hs.len hr
  have hin:∀ i t,dstOf ops i=some t→listed.getD i false=true:=fun i t ht=>hall i (by
   unfold dstOf at ht
   cases ho:ops[i]? with
   | none=>rw [ho] at ht; cases ht
   | some o=>exact (Array.getElem?_eq_some_iff.1 ho).1)
  refine ⟨hs.size,by
   rw [hs.dsz]
   refine hend _ _ hs.rel ?_ (fun i t ht=>hs.spec i t (hin i t ht) ht) (fun t ht=>hs.env t fun j hj=>?_)
   ·obtain ⟨k,hk,hIk,hTk⟩:=hs.tail
    have:k=T.length:=by
     rcases Nat.lt_or_ge k T.length with hlt | hge
     ·exfalso
      have hx:T[k]?=some T[k]:=List.getElem?_eq_getElem hlt
      have hy:listed.getD T[k] false=true:=hall _ (by simpa using List.all_eq_true.1 hTin T[k] (List.getElem_mem hlt))
      have:=(hTk k _ hx).1 hy
      omega
     ·omega
    rw [← this]; exact hIk
   ·have h5:=List.all_eq_true.1 ht j (by
     have:j<ops.size:=by
      unfold dstOf at hj
      cases ho:ops[j]? with
      | none=>rw [ho] at hj; cases hj
      | some o=>exact (Array.getElem?_eq_some_iff.1 ho).1
     simp [this])
    rw [hj] at h5; simp at h5⟩
 ·exact Nat.le_trans (List.length_filter_le _ _) (by simp)
 ·have hrep:∀ i,(Array.replicate ops.size false).getD i false=false:=fun i=>by
   simp only [Array.getD_eq_getD_getElem?,Array.getElem?_replicate]
   split <;> rfl
  exact ⟨h1,h3,by simp,(Fr.ext hdrew),(fun _=>hdrew),fun t _=>by rw [h2],(fun i hi=>(by rw [hrep] at hi; cases hi)),(fun i t hi=>(by rw [hrep] at hi; cases hi)),⟨0,Nat.zero_le _,hI0 _ hdrew,(fun m x hx=>(by rw [hrep]; simp))⟩⟩
end
end Go.Proofs.Ytpopikeebobjnaa
