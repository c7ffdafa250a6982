/- A region that draws its order and makes a block: each operation is shown once. -/
import Derived.Test.YtpopikeebobjnaaWy
namespace Go.Proofs.Ytpopikeebobjnaa
open Go Go.RowKit
set_option linter.unusedVariables false
set_option linter.unusedSimpArgs false

section
variable {P : Program} {r : Option Nat} {N : Nat} {ops : Array Oper} {Q : Post} {ρ0 : Env} {ds : List Deferred} {w0 : World}
theorem eo_mono {Q':Post} {l:List Oper} {ρ:Env} {w:World} (h:EO P r N ops Q l ρ ds w) (hq:∀ e ρ ds w,Q e ρ ds w→Q' e ρ ds w):EO P r N ops Q' l ρ ds w :=
 fun a h1 h2 h3=>wpListIn_mono' (fun _ _ _ h=>⟨h.1,hq _ _ _ _ h.2⟩) (h a h1 h2 h3)

theorem St.stepG {Γ:Type} {A:List (List Nat)} {T:List Nat} {S:Nat→Value→World→Prop} {S':Γ→Nat→Value→World→Prop} {I:Nat→World→Prop} {I':Γ→Nat→World→Prop} {LL:List Nat} {Y:Γ→World→Prop}
  (hA:okA ops A=true) (hO:onceB ops=true) (hT:chainB A T=true) (hN:T.Nodup)
  {K:Act→World→Prop} {listed:Array Bool} {a:Act} {w:World} (hs:St ops A T S I LL N ρ0 ds w0 listed a w) {i:Nat} (hi:i∈Region.ready .any ops listed)
  (hqu:∀ (o:Oper) (k:Nat),ops[i]?=some o→i∉T→(∀ t,T.head?=some t→(A.getD t []).elem i=true→Ext w0 w)→(∀ j∈A.getD i [],∀ t,dstOf ops j=some t→S j (envOf a t) w)→(∀ t,oldB ops A i t=true→envOf a t=ρ0 t)→I k w→(∀ m x,T[m]?=some x→(listed.getD x false=true↔m<k)) →
   OneOp P r N ops ds o (envOf a) w (fun v w'=>∃ γ,Ext w w'∧(∀ j u,j≠i→listed.getD j false=true→S j u w→S' γ j u w')∧S' γ i v w'∧I' γ k w'∧Y γ w'))
  (hta:∀ (k:Nat) (o:Oper),T[k]?=some i→ops[i]?=some o→(k=0→Ext w0 w)→I k w→(∀ j∈A.getD i [],∀ t,dstOf ops j=some t→S j (envOf a t) w)→(∀ t,oldB ops A i t=true→envOf a t=ρ0 t) →
   OneOp P r N ops ds o (envOf a) w (fun v w'=>∃ γ,Fr LL w0 w'∧I' γ (k + 1) w'∧(∀ j u,j≠i→i∉A.getD j []→S j u w→S' γ j u w')∧S' γ i v w'∧Y γ w'))
  (hd:∀ (i:Nat) (o:Oper),ops[i]?=some o→okd N o.dst=true)
  (hK:∀ γ a' w',St ops A T (S' γ) (I' γ) LL N ρ0 ds w0 (listed.setIfInBounds i true) a' w'→Y γ w'→K a' w'):wpOpIn (FW r) 0 P ops (lift N Q) i K a w:=by
 obtain ⟨hnl,o,ho,hall⟩:=mem_ready' hs.len hi
 have hlt:i<ops.size:=(Array.getElem?_eq_some_iff.1 ho).1
 have hanc:∀ j∈A.getD i [],listed.getD j false=true:=fun j hj=>by
  obtain ⟨e,he,hb,h⟩:=okA_spec hA ho hj
  rcases h with rfl | h
  ·exact hall e he hb
  ·exact hs.clo _ (hall e he hb) j h
 have hold:∀ t,oldB ops A i t=true→envOf a t=ρ0 t:=fun t ht=>hs.env t fun j hj=>by
  have hjlt:j<ops.size:=by
   unfold dstOf at hj
   cases hoj:ops[j]? with
   | none=>rw [hoj] at hj; cases hj
   | some o=>exact (Array.getElem?_eq_some_iff.1 hoj).1
  have h1:=List.all_eq_true.1 ht j (by simp [hjlt])
  simp only [Bool.or_eq_true,bne_iff_ne,ne_eq,beq_iff_eq,List.contains_iff_mem,hj,not_true_eq_false,false_or] at h1
  rcases h1 with rfl | h1
  ·exact hnl
  ·cases hl:listed.getD j false with
   | false=>rfl
   | true=>exact absurd (hs.clo j hl i h1) (by rw [hnl]; simp)
 have hanc':∀ j∈A.getD i [],∀ t,dstOf ops j=some t→S j (envOf a t) w:=fun j hj t ht=>hs.spec j t (hanc j hj) ht
 obtain ⟨k,hk,hIk,hTk⟩:=hs.tail
 -- the operation,once
 have fin:∀ (R:Value→World→Prop),OneOp P r N ops ds o (envOf a) w R →
   (∀ a' w' v,a'.tmps.size=N→a'.defers=ds→envOf a'=put (envOf a) o.dst v→R v w'→∃ γ,St ops A T (S' γ) (I' γ) LL N ρ0 ds w0 (listed.setIfInBounds i true) a' w'∧Y γ w')→wpOpIn (FW r) 0 P ops (lift N Q) i K a w:=by
  intro R hone hcont
  have h:=hone a hs.size rfl hs.dsz
  unfold wpOpIn
  simp only [ho]
  unfold wpListIn at h
  split
  ·rename_i hw
   rw [if_pos hw] at h
   -- the rest of the list is empty
   have conv:∀ a' w',wpListIn (FW r) 0 P ops (lift N (fun e ρ' ds' w'=>e=.normal∧ds'=ds∧∃ v,ρ'=put (envOf a) o.dst v∧R v w')) [] a' w'→K a' w':=by
    rintro a' w' ⟨h1,_,h2,v,h3,h4⟩
    obtain ⟨γ,h5,h6⟩:=hcont a' w' v h1 h2 h3 h4
    exact hK γ _ _ h5 h6
   unfold Oper.wpIn at h ⊢
   refine ⟨h.1,?_⟩
   have h2:=h.2
   generalize (o.semAt (FW r).round a.eval).run P w=x at h2 ⊢
   cases x with
   | ok nx w1 =>
    cases nx <;> simp only [Oper.uponIn] at h2 ⊢ <;>
     first
      | exact conv _ _ h2
      | exact ⟨h2.1,CallsIn.mono h2.2 (fun e w'' he=>by
        cases e with
        | returned v=>exact conv _ _ he
        | panicked c=>exact absurd he.2.1 (by simp)
        | outgrown=>obtain ⟨_,_,_,hh,_⟩:=he; cases hh)⟩
      | exact ⟨h2.1,RowsIn.mono h2.2 (fun _ _ he=>conv _ _ he)⟩
      | exact ⟨h2.1,RoundIn.mono h2.2 (fun e w'' he=>by
        cases e with
        | returned v=>exact conv _ _ he
        | panicked c=>exact absurd he.2.1 (by simp)
        | outgrown=>obtain ⟨_,_,_,hh,_⟩:=he; cases hh)⟩
   | halt x w1 =>
    cases x <;> simp only [Oper.uponIn] at h2 ⊢
    exact absurd h2.2.1 (by simp)
  ·rename_i hw
   rw [if_neg hw] at h
   obtain ⟨h0,h1,_,h2,v,h3,h4⟩:=h
   obtain ⟨γ,h5,h6⟩:=hcont _ w v h1 h2 h3 h4
   exact ⟨h0,hK γ _ _ h5 h6⟩
 -- what is kept
 have mk:∀ γ a' w' v,a'.tmps.size=N→a'.defers=ds→envOf a'=put (envOf a) o.dst v→Fr LL w0 w'→((∀ x,T.head?=some x→(listed.setIfInBounds i true).getD x false=false)→Ext w0 w')→(∀ j u,j≠i→listed.getD j false=true→S j u w→S' γ j u w')→S' γ i v w'→(∃ k,k≤T.length∧I' γ k w'∧(∀ m x,T[m]?=some x→((listed.setIfInBounds i true).getD x false=true↔m<k))) →
   St ops A T (S' γ) (I' γ) LL N ρ0 ds w0 (listed.setIfInBounds i true) a' w':=by
  intro γ a' w' v h1 h2 h3 h4 hxt hpres h5 h6
  have hdi:dstOf ops i=o.dst:=by simp [dstOf,ho]
  refine ⟨h1,h2,by simp [hs.len],h4,hxt,?_,?_,?_,h6⟩
  ·intro t ht
   rw [h3]
   have hne:o.dst≠some t:=fun e=>by
    have:=ht i (by rw [hdi,e])
    rw [getD_set_self (by rw [hs.len]; exact hlt)] at this; cases this
   have:put (envOf a) o.dst v t=envOf a t:=by
    cases hod:o.dst with
    | none=>rfl
    | some d=>exact upd_ne _ _ (fun e=>hne (by rw [hod,e]))
   rw [this]
   refine hs.env t fun j hj=>?_
   have hji:j≠i:=fun e=>hne (by rw [← hdi,← e]; exact hj)
   rw [← getD_set_other hji]; exact ht j hj
  ·intro j hj x hx
   by_cases hji:j=i
   ·subst hji
    have h7:=hanc x hx
    by_cases hxi:x=j
    ·subst hxi; exact hj
    ·rw [getD_set_other hxi]; exact h7
   ·rw [getD_set_other hji] at hj
    have h7:=hs.clo j hj x hx
    by_cases hxi:x=i
    ·subst hxi; exact getD_set_self (by rw [hs.len]; exact hlt)
    ·rw [getD_set_other hxi]; exact h7
  ·intro j t hj ht
   rw [h3]
   by_cases hji:j=i
   ·subst hji
    rw [hdi] at ht
    rw [ht]
    show S' γ j (upd _ t v t) w'
    rw [upd_same]; exact h5
   ·rw [getD_set_other hji] at hj
    have hne:o.dst≠some t:=fun e=>hji (onceB_spec hO ht (by rw [hdi,e]))
    have:put (envOf a) o.dst v t=envOf a t:=by
     cases hod:o.dst with
     | none=>rfl
     | some d=>exact upd_ne _ _ (fun e=>hne (by rw [hod,e]))
    rw [this]
    exact hpres _ _ hji hj (hs.spec j t hj ht)
 by_cases hiT:i∈T
 ·obtain ⟨m,hm,hmi⟩:=List.getElem_of_mem hiT
  have hmi':T[m]?=some i:=by rw [List.getElem?_eq_getElem hm,hmi]
  have hmk:¬ m<k:=fun h=>by rw [(hTk m i hmi').2 h] at hnl; cases hnl
  have hmk':m=k:=by
   rcases Nat.lt_or_ge k m with h | h
   · -- T[k] is before i and is listed: against k
    have step:∀ n,k≤n→n<m→∀ x,T[n]?=some x→listed.getD x false=true:=by
     intro n hn hnm
     -- downwards from m
     have:∀ d n,n + d + 1=m→∀ x,T[n]?=some x→listed.getD x false=true:=by
      intro d
      induction d with
      | zero =>
       intro n hn x hx
       exact hanc x (chainB_spec hT n x i hx (by rw [show n + 1=m by omega]; exact hmi'))
      | succ d ih =>
       intro n hn x hx
       have hlt':n + 1<T.length:=by omega
       have hy:T[n + 1]?=some T[n + 1]:=List.getElem?_eq_getElem hlt'
       exact hs.clo _ (ih (n + 1) (by omega) _ hy) x (chainB_spec hT n x _ hx hy)
     exact this (m - n - 1) n (by omega)
    have hklt:k<T.length:=by omega
    have hx:T[k]?=some T[k]:=List.getElem?_eq_getElem hklt
    have:=(hTk k _ hx).1 (step k (Nat.le_refl _) h _ hx)
    omega
   ·omega
  subst hmk'
  refine fin _ (hta m o hmi' ho (fun e=>hs.ext fun x hx=>by
   subst e
   cases T with
   | nil=>cases hx
   | cons y T=>simp at hx hmi'; subst hx; subst hmi'; exact hnl) hIk hanc' hold) fun a' w' v h1 h2 h3 ⟨γ,h4,h5,hp,h6,hy⟩=>⟨γ,mk γ a' w' v h1 h2 h3 h4 (fun hx=>(by
   exfalso
   cases T with
   | nil=>simp at hmi'
   | cons y T =>
    have h7:=hx y rfl
    cases m with
    | zero=>simp at hmi'; subst hmi'; rw [getD_set_self (by rw [hs.len]; exact hlt)] at h7; cases h7
    | succ m =>
     have h8:=(hTk 0 y rfl).2 (by omega)
     by_cases hyi:y=i
     ·subst hyi; rw [hnl] at h8; cases h8
     ·rw [getD_set_other hyi,h8] at h7; cases h7)) (fun j u hj hl=>hp j u hj (fun hm=>by rw [hs.clo j hl i hm] at hnl; cases hnl)) h6 ⟨m + 1,by omega,h5,fun n x hx=>?_⟩,hy⟩
  by_cases hxi:x=i
  ·subst hxi
   rw [getD_set_self (by rw [hs.len]; exact hlt)]
   have hn:n=m:=by
    have hnlt:n<T.length:=(List.getElem?_eq_some_iff.1 hx).1
    exact (List.getElem_inj hN).1 (by rw [hmi]; exact (List.getElem?_eq_some_iff.1 hx).2)
   simp [hn]
  ·rw [getD_set_other hxi,hTk n x hx]
   have hn:n≠m:=fun e=>hxi (by subst e; rw [hmi'] at hx; cases hx; rfl)
   omega
 ·refine fin _ (hqu o k ho hiT (fun t ht he=>hs.ext fun x hx=>by
   rw [hx] at ht; cases ht
   cases hl:listed.getD t false with
   | false=>rfl
   | true=>rw [hs.clo t hl i (by simpa using he)] at hnl; cases hnl) hanc' hold hIk hTk) fun a' w' v h1 h2 h3 ⟨γ,h4,hp,h5,h6,hy⟩=>⟨γ,mk γ a' w' v h1 h2 h3 (hs.rel.trans (Fr.ext h4)) (fun hx=>(hs.ext fun x hxx=>(by
   have h7:=hx x hxx
   have hxi:x≠i:=fun e=>hiT (by rw [← e]; cases T with
    | nil=>cases hxx
    | cons y T=>simp at hxx; subst hxx; simp)
   rwa [getD_set_other hxi] at h7)).trans h4) hp h5 ⟨k,hk,h6,fun n x hx=>?_⟩,hy⟩
  have hxi:x≠i:=fun e=>hiT (e ▸ List.mem_of_getElem? hx)
  rw [getD_set_other hxi]; exact hTk n x hx

theorem any_of_X {X:Array Bool→Act→World→Prop} (hlen:∀ l a w,X l a w→l.size=ops.size)
  (hstep:∀ (K:Act→World→Prop) (listed:Array Bool) (a:Act) (w:World),X listed a w→∀ i∈Region.ready .any ops listed,
   (∀ a' w',X (listed.setIfInBounds i true) a' w'→K a' w')→wpOpIn (FW r) 0 P ops (lift N Q) i K a w)
  (hend:∀ listed a w,Region.ready .any ops listed=[]→X listed a w→lift N Q .normal a w) :
  ∀ (fuel:Nat) (listed:Array Bool) (a:Act) (w:World),((List.range ops.size).filter fun i=>!listed.getD i false).length≤fuel→X listed a w→wpAnyIn (FW r) 0 P .any ops (lift N Q) fuel listed a w:=by
 intro fuel
 induction fuel with
 | zero =>
  intro listed a w hf hs
  have hr:Region.ready .any ops listed=[]:=by
   cases hc:Region.ready .any ops listed with
   | nil=>rfl
   | cons i l =>
    have hi:i∈Region.ready .any ops listed:=by rw [hc]; simp
    obtain ⟨h1,o,ho,_⟩:=mem_ready' (hlen _ _ _ hs) hi
    have:i∈(List.range ops.size).filter fun i=>!listed.getD i false:=by
     simp only [List.mem_filter,List.mem_range]
     exact ⟨(Array.getElem?_eq_some_iff.1 ho).1,by rw [h1]; rfl⟩
    have:=List.length_pos_of_mem this
    omega
  exact ⟨hr,hend _ _ _ hr hs⟩
 | succ fuel ih =>
  intro listed a w hf hs
  refine ⟨fun hr=>hend _ _ _ hr hs,fun i hi=>hstep _ listed a w hs i hi fun a' w' hs'=>ih _ a' w' ?_ hs'⟩
  obtain ⟨h1,o,ho,_⟩:=mem_ready' (hlen _ _ _ hs) hi
  have hlt:i<ops.size:=(Array.getElem?_eq_some_iff.1 ho).1
  have key:∀ (l:List Nat),l.Nodup→i∈l→(l.filter fun j=>!(listed.setIfInBounds i true).getD j false).length + 1≤(l.filter fun j=>!listed.getD j false).length:=by
   intro l
   induction l with
   | nil=>intro _ h; cases h
   | cons x l ihl =>
    intro hnd hm
    simp only [List.nodup_cons] at hnd
    by_cases hx:x=i
    ·subst hx
     have hrest:(l.filter fun j=>!(listed.setIfInBounds x true).getD j false)=l.filter fun j=>!listed.getD j false :=
      List.filter_congr fun j hj=>by rw [getD_set_other (fun e:j=x=>hnd.1 (by rw [← e]; exact hj))]
     rw [List.filter_cons,List.filter_cons,if_neg (by rw [getD_set_self (by rw [(hlen _ _ _ hs)]; exact hlt)]; simp),if_pos (by rw [h1]; rfl),hrest]
     simp
    ·have hm':i∈l:=by simpa [Ne.symm hx] using hm
     have:=ihl hnd.2 hm'
     rw [List.filter_cons,List.filter_cons,getD_set_other hx]
     split
     ·rw [List.length_cons,List.length_cons]; omega
     ·exact this
  have:=key (List.range ops.size) List.nodup_range (List.mem_range.2 hlt)
  omega


def gNil:Value:=.bool false
def gOf (b:Nat):Value:=.slice (some ⟨b,0,none⟩) 0 0
theorem own_gOf (b:Nat):own (gOf b)=[b]:=rfl
theorem gOf_inj {a b:Nat} (h:gOf a=gOf b):a=b:=by
 have:own (gOf a)=own (gOf b):=by rw [h]
 simpa [own_gOf] using this
theorem gNil_ne {b:Nat}:gNil≠gOf b:=fun h=>by
 have:own gNil=own (gOf b):=by rw [h]
 simp [own,gNil,gOf,Value.ownBlock] at this
theorem stb_born {L:List Nat} {w w':World} {g:Value} {φ:World→Prop} (h:Stb (own gNil++L) w φ) (hg:∀ m∈own g,w.heap.size≤m) (f:Ext w w'):Stb (own g++L) w' φ :=
 h.up f (fun _ hm=>by cases hm) (fun m hm=>by
  rcases List.mem_append.1 hm with h | h
  ·exact .inr (hg m h)
  ·exact .inl h)
theorem lt_app {T L:List Nat} {w:World} (hT:Lt T w) (hL:Lt L w):Lt (T++L) w:=fun m hm=>(List.mem_append.1 hm).elim (hT m) (hL m)
theorem it_nil {T:Type} {xs:List T}:xs=[]++xs:=rfl
theorem it_at {T:Type} {xs dn rem r:List T} {x:T} (D:xs=dn++rem) (h:rem=x::r):xs[dn.length]?=some x:=by subst h; subst D; simp
theorem it_next {T:Type} {xs dn rem r:List T} {x:T} (D:xs=dn++rem) (h:rem=x::r):xs=(dn++[x])++r:=by subst h; subst D; simp
theorem it_len {T:Type} {dn:List T} {x:T} {J:Nat→List Nat→World→Prop} {L:List Nat} {W:World} (h:J (dn.length + 1) L W):J (dn++[x]).length L W:=by simpa using h
theorem it_end {T:Type} {xs dn rem:List T} (D:xs=dn++rem) (h:rem=[]) {J:Nat→List Nat→World→Prop} {L:List Nat} {W:World} (j:J dn.length L W):J xs.length L W:=by subst h; subst D; simpa using j
theorem lt_ghost {L:List Nat} {w w0:World} {g:Value} (hL:Lt L w) (h:∀ m∈own g,w0.heap.size≤m∧m<w.heap.size):Lt (own g++L) w:=fun m hm=>by
 rcases List.mem_append.1 hm with hm | hm
 ·exact (h m hm).2
 ·exact hL m hm
/-- One of the operations (al) makes a block, which g names from then on. -/
theorem ec_anyG {id : Nat} (hm : P.follows .mixedOrders = true) (A : List (List Nat)) (T : List Nat) (al : Nat) (X : Value → World → Prop) (S : Value → Nat → Value → World → Prop) (I : Value → Nat → World → Prop) (LL : List Nat) (M : Value → Nat → List Nat)
    (hc : (okA ops A && onceB ops && chainB A T && backB ops && decide T.Nodup && T.all (fun i => decide (i < ops.size)) && (List.range ops.size).all fun i => okd N (dstOf ops i)) = true)
    (hal : al ∉ T) (hall : al < ops.size)
    (hS : ∀ g i v w w', Ext w w' → S g i v w → S g i v w') (hSa : ∀ g i v w w', i ≠ al → w0.heap.size ≤ w.heap.size → (∀ m ∈ own g, w.heap.size ≤ m) → Ext w w' → S gNil i v w → S g i v w')
    (hM : ∀ g k, ∀ m ∈ M g k, m ∈ LL ∨ m ∈ own g)
    (hS2 : ∀ g k x i v w w', (∀ m ∈ own g, w0.heap.size ≤ m ∧ m < w.heap.size) → T[k]? = some x → i ≠ x → x ∉ A.getD i [] → Fr (M g k) w w' → S g i v w → S g i v w')
    (hI : ∀ g k w w', Ext w w' → I g k w → I g k w') (hIa : ∀ g k w w', w0.heap.size ≤ w.heap.size → (∀ m ∈ own g, w.heap.size ≤ m) → (∀ m x, m < k → T[m]? = some x → al ∉ A.getD x []) → Ext w w' → X g w' → I gNil k w → I g k w')
    (hI0 : ∀ w, Ext w0 w → I gNil 0 w)
    (hqu : ∀ (i : Nat) (o : Oper), ops[i]? = some o → i ∉ T → i ≠ al → ∀ g ρ w, (∀ m ∈ own g, w0.heap.size ≤ m ∧ m < w.heap.size) → Fr LL w0 w → (∀ t, T.head? = some t → (A.getD t []).elem i = true → Ext w0 w) → (∀ j ∈ A.getD i [], ∀ t, dstOf ops j = some t → S g j (ρ t) w) → (∀ t, oldB ops A i t = true → ρ t = ρ0 t) →
      OneOp P r N ops ds o ρ w (fun v w' => Ext w w' ∧ S g i v w'))
    (hqa : ∀ (o : Oper), ops[al]? = some o → ∀ ρ w, Fr LL w0 w → (∀ t, T.head? = some t → (A.getD t []).elem al = true → Ext w0 w) → (∀ j ∈ A.getD al [], ∀ t, dstOf ops j = some t → S gNil j (ρ t) w) → (∀ t, oldB ops A al t = true → ρ t = ρ0 t) →
      OneOp P r N ops ds o ρ w (fun v w' => Ext w w' ∧ ∃ g, (∀ m ∈ own g, w.heap.size ≤ m ∧ m < w'.heap.size) ∧ X g w' ∧ S g al v w'))
    (hta : ∀ (k i : Nat) (o : Oper), T[k]? = some i → ops[i]? = some o → ∀ g ρ w, (∀ m ∈ own g, w0.heap.size ≤ m ∧ m < w.heap.size) → Fr LL w0 w → (k = 0 → Ext w0 w) → I g k w → (∀ j ∈ A.getD i [], ∀ t, dstOf ops j = some t → S g j (ρ t) w) → (∀ t, oldB ops A i t = true → ρ t = ρ0 t) →
      OneOp P r N ops ds o ρ w (fun v w' => Fr (M g k) w w' ∧ I g (k + 1) w' ∧ S g i v w'))
    (hend : ∀ g ρ w, (∀ m ∈ own g, w0.heap.size ≤ m ∧ m < w.heap.size) → Fr LL w0 w → I g T.length w → (∀ i t, dstOf ops i = some t → S g i (ρ t) w) → (∀ t, ((List.range ops.size).all fun j => dstOf ops j != some t) = true → ρ t = ρ0 t) → Q .normal ρ ds w) :
    EC P r N (.region id ops true) Q ρ0 ds w0 := by
  simp only [Bool.and_eq_true, decide_eq_true_eq] at hc
  obtain ⟨⟨⟨⟨⟨⟨hA, hO⟩, hT⟩, hB⟩, hN⟩, hTin⟩, hdd⟩ := hc
  have hd : ∀ (i : Nat) (o : Oper), ops[i]? = some o → okd N o.dst = true := fun i o ho => by
    have hlt : i < ops.size := (Array.getElem?_eq_some_iff.1 ho).1
    have := List.all_eq_true.1 hdd i (by simp [hlt])
    simpa [dstOf, ho] using this
  intro a h1 h2 h3
  have hdrew : Ext w0 { w0 with drawn := w0.drawn + 1 } := Ext.drew w0
  refine wpIn_region_any hm (any_of_X (X := fun listed a w => ∃ g, (listed.getD al false = false → g = gNil) ∧ (∀ m ∈ own g, w0.heap.size ≤ m ∧ m < w.heap.size) ∧ St ops A T (S g) (I g) LL N ρ0 ds w0 listed a w) (fun l a w ⟨g, _, _, h⟩ => h.len) ?_ ?_ _ _ _ _ ?_ ?_)
  · rintro K listed a w ⟨g, hg, hgm, hs⟩ i hi hK
    obtain ⟨hnl, o', ho', _⟩ := mem_ready' hs.len hi
    have hlt' : i < ops.size := (Array.getElem?_eq_some_iff.1 ho').1
    by_cases hia : i = al
    · subst hia
      have hg0 := hg hnl
      subst hg0
      refine St.stepG (S' := S) (I' := I) (Y := fun g w' => w.heap.size ≤ w'.heap.size ∧ ∀ m ∈ own g, w.heap.size ≤ m ∧ m < w'.heap.size) hA hO hT hN hs hi ?_ (fun k o hk => absurd (List.mem_of_getElem? hk) hal) hd (fun g a' w' hst hy => hK a' w' ⟨g, fun h => ?_, fun m hm => ?_, hst⟩)
      · intro o k ho _ h1 h2 h3 hIk hTk
        refine eo_mono (hqa o ho _ w hs.rel h1 h2 h3) ?_
        rintro e ρ' ds' w' ⟨rfl, rfl, v, rfl, h1, g, h2, h3, h4⟩
        exact ⟨rfl, rfl, v, rfl, g, h1, fun j u hj _ hsj => hSa g j u w w' hj hs.rel.size (fun m hm => (h2 m hm).1) h1 hsj, h4, hIa g k w w' hs.rel.size (fun m hm => (h2 m hm).1) (fun m x hm hx hxa => by
          have := hs.clo x ((hTk m x hx).2 hm) i hxa
          rw [hnl] at this; cases this) h1 h3 hIk, h1.size, h2⟩
      · rw [getD_set_self (by rw [hs.len]; exact hlt')] at h; cases h
      · exact ⟨Nat.le_trans hs.rel.size (hy.2 m hm).1, (hy.2 m hm).2⟩
    · refine St.stepG (Γ := Unit) (S' := fun _ => S g) (I' := fun _ => I g) (Y := fun _ w' => w.heap.size ≤ w'.heap.size) hA hO hT hN hs hi ?_ ?_ hd (fun _ a' w' hst hy => hK a' w' ⟨g, fun h => hg (by rwa [getD_set_other (Ne.symm hia)] at h), fun m hm => ⟨(hgm m hm).1, Nat.lt_of_lt_of_le (hgm m hm).2 hy⟩, hst⟩)
      · intro o k ho hiT h1 h2 h3 hIk _
        refine eo_mono (hqu i o ho hiT hia g _ w hgm hs.rel h1 h2 h3) ?_
        rintro e ρ' ds' w' ⟨rfl, rfl, v, rfl, h1, h4⟩
        exact ⟨rfl, rfl, v, rfl, (), h1, fun j u _ _ hsj => hS g j u w w' h1 hsj, h4, hI g k w w' h1 hIk, h1.size⟩
      · intro k o hk ho h1 hIk h2 h3
        refine eo_mono (hta k i o hk ho g _ w hgm hs.rel h1 hIk h2 h3) ?_
        rintro e ρ' ds' w' ⟨rfl, rfl, v, rfl, h1, h4, h5⟩
        exact ⟨rfl, rfl, v, rfl, (), hs.rel.stp h1 (fun m hm => (hM g k m hm).elim .inl (fun h => .inr (hgm m h).1)), h4, fun j u hj hja hsj => hS2 g k i j u w w' hgm hk hj hja h1 hsj, h5, h1.size⟩
  · rintro listed a w hr ⟨g, hg, hgm, hs⟩
    have hall := all_listed hB hs.len hr
    have hin : ∀ i t, dstOf ops i = some t → listed.getD i false = true := fun i t ht => hall i (by
      unfold dstOf at ht
      cases ho : ops[i]? with
      | none => rw [ho] at ht; cases ht
      | some o => exact (Array.getElem?_eq_some_iff.1 ho).1)
    refine ⟨hs.size, by
      rw [hs.dsz]
      refine hend g _ _ hgm hs.rel ?_ (fun i t ht => hs.spec i t (hin i t ht) ht) (fun t ht => hs.env t fun j hj => ?_)
      · obtain ⟨k, hk, hIk, hTk⟩ := hs.tail
        have : k = T.length := by
          rcases Nat.lt_or_ge k T.length with hlt | hge
          · exfalso
            have hx : T[k]? = some T[k] := List.getElem?_eq_getElem hlt
            have hy : listed.getD T[k] false = true := hall _ (by simpa using List.all_eq_true.1 hTin T[k] (List.getElem_mem hlt))
            have := (hTk k _ hx).1 hy
            omega
          · omega
        rw [← this]; exact hIk
      · have h5 := List.all_eq_true.1 ht j (by
          have : j < ops.size := by
            unfold dstOf at hj
            cases ho : ops[j]? with
            | none => rw [ho] at hj; cases hj
            | some o => exact (Array.getElem?_eq_some_iff.1 ho).1
          simp [this])
        rw [hj] at h5; simp at h5⟩
  · exact Nat.le_trans (List.length_filter_le _ _) (by simp)
  · have hrep : ∀ i, (Array.replicate ops.size false).getD i false = false := fun i => by
      simp only [Array.getD_eq_getD_getElem?, Array.getElem?_replicate]
      split <;> rfl
    exact ⟨gNil, fun _ => rfl, (fun m hm => by cases hm), h1, h3, by simp, (Fr.ext hdrew), (fun _ => hdrew), fun t _ => by rw [h2], (fun i hi => (by rw [hrep] at hi; cases hi)), (fun i t hi => (by rw [hrep] at hi; cases hi)), ⟨0, Nat.zero_le _, hI0 _ hdrew, (fun m x hx => (by rw [hrep]; simp))⟩⟩
end

/-! ### a loop in an iterator: it may be left at any time by a return -/
section loopIt
variable {P : Program} {r : Option Nat} {N : Nat} {Q : Post} {ρ : Env} {ds : List Deferred} {w : World} {S Y : Type}
def lqI (id:Nat) (I:S→Inv) (J:Y→Inv) (K:Inv) (x:S ⊕ (S ⊕ Y)):Post:=fun e ρ ds w=>(e=.ret∧K ρ ds w)∨lqR id I J x e ρ ds w
theorem ec_loopIt {body:S→S ⊕ (S ⊕ Y)→Prop} {c:Code} (id:Nat) {I:S→Inv} {J:Y→Inv} {K:Inv} (hround:∀ s x ρ ds w,I s ρ ds w→body s x→EC P r N c (lqI id I J K x) ρ ds w)
  {s:S} {y:S ⊕ Y} (hl:LoopR body s y) (hI:I s ρ ds w) (hout:∀ s',y=.inl s'→∀ ρ ds w,I s' ρ ds w→Q (.exit id) ρ ds w) (hret:∀ y',y=.inr y'→∀ ρ ds w,J y' ρ ds w→Q .ret ρ ds w)
  (hstop:∀ ρ ds w,K ρ ds w→Q .ret ρ ds w):EC P r N (.loop c) Q ρ ds w:=by
 intro a h1 h2 h3 b k cs hro hb hr
 have key:∀ s y,LoopR body s y→(∀ s',y=.inl s'→∀ ρ ds w,I s' ρ ds w→Q (.exit id) ρ ds w)→(∀ y',y=.inr y'→∀ ρ ds w,J y' ρ ds w→Q .ret ρ ds w)→∀ a w,a.tmps.size=N→I s (envOf a) a.defers w →
   ∃ e a' w',lift N Q e a' w'∧ArrivesIn (Machine.fenced P (FW r)) P (lone (b.atR a (.code c::.inLoop c::k)) cs w) b k cs e a' w':=by
  intro s y hl
  induction hl with
  | @done s y hbody =>
   intro hout hret a w hs hI
   obtain ⟨e,a₁,w₁,⟨hs1,hq⟩,harr⟩:=hround s _ _ _ w hI hbody a hs rfl rfl b (.inLoop c::k) cs hro hb hr
   rcases hq with ⟨rfl,hk⟩ | hq
   ·exact ⟨.ret,a₁,w₁,⟨hs1,hstop _ _ _ hk⟩,.pass (x:=.inLoop c) rfl (fun _ _=>.inl (by simp)) harr⟩
   ·cases y with
    | inl s' =>
     obtain ⟨rfl,hi⟩:=hq
     exact ⟨.exit id,a₁,w₁,⟨hs1,hout _ rfl _ _ _ hi⟩,.pass (x:=.inLoop c) rfl (fun _ _=>.inl (by simp)) harr⟩
    | inr y' =>
     obtain ⟨rfl,hi⟩:=hq
     exact ⟨.ret,a₁,w₁,⟨hs1,hret _ rfl _ _ _ hi⟩,.pass (x:=.inLoop c) rfl (fun _ _=>.inl (by simp)) harr⟩
  | @step s s' y hbody _ ih =>
   intro hout hret a w hs hI
   obtain ⟨e,a₁,w₁,⟨hs1,hq⟩,harr⟩:=hround s _ _ _ w hI hbody a hs rfl rfl b (.inLoop c::k) cs hro hb hr
   rcases hq with ⟨rfl,hk⟩ | hq
   ·exact ⟨.ret,a₁,w₁,⟨hs1,hstop _ _ _ hk⟩,.pass (x:=.inLoop c) rfl (fun _ _=>.inl (by simp)) harr⟩
   ·obtain ⟨rfl,hI1⟩:=hq
    obtain ⟨e₂,a₂,w₂,hq₂,harr₂⟩:=ih hout hret a₁ w₁ hs1 hI1
    exact ⟨e₂,a₂,w₂,hq₂,.of_steps (StepsIn.trans harr (.one (fenced_calm hb hr rfl) stepR_inLoop)) harr₂⟩
 subst h2; subst h3
 obtain ⟨e,a',w',hq,harr⟩:=key s y hl hout hret a w h1 hI
 exact ⟨e,a',w',hq,.of_steps (.one (fenced_calm hb hr rfl) stepR_loop) harr⟩
end loopIt

section drawn
variable {P : Program} {r : Option Nat} {N : Nat} {Q : Post} {ρ0 : Env} {ds : List Deferred} {w0 : World} {l : List Oper}
def StG (g:Value) (M:List Nat) (w0:World) (t:List Nat):List (Value→World→Prop)→Nat→Prop
 | [],_=>True
 | S::l,i=>(t.elem i=false→∀ v w w',(∀ m∈own g,w0.heap.size≤m∧m<w.heap.size)→Fr M w w'→S v w→S v w')∧StG g M w0 t l (i + 1)
theorem stG_spec {g:Value} {M:List Nat} {t:List Nat}:∀ {SL:List (Value→World→Prop)} {k:Nat},StG g M w0 t SL k→∀ i,t.elem (k + i)=false→∀ v w w',(∀ m∈own g,w0.heap.size≤m∧m<w.heap.size)→Fr M w w'→getS SL i v w→getS SL i v w'
 | [],_,_,i,_,v,w,w',_,_=>by simp [getS]
 | S::l,k,h,0,ht,v,w,w',hg,hr=>fun hs=>h.1 ht v w w' hg hr hs
 | S::l,k,h,i + 1,ht,v,w,w',hg,hr=>by
  have:=stG_spec h.2 i (by rwa [show k + 1 + i=k + (i + 1) by omega]) v w w' hg hr
  simp only [getS,List.getD_cons_succ]
  exact this
def StAG (g:Value) (w0:World) (SL:List (Value→World→Prop)):List (List Nat)→List (List Nat)→Prop
 | [],_=>True
 | M::ML,sks=>StG g M w0 (sks.headD []) SL 0∧StAG g w0 SL ML sks.tail
theorem stAG_spec {g:Value} {SL:List (Value→World→Prop)}:∀ {ML sks:List (List Nat)},StAG g w0 SL ML sks→∀ k,k<ML.length→StG g (ML.getD k []) w0 (sks.getD k []) SL 0
 | [],_,_,k,hk=>by simp at hk
 | M::ML,[],h,0,_=>h.1
 | M::ML,x::sks,h,0,_=>h.1
 | M::ML,[],h,k + 1,hk=>by have:=stAG_spec h.2 k (by simpa using hk); simpa using this
 | M::ML,x::sks,h,k + 1,hk=>by have:=stAG_spec h.2 k (by simpa using hk); simpa using this
/-- What the new block does to each, al left out. -/
def StN (al : Nat) : List (Value → World → Prop) → List (Value → World → Prop) → Nat → World → Prop
  | S :: l, S' :: l', i, w => (Nat.beq i al = false → ∀ v w', Ext w w' → S v w → S' v w') ∧ StN al l l' (i + 1) w
  | _, _, _, _ => True
theorem stN_spec {al:Nat} {w:World}:∀ {l l':List (Value→World→Prop)} {k:Nat},l.length=l'.length→StN al l l' k w→∀ i,Nat.beq (k + i) al=false→∀ v w',Ext w w'→getS l i v w→getS l' i v w'
 | [],[],_,_,_,i,_,v,w',_=>by simp [getS]
 | S::l,S'::l',k,hl,h,0,hi,v,w',hr=>fun hs=>h.1 hi v w' hr hs
 | S::l,S'::l',k,hl,h,i + 1,hi,v,w',hr=>by
  have:=stN_spec (by simpa using hl) h.2 i (by rwa [show k + 1 + i=k + (i + 1) by omega]) v w' hr
  simp only [getS,List.getD_cons_succ]
  exact this
 | [],_::_,_,hl,_,_,_,_,_,_=>by simp at hl
 | _::_,[],_,hl,_,_,_,_,_,_=>by simp at hl
theorem nbeq_ne {i al:Nat} (h:i≠al):Nat.beq i al=false:=by
 cases e:Nat.beq i al with
 | false=>rfl
 | true=>exact absurd (Nat.eq_of_beq_eq_true e) h
theorem ec_anyGN {id:Nat} (hm:P.follows .mixedOrders=true) (A:List (List Nat)) (D LL T:List Nat) (al K0:Nat) (X:Value→World→Prop) (ML:Value→List (List Nat)) (sks:List (List Nat)) (IL:Value→List (World→Prop)) (SL:Value→List (Value→World→Prop))
  (hc:(chk l.toArray A T D N&&skipsB A l.length T sks&&!T.elem al&&decide (al<l.length)&&(T.getD K0 l.length != l.length&&(A.getD (T.getD K0 0) []).elem al))=true)
  (hl1:∀ g,(SL g).length=l.length) (hl2:∀ g,(ML g).length=T.length) (hML:∀ g,∀ M∈ML g,∀ m∈M,m∈LL∨m∈own g)
  (hS:∀ g,StL Ext [] (SL g) 0) (hS2:∀ g,StAG g w0 (SL g) (ML g) sks) (hSN:∀ g w,w0.heap.size≤w.heap.size→(∀ m∈own g,w.heap.size≤m)→StN al (SL gNil) (SL g) 0 w) (hI:∀ g,AllI (IL g)) (hI0:getI (IL gNil) 0 w0)
  (hIa:∀ k,k≤K0→∀ g w w',w0.heap.size≤w.heap.size→(∀ m∈own g,w.heap.size≤m)→Ext w w'→X g w'→getI (IL gNil) k w→getI (IL g) k w')
  (hops:AllOps (fun i o=>T.elem i=false→Nat.beq i al=false→∀ g ρ w,(∀ m∈own g,w0.heap.size≤m∧m<w.heap.size)→Fr LL w0 w→(∀ t,T.head?=some t→(A.getD t []).elem i=true→Ext w0 w)→(∀ j∈A.getD i [],∀ t,dstOf l.toArray j=some t→getS (SL g) j (ρ t) w)→(∀ t,oldB l.toArray A i t=true→ρ t=ρ0 t)→OneOp P r N l.toArray ds o ρ w (fun v w'=>Ext w w'∧getS (SL g) i v w')) l 0)
  (hqa:∀ o,l[al]?=some o→∀ ρ w,Fr LL w0 w→(∀ t,T.head?=some t→(A.getD t []).elem al=true→Ext w0 w)→(∀ j∈A.getD al [],∀ t,dstOf l.toArray j=some t→getS (SL gNil) j (ρ t) w)→(∀ t,oldB l.toArray A al t=true→ρ t=ρ0 t)→OneOp P r N l.toArray ds o ρ w (fun v w'=>Ext w w'∧∃ g,(∀ m∈own g,w.heap.size≤m∧m<w'.heap.size)∧X g w'∧getS (SL g) al v w'))
  (hta:AllT l (fun k i o=>∀ g ρ w,(∀ m∈own g,w0.heap.size≤m∧m<w.heap.size)→Fr LL w0 w→(k=0→Ext w0 w)→getI (IL g) k w→(∀ j∈A.getD i [],∀ u,dstOf l.toArray j=some u→getS (SL g) j (ρ u) w)→(∀ u,oldB l.toArray A i u=true→ρ u=ρ0 u)→OneOp P r N l.toArray ds o ρ w (fun v w'=>Fr ((ML g).getD k []) w w'∧getI (IL g) (k + 1) w'∧getS (SL g) i v w')) T 0)
  (hend:∀ g ρ w,(∀ m∈own g,w0.heap.size≤m∧m<w.heap.size)→Fr LL w0 w→getI (IL g) T.length w→(∀ i t,dstOf l.toArray i=some t→getS (SL g) i (ρ t) w)→(∀ t,D.elem t=false→ρ t=ρ0 t)→Q .normal ρ ds w):EC P r N (.region id l.toArray true) Q ρ0 ds w0:=by
 simp only [chk,Bool.and_eq_true] at hc
 obtain ⟨⟨⟨⟨⟨hc1,hc2⟩,hc3⟩,hc4⟩,hc5⟩,hc6,hc7⟩:=hc
 refine ec_anyG hm A T al X (fun g=>getS (SL g)) (fun g=>getI (IL g)) LL (fun g k=>(ML g).getD k []) (by simpa only [Bool.and_eq_true] using hc1) (by simpa using hc4) (by simpa using hc5)
  (fun g i v w w' f h=>stL_spec (hS g) i rfl v w w' f h) (fun g i v w w' hi hw hg f h=>stN_spec (by rw [hl1,hl1]) (hSN g w hw hg) i (by rw [Nat.zero_add]; exact nbeq_ne hi) v w' f h) (fun g k m hm=>?_) (fun g k x i v w w' hg hx hi ha f h=>?_) (fun g k w w' f h=>allI_spec (hI g) k w w' f h) (fun g k w w' hw hg hk f hx h=>hIa k ?_ g w w' hw hg f hx h) (fun w f=>allI_spec (hI _) 0 w0 w f hI0) ?_ ?_ ?_ ?_
 ·by_cases hk:k<(ML g).length
  ·refine hML g ((ML g).getD k []) ?_ m hm
   simp [List.getD_eq_getElem?_getD,hk]
  ·simp [List.getD_eq_getElem?_getD,List.getElem?_eq_none (Nat.le_of_not_lt hk)] at hm
 ·by_cases hlt:i<l.length
  ·have hk:k<(ML g).length:=by rw [hl2]; exact (List.getElem?_eq_some_iff.1 hx).1
   refine stG_spec (stAG_spec (hS2 g) k hk) i ?_ v w w' hg f h
   have h1:=List.all_eq_true.1 (skipsB_spec hc3 k x hx) i (by simp [hlt])
   simp only [Bool.or_eq_true,Bool.not_eq_true',beq_iff_eq] at h1
   rcases h1 with (h1 | h1) | h1
   ·simpa using h1
   ·exact absurd h1 hi
   ·exact absurd (by simpa using h1) ha
  ·simp [getS,List.getD_eq_getElem?_getD,List.getElem?_eq_none (show (SL g).length≤i by rw [hl1]; omega)]
 ·rcases Nat.lt_or_ge K0 k with hlt | hge
  ·exfalso
   have hlt2:K0<T.length:=by
    rcases Nat.lt_or_ge K0 T.length with h | h
    ·exact h
    ·simp [List.getD_eq_getElem?_getD,List.getElem?_eq_none h] at hc6
   have:=hk K0 T[K0] hlt (List.getElem?_eq_getElem hlt2)
   exact this (by simpa [List.getD_eq_getElem?_getD,hlt2] using hc7)
  ·exact hge
 ·intro i o ho hi hia g ρ w hg f h0 h1 h2
  have:=allOps_spec hops i o (by simpa using ho) (by simpa using hi) (by rw [Nat.zero_add]; exact nbeq_ne hia) g ρ w hg f (by rw [Nat.zero_add]; exact h0) (by simpa using h1) (by simpa using h2)
  simpa using this
 ·intro o ho ρ w f h0 h1 h2
  exact hqa o (by simpa using ho) ρ w f h0 h1 h2
 ·intro k i o hk ho g ρ w hg f h0 hi h1 h2
  have:=allT_spec hta k i o hk (by simpa using ho) g ρ w hg f (by simpa using h0) (by simpa using hi) h1 h2
  simpa using this
 ·intro g ρ w hg f hi h1 h2
  exact hend g ρ w hg f hi h1 (fun t ht=>h2 t (dIn_spec hc2 ht))
end drawn

/-! ### in fewer letters -/
section short
variable {P : Program} {r : Option Nat} {N : Nat} {ops : Array Oper} {Q : Post} {rest : List Oper} {ρ : Env} {ds : List Deferred} {w : World} {d : Nat} {ty : TypeId} {pos : String} {after : Array Edge} {g : Option (Nat × Bool)}
theorem o_w {op:Op} {v:Value} (hr:RunV P ρ w ⟨some d,op,ty,pos,after,g⟩ v) (h:EO P r N ops Q rest (upd ρ d v) ds w) (hg:wantE ops ρ g=true:=by exact rfl) (hp:plainOp op=true:=by exact rfl) (hd:Nat.blt d N=true:=by exact rfl) :
  EO P r N ops Q (⟨some d,op,ty,pos,after,g⟩::rest) ρ ds w:=eo_val hg hp hd hr h
theorem o_q {op:Op} {v:Value} {R:Value→World→Prop} (hr:RunV P ρ w ⟨some d,op,ty,pos,after,g⟩ v) (hR:R v w) (hg:wantE ops ρ g=true:=by exact rfl) (hp:plainOp op=true:=by exact rfl) (hd:Nat.blt d N=true:=by exact rfl) :
  OneOp P r N ops ds ⟨some d,op,ty,pos,after,g⟩ ρ w R:=o_v hr hg hp hd (eo_nil ⟨rfl,rfl,v,rfl,hR⟩)
end short
end Go.Proofs.Ytpopikeebobjnaa
