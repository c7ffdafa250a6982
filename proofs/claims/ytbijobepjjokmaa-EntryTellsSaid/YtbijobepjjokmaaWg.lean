/- A region that draws its order: what holds between the effects is known to the other operations too. -/
import Derived.Test.YtbijobepjjokmaaWf
namespace Go.Proofs.Ytbijobepjjokmaa
open Go Go.RowKit
set_option linter.unusedVariables false
set_option linter.unusedSimpArgs false

section
variable {P : Program} {r : Option Nat} {N : Nat} {ops : Array Oper} {Q : Post} {ρ0 : Env} {ds : List Deferred} {w0 : World}
theorem stepI {A:List (List Nat)} {T:List Nat} {S:Nat→Value→World→Prop} {I:Nat→World→Prop} {LL:List Nat} {M:Nat→List Nat}
  (hA:okA ops A=true) (hO:onceB ops=true) (hT:chainB A T=true) (hN:T.Nodup)
  (hS:∀ i v w w',Ext w w'→S i v w→S i v w') (hM:∀ k,∀ m∈M k,m∈LL) (hS2:∀ k x i v w w',T[k]?=some x→i≠x→x∉A.getD i []→Fr (M k) w w'→S i v w→S i v w') (hI:∀ k w w',Ext w w'→I k w→I k w')
  (hqu:∀ (i:Nat) (o:Oper),ops[i]?=some o→i∉T→∀ ρ w,Fr LL w0 w→(∀ t,T.head?=some t→(A.getD t []).elem i=true→Ext w0 w)→(∀ j∈A.getD i [],∀ t,dstOf ops j=some t→S j (ρ t) w)→(∀ t,oldB ops A i t=true→ρ t=ρ0 t)→(∃ k,I k w∧∀ m x,T[m]?=some x→(A.getD x []).elem i=true→k≤m)→
   OneOp P r N ops ds o ρ w (fun v w'=>Ext w w'∧S i v w'))
  (hta:∀ (k i:Nat) (o:Oper),T[k]?=some i→ops[i]?=some o→∀ ρ w,Fr LL w0 w→(k=0→Ext w0 w)→I k w→(∀ j∈A.getD i [],∀ t,dstOf ops j=some t→S j (ρ t) w)→(∀ t,oldB ops A i t=true→ρ t=ρ0 t) →
   OneOp P r N ops ds o ρ w (fun v w'=>Fr (M k) w w'∧I (k + 1) w'∧S i v w'))
  {K:Act→World→Prop} {listed:Array Bool} {a:Act} {w:World} (hs:St ops A T S I LL N ρ0 ds w0 listed a w) {i:Nat} (hi:i∈Region.ready .any ops listed)
  (hd:∀ (i:Nat) (o:Oper),ops[i]?=some o→okd N o.dst=true)
  (hK:∀ a' w',St ops A T S I LL N ρ0 ds w0 (listed.setIfInBounds i true) a' w'→K a' w'):wpOpIn (FW r) 0 P ops (lift N Q) i K a w:=by
 obtain ⟨hnl,_,_,_⟩:=mem_ready' hs.len hi
 refine St.stepG (Γ:=Unit) (S':=fun _=>S) (I':=fun _=>I) (Y:=fun _ _=>True) hA hO hT hN hs hi ?_ ?_ hd (fun _ a' w' hst _=>hK a' w' hst)
 ·intro o k ho hiT h1 h2 h3 hIk hTk
  refine eo_mono (hqu i o ho hiT _ w hs.rel h1 h2 h3 ⟨k,hIk,fun m x hmx hxi=>Nat.le_of_not_lt fun hlt=>?_⟩) ?_
  ·have:=hs.clo x ((hTk m x hmx).2 hlt) i (by simpa using hxi)
   rw [hnl] at this; cases this
  ·rintro e ρ' ds' w' ⟨rfl,rfl,v,rfl,h1,h4⟩
   exact ⟨rfl,rfl,v,rfl,(),h1,fun j u _ _ hsj=>hS j u w w' h1 hsj,h4,hI k w w' h1 hIk,trivial⟩
 ·intro k o hk ho h1 hIk h2 h3
  refine eo_mono (hta k i o hk ho _ w hs.rel h1 hIk h2 h3) ?_
  rintro e ρ' ds' w' ⟨rfl,rfl,v,rfl,h1,h4,h5⟩
  exact ⟨rfl,rfl,v,rfl,(),hs.rel.trans (h1.mono (hM k)),h4,fun j u hj hja hsj=>hS2 k i j u w w' hk hj hja h1 hsj,h5,trivial⟩
theorem ec_anyI {id:Nat} (hm:P.follows .mixedOrders=true) (A:List (List Nat)) (T:List Nat) (S:Nat→Value→World→Prop) (I:Nat→World→Prop) (LL:List Nat) (M:Nat→List Nat)
  (hc:(okA ops A&&onceB ops&&chainB A T&&backB ops&&decide T.Nodup&&T.all (fun i=>decide (i<ops.size))&&(List.range ops.size).all fun i=>okd N (dstOf ops i))=true)
  (hS:∀ i v w w',Ext w w'→S i v w→S i v w') (hM:∀ k,∀ m∈M k,m∈LL) (hS2:∀ k x i v w w',T[k]?=some x→i≠x→x∉A.getD i []→Fr (M k) w w'→S i v w→S i v w') (hI:∀ k w w',Ext w w'→I k w→I k w')
  (hI0:∀ w,Ext w0 w→I 0 w)
  (hqu:∀ (i:Nat) (o:Oper),ops[i]?=some o→i∉T→∀ ρ w,Fr LL w0 w→(∀ t,T.head?=some t→(A.getD t []).elem i=true→Ext w0 w)→(∀ j∈A.getD i [],∀ t,dstOf ops j=some t→S j (ρ t) w)→(∀ t,oldB ops A i t=true→ρ t=ρ0 t)→(∃ k,I k w∧∀ m x,T[m]?=some x→(A.getD x []).elem i=true→k≤m)→
   OneOp P r N ops ds o ρ w (fun v w'=>Ext w w'∧S i v w'))
  (hta:∀ (k i:Nat) (o:Oper),T[k]?=some i→ops[i]?=some o→∀ ρ w,Fr LL w0 w→(k=0→Ext w0 w)→I k w→(∀ j∈A.getD i [],∀ t,dstOf ops j=some t→S j (ρ t) w)→(∀ t,oldB ops A i t=true→ρ t=ρ0 t) →
   OneOp P r N ops ds o ρ w (fun v w'=>Fr (M k) w w'∧I (k + 1) w'∧S i v w'))
  (hend:∀ ρ w,Fr LL w0 w→I T.length w→(∀ i t,dstOf ops i=some t→S i (ρ t) w)→(∀ t,((List.range ops.size).all fun j=>dstOf ops j != some t)=true→ρ t=ρ0 t)→Q .normal ρ ds w) :
  EC P r N (.region id ops true) Q ρ0 ds w0:=by
 simp only [Bool.and_eq_true,decide_eq_true_eq] at hc
 obtain ⟨⟨⟨⟨⟨⟨hA,hO⟩,hT⟩,hB⟩,hN⟩,hTin⟩,hdd⟩:=hc
 have hd:∀ (i:Nat) (o:Oper),ops[i]?=some o→okd N o.dst=true:=fun i o ho=>by
  have hlt:i<ops.size:=(Array.getElem?_eq_some_iff.1 ho).1
  have:=List.all_eq_true.1 hdd i (by simp [hlt])
  simpa [dstOf,ho] using this
 intro a h1 h2 h3
 have hdrew:Ext w0 { w0 with drawn:=w0.drawn + 1 }:=Ext.drew w0
 refine wpIn_region_any hm (any_of_st (A:=A) (T:=T) (S:=S) (I:=I) (LL:=LL) (ρ0:=ρ0) (ds:=ds) (w0:=w0)
  (fun K listed a w hs i hi hK=>stepI hA hO hT hN hS hM hS2 hI hqu hta hs hi hd hK) ?_ _ _ _ _ ?_ ?_)
 ·intro listed a w hr hs
  have hall:=all_listed hB hs.len hr
  have hin:∀ i t,dstOf ops i=some t→listed.getD i false=true:=fun i t ht=>hall i (by
   unfold dstOf at ht
   cases ho:ops[i]? with
   | none=>rw [ho] at ht; cases ht
   | some o=>exact (Array.getElem?_eq_some_iff.1 ho).1)
  refine ⟨hs.size,by
   rw [hs.dsz]
   refine hend _ _ hs.rel ?_ (fun i t ht=>hs.spec i t (hin i t ht) ht) (fun t ht=>hs.env t fun j hj=>?_)
   ·obtain ⟨k,hk,hIk,hTk⟩:=hs.tail
    have:k=T.length:=by
     rcases Nat.lt_or_ge k T.length with hlt | hge
     ·exfalso
      have hx:T[k]?=some T[k]:=List.getElem?_eq_getElem hlt
      have hy:listed.getD T[k] false=true:=hall _ (by simpa using List.all_eq_true.1 hTin T[k] (List.getElem_mem hlt))
      have:=(hTk k _ hx).1 hy
      omega
     ·omega
    rw [← this]; exact hIk
   ·have h5:=List.all_eq_true.1 ht j (by
     have:j<ops.size:=by
      unfold dstOf at hj
      cases ho:ops[j]? with
      | none=>rw [ho] at hj; cases hj
      | some o=>exact (Array.getElem?_eq_some_iff.1 ho).1
     simp [this])
    rw [hj] at h5; simp at h5⟩
 ·exact Nat.le_trans (List.length_filter_le _ _) (by simp)
 ·have hrep:∀ i,(Array.replicate ops.size false).getD i false=false:=fun i=>by
   simp only [Array.getD_eq_getD_getElem?,Array.getElem?_replicate]
   split <;> rfl
  exact ⟨h1,h3,by simp,(Fr.ext hdrew),(fun _=>hdrew),fun t _=>by rw [h2],(fun i hi=>(by rw [hrep] at hi; cases hi)),(fun i t hi=>(by rw [hrep] at hi; cases hi)),⟨0,Nat.zero_le _,hI0 _ hdrew,(fun m x hx=>(by rw [hrep]; simp))⟩⟩
end
section
variable {P : Program} {r : Option Nat} {N : Nat} {Q : Post} {ρ0 : Env} {ds : List Deferred} {w0 : World} {l : List Oper}
theorem ec_anyNI {id:Nat} (hm:P.follows .mixedOrders=true) (A:List (List Nat)) (D LL T:List Nat) (ML sks:List (List Nat)) (IL:List (World→Prop)) (SL:List (Value→World→Prop))
  (hc:(chk l.toArray A T D N&&skipsB A l.length T sks&&Nat.beq SL.length l.length&&Nat.beq ML.length T.length)=true) (hML:∀ M∈ML,∀ m∈M,m∈LL)
  (hS:StL Ext [] SL 0) (hS2:StA SL ML sks) (hI:AllI IL) (hI0:getI IL 0 w0)
  (hops:AllOps (fun i o=>T.elem i=false→∀ ρ w,Fr LL w0 w→(∀ t,T.head?=some t→(A.getD t []).elem i=true→Ext w0 w)→(∀ j∈A.getD i [],∀ t,dstOf l.toArray j=some t→getS SL j (ρ t) w)→(∀ t,oldB l.toArray A i t=true→ρ t=ρ0 t)→(∃ k,getI IL k w∧∀ m x,T[m]?=some x→(A.getD x []).elem i=true→k≤m)→OneOp P r N l.toArray ds o ρ w (fun v w'=>Ext w w'∧getS SL i v w')) l 0)
  (hta:AllT l (fun k i o=>∀ ρ w,Fr LL w0 w→(k=0→Ext w0 w)→getI IL k w→(∀ j∈A.getD i [],∀ u,dstOf l.toArray j=some u→getS SL j (ρ u) w)→(∀ u,oldB l.toArray A i u=true→ρ u=ρ0 u)→OneOp P r N l.toArray ds o ρ w (fun v w'=>Fr (ML.getD k []) w w'∧getI IL (k + 1) w'∧getS SL i v w')) T 0)
  (hend:∀ ρ w,Fr LL w0 w→getI IL T.length w→(∀ i t,dstOf l.toArray i=some t→getS SL i (ρ t) w)→(∀ t,D.elem t=false→ρ t=ρ0 t)→Q .normal ρ ds w):EC P r N (.region id l.toArray true) Q ρ0 ds w0:=by
 simp only [chk,Bool.and_eq_true] at hc
 obtain ⟨⟨⟨⟨hc1,hc2⟩,hc3⟩,hc4⟩,hc5⟩:=hc
 have hlen:=Nat.eq_of_beq_eq_true hc4
 have hlen2:=Nat.eq_of_beq_eq_true hc5
 refine ec_anyI hm A T (getS SL) (getI IL) LL (fun k=>ML.getD k []) (by simpa only [Bool.and_eq_true] using hc1) (fun i v w w' f h=>stL_spec hS i rfl v w w' f h) (fun k m hm=>?_) (fun k x i v w w' hx hi ha f h=>?_) (fun k w w' f h=>allI_spec hI k w w' f h) (fun w f=>allI_spec hI 0 w0 w f hI0) ?_ ?_ ?_
 ·by_cases hk:k<ML.length
  ·refine hML (ML.getD k []) ?_ m hm
   simp [List.getD_eq_getElem?_getD,hk]
  ·simp [List.getD_eq_getElem?_getD,List.getElem?_eq_none (Nat.le_of_not_lt hk)] at hm
 ·by_cases hlt:i<l.length
  ·have hk:k<ML.length:=by rw [hlen2]; exact (List.getElem?_eq_some_iff.1 hx).1
   refine stL_spec (stA_spec hS2 k hk) i ?_ v w w' f h
   have h1:=List.all_eq_true.1 (skipsB_spec hc3 k x hx) i (by simp [hlt])
   simp only [Bool.or_eq_true,Bool.not_eq_true',beq_iff_eq] at h1
   rcases h1 with (h1 | h1) | h1
   ·simpa using h1
   ·exact absurd h1 hi
   ·exact absurd (by simpa using h1) ha
  ·simp [getS,List.getD_eq_getElem?_getD,List.getElem?_eq_none (show SL.length≤i by omega)]
 ·intro i o ho hi ρ w f h0 h1 h2
  have:=allOps_spec hops i o (by simpa using ho) (by simpa using hi) ρ w f (by rw [Nat.zero_add]; exact h0) (by simpa using h1) (by simpa using h2)
  simpa using this
 ·intro k i o hk ho ρ w f h0 hi h1 h2
  have:=allT_spec hta k i o hk (by simpa using ho) ρ w f (by simpa using h0) (by simpa using hi) h1 h2
  simpa using this
 ·intro ρ w f hi h1 h2
  exact hend ρ w f hi h1 (fun t ht=>h2 t (dIn_spec hc2 ht))
end
end Go.Proofs.Ytbijobepjjokmaa
