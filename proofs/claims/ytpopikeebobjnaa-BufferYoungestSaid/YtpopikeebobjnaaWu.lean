/- Loops, make, append from a slice, drawn regions: in the form in which the generator's texts use them. -/
import Derived.Test.YtpopikeebobjnaaWt
import Derived.Deep.Upon
namespace Go.Proofs.Ytpopikeebobjnaa
open Go Go.RowKit
set_option linter.unusedVariables false
set_option linter.unusedSimpArgs false

abbrev Inv:=Env→List Deferred→World→Prop
section loops
variable {P : Program} {r : Option Nat} {N : Nat} {Q : Post} {ρ : Env} {ds : List Deferred} {w : World} {S Y : Type}
def lqE (id:Nat) (I:S→Inv):S ⊕ S→Post
 | .inl s,e,ρ,ds,w=>e=.normal∧I s ρ ds w
 | .inr s,e,ρ,ds,w=>e=.exit id∧I s ρ ds w
theorem lq_n {id:Nat} {I:S→Inv} {s:S} (h:I s ρ ds w):lqE id I (.inl s) .normal ρ ds w:=⟨rfl,h⟩
theorem lq_x {id:Nat} {I:S→Inv} {s:S} (h:I s ρ ds w):lqE id I (.inr s) (.exit id) ρ ds w:=⟨rfl,h⟩
theorem ec_loopE {body:S→S ⊕ S→Prop} {c:Code} (id:Nat) {I:S→Inv} (hround:∀ s x ρ ds w,I s ρ ds w→body s x→EC P r N c (lqE id I x) ρ ds w)
  {s y:S} (hl:LoopR body s y) (hI:I s ρ ds w) (hout:∀ ρ ds w,I y ρ ds w→Q (.exit id) ρ ds w):EC P r N (.loop c) Q ρ ds w :=
 ec_loop I (fun y e ρ ds w=>e=.exit id∧I y ρ ds w)
  (fun s x ρ ds w hI hb=>ec_mono (hround s x ρ ds w hI hb) fun e ρ' ds' w' h=>by
   cases x with
   | inl s'=>exact h
   | inr y=>exact ⟨by rw [h.1]; simp,h⟩) hl hI (fun e ρ' ds' w' _ h=>by obtain ⟨rfl,h⟩:=h; exact hout _ _ _ h)

def lqR (id:Nat) (I:S→Inv) (J:Y→Inv):S ⊕ (S ⊕ Y)→Post
 | .inl s,e,ρ,ds,w=>e=.normal∧I s ρ ds w
 | .inr (.inl s),e,ρ,ds,w=>e=.exit id∧I s ρ ds w
 | .inr (.inr y),e,ρ,ds,w=>e=.ret∧J y ρ ds w
theorem lqR_n {id:Nat} {I:S→Inv} {J:Y→Inv} {s:S} (h:I s ρ ds w):lqR id I J (.inl s) .normal ρ ds w:=⟨rfl,h⟩
theorem lqR_x {id:Nat} {I:S→Inv} {J:Y→Inv} {s:S} (h:I s ρ ds w):lqR id I J (.inr (.inl s)) (.exit id) ρ ds w:=⟨rfl,h⟩
theorem lqR_r {id:Nat} {I:S→Inv} {J:Y→Inv} {y:Y} (h:J y ρ ds w):lqR id I J (.inr (.inr y)) .ret ρ ds w:=⟨rfl,h⟩
theorem ec_loopER {body:S→S ⊕ (S ⊕ Y)→Prop} {c:Code} (id:Nat) {I:S→Inv} {J:Y→Inv} (hround:∀ s x ρ ds w,I s ρ ds w→body s x→EC P r N c (lqR id I J x) ρ ds w)
  {s:S} {y:S ⊕ Y} (hl:LoopR body s y) (hI:I s ρ ds w) (hout:∀ s',y=.inl s'→∀ ρ ds w,I s' ρ ds w→Q (.exit id) ρ ds w) (hret:∀ y',y=.inr y'→∀ ρ ds w,J y' ρ ds w→Q .ret ρ ds w):EC P r N (.loop c) Q ρ ds w :=
 ec_loop I (fun y e ρ ds w=>(∃ s,y=.inl s∧e=.exit id∧I s ρ ds w)∨(∃ y',y=.inr y'∧e=.ret∧J y' ρ ds w))
  (fun s x ρ ds w hI hb=>ec_mono (hround s x ρ ds w hI hb) fun e ρ' ds' w' h=>by
   cases x with
   | inl s'=>exact h
   | inr y =>
    cases y with
    | inl s'=>exact ⟨by rw [h.1]; simp,.inl ⟨s',rfl,h⟩⟩
    | inr y'=>exact ⟨by rw [h.1]; simp,.inr ⟨y',rfl,h⟩⟩) hl hI (fun e ρ' ds' w' _ h=>by
     rcases h with ⟨s,e1,rfl,h⟩ | ⟨y',e1,rfl,h⟩
     ·exact hout _ e1 _ _ _ h
     ·exact hret _ e1 _ _ _ h)
end loops

theorem Oper.wpIn_mono2 {F:Fence} {n:Nat} {P:Program} {Q Q':Exit→Act→World→Prop} {o:Oper} {a:Act} {w:World} {K K':Act→World→Prop} (h:∀ a w,K a w→K' a w) (hq:∀ e a w,Q e a w→Q' e a w)
  (hh:o.wpIn F n P a w K Q):o.wpIn F n P a w K' Q':=by
 unfold Oper.wpIn at *
 refine ⟨hh.1,?_⟩
 have hh:=hh.2
 generalize (o.semAt F.round a.eval).run P w=r at *
 cases r with
 | ok x w' =>
  cases x <;> simp only [Oper.uponIn] at hh ⊢ <;>
   first
    | exact h _ _ hh
    | exact ⟨hh.1,CallsIn.mono hh.2 (fun e w'' he=>by cases e <;> first | exact h _ _ he | exact hq _ _ _ he | (obtain ⟨x,y,z⟩:=he; exact ⟨x,y,hq _ _ _ z⟩))⟩
    | exact ⟨hh.1,RowsIn.mono hh.2 (fun _ _ he=>h _ _ he)⟩
    | exact ⟨hh.1,RoundIn.mono hh.2 (fun e w'' he=>by cases e <;> first | exact h _ _ he | exact hq _ _ _ he | (obtain ⟨x,y,z⟩:=he; exact ⟨x,y,hq _ _ _ z⟩))⟩
 | halt x w'=>cases x <;> simp only [Oper.uponIn] at hh ⊢ <;> exact hq _ _ _ hh
theorem wpListIn_mono' {F:Fence} {n:Nat} {P:Program} {ops:Array Oper} {Q Q':Exit→Act→World→Prop} (hq:∀ e a w,Q e a w→Q' e a w):∀ {l:List Oper} {a:Act} {w:World},wpListIn F n P ops Q l a w→wpListIn F n P ops Q' l a w
 | [],a,w,h=>hq _ _ _ h
 | o::l,a,w,h=>by
  unfold wpListIn at h ⊢
  split
  ·rename_i hw; rw [if_pos hw] at h; exact Oper.wpIn_mono2 (fun _ _ h=>wpListIn_mono' hq h) hq h
  ·rename_i hw; rw [if_neg hw] at h; exact ⟨h.1,wpListIn_mono' hq h.2⟩

/-! ### make, and append from a slice -/
section ops
variable {P : Program} {r : Option Nat} {N : Nat} {ops : Array Oper} {Q : Post} {rest : List Oper} {ρ : Env} {ds : List Deferred} {w : World}
variable {d : Nat} {ty : TypeId} {pos : String} {after : Array Edge} {g : Option (Nat × Bool)}
theorem o_make {T:Type} [Inhabited T] {k:Kd T} {t E n bytes:Nat} {zv:Value} {z:T} {X Y:Operand} {kl kc:IntKind} {i:Int} {L:List Nat} (hT:Slc P t E n bytes zv) (hn:k.n=n) (hc1:zv.cells.size=n)
  (hz:∀ w,k.r w zv.cells.toList z) (hX:ev ρ X=.int kl i) (hY:ev ρ Y=.int kc i) (hs:0≤i∧i * bytes≤281474976710656∧i≤9223372036854775807) (hL:Lt L w)
  (hg:wantE ops ρ g=true) (hd:Nat.blt d N=true) (hp:0<n:=by decide)
  (h:∀ v' w',Ext w w'→OwnS k w.heap.size E L w' v' (List.replicate i.toNat z)→(∀ q∈own v',w.heap.size≤q)→EO P r N ops Q rest (upd ρ d v') ds w') :
  EO P r N ops Q (⟨some d,.makeSlice t X Y,ty,pos,after,g⟩::rest) ρ ds w:=by
 obtain ⟨hu,j,h2,h3,h4,h5⟩:=hT
 obtain ⟨m,rfl⟩:=Int.eq_ofNat_of_zero_le hs.1
 subst hn
 obtain ⟨w',r1,r2,r3⟩:=run_make_full (P:=P) w w.heap.size t E j zv k.n hu h2 h3 h4 kl kc m (by 
  rw [h5]; have:=hs.2.1; have hx:((m * bytes:Nat):Int)≤281474976710656:=by rw [Int.natCast_mul]; exact this
  rw [Nat.mul_comm]; omega) (by simp only [maxLen]; have:=hs.2.2; omega) (Nat.le_refl _)
 have f:Ext w w':=Ext.grown r3
 refine eo_val (o:=⟨some d,.makeSlice t X Y,ty,pos,after,g⟩) hg rfl hd ?_ (h (.slice (some ⟨w.heap.size,0,none⟩) m m) w' f ⟨hp,fun q hq=>⟨Nat.lt_of_lt_of_le (hL q hq) f.size,fun h=>by have h:q∈[w.heap.size]:=h; have:=hL q hq; simp at h; omega⟩,f.size,(madeCells zv.cells (m * k.n)).toList,?_,?_⟩ ?_)
 ·simp only [execOp,hX,hY,r1,Sem.run_bind,Result.andThen,Sem.run_pure]
 ·rw [List.length_replicate,Int.toNat_natCast]; exact r2
 ·refine fun w'' _ q hq=>?_
  have hq':q<m:=by simpa using hq
  have hcell:(((madeCells zv.cells (m * k.n)).toList.drop (q * k.n)).take k.n)=zv.cells.toList:=by
   have hqm:(q + 1) * k.n≤m * k.n:=Nat.mul_le_mul_right _ hq'
   rw [Nat.add_mul,Nat.one_mul] at hqm
   apply List.ext_getElem
   ·simp [size_madeCells,hc1]; omega
   ·intro x hx hx'
    simp only [List.length_take,List.length_drop,Array.length_toList,size_madeCells] at hx
    simp only [List.getElem_take,List.getElem_drop,madeCells,Array.toList_map,List.getElem_map,Array.toList_range,List.getElem_range,hc1]
    have:(q * k.n + x) % k.n=x:=by rw [Nat.add_comm,Nat.add_mul_mod_self_right,Nat.mod_eq_of_lt (by omega)]
    rw [this,getElem!_pos _ _ (by rw [hc1]; omega)]
    simp
  have hd:(List.replicate ((m:Int)).toNat z).getD q default=z:=by simp [hq']
  rw [hcell,hd]; exact hz w''
 ·intro q hq
  rw [mem_own] at hq
  simp only [Value.ownBlock,Option.some.injEq] at hq
  omega

theorem slc_cells {T:Type} [Inhabited T] {k:Kd T} {L:List Nat} {w:World} {A:Option Addr} {c:Nat} {l:List T} (hp:0<k.n) (h1:∀ w cs d,k.r w cs d→cs.all oneC=true) (h:Stb L w (fun w=>SlC k w A c l)):∀ (l':List T) (i:Nat),l'=l.drop i →
  ∃ news,news.length=l'.length * k.n∧(∀ j u,news[j]?=some u→w.cell? (ad (elemA A k.n i) j)=some u)∧Stb L w (fun w=>RowD k w news l')∧news.all oneC=true
 | [],i,_=>⟨[],by simp,by simp,rowd0,rfl⟩
 | x::l',i,e=>by
  have hi:i<l.length:=by
   have:(x::l').length=(l.drop i).length:=by rw [e]
   simp at this; omega
  have hx:nth l (i:Int)=x:=by
   have:(l.drop i)[0]?=some x:=by rw [← e]; rfl
   rw [List.getElem?_drop] at this
   simp only [nth,Int.toNat_natCast,List.getD_eq_getElem?_getD]
   simp at this; simp [this]
  obtain ⟨cs,hl,hc⟩:=Stb.elem hp h (i:Int) (by omega) (by omega)
  rw [hx,Int.toNat_natCast] at hc
  obtain ⟨news,n1,n2,n3,n4⟩:=slc_cells hp h1 h l' (i + 1) (by
   have:(x::l').drop 1=(l.drop i).drop 1:=by rw [e]
   rw [List.drop_drop] at this; simpa using this)
  refine ⟨cs++news,by simp [n1,hl,Nat.add_mul]; omega,fun j u hj=>?_,rowd_cons (hc.mono fun _ h=>h.2) hl n3,by rw [List.all_append,h1 _ _ _ hc.now.2,n4]; rfl⟩
  rw [List.getElem?_append] at hj
  split at hj
  ·exact hc.now.1 j u hj
  ·rename_i hge
   have:=n2 _ u hj
   cases A with
   | none=>exact absurd (h.now.2 i hi).1 (by rintro ⟨a,ha,_⟩; cases ha)
   | some a =>
    simp only [ad,elemA] at this ⊢
    rw [hl] at this hge
    rw [show a.off + i * k.n + j=a.off + (i + 1) * k.n + (j - k.n) by rw [Nat.add_mul]; omega]
    exact this
theorem o_appsl {T:Type} [Inhabited T] {k:Kd T} {B e:Nat} {L:List Nat} {v:Value} {l ys:List T} {t n bytes c:Nat} {z:Value} {S X:Operand} {A:Option Addr}
  (hT:Slc P t e n bytes z) (hn:k.n=n) (hz:z.cells.size=n) (h1:∀ w cs d,k.r w cs d→cs.all oneC=true) (hS:ev ρ S=v) (hO:OwnS k B e L w v l) (hX:ev ρ X=.slice A ys.length c)
  (hd:Stb (own v++L) w (fun w=>SlC k w A c ys)) (hsz:l.length + ys.length≤9223372036854775807∧(l.length + ys.length) * bytes≤140737488355328)
  (hg:wantE ops ρ g=true) (hdd:Nat.blt d N=true)
  (h:∀ v' w',Fr (own v) w w'→OwnS k B e L w' v' (l++ys)→(∀ q∈own v',q∈own v∨w.heap.size≤q)→EO P r N ops Q rest (upd ρ d v') ds w') :
  EO P r N ops Q (⟨some d,.call { callee:=.builtin .append,args:=#[S,X],argTypes:=#[t,t] },ty,pos,after,g⟩::rest) ρ ds w:=by
 by_cases hy:ys=[]
 ·subst hy
  obtain ⟨hu,i,h2,h3,h4,h5⟩:=hT
  obtain ⟨A',c',rfl⟩:=hO.shape
  have hle:l.length≤c':=by
   obtain ⟨_,_,_,xs,hr,_⟩:=hO
   rcases hr.2 with ⟨e1,e2⟩ | ⟨g,cap,cur,e1,_,_,hle,_⟩
   ·omega
   ·obtain ⟨_,_,rfl⟩:=Value.slice.inj e1; exact hle
  have hsrc:Src P i.size t (.slice A 0 c) 0 [] w:=by
   cases A with
   | none=>exact Src.ofNil w hu c
   | some a=>exact Src.ofSlice w hu a 0 c [] (by simp) (fun j u hj=>by simp at hj) (fun _ h=>by cases h)
  have r1:=run_append_nothing (P:=P) w t t ty e i hu h2 A' l.length c' hle _ hsrc
  refine eo_val (o:=⟨some d,.call { callee:=.builtin .append,args:=#[S,X],argTypes:=#[t,t] },ty,pos,after,g⟩) hg rfl hdd ?_ (h _ w (Fr.refl _ _) (by simpa using hO) (fun q hq=>.inl hq))
  simp only [List.length_nil] at hX
  simp [execOp,resolve,invoke,builtin,hS,hX,r1]
 ·obtain ⟨a,rfl,ha⟩:=(hd.now.2 0 (List.length_pos_iff.2 hy)).1
  obtain ⟨b,o,s⟩:=a
  simp only at ha; subst ha
  obtain ⟨news,n1,n2,n3,n4⟩:=slc_cells hO.pos h1 hd ys 0 (by simp)
  obtain ⟨v',w',r1,r2,r3,r4⟩:=run_app (P:=P) (ty:=ty) hT hn hz hO rfl (by rw [n1,hn]) (a:=⟨b,o,none⟩) (c:=c) (fun j u hj=>by
   have:=n2 j u hj
   have hadd:(⟨b,o,none⟩:Addr).add j=⟨b,o + j,none⟩:=by unfold Addr.add; split <;> simp_all
   rw [hadd]; simpa [ad,elemA] using this) n4 n3 hsz
  refine eo_val (o:=⟨some d,.call { callee:=.builtin .append,args:=#[S,X],argTypes:=#[t,t] },ty,pos,after,g⟩) hg rfl hdd ?_ (h v' w' r3 r2 r4)
  simp [execOp,resolve,invoke,builtin,hS,hX,r1]
theorem kI_one {k:IntKind} (w:World) (cs:List Value) (d:Int) (h:(kI k).r w cs d):cs.all oneC=true:=by have h:cs=_:=h; subst h; rfl
end ops

/-! ### drawn regions -/
def getS (SL:List (Value→World→Prop)) (i:Nat):Value→World→Prop:=SL.getD i (fun _ _=>True)
def AllOps (F:Nat→Oper→Prop):List Oper→Nat→Prop
 | [],_=>True
 | o::l,i=>F i o∧AllOps F l (i + 1)
theorem allOps_spec {F:Nat→Oper→Prop}:∀ {l:List Oper} {k:Nat},AllOps F l k→∀ i o,l[i]?=some o→F (k + i) o
 | [],_,_,i,o,h=>by simp at h
 | x::l,k,h,0,o,ho=>by simp at ho; subst ho; exact h.1
 | x::l,k,h,i + 1,o,ho=>by have:=allOps_spec h.2 i o (by simpa using ho); rwa [show k + (i + 1)=k + 1 + i by omega]
/-- Each is kept by R; those of the numbers of t need not be. -/
def StL (R : World → World → Prop) (t : List Nat) : List (Value → World → Prop) → Nat → Prop
  | [], _ => True
  | S :: l, i => (t.elem i = false → ∀ v w w', R w w' → S v w → S v w') ∧ StL R t l (i + 1)
theorem stL_spec {R:World→World→Prop} {t:List Nat}:∀ {SL:List (Value→World→Prop)} {k:Nat},StL R t SL k→∀ i,t.elem (k + i)=false→∀ v w w',R w w'→getS SL i v w→getS SL i v w'
 | [],_,_,i,_,v,w,w',_,_=>by simp [getS]
 | S::l,k,h,0,ht,v,w,w',hr,hs=>h.1 ht v w w' hr hs
 | S::l,k,h,i + 1,ht,v,w,w',hr,hs=>by
  have:=stL_spec h.2 i (by rwa [show k + 1 + i=k + (i + 1) by omega]) v w w' hr
  simp only [getS,List.getD_cons_succ] at hs ⊢
  exact this hs
/-- A tail's one and what comes behind it. -/
def skipB (A : List (List Nat)) (t n : Nat) (sk : List Nat) : Bool := (List.range n).all fun i => !sk.elem i || i == t || (A.getD i []).elem t
def skipsB (A:List (List Nat)) (n:Nat):List Nat→List (List Nat)→Bool
 | [],_=>true
 | t::T,sks=>skipB A t n (sks.headD [])&&skipsB A n T sks.tail
def StA (SL:List (Value→World→Prop)):List (List Nat)→List (List Nat)→Prop
 | [],_=>True
 | M::ML,sks=>StL (Fr M) (sks.headD []) SL 0∧StA SL ML sks.tail
theorem stA_spec {SL:List (Value→World→Prop)}:∀ {ML sks:List (List Nat)},StA SL ML sks→∀ k,k<ML.length→StL (Fr (ML.getD k [])) (sks.getD k []) SL 0
 | [],_,_,k,hk=>by simp at hk
 | M::ML,[],h,0,_=>h.1
 | M::ML,x::sks,h,0,_=>h.1
 | M::ML,[],h,k + 1,hk=>by have:=stA_spec h.2 k (by simpa using hk); simpa using this
 | M::ML,x::sks,h,k + 1,hk=>by have:=stA_spec h.2 k (by simpa using hk); simpa using this
theorem skipsB_spec {A:List (List Nat)} {n:Nat}:∀ {T:List Nat} {sks:List (List Nat)},skipsB A n T sks=true→∀ k t,T[k]?=some t→skipB A t n (sks.getD k [])=true
 | [],_,_,k,t,h=>by simp at h
 | x::T,[],h,0,t,ht=>by simp [skipsB] at h ht; subst ht; exact h.1
 | x::T,y::sks,h,0,t,ht=>by simp [skipsB] at h ht; subst ht; exact h.1
 | x::T,[],h,k + 1,t,ht=>by simp only [skipsB,Bool.and_eq_true] at h; have:=skipsB_spec h.2 k t (by simpa using ht); simpa using this
 | x::T,y::sks,h,k + 1,t,ht=>by simp only [skipsB,Bool.and_eq_true] at h; have:=skipsB_spec h.2 k t (by simpa using ht); simpa using this
theorem allM1 {φ:List Nat→Prop} {M:List Nat} {ML:List (List Nat)} (h:φ M) (hs:∀ M∈ML,φ M):∀ N∈M::ML,φ N:=fun N hN=>by
 cases hN with
 | head=>exact h
 | tail _ hN=>exact hs N hN
def getI (IL:List (World→Prop)) (k:Nat):World→Prop:=IL.getD k (fun _=>True)
def AllI:List (World→Prop)→Prop
 | []=>True
 | I::l=>(∀ w w',Ext w w'→I w→I w')∧AllI l
theorem allI_spec:∀ {IL:List (World→Prop)},AllI IL→∀ k w w',Ext w w'→getI IL k w→getI IL k w'
 | [],_,k,w,w',_,_=>by simp [getI]
 | I::l,h,0,w,w',f,hi=>h.1 w w' f hi
 | I::l,h,k + 1,w,w',f,hi=>by
  have:=allI_spec h.2 k w w' f
  simp only [getI,List.getD_cons_succ] at hi ⊢
  exact this hi
def AllT (l:List Oper) (F:Nat→Nat→Oper→Prop):List Nat→Nat→Prop
 | [],_=>True
 | i::T,k=>(∃ o,l[i]?=some o∧F k i o)∧AllT l F T (k + 1)
theorem allT_spec {l:List Oper} {F:Nat→Nat→Oper→Prop}:∀ {T:List Nat} {k:Nat},AllT l F T k→∀ m i o,T[m]?=some i→l[i]?=some o→F (k + m) i o
 | [],_,_,m,i,o,h,_=>by simp at h
 | x::T,k,h,0,i,o,hi,ho=>by
  obtain ⟨o',h1,h2⟩:=h.1
  simp at hi; subst hi
  rw [ho] at h1; cases h1
  exact h2
 | x::T,k,h,m + 1,i,o,hi,ho=>by have:=allT_spec h.2 m i o (by simpa using hi) ho; rwa [show k + (m + 1)=k + 1 + m by omega]
def dIn (ops:Array Oper) (D:List Nat):Bool:=(List.range ops.size).all fun j=>match dstOf ops j with | some t=>D.elem t | none=>true
def chk (ops:Array Oper) (A:List (List Nat)) (T D:List Nat) (N:Nat):Bool :=
 (okA ops A&&onceB ops&&chainB A T&&backB ops&&decide T.Nodup&&T.all (fun i=>decide (i<ops.size))&&(List.range ops.size).all fun i=>okd N (dstOf ops i))&&dIn ops D
theorem dIn_spec {ops:Array Oper} {D:List Nat} (h:dIn ops D=true) {t:Nat} (ht:D.elem t=false):((List.range ops.size).all fun j=>dstOf ops j != some t)=true:=by
 rw [List.all_eq_true]
 intro j hj
 have h1:=List.all_eq_true.1 h j hj
 cases hd:dstOf ops j with
 | none=>rfl
 | some u =>
  rw [hd] at h1
  simp only at h1
  have:u≠t:=fun e=>by subst e; rw [h1] at ht; cases ht
  simpa using this

section drawn
variable {P : Program} {r : Option Nat} {N : Nat} {Q : Post} {ρ0 : Env} {ds : List Deferred} {w0 : World} {l : List Oper}
theorem ec_any0 {id:Nat} (hm:P.follows .mixedOrders=true) (A:List (List Nat)) (D:List Nat) (SL:List (Value→World→Prop)) (hc:chk l.toArray A [] D N=true)
  (hS:StL Ext [] SL 0)
  (hops:AllOps (fun i o=>∀ ρ w,Ext w0 w→(∀ j∈A.getD i [],∀ t,dstOf l.toArray j=some t→getS SL j (ρ t) w)→(∀ t,oldB l.toArray A i t=true→ρ t=ρ0 t)→OneOp P r N l.toArray ds o ρ w (fun v w'=>Ext w w'∧getS SL i v w')) l 0)
  (hend:∀ ρ w,Ext w0 w→(∀ i t,dstOf l.toArray i=some t→getS SL i (ρ t) w)→(∀ t,D.elem t=false→ρ t=ρ0 t)→Q .normal ρ ds w):EC P r N (.region id l.toArray true) Q ρ0 ds w0:=by
 simp only [chk,Bool.and_eq_true] at hc
 refine ec_any hm A [] (getS SL) (fun _ _=>True) [] (fun _=>[]) (by simpa only [Bool.and_eq_true] using hc.1) (fun i v w w' f h=>stL_spec hS i rfl v w w' f h) (fun _ _ hm=>by cases hm) (fun k x i v w w' hx _ _ f h=>by simp at hx) (fun _ _ _ _ h=>h) (fun _ _=>trivial) ?_ ?_ ?_
 ·intro i o ho hi ρ w f _ h1 h2
  have:=allOps_spec hops i o (by simpa using ho) ρ w f (by simpa using h1) (by simpa using h2)
  simpa using this
 ·intro k i o hk; simp at hk
 ·intro ρ w f _ h1 h2
  exact hend ρ w f h1 (fun t ht=>h2 t (dIn_spec hc.2 ht))
/-- T: the tail; ML: the blocks that each turns; sks: of each those that come behind it; IL: what holds between them. -/
theorem ec_anyN {id : Nat} (hm : P.follows .mixedOrders = true) (A : List (List Nat)) (D LL T : List Nat) (ML sks : List (List Nat)) (IL : List (World → Prop)) (SL : List (Value → World → Prop))
    (hc : (chk l.toArray A T D N && skipsB A l.length T sks && Nat.beq SL.length l.length && Nat.beq ML.length T.length) = true) (hML : ∀ M ∈ ML, ∀ m ∈ M, m ∈ LL)
    (hS : StL Ext [] SL 0) (hS2 : StA SL ML sks) (hI : AllI IL) (hI0 : getI IL 0 w0)
    (hops : AllOps (fun i o => T.elem i = false → ∀ ρ w, Fr LL w0 w → (∀ t, T.head? = some t → (A.getD t []).elem i = true → Ext w0 w) → (∀ j ∈ A.getD i [], ∀ t, dstOf l.toArray j = some t → getS SL j (ρ t) w) → (∀ t, oldB l.toArray A i t = true → ρ t = ρ0 t) → OneOp P r N l.toArray ds o ρ w (fun v w' => Ext w w' ∧ getS SL i v w')) l 0)
    (hta : AllT l (fun k i o => ∀ ρ w, Fr LL w0 w → (k = 0 → Ext w0 w) → getI IL k w → (∀ j ∈ A.getD i [], ∀ u, dstOf l.toArray j = some u → getS SL j (ρ u) w) → (∀ u, oldB l.toArray A i u = true → ρ u = ρ0 u) → OneOp P r N l.toArray ds o ρ w (fun v w' => Fr (ML.getD k []) w w' ∧ getI IL (k + 1) w' ∧ getS SL i v w')) T 0)
    (hend : ∀ ρ w, Fr LL w0 w → getI IL T.length w → (∀ i t, dstOf l.toArray i = some t → getS SL i (ρ t) w) → (∀ t, D.elem t = false → ρ t = ρ0 t) → Q .normal ρ ds w) : EC P r N (.region id l.toArray true) Q ρ0 ds w0 := by
  simp only [chk, Bool.and_eq_true] at hc
  obtain ⟨⟨⟨⟨hc1, hc2⟩, hc3⟩, hc4⟩, hc5⟩ := hc
  have hlen := Nat.eq_of_beq_eq_true hc4
  have hlen2 := Nat.eq_of_beq_eq_true hc5
  refine ec_any hm A T (getS SL) (getI IL) LL (fun k => ML.getD k []) (by simpa only [Bool.and_eq_true] using hc1) (fun i v w w' f h => stL_spec hS i rfl v w w' f h) (fun k m hm => ?_) (fun k x i v w w' hx hi ha f h => ?_) (fun k w w' f h => allI_spec hI k w w' f h) (fun w f => allI_spec hI 0 w0 w f hI0) ?_ ?_ ?_
  · by_cases hk : k < ML.length
    · refine hML (ML.getD k []) ?_ m hm
      simp [List.getD_eq_getElem?_getD, hk]
    · simp [List.getD_eq_getElem?_getD, List.getElem?_eq_none (Nat.le_of_not_lt hk)] at hm
  · by_cases hlt : i < l.length
    · have hk : k < ML.length := by rw [hlen2]; exact (List.getElem?_eq_some_iff.1 hx).1
      refine stL_spec (stA_spec hS2 k hk) i ?_ v w w' f h
      have h1 := List.all_eq_true.1 (skipsB_spec hc3 k x hx) i (by simp [hlt])
      simp only [Bool.or_eq_true, Bool.not_eq_true', beq_iff_eq] at h1
      rcases h1 with (h1 | h1) | h1
      · simpa using h1
      · exact absurd h1 hi
      · exact absurd (by simpa using h1) ha
    · simp [getS, List.getD_eq_getElem?_getD, List.getElem?_eq_none (show SL.length ≤ i by omega)]
  · intro i o ho hi ρ w f h0 h1 h2
    have := allOps_spec hops i o (by simpa using ho) (by simpa using hi) ρ w f (by rw [Nat.zero_add]; exact h0) (by simpa using h1) (by simpa using h2)
    simpa using this
  · intro k i o hk ho ρ w f h0 hi h1 h2
    have := allT_spec hta k i o hk (by simpa using ho) ρ w f (by simpa using h0) (by simpa using hi) h1 h2
    simpa using this
  · intro ρ w f hi h1 h2
    exact hend ρ w f hi h1 (fun t ht => h2 t (dIn_spec hc2 ht))
end drawn
end Go.Proofs.Ytpopikeebobjnaa
