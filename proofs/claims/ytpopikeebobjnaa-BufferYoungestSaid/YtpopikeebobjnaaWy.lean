/- A range over a function: the statement, a round, the iterator's contract. -/
import Derived.Test.YtpopikeebobjnaaWx
import Derived.RangeFuncSeq
import Derived.RangeFuncRecord
namespace Go.Proofs.Ytpopikeebobjnaa
open Go Go.RowKit
set_option linter.unusedVariables false
set_option linter.unusedSimpArgs false

/-- Block b is this object. -/
def Lp (w : World) (b : Nat) (o : Obj) : Prop := w.heap[b]? = some o
theorem Lp.lt {w:World} {b:Nat} {o:Obj} (h:Lp w b o):b<w.heap.size:=(Array.getElem?_eq_some_iff.1 h).1
theorem Lp.fr {w w':World} {M:List Nat} {b:Nat} {o:Obj} (h:Lp w b o) (f:Fr M w w') (hb:b∉M):Lp w' b o:=(f.block b h.lt hb).trans h
theorem Lp.ex {w w':World} {b:Nat} {o:Obj} (h:Lp w b o) (f:Ext w w'):Lp w' b o:=h.fr f (by simp)
theorem Lp.stb {w:World} {L:List Nat} {b:Nat} {o:Obj} (h:Lp w b o) (hb:b∉L):Stb L w (fun w=>Lp w b o):=fun w' ha=>(ha b h.lt hb).trans h
theorem Fr.putObj (w:World) (b:Nat) (o:Obj):Fr [b] w (w.putObj b o) :=
 ⟨rfl,rfl,rfl,by simp,fun k hk hn=>World.putObj_heap_other (by simpa using hn)⟩
theorem Lp.put {w:World} {b:Nat} {o:Obj} (o':Obj) (h:Lp w b o):Lp (w.putObj b o') b o':=World.putObj_heap_same h.lt

def mark (D:Nat):Deferred:={ target:=.collected D,args:=#[] }
/-- A call of yield, from W. -/
def YC (P : Program) (l : Nat) (args : List Value) (W : World) (R : Ending → World → Prop) : Prop := YieldAt (FW none) 0 P l args.toArray W R

/-- What a loop's record is made by: it bears the temporaries at the loop's head. -/
def RecOk (N : Nat) (ρ : Env) (ps : Array Tmp) (assign body : Code) (rec : LoopState → Option Code → Loop) : Prop :=
  ∃ (a : Act) (fn : FuncId) (D : Nat), a.tmps.size = N ∧ envOf a = ρ ∧ rec = fun st pe => { state := st, pending := pe, fn, tmps := a.tmps, params := ps, assign, body, defers := D }

def setps (ρ:Env):List Tmp→List Value→Env
 | [],_=>ρ
 | _::_,[]=>ρ
 | t::ts,v::vs=>setps (upd ρ t v) ts vs
def jumpOf:Exit→Option (Option Code)
 | .normal=>some none
 | .ret=>some (some .ret)
 | .exit id=>some (some (.exit id))
 | _=>none
def stOf (j:Option Code):LoopState:=if j.isNone then .ready else .done

theorem envOf_setps {N:Nat}:∀ (ps:List Tmp) (vs:List Value) (tm:Array Value),tm.size=N→(ps.all fun t=>Nat.blt t N)=true→
  ((ps.zip vs).foldl (fun t (p,v)=>t.setIfInBounds p v) tm).size=N∧envOf { tmps:=(ps.zip vs).foldl (fun t (p,v)=>t.setIfInBounds p v) tm,defers:=[] }=setps (envOf { tmps:=tm,defers:=[] }) ps vs
 | [],vs,tm,hN,_=>by simp [setps,hN]
 | t::ps,[],tm,hN,_=>by simp [setps,hN]
 | t::ps,v::vs,tm,hN,h=>by
  simp only [List.all_cons,Bool.and_eq_true] at h
  have ht:t<N:=by simpa [Nat.blt_eq] using h.1
  have ih:=envOf_setps ps vs (tm.setIfInBounds t v) (by simpa using hN) h.2
  simp only [List.zip_cons_cons,List.foldl_cons,setps]
  refine ⟨ih.1,ih.2.trans ?_⟩
  congr 1
  funext s
  by_cases e:s=t
  ·subst e; rw [upd_same]; simp [envOf,hN,ht]
  ·rw [upd_ne _ _ e]; simp [envOf,Array.getElem?_setIfInBounds_ne (Ne.symm e)]

section
variable {P : Program} {r : Option Nat} {N : Nat} {Q : Post} {ρ : Env} {ds : List Deferred} {w : World}

theorem range_round {l:Nat} {rec:LoopState→Option Code→Loop} {ps:List Tmp} {assign body:Code} {vs:List Value} {R:Ending→World→Prop}
  (hrec:RecOk N ρ ps.toArray assign body rec) (hl:Lp w l (.loop (rec .ready none))) (hvs:vs.length=ps.length) (hps:(ps.all fun t=>Nat.blt t N)=true)
  (h:EC P (some l) N assign (fun e ρ1 ds1 W1=>e=.normal∧ds1=[]∧Lp W1 l (.loop (rec .ready none))∧∀ W2,Fr [l] W1 W2→Lp W2 l (.loop (rec .busy none)) →
   EC P (some l) N body (fun e ρ2 ds2 W3=>∃ jump,jumpOf e=some jump∧Lp W3 l (.loop (rec .busy none))∧∀ W4,Fr [l] W3 W4→Lp W4 l (.loop (rec (stOf jump) jump))→R (.returned (.bool jump.isNone)) W4) ρ1 [] W2) (setps ρ ps vs) [] w) :
  YC P l vs w R:=by
 obtain ⟨a,fn,D,ha,he,hr⟩:=hrec
 subst he
 subst hr
 have hy:=run_yield (P:=P) (args:=vs.toArray) hl (by simpa using hvs)
 have h0:=envOf_setps (N:=N) ps vs a.tmps ha hps
 have hz:(ps.toArray.zip vs.toArray).foldl (fun t (x:Tmp × Value)=>t.setIfInBounds x.1 x.2) a.tmps=(ps.zip vs).foldl (fun t (p,v)=>t.setIfInBounds p v) a.tmps:=by
  simp
 refine ⟨fn,(ps.toArray.zip vs.toArray).foldl (fun t (x:Tmp × Value)=>t.setIfInBounds x.1 x.2) a.tmps,assign,body,hy,roundIn_of_wpIn trivial ?_⟩
 have h1:=h { tmps:=(ps.zip vs).foldl (fun t (p,v)=>t.setIfInBounds p v) a.tmps,defers:=[] } h0.1 (h0.2.trans rfl) rfl
 rw [hz]
 refine wpIn_mono h1 ?_
 rintro e a1 W1 ⟨hs1,rfl,hd1,hl1,hb⟩
 have hbeg:=run_beginRound (P:=P) hl1 rfl
 refine ⟨_,hbeg,?_⟩
 refine wpIn_mono (hb _ (Fr.putObj _ _ _) (hl1.put _) a1 hs1 rfl hd1) ?_
 rintro e a3 W3 ⟨hs3,jump,hj,hl3,hR⟩
 have hend:=run_endRound (P:=P) jump hl3
 have hR':=hR _ (Fr.putObj _ _ _) (hl3.put _)
 cases e <;> simp only [jumpOf,Option.some.injEq,reduceCtorEq] at hj <;> subst hj <;> exact ⟨_,_,hend,hR'⟩

/-- What is asked when the iterator has returned. -/
def RangeEnd (l : Nat) (rec : LoopState → Option Code → Loop) (Q : Post) (ρ : Env) (ds : List Deferred) : Ending → World → Prop := fun e W => (∃ v, e = .returned v) ∧
  ∃ jump, Lp W l (.loop (rec (stOf jump) jump)) ∧ ∀ W', Fr [l] W W' → (match jump with | none => Q .normal ρ ds W' | some .ret => Q .ret ρ ds W' | some (.exit id) => Q (.exit id) ρ ds W' | _ => False)

theorem ec_range {g:Operand} {ps:List Tmp} {assign body:Code} {gf:FuncId} {lb:List Value} (hg:ev ρ g=.func (.func gf) #[] lb.toArray) (hcf:CF P gf)
  (h:∀ D l rec w1,D=w.heap.size→l=w.heap.size + 1→RecOk N ρ ps.toArray assign body rec→Ext w w1→Lp w1 D (.deferred (some []))→Lp w1 l (.loop (rec .ready none)) →
   Calls P gf (.func (.yield l) #[] #[]::lb).toArray w1 (RangeEnd l rec Q ρ (mark D::ds))):EC P none N (.rangeFunc g ps.toArray assign body) Q ρ ds w:=by
 intro a h1 h2 h3
 refine wpIn_rangeFunc fun fn hfn=>?_
 have hrec:RecOk N ρ ps.toArray assign body (fun st pe=>{ state:=st,pending:=pe,fn,tmps:=a.tmps,params:=ps.toArray,assign,body,defers:=w.heap.size }):=⟨a,fn,_,h1,h2,rfl⟩
 generalize hrd:(fun (st:LoopState) (pe:Option Code)=>({ state:=st,pending:=pe,fn,tmps:=a.tmps,params:=ps.toArray,assign,body,defers:=w.heap.size }:Loop))=rec at hrec
 have hent:=run_enterLoop_outer (P:=P) (w:=w) fn a.tmps ps.toArray assign body
 have hobj:(Obj.loop { state:=.ready,pending:=none,fn,tmps:=a.tmps,params:=ps.toArray,assign,body,defers:=w.heap.size })=.loop (rec .ready none):=by rw [← hrd]
 rw [hobj] at hent
 have hD1:Lp (w.alloc (.deferred (some []))) w.heap.size (.deferred (some [])):=World.alloc_heap_new w _
 have hx:Ext (w.alloc (.deferred (some []))) ((w.alloc (.deferred (some []))).alloc (.loop (rec .ready none))):=Ext.alloc _ _
 have hl1:Lp ((w.alloc (.deferred (some []))).alloc (.loop (rec .ready none))) (w.heap.size + 1) (.loop (rec .ready none)):=by
  have:=World.alloc_heap_new (w.alloc (.deferred (some []))) (.loop (rec .ready none)); rwa [World.size_alloc] at this
 have hc:=h w.heap.size (w.heap.size + 1) rec _ rfl rfl hrec ((Ext.alloc w _).trans hx) (hD1.ex hx) hl1
 let W1:=(w.alloc (.deferred (some []))).alloc (.loop (rec .ready none))
 refine ⟨_,_,W1,{ target:=.fn (.func gf) lb.toArray,args:=#[.func (.yield (w.heap.size + 1)) #[] #[]] },W1,gf,(.func (.yield (w.heap.size + 1)) #[] #[]::lb).toArray,W1,hent,?_,fun f' _=>trivial,?_,fun h=>by simp [FW] at h,?_⟩
 ·have:a.eval g=.func (.func gf) #[] lb.toArray:=by rw [← ev_envOf,h2]; exact hg
  simp only [resolve,this]
  simp [go_sem]
 ·have:=hcf (.func (.yield (w.heap.size + 1)) #[] #[]::lb).toArray ((w.alloc (.deferred (some []))).alloc (.loop (rec .ready none)))
  simp only [invoke]
  simpa using this
 ·refine CallsIn.mono (callsIn_wide.2 hc) ?_
  rintro e W ⟨⟨v,rfl⟩,jump,hl,hq⟩
  have hb:(rec (stOf jump) jump).state≠.busy:=by rw [← hrd]; cases jump <;> simp [stOf]
  have he:=run_endLoop (P:=P) hl hb
  have hp:(rec (stOf jump) jump).pending=jump:=by rw [← hrd]
  rw [hp] at he
  obtain ⟨o,he⟩:∃ o,(Instr.endLoop (w.heap.size + 1)).run P W=.ok jump (W.putObj (w.heap.size + 1) o):=⟨_,he⟩
  have hq':=hq _ (Fr.putObj W (w.heap.size + 1) o)
  refine ⟨jump,_,he,?_⟩
  subst h2
  subst h3
  cases jump with
  | none=>exact ⟨h1,hq'⟩
  | some c =>
   cases c <;> first
    | exact hq'.elim
    | exact wpIn_ret ⟨h1,hq'⟩
    | exact wpIn_exit ⟨h1,hq'⟩

/-- An iterator's contract: it hands the items of xs to yield, one by one, till it is told to stop. X: how an item lies. -/
def IterC (P : Program) (gf : FuncId) (lb : List Value) {T : Type} (xs : List T) (X : T → List Nat → World → List Value → Prop) (L : List Nat) (w : World) : Prop :=
  ∀ (l : Nat) (J : Nat → List Nat → World → Prop) (Jx : World → Prop) (T0 : List Nat) (w0 : World), Fr L w w0 → (∀ m ∈ T0, m ∈ L ∨ w.heap.size ≤ m) → J 0 T0 w0 →
    (∀ k T W W', J k T W → Ext W W' → J k T W') → (∀ W W', Jx W → Ext W W' → Jx W') → (∀ k T W, J k T W → Lt T W) →
    (∀ k x T W vs, xs[k]? = some x → J k T W → X x T W vs → YC P l vs W fun e W' =>
      (e = .returned (.bool true) ∧ ∃ T', J (k + 1) T' W' ∧ Fr T W W' ∧ ∀ q ∈ T', q ∈ T ∨ W.heap.size ≤ q) ∨ (e = .returned (.bool false) ∧ Jx W')) →
    Calls P gf (.func (.yield l) #[] #[] :: lb).toArray w0 fun e W' => (∃ v, e = .returned v) ∧ ((∃ T, J xs.length T W') ∨ Jx W')

/-- What a loop over items comes to. -/
inductive ItR {S R T : Type} (body : S → T → S ⊕ R → Prop) : S → List T → S ⊕ R → Prop
  | nil {s : S} : ItR body s [] (.inl s)
  | step {s s' : S} {x : T} {xs : List T} {z : S ⊕ R} : body s x (.inl s') → ItR body s' xs z → ItR body s (x :: xs) z
  | stop {s : S} {x : T} {xs : List T} {y : R} : body s x (.inr y) → ItR body s (x :: xs) (.inr y)

/-- The statement, by the iterator's contract. I: what holds between two rounds (T: the blocks that rounds may turn); Ix: where a round has left the loop by the jump j. -/
theorem range_run {S R T : Type} {body : S → T → S ⊕ R → Prop} {gf : FuncId} {lb : List Value} {xs : List T} {X : T → List Nat → World → List Value → Prop} {L : List Nat} {w1 w2 : World} {l : Nat} {E : Ending → World → Prop}
    (hit : IterC P gf lb xs X L w1) (I : S → List Nat → World → Prop) (Ix : R → World → Prop) {s0 : S} {z : S ⊕ R} (hz : ItR body s0 xs z) (T0 : List Nat) (hT0 : ∀ m ∈ T0, m ∈ L ∨ w1.heap.size ≤ m) (hw : Fr L w1 w2) (h0 : I s0 T0 w2)
    (hIe : ∀ s T W W', I s T W → Ext W W' → I s T W') (hXe : ∀ y W W', Ix y W → Ext W W' → Ix y W') (hIl : ∀ s T W, I s T W → Lt T W)
    (hround : ∀ s x u T W vs, I s T W → X x T W vs → body s x u → YC P l vs W fun e W' => match u with
      | .inl s' => e = .returned (.bool true) ∧ ∃ T', I s' T' W' ∧ Fr T W W' ∧ ∀ q ∈ T', q ∈ T ∨ W.heap.size ≤ q
      | .inr y => e = .returned (.bool false) ∧ Ix y W')
    (hdone : ∀ s, z = .inl s → ∀ T W v, I s T W → E (.returned v) W) (hstop : ∀ y, z = .inr y → ∀ W v, Ix y W → E (.returned v) W) :
    Calls P gf (.func (.yield l) #[] #[] :: lb).toArray w2 E := by
  refine (hit l (fun k T W => ∃ s, ItR body s (xs.drop k) z ∧ I s T W) (fun W => ∃ y, z = .inr y ∧ Ix y W) T0 w2 hw hT0 ⟨s0, by simpa using hz, h0⟩
    (fun k T W W' ⟨s, h1, h2⟩ f => ⟨s, h1, hIe _ _ _ _ h2 f⟩) (fun W W' ⟨y, h1, h2⟩ f => ⟨y, h1, hXe _ _ _ h2 f⟩) (fun k T W ⟨s, _, h2⟩ => hIl _ _ _ h2) ?_).mono ?_
  · rintro k x T W vs hk ⟨s, h1, h2⟩ hX
    have hd : xs.drop k = x :: xs.drop (k + 1) := by
      have hlt : k < xs.length := (List.getElem?_eq_some_iff.1 hk).1
      rw [List.drop_eq_getElem_cons hlt]
      congr 1
      rw [List.getElem?_eq_getElem hlt] at hk; exact Option.some.inj hk
    rw [hd] at h1
    cases h1 with
    | step hb hr =>
      obtain ⟨fn, tm, as, bd, hy, hR⟩ := hround _ _ _ _ _ _ h2 hX hb
      exact ⟨fn, tm, as, bd, hy, hR.mono fun e W' ⟨he, T', hI, hf, hn⟩ => .inl ⟨he, T', ⟨_, hr, hI⟩, hf, hn⟩⟩
    | stop hb =>
      obtain ⟨fn, tm, as, bd, hy, hR⟩ := hround _ _ _ _ _ _ h2 hX hb
      exact ⟨fn, tm, as, bd, hy, hR.mono fun e W' ⟨he, hI⟩ => .inr ⟨he, _, rfl, hI⟩⟩
  · rintro e W ⟨⟨v, rfl⟩, h⟩
    rcases h with ⟨T, s, h1, h2⟩ | ⟨y, h1, h2⟩
    · rw [List.drop_length] at h1
      cases h1
      exact hdone _ rfl _ _ _ h2
    · exact hstop _ h1 _ _ h2

/-! ### the iterator's side: a call of yield -/
variable {ops : Array Oper} {rest : List Oper} {d : Nat} {ty : TypeId} {pos : String} {after : Array Edge} {g : Option (Nat × Bool)}
theorem o_yield {l:Nat} {X:Operand} {as:List Operand} {vs:List Value} {ts:Array TypeId} {R:Ending→World→Prop} (hX:ev ρ X=.func (.yield l) #[] #[]) (ha:as.map (ev ρ)=vs) (hY:YC P l vs w R) (hg:wantE ops ρ g=true) (hd:Nat.blt d N=true)
  (hr:∀ v w',R (.returned v) w'→EO P r N ops Q rest (upd ρ d v) ds w') (hp:∀ c w',¬ R (.panicked c) w') (ho:∀ w',¬ R .outgrown w') :
  EO P r N ops Q (⟨some d,.call { callee:=.value X,args:=as.toArray,argTypes:=ts },ty,pos,after,g⟩::rest) ρ ds w:=by
 obtain ⟨fn,tm,asg,bd,hy,hR⟩:=hY
 refine eo_run (o:=⟨some d,.call { callee:=.value X,args:=as.toArray,argTypes:=ts },ty,pos,after,g⟩) hg rfl (.ok (.round l fn tm asg bd) w) ?_ fun a h1 h2 h3=>?_
 ·simp only [execOp,resolve,hX,Deferred.ofValue,invoke,List.map_toArray,ha]
  simpa using hy
 ·rw [Oper.uponIn_round]
  refine ⟨fun h=>by simp [FW] at h,?_⟩
  have hR':RoundIn (FW r) (0 - 1) P l fn tm asg bd w R:=hR
  refine hR'.mono fun e w'' he=>?_
  cases e with
  | returned v=>exact hr v w'' he _ (by rw [put_size]; exact h1) (by rw [envOf_put _ _ _ (by rw [h1]; exact hd),h2]; rfl) (by rw [put_defers']; exact h3)
  | panicked c=>exact absurd he (hp c w'')
  | outgrown=>exact absurd he (ho w'')

/-! ### a function that holds such a statement: its end -/
def marksE (P:Program) (rs:Array ResultVar) (R:Ending→World→Prop) (ρ:Env):List Deferred→World→Prop
 | [],w=>∃ v,(resE rs ρ).run P w=.ok v w∧R (.returned v) w
 | d::ds,w=>∃ D,d=mark D∧Lp w D (.deferred (some []))∧∀ w',Fr [D] w w'→marksE P rs R ρ ds w'
def bodyM (P:Program) (rs:Array ResultVar) (R:Ending→World→Prop):Post
 | .normal,ρ,ds,w=>marksE P rs R ρ ds w
 | .ret,ρ,ds,w=>marksE P rs R ρ ds w
 | _,_,_,_=>False
theorem leaves_marks {fn:Func} {R:Ending→World→Prop} {a:Act}:∀ (ds:List Deferred) (w:World),marksE P fn.results R (envOf a) ds w→LeavesInM (FW none) 0 P fn a.tmps R ds .returning w
 | [],w,h=>by
  obtain ⟨v,h1,h2⟩:=h
  rw [resE_envOf] at h1
  exact ⟨v,h1,h2⟩
 | d::ds,w,⟨D,hd,hl,h⟩=>by
  subst hd
  exact ⟨by simp,.inl ⟨D,_,rfl,run_takeDeferred hl,leaves_marks ds _ (h _ (Fr.putObj _ _ _))⟩⟩
theorem calls_ecM {f:FuncId} {fn:Func} {c:Code} {args:Array Value} {R:Ending→World→Prop}
  (hf:P.funcs[f]?=some fn) (hb:fn.body=some c) (hN:fn.ntmps=N) (hs:Nat.ble args.size N=true)
  (h:EC P none N c (bodyM P fn.results R) (base args) [] w):Calls P f args w R:=by
 have hs':args.size≤N:=by simpa [Nat.ble_eq] using hs
 refine callsIn_wide (n:=0).1 (callsIn_of_wp_marks (F:=Fence.wide) hf hb trivial ?_)
 refine wpIn_mono (h { tmps:=args++Array.replicate (fn.ntmps - args.size) undef,defers:=[] } (by simp [hN]; omega) ?_ rfl) ?_
 ·funext t
  simp only [envOf,base,Array.getD_eq_getD_getElem?,List.getD_eq_getElem?_getD,Array.getElem?_append,Array.getElem?_toList]
  by_cases h1:t<args.size
  ·simp [h1]
  ·rw [if_neg h1,Array.getElem?_eq_none (Nat.le_of_not_lt h1)]
   simp only [Array.getElem?_replicate]
   split <;> rfl
 ·rintro e a w ⟨_,hq⟩
  cases e <;> first | exact hq.elim | exact leaves_marks _ _ hq
theorem marks0 {rs:Array ResultVar} {R:Ending→World→Prop} (h:bodyE P rs R .ret ρ [] w):bodyM P rs R .ret ρ [] w:=h.2
theorem marksS {rs:Array ResultVar} {R:Ending→World→Prop} {D:Nat} (hl:Lp w D (.deferred (some []))) (h:∀ w',Fr [D] w w'→bodyM P rs R .ret ρ ds w'):bodyM P rs R .ret ρ (mark D::ds) w :=
 ⟨D,rfl,hl,h⟩
end
end Go.Proofs.Ytpopikeebobjnaa
