/- The walk kit of this seat: an environment of temporaries in place of frames, and one rule for each form of code. -/
import Derived.TacticsIn
import Derived.OrdersIn
import Derived.Below
import Derived.KernelRfl
namespace Go.Proofs.Ytpopikeebobjnaa
open Go Go.RowKit
set_option linter.unusedVariables false
set_option linter.unusedSimpArgs false

abbrev Env:=Nat→Value
def upd (ρ:Env) (d:Nat) (v:Value):Env:=fun t=>bif Nat.beq t d then v else ρ t
def put (ρ:Env):Option Nat→Value→Env
 | some d,v=>upd ρ d v
 | none,_=>ρ
def ev (ρ:Env):Operand→Value
 | .tmp t=>ρ t
 | .const v=>v
 | .global g=>.pointer (some ⟨g,0,none⟩)
 | .func f=>.func (.func f) #[] #[]
def envOf (a:Act):Env:=fun t=>a.tmps.getD t undef
theorem ev_envOf (a:Act):ev (envOf a)=a.eval:=by funext x; cases x <;> rfl

def okd (N:Nat):Option Nat→Bool
 | some d=>Nat.blt d N
 | none=>true

theorem nbeq_false {t d:Nat} (h:t≠d):Nat.beq t d=false:=by
 cases hb:Nat.beq t d with
 | false=>rfl
 | true=>exact absurd (Nat.eq_of_beq_eq_true hb) h

theorem upd_same (ρ:Env) (d:Nat) (v:Value):upd ρ d v d=v:=by simp [upd]
theorem upd_ne (ρ:Env) {d t:Nat} (v:Value) (h:t≠d):upd ρ d v t=ρ t:=by simp [upd,nbeq_false h]

theorem envOf_put (a:Act) (d:Option Nat) (v:Value) (h:okd a.tmps.size d=true):envOf (a.put d v)=put (envOf a) d v:=by
 cases d with
 | none=>rfl
 | some d =>
  have hd:d<a.tmps.size:=by simpa [okd,Nat.blt_eq] using h
  funext t
  by_cases e:t=d
  ·subst e
   simp [envOf,put,upd_same,Act.put,hd]
  ·rw [put,upd_ne _ _ e]
   simp [envOf,Act.put,Array.getElem?_setIfInBounds_ne (Ne.symm e)]

def yieldE (ops:Array Oper) (ρ:Env) (j:Nat):Option Bool :=
 match (ops[j]?).bind (·.dst) with
 | some t=>(match ρ t with | .bool b=>some b | _=>none)
 | none=>none
def wantE (ops:Array Oper) (ρ:Env):Option (Nat × Bool)→Bool
 | none=>true
 | some (j,b)=>yieldE ops ρ j==some b

theorem want_env (o:Oper) (ops:Array Oper) (a:Act):Region.wanted o (yielded ops a.tmps)=wantE ops (envOf a) o.guard:=by
 unfold Region.wanted wantE
 cases o.guard with
 | none=>rfl
 | some g =>
  obtain ⟨j,b⟩:=g
  simp only
  congr 1
  unfold yielded yieldE
  cases (ops[j]?).bind (·.dst) with
  | none=>rfl
  | some t =>
   simp only [Option.bind_some,envOf,Array.getD_eq_getD_getElem?]
   cases h:a.tmps[t]? with
   | none=>simp [undef]
   | some v=>cases v <;> simp

def FW (r:Option Nat):Fence:={ fn:=fun _=>True,depth:=none,alive:=false,round:=r }
abbrev Post:=Exit→Env→List Deferred→World→Prop

def lift (N:Nat) (Q:Post):Exit→Act→World→Prop:=fun e a w=>a.tmps.size=N∧Q e (envOf a) a.defers w

/-- CODE. -/
def EC (P : Program) (r : Option Nat) (N : Nat) (c : Code) (Q : Post) (ρ : Env) (ds : List Deferred) (w : World) : Prop :=
  ∀ a : Act, a.tmps.size = N → envOf a = ρ → a.defers = ds → c.wpIn (FW r) 0 P (lift N Q) a w
/-- A REGION's operations, in the order of the text. -/
def EO (P : Program) (r : Option Nat) (N : Nat) (ops : Array Oper) (Q : Post) (l : List Oper) (ρ : Env) (ds : List Deferred) (w : World) : Prop :=
  ∀ a : Act, a.tmps.size = N → envOf a = ρ → a.defers = ds → wpListIn (FW r) 0 P ops (lift N Q) l a w

section rules
variable {P : Program} {r : Option Nat} {N : Nat} {Q : Post} {ρ : Env} {ds : List Deferred} {w : World}

theorem ec_mono {c:Code} {Q':Post} (h:EC P r N c Q ρ ds w) (hq:∀ e ρ ds w,Q e ρ ds w→Q' e ρ ds w):EC P r N c Q' ρ ds w :=
 fun a h1 h2 h3=>wpIn_mono (h a h1 h2 h3) fun _ _ _ h=>⟨h.1,hq _ _ _ _ h.2⟩

def sq (P:Program) (r:Option Nat) (N:Nat) (y:Code) (Q:Post):Post
 | .normal,ρ,ds,w=>EC P r N y Q ρ ds w
 | e,ρ,ds,w=>Q e ρ ds w
theorem ec_seq {x y:Code} (h:EC P r N x (sq P r N y Q) ρ ds w):EC P r N (.seq x y) Q ρ ds w:=fun a h1 h2 h3 =>
 wpIn_seq (wpIn_mono (h a h1 h2 h3) fun e a' w' hh=>by
  cases e <;> first | exact hh | exact hh.2 a' hh.1 rfl rfl)
theorem sq_n {y:Code} (h:EC P r N y Q ρ ds w):sq P r N y Q .normal ρ ds w:=h
theorem sq_ret {y:Code} (h:Q .ret ρ ds w):sq P r N y Q .ret ρ ds w:=h
theorem sq_exit {y:Code} {id:Nat} (h:Q (.exit id) ρ ds w):sq P r N y Q (.exit id) ρ ds w:=h
theorem ec_skip (h:Q .normal ρ ds w):EC P r N .skip Q ρ ds w:=fun a h1 h2 h3=>wpIn_skip ⟨h1,by rw [h2,h3]; exact h⟩
theorem ec_ret (h:Q .ret ρ ds w):EC P r N .ret Q ρ ds w:=fun a h1 h2 h3=>wpIn_ret ⟨h1,by rw [h2,h3]; exact h⟩
theorem ec_exit {id:Nat} (h:Q (.exit id) ρ ds w):EC P r N (.exit id) Q ρ ds w:=fun a h1 h2 h3=>wpIn_exit ⟨h1,by rw [h2,h3]; exact h⟩

theorem ec_cond {c:Operand} {x y:Code} {t:Bool} (hc:ev ρ c=.bool t) (ht:t=true→EC P r N x Q ρ ds w) (hf:t=false→EC P r N y Q ρ ds w) :
  EC P r N (.cond c x y) Q ρ ds w:=fun a h1 h2 h3 =>
 wpIn_cond_split (t:=t) (by rw [← ev_envOf,h2]; exact hc) (fun e=>ht e a h1 h2 h3) (fun e=>hf e a h1 h2 h3)
theorem ec_cond_t {c:Operand} {x y:Code} (hc:ev ρ c=.bool true) (h:EC P r N x Q ρ ds w):EC P r N (.cond c x y) Q ρ ds w :=
 ec_cond hc (fun _=>h) (fun e=>by cases e)
theorem ec_cond_f {c:Operand} {x y:Code} (hc:ev ρ c=.bool false) (h:EC P r N y Q ρ ds w):EC P r N (.cond c x y) Q ρ ds w :=
 ec_cond hc (fun e=>by cases e) (fun _=>h)

def blk (id:Nat) (Q:Post):Post
 | .exit id',ρ,ds,w=>bif Nat.beq id' id then Q .normal ρ ds w else Q (.exit id') ρ ds w
 | e,ρ,ds,w=>Q e ρ ds w
theorem ec_block {id:Nat} {c:Code} (h:EC P r N c (blk id Q) ρ ds w):EC P r N (.block id c) Q ρ ds w:=fun a h1 h2 h3 =>
 wpIn_block (wpIn_mono (h a h1 h2 h3) fun e a' w' hh=>by
  cases e with
  | exit id' =>
   obtain ⟨hs,hq⟩:=hh
   by_cases e:id'=id
   ·subst e
    have hb:Nat.beq id' id'=true:=Nat.beq_refl id'
    simp only [blk,hb,cond_true] at hq
    simp only [Exit.inBlock,if_true]; exact ⟨hs,hq⟩
   ·simp only [blk,nbeq_false e,cond_false] at hq
    simp only [Exit.inBlock,e,if_false]; exact ⟨hs,hq⟩
  | _=>exact hh)
theorem blk_hit {id:Nat} (h:Q .normal ρ ds w):blk id Q (.exit id) ρ ds w:=by
 have hb:Nat.beq id id=true:=Nat.beq_refl id
 simp only [blk,hb,cond_true]; exact h
theorem blk_n {id:Nat} (h:Q .normal ρ ds w):blk id Q .normal ρ ds w:=h
theorem blk_ret {id:Nat} (h:Q .ret ρ ds w):blk id Q .ret ρ ds w:=h
/-! ### loops: what a loop's body says of its states is any relation; its closure is a plain inductive. -/
inductive LoopR {S R:Type} (body:S→S ⊕ R→Prop):S→R→Prop
 | done {s:S} {x:R}:body s (.inr x)→LoopR body s x
 | step {s s':S} {x:R}:body s (.inl s')→LoopR body s' x→LoopR body s x

theorem ec_loop {S R:Type} {body:S→S ⊕ R→Prop} {c:Code} (I:S→Env→List Deferred→World→Prop) (out:R→Post)
  (hround:∀ s x ρ ds w,I s ρ ds w→body s x →
   EC P r N c (fun e ρ' ds' w'=>match x with | .inl s'=>e=.normal∧I s' ρ' ds' w' | .inr y=>e≠.normal∧out y e ρ' ds' w') ρ ds w)
  {s:S} {y:R} (hl:LoopR body s y) (hI:I s ρ ds w) (hout:∀ e ρ' ds' w',e≠.normal→out y e ρ' ds' w'→Q e ρ' ds' w'):EC P r N (.loop c) Q ρ ds w:=by
 intro a h1 h2 h3 b k cs hro hb hr
 have key:∀ s y,LoopR body s y→(∀ e ρ' ds' w',e≠.normal→out y e ρ' ds' w'→Q e ρ' ds' w')→∀ a w,a.tmps.size=N→I s (envOf a) a.defers w →
   ∃ e a' w',lift N Q e a' w'∧ArrivesIn (Machine.fenced P (FW r)) P (lone (b.atR a (.code c::.inLoop c::k)) cs w) b k cs e a' w':=by
  intro s y hl
  induction hl with
  | @done s y hbody =>
   intro hout a w hs hI
   obtain ⟨e,a₁,w₁,hq,harr⟩:=hround s _ _ _ w hI hbody a hs rfl rfl b (.inLoop c::k) cs hro hb hr
   obtain ⟨hs1,hne,ho⟩:=hq
   refine ⟨e,a₁,w₁,⟨hs1,hout _ _ _ _ hne ho⟩,.pass (x:=.inLoop c) rfl (fun _ _=>.inl hne) harr⟩
  | @step s s' y hbody _ ih =>
   intro hout a w hs hI
   obtain ⟨e,a₁,w₁,hq,harr⟩:=hround s _ _ _ w hI hbody a hs rfl rfl b (.inLoop c::k) cs hro hb hr
   obtain ⟨hs1,he,hI1⟩:=hq
   subst he
   obtain ⟨e₂,a₂,w₂,hq₂,harr₂⟩:=ih hout a₁ w₁ hs1 hI1
   exact ⟨e₂,a₂,w₂,hq₂,.of_steps (StepsIn.trans harr (.one (fenced_calm hb hr rfl) stepR_inLoop)) harr₂⟩
 subst h2; subst h3
 obtain ⟨e,a',w',hq,harr⟩:=key s y hl hout a w h1 hI
 exact ⟨e,a',w',hq,.of_steps (.one (fenced_calm hb hr rfl) stepR_loop) harr⟩

/-! ### regions in the order of the text -/
theorem ec_region {id:Nat} {l:List Oper} (h:EO P r N l.toArray Q l ρ ds w):EC P r N (.region id l.toArray false) Q ρ ds w :=
 fun a h1 h2 h3=>wpIn_region_lit (h a h1 h2 h3)

variable {ops : Array Oper} {rest : List Oper} {o : Oper}
theorem eo_nil (h:Q .normal ρ ds w):EO P r N ops Q [] ρ ds w:=fun a h1 h2 h3=>wpListIn_nil ⟨h1,by rw [h2,h3]; exact h⟩
theorem eo_nil_sq {y:Code} (h:EC P r N y Q ρ ds w):EO P r N ops (sq P r N y Q) [] ρ ds w:=eo_nil h

theorem put_size (a:Act) (d:Option Nat) (v:Value):(a.put d v).tmps.size=a.tmps.size:=by cases d <;> simp [Act.put]
theorem put_defers' (a:Act) (d:Option Nat) (v:Value):(a.put d v).defers=a.defers:=by cases d <;> rfl

def plainOp:Op→Bool
 | .defer _=>false
 | _=>true
theorem semAt_plain (r:Option Nat) (o:Oper) (ρ:Operand→Value) (h:plainOp o.op=true):Oper.semAt r ρ o=execOp ρ o:=by
 cases r with
 | none=>exact Oper.semAt_none _ _
 | some l=>exact Oper.semAt_some l ρ o (fun c e=>by rw [e] at h; cases h)

theorem eo_no (hg:wantE ops ρ o.guard=false) (hd:okd N o.dst=true) (h:EO P r N ops Q rest (put ρ o.dst undef) ds w):EO P r N ops Q (o::rest) ρ ds w:=by
 intro a h1 h2 h3
 unfold wpListIn
 rw [want_env,h2,hg]
 exact ⟨fun _ _=>trivial,h _ (by rw [put_size]; exact h1) (by rw [envOf_put _ _ _ (by rw [h1]; exact hd),h2]) (by rw [put_defers']; exact h3)⟩

/-- An operation, by its run. -/
theorem eo_run (hg : wantE ops ρ o.guard = true) (hp : plainOp o.op = true) (x : Result Next) (hrun : (execOp (ev ρ) o).run P w = x)
    (h : ∀ a : Act, a.tmps.size = N → envOf a = ρ → a.defers = ds → o.uponIn (FW r) 0 P a (wpListIn (FW r) 0 P ops (lift N Q) rest) (lift N Q) x) : EO P r N ops Q (o :: rest) ρ ds w := by
  intro a h1 h2 h3
  unfold wpListIn
  rw [want_env, h2, hg]
  refine ⟨fun _ _ => trivial, ?_⟩
  rw [show (FW r).round = r from rfl, semAt_plain r o _ hp, ← ev_envOf, h2, hrun]
  exact h a h1 h2 h3

theorem eo_val {v:Value} {w':World} (hg:wantE ops ρ o.guard=true) (hp:plainOp o.op=true) (hd:okd N o.dst=true) (hrun:(execOp (ev ρ) o).run P w=.ok (.value v) w')
  (h:EO P r N ops Q rest (put ρ o.dst v) ds w'):EO P r N ops Q (o::rest) ρ ds w :=
 eo_run hg hp _ hrun fun a h1 h2 h3=>h _ (by rw [put_size]; exact h1) (by rw [envOf_put _ _ _ (by rw [h1]; exact hd),h2]) (by rw [put_defers']; exact h3)
theorem eo_unit {w':World} (hg:wantE ops ρ o.guard=true) (hp:plainOp o.op=true) (hd:okd N o.dst=true) (hrun:(execOp (ev ρ) o).run P w=.ok .skip w')
  (h:EO P r N ops Q rest (put ρ o.dst undef) ds w'):EO P r N ops Q (o::rest) ρ ds w :=
 eo_run hg hp _ hrun fun a h1 h2 h3=>h _ (by rw [put_size]; exact h1) (by rw [envOf_put _ _ _ (by rw [h1]; exact hd),h2]) (by rw [put_defers']; exact h3)

/-- A call: a contract that tells how it ends. -/
theorem eo_enter {f : FuncId} {args : Array Value} {w' : World} {R : Ending → World → Prop} (hg : wantE ops ρ o.guard = true) (hp : plainOp o.op = true) (hd : okd N o.dst = true) (hrun : (execOp (ev ρ) o).run P w = .ok (.enter f args) w')
    (hc : Calls P f args w' R)
    (hr : ∀ v w'', R (.returned v) w'' → EO P r N ops Q rest (put ρ o.dst v) ds w'') (hpn : ∀ c w'', R (.panicked c) w'' → Q (.panic c) ρ ds w'') (ho : ∀ w'', ¬ R .outgrown w'') : EO P r N ops Q (o :: rest) ρ ds w :=
  eo_run hg hp _ hrun fun a h1 h2 h3 => by
    refine ⟨fun h => by simp [FW] at h, ?_⟩
    have hc' : CallsIn (FW r) (0 - 1) P f args w' R := callsIn_wide.2 hc
    refine CallsIn.mono hc' fun e w'' he => ?_
    cases e with
    | returned v => exact hr v w'' he _ (by rw [put_size]; exact h1) (by rw [envOf_put _ _ _ (by rw [h1]; exact hd), h2]) (by rw [put_defers']; exact h3)
    | panicked c => exact ⟨h1, by rw [h2, h3]; exact hpn c w'' he⟩
    | outgrown => exact absurd he (ho w'')
end rules

/-! ### entering a function, and its results -/
def base (args:Array Value):Env:=fun t=>args.toList.getD t undef

def rvE (ρ:Env):ResultVar→Sem Value
 | .tmp t=>pure (ρ t)
 | .cell a t=>do loadVar t (← asAddr (ρ a))
def resE (rs:Array ResultVar) (ρ:Env):Sem Value:=do
 let vs ← rs.mapM (rvE ρ)
 pure (if h:vs.size=1 then vs[0] else .tuple vs)
theorem resE_envOf (fn:Func) (a:Act):resE fn.results (envOf a)=results fn a.tmps:=by
 have h:rvE (envOf a)=(fun
  | .tmp t=>pure (a.tmps.getD t undef)
  | .cell b t=>do loadVar t (← asAddr (a.tmps.getD b undef))):=by funext x; cases x <;> rfl
 unfold resE results
 rw [h]
 rfl

def bodyE (P:Program) (rs:Array ResultVar) (R:Ending→World→Prop):Post
 | .normal,ρ,ds,w=>ds=[]∧∃ v,(resE rs ρ).run P w=.ok v w∧R (.returned v) w
 | .ret,ρ,ds,w=>ds=[]∧∃ v,(resE rs ρ).run P w=.ok v w∧R (.returned v) w
 | .panic c,_,ds,w=>ds=[]∧R (.panicked c) w
 | _,_,_,_=>False

theorem calls_ec {P:Program} {f:FuncId} {fn:Func} {c:Code} {args:Array Value} {w:World} {R:Ending→World→Prop} {N:Nat}
  (hf:P.funcs[f]?=some fn) (hb:fn.body=some c) (hN:fn.ntmps=N) (hs:Nat.ble args.size N=true)
  (h:EC P none N c (bodyE P fn.results R) (base args) [] w):Calls P f args w R:=by
 have hs':args.size≤N:=by simpa [Nat.ble_eq] using hs
 refine callsIn_wide (n:=0).1 (callsIn_of_wp (F:=Fence.wide) hf hb trivial ?_)
 refine wpIn_mono (h { tmps:=args++Array.replicate (fn.ntmps - args.size) undef,defers:=[] } (by simp [hN]; omega) ?_ rfl) ?_
 ·funext t
  simp only [envOf,base,Array.getD_eq_getD_getElem?,List.getD_eq_getElem?_getD,Array.getElem?_append,Array.getElem?_toList]
  by_cases h1:t<args.size
  ·simp [h1]
  ·rw [if_neg h1,Array.getElem?_eq_none (Nat.le_of_not_lt h1)]
   simp only [Array.getElem?_replicate]
   split <;> rfl
 ·rintro e a w ⟨_,hq⟩
  cases e <;> first | exact hq.elim | (unfold bodyE at hq; rw [resE_envOf] at hq; exact hq) | exact hq

def Ret (post:Value→World→Prop):Ending→World→Prop:=fun e w=>∃ v,e=.returned v∧post v w

section ends
variable {P : Program} {ρ : Env} {w : World} {R : Ending → World → Prop}
theorem end1 {t:Nat} {v:Value} (hv:ρ t=v) (h:R (.returned v) w):bodyE P #[.tmp t] R .ret ρ [] w :=
 ⟨rfl,v,by simp [resE,rvE,hv],h⟩
theorem end2 {t u:Nat} {v x:Value} (hv:ρ t=v) (hx:ρ u=x) (h:R (.returned (.tuple #[v,x])) w):bodyE P #[.tmp t,.tmp u] R .ret ρ [] w :=
 ⟨rfl,_,by simp [resE,rvE,hv,hx],h⟩
theorem end0 (h:R (.returned (.tuple #[])) w):bodyE P #[] R .normal ρ [] w :=
 ⟨rfl,_,by simp [resE],h⟩
theorem end0r (h:R (.returned (.tuple #[])) w):bodyE P #[] R .ret ρ [] w :=
 ⟨rfl,_,by simp [resE],h⟩
end ends
end Go.Proofs.Ytpopikeebobjnaa
