import Derived.TacticsIn
import Derived.OrdersIn
import Derived.Below
import Derived.KernelRfl
import Derived.Laws.AppendOwn
import Derived.Laws.MakeOwn
import Derived.Laws.Bits
import Derived.Laws.Small
import Derived.Laws.Build
import Derived.Laws.Strings
import Derived.Laws.Strings2
import Derived.Laws.Cover3
import Derived.Laws.OwnMore
import Derived.Deep.Upon
import Derived.RangeFuncSeq
import Derived.RangeFuncRecord
import Derived.ChangeKeysEq
namespace Go.Proofs.Ytdojgmmpcdbeoaa
open Go Go.RowKit
set_option linter.unusedVariables false
set_option linter.unusedSimpArgs false

theorem mT {a b:Nat} {l:List Nat} (h:a∈l):a∈b::l:=.tail _ h
theorem mH {a:Nat} {l:List Nat}:a∈a::l:=.head _
theorem sI {l:List Nat}:∀ m∈l,m∈l:=fun _ q=>q
abbrev Env:=Nat→Value
def upd (ρ:Env) (d:Nat) (v:Value):Env:=fun t=>bif Nat.beq t d then v else ρ t
def put (ρ:Env):Option Nat→Value→Env
 | some d,v=>upd ρ d v
 | none,_=>ρ
def ev (ρ:Env):Operand→Value
 | .tmp t=>ρ t
 | .const v=>v
 | .global g=>.pointer (some ⟨g,0,none⟩)
 | .func f=>.func (.func f) #[] #[]
def envOf (a:Act):Env:=fun t=>a.tmps.getD t undef
theorem ev_envOf (a:Act):ev (envOf a)=a.eval:=by funext x; cases x <;> rfl

def okd (N:Nat):Option Nat→Bool
 | some d=>Nat.blt d N
 | none=>true

theorem nbeq_false {t d:Nat} (h:t≠d):Nat.beq t d=false:=by
 cases hb:Nat.beq t d with
 | false=>rfl
 | true=>exact absurd (Nat.eq_of_beq_eq_true hb) h

theorem upd_same (ρ:Env) (d:Nat) (v:Value):upd ρ d v d=v:=by simp [upd]
theorem upd_ne (ρ:Env) {d t:Nat} (v:Value) (h:t≠d):upd ρ d v t=ρ t:=by simp [upd,nbeq_false h]

theorem envOf_put (a:Act) (d:Option Nat) (v:Value) (h:okd a.tmps.size d=true):envOf (a.put d v)=put (envOf a) d v:=by
 cases d with
 | none=>rfl
 | some d =>
  have hd:d<a.tmps.size:=by simpa [okd,Nat.blt_eq] using h
  funext t
  by_cases e:t=d
  ·subst e
   simp [envOf,put,upd_same,Act.put,hd]
  ·rw [put,upd_ne _ _ e]
   simp [envOf,Act.put,Array.getElem?_setIfInBounds_ne (Ne.symm e)]

def yieldE (ops:Array Oper) (ρ:Env) (j:Nat):Option Bool :=
 match (ops[j]?).bind (·.dst) with
 | some t=>(match ρ t with | .bool b=>some b | _=>none)
 | none=>none
def wantE (ops:Array Oper) (ρ:Env):Option (Nat × Bool)→Bool
 | none=>true
 | some (j,b)=>yieldE ops ρ j==some b

theorem want_env (o:Oper) (ops:Array Oper) (a:Act):Region.wanted o (yielded ops a.tmps)=wantE ops (envOf a) o.guard:=by
 unfold Region.wanted wantE
 cases o.guard with
 | none=>rfl
 | some g =>
  obtain ⟨j,b⟩:=g
  simp only
  congr 1
  unfold yielded yieldE
  cases (ops[j]?).bind (·.dst) with
  | none=>rfl
  | some t =>
   simp only [Option.bind_some,envOf,Array.getD_eq_getD_getElem?]
   cases h:a.tmps[t]? with
   | none=>simp [undef]
   | some v=>cases v <;> simp

def FW (r:Option Nat):Fence:={ fn:=fun _=>True,depth:=none,alive:=false,round:=r }
abbrev Post:=Exit→Env→List Deferred→World→Prop

def lift (N:Nat) (Q:Post):Exit→Act→World→Prop:=fun e a w=>a.tmps.size=N∧Q e (envOf a) a.defers w

/-- CODE. -/
def EC (P : Program) (r : Option Nat) (N : Nat) (c : Code) (Q : Post) (ρ : Env) (ds : List Deferred) (w : World) : Prop :=
  ∀ a : Act, a.tmps.size = N → envOf a = ρ → a.defers = ds → c.wpIn (FW r) 0 P (lift N Q) a w
/-- A REGION's operations, in the order of the text. -/
def EO (P : Program) (r : Option Nat) (N : Nat) (ops : Array Oper) (Q : Post) (l : List Oper) (ρ : Env) (ds : List Deferred) (w : World) : Prop :=
  ∀ a : Act, a.tmps.size = N → envOf a = ρ → a.defers = ds → wpListIn (FW r) 0 P ops (lift N Q) l a w

section rules
variable {P : Program} {r : Option Nat} {N : Nat} {Q : Post} {ρ : Env} {ds : List Deferred} {w : World}

theorem ec_mono {c:Code} {Q':Post} (h:EC P r N c Q ρ ds w) (hq:∀ e ρ ds w,Q e ρ ds w→Q' e ρ ds w):EC P r N c Q' ρ ds w :=
 fun a h1 h2 h3=>wpIn_mono (h a h1 h2 h3) fun _ _ _ h=>⟨h.1,hq _ _ _ _ h.2⟩

def sq (P:Program) (r:Option Nat) (N:Nat) (y:Code) (Q:Post):Post
 | .normal,ρ,ds,w=>EC P r N y Q ρ ds w
 | e,ρ,ds,w=>Q e ρ ds w
theorem ec_seq {x y:Code} (h:EC P r N x (sq P r N y Q) ρ ds w):EC P r N (.seq x y) Q ρ ds w:=fun a h1 h2 h3 =>
 wpIn_seq (wpIn_mono (h a h1 h2 h3) fun e a' w' hh=>by
  cases e <;> first | exact hh | exact hh.2 a' hh.1 rfl rfl)
theorem sq_n {y:Code} (h:EC P r N y Q ρ ds w):sq P r N y Q .normal ρ ds w:=h
theorem sq_ret {y:Code} (h:Q .ret ρ ds w):sq P r N y Q .ret ρ ds w:=h
theorem sq_exit {y:Code} {id:Nat} (h:Q (.exit id) ρ ds w):sq P r N y Q (.exit id) ρ ds w:=h
theorem ec_skip (h:Q .normal ρ ds w):EC P r N .skip Q ρ ds w:=fun a h1 h2 h3=>wpIn_skip ⟨h1,by rw [h2,h3]; exact h⟩
theorem ec_ret (h:Q .ret ρ ds w):EC P r N .ret Q ρ ds w:=fun a h1 h2 h3=>wpIn_ret ⟨h1,by rw [h2,h3]; exact h⟩
theorem ec_exit {id:Nat} (h:Q (.exit id) ρ ds w):EC P r N (.exit id) Q ρ ds w:=fun a h1 h2 h3=>wpIn_exit ⟨h1,by rw [h2,h3]; exact h⟩

theorem ec_cond {c:Operand} {x y:Code} {t:Bool} (hc:ev ρ c=.bool t) (ht:t=true→EC P r N x Q ρ ds w) (hf:t=false→EC P r N y Q ρ ds w) :
  EC P r N (.cond c x y) Q ρ ds w:=fun a h1 h2 h3 =>
 wpIn_cond_split (t:=t) (by rw [← ev_envOf,h2]; exact hc) (fun e=>ht e a h1 h2 h3) (fun e=>hf e a h1 h2 h3)
theorem ec_cond_t {c:Operand} {x y:Code} (hc:ev ρ c=.bool true) (h:EC P r N x Q ρ ds w):EC P r N (.cond c x y) Q ρ ds w :=
 ec_cond hc (fun _=>h) (fun e=>by cases e)
theorem ec_cond_f {c:Operand} {x y:Code} (hc:ev ρ c=.bool false) (h:EC P r N y Q ρ ds w):EC P r N (.cond c x y) Q ρ ds w :=
 ec_cond hc (fun e=>by cases e) (fun _=>h)

def blk (id:Nat) (Q:Post):Post
 | .exit id',ρ,ds,w=>bif Nat.beq id' id then Q .normal ρ ds w else Q (.exit id') ρ ds w
 | e,ρ,ds,w=>Q e ρ ds w
theorem ec_block {id:Nat} {c:Code} (h:EC P r N c (blk id Q) ρ ds w):EC P r N (.block id c) Q ρ ds w:=fun a h1 h2 h3 =>
 wpIn_block (wpIn_mono (h a h1 h2 h3) fun e a' w' hh=>by
  cases e with
  | exit id' =>
   obtain ⟨hs,hq⟩:=hh
   by_cases e:id'=id
   ·subst e
    have hb:Nat.beq id' id'=true:=Nat.beq_refl id'
    simp only [blk,hb,cond_true] at hq
    simp only [Exit.inBlock,if_true]; exact ⟨hs,hq⟩
   ·simp only [blk,nbeq_false e,cond_false] at hq
    simp only [Exit.inBlock,e,if_false]; exact ⟨hs,hq⟩
  | _=>exact hh)
theorem blk_hit {id:Nat} (h:Q .normal ρ ds w):blk id Q (.exit id) ρ ds w:=by
 have hb:Nat.beq id id=true:=Nat.beq_refl id
 simp only [blk,hb,cond_true]; exact h
theorem blk_n {id:Nat} (h:Q .normal ρ ds w):blk id Q .normal ρ ds w:=h
theorem blk_ret {id:Nat} (h:Q .ret ρ ds w):blk id Q .ret ρ ds w:=h
/-! ### loops: what a loop's body says of its states is any relation; its closure is a plain inductive. -/
inductive LoopR {S R:Type} (body:S→S ⊕ R→Prop):S→R→Prop
 | done {s:S} {x:R}:body s (.inr x)→LoopR body s x
 | step {s s':S} {x:R}:body s (.inl s')→LoopR body s' x→LoopR body s x

theorem ec_loop {S R:Type} {body:S→S ⊕ R→Prop} {c:Code} (I:S→Env→List Deferred→World→Prop) (out:R→Post)
  (hround:∀ s x ρ ds w,I s ρ ds w→body s x →
   EC P r N c (fun e ρ' ds' w'=>match x with | .inl s'=>e=.normal∧I s' ρ' ds' w' | .inr y=>e≠.normal∧out y e ρ' ds' w') ρ ds w)
  {s:S} {y:R} (hl:LoopR body s y) (hI:I s ρ ds w) (hout:∀ e ρ' ds' w',e≠.normal→out y e ρ' ds' w'→Q e ρ' ds' w'):EC P r N (.loop c) Q ρ ds w:=by
 intro a h1 h2 h3 b k cs hro hb hr
 have key:∀ s y,LoopR body s y→(∀ e ρ' ds' w',e≠.normal→out y e ρ' ds' w'→Q e ρ' ds' w')→∀ a w,a.tmps.size=N→I s (envOf a) a.defers w →
   ∃ e a' w',lift N Q e a' w'∧ArrivesIn (Machine.fenced P (FW r)) P (lone (b.atR a (.code c::.inLoop c::k)) cs w) b k cs e a' w':=by
  intro s y hl
  induction hl with
  | @done s y hbody =>
   intro hout a w hs hI
   obtain ⟨e,a₁,w₁,hq,harr⟩:=hround s _ _ _ w hI hbody a hs rfl rfl b (.inLoop c::k) cs hro hb hr
   obtain ⟨hs1,hne,ho⟩:=hq
   refine ⟨e,a₁,w₁,⟨hs1,hout _ _ _ _ hne ho⟩,.pass (x:=.inLoop c) rfl (fun _ _=>.inl hne) harr⟩
  | @step s s' y hbody _ ih =>
   intro hout a w hs hI
   obtain ⟨e,a₁,w₁,hq,harr⟩:=hround s _ _ _ w hI hbody a hs rfl rfl b (.inLoop c::k) cs hro hb hr
   obtain ⟨hs1,he,hI1⟩:=hq
   subst he
   obtain ⟨e₂,a₂,w₂,hq₂,harr₂⟩:=ih hout a₁ w₁ hs1 hI1
   exact ⟨e₂,a₂,w₂,hq₂,.of_steps (StepsIn.trans harr (.one (fenced_calm hb hr rfl) stepR_inLoop)) harr₂⟩
 subst h2; subst h3
 obtain ⟨e,a',w',hq,harr⟩:=key s y hl hout a w h1 hI
 exact ⟨e,a',w',hq,.of_steps (.one (fenced_calm hb hr rfl) stepR_loop) harr⟩

/-! ### regions in the order of the text -/
theorem ec_region {id:Nat} {l:List Oper} (h:EO P r N l.toArray Q l ρ ds w):EC P r N (.region id l.toArray false) Q ρ ds w :=
 fun a h1 h2 h3=>wpIn_region_lit (h a h1 h2 h3)

variable {ops : Array Oper} {rest : List Oper} {o : Oper}
theorem eo_nil (h:Q .normal ρ ds w):EO P r N ops Q [] ρ ds w:=fun a h1 h2 h3=>wpListIn_nil ⟨h1,by rw [h2,h3]; exact h⟩
theorem eo_nil_sq {y:Code} (h:EC P r N y Q ρ ds w):EO P r N ops (sq P r N y Q) [] ρ ds w:=eo_nil h
theorem ec_sr {id:Nat} {l:List Oper} {y:Code} (h:EO P r N l.toArray (sq P r N y Q) l ρ ds w):EC P r N (.seq (.region id l.toArray false) y) Q ρ ds w:=ec_seq (ec_region h)
theorem eo_r {id:Nat} {l:List Oper} {y:Code} (h:EO P r N l.toArray (sq P r N y Q) l ρ ds w):EO P r N ops (sq P r N (.seq (.region id l.toArray false) y) Q) [] ρ ds w:=eo_nil_sq (ec_sr h)
theorem eo_q {id:Nat} {l:List Oper} (h:EO P r N l.toArray Q l ρ ds w):EO P r N ops (sq P r N (.region id l.toArray false) Q) [] ρ ds w:=eo_nil_sq (ec_region h)

theorem put_size (a:Act) (d:Option Nat) (v:Value):(a.put d v).tmps.size=a.tmps.size:=by cases d <;> simp [Act.put]
theorem put_defers' (a:Act) (d:Option Nat) (v:Value):(a.put d v).defers=a.defers:=by cases d <;> rfl

def plainOp:Op→Bool
 | .defer _=>false
 | _=>true
theorem semAt_plain (r:Option Nat) (o:Oper) (ρ:Operand→Value) (h:plainOp o.op=true):Oper.semAt r ρ o=execOp ρ o:=by
 cases r with
 | none=>exact Oper.semAt_none _ _
 | some l=>exact Oper.semAt_some l ρ o (fun c e=>by rw [e] at h; cases h)

theorem eo_no (hg:wantE ops ρ o.guard=false) (hd:okd N o.dst=true) (h:EO P r N ops Q rest (put ρ o.dst undef) ds w):EO P r N ops Q (o::rest) ρ ds w:=by
 intro a h1 h2 h3
 unfold wpListIn
 rw [want_env,h2,hg]
 exact ⟨fun _ _=>trivial,h _ (by rw [put_size]; exact h1) (by rw [envOf_put _ _ _ (by rw [h1]; exact hd),h2]) (by rw [put_defers']; exact h3)⟩

/-- An operation, by its run. -/
theorem eo_run (hg : wantE ops ρ o.guard = true) (hp : plainOp o.op = true) (x : Result Next) (hrun : (execOp (ev ρ) o).run P w = x)
    (h : ∀ a : Act, a.tmps.size = N → envOf a = ρ → a.defers = ds → o.uponIn (FW r) 0 P a (wpListIn (FW r) 0 P ops (lift N Q) rest) (lift N Q) x) : EO P r N ops Q (o :: rest) ρ ds w := by
  intro a h1 h2 h3
  unfold wpListIn
  rw [want_env, h2, hg]
  refine ⟨fun _ _ => trivial, ?_⟩
  rw [show (FW r).round = r from rfl, semAt_plain r o _ hp, ← ev_envOf, h2, hrun]
  exact h a h1 h2 h3

theorem eo_val {v:Value} {w':World} (hg:wantE ops ρ o.guard=true) (hp:plainOp o.op=true) (hd:okd N o.dst=true) (hrun:(execOp (ev ρ) o).run P w=.ok (.value v) w')
  (h:EO P r N ops Q rest (put ρ o.dst v) ds w'):EO P r N ops Q (o::rest) ρ ds w :=
 eo_run hg hp _ hrun fun a h1 h2 h3=>h _ (by rw [put_size]; exact h1) (by rw [envOf_put _ _ _ (by rw [h1]; exact hd),h2]) (by rw [put_defers']; exact h3)
theorem eo_unit {w':World} (hg:wantE ops ρ o.guard=true) (hp:plainOp o.op=true) (hd:okd N o.dst=true) (hrun:(execOp (ev ρ) o).run P w=.ok .skip w')
  (h:EO P r N ops Q rest (put ρ o.dst undef) ds w'):EO P r N ops Q (o::rest) ρ ds w :=
 eo_run hg hp _ hrun fun a h1 h2 h3=>h _ (by rw [put_size]; exact h1) (by rw [envOf_put _ _ _ (by rw [h1]; exact hd),h2]) (by rw [put_defers']; exact h3)

/-- A call: a contract that tells how it ends. -/
theorem eo_enter {f : FuncId} {args : Array Value} {w' : World} {R : Ending → World → Prop} (hg : wantE ops ρ o.guard = true) (hp : plainOp o.op = true) (hd : okd N o.dst = true) (hrun : (execOp (ev ρ) o).run P w = .ok (.enter f args) w')
    (hc : Calls P f args w' R)
    (hr : ∀ v w'', R (.returned v) w'' → EO P r N ops Q rest (put ρ o.dst v) ds w'') (hpn : ∀ c w'', R (.panicked c) w'' → Q (.panic c) ρ ds w'') (ho : ∀ w'', ¬ R .outgrown w'') : EO P r N ops Q (o :: rest) ρ ds w :=
  eo_run hg hp _ hrun fun a h1 h2 h3 => by
    refine ⟨fun h => by simp [FW] at h, ?_⟩
    have hc' : CallsIn (FW r) (0 - 1) P f args w' R := callsIn_wide.2 hc
    refine CallsIn.mono hc' fun e w'' he => ?_
    cases e with
    | returned v => exact hr v w'' he _ (by rw [put_size]; exact h1) (by rw [envOf_put _ _ _ (by rw [h1]; exact hd), h2]) (by rw [put_defers']; exact h3)
    | panicked c => exact ⟨h1, by rw [h2, h3]; exact hpn c w'' he⟩
    | outgrown => exact absurd he (ho w'')
end rules

/-! ### entering a function, and its results -/
def base (args:Array Value):Env:=fun t=>args.toList.getD t undef

def rvE (ρ:Env):ResultVar→Sem Value
 | .tmp t=>pure (ρ t)
 | .cell a t=>do loadVar t (← asAddr (ρ a))
def resE (rs:Array ResultVar) (ρ:Env):Sem Value:=do
 let vs ← rs.mapM (rvE ρ)
 pure (if h:vs.size=1 then vs[0] else .tuple vs)
theorem resE_envOf (fn:Func) (a:Act):resE fn.results (envOf a)=results fn a.tmps:=by
 have h:rvE (envOf a)=(fun
  | .tmp t=>pure (a.tmps.getD t undef)
  | .cell b t=>do loadVar t (← asAddr (a.tmps.getD b undef))):=by funext x; cases x <;> rfl
 unfold resE results
 rw [h]
 rfl

def bodyE (P:Program) (rs:Array ResultVar) (R:Ending→World→Prop):Post
 | .normal,ρ,ds,w=>ds=[]∧∃ v,(resE rs ρ).run P w=.ok v w∧R (.returned v) w
 | .ret,ρ,ds,w=>ds=[]∧∃ v,(resE rs ρ).run P w=.ok v w∧R (.returned v) w
 | .panic c,_,ds,w=>ds=[]∧R (.panicked c) w
 | _,_,_,_=>False

theorem calls_ec {P:Program} {f:FuncId} {fn:Func} {c:Code} {args:Array Value} {w:World} {R:Ending→World→Prop} {N:Nat}
  (hf:P.funcs[f]?=some fn) (hb:fn.body=some c) (hN:fn.ntmps=N) (hs:Nat.ble args.size N=true)
  (h:EC P none N c (bodyE P fn.results R) (base args) [] w):Calls P f args w R:=by
 have hs':args.size≤N:=by simpa [Nat.ble_eq] using hs
 refine callsIn_wide (n:=0).1 (callsIn_of_wp (F:=Fence.wide) hf hb trivial ?_)
 refine wpIn_mono (h { tmps:=args++Array.replicate (fn.ntmps - args.size) undef,defers:=[] } (by simp [hN]; omega) ?_ rfl) ?_
 ·funext t
  simp only [envOf,base,Array.getD_eq_getD_getElem?,List.getD_eq_getElem?_getD,Array.getElem?_append,Array.getElem?_toList]
  by_cases h1:t<args.size
  ·simp [h1]
  ·rw [if_neg h1,Array.getElem?_eq_none (Nat.le_of_not_lt h1)]
   simp only [Array.getElem?_replicate]
   split <;> rfl
 ·rintro e a w ⟨_,hq⟩
  cases e <;> first | exact hq.elim | (unfold bodyE at hq; rw [resE_envOf] at hq; exact hq) | exact hq

def Ret (post:Value→World→Prop):Ending→World→Prop:=fun e w=>∃ v,e=.returned v∧post v w

section ends
variable {P : Program} {ρ : Env} {w : World} {R : Ending → World → Prop}
theorem end1 {t:Nat} {v:Value} (hv:ρ t=v) (h:R (.returned v) w):bodyE P #[.tmp t] R .ret ρ [] w :=
 ⟨rfl,v,by simp [resE,rvE,hv],h⟩
theorem end2 {t u:Nat} {v x:Value} (hv:ρ t=v) (hx:ρ u=x) (h:R (.returned (.tuple #[v,x])) w):bodyE P #[.tmp t,.tmp u] R .ret ρ [] w :=
 ⟨rfl,_,by simp [resE,rvE,hv,hx],h⟩
theorem end0 (h:R (.returned (.tuple #[])) w):bodyE P #[] R .normal ρ [] w :=
 ⟨rfl,_,by simp [resE],h⟩
end ends

/-- What lay in w lies in w', but for the blocks of M. -/
structure Fr (M : List Nat) (w w' : World) : Prop where
  os : w'.os = w.os
  tape : w'.tape = w.tape
  output : w'.output = w.output
  size : w.heap.size ≤ w'.heap.size
  block : ∀ k, k < w.heap.size → k ∉ M → w'.heap[k]? = w.heap[k]?
abbrev Ext (w w':World):Prop:=Fr [] w w'
theorem Fr.refl (M:List Nat) (w:World):Fr M w w:=⟨rfl,rfl,rfl,Nat.le_refl _,fun _ _ _=>rfl⟩
theorem Fr.trans {M:List Nat} {a b c:World} (h:Fr M a b) (k:Fr M b c):Fr M a c :=
 ⟨k.os.trans h.os,k.tape.trans h.tape,k.output.trans h.output,Nat.le_trans h.size k.size,fun i hi hM=>(k.block i (Nat.lt_of_lt_of_le hi h.size) hM).trans (h.block i hi hM)⟩
theorem Fr.mono {M M':List Nat} {a b:World} (h:Fr M a b) (hM:∀ m∈M,m∈M'):Fr M' a b :=
 ⟨h.os,h.tape,h.output,h.size,fun i hi hn=>h.block i hi (fun hm=>hn (hM i hm))⟩
theorem Fr.ext {M:List Nat} {a b:World} (h:Ext a b):Fr M a b:=h.mono (fun _ hm=>by cases hm)
/-- A step that touches blocks that are new since a. -/
theorem Ext.st {M : List Nat} {a b c : World} (h : Ext a b) (k : Fr M b c) (hM : ∀ m ∈ M, a.heap.size ≤ m) : Ext a c :=
  ⟨k.os.trans h.os, k.tape.trans h.tape, k.output.trans h.output, Nat.le_trans h.size k.size, fun i hi _ =>
    (k.block i (Nat.lt_of_lt_of_le hi h.size) (fun hm => by have := hM i hm; omega)).trans (h.block i hi (by simp))⟩
theorem Ext.below {a b:World} (h:Ext a b):Below a.heap.size a b:=⟨h.os,h.tape,h.output,h.size,fun k hk=>h.block k hk (by simp)⟩
theorem Ext.of_below {a b:World} (h:Below a.heap.size a b):Ext a b:=⟨h.os,h.tape,h.output,h.size,fun k hk _=>h.block k hk⟩
theorem Ext.drew (w:World):Ext w { w with drawn:=w.drawn + 1 }:=⟨rfl,rfl,rfl,Nat.le_refl _,fun _ _ _=>rfl⟩
theorem Ext.grown {a b:World} (h:a.grownBy b none):Ext a b:=⟨h.os,h.tape,h.output,h.size,fun k hk _=>h.block k hk (by simp)⟩
theorem Fr.grown {a b:World} {g:Nat} (h:a.grownBy b (some g)):Fr [g] a b:=⟨h.os,h.tape,h.output,h.size,fun k hk hn=>h.block k hk (by intro e; cases e; simp at hn)⟩

/-- A fact that holds as long as no block lying now, but for those of L, turns. -/
def Ag (L : List Nat) (w w' : World) : Prop := ∀ k, k < w.heap.size → k ∉ L → w'.heap[k]? = w.heap[k]?
def Stb (L:List Nat) (w:World) (φ:World→Prop):Prop:=∀ w',Ag L w w'→φ w'
theorem Stb.now {L:List Nat} {w:World} {φ:World→Prop} (h:Stb L w φ):φ w:=h w (fun _ _ _=>rfl)
theorem Stb.fr {L M:List Nat} {w w':World} {φ:World→Prop} (h:Stb L w φ) (f:Fr M w w') (hM:∀ m∈M,m∈L):Stb L w' φ :=
 fun w'' ha=>h w'' fun k hk hn=>(ha k (Nat.lt_of_lt_of_le hk f.size) hn).trans (f.block k hk (fun hm=>hn (hM k hm)))
theorem Stb.ex {L:List Nat} {w w':World} {φ:World→Prop} (h:Stb L w φ) (f:Ext w w'):Stb L w' φ:=h.fr f (fun _ hm=>by cases hm)
theorem Stb.weak {L L':List Nat} {w:World} {φ:World→Prop} (h:Stb L w φ) (hL:∀ m∈L',m∈L):Stb L' w φ :=
 fun w' ha=>h w' fun k hk hn=>ha k hk (fun hm=>hn (hL k hm))
theorem Stb.mono {L:List Nat} {w:World} {φ ψ:World→Prop} (h:Stb L w φ) (hp:∀ w,φ w→ψ w):Stb L w ψ:=fun w' ha=>hp _ (h w' ha)
theorem Stb.and {L:List Nat} {w:World} {φ ψ:World→Prop} (h:Stb L w φ) (k:Stb L w ψ):Stb L w (fun w=>φ w∧ψ w):=fun w' ha=>⟨h w' ha,k w' ha⟩
theorem Stb.triv {L:List Nat} {w:World} {p:Prop} (h:p):Stb L w (fun _=>p):=fun _ _=>h

/-- All blocks of L lie. -/
def Lt (L : List Nat) (w : World) : Prop := ∀ b ∈ L, b < w.heap.size
theorem Lt.fr {L M:List Nat} {w w':World} (h:Lt L w) (f:Fr M w w'):Lt L w':=fun b hb=>Nat.lt_of_lt_of_le (h b hb) f.size
theorem Lt.cons {L:List Nat} {w:World} {b:Nat} (h:Lt L w) (hb:b<w.heap.size):Lt (b::L) w:=fun x hx=>by
 cases hx with
 | head=>exact hb
 | tail _ hm=>exact h x hm

/-- Block b is this row of cells. -/
def Blk (w : World) (b : Nat) (e : TypeId) (cs : List Value) : Prop := w.heap[b]? = some (.cells cs.toArray e (0, 0))
theorem Blk.lt {w:World} {b:Nat} {e:TypeId} {cs:List Value} (h:Blk w b e cs):b<w.heap.size:=(Array.getElem?_eq_some_iff.1 h).1
theorem Blk.fr {w w':World} {M:List Nat} {b:Nat} {e:TypeId} {cs:List Value} (h:Blk w b e cs) (f:Fr M w w') (hb:b∉M):Blk w' b e cs:=(f.block b h.lt hb).trans h
theorem Blk.ex {w w':World} {b:Nat} {e:TypeId} {cs:List Value} (h:Blk w b e cs) (f:Ext w w'):Blk w' b e cs:=h.fr f (by simp)
theorem Blk.stb {w:World} {L:List Nat} {b:Nat} {e:TypeId} {cs:List Value} (h:Blk w b e cs) (hb:b∉L):Stb L w (fun w=>Blk w b e cs):=fun w' ha=>(ha b h.lt hb).trans h
theorem Blk.cell {w:World} {b o:Nat} {e:TypeId} {cs:List Value} {v:Value} (h:Blk w b e cs) (hv:cs[o]?=some v):w.cell? ⟨b,o,none⟩=some v:=by
 have h':w.heap[b]?=some (.cells cs.toArray e (0,0)):=h
 simp [World.cell?,h',hv]
theorem Blk.frozen {w:World} {b o:Nat} {e:TypeId} {cs:List Value} (h:Blk w b e cs):w.frozen? ⟨b,o,none⟩=false:=by
 have h':w.heap[b]?=some (.cells cs.toArray e (0,0)):=h
 simp [World.frozen?,h']

theorem Blk.alloc (w:World) (e:TypeId) (cs:List Value):Blk (w.alloc (.cells cs.toArray e)) w.heap.size e cs:=by
 show (w.heap.push _)[w.heap.size]?=_
 simp
theorem Ext.alloc (w:World) (o:Obj):Ext w (w.alloc o):=Ext.of_below ((Below.refl _ _).alloc (Nat.le_refl _) o)
theorem Blk.set {w:World} {b o:Nat} {e:TypeId} {cs:List Value} (v:Value) (h:Blk w b e cs):Blk (w.setCell ⟨b,o,none⟩ v) b e (cs.set o v):=by
 obtain ⟨hlt,hk⟩:=Array.getElem?_eq_some_iff.1 h
 show (w.heap.modify b _)[b]?=_
 rw [Array.getElem?_eq_getElem (by rw [Array.size_modify]; exact hlt),Array.getElem_modify_self,hk]
 simp
theorem Fr.setCell (w:World) (a:Addr) (v:Value):Fr [a.block] w (w.setCell a v) :=
 ⟨rfl,rfl,rfl,by simp [World.setCell],fun k hk hn=>Below.heap_setCell _ _ _ _ (by simpa using hn)⟩

/-! ### types, as closed facts of a seat -/
/-- One cell, no struct and no array. -/
def One (P : Program) (T : TypeId) : Prop := (∃ d, P.underlying T = some d ∧ (match d with | .struct _ | .array _ _ => False | _ => True)) ∧ ∃ i, P.info? T = some i ∧ i.size = 1
/-- A struct or an array of n cells. -/
def Agg (P : Program) (T : TypeId) (n : Nat) : Prop := (∃ d, P.underlying T = some d ∧ (match d with | .struct _ | .array _ _ => True | _ => False)) ∧ ∃ i, P.info? T = some i ∧ i.size = n
/-- Field f of T begins at this cell, and has some. -/
def Fld (P : Program) (T : TypeId) (f off : Nat) : Prop := ∃ fs, P.underlying T = some (.struct fs) ∧ ∃ x, fs[f]? = some x ∧ x.offset = off ∧ ∃ i, P.info? x.type = some i ∧ i.size ≠ 0
/-- The zero of T. -/
def Zero (P : Program) (T : TypeId) (z : Value) : Prop := ∃ i, P.info? T = some i ∧ i.zero = some z
/-- A slice of E, whose elements have n cells, this zero, and so many bytes. -/
def Slc (P : Program) (T E n bytes : Nat) (z : Value) : Prop := P.underlying T = some (.slice E) ∧ ∃ i, P.info? E = some i ∧ i.zero = some z ∧ i.size = n ∧ i.bytes = bytes

section runs
variable {P : Program} {ρ : Env} {w : World} {d : Option Nat} {ty : TypeId} {pos : String} {after : Array Edge} {g : Option (Nat × Bool)}

abbrev RunV (P:Program) (ρ:Env) (w:World) (o:Oper) (v:Value):Prop:=(execOp (ev ρ) o).run P w=.ok (.value v) w

theorem r_mov {X:Operand} {v:Value} (hX:ev ρ X=v):RunV P ρ w ⟨d,.move X,ty,pos,after,g⟩ v:=by simp [RunV,execOp,hX]
theorem r_asg {X:Operand} {v:Value} (hX:ev ρ X=v):RunV P ρ w ⟨d,.assign X,ty,pos,after,g⟩ v:=by simp [RunV,execOp,hX]
theorem r_pick_t {C A B:Operand} {v:Value} (hC:ev ρ C=.bool true) (hA:ev ρ A=v):RunV P ρ w ⟨d,.pick C A B,ty,pos,after,g⟩ v:=by
 simp [RunV,execOp,hC,hA,asBool]
theorem r_pick_f {C A B:Operand} {v:Value} (hC:ev ρ C=.bool false) (hB:ev ρ B=v):RunV P ρ w ⟨d,.pick C A B,ty,pos,after,g⟩ v:=by
 simp [RunV,execOp,hC,hB,asBool]

/-- What a binary operation on two whole numbers of one kind comes to, where it can't panic. -/
def ibin : BinOp → IntKind → Int → Int → Option Value
  | .add, k, x, y => some (.int k (k.wrap (x + y)))
  | .sub, k, x, y => some (.int k (k.wrap (x - y)))
  | .mul, k, x, y => some (.int k (k.wrap (x * y)))
  | .and, k, x, y => some (.int k (k.wrap (BitVec.ofInt k.bits x &&& BitVec.ofInt k.bits y).toNat))
  | .or, k, x, y => some (.int k (k.wrap (BitVec.ofInt k.bits x ||| BitVec.ofInt k.bits y).toNat))
  | .xor, k, x, y => some (.int k (k.wrap (BitVec.ofInt k.bits x ^^^ BitVec.ofInt k.bits y).toNat))
  | .eql, _, x, y => some (.bool (x == y))
  | .neq, _, x, y => some (.bool (x != y))
  | .lss, _, x, y => some (.bool (decide (x < y)))
  | .leq, _, x, y => some (.bool (decide (x ≤ y)))
  | .gtr, _, x, y => some (.bool (decide (y < x)))
  | .geq, _, x, y => some (.bool (decide (y ≤ x)))
  | _, _, _, _ => none
theorem r_int {op:BinOp} {X Y:Operand} {t t':TypeId} {k:IntKind} {x y:Int} {v:Value} (hX:ev ρ X=.int k x) (hY:ev ρ Y=.int k y) (hv:ibin op k x y=some v) :
  RunV P ρ w ⟨d,.binOp op t X Y t',ty,pos,after,g⟩ v:=by
 cases op <;> simp only [ibin,Option.some.injEq,reduceCtorEq] at hv <;> subst hv <;> simp [RunV,execOp,hX,hY,eqGuard,binOp,Op.intArith,Op.intBits,Op.intCmp]
/-- A text. -/
abbrev Str := List UInt8
def str (l:Str):Value:=.string ⟨l.toArray⟩
theorem toList_str (l:Str):(⟨l.toArray⟩:ByteArray).toList=l:=by
 rw [ByteArray.toList_eq]
theorem size_str (l:Str):(⟨l.toArray⟩:ByteArray).size=l.length:=by
 show l.toArray.size=l.length
 simp
def sbin:BinOp→Str→Str→Option Value
 | .eql,x,y=>some (.bool (x==y))
 | .neq,x,y=>some (.bool (!(x==y)))
 | .lss,x,y=>some (.bool (Op.bytesLess x y))
 | .leq,x,y=>some (.bool (Op.bytesLess x y||x==y))
 | .gtr,x,y=>some (.bool (!(Op.bytesLess x y||x==y)))
 | .geq,x,y=>some (.bool (!Op.bytesLess x y))
 | _,_,_=>none
theorem r_str {op:BinOp} {X Y:Operand} {t t':TypeId} {x y:Str} {v:Value} (hX:ev ρ X=str x) (hY:ev ρ Y=str y) (hv:sbin op x y=some v) :
  RunV P ρ w ⟨d,.binOp op t X Y t',ty,pos,after,g⟩ v:=by
 unfold str at hX hY
 cases op <;> simp only [sbin,Option.some.injEq,reduceCtorEq] at hv <;> subst hv <;> simp [RunV,execOp,hX,hY,eqGuard,binOp,Op.stringOp,toList_str]
theorem r_boolEq {X Y:Operand} {t t':TypeId} {x y:Bool} (ht:P.underlying t=some .bool) (hX:ev ρ X=.bool x) (hY:ev ρ Y=.bool y) :
  RunV P ρ w ⟨d,.binOp .eql t X Y t',ty,pos,after,g⟩ (.bool (x==y)):=by
 simp [RunV,execOp,hX,hY,eqGuard,run_eql_bool _ _ _ _ ht]
theorem r_not {X:Operand} {t:TypeId} {x:Bool} (hX:ev ρ X=.bool x):RunV P ρ w ⟨d,.unOp .not t X,ty,pos,after,g⟩ (.bool (!x)):=by
 simp [RunV,execOp,hX,Op.unary]
theorem r_conv {X:Operand} {s t:TypeId} {sd:TypeDesc} {k k':IntKind} {x:Int} (hs:P.underlying s=some sd) (ht:P.underlying t=some (.int k')) (hX:ev ρ X=.int k x) :
  RunV P ρ w ⟨d,.convert s t X,ty,pos,after,g⟩ (.int k' (k'.wrap x)):=by
 simp [RunV,execOp,hX,convert,run_underlying hs,run_underlying ht,Conv.intToInt]
theorem r_ext {X:Operand} {vs:Array Value} {i:Nat} {v:Value} (hX:ev ρ X=.tuple vs) (hv:vs[i]?=some v):RunV P ρ w ⟨d,.extract X i,ty,pos,after,g⟩ v:=by
 simp [RunV,execOp,hX,Instr.extract,hv]
theorem r_len_str {X:Operand} {t:TypeId} {x:Str} (ht:P.underlying t=some .string) (hX:ev ρ X=str x) :
  RunV P ρ w ⟨d,.call { callee:=.builtin .len,args:=#[X],argTypes:=#[t] },ty,pos,after,g⟩ (.int .i64 x.length):=by
 unfold str at hX
 simp [RunV,execOp,hX,resolve,invoke,builtin,Builtin.len_,run_underlying ht,goInt,size_str]
theorem r_len_slc {X:Operand} {t e:TypeId} {A:Option Addr} {n c:Nat} (ht:P.underlying t=some (.slice e)) (hX:ev ρ X=.slice A n c) :
  RunV P ρ w ⟨d,.call { callee:=.builtin .len,args:=#[X],argTypes:=#[t] },ty,pos,after,g⟩ (.int .i64 n):=by
 simp [RunV,execOp,hX,resolve,invoke,builtin,Builtin.len_,run_underlying ht,goInt]
theorem r_max {X Y:Operand} {ts:Array TypeId} {k:IntKind} {x y:Int} (hX:ev ρ X=.int k x) (hY:ev ρ Y=.int k y) :
  RunV P ρ w ⟨d,.call { callee:=.builtin .max,args:=#[X,Y],argTypes:=ts },ty,pos,after,g⟩ (.int k (max x y)):=by
 have:(if y > x then y else x)=max x y:=by omega
 simp [RunV,execOp,hX,hY,resolve,invoke,builtin,Builtin.max_,Builtin.max2,this]
theorem r_mkif {X:Operand} {t:TypeId} {v:Value} (ht:P.concrete t=true) (hX:ev ρ X=v):RunV P ρ w ⟨d,.makeInterface t X,ty,pos,after,g⟩ (.iface t v):=by
 simp [RunV,execOp,hX,run_makeInterface,ht]
theorem r_fa {T f off:Nat} {X:Operand} {b o o':Nat} (hF:Fld P T f off) (ho:o + off=o') (hX:ev ρ X=.pointer (some ⟨b,o,none⟩)) :
  RunV P ρ w ⟨d,.fieldAddr T X f,ty,pos,after,g⟩ (.pointer (some ⟨b,o',none⟩)):=by
 obtain ⟨fs,h1,x,h2,rfl,i,h3,h4⟩:=hF
 subst ho
 have hadd:(⟨b,o,none⟩:Addr).add x.offset=⟨b,o + x.offset,none⟩:=by unfold Addr.add; split <;> simp_all
 simp [RunV,execOp,hX,Instr.fieldAt,run_underlying h1,h2,Instr.sureAddr,fieldPlace,sizeOf,typeInfo,h3,h4,hadd]

theorem run_loadCells (a:Addr) (ha:a.spot=none):∀ (vs:List Value) (i:Nat) (acc:Array Value),(∀ j v,vs[j]?=some v→w.cell? ⟨a.block,a.off + i + j,none⟩=some v) →
  (loadCellsFrom a i vs.length acc).run P w=.ok (acc++vs.toArray) w:=by
 intro vs
 induction vs with
 | nil=>intro i acc h; simp [loadCellsFrom]
 | cons v vs ih =>
  intro i acc h
  have h0:=h 0 v rfl
  have hadd:a.add i=⟨a.block,a.off + i,none⟩:=by
   obtain ⟨b,o,s⟩:=a; simp only at ha; subst ha; unfold Addr.add; split <;> simp_all
  simp only [List.length_cons,loadCellsFrom,load]
  have hc:w.cell? (a.add i)=some v:=by rw [hadd]; simpa using h0
  simp only [Sem.run_bind,Sem.run,hc,Result.andThen]
  rw [ih (i + 1) (acc.push v) (fun j u hu=>by have:=h (j + 1) u (by simpa using hu); rw [show a.off + (i + 1) + j=a.off + i + (j + 1) by omega]; exact this)]
  simp

theorem r_ld {T:Nat} {X:Operand} {b o:Nat} {v:Value} (hT:One P T) (hX:ev ρ X=.pointer (some ⟨b,o,none⟩)) (hc:w.cell? ⟨b,o,none⟩=some v) :
  RunV P ρ w ⟨d,.load T X,ty,pos,after,g⟩ v:=by
 obtain ⟨⟨x,h1,h2⟩,_⟩:=hT
 have:(isAgg T).run P w=.ok false w:=by
  unfold isAgg; simp only [Sem.run_bind,run_underlying h1,Result.andThen]
  cases x <;> first | exact h2.elim | rfl
 simp [RunV,execOp,hX,Instr.loadAt,Instr.sureAddr,loadVar,this,load,Sem.run,hc,Result.andThen]
theorem run_loadAgg {T n:Nat} {b o:Nat} {vs:List Value} (hT:Agg P T n) (hn:vs.length=n)
  (hc:∀ j v,vs[j]?=some v→w.cell? ⟨b,o + j,none⟩=some v):(loadVar T ⟨b,o,none⟩).run P w=.ok (.agg vs.toArray) w:=by
 obtain ⟨⟨x,h1,h2⟩,i,h3,h4⟩:=hT
 have:(isAgg T).run P w=.ok true w:=by
  unfold isAgg; simp only [Sem.run_bind,run_underlying h1,Result.andThen]
  cases x <;> first | exact h2.elim | rfl
 have hl:=run_loadCells (P:=P) (w:=w) ⟨b,o,none⟩ rfl vs 0 #[] (by simpa using hc)
 subst hn
 simp only [loadVar,Sem.run_bind,this,Result.andThen,if_true,loadCells,sizeOf,typeInfo,program]
 simp [Sem.run,h3,h4,hl]
theorem r_lda {T n:Nat} {X:Operand} {b o:Nat} {vs:List Value} (hT:Agg P T n) (hX:ev ρ X=.pointer (some ⟨b,o,none⟩)) (hn:vs.length=n)
  (hc:∀ j v,vs[j]?=some v→w.cell? ⟨b,o + j,none⟩=some v):RunV P ρ w ⟨d,.load T X,ty,pos,after,g⟩ (.agg vs.toArray):=by
 simp [RunV,execOp,hX,Instr.loadAt,Instr.sureAddr,run_loadAgg hT hn hc]
end runs

/-! ### addresses -/
def ad (a:Addr) (j:Nat):Addr:=⟨a.block,a.off + j,none⟩
def elemA (A:Option Addr) (n i:Nat):Addr:=match A with | some a=>⟨a.block,a.off + i * n,none⟩ | none=>⟨0,0,none⟩
def CellsAt (w:World) (a:Addr) (cs:List Value):Prop:=∀ j v,cs[j]?=some v→w.cell? (ad a j)=some v
theorem CellsAt.at {w:World} {a:Addr} {cs:List Value} {j:Nat} {v:Value} (h:CellsAt w a cs) (hv:cs[j]?=some v):w.cell? (ad a j)=some v:=h j v hv
theorem CellsAt.at0 {w:World} {a:Addr} {v:Value} {cs:List Value} (h:CellsAt w a (v::cs)) (hs:a.spot=none):w.cell? a=some v:=by
 have:=h 0 v rfl
 obtain ⟨b,o,s⟩:=a
 simp only at hs; subst hs
 exact this
theorem CellsAt.sub {w:World} {a:Addr} {cs vs:List Value} {j n:Nat} (h:CellsAt w a cs) (hv:(cs.drop j).take n=vs):CellsAt w (ad a j) vs:=by
 intro i v hi
 subst hv
 rw [List.getElem?_take] at hi
 split at hi
 ·rw [List.getElem?_drop] at hi
  have:=h (j + i) v hi
  simpa [ad,Nat.add_assoc] using this
 ·cases hi
theorem Blk.cells {w:World} {b:Nat} {e:TypeId} {cs:List Value} (h:Blk w b e cs):CellsAt w ⟨b,0,none⟩ cs:=fun j v hj=>by
 have:=h.cell hj
 simpa [ad] using this

/-! ### kinds -/
structure Kd (T:Type) where
 n:Nat
 r:World→List Value→T→Prop

def kI (k:IntKind):Kd Int:=⟨1,fun _ cs d=>cs=[.int k d]⟩
def nth {T:Type} [Inhabited T] (d:List T) (i:Int):T:=d.getD i.toNat default

/-- The elements of a slice. -/
def SlC {T : Type} [Inhabited T] (k : Kd T) (w : World) (A : Option Addr) (cap : Nat) (d : List T) : Prop :=
  d.length ≤ cap ∧ ∀ i : Nat, i < d.length → (∃ a, A = some a ∧ a.spot = none) ∧ ∃ cs, cs.length = k.n ∧ CellsAt w (elemA A k.n i) cs ∧ k.r w cs (d.getD i default)
theorem SlC.nil {T:Type} [Inhabited T] (k:Kd T) (w:World) (A:Option Addr) (c:Nat):SlC k w A c []:=⟨Nat.zero_le _,fun i h=>by simp at h⟩

/-- The cells that a stable fact names lie outside L, and so are the same in every world that it speaks of. -/
theorem Stb.cells {L : List Nat} {w : World} {a : Addr} {n : Nat} (hn : 0 < n) {ψ : World → List Value → Prop}
    (h : Stb L w (fun w => ∃ cs, cs.length = n ∧ CellsAt w a cs ∧ ψ w cs)) : ∃ cs, cs.length = n ∧ Stb L w (fun w => CellsAt w a cs ∧ ψ w cs) := by
  obtain ⟨cs, hl, hc, _⟩ := h.now
  have hlt : a.block < w.heap.size := by
    have h0 : w.cell? (ad a 0) = some cs[0] := hc 0 _ (by simp)
    unfold World.cell? at h0
    cases hb : w.heap[(ad a 0).block]? with
    | none => rw [hb] at h0; cases h0
    | some o => exact (Array.getElem?_eq_some_iff.1 hb).1
  have hnot : a.block ∉ L := by
    intro hm
    have := h { w with heap := w.heap.setIfInBounds a.block (.map #[] 0) } (fun k hk hn => by
      have : a.block ≠ k := fun e => hn (e ▸ hm)
      simp [Array.getElem?_setIfInBounds_ne this])
    obtain ⟨cs', hl', hc', _⟩ := this
    have h0 := hc' 0 _ (show cs'[0]? = some (cs'[0]'(by omega)) by simp)
    simp [World.cell?, ad, hlt] at h0
  refine ⟨cs, hl, fun w' ha => ?_⟩
  obtain ⟨cs', hl', hc', hψ⟩ := h w' ha
  have : cs' = cs := by
    apply List.ext_getElem? 
    intro j
    by_cases hj : j < n
    · have h1 := hc j _ (show cs[j]? = some (cs[j]'(by omega)) by simp)
      have h2 := hc' j _ (show cs'[j]? = some (cs'[j]'(by omega)) by simp)
      have e : w'.cell? (ad a j) = w.cell? (ad a j) := World.cell?_of_block (w := w) (ha _ hlt hnot)
      rw [e, h1] at h2
      simp only [Option.some.injEq] at h2
      simp [show j < cs.length by omega, show j < cs'.length by omega, h2]
    · rw [List.getElem?_eq_none (by omega), List.getElem?_eq_none (by omega)]
  subst this
  exact ⟨hc', hψ⟩

theorem Stb.elem {T:Type} [Inhabited T] {k:Kd T} {L:List Nat} {w:World} {A:Option Addr} {c:Nat} {d:List T} (hn:0<k.n) (h:Stb L w (fun w=>SlC k w A c d)) (i:Int) (h0:0≤i) (h1:i<d.length) :
  ∃ cs,cs.length=k.n∧Stb L w (fun w=>CellsAt w (elemA A k.n i.toNat) cs∧k.r w cs (nth d i)) :=
 Stb.cells hn (h.mono fun w hw=>(hw.2 i.toNat (by omega)).2)

section runs
variable {P : Program} {ρ : Env} {w : World} {d : Option Nat} {ty : TypeId} {pos : String} {after : Array Edge} {g : Option (Nat × Bool)}
theorem r_ld' {T:Nat} {X:Operand} {a:Addr} {v:Value} (hT:One P T) (hX:ev ρ X=.pointer (some a)) (hs:a.spot=none) (hc:w.cell? a=some v) :
  RunV P ρ w ⟨d,.load T X,ty,pos,after,g⟩ v:=by
 obtain ⟨b,o,s⟩:=a
 simp only at hs; subst hs
 exact r_ld hT hX hc
theorem elemA_spot (A:Option Addr) (n i:Nat):(elemA A n i).spot=none:=by cases A <;> rfl
theorem r_ia {T E n bytes:Nat} {z:Value} {X I:Operand} {A:Option Addr} {len c:Nat} {k:IntKind} {i:Int} (hT:Slc P T E n bytes z) (hX:ev ρ X=.slice A len c) (hI:ev ρ I=.int k i)
  (hA:∃ a,A=some a∧a.spot=none) (h0:0≤i) (h1:i<len):RunV P ρ w ⟨d,.indexAddr T X I,ty,pos,after,g⟩ (.pointer (some (elemA A n i.toNat))):=by
 obtain ⟨⟨b,o,s⟩,rfl,hs⟩:=hA
 simp only at hs; subst hs
 obtain ⟨hu,j,h2,h3,h4,h5⟩:=hT
 have hadd:(⟨b,o,none⟩:Addr).add (i.toNat * n)=⟨b,o + i.toNat * n,none⟩:=by unfold Addr.add; split <;> simp_all
 simp [RunV,execOp,hX,hI,Instr.indexAt,asIntOf,run_underlying hu,sizeOf,typeInfo,h2,h4,h0,h1,elemA,hadd]
end runs

def setL:List Value→Nat→List Value→List Value
 | cs,_,[]=>cs
 | cs,o,v::vs=>setL (cs.set o v) (o + 1) vs
theorem setL_length:∀ (vs:List Value) (cs:List Value) (o:Nat),(setL cs o vs).length=cs.length
 | [],_,_=>rfl
 | v::vs,cs,o=>by rw [setL,setL_length vs]; simp
def oneC:Value→Bool
 | .agg _ | .tuple _=>false
 | _=>true

theorem run_store1 {P:Program} {w:World} {b o:Nat} {e:TypeId} {cs:List Value} (hB:Blk w b e cs) (v:Value) (h1:oneC v=true) (ho:o<cs.length) :
  (store ⟨b,o,none⟩ v).run P w=.ok () (w.setCell ⟨b,o,none⟩ v):=by
 have hc:w.cell? ⟨b,o,none⟩=some cs[o]:=hB.cell (by simp [ho])
 have hf:w.frozen? ⟨b,o,none⟩=false:=hB.frozen
 unfold store
 cases v <;> first | (simp [oneC] at h1; done) | simp [Sem.run,hc,hf]

theorem run_storeL {P:Program} {b o:Nat} {e:TypeId}:∀ (vs:List Value) (i:Nat) (cs:List Value) (w:World),Blk w b e cs→vs.all oneC=true→o + i + vs.length≤cs.length →
  ∃ w',(storeCells ⟨b,o,none⟩ vs i).run P w=.ok () w'∧Fr [b] w w'∧Blk w' b e (setL cs (o + i) vs):=by
 intro vs
 induction vs with
 | nil=>intro i cs w hB _ _; exact ⟨w,rfl,Fr.refl _ _,hB⟩
 | cons v vs ih =>
  intro i cs w hB h1 hl
  simp only [List.all_cons,Bool.and_eq_true,List.length_cons] at h1 hl
  have hadd:(⟨b,o,none⟩:Addr).add i=⟨b,o + i,none⟩:=by unfold Addr.add; split <;> simp_all
  have hr:=run_store1 (P:=P) hB v h1.1 (show o + i<cs.length by omega)
  obtain ⟨w',h2,h3,h4⟩:=ih (i + 1) (cs.set (o + i) v) (w.setCell ⟨b,o + i,none⟩ v) (hB.set v) h1.2 (by simp; omega)
  refine ⟨w',?_,(Fr.setCell w ⟨b,o + i,none⟩ v).trans h3,h4⟩
  simp only [storeCells,hadd]
  rw [Sem.run_bind,hr]
  exact h2

/-- So many cells. -/
def Sz (P : Program) (T : TypeId) (n : Nat) : Prop := ∃ i, P.info? T = some i ∧ i.size = n

/-- What a call to this function is. -/
def CF (P : Program) (f : FuncId) : Prop := ∀ args w, (callFunc f args).run P w = .ok (.enter f args) w

section ops
variable {P : Program} {r : Option Nat} {N : Nat} {ops : Array Oper} {Q : Post} {rest : List Oper} {ρ : Env} {ds : List Deferred} {w : World}
variable {d : Nat} {ty : TypeId} {pos : String} {after : Array Edge} {g : Option (Nat × Bool)}

theorem o_v {op:Op} {v:Value} (hr:RunV P ρ w ⟨some d,op,ty,pos,after,g⟩ v) (hg:wantE ops ρ g=true) (hp:plainOp op=true) (hd:Nat.blt d N=true)
  (h:EO P r N ops Q rest (upd ρ d v) ds w):EO P r N ops Q (⟨some d,op,ty,pos,after,g⟩::rest) ρ ds w:=eo_val hg hp hd hr h
theorem o_no {op:Op} (hg:wantE ops ρ g=false) (hd:Nat.blt d N=true) (h:EO P r N ops Q rest (upd ρ d undef) ds w) :
  EO P r N ops Q (⟨some d,op,ty,pos,after,g⟩::rest) ρ ds w:=eo_no (o:=⟨some d,op,ty,pos,after,g⟩) hg hd h
theorem o_box {T:TypeId} {X:Operand} {cs:List Value} (hX:(ev ρ X).cells=cs.toArray) (hg:wantE ops ρ g=true) (hd:Nat.blt d N=true)
  (h:∀ b w',b=w.heap.size→Ext w w'→Blk w' b T cs→EO P r N ops Q rest (upd ρ d (.pointer (some ⟨b,0,none⟩))) ds w') :
  EO P r N ops Q (⟨some d,.box T X,ty,pos,after,g⟩::rest) ρ ds w:=by
 refine eo_val (o:=⟨some d,.box T X,ty,pos,after,g⟩) hg rfl hd ?_ (h w.heap.size (w.alloc (.cells cs.toArray T)) rfl (Ext.alloc _ _) (Blk.alloc _ _ _))
 simp only [execOp,Instr.box,newVar,newRow,newObj,hX]
 rfl
theorem o_alloc {T:TypeId} {z:Value} {cs:List Value} (hz:Zero P T z) (hc:z.cells=cs.toArray) (hg:wantE ops ρ g=true) (hd:Nat.blt d N=true)
  (h:∀ b w',b=w.heap.size→Ext w w'→Blk w' b T cs→EO P r N ops Q rest (upd ρ d (.pointer (some ⟨b,0,none⟩))) ds w') :
  EO P r N ops Q (⟨some d,.alloc T,ty,pos,after,g⟩::rest) ρ ds w:=by
 obtain ⟨i,h1,h2⟩:=hz
 refine eo_val (o:=⟨some d,.alloc T,ty,pos,after,g⟩) hg rfl hd ?_ (h w.heap.size (w.alloc (.cells cs.toArray T)) rfl (Ext.alloc _ _) (Blk.alloc _ _ _))
 have hz:(zeroValue T).run P w=.ok z w:=by simp [zeroValue,typeInfo,h1,h2,program,Sem.run,Result.andThen]
 simp only [execOp,Instr.alloc,Sem.run_bind,hz,Result.andThen,newVar,newRow,newObj,hc]
 rfl
theorem o_store {T:TypeId} {X Y:Operand} {b o:Nat} {e:TypeId} {cs vs:List Value} (hX:ev ρ X=.pointer (some ⟨b,o,none⟩)) (hB:Blk w b e cs) (hY:(ev ρ Y).cells=vs.toArray)
  (hT:Sz P T vs.length) (h1:vs.all oneC=true) (ho:Nat.ble (o + vs.length) cs.length=true) (hg:wantE ops ρ g=true)
  (h:∀ w',Fr [b] w w'→Blk w' b e (setL cs o vs)→EO P r N ops Q rest ρ ds w') :
  EO P r N ops Q (⟨none,.store T X Y,ty,pos,after,g⟩::rest) ρ ds w:=by
 obtain ⟨i,h2,h3⟩:=hT
 obtain ⟨w',hr,hf,hb⟩:=run_storeL (P:=P) (o:=o) vs 0 cs w hB h1 (by have:=Nat.le_of_ble_eq_true ho; omega)
 refine eo_unit (o:=⟨none,.store T X Y,ty,pos,after,g⟩) hg rfl rfl ?_ (h w' hf hb)
 simp [execOp,hX,Instr.storeAt,Instr.sureAddr,storeVar,hY,sizeOf,typeInfo,h2,h3,hr,program,Sem.run,Result.andThen]

theorem o_call {f:FuncId} {as:List Operand} {vs:List Value} {ts:Array TypeId} {post:Value→World→Prop} (hf:CF P f) (ha:as.map (ev ρ)=vs)
  (hc:Calls P f vs.toArray w (Ret post)) (hg:wantE ops ρ g=true) (hd:Nat.blt d N=true)
  (h:∀ v w',post v w'→EO P r N ops Q rest (upd ρ d v) ds w') :
  EO P r N ops Q (⟨some d,.call { callee:=.value (.func f),args:=as.toArray,argTypes:=ts },ty,pos,after,g⟩::rest) ρ ds w:=by
 refine eo_enter (o:=⟨some d,.call { callee:=.value (.func f),args:=as.toArray,argTypes:=ts },ty,pos,after,g⟩) hg rfl hd ?_ hc
  (fun v w'' ⟨u,e,hp⟩=>by cases e; exact h _ _ hp) (fun c w'' ⟨u,e,hp⟩=>by cases e) (fun w'' ⟨u,e,hp⟩=>by cases e)
 have:=hf vs.toArray w
 simp [execOp,resolve,ev,Deferred.ofValue,invoke,ha,this]
end ops

def envs (ρ:Env):List (Nat × Value)→Env
 | []=>ρ
 | (t,v)::r=>upd (envs ρ r) t v
def AllEq (ρ:Env):List (Nat × Value)→Prop
 | []=>True
 | (t,v)::r=>ρ t=v∧AllEq ρ r
theorem upd_self {ρ ρ':Env} {t:Nat} {v:Value} (h:ρ t=v) (e:ρ=ρ'):ρ=upd ρ' t v:=by
 subst e
 funext s
 by_cases hs:s=t
 ·subst hs; rw [upd_same,h]
 ·rw [upd_ne _ _ hs]
theorem envs_eq {ρ ρ':Env} (e:ρ=ρ'):∀ {l:List (Nat × Value)},AllEq ρ l→ρ=envs ρ' l
 | [],_=>e
 | (t,v)::r,h=>upd_self h.1 (envs_eq e h.2)
theorem envs_self {ρ:Env} {l:List (Nat × Value)} (h:AllEq ρ l):ρ=envs ρ l:=envs_eq rfl h
/-- D's from ρ', the others from ρ. -/
def ovr (D : List Nat) (ρ' ρ : Env) : Env := fun t => bif D.elem t then ρ' t else ρ t
theorem ovr_self {D:List Nat} {ρ ρ0:Env} {l:List (Nat × Value)} (h:∀ t,D.elem t=false→ρ t=ρ0 t) (ha:AllEq ρ l):ρ=envs (ovr D ρ ρ0) l:=by
 refine envs_eq ?_ ha
 funext t
 unfold ovr
 cases e:D.elem t with
 | true=>rfl
 | false=>simp [h t e]

def dstOf (ops:Array Oper) (j:Nat):Option Nat:=(ops[j]?).bind (·.dst)
/-- A: for each operation some that must come before it. -/
def okA (ops : Array Oper) (A : List (List Nat)) : Bool :=
  (List.range ops.size).all fun i => (A.getD i []).all fun j =>
    match ops[i]? with
    | some o => o.after.any fun e => Region.binds .any e && (e.on == j || (A.getD e.on []).contains j)
    | none => false
/-- No operation that may have come by now, but for those that come behind i, writes t. -/
def oldB (ops : Array Oper) (A : List (List Nat)) (i t : Nat) : Bool :=
  (List.range ops.size).all fun j => dstOf ops j != some t || j == i || (A.getD j []).contains i
/-- The tail's operations come in their order. -/
def chainB (A : List (List Nat)) : List Nat → Bool
  | [] => true
  | [_] => true
  | a :: b :: r => (A.getD b []).contains a && chainB A (b :: r)
section
variable {P : Program} {r : Option Nat} {N : Nat} {ops : Array Oper} {Q : Post} {ρ0 : Env} {ds : List Deferred} {w0 : World}

/-- What is asked of one operation. -/
def OneOp (P : Program) (r : Option Nat) (N : Nat) (ops : Array Oper) (ds : List Deferred) (o : Oper) (ρ : Env) (w : World) (R : Value → World → Prop) : Prop :=
  EO P r N ops (fun e ρ' ds' w' => e = .normal ∧ ds' = ds ∧ ∃ v, ρ' = put ρ o.dst v ∧ R v w') [o] ρ ds w

structure St (ops:Array Oper) (A:List (List Nat)) (T:List Nat) (S:Nat→Value→World→Prop) (I:Nat→World→Prop) (LL:List Nat) (N:Nat) (ρ0:Env) (ds:List Deferred) (w0:World)
  (listed:Array Bool) (a:Act) (w:World):Prop where
 size:a.tmps.size=N
 dsz:a.defers=ds
 len:listed.size=ops.size
 rel:Fr LL w0 w
 ext:(∀ x,T.head?=some x→listed.getD x false=false)→Ext w0 w
 env:∀ t,(∀ j,dstOf ops j=some t→listed.getD j false=false)→envOf a t=ρ0 t
 clo:∀ i,listed.getD i false=true→∀ j∈A.getD i [],listed.getD j false=true
 spec:∀ i t,listed.getD i false=true→dstOf ops i=some t→S i (envOf a t) w
 tail:∃ k,k≤T.length∧I k w∧(∀ m x,T[m]?=some x→(listed.getD x false=true↔m<k))

theorem getD_set_self {l:Array Bool} {i:Nat} (h:i<l.size):(l.setIfInBounds i true).getD i false=true:=by simp [h]
theorem getD_set_other {l:Array Bool} {i j:Nat} (h:j≠i):(l.setIfInBounds i true).getD j false=l.getD j false:=by
 simp [Array.getElem?_setIfInBounds_ne (Ne.symm h)]

/-- Each temporary is written by one operation. -/
def onceB (ops : Array Oper) : Bool :=
  (List.range ops.size).all fun i => (List.range ops.size).all fun j => i == j || dstOf ops i == none || dstOf ops i != dstOf ops j

theorem okA_spec {A:List (List Nat)} (h:okA ops A=true) {i j:Nat} {o:Oper} (hi:ops[i]?=some o) (hj:j∈A.getD i []) :
  ∃ e∈o.after,Region.binds .any e=true∧(e.on=j∨j∈A.getD e.on []):=by
 have hlt:i<ops.size:=(Array.getElem?_eq_some_iff.1 hi).1
 have h1:=List.all_eq_true.1 h i (by simp [hlt])
 have h2:=List.all_eq_true.1 h1 j hj
 rw [hi] at h2
 obtain ⟨e,he,hb⟩:=Array.any_eq_true'.1 h2
 simp only [Bool.and_eq_true,Bool.or_eq_true,beq_iff_eq,List.contains_iff_mem] at hb
 exact ⟨e,he,hb.1,hb.2⟩

theorem onceB_spec (h:onceB ops=true) {i j t:Nat} (hi:dstOf ops i=some t) (hj:dstOf ops j=some t):i=j:=by
 have hlt:∀ k,dstOf ops k=some t→k<ops.size:=fun k hk=>by
  unfold dstOf at hk
  cases ho:ops[k]? with
  | none=>rw [ho] at hk; cases hk
  | some o=>exact (Array.getElem?_eq_some_iff.1 ho).1
 have h1:=List.all_eq_true.1 (List.all_eq_true.1 h i (by simp [hlt i hi])) j (by simp [hlt j hj])
 simpa [hi,hj] using h1

theorem chainB_spec {A:List (List Nat)}:∀ {T:List Nat},chainB A T=true→∀ m x y,T[m]?=some x→T[m + 1]?=some y→x∈A.getD y []:=by
 intro T
 induction T with
 | nil=>intro _ m x y h; simp at h
 | cons a T ih =>
  intro h m x y hx hy
  cases T with
  | nil=>simp at hy
  | cons b T =>
   simp only [chainB,Bool.and_eq_true,List.contains_iff_mem] at h
   cases m with
   | zero=>simp at hx hy; subst hx; subst hy; exact h.1
   | succ m=>exact ih h.2 m x y (by simpa using hx) (by simpa using hy)

theorem mem_ready' {listed:Array Bool} (hl:listed.size=ops.size) {i:Nat} (h:i∈Region.ready .any ops listed) :
  listed.getD i false=false∧∃ o,ops[i]?=some o∧∀ e∈o.after,Region.binds .any e=true→listed.getD e.on false=true:=by
 unfold Region.ready at h
 simp only [List.mem_filter,List.mem_range,Bool.and_eq_true,Bool.not_eq_true'] at h
 obtain ⟨hi,h1,h2⟩:=h
 refine ⟨?_,?_⟩
 ·have:i<listed.size:=by omega
  simpa [this] using h1
 ·cases ho:ops[i]? with
  | none=>rw [ho] at h2; simp at h2
  | some o =>
   rw [ho] at h2
   refine ⟨o,rfl,fun e he hb=>?_⟩
   simp only [Option.map_some,Option.getD_some] at h2
   have:=Array.all_eq_true'.1 h2 e he
   simpa [hb] using this

theorem St.step {A:List (List Nat)} {T:List Nat} {S:Nat→Value→World→Prop} {I:Nat→World→Prop} {LL:List Nat} {M:Nat→List Nat}
  (hA:okA ops A=true) (hO:onceB ops=true) (hT:chainB A T=true) (hN:T.Nodup)
  (hS:∀ i v w w',Ext w w'→S i v w→S i v w') (hM:∀ k,∀ m∈M k,m∈LL) (hS2:∀ k x i v w w',T[k]?=some x→i≠x→x∉A.getD i []→Fr (M k) w w'→S i v w→S i v w') (hI:∀ k w w',Ext w w'→I k w→I k w')
  (hqu:∀ (i:Nat) (o:Oper),ops[i]?=some o→i∉T→∀ ρ w,Fr LL w0 w→(∀ t,T.head?=some t→(A.getD t []).elem i=true→Ext w0 w)→(∀ j∈A.getD i [],∀ t,dstOf ops j=some t→S j (ρ t) w)→(∀ t,oldB ops A i t=true→ρ t=ρ0 t) →
   OneOp P r N ops ds o ρ w (fun v w'=>Ext w w'∧S i v w'))
  (hta:∀ (k i:Nat) (o:Oper),T[k]?=some i→ops[i]?=some o→∀ ρ w,Fr LL w0 w→(k=0→Ext w0 w)→I k w→(∀ j∈A.getD i [],∀ t,dstOf ops j=some t→S j (ρ t) w)→(∀ t,oldB ops A i t=true→ρ t=ρ0 t) →
   OneOp P r N ops ds o ρ w (fun v w'=>Fr (M k) w w'∧I (k + 1) w'∧S i v w'))
  {K:Act→World→Prop} {listed:Array Bool} {a:Act} {w:World} (hs:St ops A T S I LL N ρ0 ds w0 listed a w) {i:Nat} (hi:i∈Region.ready .any ops listed)
  (hd:∀ (i:Nat) (o:Oper),ops[i]?=some o→okd N o.dst=true)
  (hK:∀ a' w',St ops A T S I LL N ρ0 ds w0 (listed.setIfInBounds i true) a' w'→K a' w'):wpOpIn (FW r) 0 P ops (lift N Q) i K a w:=by
 obtain ⟨hnl,o,ho,hall⟩:=mem_ready' hs.len hi
 have hlt:i<ops.size:=(Array.getElem?_eq_some_iff.1 ho).1
 have hanc:∀ j∈A.getD i [],listed.getD j false=true:=fun j hj=>by
  obtain ⟨e,he,hb,h⟩:=okA_spec hA ho hj
  rcases h with rfl | h
  ·exact hall e he hb
  ·exact hs.clo _ (hall e he hb) j h
 have hold:∀ t,oldB ops A i t=true→envOf a t=ρ0 t:=fun t ht=>hs.env t fun j hj=>by
  have hjlt:j<ops.size:=by
   unfold dstOf at hj
   cases hoj:ops[j]? with
   | none=>rw [hoj] at hj; cases hj
   | some o=>exact (Array.getElem?_eq_some_iff.1 hoj).1
  have h1:=List.all_eq_true.1 ht j (by simp [hjlt])
  simp only [Bool.or_eq_true,bne_iff_ne,ne_eq,beq_iff_eq,List.contains_iff_mem,hj,not_true_eq_false,false_or] at h1
  rcases h1 with rfl | h1
  ·exact hnl
  ·cases hl:listed.getD j false with
   | false=>rfl
   | true=>exact absurd (hs.clo j hl i h1) (by rw [hnl]; simp)
 have hanc':∀ j∈A.getD i [],∀ t,dstOf ops j=some t→S j (envOf a t) w:=fun j hj t ht=>hs.spec j t (hanc j hj) ht
 obtain ⟨k,hk,hIk,hTk⟩:=hs.tail
 -- the operation,once
 have fin:∀ (R:Value→World→Prop),OneOp P r N ops ds o (envOf a) w R →
   (∀ a' w' v,a'.tmps.size=N→a'.defers=ds→envOf a'=put (envOf a) o.dst v→R v w'→St ops A T S I LL N ρ0 ds w0 (listed.setIfInBounds i true) a' w')→wpOpIn (FW r) 0 P ops (lift N Q) i K a w:=by
  intro R hone hcont
  have h:=hone a hs.size rfl hs.dsz
  unfold wpOpIn
  simp only [ho]
  unfold wpListIn at h
  split
  ·rename_i hw
   rw [if_pos hw] at h
   -- the rest of the list is empty
   have conv:∀ a' w',wpListIn (FW r) 0 P ops (lift N (fun e ρ' ds' w'=>e=.normal∧ds'=ds∧∃ v,ρ'=put (envOf a) o.dst v∧R v w')) [] a' w'→K a' w':=by
    rintro a' w' ⟨h1,_,h2,v,h3,h4⟩
    exact hK _ _ (hcont a' w' v h1 h2 h3 h4)
   unfold Oper.wpIn at h ⊢
   refine ⟨h.1,?_⟩
   have h2:=h.2
   generalize (o.semAt (FW r).round a.eval).run P w=x at h2 ⊢
   cases x with
   | ok nx w1 =>
    cases nx <;> simp only [Oper.uponIn] at h2 ⊢ <;>
     first
      | exact conv _ _ h2
      | exact ⟨h2.1,CallsIn.mono h2.2 (fun e w'' he=>by
        cases e with
        | returned v=>exact conv _ _ he
        | panicked c=>exact absurd he.2.1 (by simp)
        | outgrown=>obtain ⟨_,_,_,hh,_⟩:=he; cases hh)⟩
      | exact ⟨h2.1,RowsIn.mono h2.2 (fun _ _ he=>conv _ _ he)⟩
      | exact ⟨h2.1,RoundIn.mono h2.2 (fun e w'' he=>by
        cases e with
        | returned v=>exact conv _ _ he
        | panicked c=>exact absurd he.2.1 (by simp)
        | outgrown=>obtain ⟨_,_,_,hh,_⟩:=he; cases hh)⟩
   | halt x w1 =>
    cases x <;> simp only [Oper.uponIn] at h2 ⊢
    exact absurd h2.2.1 (by simp)
  ·rename_i hw
   rw [if_neg hw] at h
   obtain ⟨h0,h1,_,h2,v,h3,h4⟩:=h
   exact ⟨h0,hK _ _ (hcont _ w v h1 h2 h3 h4)⟩
 -- what is kept
 have mk:∀ a' w' v,a'.tmps.size=N→a'.defers=ds→envOf a'=put (envOf a) o.dst v→Fr LL w w'→((∀ x,T.head?=some x→(listed.setIfInBounds i true).getD x false=false)→Ext w0 w')→(∀ j u,j≠i→listed.getD j false=true→S j u w→S j u w')→S i v w'→(∃ k,k≤T.length∧I k w'∧(∀ m x,T[m]?=some x→((listed.setIfInBounds i true).getD x false=true↔m<k))) →
   St ops A T S I LL N ρ0 ds w0 (listed.setIfInBounds i true) a' w':=by
  intro a' w' v h1 h2 h3 h4 hxt hpres h5 h6
  have hdi:dstOf ops i=o.dst:=by simp [dstOf,ho]
  refine ⟨h1,h2,by simp [hs.len],hs.rel.trans h4,hxt,?_,?_,?_,h6⟩
  ·intro t ht
   rw [h3]
   have hne:o.dst≠some t:=fun e=>by
    have:=ht i (by rw [hdi,e])
    rw [getD_set_self (by rw [hs.len]; exact hlt)] at this; cases this
   have:put (envOf a) o.dst v t=envOf a t:=by
    cases hod:o.dst with
    | none=>rfl
    | some d=>exact upd_ne _ _ (fun e=>hne (by rw [hod,e]))
   rw [this]
   refine hs.env t fun j hj=>?_
   have hji:j≠i:=fun e=>hne (by rw [← hdi,← e]; exact hj)
   rw [← getD_set_other hji]; exact ht j hj
  ·intro j hj x hx
   by_cases hji:j=i
   ·subst hji
    have h7:=hanc x hx
    by_cases hxi:x=j
    ·subst hxi; exact hj
    ·rw [getD_set_other hxi]; exact h7
   ·rw [getD_set_other hji] at hj
    have h7:=hs.clo j hj x hx
    by_cases hxi:x=i
    ·subst hxi; exact getD_set_self (by rw [hs.len]; exact hlt)
    ·rw [getD_set_other hxi]; exact h7
  ·intro j t hj ht
   rw [h3]
   by_cases hji:j=i
   ·subst hji
    rw [hdi] at ht
    rw [ht]
    show S j (upd _ t v t) w'
    rw [upd_same]; exact h5
   ·rw [getD_set_other hji] at hj
    have hne:o.dst≠some t:=fun e=>hji (onceB_spec hO ht (by rw [hdi,e]))
    have:put (envOf a) o.dst v t=envOf a t:=by
     cases hod:o.dst with
     | none=>rfl
     | some d=>exact upd_ne _ _ (fun e=>hne (by rw [hod,e]))
    rw [this]
    exact hpres _ _ hji hj (hs.spec j t hj ht)
 by_cases hiT:i∈T
 ·obtain ⟨m,hm,hmi⟩:=List.getElem_of_mem hiT
  have hmi':T[m]?=some i:=by rw [List.getElem?_eq_getElem hm,hmi]
  have hmk:¬ m<k:=fun h=>by rw [(hTk m i hmi').2 h] at hnl; cases hnl
  have hmk':m=k:=by
   rcases Nat.lt_or_ge k m with h | h
   · -- T[k] is before i and is listed: against k
    have step:∀ n,k≤n→n<m→∀ x,T[n]?=some x→listed.getD x false=true:=by
     intro n hn hnm
     -- downwards from m
     have:∀ d n,n + d + 1=m→∀ x,T[n]?=some x→listed.getD x false=true:=by
      intro d
      induction d with
      | zero =>
       intro n hn x hx
       exact hanc x (chainB_spec hT n x i hx (by rw [show n + 1=m by omega]; exact hmi'))
      | succ d ih =>
       intro n hn x hx
       have hlt':n + 1<T.length:=by omega
       have hy:T[n + 1]?=some T[n + 1]:=List.getElem?_eq_getElem hlt'
       exact hs.clo _ (ih (n + 1) (by omega) _ hy) x (chainB_spec hT n x _ hx hy)
     exact this (m - n - 1) n (by omega)
    have hklt:k<T.length:=by omega
    have hx:T[k]?=some T[k]:=List.getElem?_eq_getElem hklt
    have:=(hTk k _ hx).1 (step k (Nat.le_refl _) h _ hx)
    omega
   ·omega
  subst hmk'
  refine fin _ (hta m i o hmi' ho _ w hs.rel (fun e=>hs.ext fun x hx=>by
   subst e
   cases T with
   | nil=>cases hx
   | cons y T=>simp at hx hmi'; subst hx; subst hmi'; exact hnl) hIk hanc' hold) fun a' w' v h1 h2 h3 ⟨h4,h5,h6⟩=>mk a' w' v h1 h2 h3 (h4.mono (hM m)) (fun hx=>(by
   exfalso
   cases T with
   | nil=>simp at hmi'
   | cons y T =>
    have h7:=hx y rfl
    cases m with
    | zero=>simp at hmi'; subst hmi'; rw [getD_set_self (by rw [hs.len]; exact hlt)] at h7; cases h7
    | succ m =>
     have h8:=(hTk 0 y rfl).2 (by omega)
     by_cases hyi:y=i
     ·subst hyi; rw [hnl] at h8; cases h8
     ·rw [getD_set_other hyi,h8] at h7; cases h7)) (fun j u hj hl=>hS2 m i j u _ _ hmi' hj (fun hm=>by rw [hs.clo j hl i hm] at hnl; cases hnl) h4) h6 ⟨m + 1,by omega,h5,fun n x hx=>?_⟩
  by_cases hxi:x=i
  ·subst hxi
   rw [getD_set_self (by rw [hs.len]; exact hlt)]
   have hn:n=m:=by
    have hnlt:n<T.length:=(List.getElem?_eq_some_iff.1 hx).1
    exact (List.getElem_inj hN).1 (by rw [hmi]; exact (List.getElem?_eq_some_iff.1 hx).2)
   simp [hn]
  ·rw [getD_set_other hxi,hTk n x hx]
   have hn:n≠m:=fun e=>hxi (by subst e; rw [hmi'] at hx; cases hx; rfl)
   omega
 ·refine fin _ (hqu i o ho hiT _ w hs.rel (fun t ht he=>hs.ext fun x hx=>by
   rw [hx] at ht; cases ht
   cases hl:listed.getD t false with
   | false=>rfl
   | true=>rw [hs.clo t hl i (by simpa using he)] at hnl; cases hnl) hanc' hold) fun a' w' v h1 h2 h3 ⟨h4,h5⟩=>mk a' w' v h1 h2 h3 (Fr.ext h4) (fun hx=>(hs.ext fun x hxx=>(by
   have h7:=hx x hxx
   have hxi:x≠i:=fun e=>hiT (by rw [← e]; cases T with
    | nil=>cases hxx
    | cons y T=>simp at hxx; subst hxx; simp)
   rwa [getD_set_other hxi] at h7)).trans h4) (fun j u _ _=>hS j u _ _ h4) h5 ⟨k,hk,hI k _ _ h4 hIk,fun n x hx=>?_⟩
  have hxi:x≠i:=fun e=>hiT (e ▸ List.mem_of_getElem? hx)
  rw [getD_set_other hxi]; exact hTk n x hx

theorem any_of_st {A:List (List Nat)} {T:List Nat} {S:Nat→Value→World→Prop} {I:Nat→World→Prop} {LL:List Nat}
  (hstep:∀ (K:Act→World→Prop) (listed:Array Bool) (a:Act) (w:World),St ops A T S I LL N ρ0 ds w0 listed a w→∀ i∈Region.ready .any ops listed,
   (∀ a' w',St ops A T S I LL N ρ0 ds w0 (listed.setIfInBounds i true) a' w'→K a' w')→wpOpIn (FW r) 0 P ops (lift N Q) i K a w)
  (hend:∀ listed a w,Region.ready .any ops listed=[]→St ops A T S I LL N ρ0 ds w0 listed a w→lift N Q .normal a w) :
  ∀ (fuel:Nat) (listed:Array Bool) (a:Act) (w:World),((List.range ops.size).filter fun i=>!listed.getD i false).length≤fuel→St ops A T S I LL N ρ0 ds w0 listed a w→wpAnyIn (FW r) 0 P .any ops (lift N Q) fuel listed a w:=by
 intro fuel
 induction fuel with
 | zero =>
  intro listed a w hf hs
  have hr:Region.ready .any ops listed=[]:=by
   cases hc:Region.ready .any ops listed with
   | nil=>rfl
   | cons i l =>
    have hi:i∈Region.ready .any ops listed:=by rw [hc]; simp
    obtain ⟨h1,o,ho,_⟩:=mem_ready' hs.len hi
    have:i∈(List.range ops.size).filter fun i=>!listed.getD i false:=by
     simp only [List.mem_filter,List.mem_range]
     exact ⟨(Array.getElem?_eq_some_iff.1 ho).1,by rw [h1]; rfl⟩
    have:=List.length_pos_of_mem this
    omega
  exact ⟨hr,hend _ _ _ hr hs⟩
 | succ fuel ih =>
  intro listed a w hf hs
  refine ⟨fun hr=>hend _ _ _ hr hs,fun i hi=>hstep _ listed a w hs i hi fun a' w' hs'=>ih _ a' w' ?_ hs'⟩
  obtain ⟨h1,o,ho,_⟩:=mem_ready' hs.len hi
  have hlt:i<ops.size:=(Array.getElem?_eq_some_iff.1 ho).1
  have key:∀ (l:List Nat),l.Nodup→i∈l→(l.filter fun j=>!(listed.setIfInBounds i true).getD j false).length + 1≤(l.filter fun j=>!listed.getD j false).length:=by
   intro l
   induction l with
   | nil=>intro _ h; cases h
   | cons x l ihl =>
    intro hnd hm
    simp only [List.nodup_cons] at hnd
    by_cases hx:x=i
    ·subst hx
     have hrest:(l.filter fun j=>!(listed.setIfInBounds x true).getD j false)=l.filter fun j=>!listed.getD j false :=
      List.filter_congr fun j hj=>by rw [getD_set_other (fun e:j=x=>hnd.1 (by rw [← e]; exact hj))]
     rw [List.filter_cons,List.filter_cons,if_neg (by rw [getD_set_self (by rw [hs.len]; exact hlt)]; simp),if_pos (by rw [h1]; rfl),hrest]
     simp
    ·have hm':i∈l:=by simpa [Ne.symm hx] using hm
     have:=ihl hnd.2 hm'
     rw [List.filter_cons,List.filter_cons,getD_set_other hx]
     split
     ·rw [List.length_cons,List.length_cons]; omega
     ·exact this
  have:=key (List.range ops.size) List.nodup_range (List.mem_range.2 hlt)
  omega

/-- Not all are listed, and none is ready: that can't be, where each waits for earlier ones alone. -/
def backB (ops : Array Oper) : Bool := (List.range ops.size).all fun i => match ops[i]? with
  | some o => o.after.all fun e => !Region.binds .any e || decide (e.on < i)
  | none => true
theorem all_listed (hb:backB ops=true) {listed:Array Bool} (hl:listed.size=ops.size) (hr:Region.ready .any ops listed=[]):∀ i,i<ops.size→listed.getD i false=true:=by
 intro i
 induction i using Nat.strongRecOn with
 | _ i ih =>
  intro hi
  cases hx:listed.getD i false with
  | true=>rfl
  | false =>
   exfalso
   have hmem:i∈Region.ready .any ops listed:=by
    unfold Region.ready
    have hilt:i<listed.size:=by omega
    have ho:ops[i]?=some ops[i]:=by simp [hi]
    simp only [List.mem_filter,List.mem_range,Bool.and_eq_true,Bool.not_eq_true',ho,Option.map_some,Option.getD_some]
    refine ⟨hi,by simpa [hilt] using hx,?_⟩
    rw [Array.all_eq_true']
    intro e he
    cases hbd:Region.binds .any e with
    | false=>rfl
    | true =>
     have h1:=List.all_eq_true.1 hb i (by simp [hi])
     rw [ho] at h1
     have h2:=Array.all_eq_true'.1 h1 e he
     simp only [hbd,Bool.not_true,Bool.false_or,decide_eq_true_eq] at h2
     simp [ih e.on h2 (by omega)]
   rw [hr] at hmem; cases hmem

theorem ec_any {id:Nat} (hm:P.follows .mixedOrders=true) (A:List (List Nat)) (T:List Nat) (S:Nat→Value→World→Prop) (I:Nat→World→Prop) (LL:List Nat) (M:Nat→List Nat)
  (hc:(okA ops A&&onceB ops&&chainB A T&&backB ops&&decide T.Nodup&&T.all (fun i=>decide (i<ops.size))&&(List.range ops.size).all fun i=>okd N (dstOf ops i))=true)
  (hS:∀ i v w w',Ext w w'→S i v w→S i v w') (hM:∀ k,∀ m∈M k,m∈LL) (hS2:∀ k x i v w w',T[k]?=some x→i≠x→x∉A.getD i []→Fr (M k) w w'→S i v w→S i v w') (hI:∀ k w w',Ext w w'→I k w→I k w')
  (hI0:∀ w,Ext w0 w→I 0 w)
  (hqu:∀ (i:Nat) (o:Oper),ops[i]?=some o→i∉T→∀ ρ w,Fr LL w0 w→(∀ t,T.head?=some t→(A.getD t []).elem i=true→Ext w0 w)→(∀ j∈A.getD i [],∀ t,dstOf ops j=some t→S j (ρ t) w)→(∀ t,oldB ops A i t=true→ρ t=ρ0 t) →
   OneOp P r N ops ds o ρ w (fun v w'=>Ext w w'∧S i v w'))
  (hta:∀ (k i:Nat) (o:Oper),T[k]?=some i→ops[i]?=some o→∀ ρ w,Fr LL w0 w→(k=0→Ext w0 w)→I k w→(∀ j∈A.getD i [],∀ t,dstOf ops j=some t→S j (ρ t) w)→(∀ t,oldB ops A i t=true→ρ t=ρ0 t) →
   OneOp P r N ops ds o ρ w (fun v w'=>Fr (M k) w w'∧I (k + 1) w'∧S i v w'))
  (hend:∀ ρ w,Fr LL w0 w→I T.length w→(∀ i t,dstOf ops i=some t→S i (ρ t) w)→(∀ t,((List.range ops.size).all fun j=>dstOf ops j != some t)=true→ρ t=ρ0 t)→Q .normal ρ ds w) :
  EC P r N (.region id ops true) Q ρ0 ds w0:=by
 simp only [Bool.and_eq_true,decide_eq_true_eq] at hc
 obtain ⟨⟨⟨⟨⟨⟨hA,hO⟩,hT⟩,hB⟩,hN⟩,hTin⟩,hdd⟩:=hc
 have hd:∀ (i:Nat) (o:Oper),ops[i]?=some o→okd N o.dst=true:=fun i o ho=>by
  have hlt:i<ops.size:=(Array.getElem?_eq_some_iff.1 ho).1
  have:=List.all_eq_true.1 hdd i (by simp [hlt])
  simpa [dstOf,ho] using this
 intro a h1 h2 h3
 have hdrew:Ext w0 { w0 with drawn:=w0.drawn + 1 }:=Ext.drew w0
 refine wpIn_region_any hm (any_of_st (A:=A) (T:=T) (S:=S) (I:=I) (LL:=LL) (ρ0:=ρ0) (ds:=ds) (w0:=w0)
  (fun K listed a w hs i hi hK=>St.step hA hO hT hN hS hM hS2 hI hqu hta hs hi hd hK) ?_ _ _ _ _ ?_ ?_)
 ·intro listed a w hr hs
  have hall:=all_listed hB hs.len hr
  have hin:∀ i t,dstOf ops i=some t→listed.getD i false=true:=fun i t ht=>hall i (by
   unfold dstOf at ht
   cases ho:ops[i]? with
   | none=>rw [ho] at ht; cases ht
   | some o=>exact (Array.getElem?_eq_some_iff.1 ho).1)
  refine ⟨hs.size,by
   rw [hs.dsz]
   refine hend _ _ hs.rel ?_ (fun i t ht=>hs.spec i t (hin i t ht) ht) (fun t ht=>hs.env t fun j hj=>?_)
   ·obtain ⟨k,hk,hIk,hTk⟩:=hs.tail
    have:k=T.length:=by
     rcases Nat.lt_or_ge k T.length with hlt | hge
     ·exfalso
      have hx:T[k]?=some T[k]:=List.getElem?_eq_getElem hlt
      have hy:listed.getD T[k] false=true:=hall _ (by simpa using List.all_eq_true.1 hTin T[k] (List.getElem_mem hlt))
      have:=(hTk k _ hx).1 hy
      omega
     ·omega
    rw [← this]; exact hIk
   ·have h5:=List.all_eq_true.1 ht j (by
     have:j<ops.size:=by
      unfold dstOf at hj
      cases ho:ops[j]? with
      | none=>rw [ho] at hj; cases hj
      | some o=>exact (Array.getElem?_eq_some_iff.1 ho).1
     simp [this])
    rw [hj] at h5; simp at h5⟩
 ·exact Nat.le_trans (List.length_filter_le _ _) (by simp)
 ·have hrep:∀ i,(Array.replicate ops.size false).getD i false=false:=fun i=>by
   simp only [Array.getD_eq_getD_getElem?,Array.getElem?_replicate]
   split <;> rfl
  exact ⟨h1,h3,by simp,(Fr.ext hdrew),(fun _=>hdrew),fun t _=>by rw [h2],(fun i hi=>(by rw [hrep] at hi; cases hi)),(fun i t hi=>(by rw [hrep] at hi; cases hi)),⟨0,Nat.zero_le _,hI0 _ hdrew,(fun m x hx=>(by rw [hrep]; simp))⟩⟩
end

theorem Fr.stp {M M':List Nat} {a b c:World} (h:Fr M a b) (k:Fr M' b c) (hM:∀ m∈M',m∈M∨a.heap.size≤m):Fr M a c :=
 ⟨k.os.trans h.os,k.tape.trans h.tape,k.output.trans h.output,Nat.le_trans h.size k.size,fun i hi hn =>
  (k.block i (Nat.lt_of_lt_of_le hi h.size) (fun hm=>by rcases hM i hm with h1 | h1; exact hn h1; omega)).trans (h.block i hi hn)⟩
theorem Stb.up {L L' M:List Nat} {w w':World} {φ:World→Prop} (h:Stb L w φ) (f:Fr M w w') (hM:∀ m∈M,m∈L) (hL:∀ m∈L',m∈L∨w.heap.size≤m):Stb L' w' φ :=
 fun w'' ha=>h w'' fun k hk hn=>(ha k (Nat.lt_of_lt_of_le hk f.size) (fun hm=>by rcases hL k hm with h1 | h1; exact hn h1; omega)).trans (f.block k hk (fun hm=>hn (hM k hm)))
theorem upc {b:Nat} {L:List Nat} {φ:Nat→Prop} (hb:φ b) (h:∀ m∈L,φ m):∀ m∈b::L,φ m:=fun m hm=>by
 cases hm with
 | head=>exact hb
 | tail _ hm=>exact h m hm
theorem nin {L:List Nat} {w:World} {b:Nat} (h:Lt L w) (e:b=w.heap.size):b∉L:=fun hm=>by have:=h b hm; omega
theorem stb_nil {T:Type} [Inhabited T] {k:Kd T} {L:List Nat} {w:World} {A:Option Addr} {c:Nat}:Stb L w (fun w=>SlC k w A c []):=fun _ _=>SlC.nil k _ A c
theorem lt_toNat {i:Int} {n:Nat} (h0:0≤i) (h1:i<n):i.toNat<n:=by omega

section
variable {P : Program} {r : Option Nat} {N : Nat} {ops : Array Oper} {Q : Post} {ρ : Env} {ds : List Deferred} {w : World}
theorem want_t {t j:Nat} {c b:Bool} (hj:(ops[j]?).bind (·.dst)=some t) (hv:ρ t=.bool c) (hc:c=b):wantE ops ρ (some (j,b))=true:=by
 simp [wantE,yieldE,hj,hv,hc]
theorem want_f {t j:Nat} {c b:Bool} (hj:(ops[j]?).bind (·.dst)=some t) (hv:ρ t=.bool c) (hc:c=!b):wantE ops ρ (some (j,b))=false:=by
 simp [wantE,yieldE,hj,hv,hc]
theorem ec_condT {c:Operand} {x y:Code} {t:Bool} (hc:ev ρ c=.bool t) (ht:t=true) (h:EC P r N x Q ρ ds w):EC P r N (.cond c x y) Q ρ ds w:=by
 subst ht; exact ec_cond_t hc h
theorem ec_condF {c:Operand} {x y:Code} {t:Bool} (hc:ev ρ c=.bool t) (ht:t=false) (h:EC P r N y Q ρ ds w):EC P r N (.cond c x y) Q ρ ds w:=by
 subst ht; exact ec_cond_f hc h
variable {d : Option Nat} {ty : TypeId} {pos : String} {after : Array Edge} {g : Option (Nat × Bool)}
theorem r_pickT {C A B:Operand} {v:Value} {c:Bool} (hC:ev ρ C=.bool c) (hc:c=true) (hA:ev ρ A=v):RunV P ρ w ⟨d,.pick C A B,ty,pos,after,g⟩ v:=by
 subst hc; exact r_pick_t hC hA
theorem r_pickF {C A B:Operand} {v:Value} {c:Bool} (hC:ev ρ C=.bool c) (hc:c=false) (hB:ev ρ B=v):RunV P ρ w ⟨d,.pick C A B,ty,pos,after,g⟩ v:=by
 subst hc; exact r_pick_f hC hB
theorem r_nilEq {T E:TypeId} {t':TypeId} {X Y:Operand} {A:Option Addr} {n c:Nat} (hT:P.underlying T=some (.slice E)) (hX:ev ρ X=.slice A n c) (hY:ev ρ Y=.slice none 0 0) :
  RunV P ρ w ⟨d,.binOp .eql T X Y t',ty,pos,after,g⟩ (.bool A.isNone):=by
 have:=run_equalIn_slice_nil (P:=P) (w:=w) 9999 T E A n c hT
 simp [RunV,execOp,hX,hY,eqGuard,binOp,Op.equal,Op.maxDepth,this]
/-! ### results -/
def resV (P:Program) (w:World) (ρ:Env):ResultVar→Value→Prop
 | .tmp t,v=>ρ t=v
 | .cell a t,v=>∃ x,ρ a=.pointer (some x)∧(loadVar t x).run P w=.ok v w
theorem rv_t {t:Nat} {v:Value} (h:ρ t=v):resV P w ρ (.tmp t) v:=h
theorem rv_a {a T n:Nat} {b o:Nat} {e:TypeId} {cs vs:List Value} (h:ρ a=.pointer (some ⟨b,o,none⟩)) (hT:Agg P T n) (hB:Blk w b e cs) (hn:vs.length=n) (hv:(cs.drop o).take n=vs):resV P w ρ (.cell a T) (.agg vs.toArray) :=
 ⟨_,h,run_loadAgg hT hn (fun j v hj=>by
  subst hv
  rw [List.getElem?_take] at hj
  split at hj
  ·rw [List.getElem?_drop] at hj; exact hB.cell hj
  ·cases hj)⟩
theorem resV_run {x:ResultVar} {v:Value} (h:resV P w ρ x v):(rvE ρ x).run P w=.ok v w:=by
 cases x with
 | tmp t=>have:ρ t=v:=h; simp [rvE,this]
 | cell a t=>obtain ⟨x,h1,h2⟩:=h; simp [rvE,h1,asAddr,h2]
variable {R : Ending → World → Prop}
theorem endr1 {x:ResultVar} {v:Value} (hv:resV P w ρ x v) (h:R (.returned v) w):bodyE P #[x] R .ret ρ [] w:=by
 refine ⟨rfl,v,?_,h⟩
 have h1:=resV_run hv
 simp [resE,h1]
theorem endr2 {x y:ResultVar} {v u:Value} (hv:resV P w ρ x v) (hu:resV P w ρ y u) (h:R (.returned (.tuple #[v,u])) w):bodyE P #[x,y] R .ret ρ [] w:=by
 refine ⟨rfl,_,?_,h⟩
 have h1:=resV_run hv
 have h2:=resV_run hu
 simp [resE,h1,h2]
theorem Blk.part {b o n:Nat} {e:TypeId} {cs vs:List Value} (h:Blk w b e cs) (hv:(cs.drop o).take n=vs):∀ j v,vs[j]?=some v→w.cell? ⟨b,o + j,none⟩=some v:=fun j v hj=>by
 subst hv
 rw [List.getElem?_take] at hj
 split at hj
 ·rw [List.getElem?_drop] at hj; exact h.cell hj
 ·cases hj
end

/-! ### elements of slices of plain kinds -/
theorem kI_open2 {L:List Nat} {w:World} {k:IntKind} {a:Addr} {cs:List Value} {d:Int} (h:Stb L w (fun w=>CellsAt w a cs∧(kI k).r w cs d)):cs=[.int k d]∧Stb L w (fun w=>CellsAt w a [.int k d]∧True):=by
 have e:cs=[.int k d]:=h.now.2
 subst e
 exact ⟨rfl,h.mono fun _ h=>⟨h.1,trivial⟩⟩
/-! ### closed facts out of a type's row -/
theorem info_parts' {P:Program} {e:TypeId} {z:Value} {size bytes:Nat} (h:(P.info? e).map (fun i=>(i.zero,i.size,i.bytes))=some (some z,size,bytes)) :
  ∃ i,P.info? e=some i∧i.zero=some z∧i.size=size∧i.bytes=bytes:=by
 obtain ⟨i,hi,hzz⟩:=Option.map_eq_some_iff.1 h
 simp only [Prod.mk.injEq] at hzz
 exact ⟨i,hi,hzz.1,hzz.2.1,hzz.2.2⟩
theorem zero_of {P:Program} {e:TypeId} {z:Value} {size bytes:Nat} (h:(P.info? e).map (fun i=>(i.zero,i.size,i.bytes))=some (some z,size,bytes)):Zero P e z:=by
 obtain ⟨i,h1,h2,_⟩:=info_parts' h
 exact ⟨i,h1,h2⟩
theorem sz_of {P:Program} {e:TypeId} {z:Value} {size bytes:Nat} (h:(P.info? e).map (fun i=>(i.zero,i.size,i.bytes))=some (some z,size,bytes)):Sz P e size:=by
 obtain ⟨i,h1,_,h2,_⟩:=info_parts' h
 exact ⟨i,h1,h2⟩
theorem fnz {P:Program} {e:TypeId} {z:Value} {size bytes:Nat} (h:(P.info? e).map (fun i=>(i.zero,i.size,i.bytes))=some (some z,size,bytes)) (hs:size≠0):∃ i,P.info? e=some i∧i.size≠0:=by
 obtain ⟨i,h1,_,h2,_⟩:=info_parts' h
 exact ⟨i,h1,by rw [h2]; exact hs⟩

/-! ### struct and array literals -/
def fillL (place:Nat→Option (Nat × Nat)) (cells:List Value):List (Nat × Value)→Option (List Value)
 | []=>some cells
 | (i,v)::rest =>
  match place i with
  | none=>none
  | some (off,size)=>bif Nat.beq v.cells.toList.length size&&Nat.ble (off + v.cells.toList.length) cells.length then fillL place (setL cells off v.cells.toList) rest else none
theorem setL_fold:∀ (vs:List Value) (k off:Nat) (cells:Array Value),(vs.zipIdx k).foldl (fun cs (p:Value × Nat)=>cs.setIfInBounds (off + p.2) p.1) cells=(setL cells.toList (off + k) vs).toArray
 | [],_,_,_=>by simp [setL]
 | v::vs,k,off,cells=>by
  rw [List.zipIdx_cons,List.foldl_cons,setL_fold vs (k + 1) off]
  simp [setL,Nat.add_assoc]
theorem fill_eq (place:Nat→Option (Nat × Nat)):∀ (vs:List (Nat × Value)) (cells out:List Value),fillL place cells vs=some out→Instr.fill place cells.toArray vs=some out.toArray
 | [],cells,out,h=>by simp [fillL] at h; simp [Instr.fill,h]
 | (i,v)::rest,cells,out,h=>by
  unfold fillL at h
  unfold Instr.fill
  cases hp:place i with
  | none=>rw [hp] at h; cases h
  | some os =>
   obtain ⟨off,size⟩:=os
   rw [hp] at h
   simp only at h ⊢
   cases hb:(Nat.beq v.cells.toList.length size&&Nat.ble (off + v.cells.toList.length) cells.length) with
   | false=>rw [hb] at h; cases h
   | true =>
    rw [hb,cond_true] at h
    simp only [Bool.and_eq_true,Nat.beq_eq,Nat.ble_eq,Array.length_toList] at hb
    rw [if_neg (by simp; omega)]
    have hf:(v.cells.zipIdx.foldl (fun cs (x:Value × Nat)=>cs.setIfInBounds (off + x.2) x.1) cells.toArray)=(setL cells off v.cells.toList).toArray:=by
     rw [← Array.foldl_toList,Array.toList_zipIdx]
     have:=setL_fold v.cells.toList 0 off cells.toArray
     simpa using this
    exact (congrArg (fun c=>Instr.fill place c rest) hf).trans (fill_eq place rest _ _ h)

/-- What a literal of T comes to. -/
def Bld (P : Program) (T : TypeId) (pl : List (Nat × Nat)) (z : List Value) : Prop :=
  ∀ w parts cells, fillL (fun i : Nat => pl[i]?) z parts = some cells → (Instr.build T parts.toArray).run P w = .ok (.agg cells.toArray) w
theorem bld_struct {P:Program} {T:TypeId} {fs:Array Field} {pl:List (Nat × Nat)} {z:Value} {zl:List Value} (hz:Zero P T z) (hc:z.cells=zl.toArray) (hu:P.underlying T=some (.struct fs))
  (hm:∀ w,(fs.mapM (fun f=>do pure (f.offset,← sizeOf f.type)):Sem (Array (Nat × Nat))).run P w=.ok pl.toArray w):Bld P T pl zl:=by
 intro w parts cells hf
 obtain ⟨i,h1,h2⟩:=hz
 have hz:(zeroValue T).run P w=.ok z w:=by simp [zeroValue,typeInfo,h1,h2,program,Sem.run,Result.andThen]
 have hf':=fill_eq _ parts zl cells hf
 have hp:(fun i:Nat=>pl.toArray[i]?)=(fun i:Nat=>pl[i]?):=by funext i; simp
 simp only [Instr.build,Sem.run_bind,hz,Result.andThen,run_underlying hu,hm,hc]
 rw [show Instr.fill (fun x=>pl.toArray[x]?) zl.toArray parts.toArray.toList=some cells.toArray by rw [hp]; simpa using hf']
 rfl
theorem r_build {P:Program} {ρ:Env} {w:World} {d:Option Nat} {ty:TypeId} {pos:String} {after:Array Edge} {g:Option (Nat × Bool)} {T:TypeId} {pl:List (Nat × Nat)} {z:List Value} {ps:List (Nat × Operand)} {vs:List (Nat × Value)} {cells:List Value}
  (hb:Bld P T pl z) (hv:ps.map (fun p=>(p.1,ev ρ p.2))=vs) (hf:fillL (fun i:Nat=>pl[i]?) z vs=some cells):RunV P ρ w ⟨d,.build T ps.toArray,ty,pos,after,g⟩ (.agg cells.toArray):=by
 have:=hb w vs cells hf
 subst hv
 simp [RunV,execOp,this]

def own (v:Value):List Nat:=v.ownBlock.toList
def RowD {T:Type} [Inhabited T] (k:Kd T) (w:World) (xs:List Value) (l:List T):Prop :=
 ∀ i:Nat,i<l.length→k.r w ((xs.drop (i * k.n)).take k.n) (l.getD i default)
/-- v is a slice of this call's own (none of its cells lies below B), which holds l. -/
structure OwnS {T : Type} [Inhabited T] (k : Kd T) (B : Nat) (e : TypeId) (L : List Nat) (w : World) (v : Value) (l : List T) : Prop where
  pos : 0 < k.n
  below : ∀ m ∈ L, m < w.heap.size ∧ m ∉ own v
  base : B ≤ w.heap.size
  row : ∃ xs, w.ownsRow B e k.n v l.length xs ∧ Stb (own v ++ L) w (fun w => RowD k w xs l)

theorem ownsRow_same {w w':World} {base e n m:Nat} {v:Value} {xs:List Value} (h:w.ownsRow base e n v m xs) (hs:∀ g,v.ownBlock=some g→w'.heap[g]?=w.heap[g]?):w'.ownsRow base e n v m xs:=by
 obtain ⟨h1,h2⟩:=h
 refine ⟨h1,?_⟩
 rcases h2 with h2 | ⟨g,cap,cur,rfl,hg,hh,hr⟩
 ·exact .inl h2
 ·exact .inr ⟨g,cap,cur,rfl,hg,by rw [hs g rfl]; exact hh,hr⟩
theorem ownsRow_block {w:World} {base e n m:Nat} {v:Value} {xs:List Value} (h:w.ownsRow base e n v m xs) {g:Nat} (hg:v.ownBlock=some g):base≤g∧g<w.heap.size:=by
 rcases h.2 with ⟨rfl,_⟩ | ⟨g',cap,cur,rfl,hb,hh,_⟩
 ·cases hg
 ·obtain rfl:g'=g:=by simpa [Value.ownBlock] using hg
  exact ⟨hb,(Array.getElem?_eq_some_iff.1 hh).1⟩

section
variable {T : Type} [Inhabited T] {k : Kd T} {B e : Nat} {L : List Nat} {w w' : World} {v : Value} {l : List T}
theorem mem_own {g:Nat}:g∈own v↔v.ownBlock=some g:=by
 unfold own; cases v.ownBlock <;> simp [eq_comm]
theorem OwnS.fr {M:List Nat} (h:OwnS k B e L w v l) (f:Fr M w w') (hM:∀ m∈M,m∈L):OwnS k B e L w' v l:=by
 obtain ⟨hp,hb,hB,xs,h1,h2⟩:=h
 refine ⟨hp,fun m hm=>⟨Nat.lt_of_lt_of_le (hb m hm).1 f.size,(hb m hm).2⟩,Nat.le_trans hB f.size,xs,ownsRow_same h1 fun g hg=>?_,h2.fr f (fun m hm=>List.mem_append_right _ (hM m hm))⟩
 obtain ⟨h3,h4⟩:=ownsRow_block h1 hg
 exact f.block g h4 (fun hm=>(hb g (hM g hm)).2 (mem_own.2 hg))
theorem OwnS.ex (h:OwnS k B e L w v l) (f:Ext w w'):OwnS k B e L w' v l:=h.fr f (fun _ hm=>by cases hm)
theorem OwnS.nil (hp:0<k.n) (hL:Lt L w):OwnS k w.heap.size e L w (.slice none 0 0) [] :=
 ⟨hp,fun m hm=>⟨hL m hm,fun h=>by cases h⟩,Nat.le_refl _,[],⟨by simp,.inl ⟨rfl,rfl⟩⟩,fun _ _ i hi=>by simp at hi⟩
theorem OwnS.mono {B':Nat} (h:OwnS k B e L w v l) (hB:B'≤B) (hb:∀ m∈L,m<B'):OwnS k B' e L w v l:=by
 obtain ⟨hp,hb0,hB1,xs,h1,h2⟩:=h
 refine ⟨hp,hb0,Nat.le_trans hB hB1,xs,⟨h1.1,?_⟩,h2⟩
 rcases h1.2 with h3 | ⟨g,cap,cur,hv,hg,hr⟩
 ·exact .inl h3
 ·exact .inr ⟨g,cap,cur,hv,Nat.le_trans hB hg,hr⟩

theorem OwnS.shape (h:OwnS k B e L w v l):∃ A c,v=.slice A l.length c:=by
 obtain ⟨hp,_,_,xs,h1,_⟩:=h
 rcases h1.2 with ⟨rfl,h0⟩ | ⟨g,cap,cur,rfl,_⟩
 ·exact ⟨none,0,by rw [h0]⟩
 ·exact ⟨_,_,rfl⟩

theorem take_drop_getElem? {α:Type} {xs:List α} {n i j:Nat} {v:α} (h:((xs.drop (i * n)).take n)[j]?=some v):j<n∧xs[i * n + j]?=some v:=by
 rw [List.getElem?_take] at h
 split at h
 ·rename_i hj; rw [List.getElem?_drop] at h; exact ⟨hj,h⟩
 ·cases h

theorem OwnS.still (h:OwnS k B e L w v l):∃ A c,v=.slice A l.length c∧Stb L w (fun w=>SlC k w A c l):=by
 obtain ⟨hp,hb,hB,xs,h1,h2⟩:=h
 obtain ⟨hl,h1'⟩:=h1
 rcases h1' with ⟨rfl,h0⟩ | ⟨g,cap,cur,rfl,hg,hh,hle,hcm,hcs,htk⟩
 ·have:l=[]:=List.eq_nil_of_length_eq_zero h0
  subst this
  exact ⟨none,0,rfl,stb_nil⟩
 ·refine ⟨some ⟨g,0,none⟩,cap,rfl,fun w' ha=>⟨hle,fun i hi=>⟨⟨_,rfl,rfl⟩,(xs.drop (i * k.n)).take k.n,?_,?_,?_⟩⟩⟩
  ·have h3:(i + 1) * k.n≤l.length * k.n:=Nat.mul_le_mul_right _ hi
   rw [Nat.add_mul] at h3
   simp only [List.length_take,List.length_drop,hl]
   omega
  ·intro j u hj
   obtain ⟨hjn,hj⟩:=take_drop_getElem? hj
   have hg':g∉L:=fun hm=>(hb g hm).2 (mem_own.2 rfl)
   have hlt:g<w.heap.size:=(Array.getElem?_eq_some_iff.1 hh).1
   have h3:w'.heap[g]?=some (.cells cur e (0,0)):=(ha g hlt hg').trans hh
   have h4:cur.toList[i * k.n + j]?=some u:=by
    rw [← htk] at hj
    rw [List.getElem?_take] at hj
    split at hj
    ·exact hj
    ·cases hj
   simp only [World.cell?,ad,elemA,h3,Option.isSome_none,Bool.false_eq_true,if_false,Nat.zero_add]
   rw [← Array.getElem?_toList]; exact h4
  ·exact h2 w' (fun k hk hn=>ha k hk (fun hm=>hn (List.mem_append_right _ hm))) i hi

theorem RowD.append {w:World} {xs ys:List Value} {l m:List T} (hl:xs.length=l.length * k.n) (hx:RowD k w xs l) (hy:RowD k w ys m) (hm:ys.length=m.length * k.n):RowD k w (xs++ys) (l++m):=by
 intro i hi
 by_cases h:i<l.length
 ·have h3:(i + 1) * k.n≤l.length * k.n:=Nat.mul_le_mul_right _ h
  rw [Nat.add_mul,Nat.one_mul] at h3
  have:((xs++ys).drop (i * k.n)).take k.n=(xs.drop (i * k.n)).take k.n:=by
   rw [List.drop_append_of_le_length (by omega),List.take_append_of_le_length (by simp; omega)]
  rw [this]
  have hg:(l++m).getD i default=l.getD i default:=by simp [List.getElem?_append,h]
  rw [hg]; exact hx i h
 ·have hi':i - l.length<m.length:=by simp at hi; omega
  have hmul:i * k.n=l.length * k.n + (i - l.length) * k.n:=by rw [← Nat.add_mul]; congr 1; omega
  have:((xs++ys).drop (i * k.n)).take k.n=(ys.drop ((i - l.length) * k.n)).take k.n:=by
   rw [hmul,← List.drop_drop,← hl,List.drop_left]
  rw [this]
  have hg:(l++m).getD i default=m.getD (i - l.length) default:=by simp [List.getElem?_append,h]
  rw [hg]; exact hy _ hi'

theorem oneC_eq (u:Value):oneC u=u.oneCell':=by cases u <;> rfl

/-- The law of append, as it is used here. -/
theorem run_app {P : Program} {t ty n bytes : Nat} {z : Value} (hT : Slc P t e n bytes z) (hn : k.n = n) (hz : z.cells.size = n) (hO : OwnS k B e L w v l) {a : Addr} {m c : Nat} {news : List Value} {ys : List T}
    (hm : ys.length = m) (hl : news.length = m * n) (hc : ∀ j u, news[j]? = some u → w.cell? (a.add j) = some u) (h1 : news.all oneC = true) (hd : Stb (own v ++ L) w (fun w => RowD k w news ys))
    (hsz : l.length + m ≤ 9223372036854775807 ∧ (l.length + m) * bytes ≤ 140737488355328) :
    ∃ v' w', (Builtin.append_ #[t, t] ty #[v, .slice (some a) m c]).run P w = .ok v' w' ∧ OwnS k B e L w' v' (l ++ ys) ∧ Fr (own v) w w' ∧ (∀ q ∈ own v', q ∈ own v ∨ w.heap.size ≤ q) := by
  obtain ⟨hp, hb, hB, xs, hr1, hr2⟩ := hO
  obtain ⟨hu, i, h2, h3, h4, h5⟩ := hT
  subst hn
  obtain ⟨v', w', r1, r2, r3, r4⟩ := run_append_own (P := P) w B t ty e i z k.n bytes hu h2 h3 h4 h5 hz hp v l.length xs hr1 a m c news hl hc
    (fun u hu => by rw [← oneC_eq]; exact List.all_eq_true.1 h1 u hu) (by simp only [maxLen]; omega) hsz.2 hB
  have f : Fr (own v) w w' := ⟨r3.os, r3.tape, r3.output, r3.size, fun q hq hn => r3.block q hq (fun e => hn (by rw [mem_own]; exact e.symm))⟩
  have hnew : ∀ q ∈ own v', q ∈ own v ∨ w.heap.size ≤ q := by
    intro q hq
    rw [mem_own] at hq
    obtain ⟨h6, h7⟩ := ownsRow_block r2 hq
    by_cases hv : v.ownBlock = some q
    · exact .inl (mem_own.2 hv)
    · refine .inr ?_
      rcases hr1.2 with ⟨rfl, h0⟩ | ⟨g, cap, cur, rfl, hbg, hg, hnc, hcm, hcs, htake⟩
      · by_cases hm0 : m = 0
        · rw [r4.2 ⟨rfl, hm0⟩] at hq; cases hq
        · have hr := run_append_nil (P := P) w t ty e i z hu h2 h3 a m c news (by rw [h4]; exact hl) hc (by omega) (by omega) (by rw [h5]; have := hsz.2; rw [h0] at this; simp only [Nat.zero_add] at this; omega)
          rw [hr] at r1; cases r1
          simp only [Value.ownBlock, Option.some.injEq] at hq; omega
      · by_cases hroom : l.length + m ≤ cap
        · obtain ⟨w2, hr, _⟩ := run_append_fits (P := P) w B t ty e i k.n hu h2 h4 g l.length cap xs hr1 a m c news hl hc (fun u hu => by rw [← oneC_eq]; exact List.all_eq_true.1 h1 u hu) hroom
          rw [hr] at r1; cases r1
          exact absurd hq hv
        · have holds : ∀ j u, xs[j]? = some u → w.cell? ((⟨g, 0, none⟩ : Addr).add j) = some u := hr1.cells (g := g) rfl
          have hr := run_append_grow (P := P) w t ty e i z hu h2 h3 ⟨g, 0, none⟩ l.length cap xs (by rw [h4]; exact hr1.1) holds a m c news (by rw [h4]; exact hl) hc (by omega) (by omega) (growslice_fits (by omega) (by rw [h5]; exact hsz.2))
          rw [hr] at r1; cases r1
          simp only [Value.ownBlock, Option.some.injEq] at hq; omega
  refine ⟨v', w', r1, ⟨hp, fun m hm => ⟨Nat.lt_of_lt_of_le (hb m hm).1 r3.size, fun hq => (hnew m hq).elim (hb m hm).2 (fun h => by have := (hb m hm).1; omega)⟩, Nat.le_trans hB r3.size, xs ++ news, by rw [List.length_append, hm]; exact r2, ?_⟩, f, hnew⟩
  have hall : Stb (own v ++ L) w (fun w => RowD k w (xs ++ news) (l ++ ys)) := (hr2.and hd).mono fun w0 ⟨q1, q2⟩ => q1.append hr1.1 q2 (by rw [hl, hm])
  refine hall.up f (fun m hm => List.mem_append_left _ hm) (fun q hq => ?_)
  rcases List.mem_append.1 hq with hq | hq
  · rcases hnew q hq with h6 | h6
    · exact .inl (List.mem_append_left _ h6)
    · exact .inr h6
  · exact .inl (List.mem_append_right _ hq)
end

def idx:List Value→Nat→List (Nat × Value)
 | [],_=>[]
 | v::vs,i=>(i,v)::idx vs (i + 1)
def flat (vs:List Value):List Value:=vs.flatMap (·.cells.toList)
theorem setL_app:∀ (vs a b:List Value) (o:Nat),o=a.length→vs.length≤b.length→setL (a++b) o vs=a++vs++b.drop vs.length
 | [],a,b,o,_,_=>by simp [setL]
 | v::vs,a,b,o,ho,hl=>by
  cases b with
  | nil=>simp at hl
  | cons x b =>
   have h1:(a++x::b).set o v=(a++[v])++b:=by subst ho; simp
   simp only [setL]
   rw [h1,setL_app vs (a++[v]) b (o + 1) (by simp [ho]) (by simpa using hl)]
   simp
theorem fillL_idx (n:Nat):∀ (vs:List Value) (i:Nat) (a b:List Value),a.length=i * n→b.length=vs.length * n→vs.all (fun v=>Nat.beq v.cells.toList.length n)=true →
  fillL (fun i=>some (i * n,n)) (a++b) (idx vs i)=some (a++flat vs)
 | [],i,a,b,_,hb,_=>by
  have:b=[]:=List.eq_nil_of_length_eq_zero (by simpa using hb)
  subst this; simp [idx,fillL,flat]
 | v::vs,i,a,b,ha,hb,hv=>by
  simp only [List.all_cons,Bool.and_eq_true,Nat.beq_eq] at hv
  have hv1:v.cells.toList.length=n:=by simpa using hv.1
  simp only [List.length_cons,Nat.add_mul,Nat.one_mul] at hb
  simp only [idx,fillL]
  rw [hv1,Nat.beq_refl,Bool.true_and,Nat.ble_eq_true_of_le (by simp; omega),cond_true,setL_app _ _ _ _ ha.symm (by omega),fillL_idx n vs (i + 1) (a++v.cells.toList) (b.drop v.cells.toList.length) (by simp only [List.length_append,hv1,ha,Nat.add_mul,Nat.one_mul]) (by simp only [List.length_drop,hv1]; omega) hv.2]
  simp [flat]

theorem rowd1 {T:Type} [Inhabited T] {k:Kd T} {L:List Nat} {w:World} {cs:List Value} {x:T} (h:Stb L w (fun w=>k.r w cs x)) (hl:cs.length=k.n):Stb L w (fun w=>RowD k w cs [x]):=fun w' ha i hi=>by
 have:i=0:=by simp at hi; omega
 subst this
 simp [← hl]; exact h w' ha
theorem rowd0 {T:Type} [Inhabited T] {k:Kd T} {L:List Nat} {w:World}:Stb L w (fun w=>RowD k w [] []):=fun w' ha i hi=>by simp at hi
theorem rowd_cons {T:Type} [Inhabited T] {k:Kd T} {L:List Nat} {w:World} {cs ds:List Value} {x:T} {l:List T} (h:Stb L w (fun w=>k.r w cs x)) (hl:cs.length=k.n) (hr:Stb L w (fun w=>RowD k w ds l)) :
  Stb L w (fun w=>RowD k w (cs++ds) (x::l)):=fun w' ha i hi=>by
 cases i with
 | zero=>simp [← hl]; exact h w' ha
 | succ i =>
  have hd:(cs++ds).drop ((i + 1) * k.n)=ds.drop (i * k.n):=by
   rw [Nat.add_mul,Nat.one_mul,Nat.add_comm,← List.drop_drop,← hl,List.drop_left]
  rw [hd]
  have:=hr w' ha i (by simpa using hi)
  simpa using this

theorem bs_seal {T:Type} [Inhabited T] {k:Kd T} {L:List Nat} {w:World} {b e:Nat} {cs:List Value} {ys:List T} (hB:Blk w b e cs) (hb:b∉L) (hl:cs.length=ys.length * k.n) (hr:Stb L w (fun w=>RowD k w cs ys)) :
  Stb L w (fun w=>SlC k w (some ⟨b,0,none⟩) ys.length ys):=fun w' ha=>by
 have hB':Blk w' b e cs:=(hB.stb hb) w' ha
 refine ⟨Nat.le_refl _,fun i hi=>⟨⟨_,rfl,rfl⟩,(cs.drop (i * k.n)).take k.n,?_,?_,hr w' ha i hi⟩⟩
 ·have h3:(i + 1) * k.n≤ys.length * k.n:=Nat.mul_le_mul_right _ hi
  rw [Nat.add_mul,Nat.one_mul] at h3
  simp only [List.length_take,List.length_drop,hl]; omega
 ·intro j u hj
  obtain ⟨hjn,hj⟩:=take_drop_getElem? hj
  have:=hB'.cell hj
  simpa [ad,elemA] using this

theorem OwnS.lo {T:Type} [Inhabited T] {k:Kd T} {B e:Nat} {L:List Nat} {w:World} {v:Value} {l:List T} (h:OwnS k B e L w v l):∀ m∈own v,B≤m:=fun m hm=>by
 obtain ⟨_,_,_,xs,h1,_⟩:=h
 exact (ownsRow_block h1 (mem_own.1 hm)).1
theorem OwnS.ltw {T:Type} [Inhabited T] {k:Kd T} {B e:Nat} {L:List Nat} {w:World} {v:Value} {l:List T} (h:OwnS k B e L w v l):∀ m∈own v,m<w.heap.size:=fun m hm=>by
 obtain ⟨_,_,_,xs,h1,_⟩:=h
 exact (ownsRow_block h1 (mem_own.1 hm)).2
theorem Lt.own {T:Type} [Inhabited T] {k:Kd T} {B e:Nat} {L L':List Nat} {w:World} {v:Value} {l:List T} (hL:Lt L' w) (h:OwnS k B e L w v l):Lt (own v++L') w:=fun m hm=>by
 rcases List.mem_append.1 hm with hm | hm
 ·exact h.ltw m hm
 ·exact hL m hm
theorem upo {xs L:List Nat} {φ:Nat→Prop} (hb:∀ m∈xs,φ m) (h:∀ m∈L,φ m):∀ m∈xs++L,φ m:=fun m hm=>by
 rcases List.mem_append.1 hm with hm | hm
 ·exact hb m hm
 ·exact h m hm

section ops
variable {P : Program} {r : Option Nat} {N : Nat} {ops : Array Oper} {Q : Post} {rest : List Oper} {ρ : Env} {ds : List Deferred} {w : World}
variable {d : Nat} {ty : TypeId} {pos : String} {after : Array Edge} {g : Option (Nat × Bool)}

theorem o_bslice {T E n bytes m:Nat} {z:Value} {ps:List (Nat × Operand)} {vs cs:List Value} (hT:Slc P T E n bytes z) (hz:z.cells.size=n) (hv:ps.map (fun p=>(p.1,ev ρ p.2))=idx vs 0)
  (hc:vs.all (fun v=>Nat.beq v.cells.toList.length n)=true) (hm:vs.length=m) (hcs:flat vs=cs) (hsz:Nat.ble (m * n) 16777216=true) (hg:wantE ops ρ g=true) (hd:Nat.blt d N=true)
  (h:∀ b w',b=w.heap.size→Ext w w'→Blk w' b E cs→EO P r N ops Q rest (upd ρ d (.slice (some ⟨b,0,none⟩) m m)) ds w') :
  EO P r N ops Q (⟨some d,.buildSlice T m ps.toArray,ty,pos,after,g⟩::rest) ρ ds w:=by
 obtain ⟨hu,i,h2,h3,h4,h5⟩:=hT
 refine eo_val (o:=⟨some d,.buildSlice T m ps.toArray,ty,pos,after,g⟩) hg rfl hd ?_ (h w.heap.size (w.alloc (.cells cs.toArray E)) rfl (Ext.alloc _ _) (Blk.alloc _ _ _))
 have hsz':¬ (m * n > 2 ^ 24):=by have:=Nat.le_of_ble_eq_true hsz; omega
 have hzr:(zeroValue E).run P w=.ok z w:=by simp [zeroValue,typeInfo,h2,h3,program,Sem.run,Result.andThen]
 have hsr:(sizeOf E).run P w=.ok n w:=by simp [sizeOf,typeInfo,h2,h4,program,Sem.run,Result.andThen]
 have hfill:∀ za:Array Value,Instr.fill (fun i=>some (i * n,n)) ((Array.range (m * n)).map (za[· % za.size]!)) (idx vs 0)=some cs.toArray:=fun za=>by
  have:=fill_eq (fun i=>some (i * n,n)) (idx vs 0) ((Array.range (m * n)).map (za[· % za.size]!)).toList _ (fillL_idx n vs 0 [] _ (by simp) (by simp [hm]) hc)
  rw [Array.toArray_toList] at this
  rw [this,hcs,List.nil_append]
 simp only [execOp,List.map_toArray,hv,Instr.buildSlice,Sem.run_bind,run_underlying hu,Result.andThen,hsr]
 rw [if_neg hsz']
 by_cases h0:m * n=0
 ·rw [if_pos h0]
  simp only [Sem.run_bind,Result.andThen,Sem.run_pure]
  rw [hfill #[]]
  rfl
 ·rw [if_neg h0]
  simp only [Sem.run_bind,hzr,Result.andThen,Sem.run_pure]
  rw [hfill z.cells]
  rfl

end ops

abbrev Inv:=Env→List Deferred→World→Prop
section loops
variable {P : Program} {r : Option Nat} {N : Nat} {Q : Post} {ρ : Env} {ds : List Deferred} {w : World} {S Y : Type}
def lqE (id:Nat) (I:S→Inv):S ⊕ S→Post
 | .inl s,e,ρ,ds,w=>e=.normal∧I s ρ ds w
 | .inr s,e,ρ,ds,w=>e=.exit id∧I s ρ ds w
theorem lq_n {id:Nat} {I:S→Inv} {s:S} (h:I s ρ ds w):lqE id I (.inl s) .normal ρ ds w:=⟨rfl,h⟩
theorem lq_x {id:Nat} {I:S→Inv} {s:S} (h:I s ρ ds w):lqE id I (.inr s) (.exit id) ρ ds w:=⟨rfl,h⟩
theorem ec_loopE {body:S→S ⊕ S→Prop} {c:Code} (id:Nat) {I:S→Inv} (hround:∀ s x ρ ds w,I s ρ ds w→body s x→EC P r N c (lqE id I x) ρ ds w)
  {s y:S} (hl:LoopR body s y) (hI:I s ρ ds w) (hout:∀ ρ ds w,I y ρ ds w→Q (.exit id) ρ ds w):EC P r N (.loop c) Q ρ ds w :=
 ec_loop I (fun y e ρ ds w=>e=.exit id∧I y ρ ds w)
  (fun s x ρ ds w hI hb=>ec_mono (hround s x ρ ds w hI hb) fun e ρ' ds' w' h=>by
   cases x with
   | inl s'=>exact h
   | inr y=>exact ⟨by rw [h.1]; simp,h⟩) hl hI (fun e ρ' ds' w' _ h=>by obtain ⟨rfl,h⟩:=h; exact hout _ _ _ h)

def lqR (id:Nat) (I:S→Inv) (J:Y→Inv):S ⊕ (S ⊕ Y)→Post
 | .inl s,e,ρ,ds,w=>e=.normal∧I s ρ ds w
 | .inr (.inl s),e,ρ,ds,w=>e=.exit id∧I s ρ ds w
 | .inr (.inr y),e,ρ,ds,w=>e=.ret∧J y ρ ds w
theorem lqR_n {id:Nat} {I:S→Inv} {J:Y→Inv} {s:S} (h:I s ρ ds w):lqR id I J (.inl s) .normal ρ ds w:=⟨rfl,h⟩
theorem lqR_x {id:Nat} {I:S→Inv} {J:Y→Inv} {s:S} (h:I s ρ ds w):lqR id I J (.inr (.inl s)) (.exit id) ρ ds w:=⟨rfl,h⟩
theorem lqR_r {id:Nat} {I:S→Inv} {J:Y→Inv} {y:Y} (h:J y ρ ds w):lqR id I J (.inr (.inr y)) .ret ρ ds w:=⟨rfl,h⟩
theorem ec_loopER {body:S→S ⊕ (S ⊕ Y)→Prop} {c:Code} (id:Nat) {I:S→Inv} {J:Y→Inv} (hround:∀ s x ρ ds w,I s ρ ds w→body s x→EC P r N c (lqR id I J x) ρ ds w)
  {s:S} {y:S ⊕ Y} (hl:LoopR body s y) (hI:I s ρ ds w) (hout:∀ s',y=.inl s'→∀ ρ ds w,I s' ρ ds w→Q (.exit id) ρ ds w) (hret:∀ y',y=.inr y'→∀ ρ ds w,J y' ρ ds w→Q .ret ρ ds w):EC P r N (.loop c) Q ρ ds w :=
 ec_loop I (fun y e ρ ds w=>(∃ s,y=.inl s∧e=.exit id∧I s ρ ds w)∨(∃ y',y=.inr y'∧e=.ret∧J y' ρ ds w))
  (fun s x ρ ds w hI hb=>ec_mono (hround s x ρ ds w hI hb) fun e ρ' ds' w' h=>by
   cases x with
   | inl s'=>exact h
   | inr y =>
    cases y with
    | inl s'=>exact ⟨by rw [h.1]; simp,.inl ⟨s',rfl,h⟩⟩
    | inr y'=>exact ⟨by rw [h.1]; simp,.inr ⟨y',rfl,h⟩⟩) hl hI (fun e ρ' ds' w' _ h=>by
     rcases h with ⟨s,e1,rfl,h⟩ | ⟨y',e1,rfl,h⟩
     ·exact hout _ e1 _ _ _ h
     ·exact hret _ e1 _ _ _ h)
end loops

/-! ### make, and append from a slice -/
section ops
variable {P : Program} {r : Option Nat} {N : Nat} {ops : Array Oper} {Q : Post} {rest : List Oper} {ρ : Env} {ds : List Deferred} {w : World}
variable {d : Nat} {ty : TypeId} {pos : String} {after : Array Edge} {g : Option (Nat × Bool)}
theorem o_make {T:Type} [Inhabited T] {k:Kd T} {t E n bytes:Nat} {zv:Value} {z:T} {X Y:Operand} {kl kc:IntKind} {i:Int} {L:List Nat} (hT:Slc P t E n bytes zv) (hn:k.n=n) (hc1:zv.cells.size=n)
  (hz:∀ w,k.r w zv.cells.toList z) (hX:ev ρ X=.int kl i) (hY:ev ρ Y=.int kc i) (hs:0≤i∧i * bytes≤281474976710656∧i≤9223372036854775807) (hL:Lt L w)
  (hg:wantE ops ρ g=true) (hd:Nat.blt d N=true) (hp:0<n:=by decide)
  (h:∀ v' w',Ext w w'→OwnS k w.heap.size E L w' v' (List.replicate i.toNat z)→(∀ q∈own v',w.heap.size≤q)→EO P r N ops Q rest (upd ρ d v') ds w') :
  EO P r N ops Q (⟨some d,.makeSlice t X Y,ty,pos,after,g⟩::rest) ρ ds w:=by
 obtain ⟨hu,j,h2,h3,h4,h5⟩:=hT
 obtain ⟨m,rfl⟩:=Int.eq_ofNat_of_zero_le hs.1
 subst hn
 obtain ⟨w',r1,r2,r3⟩:=run_make_full (P:=P) w w.heap.size t E j zv k.n hu h2 h3 h4 kl kc m (by 
  rw [h5]; have:=hs.2.1; have hx:((m * bytes:Nat):Int)≤281474976710656:=by rw [Int.natCast_mul]; exact this
  rw [Nat.mul_comm]; omega) (by simp only [maxLen]; have:=hs.2.2; omega) (Nat.le_refl _)
 have f:Ext w w':=Ext.grown r3
 refine eo_val (o:=⟨some d,.makeSlice t X Y,ty,pos,after,g⟩) hg rfl hd ?_ (h (.slice (some ⟨w.heap.size,0,none⟩) m m) w' f ⟨hp,fun q hq=>⟨Nat.lt_of_lt_of_le (hL q hq) f.size,fun h=>by have h:q∈[w.heap.size]:=h; have:=hL q hq; simp at h; omega⟩,f.size,(madeCells zv.cells (m * k.n)).toList,?_,?_⟩ ?_)
 ·simp only [execOp,hX,hY,r1,Sem.run_bind,Result.andThen,Sem.run_pure]
 ·rw [List.length_replicate,Int.toNat_natCast]; exact r2
 ·refine fun w'' _ q hq=>?_
  have hq':q<m:=by simpa using hq
  have hcell:(((madeCells zv.cells (m * k.n)).toList.drop (q * k.n)).take k.n)=zv.cells.toList:=by
   have hqm:(q + 1) * k.n≤m * k.n:=Nat.mul_le_mul_right _ hq'
   rw [Nat.add_mul,Nat.one_mul] at hqm
   apply List.ext_getElem
   ·simp [size_madeCells,hc1]; omega
   ·intro x hx hx'
    simp only [List.length_take,List.length_drop,Array.length_toList,size_madeCells] at hx
    simp only [List.getElem_take,List.getElem_drop,madeCells,Array.toList_map,List.getElem_map,Array.toList_range,List.getElem_range,hc1]
    have:(q * k.n + x) % k.n=x:=by rw [Nat.add_comm,Nat.add_mul_mod_self_right,Nat.mod_eq_of_lt (by omega)]
    rw [this,getElem!_pos _ _ (by rw [hc1]; omega)]
    simp
  have hd:(List.replicate ((m:Int)).toNat z).getD q default=z:=by simp [hq']
  rw [hcell,hd]; exact hz w''
 ·intro q hq
  rw [mem_own] at hq
  simp only [Value.ownBlock,Option.some.injEq] at hq
  omega

theorem slc_cells {T:Type} [Inhabited T] {k:Kd T} {L:List Nat} {w:World} {A:Option Addr} {c:Nat} {l:List T} (hp:0<k.n) (h1:∀ w cs d,k.r w cs d→cs.all oneC=true) (h:Stb L w (fun w=>SlC k w A c l)):∀ (l':List T) (i:Nat),l'=l.drop i →
  ∃ news,news.length=l'.length * k.n∧(∀ j u,news[j]?=some u→w.cell? (ad (elemA A k.n i) j)=some u)∧Stb L w (fun w=>RowD k w news l')∧news.all oneC=true
 | [],i,_=>⟨[],by simp,by simp,rowd0,rfl⟩
 | x::l',i,e=>by
  have hi:i<l.length:=by
   have:(x::l').length=(l.drop i).length:=by rw [e]
   simp at this; omega
  have hx:nth l (i:Int)=x:=by
   have:(l.drop i)[0]?=some x:=by rw [← e]; rfl
   rw [List.getElem?_drop] at this
   simp only [nth,Int.toNat_natCast,List.getD_eq_getElem?_getD]
   simp at this; simp [this]
  obtain ⟨cs,hl,hc⟩:=Stb.elem hp h (i:Int) (by omega) (by omega)
  rw [hx,Int.toNat_natCast] at hc
  obtain ⟨news,n1,n2,n3,n4⟩:=slc_cells hp h1 h l' (i + 1) (by
   have:(x::l').drop 1=(l.drop i).drop 1:=by rw [e]
   rw [List.drop_drop] at this; simpa using this)
  refine ⟨cs++news,by simp [n1,hl,Nat.add_mul]; omega,fun j u hj=>?_,rowd_cons (hc.mono fun _ h=>h.2) hl n3,by rw [List.all_append,h1 _ _ _ hc.now.2,n4]; rfl⟩
  rw [List.getElem?_append] at hj
  split at hj
  ·exact hc.now.1 j u hj
  ·rename_i hge
   have:=n2 _ u hj
   cases A with
   | none=>exact absurd (h.now.2 i hi).1 (by rintro ⟨a,ha,_⟩; cases ha)
   | some a =>
    simp only [ad,elemA] at this ⊢
    rw [hl] at this hge
    rw [show a.off + i * k.n + j=a.off + (i + 1) * k.n + (j - k.n) by rw [Nat.add_mul]; omega]
    exact this
theorem o_appsl {T:Type} [Inhabited T] {k:Kd T} {B e:Nat} {L:List Nat} {v:Value} {l ys:List T} {t n bytes c:Nat} {z:Value} {S X:Operand} {A:Option Addr}
  (hT:Slc P t e n bytes z) (hn:k.n=n) (hz:z.cells.size=n) (h1:∀ w cs d,k.r w cs d→cs.all oneC=true) (hS:ev ρ S=v) (hO:OwnS k B e L w v l) (hX:ev ρ X=.slice A ys.length c)
  (hd:Stb (own v++L) w (fun w=>SlC k w A c ys)) (hsz:l.length + ys.length≤9223372036854775807∧(l.length + ys.length) * bytes≤140737488355328)
  (hg:wantE ops ρ g=true) (hdd:Nat.blt d N=true)
  (h:∀ v' w',Fr (own v) w w'→OwnS k B e L w' v' (l++ys)→(∀ q∈own v',q∈own v∨w.heap.size≤q)→EO P r N ops Q rest (upd ρ d v') ds w') :
  EO P r N ops Q (⟨some d,.call { callee:=.builtin .append,args:=#[S,X],argTypes:=#[t,t] },ty,pos,after,g⟩::rest) ρ ds w:=by
 by_cases hy:ys=[]
 ·subst hy
  obtain ⟨hu,i,h2,h3,h4,h5⟩:=hT
  obtain ⟨A',c',rfl⟩:=hO.shape
  have hle:l.length≤c':=by
   obtain ⟨_,_,_,xs,hr,_⟩:=hO
   rcases hr.2 with ⟨e1,e2⟩ | ⟨g,cap,cur,e1,_,_,hle,_⟩
   ·omega
   ·obtain ⟨_,_,rfl⟩:=Value.slice.inj e1; exact hle
  have hsrc:Src P i.size t (.slice A 0 c) 0 [] w:=by
   cases A with
   | none=>exact Src.ofNil w hu c
   | some a=>exact Src.ofSlice w hu a 0 c [] (by simp) (fun j u hj=>by simp at hj) (fun _ h=>by cases h)
  have r1:=run_append_nothing (P:=P) w t t ty e i hu h2 A' l.length c' hle _ hsrc
  refine eo_val (o:=⟨some d,.call { callee:=.builtin .append,args:=#[S,X],argTypes:=#[t,t] },ty,pos,after,g⟩) hg rfl hdd ?_ (h _ w (Fr.refl _ _) (by simpa using hO) (fun q hq=>.inl hq))
  simp only [List.length_nil] at hX
  simp [execOp,resolve,invoke,builtin,hS,hX,r1]
 ·obtain ⟨a,rfl,ha⟩:=(hd.now.2 0 (List.length_pos_iff.2 hy)).1
  obtain ⟨b,o,s⟩:=a
  simp only at ha; subst ha
  obtain ⟨news,n1,n2,n3,n4⟩:=slc_cells hO.pos h1 hd ys 0 (by simp)
  obtain ⟨v',w',r1,r2,r3,r4⟩:=run_app (P:=P) (ty:=ty) hT hn hz hO rfl (by rw [n1,hn]) (a:=⟨b,o,none⟩) (c:=c) (fun j u hj=>by
   have:=n2 j u hj
   have hadd:(⟨b,o,none⟩:Addr).add j=⟨b,o + j,none⟩:=by unfold Addr.add; split <;> simp_all
   rw [hadd]; simpa [ad,elemA] using this) n4 n3 hsz
  refine eo_val (o:=⟨some d,.call { callee:=.builtin .append,args:=#[S,X],argTypes:=#[t,t] },ty,pos,after,g⟩) hg rfl hdd ?_ (h v' w' r3 r2 r4)
  simp [execOp,resolve,invoke,builtin,hS,hX,r1]
theorem kI_one {k:IntKind} (w:World) (cs:List Value) (d:Int) (h:(kI k).r w cs d):cs.all oneC=true:=by have h:cs=_:=h; subst h; rfl
end ops

/-! ### drawn regions -/
def getS (SL:List (Value→World→Prop)) (i:Nat):Value→World→Prop:=SL.getD i (fun _ _=>True)
def AllOps (F:Nat→Oper→Prop):List Oper→Nat→Prop
 | [],_=>True
 | o::l,i=>F i o∧AllOps F l (i + 1)
theorem allOps_spec {F:Nat→Oper→Prop}:∀ {l:List Oper} {k:Nat},AllOps F l k→∀ i o,l[i]?=some o→F (k + i) o
 | [],_,_,i,o,h=>by simp at h
 | x::l,k,h,0,o,ho=>by simp at ho; subst ho; exact h.1
 | x::l,k,h,i + 1,o,ho=>by have:=allOps_spec h.2 i o (by simpa using ho); rwa [show k + (i + 1)=k + 1 + i by omega]
/-- Each is kept by R; those of the numbers of t need not be. -/
def StL (R : World → World → Prop) (t : List Nat) : List (Value → World → Prop) → Nat → Prop
  | [], _ => True
  | S :: l, i => (t.elem i = false → ∀ v w w', R w w' → S v w → S v w') ∧ StL R t l (i + 1)
theorem stL_spec {R:World→World→Prop} {t:List Nat}:∀ {SL:List (Value→World→Prop)} {k:Nat},StL R t SL k→∀ i,t.elem (k + i)=false→∀ v w w',R w w'→getS SL i v w→getS SL i v w'
 | [],_,_,i,_,v,w,w',_,_=>by simp [getS]
 | S::l,k,h,0,ht,v,w,w',hr,hs=>h.1 ht v w w' hr hs
 | S::l,k,h,i + 1,ht,v,w,w',hr,hs=>by
  have:=stL_spec h.2 i (by rwa [show k + 1 + i=k + (i + 1) by omega]) v w w' hr
  simp only [getS,List.getD_cons_succ] at hs ⊢
  exact this hs
/-- A tail's one and what comes behind it. -/
def skipB (A : List (List Nat)) (t n : Nat) (sk : List Nat) : Bool := (List.range n).all fun i => !sk.elem i || i == t || (A.getD i []).elem t
def skipsB (A:List (List Nat)) (n:Nat):List Nat→List (List Nat)→Bool
 | [],_=>true
 | t::T,sks=>skipB A t n (sks.headD [])&&skipsB A n T sks.tail
def StA (SL:List (Value→World→Prop)):List (List Nat)→List (List Nat)→Prop
 | [],_=>True
 | M::ML,sks=>StL (Fr M) (sks.headD []) SL 0∧StA SL ML sks.tail
theorem stA_spec {SL:List (Value→World→Prop)}:∀ {ML sks:List (List Nat)},StA SL ML sks→∀ k,k<ML.length→StL (Fr (ML.getD k [])) (sks.getD k []) SL 0
 | [],_,_,k,hk=>by simp at hk
 | M::ML,[],h,0,_=>h.1
 | M::ML,x::sks,h,0,_=>h.1
 | M::ML,[],h,k + 1,hk=>by have:=stA_spec h.2 k (by simpa using hk); simpa using this
 | M::ML,x::sks,h,k + 1,hk=>by have:=stA_spec h.2 k (by simpa using hk); simpa using this
theorem skipsB_spec {A:List (List Nat)} {n:Nat}:∀ {T:List Nat} {sks:List (List Nat)},skipsB A n T sks=true→∀ k t,T[k]?=some t→skipB A t n (sks.getD k [])=true
 | [],_,_,k,t,h=>by simp at h
 | x::T,[],h,0,t,ht=>by simp [skipsB] at h ht; subst ht; exact h.1
 | x::T,y::sks,h,0,t,ht=>by simp [skipsB] at h ht; subst ht; exact h.1
 | x::T,[],h,k + 1,t,ht=>by simp only [skipsB,Bool.and_eq_true] at h; have:=skipsB_spec h.2 k t (by simpa using ht); simpa using this
 | x::T,y::sks,h,k + 1,t,ht=>by simp only [skipsB,Bool.and_eq_true] at h; have:=skipsB_spec h.2 k t (by simpa using ht); simpa using this
theorem allM1 {φ:List Nat→Prop} {M:List Nat} {ML:List (List Nat)} (h:φ M) (hs:∀ M∈ML,φ M):∀ N∈M::ML,φ N:=fun N hN=>by
 cases hN with
 | head=>exact h
 | tail _ hN=>exact hs N hN
def getI (IL:List (World→Prop)) (k:Nat):World→Prop:=IL.getD k (fun _=>True)
def AllI:List (World→Prop)→Prop
 | []=>True
 | I::l=>(∀ w w',Ext w w'→I w→I w')∧AllI l
theorem allI_spec:∀ {IL:List (World→Prop)},AllI IL→∀ k w w',Ext w w'→getI IL k w→getI IL k w'
 | [],_,k,w,w',_,_=>by simp [getI]
 | I::l,h,0,w,w',f,hi=>h.1 w w' f hi
 | I::l,h,k + 1,w,w',f,hi=>by
  have:=allI_spec h.2 k w w' f
  simp only [getI,List.getD_cons_succ] at hi ⊢
  exact this hi
def AllT (l:List Oper) (F:Nat→Nat→Oper→Prop):List Nat→Nat→Prop
 | [],_=>True
 | i::T,k=>(∃ o,l[i]?=some o∧F k i o)∧AllT l F T (k + 1)
theorem allT_spec {l:List Oper} {F:Nat→Nat→Oper→Prop}:∀ {T:List Nat} {k:Nat},AllT l F T k→∀ m i o,T[m]?=some i→l[i]?=some o→F (k + m) i o
 | [],_,_,m,i,o,h,_=>by simp at h
 | x::T,k,h,0,i,o,hi,ho=>by
  obtain ⟨o',h1,h2⟩:=h.1
  simp at hi; subst hi
  rw [ho] at h1; cases h1
  exact h2
 | x::T,k,h,m + 1,i,o,hi,ho=>by have:=allT_spec h.2 m i o (by simpa using hi) ho; rwa [show k + (m + 1)=k + 1 + m by omega]
def dIn (ops:Array Oper) (D:List Nat):Bool:=(List.range ops.size).all fun j=>match dstOf ops j with | some t=>D.elem t | none=>true
def chk (ops:Array Oper) (A:List (List Nat)) (T D:List Nat) (N:Nat):Bool :=
 (okA ops A&&onceB ops&&chainB A T&&backB ops&&decide T.Nodup&&T.all (fun i=>decide (i<ops.size))&&(List.range ops.size).all fun i=>okd N (dstOf ops i))&&dIn ops D
theorem dIn_spec {ops:Array Oper} {D:List Nat} (h:dIn ops D=true) {t:Nat} (ht:D.elem t=false):((List.range ops.size).all fun j=>dstOf ops j != some t)=true:=by
 rw [List.all_eq_true]
 intro j hj
 have h1:=List.all_eq_true.1 h j hj
 cases hd:dstOf ops j with
 | none=>rfl
 | some u =>
  rw [hd] at h1
  simp only at h1
  have:u≠t:=fun e=>by subst e; rw [h1] at ht; cases ht
  simpa using this

section drawn
variable {P : Program} {r : Option Nat} {N : Nat} {Q : Post} {ρ0 : Env} {ds : List Deferred} {w0 : World} {l : List Oper}
theorem ec_any0 {id:Nat} (hm:P.follows .mixedOrders=true) (A:List (List Nat)) (D:List Nat) (SL:List (Value→World→Prop)) (hc:chk l.toArray A [] D N=true)
  (hS:StL Ext [] SL 0)
  (hops:AllOps (fun i o=>∀ ρ w,Ext w0 w→(∀ j∈A.getD i [],∀ t,dstOf l.toArray j=some t→getS SL j (ρ t) w)→(∀ t,oldB l.toArray A i t=true→ρ t=ρ0 t)→OneOp P r N l.toArray ds o ρ w (fun v w'=>Ext w w'∧getS SL i v w')) l 0)
  (hend:∀ ρ w,Ext w0 w→(∀ i t,dstOf l.toArray i=some t→getS SL i (ρ t) w)→(∀ t,D.elem t=false→ρ t=ρ0 t)→Q .normal ρ ds w):EC P r N (.region id l.toArray true) Q ρ0 ds w0:=by
 simp only [chk,Bool.and_eq_true] at hc
 refine ec_any hm A [] (getS SL) (fun _ _=>True) [] (fun _=>[]) (by simpa only [Bool.and_eq_true] using hc.1) (fun i v w w' f h=>stL_spec hS i rfl v w w' f h) (fun _ _ hm=>by cases hm) (fun k x i v w w' hx _ _ f h=>by simp at hx) (fun _ _ _ _ h=>h) (fun _ _=>trivial) ?_ ?_ ?_
 ·intro i o ho hi ρ w f _ h1 h2
  have:=allOps_spec hops i o (by simpa using ho) ρ w f (by simpa using h1) (by simpa using h2)
  simpa using this
 ·intro k i o hk; simp at hk
 ·intro ρ w f _ h1 h2
  exact hend ρ w f h1 (fun t ht=>h2 t (dIn_spec hc.2 ht))
/-- T: the tail; ML: the blocks that each turns; sks: of each those that come behind it; IL: what holds between them. -/
theorem ec_anyN {id : Nat} (hm : P.follows .mixedOrders = true) (A : List (List Nat)) (D LL T : List Nat) (ML sks : List (List Nat)) (IL : List (World → Prop)) (SL : List (Value → World → Prop))
    (hc : (chk l.toArray A T D N && skipsB A l.length T sks && Nat.beq SL.length l.length && Nat.beq ML.length T.length) = true) (hML : ∀ M ∈ ML, ∀ m ∈ M, m ∈ LL)
    (hS : StL Ext [] SL 0) (hS2 : StA SL ML sks) (hI : AllI IL) (hI0 : getI IL 0 w0)
    (hops : AllOps (fun i o => T.elem i = false → ∀ ρ w, Fr LL w0 w → (∀ t, T.head? = some t → (A.getD t []).elem i = true → Ext w0 w) → (∀ j ∈ A.getD i [], ∀ t, dstOf l.toArray j = some t → getS SL j (ρ t) w) → (∀ t, oldB l.toArray A i t = true → ρ t = ρ0 t) → OneOp P r N l.toArray ds o ρ w (fun v w' => Ext w w' ∧ getS SL i v w')) l 0)
    (hta : AllT l (fun k i o => ∀ ρ w, Fr LL w0 w → (k = 0 → Ext w0 w) → getI IL k w → (∀ j ∈ A.getD i [], ∀ u, dstOf l.toArray j = some u → getS SL j (ρ u) w) → (∀ u, oldB l.toArray A i u = true → ρ u = ρ0 u) → OneOp P r N l.toArray ds o ρ w (fun v w' => Fr (ML.getD k []) w w' ∧ getI IL (k + 1) w' ∧ getS SL i v w')) T 0)
    (hend : ∀ ρ w, Fr LL w0 w → getI IL T.length w → (∀ i t, dstOf l.toArray i = some t → getS SL i (ρ t) w) → (∀ t, D.elem t = false → ρ t = ρ0 t) → Q .normal ρ ds w) : EC P r N (.region id l.toArray true) Q ρ0 ds w0 := by
  simp only [chk, Bool.and_eq_true] at hc
  obtain ⟨⟨⟨⟨hc1, hc2⟩, hc3⟩, hc4⟩, hc5⟩ := hc
  have hlen := Nat.eq_of_beq_eq_true hc4
  have hlen2 := Nat.eq_of_beq_eq_true hc5
  refine ec_any hm A T (getS SL) (getI IL) LL (fun k => ML.getD k []) (by simpa only [Bool.and_eq_true] using hc1) (fun i v w w' f h => stL_spec hS i rfl v w w' f h) (fun k m hm => ?_) (fun k x i v w w' hx hi ha f h => ?_) (fun k w w' f h => allI_spec hI k w w' f h) (fun w f => allI_spec hI 0 w0 w f hI0) ?_ ?_ ?_
  · by_cases hk : k < ML.length
    · refine hML (ML.getD k []) ?_ m hm
      simp [List.getD_eq_getElem?_getD, hk]
    · simp [List.getD_eq_getElem?_getD, List.getElem?_eq_none (Nat.le_of_not_lt hk)] at hm
  · by_cases hlt : i < l.length
    · have hk : k < ML.length := by rw [hlen2]; exact (List.getElem?_eq_some_iff.1 hx).1
      refine stL_spec (stA_spec hS2 k hk) i ?_ v w w' f h
      have h1 := List.all_eq_true.1 (skipsB_spec hc3 k x hx) i (by simp [hlt])
      simp only [Bool.or_eq_true, Bool.not_eq_true', beq_iff_eq] at h1
      rcases h1 with (h1 | h1) | h1
      · simpa using h1
      · exact absurd h1 hi
      · exact absurd (by simpa using h1) ha
    · simp [getS, List.getD_eq_getElem?_getD, List.getElem?_eq_none (show SL.length ≤ i by omega)]
  · intro i o ho hi ρ w f h0 h1 h2
    have := allOps_spec hops i o (by simpa using ho) (by simpa using hi) ρ w f (by rw [Nat.zero_add]; exact h0) (by simpa using h1) (by simpa using h2)
    simpa using this
  · intro k i o hk ho ρ w f h0 hi h1 h2
    have := allT_spec hta k i o hk (by simpa using ho) ρ w f (by simpa using h0) (by simpa using hi) h1 h2
    simpa using this
  · intro ρ w f hi h1 h2
    exact hend ρ w f hi h1 (fun t ht => h2 t (dIn_spec hc2 ht))
end drawn

section
variable {T : Type} [Inhabited T] {k : Kd T} {B e : Nat} {L : List Nat} {w w' : World} {v : Value} {l : List T}
theorem bs_own {b:Nat} {cs:List Value} {ys:List T} (hp:0<k.n) (hb:∀ m∈L,m<B) (hB:B≤b) (hk:Blk w b e cs) (hl:cs.length=ys.length * k.n) (hm:Nat.ble ys.length 1000000=true) (hr:Stb (b::L) w (fun w=>RowD k w cs ys)) :
  OwnS k B e L w (.slice (some ⟨b,0,none⟩) ys.length ys.length) ys :=
 ⟨hp,fun m hm=>⟨by have:=hb m hm; have:=hk.lt; omega,fun h=>by have:=hb m hm; have h:m∈[b]:=h; simp at h; omega⟩,Nat.le_trans hB (Nat.le_of_lt hk.lt),cs,⟨hl,.inr ⟨b,_,cs.toArray,rfl,hB,hk,Nat.le_refl _,by have:=Nat.le_of_ble_eq_true hm; simp only [maxLen]; omega,by simpa using hl,by simp [← hl]⟩⟩,hr⟩
theorem OwnS.weak {L':List Nat} (h:OwnS k B e L w v l) (hL:∀ m∈L',m∈L):OwnS k B e L' w v l:=by
 obtain ⟨hp,hb,hB,xs,h1,h2⟩:=h
 exact ⟨hp,fun m hm=>hb m (hL m hm),hB,xs,h1,h2.weak fun m hm=>by
  rcases List.mem_append.1 hm with h3 | h3
  ·exact List.mem_append_left _ h3
  ·exact List.mem_append_right _ (hL m h3)⟩
theorem slc_none {A:Option Addr} {c:Nat} {d:List T} (h:SlC k w A c d) (hA:A.isNone=true):d=[]:=by
 cases d with
 | nil=>rfl
 | cons x d =>
  obtain ⟨⟨a,ha,_⟩,_⟩:=h.2 0 (by simp)
  subst ha; cases hA
theorem setL_eq (cs:List Value) (o:Nat) (vs:List Value) (h:o + vs.length≤cs.length):setL cs o vs=cs.take o++vs++cs.drop (o + vs.length):=by
 have:=setL_app vs (cs.take o) (cs.drop o) o (by simp; omega) (by simp; omega)
 rwa [List.take_append_drop,List.drop_drop] at this
theorem setL_part {cs vs:List Value} {n i j:Nat} (hv:vs.length=n) (h:i * n + n≤cs.length) (hij:j≠i):((setL cs (i * n) vs).drop (j * n)).take n=(cs.drop (j * n)).take n:=by
 rw [setL_eq _ _ _ (by omega)]
 apply List.ext_getElem?
 intro q
 rw [List.getElem?_take,List.getElem?_take]
 split
 ·rename_i hq
  rw [List.getElem?_drop,List.getElem?_drop,List.append_assoc,List.getElem?_append]
  simp only [List.length_take,Nat.min_eq_left (show i * n≤cs.length by omega)]
  rcases Nat.lt_or_ge j i with hji | hji
  ·have h2:(j + 1) * n≤i * n:=Nat.mul_le_mul_right _ hji
   rw [Nat.add_mul,Nat.one_mul] at h2
   rw [if_pos (by omega),List.getElem?_take,if_pos (by omega)]
  ·have hji:i<j:=by omega
   have h2:(i + 1) * n≤j * n:=Nat.mul_le_mul_right _ hji
   rw [Nat.add_mul,Nat.one_mul] at h2
   rw [if_neg (by omega),List.getElem?_append_right (by omega),List.getElem?_drop]
   congr 1; omega
 ·rfl
theorem setL_this {cs vs:List Value} {n i:Nat} (hv:vs.length=n) (h:i * n + n≤cs.length):((setL cs (i * n) vs).drop (i * n)).take n=vs:=by
 rw [setL_eq _ _ _ (by omega),List.append_assoc,List.drop_append_of_le_length (by simp; omega)]
 simp [hv,Nat.min_eq_left (show i * n≤cs.length by omega),List.drop_take]
theorem setL_take {cs vs:List Value} {n i m:Nat} (hv:vs.length=n) (h:i * n + n≤m) (hm:m≤cs.length):(setL cs (i * n) vs).take m=setL (cs.take m) (i * n) vs:=by
 rw [setL_eq _ _ _ (by omega),setL_eq _ _ _ (by simp; omega)]
 rw [List.take_append,List.take_append,List.take_take,List.take_take,Nat.min_eq_right (show i * n≤m by omega),Nat.min_eq_left (show i * n≤m by omega)]
 congr 1
 ·congr 1
  apply List.take_of_length_le
  simp; omega
 ·rw [List.drop_take]
  congr 1
  simp; omega

theorem o_ostore {P:Program} {r:Option Nat} {N:Nat} {ops:Array Oper} {Q:Post} {rest:List Oper} {ρ:Env} {ds:List Deferred} {ty:TypeId} {pos:String} {after:Array Edge} {g:Option (Nat × Bool)}
  {t c:Nat} {X Y:Operand} {A:Option Addr} {i:Int} {vs:List Value} {x:T}
  (hX:ev ρ X=.pointer (some (elemA A k.n i.toNat))) (hO:OwnS k B e L w (.slice A l.length c) l) (h0:0≤i) (hi:i<l.length) (hY:(ev ρ Y).cells=vs.toArray) (hT:Sz P t vs.length) (hn:vs.length=k.n) (h1:vs.all oneC=true)
  (hd:Stb (own (.slice A l.length c)++L) w (fun w=>k.r w vs x)) (hg:wantE ops ρ g=true)
  (h:∀ w',Fr (own (.slice A l.length c)) w w'→OwnS k B e L w' (.slice A l.length c) (l.set i.toNat x)→EO P r N ops Q rest ρ ds w') :
  EO P r N ops Q (⟨none,.store t X Y,ty,pos,after,g⟩::rest) ρ ds w:=by
 obtain ⟨hp,hb,hB,xs,⟨hl,hr⟩,hs⟩:=hO
 have hi':i.toNat<l.length:=by omega
 rcases hr with ⟨e1,e2⟩ | ⟨b,cap,cur,e1,hbb,hh,hle,hcm,hcs,htk⟩
 ·omega
 ·obtain ⟨rfl,_,rfl⟩:=Value.slice.inj e1
  have hcell:i.toNat * k.n + k.n≤l.length * k.n:=by
   have h3:(i.toNat + 1) * k.n≤l.length * k.n:=Nat.mul_le_mul_right _ hi'
   rwa [Nat.add_mul,Nat.one_mul] at h3
  have hcap:l.length * k.n≤cur.size:=by rw [hcs]; exact Nat.mul_le_mul_right _ hle
  have hblk:Blk w b e cur.toList:=by simpa [Blk] using hh
  have hown:own (.slice (some ⟨b,0,none⟩) l.length c)=[b]:=rfl
  rw [hown] at h hd hs
  refine o_store (b:=b) (o:=i.toNat * k.n) (cs:=cur.toList) (vs:=vs) (by rw [hX]; simp [elemA]) hblk hY hT h1 (by rw [Nat.ble_eq,hn,Array.length_toList]; omega) hg fun w' F B2=>?_
  refine h w' F ⟨hp,fun m hm=>⟨Nat.lt_of_lt_of_le (hb m hm).1 F.size,(hb m hm).2⟩,Nat.le_trans hB F.size,setL xs (i.toNat * k.n) vs,⟨by rw [setL_length,hl,List.length_set],.inr ⟨b,c,(setL cur.toList (i.toNat * k.n) vs).toArray,by rw [List.length_set],hbb,B2,by rw [List.length_set]; exact hle,hcm,by simp [setL_length,hcs],?_⟩⟩,?_⟩
  ·rw [List.length_set]
   show (setL cur.toList (i.toNat * k.n) vs).take _=_
   rw [setL_take hn hcell (by simpa using hcap),htk]
  ·rw [hown]
   refine (((hs.and hd).fr F (fun m hm=>List.mem_append_left _ hm))).mono fun w0 ⟨q1,q2⟩=>?_
   intro j hj
   rw [List.length_set] at hj
   by_cases hji:j=i.toNat
   ·subst hji
    rw [setL_this hn (by rw [hl]; exact hcell)]
    simpa [hj] using q2
   ·rw [setL_part hn (by rw [hl]; exact hcell) hji]
    have:=q1 j hj
    rwa [show (l.set i.toNat x).getD j default=l.getD j default by simp [List.getElem?_set,Ne.symm hji]]
end

section ops
variable {P : Program} {r : Option Nat} {N : Nat} {ops : Array Oper} {Q : Post} {rest : List Oper} {ρ : Env} {ds : List Deferred} {w : World}
variable {d : Nat} {ty : TypeId} {pos : String} {after : Array Edge} {g : Option (Nat × Bool)}
/-- A call that is walked where it stands. -/
theorem o_inl {f : FuncId} {X : Operand} {as : List Operand} {vs caps : List Value} {ts : Array TypeId} (hf : CF P f) (hX : ev ρ X = .func (.func f) #[] caps.toArray) (ha : as.map (ev ρ) = vs) (hg : wantE ops ρ g = true) (hd : Nat.blt d N = true)
    (h : Calls P f (vs ++ caps).toArray w (Ret fun v w' => EO P r N ops Q rest (upd ρ d v) ds w')) :
    EO P r N ops Q (⟨some d, .call { callee := .value X, args := as.toArray, argTypes := ts }, ty, pos, after, g⟩ :: rest) ρ ds w := by
  refine eo_enter (o := ⟨some d, .call { callee := .value X, args := as.toArray, argTypes := ts }, ty, pos, after, g⟩) hg rfl hd ?_ h
    (fun v w'' ⟨u, e, hp⟩ => by cases e; exact hp) (fun c w'' ⟨u, e, hp⟩ => by cases e) (fun w'' ⟨u, e, hp⟩ => by cases e)
  have := hf (vs ++ caps).toArray w
  simp [execOp, resolve, hX, Deferred.ofValue, invoke, ha] at this ⊢
  exact this
theorem o_callv {f:FuncId} {X:Operand} {as:List Operand} {vs:List Value} {ts:Array TypeId} {post:Value→World→Prop} (hf:CF P f) (hX:ev ρ X=.func (.func f) #[] #[]) (ha:as.map (ev ρ)=vs)
  (hc:Calls P f vs.toArray w (Ret post)) (hg:wantE ops ρ g=true) (hd:Nat.blt d N=true)
  (h:∀ v w',post v w'→EO P r N ops Q rest (upd ρ d v) ds w') :
  EO P r N ops Q (⟨some d,.call { callee:=.value X,args:=as.toArray,argTypes:=ts },ty,pos,after,g⟩::rest) ρ ds w:=by
 refine eo_enter (o:=⟨some d,.call { callee:=.value X,args:=as.toArray,argTypes:=ts },ty,pos,after,g⟩) hg rfl hd ?_ hc
  (fun v w'' ⟨u,e,hp⟩=>by cases e; exact h _ _ hp) (fun c w'' ⟨u,e,hp⟩=>by cases e) (fun w'' ⟨u,e,hp⟩=>by cases e)
 have:=hf vs.toArray w
 simp [execOp,resolve,hX,Deferred.ofValue,invoke,ha,this]
/-- A method that is called through an interface value. -/
def MF (P : Program) (t : TypeId) (name : String) (f : FuncId) : Prop := ∀ v args w, (callMethod (.iface t v) name args).run P w = .ok (.enter f (#[v] ++ args)) w
theorem o_inlI {f:FuncId} {X:Operand} {t:TypeId} {v:Value} {name:String} {as:List Operand} {vs:List Value} {ts:Array TypeId} (hf:MF P t name f) (hX:ev ρ X=.iface t v) (ha:as.map (ev ρ)=vs) (hg:wantE ops ρ g=true) (hd:Nat.blt d N=true)
  (h:Calls P f (v::vs).toArray w (Ret fun v w'=>EO P r N ops Q rest (upd ρ d v) ds w')) :
  EO P r N ops Q (⟨some d,.call { callee:=.invoke X name,args:=as.toArray,argTypes:=ts },ty,pos,after,g⟩::rest) ρ ds w:=by
 refine eo_enter (o:=⟨some d,.call { callee:=.invoke X name,args:=as.toArray,argTypes:=ts },ty,pos,after,g⟩) hg rfl hd ?_ h
  (fun v w'' ⟨u,e,hp⟩=>by cases e; exact hp) (fun c w'' ⟨u,e,hp⟩=>by cases e) (fun w'' ⟨u,e,hp⟩=>by cases e)
 have:=hf v vs.toArray w
 simp [execOp,resolve,hX,invoke,ha] at this ⊢
 exact this
theorem r_mkfn' {dd:Option Nat} {fn:Fn} {cs:List Operand} {vs:List Value} (h:cs.map (ev ρ)=vs):RunV P ρ w ⟨dd,.makeFunc fn #[] cs.toArray,ty,pos,after,g⟩ (.func fn #[] vs.toArray):=by
 subst h
 simp [RunV,execOp,Instr.makeFunc]
theorem r_nilchk {dd:Option Nat} {X:Operand} {a:Addr} (hX:ev ρ X=.pointer (some a)):RunV P ρ w ⟨dd,.nilCheck X,ty,pos,after,g⟩ (.pointer (some a)):=by
 simp [RunV,execOp,hX]
/-- make, in a region that draws its order: as a slice that stays. -/
theorem o_make1 {T : Type} [Inhabited T] {k : Kd T} {t E n bytes : Nat} {zv : Value} {z : T} {X Y : Operand} {kl kc : IntKind} {i : Int} {L : List Nat} (hT : Slc P t E n bytes zv) (hn : k.n = n) (hc1 : zv.cells.size = n)
    (hz : ∀ w, k.r w zv.cells.toList z) (hX : ev ρ X = .int kl i) (hY : ev ρ Y = .int kc i) (hs : 0 ≤ i ∧ i * bytes ≤ 281474976710656 ∧ i ≤ 9223372036854775807) (hL : Lt L w)
    (hg : wantE ops ρ g = true) (hd : Nat.blt d N = true) (hp : 0 < n)
    (h : ∀ A c w', Ext w w' → Stb L w' (fun w => SlC k w A c (List.replicate i.toNat z)) → EO P r N ops Q rest (upd ρ d (.slice A (List.replicate i.toNat z).length c)) ds w') :
    EO P r N ops Q (⟨some d, .makeSlice t X Y, ty, pos, after, g⟩ :: rest) ρ ds w :=
  o_make hT hn hc1 hz hX hY hs hL hg hd hp fun v' w' F O _ => by
    obtain ⟨A, c, e, H⟩ := O.still
    subst e
    exact h A c w' F H
end ops

theorem gdT {α:Type} {c:Bool} {v u:α} (h:c=true):(bif c then v else u)=v:=by rw [h]; rfl
theorem orL {a b:Bool} (h:(a||b)=false):a=false:=by cases a <;> simp_all
theorem orR {a b:Bool} (h:(a||b)=false):b=false:=by cases a <;> simp_all
theorem andM {a b:Bool} (h:a=true) (k:b=true):(a&&b)=true:=by rw [h,k]; rfl
theorem notT {a:Bool} (h:a=false):(!a)=true:=by rw [h]; rfl
theorem eq_ev {α:Type} {R:α→Prop} {x y:α} (h:x=y) (e:R y):R x:=h ▸ e
theorem mapv1 {ρ:Env} {a:Operand} {v:Value} (h:ev ρ a=v):[a].map (ev ρ)=[v]:=by simp [h]
theorem mapv2 {ρ:Env} {a b:Operand} {v u:Value} (h:ev ρ a=v) (k:ev ρ b=u):[a,b].map (ev ρ)=[v,u]:=by simp [h,k]
/-! ### s[l:h] of a slice -/
section
variable {P : Program} {r : Option Nat} {N : Nat} {ops : Array Oper} {Q : Post} {rest : List Oper} {ρ : Env} {ds : List Deferred} {w : World}
theorem want_ct {t j:Nat} {c:Bool} (hj:(ops[j]?).bind (·.dst)=some t) (hv:ρ t=.bool c):wantE ops ρ (some (j,true))=c:=by
 cases c <;> simp [wantE,yieldE,hj,hv]
theorem want_cf {t j:Nat} {c:Bool} (hj:(ops[j]?).bind (·.dst)=some t) (hv:ρ t=.bool c):wantE ops ρ (some (j,false))=!c:=by
 cases c <;> simp [wantE,yieldE,hj,hv]
theorem want_gf {t j:Nat} {c e:Bool} (hj:(ops[j]?).bind (·.dst)=some t) (hv:ρ t=(bif c then .bool e else undef)):wantE ops ρ (some (j,false))=(c&&!e):=by
 cases c <;> cases e <;> simp [wantE,yieldE,hj,hv,undef]
variable {d : Nat} {ty : TypeId} {pos : String} {after : Array Edge} {g : Option (Nat × Bool)}
theorem o_vg {op:Op} {v:Value} {c:Bool} (hw:wantE ops ρ g=c) (hr:c=true→RunV P ρ w ⟨some d,op,ty,pos,after,g⟩ v) (hp:plainOp op=true) (hd:Nat.blt d N=true)
  (h:EO P r N ops Q rest (upd ρ d (bif c then v else undef)) ds w):EO P r N ops Q (⟨some d,op,ty,pos,after,g⟩::rest) ρ ds w:=by
 cases c with
 | true=>exact o_v (hr rfl) hw hp hd h
 | false=>exact o_no hw hd h
theorem o_callg {f:FuncId} {as:List Operand} {vs:List Value} {ts:Array TypeId} {c:Bool} {V:Value} (hf:CF P f) (hw:wantE ops ρ g=c) (ha:c=true→as.map (ev ρ)=vs)
  (hc:c=true→Calls P f vs.toArray w (Ret fun v w'=>Ext w w'∧v=V)) (hd:Nat.blt d N=true)
  (h:∀ w',Ext w w'→EO P r N ops Q rest (upd ρ d (bif c then V else undef)) ds w') :
  EO P r N ops Q (⟨some d,.call { callee:=.value (.func f),args:=as.toArray,argTypes:=ts },ty,pos,after,g⟩::rest) ρ ds w:=by
 cases c with
 | true=>exact o_call hf (ha rfl) (hc rfl) hw hd fun v w' ⟨F,e⟩=>by subst e; exact h w' F
 | false=>exact o_no hw hd (h w (Fr.refl _ _))
variable {dd : Option Nat}
theorem r_pickAnd {C A B:Operand} {c x:Bool} (hC:ev ρ C=.bool c) (hA:c=true→ev ρ A=.bool x) (hB:ev ρ B=.bool false):RunV P ρ w ⟨dd,.pick C A B,ty,pos,after,g⟩ (.bool (c&&x)):=by
 cases c with
 | true=>exact r_pick_t hC (hA rfl)
 | false=>exact r_pick_f hC hB
theorem r_pickOr {C A B:Operand} {c y:Bool} (hC:ev ρ C=.bool c) (hA:ev ρ A=.bool true) (hB:c=false→ev ρ B=.bool y):RunV P ρ w ⟨dd,.pick C A B,ty,pos,after,g⟩ (.bool (c||y)):=by
 cases c with
 | true=>exact r_pick_t hC hA
 | false=>exact r_pick_f hC (hB rfl)
end

/-- Block b is this object. -/
def Lp (w : World) (b : Nat) (o : Obj) : Prop := w.heap[b]? = some o
theorem Lp.lt {w:World} {b:Nat} {o:Obj} (h:Lp w b o):b<w.heap.size:=(Array.getElem?_eq_some_iff.1 h).1
theorem Lp.fr {w w':World} {M:List Nat} {b:Nat} {o:Obj} (h:Lp w b o) (f:Fr M w w') (hb:b∉M):Lp w' b o:=(f.block b h.lt hb).trans h
theorem Lp.ex {w w':World} {b:Nat} {o:Obj} (h:Lp w b o) (f:Ext w w'):Lp w' b o:=h.fr f (by simp)
theorem Lp.stb {w:World} {L:List Nat} {b:Nat} {o:Obj} (h:Lp w b o) (hb:b∉L):Stb L w (fun w=>Lp w b o):=fun w' ha=>(ha b h.lt hb).trans h
theorem Fr.putObj (w:World) (b:Nat) (o:Obj):Fr [b] w (w.putObj b o) :=
 ⟨rfl,rfl,rfl,by simp,fun k hk hn=>World.putObj_heap_other (by simpa using hn)⟩
theorem Lp.put {w:World} {b:Nat} {o:Obj} (o':Obj) (h:Lp w b o):Lp (w.putObj b o') b o':=World.putObj_heap_same h.lt

section
variable {P : Program} {r : Option Nat} {N : Nat} {Q : Post} {ρ : Env} {ds : List Deferred} {w : World}

/-- What a loop over items comes to. -/
inductive ItR {S R T : Type} (body : S → T → S ⊕ R → Prop) : S → List T → S ⊕ R → Prop
  | nil {s : S} : ItR body s [] (.inl s)
  | step {s s' : S} {x : T} {xs : List T} {z : S ⊕ R} : body s x (.inl s') → ItR body s' xs z → ItR body s (x :: xs) z
  | stop {s : S} {x : T} {xs : List T} {y : R} : body s x (.inr y) → ItR body s (x :: xs) (.inr y)

/-! ### the iterator's side: a call of yield -/
variable {ops : Array Oper} {rest : List Oper} {d : Nat} {ty : TypeId} {pos : String} {after : Array Edge} {g : Option (Nat × Bool)}
/-! ### a function that holds such a statement: its end -/
end

section
variable {P : Program} {r : Option Nat} {N : Nat} {ops : Array Oper} {Q : Post} {ρ0 : Env} {ds : List Deferred} {w0 : World}
end

/-! ### a loop in an iterator: it may be left at any time by a return -/
section loopIt
variable {P : Program} {r : Option Nat} {N : Nat} {Q : Post} {ρ : Env} {ds : List Deferred} {w : World} {S Y : Type}
end loopIt

section drawn
variable {P : Program} {r : Option Nat} {N : Nat} {Q : Post} {ρ0 : Env} {ds : List Deferred} {w0 : World} {l : List Oper}
end drawn

/-! ### in fewer letters -/
section short
variable {P : Program} {r : Option Nat} {N : Nat} {ops : Array Oper} {Q : Post} {rest : List Oper} {ρ : Env} {ds : List Deferred} {w : World} {d : Nat} {ty : TypeId} {pos : String} {after : Array Edge} {g : Option (Nat × Bool)}
theorem o_w {op:Op} {v:Value} (hr:RunV P ρ w ⟨some d,op,ty,pos,after,g⟩ v) (h:EO P r N ops Q rest (upd ρ d v) ds w) (hg:wantE ops ρ g=true:=by exact rfl) (hp:plainOp op=true:=by exact rfl) (hd:Nat.blt d N=true:=by exact rfl) :
  EO P r N ops Q (⟨some d,op,ty,pos,after,g⟩::rest) ρ ds w:=eo_val hg hp hd hr h
theorem o_q {op:Op} {v:Value} {R:Value→World→Prop} (hr:RunV P ρ w ⟨some d,op,ty,pos,after,g⟩ v) (hR:R v w) (hg:wantE ops ρ g=true:=by exact rfl) (hp:plainOp op=true:=by exact rfl) (hd:Nat.blt d N=true:=by exact rfl) :
  OneOp P r N ops ds ⟨some d,op,ty,pos,after,g⟩ ρ w R:=o_v hr hg hp hd (eo_nil ⟨rfl,rfl,v,rfl,hR⟩)
end short

section eqs
variable {P : Program} {t e : TypeId}
end eqs
section runs
variable {P : Program} {ρ : Env} {w : World} {d : Option Nat} {ty : TypeId} {pos : String} {after : Array Edge} {g : Option (Nat × Bool)}
end runs
end Go.Proofs.Ytdojgmmpcdbeoaa