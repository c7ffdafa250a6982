/- Functions that defer; calls that may panic. -/
import Derived.Test.YtbijobepjjokmaaWb
import Derived.RecoverIn
namespace Go.Proofs.Ytbijobepjjokmaa
open Go Go.RowKit
set_option linter.unusedVariables false
set_option linter.unusedSimpArgs false

/-- What a function that defers leaves by. -/
def leaveD (P : Program) (rs : Array ResultVar) (R : Ending → World → Prop) (ρ : Env) : List Deferred → FrameMode → World → Prop
  | [], .returning, w => ∃ v, (resE rs ρ).run P w = .ok v w ∧ R (.returned v) w
  | [], .panicking chain, w => R (.panicked chain) w
  | [], .run, _ => False
  | d :: ds, u, w => u ≠ .run ∧ ∃ fv cap f args, d.target = .fn fv cap ∧ (invoke d.target d.args).run P w = .ok (.enter f args) w ∧
      CallsDIn (FW none) 0 P f args u w fun
        | .returned _, u', w' => leaveD P rs R ρ ds (settle u') w'
        | .panicked chain, u', w' => leaveD P rs R ρ ds (raised u' chain) w'
        | .outgrown, _, w' => R .outgrown w'
theorem leaves_D {P:Program} {fn:Func} {R:Ending→World→Prop} {a:Act}:∀ (ds:List Deferred) (u:FrameMode) (w:World),leaveD P fn.results R (envOf a) ds u w→LeavesIn (FW none) 0 P fn a.tmps R ds u w
 | [],.returning,w,h=>by
  obtain ⟨v,h1,h2⟩:=h
  rw [resE_envOf] at h1
  exact ⟨v,h1,h2⟩
 | [],.panicking _,w,h=>h
 | [],.run,w,h=>h
 | d::ds,u,w,⟨h0,fv,cap,f,args,h1,h2,h3⟩=>by
  refine ⟨h0,fun h=>by simp [FW] at h,fv,cap,f,args,h1,h2,fun _ _=>trivial,h3.mono fun e u' w' he=>?_⟩
  cases e with
  | returned v=>exact leaves_D ds _ _ he
  | panicked c=>exact leaves_D ds _ _ he
  | outgrown=>exact he
def bodyDP (P:Program) (rs:Array ResultVar) (R:Ending→World→Prop):Post
 | .normal,ρ,ds,w=>leaveD P rs R ρ ds .returning w
 | .ret,ρ,ds,w=>leaveD P rs R ρ ds .returning w
 | .panic chain,ρ,ds,w=>leaveD P rs R ρ ds (.panicking chain) w
 | _,_,_,_=>False
theorem calls_ecD {P:Program} {f:FuncId} {fn:Func} {c:Code} {args:Array Value} {w:World} {R:Ending→World→Prop} {N:Nat}
  (hf:P.funcs[f]?=some fn) (hb:fn.body=some c) (hN:fn.ntmps=N) (hs:Nat.ble args.size N=true)
  (h:EC P none N c (bodyDP P fn.results R) (base args) [] w):Calls P f args w R:=by
 have hs':args.size≤N:=by simpa [Nat.ble_eq] using hs
 refine callsIn_wide (n:=0).1 (callsIn_of_wp_defers (F:=Fence.wide) hf hb trivial ?_)
 refine wpIn_mono (h { tmps:=args++Array.replicate (fn.ntmps - args.size) undef,defers:=[] } (by simp [hN]; omega) ?_ rfl) ?_
 ·funext t
  simp only [envOf,base,Array.getD_eq_getD_getElem?,List.getD_eq_getElem?_getD,Array.getElem?_append,Array.getElem?_toList]
  by_cases h1:t<args.size
  ·simp [h1]
  ·rw [if_neg h1,Array.getElem?_eq_none (Nat.le_of_not_lt h1)]
   simp only [Array.getElem?_replicate]
   split <;> rfl
 ·rintro e a w ⟨_,hq⟩
  cases e <;> first | exact hq.elim | exact leaves_D _ _ _ hq

section
variable {P : Program} {r : Option Nat} {N : Nat} {ops : Array Oper} {Q : Post} {rest : List Oper} {ρ : Env} {ds : List Deferred} {w : World} {ty : TypeId} {pos : String} {after : Array Edge} {g : Option (Nat × Bool)}
theorem o_defer {X:Operand} {f:FuncId} {caps:List Value} {ts:Array TypeId} (hX:ev ρ X=.func (.func f) #[] caps.toArray) (hg:wantE ops ρ g=true)
  (h:EO P none N ops Q rest ρ ({ target:=.fn (.func f) caps.toArray,args:=#[] }::ds) w) :
  EO P none N ops Q (⟨none,.defer { callee:=.value X,args:=#[],argTypes:=ts },ty,pos,after,g⟩::rest) ρ ds w:=by
 intro a h1 h2 h3
 unfold wpListIn
 rw [want_env,h2,hg]
 refine ⟨fun _ _=>trivial,?_⟩
 rw [show (FW none).round=none from rfl,Oper.semAt_none,← ev_envOf,h2]
 have hx:(execOp (ev ρ) ⟨none,.defer { callee:=.value X,args:=#[],argTypes:=ts },ty,pos,after,g⟩).run P w=.ok (.defer { target:=.fn (.func f) caps.toArray,args:=#[] }) w:=by
  simp [execOp,resolve,hX,Deferred.ofValue]
 rw [hx]
 exact h _ h1 (by rw [← h2]; rfl) (by rw [← h3]; rfl)
/-- panic(v). -/
theorem o_panic {X : Operand} {u : TypeId} {v : Value} (hX : ev ρ X = .iface u v) (hg : wantE ops ρ g = true) (hp : Q (.panic [{ v := .iface u v, recovered := false }]) ρ ds w) :
    EO P r N ops Q (⟨none, .panic X, ty, pos, after, g⟩ :: rest) ρ ds w := by
  refine eo_run (o := ⟨none, .panic X, ty, pos, after, g⟩) hg rfl (.halt (.panic (.iface u v)) w) ?_ fun a h1 h2 h3 => ?_
  · simp [execOp, hX, Instr.panic]
  · exact ⟨h1, by rw [h2, h3]; exact hp⟩
end
end Go.Proofs.Ytbijobepjjokmaa
