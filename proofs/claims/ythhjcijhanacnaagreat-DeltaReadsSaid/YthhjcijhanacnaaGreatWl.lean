/- Maps with numbers as keys, arrays by a place, bound functions, bytes as a text. -/
import Derived.Test.YthhjcijhanacnaaGreatWe
import Derived.MapKept
import Derived.Laws.BytesString
namespace Go.Proofs.YthhjcijhanacnaaGreat
open Go Go.RowKit
set_option linter.unusedVariables false
set_option linter.unusedSimpArgs false

/-! ### maps -/
section maps
variable {P : Program} {r : Option Nat} {N : Nat} {ops : Array Oper} {Q : Post} {rest : List Oper} {ρ : Env} {ds : List Deferred} {w : World}
variable {ty : TypeId} {pos : String} {after : Array Edge} {g : Option (Nat × Bool)}
end maps

/-! ### arrays, by a place -/
/-- The cells of an array. -/
def arC {T : Type} [Inhabited T] (f : T → Value) (m : Nat) (e : List T) : List Value := (List.range m).map fun j : Nat => f (nth e (j : Int))
theorem arC_at {T:Type} [Inhabited T] (f:T→Value) {m:Nat} (e:List T) {i:Int} (h:0≤i∧i<(m:Int)):(arC f m e)[i.toNat]?=some (f (nth e i)):=by
 unfold arC
 have:i.toNat<m:=by omega
 simp only [List.getElem?_map,List.getElem?_range this,Option.map_some]
 rw [Int.toNat_of_nonneg h.1]
theorem arC_set {T:Type} [Inhabited T] (f:T→Value) {m:Nat} (e:List T) {i:Int} (v:T) (h:0≤i∧i<(m:Int)) (he:e.length=m):(arC f m e).set i.toNat (f v)=arC f m (e.set i.toNat v):=by
 apply List.ext_getElem?
 intro j
 unfold arC
 by_cases hj:j<m
 ·by_cases hji:i.toNat=j
  ·subst hji
   simp [hj,nth,he]
  ·simp only [List.getElem?_set_ne hji,List.getElem?_map,List.getElem?_range hj,Option.map_some,nth,Int.toNat_natCast,List.getD_eq_getElem?_getD,List.getElem?_set_ne hji]
 ·rw [List.getElem?_eq_none (by simp; omega),List.getElem?_eq_none (by simp; omega)]
section arrays
variable {P : Program} {r : Option Nat} {N : Nat} {ops : Array Oper} {Q : Post} {rest : List Oper} {ρ : Env} {ds : List Deferred} {w : World} {d : Option Nat}
variable {ty : TypeId} {pos : String} {after : Array Edge} {g : Option (Nat × Bool)}
theorem Blk.cellV {T:Type} [Inhabited T] {b:Nat} {e0:TypeId} {f:T→Value} {m:Nat} {e:List T} {i:Int} (hB:Blk w b e0 (arC f m e)) (h:0≤i∧i<(m:Int)):w.cell? ⟨b,i.toNat,none⟩=some (f (nth e i)):=hB.cell (arC_at f e h)
theorem o_storeV {T:Type} [Inhabited T] {t:TypeId} {X Y:Operand} {b:Nat} {e0:TypeId} {f:T→Value} {m:Nat} {e:List T} {i:Int} {v:T} (hX:ev ρ X=.pointer (some ⟨b,i.toNat,none⟩)) (hB:Blk w b e0 (arC f m e)) (h:0≤i∧i<(m:Int)) (he:e.length=m) (hY:ev ρ Y=f v) (hf:∀ v,(f v).cells=#[f v]∧oneC (f v)=true) (hT:Sz P t 1) (hg:wantE ops ρ g=true)
  (hk:∀ w',Fr [b] w w'→Blk w' b e0 (arC f m (e.set i.toNat v))→EO P r N ops Q rest ρ ds w') :
  EO P r N ops Q (⟨none,.store t X Y,ty,pos,after,g⟩::rest) ρ ds w:=by
 refine o_store (vs:=[f v]) (o:=i.toNat) hX hB (by rw [hY]; exact (hf v).1) hT (by simp [(hf v).2]) (by simp [arC]; omega) hg ?_
 intro w' F B
 refine hk w' F ?_
 have:setL (arC f m e) i.toNat [f v]=arC f m (e.set i.toNat v):=by simp only [setL]; exact arC_set f e v h he
 rwa [this] at B
theorem int_one {k:IntKind} (v:Int):(Value.int k v).cells=#[.int k v]∧oneC (Value.int k v)=true:=⟨rfl,rfl⟩
/-! ### bound functions -/
theorem r_mkfb {fn:Fn} {fs cs:List Operand} {us vs:List Value} (h1:fs.map (ev ρ)=us) (h2:cs.map (ev ρ)=vs):RunV P ρ w ⟨d,.makeFunc fn fs.toArray cs.toArray,ty,pos,after,g⟩ (.func fn us.toArray vs.toArray):=by
 subst h1; subst h2
 simp [RunV,execOp,Instr.makeFunc]
theorem o_callb {d:Nat} {f:FuncId} {X:Operand} {as:List Operand} {us vs caps:List Value} {ts:Array TypeId} {post:Value→World→Prop} (hf:CF P f) (hX:ev ρ X=.func (.func f) us.toArray caps.toArray) (ha:as.map (ev ρ)=vs)
  (hc:Calls P f (us++vs++caps).toArray w (Ret post)) (hg:wantE ops ρ g=true) (hd:Nat.blt d N=true) (h:∀ v w',post v w'→EO P r N ops Q rest (upd ρ d v) ds w') :
  EO P r N ops Q (⟨some d,.call { callee:=.value X,args:=as.toArray,argTypes:=ts },ty,pos,after,g⟩::rest) ρ ds w:=by
 refine eo_enter (o:=⟨some d,.call { callee:=.value X,args:=as.toArray,argTypes:=ts },ty,pos,after,g⟩) hg rfl hd ?_ hc
  (fun v w'' ⟨u,e,hp⟩=>by cases e; exact h _ _ hp) (fun c w'' ⟨u,e,hp⟩=>by cases e) (fun w'' ⟨u,e,hp⟩=>by cases e)
 have:=hf (us++vs++caps).toArray w
 simp [execOp,resolve,hX,Deferred.ofValue,invoke,ha] at this ⊢
 exact this
/-! ### bytes as a text -/
end arrays
end Go.Proofs.YthhjcijhanacnaaGreat

/- A loop round by round; a region that draws its order, order by order; slices over a block of one's own. -/
namespace Go.Proofs.YthhjcijhanacnaaGreat
open Go Go.RowKit
set_option linter.unusedVariables false
set_option linter.unusedSimpArgs false

section
variable {P : Program} {r : Option Nat} {N : Nat} {Q : Post} {ρ : Env} {ds : List Deferred} {w : World}
/-- The rest of a loop, from the beginning of a round. -/
def EL (P : Program) (r : Option Nat) (N : Nat) (c : Code) (Q : Post) (ρ : Env) (ds : List Deferred) (w : World) : Prop :=
  ∀ a : Act, a.tmps.size = N → envOf a = ρ → a.defers = ds → ∀ (b : Frame) (k : List Item) (cs : List Frame), b.roundOf = (FW r).round → (FW r).fn b.fn → (FW r).room (cs.length + 1 + 0) →
    ∃ e a' w', lift N Q e a' w' ∧ ArrivesIn (Machine.fenced P (FW r)) P (lone (b.atR a (.code c :: .inLoop c :: k)) cs w) b k cs e a' w'
/-- What a round leaves: the next one, or what ends the loop. -/
def unr (P : Program) (r : Option Nat) (N : Nat) (c : Code) (Q : Post) : Post
  | .normal, ρ, ds, w => EL P r N c Q ρ ds w
  | e, ρ, ds, w => Q e ρ ds w
theorem ec_unroll {c:Code} (h:EL P r N c Q ρ ds w):EC P r N (.loop c) Q ρ ds w:=by
 intro a h1 h2 h3 b k cs hro hb hr
 obtain ⟨e,a',w',hq,harr⟩:=h a h1 h2 h3 b k cs hro hb hr
 exact ⟨e,a',w',hq,.of_steps (.one (fenced_calm hb hr rfl) stepR_loop) harr⟩
theorem el_round {c:Code} (h:EC P r N c (unr P r N c Q) ρ ds w):EL P r N c Q ρ ds w:=by
 intro a h1 h2 h3 b k cs hro hb hr
 obtain ⟨e,a₁,w₁,hq,harr⟩:=h a h1 h2 h3 b (.inLoop c::k) cs hro hb hr
 obtain ⟨hs1,hq⟩:=hq
 have stop:e≠.normal→∃ e a' w',lift N Q e a' w'∧ArrivesIn (Machine.fenced P (FW r)) P (lone (b.atR a (.code c::.inLoop c::k)) cs w) b k cs e a' w':=fun hne=>by
  refine ⟨e,a₁,w₁,⟨hs1,?_⟩,.pass (x:=.inLoop c) rfl (fun _ _=>.inl hne) harr⟩
  cases e <;> first | exact hq | exact absurd rfl hne
 cases e with
 | normal =>
  obtain ⟨e₂,a₂,w₂,hq₂,harr₂⟩:=hq a₁ hs1 rfl rfl b k cs hro hb hr
  exact ⟨e₂,a₂,w₂,hq₂,.of_steps (StepsIn.trans harr (.one (fenced_calm hb hr rfl) stepR_inLoop)) harr₂⟩
 | exit id=>exact stop (by simp)
 | goto l=>exact stop (by simp)
 | ret=>exact stop (by simp)
 | panic ch=>exact stop (by simp)
 | outgrown=>exact stop (by simp)
theorem unr_n {c:Code} (h:EC P r N c (unr P r N c Q) ρ ds w):unr P r N c Q .normal ρ ds w:=el_round h
theorem unr_x {c:Code} {id:Nat} (h:Q (.exit id) ρ ds w):unr P r N c Q (.exit id) ρ ds w:=h
theorem unr_r {c:Code} (h:Q .ret ρ ds w):unr P r N c Q .ret ρ ds w:=h
end

section
variable {P : Program} {r : Option Nat} {N : Nat} {ops : Array Oper} {Q : Post}
/-- What is left of a region, order by order. -/
def ordP (P : Program) (r : Option Nat) (N : Nat) (ops : Array Oper) (Q : Post) : Nat → Array Bool → Env → List Deferred → World → Prop
  | 0, l, ρ, ds, w => Region.ready .any ops l = [] ∧ Q .normal ρ ds w
  | f + 1, l, ρ, ds, w => (Region.ready .any ops l = [] → Q .normal ρ ds w) ∧
    ∀ i ∈ Region.ready .any ops l, ∃ o, ops[i]? = some o ∧ EO P r N ops (fun e ρ' ds' w' => match e with | .normal => ordP P r N ops Q f (l.setIfInBounds i true) ρ' ds' w' | e => Q e ρ' ds' w') [o] ρ ds w
theorem ord_sound:∀ (f:Nat) (l:Array Bool) (a:Act) (w:World),a.tmps.size=N→ordP P r N ops Q f l (envOf a) a.defers w→wpAnyIn (FW r) 0 P .any ops (lift N Q) f l a w:=by
 intro f
 induction f with
 | zero=>intro l a w hs h; exact ⟨h.1,hs,h.2⟩
 | succ f ih =>
  intro l a w hs h
  refine ⟨fun hr=>⟨hs,h.1 hr⟩,fun i hi=>?_⟩
  obtain ⟨o,ho,h⟩:=h.2 i hi
  have h:=h a hs rfl rfl
  unfold wpOpIn
  simp only [ho]
  unfold wpListIn at h
  have conv:∀ a' w',wpListIn (FW r) 0 P ops (lift N (fun e ρ' ds' w'=>match e with | .normal=>ordP P r N ops Q f (l.setIfInBounds i true) ρ' ds' w' | e=>Q e ρ' ds' w')) [] a' w'→wpAnyIn (FW r) 0 P .any ops (lift N Q) f (l.setIfInBounds i true) a' w':=by
   rintro a' w' ⟨h1,h2⟩
   exact ih _ a' w' h1 h2
  split
  ·rename_i hw
   rw [if_pos hw] at h
   unfold Oper.wpIn at h ⊢
   refine ⟨h.1,?_⟩
   have h2:=h.2
   generalize (o.semAt (FW r).round a.eval).run P w=x at h2 ⊢
   cases x with
   | ok nx w1 =>
    cases nx <;> simp only [Oper.uponIn] at h2 ⊢ <;>
     first
      | exact conv _ _ h2
      | exact ⟨h2.1,CallsIn.mono h2.2 (fun e w'' he=>by
        cases e with
        | returned v=>exact conv _ _ he
        | panicked c=>exact he
        | outgrown=>exact he)⟩
      | exact ⟨h2.1,RowsIn.mono h2.2 (fun _ _ he=>conv _ _ he)⟩
      | exact ⟨h2.1,RoundIn.mono h2.2 (fun e w'' he=>by
        cases e with
        | returned v=>exact conv _ _ he
        | panicked c=>exact he
        | outgrown=>exact he)⟩
   | halt x w1 =>
    cases x <;> simp only [Oper.uponIn] at h2 ⊢
    exact h2
  ·rename_i hw
   rw [if_neg hw] at h
   exact ⟨h.1,conv _ _ h.2⟩
theorem ec_anyO {id:Nat} {ρ:Env} {ds:List Deferred} {w:World} (hm:P.follows .mixedOrders=true) {n:Nat} (hn:ops.size=n) (h:∀ w',Ext w w'→ordP P r N ops Q n (Array.replicate n false) ρ ds w'):EC P r N (.region id ops true) Q ρ ds w:=by
 intro a h1 h2 h3
 subst h2; subst h3; subst hn
 exact wpIn_region_any hm (ord_sound _ _ _ _ h1 (h _ (Ext.drew w)))
def AllN (φ:Nat→Prop):List Nat→Prop
 | []=>True
 | i::l=>φ i∧AllN φ l
theorem allN_spec {φ:Nat→Prop}:∀ {l:List Nat},AllN φ l→∀ i∈l,φ i
 | [],_,_,hi=>by cases hi
 | _::_,h,_,hi=>(List.mem_cons.1 hi).elim (fun e=>e ▸ h.1) (fun hi=>allN_spec h.2 _ hi)
theorem ord_cons {f:Nat} {l:Array Bool} {ρ:Env} {ds:List Deferred} {w:World} (i:Nat) (is:List Nat) (hr:Region.ready .any ops l=i::is)
  (h:AllN (fun i=>∃ o,ops[i]?=some o∧EO P r N ops (fun e ρ' ds' w'=>match e with | .normal=>ordP P r N ops Q f (l.setIfInBounds i true) ρ' ds' w' | e=>Q e ρ' ds' w') [o] ρ ds w) (i::is)):ordP P r N ops Q (f + 1) l ρ ds w :=
 ⟨fun e=>(by rw [hr] at e; cases e),fun j hj=>allN_spec h j (hr ▸ hj)⟩
theorem ord_end {f:Nat} {l:Array Bool} {ρ:Env} {ds:List Deferred} {w:World} (hr:Region.ready .any ops l=[]) (h:Q .normal ρ ds w):ordP P r N ops Q f l ρ ds w:=by
 cases f with
 | zero=>exact ⟨hr,h⟩
 | succ f=>exact ⟨fun _=>h,fun j hj=>by rw [hr] at hj; cases hj⟩
end

section
variable {P : Program} {r : Option Nat} {N : Nat} {ops : Array Oper} {Q : Post} {rest : List Oper} {ρ : Env} {ds : List Deferred} {w : World} {d : Option Nat} {d0 : Nat} {ty : TypeId} {pos : String} {after : Array Edge} {g : Option (Nat × Bool)}
/-- The place of an element of a slice that begins a block. -/
theorem r_iaM {T E bytes : Nat} {z : Value} {X I : Operand} {b len c : Nat} {k : IntKind} {i : Int} (hT : Slc P T E 1 bytes z) (hX : ev ρ X = .slice (some ⟨b, 0, none⟩) len c) (hI : ev ρ I = .int k i) (h : 0 ≤ i ∧ i < (len : Int)) :
    RunV P ρ w ⟨d, .indexAddr T X I, ty, pos, after, g⟩ (.pointer (some ⟨b, i.toNat, none⟩)) := by
  have := r_ia (P := P) (w := w) (d := d) (ty := ty) (pos := pos) (after := after) (g := g) hT hX hI ⟨_, rfl, rfl⟩ h.1 h.2
  have e : elemA (some ⟨b, 0, none⟩) 1 i.toNat = ⟨b, i.toNat, none⟩ := by simp [elemA]
  rwa [e] at this
theorem r_iaB {T E n bytes:Nat} {z:Value} {X I:Operand} {b len c:Nat} {k:IntKind} (j:Nat) (hT:Slc P T E n bytes z) (hX:ev ρ X=.slice (some ⟨b,0,none⟩) len c) (hI:ev ρ I=.int k (j:Int)) (h:j<len) :
  RunV P ρ w ⟨d,.indexAddr T X I,ty,pos,after,g⟩ (.pointer (some ⟨b,j * n,none⟩)):=by
 have:=r_ia (P:=P) (w:=w) (d:=d) (ty:=ty) (pos:=pos) (after:=after) (g:=g) hT hX hI ⟨_,rfl,rfl⟩ (by omega) (by omega)
 have e:elemA (some ⟨b,0,none⟩) n ((j:Int)).toNat=⟨b,j * n,none⟩:=by simp [elemA]
 rwa [e] at this
/-- A slice that is made, as a block. -/
theorem o_makeB {t E bytes : Nat} {zv : Value} {cs : List Value} {X Y : Operand} {kl kc : IntKind} (m : Nat) (hT : Slc P t E 1 bytes zv) (hX : ev ρ X = .int kl (m : Int)) (hY : ev ρ Y = .int kc (m : Int)) (hs : m * bytes ≤ 281474976710656 ∧ m ≤ 9223372036854775807)
    (hc : (madeCells zv.cells (m * 1)).toList = cs) (hg : wantE ops ρ g = true) (hd : Nat.blt d0 N = true)
    (h : ∀ b w', b = w.heap.size → Ext w w' → Blk w' b E cs → EO P r N ops Q rest (upd ρ d0 (.slice (some ⟨b, 0, none⟩) m m)) ds w') :
    EO P r N ops Q (⟨some d0, .makeSlice t X Y, ty, pos, after, g⟩ :: rest) ρ ds w := by
  obtain ⟨hu, j, h2, h3, h4, h5⟩ := hT
  have hb : (j.bytes : Int) * (m : Int) ≤ 281474976710656 := by
    have hx : ((m * bytes : Nat) : Int) ≤ 281474976710656 := by have := hs.1; omega
    rw [Int.natCast_mul, Int.mul_comm] at hx
    rw [h5]; exact hx
  have hr := run_make (P := P) w t E j zv hu h2 h3 kl kc (m : Int) (m : Int) (by omega) (Int.le_refl _) hb (by have := hs.2; omega)
  rw [Int.toNat_natCast, h4] at hr
  refine eo_val (o := ⟨some d0, .makeSlice t X Y, ty, pos, after, g⟩) hg rfl hd ?_ (h w.heap.size (w.alloc (.cells (madeCells zv.cells (m * 1)) E)) rfl (Ext.alloc _ _) ?_)
  · simp only [execOp, hX, hY, hr, Sem.run_bind, Result.andThen, Sem.run_pure]
  · subst hc
    have := Blk.alloc w E (madeCells zv.cells (m * 1)).toList
    rwa [Array.toArray_toList] at this
/-- A method of an interface's value, by its contract. -/
theorem o_callI {f : FuncId} {X : Operand} {t : TypeId} {v0 : Value} {name : String} {as : List Operand} {vs : List Value} {ts : Array TypeId} {post : Value → World → Prop} (hf : MF P t name f) (hX : ev ρ X = .iface t v0) (ha : as.map (ev ρ) = vs)
    (hc : Calls P f (v0 :: vs).toArray w (Ret post)) (hg : wantE ops ρ g = true) (hd : Nat.blt d0 N = true) (h : ∀ v w', post v w' → EO P r N ops Q rest (upd ρ d0 v) ds w') :
    EO P r N ops Q (⟨some d0, .call { callee := .invoke X name, args := as.toArray, argTypes := ts }, ty, pos, after, g⟩ :: rest) ρ ds w :=
  o_inlI hf hX ha hg hd (hc.mono fun e w' ⟨u, e1, hp⟩ => ⟨u, e1, h _ _ hp⟩)
theorem notin_cons {b c:Nat} {L:List Nat} (h:b≠c) (hr:b∉L):b∉c::L:=fun hm=>(List.mem_cons.1 hm).elim h hr
theorem rowD_arC (w:World) {m:Nat} (k:IntKind) (e:List Int) (he:e.length=m):RowD (kI k) w (arC (Value.int k) m e) e:=by
 intro i hi
 show ((arC (Value.int k) m e).drop (i * 1)).take 1=[Value.int k (e.getD i default)]
 have h:=arC_at (Value.int k) (m:=m) e (i:=(i:Int)) ⟨by omega,by omega⟩
 rw [Int.toNat_natCast] at h
 rw [Nat.mul_one]
 obtain ⟨hlt,h2⟩:=List.getElem?_eq_some_iff.1 h
 rw [List.drop_eq_getElem_cons hlt,h2]; rfl
/-- A block of numbers that is turned no more, as a slice. -/
theorem seal_arC {L : List Nat} {w : World} {b et m : Nat} {k : IntKind} {e : List Int} (hB : Blk w b et (arC (Value.int k) m e)) (hb : b ∉ L) (he : e.length = m) : Stb L w (fun w => SlC (kI k) w (some ⟨b, 0, none⟩) e.length e) :=
  bs_seal hB hb (by show (arC (Value.int k) m e).length = e.length * 1; simp [arC, he]) (Stb.triv (rowD_arC w k e he) |>.mono fun _ _ => rowD_arC _ k e he)
end
end Go.Proofs.YthhjcijhanacnaaGreat

/- clear of the end of a slice of one's own. -/
namespace Go.Proofs.YthhjcijhanacnaaGreat
open Go Go.RowKit
set_option linter.unusedVariables false
set_option linter.unusedSimpArgs false

section
variable {P : Program} {r : Option Nat} {N : Nat} {ops : Array Oper} {Q : Post} {rest : List Oper} {ρ : Env} {ds : List Deferred} {w : World} {ty : TypeId} {pos : String} {after : Array Edge} {g : Option (Nat × Bool)}
theorem zeroCells_all {zs:Array Value} (h:zs.toList.all oneC=true) (n:Nat):(Builtin.zeroCells zs n).toList.all oneC=true:=by
 unfold Builtin.zeroCells
 rw [Array.toList_map,List.all_map,List.all_eq_true]
 intro x hx
 have hx':x<n * zs.size:=by simpa using hx
 have hp:0<zs.size:=by
  rcases Nat.eq_zero_or_pos zs.size with h0 | h0
  ·rw [h0] at hx'; simp at hx'
  ·exact h0
 have hlt:x % zs.size<zs.size:=Nat.mod_lt _ hp
 show oneC (zs[x % zs.size]!)=true
 rw [getElem!_pos zs _ hlt]
 exact List.all_eq_true.1 h _ (by simp)
theorem zeroCells_part {zs:Array Value} {n q:Nat} (hq:q<n):((Builtin.zeroCells zs n).toList.drop (q * zs.size)).take zs.size=zs.toList:=by
 have h1:(q + 1) * zs.size≤n * zs.size:=Nat.mul_le_mul_right _ hq
 rw [Nat.add_mul,Nat.one_mul] at h1
 unfold Builtin.zeroCells
 apply List.ext_getElem
 ·simp; omega
 ·intro x hx hx'
  simp only [List.length_take,List.length_drop,Array.toList_map,Array.toList_range,List.length_map,List.length_range] at hx
  simp only [List.getElem_take,List.getElem_drop,Array.toList_map,List.getElem_map,Array.toList_range,List.getElem_range]
  have:(q * zs.size + x) % zs.size=x:=by rw [Nat.add_comm,Nat.add_mul_mod_self_right,Nat.mod_eq_of_lt (by omega)]
  rw [this,getElem!_pos _ _ (by omega)]
  simp
theorem o_clear {T:Type} [Inhabited T] {k:Kd T} {B e:Nat} {L:List Nat} {l:List T} {t bytes m c:Nat} {zv:Value} {z:T} {X:Operand} {A:Option Addr} {i:Int} (hm:l.length=m) (hT:Slc P t e k.n bytes zv)
  (hX:ev ρ X=.slice (slA A c i.toNat k.n) (m - i.toNat) (c - i.toNat)) (hO:OwnS k B e L w (.slice A m c) l) (h0:0≤i) (hi:i≤(m:Int)) (hz1:zv.cells.toList.all oneC=true) (hzn:zv.cells.size=k.n) (hz:∀ w,k.r w zv.cells.toList z) (hg:wantE ops ρ g=true)
  (h:∀ w',Fr (own (.slice A m c)) w w'→OwnS k B e L w' (.slice A m c) (l.take i.toNat++List.replicate (m - i.toNat) z)→EO P r N ops Q rest ρ ds w') :
  EO P r N ops Q (⟨none,.call { callee:=.builtin .clear,args:=#[X],argTypes:=#[t] },ty,pos,after,g⟩::rest) ρ ds w:=by
 subst hm
 obtain ⟨n,rfl⟩:=Int.eq_ofNat_of_zero_le h0
 simp only [Int.toNat_natCast] at hX h ⊢
 have hn:n≤l.length:=by omega
 obtain ⟨hu,j,h2,h3,h4,h5⟩:=hT
 by_cases hnl:n=l.length
 · -- nothing is behind it
  subst hnl
  refine eo_val (o:=⟨none,.call { callee:=.builtin .clear,args:=#[X],argTypes:=#[t] },ty,pos,after,g⟩) (v:=.tuple #[]) (w':=w) hg rfl rfl ?_ (h w (Fr.refl _ _) (by simpa using hO))
  rw [Nat.sub_self] at hX
  have hc:(Builtin.clear_ #[t] ty #[.slice (slA A c l.length k.n) 0 (c - l.length)]).run P w=.ok (.tuple #[]) w:=by
   cases hA:slA A c l.length k.n <;> simp [Builtin.clear_,run_underlying hu,Sem.run_bind,Result.andThen]
  simp [execOp,resolve,hX,invoke,builtin,hc]
 ·obtain ⟨hp,hb,hB,xs,⟨hl,hr⟩,hs⟩:=hO
  rcases hr with ⟨e1,e2⟩ | ⟨b,cap,cur,e1,hbb,hh,hle,hcm,hcs,htk⟩
  ·omega
  ·obtain ⟨rfl,_,rfl⟩:=Value.slice.inj e1
   have hcn:c≠n:=by omega
   have hblk:Blk w b e cur.toList:=by simpa [Blk] using hh
   have hown:own (.slice (some ⟨b,0,none⟩) l.length c)=[b]:=rfl
   rw [hown] at h hs
   have hX':ev ρ X=.slice (some ⟨b,n * k.n,none⟩) (l.length - n) (c - n):=by
    rw [hX]; unfold slA; rw [if_neg hcn]; simp [addr_add (a:=⟨b,0,none⟩) rfl]
   have hzl:(Builtin.zeroCells zv.cells (l.length - n)).toList.length=(l.length - n) * k.n:=by simp [Builtin.zeroCells,hzn]
   have hsum:n * k.n + (l.length - n) * k.n=l.length * k.n:=by rw [← Nat.add_mul]; congr 1; omega
   have hcap:l.length * k.n≤cur.size:=by rw [hcs]; exact Nat.mul_le_mul_right _ hle
   obtain ⟨w',hr,hf,hb2⟩:=run_storeL (P:=P) (o:=n * k.n) (Builtin.zeroCells zv.cells (l.length - n)).toList 0 cur.toList w hblk (zeroCells_all hz1 _) (by have hq:=Array.length_toList (xs:=cur); omega)
   rw [Nat.add_zero] at hb2
   have hzr:(zeroValue e).run P w=.ok zv w:=by simp [zeroValue,typeInfo,h2,h3,program,Sem.run,Result.andThen]
   have hc:(Builtin.clear_ #[t] ty #[.slice (some ⟨b,n * k.n,none⟩) (l.length - n) (c - n)]).run P w=.ok (.tuple #[]) w':=by
    have hne:l.length - n≠0:=by omega
    obtain ⟨q,hq⟩:∃ q,l.length - n=q + 1:=⟨l.length - n - 1,by omega⟩
    rw [hq] at hr ⊢
    simp [Builtin.clear_,run_underlying hu,Sem.run_bind,Result.andThen,hzr,hr]
   have hset:setL cur.toList (n * k.n) (Builtin.zeroCells zv.cells (l.length - n)).toList=cur.toList.take (n * k.n)++(Builtin.zeroCells zv.cells (l.length - n)).toList++cur.toList.drop (l.length * k.n):=by
    rw [setL_eq _ _ _ (by have hq:=Array.length_toList (xs:=cur); omega),hzl,hsum]
   have hxs:xs.take (n * k.n)=cur.toList.take (n * k.n):=by rw [← htk,List.take_take,Nat.min_eq_left (by omega)]
   have hlen:(cur.toList.take (n * k.n)).length=n * k.n:=by simp; omega
   refine eo_val (o:=⟨none,.call { callee:=.builtin .clear,args:=#[X],argTypes:=#[t] },ty,pos,after,g⟩) (v:=.tuple #[]) (w':=w') hg rfl rfl (by simp [execOp,resolve,hX',invoke,builtin,hc]) ?_
   have hl2:(l.take n++List.replicate (l.length - n) z).length=l.length:=by simp; omega
   refine h w' hf ⟨hp,fun m hm=>⟨Nat.lt_of_lt_of_le (hb m hm).1 hf.size,(hb m hm).2⟩,Nat.le_trans hB hf.size,cur.toList.take (n * k.n)++(Builtin.zeroCells zv.cells (l.length - n)).toList,⟨by rw [List.length_append,hlen,hzl,hl2]; exact hsum,.inr ⟨b,c,(setL cur.toList (n * k.n) (Builtin.zeroCells zv.cells (l.length - n)).toList).toArray,by rw [hl2],hbb,hb2,by rw [hl2]; exact hle,hcm,by rw [List.size_toArray,setL_length,Array.length_toList]; exact hcs,?_⟩⟩,?_⟩
   ·rw [hl2]
    show (setL cur.toList (n * k.n) _).take _=_
    rw [hset,List.take_append_of_le_length (by rw [List.length_append,hlen,hzl]; omega),List.take_of_length_le (by rw [List.length_append,hlen,hzl]; omega)]
   ·rw [hown]
    refine (hs.fr hf (fun m hm=>List.mem_append_left _ hm)).mono fun w0 q1=>?_
    intro q hq
    rw [hl2] at hq
    by_cases hqn:q<n
    ·have h1:(q + 1) * k.n≤n * k.n:=Nat.mul_le_mul_right _ hqn
     rw [Nat.add_mul,Nat.one_mul] at h1
     have h2:=q1 q (by omega)
     have e2:((cur.toList.take (n * k.n)++(Builtin.zeroCells zv.cells (l.length - n)).toList).drop (q * k.n)).take k.n=(xs.drop (q * k.n)).take k.n:=by
      rw [← hxs,List.drop_append_of_le_length (by simp; omega),List.take_append_of_le_length (by simp; omega),List.drop_take,List.take_take,Nat.min_eq_left (by omega)]
     rw [e2]
     rwa [show (l.take n++List.replicate (l.length - n) z).getD q default=l.getD q default by simp [List.getElem?_append,Nat.min_eq_left hn,hqn,show q<l.length by omega,List.getElem?_take]]
    ·have e2:((cur.toList.take (n * k.n)++(Builtin.zeroCells zv.cells (l.length - n)).toList).drop (q * k.n)).take k.n=zv.cells.toList:=by
      have h1:n * k.n≤q * k.n:=Nat.mul_le_mul_right _ (by omega)
      rw [List.drop_append,List.drop_of_length_le (by rw [hlen]; exact h1),List.nil_append,hlen,show q * k.n - n * k.n=(q - n) * k.n by rw [Nat.sub_mul]]
      have:=zeroCells_part (zs:=zv.cells) (n:=l.length - n) (q:=q - n) (by omega)
      rwa [hzn] at this
     rw [e2]
     have e3:(l.take n++List.replicate (l.length - n) z).getD q default=z:=by
      simp [List.getElem?_append,Nat.min_eq_left hn,hqn,List.getElem?_replicate,show q - n<l.length - n by omega]
     rw [e3]; exact hz w0
theorem r_sl_end {dd:Option Nat} {t E n bytes:Nat} {z:Value} {X lo:Operand} {A:Option Addr} {c len m:Nat} {l:Int} (hT:Slc P t E n bytes z) (hn:m=n) (hX:ev ρ X=.slice A len c)
  (hl:∃ k,ev ρ lo=.int k l) (h0:0≤l) (h1:l≤(len:Int)) (hc:len≤c) :
  RunV P ρ w ⟨dd,.slice t X (some lo) none none,ty,pos,after,g⟩ (.slice (slA A c l.toNat m) (len - l.toNat) (c - l.toNat)):=by
 have h:=r_sl_slc (P:=P) (ρ:=ρ) (w:=w) (dd:=dd) (ty:=ty) (pos:=pos) (after:=after) (g:=g) (d:=List.replicate len ()) (A:=A) (c:=c) (m:=m) (lo:=some lo) (hi:=none) (l:=l) (h:=(len:Int)) hT hn (by rw [List.length_replicate]; exact hX) hl (by simp) h0 h1 (by simp) (by simpa using hc)
 rw [cutL_length h1 (by simp)] at h
 simpa using h
end
end Go.Proofs.YthhjcijhanacnaaGreat
