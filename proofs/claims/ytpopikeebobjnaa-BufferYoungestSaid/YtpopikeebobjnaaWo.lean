/- Memory as it is seen from a function, and the runs of single operations. -/
import Derived.Test.YtpopikeebobjnaaWk
import Derived.Laws.AppendOwn
import Derived.Laws.MakeOwn
import Derived.Laws.Bits
import Derived.Laws.Small
import Derived.Laws.Build
import Derived.Laws.Strings
import Derived.Laws.Strings2
namespace Go.Proofs.Ytpopikeebobjnaa
open Go Go.RowKit
set_option linter.unusedVariables false
set_option linter.unusedSimpArgs false

/-- What lay in w lies in w', but for the blocks of M. -/
structure Fr (M : List Nat) (w w' : World) : Prop where
  os : w'.os = w.os
  tape : w'.tape = w.tape
  output : w'.output = w.output
  size : w.heap.size ≤ w'.heap.size
  block : ∀ k, k < w.heap.size → k ∉ M → w'.heap[k]? = w.heap[k]?
abbrev Ext (w w':World):Prop:=Fr [] w w'
theorem Fr.refl (M:List Nat) (w:World):Fr M w w:=⟨rfl,rfl,rfl,Nat.le_refl _,fun _ _ _=>rfl⟩
theorem Fr.trans {M:List Nat} {a b c:World} (h:Fr M a b) (k:Fr M b c):Fr M a c :=
 ⟨k.os.trans h.os,k.tape.trans h.tape,k.output.trans h.output,Nat.le_trans h.size k.size,fun i hi hM=>(k.block i (Nat.lt_of_lt_of_le hi h.size) hM).trans (h.block i hi hM)⟩
theorem Fr.mono {M M':List Nat} {a b:World} (h:Fr M a b) (hM:∀ m∈M,m∈M'):Fr M' a b :=
 ⟨h.os,h.tape,h.output,h.size,fun i hi hn=>h.block i hi (fun hm=>hn (hM i hm))⟩
theorem Fr.ext {M:List Nat} {a b:World} (h:Ext a b):Fr M a b:=h.mono (fun _ hm=>by cases hm)
/-- A step that touches blocks that are new since a. -/
theorem Ext.st {M : List Nat} {a b c : World} (h : Ext a b) (k : Fr M b c) (hM : ∀ m ∈ M, a.heap.size ≤ m) : Ext a c :=
  ⟨k.os.trans h.os, k.tape.trans h.tape, k.output.trans h.output, Nat.le_trans h.size k.size, fun i hi _ =>
    (k.block i (Nat.lt_of_lt_of_le hi h.size) (fun hm => by have := hM i hm; omega)).trans (h.block i hi (by simp))⟩
theorem Ext.below {a b:World} (h:Ext a b):Below a.heap.size a b:=⟨h.os,h.tape,h.output,h.size,fun k hk=>h.block k hk (by simp)⟩
theorem Ext.of_below {a b:World} (h:Below a.heap.size a b):Ext a b:=⟨h.os,h.tape,h.output,h.size,fun k hk _=>h.block k hk⟩
theorem Ext.drew (w:World):Ext w { w with drawn:=w.drawn + 1 }:=⟨rfl,rfl,rfl,Nat.le_refl _,fun _ _ _=>rfl⟩
theorem Ext.grown {a b:World} (h:a.grownBy b none):Ext a b:=⟨h.os,h.tape,h.output,h.size,fun k hk _=>h.block k hk (by simp)⟩
theorem Fr.grown {a b:World} {g:Nat} (h:a.grownBy b (some g)):Fr [g] a b:=⟨h.os,h.tape,h.output,h.size,fun k hk hn=>h.block k hk (by intro e; cases e; simp at hn)⟩

/-- A fact that holds as long as no block lying now, but for those of L, turns. -/
def Ag (L : List Nat) (w w' : World) : Prop := ∀ k, k < w.heap.size → k ∉ L → w'.heap[k]? = w.heap[k]?
def Stb (L:List Nat) (w:World) (φ:World→Prop):Prop:=∀ w',Ag L w w'→φ w'
theorem Stb.now {L:List Nat} {w:World} {φ:World→Prop} (h:Stb L w φ):φ w:=h w (fun _ _ _=>rfl)
theorem Stb.fr {L M:List Nat} {w w':World} {φ:World→Prop} (h:Stb L w φ) (f:Fr M w w') (hM:∀ m∈M,m∈L):Stb L w' φ :=
 fun w'' ha=>h w'' fun k hk hn=>(ha k (Nat.lt_of_lt_of_le hk f.size) hn).trans (f.block k hk (fun hm=>hn (hM k hm)))
theorem Stb.ex {L:List Nat} {w w':World} {φ:World→Prop} (h:Stb L w φ) (f:Ext w w'):Stb L w' φ:=h.fr f (fun _ hm=>by cases hm)
theorem Stb.weak {L L':List Nat} {w:World} {φ:World→Prop} (h:Stb L w φ) (hL:∀ m∈L',m∈L):Stb L' w φ :=
 fun w' ha=>h w' fun k hk hn=>ha k hk (fun hm=>hn (hL k hm))
theorem Stb.mono {L:List Nat} {w:World} {φ ψ:World→Prop} (h:Stb L w φ) (hp:∀ w,φ w→ψ w):Stb L w ψ:=fun w' ha=>hp _ (h w' ha)
theorem Stb.and {L:List Nat} {w:World} {φ ψ:World→Prop} (h:Stb L w φ) (k:Stb L w ψ):Stb L w (fun w=>φ w∧ψ w):=fun w' ha=>⟨h w' ha,k w' ha⟩
/-- All blocks of L lie. -/
def Lt (L : List Nat) (w : World) : Prop := ∀ b ∈ L, b < w.heap.size
theorem Lt.fr {L M:List Nat} {w w':World} (h:Lt L w) (f:Fr M w w'):Lt L w':=fun b hb=>Nat.lt_of_lt_of_le (h b hb) f.size
theorem Lt.cons {L:List Nat} {w:World} {b:Nat} (h:Lt L w) (hb:b<w.heap.size):Lt (b::L) w:=fun x hx=>by
 cases hx with
 | head=>exact hb
 | tail _ hm=>exact h x hm

/-- Block b is this row of cells. -/
def Blk (w : World) (b : Nat) (e : TypeId) (cs : List Value) : Prop := w.heap[b]? = some (.cells cs.toArray e (0, 0))
theorem Blk.lt {w:World} {b:Nat} {e:TypeId} {cs:List Value} (h:Blk w b e cs):b<w.heap.size:=(Array.getElem?_eq_some_iff.1 h).1
theorem Blk.fr {w w':World} {M:List Nat} {b:Nat} {e:TypeId} {cs:List Value} (h:Blk w b e cs) (f:Fr M w w') (hb:b∉M):Blk w' b e cs:=(f.block b h.lt hb).trans h
theorem Blk.ex {w w':World} {b:Nat} {e:TypeId} {cs:List Value} (h:Blk w b e cs) (f:Ext w w'):Blk w' b e cs:=h.fr f (by simp)
theorem Blk.stb {w:World} {L:List Nat} {b:Nat} {e:TypeId} {cs:List Value} (h:Blk w b e cs) (hb:b∉L):Stb L w (fun w=>Blk w b e cs):=fun w' ha=>(ha b h.lt hb).trans h
theorem Blk.cell {w:World} {b o:Nat} {e:TypeId} {cs:List Value} {v:Value} (h:Blk w b e cs) (hv:cs[o]?=some v):w.cell? ⟨b,o,none⟩=some v:=by
 have h':w.heap[b]?=some (.cells cs.toArray e (0,0)):=h
 simp [World.cell?,h',hv]
theorem Blk.frozen {w:World} {b o:Nat} {e:TypeId} {cs:List Value} (h:Blk w b e cs):w.frozen? ⟨b,o,none⟩=false:=by
 have h':w.heap[b]?=some (.cells cs.toArray e (0,0)):=h
 simp [World.frozen?,h']

theorem Blk.alloc (w:World) (e:TypeId) (cs:List Value):Blk (w.alloc (.cells cs.toArray e)) w.heap.size e cs:=by
 show (w.heap.push _)[w.heap.size]?=_
 simp
theorem Ext.alloc (w:World) (o:Obj):Ext w (w.alloc o):=Ext.of_below ((Below.refl _ _).alloc (Nat.le_refl _) o)
theorem Blk.set {w:World} {b o:Nat} {e:TypeId} {cs:List Value} (v:Value) (h:Blk w b e cs):Blk (w.setCell ⟨b,o,none⟩ v) b e (cs.set o v):=by
 obtain ⟨hlt,hk⟩:=Array.getElem?_eq_some_iff.1 h
 show (w.heap.modify b _)[b]?=_
 rw [Array.getElem?_eq_getElem (by rw [Array.size_modify]; exact hlt),Array.getElem_modify_self,hk]
 simp
theorem Fr.setCell (w:World) (a:Addr) (v:Value):Fr [a.block] w (w.setCell a v) :=
 ⟨rfl,rfl,rfl,by simp [World.setCell],fun k hk hn=>Below.heap_setCell _ _ _ _ (by simpa using hn)⟩

/-! ### types, as closed facts of a seat -/
/-- One cell, no struct and no array. -/
def One (P : Program) (T : TypeId) : Prop := (∃ d, P.underlying T = some d ∧ (match d with | .struct _ | .array _ _ => False | _ => True)) ∧ ∃ i, P.info? T = some i ∧ i.size = 1
/-- A struct or an array of n cells. -/
def Agg (P : Program) (T : TypeId) (n : Nat) : Prop := (∃ d, P.underlying T = some d ∧ (match d with | .struct _ | .array _ _ => True | _ => False)) ∧ ∃ i, P.info? T = some i ∧ i.size = n
/-- Field f of T begins at this cell, and has some. -/
def Fld (P : Program) (T : TypeId) (f off : Nat) : Prop := ∃ fs, P.underlying T = some (.struct fs) ∧ ∃ x, fs[f]? = some x ∧ x.offset = off ∧ ∃ i, P.info? x.type = some i ∧ i.size ≠ 0
/-- The zero of T. -/
def Zero (P : Program) (T : TypeId) (z : Value) : Prop := ∃ i, P.info? T = some i ∧ i.zero = some z
/-- A slice of E, whose elements have n cells, this zero, and so many bytes. -/
def Slc (P : Program) (T E n bytes : Nat) (z : Value) : Prop := P.underlying T = some (.slice E) ∧ ∃ i, P.info? E = some i ∧ i.zero = some z ∧ i.size = n ∧ i.bytes = bytes

section runs
variable {P : Program} {ρ : Env} {w : World} {d : Option Nat} {ty : TypeId} {pos : String} {after : Array Edge} {g : Option (Nat × Bool)}

abbrev RunV (P:Program) (ρ:Env) (w:World) (o:Oper) (v:Value):Prop:=(execOp (ev ρ) o).run P w=.ok (.value v) w

theorem r_mov {X:Operand} {v:Value} (hX:ev ρ X=v):RunV P ρ w ⟨d,.move X,ty,pos,after,g⟩ v:=by simp [RunV,execOp,hX]
theorem r_asg {X:Operand} {v:Value} (hX:ev ρ X=v):RunV P ρ w ⟨d,.assign X,ty,pos,after,g⟩ v:=by simp [RunV,execOp,hX]
theorem r_pick_t {C A B:Operand} {v:Value} (hC:ev ρ C=.bool true) (hA:ev ρ A=v):RunV P ρ w ⟨d,.pick C A B,ty,pos,after,g⟩ v:=by
 simp [RunV,execOp,hC,hA,asBool]
theorem r_pick_f {C A B:Operand} {v:Value} (hC:ev ρ C=.bool false) (hB:ev ρ B=v):RunV P ρ w ⟨d,.pick C A B,ty,pos,after,g⟩ v:=by
 simp [RunV,execOp,hC,hB,asBool]

/-- What a binary operation on two whole numbers of one kind comes to, where it can't panic. -/
def ibin : BinOp → IntKind → Int → Int → Option Value
  | .add, k, x, y => some (.int k (k.wrap (x + y)))
  | .sub, k, x, y => some (.int k (k.wrap (x - y)))
  | .mul, k, x, y => some (.int k (k.wrap (x * y)))
  | .and, k, x, y => some (.int k (k.wrap (BitVec.ofInt k.bits x &&& BitVec.ofInt k.bits y).toNat))
  | .or, k, x, y => some (.int k (k.wrap (BitVec.ofInt k.bits x ||| BitVec.ofInt k.bits y).toNat))
  | .xor, k, x, y => some (.int k (k.wrap (BitVec.ofInt k.bits x ^^^ BitVec.ofInt k.bits y).toNat))
  | .eql, _, x, y => some (.bool (x == y))
  | .neq, _, x, y => some (.bool (x != y))
  | .lss, _, x, y => some (.bool (decide (x < y)))
  | .leq, _, x, y => some (.bool (decide (x ≤ y)))
  | .gtr, _, x, y => some (.bool (decide (y < x)))
  | .geq, _, x, y => some (.bool (decide (y ≤ x)))
  | _, _, _, _ => none
theorem r_int {op:BinOp} {X Y:Operand} {t t':TypeId} {k:IntKind} {x y:Int} {v:Value} (hX:ev ρ X=.int k x) (hY:ev ρ Y=.int k y) (hv:ibin op k x y=some v) :
  RunV P ρ w ⟨d,.binOp op t X Y t',ty,pos,after,g⟩ v:=by
 cases op <;> simp only [ibin,Option.some.injEq,reduceCtorEq] at hv <;> subst hv <;> simp [RunV,execOp,hX,hY,eqGuard,binOp,Op.intArith,Op.intBits,Op.intCmp]
theorem r_rem {X Y:Operand} {t t':TypeId} {k:IntKind} {x y:Int} (hX:ev ρ X=.int k x) (hY:ev ρ Y=.int k y) (hy:(y==0)=false) :
  RunV P ρ w ⟨d,.binOp .rem t X Y t',ty,pos,after,g⟩ (.int k (x.tmod y)):=by
 have hy':y≠0:=by simpa using hy
 simp [RunV,execOp,hX,hY,eqGuard,binOp,Op.intDiv,hy']
/-- A text. -/
abbrev Str := List UInt8
def str (l:Str):Value:=.string ⟨l.toArray⟩
theorem toList_str (l:Str):(⟨l.toArray⟩:ByteArray).toList=l:=by
 rw [ByteArray.toList_eq]
theorem size_str (l:Str):(⟨l.toArray⟩:ByteArray).size=l.length:=by
 show l.toArray.size=l.length
 simp
def sbin:BinOp→Str→Str→Option Value
 | .eql,x,y=>some (.bool (x==y))
 | .neq,x,y=>some (.bool (!(x==y)))
 | .lss,x,y=>some (.bool (Op.bytesLess x y))
 | .leq,x,y=>some (.bool (Op.bytesLess x y||x==y))
 | .gtr,x,y=>some (.bool (!(Op.bytesLess x y||x==y)))
 | .geq,x,y=>some (.bool (!Op.bytesLess x y))
 | _,_,_=>none
theorem r_str {op:BinOp} {X Y:Operand} {t t':TypeId} {x y:Str} {v:Value} (hX:ev ρ X=str x) (hY:ev ρ Y=str y) (hv:sbin op x y=some v) :
  RunV P ρ w ⟨d,.binOp op t X Y t',ty,pos,after,g⟩ v:=by
 unfold str at hX hY
 cases op <;> simp only [sbin,Option.some.injEq,reduceCtorEq] at hv <;> subst hv <;> simp [RunV,execOp,hX,hY,eqGuard,binOp,Op.stringOp,toList_str]
theorem r_boolEq {X Y:Operand} {t t':TypeId} {x y:Bool} (ht:P.underlying t=some .bool) (hX:ev ρ X=.bool x) (hY:ev ρ Y=.bool y) :
  RunV P ρ w ⟨d,.binOp .eql t X Y t',ty,pos,after,g⟩ (.bool (x==y)):=by
 simp [RunV,execOp,hX,hY,eqGuard,run_eql_bool _ _ _ _ ht]
theorem r_not {X:Operand} {t:TypeId} {x:Bool} (hX:ev ρ X=.bool x):RunV P ρ w ⟨d,.unOp .not t X,ty,pos,after,g⟩ (.bool (!x)):=by
 simp [RunV,execOp,hX,Op.unary]
theorem r_conv {X:Operand} {s t:TypeId} {sd:TypeDesc} {k k':IntKind} {x:Int} (hs:P.underlying s=some sd) (ht:P.underlying t=some (.int k')) (hX:ev ρ X=.int k x) :
  RunV P ρ w ⟨d,.convert s t X,ty,pos,after,g⟩ (.int k' (k'.wrap x)):=by
 simp [RunV,execOp,hX,convert,run_underlying hs,run_underlying ht,Conv.intToInt]
theorem r_ext {X:Operand} {vs:Array Value} {i:Nat} {v:Value} (hX:ev ρ X=.tuple vs) (hv:vs[i]?=some v):RunV P ρ w ⟨d,.extract X i,ty,pos,after,g⟩ v:=by
 simp [RunV,execOp,hX,Instr.extract,hv]
theorem r_len_str {X:Operand} {t:TypeId} {x:Str} (ht:P.underlying t=some .string) (hX:ev ρ X=str x) :
  RunV P ρ w ⟨d,.call { callee:=.builtin .len,args:=#[X],argTypes:=#[t] },ty,pos,after,g⟩ (.int .i64 x.length):=by
 unfold str at hX
 simp [RunV,execOp,hX,resolve,invoke,builtin,Builtin.len_,run_underlying ht,goInt,size_str]
theorem r_len_slc {X:Operand} {t e:TypeId} {A:Option Addr} {n c:Nat} (ht:P.underlying t=some (.slice e)) (hX:ev ρ X=.slice A n c) :
  RunV P ρ w ⟨d,.call { callee:=.builtin .len,args:=#[X],argTypes:=#[t] },ty,pos,after,g⟩ (.int .i64 n):=by
 simp [RunV,execOp,hX,resolve,invoke,builtin,Builtin.len_,run_underlying ht,goInt]
theorem r_min {X Y:Operand} {ts:Array TypeId} {k:IntKind} {x y:Int} (hX:ev ρ X=.int k x) (hY:ev ρ Y=.int k y) :
  RunV P ρ w ⟨d,.call { callee:=.builtin .min,args:=#[X,Y],argTypes:=ts },ty,pos,after,g⟩ (.int k (min x y)):=by
 have:(if y<x then y else x)=min x y:=by omega
 simp [RunV,execOp,hX,hY,resolve,invoke,builtin,Builtin.min_,Builtin.min2,this]
theorem r_mkif {X:Operand} {t:TypeId} {v:Value} (ht:P.concrete t=true) (hX:ev ρ X=v):RunV P ρ w ⟨d,.makeInterface t X,ty,pos,after,g⟩ (.iface t v):=by
 simp [RunV,execOp,hX,run_makeInterface,ht]
theorem r_fa {T f off:Nat} {X:Operand} {b o o':Nat} (hF:Fld P T f off) (ho:o + off=o') (hX:ev ρ X=.pointer (some ⟨b,o,none⟩)) :
  RunV P ρ w ⟨d,.fieldAddr T X f,ty,pos,after,g⟩ (.pointer (some ⟨b,o',none⟩)):=by
 obtain ⟨fs,h1,x,h2,rfl,i,h3,h4⟩:=hF
 subst ho
 have hadd:(⟨b,o,none⟩:Addr).add x.offset=⟨b,o + x.offset,none⟩:=by unfold Addr.add; split <;> simp_all
 simp [RunV,execOp,hX,Instr.fieldAt,run_underlying h1,h2,Instr.sureAddr,fieldPlace,sizeOf,typeInfo,h3,h4,hadd]

theorem run_loadCells (a:Addr) (ha:a.spot=none):∀ (vs:List Value) (i:Nat) (acc:Array Value),(∀ j v,vs[j]?=some v→w.cell? ⟨a.block,a.off + i + j,none⟩=some v) →
  (loadCellsFrom a i vs.length acc).run P w=.ok (acc++vs.toArray) w:=by
 intro vs
 induction vs with
 | nil=>intro i acc h; simp [loadCellsFrom]
 | cons v vs ih =>
  intro i acc h
  have h0:=h 0 v rfl
  have hadd:a.add i=⟨a.block,a.off + i,none⟩:=by
   obtain ⟨b,o,s⟩:=a; simp only at ha; subst ha; unfold Addr.add; split <;> simp_all
  simp only [List.length_cons,loadCellsFrom,load]
  have hc:w.cell? (a.add i)=some v:=by rw [hadd]; simpa using h0
  simp only [Sem.run_bind,Sem.run,hc,Result.andThen]
  rw [ih (i + 1) (acc.push v) (fun j u hu=>by have:=h (j + 1) u (by simpa using hu); rw [show a.off + (i + 1) + j=a.off + i + (j + 1) by omega]; exact this)]
  simp

theorem r_ld {T:Nat} {X:Operand} {b o:Nat} {v:Value} (hT:One P T) (hX:ev ρ X=.pointer (some ⟨b,o,none⟩)) (hc:w.cell? ⟨b,o,none⟩=some v) :
  RunV P ρ w ⟨d,.load T X,ty,pos,after,g⟩ v:=by
 obtain ⟨⟨x,h1,h2⟩,_⟩:=hT
 have:(isAgg T).run P w=.ok false w:=by
  unfold isAgg; simp only [Sem.run_bind,run_underlying h1,Result.andThen]
  cases x <;> first | exact h2.elim | rfl
 simp [RunV,execOp,hX,Instr.loadAt,Instr.sureAddr,loadVar,this,load,Sem.run,hc,Result.andThen]
theorem run_loadAgg {T n:Nat} {b o:Nat} {vs:List Value} (hT:Agg P T n) (hn:vs.length=n)
  (hc:∀ j v,vs[j]?=some v→w.cell? ⟨b,o + j,none⟩=some v):(loadVar T ⟨b,o,none⟩).run P w=.ok (.agg vs.toArray) w:=by
 obtain ⟨⟨x,h1,h2⟩,i,h3,h4⟩:=hT
 have:(isAgg T).run P w=.ok true w:=by
  unfold isAgg; simp only [Sem.run_bind,run_underlying h1,Result.andThen]
  cases x <;> first | exact h2.elim | rfl
 have hl:=run_loadCells (P:=P) (w:=w) ⟨b,o,none⟩ rfl vs 0 #[] (by simpa using hc)
 subst hn
 simp only [loadVar,Sem.run_bind,this,Result.andThen,if_true,loadCells,sizeOf,typeInfo,program]
 simp [Sem.run,h3,h4,hl]
theorem r_lda {T n:Nat} {X:Operand} {b o:Nat} {vs:List Value} (hT:Agg P T n) (hX:ev ρ X=.pointer (some ⟨b,o,none⟩)) (hn:vs.length=n)
  (hc:∀ j v,vs[j]?=some v→w.cell? ⟨b,o + j,none⟩=some v):RunV P ρ w ⟨d,.load T X,ty,pos,after,g⟩ (.agg vs.toArray):=by
 simp [RunV,execOp,hX,Instr.loadAt,Instr.sureAddr,run_loadAgg hT hn hc]
end runs
end Go.Proofs.Ytpopikeebobjnaa
