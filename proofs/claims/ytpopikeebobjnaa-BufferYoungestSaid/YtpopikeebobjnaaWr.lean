/- Small rules that the generator's texts use. -/
import Derived.Test.YtpopikeebobjnaaWd
import Derived.Laws.Cover3
namespace Go.Proofs.Ytpopikeebobjnaa
open Go Go.RowKit
set_option linter.unusedVariables false
set_option linter.unusedSimpArgs false

theorem Fr.stp {M M':List Nat} {a b c:World} (h:Fr M a b) (k:Fr M' b c) (hM:∀ m∈M',m∈M∨a.heap.size≤m):Fr M a c :=
 ⟨k.os.trans h.os,k.tape.trans h.tape,k.output.trans h.output,Nat.le_trans h.size k.size,fun i hi hn =>
  (k.block i (Nat.lt_of_lt_of_le hi h.size) (fun hm=>by rcases hM i hm with h1 | h1; exact hn h1; omega)).trans (h.block i hi hn)⟩
theorem Stb.up {L L' M:List Nat} {w w':World} {φ:World→Prop} (h:Stb L w φ) (f:Fr M w w') (hM:∀ m∈M,m∈L) (hL:∀ m∈L',m∈L∨w.heap.size≤m):Stb L' w' φ :=
 fun w'' ha=>h w'' fun k hk hn=>(ha k (Nat.lt_of_lt_of_le hk f.size) (fun hm=>by rcases hL k hm with h1 | h1; exact hn h1; omega)).trans (f.block k hk (fun hm=>hn (hM k hm)))
theorem upc {b:Nat} {L:List Nat} {φ:Nat→Prop} (hb:φ b) (h:∀ m∈L,φ m):∀ m∈b::L,φ m:=fun m hm=>by
 cases hm with
 | head=>exact hb
 | tail _ hm=>exact h m hm
theorem nin {L:List Nat} {w:World} {b:Nat} (h:Lt L w) (e:b=w.heap.size):b∉L:=fun hm=>by have:=h b hm; omega
theorem stb_nil {T:Type} [Inhabited T] {k:Kd T} {L:List Nat} {w:World} {A:Option Addr} {c:Nat}:Stb L w (fun w=>SlC k w A c []):=fun _ _=>SlC.nil k _ A c
theorem of_not {b t:Bool} (h:(!b)=t):b=!t:=by rw [← h]; simp
theorem lt_toNat {i:Int} {n:Nat} (h0:0≤i) (h1:i<n):i.toNat<n:=by omega

section
variable {P : Program} {r : Option Nat} {N : Nat} {ops : Array Oper} {Q : Post} {ρ : Env} {ds : List Deferred} {w : World}
theorem want_t {t j:Nat} {c b:Bool} (hj:(ops[j]?).bind (·.dst)=some t) (hv:ρ t=.bool c) (hc:c=b):wantE ops ρ (some (j,b))=true:=by
 simp [wantE,yieldE,hj,hv,hc]
theorem want_f {t j:Nat} {c b:Bool} (hj:(ops[j]?).bind (·.dst)=some t) (hv:ρ t=.bool c) (hc:c=!b):wantE ops ρ (some (j,b))=false:=by
 simp [wantE,yieldE,hj,hv,hc]
theorem ec_condT {c:Operand} {x y:Code} {t:Bool} (hc:ev ρ c=.bool t) (ht:t=true) (h:EC P r N x Q ρ ds w):EC P r N (.cond c x y) Q ρ ds w:=by
 subst ht; exact ec_cond_t hc h
theorem ec_condF {c:Operand} {x y:Code} {t:Bool} (hc:ev ρ c=.bool t) (ht:t=false) (h:EC P r N y Q ρ ds w):EC P r N (.cond c x y) Q ρ ds w:=by
 subst ht; exact ec_cond_f hc h
variable {d : Option Nat} {ty : TypeId} {pos : String} {after : Array Edge} {g : Option (Nat × Bool)}
theorem r_pickT {C A B:Operand} {v:Value} {c:Bool} (hC:ev ρ C=.bool c) (hc:c=true) (hA:ev ρ A=v):RunV P ρ w ⟨d,.pick C A B,ty,pos,after,g⟩ v:=by
 subst hc; exact r_pick_t hC hA
theorem r_pickF {C A B:Operand} {v:Value} {c:Bool} (hC:ev ρ C=.bool c) (hc:c=false) (hB:ev ρ B=v):RunV P ρ w ⟨d,.pick C A B,ty,pos,after,g⟩ v:=by
 subst hc; exact r_pick_f hC hB
theorem r_nilEq {T E:TypeId} {t':TypeId} {X Y:Operand} {A:Option Addr} {n c:Nat} (hT:P.underlying T=some (.slice E)) (hX:ev ρ X=.slice A n c) (hY:ev ρ Y=.slice none 0 0) :
  RunV P ρ w ⟨d,.binOp .eql T X Y t',ty,pos,after,g⟩ (.bool A.isNone):=by
 have:=run_equalIn_slice_nil (P:=P) (w:=w) 9999 T E A n c hT
 simp [RunV,execOp,hX,hY,eqGuard,binOp,Op.equal,Op.maxDepth,this]
/-! ### results -/
def resV (P:Program) (w:World) (ρ:Env):ResultVar→Value→Prop
 | .tmp t,v=>ρ t=v
 | .cell a t,v=>∃ x,ρ a=.pointer (some x)∧(loadVar t x).run P w=.ok v w
theorem rv_a {a T n:Nat} {b o:Nat} {e:TypeId} {cs vs:List Value} (h:ρ a=.pointer (some ⟨b,o,none⟩)) (hT:Agg P T n) (hB:Blk w b e cs) (hn:vs.length=n) (hv:(cs.drop o).take n=vs):resV P w ρ (.cell a T) (.agg vs.toArray) :=
 ⟨_,h,run_loadAgg hT hn (fun j v hj=>by
  subst hv
  rw [List.getElem?_take] at hj
  split at hj
  ·rw [List.getElem?_drop] at hj; exact hB.cell hj
  ·cases hj)⟩
theorem rv_c {a T:Nat} {b o:Nat} {e:TypeId} {cs:List Value} {v:Value} (h:ρ a=.pointer (some ⟨b,o,none⟩)) (hT:One P T) (hB:Blk w b e cs) (hv:cs[o]?=some v):resV P w ρ (.cell a T) v:=by
 refine ⟨_,h,?_⟩
 have:=r_ld (P:=P) (ρ:=ρ) (w:=w) (d:=none) (ty:=0) (pos:="") (after:=#[]) (g:=none) (X:=.tmp a) hT h (hB.cell hv)
 obtain ⟨⟨x,h1,h2⟩,_⟩:=hT
 have hA:(isAgg T).run P w=.ok false w:=by
  unfold isAgg; simp only [Sem.run_bind,run_underlying h1,Result.andThen]
  cases x <;> first | exact h2.elim | rfl
 simp [loadVar,hA,load,Sem.run,hB.cell hv,Result.andThen]
theorem resV_run {x:ResultVar} {v:Value} (h:resV P w ρ x v):(rvE ρ x).run P w=.ok v w:=by
 cases x with
 | tmp t=>have:ρ t=v:=h; simp [rvE,this]
 | cell a t=>obtain ⟨x,h1,h2⟩:=h; simp [rvE,h1,asAddr,h2]
variable {R : Ending → World → Prop}
theorem endr1 {x:ResultVar} {v:Value} (hv:resV P w ρ x v) (h:R (.returned v) w):bodyE P #[x] R .ret ρ [] w:=by
 refine ⟨rfl,v,?_,h⟩
 have h1:=resV_run hv
 simp [resE,h1]
theorem Blk.part {b o n:Nat} {e:TypeId} {cs vs:List Value} (h:Blk w b e cs) (hv:(cs.drop o).take n=vs):∀ j v,vs[j]?=some v→w.cell? ⟨b,o + j,none⟩=some v:=fun j v hj=>by
 subst hv
 rw [List.getElem?_take] at hj
 split at hj
 ·rw [List.getElem?_drop] at hj; exact h.cell hj
 ·cases hj
end

/-! ### elements of slices of plain kinds -/
theorem kI_open2 {L:List Nat} {w:World} {k:IntKind} {a:Addr} {cs:List Value} {d:Int} (h:Stb L w (fun w=>CellsAt w a cs∧(kI k).r w cs d)):cs=[.int k d]∧Stb L w (fun w=>CellsAt w a [.int k d]∧True):=by
 have e:cs=[.int k d]:=h.now.2
 subst e
 exact ⟨rfl,h.mono fun _ h=>⟨h.1,trivial⟩⟩
/-! ### closed facts out of a type's row -/
theorem info_parts' {P:Program} {e:TypeId} {z:Value} {size bytes:Nat} (h:(P.info? e).map (fun i=>(i.zero,i.size,i.bytes))=some (some z,size,bytes)) :
  ∃ i,P.info? e=some i∧i.zero=some z∧i.size=size∧i.bytes=bytes:=by
 obtain ⟨i,hi,hzz⟩:=Option.map_eq_some_iff.1 h
 simp only [Prod.mk.injEq] at hzz
 exact ⟨i,hi,hzz.1,hzz.2.1,hzz.2.2⟩
theorem zero_of {P:Program} {e:TypeId} {z:Value} {size bytes:Nat} (h:(P.info? e).map (fun i=>(i.zero,i.size,i.bytes))=some (some z,size,bytes)):Zero P e z:=by
 obtain ⟨i,h1,h2,_⟩:=info_parts' h
 exact ⟨i,h1,h2⟩
theorem sz_of {P:Program} {e:TypeId} {z:Value} {size bytes:Nat} (h:(P.info? e).map (fun i=>(i.zero,i.size,i.bytes))=some (some z,size,bytes)):Sz P e size:=by
 obtain ⟨i,h1,_,h2,_⟩:=info_parts' h
 exact ⟨i,h1,h2⟩
theorem fnz {P:Program} {e:TypeId} {z:Value} {size bytes:Nat} (h:(P.info? e).map (fun i=>(i.zero,i.size,i.bytes))=some (some z,size,bytes)) (hs:size≠0):∃ i,P.info? e=some i∧i.size≠0:=by
 obtain ⟨i,h1,_,h2,_⟩:=info_parts' h
 exact ⟨i,h1,by rw [h2]; exact hs⟩

/-! ### struct and array literals -/
def fillL (place:Nat→Option (Nat × Nat)) (cells:List Value):List (Nat × Value)→Option (List Value)
 | []=>some cells
 | (i,v)::rest =>
  match place i with
  | none=>none
  | some (off,size)=>bif Nat.beq v.cells.toList.length size&&Nat.ble (off + v.cells.toList.length) cells.length then fillL place (setL cells off v.cells.toList) rest else none
theorem setL_fold:∀ (vs:List Value) (k off:Nat) (cells:Array Value),(vs.zipIdx k).foldl (fun cs (p:Value × Nat)=>cs.setIfInBounds (off + p.2) p.1) cells=(setL cells.toList (off + k) vs).toArray
 | [],_,_,_=>by simp [setL]
 | v::vs,k,off,cells=>by
  rw [List.zipIdx_cons,List.foldl_cons,setL_fold vs (k + 1) off]
  simp [setL,Nat.add_assoc]
theorem fill_eq (place:Nat→Option (Nat × Nat)):∀ (vs:List (Nat × Value)) (cells out:List Value),fillL place cells vs=some out→Instr.fill place cells.toArray vs=some out.toArray
 | [],cells,out,h=>by simp [fillL] at h; simp [Instr.fill,h]
 | (i,v)::rest,cells,out,h=>by
  unfold fillL at h
  unfold Instr.fill
  cases hp:place i with
  | none=>rw [hp] at h; cases h
  | some os =>
   obtain ⟨off,size⟩:=os
   rw [hp] at h
   simp only at h ⊢
   cases hb:(Nat.beq v.cells.toList.length size&&Nat.ble (off + v.cells.toList.length) cells.length) with
   | false=>rw [hb] at h; cases h
   | true =>
    rw [hb,cond_true] at h
    simp only [Bool.and_eq_true,Nat.beq_eq,Nat.ble_eq,Array.length_toList] at hb
    rw [if_neg (by simp; omega)]
    have hf:(v.cells.zipIdx.foldl (fun cs (x:Value × Nat)=>cs.setIfInBounds (off + x.2) x.1) cells.toArray)=(setL cells off v.cells.toList).toArray:=by
     rw [← Array.foldl_toList,Array.toList_zipIdx]
     have:=setL_fold v.cells.toList 0 off cells.toArray
     simpa using this
    exact (congrArg (fun c=>Instr.fill place c rest) hf).trans (fill_eq place rest _ _ h)

/-- What a literal of T comes to. -/
def Bld (P : Program) (T : TypeId) (pl : List (Nat × Nat)) (z : List Value) : Prop :=
  ∀ w parts cells, fillL (fun i : Nat => pl[i]?) z parts = some cells → (Instr.build T parts.toArray).run P w = .ok (.agg cells.toArray) w
theorem bld_struct {P:Program} {T:TypeId} {fs:Array Field} {pl:List (Nat × Nat)} {z:Value} {zl:List Value} (hz:Zero P T z) (hc:z.cells=zl.toArray) (hu:P.underlying T=some (.struct fs))
  (hm:∀ w,(fs.mapM (fun f=>do pure (f.offset,← sizeOf f.type)):Sem (Array (Nat × Nat))).run P w=.ok pl.toArray w):Bld P T pl zl:=by
 intro w parts cells hf
 obtain ⟨i,h1,h2⟩:=hz
 have hz:(zeroValue T).run P w=.ok z w:=by simp [zeroValue,typeInfo,h1,h2,program,Sem.run,Result.andThen]
 have hf':=fill_eq _ parts zl cells hf
 have hp:(fun i:Nat=>pl.toArray[i]?)=(fun i:Nat=>pl[i]?):=by funext i; simp
 simp only [Instr.build,Sem.run_bind,hz,Result.andThen,run_underlying hu,hm,hc]
 rw [show Instr.fill (fun x=>pl.toArray[x]?) zl.toArray parts.toArray.toList=some cells.toArray by rw [hp]; simpa using hf']
 rfl
theorem r_build {P:Program} {ρ:Env} {w:World} {d:Option Nat} {ty:TypeId} {pos:String} {after:Array Edge} {g:Option (Nat × Bool)} {T:TypeId} {pl:List (Nat × Nat)} {z:List Value} {ps:List (Nat × Operand)} {vs:List (Nat × Value)} {cells:List Value}
  (hb:Bld P T pl z) (hv:ps.map (fun p=>(p.1,ev ρ p.2))=vs) (hf:fillL (fun i:Nat=>pl[i]?) z vs=some cells):RunV P ρ w ⟨d,.build T ps.toArray,ty,pos,after,g⟩ (.agg cells.toArray):=by
 have:=hb w vs cells hf
 subst hv
 simp [RunV,execOp,this]
end Go.Proofs.Ytpopikeebobjnaa
