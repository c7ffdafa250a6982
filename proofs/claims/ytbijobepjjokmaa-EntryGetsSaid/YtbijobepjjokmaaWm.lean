/- Maps with numbers as keys, arrays by a place, bound functions, bytes as a text. -/
import Derived.Test.YtbijobepjjokmaaWe
import Derived.MapKept
import Derived.Laws.BytesString
namespace Go.Proofs.Ytbijobepjjokmaa
open Go Go.RowKit
set_option linter.unusedVariables false
set_option linter.unusedSimpArgs false

/-! ### maps -/
def mEnts {T:Type} (k:IntKind) (enc:T→Value):List (Int × T)→Nat→List MapEntry
 | [],_=>[]
 | x::l,i=>⟨.int k x.1,enc x.2,i⟩::mEnts k enc l (i + 1)
def mObj {T:Type} (k:IntKind) (enc:T→Value) (l:List (Int × T)):Obj:=.map (mEnts k enc l 0).toArray l.length
def hasM {T:Type}:List (Int × T)→Int→Bool
 | [],_=>false
 | x::l,n=>n==x.1||hasM l n
def getM {T:Type} (z:T):List (Int × T)→Int→T
 | [],_=>z
 | x::l,n=>bif n==x.1 then x.2 else getM z l n
def Mp (P:Program) (T K E:TypeId) (k:IntKind):Prop:=P.underlying T=some (.map K E)∧P.underlying K=some (.int k)
theorem findNow_m {T:Type} {k k':IntKind} {enc:T→Value} {z:T} {n:Int}:∀ (l:List (Int × T)) (i j:Nat),
  (hasM l n=true→∃ j',Instr.findNow (.int k') (.int k n) (mEnts k enc l i) j=some (some (j',enc (getM z l n))))∧(hasM l n=false→Instr.findNow (.int k') (.int k n) (mEnts k enc l i) j=some none∧getM z l n=z)
 | [],i,j=>by
  refine ⟨fun h=>?_,fun _=>⟨rfl,rfl⟩⟩
  cases h
 | x::l,i,j=>by
  have ih:=findNow_m (enc:=enc) (k:=k) (k':=k') (z:=z) (n:=n) l (i + 1) (j + 1)
  unfold mEnts Instr.findNow Instr.sameNow hasM getM
  simp only [if_true]
  cases hx:(n==x.1) with
  | true=>simp
  | false=>simpa using ih
theorem mEnts_app {T:Type} {k:IntKind} {enc:T→Value} (x:Int × T):∀ (l:List (Int × T)) (i:Nat),mEnts k enc (l++[x]) i=mEnts k enc l i++[⟨.int k x.1,enc x.2,i + l.length⟩]
 | [],i=>rfl
 | y::l,i=>by
  simp only [List.cons_append,mEnts,mEnts_app x l (i + 1),List.length_cons]
  rw [show i + 1 + l.length=i + (l.length + 1) by omega]
section maps
variable {P : Program} {r : Option Nat} {N : Nat} {ops : Array Oper} {Q : Post} {rest : List Oper} {ρ : Env} {ds : List Deferred} {w : World}
variable {ty : TypeId} {pos : String} {after : Array Edge} {g : Option (Nat × Bool)}
theorem run_lookupM {T:Type} {t K E:TypeId} {k:IntKind} {enc:T→Value} {l:List (Int × T)} {z:T} {b:Nat} {n:Int} {ok:Bool} (hT:Mp P t K E k) (hz:Zero P E (enc z)) (hL:Lp w b (mObj k enc l)) :
  (Instr.lookup t (.map (some b)) (.int k n) ok).run P w=.ok (if ok=true then .tuple #[enc (getM z l n),.bool (hasM l n)] else enc (getM z l n)) w:=by
 obtain ⟨h1,h2⟩:=hT
 obtain ⟨i,h3,h4⟩:=hz
 have hg:=MapKept.run_getObj_map (P:=P) (w:=w) (r:=b) hL
 have hck:=MapKept.run_checkKey (P:=P) (w:=w) (kt:=K) (d:=.int k) (k:=.int k n) h2 (by simp [MapKept.IsKey])
 have hf:=findNow_m (enc:=enc) (k:=k) (k':=k) (z:=z) (n:=n) l 0 0
 have hzr:(zeroValue E).run P w=.ok (enc z) w:=by simp [zeroValue,typeInfo,h3,h4,program,Sem.run,Result.andThen]
 unfold Instr.lookup
 cases hh:hasM l n with
 | true =>
  obtain ⟨j,hj⟩:=hf.1 hh
  have hfk:=MapKept.run_findKey (P:=P) (w:=w) h2 hj
  simp only [Sem.run_bind,run_underlying h1,Result.andThen_ok,hg,hck,hfk,Sem.run_pure]
 | false =>
  obtain ⟨hj,hgz⟩:=hf.2 hh
  have hfk:=MapKept.run_findKey (P:=P) (w:=w) h2 hj
  simp only [Sem.run_bind,run_underlying h1,Result.andThen_ok,hg,hck,hfk,Sem.run_pure,hzr,hgz]
theorem r_lookupV {d:Option Nat} {T:Type} {t K E:TypeId} {k:IntKind} {enc:T→Value} {l:List (Int × T)} {z:T} {b:Nat} {n:Int} {X I:Operand} {v:Value} (hT:Mp P t K E k) (hz:Zero P E (enc z)) (hL:Lp w b (mObj k enc l)) (hX:ev ρ X=.map (some b)) (hI:ev ρ I=.int k n) (hv:enc (getM z l n)=v) :
  RunV P ρ w ⟨d,.lookup t X I false,ty,pos,after,g⟩ v:=by
 subst hv
 have:=run_lookupM (ok:=false) (n:=n) hT hz hL
 simp [RunV,execOp,hX,hI,this]
theorem o_mkmap {T:Type} {d:Nat} {t:TypeId} {k:IntKind} {enc:T→Value} (hg:wantE ops ρ g=true) (hd:Nat.blt d N=true)
  (h:∀ b w',b=w.heap.size→Ext w w'→Lp w' b (mObj k enc [])→EO P r N ops Q rest (upd ρ d (.map (some b))) ds w') :
  EO P r N ops Q (⟨some d,.makeMap t none,ty,pos,after,g⟩::rest) ρ ds w:=by
 refine eo_val (o:=⟨some d,.makeMap t none,ty,pos,after,g⟩) hg rfl hd ?_ (h w.heap.size (w.alloc (.map #[] 0)) rfl (Ext.alloc _ _) (World.alloc_heap_new w _))
 simp only [execOp,Instr.makeMap]
 rfl
theorem o_insert {T:Type} {t K E:TypeId} {k:IntKind} {enc:T→Value} {l:List (Int × T)} {b:Nat} {n:Int} {x:T} {M I X:Operand} (hT:Mp P t K E k) (hL:Lp w b (mObj k enc l)) (hM:ev ρ M=.map (some b)) (hI:ev ρ I=.int k n) (hX:ev ρ X=enc x)
  (hn:hasM l n=false) (hg:wantE ops ρ g=true) (h:∀ w',Fr [b] w w'→Lp w' b (mObj k enc (l++[(n,x)]))→EO P r N ops Q rest ρ ds w') :
  EO P r N ops Q (⟨none,.insert t M I X,ty,pos,after,g⟩::rest) ρ ds w:=by
 obtain ⟨h1,h2⟩:=hT
 have hgo:=MapKept.run_getObj_map (P:=P) (w:=w) (r:=b) hL
 have hck:=MapKept.run_checkKey (P:=P) (w:=w) (kt:=K) (d:=.int k) (k:=.int k n) h2 (by simp [MapKept.IsKey])
 have hfk:=MapKept.run_findKey (P:=P) (w:=w) h2 ((findNow_m (enc:=enc) (k:=k) (k':=k) (z:=x) (n:=n) l 0 0).2 hn).1
 have hso:=MapKept.run_setObj_map (P:=P) (w:=w) (r:=b) (mObj k enc (l++[(n,x)])) hL
 refine eo_unit (o:=⟨none,.insert t M I X,ty,pos,after,g⟩) hg rfl rfl ?_ (h _ (Fr.putObj w b (mObj k enc (l++[(n,x)]))) (hL.put _))
 have he:(Obj.map ((mEnts k enc l 0).toArray.push ⟨.int k n,enc x,l.length⟩) (l.length + 1))=mObj k enc (l++[(n,x)]):=by
  unfold mObj; rw [mEnts_app]; simp
 simp only [execOp,hM,hI,hX,Instr.mapUpdate,Sem.run_bind,run_underlying h1,Result.andThen_ok,hgo,hck,hfk,he,hso,Sem.run_pure]
 rfl
end maps

/-! ### arrays, by a place -/
section arrays
variable {P : Program} {r : Option Nat} {N : Nat} {ops : Array Oper} {Q : Post} {rest : List Oper} {ρ : Env} {ds : List Deferred} {w : World} {d : Option Nat}
variable {ty : TypeId} {pos : String} {after : Array Edge} {g : Option (Nat × Bool)}
/-! ### bound functions -/
theorem r_mkfb {fn:Fn} {fs cs:List Operand} {us vs:List Value} (h1:fs.map (ev ρ)=us) (h2:cs.map (ev ρ)=vs):RunV P ρ w ⟨d,.makeFunc fn fs.toArray cs.toArray,ty,pos,after,g⟩ (.func fn us.toArray vs.toArray):=by
 subst h1; subst h2
 simp [RunV,execOp,Instr.makeFunc]
theorem o_callb {d:Nat} {f:FuncId} {X:Operand} {as:List Operand} {us vs caps:List Value} {ts:Array TypeId} {post:Value→World→Prop} (hf:CF P f) (hX:ev ρ X=.func (.func f) us.toArray caps.toArray) (ha:as.map (ev ρ)=vs)
  (hc:Calls P f (us++vs++caps).toArray w (Ret post)) (hg:wantE ops ρ g=true) (hd:Nat.blt d N=true) (h:∀ v w',post v w'→EO P r N ops Q rest (upd ρ d v) ds w') :
  EO P r N ops Q (⟨some d,.call { callee:=.value X,args:=as.toArray,argTypes:=ts },ty,pos,after,g⟩::rest) ρ ds w:=by
 refine eo_enter (o:=⟨some d,.call { callee:=.value X,args:=as.toArray,argTypes:=ts },ty,pos,after,g⟩) hg rfl hd ?_ hc
  (fun v w'' ⟨u,e,hp⟩=>by cases e; exact h _ _ hp) (fun c w'' ⟨u,e,hp⟩=>by cases e) (fun w'' ⟨u,e,hp⟩=>by cases e)
 have:=hf (us++vs++caps).toArray w
 simp [execOp,resolve,hX,Deferred.ofValue,invoke,ha] at this ⊢
 exact this
/-! ### bytes as a text -/
def bstr (l:List Int):Str:=l.map fun n=>UInt8.ofNat n.toNat
theorem foldl_bstr:∀ (l:List Int) (s:ByteArray),l.foldl (fun r n=>r.push (UInt8.ofNat n.toNat)) s=⟨s.data++(bstr l).toArray⟩
 | [],s=>by simp [bstr]
 | n::l,s=>by
  simp only [List.foldl_cons,foldl_bstr l]
  apply ByteArray.ext
  simp [bstr,ByteArray.push]
theorem r_bstr {s t e n bytes:Nat} {z:Value} {X:Operand} {A:Option Addr} {c:Nat} {l:List Int} (hs:Slc P s e n bytes z) (he:P.underlying e=some (.int .u8)) (ht:P.underlying t=some .string) (hX:ev ρ X=.slice A l.length c) (hL:SlC (kI .u8) w A c l) :
  RunV P ρ w ⟨d,.convert s t X,ty,pos,after,g⟩ (str (bstr l)):=by
 have h1:=run_convert_bytes_string (P:=P) w s t e A l.length c hs.1 he ht
 have hb:(Conv.bytesToString (.slice A l.length c)).run P w=.ok (str (bstr l)) w:=by
  cases hl:l with
  | nil =>
   cases A with
   | none=>rfl
   | some a=>exact run_bytesToString (P:=P) w a 0 c [] rfl
  | cons x l' =>
   obtain ⟨⟨a,rfl,ha⟩,_⟩:=hL.2 0 (by rw [hl]; simp)
   obtain ⟨b,o,sp⟩:=a
   simp only at ha; subst ha
   have hcell:∀ j v,(l.map (Value.int .u8))[j]?=some v→w.cell? ⟨b,o + 0 + j,none⟩=some v:=fun j v hj=>by
    rw [List.getElem?_map] at hj
    cases hlj:l[j]? with
    | none=>rw [hlj] at hj; cases hj
    | some y =>
     rw [hlj] at hj
     cases hj
     have hlt:j<l.length:=(List.getElem?_eq_some_iff.1 hlj).1
     obtain ⟨_,cs,hcl,hca,hcr⟩:=hL.2 j hlt
     have hcr:cs=_:=hcr
     subst hcr
     have h0:=hca 0 _ rfl
     simp only [ad,elemA,kI] at h0
     have:l.getD j default=y:=by simp [List.getD_eq_getElem?_getD,hlj]
     rw [this] at h0
     rw [show o + 0 + j=o + j * 1 + 0 by omega]
     exact h0
   have hld:(loadCells ⟨b,o,none⟩ l.length).run P w=.ok (l.map (Value.int .u8)).toArray w:=by
    have:=run_loadCells (P:=P) (w:=w) ⟨b,o,none⟩ rfl (l.map (Value.int .u8)) 0 #[] hcell
    simpa [loadCells] using this
   have:=run_bytesToString (P:=P) w ⟨b,o,none⟩ l.length c l hld
   rw [← hl,this,foldl_bstr]
   simp [str]
 rw [hb] at h1
 simp only [RunV,execOp,hX,Sem.run_bind,h1,Result.andThen_ok]
 rfl
end arrays
end Go.Proofs.Ytbijobepjjokmaa
