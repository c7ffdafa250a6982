import Derived.Test.YtdfjbkoimpjkaaaGreatWe
import Derived.MapKept
import Derived.Laws.BytesString
import Derived.Lib.AppendStr
import Derived.Lib.Builder
import Derived.Laws.Externs
import Derived.RecoverIn
import Derived.Laws.LoneSync
namespace Go.Proofs.YtdfjbkoimpjkaaaGreat
open Go Go.RowKit
set_option linter.unusedVariables false
set_option linter.unusedSimpArgs false

/-! ### maps -/
def mEnts {T:Type} (k:IntKind) (enc:T→Value):List (Int × T)→Nat→List MapEntry
 | [],_=>[]
 | x::l,i=>⟨.int k x.1,enc x.2,i⟩::mEnts k enc l (i + 1)
def mObj {T:Type} (k:IntKind) (enc:T→Value) (l:List (Int × T)):Obj:=.map (mEnts k enc l 0).toArray l.length
def hasM {T:Type}:List (Int × T)→Int→Bool
 | [],_=>false
 | x::l,n=>n==x.1||hasM l n
def getM {T:Type} (z:T):List (Int × T)→Int→T
 | [],_=>z
 | x::l,n=>bif n==x.1 then x.2 else getM z l n
def Mp (P:Program) (T K E:TypeId) (k:IntKind):Prop:=P.underlying T=some (.map K E)∧P.underlying K=some (.int k)
theorem findNow_m {T:Type} {k k':IntKind} {enc:T→Value} {z:T} {n:Int}:∀ (l:List (Int × T)) (i j:Nat),
  (hasM l n=true→∃ j',Instr.findNow (.int k') (.int k n) (mEnts k enc l i) j=some (some (j',enc (getM z l n))))∧(hasM l n=false→Instr.findNow (.int k') (.int k n) (mEnts k enc l i) j=some none∧getM z l n=z)
 | [],i,j=>by
  refine ⟨fun h=>?_,fun _=>⟨rfl,rfl⟩⟩
  cases h
 | x::l,i,j=>by
  have ih:=findNow_m (enc:=enc) (k:=k) (k':=k') (z:=z) (n:=n) l (i + 1) (j + 1)
  unfold mEnts Instr.findNow Instr.sameNow hasM getM
  simp only [if_true]
  cases hx:(n==x.1) with
  | true=>simp
  | false=>simpa using ih
theorem mEnts_app {T:Type} {k:IntKind} {enc:T→Value} (x:Int × T):∀ (l:List (Int × T)) (i:Nat),mEnts k enc (l++[x]) i=mEnts k enc l i++[⟨.int k x.1,enc x.2,i + l.length⟩]
 | [],i=>rfl
 | y::l,i=>by
  simp only [List.cons_append,mEnts,mEnts_app x l (i + 1),List.length_cons]
  rw [show i + 1 + l.length=i + (l.length + 1) by omega]
section maps
variable {P : Program} {r : Option Nat} {N : Nat} {ops : Array Oper} {Q : Post} {rest : List Oper} {ρ : Env} {ds : List Deferred} {w : World}
variable {ty : TypeId} {pos : String} {after : Array Edge} {g : Option (Nat × Bool)}
theorem run_lookupM {T:Type} {t K E:TypeId} {k:IntKind} {enc:T→Value} {l:List (Int × T)} {z:T} {b:Nat} {n:Int} {ok:Bool} (hT:Mp P t K E k) (hz:Zero P E (enc z)) (hL:Lp w b (mObj k enc l)) :
  (Instr.lookup t (.map (some b)) (.int k n) ok).run P w=.ok (if ok=true then .tuple #[enc (getM z l n),.bool (hasM l n)] else enc (getM z l n)) w:=by
 obtain ⟨h1,h2⟩:=hT
 obtain ⟨i,h3,h4⟩:=hz
 have hg:=MapKept.run_getObj_map (P:=P) (w:=w) (r:=b) hL
 have hck:=MapKept.run_checkKey (P:=P) (w:=w) (kt:=K) (d:=.int k) (k:=.int k n) h2 (by simp [MapKept.IsKey])
 have hf:=findNow_m (enc:=enc) (k:=k) (k':=k) (z:=z) (n:=n) l 0 0
 have hzr:(zeroValue E).run P w=.ok (enc z) w:=by simp [zeroValue,typeInfo,h3,h4,program,Sem.run,Result.andThen]
 unfold Instr.lookup
 cases hh:hasM l n with
 | true =>
  obtain ⟨j,hj⟩:=hf.1 hh
  have hfk:=MapKept.run_findKey (P:=P) (w:=w) h2 hj
  simp only [Sem.run_bind,run_underlying h1,Result.andThen_ok,hg,hck,hfk,Sem.run_pure]
 | false =>
  obtain ⟨hj,hgz⟩:=hf.2 hh
  have hfk:=MapKept.run_findKey (P:=P) (w:=w) h2 hj
  simp only [Sem.run_bind,run_underlying h1,Result.andThen_ok,hg,hck,hfk,Sem.run_pure,hzr,hgz]
theorem r_lookupT {d:Option Nat} {T:Type} {t K E:TypeId} {k:IntKind} {enc:T→Value} {l:List (Int × T)} {z:T} {b:Nat} {n:Int} {X I:Operand} (hT:Mp P t K E k) (hz:Zero P E (enc z)) (hL:Lp w b (mObj k enc l)) (hX:ev ρ X=.map (some b)) (hI:ev ρ I=.int k n) :
  RunV P ρ w ⟨d,.lookup t X I true,ty,pos,after,g⟩ (.tuple #[enc (getM z l n),.bool (hasM l n)]):=by
 have:=run_lookupM (ok:=true) (n:=n) hT hz hL
 simp [RunV,execOp,hX,hI,this]
theorem r_lookupV {d:Option Nat} {T:Type} {t K E:TypeId} {k:IntKind} {enc:T→Value} {l:List (Int × T)} {z:T} {b:Nat} {n:Int} {X I:Operand} {v:Value} (hT:Mp P t K E k) (hz:Zero P E (enc z)) (hL:Lp w b (mObj k enc l)) (hX:ev ρ X=.map (some b)) (hI:ev ρ I=.int k n) (hv:enc (getM z l n)=v) :
  RunV P ρ w ⟨d,.lookup t X I false,ty,pos,after,g⟩ v:=by
 subst hv
 have:=run_lookupM (ok:=false) (n:=n) hT hz hL
 simp [RunV,execOp,hX,hI,this]
theorem o_mkmap {T:Type} {d:Nat} {t:TypeId} {k:IntKind} {enc:T→Value} (hg:wantE ops ρ g=true) (hd:Nat.blt d N=true)
  (h:∀ b w',b=w.heap.size→Ext w w'→Lp w' b (mObj k enc [])→EO P r N ops Q rest (upd ρ d (.map (some b))) ds w') :
  EO P r N ops Q (⟨some d,.makeMap t none,ty,pos,after,g⟩::rest) ρ ds w:=by
 refine eo_val (o:=⟨some d,.makeMap t none,ty,pos,after,g⟩) hg rfl hd ?_ (h w.heap.size (w.alloc (.map #[] 0)) rfl (Ext.alloc _ _) (World.alloc_heap_new w _))
 simp only [execOp,Instr.makeMap]
 rfl
theorem o_insert {T:Type} {t K E:TypeId} {k:IntKind} {enc:T→Value} {l:List (Int × T)} {b:Nat} {n:Int} {x:T} {M I X:Operand} (hT:Mp P t K E k) (hL:Lp w b (mObj k enc l)) (hM:ev ρ M=.map (some b)) (hI:ev ρ I=.int k n) (hX:ev ρ X=enc x)
  (hn:hasM l n=false) (hg:wantE ops ρ g=true) (h:∀ w',Fr [b] w w'→Lp w' b (mObj k enc (l++[(n,x)]))→EO P r N ops Q rest ρ ds w') :
  EO P r N ops Q (⟨none,.insert t M I X,ty,pos,after,g⟩::rest) ρ ds w:=by
 obtain ⟨h1,h2⟩:=hT
 have hgo:=MapKept.run_getObj_map (P:=P) (w:=w) (r:=b) hL
 have hck:=MapKept.run_checkKey (P:=P) (w:=w) (kt:=K) (d:=.int k) (k:=.int k n) h2 (by simp [MapKept.IsKey])
 have hfk:=MapKept.run_findKey (P:=P) (w:=w) h2 ((findNow_m (enc:=enc) (k:=k) (k':=k) (z:=x) (n:=n) l 0 0).2 hn).1
 have hso:=MapKept.run_setObj_map (P:=P) (w:=w) (r:=b) (mObj k enc (l++[(n,x)])) hL
 refine eo_unit (o:=⟨none,.insert t M I X,ty,pos,after,g⟩) hg rfl rfl ?_ (h _ (Fr.putObj w b (mObj k enc (l++[(n,x)]))) (hL.put _))
 have he:(Obj.map ((mEnts k enc l 0).toArray.push ⟨.int k n,enc x,l.length⟩) (l.length + 1))=mObj k enc (l++[(n,x)]):=by
  unfold mObj; rw [mEnts_app]; simp
 simp only [execOp,hM,hI,hX,Instr.mapUpdate,Sem.run_bind,run_underlying h1,Result.andThen_ok,hgo,hck,hfk,he,hso,Sem.run_pure]
 rfl
end maps

/-! ### arrays, by a place -/
/-- The cells of an array. -/
def arC {T : Type} [Inhabited T] (f : T → Value) (m : Nat) (e : List T) : List Value := (List.range m).map fun j : Nat => f (nth e (j : Int))
theorem arC_at {T:Type} [Inhabited T] (f:T→Value) {m:Nat} (e:List T) {i:Int} (h:0≤i∧i<(m:Int)):(arC f m e)[i.toNat]?=some (f (nth e i)):=by
 unfold arC
 have:i.toNat<m:=by omega
 simp only [List.getElem?_map,List.getElem?_range this,Option.map_some]
 rw [Int.toNat_of_nonneg h.1]
theorem arC_set {T:Type} [Inhabited T] (f:T→Value) {m:Nat} (e:List T) {i:Int} (v:T) (h:0≤i∧i<(m:Int)) (he:e.length=m):(arC f m e).set i.toNat (f v)=arC f m (e.set i.toNat v):=by
 apply List.ext_getElem?
 intro j
 unfold arC
 by_cases hj:j<m
 ·by_cases hji:i.toNat=j
  ·subst hji
   simp [hj,nth,he]
  ·simp only [List.getElem?_set_ne hji,List.getElem?_map,List.getElem?_range hj,Option.map_some,nth,Int.toNat_natCast,List.getD_eq_getElem?_getD,List.getElem?_set_ne hji]
 ·rw [List.getElem?_eq_none (by simp; omega),List.getElem?_eq_none (by simp; omega)]
section arrays
variable {P : Program} {r : Option Nat} {N : Nat} {ops : Array Oper} {Q : Post} {rest : List Oper} {ρ : Env} {ds : List Deferred} {w : World} {d : Option Nat}
variable {ty : TypeId} {pos : String} {after : Array Edge} {g : Option (Nat × Bool)}
theorem r_ixA {T:Type} [Inhabited T] {t el:TypeId} {m:Nat} {X I:Operand} {f:T→Value} {e:List T} {k:IntKind} {i:Int} (hT:P.underlying t=some (.array m el)) (h1:One P el) (hs:Sz P el 1) (hX:ev ρ X=.agg (arC f m e).toArray) (hI:ev ρ I=.int k i) (h:0≤i∧i<(m:Int)) :
  RunV P ρ w ⟨d,.index t X I,ty,pos,after,g⟩ (f (nth e i)):=by
 obtain ⟨j,h2,h3⟩:=hs
 have hp:=part1 (P:=P) (t:=el) (cs:=(arC f m e).toArray) (o:=i.toNat) h1 (by simpa using arC_at f e h) w
 simp [RunV,execOp,hX,hI,Instr.index,asIntOf,run_underlying hT,h.1,h.2,sizeOf,typeInfo,h2,h3,hp]
theorem r_iaA {t el:TypeId} {m:Nat} {X I:Operand} {b:Nat} {k:IntKind} {i:Int} (hT:P.underlying t=some (.array m el)) (hs:Sz P el 1) (hX:ev ρ X=.pointer (some ⟨b,0,none⟩)) (hI:ev ρ I=.int k i) (h:0≤i∧i<(m:Int)) :
  RunV P ρ w ⟨d,.indexAddr t X I,ty,pos,after,g⟩ (.pointer (some ⟨b,i.toNat,none⟩)):=by
 obtain ⟨j,h2,h3⟩:=hs
 have hadd:(⟨b,0,none⟩:Addr).add i.toNat=⟨b,i.toNat,none⟩:=by
  unfold Addr.add; split
  ·rename_i h0; simp at h0; simp; omega
  ·simp
 simp [RunV,execOp,hX,hI,Instr.indexAt,asIntOf,Instr.sureAddr,run_underlying hT,sizeOf,typeInfo,h2,h3,h.1,h.2,hadd]
theorem Blk.cellV {T:Type} [Inhabited T] {b:Nat} {e0:TypeId} {f:T→Value} {m:Nat} {e:List T} {i:Int} (hB:Blk w b e0 (arC f m e)) (h:0≤i∧i<(m:Int)):w.cell? ⟨b,i.toNat,none⟩=some (f (nth e i)):=hB.cell (arC_at f e h)
theorem o_storeV {T:Type} [Inhabited T] {t:TypeId} {X Y:Operand} {b:Nat} {e0:TypeId} {f:T→Value} {m:Nat} {e:List T} {i:Int} {v:T} (hX:ev ρ X=.pointer (some ⟨b,i.toNat,none⟩)) (hB:Blk w b e0 (arC f m e)) (h:0≤i∧i<(m:Int)) (he:e.length=m) (hY:ev ρ Y=f v) (hf:∀ v,(f v).cells=#[f v]∧oneC (f v)=true) (hT:Sz P t 1) (hg:wantE ops ρ g=true)
  (hk:∀ w',Fr [b] w w'→Blk w' b e0 (arC f m (e.set i.toNat v))→EO P r N ops Q rest ρ ds w') :
  EO P r N ops Q (⟨none,.store t X Y,ty,pos,after,g⟩::rest) ρ ds w:=by
 refine o_store (vs:=[f v]) (o:=i.toNat) hX hB (by rw [hY]; exact (hf v).1) hT (by simp [(hf v).2]) (by simp [arC]; omega) hg ?_
 intro w' F B
 refine hk w' F ?_
 have:setL (arC f m e) i.toNat [f v]=arC f m (e.set i.toNat v):=by simp only [setL]; exact arC_set f e v h he
 rwa [this] at B
theorem int_one {k:IntKind} (v:Int):(Value.int k v).cells=#[.int k v]∧oneC (Value.int k v)=true:=⟨rfl,rfl⟩
/-! ### bound functions -/
theorem r_mkfb {fn:Fn} {fs cs:List Operand} {us vs:List Value} (h1:fs.map (ev ρ)=us) (h2:cs.map (ev ρ)=vs):RunV P ρ w ⟨d,.makeFunc fn fs.toArray cs.toArray,ty,pos,after,g⟩ (.func fn us.toArray vs.toArray):=by
 subst h1; subst h2
 simp [RunV,execOp,Instr.makeFunc]
theorem o_callb {d:Nat} {f:FuncId} {X:Operand} {as:List Operand} {us vs caps:List Value} {ts:Array TypeId} {post:Value→World→Prop} (hf:CF P f) (hX:ev ρ X=.func (.func f) us.toArray caps.toArray) (ha:as.map (ev ρ)=vs)
  (hc:Calls P f (us++vs++caps).toArray w (Ret post)) (hg:wantE ops ρ g=true) (hd:Nat.blt d N=true) (h:∀ v w',post v w'→EO P r N ops Q rest (upd ρ d v) ds w') :
  EO P r N ops Q (⟨some d,.call { callee:=.value X,args:=as.toArray,argTypes:=ts },ty,pos,after,g⟩::rest) ρ ds w:=by
 refine eo_enter (o:=⟨some d,.call { callee:=.value X,args:=as.toArray,argTypes:=ts },ty,pos,after,g⟩) hg rfl hd ?_ hc
  (fun v w'' ⟨u,e,hp⟩=>by cases e; exact h _ _ hp) (fun c w'' ⟨u,e,hp⟩=>by cases e) (fun w'' ⟨u,e,hp⟩=>by cases e)
 have:=hf (us++vs++caps).toArray w
 simp [execOp,resolve,hX,Deferred.ofValue,invoke,ha] at this ⊢
 exact this
/-! ### bytes as a text -/
def bstr (l:List Int):Str:=l.map fun n=>UInt8.ofNat n.toNat
theorem foldl_bstr:∀ (l:List Int) (s:ByteArray),l.foldl (fun r n=>r.push (UInt8.ofNat n.toNat)) s=⟨s.data++(bstr l).toArray⟩
 | [],s=>by simp [bstr]
 | n::l,s=>by
  simp only [List.foldl_cons,foldl_bstr l]
  apply ByteArray.ext
  simp [bstr,ByteArray.push]
theorem r_bstr {s t e n bytes:Nat} {z:Value} {X:Operand} {A:Option Addr} {c:Nat} {l:List Int} (hs:Slc P s e n bytes z) (he:P.underlying e=some (.int .u8)) (ht:P.underlying t=some .string) (hX:ev ρ X=.slice A l.length c) (hL:SlC (kI .u8) w A c l) :
  RunV P ρ w ⟨d,.convert s t X,ty,pos,after,g⟩ (str (bstr l)):=by
 have h1:=run_convert_bytes_string (P:=P) w s t e A l.length c hs.1 he ht
 have hb:(Conv.bytesToString (.slice A l.length c)).run P w=.ok (str (bstr l)) w:=by
  cases hl:l with
  | nil =>
   cases A with
   | none=>rfl
   | some a=>exact run_bytesToString (P:=P) w a 0 c [] rfl
  | cons x l' =>
   obtain ⟨⟨a,rfl,ha⟩,_⟩:=hL.2 0 (by rw [hl]; simp)
   obtain ⟨b,o,sp⟩:=a
   simp only at ha; subst ha
   have hcell:∀ j v,(l.map (Value.int .u8))[j]?=some v→w.cell? ⟨b,o + 0 + j,none⟩=some v:=fun j v hj=>by
    rw [List.getElem?_map] at hj
    cases hlj:l[j]? with
    | none=>rw [hlj] at hj; cases hj
    | some y =>
     rw [hlj] at hj
     cases hj
     have hlt:j<l.length:=(List.getElem?_eq_some_iff.1 hlj).1
     obtain ⟨_,cs,hcl,hca,hcr⟩:=hL.2 j hlt
     have hcr:cs=_:=hcr
     subst hcr
     have h0:=hca 0 _ rfl
     simp only [ad,elemA,kI] at h0
     have:l.getD j default=y:=by simp [List.getD_eq_getElem?_getD,hlj]
     rw [this] at h0
     rw [show o + 0 + j=o + j * 1 + 0 by omega]
     exact h0
   have hld:(loadCells ⟨b,o,none⟩ l.length).run P w=.ok (l.map (Value.int .u8)).toArray w:=by
    have:=run_loadCells (P:=P) (w:=w) ⟨b,o,none⟩ rfl (l.map (Value.int .u8)) 0 #[] hcell
    simpa [loadCells] using this
   have:=run_bytesToString (P:=P) w ⟨b,o,none⟩ l.length c l hld
   rw [← hl,this,foldl_bstr]
   simp [str]
 rw [hb] at h1
 simp only [RunV,execOp,hX,Sem.run_bind,h1,Result.andThen_ok]
 rfl
end arrays

/-- A text's bytes as numbers. -/
def ints (s : Str) : List Int := s.map fun b => (b.toNat : Int)
theorem ints_length (s:Str):(ints s).length=s.length:=by simp [ints]
theorem strCells_ints (s:Str):Lib.strCells ⟨s.toArray⟩=(ints s).map fun n=>.int .u8 n:=by
 simp [Lib.strCells,ints]
theorem rowD_u8 (w:World) (l:List Int):RowD (kI .u8) w (l.map fun n=>.int .u8 n) l:=by
 intro i hi
 show ((l.map fun n=>Value.int .u8 n).drop (i * 1)).take 1=[.int .u8 (l.getD i default)]
 rw [Nat.mul_one,List.drop_eq_getElem_cons (by simpa using hi)]
 simp [hi]
theorem run_appS {P:Program} {t u ty e B:Nat} {L:List Nat} {w:World} {v:Value} {l:List Int} {z:Value} (hT:Slc P t e 1 1 z) (hz:z=.int .u8 0) (hu:P.underlying u=some .string) (hO:OwnS (kI .u8) B e L w v l) (s:Str)
  (hsz:l.length + s.length≤140737488355328) :
  ∃ v' w',(Builtin.append_ #[t,u] ty #[v,str s]).run P w=.ok v' w'∧OwnS (kI .u8) B e L w' v' (l++ints s)∧Fr (own v) w w'∧(∀ q∈own v',q∈own v∨w.heap.size≤q):=by
 subst hz
 obtain ⟨hp,hb,hB,xs,hr1,hr2⟩:=hO
 obtain ⟨ht,i,h2,h3,h4,h5⟩:=hT
 have hss:(⟨s.toArray⟩:ByteArray).size=s.length:=by simp [ByteArray.size]
 obtain ⟨v',w',r1,r2,r3,r4⟩:=Lib.run_append_own_string (P:=P) w B t u ty e i ht hu h2 h3 h4 h5 v l.length xs hr1 ⟨s.toArray⟩ (by rw [hss]; simp only [maxLen]; omega) (by rw [hss]; exact hsz) hB
 have f:Fr (own v) w w':=⟨r3.os,r3.tape,r3.output,r3.size,fun q hq hn=>r3.block q hq (fun e=>hn (by rw [mem_own]; exact e.symm))⟩
 have hnew:∀ q∈own v',q∈own v∨w.heap.size≤q:=by
  intro q hq
  rw [mem_own] at hq
  by_cases hv:v.ownBlock=some q
  ·exact .inl (mem_own.2 hv)
  ·refine .inr ?_
   rcases hr1.2 with ⟨rfl,h0⟩ | ⟨g,cap,cur,rfl,hbg,hg,hnc,hcm,hcs,htake⟩
   ·by_cases hm0:(⟨s.toArray⟩:ByteArray).size=0
    ·rw [r4.2 ⟨rfl,hm0⟩] at hq; cases hq
    ·have hr:=run_append_nil_string (P:=P) w t u ty e i (.int .u8 0) ht hu h2 h3 ⟨s.toArray⟩ (by omega) (by omega) (by rw [h5]; omega)
     rw [hr] at r1; cases r1
     simp only [Value.ownBlock,Option.some.injEq] at hq; omega
   ·by_cases hroom:l.length + (⟨s.toArray⟩:ByteArray).size≤cap
    ·have hcs':cur.size=cap:=by simpa [kI] using hcs
     have hr:=Lib.run_append_room_string (P:=P) w t u ty e i ht hu h2 h4 g l.length cap cur hg ⟨s.toArray⟩ hroom (by omega)
     rw [hr] at r1; cases r1
     exact absurd hq hv
    ·have holds:∀ j u,xs[j]?=some u→w.cell? ((⟨g,0,none⟩:Addr).add j)=some u:=hr1.cells (g:=g) rfl
     have hr:=Lib.run_append_grow_string (P:=P) w t u ty e i (.int .u8 0) ht hu h2 h3 ⟨g,0,none⟩ l.length cap xs (by rw [h4]; exact hr1.1) holds ⟨s.toArray⟩ (by omega) (by omega) (by rw [h5]; exact growslice_fits (by omega) (by omega))
     rw [hr] at r1; cases r1
     simp only [Value.ownBlock,Option.some.injEq] at hq; omega
 refine ⟨v',w',r1,⟨hp,fun m hm=>⟨Nat.lt_of_lt_of_le (hb m hm).1 r3.size,fun hq=>(hnew m hq).elim (hb m hm).2 (fun h=>by have:=(hb m hm).1; omega)⟩,Nat.le_trans hB r3.size,xs++Lib.strCells ⟨s.toArray⟩,by rw [List.length_append,ints_length]; rw [hss] at r2; exact r2,?_⟩,f,hnew⟩
 have hall:Stb (own v++L) w (fun w=>RowD (kI .u8) w (xs++Lib.strCells ⟨s.toArray⟩) (l++ints s)):=hr2.mono fun w0 q1=>q1.append hr1.1 (by rw [strCells_ints]; exact rowD_u8 _ _) (by rw [strCells_ints]; simp [kI])
 refine hall.up f (fun m hm=>List.mem_append_left _ hm) (fun q hq=>?_)
 rcases List.mem_append.1 hq with hq | hq
 ·rcases hnew q hq with h6 | h6
  ·exact .inl (List.mem_append_left _ h6)
  ·exact .inr h6
 ·exact .inl (List.mem_append_right _ hq)

section ops
variable {P : Program} {r : Option Nat} {N : Nat} {ops : Array Oper} {Q : Post} {rest : List Oper} {ρ : Env} {ds : List Deferred} {w : World} {d : Nat} {ty : TypeId} {pos : String} {after : Array Edge} {g : Option (Nat × Bool)}
theorem o_appS {B e t u:Nat} {L:List Nat} {v:Value} {l:List Int} {z:Value} {S X:Operand} {s:Str} (hT:Slc P t e 1 1 z) (hz:z=.int .u8 0) (hu:P.underlying u=some .string) (hS:ev ρ S=v) (hO:OwnS (kI .u8) B e L w v l) (hX:ev ρ X=str s)
  (hsz:l.length + s.length≤140737488355328) (hg:wantE ops ρ g=true) (hdd:Nat.blt d N=true)
  (h:∀ v' w',Fr (own v) w w'→OwnS (kI .u8) B e L w' v' (l++ints s)→(∀ q∈own v',q∈own v∨w.heap.size≤q)→EO P r N ops Q rest (upd ρ d v') ds w') :
  EO P r N ops Q (⟨some d,.call { callee:=.builtin .append,args:=#[S,X],argTypes:=#[t,u] },ty,pos,after,g⟩::rest) ρ ds w:=by
 obtain ⟨v',w',r1,r2,r3,r4⟩:=run_appS (P:=P) (ty:=ty) hT hz hu hO s hsz
 refine eo_val (o:=⟨some d,.call { callee:=.builtin .append,args:=#[S,X],argTypes:=#[t,u] },ty,pos,after,g⟩) hg rfl hdd ?_ (h v' w' r3 r2 r4)
 simp [execOp,resolve,invoke,builtin,hS,hX,r1]
/-- A pointer against nil; against itself. -/
theorem r_pnil {T t' : TypeId} {X Y : Operand} {p : Option Addr} (hT : P.underlying T = some (.pointer (P.pointee T))) (hX : ev ρ X = .pointer p) (hY : ev ρ Y = .pointer none) :
    RunV P ρ w ⟨d, .binOp .eql T X Y t', ty, pos, after, g⟩ (.bool p.isNone) := by
  have := run_eql_pointer_nil (P := P) (w := w) T p hT
  simp only [RunV, execOp, hX, hY, eqGuard, Sem.run_bind, Sem.run_pure, Result.andThen_ok, ite_self, this]
theorem r_pself {T te t':TypeId} {X Y:Operand} {a:Addr} {j:TypeInfo} (hT:P.underlying T=some (.pointer te)) (hj:P.info? te=some j) (hX:ev ρ X=.pointer (some a)) (hY:ev ρ Y=.pointer (some a)) :
  RunV P ρ w ⟨d,.binOp .neq T X Y t',ty,pos,after,g⟩ (.bool false):=by
 have:=Lib.run_neq_ptr_same (P:=P) w a hT hj
 simp only [RunV,execOp,hX,hY,eqGuard,Sem.run_bind,Sem.run_pure,Result.andThen_ok,ite_self,this]
/-- To an unsafe pointer, and back; what stands between. -/
theorem r_toU {S T t e : TypeId} {X : Operand} {b o : Nat} {cs : List Value} {j : TypeInfo} (hS : P.underlying S = some (.pointer t)) (hT : P.underlying T = some .unsafePointer) (hj : P.info? t = some j) (hn : j.size ≠ 0) (hX : ev ρ X = .pointer (some ⟨b, o, none⟩)) (hB : Blk w b e cs) (ho : Nat.blt o cs.length = true) :
    RunV P ρ w ⟨d, .convert S T X, ty, pos, after, g⟩ (.pointer (some ⟨b, o, none⟩)) := by
  have hsh : w.shape? b = some (e, cs.length) := by
    have := hB
    unfold Blk at this
    simp [World.shape?, this]
  have := Lib.run_to_unsafe (P := P) w ⟨b, o, none⟩ hS hT hj hn hsh (by simpa [Nat.blt_eq] using ho)
  simp only [RunV, execOp, hX, Sem.run_bind, this, Result.andThen_ok]
  rfl
theorem r_fromU {S T u e:TypeId} {X:Operand} {b o:Nat} {cs:List Value} {j:TypeInfo} (hS:P.underlying S=some .unsafePointer) (hT:P.underlying T=some (.pointer u)) (hj:P.info? u=some j) (hX:ev ρ X=.pointer (some ⟨b,o,none⟩)) (hB:Blk w b e cs) (hl:liesAt P P.depth e (cs.length / P.cellsOf e) o u 1=true) :
  RunV P ρ w ⟨d,.convert S T X,ty,pos,after,g⟩ (.pointer (some ⟨b,o,none⟩)):=by
 have hsh:w.shape? b=some (e,cs.length):=by
  have:=hB
  unfold Blk at this
  simp [World.shape?,this]
 have:=Lib.run_from_unsafe (P:=P) w ⟨b,o,none⟩ hS hT hj hsh hl
 simp only [RunV,execOp,hX,Sem.run_bind,this,Result.andThen_ok]
 rfl
theorem r_ia' {T E bytes:Nat} {z:Value} {X I:Operand} {b len c i:Nat} (hT:Slc P T E 1 bytes z) (hX:ev ρ X=.slice (some ⟨b,0,none⟩) len c) (hI:ev ρ I=.int .i64 (i:Int)) (h0:(0:Int)≤(i:Int)) (h1:i<len) :
  RunV P ρ w ⟨d,.indexAddr T X I,ty,pos,after,g⟩ (.pointer (some ⟨b,i,none⟩)):=by
 have:=r_ia (w:=w) (d:=d) (ty:=ty) (pos:=pos) (after:=after) (g:=g) hT hX hI ⟨_,rfl,rfl⟩ h0 (by omega)
 simpa [elemA] using this
theorem o_ext {f:FuncId} {as:List Operand} {vs:List Value} {v:Value} {ts:Array TypeId} (ha:as.map (ev ρ)=vs) (hrun:(callFunc f vs.toArray).run P w=.ok (.value v) w) (hg:wantE ops ρ g=true) (hd:Nat.blt d N=true)
  (h:EO P r N ops Q rest (upd ρ d v) ds w):EO P r N ops Q (⟨some d,.call { callee:=.value (.func f),args:=as.toArray,argTypes:=ts },ty,pos,after,g⟩::rest) ρ ds w:=by
 refine eo_val (o:=⟨some d,.call { callee:=.value (.func f),args:=as.toArray,argTypes:=ts },ty,pos,after,g⟩) hg rfl hd ?_ h
 simp [execOp,resolve,ev,Deferred.ofValue,invoke,ha,hrun]
end ops

/-- What a function that defers leaves by. -/
def leaveD (P : Program) (rs : Array ResultVar) (R : Ending → World → Prop) (ρ : Env) : List Deferred → FrameMode → World → Prop
  | [], .returning, w => ∃ v, (resE rs ρ).run P w = .ok v w ∧ R (.returned v) w
  | [], .panicking chain, w => R (.panicked chain) w
  | [], .run, _ => False
  | d :: ds, u, w => u ≠ .run ∧ ∃ fv cap f args, d.target = .fn fv cap ∧ (invoke d.target d.args).run P w = .ok (.enter f args) w ∧
      CallsDIn (FW none) 0 P f args u w fun
        | .returned _, u', w' => leaveD P rs R ρ ds (settle u') w'
        | .panicked chain, u', w' => leaveD P rs R ρ ds (raised u' chain) w'
        | .outgrown, _, w' => R .outgrown w'
theorem leaves_D {P:Program} {fn:Func} {R:Ending→World→Prop} {a:Act}:∀ (ds:List Deferred) (u:FrameMode) (w:World),leaveD P fn.results R (envOf a) ds u w→LeavesIn (FW none) 0 P fn a.tmps R ds u w
 | [],.returning,w,h=>by
  obtain ⟨v,h1,h2⟩:=h
  rw [resE_envOf] at h1
  exact ⟨v,h1,h2⟩
 | [],.panicking _,w,h=>h
 | [],.run,w,h=>h
 | d::ds,u,w,⟨h0,fv,cap,f,args,h1,h2,h3⟩=>by
  refine ⟨h0,fun h=>by simp [FW] at h,fv,cap,f,args,h1,h2,fun _ _=>trivial,h3.mono fun e u' w' he=>?_⟩
  cases e with
  | returned v=>exact leaves_D ds _ _ he
  | panicked c=>exact leaves_D ds _ _ he
  | outgrown=>exact he
def bodyDP (P:Program) (rs:Array ResultVar) (R:Ending→World→Prop):Post
 | .normal,ρ,ds,w=>leaveD P rs R ρ ds .returning w
 | .ret,ρ,ds,w=>leaveD P rs R ρ ds .returning w
 | .panic chain,ρ,ds,w=>leaveD P rs R ρ ds (.panicking chain) w
 | _,_,_,_=>False
theorem calls_ecD {P:Program} {f:FuncId} {fn:Func} {c:Code} {args:Array Value} {w:World} {R:Ending→World→Prop} {N:Nat}
  (hf:P.funcs[f]?=some fn) (hb:fn.body=some c) (hN:fn.ntmps=N) (hs:Nat.ble args.size N=true)
  (h:EC P none N c (bodyDP P fn.results R) (base args) [] w):Calls P f args w R:=by
 have hs':args.size≤N:=by simpa [Nat.ble_eq] using hs
 refine callsIn_wide (n:=0).1 (callsIn_of_wp_defers (F:=Fence.wide) hf hb trivial ?_)
 refine wpIn_mono (h { tmps:=args++Array.replicate (fn.ntmps - args.size) undef,defers:=[] } (by simp [hN]; omega) ?_ rfl) ?_
 ·funext t
  simp only [envOf,base,Array.getD_eq_getD_getElem?,List.getD_eq_getElem?_getD,Array.getElem?_append,Array.getElem?_toList]
  by_cases h1:t<args.size
  ·simp [h1]
  ·rw [if_neg h1,Array.getElem?_eq_none (Nat.le_of_not_lt h1)]
   simp only [Array.getElem?_replicate]
   split <;> rfl
 ·rintro e a w ⟨_,hq⟩
  cases e <;> first | exact hq.elim | exact leaves_D _ _ _ hq

section
variable {P : Program} {r : Option Nat} {N : Nat} {ops : Array Oper} {Q : Post} {rest : List Oper} {ρ : Env} {ds : List Deferred} {w : World} {ty : TypeId} {pos : String} {after : Array Edge} {g : Option (Nat × Bool)}
theorem o_defer {X:Operand} {f:FuncId} {caps:List Value} {ts:Array TypeId} (hX:ev ρ X=.func (.func f) #[] caps.toArray) (hg:wantE ops ρ g=true)
  (h:EO P none N ops Q rest ρ ({ target:=.fn (.func f) caps.toArray,args:=#[] }::ds) w) :
  EO P none N ops Q (⟨none,.defer { callee:=.value X,args:=#[],argTypes:=ts },ty,pos,after,g⟩::rest) ρ ds w:=by
 intro a h1 h2 h3
 unfold wpListIn
 rw [want_env,h2,hg]
 refine ⟨fun _ _=>trivial,?_⟩
 rw [show (FW none).round=none from rfl,Oper.semAt_none,← ev_envOf,h2]
 have hx:(execOp (ev ρ) ⟨none,.defer { callee:=.value X,args:=#[],argTypes:=ts },ty,pos,after,g⟩).run P w=.ok (.defer { target:=.fn (.func f) caps.toArray,args:=#[] }) w:=by
  simp [execOp,resolve,hX,Deferred.ofValue]
 rw [hx]
 exact h _ h1 (by rw [← h2]; rfl) (by rw [← h3]; rfl)
/-- A call that may panic. -/
theorem o_callP {d : Nat} {f : FuncId} {as : List Operand} {vs : List Value} {ts : Array TypeId} {post : Value → World → Prop} {pan : List PanicEntry → World → Prop} (hf : CF P f) (ha : as.map (ev ρ) = vs)
    (hc : Calls P f vs.toArray w (fun e w' => (∃ v, e = .returned v ∧ post v w') ∨ (∃ c, e = .panicked c ∧ pan c w'))) (hg : wantE ops ρ g = true) (hd : Nat.blt d N = true)
    (h : ∀ v w', post v w' → EO P r N ops Q rest (upd ρ d v) ds w') (hp : ∀ c w', pan c w' → Q (.panic c) ρ ds w') :
    EO P r N ops Q (⟨some d, .call { callee := .value (.func f), args := as.toArray, argTypes := ts }, ty, pos, after, g⟩ :: rest) ρ ds w := by
  refine eo_enter (o := ⟨some d, .call { callee := .value (.func f), args := as.toArray, argTypes := ts }, ty, pos, after, g⟩) hg rfl hd ?_ hc
    (fun v w'' he => by
      rcases he with ⟨u, e, hp⟩ | ⟨c, e, _⟩
      · cases e; exact h _ _ hp
      · cases e) (fun c w'' he => by
      rcases he with ⟨u, e, _⟩ | ⟨c', e, hp'⟩
      · cases e
      · cases e; exact hp _ _ hp') (fun w'' he => by rcases he with ⟨u, e, _⟩ | ⟨c, e, _⟩ <;> cases e)
  have := hf vs.toArray w
  simp [execOp, resolve, ev, Deferred.ofValue, invoke, ha, this]
/-- panic(v). -/
theorem o_panic {X : Operand} {u : TypeId} {v : Value} (hX : ev ρ X = .iface u v) (hg : wantE ops ρ g = true) (hp : Q (.panic [{ v := .iface u v, recovered := false }]) ρ ds w) :
    EO P r N ops Q (⟨none, .panic X, ty, pos, after, g⟩ :: rest) ρ ds w := by
  refine eo_run (o := ⟨none, .panic X, ty, pos, after, g⟩) hg rfl (.halt (.panic (.iface u v)) w) ?_ fun a h1 h2 h3 => ?_
  · simp [execOp, hX, Instr.panic]
  · exact ⟨h1, by rw [h2, h3]; exact hp⟩
end

section
variable {P : Program} {r : Option Nat} {N : Nat} {ops : Array Oper} {Q : Post} {rest : List Oper} {ρ : Env} {ds : List Deferred} {w w' : World} {ty : TypeId} {pos : String} {after : Array Edge} {g : Option (Nat × Bool)}
theorem o_extW {d:Nat} {f:FuncId} {as:List Operand} {vs:List Value} {v:Value} {ts:Array TypeId} (ha:as.map (ev ρ)=vs) (hrun:(callFunc f vs.toArray).run P w=.ok (.value v) w') (hg:wantE ops ρ g=true) (hd:Nat.blt d N=true)
  (h:EO P r N ops Q rest (upd ρ d v) ds w'):EO P r N ops Q (⟨some d,.call { callee:=.value (.func f),args:=as.toArray,argTypes:=ts },ty,pos,after,g⟩::rest) ρ ds w:=by
 refine eo_val (o:=⟨some d,.call { callee:=.value (.func f),args:=as.toArray,argTypes:=ts },ty,pos,after,g⟩) hg rfl hd ?_ h
 simp [execOp,resolve,ev,Deferred.ofValue,invoke,ha,hrun]
theorem o_deferA {f:FuncId} {as:List Operand} {vs:List Value} {ts:Array TypeId} (ha:as.map (ev ρ)=vs) (hg:wantE ops ρ g=true)
  (h:EO P none N ops Q rest ρ ({ target:=.fn (.func f) #[],args:=vs.toArray }::ds) w) :
  EO P none N ops Q (⟨none,.defer { callee:=.value (.func f),args:=as.toArray,argTypes:=ts },ty,pos,after,g⟩::rest) ρ ds w:=by
 intro a h1 h2 h3
 unfold wpListIn
 rw [want_env,h2,hg]
 refine ⟨fun _ _=>trivial,?_⟩
 rw [show (FW none).round=none from rfl,Oper.semAt_none,← ev_envOf,h2]
 have hx:(execOp (ev ρ) ⟨none,.defer { callee:=.value (.func f),args:=as.toArray,argTypes:=ts },ty,pos,after,g⟩).run P w=.ok (.defer { target:=.fn (.func f) #[],args:=vs.toArray }) w:=by
  simp [execOp,resolve,ev,Deferred.ofValue,ha]
 rw [hx]
 exact h _ h1 (by rw [← h2]; rfl) (by rw [← h3]; rfl)
end
/-- A function that neither defers nor recovers, as a deferred call. -/
theorem callsD_ec {P : Program} {f : FuncId} {fn : Func} {c : Code} {args : Array Value} {u : FrameMode} {w : World} {R : Ending → World → Prop} {N : Nat}
    (hf : P.funcs[f]? = some fn) (hb : fn.body = some c) (hN : fn.ntmps = N) (hs : Nat.ble args.size N = true)
    (h : EC P none N c (bodyE P fn.results R) (base args) [] w) : CallsDIn (FW none) 0 P f args u w fun e u' w' => u' = u ∧ R e w' := by
  have hs' : args.size ≤ N := by simpa [Nat.ble_eq] using hs
  refine callsDIn_of_wpSIn hf hb trivial fun c₀ cs hu => ?_
  have hself : ({ c₀ with mode := u } : Frame) = c₀ := by rw [← hu]
  refine wpSIn_of_wpIn rfl ?_
  refine wpIn_mono (h { tmps := args ++ Array.replicate (fn.ntmps - args.size) undef, defers := [] } (by simp [hN]; omega) ?_ rfl) ?_
  · funext t
    simp only [envOf, base, Array.getD_eq_getD_getElem?, List.getD_eq_getElem?_getD, Array.getElem?_append, Array.getElem?_toList]
    by_cases h1 : t < args.size
    · simp [h1]
    · rw [if_neg h1, Array.getElem?_eq_none (Nat.le_of_not_lt h1)]
      simp only [Array.getElem?_replicate]
      split <;> rfl
  · rintro e a w ⟨_, hq⟩
    cases e with
    | normal => obtain ⟨h1, v, h2, h3⟩ := hq; rw [resE_envOf] at h2; exact ⟨h1, u, by rw [hself], v, h2, rfl, h3⟩
    | ret => obtain ⟨h1, v, h2, h3⟩ := hq; rw [resE_envOf] at h2; exact ⟨h1, u, by rw [hself], v, h2, rfl, h3⟩
    | panic c => exact ⟨hq.1, u, by rw [hself], rfl, hq.2⟩
    | _ => exact hq.elim
/-- One cell of a block, turned. -/
theorem setc {w : World} {b o : Nat} {e : TypeId} {cs : List Value} (hB : Blk w b e cs) (v : Value) : Fr [b] w (w.setCell ⟨b, o, none⟩ v) ∧ Blk (w.setCell ⟨b, o, none⟩ v) b e (cs.set o v) := ⟨Fr.setCell w ⟨b, o, none⟩ v, hB.set v⟩

section
variable {P : Program} {r : Option Nat} {N : Nat} {ops : Array Oper} {Q : Post} {ρ0 : Env} {ds : List Deferred} {w0 : World}
end
section
variable {P : Program} {r : Option Nat} {N : Nat} {Q : Post} {ρ0 : Env} {ds : List Deferred} {w0 : World} {l : List Oper}
end

section
variable {P : Program} {r : Option Nat} {N : Nat} {ops : Array Oper} {Q : Post} {ρ0 : Env} {ds : List Deferred} {w0 : World}
/-- What is asked of one operation that may panic. -/
def OneOpP (P : Program) (r : Option Nat) (N : Nat) (ops : Array Oper) (ds : List Deferred) (o : Oper) (ρ : Env) (w : World) (Q : Post) (R : Value → World → Prop) : Prop :=
  EO P r N ops (fun e ρ' ds' w' => (e = .normal ∧ ds' = ds ∧ ∃ v, ρ' = put ρ o.dst v ∧ R v w') ∨ (∃ c, e = .panic c ∧ Q e ρ' ds' w')) [o] ρ ds w
theorem OneOp.toP {o:Oper} {ρ:Env} {w:World} {R:Value→World→Prop} (h:OneOp P r N ops ds o ρ w R):OneOpP P r N ops ds o ρ w Q R:=eo_mono h fun _ _ _ _ h=>.inl h
theorem St.stepGP {Γ:Type} {A:List (List Nat)} {T:List Nat} {S:Nat→Value→World→Prop} {S':Γ→Nat→Value→World→Prop} {I:Nat→World→Prop} {I':Γ→Nat→World→Prop} {LL:List Nat} {Y:Γ→World→Prop}
  (hA:okA ops A=true) (hO:onceB ops=true) (hT:chainB A T=true) (hN:T.Nodup)
  {K:Act→World→Prop} {listed:Array Bool} {a:Act} {w:World} (hs:St ops A T S I LL N ρ0 ds w0 listed a w) {i:Nat} (hi:i∈Region.ready .any ops listed)
  (hqu:∀ (o:Oper) (k:Nat),ops[i]?=some o→i∉T→(∀ t,T.head?=some t→(A.getD t []).elem i=true→Ext w0 w)→(∀ j∈A.getD i [],∀ t,dstOf ops j=some t→S j (envOf a t) w)→(∀ t,oldB ops A i t=true→envOf a t=ρ0 t)→I k w→(∀ m x,T[m]?=some x→(listed.getD x false=true↔m<k)) →
   OneOp P r N ops ds o (envOf a) w (fun v w'=>∃ γ,Ext w w'∧(∀ j u,j≠i→listed.getD j false=true→S j u w→S' γ j u w')∧S' γ i v w'∧I' γ k w'∧Y γ w'))
  (hta:∀ (k:Nat) (o:Oper),T[k]?=some i→ops[i]?=some o→(k=0→Ext w0 w)→I k w→(∀ j∈A.getD i [],∀ t,dstOf ops j=some t→S j (envOf a t) w)→(∀ t,oldB ops A i t=true→envOf a t=ρ0 t) →
   OneOpP P r N ops ds o (envOf a) w Q (fun v w'=>∃ γ,Fr LL w0 w'∧I' γ (k + 1) w'∧(∀ j u,j≠i→i∉A.getD j []→S j u w→S' γ j u w')∧S' γ i v w'∧Y γ w'))
  (hd:∀ (i:Nat) (o:Oper),ops[i]?=some o→okd N o.dst=true)
  (hK:∀ γ a' w',St ops A T (S' γ) (I' γ) LL N ρ0 ds w0 (listed.setIfInBounds i true) a' w'→Y γ w'→K a' w'):wpOpIn (FW r) 0 P ops (lift N Q) i K a w:=by
 obtain ⟨hnl,o,ho,hall⟩:=mem_ready' hs.len hi
 have hlt:i<ops.size:=(Array.getElem?_eq_some_iff.1 ho).1
 have hanc:∀ j∈A.getD i [],listed.getD j false=true:=fun j hj=>by
  obtain ⟨e,he,hb,h⟩:=okA_spec hA ho hj
  rcases h with rfl | h
  ·exact hall e he hb
  ·exact hs.clo _ (hall e he hb) j h
 have hold:∀ t,oldB ops A i t=true→envOf a t=ρ0 t:=fun t ht=>hs.env t fun j hj=>by
  have hjlt:j<ops.size:=by
   unfold dstOf at hj
   cases hoj:ops[j]? with
   | none=>rw [hoj] at hj; cases hj
   | some o=>exact (Array.getElem?_eq_some_iff.1 hoj).1
  have h1:=List.all_eq_true.1 ht j (by simp [hjlt])
  simp only [Bool.or_eq_true,bne_iff_ne,ne_eq,beq_iff_eq,List.contains_iff_mem,hj,not_true_eq_false,false_or] at h1
  rcases h1 with rfl | h1
  ·exact hnl
  ·cases hl:listed.getD j false with
   | false=>rfl
   | true=>exact absurd (hs.clo j hl i h1) (by rw [hnl]; simp)
 have hanc':∀ j∈A.getD i [],∀ t,dstOf ops j=some t→S j (envOf a t) w:=fun j hj t ht=>hs.spec j t (hanc j hj) ht
 obtain ⟨k,hk,hIk,hTk⟩:=hs.tail
 -- the operation,once
 have fin:∀ (R:Value→World→Prop),OneOpP P r N ops ds o (envOf a) w Q R →
   (∀ a' w' v,a'.tmps.size=N→a'.defers=ds→envOf a'=put (envOf a) o.dst v→R v w'→∃ γ,St ops A T (S' γ) (I' γ) LL N ρ0 ds w0 (listed.setIfInBounds i true) a' w'∧Y γ w')→wpOpIn (FW r) 0 P ops (lift N Q) i K a w:=by
  intro R hone hcont
  have h:=hone a hs.size rfl hs.dsz
  unfold wpOpIn
  simp only [ho]
  unfold wpListIn at h
  split
  ·rename_i hw
   rw [if_pos hw] at h
   -- the rest of the list is empty
   have conv:∀ a' w',wpListIn (FW r) 0 P ops (lift N (fun e ρ' ds' w'=>(e=.normal∧ds'=ds∧∃ v,ρ'=put (envOf a) o.dst v∧R v w')∨(∃ c,e=.panic c∧Q e ρ' ds' w'))) [] a' w'→K a' w':=by
    rintro a' w' ⟨h1,⟨_,h2,v,h3,h4⟩ | ⟨c,hc,_⟩⟩
    ·obtain ⟨γ,h5,h6⟩:=hcont a' w' v h1 h2 h3 h4
     exact hK γ _ _ h5 h6
    ·cases hc
   unfold Oper.wpIn at h ⊢
   refine ⟨h.1,?_⟩
   have h2:=h.2
   generalize (o.semAt (FW r).round a.eval).run P w=x at h2 ⊢
   cases x with
   | ok nx w1 =>
    cases nx <;> simp only [Oper.uponIn] at h2 ⊢ <;>
     first
      | exact conv _ _ h2
      | exact ⟨h2.1,CallsIn.mono h2.2 (fun e w'' he=>by
        cases e with
        | returned v=>exact conv _ _ he
        | panicked c=>exact ⟨he.1,he.2.elim (fun h=>absurd h.1 (by simp)) (fun ⟨_,_,q⟩=>q)⟩
        | outgrown=>obtain ⟨_,_,_,hh⟩:=he; rcases hh with ⟨hh,_⟩ | ⟨_,hh,_⟩ <;> cases hh)⟩
      | exact ⟨h2.1,RowsIn.mono h2.2 (fun _ _ he=>conv _ _ he)⟩
      | exact ⟨h2.1,RoundIn.mono h2.2 (fun e w'' he=>by
        cases e with
        | returned v=>exact conv _ _ he
        | panicked c=>exact ⟨he.1,he.2.elim (fun h=>absurd h.1 (by simp)) (fun ⟨_,_,q⟩=>q)⟩
        | outgrown=>obtain ⟨_,_,_,hh⟩:=he; rcases hh with ⟨hh,_⟩ | ⟨_,hh,_⟩ <;> cases hh)⟩
   | halt x w1 =>
    cases x <;> simp only [Oper.uponIn] at h2 ⊢
    exact ⟨h2.1,h2.2.elim (fun h=>absurd h.1 (by simp)) (fun ⟨_,_,q⟩=>q)⟩
  ·rename_i hw
   rw [if_neg hw] at h
   obtain ⟨h0,h1,⟨_,h2,v,h3,h4⟩ | ⟨c,hc,_⟩⟩:=h
   ·obtain ⟨γ,h5,h6⟩:=hcont _ w v h1 h2 h3 h4
    exact ⟨h0,hK γ _ _ h5 h6⟩
   ·cases hc
 -- what is kept
 have mk:∀ γ a' w' v,a'.tmps.size=N→a'.defers=ds→envOf a'=put (envOf a) o.dst v→Fr LL w0 w'→((∀ x,T.head?=some x→(listed.setIfInBounds i true).getD x false=false)→Ext w0 w')→(∀ j u,j≠i→listed.getD j false=true→S j u w→S' γ j u w')→S' γ i v w'→(∃ k,k≤T.length∧I' γ k w'∧(∀ m x,T[m]?=some x→((listed.setIfInBounds i true).getD x false=true↔m<k))) →
   St ops A T (S' γ) (I' γ) LL N ρ0 ds w0 (listed.setIfInBounds i true) a' w':=by
  intro γ a' w' v h1 h2 h3 h4 hxt hpres h5 h6
  have hdi:dstOf ops i=o.dst:=by simp [dstOf,ho]
  refine ⟨h1,h2,by simp [hs.len],h4,hxt,?_,?_,?_,h6⟩
  ·intro t ht
   rw [h3]
   have hne:o.dst≠some t:=fun e=>by
    have:=ht i (by rw [hdi,e])
    rw [getD_set_self (by rw [hs.len]; exact hlt)] at this; cases this
   have:put (envOf a) o.dst v t=envOf a t:=by
    cases hod:o.dst with
    | none=>rfl
    | some d=>exact upd_ne _ _ (fun e=>hne (by rw [hod,e]))
   rw [this]
   refine hs.env t fun j hj=>?_
   have hji:j≠i:=fun e=>hne (by rw [← hdi,← e]; exact hj)
   rw [← getD_set_other hji]; exact ht j hj
  ·intro j hj x hx
   by_cases hji:j=i
   ·subst hji
    have h7:=hanc x hx
    by_cases hxi:x=j
    ·subst hxi; exact hj
    ·rw [getD_set_other hxi]; exact h7
   ·rw [getD_set_other hji] at hj
    have h7:=hs.clo j hj x hx
    by_cases hxi:x=i
    ·subst hxi; exact getD_set_self (by rw [hs.len]; exact hlt)
    ·rw [getD_set_other hxi]; exact h7
  ·intro j t hj ht
   rw [h3]
   by_cases hji:j=i
   ·subst hji
    rw [hdi] at ht
    rw [ht]
    show S' γ j (upd _ t v t) w'
    rw [upd_same]; exact h5
   ·rw [getD_set_other hji] at hj
    have hne:o.dst≠some t:=fun e=>hji (onceB_spec hO ht (by rw [hdi,e]))
    have:put (envOf a) o.dst v t=envOf a t:=by
     cases hod:o.dst with
     | none=>rfl
     | some d=>exact upd_ne _ _ (fun e=>hne (by rw [hod,e]))
    rw [this]
    exact hpres _ _ hji hj (hs.spec j t hj ht)
 by_cases hiT:i∈T
 ·obtain ⟨m,hm,hmi⟩:=List.getElem_of_mem hiT
  have hmi':T[m]?=some i:=by rw [List.getElem?_eq_getElem hm,hmi]
  have hmk:¬ m<k:=fun h=>by rw [(hTk m i hmi').2 h] at hnl; cases hnl
  have hmk':m=k:=by
   rcases Nat.lt_or_ge k m with h | h
   · -- T[k] is before i and is listed: against k
    have step:∀ n,k≤n→n<m→∀ x,T[n]?=some x→listed.getD x false=true:=by
     intro n hn hnm
     -- downwards from m
     have:∀ d n,n + d + 1=m→∀ x,T[n]?=some x→listed.getD x false=true:=by
      intro d
      induction d with
      | zero =>
       intro n hn x hx
       exact hanc x (chainB_spec hT n x i hx (by rw [show n + 1=m by omega]; exact hmi'))
      | succ d ih =>
       intro n hn x hx
       have hlt':n + 1<T.length:=by omega
       have hy:T[n + 1]?=some T[n + 1]:=List.getElem?_eq_getElem hlt'
       exact hs.clo _ (ih (n + 1) (by omega) _ hy) x (chainB_spec hT n x _ hx hy)
     exact this (m - n - 1) n (by omega)
    have hklt:k<T.length:=by omega
    have hx:T[k]?=some T[k]:=List.getElem?_eq_getElem hklt
    have:=(hTk k _ hx).1 (step k (Nat.le_refl _) h _ hx)
    omega
   ·omega
  subst hmk'
  refine fin _ (hta m o hmi' ho (fun e=>hs.ext fun x hx=>by
   subst e
   cases T with
   | nil=>cases hx
   | cons y T=>simp at hx hmi'; subst hx; subst hmi'; exact hnl) hIk hanc' hold) fun a' w' v h1 h2 h3 ⟨γ,h4,h5,hp,h6,hy⟩=>⟨γ,mk γ a' w' v h1 h2 h3 h4 (fun hx=>(by
   exfalso
   cases T with
   | nil=>simp at hmi'
   | cons y T =>
    have h7:=hx y rfl
    cases m with
    | zero=>simp at hmi'; subst hmi'; rw [getD_set_self (by rw [hs.len]; exact hlt)] at h7; cases h7
    | succ m =>
     have h8:=(hTk 0 y rfl).2 (by omega)
     by_cases hyi:y=i
     ·subst hyi; rw [hnl] at h8; cases h8
     ·rw [getD_set_other hyi,h8] at h7; cases h7)) (fun j u hj hl=>hp j u hj (fun hm=>by rw [hs.clo j hl i hm] at hnl; cases hnl)) h6 ⟨m + 1,by omega,h5,fun n x hx=>?_⟩,hy⟩
  by_cases hxi:x=i
  ·subst hxi
   rw [getD_set_self (by rw [hs.len]; exact hlt)]
   have hn:n=m:=by
    have hnlt:n<T.length:=(List.getElem?_eq_some_iff.1 hx).1
    exact (List.getElem_inj hN).1 (by rw [hmi]; exact (List.getElem?_eq_some_iff.1 hx).2)
   simp [hn]
  ·rw [getD_set_other hxi,hTk n x hx]
   have hn:n≠m:=fun e=>hxi (by subst e; rw [hmi'] at hx; cases hx; rfl)
   omega
 ·refine fin _ (OneOp.toP (hqu o k ho hiT (fun t ht he=>hs.ext fun x hx=>by
   rw [hx] at ht; cases ht
   cases hl:listed.getD t false with
   | false=>rfl
   | true=>rw [hs.clo t hl i (by simpa using he)] at hnl; cases hnl) hanc' hold hIk hTk)) fun a' w' v h1 h2 h3 ⟨γ,h4,hp,h5,h6,hy⟩=>⟨γ,mk γ a' w' v h1 h2 h3 (hs.rel.trans (Fr.ext h4)) (fun hx=>(hs.ext fun x hxx=>(by
   have h7:=hx x hxx
   have hxi:x≠i:=fun e=>hiT (by rw [← e]; cases T with
    | nil=>cases hxx
    | cons y T=>simp at hxx; subst hxx; simp)
   rwa [getD_set_other hxi] at h7)).trans h4) hp h5 ⟨k,hk,h6,fun n x hx=>?_⟩,hy⟩
  have hxi:x≠i:=fun e=>hiT (e ▸ List.mem_of_getElem? hx)
  rw [getD_set_other hxi]; exact hTk n x hx

end
section
variable {P : Program} {r : Option Nat} {N : Nat} {ops : Array Oper} {Q : Post} {ρ0 : Env} {ds : List Deferred} {w0 : World}
theorem stepIP {A:List (List Nat)} {T:List Nat} {S:Nat→Value→World→Prop} {I:Nat→World→Prop} {LL:List Nat} {M:Nat→List Nat}
  (hA:okA ops A=true) (hO:onceB ops=true) (hT:chainB A T=true) (hN:T.Nodup)
  (hS:∀ i v w w',Ext w w'→S i v w→S i v w') (hM:∀ k,∀ m∈M k,m∈LL) (hS2:∀ k x i v w w',T[k]?=some x→i≠x→x∉A.getD i []→Fr (M k) w w'→S i v w→S i v w') (hI:∀ k w w',Ext w w'→I k w→I k w')
  (hqu:∀ (i:Nat) (o:Oper),ops[i]?=some o→i∉T→∀ ρ w,Fr LL w0 w→(∀ t,T.head?=some t→(A.getD t []).elem i=true→Ext w0 w)→(∀ j∈A.getD i [],∀ t,dstOf ops j=some t→S j (ρ t) w)→(∀ t,oldB ops A i t=true→ρ t=ρ0 t)→(∃ k,I k w∧∀ m x,T[m]?=some x→(A.getD x []).elem i=true→k≤m)→
   OneOp P r N ops ds o ρ w (fun v w'=>Ext w w'∧S i v w'))
  (hta:∀ (k i:Nat) (o:Oper),T[k]?=some i→ops[i]?=some o→∀ ρ w,Fr LL w0 w→(k=0→Ext w0 w)→I k w→(∀ j∈A.getD i [],∀ t,dstOf ops j=some t→S j (ρ t) w)→(∀ t,oldB ops A i t=true→ρ t=ρ0 t) →
   OneOpP P r N ops ds o ρ w Q (fun v w'=>Fr (M k) w w'∧I (k + 1) w'∧S i v w'))
  {K:Act→World→Prop} {listed:Array Bool} {a:Act} {w:World} (hs:St ops A T S I LL N ρ0 ds w0 listed a w) {i:Nat} (hi:i∈Region.ready .any ops listed)
  (hd:∀ (i:Nat) (o:Oper),ops[i]?=some o→okd N o.dst=true)
  (hK:∀ a' w',St ops A T S I LL N ρ0 ds w0 (listed.setIfInBounds i true) a' w'→K a' w'):wpOpIn (FW r) 0 P ops (lift N Q) i K a w:=by
 obtain ⟨hnl,_,_,_⟩:=mem_ready' hs.len hi
 refine St.stepGP (Γ:=Unit) (S':=fun _=>S) (I':=fun _=>I) (Y:=fun _ _=>True) hA hO hT hN hs hi ?_ ?_ hd (fun _ a' w' hst _=>hK a' w' hst)
 ·intro o k ho hiT h1 h2 h3 hIk hTk
  refine eo_mono (hqu i o ho hiT _ w hs.rel h1 h2 h3 ⟨k,hIk,fun m x hmx hxi=>Nat.le_of_not_lt fun hlt=>?_⟩) ?_
  ·have:=hs.clo x ((hTk m x hmx).2 hlt) i (by simpa using hxi)
   rw [hnl] at this; cases this
  ·rintro e ρ' ds' w' ⟨rfl,rfl,v,rfl,h1,h4⟩
   exact ⟨rfl,rfl,v,rfl,(),h1,fun j u _ _ hsj=>hS j u w w' h1 hsj,h4,hI k w w' h1 hIk,trivial⟩
 ·intro k o hk ho h1 hIk h2 h3
  refine eo_mono (hta k i o hk ho _ w hs.rel h1 hIk h2 h3) ?_
  rintro e ρ' ds' w' (⟨rfl,rfl,v,rfl,h1,h4,h5⟩ | h)
  ·exact .inl ⟨rfl,rfl,v,rfl,(),hs.rel.trans (h1.mono (hM k)),h4,fun j u hj hja hsj=>hS2 k i j u w w' hk hj hja h1 hsj,h5,trivial⟩
  ·exact .inr h
theorem ec_anyIP {id:Nat} (hm:P.follows .mixedOrders=true) (A:List (List Nat)) (T:List Nat) (S:Nat→Value→World→Prop) (I:Nat→World→Prop) (LL:List Nat) (M:Nat→List Nat)
  (hc:(okA ops A&&onceB ops&&chainB A T&&backB ops&&decide T.Nodup&&T.all (fun i=>decide (i<ops.size))&&(List.range ops.size).all fun i=>okd N (dstOf ops i))=true)
  (hS:∀ i v w w',Ext w w'→S i v w→S i v w') (hM:∀ k,∀ m∈M k,m∈LL) (hS2:∀ k x i v w w',T[k]?=some x→i≠x→x∉A.getD i []→Fr (M k) w w'→S i v w→S i v w') (hI:∀ k w w',Ext w w'→I k w→I k w')
  (hI0:∀ w,Ext w0 w→I 0 w)
  (hqu:∀ (i:Nat) (o:Oper),ops[i]?=some o→i∉T→∀ ρ w,Fr LL w0 w→(∀ t,T.head?=some t→(A.getD t []).elem i=true→Ext w0 w)→(∀ j∈A.getD i [],∀ t,dstOf ops j=some t→S j (ρ t) w)→(∀ t,oldB ops A i t=true→ρ t=ρ0 t)→(∃ k,I k w∧∀ m x,T[m]?=some x→(A.getD x []).elem i=true→k≤m)→
   OneOp P r N ops ds o ρ w (fun v w'=>Ext w w'∧S i v w'))
  (hta:∀ (k i:Nat) (o:Oper),T[k]?=some i→ops[i]?=some o→∀ ρ w,Fr LL w0 w→(k=0→Ext w0 w)→I k w→(∀ j∈A.getD i [],∀ t,dstOf ops j=some t→S j (ρ t) w)→(∀ t,oldB ops A i t=true→ρ t=ρ0 t) →
   OneOpP P r N ops ds o ρ w Q (fun v w'=>Fr (M k) w w'∧I (k + 1) w'∧S i v w'))
  (hend:∀ ρ w,Fr LL w0 w→I T.length w→(∀ i t,dstOf ops i=some t→S i (ρ t) w)→(∀ t,((List.range ops.size).all fun j=>dstOf ops j != some t)=true→ρ t=ρ0 t)→Q .normal ρ ds w) :
  EC P r N (.region id ops true) Q ρ0 ds w0:=by
 simp only [Bool.and_eq_true,decide_eq_true_eq] at hc
 obtain ⟨⟨⟨⟨⟨⟨hA,hO⟩,hT⟩,hB⟩,hN⟩,hTin⟩,hdd⟩:=hc
 have hd:∀ (i:Nat) (o:Oper),ops[i]?=some o→okd N o.dst=true:=fun i o ho=>by
  have hlt:i<ops.size:=(Array.getElem?_eq_some_iff.1 ho).1
  have:=List.all_eq_true.1 hdd i (by simp [hlt])
  simpa [dstOf,ho] using this
 intro a h1 h2 h3
 have hdrew:Ext w0 { w0 with drawn:=w0.drawn + 1 }:=Ext.drew w0
 refine wpIn_region_any hm (any_of_st (A:=A) (T:=T) (S:=S) (I:=I) (LL:=LL) (ρ0:=ρ0) (ds:=ds) (w0:=w0)
  (fun K listed a w hs i hi hK=>stepIP hA hO hT hN hS hM hS2 hI hqu hta hs hi hd hK) ?_ _ _ _ _ ?_ ?_)
 ·intro listed a w hr hs
  have hall:=all_listed hB hs.len hr
  have hin:∀ i t,dstOf ops i=some t→listed.getD i false=true:=fun i t ht=>hall i (by
   unfold dstOf at ht
   cases ho:ops[i]? with
   | none=>rw [ho] at ht; cases ht
   | some o=>exact (Array.getElem?_eq_some_iff.1 ho).1)
  refine ⟨hs.size,by
   rw [hs.dsz]
   refine hend _ _ hs.rel ?_ (fun i t ht=>hs.spec i t (hin i t ht) ht) (fun t ht=>hs.env t fun j hj=>?_)
   ·obtain ⟨k,hk,hIk,hTk⟩:=hs.tail
    have:k=T.length:=by
     rcases Nat.lt_or_ge k T.length with hlt | hge
     ·exfalso
      have hx:T[k]?=some T[k]:=List.getElem?_eq_getElem hlt
      have hy:listed.getD T[k] false=true:=hall _ (by simpa using List.all_eq_true.1 hTin T[k] (List.getElem_mem hlt))
      have:=(hTk k _ hx).1 hy
      omega
     ·omega
    rw [← this]; exact hIk
   ·have h5:=List.all_eq_true.1 ht j (by
     have:j<ops.size:=by
      unfold dstOf at hj
      cases ho:ops[j]? with
      | none=>rw [ho] at hj; cases hj
      | some o=>exact (Array.getElem?_eq_some_iff.1 ho).1
     simp [this])
    rw [hj] at h5; simp at h5⟩
 ·exact Nat.le_trans (List.length_filter_le _ _) (by simp)
 ·have hrep:∀ i,(Array.replicate ops.size false).getD i false=false:=fun i=>by
   simp only [Array.getD_eq_getD_getElem?,Array.getElem?_replicate]
   split <;> rfl
  exact ⟨h1,h3,by simp,(Fr.ext hdrew),(fun _=>hdrew),fun t _=>by rw [h2],(fun i hi=>(by rw [hrep] at hi; cases hi)),(fun i t hi=>(by rw [hrep] at hi; cases hi)),⟨0,Nat.zero_le _,hI0 _ hdrew,(fun m x hx=>(by rw [hrep]; simp))⟩⟩
end
section
variable {P : Program} {r : Option Nat} {N : Nat} {Q : Post} {ρ0 : Env} {ds : List Deferred} {w0 : World} {l : List Oper}
theorem ec_anyNIP {id:Nat} (hm:P.follows .mixedOrders=true) (A:List (List Nat)) (D LL T:List Nat) (ML sks:List (List Nat)) (IL:List (World→Prop)) (SL:List (Value→World→Prop))
  (hc:(chk l.toArray A T D N&&skipsB A l.length T sks&&Nat.beq SL.length l.length&&Nat.beq ML.length T.length)=true) (hML:∀ M∈ML,∀ m∈M,m∈LL)
  (hS:StL Ext [] SL 0) (hS2:StA SL ML sks) (hI:AllI IL) (hI0:getI IL 0 w0)
  (hops:AllOps (fun i o=>T.elem i=false→∀ ρ w,Fr LL w0 w→(∀ t,T.head?=some t→(A.getD t []).elem i=true→Ext w0 w)→(∀ j∈A.getD i [],∀ t,dstOf l.toArray j=some t→getS SL j (ρ t) w)→(∀ t,oldB l.toArray A i t=true→ρ t=ρ0 t)→(∃ k,getI IL k w∧∀ m x,T[m]?=some x→(A.getD x []).elem i=true→k≤m)→OneOp P r N l.toArray ds o ρ w (fun v w'=>Ext w w'∧getS SL i v w')) l 0)
  (hta:AllT l (fun k i o=>∀ ρ w,Fr LL w0 w→(k=0→Ext w0 w)→getI IL k w→(∀ j∈A.getD i [],∀ u,dstOf l.toArray j=some u→getS SL j (ρ u) w)→(∀ u,oldB l.toArray A i u=true→ρ u=ρ0 u)→OneOpP P r N l.toArray ds o ρ w Q (fun v w'=>Fr (ML.getD k []) w w'∧getI IL (k + 1) w'∧getS SL i v w')) T 0)
  (hend:∀ ρ w,Fr LL w0 w→getI IL T.length w→(∀ i t,dstOf l.toArray i=some t→getS SL i (ρ t) w)→(∀ t,D.elem t=false→ρ t=ρ0 t)→Q .normal ρ ds w):EC P r N (.region id l.toArray true) Q ρ0 ds w0:=by
 simp only [chk,Bool.and_eq_true] at hc
 obtain ⟨⟨⟨⟨hc1,hc2⟩,hc3⟩,hc4⟩,hc5⟩:=hc
 have hlen:=Nat.eq_of_beq_eq_true hc4
 have hlen2:=Nat.eq_of_beq_eq_true hc5
 refine ec_anyIP hm A T (getS SL) (getI IL) LL (fun k=>ML.getD k []) (by simpa only [Bool.and_eq_true] using hc1) (fun i v w w' f h=>stL_spec hS i rfl v w w' f h) (fun k m hm=>?_) (fun k x i v w w' hx hi ha f h=>?_) (fun k w w' f h=>allI_spec hI k w w' f h) (fun w f=>allI_spec hI 0 w0 w f hI0) ?_ ?_ ?_
 ·by_cases hk:k<ML.length
  ·refine hML (ML.getD k []) ?_ m hm
   simp [List.getD_eq_getElem?_getD,hk]
  ·simp [List.getD_eq_getElem?_getD,List.getElem?_eq_none (Nat.le_of_not_lt hk)] at hm
 ·by_cases hlt:i<l.length
  ·have hk:k<ML.length:=by rw [hlen2]; exact (List.getElem?_eq_some_iff.1 hx).1
   refine stL_spec (stA_spec hS2 k hk) i ?_ v w w' f h
   have h1:=List.all_eq_true.1 (skipsB_spec hc3 k x hx) i (by simp [hlt])
   simp only [Bool.or_eq_true,Bool.not_eq_true',beq_iff_eq] at h1
   rcases h1 with (h1 | h1) | h1
   ·simpa using h1
   ·exact absurd h1 hi
   ·exact absurd (by simpa using h1) ha
  ·simp [getS,List.getD_eq_getElem?_getD,List.getElem?_eq_none (show SL.length≤i by omega)]
 ·intro i o ho hi ρ w f h0 h1 h2
  have:=allOps_spec hops i o (by simpa using ho) (by simpa using hi) ρ w f (by rw [Nat.zero_add]; exact h0) (by simpa using h1) (by simpa using h2)
  simpa using this
 ·intro k i o hk ho ρ w f h0 hi h1 h2
  have:=allT_spec hta k i o hk (by simpa using ho) ρ w f (by simpa using h0) (by simpa using hi) h1 h2
  simpa using this
 ·intro ρ w f hi h1 h2
  exact hend ρ w f hi h1 (fun t ht=>h2 t (dIn_spec hc2 ht))
end

section
variable {P : Program} {r : Option Nat} {N : Nat} {Q : Post} {ρ : Env} {ds : List Deferred} {w : World}
end

section
variable {P : Program} {r : Option Nat} {N : Nat} {ops : Array Oper} {Q : Post}
end

section
variable {P : Program} {r : Option Nat} {N : Nat} {ops : Array Oper} {Q : Post} {rest : List Oper} {ρ : Env} {ds : List Deferred} {w : World} {d : Option Nat} {d0 : Nat} {ty : TypeId} {pos : String} {after : Array Edge} {g : Option (Nat × Bool)}
end

section
variable {P : Program} {r : Option Nat} {N : Nat} {Q : Post} {ρ0 : Env} {ds : List Deferred} {w0 : World} {l : List Oper}
structure PI (ops:Array Oper) (A:List (List Nat)) (m:Nat) (S:Nat→Value→World→Prop) (ρ0:Env) (w0:World) (listed:Array Bool) (ρ:Env) (w:World):Prop where
 len:listed.size=ops.size
 rel:Ext w0 w
 late:∀ i,m≤i→listed.getD i false=false
 env:∀ t,(∀ j,dstOf ops j=some t→listed.getD j false=false)→ρ t=ρ0 t
 clo:∀ i,listed.getD i false=true→∀ j∈A.getD i [],listed.getD j false=true
 spec:∀ i t,listed.getD i false=true→dstOf ops i=some t→S i (ρ t) w
end
end Go.Proofs.YtdfjbkoimpjkaaaGreat