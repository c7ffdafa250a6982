import Derived.Test.YthbfhgenkhkpfaaGreatWe
import Derived.MapKept
import Derived.Laws.BytesString
import Derived.Lib.AppendStr
import Derived.Lib.Builder
import Derived.Laws.Externs
import Derived.RecoverIn
import Derived.Laws.LoneSync
namespace Go.Proofs.YthbfhgenkhkpfaaGreat
open Go Go.RowKit
set_option linter.unusedVariables false
set_option linter.unusedSimpArgs false

/-! ### maps -/
def mEnts {T:Type} (k:IntKind) (enc:T→Value):List (Int × T)→Nat→List MapEntry
 | [],_=>[]
 | x::l,i=>⟨.int k x.1,enc x.2,i⟩::mEnts k enc l (i + 1)
def mObj {T:Type} (k:IntKind) (enc:T→Value) (l:List (Int × T)):Obj:=.map (mEnts k enc l 0).toArray l.length
def hasM {T:Type}:List (Int × T)→Int→Bool
 | [],_=>false
 | x::l,n=>n==x.1||hasM l n
def getM {T:Type} (z:T):List (Int × T)→Int→T
 | [],_=>z
 | x::l,n=>bif n==x.1 then x.2 else getM z l n
def Mp (P:Program) (T K E:TypeId) (k:IntKind):Prop:=P.underlying T=some (.map K E)∧P.underlying K=some (.int k)
theorem findNow_m {T:Type} {k k':IntKind} {enc:T→Value} {z:T} {n:Int}:∀ (l:List (Int × T)) (i j:Nat),
  (hasM l n=true→∃ j',Instr.findNow (.int k') (.int k n) (mEnts k enc l i) j=some (some (j',enc (getM z l n))))∧(hasM l n=false→Instr.findNow (.int k') (.int k n) (mEnts k enc l i) j=some none∧getM z l n=z)
 | [],i,j=>by
  refine ⟨fun h=>?_,fun _=>⟨rfl,rfl⟩⟩
  cases h
 | x::l,i,j=>by
  have ih:=findNow_m (enc:=enc) (k:=k) (k':=k') (z:=z) (n:=n) l (i + 1) (j + 1)
  unfold mEnts Instr.findNow Instr.sameNow hasM getM
  simp only [if_true]
  cases hx:(n==x.1) with
  | true=>simp
  | false=>simpa using ih
theorem mEnts_app {T:Type} {k:IntKind} {enc:T→Value} (x:Int × T):∀ (l:List (Int × T)) (i:Nat),mEnts k enc (l++[x]) i=mEnts k enc l i++[⟨.int k x.1,enc x.2,i + l.length⟩]
 | [],i=>rfl
 | y::l,i=>by
  simp only [List.cons_append,mEnts,mEnts_app x l (i + 1),List.length_cons]
  rw [show i + 1 + l.length=i + (l.length + 1) by omega]
section maps
variable {P : Program} {r : Option Nat} {N : Nat} {ops : Array Oper} {Q : Post} {rest : List Oper} {ρ : Env} {ds : List Deferred} {w : World}
variable {ty : TypeId} {pos : String} {after : Array Edge} {g : Option (Nat × Bool)}
theorem run_lookupM {T:Type} {t K E:TypeId} {k:IntKind} {enc:T→Value} {l:List (Int × T)} {z:T} {b:Nat} {n:Int} {ok:Bool} (hT:Mp P t K E k) (hz:Zero P E (enc z)) (hL:Lp w b (mObj k enc l)) :
  (Instr.lookup t (.map (some b)) (.int k n) ok).run P w=.ok (if ok=true then .tuple #[enc (getM z l n),.bool (hasM l n)] else enc (getM z l n)) w:=by
 obtain ⟨h1,h2⟩:=hT
 obtain ⟨i,h3,h4⟩:=hz
 have hg:=MapKept.run_getObj_map (P:=P) (w:=w) (r:=b) hL
 have hck:=MapKept.run_checkKey (P:=P) (w:=w) (kt:=K) (d:=.int k) (k:=.int k n) h2 (by simp [MapKept.IsKey])
 have hf:=findNow_m (enc:=enc) (k:=k) (k':=k) (z:=z) (n:=n) l 0 0
 have hzr:(zeroValue E).run P w=.ok (enc z) w:=by simp [zeroValue,typeInfo,h3,h4,program,Sem.run,Result.andThen]
 unfold Instr.lookup
 cases hh:hasM l n with
 | true =>
  obtain ⟨j,hj⟩:=hf.1 hh
  have hfk:=MapKept.run_findKey (P:=P) (w:=w) h2 hj
  simp only [Sem.run_bind,run_underlying h1,Result.andThen_ok,hg,hck,hfk,Sem.run_pure]
 | false =>
  obtain ⟨hj,hgz⟩:=hf.2 hh
  have hfk:=MapKept.run_findKey (P:=P) (w:=w) h2 hj
  simp only [Sem.run_bind,run_underlying h1,Result.andThen_ok,hg,hck,hfk,Sem.run_pure,hzr,hgz]
theorem r_lookupV {d:Option Nat} {T:Type} {t K E:TypeId} {k:IntKind} {enc:T→Value} {l:List (Int × T)} {z:T} {b:Nat} {n:Int} {X I:Operand} {v:Value} (hT:Mp P t K E k) (hz:Zero P E (enc z)) (hL:Lp w b (mObj k enc l)) (hX:ev ρ X=.map (some b)) (hI:ev ρ I=.int k n) (hv:enc (getM z l n)=v) :
  RunV P ρ w ⟨d,.lookup t X I false,ty,pos,after,g⟩ v:=by
 subst hv
 have:=run_lookupM (ok:=false) (n:=n) hT hz hL
 simp [RunV,execOp,hX,hI,this]
theorem o_mkmap {T:Type} {d:Nat} {t:TypeId} {k:IntKind} {enc:T→Value} (hg:wantE ops ρ g=true) (hd:Nat.blt d N=true)
  (h:∀ b w',b=w.heap.size→Ext w w'→Lp w' b (mObj k enc [])→EO P r N ops Q rest (upd ρ d (.map (some b))) ds w') :
  EO P r N ops Q (⟨some d,.makeMap t none,ty,pos,after,g⟩::rest) ρ ds w:=by
 refine eo_val (o:=⟨some d,.makeMap t none,ty,pos,after,g⟩) hg rfl hd ?_ (h w.heap.size (w.alloc (.map #[] 0)) rfl (Ext.alloc _ _) (World.alloc_heap_new w _))
 simp only [execOp,Instr.makeMap]
 rfl
theorem o_insert {T:Type} {t K E:TypeId} {k:IntKind} {enc:T→Value} {l:List (Int × T)} {b:Nat} {n:Int} {x:T} {M I X:Operand} (hT:Mp P t K E k) (hL:Lp w b (mObj k enc l)) (hM:ev ρ M=.map (some b)) (hI:ev ρ I=.int k n) (hX:ev ρ X=enc x)
  (hn:hasM l n=false) (hg:wantE ops ρ g=true) (h:∀ w',Fr [b] w w'→Lp w' b (mObj k enc (l++[(n,x)]))→EO P r N ops Q rest ρ ds w') :
  EO P r N ops Q (⟨none,.insert t M I X,ty,pos,after,g⟩::rest) ρ ds w:=by
 obtain ⟨h1,h2⟩:=hT
 have hgo:=MapKept.run_getObj_map (P:=P) (w:=w) (r:=b) hL
 have hck:=MapKept.run_checkKey (P:=P) (w:=w) (kt:=K) (d:=.int k) (k:=.int k n) h2 (by simp [MapKept.IsKey])
 have hfk:=MapKept.run_findKey (P:=P) (w:=w) h2 ((findNow_m (enc:=enc) (k:=k) (k':=k) (z:=x) (n:=n) l 0 0).2 hn).1
 have hso:=MapKept.run_setObj_map (P:=P) (w:=w) (r:=b) (mObj k enc (l++[(n,x)])) hL
 refine eo_unit (o:=⟨none,.insert t M I X,ty,pos,after,g⟩) hg rfl rfl ?_ (h _ (Fr.putObj w b (mObj k enc (l++[(n,x)]))) (hL.put _))
 have he:(Obj.map ((mEnts k enc l 0).toArray.push ⟨.int k n,enc x,l.length⟩) (l.length + 1))=mObj k enc (l++[(n,x)]):=by
  unfold mObj; rw [mEnts_app]; simp
 simp only [execOp,hM,hI,hX,Instr.mapUpdate,Sem.run_bind,run_underlying h1,Result.andThen_ok,hgo,hck,hfk,he,hso,Sem.run_pure]
 rfl
end maps

/-! ### arrays, by a place -/
/-- The cells of an array. -/
def arC {T : Type} [Inhabited T] (f : T → Value) (m : Nat) (e : List T) : List Value := (List.range m).map fun j : Nat => f (nth e (j : Int))
theorem arC_at {T:Type} [Inhabited T] (f:T→Value) {m:Nat} (e:List T) {i:Int} (h:0≤i∧i<(m:Int)):(arC f m e)[i.toNat]?=some (f (nth e i)):=by
 unfold arC
 have:i.toNat<m:=by omega
 simp only [List.getElem?_map,List.getElem?_range this,Option.map_some]
 rw [Int.toNat_of_nonneg h.1]
theorem arC_set {T:Type} [Inhabited T] (f:T→Value) {m:Nat} (e:List T) {i:Int} (v:T) (h:0≤i∧i<(m:Int)) (he:e.length=m):(arC f m e).set i.toNat (f v)=arC f m (e.set i.toNat v):=by
 apply List.ext_getElem?
 intro j
 unfold arC
 by_cases hj:j<m
 ·by_cases hji:i.toNat=j
  ·subst hji
   simp [hj,nth,he]
  ·simp only [List.getElem?_set_ne hji,List.getElem?_map,List.getElem?_range hj,Option.map_some,nth,Int.toNat_natCast,List.getD_eq_getElem?_getD,List.getElem?_set_ne hji]
 ·rw [List.getElem?_eq_none (by simp; omega),List.getElem?_eq_none (by simp; omega)]
section arrays
variable {P : Program} {r : Option Nat} {N : Nat} {ops : Array Oper} {Q : Post} {rest : List Oper} {ρ : Env} {ds : List Deferred} {w : World} {d : Option Nat}
variable {ty : TypeId} {pos : String} {after : Array Edge} {g : Option (Nat × Bool)}
theorem r_ixA {T:Type} [Inhabited T] {t el:TypeId} {m:Nat} {X I:Operand} {f:T→Value} {e:List T} {k:IntKind} {i:Int} (hT:P.underlying t=some (.array m el)) (h1:One P el) (hs:Sz P el 1) (hX:ev ρ X=.agg (arC f m e).toArray) (hI:ev ρ I=.int k i) (h:0≤i∧i<(m:Int)) :
  RunV P ρ w ⟨d,.index t X I,ty,pos,after,g⟩ (f (nth e i)):=by
 obtain ⟨j,h2,h3⟩:=hs
 have hp:=part1 (P:=P) (t:=el) (cs:=(arC f m e).toArray) (o:=i.toNat) h1 (by simpa using arC_at f e h) w
 simp [RunV,execOp,hX,hI,Instr.index,asIntOf,run_underlying hT,h.1,h.2,sizeOf,typeInfo,h2,h3,hp]
theorem r_iaA {t el:TypeId} {m:Nat} {X I:Operand} {b:Nat} {k:IntKind} {i:Int} (hT:P.underlying t=some (.array m el)) (hs:Sz P el 1) (hX:ev ρ X=.pointer (some ⟨b,0,none⟩)) (hI:ev ρ I=.int k i) (h:0≤i∧i<(m:Int)) :
  RunV P ρ w ⟨d,.indexAddr t X I,ty,pos,after,g⟩ (.pointer (some ⟨b,i.toNat,none⟩)):=by
 obtain ⟨j,h2,h3⟩:=hs
 have hadd:(⟨b,0,none⟩:Addr).add i.toNat=⟨b,i.toNat,none⟩:=by
  unfold Addr.add; split
  ·rename_i h0; simp at h0; simp; omega
  ·simp
 simp [RunV,execOp,hX,hI,Instr.indexAt,asIntOf,Instr.sureAddr,run_underlying hT,sizeOf,typeInfo,h2,h3,h.1,h.2,hadd]
theorem Blk.cellV {T:Type} [Inhabited T] {b:Nat} {e0:TypeId} {f:T→Value} {m:Nat} {e:List T} {i:Int} (hB:Blk w b e0 (arC f m e)) (h:0≤i∧i<(m:Int)):w.cell? ⟨b,i.toNat,none⟩=some (f (nth e i)):=hB.cell (arC_at f e h)
theorem o_storeV {T:Type} [Inhabited T] {t:TypeId} {X Y:Operand} {b:Nat} {e0:TypeId} {f:T→Value} {m:Nat} {e:List T} {i:Int} {v:T} (hX:ev ρ X=.pointer (some ⟨b,i.toNat,none⟩)) (hB:Blk w b e0 (arC f m e)) (h:0≤i∧i<(m:Int)) (he:e.length=m) (hY:ev ρ Y=f v) (hf:∀ v,(f v).cells=#[f v]∧oneC (f v)=true) (hT:Sz P t 1) (hg:wantE ops ρ g=true)
  (hk:∀ w',Fr [b] w w'→Blk w' b e0 (arC f m (e.set i.toNat v))→EO P r N ops Q rest ρ ds w') :
  EO P r N ops Q (⟨none,.store t X Y,ty,pos,after,g⟩::rest) ρ ds w:=by
 refine o_store (vs:=[f v]) (o:=i.toNat) hX hB (by rw [hY]; exact (hf v).1) hT (by simp [(hf v).2]) (by simp [arC]; omega) hg ?_
 intro w' F B
 refine hk w' F ?_
 have:setL (arC f m e) i.toNat [f v]=arC f m (e.set i.toNat v):=by simp only [setL]; exact arC_set f e v h he
 rwa [this] at B
theorem int_one {k:IntKind} (v:Int):(Value.int k v).cells=#[.int k v]∧oneC (Value.int k v)=true:=⟨rfl,rfl⟩
/-! ### bound functions -/
theorem r_mkfb {fn:Fn} {fs cs:List Operand} {us vs:List Value} (h1:fs.map (ev ρ)=us) (h2:cs.map (ev ρ)=vs):RunV P ρ w ⟨d,.makeFunc fn fs.toArray cs.toArray,ty,pos,after,g⟩ (.func fn us.toArray vs.toArray):=by
 subst h1; subst h2
 simp [RunV,execOp,Instr.makeFunc]
theorem o_callb {d:Nat} {f:FuncId} {X:Operand} {as:List Operand} {us vs caps:List Value} {ts:Array TypeId} {post:Value→World→Prop} (hf:CF P f) (hX:ev ρ X=.func (.func f) us.toArray caps.toArray) (ha:as.map (ev ρ)=vs)
  (hc:Calls P f (us++vs++caps).toArray w (Ret post)) (hg:wantE ops ρ g=true) (hd:Nat.blt d N=true) (h:∀ v w',post v w'→EO P r N ops Q rest (upd ρ d v) ds w') :
  EO P r N ops Q (⟨some d,.call { callee:=.value X,args:=as.toArray,argTypes:=ts },ty,pos,after,g⟩::rest) ρ ds w:=by
 refine eo_enter (o:=⟨some d,.call { callee:=.value X,args:=as.toArray,argTypes:=ts },ty,pos,after,g⟩) hg rfl hd ?_ hc
  (fun v w'' ⟨u,e,hp⟩=>by cases e; exact h _ _ hp) (fun c w'' ⟨u,e,hp⟩=>by cases e) (fun w'' ⟨u,e,hp⟩=>by cases e)
 have:=hf (us++vs++caps).toArray w
 simp [execOp,resolve,hX,Deferred.ofValue,invoke,ha] at this ⊢
 exact this
/-! ### bytes as a text -/
def bstr (l:List Int):Str:=l.map fun n=>UInt8.ofNat n.toNat
theorem foldl_bstr:∀ (l:List Int) (s:ByteArray),l.foldl (fun r n=>r.push (UInt8.ofNat n.toNat)) s=⟨s.data++(bstr l).toArray⟩
 | [],s=>by simp [bstr]
 | n::l,s=>by
  simp only [List.foldl_cons,foldl_bstr l]
  apply ByteArray.ext
  simp [bstr,ByteArray.push]
theorem r_bstr {s t e n bytes:Nat} {z:Value} {X:Operand} {A:Option Addr} {c:Nat} {l:List Int} (hs:Slc P s e n bytes z) (he:P.underlying e=some (.int .u8)) (ht:P.underlying t=some .string) (hX:ev ρ X=.slice A l.length c) (hL:SlC (kI .u8) w A c l) :
  RunV P ρ w ⟨d,.convert s t X,ty,pos,after,g⟩ (str (bstr l)):=by
 have h1:=run_convert_bytes_string (P:=P) w s t e A l.length c hs.1 he ht
 have hb:(Conv.bytesToString (.slice A l.length c)).run P w=.ok (str (bstr l)) w:=by
  cases hl:l with
  | nil =>
   cases A with
   | none=>rfl
   | some a=>exact run_bytesToString (P:=P) w a 0 c [] rfl
  | cons x l' =>
   obtain ⟨⟨a,rfl,ha⟩,_⟩:=hL.2 0 (by rw [hl]; simp)
   obtain ⟨b,o,sp⟩:=a
   simp only at ha; subst ha
   have hcell:∀ j v,(l.map (Value.int .u8))[j]?=some v→w.cell? ⟨b,o + 0 + j,none⟩=some v:=fun j v hj=>by
    rw [List.getElem?_map] at hj
    cases hlj:l[j]? with
    | none=>rw [hlj] at hj; cases hj
    | some y =>
     rw [hlj] at hj
     cases hj
     have hlt:j<l.length:=(List.getElem?_eq_some_iff.1 hlj).1
     obtain ⟨_,cs,hcl,hca,hcr⟩:=hL.2 j hlt
     have hcr:cs=_:=hcr
     subst hcr
     have h0:=hca 0 _ rfl
     simp only [ad,elemA,kI] at h0
     have:l.getD j default=y:=by simp [List.getD_eq_getElem?_getD,hlj]
     rw [this] at h0
     rw [show o + 0 + j=o + j * 1 + 0 by omega]
     exact h0
   have hld:(loadCells ⟨b,o,none⟩ l.length).run P w=.ok (l.map (Value.int .u8)).toArray w:=by
    have:=run_loadCells (P:=P) (w:=w) ⟨b,o,none⟩ rfl (l.map (Value.int .u8)) 0 #[] hcell
    simpa [loadCells] using this
   have:=run_bytesToString (P:=P) w ⟨b,o,none⟩ l.length c l hld
   rw [← hl,this,foldl_bstr]
   simp [str]
 rw [hb] at h1
 simp only [RunV,execOp,hX,Sem.run_bind,h1,Result.andThen_ok]
 rfl
end arrays

/-- A text's bytes as numbers. -/
def ints (s : Str) : List Int := s.map fun b => (b.toNat : Int)
theorem ints_length (s:Str):(ints s).length=s.length:=by simp [ints]
theorem strCells_ints (s:Str):Lib.strCells ⟨s.toArray⟩=(ints s).map fun n=>.int .u8 n:=by
 simp [Lib.strCells,ints]
theorem rowD_u8 (w:World) (l:List Int):RowD (kI .u8) w (l.map fun n=>.int .u8 n) l:=by
 intro i hi
 show ((l.map fun n=>Value.int .u8 n).drop (i * 1)).take 1=[.int .u8 (l.getD i default)]
 rw [Nat.mul_one,List.drop_eq_getElem_cons (by simpa using hi)]
 simp [hi]
theorem run_appS {P:Program} {t u ty e B:Nat} {L:List Nat} {w:World} {v:Value} {l:List Int} {z:Value} (hT:Slc P t e 1 1 z) (hz:z=.int .u8 0) (hu:P.underlying u=some .string) (hO:OwnS (kI .u8) B e L w v l) (s:Str)
  (hsz:l.length + s.length≤140737488355328) :
  ∃ v' w',(Builtin.append_ #[t,u] ty #[v,str s]).run P w=.ok v' w'∧OwnS (kI .u8) B e L w' v' (l++ints s)∧Fr (own v) w w'∧(∀ q∈own v',q∈own v∨w.heap.size≤q):=by
 subst hz
 obtain ⟨hp,hb,hB,xs,hr1,hr2⟩:=hO
 obtain ⟨ht,i,h2,h3,h4,h5⟩:=hT
 have hss:(⟨s.toArray⟩:ByteArray).size=s.length:=by simp [ByteArray.size]
 obtain ⟨v',w',r1,r2,r3,r4⟩:=Lib.run_append_own_string (P:=P) w B t u ty e i ht hu h2 h3 h4 h5 v l.length xs hr1 ⟨s.toArray⟩ (by rw [hss]; simp only [maxLen]; omega) (by rw [hss]; exact hsz) hB
 have f:Fr (own v) w w':=⟨r3.os,r3.tape,r3.output,r3.size,fun q hq hn=>r3.block q hq (fun e=>hn (by rw [mem_own]; exact e.symm))⟩
 have hnew:∀ q∈own v',q∈own v∨w.heap.size≤q:=by
  intro q hq
  rw [mem_own] at hq
  by_cases hv:v.ownBlock=some q
  ·exact .inl (mem_own.2 hv)
  ·refine .inr ?_
   rcases hr1.2 with ⟨rfl,h0⟩ | ⟨g,cap,cur,rfl,hbg,hg,hnc,hcm,hcs,htake⟩
   ·by_cases hm0:(⟨s.toArray⟩:ByteArray).size=0
    ·rw [r4.2 ⟨rfl,hm0⟩] at hq; cases hq
    ·have hr:=run_append_nil_string (P:=P) w t u ty e i (.int .u8 0) ht hu h2 h3 ⟨s.toArray⟩ (by omega) (by omega) (by rw [h5]; omega)
     rw [hr] at r1; cases r1
     simp only [Value.ownBlock,Option.some.injEq] at hq; omega
   ·by_cases hroom:l.length + (⟨s.toArray⟩:ByteArray).size≤cap
    ·have hcs':cur.size=cap:=by simpa [kI] using hcs
     have hr:=Lib.run_append_room_string (P:=P) w t u ty e i ht hu h2 h4 g l.length cap cur hg ⟨s.toArray⟩ hroom (by omega)
     rw [hr] at r1; cases r1
     exact absurd hq hv
    ·have holds:∀ j u,xs[j]?=some u→w.cell? ((⟨g,0,none⟩:Addr).add j)=some u:=hr1.cells (g:=g) rfl
     have hr:=Lib.run_append_grow_string (P:=P) w t u ty e i (.int .u8 0) ht hu h2 h3 ⟨g,0,none⟩ l.length cap xs (by rw [h4]; exact hr1.1) holds ⟨s.toArray⟩ (by omega) (by omega) (by rw [h5]; exact growslice_fits (by omega) (by omega))
     rw [hr] at r1; cases r1
     simp only [Value.ownBlock,Option.some.injEq] at hq; omega
 refine ⟨v',w',r1,⟨hp,fun m hm=>⟨Nat.lt_of_lt_of_le (hb m hm).1 r3.size,fun hq=>(hnew m hq).elim (hb m hm).2 (fun h=>by have:=(hb m hm).1; omega)⟩,Nat.le_trans hB r3.size,xs++Lib.strCells ⟨s.toArray⟩,by rw [List.length_append,ints_length]; rw [hss] at r2; exact r2,?_⟩,f,hnew⟩
 have hall:Stb (own v++L) w (fun w=>RowD (kI .u8) w (xs++Lib.strCells ⟨s.toArray⟩) (l++ints s)):=hr2.mono fun w0 q1=>q1.append hr1.1 (by rw [strCells_ints]; exact rowD_u8 _ _) (by rw [strCells_ints]; simp [kI])
 refine hall.up f (fun m hm=>List.mem_append_left _ hm) (fun q hq=>?_)
 rcases List.mem_append.1 hq with hq | hq
 ·rcases hnew q hq with h6 | h6
  ·exact .inl (List.mem_append_left _ h6)
  ·exact .inr h6
 ·exact .inl (List.mem_append_right _ hq)

section ops
variable {P : Program} {r : Option Nat} {N : Nat} {ops : Array Oper} {Q : Post} {rest : List Oper} {ρ : Env} {ds : List Deferred} {w : World} {d : Nat} {ty : TypeId} {pos : String} {after : Array Edge} {g : Option (Nat × Bool)}
theorem o_appS {B e t u:Nat} {L:List Nat} {v:Value} {l:List Int} {z:Value} {S X:Operand} {s:Str} (hT:Slc P t e 1 1 z) (hz:z=.int .u8 0) (hu:P.underlying u=some .string) (hS:ev ρ S=v) (hO:OwnS (kI .u8) B e L w v l) (hX:ev ρ X=str s)
  (hsz:l.length + s.length≤140737488355328) (hg:wantE ops ρ g=true) (hdd:Nat.blt d N=true)
  (h:∀ v' w',Fr (own v) w w'→OwnS (kI .u8) B e L w' v' (l++ints s)→(∀ q∈own v',q∈own v∨w.heap.size≤q)→EO P r N ops Q rest (upd ρ d v') ds w') :
  EO P r N ops Q (⟨some d,.call { callee:=.builtin .append,args:=#[S,X],argTypes:=#[t,u] },ty,pos,after,g⟩::rest) ρ ds w:=by
 obtain ⟨v',w',r1,r2,r3,r4⟩:=run_appS (P:=P) (ty:=ty) hT hz hu hO s hsz
 refine eo_val (o:=⟨some d,.call { callee:=.builtin .append,args:=#[S,X],argTypes:=#[t,u] },ty,pos,after,g⟩) hg rfl hdd ?_ (h v' w' r3 r2 r4)
 simp [execOp,resolve,invoke,builtin,hS,hX,r1]
/-- A pointer against nil; against itself. -/
theorem r_pnil {T t' : TypeId} {X Y : Operand} {p : Option Addr} (hT : P.underlying T = some (.pointer (P.pointee T))) (hX : ev ρ X = .pointer p) (hY : ev ρ Y = .pointer none) :
    RunV P ρ w ⟨d, .binOp .eql T X Y t', ty, pos, after, g⟩ (.bool p.isNone) := by
  have := run_eql_pointer_nil (P := P) (w := w) T p hT
  simp only [RunV, execOp, hX, hY, eqGuard, Sem.run_bind, Sem.run_pure, Result.andThen_ok, ite_self, this]
theorem r_pself {T te t':TypeId} {X Y:Operand} {a:Addr} {j:TypeInfo} (hT:P.underlying T=some (.pointer te)) (hj:P.info? te=some j) (hX:ev ρ X=.pointer (some a)) (hY:ev ρ Y=.pointer (some a)) :
  RunV P ρ w ⟨d,.binOp .neq T X Y t',ty,pos,after,g⟩ (.bool false):=by
 have:=Lib.run_neq_ptr_same (P:=P) w a hT hj
 simp only [RunV,execOp,hX,hY,eqGuard,Sem.run_bind,Sem.run_pure,Result.andThen_ok,ite_self,this]
/-- To an unsafe pointer, and back; what stands between. -/
theorem r_toU {S T t e : TypeId} {X : Operand} {b o : Nat} {cs : List Value} {j : TypeInfo} (hS : P.underlying S = some (.pointer t)) (hT : P.underlying T = some .unsafePointer) (hj : P.info? t = some j) (hn : j.size ≠ 0) (hX : ev ρ X = .pointer (some ⟨b, o, none⟩)) (hB : Blk w b e cs) (ho : Nat.blt o cs.length = true) :
    RunV P ρ w ⟨d, .convert S T X, ty, pos, after, g⟩ (.pointer (some ⟨b, o, none⟩)) := by
  have hsh : w.shape? b = some (e, cs.length) := by
    have := hB
    unfold Blk at this
    simp [World.shape?, this]
  have := Lib.run_to_unsafe (P := P) w ⟨b, o, none⟩ hS hT hj hn hsh (by simpa [Nat.blt_eq] using ho)
  simp only [RunV, execOp, hX, Sem.run_bind, this, Result.andThen_ok]
  rfl
theorem r_fromU {S T u e:TypeId} {X:Operand} {b o:Nat} {cs:List Value} {j:TypeInfo} (hS:P.underlying S=some .unsafePointer) (hT:P.underlying T=some (.pointer u)) (hj:P.info? u=some j) (hX:ev ρ X=.pointer (some ⟨b,o,none⟩)) (hB:Blk w b e cs) (hl:liesAt P P.depth e (cs.length / P.cellsOf e) o u 1=true) :
  RunV P ρ w ⟨d,.convert S T X,ty,pos,after,g⟩ (.pointer (some ⟨b,o,none⟩)):=by
 have hsh:w.shape? b=some (e,cs.length):=by
  have:=hB
  unfold Blk at this
  simp [World.shape?,this]
 have:=Lib.run_from_unsafe (P:=P) w ⟨b,o,none⟩ hS hT hj hsh hl
 simp only [RunV,execOp,hX,Sem.run_bind,this,Result.andThen_ok]
 rfl
theorem r_ia' {T E bytes:Nat} {z:Value} {X I:Operand} {b len c i:Nat} (hT:Slc P T E 1 bytes z) (hX:ev ρ X=.slice (some ⟨b,0,none⟩) len c) (hI:ev ρ I=.int .i64 (i:Int)) (h0:(0:Int)≤(i:Int)) (h1:i<len) :
  RunV P ρ w ⟨d,.indexAddr T X I,ty,pos,after,g⟩ (.pointer (some ⟨b,i,none⟩)):=by
 have:=r_ia (w:=w) (d:=d) (ty:=ty) (pos:=pos) (after:=after) (g:=g) hT hX hI ⟨_,rfl,rfl⟩ h0 (by omega)
 simpa [elemA] using this
theorem o_ext {f:FuncId} {as:List Operand} {vs:List Value} {v:Value} {ts:Array TypeId} (ha:as.map (ev ρ)=vs) (hrun:(callFunc f vs.toArray).run P w=.ok (.value v) w) (hg:wantE ops ρ g=true) (hd:Nat.blt d N=true)
  (h:EO P r N ops Q rest (upd ρ d v) ds w):EO P r N ops Q (⟨some d,.call { callee:=.value (.func f),args:=as.toArray,argTypes:=ts },ty,pos,after,g⟩::rest) ρ ds w:=by
 refine eo_val (o:=⟨some d,.call { callee:=.value (.func f),args:=as.toArray,argTypes:=ts },ty,pos,after,g⟩) hg rfl hd ?_ h
 simp [execOp,resolve,ev,Deferred.ofValue,invoke,ha,hrun]
end ops

/-- What a function that defers leaves by. -/
def leaveD (P : Program) (rs : Array ResultVar) (R : Ending → World → Prop) (ρ : Env) : List Deferred → FrameMode → World → Prop
  | [], .returning, w => ∃ v, (resE rs ρ).run P w = .ok v w ∧ R (.returned v) w
  | [], .panicking chain, w => R (.panicked chain) w
  | [], .run, _ => False
  | d :: ds, u, w => u ≠ .run ∧ ∃ fv cap f args, d.target = .fn fv cap ∧ (invoke d.target d.args).run P w = .ok (.enter f args) w ∧
      CallsDIn (FW none) 0 P f args u w fun
        | .returned _, u', w' => leaveD P rs R ρ ds (settle u') w'
        | .panicked chain, u', w' => leaveD P rs R ρ ds (raised u' chain) w'
        | .outgrown, _, w' => R .outgrown w'
theorem leaves_D {P:Program} {fn:Func} {R:Ending→World→Prop} {a:Act}:∀ (ds:List Deferred) (u:FrameMode) (w:World),leaveD P fn.results R (envOf a) ds u w→LeavesIn (FW none) 0 P fn a.tmps R ds u w
 | [],.returning,w,h=>by
  obtain ⟨v,h1,h2⟩:=h
  rw [resE_envOf] at h1
  exact ⟨v,h1,h2⟩
 | [],.panicking _,w,h=>h
 | [],.run,w,h=>h
 | d::ds,u,w,⟨h0,fv,cap,f,args,h1,h2,h3⟩=>by
  refine ⟨h0,fun h=>by simp [FW] at h,fv,cap,f,args,h1,h2,fun _ _=>trivial,h3.mono fun e u' w' he=>?_⟩
  cases e with
  | returned v=>exact leaves_D ds _ _ he
  | panicked c=>exact leaves_D ds _ _ he
  | outgrown=>exact he
def bodyDP (P:Program) (rs:Array ResultVar) (R:Ending→World→Prop):Post
 | .normal,ρ,ds,w=>leaveD P rs R ρ ds .returning w
 | .ret,ρ,ds,w=>leaveD P rs R ρ ds .returning w
 | .panic chain,ρ,ds,w=>leaveD P rs R ρ ds (.panicking chain) w
 | _,_,_,_=>False
theorem calls_ecD {P:Program} {f:FuncId} {fn:Func} {c:Code} {args:Array Value} {w:World} {R:Ending→World→Prop} {N:Nat}
  (hf:P.funcs[f]?=some fn) (hb:fn.body=some c) (hN:fn.ntmps=N) (hs:Nat.ble args.size N=true)
  (h:EC P none N c (bodyDP P fn.results R) (base args) [] w):Calls P f args w R:=by
 have hs':args.size≤N:=by simpa [Nat.ble_eq] using hs
 refine callsIn_wide (n:=0).1 (callsIn_of_wp_defers (F:=Fence.wide) hf hb trivial ?_)
 refine wpIn_mono (h { tmps:=args++Array.replicate (fn.ntmps - args.size) undef,defers:=[] } (by simp [hN]; omega) ?_ rfl) ?_
 ·funext t
  simp only [envOf,base,Array.getD_eq_getD_getElem?,List.getD_eq_getElem?_getD,Array.getElem?_append,Array.getElem?_toList]
  by_cases h1:t<args.size
  ·simp [h1]
  ·rw [if_neg h1,Array.getElem?_eq_none (Nat.le_of_not_lt h1)]
   simp only [Array.getElem?_replicate]
   split <;> rfl
 ·rintro e a w ⟨_,hq⟩
  cases e <;> first | exact hq.elim | exact leaves_D _ _ _ hq

section
variable {P : Program} {r : Option Nat} {N : Nat} {ops : Array Oper} {Q : Post} {rest : List Oper} {ρ : Env} {ds : List Deferred} {w : World} {ty : TypeId} {pos : String} {after : Array Edge} {g : Option (Nat × Bool)}
end

section
variable {P : Program} {r : Option Nat} {N : Nat} {ops : Array Oper} {Q : Post} {ρ0 : Env} {ds : List Deferred} {w0 : World}
end
section
variable {P : Program} {r : Option Nat} {N : Nat} {Q : Post} {ρ0 : Env} {ds : List Deferred} {w0 : World} {l : List Oper}
end

section
variable {P : Program} {r : Option Nat} {N : Nat} {ops : Array Oper} {Q : Post} {ρ0 : Env} {ds : List Deferred} {w0 : World}
end
section
variable {P : Program} {r : Option Nat} {N : Nat} {ops : Array Oper} {Q : Post} {ρ0 : Env} {ds : List Deferred} {w0 : World}
end
section
variable {P : Program} {r : Option Nat} {N : Nat} {Q : Post} {ρ0 : Env} {ds : List Deferred} {w0 : World} {l : List Oper}
end

section
variable {P : Program} {r : Option Nat} {N : Nat} {ops : Array Oper} {Q : Post} {rest : List Oper} {ρ : Env} {ds : List Deferred} {w w' : World} {ty : TypeId} {pos : String} {after : Array Edge} {g : Option (Nat × Bool)}
theorem o_extW {d:Nat} {f:FuncId} {as:List Operand} {vs:List Value} {v:Value} {ts:Array TypeId} (ha:as.map (ev ρ)=vs) (hrun:(callFunc f vs.toArray).run P w=.ok (.value v) w') (hg:wantE ops ρ g=true) (hd:Nat.blt d N=true)
  (h:EO P r N ops Q rest (upd ρ d v) ds w'):EO P r N ops Q (⟨some d,.call { callee:=.value (.func f),args:=as.toArray,argTypes:=ts },ty,pos,after,g⟩::rest) ρ ds w:=by
 refine eo_val (o:=⟨some d,.call { callee:=.value (.func f),args:=as.toArray,argTypes:=ts },ty,pos,after,g⟩) hg rfl hd ?_ h
 simp [execOp,resolve,ev,Deferred.ofValue,invoke,ha,hrun]
theorem o_deferA {f:FuncId} {as:List Operand} {vs:List Value} {ts:Array TypeId} (ha:as.map (ev ρ)=vs) (hg:wantE ops ρ g=true)
  (h:EO P none N ops Q rest ρ ({ target:=.fn (.func f) #[],args:=vs.toArray }::ds) w) :
  EO P none N ops Q (⟨none,.defer { callee:=.value (.func f),args:=as.toArray,argTypes:=ts },ty,pos,after,g⟩::rest) ρ ds w:=by
 intro a h1 h2 h3
 unfold wpListIn
 rw [want_env,h2,hg]
 refine ⟨fun _ _=>trivial,?_⟩
 rw [show (FW none).round=none from rfl,Oper.semAt_none,← ev_envOf,h2]
 have hx:(execOp (ev ρ) ⟨none,.defer { callee:=.value (.func f),args:=as.toArray,argTypes:=ts },ty,pos,after,g⟩).run P w=.ok (.defer { target:=.fn (.func f) #[],args:=vs.toArray }) w:=by
  simp [execOp,resolve,ev,Deferred.ofValue,ha]
 rw [hx]
 exact h _ h1 (by rw [← h2]; rfl) (by rw [← h3]; rfl)
end
/-- A function that neither defers nor recovers, as a deferred call. -/
theorem callsD_ec {P : Program} {f : FuncId} {fn : Func} {c : Code} {args : Array Value} {u : FrameMode} {w : World} {R : Ending → World → Prop} {N : Nat}
    (hf : P.funcs[f]? = some fn) (hb : fn.body = some c) (hN : fn.ntmps = N) (hs : Nat.ble args.size N = true)
    (h : EC P none N c (bodyE P fn.results R) (base args) [] w) : CallsDIn (FW none) 0 P f args u w fun e u' w' => u' = u ∧ R e w' := by
  have hs' : args.size ≤ N := by simpa [Nat.ble_eq] using hs
  refine callsDIn_of_wpSIn hf hb trivial fun c₀ cs hu => ?_
  have hself : ({ c₀ with mode := u } : Frame) = c₀ := by rw [← hu]
  refine wpSIn_of_wpIn rfl ?_
  refine wpIn_mono (h { tmps := args ++ Array.replicate (fn.ntmps - args.size) undef, defers := [] } (by simp [hN]; omega) ?_ rfl) ?_
  · funext t
    simp only [envOf, base, Array.getD_eq_getD_getElem?, List.getD_eq_getElem?_getD, Array.getElem?_append, Array.getElem?_toList]
    by_cases h1 : t < args.size
    · simp [h1]
    · rw [if_neg h1, Array.getElem?_eq_none (Nat.le_of_not_lt h1)]
      simp only [Array.getElem?_replicate]
      split <;> rfl
  · rintro e a w ⟨_, hq⟩
    cases e with
    | normal => obtain ⟨h1, v, h2, h3⟩ := hq; rw [resE_envOf] at h2; exact ⟨h1, u, by rw [hself], v, h2, rfl, h3⟩
    | ret => obtain ⟨h1, v, h2, h3⟩ := hq; rw [resE_envOf] at h2; exact ⟨h1, u, by rw [hself], v, h2, rfl, h3⟩
    | panic c => exact ⟨hq.1, u, by rw [hself], rfl, hq.2⟩
    | _ => exact hq.elim
/-- One cell of a block, turned. -/
theorem setc {w : World} {b o : Nat} {e : TypeId} {cs : List Value} (hB : Blk w b e cs) (v : Value) : Fr [b] w (w.setCell ⟨b, o, none⟩ v) ∧ Blk (w.setCell ⟨b, o, none⟩ v) b e (cs.set o v) := ⟨Fr.setCell w ⟨b, o, none⟩ v, hB.set v⟩

section
variable {P : Program} {r : Option Nat} {N : Nat} {Q : Post} {ρ : Env} {ds : List Deferred} {w : World}
end

section
variable {P : Program} {r : Option Nat} {N : Nat} {ops : Array Oper} {Q : Post}
/-- What is left of a region, order by order. -/
def ordP (P : Program) (r : Option Nat) (N : Nat) (ops : Array Oper) (Q : Post) : Nat → Array Bool → Env → List Deferred → World → Prop
  | 0, l, ρ, ds, w => Region.ready .any ops l = [] ∧ Q .normal ρ ds w
  | f + 1, l, ρ, ds, w => (Region.ready .any ops l = [] → Q .normal ρ ds w) ∧
    ∀ i ∈ Region.ready .any ops l, ∃ o, ops[i]? = some o ∧ EO P r N ops (fun e ρ' ds' w' => match e with | .normal => ordP P r N ops Q f (l.setIfInBounds i true) ρ' ds' w' | e => Q e ρ' ds' w') [o] ρ ds w
theorem ord_sound:∀ (f:Nat) (l:Array Bool) (a:Act) (w:World),a.tmps.size=N→ordP P r N ops Q f l (envOf a) a.defers w→wpAnyIn (FW r) 0 P .any ops (lift N Q) f l a w:=by
 intro f
 induction f with
 | zero=>intro l a w hs h; exact ⟨h.1,hs,h.2⟩
 | succ f ih =>
  intro l a w hs h
  refine ⟨fun hr=>⟨hs,h.1 hr⟩,fun i hi=>?_⟩
  obtain ⟨o,ho,h⟩:=h.2 i hi
  have h:=h a hs rfl rfl
  unfold wpOpIn
  simp only [ho]
  unfold wpListIn at h
  have conv:∀ a' w',wpListIn (FW r) 0 P ops (lift N (fun e ρ' ds' w'=>match e with | .normal=>ordP P r N ops Q f (l.setIfInBounds i true) ρ' ds' w' | e=>Q e ρ' ds' w')) [] a' w'→wpAnyIn (FW r) 0 P .any ops (lift N Q) f (l.setIfInBounds i true) a' w':=by
   rintro a' w' ⟨h1,h2⟩
   exact ih _ a' w' h1 h2
  split
  ·rename_i hw
   rw [if_pos hw] at h
   unfold Oper.wpIn at h ⊢
   refine ⟨h.1,?_⟩
   have h2:=h.2
   generalize (o.semAt (FW r).round a.eval).run P w=x at h2 ⊢
   cases x with
   | ok nx w1 =>
    cases nx <;> simp only [Oper.uponIn] at h2 ⊢ <;>
     first
      | exact conv _ _ h2
      | exact ⟨h2.1,CallsIn.mono h2.2 (fun e w'' he=>by
        cases e with
        | returned v=>exact conv _ _ he
        | panicked c=>exact he
        | outgrown=>exact he)⟩
      | exact ⟨h2.1,RowsIn.mono h2.2 (fun _ _ he=>conv _ _ he)⟩
      | exact ⟨h2.1,RoundIn.mono h2.2 (fun e w'' he=>by
        cases e with
        | returned v=>exact conv _ _ he
        | panicked c=>exact he
        | outgrown=>exact he)⟩
   | halt x w1 =>
    cases x <;> simp only [Oper.uponIn] at h2 ⊢
    exact h2
  ·rename_i hw
   rw [if_neg hw] at h
   exact ⟨h.1,conv _ _ h.2⟩
theorem ec_anyO {id:Nat} {ρ:Env} {ds:List Deferred} {w:World} (hm:P.follows .mixedOrders=true) {n:Nat} (hn:ops.size=n) (h:∀ w',Ext w w'→ordP P r N ops Q n (Array.replicate n false) ρ ds w'):EC P r N (.region id ops true) Q ρ ds w:=by
 intro a h1 h2 h3
 subst h2; subst h3; subst hn
 exact wpIn_region_any hm (ord_sound _ _ _ _ h1 (h _ (Ext.drew w)))
def AllN (φ:Nat→Prop):List Nat→Prop
 | []=>True
 | i::l=>φ i∧AllN φ l
theorem allN_spec {φ:Nat→Prop}:∀ {l:List Nat},AllN φ l→∀ i∈l,φ i
 | [],_,_,hi=>by cases hi
 | _::_,h,_,hi=>(List.mem_cons.1 hi).elim (fun e=>e ▸ h.1) (fun hi=>allN_spec h.2 _ hi)
theorem ord_cons {f:Nat} {l:Array Bool} {ρ:Env} {ds:List Deferred} {w:World} (i:Nat) (is:List Nat) (hr:Region.ready .any ops l=i::is)
  (h:AllN (fun i=>∃ o,ops[i]?=some o∧EO P r N ops (fun e ρ' ds' w'=>match e with | .normal=>ordP P r N ops Q f (l.setIfInBounds i true) ρ' ds' w' | e=>Q e ρ' ds' w') [o] ρ ds w) (i::is)):ordP P r N ops Q (f + 1) l ρ ds w :=
 ⟨fun e=>(by rw [hr] at e; cases e),fun j hj=>allN_spec h j (hr ▸ hj)⟩
theorem ord_end {f:Nat} {l:Array Bool} {ρ:Env} {ds:List Deferred} {w:World} (hr:Region.ready .any ops l=[]) (h:Q .normal ρ ds w):ordP P r N ops Q f l ρ ds w:=by
 cases f with
 | zero=>exact ⟨hr,h⟩
 | succ f=>exact ⟨fun _=>h,fun j hj=>by rw [hr] at hj; cases hj⟩
end

section
variable {P : Program} {r : Option Nat} {N : Nat} {ops : Array Oper} {Q : Post} {rest : List Oper} {ρ : Env} {ds : List Deferred} {w : World} {d : Option Nat} {d0 : Nat} {ty : TypeId} {pos : String} {after : Array Edge} {g : Option (Nat × Bool)}
end

/-- The first m in any order; each other one waits for all of them. -/
def preB (ops : Array Oper) (A : List (List Nat)) (D : List Nat) (LM : Array Bool) (m N : Nat) : Bool :=
  okA ops A && onceB ops && backB ops && Nat.ble m ops.size && Nat.beq LM.size ops.size
    && ((List.range ops.size).all fun i => okd N (dstOf ops i))
    && ((List.range ops.size).all fun i => LM.getD i false == Nat.blt i m)
    && ((List.range ops.size).all fun i => Nat.blt i m || (List.range m).all fun j => (A.getD i []).contains j)
    && ((List.range m).all fun j => match dstOf ops j with | some t => D.elem t | none => true)
section
variable {P : Program} {r : Option Nat} {N : Nat} {Q : Post} {ρ0 : Env} {ds : List Deferred} {w0 : World} {l : List Oper}
structure PI (ops:Array Oper) (A:List (List Nat)) (m:Nat) (S:Nat→Value→World→Prop) (ρ0:Env) (w0:World) (listed:Array Bool) (ρ:Env) (w:World):Prop where
 len:listed.size=ops.size
 rel:Ext w0 w
 late:∀ i,m≤i→listed.getD i false=false
 env:∀ t,(∀ j,dstOf ops j=some t→listed.getD j false=false)→ρ t=ρ0 t
 clo:∀ i,listed.getD i false=true→∀ j∈A.getD i [],listed.getD j false=true
 spec:∀ i t,listed.getD i false=true→dstOf ops i=some t→S i (ρ t) w
theorem dst_lt {ops:Array Oper} {j t:Nat} (h:dstOf ops j=some t):j<ops.size:=by
 unfold dstOf at h
 cases ho:ops[j]? with
 | none=>rw [ho] at h; cases h
 | some o=>exact (Array.getElem?_eq_some_iff.1 ho).1
theorem countP_set {m:Nat} {listed:Array Bool} {i:Nat} (hi:i<m) (hl:i<listed.size) (hn:listed.getD i false=false) :
  ((List.range m).countP fun j=>!(listed.setIfInBounds i true).getD j false) + 1=(List.range m).countP fun j=>!listed.getD j false:=by
 induction m with
 | zero=>omega
 | succ m ih =>
  rw [List.range_succ,List.countP_append,List.countP_append]
  by_cases e:i=m
  ·subst e
   have h1:((List.range i).countP fun j=>!(listed.setIfInBounds i true).getD j false)=(List.range i).countP fun j=>!listed.getD j false:=by
    apply List.countP_congr
    intro j hj
    rw [getD_set_other (by have:=List.mem_range.1 hj; omega)]
   rw [h1,List.countP_singleton,List.countP_singleton,getD_set_self hl,hn]; simp
  ·have:=ih (by omega)
   rw [List.countP_singleton,List.countP_singleton,getD_set_other (by omega)]
   omega
theorem ec_pre {id:Nat} (hm:P.follows .mixedOrders=true) (A:List (List Nat)) (D:List Nat) (LM:Array Bool) (m k2:Nat) (SL:List (Value→World→Prop)) (hc:(preB l.toArray A D LM m N&&Nat.beq l.length (m + k2))=true)
  (hS:StL Ext [] SL 0)
  (hops:AllOps (fun i o=>∀ ρ w,Ext w0 w→(∀ j∈A.getD i [],∀ t,dstOf l.toArray j=some t→getS SL j (ρ t) w)→(∀ t,oldB l.toArray A i t=true→ρ t=ρ0 t)→OneOp P r N l.toArray ds o ρ w (fun v w'=>Ext w w'∧getS SL i v w')) (l.take m) 0)
  (hend:∀ ρ w,Ext w0 w→(∀ i t,i<m→dstOf l.toArray i=some t→getS SL i (ρ t) w)→(∀ t,D.elem t=false→ρ t=ρ0 t)→ordP P r N l.toArray Q k2 LM ρ ds w):EC P r N (.region id l.toArray true) Q ρ0 ds w0:=by
 simp only [preB,Bool.and_eq_true] at hc
 obtain ⟨⟨⟨⟨⟨⟨⟨⟨⟨hA,hO⟩,hB⟩,hmle⟩,hLs⟩,hdd⟩,hLM⟩,hwait⟩,hD⟩,hk2⟩:=hc
 have hk2:=Nat.eq_of_beq_eq_true hk2
 rw [show k2=l.length - m by omega] at hend
 have hmle:=Nat.le_of_ble_eq_true hmle
 have hLs:=Nat.eq_of_beq_eq_true hLs
 have hsz:l.toArray.size=l.length:=by simp
 have hwt:∀ i,i<l.toArray.size→m≤i→∀ j,j<m→j∈A.getD i []:=fun i hi hmi j hj=>by
  have h1:=List.all_eq_true.1 hwait i (by simpa using hi)
  rw [Bool.or_eq_true] at h1
  rcases h1 with h1 | h1
  ·rw [Nat.blt_eq] at h1; omega
  ·simpa using List.all_eq_true.1 h1 j (by simpa using hj)
 have key:∀ (k:Nat) (listed:Array Bool) (ρ:Env) (w:World),PI l.toArray A m (getS SL) ρ0 w0 listed ρ w→((List.range m).countP fun j=>!listed.getD j false)=k→ordP P r N l.toArray Q (k + (l.length - m)) listed ρ ds w:=by
  intro k
  induction k with
  | zero =>
   intro listed ρ w hp hk
   have hall:∀ j,j<m→listed.getD j false=true:=fun j hj=>by
    have:=List.countP_eq_zero.1 hk j (by simpa using hj)
    simpa using this
   have hEq:listed=LM:=by
    apply Array.ext (by rw [hp.len,hLs])
    intro i h1 h2
    have h3:=List.all_eq_true.1 hLM i (by rw [hp.len] at h1; simpa using h1)
    have h4:LM.getD i false=Nat.blt i m:=by simpa using h3
    have h5:listed.getD i false=Nat.blt i m:=by
     by_cases hi:i<m
     ·rw [hall i hi]; symm; rw [Nat.blt_eq]; exact hi
     ·rw [hp.late i (by omega)]; symm
      cases hb:Nat.blt i m with
      | false=>rfl
      | true=>rw [Nat.blt_eq] at hb; omega
    rw [← h4] at h5
    simpa [h1,h2] using h5
   rw [Nat.zero_add,hEq]
   rw [hEq] at hp
   refine hend ρ w hp.rel (fun i t hi ht=>hp.spec i t ?_ ht) (fun t ht=>hp.env t fun j hj=>?_)
   ·rw [← hEq]; exact hall i hi
   ·by_cases hjm:j<m
    ·have h1:=List.all_eq_true.1 hD j (by simpa using hjm)
     rw [hj] at h1
     simp only at h1
     rw [h1] at ht; cases ht
    ·exact hp.late j (by omega)
  | succ k ih =>
   intro listed ρ w hp hk
   have hex:∃ j,j<m∧listed.getD j false=false:=by
    have:0<(List.range m).countP fun j=>!listed.getD j false:=by omega
    obtain ⟨j,hj,h1⟩:=List.countP_pos_iff.1 this
    exact ⟨j,by simpa using hj,by simpa using h1⟩
   obtain ⟨j0,hj0,hj1⟩:=hex
   rw [show k + 1 + (l.length - m)=(k + (l.length - m)) + 1 by omega]
   refine ⟨fun hr=>?_,fun i hi=>?_⟩
   ·have:=all_listed hB hp.len hr j0 (by omega)
    rw [hj1] at this; cases this
   ·obtain ⟨hnl,o,ho,hall⟩:=mem_ready' hp.len hi
    have hlt:i<l.toArray.size:=(Array.getElem?_eq_some_iff.1 ho).1
    have hanc:∀ j∈A.getD i [],listed.getD j false=true:=fun j hj=>by
     obtain ⟨e,he,hb,h⟩:=okA_spec hA ho hj
     rcases h with rfl | h
     ·exact hall e he hb
     ·exact hp.clo _ (hall e he hb) j h
    have him:i<m:=by
     rcases Nat.lt_or_ge i m with h | h
     ·exact h
     ·have:=hanc j0 (hwt i hlt h j0 hj0)
      rw [hj1] at this; cases this
    have hold:∀ t,oldB l.toArray A i t=true→ρ t=ρ0 t:=fun t ht=>hp.env t fun j hj=>by
     have h1:=List.all_eq_true.1 ht j (by simpa using dst_lt hj)
     simp only [Bool.or_eq_true,bne_iff_ne,ne_eq,beq_iff_eq,List.contains_iff_mem,hj,not_true_eq_false,false_or] at h1
     rcases h1 with rfl | h1
     ·exact hnl
     ·cases hl:listed.getD j false with
      | false=>rfl
      | true=>exact absurd (hp.clo j hl i h1) (by rw [hnl]; simp)
    refine ⟨o,ho,?_⟩
    have hone:=allOps_spec hops i o (by rw [List.getElem?_take]; simp only [him,if_true]; simpa using ho) ρ w hp.rel (by simpa using fun j hj t ht=>hp.spec j t (hanc j hj) ht) (by simpa using hold)
    rw [Nat.zero_add] at hone
    refine eo_mono hone ?_
    rintro e ρ' ds' w' ⟨rfl,rfl,v,rfl,h1,h2⟩
    have hput:∀ t,(∀ u,o.dst=some u→u≠t)→put ρ o.dst v t=ρ t:=fun t ht=>by
     cases hd:o.dst with
     | none=>rfl
     | some d=>simp only [put,upd]; rw [show Nat.beq t d=false from nbeq_false (fun e=>ht d hd e.symm)]; rfl
    have hdi:dstOf l.toArray i=o.dst:=by simp only [dstOf,ho,Option.bind_some]
    refine ih _ _ _ ⟨by simp [hp.len],hp.rel.trans h1,fun j hj=>by rw [getD_set_other (by omega)]; exact hp.late j hj,fun t ht=>?_,fun j hj q hq=>?_,fun j t hj hjt=>?_⟩ ?_
    ·rw [hput t fun u hu e=>?_]
     ·refine hp.env t fun j hj=>?_
      by_cases hji:j=i
      ·subst hji; exact hnl
      ·have:=ht j hj; rwa [getD_set_other hji] at this
     ·have:=ht i (by rw [hdi,hu,e])
      rw [getD_set_self (by rw [hp.len]; exact hlt)] at this; cases this
    ·by_cases hji:j=i
     ·subst hji
      have hqj:q≠j:=fun e=>by
       subst e
       have:=hanc q hq; rw [hnl] at this; cases this
      rw [getD_set_other hqj]; exact hanc q hq
     ·rw [getD_set_other hji] at hj
      by_cases hqi:q=i
      ·subst hqi; exact getD_set_self (by rw [hp.len]; exact hlt)
      ·rw [getD_set_other hqi]; exact hp.clo j hj q hq
    ·by_cases hji:j=i
     ·subst hji
      have:put ρ o.dst v t=v:=by
       rw [hdi] at hjt; rw [hjt]; simp only [put,upd,Nat.beq_refl]; rfl
      rw [this]; exact h2
     ·rw [getD_set_other hji] at hj
      rw [hput t fun u hu e=>?_]
      ·exact stL_spec hS j rfl _ _ _ h1 (hp.spec j t hj hjt)
      ·exact hji (onceB_spec hO hjt (by rw [hdi,hu,e]))
    ·have:=countP_set him (by rw [hp.len]; exact hlt) hnl
     omega
 have hrep:∀ i,(Array.replicate l.length false).getD i false=false:=fun i=>by
  simp only [Array.getD_eq_getD_getElem?,Array.getElem?_replicate]
  split <;> rfl
 refine ec_anyO hm (n:=l.length) hsz fun w' F=>?_
 have hcount:((List.range m).countP fun j=>!(Array.replicate l.length false).getD j false)=m:=by
  have:(List.range m).countP (fun j=>!(Array.replicate l.length false).getD j false)=(List.range m).length:=by
   rw [List.countP_eq_length]; intro j _; rw [hrep]; rfl
  rw [this,List.length_range]
 have hmain:=key m (Array.replicate l.length false) ρ0 w' ⟨by simp,F,fun i _=>hrep i,fun _ _=>rfl,(fun i hi=>by rw [hrep] at hi; cases hi),(fun i t hi=>by rw [hrep] at hi; cases hi)⟩ hcount
 rw [show m + (l.length - m)=l.length by rw [hsz] at hmle; omega] at hmain
 exact hmain
end
end Go.Proofs.YthbfhgenkhkpfaaGreat