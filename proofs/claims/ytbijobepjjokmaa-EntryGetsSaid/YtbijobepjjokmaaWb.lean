/- A builder within a block: its pointer, bytes onto its slice. -/
import Derived.Test.YtbijobepjjokmaaWm
import Derived.Lib.AppendStr
import Derived.Lib.Builder
import Derived.Laws.Externs
namespace Go.Proofs.Ytbijobepjjokmaa
open Go Go.RowKit
set_option linter.unusedVariables false
set_option linter.unusedSimpArgs false

/-- A text's bytes as numbers. -/
def ints (s : Str) : List Int := s.map fun b => (b.toNat : Int)
theorem ints_length (s:Str):(ints s).length=s.length:=by simp [ints]
theorem strCells_ints (s:Str):Lib.strCells ⟨s.toArray⟩=(ints s).map fun n=>.int .u8 n:=by
 simp [Lib.strCells,ints]
theorem rowD_u8 (w:World) (l:List Int):RowD (kI .u8) w (l.map fun n=>.int .u8 n) l:=by
 intro i hi
 show ((l.map fun n=>Value.int .u8 n).drop (i * 1)).take 1=[.int .u8 (l.getD i default)]
 rw [Nat.mul_one,List.drop_eq_getElem_cons (by simpa using hi)]
 simp [hi]
theorem run_appS {P:Program} {t u ty e B:Nat} {L:List Nat} {w:World} {v:Value} {l:List Int} {z:Value} (hT:Slc P t e 1 1 z) (hz:z=.int .u8 0) (hu:P.underlying u=some .string) (hO:OwnS (kI .u8) B e L w v l) (s:Str)
  (hsz:l.length + s.length≤140737488355328) :
  ∃ v' w',(Builtin.append_ #[t,u] ty #[v,str s]).run P w=.ok v' w'∧OwnS (kI .u8) B e L w' v' (l++ints s)∧Fr (own v) w w'∧(∀ q∈own v',q∈own v∨w.heap.size≤q):=by
 subst hz
 obtain ⟨hp,hb,hB,xs,hr1,hr2⟩:=hO
 obtain ⟨ht,i,h2,h3,h4,h5⟩:=hT
 have hss:(⟨s.toArray⟩:ByteArray).size=s.length:=by simp [ByteArray.size]
 obtain ⟨v',w',r1,r2,r3,r4⟩:=Lib.run_append_own_string (P:=P) w B t u ty e i ht hu h2 h3 h4 h5 v l.length xs hr1 ⟨s.toArray⟩ (by rw [hss]; simp only [maxLen]; omega) (by rw [hss]; exact hsz) hB
 have f:Fr (own v) w w':=⟨r3.os,r3.tape,r3.output,r3.size,fun q hq hn=>r3.block q hq (fun e=>hn (by rw [mem_own]; exact e.symm))⟩
 have hnew:∀ q∈own v',q∈own v∨w.heap.size≤q:=by
  intro q hq
  rw [mem_own] at hq
  by_cases hv:v.ownBlock=some q
  ·exact .inl (mem_own.2 hv)
  ·refine .inr ?_
   rcases hr1.2 with ⟨rfl,h0⟩ | ⟨g,cap,cur,rfl,hbg,hg,hnc,hcm,hcs,htake⟩
   ·by_cases hm0:(⟨s.toArray⟩:ByteArray).size=0
    ·rw [r4.2 ⟨rfl,hm0⟩] at hq; cases hq
    ·have hr:=run_append_nil_string (P:=P) w t u ty e i (.int .u8 0) ht hu h2 h3 ⟨s.toArray⟩ (by omega) (by omega) (by rw [h5]; omega)
     rw [hr] at r1; cases r1
     simp only [Value.ownBlock,Option.some.injEq] at hq; omega
   ·by_cases hroom:l.length + (⟨s.toArray⟩:ByteArray).size≤cap
    ·have hcs':cur.size=cap:=by simpa [kI] using hcs
     have hr:=Lib.run_append_room_string (P:=P) w t u ty e i ht hu h2 h4 g l.length cap cur hg ⟨s.toArray⟩ hroom (by omega)
     rw [hr] at r1; cases r1
     exact absurd hq hv
    ·have holds:∀ j u,xs[j]?=some u→w.cell? ((⟨g,0,none⟩:Addr).add j)=some u:=hr1.cells (g:=g) rfl
     have hr:=Lib.run_append_grow_string (P:=P) w t u ty e i (.int .u8 0) ht hu h2 h3 ⟨g,0,none⟩ l.length cap xs (by rw [h4]; exact hr1.1) holds ⟨s.toArray⟩ (by omega) (by omega) (by rw [h5]; exact growslice_fits (by omega) (by omega))
     rw [hr] at r1; cases r1
     simp only [Value.ownBlock,Option.some.injEq] at hq; omega
 refine ⟨v',w',r1,⟨hp,fun m hm=>⟨Nat.lt_of_lt_of_le (hb m hm).1 r3.size,fun hq=>(hnew m hq).elim (hb m hm).2 (fun h=>by have:=(hb m hm).1; omega)⟩,Nat.le_trans hB r3.size,xs++Lib.strCells ⟨s.toArray⟩,by rw [List.length_append,ints_length]; rw [hss] at r2; exact r2,?_⟩,f,hnew⟩
 have hall:Stb (own v++L) w (fun w=>RowD (kI .u8) w (xs++Lib.strCells ⟨s.toArray⟩) (l++ints s)):=hr2.mono fun w0 q1=>q1.append hr1.1 (by rw [strCells_ints]; exact rowD_u8 _ _) (by rw [strCells_ints]; simp [kI])
 refine hall.up f (fun m hm=>List.mem_append_left _ hm) (fun q hq=>?_)
 rcases List.mem_append.1 hq with hq | hq
 ·rcases hnew q hq with h6 | h6
  ·exact .inl (List.mem_append_left _ h6)
  ·exact .inr h6
 ·exact .inl (List.mem_append_right _ hq)

section ops
variable {P : Program} {r : Option Nat} {N : Nat} {ops : Array Oper} {Q : Post} {rest : List Oper} {ρ : Env} {ds : List Deferred} {w : World} {d : Nat} {ty : TypeId} {pos : String} {after : Array Edge} {g : Option (Nat × Bool)}
theorem o_appS {B e t u:Nat} {L:List Nat} {v:Value} {l:List Int} {z:Value} {S X:Operand} {s:Str} (hT:Slc P t e 1 1 z) (hz:z=.int .u8 0) (hu:P.underlying u=some .string) (hS:ev ρ S=v) (hO:OwnS (kI .u8) B e L w v l) (hX:ev ρ X=str s)
  (hsz:l.length + s.length≤140737488355328) (hg:wantE ops ρ g=true) (hdd:Nat.blt d N=true)
  (h:∀ v' w',Fr (own v) w w'→OwnS (kI .u8) B e L w' v' (l++ints s)→(∀ q∈own v',q∈own v∨w.heap.size≤q)→EO P r N ops Q rest (upd ρ d v') ds w') :
  EO P r N ops Q (⟨some d,.call { callee:=.builtin .append,args:=#[S,X],argTypes:=#[t,u] },ty,pos,after,g⟩::rest) ρ ds w:=by
 obtain ⟨v',w',r1,r2,r3,r4⟩:=run_appS (P:=P) (ty:=ty) hT hz hu hO s hsz
 refine eo_val (o:=⟨some d,.call { callee:=.builtin .append,args:=#[S,X],argTypes:=#[t,u] },ty,pos,after,g⟩) hg rfl hdd ?_ (h v' w' r3 r2 r4)
 simp [execOp,resolve,invoke,builtin,hS,hX,r1]
/-- A pointer against nil; against itself. -/
theorem r_pnil {T t' : TypeId} {X Y : Operand} {p : Option Addr} (hT : P.underlying T = some (.pointer (P.pointee T))) (hX : ev ρ X = .pointer p) (hY : ev ρ Y = .pointer none) :
    RunV P ρ w ⟨d, .binOp .eql T X Y t', ty, pos, after, g⟩ (.bool p.isNone) := by
  have := run_eql_pointer_nil (P := P) (w := w) T p hT
  simp only [RunV, execOp, hX, hY, eqGuard, Sem.run_bind, Sem.run_pure, Result.andThen_ok, ite_self, this]
theorem r_pself {T te t':TypeId} {X Y:Operand} {a:Addr} {j:TypeInfo} (hT:P.underlying T=some (.pointer te)) (hj:P.info? te=some j) (hX:ev ρ X=.pointer (some a)) (hY:ev ρ Y=.pointer (some a)) :
  RunV P ρ w ⟨d,.binOp .neq T X Y t',ty,pos,after,g⟩ (.bool false):=by
 have:=Lib.run_neq_ptr_same (P:=P) w a hT hj
 simp only [RunV,execOp,hX,hY,eqGuard,Sem.run_bind,Sem.run_pure,Result.andThen_ok,ite_self,this]
/-- To an unsafe pointer, and back; what stands between. -/
theorem r_toU {S T t e : TypeId} {X : Operand} {b o : Nat} {cs : List Value} {j : TypeInfo} (hS : P.underlying S = some (.pointer t)) (hT : P.underlying T = some .unsafePointer) (hj : P.info? t = some j) (hn : j.size ≠ 0) (hX : ev ρ X = .pointer (some ⟨b, o, none⟩)) (hB : Blk w b e cs) (ho : Nat.blt o cs.length = true) :
    RunV P ρ w ⟨d, .convert S T X, ty, pos, after, g⟩ (.pointer (some ⟨b, o, none⟩)) := by
  have hsh : w.shape? b = some (e, cs.length) := by
    have := hB
    unfold Blk at this
    simp [World.shape?, this]
  have := Lib.run_to_unsafe (P := P) w ⟨b, o, none⟩ hS hT hj hn hsh (by simpa [Nat.blt_eq] using ho)
  simp only [RunV, execOp, hX, Sem.run_bind, this, Result.andThen_ok]
  rfl
theorem r_fromU {S T u e:TypeId} {X:Operand} {b o:Nat} {cs:List Value} {j:TypeInfo} (hS:P.underlying S=some .unsafePointer) (hT:P.underlying T=some (.pointer u)) (hj:P.info? u=some j) (hX:ev ρ X=.pointer (some ⟨b,o,none⟩)) (hB:Blk w b e cs) (hl:liesAt P P.depth e (cs.length / P.cellsOf e) o u 1=true) :
  RunV P ρ w ⟨d,.convert S T X,ty,pos,after,g⟩ (.pointer (some ⟨b,o,none⟩)):=by
 have hsh:w.shape? b=some (e,cs.length):=by
  have:=hB
  unfold Blk at this
  simp [World.shape?,this]
 have:=Lib.run_from_unsafe (P:=P) w ⟨b,o,none⟩ hS hT hj hsh hl
 simp only [RunV,execOp,hX,Sem.run_bind,this,Result.andThen_ok]
 rfl
theorem r_ia' {T E bytes:Nat} {z:Value} {X I:Operand} {b len c i:Nat} (hT:Slc P T E 1 bytes z) (hX:ev ρ X=.slice (some ⟨b,0,none⟩) len c) (hI:ev ρ I=.int .i64 (i:Int)) (h0:(0:Int)≤(i:Int)) (h1:i<len) :
  RunV P ρ w ⟨d,.indexAddr T X I,ty,pos,after,g⟩ (.pointer (some ⟨b,i,none⟩)):=by
 have:=r_ia (w:=w) (d:=d) (ty:=ty) (pos:=pos) (after:=after) (g:=g) hT hX hI ⟨_,rfl,rfl⟩ h0 (by omega)
 simpa [elemA] using this
theorem o_ext {f:FuncId} {as:List Operand} {vs:List Value} {v:Value} {ts:Array TypeId} (ha:as.map (ev ρ)=vs) (hrun:(callFunc f vs.toArray).run P w=.ok (.value v) w) (hg:wantE ops ρ g=true) (hd:Nat.blt d N=true)
  (h:EO P r N ops Q rest (upd ρ d v) ds w):EO P r N ops Q (⟨some d,.call { callee:=.value (.func f),args:=as.toArray,argTypes:=ts },ty,pos,after,g⟩::rest) ρ ds w:=by
 refine eo_val (o:=⟨some d,.call { callee:=.value (.func f),args:=as.toArray,argTypes:=ts },ty,pos,after,g⟩) hg rfl hd ?_ h
 simp [execOp,resolve,ev,Deferred.ofValue,invoke,ha,hrun]
end ops
end Go.Proofs.Ytbijobepjjokmaa
