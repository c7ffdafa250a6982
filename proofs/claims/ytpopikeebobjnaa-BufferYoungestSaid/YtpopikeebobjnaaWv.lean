/- Writing into a slice of one's own; a literal as one's own; calls that are walked where they stand. -/
import Derived.Test.YtpopikeebobjnaaWu
namespace Go.Proofs.Ytpopikeebobjnaa
open Go Go.RowKit
set_option linter.unusedVariables false
set_option linter.unusedSimpArgs false

section
variable {T : Type} [Inhabited T] {k : Kd T} {B e : Nat} {L : List Nat} {w w' : World} {v : Value} {l : List T}
theorem bs_own {b:Nat} {cs:List Value} {ys:List T} (hp:0<k.n) (hb:∀ m∈L,m<B) (hB:B≤b) (hk:Blk w b e cs) (hl:cs.length=ys.length * k.n) (hm:Nat.ble ys.length 1000000=true) (hr:Stb (b::L) w (fun w=>RowD k w cs ys)) :
  OwnS k B e L w (.slice (some ⟨b,0,none⟩) ys.length ys.length) ys :=
 ⟨hp,fun m hm=>⟨by have:=hb m hm; have:=hk.lt; omega,fun h=>by have:=hb m hm; have h:m∈[b]:=h; simp at h; omega⟩,Nat.le_trans hB (Nat.le_of_lt hk.lt),cs,⟨hl,.inr ⟨b,_,cs.toArray,rfl,hB,hk,Nat.le_refl _,by have:=Nat.le_of_ble_eq_true hm; simp only [maxLen]; omega,by simpa using hl,by simp [← hl]⟩⟩,hr⟩
theorem OwnS.weak {L':List Nat} (h:OwnS k B e L w v l) (hL:∀ m∈L',m∈L):OwnS k B e L' w v l:=by
 obtain ⟨hp,hb,hB,xs,h1,h2⟩:=h
 exact ⟨hp,fun m hm=>hb m (hL m hm),hB,xs,h1,h2.weak fun m hm=>by
  rcases List.mem_append.1 hm with h3 | h3
  ·exact List.mem_append_left _ h3
  ·exact List.mem_append_right _ (hL m h3)⟩
theorem slc_none {A:Option Addr} {c:Nat} {d:List T} (h:SlC k w A c d) (hA:A.isNone=true):d=[]:=by
 cases d with
 | nil=>rfl
 | cons x d =>
  obtain ⟨⟨a,ha,_⟩,_⟩:=h.2 0 (by simp)
  subst ha; cases hA
theorem setL_eq (cs:List Value) (o:Nat) (vs:List Value) (h:o + vs.length≤cs.length):setL cs o vs=cs.take o++vs++cs.drop (o + vs.length):=by
 have:=setL_app vs (cs.take o) (cs.drop o) o (by simp; omega) (by simp; omega)
 rwa [List.take_append_drop,List.drop_drop] at this
theorem setL_part {cs vs:List Value} {n i j:Nat} (hv:vs.length=n) (h:i * n + n≤cs.length) (hij:j≠i):((setL cs (i * n) vs).drop (j * n)).take n=(cs.drop (j * n)).take n:=by
 rw [setL_eq _ _ _ (by omega)]
 apply List.ext_getElem?
 intro q
 rw [List.getElem?_take,List.getElem?_take]
 split
 ·rename_i hq
  rw [List.getElem?_drop,List.getElem?_drop,List.append_assoc,List.getElem?_append]
  simp only [List.length_take,Nat.min_eq_left (show i * n≤cs.length by omega)]
  rcases Nat.lt_or_ge j i with hji | hji
  ·have h2:(j + 1) * n≤i * n:=Nat.mul_le_mul_right _ hji
   rw [Nat.add_mul,Nat.one_mul] at h2
   rw [if_pos (by omega),List.getElem?_take,if_pos (by omega)]
  ·have hji:i<j:=by omega
   have h2:(i + 1) * n≤j * n:=Nat.mul_le_mul_right _ hji
   rw [Nat.add_mul,Nat.one_mul] at h2
   rw [if_neg (by omega),List.getElem?_append_right (by omega),List.getElem?_drop]
   congr 1; omega
 ·rfl
theorem setL_this {cs vs:List Value} {n i:Nat} (hv:vs.length=n) (h:i * n + n≤cs.length):((setL cs (i * n) vs).drop (i * n)).take n=vs:=by
 rw [setL_eq _ _ _ (by omega),List.append_assoc,List.drop_append_of_le_length (by simp; omega)]
 simp [hv,Nat.min_eq_left (show i * n≤cs.length by omega),List.drop_take]
theorem setL_take {cs vs:List Value} {n i m:Nat} (hv:vs.length=n) (h:i * n + n≤m) (hm:m≤cs.length):(setL cs (i * n) vs).take m=setL (cs.take m) (i * n) vs:=by
 rw [setL_eq _ _ _ (by omega),setL_eq _ _ _ (by simp; omega)]
 rw [List.take_append,List.take_append,List.take_take,List.take_take,Nat.min_eq_right (show i * n≤m by omega),Nat.min_eq_left (show i * n≤m by omega)]
 congr 1
 ·congr 1
  apply List.take_of_length_le
  simp; omega
 ·rw [List.drop_take]
  congr 1
  simp; omega

theorem o_ostore {P:Program} {r:Option Nat} {N:Nat} {ops:Array Oper} {Q:Post} {rest:List Oper} {ρ:Env} {ds:List Deferred} {ty:TypeId} {pos:String} {after:Array Edge} {g:Option (Nat × Bool)}
  {t c:Nat} {X Y:Operand} {A:Option Addr} {i:Int} {vs:List Value} {x:T}
  (hX:ev ρ X=.pointer (some (elemA A k.n i.toNat))) (hO:OwnS k B e L w (.slice A l.length c) l) (h0:0≤i) (hi:i<l.length) (hY:(ev ρ Y).cells=vs.toArray) (hT:Sz P t vs.length) (hn:vs.length=k.n) (h1:vs.all oneC=true)
  (hd:Stb (own (.slice A l.length c)++L) w (fun w=>k.r w vs x)) (hg:wantE ops ρ g=true)
  (h:∀ w',Fr (own (.slice A l.length c)) w w'→OwnS k B e L w' (.slice A l.length c) (l.set i.toNat x)→EO P r N ops Q rest ρ ds w') :
  EO P r N ops Q (⟨none,.store t X Y,ty,pos,after,g⟩::rest) ρ ds w:=by
 obtain ⟨hp,hb,hB,xs,⟨hl,hr⟩,hs⟩:=hO
 have hi':i.toNat<l.length:=by omega
 rcases hr with ⟨e1,e2⟩ | ⟨b,cap,cur,e1,hbb,hh,hle,hcm,hcs,htk⟩
 ·omega
 ·obtain ⟨rfl,_,rfl⟩:=Value.slice.inj e1
  have hcell:i.toNat * k.n + k.n≤l.length * k.n:=by
   have h3:(i.toNat + 1) * k.n≤l.length * k.n:=Nat.mul_le_mul_right _ hi'
   rwa [Nat.add_mul,Nat.one_mul] at h3
  have hcap:l.length * k.n≤cur.size:=by rw [hcs]; exact Nat.mul_le_mul_right _ hle
  have hblk:Blk w b e cur.toList:=by simpa [Blk] using hh
  have hown:own (.slice (some ⟨b,0,none⟩) l.length c)=[b]:=rfl
  rw [hown] at h hd hs
  refine o_store (b:=b) (o:=i.toNat * k.n) (cs:=cur.toList) (vs:=vs) (by rw [hX]; simp [elemA]) hblk hY hT h1 (by rw [Nat.ble_eq,hn,Array.length_toList]; omega) hg fun w' F B2=>?_
  refine h w' F ⟨hp,fun m hm=>⟨Nat.lt_of_lt_of_le (hb m hm).1 F.size,(hb m hm).2⟩,Nat.le_trans hB F.size,setL xs (i.toNat * k.n) vs,⟨by rw [setL_length,hl,List.length_set],.inr ⟨b,c,(setL cur.toList (i.toNat * k.n) vs).toArray,by rw [List.length_set],hbb,B2,by rw [List.length_set]; exact hle,hcm,by simp [setL_length,hcs],?_⟩⟩,?_⟩
  ·rw [List.length_set]
   show (setL cur.toList (i.toNat * k.n) vs).take _=_
   rw [setL_take hn hcell (by simpa using hcap),htk]
  ·rw [hown]
   refine (((hs.and hd).fr F (fun m hm=>List.mem_append_left _ hm))).mono fun w0 ⟨q1,q2⟩=>?_
   intro j hj
   rw [List.length_set] at hj
   by_cases hji:j=i.toNat
   ·subst hji
    rw [setL_this hn (by rw [hl]; exact hcell)]
    simpa [hj] using q2
   ·rw [setL_part hn (by rw [hl]; exact hcell) hji]
    have:=q1 j hj
    rwa [show (l.set i.toNat x).getD j default=l.getD j default by simp [List.getElem?_set,Ne.symm hji]]
end

section ops
variable {P : Program} {r : Option Nat} {N : Nat} {ops : Array Oper} {Q : Post} {rest : List Oper} {ρ : Env} {ds : List Deferred} {w : World}
variable {d : Nat} {ty : TypeId} {pos : String} {after : Array Edge} {g : Option (Nat × Bool)}
/-- A call that is walked where it stands. -/
theorem o_inl {f : FuncId} {X : Operand} {as : List Operand} {vs caps : List Value} {ts : Array TypeId} (hf : CF P f) (hX : ev ρ X = .func (.func f) #[] caps.toArray) (ha : as.map (ev ρ) = vs) (hg : wantE ops ρ g = true) (hd : Nat.blt d N = true)
    (h : Calls P f (vs ++ caps).toArray w (Ret fun v w' => EO P r N ops Q rest (upd ρ d v) ds w')) :
    EO P r N ops Q (⟨some d, .call { callee := .value X, args := as.toArray, argTypes := ts }, ty, pos, after, g⟩ :: rest) ρ ds w := by
  refine eo_enter (o := ⟨some d, .call { callee := .value X, args := as.toArray, argTypes := ts }, ty, pos, after, g⟩) hg rfl hd ?_ h
    (fun v w'' ⟨u, e, hp⟩ => by cases e; exact hp) (fun c w'' ⟨u, e, hp⟩ => by cases e) (fun w'' ⟨u, e, hp⟩ => by cases e)
  have := hf (vs ++ caps).toArray w
  simp [execOp, resolve, hX, Deferred.ofValue, invoke, ha] at this ⊢
  exact this
theorem o_callv {f:FuncId} {X:Operand} {as:List Operand} {vs:List Value} {ts:Array TypeId} {post:Value→World→Prop} (hf:CF P f) (hX:ev ρ X=.func (.func f) #[] #[]) (ha:as.map (ev ρ)=vs)
  (hc:Calls P f vs.toArray w (Ret post)) (hg:wantE ops ρ g=true) (hd:Nat.blt d N=true)
  (h:∀ v w',post v w'→EO P r N ops Q rest (upd ρ d v) ds w') :
  EO P r N ops Q (⟨some d,.call { callee:=.value X,args:=as.toArray,argTypes:=ts },ty,pos,after,g⟩::rest) ρ ds w:=by
 refine eo_enter (o:=⟨some d,.call { callee:=.value X,args:=as.toArray,argTypes:=ts },ty,pos,after,g⟩) hg rfl hd ?_ hc
  (fun v w'' ⟨u,e,hp⟩=>by cases e; exact h _ _ hp) (fun c w'' ⟨u,e,hp⟩=>by cases e) (fun w'' ⟨u,e,hp⟩=>by cases e)
 have:=hf vs.toArray w
 simp [execOp,resolve,hX,Deferred.ofValue,invoke,ha,this]
/-- A method that is called through an interface value. -/
def MF (P : Program) (t : TypeId) (name : String) (f : FuncId) : Prop := ∀ v args w, (callMethod (.iface t v) name args).run P w = .ok (.enter f (#[v] ++ args)) w
theorem o_inlI {f:FuncId} {X:Operand} {t:TypeId} {v:Value} {name:String} {as:List Operand} {vs:List Value} {ts:Array TypeId} (hf:MF P t name f) (hX:ev ρ X=.iface t v) (ha:as.map (ev ρ)=vs) (hg:wantE ops ρ g=true) (hd:Nat.blt d N=true)
  (h:Calls P f (v::vs).toArray w (Ret fun v w'=>EO P r N ops Q rest (upd ρ d v) ds w')) :
  EO P r N ops Q (⟨some d,.call { callee:=.invoke X name,args:=as.toArray,argTypes:=ts },ty,pos,after,g⟩::rest) ρ ds w:=by
 refine eo_enter (o:=⟨some d,.call { callee:=.invoke X name,args:=as.toArray,argTypes:=ts },ty,pos,after,g⟩) hg rfl hd ?_ h
  (fun v w'' ⟨u,e,hp⟩=>by cases e; exact hp) (fun c w'' ⟨u,e,hp⟩=>by cases e) (fun w'' ⟨u,e,hp⟩=>by cases e)
 have:=hf v vs.toArray w
 simp [execOp,resolve,hX,invoke,ha] at this ⊢
 exact this
theorem r_mkfn' {dd:Option Nat} {fn:Fn} {cs:List Operand} {vs:List Value} (h:cs.map (ev ρ)=vs):RunV P ρ w ⟨dd,.makeFunc fn #[] cs.toArray,ty,pos,after,g⟩ (.func fn #[] vs.toArray):=by
 subst h
 simp [RunV,execOp,Instr.makeFunc]
theorem r_nilchk {dd:Option Nat} {X:Operand} {a:Addr} (hX:ev ρ X=.pointer (some a)):RunV P ρ w ⟨dd,.nilCheck X,ty,pos,after,g⟩ (.pointer (some a)):=by
 simp [RunV,execOp,hX]
end ops
end Go.Proofs.Ytpopikeebobjnaa
