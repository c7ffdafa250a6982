/- Operations under a guard that is not decided. -/
import Derived.Test.YtpopikeebobjnaaWv
namespace Go.Proofs.Ytpopikeebobjnaa
open Go Go.RowKit
set_option linter.unusedVariables false
set_option linter.unusedSimpArgs false

theorem gdT {α:Type} {c:Bool} {v u:α} (h:c=true):(bif c then v else u)=v:=by rw [h]; rfl
theorem andL {a b:Bool} (h:(a&&b)=true):a=true:=by cases a <;> simp_all
theorem andR {a b:Bool} (h:(a&&b)=true):b=true:=by cases a <;> simp_all
theorem andM {a b:Bool} (h:a=true) (k:b=true):(a&&b)=true:=by rw [h,k]; rfl
theorem notT {a:Bool} (h:a=false):(!a)=true:=by rw [h]; rfl
theorem eq_ev {α:Type} {R:α→Prop} {x y:α} (h:x=y) (e:R y):R x:=h ▸ e
theorem mapv1 {ρ:Env} {a:Operand} {v:Value} (h:ev ρ a=v):[a].map (ev ρ)=[v]:=by simp [h]
theorem mapv2 {ρ:Env} {a b:Operand} {v u:Value} (h:ev ρ a=v) (k:ev ρ b=u):[a,b].map (ev ρ)=[v,u]:=by simp [h,k]
theorem mapv3 {ρ:Env} {a b c:Operand} {v u x:Value} (h:ev ρ a=v) (k:ev ρ b=u) (l:ev ρ c=x):[a,b,c].map (ev ρ)=[v,u,x]:=by simp [h,k,l]
theorem r_fad2 {P:Program} {ρ:Env} {w:World} {dd:Option Nat} {ty:TypeId} {pos:String} {after:Array Edge} {g:Option (Nat × Bool)} {T f off:Nat} {X:Operand} {a a':Addr} (hF:Fld P T f off) (hs:a.spot=none) (h:ad a off=a') (hX:ev ρ X=.pointer (some a)) :
  RunV P ρ w ⟨dd,.fieldAddr T X f,ty,pos,after,g⟩ (.pointer (some a')):=by subst h; exact r_fad hF hs hX
theorem OwnS.stillAt {T:Type} [Inhabited T] {k:Kd T} {B e n c:Nat} {L:List Nat} {w:World} {A:Option Addr} {l:List T} (h:OwnS k B e L w (.slice A n c) l):l.length=n∧Stb L w (fun w=>SlC k w A c l):=by
 obtain ⟨A',c',e',H⟩:=h.still
 obtain ⟨rfl,rfl,rfl⟩:=Value.slice.inj e'
 exact ⟨rfl,H⟩
/-! ### s[l:h] of a slice -/
def slA (A:Option Addr) (c l n:Nat):Option Addr:=if c=l then A else A.map (·.add (l * n))
def cutL {T:Type} (d:List T) (l h:Int):List T:=(d.take h.toNat).drop l.toNat
theorem cutL_length {T:Type} {d:List T} {l h:Int} (h1:l≤h) (h2:h≤d.length):(cutL d l h).length=h.toNat - l.toNat:=by
 simp only [cutL,List.length_drop,List.length_take]; omega
theorem addr_add {a:Addr} (h:a.spot=none) (j:Nat):a.add j=⟨a.block,a.off + j,none⟩:=by
 obtain ⟨b,o,s⟩:=a
 simp only at h; subst h
 unfold Addr.add; split <;> simp_all
theorem SlC.cutL {T:Type} [Inhabited T] {k:Kd T} {w:World} {A:Option Addr} {c:Nat} {d:List T} {l h:Int} (H:SlC k w A c d) (h0:0≤l) (h1:l≤h) (h2:h≤d.length):SlC k w (slA A c l.toNat k.n) (c - l.toNat) (cutL d l h):=by
 have hc:=H.1
 have hlen:=cutL_length h1 h2
 refine ⟨by rw [hlen]; omega,fun i hi=>?_⟩
 rw [hlen] at hi
 obtain ⟨⟨a,ha,hs⟩,cs,q1,q2,q3⟩:=H.2 (l.toNat + i) (by omega)
 have hne:¬ c=l.toNat:=by omega
 subst ha
 have e:slA (some a) c l.toNat k.n=some ⟨a.block,a.off + l.toNat * k.n,none⟩:=by
  unfold slA; rw [if_neg hne,Option.map_some,addr_add hs]
 refine ⟨⟨_,e,rfl⟩,cs,q1,?_,?_⟩
 ·rw [e]
  have:elemA (some ⟨a.block,a.off + l.toNat * k.n,none⟩) k.n i=elemA (some a) k.n (l.toNat + i):=by
   simp only [elemA,Nat.add_mul,Nat.add_assoc]
  rw [this]; exact q2
 ·have:(Go.Proofs.Ytpopikeebobjnaa.cutL d l h).getD i default=d.getD (l.toNat + i) default:=by
   simp only [Go.Proofs.Ytpopikeebobjnaa.cutL,List.getD_eq_getElem?_getD,List.getElem?_drop,List.getElem?_take]
   rw [if_pos (by omega)]
  rw [this]; exact q3
theorem Stb.cutL {T:Type} [Inhabited T] {k:Kd T} {L:List Nat} {w:World} {A:Option Addr} {c:Nat} {d:List T} {l h:Int} (H:Stb L w (fun w=>SlC k w A c d)) (h0:0≤l) (h1:l≤h) (h2:h≤d.length) :
  Stb L w (fun w=>SlC k w (slA A c l.toNat k.n) (c - l.toNat) (cutL d l h)):=H.mono fun _ H=>H.cutL h0 h1 h2
theorem r_sl_slc {P:Program} {ρ:Env} {w:World} {dd:Option Nat} {ty:TypeId} {pos:String} {after:Array Edge} {g:Option (Nat × Bool)} {T:Type} {d:List T} {t E n bytes:Nat} {z:Value} {X:Operand} {lo hi:Option Operand} {A:Option Addr} {c m:Nat} {l h:Int} (hT:Slc P t E n bytes z) (hn:m=n) (hX:ev ρ X=.slice A d.length c)
  (hl:lo.elim (l=0) (fun o=>∃ k,ev ρ o=.int k l)) (hh:hi.elim (h=d.length) (fun o=>∃ k,ev ρ o=.int k h)) (h0:0≤l) (h1:l≤h) (h2:h≤d.length) (hc:d.length≤c) :
  RunV P ρ w ⟨dd,.slice t X lo hi none,ty,pos,after,g⟩ (.slice (slA A c l.toNat m) (cutL d l h).length (c - l.toNat)):=by
 subst hn
 obtain ⟨hu,j,q2,q3,q4,q5⟩:=hT
 have hsr:(sizeOf E).run P w=.ok m w:=by simp [sizeOf,typeInfo,q2,q4,program,Sem.run,Result.andThen]
 rw [cutL_length h1 h2]
 cases lo with
 | none =>
  cases hi with
  | none =>
   simp only [Option.elim] at hl hh
   subst hl; subst hh
   simp [RunV,execOp,hX,Instr.sliceAt,Instr.slice,run_underlying hu,Instr.sliceBounds,hsr,slA]
  | some H =>
   simp only [Option.elim] at hl hh
   subst hl
   obtain ⟨k,hk⟩:=hh
   have e1:0≤h:=by omega
   have e2:h≤(c:Int):=by omega
   simp [RunV,execOp,hX,hk,Instr.sliceAt,Instr.slice,run_underlying hu,Instr.sliceBounds,Instr.sliceBound,asIntOf,hsr,slA,e1,e2]
 | some Lo =>
  cases hi with
  | none =>
   simp only [Option.elim] at hl hh
   subst hh
   obtain ⟨k,hk⟩:=hl
   simp [RunV,execOp,hX,hk,Instr.sliceAt,Instr.slice,run_underlying hu,Instr.sliceBounds,Instr.sliceBound,asIntOf,hsr,slA,h0,h1]
  | some H =>
   simp only [Option.elim] at hl hh
   obtain ⟨k,hk⟩:=hl
   obtain ⟨k',hk'⟩:=hh
   have e1:0≤h:=by omega
   have e2:h≤(c:Int):=by omega
   have e3:l≤(h.toNat:Int):=by omega
   have e4:l≤max h 0:=by omega
   simp [RunV,execOp,hX,hk,hk',Instr.sliceAt,Instr.slice,run_underlying hu,Instr.sliceBounds,Instr.sliceBound,asIntOf,hsr,slA,e1,e2,h0,e3,e4]
section
variable {P : Program} {r : Option Nat} {N : Nat} {ops : Array Oper} {Q : Post} {rest : List Oper} {ρ : Env} {ds : List Deferred} {w : World}
theorem want_ct {t j:Nat} {c:Bool} (hj:(ops[j]?).bind (·.dst)=some t) (hv:ρ t=.bool c):wantE ops ρ (some (j,true))=c:=by
 cases c <;> simp [wantE,yieldE,hj,hv]
theorem want_cf {t j:Nat} {c:Bool} (hj:(ops[j]?).bind (·.dst)=some t) (hv:ρ t=.bool c):wantE ops ρ (some (j,false))=!c:=by
 cases c <;> simp [wantE,yieldE,hj,hv]
theorem want_gt {t j:Nat} {c e:Bool} (hj:(ops[j]?).bind (·.dst)=some t) (hv:ρ t=(bif c then .bool e else undef)):wantE ops ρ (some (j,true))=(c&&e):=by
 cases c <;> cases e <;> simp [wantE,yieldE,hj,hv,undef]
theorem want_gf {t j:Nat} {c e:Bool} (hj:(ops[j]?).bind (·.dst)=some t) (hv:ρ t=(bif c then .bool e else undef)):wantE ops ρ (some (j,false))=(c&&!e):=by
 cases c <;> cases e <;> simp [wantE,yieldE,hj,hv,undef]
variable {d : Nat} {ty : TypeId} {pos : String} {after : Array Edge} {g : Option (Nat × Bool)}
theorem o_vg {op:Op} {v:Value} {c:Bool} (hw:wantE ops ρ g=c) (hr:c=true→RunV P ρ w ⟨some d,op,ty,pos,after,g⟩ v) (hp:plainOp op=true) (hd:Nat.blt d N=true)
  (h:EO P r N ops Q rest (upd ρ d (bif c then v else undef)) ds w):EO P r N ops Q (⟨some d,op,ty,pos,after,g⟩::rest) ρ ds w:=by
 cases c with
 | true=>exact o_v (hr rfl) hw hp hd h
 | false=>exact o_no hw hd h
theorem o_callg {f:FuncId} {as:List Operand} {vs:List Value} {ts:Array TypeId} {c:Bool} {V:Value} (hf:CF P f) (hw:wantE ops ρ g=c) (ha:c=true→as.map (ev ρ)=vs)
  (hc:c=true→Calls P f vs.toArray w (Ret fun v w'=>Ext w w'∧v=V)) (hd:Nat.blt d N=true)
  (h:∀ w',Ext w w'→EO P r N ops Q rest (upd ρ d (bif c then V else undef)) ds w') :
  EO P r N ops Q (⟨some d,.call { callee:=.value (.func f),args:=as.toArray,argTypes:=ts },ty,pos,after,g⟩::rest) ρ ds w:=by
 cases c with
 | true=>exact o_call hf (ha rfl) (hc rfl) hw hd fun v w' ⟨F,e⟩=>by subst e; exact h w' F
 | false=>exact o_no hw hd (h w (Fr.refl _ _))
theorem o_ostore2 {T:Type} [Inhabited T] {k:Kd T} {B e:Nat} {L:List Nat} {l:List T} {m t c:Nat} {X Y:Operand} {A:Option Addr} {i:Int} {vs:List Value} {x:T} (hm:l.length=m)
  (hX:ev ρ X=.pointer (some (elemA A k.n i.toNat))) (hO:OwnS k B e L w (.slice A m c) l) (h0:0≤i) (hi:i<(m:Int)) (hY:(ev ρ Y).cells=vs.toArray) (hT:Sz P t vs.length) (hn:vs.length=k.n) (h1:vs.all oneC=true)
  (hd:Stb (own (.slice A m c)++L) w (fun w=>k.r w vs x)) (hg:wantE ops ρ g=true)
  (h:∀ w',Fr (own (.slice A m c)) w w'→OwnS k B e L w' (.slice A m c) (l.set i.toNat x)→EO P r N ops Q rest ρ ds w') :
  EO P r N ops Q (⟨none,.store t X Y,ty,pos,after,g⟩::rest) ρ ds w:=by
 subst hm; exact o_ostore hX hO h0 hi hY hT hn h1 hd hg h
theorem o_callc {f:FuncId} {X:Operand} {as:List Operand} {vs caps:List Value} {ts:Array TypeId} {post:Value→World→Prop} (hf:CF P f) (hX:ev ρ X=.func (.func f) #[] caps.toArray) (ha:as.map (ev ρ)=vs)
  (hc:Calls P f (vs++caps).toArray w (Ret post)) (hg:wantE ops ρ g=true) (hd:Nat.blt d N=true) (h:∀ v w',post v w'→EO P r N ops Q rest (upd ρ d v) ds w') :
  EO P r N ops Q (⟨some d,.call { callee:=.value X,args:=as.toArray,argTypes:=ts },ty,pos,after,g⟩::rest) ρ ds w :=
 o_inl hf hX ha hg hd (hc.mono fun e w' ⟨v,he,hp⟩=>⟨v,he,h v w' hp⟩)
/-- A loop whose body is left in its first round. -/
def noN (Q : Post) : Post
  | .normal, _, _, _ => False
  | e, ρ, ds, w => Q e ρ ds w
theorem ec_loop0 {c:Code} (h:EC P r N c (noN Q) ρ ds w):EC P r N (.loop c) Q ρ ds w :=
 ec_loop (S:=Unit) (R:=Unit) (body:=fun _ z=>z=.inr ()) (fun _ ρ' ds' w'=>ρ'=ρ∧ds'=ds∧w'=w) (fun _ e ρ' ds' w'=>Q e ρ' ds' w')
  (fun s x ρ' ds' w' hI hb=>by
   obtain ⟨rfl,rfl,rfl⟩:=hI
   subst hb
   exact ec_mono h fun e ρ ds w hq=>by cases e <;> first | exact hq.elim | exact ⟨by simp,hq⟩)
  (.done (s:=()) (x:=()) rfl) ⟨rfl,rfl,rfl⟩ (fun _ _ _ _ _ h=>h)
theorem nn_exit {id:Nat} (h:Q (.exit id) ρ ds w):noN Q (.exit id) ρ ds w:=h
variable {dd : Option Nat}
theorem r_pickAnd {C A B:Operand} {c x:Bool} (hC:ev ρ C=.bool c) (hA:c=true→ev ρ A=.bool x) (hB:ev ρ B=.bool false):RunV P ρ w ⟨dd,.pick C A B,ty,pos,after,g⟩ (.bool (c&&x)):=by
 cases c with
 | true=>exact r_pick_t hC (hA rfl)
 | false=>exact r_pick_f hC hB
theorem r_pickOr {C A B:Operand} {c y:Bool} (hC:ev ρ C=.bool c) (hA:ev ρ A=.bool true) (hB:c=false→ev ρ B=.bool y):RunV P ρ w ⟨dd,.pick C A B,ty,pos,after,g⟩ (.bool (c||y)):=by
 cases c with
 | true=>exact r_pick_t hC hA
 | false=>exact r_pick_f hC (hB rfl)
end
end Go.Proofs.Ytpopikeebobjnaa
