/- Slice literals, make, append: as operations. -/
import Derived.Test.YtpopikeebobjnaaWs
namespace Go.Proofs.Ytpopikeebobjnaa
open Go Go.RowKit
set_option linter.unusedVariables false
set_option linter.unusedSimpArgs false

def idx:List Value→Nat→List (Nat × Value)
 | [],_=>[]
 | v::vs,i=>(i,v)::idx vs (i + 1)
def flat (vs:List Value):List Value:=vs.flatMap (·.cells.toList)
theorem setL_app:∀ (vs a b:List Value) (o:Nat),o=a.length→vs.length≤b.length→setL (a++b) o vs=a++vs++b.drop vs.length
 | [],a,b,o,_,_=>by simp [setL]
 | v::vs,a,b,o,ho,hl=>by
  cases b with
  | nil=>simp at hl
  | cons x b =>
   have h1:(a++x::b).set o v=(a++[v])++b:=by subst ho; simp
   simp only [setL]
   rw [h1,setL_app vs (a++[v]) b (o + 1) (by simp [ho]) (by simpa using hl)]
   simp
theorem fillL_idx (n:Nat):∀ (vs:List Value) (i:Nat) (a b:List Value),a.length=i * n→b.length=vs.length * n→vs.all (fun v=>Nat.beq v.cells.toList.length n)=true →
  fillL (fun i=>some (i * n,n)) (a++b) (idx vs i)=some (a++flat vs)
 | [],i,a,b,_,hb,_=>by
  have:b=[]:=List.eq_nil_of_length_eq_zero (by simpa using hb)
  subst this; simp [idx,fillL,flat]
 | v::vs,i,a,b,ha,hb,hv=>by
  simp only [List.all_cons,Bool.and_eq_true,Nat.beq_eq] at hv
  have hv1:v.cells.toList.length=n:=by simpa using hv.1
  simp only [List.length_cons,Nat.add_mul,Nat.one_mul] at hb
  simp only [idx,fillL]
  rw [hv1,Nat.beq_refl,Bool.true_and,Nat.ble_eq_true_of_le (by simp; omega),cond_true,setL_app _ _ _ _ ha.symm (by omega),fillL_idx n vs (i + 1) (a++v.cells.toList) (b.drop v.cells.toList.length) (by simp only [List.length_append,hv1,ha,Nat.add_mul,Nat.one_mul]) (by simp only [List.length_drop,hv1]; omega) hv.2]
  simp [flat]

theorem rowd1 {T:Type} [Inhabited T] {k:Kd T} {L:List Nat} {w:World} {cs:List Value} {x:T} (h:Stb L w (fun w=>k.r w cs x)) (hl:cs.length=k.n):Stb L w (fun w=>RowD k w cs [x]):=fun w' ha i hi=>by
 have:i=0:=by simp at hi; omega
 subst this
 simp [← hl]; exact h w' ha
theorem rowd0 {T:Type} [Inhabited T] {k:Kd T} {L:List Nat} {w:World}:Stb L w (fun w=>RowD k w [] []):=fun w' ha i hi=>by simp at hi
theorem rowd_cons {T:Type} [Inhabited T] {k:Kd T} {L:List Nat} {w:World} {cs ds:List Value} {x:T} {l:List T} (h:Stb L w (fun w=>k.r w cs x)) (hl:cs.length=k.n) (hr:Stb L w (fun w=>RowD k w ds l)) :
  Stb L w (fun w=>RowD k w (cs++ds) (x::l)):=fun w' ha i hi=>by
 cases i with
 | zero=>simp [← hl]; exact h w' ha
 | succ i =>
  have hd:(cs++ds).drop ((i + 1) * k.n)=ds.drop (i * k.n):=by
   rw [Nat.add_mul,Nat.one_mul,Nat.add_comm,← List.drop_drop,← hl,List.drop_left]
  rw [hd]
  have:=hr w' ha i (by simpa using hi)
  simpa using this

theorem bs_seal {T:Type} [Inhabited T] {k:Kd T} {L:List Nat} {w:World} {b e:Nat} {cs:List Value} {ys:List T} (hB:Blk w b e cs) (hb:b∉L) (hl:cs.length=ys.length * k.n) (hr:Stb L w (fun w=>RowD k w cs ys)) :
  Stb L w (fun w=>SlC k w (some ⟨b,0,none⟩) ys.length ys):=fun w' ha=>by
 have hB':Blk w' b e cs:=(hB.stb hb) w' ha
 refine ⟨Nat.le_refl _,fun i hi=>⟨⟨_,rfl,rfl⟩,(cs.drop (i * k.n)).take k.n,?_,?_,hr w' ha i hi⟩⟩
 ·have h3:(i + 1) * k.n≤ys.length * k.n:=Nat.mul_le_mul_right _ hi
  rw [Nat.add_mul,Nat.one_mul] at h3
  simp only [List.length_take,List.length_drop,hl]; omega
 ·intro j u hj
  obtain ⟨hjn,hj⟩:=take_drop_getElem? hj
  have:=hB'.cell hj
  simpa [ad,elemA] using this

theorem OwnS.lo {T:Type} [Inhabited T] {k:Kd T} {B e:Nat} {L:List Nat} {w:World} {v:Value} {l:List T} (h:OwnS k B e L w v l):∀ m∈own v,B≤m:=fun m hm=>by
 obtain ⟨_,_,_,xs,h1,_⟩:=h
 exact (ownsRow_block h1 (mem_own.1 hm)).1
theorem OwnS.ltw {T:Type} [Inhabited T] {k:Kd T} {B e:Nat} {L:List Nat} {w:World} {v:Value} {l:List T} (h:OwnS k B e L w v l):∀ m∈own v,m<w.heap.size:=fun m hm=>by
 obtain ⟨_,_,_,xs,h1,_⟩:=h
 exact (ownsRow_block h1 (mem_own.1 hm)).2
theorem Lt.own {T:Type} [Inhabited T] {k:Kd T} {B e:Nat} {L L':List Nat} {w:World} {v:Value} {l:List T} (hL:Lt L' w) (h:OwnS k B e L w v l):Lt (own v++L') w:=fun m hm=>by
 rcases List.mem_append.1 hm with hm | hm
 ·exact h.ltw m hm
 ·exact hL m hm
theorem upo {xs L:List Nat} {φ:Nat→Prop} (hb:∀ m∈xs,φ m) (h:∀ m∈L,φ m):∀ m∈xs++L,φ m:=fun m hm=>by
 rcases List.mem_append.1 hm with hm | hm
 ·exact hb m hm
 ·exact h m hm

section ops
variable {P : Program} {r : Option Nat} {N : Nat} {ops : Array Oper} {Q : Post} {rest : List Oper} {ρ : Env} {ds : List Deferred} {w : World}
variable {d : Nat} {ty : TypeId} {pos : String} {after : Array Edge} {g : Option (Nat × Bool)}

theorem o_bslice {T E n bytes m:Nat} {z:Value} {ps:List (Nat × Operand)} {vs cs:List Value} (hT:Slc P T E n bytes z) (hz:z.cells.size=n) (hv:ps.map (fun p=>(p.1,ev ρ p.2))=idx vs 0)
  (hc:vs.all (fun v=>Nat.beq v.cells.toList.length n)=true) (hm:vs.length=m) (hcs:flat vs=cs) (hsz:Nat.ble (m * n) 16777216=true) (hg:wantE ops ρ g=true) (hd:Nat.blt d N=true)
  (h:∀ b w',b=w.heap.size→Ext w w'→Blk w' b E cs→EO P r N ops Q rest (upd ρ d (.slice (some ⟨b,0,none⟩) m m)) ds w') :
  EO P r N ops Q (⟨some d,.buildSlice T m ps.toArray,ty,pos,after,g⟩::rest) ρ ds w:=by
 obtain ⟨hu,i,h2,h3,h4,h5⟩:=hT
 refine eo_val (o:=⟨some d,.buildSlice T m ps.toArray,ty,pos,after,g⟩) hg rfl hd ?_ (h w.heap.size (w.alloc (.cells cs.toArray E)) rfl (Ext.alloc _ _) (Blk.alloc _ _ _))
 have hsz':¬ (m * n > 2 ^ 24):=by have:=Nat.le_of_ble_eq_true hsz; omega
 have hzr:(zeroValue E).run P w=.ok z w:=by simp [zeroValue,typeInfo,h2,h3,program,Sem.run,Result.andThen]
 have hsr:(sizeOf E).run P w=.ok n w:=by simp [sizeOf,typeInfo,h2,h4,program,Sem.run,Result.andThen]
 have hfill:∀ za:Array Value,Instr.fill (fun i=>some (i * n,n)) ((Array.range (m * n)).map (za[· % za.size]!)) (idx vs 0)=some cs.toArray:=fun za=>by
  have:=fill_eq (fun i=>some (i * n,n)) (idx vs 0) ((Array.range (m * n)).map (za[· % za.size]!)).toList _ (fillL_idx n vs 0 [] _ (by simp) (by simp [hm]) hc)
  rw [Array.toArray_toList] at this
  rw [this,hcs,List.nil_append]
 simp only [execOp,List.map_toArray,hv,Instr.buildSlice,Sem.run_bind,run_underlying hu,Result.andThen,hsr]
 rw [if_neg hsz']
 by_cases h0:m * n=0
 ·rw [if_pos h0]
  simp only [Sem.run_bind,Result.andThen,Sem.run_pure]
  rw [hfill #[]]
  rfl
 ·rw [if_neg h0]
  simp only [Sem.run_bind,hzr,Result.andThen,Sem.run_pure]
  rw [hfill z.cells]
  rfl

theorem o_app {T:Type} [Inhabited T] {k:Kd T} {B e:Nat} {L:List Nat} {v:Value} {l ys:List T} {t n bytes m c b e':Nat} {z:Value} {S X:Operand} {news:List Value}
  (hT:Slc P t e n bytes z) (hn:k.n=n) (hz:z.cells.size=n) (hS:ev ρ S=v) (hO:OwnS k B e L w v l) (hX:ev ρ X=.slice (some ⟨b,0,none⟩) m c) (hB:Blk w b e' news) (hm:ys.length=m) (hl:news.length=m * n) (h1:news.all oneC=true)
  (hd:Stb (own v++L) w (fun w=>RowD k w news ys)) (hsz:l.length + m≤9223372036854775807∧(l.length + m) * bytes≤140737488355328)
  (hg:wantE ops ρ g=true) (hdd:Nat.blt d N=true)
  (h:∀ v' w',Fr (own v) w w'→OwnS k B e L w' v' (l++ys)→(∀ q∈own v',q∈own v∨w.heap.size≤q)→EO P r N ops Q rest (upd ρ d v') ds w') :
  EO P r N ops Q (⟨some d,.call { callee:=.builtin .append,args:=#[S,X],argTypes:=#[t,t] },ty,pos,after,g⟩::rest) ρ ds w:=by
 obtain ⟨v',w',r1,r2,r3,r4⟩:=run_app (P:=P) (ty:=ty) hT hn hz hO hm hl (a:=⟨b,0,none⟩) (c:=c) (fun j u hj=>by
  have:=hB.cell hj
  have hadd:(⟨b,0,none⟩:Addr).add j=⟨b,j,none⟩:=by unfold Addr.add; split <;> simp_all
  rw [hadd]; exact this) h1 hd hsz
 refine eo_val (o:=⟨some d,.call { callee:=.builtin .append,args:=#[S,X],argTypes:=#[t,t] },ty,pos,after,g⟩) hg rfl hdd ?_ (h v' w' r3 r2 r4)
 simp [execOp,resolve,invoke,builtin,hS,hX,r1]
end ops
end Go.Proofs.Ytpopikeebobjnaa
