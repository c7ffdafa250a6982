/- BufferSome: the slots of a buffer are those of its names, in order. -/
import Derived.Test.YtpopikeebobjnaaGe5
import Derived.Test.YtpopikeebobjnaaSe20
namespace Go.Proofs.Ytpopikeebobjnaa
open Go Go.RowKit
set_option linter.unusedVariables false
set_option linter.unusedSimpArgs false

theorem bufferSome_ev (b:Buf) (a:Arena) (p q:Int) (gb:GBuf b) (ga:GArena a) (wp:inK .u8 p) (wq:inK .u8 q):law16_BufferSome_raw b a p q true:=by
 refine ⟨fun h=>(by cases h),fun _=>⟨fun c=>?_,fun _=>rfl,fun f1=>?_⟩⟩
 ·have f2:fewB b=true∧fewA a=true:=by revert c; cases fewB b <;> cases fewA a <;> simp
  exact fewA_sma f2.2
 rw [checkA_ne] at f1
 have f2:fewB b=true∧fewA a=true∧arOk a=true:=by revert f1; cases fewB b <;> cases fewA a <;> cases arOk a <;> simp
 obtain ⟨f3,f4,ho⟩:=f2
 have s0:=fewB_smB f3
 have sa:=fewA_sma f4
 obtain ⟨n,hn,hn1,hn8⟩:=size8 wp
 rw [hn]
 have hq:=inK_u8 wq
 rw [wrap64 (n:=q) (by omega) (by omega)]
 obtain ⟨k,rfl⟩:=Int.eq_ofNat_of_zero_le hq.1
 have hml:=(mendB_bound b a (n:Int)).1
 have hll:(mendB b a (n:Int)).names.length≤1000000:=Nat.le_trans hml s0
 have hslot:∀ x∈(mendB b a (n:Int)).names,0≤findA a x.kind x.key∧findA a x.kind x.key<(a.slots.length:Int):=fun x hx=>mend_slot hx
 have hsml:=some_sml (n:Int) (k:Int) s0 sa
 have hlen:(someB b a (n:Int) (k:Int)).length=min k (mendB b a (n:Int)).names.length:=by unfold someB; simp
 have hnth:∀ i,i<min k (mendB b a (n:Int)).names.length→nth (someB b a (n:Int) (k:Int)) (i:Int)=nth a.slots (findA a ((mendB b a (n:Int)).names.getD i default).kind ((mendB b a (n:Int)).names.getD i default).key):=fun i hi=>by
  rw [nth_nat]
  unfold someB
  rw [List.getD_eq_getElem?_getD,List.getElem?_map,List.getElem?_take]
  have:i<(k:Int).toNat:=by simp; omega
  rw [if_pos this]
  simp [show i<(mendB b a (n:Int)).names.length by omega]
 refine ⟨s0,sa,_,rfl,s0,sa,_,rfl,fun c=>?_,fun _=>?_⟩
 ·exfalso
  rw [hlen] at c
  simp at c; omega
 ·generalize hM:mendB b a (n:Int)=M at *
  generalize hS:someB b a (n:Int) (k:Int)=S at *
  obtain ⟨x,hx,h2⟩:=loop_scan (body:=law16_BufferSome_b82 a M S) S.length (fun _=>true) (fun _=>true)
   (fun i hi _=>by
    have hi2:i<M.names.length:=by omega
    have hm:=hslot _ (getD_mem' hi2)
    refine ⟨fun _=>⟨⟨by omega,by omega⟩,⟨by omega,by omega⟩,sa,_,rfl,fun c=>?_,fun c=>⟨⟨by omega,by omega⟩,?_,?_,fun c2=>?_,fun c2=>by rw [wrapS hi (by omega)]⟩⟩,fun c=>by simp at c; omega⟩
    ·rw [nth_nat] at c; simp only [decide_eq_true_eq] at c; omega
    ·rw [nth_nat]; exact hm
    ·exact hsml.2 _ (by rw [nth_nat]; exact getD_mem' hi)
    ·rw [hnth i (by omega),nth_nat,sameE_self] at c2; cases c2)
   (fun i hi hp=>by cases hp) ⟨fun c=>by simp at c,fun _=>rfl⟩
  refine ⟨x,hx,fun _ _=>rfl,fun y e3=>?_⟩
  rcases h2 with ⟨h3,_⟩ | ⟨j,_,h4,_⟩
  ·rw [e3] at h3; cases h3
  ·cases h4
end Go.Proofs.Ytpopikeebobjnaa
