/- BufferNotes: what is noted is there, the last one. -/
import Derived.Test.YtpopikeebobjnaaGe3
import Derived.Test.YtpopikeebobjnaaSe20
namespace Go.Proofs.Ytpopikeebobjnaa
open Go Go.RowKit
set_option linter.unusedVariables false
set_option linter.unusedSimpArgs false

theorem bufferNotes_ev (b:Buf) (a:Arena) (p q:Int) (gb:GBuf b) (ga:GArena a) (wp:inK .u8 p) (wq:inK .u8 q):law16_BufferNotes_raw b a p q true:=by
 refine ⟨fun h=>(by cases h),fun _=>⟨fun c=>?_,fun _=>rfl,fun f1=>?_⟩⟩
 ·have f2:fewB b=true∧fewA a=true:=by revert c; cases fewB b <;> cases fewA a <;> simp
  exact fewA_sma f2.2
 rw [checkA_ne] at f1
 have f2:fewB b=true∧fewA a=true∧arOk a=true∧((a.slots.length:Int)==0)=false:=by revert f1; cases fewB b <;> cases fewA a <;> cases arOk a <;> cases ((a.slots.length:Int)==0) <;> simp
 obtain ⟨f3,f4,ho,hne⟩:=f2
 have s0:=fewB_smB f3
 have n0:=fewB_smN f3
 have sa:=fewA_sma f4
 obtain ⟨n,hn,hn1,hn8⟩:=size8 wp
 have hpos:0<a.slots.length:=List.length_pos_iff.2 (by simpa using hne)
 obtain ⟨i,hi,hil⟩:=at_slot wq hpos
 have hx:nth a.slots (i:Int)∈a.slots:=by rw [nth_nat]; exact getD_mem' hil
 rw [hn,hi]
 refine ⟨s0,sa,_,rfl,hne,⟨by omega,by omega⟩,fun _=>rfl,fun hf=>?_⟩
 have hf':(mendB b a (n:Int)).first≤2147483600:=by simp at hf; omega
 have hmo:okB (mendB b a (n:Int)) a (n:Int)=true:=mend_ok ho (by omega)
 obtain ⟨hk,hok⟩:=note_ok hmo hn1 hn8 hx hf'
 rw [← note_mend ho (by omega)] at hk
 have hlen:=(okB_iff.1 hmo).2.2.1
 have hle:=(mendB_bound b a (n:Int)).2.1
 generalize hM:mendB b a (n:Int)=M at *
 refine ⟨n0,sa,_,rfl,?_⟩
 rw [hk]
 have hg:M.names.length + 1 - n≤1:=by omega
 have hcl:((M.names++[(⟨(nth a.slots (i:Int)).val.kind,(nth a.slots (i:Int)).key⟩:Nm)]).drop (M.names.length + 1 - n)).length=M.names.length + 1 - (M.names.length + 1 - n):=by simp
 have hgone:IntKind.i64.wrap (IntKind.i64.wrap ((M.names.length:Int) + 1) - (((M.names++[(⟨(nth a.slots (i:Int)).val.kind,(nth a.slots (i:Int)).key⟩:Nm)]).drop (M.names.length + 1 - n)).length:Int))=((M.names.length + 1 - n:Nat):Int):=by
  rw [wrap64 (n:=(M.names.length:Int) + 1) (by omega) (by omega),hcl,wrap64 (by omega) (by omega)]; omega
 simp only [hgone]
 have hfst:IntKind.i64.wrap (M.first + ((M.names.length + 1 - n:Nat):Int))=M.first + ((M.names.length + 1 - n:Nat):Int):=wrap64 (by omega) (by omega)
 simp only [hfst]
 refine ⟨fun c=>?_,fun _=>?_⟩
 ·exfalso
  simp only [Bool.or_eq_true,decide_eq_true_eq,bne_self_eq_false,hcl] at c
  simp at c
  omega
 ·have hget:∀ j,j + (M.names.length + 1 - n)<M.names.length→((M.names++[(⟨(nth a.slots (i:Int)).val.kind,(nth a.slots (i:Int)).key⟩:Nm)]).drop (M.names.length + 1 - n)).getD j default=M.names.getD (j + (M.names.length + 1 - n)) default:=fun j hj=>by
   rw [List.getD_eq_getElem?_getD,List.getD_eq_getElem?_getD,List.getElem?_drop,List.getElem?_append_left (by omega),Nat.add_comm]
  have hlast:((M.names++[(⟨(nth a.slots (i:Int)).val.kind,(nth a.slots (i:Int)).key⟩:Nm)]).drop (M.names.length + 1 - n)).getD (M.names.length - (M.names.length + 1 - n)) default=⟨(nth a.slots (i:Int)).val.kind,(nth a.slots (i:Int)).key⟩:=by
   rw [List.getD_eq_getElem?_getD,List.getElem?_drop,List.getElem?_append_right (by omega)]
   have:M.names.length + 1 - n + (M.names.length - (M.names.length + 1 - n)) - M.names.length=0:=by omega
   rw [this]; rfl
  generalize (M.names++[(⟨(nth a.slots (i:Int)).val.kind,(nth a.slots (i:Int)).key⟩:Nm)]).drop (M.names.length + 1 - n)=C at *
  obtain ⟨x,hx2,h2⟩:=loop_scan (body:=law16_BufferNotes_b188 M ⟨M.epoch,M.first + ((M.names.length + 1 - n:Nat):Int),C⟩) (C.length - 1) (fun _=>true) (fun _=>true)
   (fun j hj _=>by
    have e1:IntKind.i64.wrap ((j:Int) + 1)=((j + 1:Nat):Int):=by rw [wrap64 (by omega) (by omega)]; rfl
    have e2:IntKind.i64.wrap ((j:Int) + ((M.names.length + 1 - n:Nat):Int))=((j + (M.names.length + 1 - n):Nat):Int):=by rw [wrap64 (by omega) (by omega)]; omega
    unfold law16_BufferNotes_b188
    simp only [hgone,e1,e2,nth_nat]
    refine ⟨fun _=>⟨⟨by omega,by omega⟩,⟨by omega,by omega⟩,fun c=>?_,fun _=>trivial⟩,fun c=>by simp at c; omega⟩
    rw [hget j (by omega)] at c; simp at c)
   (fun j hj hp=>by cases hp) ⟨fun c=>by
    have e1:IntKind.i64.wrap (((C.length - 1:Nat):Int) + 1)=(C.length:Int):=by rw [wrap64 (by omega) (by omega)]; omega
    simp only [e1] at c; simp at c,fun _=>rfl⟩
  refine ⟨x,hx2,fun s e=>?_,fun y e=>?_⟩
  ·have e1:IntKind.i64.wrap ((C.length:Int) - 1)=((M.names.length - (M.names.length + 1 - n):Nat):Int):=by rw [wrap64 (by omega) (by omega)]; omega
   simp only [e1,nth_nat C,hlast]
   refine ⟨⟨by omega,by omega⟩,?_⟩
   simp only [beq_self_eq_true,Bool.true_and]
   symm
   rw [beq_iff_eq,Bool.eq_iff_iff]; simp; omega
  ·rcases h2 with ⟨h3,_⟩ | ⟨j,_,h4,_⟩
   ·rw [e] at h3; cases h3
   ·cases h4
end Go.Proofs.Ytpopikeebobjnaa
