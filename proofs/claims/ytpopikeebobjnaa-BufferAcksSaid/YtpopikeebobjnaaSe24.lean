/- BufferAcks, BufferSome: names go by a number of their own epoch; the slots are those of the names. -/
import Derived.Test.YtpopikeebobjnaaGe4
import Derived.Test.YtpopikeebobjnaaSe20
namespace Go.Proofs.Ytpopikeebobjnaa
open Go Go.RowKit
set_option linter.unusedVariables false
set_option linter.unusedSimpArgs false

theorem bufferAcks_ev (b:Buf) (a:Arena) (p ep up:Int) (gb:GBuf b) (ga:GArena a) (wp:inK .u8 p) (we:inK .i64 ep) (wu:inK .i64 up):law16_BufferAcks_raw b a p ep up true:=by
 refine ⟨fun h=>(by cases h),fun _=>⟨fun c=>?_,fun _=>rfl,fun f1=>?_⟩⟩
 ·have f2:fewB b=true∧fewA a=true:=by revert c; cases fewB b <;> cases fewA a <;> simp
  exact fewA_sma f2.2
 rw [checkA_ne] at f1
 have f2:fewB b=true∧fewA a=true∧arOk a=true:=by revert f1; cases fewB b <;> cases fewA a <;> cases arOk a <;> simp
 obtain ⟨f3,f4,ho⟩:=f2
 have s0:=fewB_smB f3
 have sa:=fewA_sma f4
 obtain ⟨n,hn,hn1,hn8⟩:=size8 wp
 rw [hn]
 have s1:smB (ackB b a (n:Int) ep up):=Nat.le_trans (names_ack b a (n:Int) ep up) s0
 have hmo:okB (mendB b a (n:Int)) a (n:Int)=true:=mend_ok ho (by omega)
 have hlen:=(okB_iff.1 hmo).2.2.1
 have hfr:=(okB_iff.1 hmo).2.1
 have hao:okB (ackM (mendB b a (n:Int)) ep up) a (n:Int)=true:=ack_ok hmo
 have hw:IntKind.i64.wrap ((mendB b a (n:Int)).first + ((mendB b a (n:Int)).names.length:Int))=(mendB b a (n:Int)).first + ((mendB b a (n:Int)).names.length:Int):=wrap64 (by omega) (by omega)
 have hc:ackB b a (n:Int) ep up=ackM (mendB b a (n:Int)) ep up:=rfl
 have hcm:((mendB b a (n:Int)).epoch==ep)=(ep==(mendB b a (n:Int)).epoch):=by rw [Bool.eq_iff_iff,beq_iff_eq,beq_iff_eq]; exact eq_comm
 have hag:ackB (ackB b a (n:Int) ep up) a (n:Int) ep up=ackB b a (n:Int) ep up:=by
  rw [hc]
  unfold ackB
  rw [mend_of hao]
  cases hd:(((mendB b a (n:Int)).epoch==ep&&decide ((mendB b a (n:Int)).first<up))&&decide (up≤(mendB b a (n:Int)).first + ((mendB b a (n:Int)).names.length:Int))) with
  | false =>
   have e:ackM (mendB b a (n:Int)) ep up=mendB b a (n:Int):=by unfold ackM; rw [hd]; rfl
   rw [e,e]
  | true =>
   have e:ackM (mendB b a (n:Int)) ep up=⟨(mendB b a (n:Int)).epoch,up,(mendB b a (n:Int)).names.drop (up - (mendB b a (n:Int)).first).toNat⟩:=by unfold ackM; rw [hd]; rfl
   rw [e]
   unfold ackM
   have:decide (up<up)=false:=by simp
   simp only [this,Bool.and_false,Bool.false_and,cond_false]
 refine ⟨s0,sa,_,rfl,s0,sa,_,rfl,s1,sa,_,rfl,s1,fun _=>s1,fun c=>?_,fun _=>⟨fun c=>rfl,fun c=>⟨fun c2=>?_,fun _=>?_⟩⟩⟩
 ·exfalso
  rw [hag,sameB_self,hw,hc] at c
  simp only [Bool.not_true,Bool.false_or,Bool.and_eq_true,Bool.not_eq_true'] at c
  obtain ⟨c1,c2⟩:=c
  have hd:(((mendB b a (n:Int)).epoch==ep&&decide ((mendB b a (n:Int)).first<up))&&decide (up≤(mendB b a (n:Int)).first + ((mendB b a (n:Int)).names.length:Int)))=false:=by
   rw [hcm]; exact c1
  have e:ackM (mendB b a (n:Int)) ep up=mendB b a (n:Int):=by unfold ackM; rw [hd]; rfl
  rw [e,sameB_self] at c2; cases c2
 all_goals
  rw [hw] at c
  have hd:(((mendB b a (n:Int)).epoch==ep&&decide ((mendB b a (n:Int)).first<up))&&decide (up≤(mendB b a (n:Int)).first + ((mendB b a (n:Int)).names.length:Int)))=true:=by
   simp only [Bool.not_eq_false'] at c
   rw [hcm]; exact c
  have e:ackB b a (n:Int) ep up=⟨(mendB b a (n:Int)).epoch,up,(mendB b a (n:Int)).names.drop (up - (mendB b a (n:Int)).first).toNat⟩:=by rw [hc]; unfold ackM; rw [hd]; rfl
  simp only [Bool.and_eq_true,beq_iff_eq,decide_eq_true_eq] at hd
  have hu:IntKind.i64.wrap (up - (mendB b a (n:Int)).first)=((up - (mendB b a (n:Int)).first).toNat:Int):=by rw [wrap64 (by omega) (by omega)]; omega
 ·exfalso
  rw [e,hu] at c2
  simp only [List.length_drop,bne_self_eq_false,Bool.or_false] at c2
  rw [wrap64 (by omega) (by omega)] at c2
  simp at c2; omega
 ·rw [e]
  generalize hG:(up - (mendB b a (n:Int)).first).toNat=g at *
  generalize hM:mendB b a (n:Int)=M at *
  obtain ⟨x,hx,h2⟩:=loop_scan (body:=law16_BufferAcks_b177 up M ⟨M.epoch,up,M.names.drop g⟩) (M.names.drop g).length (fun _=>true) (fun _=>true)
   (fun j hj _=>by
    simp only [List.length_drop] at hj
    have e2:IntKind.i64.wrap ((j:Int) + (g:Int))=((j + g:Nat):Int):=by rw [wrap64 (by omega) (by omega)]; omega
    unfold law16_BufferAcks_b177
    simp only [hu,e2,nth_nat,List.length_drop]
    refine ⟨fun _=>⟨⟨by omega,by omega⟩,⟨by omega,by omega⟩,fun c=>?_,fun _=>by rw [wrap64 (by omega) (by omega)]; rfl⟩,fun c=>by simp at c; omega⟩
    have:(M.names.drop g).getD j default=M.names.getD (j + g) default:=by
     rw [List.getD_eq_getElem?_getD,List.getD_eq_getElem?_getD,List.getElem?_drop,Nat.add_comm]
    rw [this] at c; simp at c)
   (fun j hj hp=>by cases hp) ⟨fun c=>by simp at c,fun _=>rfl⟩
  refine ⟨x,hx,fun _ _=>rfl,fun y e3=>?_⟩
  rcases h2 with ⟨h3,_⟩ | ⟨j,_,h4,_⟩
  ·rw [e3] at h3; cases h3
  ·cases h4
end Go.Proofs.Ytpopikeebobjnaa
