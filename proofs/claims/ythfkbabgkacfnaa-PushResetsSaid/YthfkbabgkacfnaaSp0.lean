/- Push: what is told, what is told back, what is done then. -/
import Derived.Test.YthfkbabgkacfnaaPx
import Derived.Test.YthfkbabgkacfnaaSe20
namespace Go.Proofs.Ythfkbabgkacfnaa
open Go Go.RowKit
set_option linter.unusedVariables false
set_option linter.unusedSimpArgs false

theorem size4 {n:Int} (h:inK .u8 n):∃ m:Nat,IntKind.i64.wrap ((Int.tmod (IntKind.i64.wrap n) (4:Int)) + (1:Int))=(m:Int)∧1≤m∧m≤4:=by
 have:=inK_u8 h
 rw [wrap64 (n:=n) (by omega) (by omega)]
 obtain ⟨k,rfl⟩:=Int.eq_ofNat_of_zero_le this.1
 have e:Int.tmod ((k:Nat):Int) 4=((k % 4:Nat):Int):=by simp [Int.tmod]
 rw [e,wrap64 (by omega) (by omega)]
 exact ⟨k % 4 + 1,by omega,by omega,by omega⟩
def slotA (a:Arena) (x:Nm):Ent:=nth a.slots (findA a x.kind x.key)
theorem slot_in {a:Arena} {x:Nm} (h:0≤findA a x.kind x.key):slotA a x∈a.slots:=by
 have:=find_lt (a:=a) x.kind x.key
 exact getD_mem' (by omega)
theorem slot_name {a:Arena} {x:Nm} (ho:arOk a=true) (h:0≤findA a x.kind x.key):(slotA a x).key=x.key∧(slotA a x).val.kind=x.kind:=by
 unfold slotA
 rw [findA_ok' ho] at h ⊢
 rcases findL_cs a.slots x.kind x.key with ⟨h1,h2⟩ | ⟨i,h1,h2,h3⟩
 ·rw [h1] at h; omega
 ·rw [h2,nth_nat]
  simp only [isN,Bool.and_eq_true,beq_iff_eq] at h3
  exact ⟨h3.2,h3.1⟩
theorem some_of {M:Buf} {a:Arena} {m:Int} (hM:okB M a m=true) (c:Int):someB M a m c=(M.names.take c.toNat).map (slotA a):=by
 unfold someB; rw [mend_of hM]; rfl
theorem all_some {M:Buf} {a:Arena} {m:Int} (hM:okB M a m=true) (c:Int):(someB M a m c).all okE=true:=by
 rw [some_of hM,List.all_eq_true]
 intro e he
 obtain ⟨x,hx,rfl⟩:=List.mem_map.1 he
 have h5:=(okB_iff.1 hM).2.2.2
 exact (arOk_iff.1 h5.1).2.1 _ (slot_in (h5.2 x (List.mem_of_mem_take hx)))
theorem some_len {M:Buf} {a:Arena} {m:Int} (hM:okB M a m=true) (c:Int):(someB M a m c).length=min c.toNat M.names.length:=by
 rw [some_of hM]; simp
/-- What is told is a frame. -/
theorem send_frame {M : Buf} {a : Arena} {m : Nat} (hM : okB M a (m : Int) = true) (hm : m ≤ 8) (c : Int) : checkF (sendM M a (m : Int) c) = 0 := by
  obtain ⟨h1, h2, h3, h4, h5⟩ := okB_iff.1 hM
  have hh : headF (sendM M a (m : Int) c) = true := by
    have e1 : hasM formsL 1 = true := by decide
    have e2 : formF 1 = ⟨0, 2147483647, 2147483647, false, true⟩ := rfl
    have e3 : ((putD [(0 : Int), (0 : Int), (0 : Int), (0 : Int)]).2 == (0 : Int)) = true := by decide +kernel
    have e4 : noSums [(0 : Int), (0 : Int), (0 : Int), (0 : Int)] = true := by decide
    unfold headF sendM
    simp only [e1, e2, e3, e4, Bool.true_and, Bool.and_true, Bool.false_or, Bool.or_true, Bool.true_or, Bool.and_eq_true, decide_eq_true_eq]
    omega
  have hl := some_len hM c
  have hl2 : decide ((8 : Int) < ((sendM M a (m : Int) c).entries.length : Int)) = false := by
    show decide ((8 : Int) < ((someB M a (m : Int) c).length : Int)) = false
    simp; omega
  have ha : oddE (sendM M a (m : Int) c).entries = false := by
    show oddE (someB M a (m : Int) c) = false
    unfold oddE; rw [all_some hM]; rfl
  unfold checkF oddF
  rw [hh, hl2, ha]; rfl
def ackF (M:Buf) (k:Nat):Frm:=⟨(2:Int),M.epoch,M.first + (k:Int),[(0:Int),(0:Int),(0:Int),(0:Int)],([]:List Ent)⟩
theorem ack_frame {M:Buf} {a:Arena} {m:Nat} (hM:okB M a (m:Int)=true) {k:Nat} (hk:k≤M.names.length):checkF (ackF M k)=0:=by
 obtain ⟨h1,h2,h3,h4,h5⟩:=okB_iff.1 hM
 have hh:headF (ackF M k)=true:=by
  have e1:hasM formsL 2=true:=by decide
  have e2:formF 2=⟨0,2147483647,2147483647,false,false⟩:=rfl
  have e3:((putD [(0:Int),(0:Int),(0:Int),(0:Int)]).2==(0:Int))=true:=by decide +kernel
  have e4:noSums [(0:Int),(0:Int),(0:Int),(0:Int)]=true:=by decide
  unfold headF ackF
  simp only [e1,e2,e3,e4,Bool.true_and,Bool.and_true,Bool.false_or,Bool.or_true,Bool.true_or,Bool.and_eq_true,decide_eq_true_eq,List.length_nil,Int.natCast_zero,beq_self_eq_true]
  omega
 have ha:oddE (ackF M k).entries=false:=rfl
 have hl2:decide ((8:Int)<((ackF M k).entries.length:Int))=false:=rfl
 unfold checkF oddF
 rw [hh,hl2,ha]; rfl
/-- The three together, of a buffer that may be. -/
theorem send_empty {b : Buf} {a : Arena} {m : Int} {c : Int} (h : (mendB b a m).names = []) : sendP b a m c = (frm0, false) := by
  unfold sendP noSend; rw [h]; rfl
theorem send_some {b:Buf} {a:Arena} {m:Int} {c:Nat} (h:(mendB b a m).names≠[]) (h1:1≤c) (h8:c≤8):sendP b a m (c:Int)=(sendM (mendB b a m) a m (c:Int),true):=by
 have hl:0<(mendB b a m).names.length:=List.length_pos_iff.2 h
 have:noSend (mendB b a m) (c:Int)=false:=by unfold noSend; simp [h]; omega
 unfold sendP; rw [this]; rfl
theorem heard_send {M:Buf} {a:Arena} {m c:Nat} (hM:okB M a (m:Int)=true) (hm:m≤8):heardP (sendM M a (m:Int) (c:Int))=(ackF M (min c M.names.length),true):=by
 obtain ⟨h1,h2,h3,h4,h5⟩:=okB_iff.1 hM
 have e1:isP (sendM M a (m:Int) (c:Int)) 1=true:=by unfold isP; rw [send_frame hM hm]; rfl
 have e2:uptoP (sendM M a (m:Int) (c:Int))=M.first + ((min c M.names.length:Nat):Int):=by
  unfold uptoP
  show IntKind.i64.wrap (M.first + ((someB M a (m:Int) (c:Int)).length:Int))=_
  rw [some_len hM]
  simp only [Int.toNat_natCast]
  rw [wrap64 (by omega) (by omega)]
 unfold heardP
 rw [e1,e2]
 have:decide ((2147483647:Int)<M.first + ((min c M.names.length:Nat):Int))=false:=by simp only [decide_eq_false_iff_not]; omega
 rw [this]; rfl
theorem done_ack {b:Buf} {a:Arena} {m:Nat} (hM:okB (mendB b a (m:Int)) a (m:Int)=true) {M:Buf} (e:mendB b a (m:Int)=M) {k:Nat} (hk:1≤k) (hk2:k≤M.names.length) :
  doneP b a (m:Int) (ackF M k)=⟨M.epoch,M.first + (k:Int),M.names.drop k⟩:=by
 rw [e] at hM
 have e1:isP (ackF M k) 2=true:=by unfold isP; rw [ack_frame hM hk2]; rfl
 unfold doneP
 rw [e1]
 show ackB b a (m:Int) M.epoch (M.first + (k:Int))=_
 unfold ackB ackM
 rw [e]
 have:((M.epoch==M.epoch&&decide (M.first<M.first + (k:Int)))&&decide (M.first + (k:Int)≤M.first + (M.names.length:Int)))=true:=by
  simp only [beq_self_eq_true,Bool.true_and,Bool.and_eq_true,decide_eq_true_eq]; omega
 rw [this]
 simp only [cond_true]
 congr 2
 omega
theorem ok_drop {M:Buf} {a:Arena} {m:Nat} (hM:okB M a (m:Int)=true) {k:Nat} (hk2:k≤M.names.length):okB ⟨M.epoch,M.first + (k:Int),M.names.drop k⟩ a (m:Int)=true:=by
 obtain ⟨h1,h2,h3,h4,h5⟩:=okB_iff.1 hM
 refine okB_iff.2 ⟨h1,⟨by show 0≤M.first + (k:Int); omega,?_⟩,?_,h4,fun n hn=>h5 n (List.mem_of_mem_drop hn)⟩
 ·show M.first + (k:Int)≤2147483647 - (((M.names.drop k).length:Nat):Int)
  rw [List.length_drop]; omega
 ·show (((M.names.drop k).length:Nat):Int)≤m
  rw [List.length_drop]; omega
theorem sml_nil:sml []:=⟨by simp,fun e h=>by cases h⟩
theorem sml_send {b:Buf} {a:Arena} (m c:Int) (hb:smB b) (ha:sma a):sml (sendP b a m c).1.entries:=by
 unfold sendP
 cases noSend (mendB b a m) c with
 | true=>exact sml_nil
 | false=>exact some_sml m c (smB_mend a m hb) ha
end Go.Proofs.Ythfkbabgkacfnaa
