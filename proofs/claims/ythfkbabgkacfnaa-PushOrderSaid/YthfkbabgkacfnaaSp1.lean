/- PushOrder: all names are told in their order, each by its own number. -/
import Derived.Test.YthfkbabgkacfnaaGfOrder
import Derived.Test.YthfkbabgkacfnaaSp0
namespace Go.Proofs.Ythfkbabgkacfnaa
open Go Go.RowKit
set_option linter.unusedVariables false
set_option linter.unusedSimpArgs false

theorem pushOrder_ev (b:Buf) (a:Arena) (p:Int) (gb:GBuf b) (ga:GArena a) (wp:inK .u8 p):law17_PushOrder_raw b a p true:=by
 refine ⟨fun h=>(by cases h),fun _=>⟨fun c=>?_,fun _=>rfl,fun f1=>?_⟩⟩
 ·have f2:fewB b=true∧fewA a=true:=by revert c; cases fewB b <;> cases fewA a <;> simp
  exact fewA_sma f2.2
 rw [checkA_ne] at f1
 have f2:fewB b=true∧fewA a=true∧arOk a=true:=by revert f1; cases fewB b <;> cases fewA a <;> cases arOk a <;> simp
 obtain ⟨f3,f4,ho⟩:=f2
 have s0:=fewB_smB f3
 have sa:=fewA_sma f4
 obtain ⟨m,hm,hm1,hm8⟩:=size8 wp
 rw [hm]
 refine ⟨s0,sa,_,rfl,?_⟩
 have hMo:okB (mendB b a (m:Int)) a (m:Int)=true:=mend_ok ho (by omega)
 have hM:=okB_iff.1 hMo
 generalize hMe:mendB b a (m:Int)=M at *
 obtain ⟨hE,hF,hN,_,hA⟩:=hM
 let Inv:Int × Int × Int × List Nm→Prop:=fun s=>∃ k:Nat,k≤M.names.length∧s.1=(k:Int)∧s.2.2.2.length≤100∧mendB ⟨s.2.1,s.2.2.1,s.2.2.2⟩ a (m:Int)=⟨M.epoch,M.first + (k:Int),M.names.drop k⟩
 obtain ⟨x,hx,hq⟩:=loop_run (body:=law17_PushOrder_b70 a p M) (fun s=>M.names.length - s.1.toNat) Inv (fun x=>∃ s,x=.inl s∧Inv s∧s.1=(M.names.length:Int)) (by
  rintro ⟨i,ep,fr,bn⟩ ⟨k,hk,h1,h3,h4⟩
  simp only at h1 h3 h4
  subst h1
  by_cases hlt:k<M.names.length
  ·have hko:=ok_drop hMo hk
   have hbo:okB (mendB ⟨ep,fr,bn⟩ a (m:Int)) a (m:Int)=true:=by rw [h4]; exact hko
   have hdl:(M.names.drop k).length=M.names.length - k:=List.length_drop
   have hne:(mendB ⟨ep,fr,bn⟩ a (m:Int)).names≠[]:=by rw [h4]; intro e; have:=congrArg List.length e; simp at this; omega
   have hs:=send_some (c:=1) hne (by omega) (by omega)
   rw [h4] at hs
   have hh:=heard_send (c:=1) hko hm8
   have hmin:min 1 (M.names.drop k).length=1:=by omega
   simp only [hmin] at hh
   have hd:=done_ack hbo h4 (k:=1) (Nat.le_refl _) (by show 1≤(M.names.drop k).length; omega)
   have hok1:=ok_drop hko (k:=1) (by show 1≤(M.names.drop k).length; omega)
   have hsm:smB ⟨ep,fr,bn⟩:=Nat.le_trans (m:=100) h3 (by decide)
   have hsl:=sml_send (b:=⟨ep,fr,bn⟩) (a:=a) (m:Int) ((1:Nat):Int) hsm sa
   have hel:(someB ⟨M.epoch,M.first + (k:Int),M.names.drop k⟩ a (m:Int) ((1:Nat):Int))=[slotA a (nth M.names (k:Int))]:=by
    rw [some_of hko]
    have e:M.names.drop k=M.names.getD k default::M.names.drop (k + 1):=by
     rw [List.drop_eq_getElem_cons hlt]; simp [hlt]
    simp only [e,nth_nat]; rfl
   have hin:=hA (nth M.names (k:Int)) (by rw [nth_nat]; exact getD_mem' hlt)
   have hnm:=slot_name ho hin
   have hw:IntKind.i64.wrap (M.first + (k:Int))=M.first + (k:Int):=wrap64 (by omega) (by omega)
   refine .inl ⟨(((k + 1:Nat):Int),(doneP ⟨ep,fr,bn⟩ a (m:Int) (ackF ⟨M.epoch,M.first + (k:Int),M.names.drop k⟩ 1)).epoch,(doneP ⟨ep,fr,bn⟩ a (m:Int) (ackF ⟨M.epoch,M.first + (k:Int),M.names.drop k⟩ 1)).first,(doneP ⟨ep,fr,bn⟩ a (m:Int) (ackF ⟨M.epoch,M.first + (k:Int),M.names.drop k⟩ 1)).names),⟨fun _=>?_,fun c=>by simp at c; omega⟩,⟨k + 1,by omega,rfl,?_,?_⟩,by simp; omega⟩
   ·simp only [hm]
    rw [hs] at hsl
    refine ⟨hsm,sa,_,hs.symm,hsl,by show (someB _ _ _ _).length≤_; rw [hel]; simp,_,hh.symm,fun c=>(by cases c),fun _=>⟨fun c=>(by cases c),fun _=>⟨fun c=>?_,fun _=>⟨fun c=>?_,fun _=>⟨fun c=>?_,fun _=>⟨fun c=>?_,fun _=>?_⟩⟩⟩⟩⟩⟩
    ·exfalso; rw [hw] at c
     have c':((M.first + (k:Int)) != (M.first + (k:Int)))=true:=c
     simp at c'
    ·exfalso
     have c':(M.epoch != M.epoch)=true:=c
     simp at c'
    ·exfalso
     have c':(((someB ⟨M.epoch,M.first + (k:Int),M.names.drop k⟩ a (m:Int) ((1:Nat):Int)).length:Int) != 1)=true:=c
     rw [hel] at c'; simp at c'
    ·exfalso
     have c':(!((nth (someB ⟨M.epoch,M.first + (k:Int),M.names.drop k⟩ a (m:Int) ((1:Nat):Int)) (0:Int)).key==(nth M.names (k:Int)).key))=true:=c
     rw [hel] at c'
     have:(nth [slotA a (nth M.names (k:Int))] (0:Int))=slotA a (nth M.names (k:Int)):=rfl
     rw [this,hnm.1] at c'; simp at c'
    ·have hl1:((sendM ⟨M.epoch,M.first + (k:Int),M.names.drop k⟩ a (m:Int) ((1:Nat):Int)).entries.length:Int)=1:=by
      show ((someB _ _ _ _).length:Int)=1; rw [hel]; rfl
     refine ⟨⟨by omega,by rw [hl1]; omega⟩,⟨by omega,by omega⟩,⟨by omega,by rw [hl1]; omega⟩,⟨by omega,by omega⟩,fun c=>?_,fun _=>⟨hsm,sa,sml_nil,Nat.zero_le _,_,rfl,?_⟩⟩
     ·exfalso
      have c':((nth (someB ⟨M.epoch,M.first + (k:Int),M.names.drop k⟩ a (m:Int) ((1:Nat):Int)) (0:Int)).val.kind != (nth M.names (k:Int)).kind)=true:=c
      rw [hel] at c'
      have:(nth [slotA a (nth M.names (k:Int))] (0:Int))=slotA a (nth M.names (k:Int)):=rfl
      rw [this,hnm.2] at c'; simp at c'
     ·rw [wrapS hlt (by omega)]
   ·show (doneP ⟨ep,fr,bn⟩ a (m:Int) (ackF ⟨M.epoch,M.first + (k:Int),M.names.drop k⟩ 1)).names.length≤100
    rw [hd]; simp; omega
   ·show mendB (doneP ⟨ep,fr,bn⟩ a (m:Int) (ackF ⟨M.epoch,M.first + (k:Int),M.names.drop k⟩ 1)) a (m:Int)=_
    rw [hd,mend_of hok1]
    simp only [List.drop_drop,Buf.mk.injEq,true_and]
    exact ⟨by omega,trivial⟩
  ·obtain rfl:k=M.names.length:=by omega
   exact .inr ⟨_,⟨fun c=>by simp at c,fun _=>rfl⟩,_,rfl,⟨M.names.length,Nat.le_refl _,rfl,h3,h4⟩,rfl⟩) (0,b.epoch,b.first,b.names) ⟨0,Nat.zero_le _,rfl,by have:=fewB_len f3; show b.names.length≤100; omega,by
   have:(⟨b.epoch,b.first,b.names⟩:Buf)=b:=rfl
   show mendB ⟨b.epoch,b.first,b.names⟩ a (m:Int)=_
   rw [this,hMe]; simp⟩
 obtain ⟨s,rfl,⟨k,hk,h1,h3,h4⟩,he⟩:=hq
 obtain rfl:k=M.names.length:=by omega
 refine ⟨_,hx,fun s' e=>?_,fun y e=>by cases e⟩
 cases e
 refine ⟨Nat.le_trans (m:=100) h3 (by decide),sa,_,rfl,?_⟩
 have:(mendB ⟨s.2.1,s.2.2.1,s.2.2.2⟩ a (m:Int)).names=[]:=by rw [h4]; simp
 rw [send_empty this]; rfl
end Go.Proofs.Ythfkbabgkacfnaa
