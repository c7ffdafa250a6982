/- PushGoes: names go, chunk by chunk, till there are none. -/
import Derived.Test.YthfkbabgkacfnaaGfGoes
import Derived.Test.YthfkbabgkacfnaaSp0
namespace Go.Proofs.Ythfkbabgkacfnaa
open Go Go.RowKit
set_option linter.unusedVariables false
set_option linter.unusedSimpArgs false

theorem pushGoes_ev (b:Buf) (a:Arena) (p q:Int) (gb:GBuf b) (ga:GArena a) (wp:inK .u8 p) (wq:inK .u8 q):law17_PushGoes_raw b a p q true:=by
 refine ⟨fun h=>(by cases h),fun _=>⟨fun c=>?_,fun _=>rfl,fun f1=>?_⟩⟩
 ·have f2:fewB b=true∧fewA a=true:=by revert c; cases fewB b <;> cases fewA a <;> simp
  exact fewA_sma f2.2
 rw [checkA_ne] at f1
 have f2:fewB b=true∧fewA a=true∧arOk a=true:=by revert f1; cases fewB b <;> cases fewA a <;> cases arOk a <;> simp
 obtain ⟨f3,f4,ho⟩:=f2
 have s0:=fewB_smB f3
 have sa:=fewA_sma f4
 obtain ⟨m,hm,hm1,hm8⟩:=size8 wp
 obtain ⟨c,hc,hc1,hc4⟩:=size4 wq
 rw [hm]
 refine ⟨s0,sa,_,rfl,?_⟩
 have hMo:okB (mendB b a (m:Int)) a (m:Int)=true:=mend_ok ho (by omega)
 have hM:=okB_iff.1 hMo
 generalize hMe:mendB b a (m:Int)=M at *
 obtain ⟨hE,hF,hN,_,hA⟩:=hM
 let Inv:Int × Int × Int × Int × List Nm→Prop:=fun s=>∃ k i:Nat,k≤M.names.length∧(i≤k∨k=M.names.length)∧i≤M.names.length∧s.1=(k:Int)∧s.2.1=(i:Int)∧s.2.2.2.2.length≤100∧mendB ⟨s.2.2.1,s.2.2.2.1,s.2.2.2.2⟩ a (m:Int)=⟨M.epoch,M.first + (k:Int),M.names.drop k⟩
 obtain ⟨x,hx,hq⟩:=loop_run (body:=law17_PushGoes_b70 a p q M) (fun s=>M.names.length - s.1.toNat) Inv (fun x=>x=.inr true) (by
  rintro ⟨t,i,ep,fr,bn⟩ ⟨k,i,hk,hik,hi,h1,h2,h3,h4⟩
  simp only at h1 h2 h3 h4
  subst h1
  subst h2
  have hsm:smB ⟨ep,fr,bn⟩:=Nat.le_trans (m:=100) h3 (by decide)
  have hko:=ok_drop hMo hk
  have hbo:okB (mendB ⟨ep,fr,bn⟩ a (m:Int)) a (m:Int)=true:=by rw [h4]; exact hko
  have hi9:decide ((i:Int)<(9:Int))=true:=by rw [decide_eq_true_eq]; omega
  by_cases hlt:k<M.names.length
  ·have hdl:(M.names.drop k).length=M.names.length - k:=List.length_drop
   have hne:(mendB ⟨ep,fr,bn⟩ a (m:Int)).names≠[]:=by rw [h4]; intro e; have:=congrArg List.length e; simp at this; omega
   have hs:=send_some (c:=c) hne (by omega) (by omega)
   rw [h4] at hs
   have hh:=heard_send (c:=c) hko hm8
   have hr:=some_len hko (c:Int)
   generalize hkk:min c (M.names.drop k).length=r at *
   have hr1:1≤r:=by omega
   have hr2:r≤(M.names.drop k).length:=by omega
   have hrc:r≤c:=by omega
   have hd:=done_ack hbo h4 (k:=r) hr1 hr2
   have hok1:=ok_drop hko (k:=r) hr2
   have hsl:=sml_send (b:=⟨ep,fr,bn⟩) (a:=a) (m:Int) (c:Int) hsm sa
   have hlen:(sendM ⟨M.epoch,M.first + (k:Int),M.names.drop k⟩ a (m:Int) (c:Int)).entries.length=r:=by
    show (someB _ _ _ _).length=r
    rw [hr,Int.toNat_natCast,hkk]
   have hcf:=send_frame hko hm8 (c:Int)
   have hca:=ack_frame hko hr2
   generalize hFd:sendM ⟨M.epoch,M.first + (k:Int),M.names.drop k⟩ a (m:Int) (c:Int)=F at *
   generalize hGd:ackF ⟨M.epoch,M.first + (k:Int),M.names.drop k⟩ r=A at *
   have hge:A.entries=[]:=by rw [← hGd]; rfl
   rw [hs] at hsl
   have hle:F.entries.length≤1000000:=by omega
   refine .inl ⟨(((k + r:Nat):Int),((i + 1:Nat):Int),(doneP ⟨ep,fr,bn⟩ a (m:Int) A).epoch,(doneP ⟨ep,fr,bn⟩ a (m:Int) A).first,(doneP ⟨ep,fr,bn⟩ a (m:Int) A).names),⟨fun _=>?_,fun cc=>by rw [hi9] at cc; cases cc⟩,⟨k + r,i + 1,by omega,by omega,by omega,rfl,rfl,?_,?_⟩,by simp; omega⟩
   ·simp only [hm,hc]
    refine ⟨hsm,sa,_,hs.symm,fun cc=>(by cases cc),fun _=>⟨hsl,hle,_,hh.symm,hsl,hle,fun _=>by rw [hge]; exact sml_nil,fun _=>by rw [hge]; exact Nat.zero_le _,fun cc=>?_,fun _=>⟨hsm,sa,by rw [hge]; exact sml_nil,by rw [hge]; exact Nat.zero_le _,_,rfl,?_⟩⟩⟩
    ·exfalso
     have cc':(((((checkF F != (0:Int))||!true)||(checkF A != (0:Int)))||decide ((F.entries.length:Int)<1))||decide ((c:Int)<(F.entries.length:Int)))=true:=cc
     rw [hcf,hca,hlen] at cc'
     simp at cc'; omega
    ·have e1:IntKind.i64.wrap ((k:Int) + (F.entries.length:Int))=((k + r:Nat):Int):=by rw [hlen,wrap64 (by omega) (by omega)]; omega
     have e2:IntKind.i64.wrap ((i:Int) + (1:Int))=((i + 1:Nat):Int):=wrapS (n:=i + 1) (by omega) (by omega)
     rw [e1,e2]
   ·show (doneP ⟨ep,fr,bn⟩ a (m:Int) A).names.length≤100
    rw [hd]; simp; omega
   ·show mendB (doneP ⟨ep,fr,bn⟩ a (m:Int) A) a (m:Int)=_
    rw [hd,mend_of hok1]
    simp only [List.drop_drop,Buf.mk.injEq,true_and]
    exact ⟨by omega,trivial⟩
  ·obtain rfl:k=M.names.length:=by omega
   have he:(mendB ⟨ep,fr,bn⟩ a (m:Int)).names=[]:=by rw [h4]; simp
   have hs:=send_empty (c:=(c:Int)) he
   refine .inr ⟨.inr true,⟨fun _=>?_,fun cc=>by rw [hi9] at cc; cases cc⟩,rfl⟩
   simp only [hm,hc]
   refine ⟨hsm,sa,_,hs.symm,fun _=>⟨fun _=>⟨hsm,sa,_,rfl,?_⟩,fun cc=>by simp at cc⟩,fun cc=>(by cases cc)⟩
   rw [he]; rfl) (0,0,b.epoch,b.first,b.names) ⟨0,0,Nat.zero_le _,.inl (Nat.le_refl _),Nat.zero_le _,rfl,rfl,by have:=fewB_len f3; show b.names.length≤100; omega,by
   have:(⟨b.epoch,b.first,b.names⟩:Buf)=b:=rfl
   show mendB ⟨b.epoch,b.first,b.names⟩ a (m:Int)=_
   rw [this,hMe]; simp⟩
 refine ⟨_,hx,fun s' e=>?_,fun y e=>?_⟩
 ·rw [hq] at e; cases e
 ·rw [hq] at e; cases e; rfl
end Go.Proofs.Ythfkbabgkacfnaa
