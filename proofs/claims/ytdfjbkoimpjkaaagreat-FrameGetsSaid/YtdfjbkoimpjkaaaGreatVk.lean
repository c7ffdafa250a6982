/- The reference's frame of bytes is the program's. -/
import Derived.Test.YtdfjbkoimpjkaaaGreatVh
namespace Go.Proofs.YtdfjbkoimpjkaaaGreat
open Go Go.RowKit
set_option linter.unusedVariables false
set_option linter.unusedSimpArgs false

abbrev stG (i:Nat) (l:List Ent):Int × Int × Int × Int × Int × Int × Int × Int × List Ent × List Ent:=((i:Int),(0:Int),(0:Int),(0:Int),(0:Int),(0:Int),(0:Int),(0:Int),([]:List Ent),l)
theorem cut_mid (t:Str) (a b:Nat) (h:a≤b):cut t (a:Int) (b:Int)=(t.drop a).take (b - a):=by
 unfold cut
 simp [List.drop_take]
theorem refGet_loop (x2:Str × Int) (n:Nat) (hl:x2.1.length=26 + 42 * n) (hn:n<256):∀ m i,i + m=n→∃ y,LoopR (ref14_Get_b55 x2 (n:Int)) (stG i (entsG i (x2.1.drop 26))) y ∧
  ((y=.inl (stG n (entsG n (x2.1.drop 26)))∧∀ j,i≤j→j<n→(getE (((x2.1.drop 26).drop (42 * j)).take 42)).2=0)∨(y=.inr (frm0,2)∧∃ j,j<n∧¬ (getE (((x2.1.drop 26).drop (42 * j)).take 42)).2=0))
 | 0,i,h=>by
  obtain rfl:i=n:=by omega
  exact ⟨_,.done ⟨fun c=>by simp at c,fun _=>rfl⟩,.inl ⟨rfl,fun j h1 h2=>by omega⟩⟩
 | m + 1,i,h=>by
  have hi:i<n:=by omega
  have e1:IntKind.i64.wrap ((42:Int) * (i:Int))=((42 * i:Nat):Int):=by rw [IntKind.wrap_i64]; omega
  have e2:IntKind.i64.wrap ((26:Int) + ((42 * i:Nat):Int))=((26 + 42 * i:Nat):Int):=by rw [IntKind.wrap_i64]; omega
  have e3:IntKind.i64.wrap ((68:Int) + ((42 * i:Nat):Int))=((68 + 42 * i:Nat):Int):=by rw [IntKind.wrap_i64]; omega
  have e4:cut x2.1 ((26 + 42 * i:Nat):Int) ((68 + 42 * i:Nat):Int)=((x2.1.drop 26).drop (42 * i)).take 42:=by
   rw [cut_mid _ _ _ (by omega),List.drop_drop,show 68 + 42 * i - (26 + 42 * i)=42 by omega]
  have e5:IntKind.i64.wrap ((i:Int) + (1:Int))=((i + 1:Nat):Int):=by rw [IntKind.wrap_i64]; omega
  have hel:=entsG_len i (x2.1.drop 26)
  cases hc:((getE (((x2.1.drop 26).drop (42 * i)).take 42)).2 != 0) with
  | true =>
   refine ⟨.inr (frm0,2),.done ⟨fun _=>?_,fun c=>by simp at c; omega⟩,.inr ⟨rfl,i,hi,by simpa using hc⟩⟩
   simp only [e1,e2,e3,e4]
   exact ⟨⟨by omega,by omega,by omega⟩,_,rfl,fun _=>rfl,fun c=>(by rw [hc] at c; cases c)⟩
  | false =>
   obtain ⟨y,h1,h2⟩:=refGet_loop x2 n hl hn m (i + 1) (by omega)
   rw [entsG_snoc] at h1
   refine ⟨y,.step ⟨fun _=>?_,fun c=>by simp at c; omega⟩ h1,?_⟩
   ·simp only [e1,e2,e3,e4,e5]
    exact ⟨⟨by omega,by omega,by omega⟩,_,rfl,fun c=>(by rw [hc] at c; cases c),fun _=>⟨by rw [hel]; omega,rfl⟩⟩
   ·rcases h2 with ⟨h2,h3⟩ | h2
    ·refine .inl ⟨h2,fun j hj1 hj2=>?_⟩
     rcases Nat.lt_or_ge i j with hj | hj
     ·exact h3 j (by omega) hj2
     ·rw [show j=i by omega]; simpa using hc
    ·exact .inr h2
theorem refGetFr_ev (s:Str) (h:s.length≤1000000000):ref14_Get_raw s (getFr s):=by
 refine ⟨h,_,rfl,fun hc=>?_,fun hc=>?_⟩
 ·refine getFr_bad ?_
  rcases Bool.or_eq_true_iff.1 hc with h1 | h1
  ·rw [h1]; rfl
  ·have:(openC s).1.length<26:=by have:=of_decide_eq_true h1; omega
   simp [badF,this]
 ·have h0:(openC s).2=0:=by simpa using (Bool.or_eq_false_iff.1 hc).1
  have h26:26≤(openC s).1.length:=by have:=of_decide_eq_false (Bool.or_eq_false_iff.1 hc).2; omega
  have htl:(openC s).1.length≤1000000000:=by
   unfold openC
   cases decide ((s.length:Int)<4) with
   | true=>exact Nat.zero_le _
   | false =>
    cases !(sealC (s.take (s.length - 4))==s) with
    | true=>exact Nat.zero_le _
    | false=>show (s.take (s.length - 4)).length≤_; rw [List.length_take]; omega
  have hcut:cut (openC s).1 (9:Int) (25:Int)=((openC s).1.drop 9).take 16:=cut_mid _ 9 25 (by decide)
  have g1:(getO (openC s).1 (0:Int) (1:Int)).1=(leN ((openC s).1.take 1):Int):=by
   have:=getO_in (openC s).1 0 1 (by omega) (by decide) (by decide)
   rwa [List.drop_zero] at this
  have g2:(getO (openC s).1 (1:Int) (4:Int)).1=(leN (((openC s).1.drop 1).take 4):Int):=getO_in (openC s).1 1 4 (by omega) (by decide) (by decide)
  have g3:(getO (openC s).1 (5:Int) (4:Int)).1=(leN (((openC s).1.drop 5).take 4):Int):=getO_in (openC s).1 5 4 (by omega) (by decide) (by decide)
  have g4:(getO (openC s).1 (25:Int) (1:Int)).1=(cntG (openC s).1:Int):=getO_in (openC s).1 25 1 (by omega) (by decide) (by decide)
  rw [hcut]
  refine ⟨⟨by omega,by omega,by omega⟩,_,rfl,_,⟨by omega,_,rfl,g1.symm⟩,_,⟨by omega,_,rfl,g2.symm⟩,_,⟨by omega,_,rfl,g3.symm⟩,_,⟨by omega,_,rfl,g4.symm⟩,?_⟩
  have hn:=cntG_lt (openC s).1
  have e1:IntKind.i64.wrap ((42:Int) * (cntG (openC s).1:Int))=((42 * cntG (openC s).1:Nat):Int):=by rw [IntKind.wrap_i64]; omega
  have e2:IntKind.i64.wrap ((26:Int) + ((42 * cntG (openC s).1:Nat):Int))=((26 + 42 * cntG (openC s).1:Nat):Int):=by rw [IntKind.wrap_i64]; omega
  rw [e1,e2]
  refine ⟨fun hd=>getFr_len ?_,fun hd=>?_⟩
  ·intro c; rw [c] at hd; simp at hd
  ·have hlen:(openC s).1.length=26 + 42 * cntG (openC s).1:=by
    have:((openC s).1.length:Int)=((26 + 42 * cntG (openC s).1:Nat):Int):=by simpa using hd
    omega
   obtain ⟨y,h1,h2⟩:=refGet_loop (openC s) (cntG (openC s).1) hlen hn (cntG (openC s).1) 0 (by omega)
   have hR:(⟨(leN ((openC s).1.take 1):Int),(leN (((openC s).1.drop 1).take 4):Int),(leN (((openC s).1.drop 5).take 4):Int),(getD (((openC s).1.drop 9).take 16)).1,entsG (cntG (openC s).1) ((openC s).1.drop 26)⟩:Frm)=readF (openC s).1:=rfl
   refine ⟨y,h1,fun sx e=>?_,fun yx e=>?_⟩
   ·rcases h2 with ⟨h2,h3⟩ | ⟨h2,_⟩
    ·rw [e] at h2; cases h2
     have h3':∀ j,j<cntG (openC s).1→(getE ((((openC s).1.drop 26).drop (42 * j)).take 42)).2=0:=fun j hj=>h3 j (Nat.zero_le _) hj
     show sml (readF (openC s).1).entries∧_
     refine ⟨sml_readF _,readF_len _,maxS_getD _,okFr (readF (openC s).1),rfl,fun hx=>?_,fun hx=>?_⟩
     ·exact getFr_check (by simpa using hx)
     ·exact getFr_ok h0 hlen h3' (by simpa using hx)
    ·rw [e] at h2; cases h2
   ·rcases h2 with ⟨h2,_⟩ | ⟨h2,j,hj,h3⟩
    ·rw [e] at h2; cases h2
    ·rw [e] at h2; cases h2
     exact getFr_ent hj h3
end Go.Proofs.YtdfjbkoimpjkaaaGreat
