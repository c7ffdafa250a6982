/- What is put of a frame is got again, and nothing else is: in plain Lean. -/
import Derived.Test.YtdfjbkoimpjkaaaGreatVh
import Derived.Test.YtdfjbkoimpjkaaaGreatVa
import Derived.Test.YtdfjbkoimpjkaaaGreatHm
namespace Go.Proofs.YtdfjbkoimpjkaaaGreat
open Go Go.RowKit
set_option linter.unusedVariables false
set_option linter.unusedSimpArgs false

theorem seal4 (b:Str):(putO (sumC b) 4).1.length=4∧leN (putO (sumC b) 4).1=crcN b:=by
 have h:=crcN_lt b
 rw [sumC_N]
 obtain ⟨h1,h2⟩:=num_fit (n:=(crcN b:Int)) 4 (by decide) (by decide) (by omega) (by show (crcN b:Int)<4294967296; omega)
 have h2':(leN (numF (crcN b:Int) 4):Int)=(crcN b:Int):=h2
 exact ⟨h1,by have:(leN (putO (crcN b:Int) 4).1:Int)=(crcN b:Int):=h2'; omega⟩
theorem seal_len (b:Str):(sealC b).length=b.length + 4:=by rw [sealC,List.length_append,(seal4 b).1]
theorem open_seal (b:Str):openC (sealC b)=(b,0):=by
 have hl:=seal_len b
 have ht:(sealC b).take ((sealC b).length - 4)=b:=by rw [hl,Nat.add_sub_cancel]; unfold sealC; simp
 unfold openC
 rw [ht,show decide (((sealC b).length:Int)<4)=false by rw [hl]; simp; omega]
 simp
theorem open_ok {s:Str} (h:(openC s).2=0):sealC (openC s).1=s:=by
 unfold openC at h ⊢
 cases hc:decide ((s.length:Int)<4) with
 | true=>rw [hc] at h; exact absurd (show (2:Int)=0 from h) (by decide)
 | false =>
  rw [hc] at h
  cases hd : !(sealC (s.take (s.length - 4))==s) with
  | true=>rw [hd] at h; exact absurd (show (2:Int)=0 from h) (by decide)
  | false=>simpa using hd
theorem sealed_sum {s:Str} (h:(openC s).2=0):onN 4294967295 s=bK 4 4294967295:=by
 have e:=open_ok h
 rw [← e]
 exact on_sealed _ _ (seal4 _).1 (seal4 _).2
theorem getE_putT {a:Ent} (ha:okE a=true) (hf:inU a.val.flags):getE (entT a)=(a,0):=by
 rw [(entT_42 ha).1]
 obtain ⟨_,h2,_⟩:=putT_parts ha hf
 have e:putE a=(putT a,0):=by unfold putE; rw [ha]; rfl
 unfold getE
 rw [h2,e]; simp
theorem ents_got:∀ {l:List Ent},(∀ e∈l,okE e=true∧inU e.val.flags)→entsG l.length (l.map entT).flatten=l∧∀ j,j<l.length→(getE (((l.map entT).flatten.drop (42 * j)).take 42)).2=0
 | [],_=>⟨rfl,fun j hj=>by simp at hj⟩
 | e::l,h=>by
  obtain ⟨he,hf⟩:=h e List.mem_cons_self
  have h42:=(entT_42 he).2
  obtain ⟨i1,i2⟩:=ents_got (l:=l) (fun x hx=>h x (List.mem_cons_of_mem _ hx))
  have ef:((e::l).map entT).flatten=entT e++(l.map entT).flatten:=by simp
  rw [ef]
  refine ⟨?_,fun j hj=>?_⟩
  ·show (getE ((entT e++(l.map entT).flatten).take 42)).1::entsG l.length ((entT e++(l.map entT).flatten).drop 42)=_
   rw [takeA h42,dropA h42,i1,getE_putT he hf]
  ·cases j with
   | zero=>rw [Nat.mul_zero,List.drop_zero,takeA h42,getE_putT he hf]
   | succ j =>
    rw [show 42 * (j + 1)=42 + 42 * j by omega,← List.drop_drop,dropA h42]
    exact i2 j (by simpa using hj)
/-- Sums of four, as they were put. -/
theorem sums_got {l : List Int} (h4 : l.length = 4) (h : (putD l).2 = 0) : (getD (putD l).1).1 = l := by
  obtain ⟨_, h0, h1, h2, h3⟩ := get_put h
  have hl := getD_len (putD l).1
  generalize (getD (putD l).1).1 = m at *
  match m, hl, l, h4 with
  | [a, b, c, d], _, [x, y, z, u], _ =>
    have e0 : a = x := h0
    have e1 : b = y := h1
    have e2 : c = z := h2
    have e3 : d = u := h3
    rw [e0, e1, e2, e3]
/-- The bytes of a frame, cut. -/
theorem body_cut {f : Frm} (ho : okFr f = true) : (bodyF f).take 1 = numF f.kind 1 ∧ ((bodyF f).drop 1).take 4 = numF f.a 4 ∧ ((bodyF f).drop 5).take 4 = numF f.b 4 ∧ ((bodyF f).drop 9).take 16 = (putD f.sums).1 ∧ ((bodyF f).drop 25).take 1 = numF (f.entries.length : Int) 1 ∧ (bodyF f).drop 26 = (f.entries.map entT).flatten := by
  obtain ⟨⟨k, _⟩, ⟨a, _⟩, ⟨b, _⟩, s, n, _⟩ := head_parts ho
  have e : bodyF f = numF f.kind 1 ++ (numF f.a 4 ++ (numF f.b 4 ++ ((putD f.sums).1 ++ (numF (f.entries.length : Int) 1 ++ (f.entries.map entT).flatten)))) := by
    simp only [bodyF, headB, List.append_assoc]
  have d1 : (bodyF f).drop 1 = numF f.a 4 ++ (numF f.b 4 ++ ((putD f.sums).1 ++ (numF (f.entries.length : Int) 1 ++ (f.entries.map entT).flatten))) := by rw [e, dropA k]
  have d5 : (bodyF f).drop 5 = numF f.b 4 ++ ((putD f.sums).1 ++ (numF (f.entries.length : Int) 1 ++ (f.entries.map entT).flatten)) := by rw [show 5 = 1 + 4 from rfl, ← List.drop_drop, d1, dropA a]
  have d9 : (bodyF f).drop 9 = (putD f.sums).1 ++ (numF (f.entries.length : Int) 1 ++ (f.entries.map entT).flatten) := by rw [show 9 = 5 + 4 from rfl, ← List.drop_drop, d5, dropA b]
  have d25 : (bodyF f).drop 25 = numF (f.entries.length : Int) 1 ++ (f.entries.map entT).flatten := by rw [show 25 = 9 + 16 from rfl, ← List.drop_drop, d9, dropA s]
  have d26 : (bodyF f).drop 26 = (f.entries.map entT).flatten := by rw [show 26 = 25 + 1 from rfl, ← List.drop_drop, d25, dropA n]
  exact ⟨by rw [e, takeA k], by rw [d1, takeA a], by rw [d5, takeA b], by rw [d9, takeA s], by rw [d25, takeA n], d26⟩
theorem read_body {f:Frm} (ho:okFr f=true) (h4:f.sums.length=4) (hf:∀ e∈f.entries,inU e.val.flags):readF (bodyF f)=f∧cntG (bodyF f)=f.entries.length:=by
 obtain ⟨c1,c2,c3,c4,c5,c6⟩:=body_cut ho
 obtain ⟨⟨_,k⟩,⟨_,a⟩,⟨_,b⟩,_,_,n⟩:=head_parts ho
 obtain ⟨_,_,_,hs,_,hok⟩:=okF_parts ho
 have hn:cntG (bodyF f)=f.entries.length:=by unfold cntG; rw [c5]; exact n
 refine ⟨?_,hn⟩
 unfold readF
 rw [hn,c1,c2,c3,c4,c6,k,a,b,sums_got h4 hs,(ents_got (fun e he=>⟨hok e he,hf e he⟩)).1]
theorem get_putF {f:Frm} (ho:okFr f=true) (h4:f.sums.length=4) (hf:∀ e∈f.entries,inU e.val.flags):getFr (sealC (bodyF f))=(f,0):=by
 obtain ⟨r1,r2⟩:=read_body ho h4 hf
 have ho1:(openC (sealC (bodyF f))).1=bodyF f:=by rw [open_seal]
 have ho2:(openC (sealC (bodyF f))).2=0:=by rw [open_seal]
 have hok:=(okF_parts ho).2.2.2.2.2
 have:=getFr_ok (s:=sealC (bodyF f)) ho2 (by rw [ho1,r2]; exact body_len ho) (fun j hj=>by
  rw [ho1,r2] at hj
  rw [ho1,(body_cut ho).2.2.2.2.2]
  exact (ents_got (fun e he=>⟨hok e he,hf e he⟩)).2 j hj) (by rw [ho1,r1]; exact ho)
 rw [ho1,r1] at this
 exact this
theorem putFr_ok {f:Frm} (ho:okFr f=true):putFr f=(sealC (bodyF f),0):=by
 have hc:(checkF f != 0)=false:=by unfold okFr at ho; simpa using ho
 unfold putFr; rw [hc]; rfl
theorem putFr_no {f:Frm} (ho:okFr f=false):putFr f=([],2):=by
 have hc:(checkF f != 0)=true:=by unfold okFr at ho; simpa using ho
 unfold putFr; rw [hc]; rfl
/-- What is got of bytes is a frame whose bytes they are, or nothing. -/
theorem num_leN {c : Str} (w : Nat) (hw : c.length = w) (h1 : 1 ≤ w) (h7 : w ≤ 7) : numF (leN c : Int) (w : Int) = c := by
  have hl := leN_lt c
  rw [hw] at hl
  obtain ⟨h2, h3⟩ := num_fit (n := (leN c : Int)) w h1 h7 (by omega) (by omega)
  exact leN_inj (by rw [h2, hw]) (by omega)
theorem ents_put:∀ (k:Nat) (r:Str),r.length=42 * k→(∀ j,j<k→(getE ((r.drop (42 * j)).take 42)).2=0)→((entsG k r).map entT).flatten=r
 | 0,r,h,_=>by
  have:r=[]:=List.eq_nil_of_length_eq_zero (by omega)
  rw [this]; rfl
 | k + 1,r,h,hj=>by
  have h0:=hj 0 (by omega)
  rw [Nat.mul_zero,List.drop_zero] at h0
  have ih:=ents_put k (r.drop 42) (by rw [List.length_drop]; omega) (fun j hj'=>by
   have:=hj (j + 1) (by omega)
   rwa [show 42 * (j + 1)=42 + 42 * j by omega,← List.drop_drop] at this)
  have he:entT (getE (r.take 42)).1=r.take 42:=by
   revert h0
   unfold getE entT
   cases hc:((putE (readE (r.take 42))).2 != 0)||!((putE (readE (r.take 42))).1==r.take 42) with
   | true=>intro c; exact absurd (show (2:Int)=0 from c) (by decide)
   | false =>
    intro _
    have:=(Bool.or_eq_false_iff.1 hc).2
    simpa using this
  show (entT (getE (r.take 42)).1::(entsG k (r.drop 42)).map entT).flatten=r
  rw [List.flatten_cons,ih,he,List.take_append_drop]
theorem body_read {t:Str} (h:t.length=26 + 42 * cntG t) (he:∀ j,j<cntG t→(getE (((t.drop 26).drop (42 * j)).take 42)).2=0):bodyF (readF t)=t:=by
 have k:=num_leN (c:=t.take 1) 1 (by rw [List.length_take]; omega) (by decide) (by decide)
 have a:=num_leN (c:=(t.drop 1).take 4) 4 (by rw [List.length_take,List.length_drop]; omega) (by decide) (by decide)
 have b:=num_leN (c:=(t.drop 5).take 4) 4 (by rw [List.length_take,List.length_drop]; omega) (by decide) (by decide)
 have s:(putD (getD ((t.drop 9).take 16)).1).1=(t.drop 9).take 16:=by
  rw [put_get (by rw [getD_ok (by rw [List.length_take,List.length_drop]; omega)])]
 have n:numF ((readF t).entries.length:Int) 1=(t.drop 25).take 1:=by
  have:(readF t).entries.length=cntG t:=entsG_len _ _
  rw [this]
  exact num_leN (c:=(t.drop 25).take 1) 1 (by rw [List.length_take,List.length_drop]; omega) (by decide) (by decide)
 have r:((readF t).entries.map entT).flatten=t.drop 26:=ents_put (cntG t) (t.drop 26) (by rw [List.length_drop]; omega) he
 unfold bodyF headB
 rw [n,r]
 show (((numF (leN (t.take 1):Int) ((1:Nat):Int)++numF (leN ((t.drop 1).take 4):Int) ((4:Nat):Int))++numF (leN ((t.drop 5).take 4):Int) ((4:Nat):Int))++(putD (getD ((t.drop 9).take 16)).1).1)++(t.drop 25).take 1++t.drop 26=t
 rw [k,a,b,s]
 have e26:(t.drop 25).take 1++t.drop 26=t.drop 25:=by rw [show 26=25 + 1 from rfl,← List.drop_drop,List.take_append_drop]
 have e25:(t.drop 9).take 16++t.drop 25=t.drop 9:=by rw [show 25=9 + 16 from rfl,← List.drop_drop,List.take_append_drop]
 have e9:(t.drop 5).take 4++t.drop 9=t.drop 5:=by rw [show 9=5 + 4 from rfl,← List.drop_drop,List.take_append_drop]
 have e5:(t.drop 1).take 4++t.drop 5=t.drop 1:=by rw [show 5=1 + 4 from rfl,← List.drop_drop,List.take_append_drop]
 simp only [List.append_assoc]
 rw [e26,e25,e9,e5,List.take_append_drop]
theorem getFr_two (s:Str):(getFr s=(readF (openC s).1,0)∧okFr (readF (openC s).1)=true∧sealC (bodyF (readF (openC s).1))=s∧(openC s).2=0)∨getFr s=(frm0,2):=by
 cases hc:((openC s).2 != 0)||badF (openC s).1 with
 | true=>exact .inr (getFr_bad hc)
 | false =>
  left
  obtain ⟨h0,h1⟩:=Bool.or_eq_false_iff.1 hc
  have h0:(openC s).2=0:=by simpa using h0
  unfold badF at h1
  simp only [Bool.or_eq_false_iff,Bool.not_eq_false',beq_iff_eq] at h1
  obtain ⟨⟨⟨_,h2⟩,h3⟩,h4⟩:=h1
  have hb:=body_read h2 ((allG_iff _ _).1 h3)
  exact ⟨by unfold getFr; rw [hc]; rfl,h4,by rw [hb]; exact open_ok h0,h0⟩
end Go.Proofs.YtdfjbkoimpjkaaaGreat
