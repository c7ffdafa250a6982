import Derived.Test.YtdfjbkoimpjkaaaGreatVf
import Derived.Test.YtdfjbkoimpjkaaaGreatMn
import Derived.Test.YtdfjbkoimpjkaaaGreatHk
namespace Go.Proofs.YtdfjbkoimpjkaaaGreat
open Go Go.RowKit
set_option linter.unusedVariables false
set_option linter.unusedSimpArgs false

def headL (f:Frm):List Str:=[numF f.kind 1,numF f.a 4,numF f.b 4,(putD f.sums).1,numF (f.entries.length:Int) 1]
def headB (f:Frm):Str:=(((numF f.kind 1++numF f.a 4)++numF f.b 4)++(putD f.sums).1)++numF (f.entries.length:Int) 1
def entT (e:Ent):Str:=(putE e).1
def bodyF (f:Frm):Str:=headB f++(f.entries.map entT).flatten
def putFr (f:Frm):Str × Int:=bif checkF f != 0 then ([],2) else (sealC (bodyF f),0)
theorem head_flat (f:Frm):(headL f++f.entries.map entT).flatten=bodyF f:=by simp [headL,headB,bodyF]
theorem okF_parts {f:Frm} (h:okFr f=true):(1≤f.kind∧f.kind≤7)∧(0≤f.a∧f.a≤2147483647)∧(0≤f.b∧f.b≤2147483647)∧(putD f.sums).2=0∧f.entries.length≤8∧∀ e∈f.entries,okE e=true:=by
 rw [okFr_eq] at h
 simp only [Bool.and_eq_true,Bool.not_eq_true',Bool.or_eq_false_iff,Bool.not_eq_false',badA,entsF,decide_eq_false_iff_not,bne_eq_false_iff_eq,decide_eq_true_eq,List.all_eq_true] at h
 obtain ⟨⟨⟨⟨⟨⟨⟨⟨h1,h2⟩,h3⟩,h4⟩,h5⟩,h6⟩,h7⟩,h8,h9⟩,_⟩:=h
 exact ⟨⟨by omega,by omega⟩,⟨by omega,by omega⟩,⟨by omega,by omega⟩,h7,by omega,h9⟩
theorem putD_16 {l:List Int} (h:(putD l).2=0):(putD l).1.length=16:=by
 obtain ⟨h1,h2⟩:=putD_ok h
 rw [h2]
 have e0:=(putO4 (h1 0 (by decide))).1
 have e1:=(putO4 (h1 1 (by decide))).1
 have e2:=(putO4 (h1 2 (by decide))).1
 have e3:=(putO4 (h1 3 (by decide))).1
 simp only [List.length_append,List.length_nil,e0,e1,e2,e3]
theorem entT_42 {e:Ent} (h:okE e=true):entT e=putT e∧(entT e).length=42:=by
 have h1:entT e=putT e:=by unfold entT putE; rw [h]; rfl
 exact ⟨h1,by rw [h1]; exact putT_42 h⟩
theorem ents_len:∀ {l:List Ent},(∀ e∈l,okE e=true)→(l.map entT).flatten.length=42 * l.length
 | [],_=>rfl
 | e::l,h=>by
  have h1:=(entT_42 (h e List.mem_cons_self)).2
  have h2:=ents_len (l:=l) (fun x hx=>h x (List.mem_cons_of_mem _ hx))
  simp only [List.map_cons,List.flatten_cons,List.length_append,List.length_cons,h1,h2]; omega
theorem num_fit {n:Int} (w:Nat) (h1:1≤w) (h7:w≤7) (h0:0≤n) (hn:n<((256 ^ w:Nat):Int)):(numF n (w:Int)).length=w∧(leN (numF n (w:Int)):Int)=n:=(putO_fit w h1 h7 h0 hn).2
/-- The parts of a frame's bytes. -/
theorem head_parts {f : Frm} (h : okFr f = true) : ((numF f.kind 1).length = 1 ∧ (leN (numF f.kind 1) : Int) = f.kind) ∧ ((numF f.a 4).length = 4 ∧ (leN (numF f.a 4) : Int) = f.a) ∧ ((numF f.b 4).length = 4 ∧ (leN (numF f.b 4) : Int) = f.b) ∧ (putD f.sums).1.length = 16 ∧ ((numF (f.entries.length : Int) 1).length = 1 ∧ leN (numF (f.entries.length : Int) 1) = f.entries.length) := by
  obtain ⟨k, a, b, s, n, _⟩ := okF_parts h
  refine ⟨num_fit 1 (by decide) (by decide) (by omega) (by show f.kind < 256; omega), num_fit 4 (by decide) (by decide) (by omega) (by show f.a < 4294967296; omega), num_fit 4 (by decide) (by decide) (by omega) (by show f.b < 4294967296; omega), putD_16 s, ?_⟩
  obtain ⟨e1, e2⟩ := num_fit (n := (f.entries.length : Int)) 1 (by decide) (by decide) (by omega) (by show (f.entries.length : Int) < 256; omega)
  have e2' : (leN (numF (f.entries.length : Int) 1) : Int) = (f.entries.length : Int) := e2
  exact ⟨e1, by omega⟩
theorem head_26 {f:Frm} (h:okFr f=true):(headB f).length=26:=by
 obtain ⟨⟨k,_⟩,⟨a,_⟩,⟨b,_⟩,s,n,_⟩:=head_parts h
 simp only [headB,List.length_append,k,a,b,s,n]
theorem body_len {f:Frm} (h:okFr f=true):(bodyF f).length=26 + 42 * f.entries.length:=by
 rw [bodyF,List.length_append,head_26 h,ents_len (okF_parts h).2.2.2.2.2]
theorem map_snoc (l:List Ent) {i:Nat} (h:i<l.length):(l.take (i + 1)).map entT=(l.take i).map entT++[(putE (nth l (i:Int))).1]:=by
 rw [List.take_add_one,show l[i]?.toList=[nth l (i:Int)] by rw [nth_nat]; simp [h],List.map_append]
 rfl
theorem nth_mem (l:List Ent) {i:Nat} (h:i<l.length):nth l (i:Int)∈l:=by rw [nth_nat]; exact getD_mem h
theorem frPut_loop (f:Frm) (hs:sml f.entries) (h8:f.entries.length≤8):∀ m i,i + m=f.entries.length→LoopR (frame_Put_b41 f) (headL f++(f.entries.take i).map entT,(i:Int)) (headL f++f.entries.map entT,(f.entries.length:Int))
 | 0,i,h=>by
  obtain rfl:i=f.entries.length:=by omega
  exact .done ⟨fun c=>by simp at c,fun _=>by rw [List.take_length]⟩
 | m + 1,i,h=>by
  have hi:i<f.entries.length:=by omega
  have ih:=frPut_loop f hs h8 m (i + 1) (by omega)
  rw [map_snoc _ hi,← List.append_assoc] at ih
  have hl:(headL f++(f.entries.take i).map entT).length=5 + i:=by simp [headL]; omega
  refine .step ⟨fun _=>⟨⟨by omega,by omega⟩,hs.2 _ (nth_mem _ hi),_,rfl,?_,?_⟩,fun c=>by simp at c; omega⟩ ih
  ·rw [hl]; omega
  ·rw [show IntKind.i64.wrap ((i:Int) + (1:Int))=((i + 1:Nat):Int) by rw [IntKind.wrap_i64]; omega]
theorem okFr_check {f:Frm} (h:(checkF f != 0)=false):okFr f=true:=by unfold okFr; simpa using h
theorem frPut_ev (f:Frm) (hs:sml f.entries):frame_Put_raw f (putFr f):=by
 refine ⟨hs,trivial,fun hc=>by unfold putFr; rw [hc]; rfl,fun hc=>?_⟩
 have ho:=okFr_check hc
 have hb:=body_len ho
 have h8:=(okF_parts ho).2.2.2.2.1
 refine ⟨_,rfl,_,by simpa [headL] using frPut_loop f hs h8 f.entries.length 0 (by omega),sealC (bodyF f),⟨bodyF f,⟨rfl,?_,?_,?_,?_,(head_flat f).symm⟩,by omega,rfl⟩,by unfold putFr; rw [hc]; rfl⟩
 ·simp [headL]
 ·simp [headL]; omega
 ·show 1≤(headL f++f.entries.map entT).flatten.length
  rw [head_flat]; omega
 ·show (headL f++f.entries.map entT).flatten.length≤_
  rw [head_flat]; omega
theorem flat_snoc (l:List Ent) {i:Nat} (h:i<l.length):((l.take (i + 1)).map entT).flatten=((l.take i).map entT).flatten++(putE (nth l (i:Int))).1:=by
 rw [map_snoc _ h,List.flatten_append]; simp
theorem refPut_loop (f:Frm) (ho:okFr f=true) (hs:sml f.entries) (hw:wfl f.entries):∀ m i,i + m=f.entries.length→LoopR (ref14_Put_b64 f) (headB f++((f.entries.take i).map entT).flatten,(i:Int)) (bodyF f,(f.entries.length:Int))
 | 0,i,h=>by
  obtain rfl:i=f.entries.length:=by omega
  exact .done ⟨fun c=>by simp at c,fun _=>by rw [List.take_length]; rfl⟩
 | m + 1,i,h=>by
  have hi:i<f.entries.length:=by omega
  have ih:=refPut_loop f ho hs hw m (i + 1) (by omega)
  obtain ⟨_,_,_,_,h8,hok⟩:=okF_parts ho
  have hl:(headB f++((f.entries.take i).map entT).flatten).length=26 + 42 * i:=by
   rw [List.length_append,head_26 ho,ents_len (fun e he=>hok e (List.mem_of_mem_take he)),List.length_take]; omega
  rw [flat_snoc _ hi,← List.append_assoc] at ih
  have h42:(putE (nth f.entries (i:Int))).1.length=42:=(entT_42 (hok _ (nth_mem _ hi))).2
  refine .step ⟨fun _=>⟨⟨by omega,by omega⟩,hs.2 _ (nth_mem _ hi),hw _ (nth_mem _ hi),_,rfl,by rw [hl,h42]; omega,?_⟩,fun c=>by simp at c; omega⟩ ih
  rw [show IntKind.i64.wrap ((i:Int) + (1:Int))=((i + 1:Nat):Int) by rw [IntKind.wrap_i64]; omega]
theorem refPutFr_ev (f:Frm) (hs:sml f.entries) (hl:f.entries.length≤1000000) (hm:maxS f.sums) (hw:wfl f.entries):ref14_Put_raw f (putFr f):=by
 refine ⟨hs,hl,hm,fun hc=>?_,fun hc=>?_⟩
 ·have:(checkF f != 0)=true:=by revert hc; unfold okFr; simp
  unfold putFr; rw [this]; rfl
 ·have ho:okFr f=true:=by simpa using hc
  have hc':(checkF f != 0)=false:=by unfold okFr at ho; simpa using ho
  obtain ⟨⟨k,_⟩,⟨a,_⟩,⟨b,_⟩,s,n,_⟩:=head_parts ho
  obtain ⟨hk,ha,hb,_,h8,_⟩:=okF_parts ho
  have hbl:=body_len ho
  have hL:LoopR (ref14_Put_b64 f) (headB f,(0:Int)) (bodyF f,(f.entries.length:Int)):=by simpa using refPut_loop f ho hs hw f.entries.length 0 (by omega)
  refine ⟨hm,_,rfl,by omega,by omega,by rw [k,a]; omega,by omega,by rw [List.length_append,k,a,b]; omega,by simp only [List.length_append,k,a,b,s]; omega,by omega,by simp only [List.length_append,k,a,b,s,n]; omega,_,hL,by show (bodyF f).length≤_; omega,?_⟩
  unfold putFr; rw [hc']; rfl

def entsG:Nat→Str→List Ent
 | 0,_=>[]
 | k + 1,s=>(getE (s.take 42)).1::entsG k (s.drop 42)
def allG:Nat→Str→Bool
 | 0,_=>true
 | k + 1,s=>((getE (s.take 42)).2==0)&&allG k (s.drop 42)
def cntG (t:Str):Nat:=leN ((t.drop 25).take 1)
def readF (t:Str):Frm:=⟨(leN (t.take 1):Int),(leN ((t.drop 1).take 4):Int),(leN ((t.drop 5).take 4):Int),(getD ((t.drop 9).take 16)).1,entsG (cntG t) (t.drop 26)⟩
def badF (t:Str):Bool:=((decide (t.length<26)||!(t.length==26 + 42 * cntG t))||!allG (cntG t) (t.drop 26))||!okFr (readF t)
def getFr (s:Str):Frm × Int:=bif ((openC s).2 != 0)||badF (openC s).1 then (frm0,2) else (readF (openC s).1,0)
theorem entsG_snoc:∀ (k:Nat) (s:Str),entsG (k + 1) s=entsG k s++[(getE ((s.drop (42 * k)).take 42)).1]
 | 0,s=>by simp [entsG]
 | k + 1,s=>by
  rw [entsG,entsG_snoc k (s.drop 42),entsG]
  simp [List.drop_drop,Nat.mul_add,Nat.add_comm]
theorem entsG_len:∀ (k:Nat) (s:Str),(entsG k s).length=k
 | 0,_=>rfl
 | k + 1,s=>by simp [entsG,entsG_len k]
theorem allG_iff:∀ (k:Nat) (s:Str),allG k s=true↔∀ j,j<k→(getE ((s.drop (42 * j)).take 42)).2=0
 | 0,s=>by simp [allG]
 | k + 1,s=>by
  rw [allG,Bool.and_eq_true,allG_iff k,beq_iff_eq]
  constructor
  ·rintro ⟨h0,h1⟩ j hj
   cases j with
   | zero=>simpa using h0
   | succ j =>
    have:=h1 j (by omega)
    rwa [List.drop_drop,show 42 + 42 * j=42 * (j + 1) by omega] at this
  ·intro h
   refine ⟨by simpa using h 0 (by omega),fun j hj=>?_⟩
   have:=h (j + 1) (by omega)
   rwa [List.drop_drop,show 42 + 42 * j=42 * (j + 1) by omega]
theorem sm_gotE (s:Str):sm (getE s).1.val:=by
 unfold getE
 cases ((putE (readE s)).2 != 0)||!((putE (readE s)).1==s) with
 | true=>exact (by decide:sm zeroV)
 | false=>exact sm_readV _ _
theorem sm_entsG:∀ (k:Nat) (s:Str),∀ e∈entsG k s,sm e.val
 | 0,_,e,h=>by cases h
 | k + 1,s,e,h=>by
  rcases List.mem_cons.1 h with rfl | h
  ·exact sm_gotE _
  ·exact sm_entsG k _ e h
theorem cntG_lt (t:Str):cntG t<256:=by
 have h:=leN_lt ((t.drop 25).take 1)
 have h2:(256:Nat) ^ ((t.drop 25).take 1).length≤256 ^ 1:=Nat.pow_le_pow_right (by decide) (List.length_take_le _ _)
 unfold cntG; omega
theorem sml_entsG (k:Nat) (s:Str) (h:k≤1000000):sml (entsG k s):=⟨by rw [entsG_len]; omega,sm_entsG k s⟩
theorem sml_readF (t:Str):sml (readF t).entries:=sml_entsG _ _ (by have:=cntG_lt t; omega)
theorem readF_len (t:Str):(readF t).entries.length≤1000000:=by
 show (entsG (cntG t) (t.drop 26)).length≤_
 rw [entsG_len]; have:=cntG_lt t; omega
theorem getD_len (s:Str):(getD s).1.length=4:=by unfold getD; cases ((s.length:Int) != 16) <;> rfl
theorem getFr_bad {s:Str} (h:(((openC s).2 != 0)||badF (openC s).1)=true):getFr s=(frm0,2):=by unfold getFr; rw [h]; rfl
theorem getFr_open {s:Str} (h:¬ (openC s).2=0):getFr s=(frm0,2):=getFr_bad (by simp [h])
theorem getFr_short {s:Str} (h:(openC s).1.length<26):getFr s=(frm0,2):=getFr_bad (by simp [badF,h])
theorem getFr_len {s:Str} (h:¬ (openC s).1.length=26 + 42 * cntG (openC s).1):getFr s=(frm0,2):=getFr_bad (by simp [badF,h])
theorem getFr_ent {s:Str} {j:Nat} (hj:j<cntG (openC s).1) (h:¬ (getE ((((openC s).1.drop 26).drop (42 * j)).take 42)).2=0):getFr s=(frm0,2):=by
 have:allG (cntG (openC s).1) ((openC s).1.drop 26)=false:=by
  cases hc:allG (cntG (openC s).1) ((openC s).1.drop 26) with
  | false=>rfl
  | true=>exact absurd ((allG_iff _ _).1 hc j hj) h
 exact getFr_bad (by simp [badF,this])
theorem getFr_check {s:Str} (h:okFr (readF (openC s).1)=false):getFr s=(frm0,2):=getFr_bad (by simp [badF,h])
theorem getFr_ok {s:Str} (h0:(openC s).2=0) (h1:(openC s).1.length=26 + 42 * cntG (openC s).1) (h2:∀ j,j<cntG (openC s).1→(getE ((((openC s).1.drop 26).drop (42 * j)).take 42)).2=0) (h3:okFr (readF (openC s).1)=true):getFr s=(readF (openC s).1,0):=by
 have e1:allG (cntG (openC s).1) ((openC s).1.drop 26)=true:=(allG_iff _ _).2 h2
 have e2:badF (openC s).1=false:=by
  unfold badF
  rw [e1,h3,show decide ((openC s).1.length<26)=false by simp; omega,show ((openC s).1.length==26 + 42 * cntG (openC s).1)=true by simpa using h1]; rfl
 unfold getFr; rw [e2,h0]; rfl
end Go.Proofs.YtdfjbkoimpjkaaaGreat