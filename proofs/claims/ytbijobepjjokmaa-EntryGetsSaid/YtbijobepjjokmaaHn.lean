/- What Put writes of an entry, Get reads: in plain Lean. -/
import Derived.Test.YtbijobepjjokmaaWh
import Derived.Test.YtbijobepjjokmaaHk
namespace Go.Proofs.Ytbijobepjjokmaa
open Go Go.RowKit
set_option linter.unusedVariables false
set_option linter.unusedSimpArgs false

theorem putT_parts {e:Ent} (h:okE e=true) (hf:inU e.val.flags):(putT e).length=42∧readE (putT e)=e∧okG0 (putT e):=by
 obtain ⟨h1,h8,hv⟩:=okE_val h
 obtain ⟨v1,v2,v3⟩:=readV_valT hv hf (zeros (32 - ((valT e.val).length:Int)))
 have hk:0≤e.val.kind∧e.val.kind≤3:=by rcases okV_kind hv with hk | hk | hk <;> omega
 obtain ⟨_,a1,a2⟩:=putO_fit (n:=e.val.kind) 1 (by decide) (by decide) hk.1 (by show e.val.kind<256; omega)
 obtain ⟨_,b1,b2⟩:=putO_fit (n:=(e.key.length:Int)) 1 (by decide) (by decide) (by omega) (by show (e.key.length:Int)<256; omega)
 replace a1:(putO e.val.kind 1).1.length=1:=a1
 replace b1:(putO (e.key.length:Int) 1).1.length=1:=b1
 replace a2:(leN (putO e.val.kind 1).1:Int)=e.val.kind:=a2
 have b2':leN (putO (e.key.length:Int) 1).1=e.key.length:=by
  have:(leN (putO (e.key.length:Int) 1).1:Int)=(e.key.length:Int):=b2
  omega
 have z1:=zeros_len (8 - (e.key.length:Int))
 have z2:=zeros_len (32 - ((valT e.val).length:Int))
 have hh:(headT e).length=10:=by
  unfold headT; simp only [List.length_append,a1,b1,z1]; omega
 have hlen:(putT e).length=42:=by unfold putT; simp only [List.length_append,hh,z2]; omega
 have k1:kindG (putT e)=e.val.kind:=by
  unfold kindG putT headT
  simp only [List.append_assoc]
  rw [takeA a1,a2]
 have k2:klenG (putT e)=e.key.length:=by
  unfold klenG putT headT
  simp only [List.append_assoc]
  rw [dropA a1,takeA b1,b2']
 have k3:(putT e).drop 10=valT e.val++zeros (32 - ((valT e.val).length:Int)):=by
  unfold putT; exact dropA hh
 have k4:((putT e).drop 2).take e.key.length=e.key:=by
  unfold putT headT
  simp only [List.append_assoc]
  rw [show 2=1 + 1 from rfl,← List.drop_drop,dropA a1,dropA b1,takeA rfl]
 refine ⟨hlen,?_,⟨by omega,by omega,by omega,by omega⟩,fun hk1=>⟨?_,by rw [List.length_drop]; omega⟩,fun _=>by rw [List.length_drop]; omega,fun _=>by rw [List.length_drop]; omega⟩
 ·unfold readE
  rw [k1,k2,k3,k4,v1]
 ·rw [k1] at hk1
  have:=v3 hk1
  rw [← k3] at this
  simpa only [List.drop_drop] using this
end Go.Proofs.Ytbijobepjjokmaa

/- The reference's entry of bytes is the program's. -/
namespace Go.Proofs.Ytbijobepjjokmaa
open Go Go.RowKit
set_option linter.unusedVariables false
set_option linter.unusedSimpArgs false

theorem refGet_run (s:Str) (a w:Nat) (hw:w≤7) (hl:a + w≤s.length) (hs:s.length≤9223372036854775807):∀ (k:Nat),k≤w →
  LoopR (ref01_Get_b3 s (a:Int)) ((leN ((s.drop (a + k)).take (w - k)):Int),(k:Int) - 1) ((leN ((s.drop a).take w):Int),-1)
 | 0,hk=>by
  refine .done ⟨fun c=>?_,fun _=>?_⟩
  ·simp at c
  ·simp
 | k + 1,hk=>by
  have ih:=refGet_run s a w hw hl hs k (by omega)
  have hlen:((s.drop (a + (k + 1))).take (w - (k + 1))).length=w - (k + 1):=by simp; omega
  have hlt:=leN_lt ((s.drop (a + (k + 1))).take (w - (k + 1)))
  rw [hlen] at hlt
  have hp:(256:Nat) ^ (w - (k + 1))≤256 ^ 6:=Nat.pow_le_pow_right (by decide) (by omega)
  have e6:(256:Nat) ^ 6=281474976710656:=by decide
  have hb:(s.getD (a + k) default).toNat<256:=(s.getD (a + k) default).toNat_lt
  have hcons:(s.drop (a + k)).take (w - k)=s.getD (a + k) default::(s.drop (a + (k + 1))).take (w - (k + 1)):=by
   rw [show w - k=(w - (k + 1)) + 1 by omega,List.drop_eq_getElem_cons (show a + k<s.length by omega),List.take_succ_cons]
   simp [show a + k<s.length by omega,Nat.add_assoc]
  rw [hcons] at ih
  have e0:((k + 1:Nat):Int) - 1=(k:Int):=by omega
  rw [e0]
  refine .step ⟨fun _=>?_,fun c=>absurd c (by simp)⟩ ih
  have e1:IntKind.i64.wrap ((a:Int) + (k:Int))=((a + k:Nat):Int):=wrap64 (by omega) (by omega)
  have e3:IntKind.i64.wrap ((s.getD (a + k) default).toNat:Int)=((s.getD (a + k) default).toNat:Int):=wrap64 (by omega) (by omega)
  have e4:IntKind.i64.wrap ((256:Int) * (leN ((s.drop (a + (k + 1))).take (w - (k + 1))):Int))=(256:Int) * (leN ((s.drop (a + (k + 1))).take (w - (k + 1))):Int):=wrap64 (by omega) (by omega)
  have e5:IntKind.i64.wrap ((k:Int) - (1:Int))=(k:Int) - 1:=wrap64 (by omega) (by omega)
  simp only [e1,nth_nat,e3,e4,e5]
  refine ⟨⟨by omega,by omega⟩,?_⟩
  rw [wrap64 (by omega) (by omega)]
  congr 2
  simp only [leN]; omega
theorem refGet_ev (s:Str) (a w:Int) (hs:s.length≤9223372036854775807):ref01_Get_raw s a w (getO s a w):=by
 refine ⟨fun hc=>by unfold getO; rw [hc]; rfl,fun hc=>⟨fun hd=>?_,fun hd=>?_⟩⟩
 ·unfold getO
  rw [hc]
  by_cases ha:(decide (a<0)||decide ((s.length:Int)<a))=true
  ·rw [ha]; rfl
  ·have ha':(decide (a<0)||decide ((s.length:Int)<a))=false:=by simpa using ha
   rw [ha'] at hd ⊢
   simp only [Bool.or_eq_false_iff,decide_eq_false_iff_not] at ha'
   rw [wrap64 (by omega) (by omega)] at hd
   rw [hd]; rfl
 ·simp only [Bool.or_eq_false_iff,decide_eq_false_iff_not] at hc hd
  obtain ⟨⟨hd1,hd2⟩,hd3⟩:=hd
  rw [wrap64 (by omega) (by omega)] at hd3
  obtain ⟨m,rfl⟩:=Int.eq_ofNat_of_zero_le (show 0≤a by omega)
  obtain ⟨n,rfl⟩:=Int.eq_ofNat_of_zero_le (show 0≤w by omega)
  have e1:IntKind.i64.wrap ((n:Int) - (1:Int))=(n:Int) - 1:=wrap64 (by omega) (by omega)
  have hr:=refGet_run s m n (by omega) (by omega) hs n (Nat.le_refl n)
  rw [Nat.sub_self,List.take_zero] at hr
  refine ⟨_,by rw [e1]; exact hr,?_⟩
  have h1:(decide ((n:Int)<1)||decide (7<(n:Int)))=false:=by simp; omega
  have h2:((decide ((m:Int)<0)||decide ((s.length:Int)<(m:Int)))||decide ((s.length:Int) - (m:Int)<(n:Int)))=false:=by simp; omega
  unfold getO
  rw [h1,h2]; rfl
/-- A number of so many bytes, where they are. -/
theorem get7 {s : Str} (a w : Nat) (h1 : 1 ≤ w) (h7 : w ≤ 7) (h : a + w ≤ s.length) (hs : s.length ≤ 9223372036854775807) : ref07_get_raw s (a : Int) (w : Int) (leN ((s.drop a).take w) : Int) := by
  refine ⟨_, refGet_ev s _ _ hs, ?_⟩
  have h1 : (decide ((w : Int) < 1) || decide (7 < (w : Int))) = false := by simp; omega
  have h2 : ((decide ((a : Int) < 0) || decide ((s.length : Int) < (a : Int))) || decide ((s.length : Int) - (a : Int) < (w : Int))) = false := by simp; omega
  unfold getO
  rw [h1, h2]; rfl
theorem gets7 {s:Str} (a:Nat) (h:a + 16≤s.length) (hs:s.length≤9223372036854775807):ref07_gets_raw s (a:Int) (pairs 8 (s.drop a)):=by
 have key:=loop_fold (body:=ref07_gets_b1 s (a:Int)) 8 (fun i=>(pairs i (s.drop a),(i:Int))) (fun i hi=>by
  have hl:=pairs_len i (s.drop a)
  have e1:IntKind.i64.wrap ((2:Int) * (i:Int))=((2 * i:Nat):Int):=by rw [wrap64 (by omega) (by omega)]; omega
  have e2:IntKind.i64.wrap ((a:Int) + ((2 * i:Nat):Int))=((a + 2 * i:Nat):Int):=by rw [wrap64 (by omega) (by omega)]; omega
  have hg:=get7 (s:=s) (a + 2 * i) 2 (by omega) (by omega) (by omega) hs
  refine ⟨fun _=>⟨(leN ((s.drop (a + 2 * i)).take 2):Int),?_,⟨(by show (pairs i (s.drop a)).length + 1≤_; omega),(by show ((pairs i (s.drop a)).length + 1) * 8≤_; omega)⟩,?_⟩,fun c=>by simp at c; omega⟩
  ·show ref07_get_raw s (IntKind.i64.wrap ((a:Int) + IntKind.i64.wrap ((2:Int) * (i:Int)))) 2 _
   rw [e1,e2]; exact hg
  ·show _=Sum.inl (pairs i (s.drop a)++[(leN ((s.drop (a + 2 * i)).take 2):Int)],IntKind.i64.wrap ((i:Int) + 1))
   have e3:IntKind.i64.wrap ((i:Int) + (1:Int))=((i + 1:Nat):Int):=wrapS (n:=8) hi (by omega)
   rw [e3,pairs_snoc,List.drop_drop]) ⟨fun c=>by simp at c,fun _=>rfl⟩
 exact ⟨_,key,rfl⟩
/-- What the reference reads. -/
def readVR (k : Int) (s : Str) : Val :=
  bif k == 1 then ⟨k, (leN (s.take 4) : Int), (leN ((s.drop 4).take 1) : Int), ((leN ((s.drop 5).take 1) : Int) == (1 : Int)), (s.drop 7).take (min (leN ((s.drop 6).take 1)) 8), [], [], 0⟩
  else bif k == 2 then ⟨k, 0, 0, false, [], pairs 8 s, pairs 8 (s.drop 16), 0⟩ else bif k == 3 then ⟨k, 0, 0, false, [], [], [], flR s⟩ else ⟨k, 0, 0, false, [], [], [], 0⟩
def readR (s:Str):Ent:=⟨(s.drop 2).take (min (klenG s) 8),readVR (kindG s) (s.drop 10)⟩
theorem cut_min {s:Str} (a n:Nat) (h:a + 8≤s.length) (hs:s.length≤9223372036854775807) (hn:n≤100000) :
  (0≤(a:Int)∧(a:Int)≤IntKind.i64.wrap ((a:Int) + min (n:Int) 8)∧IntKind.i64.wrap ((a:Int) + min (n:Int) 8)≤(s.length:Int))∧cut s (a:Int) (IntKind.i64.wrap ((a:Int) + min (n:Int) 8))=(s.drop a).take (min n 8):=by
 have e:IntKind.i64.wrap ((a:Int) + min (n:Int) 8)=((a + min n 8:Nat):Int):=by rw [wrap64 (by omega) (by omega)]; omega
 rw [e]
 refine ⟨by omega,?_⟩
 unfold cut
 rw [Int.toNat_natCast,Int.toNat_natCast]
 first
  | (rw [List.drop_take]; congr 1; omega)
  | (rw [List.take_drop]; congr 1; omega)
  | (congr 1; omega)
theorem leN1 (s:Str):leN (s.take 1)<256:=by
 have h:=leN_lt (s.take 1)
 have h2:(256:Nat) ^ (s.take 1).length≤256 ^ 1:=Nat.pow_le_pow_right (by decide) (by simp; omega)
 omega
theorem leN4 (s:Str):leN (s.take 4)<4294967296:=by
 have h:=leN_lt (s.take 4)
 have h2:(256:Nat) ^ (s.take 4).length≤256 ^ 4:=Nat.pow_le_pow_right (by decide) (by simp; omega)
 have e4:(256:Nat) ^ 4=4294967296:=by decide
 omega
theorem leN2 (s:Str):leN (s.take 2)<65536:=by
 have h:=leN_lt (s.take 2)
 have h2:(256:Nat) ^ (s.take 2).length≤256 ^ 2:=Nat.pow_le_pow_right (by decide) (by simp; omega)
 have e4:(256:Nat) ^ 2=65536:=by decide
 omega
theorem flR_ref (s:Str):IntKind.u64.wrap (IntKind.u64.wrap (leN (s.take 4):Int) + IntKind.u64.wrap ((4294967296:Int) * IntKind.u64.wrap (leN ((s.drop 4).take 4):Int)))=flR s:=by
 have h1:=leN4 s
 have h2:=leN4 (s.drop 4)
 rw [flR_eq rfl rfl h1 h2,u64_nat (by omega),u64_nat (n:=leN ((s.drop 4).take 4)) (by omega)]
 have e:(4294967296:Int) * (leN ((s.drop 4).take 4):Int)=((leN ((s.drop 4).take 4) * 4294967296:Nat):Int):=by omega
 rw [e,u64_nat (n:=leN ((s.drop 4).take 4) * 4294967296) (by omega),← Int.natCast_add,u64_nat (by omega)]
theorem refRead_ev {s:Str} (h:s.length=42):ref07_read_raw s (readR s):=by
 have hs:s.length≤9223372036854775807:=by omega
 have g0:=get7 (s:=s) 0 1 (by omega) (by omega) (by omega) hs
 have g1:=get7 (s:=s) 1 1 (by omega) (by omega) (by omega) hs
 have g10:=get7 (s:=s) 10 4 (by omega) (by omega) (by omega) hs
 have g14:=get7 (s:=s) 14 1 (by omega) (by omega) (by omega) hs
 have g15:=get7 (s:=s) 15 1 (by omega) (by omega) (by omega) hs
 have g16:=get7 (s:=s) 16 1 (by omega) (by omega) (by omega) hs
 have g144:=get7 (s:=s) 14 4 (by omega) (by omega) (by omega) hs
 have l10:=gets7 (s:=s) 10 (by omega) hs
 have l26:=gets7 (s:=s) 26 (by omega) hs
 have c2:=cut_min (s:=s) 2 (klenG s) (by omega) hs (by have:=leN1 (s.drop 1); unfold klenG; omega)
 have c17:=cut_min (s:=s) 17 (leN ((s.drop 16).take 1)) (by omega) hs (by have:=leN1 (s.drop 16); omega)
 have hk:kindG s=(leN ((s.drop 0).take 1):Int):=rfl
 refine ⟨_,g0,fun h1=>?_,fun h1=>⟨fun h2=>?_,fun h2=>⟨fun h3=>?_,fun h3=>?_⟩⟩⟩
 ·have e1:kindG s=1:=by rw [hk]; simpa using h1
  refine ⟨_,g10,_,g14,_,g15,_,g16,c17.1,fun c=>?_,fun _=>⟨fun c=>?_,fun _=>⟨_,g1,c2.1,?_⟩⟩⟩
  ·rw [← hk,e1] at c; cases c
  ·rw [← hk,e1] at c; cases c
  ·unfold readR readVR
   rw [← hk,e1]
   have hcut:=c17.2
   simp only [beq_self_eq_true,cond_true,List.drop_drop]
   rw [c2.2.symm,← hcut]; rfl
 ·have e2:kindG s=2:=by rw [hk]; simpa using h2
  refine ⟨_,l10,_,l26,fun c=>?_,fun _=>⟨_,g1,c2.1,?_⟩⟩
  ·rw [← hk,e2] at c; cases c
  ·unfold readR readVR
   rw [← hk,e2]
   rw [c2.2.symm]
   simp only [List.drop_drop]; rfl
 ·have e3:kindG s=3:=by rw [hk]; simpa using h3
  refine ⟨_,g10,_,g144,_,g1,c2.1,?_⟩
  have hf:=flR_ref (s.drop 10)
  rw [List.drop_drop] at hf
  unfold readR readVR
  rw [← hk,e3,c2.2.symm,← hf]; rfl
 ·refine ⟨_,g1,c2.1,?_⟩
  unfold readR readVR
  rw [← hk] at h1 h2 h3 ⊢
  rw [h1,h2,h3,c2.2.symm]; rfl
theorem pairs_in:∀ (k:Nat) (s:Str),∀ x∈pairs k s,inI x
 | 0,_=>fun x hx=>by cases hx
 | k + 1,s=>fun x hx=>by
  rcases List.mem_cons.1 hx with rfl | hx
  ·have:=leN2 s; exact ⟨by omega,by omega⟩
  ·exact pairs_in k _ x hx
theorem inI_nat {n:Nat} (h:n<4294967296):inI (n:Int):=⟨by omega,by omega⟩
theorem inI_0:inI 0:=⟨by decide,by decide⟩
theorem inU_0:inU 0:=⟨by decide,by decide⟩
theorem readVR_wf (s t:Str):WfV (readVR (kindG t) s)∧sm (readVR (kindG t) s):=by
 have hk:inI (kindG t):=inI_nat (by have:=leN1 t; omega)
 have n1:=leN4 s
 have n2:=leN1 (s.drop 4)
 unfold readVR
 cases kindG t==1 with
 | true=>exact ⟨⟨hk,inI_nat n1,inI_nat (by omega),(fun x hx=>by cases hx),(fun x hx=>by cases hx),inU_0⟩,⟨Nat.zero_le _,Nat.zero_le _⟩⟩
 | false =>
  cases kindG t==2 with
  | true=>exact ⟨⟨hk,inI_0,inI_0,pairs_in _ _,pairs_in _ _,inU_0⟩,⟨by simp [pairs_len],by simp [pairs_len]⟩⟩
  | false =>
   cases kindG t==3 with
   | true =>
    refine ⟨⟨hk,inI_0,inI_0,(fun x hx=>by cases hx),(fun x hx=>by cases hx),?_⟩,⟨Nat.zero_le _,Nat.zero_le _⟩⟩
    exact inU_readV 3 s
   | false=>exact ⟨⟨hk,inI_0,inI_0,(fun x hx=>by cases hx),(fun x hx=>by cases hx),inU_0⟩,⟨Nat.zero_le _,Nat.zero_le _⟩⟩
theorem readR_E {s:Str} (h:okG0 s):readR s=readE s:=by
 obtain ⟨⟨_,_,h8,_⟩,ht,_,_⟩:=h
 unfold readR readE
 rw [Nat.min_eq_left h8]
 congr 1
 unfold readVR readV
 cases hk:kindG s==1 with
 | true =>
  have hk1:kindG s=1:=by simpa using hk
  have ht:=(ht hk1).1
  simp only [List.drop_drop] at ht
  simp only [cond_true,List.drop_drop]
  rw [Nat.min_eq_left ht]
 | false=>rfl
theorem getE_R {s:Str} (h:s.length=42):getE s=(bif ((putE (readR s)).2 != 0)||!((putE (readR s)).1==s) then (zeroE,2) else (readR s,0)):=by
 by_cases hg:okG0 s
 ·rw [readR_E hg]; rfl
 ·rw [getE_bad hg]
  cases hc:((putE (readR s)).2 != 0)||!((putE (readR s)).1==s) with
  | true=>rfl
  | false =>
   exfalso
   have hd:((putE (readR s)).2 != 0)=false:=by revert hc; cases ((putE (readR s)).2 != 0) <;> simp
   have he:((putE (readR s)).1==s)=true:=by revert hc; cases ((putE (readR s)).1==s) <;> simp
   have ho:okE (readR s)=true:=by
    cases h1:okE (readR s) with
    | true=>rfl
    | false=>exfalso; unfold putE at hd; rw [h1] at hd; simp at hd
   have h2:(putE (readR s)).1=putT (readR s):=by unfold putE; rw [ho]; rfl
   have h3:putT (readR s)=s:=by rw [← h2]; simpa using he
   have:=(putT_parts ho (readVR_wf _ _).1.flags).2.2
   rw [h3] at this
   exact hg this
theorem getE_len {s:Str} (h:s.length≠42):getE s=(zeroE,2):=by
 unfold getE
 cases hc:((putE (readE s)).2 != 0)||!((putE (readE s)).1==s) with
 | true=>rfl
 | false =>
  exfalso
  have hd:((putE (readE s)).2 != 0)=false:=by revert hc; cases ((putE (readE s)).2 != 0) <;> simp
  have he:((putE (readE s)).1==s)=true:=by revert hc; cases ((putE (readE s)).1==s) <;> simp
  have ho:okE (readE s)=true:=by
   cases h1:okE (readE s) with
   | true=>rfl
   | false=>exfalso; unfold putE at hd; rw [h1] at hd; simp at hd
  have h2:(putE (readE s)).1=putT (readE s):=by unfold putE; rw [ho]; rfl
  have h3:putT (readE s)=s:=by rw [← h2]; simpa using he
  have:=putT_42 ho
  rw [h3] at this
  exact h this
theorem refGetE_ev (s:Str):ref07_Get_raw s (getE s):=by
 refine ⟨fun hc=>?_,fun hc=>?_⟩
 ·exact getE_len (by simp at hc; omega)
 ·have hl:s.length=42:=by simp at hc; omega
  obtain ⟨wf,hsm⟩:=readVR_wf (s.drop 10) s
  refine ⟨_,refRead_ev hl,_,refPutE_ev (readR s) hsm wf,fun c=>?_,fun c=>?_⟩
  ·rw [getE_R hl,c]; rfl
  ·rw [getE_R hl,c]; rfl
end Go.Proofs.Ytbijobepjjokmaa
