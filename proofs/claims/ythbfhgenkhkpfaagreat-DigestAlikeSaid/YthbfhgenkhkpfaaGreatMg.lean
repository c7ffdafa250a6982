import Derived.Test.YthbfhgenkhkpfaaGreatMd
import Derived.Test.YthbfhgenkhkpfaaGreatEx
namespace Go.Proofs.YthbfhgenkhkpfaaGreat
open Go Go.RowKit
set_option linter.unusedVariables false
set_option linter.unusedSimpArgs false
def crcE (e:Ent):Nat:=crcN (putE e).1
/-- The sum of a bucket. -/
def sumB (k : Int) : List Ent → Nat
  | [] => 0
  | e :: l => (bif bktE e == k then crcE e else 0) ^^^ sumB k l
theorem sumB_append (k:Int):∀ (l m:List Ent),sumB k (l++m)=sumB k l ^^^ sumB k m
 | [],m=>by simp [sumB]
 | e::l,m=>by simp only [List.cons_append,sumB,sumB_append k l m,Nat.xor_assoc]
theorem sumB_lt (k:Int):∀ l,sumB k l<4294967296
 | []=>(by decide:(0:Nat)<4294967296)
 | e::l=>by
  unfold sumB
  refine Nat.xor_lt_two_pow (n:=32) ?_ (sumB_lt k l)
  cases bktE e==k
  ·exact (by decide:(0:Nat)<4294967296)
  ·exact crcN_lt _
def quadI (l:List Ent):Int × Int × Int × Int:=((sumB 0 l:Int),(sumB 1 l:Int),(sumB 2 l:Int),(sumB 3 l:Int))
def sums4 (l:List Ent):List Int:=[(sumB 0 l:Int),(sumB 1 l:Int),(sumB 2 l:Int),(sumB 3 l:Int)]
def sumsD (a:Arena):List Int:=bif arOk a then sums4 a.slots else [0,0,0,0]
theorem sumsD_length (a:Arena):(sumsD a).length=4:=by unfold sumsD; cases arOk a <;> rfl
theorem bv64 {n:Nat} (h:n<4294967296):(BitVec.ofInt IntKind.i64.bits (n:Int)).toNat=n:=by
 rw [show IntKind.i64.bits=64 from rfl,BitVec.toNat_ofInt]; omega
theorem xor64 {a b:Nat} (ha:a<4294967296) (hb:b<4294967296):IntKind.i64.wrap (BitVec.ofInt IntKind.i64.bits (a:Int) ^^^ BitVec.ofInt IntKind.i64.bits (b:Int)).toNat=((a ^^^ b:Nat):Int):=by
 rw [BitVec.toNat_xor,bv64 ha,bv64 hb]
 have:=Nat.xor_lt_two_pow (n:=32) ha hb
 rw [IntKind.wrap_i64]; omega
theorem bkt4 (e:Ent):bktE e=0∨bktE e=1∨bktE e=2∨bktE e=3:=by
 have:=bucketD_lt e.val.kind e.key
 unfold bktE; omega
/-- What an entry does to the sums. -/
theorem quad_step (l : List Ent) (e : Ent) (j : Nat) (hj : j < 4) :
    nth (([(sumB 0 l : Int), (sumB 1 l : Int), (sumB 2 l : Int), (sumB 3 l : Int)] : List Int).set (bktE e).toNat (IntKind.i64.wrap (BitVec.ofInt IntKind.i64.bits (nth [(sumB 0 l : Int), (sumB 1 l : Int), (sumB 2 l : Int), (sumB 3 l : Int)] (bktE e)) ^^^ BitVec.ofInt IntKind.i64.bits (sumC (putE e).1)).toNat)) (j : Int) = (sumB (j : Int) (l ++ [e]) : Int) := by
  have hs : ∀ k, sumB k (l ++ [e]) = sumB k l ^^^ (bif bktE e == k then crcE e else 0) := fun k => by rw [sumB_append]; simp [sumB]
  rw [hs, sumC_N]
  have hc : crcN (putE e).1 < 4294967296 := crcN_lt _
  have hj4 : j = 0 ∨ j = 1 ∨ j = 2 ∨ j = 3 := by omega
  rcases bkt4 e with h | h | h | h <;> rw [h] <;> rcases hj4 with rfl | rfl | rfl | rfl <;>
    first
      | (show IntKind.i64.wrap (BitVec.ofInt IntKind.i64.bits ((sumB _ l : Nat) : Int) ^^^ _).toNat = _; exact xor64 (sumB_lt _ l) hc)
      | (show ((sumB _ l : Nat) : Int) = (((sumB _ l) ^^^ 0 : Nat) : Int); rw [Nat.xor_zero]; rfl)
theorem quad_all (l:List Ent) (e:Ent) (S:List Int) (hS:S=([(sumB 0 l:Int),(sumB 1 l:Int),(sumB 2 l:Int),(sumB 3 l:Int)]:List Int).set (bktE e).toNat (IntKind.i64.wrap (BitVec.ofInt IntKind.i64.bits (nth [(sumB 0 l:Int),(sumB 1 l:Int),(sumB 2 l:Int),(sumB 3 l:Int)] (bktE e)) ^^^ BitVec.ofInt IntKind.i64.bits (sumC (putE e).1)).toNat)) :
  quadI (l++[e])=(nth S 0,nth S 1,nth S 2,nth S 3):=by
 subst hS
 exact Prod.ext (quad_step l e 0 (by decide)).symm (Prod.ext (quad_step l e 1 (by decide)).symm (Prod.ext (quad_step l e 2 (by decide)).symm (quad_step l e 3 (by decide)).symm))
theorem sumsIt (all:List Ent) (ha:∀ e∈all,sm e.val∧okE e=true):∀ (post pre:List Ent),all=pre++post→ItR digest_Sums_b29 (quadI pre) (bktL post) (.inl (quadI all))
 | [],pre,h=>by rw [List.append_nil] at h; rw [h]; exact .nil
 | e::post,pre,h=>by
  have hm:e∈all:=by rw [h]; simp
  obtain ⟨h1,h2⟩:=ha e hm
  have hb:=bucketD_lt e.val.kind e.key
  have hlen:(putE e).1.length≤42:=by unfold putE; rw [h2]; exact putT_len h2
  refine .step (s':=quadI (pre++[e])) ⟨h1,_,rfl,⟨hb.1,hb.2⟩,by show (putE e).1.length≤_; omega,⟨hb.1,hb.2⟩,?_⟩ (sumsIt all ha post (pre++[e]) (by rw [h]; simp))
  exact congrArg Sum.inl (quad_all pre e _ rfl)
theorem sma_slots {a:Arena} (h:sma a):∀ e∈a.slots,sm e.val:=h.1.2
theorem digSums_ev (a:Arena) (h:sma a):digest_Sums_raw a (sumsD a):=by
 refine ⟨h,?_⟩
 cases ho:arOk a with
 | false =>
  have e1:slotsD a=[]:=by unfold slotsD; rw [ho]; rfl
  have e2:sumsD a=[0,0,0,0]:=by unfold sumsD; rw [ho]; rfl
  rw [e1,e2]
  exact ⟨_,.nil,fun s e=>(by cases e; rfl),fun _ e=>(by cases e)⟩
 | true =>
  have e1:slotsD a=bktL a.slots:=by unfold slotsD; rw [ho]; rfl
  have e2:sumsD a=sums4 a.slots:=by unfold sumsD; rw [ho]; rfl
  rw [e1,e2]
  have:=sumsIt a.slots (fun e he=>⟨sma_slots h e he,(ok_slots8 ho).2 e he⟩) a.slots [] rfl
  exact ⟨_,this,fun s e=>(by cases e; rfl),fun _ e=>(by cases e)⟩
/-! ### slots of buckets -/
def okM (m:Int):Bool:=decide (0≤m)&&decide (m≤15)
def hasB (m b:Int):Bool:=(m.toNat / 2 ^ b.toNat) % 2==1
def askE (m:Int) (e:Ent):Bool:=hasB m (bktE e)
def inL (m k:Int) (l:List Ent):List Ent:=(l.filter (askE m)).take k.toNat
def inD (a:Arena) (m k:Int):List Ent:=bif arOk a&&okM m then inL m k a.slots else []
theorem bit_go:∀ m,m<16→∀ b,b<4→(IntKind.i64.wrap ((BitVec.ofInt IntKind.i64.bits (Int.fdiv (m:Nat) (2 ^ min ((b:Nat):Int).toNat IntKind.i64.bits)) &&& BitVec.ofInt IntKind.i64.bits (1:Int)).toNat:Int)==1)=hasB (m:Nat) (b:Nat):=by decide +kernel
theorem bkt_nat (e:Ent):∃ b:Nat,b<4∧bktE e=(b:Int):=by
 have:=bucketD_lt e.val.kind e.key
 exact ⟨(bktE e).toNat,by unfold bktE; omega,by unfold bktE; omega⟩
theorem mask_nat {m:Int} (h:okM m=true):∃ k:Nat,k<16∧m=(k:Int):=by
 unfold okM at h
 simp only [Bool.and_eq_true,decide_eq_true_eq] at h
 exact ⟨m.toNat,by omega,by omega⟩
theorem inL_step (m k:Int) (l:List Ent) (e:Ent):inL m k (l++[e])=bif askE m e&&decide (((inL m k l).length:Int)<k) then inL m k l++[e] else inL m k l:=by
 unfold inL
 rw [List.filter_append]
 cases ha:askE m e with
 | false=>simp [ha]
 | true =>
  have:[e].filter (askE m)=[e]:=by simp [ha]
  rw [this,Bool.true_and]
  by_cases hk:(l.filter (askE m)).length<k.toNat
  ·have h1:(l.filter (askE m)).take k.toNat=l.filter (askE m):=List.take_of_length_le (by omega)
   rw [h1]
   have h2:decide (((l.filter (askE m)).length:Int)<k)=true:=by simp; omega
   rw [h2,cond_true,List.take_of_length_le (by simp; omega)]
  ·have h2:decide ((((l.filter (askE m)).take k.toNat).length:Int)<k)=false:=by
    simp only [List.length_take,decide_eq_false_iff_not]; omega
   rw [h2,cond_false,List.take_append_of_le_length (by omega)]
theorem inL_len (m k:Int) (l:List Ent):(inL m k l).length≤l.length:=by
 unfold inL
 exact Nat.le_trans (by rw [List.length_take]; exact Nat.min_le_right _ _) (List.length_filter_le _ _)
theorem inIt (m k:Int) (hm:okM m=true) (all:List Ent) (hl:all.length≤8):∀ (post pre:List Ent),all=pre++post→ItR (digest_In_b55 m k) (inL m k pre) (bktL post) (.inl (inL m k all))
 | [],pre,h=>by rw [List.append_nil] at h; rw [h]; exact .nil
 | e::post,pre,h=>by
  have hpl:(inL m k pre).length≤8:=by
   have:=inL_len m k pre
   have h2:all.length=pre.length + (post.length + 1):=by rw [h]; simp
   omega
  obtain ⟨b,hb,eb⟩:=bkt_nat e
  obtain ⟨mk,hmk,em⟩:=mask_nat hm
  have hg:(decide (0≤m)&&decide (m≤15))=true:=hm
  have hask:(IntKind.i64.wrap ((BitVec.ofInt IntKind.i64.bits (Int.fdiv m (2 ^ min (bktE e).toNat IntKind.i64.bits)) &&& BitVec.ofInt IntKind.i64.bits (1:Int)).toNat:Int)==1)=askE m e:=by
   unfold askE; rw [eb,em]; exact bit_go mk hmk b hb
  refine .step (s':=inL m k (pre++[e])) ⟨fun _=>?_,fun c=>?_,fun c=>?_⟩ (inIt m k hm all hl post (pre++[e]) (by rw [h]; simp))
  ·show decide (0≤bktE e)=true
   rw [eb]; simp
  ·simp only [hg,Bool.true_and] at c
   rw [show (IntKind.i64.wrap _==_)=askE m e from hask] at c
   rw [inL_step,c,Bool.true_and]
   refine ⟨fun d=>?_,fun d=>?_⟩
   ·rw [d]; exact ⟨⟨by omega,by omega⟩,rfl⟩
   ·rw [d]; rfl
  ·simp only [hg,Bool.true_and] at c
   rw [show (IntKind.i64.wrap _==_)=askE m e from hask] at c
   rw [inL_step,c]; rfl
theorem inIt0 (m k:Int) (hm:okM m=false):∀ (post:List Ent),ItR (digest_In_b55 m k) [] (bktL post) (.inl [])
 | []=>.nil
 | e::post=>by
  have hg:(decide (0≤m)&&decide (m≤15))=false:=hm
  refine .step (s':=[]) ⟨fun c=>(by rw [hg] at c; cases c),fun c=>(by simp only [hg,Bool.false_and] at c; cases c),fun _=>rfl⟩ (inIt0 m k hm post)
theorem digIn_ev (a:Arena) (m k:Int) (h:sma a):digest_In_raw a m k (inD a m k):=by
 refine ⟨h,?_⟩
 cases ho:arOk a with
 | false =>
  have e1:slotsD a=[]:=by unfold slotsD; rw [ho]; rfl
  have e2:inD a m k=[]:=by unfold inD; rw [ho]; rfl
  rw [e1,e2]
  exact ⟨_,.nil,fun s e=>(by cases e; rfl),fun _ e=>(by cases e)⟩
 | true =>
  have e1:slotsD a=bktL a.slots:=by unfold slotsD; rw [ho]; rfl
  rw [e1]
  cases hm:okM m with
  | false =>
   have e2:inD a m k=[]:=by unfold inD; rw [ho,hm]; rfl
   rw [e2]
   exact ⟨_,inIt0 m k hm _,fun s e=>(by cases e; rfl),fun _ e=>(by cases e)⟩
  | true =>
   have e2:inD a m k=inL m k a.slots:=by unfold inD; rw [ho,hm]; rfl
   rw [e2]
   have:=inIt m k hm a.slots (ok_slots8 ho).1 a.slots [] rfl
   have e0:inL m k []=[]:=by simp [inL]
   rw [e0] at this
   exact ⟨_,this,fun s e=>(by cases e; rfl),fun _ e=>(by cases e)⟩
/-! ### where sums differ -/
def difN (a b:List Int):Nat→Nat
 | 0=>0
 | i + 1=>difN a b i + bif nth a (i:Int) != nth b (i:Int) then 2 ^ i else 0
def differD (a b:List Int):Int:=(difN a b 4:Int)
theorem difN_lt (a b:List Int):∀ i,difN a b i<2 ^ i
 | 0=>(by decide:(0:Nat)<1)
 | i + 1=>by
  have:=difN_lt a b i
  unfold difN
  rw [Nat.pow_succ]
  cases nth a (i:Int) != nth b (i:Int) <;> simp only [cond_true,cond_false] <;> omega
theorem or_bit:∀ i,i<4→∀ m,m<2 ^ i→IntKind.i64.wrap ((BitVec.ofInt IntKind.i64.bits ((m:Nat):Int) ||| BitVec.ofInt IntKind.i64.bits (IntKind.i64.wrap ((1:Int) * 2 ^ min (((i:Nat):Int)).toNat IntKind.i64.bits))).toNat:Int)=((m + 2 ^ i:Nat):Int):=by decide +kernel
theorem difGo (a b:List Int):∀ n i,i + n=4→LoopR (digest_Differ_b6 a b) ((difN a b i:Int),(i:Int)) ((difN a b 4:Int),(4:Int))
 | 0,i,hi=>by
  obtain rfl:i=4:=by omega
  exact .done ⟨fun c=>by simp at c,fun _=>rfl⟩
 | n + 1,i,hi=>by
  have hr:0≤(i:Int)∧(i:Int)<((4:Nat):Int):=⟨by omega,by omega⟩
  have e5:IntKind.i64.wrap ((i:Int) + 1)=((i + 1:Nat):Int):=wrapS (n:=4) (by omega) (by omega)
  refine .step (s':=((difN a b (i + 1):Int),((i + 1:Nat):Int))) ⟨fun _=>⟨hr,hr,fun c=>⟨by simp,?_⟩,fun c=>?_⟩,fun c=>by simp at c; omega⟩ (difGo a b n (i + 1) (by omega))
  ·have c':(nth a (i:Int) != nth b (i:Int))=true:=c
   show Sum.inl _=Sum.inl _
   rw [difN,c',cond_true,← or_bit i (by omega) _ (difN_lt a b i),← e5]
  ·have c':(nth a (i:Int) != nth b (i:Int))=false:=c
   show Sum.inl _=Sum.inl _
   rw [difN,c',cond_false,Nat.add_zero,← e5]
theorem digDiffer_ev (a b:List Int):digest_Differ_raw a b (differD a b):=by
 refine ⟨fun c=>?_,fun c=>⟨_,difGo a b 4 0 rfl,rfl⟩⟩
 simp only [Bool.and_eq_true,beq_iff_eq] at c
 obtain ⟨c0,c1,c2,c3,_⟩:=c
 have h0:(nth a ((0:Nat):Int) != nth b ((0:Nat):Int))=false:=by simpa using c0
 have h1:(nth a ((1:Nat):Int) != nth b ((1:Nat):Int))=false:=by simpa using c1
 have h2:(nth a ((2:Nat):Int) != nth b ((2:Nat):Int))=false:=by simpa using c2
 have h3:(nth a ((3:Nat):Int) != nth b ((3:Nat):Int))=false:=by simpa using c3
 unfold differD
 simp only [difN,h0,h1,h2,h3,cond_false]
 rfl
/-! ### sums of bytes -/
def getD4 (s:Str):List Int:=[(getO s 0 4).1,(getO s 4 4).1,(getO s 8 4).1,(getO s 12 4).1]
def getD (s:Str):List Int × Int:=bif (s.length:Int) != 16 then ([0,0,0,0],2) else (getD4 s,0)
theorem getDigLoop (s:Str) (hs:s.length≤9223372036854775807):LoopR (digest_Get_b10 s) ((0:Int),(0:Int),(0:Int),(0:Int),(0:Int)) ((4:Int),(getO s 0 4).1,(getO s 4 4).1,(getO s 8 4).1,(getO s 12 4).1):=by
 refine .step (s':=((1:Int),(getO s 0 4).1,(0:Int),(0:Int),(0:Int))) ⟨fun _=>⟨hs,getO s 0 4,rfl,⟨(by decide:(0:Int)≤0),(by decide:(0:Int)<((4:Nat):Int))⟩,rfl⟩,fun c=>absurd c (by show ¬ (decide ((0:Int)<4)=false); decide)⟩ ?_
 refine .step (s':=((2:Int),(getO s 0 4).1,(getO s 4 4).1,(0:Int),(0:Int))) ⟨fun _=>⟨hs,getO s 4 4,rfl,⟨(by decide:(0:Int)≤1),(by decide:(1:Int)<((4:Nat):Int))⟩,rfl⟩,fun c=>absurd c (by show ¬ (decide ((1:Int)<4)=false); decide)⟩ ?_
 refine .step (s':=((3:Int),(getO s 0 4).1,(getO s 4 4).1,(getO s 8 4).1,(0:Int))) ⟨fun _=>⟨hs,getO s 8 4,rfl,⟨(by decide:(0:Int)≤2),(by decide:(2:Int)<((4:Nat):Int))⟩,rfl⟩,fun c=>absurd c (by show ¬ (decide ((2:Int)<4)=false); decide)⟩ ?_
 refine .step (s':=((4:Int),(getO s 0 4).1,(getO s 4 4).1,(getO s 8 4).1,(getO s 12 4).1)) ⟨fun _=>⟨hs,getO s 12 4,rfl,⟨(by decide:(0:Int)≤3),(by decide:(3:Int)<((4:Nat):Int))⟩,rfl⟩,fun c=>absurd c (by show ¬ (decide ((3:Int)<4)=false); decide)⟩ ?_
 exact .done ⟨fun c=>absurd c (by show ¬ (decide ((4:Int)<4)=true); decide),fun _=>rfl⟩
theorem digGet_ev (s:Str):digest_Get_raw s (getD s):=by
 refine ⟨fun c=>by unfold getD; rw [c]; rfl,fun c=>?_⟩
 have hl:s.length≤9223372036854775807:=by
  have:(s.length:Int)=16:=by simpa using c
  omega
 refine ⟨_,getDigLoop s hl,?_⟩
 unfold getD; rw [c]; rfl
def law10_works_raw (y:Bool):Prop :=
 ∃ x1,x1=(newA (2:Int))∧((sma x1.1)∧((sm (⟨([107]:Str),(⟨(3:Int),(0:Int),(0:Int),false,([]:Str),([]:List Int),([]:List Int),(1:Int)⟩:Val)⟩:Ent).val)∧((WfV (⟨([107]:Str),(⟨(3:Int),(0:Int),(0:Int),false,([]:Str),([]:List Int),([]:List Int),(1:Int)⟩:Val)⟩:Ent).val)∧(∃ x27,x27=(joinA x1.1 (⟨([107]:Str),(⟨(3:Int),(0:Int),(0:Int),false,([]:Str),([]:List Int),([]:List Int),(1:Int)⟩:Val)⟩:Ent))∧((sm (⟨([107]:Str),(⟨(3:Int),(0:Int),(0:Int),false,([]:Str),([]:List Int),([]:List Int),(1:Int)⟩:Val)⟩:Ent).val)∧(∃ x59,x59=(putE (⟨([107]:Str),(⟨(3:Int),(0:Int),(0:Int),false,([]:Str),([]:List Int),([]:List Int),(1:Int)⟩:Val)⟩:Ent))∧((([107]:Str).length≤1000000)∧((((decide ((bucketD (3:Int) ([107]:Str))<0))||(decide (3<(bucketD (3:Int) ([107]:Str)))))=true→(y=false))∧(((decide ((bucketD (3:Int) ([107]:Str))<0))||(decide (3<(bucketD (3:Int) ([107]:Str)))))=false→((sma x27.1)∧(∃ x76,x76=(sumsD x27.1)∧(sma x1.1∧(∃ x105,x105=(sumsD x1.1)∧(x105.length=4∧(∃ x144,x144=(putD [(1:Int),(2:Int),(3:Int),(4:Int)])∧(∃ x152,x152=(getD x144.1)∧(∃ x183,x183=(putD [(-1:Int),(0:Int),(0:Int),(0:Int)])∧(∃ x192,x192=(getD ([]:Str))∧((x27.2.2==0)=true∧((((nth (sumsD x1.1) 0)==0)&&(((nth (sumsD x1.1) 1)==0)&&(((nth (sumsD x1.1) 2)==0)&&(((nth (sumsD x1.1) 3)==0)&&true))))=true∧(((nth x76 (bucketD (3:Int) ([107]:Str)))==(sumC x59.1))=true∧(((differD x76 x105)==(IntKind.i64.wrap ((1:Int) * 2 ^ min ((IntKind.u64.wrap (bucketD (3:Int) ([107]:Str)))).toNat IntKind.i64.bits)))=true∧((((inD x27.1 (differD x76 x105) (5:Int)).length:Int)==1)=true∧((((inD x27.1 (IntKind.i64.wrap ((15:Int) - (differD x76 x105))) (5:Int)).length:Int)==0)=true∧(sma x1.1∧(∃ x254,x254=(sumsD x1.1)∧(x254.length=4∧((0≤(bucketD (3:Int) ([107]:Str))∧(bucketD (3:Int) ([107]:Str))<((4:Nat):Int))∧(x59.1.length≤9223372036854775807∧(decide (0≤(IntKind.u64.wrap (bucketD (3:Int) ([107]:Str))))=true∧(sma x27.1∧(∃ x261,x261=(inD x27.1 (differD x76 x105) (5:Int))∧(sma x27.1∧(∃ x266,x266=(inD x27.1 (IntKind.i64.wrap ((15:Int) - (differD x76 x105))) (5:Int))∧(sma x27.1∧(∃ x271,x271=(inD x27.1 (differD x76 x105) (0:Int))∧(y=((((((((x271.length:Int)==0)&&((x144.1.length:Int)==16))&&(x144.2==0))&&(((nth x152.1 0)==1)&&(((nth x152.1 1)==2)&&(((nth x152.1 2)==3)&&(((nth x152.1 3)==4)&&true)))))&&(x152.2==0))&&(x183.2==1))&&(x192.2==2)))))))))))))))))))))))))))))))))))))))
set_option maxRecDepth 20000 in
set_option maxHeartbeats 4000000 in
theorem law10_works_c {L:List Nat} {w:World}  (hL:Lt L w) {y:Bool} (h:law10_works_raw y) :
  Calls Tryz.prog 9 [].toArray w (Ret fun v w'=>Ext w w'∧v=.bool y):=by
 unfold law10_works_raw at h
 refine calls_ec Tryz.func9 rfl rfl rfl ?_
 refine ec_sr ?_
 refine o_w (v:=.bool false) (r_asg rfl) ?_
 refine eo_r ?_
 obtain ⟨x1,hx1,h⟩:=h
 refine o_call cf_arena_New rfl (arena_New_c (2:Int) hL (eq_ev hx1 (arNew_ev (2:Int)))) rfl rfl ?_
 rintro _ w1 ⟨F1,cs2,rfl,H3⟩
 obtain ⟨A4,c5,A7,c8,rfl,H6,H9⟩:=kArena_open H3
 refine o_w (v:=.tuple #[.agg (cArena x1.1 A4 c5 A7 c8).toArray,.int .i64 x1.2]) (r_mov rfl) ?_
 refine o_w (v:=.agg (cArena x1.1 A4 c5 A7 c8).toArray) (r_ext rfl rfl) ?_
 refine o_w (v:=.int .i64 x1.2) (r_ext rfl rfl) ?_
 refine o_alloc zero_api_Arena rfl rfl rfl ?_
 intro b10 w10 e10 F10 B10
 have n10:w.heap.size≤b10:=by rw [e10]; exact F1.size
 have m11:w1.heap.size≤b10:=Nat.le_of_eq e10.symm
 have E12:=F1.trans F10
 have G13:Fr L w1 w10:=Fr.ext F10
 refine o_store rfl B10 (vs:=(cArena x1.1 A4 c5 A7 c8)) rfl sz_api_Arena rfl rfl rfl ?_
 intro w14 F14 B14
 have E15:=Ext.st E12 F14 (by simp; omega)
 have G16:Fr L w1 w14:=G13.stp F14 (upc (.inr m11) (fun m hm=>by cases hm))
 have B14':Blk w14 b10 _ (cArena x1.1 A4 c5 A7 c8):=B14
 refine o_w (v:=.int .i64 x1.2) (r_asg rfl) ?_
 refine eo_r ?_
 refine o_w (v:=.agg #[.int .i64 3,.int .i64 0,.int .i64 0,.bool false,str [],.slice none ([]:List Int).length 0,.slice none ([]:List Int).length 0,.int .u64 1]) (r_build bld_api_Value (vs:=[(0,.int .i64 3),(7,.int .u64 1)]) (cells:=[.int .i64 3,.int .i64 0,.int .i64 0,.bool false,str [],.slice none ([]:List Int).length 0,.slice none ([]:List Int).length 0,.int .u64 1]) rfl rfl) ?_
 refine o_w (v:=.agg #[str ([107]:Str),.int .i64 3,.int .i64 0,.int .i64 0,.bool false,str [],.slice none ([]:List Int).length 0,.slice none ([]:List Int).length 0,.int .u64 1]) (r_build bld_api_Entry (vs:=[(0,str ([107]:Str)),(1,.agg #[.int .i64 3,.int .i64 0,.int .i64 0,.bool false,str [],.slice none ([]:List Int).length 0,.slice none ([]:List Int).length 0,.int .u64 1])]) (cells:=[str ([107]:Str),.int .i64 3,.int .i64 0,.int .i64 0,.bool false,str [],.slice none ([]:List Int).length 0,.slice none ([]:List Int).length 0,.int .u64 1]) rfl rfl) ?_
 refine o_alloc zero_api_Entry rfl rfl rfl ?_
 intro b17 w17 e17 F17 B17
 have n17:w.heap.size≤b17:=by rw [e17]; exact E15.size
 have q18:b10<b17:=by rw [e17]; exact B14'.lt
 have m19:w1.heap.size≤b17:=by rw [e17]; exact G16.size
 have E20:=E15.trans F17
 refine o_store rfl B17 (vs:=[str ([107]:Str),.int .i64 3,.int .i64 0,.int .i64 0,.bool false,str [],.slice none ([]:List Int).length 0,.slice none ([]:List Int).length 0,.int .u64 1]) rfl sz_api_Entry rfl rfl rfl ?_
 intro w23 F23 B23
 have E24:=Ext.st E20 F23 (by simp; omega)
 have G25:Fr L w1 w23:=(G16.trans (Fr.ext F17)).stp F23 (upc (.inr m19) (fun m hm=>by cases hm))
 have B26:=(B14'.ex F17).fr F23 (by simp; omega)
 have B23':Blk w23 b17 _ [str ([107]:Str),.int .i64 3,.int .i64 0,.int .i64 0,.bool false,str [],.slice none ([]:List Int).length 0,.slice none ([]:List Int).length 0,.int .u64 1]:=B23
 refine eo_r ?_
 refine o_w (v:=.agg (cArena x1.1 A4 c5 A7 c8).toArray) (r_lda agg_api_Arena rfl (vs:=(cArena x1.1 A4 c5 A7 c8)) rfl (B26.part (n:=3) rfl)) ?_
 refine o_w (v:=.agg #[str ([107]:Str),.int .i64 3,.int .i64 0,.int .i64 0,.bool false,str [],.slice none ([]:List Int).length 0,.slice none ([]:List Int).length 0,.int .u64 1]) (r_lda agg_api_Entry rfl (vs:=[str ([107]:Str),.int .i64 3,.int .i64 0,.int .i64 0,.bool false,str [],.slice none ([]:List Int).length 0,.slice none ([]:List Int).length 0,.int .u64 1]) rfl (B23'.part (n:=9) rfl)) ?_
 obtain ⟨ha28,h⟩:=h
 obtain ⟨ha29,h⟩:=h
 obtain ⟨ha30,h⟩:=h
 obtain ⟨x27,hx27,h⟩:=h
 refine o_call cf_arena_Join rfl (arena_Join_c x1.1 (kArena_mk (d:=x1.1) (H6.up G25 sI (upc (.inr m19) (upc (.inr m11) (fun _ h=>.inl h)))) (H9.up G25 sI (upc (.inr m19) (upc (.inr m11) (fun _ h=>.inl h))))) (⟨([107]:Str),(⟨(3:Int),(0:Int),(0:Int),false,([]:Str),([]:List Int),([]:List Int),(1:Int)⟩:Val)⟩:Ent) (kEnt_mk (d:=(⟨([107]:Str),(⟨(3:Int),(0:Int),(0:Int),false,([]:Str),([]:List Int),([]:List Int),(1:Int)⟩:Val)⟩:Ent)) stb_nil stb_nil) (((hL.fr E24).cons B26.lt).cons B23'.lt) (eq_ev hx27 (arJoin_ev x1.1 (⟨([107]:Str),(⟨(3:Int),(0:Int),(0:Int),false,([]:Str),([]:List Int),([]:List Int),(1:Int)⟩:Val)⟩:Ent) ha28 ha29 ha30))) rfl rfl ?_
 rintro _ w27 ⟨F27,cs31,rfl,H32⟩
 have E33:=E24.trans F27
 obtain ⟨A37,c38,A40,c41,rfl,H39,H42⟩:=kArena_open H32
 refine o_w (v:=.tuple #[.agg (cArena x27.1 A37 c38 A40 c41).toArray,.bool x27.2.1,.int .i64 x27.2.2]) (r_mov rfl) ?_
 refine o_w (v:=.agg (cArena x27.1 A37 c38 A40 c41).toArray) (r_ext rfl rfl) ?_
 refine o_w (v:=.bool x27.2.1) (r_ext rfl rfl) ?_
 refine o_w (v:=.int .i64 x27.2.2) (r_ext rfl rfl) ?_
 refine o_alloc zero_api_Arena rfl rfl rfl ?_
 intro b43 w43 e43 F43 B43
 have n43:w.heap.size≤b43:=by rw [e43]; exact E33.size
 have q44:b10<b43:=by rw [e43]; exact (B26.ex F27).lt
 have q45:b17<b43:=by rw [e43]; exact (B23'.ex F27).lt
 have m46:w1.heap.size≤b43:=by rw [e43]; exact (G25.trans (Fr.ext F27)).size
 have m47:w27.heap.size≤b43:=Nat.le_of_eq e43.symm
 have E48:=E33.trans F43
 have G50:Fr (b17::(b10::L)) w27 w43:=Fr.ext F43
 refine o_store rfl B43 (vs:=(cArena x27.1 A37 c38 A40 c41)) rfl sz_api_Arena rfl rfl rfl ?_
 intro w53 F53 B53
 have E54:=Ext.st E48 F53 (by simp; omega)
 have G55:Fr L w1 w53:=((G25.trans (Fr.ext F27)).trans (Fr.ext F43)).stp F53 (upc (.inr m46) (fun m hm=>by cases hm))
 have G56:Fr (b17::(b10::L)) w27 w53:=G50.stp F53 (upc (.inr m47) (fun m hm=>by cases hm))
 have B57:=((B26.ex F27).ex F43).fr F53 (by simp; omega)
 have B58:=((B23'.ex F27).ex F43).fr F53 (by simp; omega)
 have B53':Blk w53 b43 _ (cArena x27.1 A37 c38 A40 c41):=B53
 refine o_w (v:=.bool x27.2.1) (r_asg rfl) ?_
 refine o_w (v:=.int .i64 x27.2.2) (r_asg rfl) ?_
 refine eo_r ?_
 refine o_w (v:=.agg #[str ([107]:Str),.int .i64 3,.int .i64 0,.int .i64 0,.bool false,str [],.slice none ([]:List Int).length 0,.slice none ([]:List Int).length 0,.int .u64 1]) (r_lda agg_api_Entry rfl (vs:=[str ([107]:Str),.int .i64 3,.int .i64 0,.int .i64 0,.bool false,str [],.slice none ([]:List Int).length 0,.slice none ([]:List Int).length 0,.int .u64 1]) rfl (B58.part (n:=9) rfl)) ?_
 obtain ⟨ha60,h⟩:=h
 obtain ⟨x59,hx59,h⟩:=h
 refine o_call cf_entry_Put rfl (entry_Put_c (⟨([107]:Str),(⟨(3:Int),(0:Int),(0:Int),false,([]:Str),([]:List Int),([]:List Int),(1:Int)⟩:Val)⟩:Ent) (kEnt_mk (d:=(⟨([107]:Str),(⟨(3:Int),(0:Int),(0:Int),false,([]:Str),([]:List Int),([]:List Int),(1:Int)⟩:Val)⟩:Ent)) stb_nil stb_nil) ((((hL.fr E54).cons B57.lt).cons B58.lt).cons B53'.lt) (eq_ev hx59 (entPut_ev (⟨([107]:Str),(⟨(3:Int),(0:Int),(0:Int),false,([]:Str),([]:List Int),([]:List Int),(1:Int)⟩:Val)⟩:Ent) ha60))) rfl rfl ?_
 rintro _ w59 ⟨F59,rfl⟩
 have E61:=E54.trans F59
 refine o_w (v:=.tuple #[str x59.1,.int .i64 x59.2]) (r_mov rfl) ?_
 refine o_w (v:=str x59.1) (r_ext rfl rfl) ?_
 refine o_w (v:=.int .i64 x59.2) (r_ext rfl rfl) ?_
 refine o_w (v:=str x59.1) (r_asg rfl) ?_
 refine o_w (v:=.int .i64 x59.2) (r_asg rfl) ?_
 refine eo_r ?_
 obtain ⟨ha68,h⟩:=h
 refine o_call cf_digest_Bucket rfl (digest_Bucket_c (3:Int) ([107]:Str) ((((hL.fr E61).cons (B57.ex F59).lt).cons (B58.ex F59).lt).cons (B53'.ex F59).lt) (digBucket_ev (3:Int) ([107]:Str) ha68)) rfl rfl ?_
 rintro _ w67 ⟨F67,rfl⟩
 have E69:=E61.trans F67
 refine o_w (v:=.int .i64 (bucketD (3:Int) ([107]:Str))) (r_asg rfl) ?_
 refine eo_nil_sq ?_
 refine ec_seq ?_
 refine ec_sr ?_
 refine o_w (v:=.int .i64 (bucketD (3:Int) ([107]:Str))) (r_mov rfl) ?_
 refine o_w (v:=.bool (decide ((bucketD (3:Int) ([107]:Str))<0))) (r_int rfl rfl rfl) ?_
 refine o_w (v:=.bool (decide ((bucketD (3:Int) ([107]:Str))<0))) (r_mov rfl) ?_
 refine o_vg (v:=.int .i64 (bucketD (3:Int) ([107]:Str))) (want_cf (t:=41) rfl rfl) (fun hk=>(r_mov rfl)) rfl rfl ?_
 refine o_vg (v:=.bool (decide (3<(bucketD (3:Int) ([107]:Str))))) (want_cf (t:=41) rfl rfl) (fun hk=>(r_int (gdT (u:=undef) hk) rfl rfl)) rfl rfl ?_
 refine o_w (v:=.bool ((decide ((bucketD (3:Int) ([107]:Str))<0))||(decide (3<(bucketD (3:Int) ([107]:Str)))))) (r_pickOr rfl rfl (fun hf=>(gdT (u:=undef) (notT hf)))) ?_
 refine eo_nil_sq ?_
 refine ec_cond rfl (fun hc75=>?_) (fun hc75=>?_)
 ·replace h:=h.1 hc75
  refine ec_sr ?_
  refine o_w (v:=.bool false) (r_asg rfl) ?_
  refine eo_nil_sq ?_
  refine ec_ret ?_
  refine sq_ret ?_
  subst h
  exact (end1 rfl ⟨_,rfl,E69,rfl⟩)
 ·replace h:=h.2 hc75
  refine ec_skip ?_
  refine sq_n ?_
  refine ec_sr ?_
  refine o_w (v:=.agg (cArena x27.1 A37 c38 A40 c41).toArray) (r_lda agg_api_Arena rfl (vs:=(cArena x27.1 A37 c38 A40 c41)) rfl (((B53'.ex F59).ex F67).part (n:=3) rfl)) ?_
  obtain ⟨ha77,h⟩:=h
  obtain ⟨x76,hx76,h⟩:=h
  refine o_call cf_digest_Sums rfl (digest_Sums_c x27.1 (kArena_mk (d:=x27.1) (H39.up ((G56.trans (Fr.ext F59)).trans (Fr.ext F67)) sI (upc (.inr m47) (upc (.inl mH) (upc (.inl (mT mH)) (fun m hm=>Or.inl (mT (mT hm))))))) (H42.up ((G56.trans (Fr.ext F59)).trans (Fr.ext F67)) sI (upc (.inr m47) (upc (.inl mH) (upc (.inl (mT mH)) (fun m hm=>Or.inl (mT (mT hm)))))))) ((((hL.fr E69).cons ((B57.ex F59).ex F67).lt).cons ((B58.ex F59).ex F67).lt).cons ((B53'.ex F59).ex F67).lt) (eq_ev hx76 (digSums_ev x27.1 ha77))) rfl rfl ?_
  rintro _ w76 ⟨F76,rfl,hl78⟩
  have E79:=E69.trans F76
  refine o_alloc zero_4_int rfl rfl rfl ?_
  intro b85 w85 e85 F85 B85
  have n85:w.heap.size≤b85:=by rw [e85]; exact E79.size
  have q86:b10<b85:=by rw [e85]; exact (((B57.ex F59).ex F67).ex F76).lt
  have q87:b17<b85:=by rw [e85]; exact (((B58.ex F59).ex F67).ex F76).lt
  have q88:b43<b85:=by rw [e85]; exact (((B53'.ex F59).ex F67).ex F76).lt
  have m89:w1.heap.size≤b85:=by rw [e85]; exact (((G55.trans (Fr.ext F59)).trans (Fr.ext F67)).trans (Fr.ext F76)).size
  have m90:w27.heap.size≤b85:=by rw [e85]; exact (((G56.trans (Fr.ext F59)).trans (Fr.ext F67)).trans (Fr.ext F76)).size
  have E91:=E79.trans F85
  have G92:=(((G55.trans (Fr.ext F59)).trans (Fr.ext F67)).trans (Fr.ext F76)).trans (Fr.ext F85)
  have G93:=(((G56.trans (Fr.ext F59)).trans (Fr.ext F67)).trans (Fr.ext F76)).trans (Fr.ext F85)
  refine o_store rfl B85 (vs:=[.int .i64 (nth x76 0),.int .i64 (nth x76 1),.int .i64 (nth x76 2),.int .i64 (nth x76 3)]) rfl sz_4_int rfl rfl rfl ?_
  intro w97 F97 B97
  have E98:=Ext.st E91 F97 (by simp; omega)
  have G99:Fr L w1 w97:=G92.stp F97 (upc (.inr m89) (fun m hm=>by cases hm))
  have G100:Fr (b17::(b10::L)) w27 w97:=G93.stp F97 (upc (.inr m90) (fun m hm=>by cases hm))
  have B101:=((((B57.ex F59).ex F67).ex F76).ex F85).fr F97 (by simp; omega)
  have B102:=((((B58.ex F59).ex F67).ex F76).ex F85).fr F97 (by simp; omega)
  have B103:=((((B53'.ex F59).ex F67).ex F76).ex F85).fr F97 (by simp; omega)
  have B97':Blk w97 b85 _ [.int .i64 (nth x76 0),.int .i64 (nth x76 1),.int .i64 (nth x76 2),.int .i64 (nth x76 3)]:=B97
  refine eo_nil_sq ?_
  refine ec_seq ?_
  obtain ⟨ha106,h⟩:=h
  obtain ⟨x105,hx105,h⟩:=h
  obtain ⟨ha107,h⟩:=h
  refine ec_any0 (by kernel_rfl) [[],[],[1],[0,1,2],[0,1,2,3]] [11,47,48,49,50] [fun v _=>v=(.agg #[.int .i64 (nth x76 0),.int .i64 (nth x76 1),.int .i64 (nth x76 2),.int .i64 (nth x76 3)]:Value),fun v _=>v=(.agg (cArena x1.1 A4 c5 A7 c8).toArray:Value),fun v _=>v=(.agg #[.int .i64 (nth x105 0),.int .i64 (nth x105 1),.int .i64 (nth x105 2),.int .i64 (nth x105 3)]:Value),fun v _=>v=(.int .i64 (differD x76 x105):Value),fun v _=>v=(.int .i64 (differD x76 x105):Value)] (by kernel_rfl) ⟨fun _ _ _ _ _ h=>h,fun _ _ _ _ _ h=>h,fun _ _ _ _ _ h=>h,fun _ _ _ _ _ h=>h,fun _ _ _ _ _ h=>h,trivial⟩ ?_ ?_
  ·refine ⟨?_,?_,?_,?_,?_,trivial⟩
   ·intro ρ w104o F104o hS hρ
    have q10:ρ 10=.pointer (some ⟨b85,0,none⟩):=hρ 10 (by kernel_rfl)
    exact o_q (r_lda agg_4_int q10 (vs:=[.int .i64 (nth x76 0),.int .i64 (nth x76 1),.int .i64 (nth x76 2),.int .i64 (nth x76 3)]) rfl ((B97'.ex F104o).part (n:=4) rfl)) ⟨Fr.refl _ _,rfl⟩
   ·intro ρ w104o F104o hS hρ
    have q1:ρ 1=.pointer (some ⟨b10,0,none⟩):=hρ 1 (by kernel_rfl)
    exact o_q (r_lda agg_api_Arena q1 (vs:=(cArena x1.1 A4 c5 A7 c8)) rfl ((B101.ex F104o).part (n:=3) rfl)) ⟨Fr.refl _ _,rfl⟩
   ·intro ρ w104o F104o hS hρ
    have E123:=E98.trans F104o
    have q48:ρ 48=.agg (cArena x1.1 A4 c5 A7 c8).toArray:=hS 1 (by decide) 48 rfl
    refine o_call cf_digest_Sums (by simp only [List.map,ev,q48] <;> rfl) (digest_Sums_c x1.1 (kArena_mk (d:=x1.1) (H6.up (G99.trans (Fr.ext F104o)) sI (upc (.inr m89) (upc (.inr m46) (upc (.inr m19) (upc (.inr m11) (fun _ h=>.inl h)))))) (H9.up (G99.trans (Fr.ext F104o)) sI (upc (.inr m89) (upc (.inr m46) (upc (.inr m19) (upc (.inr m11) (fun _ h=>.inl h))))))) (((((hL.fr E123).cons (B101.ex F104o).lt).cons (B102.ex F104o).lt).cons (B103.ex F104o).lt).cons (B97'.ex F104o).lt) (eq_ev hx105 (digSums_ev x1.1 ha106))) rfl rfl ?_
    rintro _ w' ⟨F,rfl,_⟩
    exact eo_nil ⟨rfl,rfl,_,rfl,F,rfl⟩
   ·intro ρ w104o F104o hS hρ
    have E130:=E98.trans F104o
    have q47:ρ 47=.agg #[.int .i64 (nth x76 0),.int .i64 (nth x76 1),.int .i64 (nth x76 2),.int .i64 (nth x76 3)]:=hS 0 (by decide) 47 rfl
    have q49:ρ 49=.agg #[.int .i64 (nth x105 0),.int .i64 (nth x105 1),.int .i64 (nth x105 2),.int .i64 (nth x105 3)]:=hS 2 (by decide) 49 rfl
    refine o_call cf_digest_Differ (by simp only [List.map,ev,q47,q49] <;> rfl) (digest_Differ_c x76 hl78 x105 ha107 (((((hL.fr E130).cons (B101.ex F104o).lt).cons (B102.ex F104o).lt).cons (B103.ex F104o).lt).cons (B97'.ex F104o).lt) (digDiffer_ev x76 x105)) rfl rfl ?_
    rintro _ w' ⟨F,rfl⟩
    exact eo_nil ⟨rfl,rfl,_,rfl,F,rfl⟩
   ·intro ρ w104o F104o hS hρ
    have q50:ρ 50=.int .i64 (differD x76 x105):=hS 3 (by decide) 50 rfl
    exact o_q (r_asg q50) ⟨Fr.refl _ _,rfl⟩
  ·intro ρ w104 F104 hS hρ
   have q11:ρ 11=.int .i64 (differD x76 x105):=hS 4 11 rfl
   obtain ⟨ρ',rfl⟩:∃ ρ',ρ=envs (ovr [11,47,48,49,50] ρ' _) [(11,.int .i64 (differD x76 x105))]:=⟨ρ,ovr_self hρ ⟨q11,trivial⟩⟩
   have E137:=E98.trans F104
   refine sq_n ?_
   refine ec_sr ?_
   refine o_w (v:=.agg #[.int .i64 1,.int .i64 2,.int .i64 3,.int .i64 4]) (r_build bld_4_int (vs:=[(0,.int .i64 1),(1,.int .i64 2),(2,.int .i64 3),(3,.int .i64 4)]) (cells:=[.int .i64 1,.int .i64 2,.int .i64 3,.int .i64 4]) rfl rfl) ?_
   obtain ⟨x144,hx144,h⟩:=h
   refine o_call cf_digest_Put rfl (digest_Put_c [(1:Int),(2:Int),(3:Int),(4:Int)] rfl (((((hL.fr E137).cons (B101.ex F104).lt).cons (B102.ex F104).lt).cons (B103.ex F104).lt).cons (B97'.ex F104).lt) (eq_ev hx144 (digPut_ev [(1:Int),(2:Int),(3:Int),(4:Int)]))) rfl rfl ?_
   rintro _ w144 ⟨F144,rfl⟩
   have E145:=E137.trans F144
   refine o_w (v:=.tuple #[str x144.1,.int .i64 x144.2]) (r_mov rfl) ?_
   refine o_w (v:=str x144.1) (r_ext rfl rfl) ?_
   refine o_w (v:=.int .i64 x144.2) (r_ext rfl rfl) ?_
   refine o_w (v:=str x144.1) (r_asg rfl) ?_
   refine o_w (v:=.int .i64 x144.2) (r_asg rfl) ?_
   refine eo_r ?_
   refine o_w (v:=str x144.1) (r_mov rfl) ?_
   obtain ⟨x152,hx152,h⟩:=h
   refine o_call cf_digest_Get rfl (digest_Get_c x144.1 (((((hL.fr E145).cons ((B101.ex F104).ex F144).lt).cons ((B102.ex F104).ex F144).lt).cons ((B103.ex F104).ex F144).lt).cons ((B97'.ex F104).ex F144).lt) (eq_ev hx152 (digGet_ev x144.1))) rfl rfl ?_
   rintro _ w152 ⟨F152,rfl,hl153⟩
   have E154:=E145.trans F152
   have G156:=((G100.trans (Fr.ext F104)).trans (Fr.ext F144)).trans (Fr.ext F152)
   refine o_w (v:=.tuple #[.agg #[.int .i64 (nth x152.1 0),.int .i64 (nth x152.1 1),.int .i64 (nth x152.1 2),.int .i64 (nth x152.1 3)],.int .i64 x152.2]) (r_mov rfl) ?_
   refine o_w (v:=.agg #[.int .i64 (nth x152.1 0),.int .i64 (nth x152.1 1),.int .i64 (nth x152.1 2),.int .i64 (nth x152.1 3)]) (r_ext rfl rfl) ?_
   refine o_w (v:=.int .i64 x152.2) (r_ext rfl rfl) ?_
   refine o_alloc zero_4_int rfl rfl rfl ?_
   intro b161 w161 e161 F161 B161
   have n161:w.heap.size≤b161:=by rw [e161]; exact E154.size
   have q162:b10<b161:=by rw [e161]; exact (((B101.ex F104).ex F144).ex F152).lt
   have q163:b17<b161:=by rw [e161]; exact (((B102.ex F104).ex F144).ex F152).lt
   have q164:b43<b161:=by rw [e161]; exact (((B103.ex F104).ex F144).ex F152).lt
   have q165:b85<b161:=by rw [e161]; exact (((B97'.ex F104).ex F144).ex F152).lt
   have m166:w1.heap.size≤b161:=by rw [e161]; exact (((G99.trans (Fr.ext F104)).trans (Fr.ext F144)).trans (Fr.ext F152)).size
   have m167:w27.heap.size≤b161:=by rw [e161]; exact G156.size
   have E168:=E154.trans F161
   have G169:=(((G99.trans (Fr.ext F104)).trans (Fr.ext F144)).trans (Fr.ext F152)).trans (Fr.ext F161)
   refine o_store rfl B161 (vs:=[.int .i64 (nth x152.1 0),.int .i64 (nth x152.1 1),.int .i64 (nth x152.1 2),.int .i64 (nth x152.1 3)]) rfl sz_4_int rfl rfl rfl ?_
   intro w175 F175 B175
   have E176:=Ext.st E168 F175 (by simp; omega)
   have G177:Fr L w1 w175:=G169.stp F175 (upc (.inr m166) (fun m hm=>by cases hm))
   have G178:Fr (b17::(b10::L)) w27 w175:=(G156.trans (Fr.ext F161)).stp F175 (upc (.inr m167) (fun m hm=>by cases hm))
   have B179:=((((B101.ex F104).ex F144).ex F152).ex F161).fr F175 (by simp; omega)
   have B180:=((((B102.ex F104).ex F144).ex F152).ex F161).fr F175 (by simp; omega)
   have B181:=((((B103.ex F104).ex F144).ex F152).ex F161).fr F175 (by simp; omega)
   have B182:=((((B97'.ex F104).ex F144).ex F152).ex F161).fr F175 (by simp; omega)
   have B175':Blk w175 b161 _ [.int .i64 (nth x152.1 0),.int .i64 (nth x152.1 1),.int .i64 (nth x152.1 2),.int .i64 (nth x152.1 3)]:=B175
   refine o_w (v:=.int .i64 x152.2) (r_asg rfl) ?_
   refine eo_r ?_
   refine o_w (v:=.agg #[.int .i64 (-1:Int),.int .i64 0,.int .i64 0,.int .i64 0]) (r_build bld_4_int (vs:=[(0,.int .i64 (-1:Int)),(1,.int .i64 0),(2,.int .i64 0),(3,.int .i64 0)]) (cells:=[.int .i64 (-1:Int),.int .i64 0,.int .i64 0,.int .i64 0]) rfl rfl) ?_
   obtain ⟨x183,hx183,h⟩:=h
   refine o_call cf_digest_Put rfl (digest_Put_c [(-1:Int),(0:Int),(0:Int),(0:Int)] rfl ((((((hL.fr E176).cons B179.lt).cons B180.lt).cons B181.lt).cons B182.lt).cons B175'.lt) (eq_ev hx183 (digPut_ev [(-1:Int),(0:Int),(0:Int),(0:Int)]))) rfl rfl ?_
   rintro _ w183 ⟨F183,rfl⟩
   have E184:=E176.trans F183
   refine o_w (v:=.tuple #[str x183.1,.int .i64 x183.2]) (r_mov rfl) ?_
   refine o_w (v:=str x183.1) (r_ext rfl rfl) ?_
   refine o_w (v:=.int .i64 x183.2) (r_ext rfl rfl) ?_
   refine o_w (v:=str x183.1) (r_asg rfl) ?_
   refine o_w (v:=.int .i64 x183.2) (r_asg rfl) ?_
   refine eo_r ?_
   obtain ⟨x192,hx192,h⟩:=h
   refine o_call cf_digest_Get rfl (digest_Get_c ([]:Str) ((((((hL.fr E184).cons (B179.ex F183).lt).cons (B180.ex F183).lt).cons (B181.ex F183).lt).cons (B182.ex F183).lt).cons (B175'.ex F183).lt) (eq_ev hx192 (digGet_ev ([]:Str)))) rfl rfl ?_
   rintro _ w192 ⟨F192,rfl,hl193⟩
   have E194:=E184.trans F192
   refine o_w (v:=.tuple #[.agg #[.int .i64 (nth x192.1 0),.int .i64 (nth x192.1 1),.int .i64 (nth x192.1 2),.int .i64 (nth x192.1 3)],.int .i64 x192.2]) (r_mov rfl) ?_
   refine o_w (v:=.agg #[.int .i64 (nth x192.1 0),.int .i64 (nth x192.1 1),.int .i64 (nth x192.1 2),.int .i64 (nth x192.1 3)]) (r_ext rfl rfl) ?_
   refine o_w (v:=.int .i64 x192.2) (r_ext rfl rfl) ?_
   refine o_alloc zero_4_int rfl rfl rfl ?_
   intro b202 w202 e202 F202 B202
   have n202:w.heap.size≤b202:=by rw [e202]; exact E194.size
   have q203:b10<b202:=by rw [e202]; exact ((B179.ex F183).ex F192).lt
   have q204:b17<b202:=by rw [e202]; exact ((B180.ex F183).ex F192).lt
   have q205:b43<b202:=by rw [e202]; exact ((B181.ex F183).ex F192).lt
   have q206:b85<b202:=by rw [e202]; exact ((B182.ex F183).ex F192).lt
   have q207:b161<b202:=by rw [e202]; exact ((B175'.ex F183).ex F192).lt
   have m208:w1.heap.size≤b202:=by rw [e202]; exact ((G177.trans (Fr.ext F183)).trans (Fr.ext F192)).size
   have m209:w27.heap.size≤b202:=by rw [e202]; exact ((G178.trans (Fr.ext F183)).trans (Fr.ext F192)).size
   have E210:=E194.trans F202
   have G211:=((G177.trans (Fr.ext F183)).trans (Fr.ext F192)).trans (Fr.ext F202)
   have G212:=((G178.trans (Fr.ext F183)).trans (Fr.ext F192)).trans (Fr.ext F202)
   refine o_store rfl B202 (vs:=[.int .i64 (nth x192.1 0),.int .i64 (nth x192.1 1),.int .i64 (nth x192.1 2),.int .i64 (nth x192.1 3)]) rfl sz_4_int rfl rfl rfl ?_
   intro w218 F218 B218
   have E219:=Ext.st E210 F218 (by simp; omega)
   have G220:Fr L w1 w218:=G211.stp F218 (upc (.inr m208) (fun m hm=>by cases hm))
   have G221:Fr (b17::(b10::L)) w27 w218:=G212.stp F218 (upc (.inr m209) (fun m hm=>by cases hm))
   have B222:=(((B179.ex F183).ex F192).ex F202).fr F218 (by simp; omega)
   have B223:=(((B180.ex F183).ex F192).ex F202).fr F218 (by simp; omega)
   have B224:=(((B181.ex F183).ex F192).ex F202).fr F218 (by simp; omega)
   have B225:=(((B182.ex F183).ex F192).ex F202).fr F218 (by simp; omega)
   have B226:=(((B175'.ex F183).ex F192).ex F202).fr F218 (by simp; omega)
   have B218':Blk w218 b202 _ [.int .i64 (nth x192.1 0),.int .i64 (nth x192.1 1),.int .i64 (nth x192.1 2),.int .i64 (nth x192.1 3)]:=B218
   refine o_w (v:=.int .i64 x192.2) (r_asg rfl) ?_
   refine eo_nil_sq ?_
   refine ec_seq ?_
   obtain ⟨hc227,h⟩:=h
   obtain ⟨hc229,h⟩:=h
   obtain ⟨hc233,h⟩:=h
   obtain ⟨hc238,h⟩:=h
   obtain ⟨hc243,h⟩:=h
   obtain ⟨hc248,h⟩:=h
   obtain ⟨ha255,h⟩:=h
   obtain ⟨x254,hx254,h⟩:=h
   obtain ⟨ha256,h⟩:=h
   obtain ⟨ha257,h⟩:=h
   obtain ⟨ha259,h⟩:=h
   obtain ⟨ha260,h⟩:=h
   obtain ⟨ha262,h⟩:=h
   obtain ⟨x261,hx261,h⟩:=h
   obtain ⟨ha267,h⟩:=h
   obtain ⟨x266,hx266,h⟩:=h
   obtain ⟨ha272,h⟩:=h
   obtain ⟨x271,hx271,h⟩:=h
   refine ec_any0 (by kernel_rfl) [[],[0],[0,1],[0,1,2],[0,1,2,3],[0,1,2],[0,1,2,3,4,5],[0,1,2,3,4,5,6],[0,1,2,3,4,5,6,7],[0,1,2,3,4,5,6,7,8],[0,1,2,3,4,5,6,7,8,9],[0,1,2,3,4,5,6,7,8,9,10],[0,1,2,3,4,5,6,7,8],[0,1,2,3,4,5,6,7,8,12],[0,1,2,3,4,5,6,7,8,9,10,11,12,13],[0,1,2,3,4,5,6,7,8,9,10,11,12,13,14],[0,1,2,3,4,5,6,7,8,9,10,11,12,13,14,15],[0,1,2,3,4,5,6,7,8,9,10,11,12,13,14,15,16],[0,1,2,3,4,5,6,7,8,9,10,11,12,13,14,15,16],[0,1,2,3,4,5,6,7,8,9,10,11,12,13,14,15,16,18],[0,1,2,3,4,5,6,7,8,9,10,11,12,13,14,15,16,18,19],[0,1,2,3,4,5,6,7,8,9,10,11,12,13,14,15,16,17,18,19,20],[0,1,2,3,4,5,6,7,8,9,10,11,12,13,14,15,16,17,18,19,20,21],[0,1,2,3,4,5,6,7,8,9,10,11,12,13,14,15,16,17,18,19,20,21,22],[0,1,2,3,4,5,6,7,8,9,10,11,12,13,14,15,16,17,18,19,20,21,22,23],[0,1,2,3,4,5,6,7,8,9,10,11,12,13,14,15,16,17,18,19,20,21,22,23],[0,1,2,3,4,5,6,7,8,9,10,11,12,13,14,15,16,17,18,19,20,21,22,23,24,25],[0,1,2,3,4,5,6,7,8,9,10,11,12,13,14,15,16,17,18,19,20,21,22,23,24,25,26],[0,1,2,3,4,5,6,7,8,9,10,11,12,13,14,15,16,17,18,19,20,21,22,23,24,25,26,27],[0,1,2,3,4,5,6,7,8,9,10,11,12,13,14,15,16,17,18,19,20,21,22,23,24,25,26,27,28],[0,1,2,3,4,5,6,7,8,9,10,11,12,13,14,15,16,17,18,19,20,21,22,23,24,25,26,27,28,29],[0,1,2,3,4,5,6,7,8,9,10,11,12,13,14,15,16,17,18,19,20,21,22,23,24,25,26,27,28,29,30],[0,1,2,3,4,5,6,7,8,9,10,11,12,13,14,15,16,17,18,19,20,21,22,23,24,25,26,27,28,29,30],[0,1,2,3,4,5,6,7,8,9,10,11,12,13,14,15,16,17,18,19,20,21,22,23,24,25,26,27,28,29,30,32],[0,1,2,3,4,5,6,7,8,9,10,11,12,13,14,15,16,17,18,19,20,21,22,23,24,25,26,27,28,29,30,31,32,33],[0,1,2,3,4,5,6,7,8,9,10,11,12,13,14,15,16,17,18,19,20,21,22,23,24,25,26,27,28,29,30,31,32,33,34],[0,1,2,3,4,5,6,7,8,9,10,11,12,13,14,15,16,17,18,19,20,21,22,23,24,25,26,27,28,29,30,31,32,33,34,35],[0,1,2,3,4,5,6,7,8,9,10,11,12,13,14,15,16,17,18,19,20,21,22,23,24,25,26,27,28,29,30,31,32,33,34,35,36],[0,1,2,3,4,5,6,7,8,9,10,11,12,13,14,15,16,17,18,19,20,21,22,23,24,25,26,27,28,29,30,31,32,33,34,35,36,37],[0,1,2,3,4,5,6,7,8,9,10,11,12,13,14,15,16,17,18,19,20,21,22,23,24,25,26,27,28,29,30,31,32,33,34,35,36,37,38],[0,1,2,3,4,5,6,7,8,9,10,11,12,13,14,15,16,17,18,19,20,21,22,23,24,25,26,27,28,29,30,31,32,33,34,35,36,37,38],[0,1,2,3,4,5,6,7,8,9,10,11,12,13,14,15,16,17,18,19,20,21,22,23,24,25,26,27,28,29,30,31,32,33,34,35,36,37,38,39,40],[0,1,2,3,4,5,6,7,8,9,10,11,12,13,14,15,16,17,18,19,20,21,22,23,24,25,26,27,28,29,30,31,32,33,34,35,36,37,38,39,40,41],[0,1,2,3,4,5,6,7,8,9,10,11,12,13,14,15,16,17,18,19,20,21,22,23,24,25,26,27,28,29,30,31,32,33,34,35,36,37,38,39,40,41,42],[0,1,2,3,4,5,6,7,8,9,10,11,12,13,14,15,16,17,18,19,20,21,22,23,24,25,26,27,28,29,30,31,32,33,34,35,36,37,38,39,40,41,42,43],[0,1,2,3,4,5,6,7,8,9,10,11,12,13,14,15,16,17,18,19,20,21,22,23,24,25,26,27,28,29,30,31,32,33,34,35,36,37,38,39,40,41,42,43,44],[0,1,2,3,4,5,6,7,8,9,10,11,12,13,14,15,16,17,18,19,20,21,22,23,24,25,26,27,28,29,30,31,32,33,34,35,36,37,38,39,40,41,42,43,44,45],[0,1,2,3,4,5,6,7,8,9,10,11,12,13,14,15,16,17,18,19,20,21,22,23,24,25,26,27,28,29,30,31,32,33,34,35,36,37,38,39,40,41,42,43,44,45,46],[0,1,2,3,4,5,6,7,8,9,10,11,12,13,14,15,16,17,18,19,20,21,22,23,24,25,26,27,28,29,30,31,32,33,34,35,36,37,38,39,40,41,42,43,44,45,46,47],[0,1,2,3,4,5,6,7,8,9,10,11,12,13,14,15,16,17,18,19,20,21,22,23,24,25,26,27,28,29,30,31,32,33,34,35,36,37,38,39,40,41,42,43,44,45,46,47,48],[0,1,2,3,4,5,6,7,8,9,10,11,12,13,14,15,16,17,18,19,20,21,22,23,24,25,26,27,28,29,30,31,32,33,34,35,36,37,38,39,40,41,42,43,44,45,46,47,48,49],[0,1,2,3,4,5,6,7,8,9,10,11,12,13,14,15,16,17,18,19,20,21,22,23,24,25,26,27,28,29,30,31,32,33,34,35,36,37,38,39,40,41,42,43,44,45,46,47,48,49,50],[0,1,2,3,4,5,6,7,8,9,10,11,12,13,14,15,16,17,18,19,20,21,22,23,24,25,26,27,28,29,30,31,32,33,34,35,36,37,38,39,40,41,42,43,44,45,46,47,48,49,50,51],[0,1,2,3,4,5,6,7,8,9,10,11,12,13,14,15,16,17,18,19,20,21,22,23,24,25,26,27,28,29,30,31,32,33,34,35,36,37,38,39,40,41,42,43,44,45,46,47,48,49,50,51,52],[0,1,2,3,4,5,6,7,8,9,10,11,12,13,14,15,16,17,18,19,20,21,22,23,24,25,26,27,28,29,30,31,32,33,34,35,36,37,38,39,40,41,42,43,44,45,46,47,48,49,50,51,52,53],[0,1,2,3,4,5,6,7,8,9,10,11,12,13,14,15,16,17,18,19,20,21,22,23,24,25,26,27,28,29,30,31,32,33,34,35,36,37,38,39,40,41,42,43,44,45,46,47,48,49,50,51,52,53,54],[0,1,2,3,4,5,6,7,8,9,10,11,12,13,14,15,16,17,18,19,20,21,22,23,24,25,26,27,28,29,30,31,32,33,34,35,36,37,38,39,40,41,42,43,44,45,46,47,48,49,50,51,52,53,54],[0,1,2,3,4,5,6,7,8,9,10,11,12,13,14,15,16,17,18,19,20,21,22,23,24,25,26,27,28,29,30,31,32,33,34,35,36,37,38,39,40,41,42,43,44,45,46,47,48,49,50,51,52,53,54,55,56],[0,1,2,3,4,5,6,7,8,9,10,11,12,13,14,15,16,17,18,19,20,21,22,23,24,25,26,27,28,29,30,31,32,33,34,35,36,37,38,39,40,41,42,43,44,45,46,47,48,49,50,51,52,53,54,55,56,57],[0,1,2,3,4,5,6,7,8,9,10,11,12,13,14,15,16,17,18,19,20,21,22,23,24,25,26,27,28,29,30,31,32,33,34,35,36,37,38,39,40,41,42,43,44,45,46,47,48,49,50,51,52,53,54,55,56,57,58],[0,1,2,3,4,5,6,7,8,9,10,11,12,13,14,15,16,17,18,19,20,21,22,23,24,25,26,27,28,29,30,31,32,33,34,35,36,37,38,39,40,41,42,43,44,45,46,47,48,49,50,51,52,53,54,55,56,57,58,59],[0,1,2,3,4,5,6,7,8,9,10,11,12,13,14,15,16,17,18,19,20,21,22,23,24,25,26,27,28,29,30,31,32,33,34,35,36,37,38,39,40,41,42,43,44,45,46,47,48,49,50,51,52,53,54,55,56,57,58,59,60],[0,1,2,3,4,5,6,7,8,9,10,11,12,13,14,15,16,17,18,19,20,21,22,23,24,25,26,27,28,29,30,31,32,33,34,35,36,37,38,39,40,41,42,43,44,45,46,47,48,49,50,51,52,53,54,55,56,57,58,59,60,61],[0,1,2,3,4,5,6,7,8,9,10,11,12,13,14,15,16,17,18,19,20,21,22,23,24,25,26,27,28,29,30,31,32,33,34,35,36,37,38,39,40,41,42,43,44,45,46,47,48,49,50,51,52,53,54,55,56,57,58,59,60,61,62],[0,1,2,3,4,5,6,7,8,9,10,11,12,13,14,15,16,17,18,19,20,21,22,23,24,25,26,27,28,29,30,31,32,33,34,35,36,37,38,39,40,41,42,43,44,45,46,47,48,49,50,51,52,53,54,55,56,57,58,59,60,61,62,63],[0,1,2,3,4,5,6,7,8,9,10,11,12,13,14,15,16,17,18,19,20,21,22,23,24,25,26,27,28,29,30,31,32,33,34,35,36,37,38,39,40,41,42,43,44,45,46,47,48,49,50,51,52,53,54,55,56,57,58,59,60,61,62,63,64],[0,1,2,3,4,5,6,7,8,9,10,11,12,13,14,15,16,17,18,19,20,21,22,23,24,25,26,27,28,29,30,31,32,33,34,35,36,37,38,39,40,41,42,43,44,45,46,47,48,49,50,51,52,53,54,55,56,57,58,59,60,61,62,63,64,65],[0,1,2,3,4,5,6,7,8,9,10,11,12,13,14,15,16,17,18,19,20,21,22,23,24,25,26,27,28,29,30,31,32,33,34,35,36,37,38,39,40,41,42,43,44,45,46,47,48,49,50,51,52,53,54,55,56,57,58,59,60,61,62,63,64,65,66],[0,1,2,3,4,5,6,7,8,9,10,11,12,13,14,15,16,17,18,19,20,21,22,23,24,25,26,27,28,29,30,31,32,33,34,35,36,37,38,39,40,41,42,43,44,45,46,47,48,49,50,51,52,53,54,55,56,57,58,59,60,61,62,63,64,65,66,67],[0,1,2,3,4,5,6,7,8,9,10,11,12,13,14,15,16,17,18,19,20,21,22,23,24,25,26,27,28,29,30,31,32,33,34,35,36,37,38,39,40,41,42,43,44,45,46,47,48,49,50,51,52,53,54,55,56,57,58,59,60,61,62,63,64,65,66,67,68],[0,1,2,3,4,5,6,7,8,9,10,11,12,13,14,15,16,17,18,19,20,21,22,23,24,25,26,27,28,29,30,31,32,33,34,35,36,37,38,39,40,41,42,43,44,45,46,47,48,49,50,51,52,53,54,55,56,57,58,59,60,61,62,63,64,65,66,67,68,69],[0,1,2,3,4,5,6,7,8,9,10,11,12,13,14,15,16,17,18,19,20,21,22,23,24,25,26,27,28,29,30,31,32,33,34,35,36,37,38,39,40,41,42,43,44,45,46,47,48,49,50,51,52,53,54,55,56,57,58,59,60,61,62,63,64,65,66,67,68,69,70]] [0,70,71,72,73,74,75,76,77,78,79,80,81,82,83,84,85,86,87,88,89,90,91,92,93,94,95,96,97,98,99,100,101,102,103,104,105,106,107,108,109,110,111,112,113,114,115,116,117,118,119,120,121,122,123,124,125,126,127,128,129,130,131,132,133,134,135,136,137,138,139,140] [fun v _=>v=(.int .i64 x27.2.2:Value),fun v _=>v=(.bool (x27.2.2==0):Value),fun v _=>v=(.bool (x27.2.2==0):Value),fun v _=>v=(.agg (cArena x1.1 A4 c5 A7 c8).toArray:Value),fun v _=>v=(.agg #[.int .i64 (nth x254 0),.int .i64 (nth x254 1),.int .i64 (nth x254 2),.int .i64 (nth x254 3)]:Value),fun v _=>v=(.agg #[.int .i64 0,.int .i64 0,.int .i64 0,.int .i64 0]:Value),fun v _=>v=(.bool (((nth x254 0)==0)&&(((nth x254 1)==0)&&(((nth x254 2)==0)&&(((nth x254 3)==0)&&true)))):Value),fun v _=>v=(.bool (((nth x254 0)==0)&&(((nth x254 1)==0)&&(((nth x254 2)==0)&&(((nth x254 3)==0)&&true)))):Value),fun v _=>v=(.bool (((nth x254 0)==0)&&(((nth x254 1)==0)&&(((nth x254 2)==0)&&(((nth x254 3)==0)&&true)))):Value),fun v _=>v=(.int .i64 (bucketD (3:Int) ([107]:Str)):Value),fun v _=>v=(.pointer (some ⟨b85,(bucketD (3:Int) ([107]:Str)).toNat,none⟩):Value),fun v _=>v=(.int .i64 (nth x76 (bucketD (3:Int) ([107]:Str))):Value),fun v _=>v=(str x59.1:Value),fun v _=>v=(.int .i64 (sumC x59.1):Value),fun v _=>v=(.bool ((nth x76 (bucketD (3:Int) ([107]:Str)))==(sumC x59.1)):Value),fun v _=>v=(.bool ((nth x76 (bucketD (3:Int) ([107]:Str)))==(sumC x59.1)):Value),fun v _=>v=(.bool ((nth x76 (bucketD (3:Int) ([107]:Str)))==(sumC x59.1)):Value),fun v _=>v=(.int .i64 (differD x76 x105):Value),fun v _=>v=(.int .i64 (bucketD (3:Int) ([107]:Str)):Value),fun v _=>v=(.int .u64 (IntKind.u64.wrap (bucketD (3:Int) ([107]:Str))):Value),fun v _=>v=(.int .i64 (IntKind.i64.wrap ((1:Int) * 2 ^ min ((IntKind.u64.wrap (bucketD (3:Int) ([107]:Str)))).toNat IntKind.i64.bits)):Value),fun v _=>v=(.bool ((differD x76 x105)==(IntKind.i64.wrap ((1:Int) * 2 ^ min ((IntKind.u64.wrap (bucketD (3:Int) ([107]:Str)))).toNat IntKind.i64.bits))):Value),fun v _=>v=(.bool ((differD x76 x105)==(IntKind.i64.wrap ((1:Int) * 2 ^ min ((IntKind.u64.wrap (bucketD (3:Int) ([107]:Str)))).toNat IntKind.i64.bits))):Value),fun v _=>v=(.bool ((differD x76 x105)==(IntKind.i64.wrap ((1:Int) * 2 ^ min ((IntKind.u64.wrap (bucketD (3:Int) ([107]:Str)))).toNat IntKind.i64.bits))):Value),fun v _=>v=(.agg (cArena x27.1 A37 c38 A40 c41).toArray:Value),fun v _=>v=(.int .i64 (differD x76 x105):Value),fun v w'=>∃ A263 c264,v=(.slice A263 x261.length c264:Value)∧Stb (b202::(b161::(b85::(b43::(b17::(b10::L)))))) w' (fun w=>SlC kEnt w A263 c264 x261),fun v _=>v=(.int .i64 (x261.length:Int):Value),fun v _=>v=(.bool ((x261.length:Int)==1):Value),fun v _=>v=(.bool ((x261.length:Int)==1):Value),fun v _=>v=(.bool ((x261.length:Int)==1):Value),fun v _=>v=(.agg (cArena x27.1 A37 c38 A40 c41).toArray:Value),fun v _=>v=(.int .i64 (differD x76 x105):Value),fun v _=>v=(.int .i64 (IntKind.i64.wrap ((15:Int) - (differD x76 x105))):Value),fun v w'=>∃ A268 c269,v=(.slice A268 x266.length c269:Value)∧Stb (b202::(b161::(b85::(b43::(b17::(b10::L)))))) w' (fun w=>SlC kEnt w A268 c269 x266),fun v _=>v=(.int .i64 (x266.length:Int):Value),fun v _=>v=(.bool ((x266.length:Int)==0):Value),fun v _=>v=(.bool ((x266.length:Int)==0):Value),fun v _=>v=(.bool ((x266.length:Int)==0):Value),fun v _=>v=(.agg (cArena x27.1 A37 c38 A40 c41).toArray:Value),fun v _=>v=(.int .i64 (differD x76 x105):Value),fun v w'=>∃ A273 c274,v=(.slice A273 x271.length c274:Value)∧Stb (b202::(b161::(b85::(b43::(b17::(b10::L)))))) w' (fun w=>SlC kEnt w A273 c274 x271),fun v _=>v=(.int .i64 (x271.length:Int):Value),fun v _=>v=(.bool ((x271.length:Int)==0):Value),fun v _=>v=(.bool ((x271.length:Int)==0):Value),fun v _=>v=(.bool ((x271.length:Int)==0):Value),fun v _=>v=((bif ((x271.length:Int)==0) then (str x144.1:Value) else undef):Value),fun v _=>v=((bif ((x271.length:Int)==0) then (.int .i64 (x144.1.length:Int):Value) else undef):Value),fun v _=>v=((bif ((x271.length:Int)==0) then (.bool ((x144.1.length:Int)==16):Value) else undef):Value),fun v _=>v=(.bool (((x271.length:Int)==0)&&((x144.1.length:Int)==16)):Value),fun v _=>v=(.bool (((x271.length:Int)==0)&&((x144.1.length:Int)==16)):Value),fun v _=>v=((bif (((x271.length:Int)==0)&&((x144.1.length:Int)==16)) then (.int .i64 x144.2:Value) else undef):Value),fun v _=>v=((bif (((x271.length:Int)==0)&&((x144.1.length:Int)==16)) then (.bool (x144.2==0):Value) else undef):Value),fun v _=>v=(.bool ((((x271.length:Int)==0)&&((x144.1.length:Int)==16))&&(x144.2==0)):Value),fun v _=>v=(.bool ((((x271.length:Int)==0)&&((x144.1.length:Int)==16))&&(x144.2==0)):Value),fun v _=>v=((bif ((((x271.length:Int)==0)&&((x144.1.length:Int)==16))&&(x144.2==0)) then (.agg #[.int .i64 (nth x152.1 0),.int .i64 (nth x152.1 1),.int .i64 (nth x152.1 2),.int .i64 (nth x152.1 3)]:Value) else undef):Value),fun v _=>v=((bif ((((x271.length:Int)==0)&&((x144.1.length:Int)==16))&&(x144.2==0)) then (.agg #[.int .i64 1,.int .i64 2,.int .i64 3,.int .i64 4]:Value) else undef):Value),fun v _=>v=((bif ((((x271.length:Int)==0)&&((x144.1.length:Int)==16))&&(x144.2==0)) then (.bool (((nth x152.1 0)==1)&&(((nth x152.1 1)==2)&&(((nth x152.1 2)==3)&&(((nth x152.1 3)==4)&&true)))):Value) else undef):Value),fun v _=>v=(.bool (((((x271.length:Int)==0)&&((x144.1.length:Int)==16))&&(x144.2==0))&&(((nth x152.1 0)==1)&&(((nth x152.1 1)==2)&&(((nth x152.1 2)==3)&&(((nth x152.1 3)==4)&&true))))):Value),fun v _=>v=(.bool (((((x271.length:Int)==0)&&((x144.1.length:Int)==16))&&(x144.2==0))&&(((nth x152.1 0)==1)&&(((nth x152.1 1)==2)&&(((nth x152.1 2)==3)&&(((nth x152.1 3)==4)&&true))))):Value),fun v _=>v=((bif (((((x271.length:Int)==0)&&((x144.1.length:Int)==16))&&(x144.2==0))&&(((nth x152.1 0)==1)&&(((nth x152.1 1)==2)&&(((nth x152.1 2)==3)&&(((nth x152.1 3)==4)&&true))))) then (.int .i64 x152.2:Value) else undef):Value),fun v _=>v=((bif (((((x271.length:Int)==0)&&((x144.1.length:Int)==16))&&(x144.2==0))&&(((nth x152.1 0)==1)&&(((nth x152.1 1)==2)&&(((nth x152.1 2)==3)&&(((nth x152.1 3)==4)&&true))))) then (.bool (x152.2==0):Value) else undef):Value),fun v _=>v=(.bool ((((((x271.length:Int)==0)&&((x144.1.length:Int)==16))&&(x144.2==0))&&(((nth x152.1 0)==1)&&(((nth x152.1 1)==2)&&(((nth x152.1 2)==3)&&(((nth x152.1 3)==4)&&true)))))&&(x152.2==0)):Value),fun v _=>v=(.bool ((((((x271.length:Int)==0)&&((x144.1.length:Int)==16))&&(x144.2==0))&&(((nth x152.1 0)==1)&&(((nth x152.1 1)==2)&&(((nth x152.1 2)==3)&&(((nth x152.1 3)==4)&&true)))))&&(x152.2==0)):Value),fun v _=>v=((bif ((((((x271.length:Int)==0)&&((x144.1.length:Int)==16))&&(x144.2==0))&&(((nth x152.1 0)==1)&&(((nth x152.1 1)==2)&&(((nth x152.1 2)==3)&&(((nth x152.1 3)==4)&&true)))))&&(x152.2==0)) then (.int .i64 x183.2:Value) else undef):Value),fun v _=>v=((bif ((((((x271.length:Int)==0)&&((x144.1.length:Int)==16))&&(x144.2==0))&&(((nth x152.1 0)==1)&&(((nth x152.1 1)==2)&&(((nth x152.1 2)==3)&&(((nth x152.1 3)==4)&&true)))))&&(x152.2==0)) then (.bool (x183.2==1):Value) else undef):Value),fun v _=>v=(.bool (((((((x271.length:Int)==0)&&((x144.1.length:Int)==16))&&(x144.2==0))&&(((nth x152.1 0)==1)&&(((nth x152.1 1)==2)&&(((nth x152.1 2)==3)&&(((nth x152.1 3)==4)&&true)))))&&(x152.2==0))&&(x183.2==1)):Value),fun v _=>v=(.bool (((((((x271.length:Int)==0)&&((x144.1.length:Int)==16))&&(x144.2==0))&&(((nth x152.1 0)==1)&&(((nth x152.1 1)==2)&&(((nth x152.1 2)==3)&&(((nth x152.1 3)==4)&&true)))))&&(x152.2==0))&&(x183.2==1)):Value),fun v _=>v=((bif (((((((x271.length:Int)==0)&&((x144.1.length:Int)==16))&&(x144.2==0))&&(((nth x152.1 0)==1)&&(((nth x152.1 1)==2)&&(((nth x152.1 2)==3)&&(((nth x152.1 3)==4)&&true)))))&&(x152.2==0))&&(x183.2==1)) then (.int .i64 x192.2:Value) else undef):Value),fun v _=>v=((bif (((((((x271.length:Int)==0)&&((x144.1.length:Int)==16))&&(x144.2==0))&&(((nth x152.1 0)==1)&&(((nth x152.1 1)==2)&&(((nth x152.1 2)==3)&&(((nth x152.1 3)==4)&&true)))))&&(x152.2==0))&&(x183.2==1)) then (.bool (x192.2==2):Value) else undef):Value),fun v _=>v=(.bool ((((((((x271.length:Int)==0)&&((x144.1.length:Int)==16))&&(x144.2==0))&&(((nth x152.1 0)==1)&&(((nth x152.1 1)==2)&&(((nth x152.1 2)==3)&&(((nth x152.1 3)==4)&&true)))))&&(x152.2==0))&&(x183.2==1))&&(x192.2==2)):Value),fun v _=>v=(.bool ((((((((x271.length:Int)==0)&&((x144.1.length:Int)==16))&&(x144.2==0))&&(((nth x152.1 0)==1)&&(((nth x152.1 1)==2)&&(((nth x152.1 2)==3)&&(((nth x152.1 3)==4)&&true)))))&&(x152.2==0))&&(x183.2==1))&&(x192.2==2)):Value)] (by kernel_rfl) ⟨fun _ _ _ _ _ h=>h,fun _ _ _ _ _ h=>h,fun _ _ _ _ _ h=>h,fun _ _ _ _ _ h=>h,fun _ _ _ _ _ h=>h,fun _ _ _ _ _ h=>h,fun _ _ _ _ _ h=>h,fun _ _ _ _ _ h=>h,fun _ _ _ _ _ h=>h,fun _ _ _ _ _ h=>h,fun _ _ _ _ _ h=>h,fun _ _ _ _ _ h=>h,fun _ _ _ _ _ h=>h,fun _ _ _ _ _ h=>h,fun _ _ _ _ _ h=>h,fun _ _ _ _ _ h=>h,fun _ _ _ _ _ h=>h,fun _ _ _ _ _ h=>h,fun _ _ _ _ _ h=>h,fun _ _ _ _ _ h=>h,fun _ _ _ _ _ h=>h,fun _ _ _ _ _ h=>h,fun _ _ _ _ _ h=>h,fun _ _ _ _ _ h=>h,fun _ _ _ _ _ h=>h,fun _ _ _ _ _ h=>h,fun _ v w' w'' F h=>by obtain ⟨A263,c264,hv,H265⟩:=h; exact ⟨A263,c264,hv,(H265.ex F)⟩,fun _ _ _ _ _ h=>h,fun _ _ _ _ _ h=>h,fun _ _ _ _ _ h=>h,fun _ _ _ _ _ h=>h,fun _ _ _ _ _ h=>h,fun _ _ _ _ _ h=>h,fun _ _ _ _ _ h=>h,fun _ v w' w'' F h=>by obtain ⟨A268,c269,hv,H270⟩:=h; exact ⟨A268,c269,hv,(H270.ex F)⟩,fun _ _ _ _ _ h=>h,fun _ _ _ _ _ h=>h,fun _ _ _ _ _ h=>h,fun _ _ _ _ _ h=>h,fun _ _ _ _ _ h=>h,fun _ _ _ _ _ h=>h,fun _ v w' w'' F h=>by obtain ⟨A273,c274,hv,H275⟩:=h; exact ⟨A273,c274,hv,(H275.ex F)⟩,fun _ _ _ _ _ h=>h,fun _ _ _ _ _ h=>h,fun _ _ _ _ _ h=>h,fun _ _ _ _ _ h=>h,fun _ _ _ _ _ h=>h,fun _ _ _ _ _ h=>h,fun _ _ _ _ _ h=>h,fun _ _ _ _ _ h=>h,fun _ _ _ _ _ h=>h,fun _ _ _ _ _ h=>h,fun _ _ _ _ _ h=>h,fun _ _ _ _ _ h=>h,fun _ _ _ _ _ h=>h,fun _ _ _ _ _ h=>h,fun _ _ _ _ _ h=>h,fun _ _ _ _ _ h=>h,fun _ _ _ _ _ h=>h,fun _ _ _ _ _ h=>h,fun _ _ _ _ _ h=>h,fun _ _ _ _ _ h=>h,fun _ _ _ _ _ h=>h,fun _ _ _ _ _ h=>h,fun _ _ _ _ _ h=>h,fun _ _ _ _ _ h=>h,fun _ _ _ _ _ h=>h,fun _ _ _ _ _ h=>h,fun _ _ _ _ _ h=>h,fun _ _ _ _ _ h=>h,fun _ _ _ _ _ h=>h,fun _ _ _ _ _ h=>h,trivial⟩ ?_ ?_
   ·refine ⟨?_,?_,?_,?_,?_,?_,?_,?_,?_,?_,?_,?_,?_,?_,?_,?_,?_,?_,?_,?_,?_,?_,?_,?_,?_,?_,?_,?_,?_,?_,?_,?_,?_,?_,?_,?_,?_,?_,?_,?_,?_,?_,?_,?_,?_,?_,?_,?_,?_,?_,?_,?_,?_,?_,?_,?_,?_,?_,?_,?_,?_,?_,?_,?_,?_,?_,?_,?_,?_,?_,?_,?_,trivial⟩
    ·intro ρ w253o F253o hS hρ
     have q6:ρ 6=.int .i64 x27.2.2:=hρ 6 (by kernel_rfl)
     exact o_q (r_mov q6) ⟨Fr.refl _ _,rfl⟩
    ·intro ρ w253o F253o hS hρ
     have q70:ρ 70=.int .i64 x27.2.2:=hS 0 (by decide) 70 rfl
     exact o_q (r_int q70 rfl rfl) ⟨Fr.refl _ _,rfl⟩
    ·intro ρ w253o F253o hS hρ
     have q71:ρ 71=.bool (x27.2.2==0):=hS 1 (by decide) 71 rfl
     exact o_q (r_mov q71) ⟨Fr.refl _ _,rfl⟩
    ·intro ρ w253o F253o hS hρ
     have q1:ρ 1=.pointer (some ⟨b10,0,none⟩):=hρ 1 (by kernel_rfl)
     have q72:ρ 72=.bool (x27.2.2==0):=hS 2 (by decide) 72 rfl
     exact o_v (r_lda agg_api_Arena q1 (vs:=(cArena x1.1 A4 c5 A7 c8)) rfl ((B222.ex F253o).part (n:=3) rfl)) (want_t (t:=72) rfl q72 hc227) rfl rfl (eo_nil ⟨rfl,rfl,_,rfl,Fr.refl _ _,rfl⟩)
    ·intro ρ w253o F253o hS hρ
     have E285:=E219.trans F253o
     have q72:ρ 72=.bool (x27.2.2==0):=hS 2 (by decide) 72 rfl
     have q73:ρ 73=.agg (cArena x1.1 A4 c5 A7 c8).toArray:=hS 3 (by decide) 73 rfl
     refine o_call cf_digest_Sums (by simp only [List.map,ev,q73] <;> rfl) (digest_Sums_c x1.1 (kArena_mk (d:=x1.1) (H6.up (G220.trans (Fr.ext F253o)) sI (upc (.inr m208) (upc (.inr m166) (upc (.inr m89) (upc (.inr m46) (upc (.inr m19) (upc (.inr m11) (fun _ h=>.inl h)))))))) (H9.up (G220.trans (Fr.ext F253o)) sI (upc (.inr m208) (upc (.inr m166) (upc (.inr m89) (upc (.inr m46) (upc (.inr m19) (upc (.inr m11) (fun _ h=>.inl h))))))))) (((((((hL.fr E285).cons (B222.ex F253o).lt).cons (B223.ex F253o).lt).cons (B224.ex F253o).lt).cons (B225.ex F253o).lt).cons (B226.ex F253o).lt).cons (B218'.ex F253o).lt) (eq_ev hx254 (digSums_ev x1.1 ha255))) (want_t (t:=72) rfl q72 hc227) rfl ?_
     rintro _ w' ⟨F,rfl,_⟩
     exact eo_nil ⟨rfl,rfl,_,rfl,F,rfl⟩
    ·intro ρ w253o F253o hS hρ
     have q72:ρ 72=.bool (x27.2.2==0):=hS 2 (by decide) 72 rfl
     exact o_v (r_build bld_4_int (vs:=[]) (cells:=[.int .i64 0,.int .i64 0,.int .i64 0,.int .i64 0]) rfl rfl) (want_t (t:=72) rfl q72 hc227) rfl rfl (eo_nil ⟨rfl,rfl,_,rfl,Fr.refl _ _,rfl⟩)
    ·intro ρ w253o F253o hS hρ
     have q72:ρ 72=.bool (x27.2.2==0):=hS 2 (by decide) 72 rfl
     have q74:ρ 74=.agg #[.int .i64 (nth x254 0),.int .i64 (nth x254 1),.int .i64 (nth x254 2),.int .i64 (nth x254 3)]:=hS 4 (by decide) 74 rfl
     have q75:ρ 75=.agg #[.int .i64 0,.int .i64 0,.int .i64 0,.int .i64 0]:=hS 5 (by decide) 75 rfl
     exact o_v (r_eqSt eqg_4_int (eqs_4_int (nth x254 0) (nth x254 1) (nth x254 2) (nth x254 3) (0:Int) (0:Int) (0:Int) (0:Int)) q74 q75) (want_t (t:=72) rfl q72 hc227) rfl rfl (eo_nil ⟨rfl,rfl,_,rfl,Fr.refl _ _,rfl⟩)
    ·intro ρ w253o F253o hS hρ
     have q72:ρ 72=.bool (x27.2.2==0):=hS 2 (by decide) 72 rfl
     have q76:ρ 76=.bool (((nth x254 0)==0)&&(((nth x254 1)==0)&&(((nth x254 2)==0)&&(((nth x254 3)==0)&&true)))):=hS 6 (by decide) 76 rfl
     exact o_q (r_pickT q72 hc227 q76) ⟨Fr.refl _ _,rfl⟩
    ·intro ρ w253o F253o hS hρ
     have q77:ρ 77=.bool (((nth x254 0)==0)&&(((nth x254 1)==0)&&(((nth x254 2)==0)&&(((nth x254 3)==0)&&true)))):=hS 7 (by decide) 77 rfl
     exact o_q (r_mov q77) ⟨Fr.refl _ _,rfl⟩
    ·intro ρ w253o F253o hS hρ
     have q9:ρ 9=.int .i64 (bucketD (3:Int) ([107]:Str)):=hρ 9 (by kernel_rfl)
     have q78:ρ 78=.bool (((nth x254 0)==0)&&(((nth x254 1)==0)&&(((nth x254 2)==0)&&(((nth x254 3)==0)&&true)))):=hS 8 (by decide) 78 rfl
     exact o_v (r_mov q9) (want_t (t:=78) rfl q78 (by rw [hx254]; exact hc229)) rfl rfl (eo_nil ⟨rfl,rfl,_,rfl,Fr.refl _ _,rfl⟩)
    ·intro ρ w253o F253o hS hρ
     have q10:ρ 10=.pointer (some ⟨b85,0,none⟩):=hρ 10 (by kernel_rfl)
     have q78:ρ 78=.bool (((nth x254 0)==0)&&(((nth x254 1)==0)&&(((nth x254 2)==0)&&(((nth x254 3)==0)&&true)))):=hS 8 (by decide) 78 rfl
     have q79:ρ 79=.int .i64 (bucketD (3:Int) ([107]:Str)):=hS 9 (by decide) 79 rfl
     exact o_v (r_iaA un_4_int sz_int q10 q79 ha257) (want_t (t:=78) rfl q78 (by rw [hx254]; exact hc229)) rfl rfl (eo_nil ⟨rfl,rfl,_,rfl,Fr.refl _ _,rfl⟩)
    ·intro ρ w253o F253o hS hρ
     have q78:ρ 78=.bool (((nth x254 0)==0)&&(((nth x254 1)==0)&&(((nth x254 2)==0)&&(((nth x254 3)==0)&&true)))):=hS 8 (by decide) 78 rfl
     have q80:ρ 80=.pointer (some ⟨b85,(bucketD (3:Int) ([107]:Str)).toNat,none⟩):=hS 10 (by decide) 80 rfl
     exact o_v (r_ld one_int q80 (Blk.cellV (f:=(Value.int .i64)) (m:=4) (e:=x76) (B225.ex F253o) ha257)) (want_t (t:=78) rfl q78 (by rw [hx254]; exact hc229)) rfl rfl (eo_nil ⟨rfl,rfl,_,rfl,Fr.refl _ _,rfl⟩)
    ·intro ρ w253o F253o hS hρ
     have q7:ρ 7=str x59.1:=hρ 7 (by kernel_rfl)
     have q78:ρ 78=.bool (((nth x254 0)==0)&&(((nth x254 1)==0)&&(((nth x254 2)==0)&&(((nth x254 3)==0)&&true)))):=hS 8 (by decide) 78 rfl
     exact o_v (r_mov q7) (want_t (t:=78) rfl q78 (by rw [hx254]; exact hc229)) rfl rfl (eo_nil ⟨rfl,rfl,_,rfl,Fr.refl _ _,rfl⟩)
    ·intro ρ w253o F253o hS hρ
     have E303:=E219.trans F253o
     have q78:ρ 78=.bool (((nth x254 0)==0)&&(((nth x254 1)==0)&&(((nth x254 2)==0)&&(((nth x254 3)==0)&&true)))):=hS 8 (by decide) 78 rfl
     have q82:ρ 82=str x59.1:=hS 12 (by decide) 82 rfl
     refine o_call cf_crc_Sum (by simp only [List.map,ev,q82] <;> rfl) (crc_Sum_c x59.1 (((((((hL.fr E303).cons (B222.ex F253o).lt).cons (B223.ex F253o).lt).cons (B224.ex F253o).lt).cons (B225.ex F253o).lt).cons (B226.ex F253o).lt).cons (B218'.ex F253o).lt) (crcSum_ev x59.1 ha259)) (want_t (t:=78) rfl q78 (by rw [hx254]; exact hc229)) rfl ?_
     rintro _ w' ⟨F,rfl⟩
     exact eo_nil ⟨rfl,rfl,_,rfl,F,rfl⟩
    ·intro ρ w253o F253o hS hρ
     have q78:ρ 78=.bool (((nth x254 0)==0)&&(((nth x254 1)==0)&&(((nth x254 2)==0)&&(((nth x254 3)==0)&&true)))):=hS 8 (by decide) 78 rfl
     have q81:ρ 81=.int .i64 (nth x76 (bucketD (3:Int) ([107]:Str))):=hS 11 (by decide) 81 rfl
     have q83:ρ 83=.int .i64 (sumC x59.1):=hS 13 (by decide) 83 rfl
     exact o_v (r_int q81 q83 rfl) (want_t (t:=78) rfl q78 (by rw [hx254]; exact hc229)) rfl rfl (eo_nil ⟨rfl,rfl,_,rfl,Fr.refl _ _,rfl⟩)
    ·intro ρ w253o F253o hS hρ
     have q78:ρ 78=.bool (((nth x254 0)==0)&&(((nth x254 1)==0)&&(((nth x254 2)==0)&&(((nth x254 3)==0)&&true)))):=hS 8 (by decide) 78 rfl
     have q84:ρ 84=.bool ((nth x76 (bucketD (3:Int) ([107]:Str)))==(sumC x59.1)):=hS 14 (by decide) 84 rfl
     exact o_q (r_pickT q78 (by rw [hx254]; exact hc229) q84) ⟨Fr.refl _ _,rfl⟩
    ·intro ρ w253o F253o hS hρ
     have q85:ρ 85=.bool ((nth x76 (bucketD (3:Int) ([107]:Str)))==(sumC x59.1)):=hS 15 (by decide) 85 rfl
     exact o_q (r_mov q85) ⟨Fr.refl _ _,rfl⟩
    ·intro ρ w253o F253o hS hρ
     have q11:ρ 11=.int .i64 (differD x76 x105):=hρ 11 (by kernel_rfl)
     have q86:ρ 86=.bool ((nth x76 (bucketD (3:Int) ([107]:Str)))==(sumC x59.1)):=hS 16 (by decide) 86 rfl
     exact o_v (r_mov q11) (want_t (t:=86) rfl q86 hc233) rfl rfl (eo_nil ⟨rfl,rfl,_,rfl,Fr.refl _ _,rfl⟩)
    ·intro ρ w253o F253o hS hρ
     have q9:ρ 9=.int .i64 (bucketD (3:Int) ([107]:Str)):=hρ 9 (by kernel_rfl)
     have q86:ρ 86=.bool ((nth x76 (bucketD (3:Int) ([107]:Str)))==(sumC x59.1)):=hS 16 (by decide) 86 rfl
     exact o_v (r_mov q9) (want_t (t:=86) rfl q86 hc233) rfl rfl (eo_nil ⟨rfl,rfl,_,rfl,Fr.refl _ _,rfl⟩)
    ·intro ρ w253o F253o hS hρ
     have q86:ρ 86=.bool ((nth x76 (bucketD (3:Int) ([107]:Str)))==(sumC x59.1)):=hS 16 (by decide) 86 rfl
     have q88:ρ 88=.int .i64 (bucketD (3:Int) ([107]:Str)):=hS 18 (by decide) 88 rfl
     exact o_v (r_conv un_int un_uint q88) (want_t (t:=86) rfl q86 hc233) rfl rfl (eo_nil ⟨rfl,rfl,_,rfl,Fr.refl _ _,rfl⟩)
    ·intro ρ w253o F253o hS hρ
     have q86:ρ 86=.bool ((nth x76 (bucketD (3:Int) ([107]:Str)))==(sumC x59.1)):=hS 16 (by decide) 86 rfl
     have q89:ρ 89=.int .u64 (IntKind.u64.wrap (bucketD (3:Int) ([107]:Str))):=hS 19 (by decide) 89 rfl
     exact o_v (r_shl rfl q89 ha260) (want_t (t:=86) rfl q86 hc233) rfl rfl (eo_nil ⟨rfl,rfl,_,rfl,Fr.refl _ _,rfl⟩)
    ·intro ρ w253o F253o hS hρ
     have q86:ρ 86=.bool ((nth x76 (bucketD (3:Int) ([107]:Str)))==(sumC x59.1)):=hS 16 (by decide) 86 rfl
     have q87:ρ 87=.int .i64 (differD x76 x105):=hS 17 (by decide) 87 rfl
     have q90:ρ 90=.int .i64 (IntKind.i64.wrap ((1:Int) * 2 ^ min ((IntKind.u64.wrap (bucketD (3:Int) ([107]:Str)))).toNat IntKind.i64.bits)):=hS 20 (by decide) 90 rfl
     exact o_v (r_int q87 q90 rfl) (want_t (t:=86) rfl q86 hc233) rfl rfl (eo_nil ⟨rfl,rfl,_,rfl,Fr.refl _ _,rfl⟩)
    ·intro ρ w253o F253o hS hρ
     have q86:ρ 86=.bool ((nth x76 (bucketD (3:Int) ([107]:Str)))==(sumC x59.1)):=hS 16 (by decide) 86 rfl
     have q91:ρ 91=.bool ((differD x76 x105)==(IntKind.i64.wrap ((1:Int) * 2 ^ min ((IntKind.u64.wrap (bucketD (3:Int) ([107]:Str)))).toNat IntKind.i64.bits))):=hS 21 (by decide) 91 rfl
     exact o_q (r_pickT q86 hc233 q91) ⟨Fr.refl _ _,rfl⟩
    ·intro ρ w253o F253o hS hρ
     have q92:ρ 92=.bool ((differD x76 x105)==(IntKind.i64.wrap ((1:Int) * 2 ^ min ((IntKind.u64.wrap (bucketD (3:Int) ([107]:Str)))).toNat IntKind.i64.bits))):=hS 22 (by decide) 92 rfl
     exact o_q (r_mov q92) ⟨Fr.refl _ _,rfl⟩
    ·intro ρ w253o F253o hS hρ
     have q4:ρ 4=.pointer (some ⟨b43,0,none⟩):=hρ 4 (by kernel_rfl)
     have q93:ρ 93=.bool ((differD x76 x105)==(IntKind.i64.wrap ((1:Int) * 2 ^ min ((IntKind.u64.wrap (bucketD (3:Int) ([107]:Str)))).toNat IntKind.i64.bits))):=hS 23 (by decide) 93 rfl
     exact o_v (r_lda agg_api_Arena q4 (vs:=(cArena x27.1 A37 c38 A40 c41)) rfl ((B224.ex F253o).part (n:=3) rfl)) (want_t (t:=93) rfl q93 hc238) rfl rfl (eo_nil ⟨rfl,rfl,_,rfl,Fr.refl _ _,rfl⟩)
    ·intro ρ w253o F253o hS hρ
     have q11:ρ 11=.int .i64 (differD x76 x105):=hρ 11 (by kernel_rfl)
     have q93:ρ 93=.bool ((differD x76 x105)==(IntKind.i64.wrap ((1:Int) * 2 ^ min ((IntKind.u64.wrap (bucketD (3:Int) ([107]:Str)))).toNat IntKind.i64.bits))):=hS 23 (by decide) 93 rfl
     exact o_v (r_mov q11) (want_t (t:=93) rfl q93 hc238) rfl rfl (eo_nil ⟨rfl,rfl,_,rfl,Fr.refl _ _,rfl⟩)
    ·intro ρ w253o F253o hS hρ
     have E321:=E219.trans F253o
     have q93:ρ 93=.bool ((differD x76 x105)==(IntKind.i64.wrap ((1:Int) * 2 ^ min ((IntKind.u64.wrap (bucketD (3:Int) ([107]:Str)))).toNat IntKind.i64.bits))):=hS 23 (by decide) 93 rfl
     have q94:ρ 94=.agg (cArena x27.1 A37 c38 A40 c41).toArray:=hS 24 (by decide) 94 rfl
     have q95:ρ 95=.int .i64 (differD x76 x105):=hS 25 (by decide) 95 rfl
     refine o_call cf_digest_In (by simp only [List.map,ev,q94,q95] <;> rfl) (digest_In_c x27.1 (kArena_mk (d:=x27.1) (H39.up (G221.trans (Fr.ext F253o)) sI (upc (.inr m209) (upc (.inr m167) (upc (.inr m90) (upc (.inr m47) (upc (.inl mH) (upc (.inl (mT mH)) (fun m hm=>Or.inl (mT (mT hm)))))))))) (H42.up (G221.trans (Fr.ext F253o)) sI (upc (.inr m209) (upc (.inr m167) (upc (.inr m90) (upc (.inr m47) (upc (.inl mH) (upc (.inl (mT mH)) (fun m hm=>Or.inl (mT (mT hm))))))))))) (differD x76 x105) (5:Int) (((((((hL.fr E321).cons (B222.ex F253o).lt).cons (B223.ex F253o).lt).cons (B224.ex F253o).lt).cons (B225.ex F253o).lt).cons (B226.ex F253o).lt).cons (B218'.ex F253o).lt) (eq_ev hx261 (digIn_ev x27.1 (differD x76 x105) (5:Int) ha262))) (want_t (t:=93) rfl q93 hc238) rfl ?_
     rintro _ w' ⟨F,A263,c264,rfl,H265⟩
     exact eo_nil ⟨rfl,rfl,_,rfl,F,⟨A263,c264,rfl,H265⟩⟩
    ·intro ρ w253o F253o hS hρ
     have q93:ρ 93=.bool ((differD x76 x105)==(IntKind.i64.wrap ((1:Int) * 2 ^ min ((IntKind.u64.wrap (bucketD (3:Int) ([107]:Str)))).toNat IntKind.i64.bits))):=hS 23 (by decide) 93 rfl
     obtain ⟨A263,c264,q96,H265⟩:=hS 26 (by decide) 96 rfl
     exact o_v (r_len_slc un_s_api_Entry q96) (want_t (t:=93) rfl q93 hc238) rfl rfl (eo_nil ⟨rfl,rfl,_,rfl,Fr.refl _ _,rfl⟩)
    ·intro ρ w253o F253o hS hρ
     have q93:ρ 93=.bool ((differD x76 x105)==(IntKind.i64.wrap ((1:Int) * 2 ^ min ((IntKind.u64.wrap (bucketD (3:Int) ([107]:Str)))).toNat IntKind.i64.bits))):=hS 23 (by decide) 93 rfl
     have q97:ρ 97=.int .i64 (x261.length:Int):=hS 27 (by decide) 97 rfl
     exact o_v (r_int q97 rfl rfl) (want_t (t:=93) rfl q93 hc238) rfl rfl (eo_nil ⟨rfl,rfl,_,rfl,Fr.refl _ _,rfl⟩)
    ·intro ρ w253o F253o hS hρ
     have q93:ρ 93=.bool ((differD x76 x105)==(IntKind.i64.wrap ((1:Int) * 2 ^ min ((IntKind.u64.wrap (bucketD (3:Int) ([107]:Str)))).toNat IntKind.i64.bits))):=hS 23 (by decide) 93 rfl
     have q98:ρ 98=.bool ((x261.length:Int)==1):=hS 28 (by decide) 98 rfl
     exact o_q (r_pickT q93 hc238 q98) ⟨Fr.refl _ _,rfl⟩
    ·intro ρ w253o F253o hS hρ
     have q99:ρ 99=.bool ((x261.length:Int)==1):=hS 29 (by decide) 99 rfl
     exact o_q (r_mov q99) ⟨Fr.refl _ _,rfl⟩
    ·intro ρ w253o F253o hS hρ
     have q4:ρ 4=.pointer (some ⟨b43,0,none⟩):=hρ 4 (by kernel_rfl)
     have q100:ρ 100=.bool ((x261.length:Int)==1):=hS 30 (by decide) 100 rfl
     exact o_v (r_lda agg_api_Arena q4 (vs:=(cArena x27.1 A37 c38 A40 c41)) rfl ((B224.ex F253o).part (n:=3) rfl)) (want_t (t:=100) rfl q100 (by rw [hx261]; exact hc243)) rfl rfl (eo_nil ⟨rfl,rfl,_,rfl,Fr.refl _ _,rfl⟩)
    ·intro ρ w253o F253o hS hρ
     have q11:ρ 11=.int .i64 (differD x76 x105):=hρ 11 (by kernel_rfl)
     have q100:ρ 100=.bool ((x261.length:Int)==1):=hS 30 (by decide) 100 rfl
     exact o_v (r_mov q11) (want_t (t:=100) rfl q100 (by rw [hx261]; exact hc243)) rfl rfl (eo_nil ⟨rfl,rfl,_,rfl,Fr.refl _ _,rfl⟩)
    ·intro ρ w253o F253o hS hρ
     have q100:ρ 100=.bool ((x261.length:Int)==1):=hS 30 (by decide) 100 rfl
     have q102:ρ 102=.int .i64 (differD x76 x105):=hS 32 (by decide) 102 rfl
     exact o_v (r_int rfl q102 rfl) (want_t (t:=100) rfl q100 (by rw [hx261]; exact hc243)) rfl rfl (eo_nil ⟨rfl,rfl,_,rfl,Fr.refl _ _,rfl⟩)
    ·intro ρ w253o F253o hS hρ
     have E339:=E219.trans F253o
     have q100:ρ 100=.bool ((x261.length:Int)==1):=hS 30 (by decide) 100 rfl
     have q101:ρ 101=.agg (cArena x27.1 A37 c38 A40 c41).toArray:=hS 31 (by decide) 101 rfl
     have q103:ρ 103=.int .i64 (IntKind.i64.wrap ((15:Int) - (differD x76 x105))):=hS 33 (by decide) 103 rfl
     refine o_call cf_digest_In (by simp only [List.map,ev,q101,q103] <;> rfl) (digest_In_c x27.1 (kArena_mk (d:=x27.1) (H39.up (G221.trans (Fr.ext F253o)) sI (upc (.inr m209) (upc (.inr m167) (upc (.inr m90) (upc (.inr m47) (upc (.inl mH) (upc (.inl (mT mH)) (fun m hm=>Or.inl (mT (mT hm)))))))))) (H42.up (G221.trans (Fr.ext F253o)) sI (upc (.inr m209) (upc (.inr m167) (upc (.inr m90) (upc (.inr m47) (upc (.inl mH) (upc (.inl (mT mH)) (fun m hm=>Or.inl (mT (mT hm))))))))))) (IntKind.i64.wrap ((15:Int) - (differD x76 x105))) (5:Int) (((((((hL.fr E339).cons (B222.ex F253o).lt).cons (B223.ex F253o).lt).cons (B224.ex F253o).lt).cons (B225.ex F253o).lt).cons (B226.ex F253o).lt).cons (B218'.ex F253o).lt) (eq_ev hx266 (digIn_ev x27.1 (IntKind.i64.wrap ((15:Int) - (differD x76 x105))) (5:Int) ha267))) (want_t (t:=100) rfl q100 (by rw [hx261]; exact hc243)) rfl ?_
     rintro _ w' ⟨F,A268,c269,rfl,H270⟩
     exact eo_nil ⟨rfl,rfl,_,rfl,F,⟨A268,c269,rfl,H270⟩⟩
    ·intro ρ w253o F253o hS hρ
     have q100:ρ 100=.bool ((x261.length:Int)==1):=hS 30 (by decide) 100 rfl
     obtain ⟨A268,c269,q104,H270⟩:=hS 34 (by decide) 104 rfl
     exact o_v (r_len_slc un_s_api_Entry q104) (want_t (t:=100) rfl q100 (by rw [hx261]; exact hc243)) rfl rfl (eo_nil ⟨rfl,rfl,_,rfl,Fr.refl _ _,rfl⟩)
    ·intro ρ w253o F253o hS hρ
     have q100:ρ 100=.bool ((x261.length:Int)==1):=hS 30 (by decide) 100 rfl
     have q105:ρ 105=.int .i64 (x266.length:Int):=hS 35 (by decide) 105 rfl
     exact o_v (r_int q105 rfl rfl) (want_t (t:=100) rfl q100 (by rw [hx261]; exact hc243)) rfl rfl (eo_nil ⟨rfl,rfl,_,rfl,Fr.refl _ _,rfl⟩)
    ·intro ρ w253o F253o hS hρ
     have q100:ρ 100=.bool ((x261.length:Int)==1):=hS 30 (by decide) 100 rfl
     have q106:ρ 106=.bool ((x266.length:Int)==0):=hS 36 (by decide) 106 rfl
     exact o_q (r_pickT q100 (by rw [hx261]; exact hc243) q106) ⟨Fr.refl _ _,rfl⟩
    ·intro ρ w253o F253o hS hρ
     have q107:ρ 107=.bool ((x266.length:Int)==0):=hS 37 (by decide) 107 rfl
     exact o_q (r_mov q107) ⟨Fr.refl _ _,rfl⟩
    ·intro ρ w253o F253o hS hρ
     have q4:ρ 4=.pointer (some ⟨b43,0,none⟩):=hρ 4 (by kernel_rfl)
     have q108:ρ 108=.bool ((x266.length:Int)==0):=hS 38 (by decide) 108 rfl
     exact o_v (r_lda agg_api_Arena q4 (vs:=(cArena x27.1 A37 c38 A40 c41)) rfl ((B224.ex F253o).part (n:=3) rfl)) (want_t (t:=108) rfl q108 (by rw [hx266]; exact hc248)) rfl rfl (eo_nil ⟨rfl,rfl,_,rfl,Fr.refl _ _,rfl⟩)
    ·intro ρ w253o F253o hS hρ
     have q11:ρ 11=.int .i64 (differD x76 x105):=hρ 11 (by kernel_rfl)
     have q108:ρ 108=.bool ((x266.length:Int)==0):=hS 38 (by decide) 108 rfl
     exact o_v (r_mov q11) (want_t (t:=108) rfl q108 (by rw [hx266]; exact hc248)) rfl rfl (eo_nil ⟨rfl,rfl,_,rfl,Fr.refl _ _,rfl⟩)
    ·intro ρ w253o F253o hS hρ
     have E357:=E219.trans F253o
     have q108:ρ 108=.bool ((x266.length:Int)==0):=hS 38 (by decide) 108 rfl
     have q109:ρ 109=.agg (cArena x27.1 A37 c38 A40 c41).toArray:=hS 39 (by decide) 109 rfl
     have q110:ρ 110=.int .i64 (differD x76 x105):=hS 40 (by decide) 110 rfl
     refine o_call cf_digest_In (by simp only [List.map,ev,q109,q110] <;> rfl) (digest_In_c x27.1 (kArena_mk (d:=x27.1) (H39.up (G221.trans (Fr.ext F253o)) sI (upc (.inr m209) (upc (.inr m167) (upc (.inr m90) (upc (.inr m47) (upc (.inl mH) (upc (.inl (mT mH)) (fun m hm=>Or.inl (mT (mT hm)))))))))) (H42.up (G221.trans (Fr.ext F253o)) sI (upc (.inr m209) (upc (.inr m167) (upc (.inr m90) (upc (.inr m47) (upc (.inl mH) (upc (.inl (mT mH)) (fun m hm=>Or.inl (mT (mT hm))))))))))) (differD x76 x105) (0:Int) (((((((hL.fr E357).cons (B222.ex F253o).lt).cons (B223.ex F253o).lt).cons (B224.ex F253o).lt).cons (B225.ex F253o).lt).cons (B226.ex F253o).lt).cons (B218'.ex F253o).lt) (eq_ev hx271 (digIn_ev x27.1 (differD x76 x105) (0:Int) ha272))) (want_t (t:=108) rfl q108 (by rw [hx266]; exact hc248)) rfl ?_
     rintro _ w' ⟨F,A273,c274,rfl,H275⟩
     exact eo_nil ⟨rfl,rfl,_,rfl,F,⟨A273,c274,rfl,H275⟩⟩
    ·intro ρ w253o F253o hS hρ
     have q108:ρ 108=.bool ((x266.length:Int)==0):=hS 38 (by decide) 108 rfl
     obtain ⟨A273,c274,q111,H275⟩:=hS 41 (by decide) 111 rfl
     exact o_v (r_len_slc un_s_api_Entry q111) (want_t (t:=108) rfl q108 (by rw [hx266]; exact hc248)) rfl rfl (eo_nil ⟨rfl,rfl,_,rfl,Fr.refl _ _,rfl⟩)
    ·intro ρ w253o F253o hS hρ
     have q108:ρ 108=.bool ((x266.length:Int)==0):=hS 38 (by decide) 108 rfl
     have q112:ρ 112=.int .i64 (x271.length:Int):=hS 42 (by decide) 112 rfl
     exact o_v (r_int q112 rfl rfl) (want_t (t:=108) rfl q108 (by rw [hx266]; exact hc248)) rfl rfl (eo_nil ⟨rfl,rfl,_,rfl,Fr.refl _ _,rfl⟩)
    ·intro ρ w253o F253o hS hρ
     have q108:ρ 108=.bool ((x266.length:Int)==0):=hS 38 (by decide) 108 rfl
     have q113:ρ 113=.bool ((x271.length:Int)==0):=hS 43 (by decide) 113 rfl
     exact o_q (r_pickT q108 (by rw [hx266]; exact hc248) q113) ⟨Fr.refl _ _,rfl⟩
    ·intro ρ w253o F253o hS hρ
     have q114:ρ 114=.bool ((x271.length:Int)==0):=hS 44 (by decide) 114 rfl
     exact o_q (r_mov q114) ⟨Fr.refl _ _,rfl⟩
    ·intro ρ w253o F253o hS hρ
     have q12:ρ 12=str x144.1:=hρ 12 (by kernel_rfl)
     have q115:ρ 115=.bool ((x271.length:Int)==0):=hS 45 (by decide) 115 rfl
     exact o_vg (want_ct (t:=115) rfl q115) (fun hk=>(r_mov q12)) rfl rfl (eo_nil ⟨rfl,rfl,_,rfl,Fr.refl _ _,rfl⟩)
    ·intro ρ w253o F253o hS hρ
     have q115:ρ 115=.bool ((x271.length:Int)==0):=hS 45 (by decide) 115 rfl
     have q116:ρ 116=(bif ((x271.length:Int)==0) then (str x144.1:Value) else undef):=hS 46 (by decide) 116 rfl
     exact o_vg (want_ct (t:=115) rfl q115) (fun hk=>(r_len_str un_string (q116.trans (gdT (u:=undef) hk)))) rfl rfl (eo_nil ⟨rfl,rfl,_,rfl,Fr.refl _ _,rfl⟩)
    ·intro ρ w253o F253o hS hρ
     have q115:ρ 115=.bool ((x271.length:Int)==0):=hS 45 (by decide) 115 rfl
     have q117:ρ 117=(bif ((x271.length:Int)==0) then (.int .i64 (x144.1.length:Int):Value) else undef):=hS 47 (by decide) 117 rfl
     exact o_vg (want_ct (t:=115) rfl q115) (fun hk=>(r_int (q117.trans (gdT (u:=undef) hk)) rfl rfl)) rfl rfl (eo_nil ⟨rfl,rfl,_,rfl,Fr.refl _ _,rfl⟩)
    ·intro ρ w253o F253o hS hρ
     have q115:ρ 115=.bool ((x271.length:Int)==0):=hS 45 (by decide) 115 rfl
     have q118:ρ 118=(bif ((x271.length:Int)==0) then (.bool ((x144.1.length:Int)==16):Value) else undef):=hS 48 (by decide) 118 rfl
     exact o_q (r_pickAnd q115 (fun ht=>(q118.trans (gdT (u:=undef) ht))) rfl) ⟨Fr.refl _ _,rfl⟩
    ·intro ρ w253o F253o hS hρ
     have q119:ρ 119=.bool (((x271.length:Int)==0)&&((x144.1.length:Int)==16)):=hS 49 (by decide) 119 rfl
     exact o_q (r_mov q119) ⟨Fr.refl _ _,rfl⟩
    ·intro ρ w253o F253o hS hρ
     have q13:ρ 13=.int .i64 x144.2:=hρ 13 (by kernel_rfl)
     have q120:ρ 120=.bool (((x271.length:Int)==0)&&((x144.1.length:Int)==16)):=hS 50 (by decide) 120 rfl
     exact o_vg (want_ct (t:=120) rfl q120) (fun hk=>(r_mov q13)) rfl rfl (eo_nil ⟨rfl,rfl,_,rfl,Fr.refl _ _,rfl⟩)
    ·intro ρ w253o F253o hS hρ
     have q120:ρ 120=.bool (((x271.length:Int)==0)&&((x144.1.length:Int)==16)):=hS 50 (by decide) 120 rfl
     have q121:ρ 121=(bif (((x271.length:Int)==0)&&((x144.1.length:Int)==16)) then (.int .i64 x144.2:Value) else undef):=hS 51 (by decide) 121 rfl
     exact o_vg (want_ct (t:=120) rfl q120) (fun hk=>(r_int (q121.trans (gdT (u:=undef) hk)) rfl rfl)) rfl rfl (eo_nil ⟨rfl,rfl,_,rfl,Fr.refl _ _,rfl⟩)
    ·intro ρ w253o F253o hS hρ
     have q120:ρ 120=.bool (((x271.length:Int)==0)&&((x144.1.length:Int)==16)):=hS 50 (by decide) 120 rfl
     have q122:ρ 122=(bif (((x271.length:Int)==0)&&((x144.1.length:Int)==16)) then (.bool (x144.2==0):Value) else undef):=hS 52 (by decide) 122 rfl
     exact o_q (r_pickAnd q120 (fun ht=>(q122.trans (gdT (u:=undef) ht))) rfl) ⟨Fr.refl _ _,rfl⟩
    ·intro ρ w253o F253o hS hρ
     have q123:ρ 123=.bool ((((x271.length:Int)==0)&&((x144.1.length:Int)==16))&&(x144.2==0)):=hS 53 (by decide) 123 rfl
     exact o_q (r_mov q123) ⟨Fr.refl _ _,rfl⟩
    ·intro ρ w253o F253o hS hρ
     have q14:ρ 14=.pointer (some ⟨b161,0,none⟩):=hρ 14 (by kernel_rfl)
     have q124:ρ 124=.bool ((((x271.length:Int)==0)&&((x144.1.length:Int)==16))&&(x144.2==0)):=hS 54 (by decide) 124 rfl
     exact o_vg (want_ct (t:=124) rfl q124) (fun hk=>(r_lda agg_4_int q14 (vs:=[.int .i64 (nth x152.1 0),.int .i64 (nth x152.1 1),.int .i64 (nth x152.1 2),.int .i64 (nth x152.1 3)]) rfl ((B226.ex F253o).part (n:=4) rfl))) rfl rfl (eo_nil ⟨rfl,rfl,_,rfl,Fr.refl _ _,rfl⟩)
    ·intro ρ w253o F253o hS hρ
     have q124:ρ 124=.bool ((((x271.length:Int)==0)&&((x144.1.length:Int)==16))&&(x144.2==0)):=hS 54 (by decide) 124 rfl
     exact o_vg (want_ct (t:=124) rfl q124) (fun hk=>(r_build bld_4_int (vs:=[(0,.int .i64 1),(1,.int .i64 2),(2,.int .i64 3),(3,.int .i64 4)]) (cells:=[.int .i64 1,.int .i64 2,.int .i64 3,.int .i64 4]) rfl rfl)) rfl rfl (eo_nil ⟨rfl,rfl,_,rfl,Fr.refl _ _,rfl⟩)
    ·intro ρ w253o F253o hS hρ
     have q124:ρ 124=.bool ((((x271.length:Int)==0)&&((x144.1.length:Int)==16))&&(x144.2==0)):=hS 54 (by decide) 124 rfl
     have q125:ρ 125=(bif ((((x271.length:Int)==0)&&((x144.1.length:Int)==16))&&(x144.2==0)) then (.agg #[.int .i64 (nth x152.1 0),.int .i64 (nth x152.1 1),.int .i64 (nth x152.1 2),.int .i64 (nth x152.1 3)]:Value) else undef):=hS 55 (by decide) 125 rfl
     have q126:ρ 126=(bif ((((x271.length:Int)==0)&&((x144.1.length:Int)==16))&&(x144.2==0)) then (.agg #[.int .i64 1,.int .i64 2,.int .i64 3,.int .i64 4]:Value) else undef):=hS 56 (by decide) 126 rfl
     exact o_vg (want_ct (t:=124) rfl q124) (fun hk=>(r_eqSt eqg_4_int (eqs_4_int (nth x152.1 0) (nth x152.1 1) (nth x152.1 2) (nth x152.1 3) (1:Int) (2:Int) (3:Int) (4:Int)) (q125.trans (gdT (u:=undef) hk)) (q126.trans (gdT (u:=undef) hk)))) rfl rfl (eo_nil ⟨rfl,rfl,_,rfl,Fr.refl _ _,rfl⟩)
    ·intro ρ w253o F253o hS hρ
     have q124:ρ 124=.bool ((((x271.length:Int)==0)&&((x144.1.length:Int)==16))&&(x144.2==0)):=hS 54 (by decide) 124 rfl
     have q127:ρ 127=(bif ((((x271.length:Int)==0)&&((x144.1.length:Int)==16))&&(x144.2==0)) then (.bool (((nth x152.1 0)==1)&&(((nth x152.1 1)==2)&&(((nth x152.1 2)==3)&&(((nth x152.1 3)==4)&&true)))):Value) else undef):=hS 57 (by decide) 127 rfl
     exact o_q (r_pickAnd q124 (fun ht=>(q127.trans (gdT (u:=undef) ht))) rfl) ⟨Fr.refl _ _,rfl⟩
    ·intro ρ w253o F253o hS hρ
     have q128:ρ 128=.bool (((((x271.length:Int)==0)&&((x144.1.length:Int)==16))&&(x144.2==0))&&(((nth x152.1 0)==1)&&(((nth x152.1 1)==2)&&(((nth x152.1 2)==3)&&(((nth x152.1 3)==4)&&true))))):=hS 58 (by decide) 128 rfl
     exact o_q (r_mov q128) ⟨Fr.refl _ _,rfl⟩
    ·intro ρ w253o F253o hS hρ
     have q15:ρ 15=.int .i64 x152.2:=hρ 15 (by kernel_rfl)
     have q129:ρ 129=.bool (((((x271.length:Int)==0)&&((x144.1.length:Int)==16))&&(x144.2==0))&&(((nth x152.1 0)==1)&&(((nth x152.1 1)==2)&&(((nth x152.1 2)==3)&&(((nth x152.1 3)==4)&&true))))):=hS 59 (by decide) 129 rfl
     exact o_vg (want_ct (t:=129) rfl q129) (fun hk=>(r_mov q15)) rfl rfl (eo_nil ⟨rfl,rfl,_,rfl,Fr.refl _ _,rfl⟩)
    ·intro ρ w253o F253o hS hρ
     have q129:ρ 129=.bool (((((x271.length:Int)==0)&&((x144.1.length:Int)==16))&&(x144.2==0))&&(((nth x152.1 0)==1)&&(((nth x152.1 1)==2)&&(((nth x152.1 2)==3)&&(((nth x152.1 3)==4)&&true))))):=hS 59 (by decide) 129 rfl
     have q130:ρ 130=(bif (((((x271.length:Int)==0)&&((x144.1.length:Int)==16))&&(x144.2==0))&&(((nth x152.1 0)==1)&&(((nth x152.1 1)==2)&&(((nth x152.1 2)==3)&&(((nth x152.1 3)==4)&&true))))) then (.int .i64 x152.2:Value) else undef):=hS 60 (by decide) 130 rfl
     exact o_vg (want_ct (t:=129) rfl q129) (fun hk=>(r_int (q130.trans (gdT (u:=undef) hk)) rfl rfl)) rfl rfl (eo_nil ⟨rfl,rfl,_,rfl,Fr.refl _ _,rfl⟩)
    ·intro ρ w253o F253o hS hρ
     have q129:ρ 129=.bool (((((x271.length:Int)==0)&&((x144.1.length:Int)==16))&&(x144.2==0))&&(((nth x152.1 0)==1)&&(((nth x152.1 1)==2)&&(((nth x152.1 2)==3)&&(((nth x152.1 3)==4)&&true))))):=hS 59 (by decide) 129 rfl
     have q131:ρ 131=(bif (((((x271.length:Int)==0)&&((x144.1.length:Int)==16))&&(x144.2==0))&&(((nth x152.1 0)==1)&&(((nth x152.1 1)==2)&&(((nth x152.1 2)==3)&&(((nth x152.1 3)==4)&&true))))) then (.bool (x152.2==0):Value) else undef):=hS 61 (by decide) 131 rfl
     exact o_q (r_pickAnd q129 (fun ht=>(q131.trans (gdT (u:=undef) ht))) rfl) ⟨Fr.refl _ _,rfl⟩
    ·intro ρ w253o F253o hS hρ
     have q132:ρ 132=.bool ((((((x271.length:Int)==0)&&((x144.1.length:Int)==16))&&(x144.2==0))&&(((nth x152.1 0)==1)&&(((nth x152.1 1)==2)&&(((nth x152.1 2)==3)&&(((nth x152.1 3)==4)&&true)))))&&(x152.2==0)):=hS 62 (by decide) 132 rfl
     exact o_q (r_mov q132) ⟨Fr.refl _ _,rfl⟩
    ·intro ρ w253o F253o hS hρ
     have q17:ρ 17=.int .i64 x183.2:=hρ 17 (by kernel_rfl)
     have q133:ρ 133=.bool ((((((x271.length:Int)==0)&&((x144.1.length:Int)==16))&&(x144.2==0))&&(((nth x152.1 0)==1)&&(((nth x152.1 1)==2)&&(((nth x152.1 2)==3)&&(((nth x152.1 3)==4)&&true)))))&&(x152.2==0)):=hS 63 (by decide) 133 rfl
     exact o_vg (want_ct (t:=133) rfl q133) (fun hk=>(r_mov q17)) rfl rfl (eo_nil ⟨rfl,rfl,_,rfl,Fr.refl _ _,rfl⟩)
    ·intro ρ w253o F253o hS hρ
     have q133:ρ 133=.bool ((((((x271.length:Int)==0)&&((x144.1.length:Int)==16))&&(x144.2==0))&&(((nth x152.1 0)==1)&&(((nth x152.1 1)==2)&&(((nth x152.1 2)==3)&&(((nth x152.1 3)==4)&&true)))))&&(x152.2==0)):=hS 63 (by decide) 133 rfl
     have q134:ρ 134=(bif ((((((x271.length:Int)==0)&&((x144.1.length:Int)==16))&&(x144.2==0))&&(((nth x152.1 0)==1)&&(((nth x152.1 1)==2)&&(((nth x152.1 2)==3)&&(((nth x152.1 3)==4)&&true)))))&&(x152.2==0)) then (.int .i64 x183.2:Value) else undef):=hS 64 (by decide) 134 rfl
     exact o_vg (want_ct (t:=133) rfl q133) (fun hk=>(r_int (q134.trans (gdT (u:=undef) hk)) rfl rfl)) rfl rfl (eo_nil ⟨rfl,rfl,_,rfl,Fr.refl _ _,rfl⟩)
    ·intro ρ w253o F253o hS hρ
     have q133:ρ 133=.bool ((((((x271.length:Int)==0)&&((x144.1.length:Int)==16))&&(x144.2==0))&&(((nth x152.1 0)==1)&&(((nth x152.1 1)==2)&&(((nth x152.1 2)==3)&&(((nth x152.1 3)==4)&&true)))))&&(x152.2==0)):=hS 63 (by decide) 133 rfl
     have q135:ρ 135=(bif ((((((x271.length:Int)==0)&&((x144.1.length:Int)==16))&&(x144.2==0))&&(((nth x152.1 0)==1)&&(((nth x152.1 1)==2)&&(((nth x152.1 2)==3)&&(((nth x152.1 3)==4)&&true)))))&&(x152.2==0)) then (.bool (x183.2==1):Value) else undef):=hS 65 (by decide) 135 rfl
     exact o_q (r_pickAnd q133 (fun ht=>(q135.trans (gdT (u:=undef) ht))) rfl) ⟨Fr.refl _ _,rfl⟩
    ·intro ρ w253o F253o hS hρ
     have q136:ρ 136=.bool (((((((x271.length:Int)==0)&&((x144.1.length:Int)==16))&&(x144.2==0))&&(((nth x152.1 0)==1)&&(((nth x152.1 1)==2)&&(((nth x152.1 2)==3)&&(((nth x152.1 3)==4)&&true)))))&&(x152.2==0))&&(x183.2==1)):=hS 66 (by decide) 136 rfl
     exact o_q (r_mov q136) ⟨Fr.refl _ _,rfl⟩
    ·intro ρ w253o F253o hS hρ
     have q19:ρ 19=.int .i64 x192.2:=hρ 19 (by kernel_rfl)
     have q137:ρ 137=.bool (((((((x271.length:Int)==0)&&((x144.1.length:Int)==16))&&(x144.2==0))&&(((nth x152.1 0)==1)&&(((nth x152.1 1)==2)&&(((nth x152.1 2)==3)&&(((nth x152.1 3)==4)&&true)))))&&(x152.2==0))&&(x183.2==1)):=hS 67 (by decide) 137 rfl
     exact o_vg (want_ct (t:=137) rfl q137) (fun hk=>(r_mov q19)) rfl rfl (eo_nil ⟨rfl,rfl,_,rfl,Fr.refl _ _,rfl⟩)
    ·intro ρ w253o F253o hS hρ
     have q137:ρ 137=.bool (((((((x271.length:Int)==0)&&((x144.1.length:Int)==16))&&(x144.2==0))&&(((nth x152.1 0)==1)&&(((nth x152.1 1)==2)&&(((nth x152.1 2)==3)&&(((nth x152.1 3)==4)&&true)))))&&(x152.2==0))&&(x183.2==1)):=hS 67 (by decide) 137 rfl
     have q138:ρ 138=(bif (((((((x271.length:Int)==0)&&((x144.1.length:Int)==16))&&(x144.2==0))&&(((nth x152.1 0)==1)&&(((nth x152.1 1)==2)&&(((nth x152.1 2)==3)&&(((nth x152.1 3)==4)&&true)))))&&(x152.2==0))&&(x183.2==1)) then (.int .i64 x192.2:Value) else undef):=hS 68 (by decide) 138 rfl
     exact o_vg (want_ct (t:=137) rfl q137) (fun hk=>(r_int (q138.trans (gdT (u:=undef) hk)) rfl rfl)) rfl rfl (eo_nil ⟨rfl,rfl,_,rfl,Fr.refl _ _,rfl⟩)
    ·intro ρ w253o F253o hS hρ
     have q137:ρ 137=.bool (((((((x271.length:Int)==0)&&((x144.1.length:Int)==16))&&(x144.2==0))&&(((nth x152.1 0)==1)&&(((nth x152.1 1)==2)&&(((nth x152.1 2)==3)&&(((nth x152.1 3)==4)&&true)))))&&(x152.2==0))&&(x183.2==1)):=hS 67 (by decide) 137 rfl
     have q139:ρ 139=(bif (((((((x271.length:Int)==0)&&((x144.1.length:Int)==16))&&(x144.2==0))&&(((nth x152.1 0)==1)&&(((nth x152.1 1)==2)&&(((nth x152.1 2)==3)&&(((nth x152.1 3)==4)&&true)))))&&(x152.2==0))&&(x183.2==1)) then (.bool (x192.2==2):Value) else undef):=hS 69 (by decide) 139 rfl
     exact o_q (r_pickAnd q137 (fun ht=>(q139.trans (gdT (u:=undef) ht))) rfl) ⟨Fr.refl _ _,rfl⟩
    ·intro ρ w253o F253o hS hρ
     have q140:ρ 140=.bool ((((((((x271.length:Int)==0)&&((x144.1.length:Int)==16))&&(x144.2==0))&&(((nth x152.1 0)==1)&&(((nth x152.1 1)==2)&&(((nth x152.1 2)==3)&&(((nth x152.1 3)==4)&&true)))))&&(x152.2==0))&&(x183.2==1))&&(x192.2==2)):=hS 70 (by decide) 140 rfl
     exact o_q (r_asg q140) ⟨Fr.refl _ _,rfl⟩
   ·intro ρ w253 F253 hS hρ
    have q0:ρ 0=.bool ((((((((x271.length:Int)==0)&&((x144.1.length:Int)==16))&&(x144.2==0))&&(((nth x152.1 0)==1)&&(((nth x152.1 1)==2)&&(((nth x152.1 2)==3)&&(((nth x152.1 3)==4)&&true)))))&&(x152.2==0))&&(x183.2==1))&&(x192.2==2)):=hS 71 0 rfl
    obtain ⟨ρ',rfl⟩:∃ ρ',ρ=envs (ovr [0,70,71,72,73,74,75,76,77,78,79,80,81,82,83,84,85,86,87,88,89,90,91,92,93,94,95,96,97,98,99,100,101,102,103,104,105,106,107,108,109,110,111,112,113,114,115,116,117,118,119,120,121,122,123,124,125,126,127,128,129,130,131,132,133,134,135,136,137,138,139,140] ρ' _) [(0,.bool ((((((((x271.length:Int)==0)&&((x144.1.length:Int)==16))&&(x144.2==0))&&(((nth x152.1 0)==1)&&(((nth x152.1 1)==2)&&(((nth x152.1 2)==3)&&(((nth x152.1 3)==4)&&true)))))&&(x152.2==0))&&(x183.2==1))&&(x192.2==2)))]:=⟨ρ,ovr_self hρ ⟨q0,trivial⟩⟩
    have E375:=E219.trans F253
    refine sq_n ?_
    refine ec_ret ?_
    subst h
    exact (end1 rfl ⟨_,rfl,E375,rfl⟩)
end Go.Proofs.YthbfhgenkhkpfaaGreat
namespace Go.Proofs.YthbfhgenkhkpfaaGreat
open Go Go.RowKit
set_option linter.unusedVariables false
instance (n:Int):Decidable (inI n):=by unfold inI; infer_instance
instance (n:Int):Decidable (inU n):=by unfold inU; infer_instance
theorem wfV_iff (v:Val):WfV v↔inI v.kind∧inI v.time∧inI v.node∧(∀ x∈v.plus,inI x)∧(∀ x∈v.minus,inI x)∧inU v.flags :=
 ⟨fun ⟨a,b,c,d,e,f⟩=>⟨a,b,c,d,e,f⟩,fun ⟨a,b,c,d,e,f⟩=>⟨a,b,c,d,e,f⟩⟩
instance (v:Val):Decidable (WfV v):=decidable_of_iff _ (wfV_iff v).symm
instance (l:List Ent):Decidable (wfl l):=by unfold wfl; infer_instance
set_option maxRecDepth 100000 in
theorem works10_ev:law10_works_raw worksV:=by
 unfold law10_works_raw
 repeat' first
  | (refine ⟨_,rfl,?_⟩)
  | (refine ⟨fun _=>?_,fun h=>absurd h (by decide +kernel)⟩)
  | (refine ⟨fun h=>absurd h (by decide +kernel),fun _=>?_⟩)
  | (refine ⟨by decide +kernel,?_⟩)
  | (refine ⟨fun _=>by decide +kernel,?_⟩)
  | rfl
  | (decide +kernel)
end Go.Proofs.YthbfhgenkhkpfaaGreat