/- DigestChanges: a new entry changes the sum of its bucket, unless its own sum is nought. -/
import Derived.Test.YthbfhgenkhkpfaaGreatGjChanges
import Derived.Test.YthbfhgenkhkpfaaGreatSu4
namespace Go.Proofs.YthbfhgenkhkpfaaGreat
open Go Go.RowKit
set_option linter.unusedVariables false
set_option linter.unusedSimpArgs false
theorem dif_one {f g:Nat→Nat} {x0 x1 x2 x3 y0 y1 y2 y3:Int} (hx:x0=f 0∧x1=f 1∧x2=f 2∧x3=f 3) (hy:y0=g 0∧y1=g 1∧y2=g 2∧y3=g 3) {k:Nat} (hk:k<4) (h:∀ j,j≠k→f j=g j):differD [x0,x1,x2,x3] [y0,y1,y2,y3]=if f k=g k then 0 else ((2 ^ k:Nat):Int):=by
 obtain ⟨rfl,rfl,rfl,rfl⟩:=hx
 obtain ⟨rfl,rfl,rfl,rfl⟩:=hy
 have e:∀ j,j<4→(nth [(f 0:Int),(f 1:Int),(f 2:Int),(f 3:Int)] ((j:Nat):Int) != nth [(g 0:Int),(g 1:Int),(g 2:Int),(g 3:Int)] ((j:Nat):Int))=(f j != g j):=fun j hj=>by
  have hj4:j=0∨j=1∨j=2∨j=3:=by omega
  have q:∀ a b:Nat,(((a:Nat):Int) != ((b:Nat):Int))=(a != b):=fun a b=>by
   by_cases h:a=b
   ·subst h; simp
   ·rw [show (a != b)=true by simpa using h]; simp; omega
  rcases hj4 with rfl | rfl | rfl | rfl <;> exact q _ _
 unfold differD
 simp only [difN,e 0 (by decide),e 1 (by decide),e 2 (by decide),e 3 (by decide)]
 have n:∀ j,j≠k→(f j != g j)=false:=fun j hj=>by rw [h j hj]; simp
 have hk4:k=0∨k=1∨k=2∨k=3:=by omega
 rcases hk4 with rfl | rfl | rfl | rfl
 ·rw [n 1 (by decide),n 2 (by decide),n 3 (by decide)]
  by_cases hf:f 0=g 0
  ·rw [if_pos hf,show (f 0 != g 0)=false by simpa using hf]; rfl
  ·rw [if_neg hf,show (f 0 != g 0)=true by simpa using hf]; rfl
 ·rw [n 0 (by decide),n 2 (by decide),n 3 (by decide)]
  by_cases hf:f 1=g 1
  ·rw [if_pos hf,show (f 1 != g 1)=false by simpa using hf]; rfl
  ·rw [if_neg hf,show (f 1 != g 1)=true by simpa using hf]; rfl
 ·rw [n 0 (by decide),n 1 (by decide),n 3 (by decide)]
  by_cases hf:f 2=g 2
  ·rw [if_pos hf,show (f 2 != g 2)=false by simpa using hf]; rfl
  ·rw [if_neg hf,show (f 2 != g 2)=true by simpa using hf]; rfl
 ·rw [n 0 (by decide),n 1 (by decide),n 2 (by decide)]
  by_cases hf:f 3=g 3
  ·rw [if_pos hf,show (f 3 != g 3)=false by simpa using hf]; rfl
  ·rw [if_neg hf,show (f 3 != g 3)=true by simpa using hf]; rfl
theorem dif_self (l:List Int):differD l l=0:=by
 unfold differD
 simp [difN]
theorem digestChanges_row (a:Arena) (x:Ent) (ga:GArena a) (gx:GEnt x):law10_DigestChanges_raw a x true:=by
 refine ⟨fun h=>(by cases h),fun _=>⟨fun _=>rfl,fun f1=>?_⟩⟩
 have f1:=of_not f1
 have sa:=fewA_sma (andL f1)
 have sx:=fewE_sm (andR f1)
 have wa:wfa a:=wfl_of ga.2.1
 have wx:WfV x.val:=gx.2.1
 have sb:=sma_join sa sx
 refine ⟨sa,sx,wx,_,rfl,fun _=>rfl,fun ce=>?_⟩
 have ce0:(joinA a x).2.2=0:=by simpa using ce
 obtain ⟨ho,hx,_⟩:=join_there wa wx ce0
 have hob:=join_arOk x ho
 have hk8:=(okE_val hx).2.1
 have hb:=bucketD_lt x.val.kind x.key
 have hsa:=sumsD_ok ho
 have hsb:=sumsD_ok hob
 obtain ⟨k,hk4,hke⟩:=bkt_nat x
 have hkb:bucketD x.val.kind x.key=(k:Int):=hke
 obtain ⟨b1,b2⟩:=bitD_ev k hk4
 have hcond:((decide ((bucketD x.val.kind x.key)<0))||(decide (3<(bucketD x.val.kind x.key))))=false:=by simp; omega
 -- the sums
 have hdif:∀ j:Nat,j≠k→sumB (j:Int) a.slots=sumB (j:Int) (joinA a x).1.slots:=fun j hj=>by
  have hc:∀ e,bktE e=bktE x→cc (j:Int) e=0:=fun e he=>by
   unfold cc
   rw [he,hke,show (((k:Nat):Int)==((j:Nat):Int))=false by simp; omega]; rfl
  rcases join_cases a x with ⟨_,e⟩ | ⟨_,_,⟨_,_,_,e⟩ | ⟨h1,h2,h3,e⟩ | ⟨i,h1,h2,h3,e⟩⟩
  ·rw [e]
  ·rw [e]
  ·rw [e]; show _=sumB (j:Int) (a.slots++[x]); rw [sumB_snoc,hc x rfl,Nat.xor_zero]
  ·rw [e]
   show _=sumB (j:Int) (a.slots.set i (joinE (a.slots.getD i default) x).1)
   have hoi:=(ok_slots8 ho).2 _ (getD_memE h1)
   rw [sumB_set _ _ _ i h1,hc _ (bkt_name h3),hc _ (bkt_name (nameE_trans (joinE_name hoi hx h3) h3)),Nat.xor_zero,Nat.xor_zero]
 have hm:differD (sums4 a.slots) (sums4 (joinA a x).1.slots)=if sumB (k:Int) a.slots=sumB (k:Int) (joinA a x).1.slots then 0 else ((2 ^ k:Nat):Int) :=
  dif_one (f:=fun j=>sumB (j:Int) a.slots) (g:=fun j=>sumB (j:Int) (joinA a x).1.slots) ⟨rfl,rfl,rfl,rfl⟩ ⟨rfl,rfl,rfl,rfl⟩ hk4 hdif
 refine ⟨sa,sums4 a.slots,hsa.symm,rfl,sb,sums4 (joinA a x).1.slots,hsb.symm,rfl,by omega,fun c=>(by rw [hcond] at c; cases c),fun _=>?_⟩
 rw [hkb]
 refine ⟨b1,sa,fun c=>?_,fun c=>?_⟩
 ·have:(joinA a x).2.1=false:=by simpa using c
  rcases join_is wa wx ce0 with ⟨_,e,_⟩ | ⟨e,_⟩
  ·rw [e,dif_self]; rfl
  ·rw [this] at e; cases e
 ·rw [← b2]
  refine ⟨fun d=>?_,fun _=>⟨fun _=>rfl,fun d=>?_⟩⟩
  ·exfalso
   rw [hm] at d
   split at d <;> simp at d
  ·refine ⟨sx,_,rfl,fun _=>?_,?_⟩
   ·have:=putE_len hx; omega
   ·have hp:(putE x).2=0:=by unfold putE; rw [hx]; rfl
    rcases join_cases a x with ⟨_,e⟩ | ⟨_,_,⟨_,_,_,e⟩ | ⟨h1,h2,h3,e⟩ | ⟨i,h1,h2,h3,e⟩⟩
    ·rw [e] at ce0; cases ce0
    ·rw [e] at ce0; cases ce0
    ·have hs:sumB (k:Int) (joinA a x).1.slots=sumB (k:Int) a.slots ^^^ crcE x:=by
      rw [e]; show sumB (k:Int) (a.slots++[x])=_
      rw [sumB_snoc]; unfold cc; rw [hke]; simp
     rw [hm,hp,sumC_N,hs]
     have hz:(sumB (k:Int) a.slots=sumB (k:Int) a.slots ^^^ crcE x)↔crcE x=0:=by
      constructor
      ·intro h
       have:sumB (k:Int) a.slots ^^^ (sumB (k:Int) a.slots ^^^ crcE x)=0:=by rw [← h]; exact Nat.xor_self _
       rw [← Nat.xor_assoc,Nat.xor_self,Nat.zero_xor] at this; exact this
      ·intro h; rw [h,Nat.xor_zero]
     have hpos:0<2 ^ k:=Nat.two_pow_pos k
     by_cases hc0:crcE x=0
     ·rw [if_pos (hz.2 hc0)]
      have hc0':crcN (putE x).1=0:=hc0
      rw [hc0',show ((0:Int)==((2 ^ k:Nat):Int))=false by rw [beq_eq_false_iff_ne]; intro h; exact absurd (Int.ofNat.inj h) (by omega)]; rfl
     ·rw [if_neg (fun h=>hc0 (hz.1 h))]
      have hc0':¬ crcN (putE x).1=0:=hc0
      rw [show (((crcN (putE x).1:Nat):Int) != 0)=true by simp; omega]; simp
    ·exfalso; rw [h2] at d; simp at d
end Go.Proofs.YthbfhgenkhkpfaaGreat
