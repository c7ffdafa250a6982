/- The reference's bytes of an entry are the program's. -/
import Derived.Test.YtbijobepjjokmaaHj
import Derived.Test.YtbijobepjjokmaaHb
namespace Go.Proofs.Ytbijobepjjokmaa
open Go Go.RowKit
set_option linter.unusedVariables false
set_option linter.unusedSimpArgs false

theorem zeros_add {a b:Int} (ha:0≤a) (hb:0≤b):zeros a++zeros b=zeros (a + b):=by
 have e:(a + b).toNat=a.toNat + b.toNat:=by omega
 simp [zeros,bstr,e]
theorem inI_wrap (n:Int):inI (IntKind.i64.wrap n):=by
 unfold inI
 constructor
 ·simp [IntKind.wrap,IntKind.bits,IntKind.signed]; omega
 ·simp [IntKind.wrap,IntKind.bits,IntKind.signed]; omega
theorem bit7 (b:Bool):ref07_bit_raw b (bif b then 1 else 0):=by
 cases b
 ·exact ⟨fun h=>(by cases h),fun _=>rfl⟩
 ·exact ⟨fun _=>rfl,fun h=>(by cases h)⟩
theorem num7 {n w:Int} (h:n≤9223372036854775807):ref07_num_raw n w (putO n w).1:=⟨h,_,rfl,rfl⟩
theorem pad7 (s:Str) (w:Int) (h:(s.length:Int)≤w) (hw:w≤1000):ref07_pad_raw s w (s++zeros (w - (s.length:Int))):=by
 have e:IntKind.i64.wrap (w - (s.length:Int))=w - (s.length:Int):=wrap64 (by omega) (by omega)
 unfold ref07_pad_raw; rw [e]
 refine ⟨⟨by omega,by omega,by omega⟩,?_,rfl⟩
 have:=zeros_len (w - (s.length:Int))
 unfold zeros at this; omega
theorem nums7 (xs:List Int) (hx:∀ x∈xs,x≤9223372036854775807) (hl:xs.length≤8):ref07_nums_raw xs (numsT xs):=by
 obtain ⟨x,h1,h2⟩:=loop_run (body:=ref07_nums_b1 xs) (fun s=>xs.length - s.2.toNat) (fun s=>∃ i:Nat,i≤xs.length∧s=(numsT (xs.take i),(i:Int))) (fun x=>x.1=numsT xs) (fun s hs=>by
  obtain ⟨i,hi,rfl⟩:=hs
  by_cases hlt:i<xs.length
  ·have hn:=numsT_len (xs.take i)
   have h3:=putO_len2 (xs.getD i default) 2 (by decide)
   have h4:(2:Int).toNat=2:=rfl
   have ht:(xs.take i).length=i:=by simp; omega
   have e2:numsT (xs.take (i + 1))=numsT (xs.take i)++(putO (xs.getD i default) 2).1:=by
    rw [List.take_add_one,show xs[i]?.toList=[xs.getD i default] by simp [hlt]]
    simp only [numsT,List.flatMap_append,List.flatMap_cons,List.flatMap_nil,List.append_nil]
   refine .inl ⟨(numsT (xs.take (i + 1)),((i + 1:Nat):Int)),⟨fun _=>⟨⟨by omega,by simpa using hlt⟩,(putO (xs.getD i default) 2).1,⟨?_,_,rfl,rfl⟩,?_,?_⟩,fun c=>?_⟩,⟨i + 1,hlt,rfl⟩,?_⟩
   ·exact hx _ (getD_mem hlt)
   ·show (numsT (xs.take i)).length + _≤_
    omega
   ·rw [e2,wrapS hlt (by omega)]
   ·simp at c; omega
   ·show xs.length - (((i + 1:Nat):Int)).toNat<xs.length - ((i:Int)).toNat
    omega
  ·obtain rfl:i=xs.length:=by omega
   exact .inr ⟨_,⟨fun c=>by simp at c,fun _=>rfl⟩,by simp⟩) (([]:Str),(0:Int)) ⟨0,by omega,by simp [numsT]⟩
 exact ⟨x,h1,h2.symm⟩
theorem lowF_eq {f:Int} (h:inU f):IntKind.i64.wrap (Int.tmod f (4294967296:Int))=lowF f:=by
 obtain ⟨n,rfl⟩:=Int.eq_ofNat_of_zero_le h.1
 have hn:n<2 ^ 64:=by have:=h.2; omega
 have e:(BitVec.ofInt IntKind.u64.bits (n:Int) &&& BitVec.ofInt IntKind.u64.bits (4294967295:Int)).toNat=n % 4294967296:=by
  rw [BitVec.toNat_and,BitVec.toNat_ofInt,BitVec.toNat_ofInt]
  have h64:IntKind.u64.bits=64:=rfl
  rw [h64]
  have e1:((n:Int) % ((2 ^ 64:Nat):Int)).toNat=n:=by omega
  have e2:((4294967295:Int) % ((2 ^ 64:Nat):Int)).toNat=2 ^ 32 - 1:=by decide
  rw [e1,e2,Nat.and_two_pow_sub_one_eq_mod]
 have e3:Int.tmod (n:Int) 4294967296=((n % 4294967296:Nat):Int):=by
  rw [Int.tmod_eq_emod_of_nonneg (by omega)]; omega
 unfold lowF
 rw [e,e3,show IntKind.u64.wrap ((n % 4294967296:Nat):Int)=((n % 4294967296:Nat):Int) from by
  show (((n % 4294967296:Nat):Int)) % 18446744073709551616=_
  omega]
theorem highF_eq {f:Int} (h:inU f):IntKind.i64.wrap (IntKind.u64.wrap (Int.tdiv f (4294967296:Int)))=highF f:=by
 obtain ⟨n,rfl⟩:=Int.eq_ofNat_of_zero_le h.1
 have hn:n<2 ^ 64:=by have:=h.2; omega
 have e3:Int.tdiv (n:Int) 4294967296=((n / 4294967296:Nat):Int):=by
  rw [Int.tdiv_eq_ediv_of_nonneg (by omega)]; omega
 have e4:Int.fdiv (n:Int) (2 ^ min ((32:Int)).toNat IntKind.u64.bits)=((n / 4294967296:Nat):Int):=by
  rw [show (2 ^ min ((32:Int)).toNat IntKind.u64.bits:Int)=4294967296 from by decide,Int.fdiv_eq_ediv_of_nonneg _ (by decide)]; omega
 unfold highF
 rw [e3,e4,show IntKind.u64.wrap ((n / 4294967296:Nat):Int)=((n / 4294967296:Nat):Int) from by
  show (((n / 4294967296:Nat):Int)) % 18446744073709551616=_
  omega]
theorem data7 (d:Val) (ho:okV d=true) (wf:WfV d):∃ x,ref07_data_raw d x∧x.length≤32∧x++zeros (32 - (x.length:Int))=valT d++zeros (32 - ((valT d).length:Int)):=by
 have w1:=wf.time.2
 have w2:=wf.node.2
 rcases okV_kind ho with hk | hk | hk
 ·have ht:=okV_text ho hk
  have a1:=putO_len2 d.time 4 (by decide)
  have a2:=putO_len2 d.node 1 (by decide)
  have a3:=putO_len2 (bif d.dead then 1 else 0) 1 (by decide)
  have a4:=putO_len2 (d.text.length:Int) 1 (by decide)
  have z1:(4:Int).toNat=4:=rfl
  have z2:(1:Int).toNat=1:=rfl
  have hv:valT d=regT d:=by unfold valT; rw [hk]; rfl
  have hb:(bif d.dead then (1:Int) else 0)≤1:=by cases d.dead <;> decide
  refine ⟨((((putO d.time 4).1++(putO d.node 1).1)++(putO (bif d.dead then 1 else 0) 1).1)++(putO (d.text.length:Int) 1).1)++d.text,⟨fun _=>⟨_,num7 (by omega),_,num7 (by omega),?_,_,bit7 _,_,num7 (by omega),?_,_,num7 (by omega),?_,?_,rfl⟩,fun c=>?_⟩,?_,?_⟩
  ·omega
  ·simp only [List.length_append]; omega
  ·simp only [List.length_append]; omega
  ·simp only [List.length_append]; omega
  ·rw [hk] at c; cases c
  ·simp only [List.length_append]; omega
  ·have hz:=zeros_len (8 - (d.text.length:Int))
   have key:zeros (32 - ((((((putO d.time 4).1++(putO d.node 1).1)++(putO (bif d.dead then 1 else 0) 1).1)++(putO (d.text.length:Int) 1).1)++d.text).length:Int))=zeros (8 - (d.text.length:Int))++zeros (32 - ((regT d).length:Int)):=by
    have hr:(regT d).length=(putO d.time 4).1.length + ((putO d.node 1).1.length + ((putO (bif d.dead then 1 else 0) 1).1.length + ((putO (d.text.length:Int) 1).1.length + (d.text.length + (8 - (d.text.length:Int)).toNat)))):=by
     simp only [regT,List.length_append,hz]
    rw [zeros_add (by omega) (by omega),hr]
    simp only [List.length_append]
    congr 1; omega
   rw [key,hv]
   simp only [regT,List.append_assoc]
 ·have h8:=okV_8 ho hk
  have a1:=numsT_len d.plus
  have a2:=numsT_len d.minus
  have hv:valT d=cntT d:=by unfold valT; rw [hk]; rfl
  refine ⟨numsT d.plus++numsT d.minus,⟨fun c=>?_,fun _=>⟨fun _=>⟨_,nums7 _ (fun x hx=>by have:=(wf.plus x hx).2; omega) (by omega),_,nums7 _ (fun x hx=>by have:=(wf.minus x hx).2; omega) (by omega),?_,rfl⟩,fun c=>?_⟩⟩,?_,?_⟩
  ·rw [hk] at c; cases c
  ·omega
  ·rw [hk] at c; cases c
  ·simp only [List.length_append]; omega
  ·rw [hv]; rfl
 ·have hv:valT d=flgT d:=by unfold valT; rw [hk]; rfl
  have a1:=putO_len2 (lowF d.flags) 4 (by decide)
  have a2:=putO_len2 (highF d.flags) 4 (by decide)
  have z1:(4:Int).toNat=4:=rfl
  have b1:lowF d.flags≤9223372036854775807:=by have:=(show inI (lowF d.flags) from by unfold lowF; exact inI_wrap _).2; omega
  have b2:highF d.flags≤9223372036854775807:=by have:=(show inI (highF d.flags) from by unfold highF; exact inI_wrap _).2; omega
  refine ⟨(putO (lowF d.flags) 4).1++(putO (highF d.flags) 4).1,⟨fun c=>?_,fun _=>⟨fun c=>?_,fun _=>?_⟩⟩,?_,?_⟩
  ·rw [hk] at c; cases c
  ·rw [hk] at c; cases c
  ·rw [lowF_eq wf.flags,highF_eq wf.flags]
   exact ⟨_,num7 b1,_,num7 b2,by omega,rfl⟩
  ·simp only [List.length_append]; omega
  ·rw [hv]; rfl
theorem refPutE_ev (d:Ent) (hs:sm d.val) (wf:WfV d.val):ref07_Put_raw d (putE d):=by
 refine ⟨hs,fun h=>?_,fun h=>?_⟩
 ·have:okE d=false:=by simpa using h
  unfold putE; rw [this]; rfl
 ·have ho:okE d=true:=by simpa using h
  obtain ⟨h1,h2,h3⟩:=okE_val ho
  obtain ⟨x,hx,hl,he⟩:=data7 d.val h3 wf
  have w1:=wf.kind.2
  have a1:=putO_len2 d.val.kind 1 (by decide)
  have a2:=putO_len2 (d.key.length:Int) 1 (by decide)
  have z2:(1:Int).toNat=1:=rfl
  have k1:=zeros_len (8 - (d.key.length:Int))
  have k2:=zeros_len (32 - (x.length:Int))
  refine ⟨_,num7 (by omega),_,num7 (by omega),by omega,_,pad7 d.key 8 (by omega) (by omega),?_,x,hx,_,pad7 x 32 (by omega) (by omega),?_,?_⟩
  ·simp only [List.length_append]; omega
  ·simp only [List.length_append]; omega
  ·unfold putE; rw [ho,cond_true]
   unfold putT headT
   rw [← he]
   simp only [List.append_assoc]
end Go.Proofs.Ytbijobepjjokmaa
