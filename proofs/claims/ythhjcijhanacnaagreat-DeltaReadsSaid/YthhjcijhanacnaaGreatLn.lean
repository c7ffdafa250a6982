/- The references of updates are the program's. -/
import Derived.Test.YthhjcijhanacnaaGreatLm
namespace Go.Proofs.YthhjcijhanacnaaGreat
open Go Go.RowKit
set_option linter.unusedVariables false
set_option linter.unusedSimpArgs false

theorem old_2 (a:Arena) (k:Int) (key:Str):(oldD a k key).2=decide (0≤findA a k key):=by
 unfold oldD
 cases decide (0≤findA a k key) <;> rfl
theorem find_neg (a:Arena) (k:Int) (key:Str):decide (findA a k key<0)=!decide (0≤findA a k key):=by
 by_cases h:0≤findA a k key
 ·rw [decide_eq_true h,decide_eq_false (by omega)]; rfl
 ·rw [decide_eq_false h,decide_eq_true (by omega)]; rfl
theorem rval_ev (a:Arena) (k:Int) (key:Str) (h:sma a):ref09_val_raw a k key (oldD a k key).1:=by
 refine ⟨h,fun hc=>⟨_,rfl,?_⟩,fun hc=>?_⟩ <;> rw [find_neg] at hc
 ·have:decide (0≤findA a k key)=false:=by simpa using hc
  unfold oldD; rw [this]; rfl
 ·have h1:decide (0≤findA a k key)=true:=by simpa using hc
  have h0:0≤findA a k key:=by simpa using h1
  refine ⟨⟨h0,(find_lt h0).2.1⟩,?_⟩
  unfold oldD; rw [h1]; rfl
theorem rtext_ev (a:Arena) (key:Str) (h:sma a):ref09_Text_raw a key (textU a key):=by
 refine ⟨h,fun hc=>?_,fun hc=>⟨_,rval_ev a 1 key h,fun hd=>?_,fun hd=>⟨_,rval_ev a 1 key h,?_⟩⟩⟩ <;> rw [find_neg,← old_2] at hc
 ·have h2:(oldD a 1 key).2=false:=by simpa using hc
  unfold textU; rw [h2]; rfl
 ·have h2:(oldD a 1 key).2=true:=by simpa using hc
  have h0:0≤findA a 1 key:=by rw [old_2] at h2; simpa using h2
  obtain ⟨ho,h1,hN⟩:=find_lt h0
  have hm:nth a.slots (findA a 1 key)∈a.slots:=by unfold nth; exact getD_mem (by omega)
  have hv:=ok1 (andR (andR ((arOk_iff.1 ho).2.1 _ hm))) (isN_iff.1 hN).1
  have ev:(oldD a 1 key).1=(nth a.slots (findA a 1 key)).val:=by unfold oldD; rw [decide_eq_true h0]; rfl
  rw [← ev] at hv
  unfold okR at hv
  simp only [Bool.and_eq_true] at hv
  have ht:(oldD a 1 key).1.text=[]:=by
   have:=hv.2.2.2.2.2.1
   rw [hd] at this
   simpa using this
  unfold textU; rw [h2,hd,ht]; rfl
 ·have h2:(oldD a 1 key).2=true:=by simpa using hc
  unfold textU; rw [h2,hd]; rfl
theorem rsum_ev (a:Arena) (key:Str) (h:sma a):ref09_Sum_raw a key (sumU a key):=by
 refine ⟨h,fun hc=>?_,fun hc=>⟨_,rval_ev a 2 key h,sm_old h 2 key,?_⟩⟩ <;> rw [find_neg,← old_2] at hc
 ·have h2:(oldD a 2 key).2=false:=by simpa using hc
  unfold sumU; rw [h2]; rfl
 ·have h2:(oldD a 2 key).2=true:=by simpa using hc
  unfold sumU; rw [h2]; rfl
theorem rflags_ev (a:Arena) (key:Str) (h:sma a):ref09_Flags_raw a key (flagsU a key):=by
 refine ⟨h,fun hc=>?_,fun hc=>⟨_,rval_ev a 3 key h,?_⟩⟩ <;> rw [find_neg,← old_2] at hc
 ·have h2:(oldD a 3 key).2=false:=by simpa using hc
  unfold flagsU; rw [h2]; rfl
 ·have h2:(oldD a 3 key).2=true:=by simpa using hc
  unfold flagsU; rw [h2]; rfl
theorem rscan_ev (a:Arena) (h:sma a):ref09_Scan_raw a (scanU a):=by
 have hl:(allA a).length≤1000000:=allA_len
 refine ⟨h,_,rfl,((scanU a),(((allA a).length:Nat):Int)),?_,rfl⟩
 have key:=loop_fold (body:=ref09_Scan_b17 (allA a)) (allA a).length (fun i=>(liveL ((allA a).take i),(i:Int))) (fun i hi=>by
  have e3:IntKind.i64.wrap ((i:Int) + (1:Int))=((i + 1:Nat):Int):=wrapS hi (by omega)
  have hs:=live_take_succ hi
  have hlen:=live_len (allA a) i
  have hb:(0:Int)≤(i:Int)∧(i:Int)<((allA a).length:Int):=⟨by omega,by omega⟩
  refine ⟨fun _=>⟨hb,fun hd=>⟨hb,⟨by show (liveL ((allA a).take i)).length + 1≤_; omega,by show ((liveL ((allA a).take i)).length + 1) * 120≤_; omega⟩,?_⟩,fun hd=>?_⟩,fun c=>absurd (show (i:Int)<((allA a).length:Int) from hb.2) (of_decide_eq_false c)⟩
  ·have hd':deadAt (allA a) i=false:=by unfold deadAt; simpa only [nth_nat,Bool.not_eq_true'] using hd
   rw [hd',cond_false] at hs
   rw [hs]
   show Sum.inl _=Sum.inl (liveL ((allA a).take i)++[nth (allA a) (i:Int)],IntKind.i64.wrap ((i:Int) + 1))
   rw [e3,nth_nat]
  ·have hd':deadAt (allA a) i=true:=by unfold deadAt; simpa only [nth_nat,Bool.not_eq_false'] using hd
   rw [hd',cond_true,List.append_nil] at hs
   rw [hs]
   show Sum.inl _=Sum.inl (liveL ((allA a).take i),IntKind.i64.wrap ((i:Int) + 1))
   rw [e3]) (by
  refine ⟨fun c=>by simp at c,fun _=>rfl⟩)
 have e0:liveL ((allA a).take 0)=[]:=rfl
 have en:liveL ((allA a).take (allA a).length)=scanU a:=by rw [List.take_length]; rfl
 simp only [e0,en] at key
 exact key
end Go.Proofs.YthhjcijhanacnaaGreat
