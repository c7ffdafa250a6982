/- value: Join, Below, Least, Sum, of the program and of its reference, in plain Lean. -/
import Derived.Test.YtdojgmmpcdbeoaaSb
namespace Go.Proofs.Ytdojgmmpcdbeoaa
open Go Go.RowKit
set_option linter.unusedVariables false
set_option linter.unusedSimpArgs false

theorem bit_ev (b:Bool):value_bit_raw b (bif b then 1 else 0):=by cases b <;> exact ⟨fun h=>by cases h <;> rfl,fun h=>by cases h <;> rfl⟩
def cmpI (a b:Int):Int:=bif decide (a<b) then -1 else bif decide (b<a) then 1 else 0
theorem cmpI_ev (a b:Int):cmp_Compare_int_raw a b (cmpI a b):=by
 have e:∀ a:Int,cmp_isNaN_int_raw a false:=fun a=>by simp [cmp_isNaN_int_raw]
 unfold cmpI
 refine ⟨_,e a,_,e b,fun h=>(by cases h),fun _=>⟨fun h=>(by cases h),fun _=>⟨fun h=>?_,fun h=>⟨fun h1=>?_,fun h1=>?_⟩⟩⟩⟩ <;> simp only [*,cond_true,cond_false]
def cmpS (a b:Str):Int:=bif Op.bytesLess a b then -1 else bif !(Op.bytesLess a b||a==b) then 1 else 0
theorem cmpS_ev (a b:Str):cmp_Compare_string_raw a b (cmpS a b):=by
 have e:∀ a:Str,cmp_isNaN_string_raw a false:=fun a=>by simp [cmp_isNaN_string_raw]
 unfold cmpS
 refine ⟨_,e a,_,e b,fun h=>(by cases h),fun _=>⟨fun h=>(by cases h),fun _=>⟨fun h=>?_,fun h=>⟨fun h1=>?_,fun h1=>?_⟩⟩⟩⟩
 ·rw [h]; rfl
 ·rw [h1,h]; rfl
 ·rw [h1,h]; rfl
def firstL:List Int→Int
 | []=>0
 | n::l=>bif n != 0 then n else firstL l
theorem first_ev (l:List Int) (hl:l.length≤9223372036854775807):value_first_raw l (firstL l):=by
 obtain ⟨x,hx,h2⟩:=loop_scan (body:=value_first_b1 l) l.length (fun i=>l.getD i default==0) (fun i=>l.getD i default)
  (fun i hi hp=>⟨fun _=>⟨⟨by omega,by omega⟩,fun h=>(by rw [nth_nat,bne,hp] at h; cases h),fun _=>by rw [wrapS hi (by omega)]⟩,fun h=>by simp at h; omega⟩)
  (fun i hi hp=>⟨fun _=>⟨⟨by omega,by omega⟩,fun h=>(by rw [nth_nat]),fun h=>(by rw [nth_nat,bne,hp] at h; cases h)⟩,fun h=>by simp at h; omega⟩)
  ⟨fun h=>by simp at h,fun _=>rfl⟩
 have key:∀ (l:List Int),((∀ i,i<l.length→(l.getD i default==0)=true)→firstL l=0)∧(∀ i,i<l.length→(l.getD i default==0)=false→(∀ j,j<i→(l.getD j default==0)=true)→firstL l=l.getD i default):=by
  intro l
  induction l with
  | nil=>exact ⟨fun _=>rfl,fun i hi=>by simp at hi⟩
  | cons n l ih =>
   refine ⟨fun h=>?_,fun i hi h1 h2=>?_⟩
   ·have h0:=h 0 (by simp)
    simp at h0
    unfold firstL
    rw [h0]
    exact ih.1 fun i hi=>by have:=h (i + 1) (by simpa using hi); simpa using this
   ·cases i with
    | zero =>
     have h3:(n==0)=false:=by simpa using h1
     unfold firstL; simp [bne,h3]
    | succ i =>
     have h0:=h2 0 (by omega)
     simp at h0
     unfold firstL
     rw [h0]
     have:=ih.2 i (by simpa using hi) (by simpa using h1) (fun j hj=>by have:=h2 (j + 1) (by omega); simpa using this)
     simpa using this
 refine ⟨x,hx,fun s e=>?_,fun y e=>?_⟩
 ·rcases h2 with ⟨_,h3⟩ | ⟨i,_,_,_,h6⟩
  ·exact (key l).1 h3
  ·rw [e] at h6; cases h6
 ·rcases h2 with ⟨h3,_⟩ | ⟨i,hi,h4,h5,h6⟩
  ·rw [e] at h3; cases h3
  ·rw [e] at h6; cases h6; exact (key l).2 i hi h4 h5
theorem bytesLess_irr (a:Str):Op.bytesLess a a=false:=by rw [bytesLess_eq]; simp
theorem bytesLess_tri (a b:Str):Op.bytesLess b a=!(Op.bytesLess a b||a==b):=by
 rw [bytesLess_eq,bytesLess_eq,Bool.eq_iff_iff]
 simp only [decide_eq_true_eq,Bool.not_eq_true',Bool.or_eq_false_iff,decide_eq_false_iff_not,beq_eq_false_iff_ne]
 constructor
 ·intro h; exact ⟨List.lt_asymm h,fun e=>by subst e; exact List.lt_irrefl _ h⟩
 ·rintro ⟨h1,h2⟩
  have h3:=List.not_lt.1 h1
  rcases List.le_iff_lt_or_eq.1 h3 with h | h
  ·exact h
  ·exact absurd h.symm h2
/-- Of the first four's words, the first that is not 0 is less than 0: then b is behind a. -/
theorem first_behind (a b : Val) : decide (firstL [cmpI a.time b.time, cmpI a.node b.node, IntKind.i64.wrap ((bif a.dead then 1 else 0) - (bif b.dead then 1 else 0)), cmpS a.text b.text] < 0) = behind b a := by
  have ht := bytesLess_tri a.text b.text
  have ht' := bytesLess_tri b.text a.text
  have hi := bytesLess_irr a.text
  have w : ∀ x y : Bool, IntKind.i64.wrap ((bif x then 1 else 0) - (bif y then 1 else 0) : Int) = (bif x then 1 else 0) - (bif y then 1 else 0) := by intro x y; cases x <;> cases y <;> decide
  rw [w]
  unfold behind
  by_cases h1 : a.time = b.time
  · have e1 : cmpI a.time b.time = 0 := by simp [cmpI, h1]
    have e1' : (b.time != a.time) = false := by simp [h1]
    rw [e1, e1', cond_false]
    simp only [firstL, bne_self_eq_false, cond_false]
    by_cases h2 : a.node = b.node
    · have e2 : cmpI a.node b.node = 0 := by simp [cmpI, h2]
      have e2' : (b.node != a.node) = false := by simp [h2]
      rw [e2, e2', cond_false]
      simp only [firstL, bne_self_eq_false, cond_false]
      cases a.dead <;> cases b.dead
      · simp only [cond_false, Int.sub_self, bne_self_eq_false, BEq.rfl, Bool.not_true]
        unfold cmpS
        rw [← ht, ← ht']
        cases h5 : Op.bytesLess a.text b.text <;> cases h6 : Op.bytesLess b.text a.text <;> simp
      · simp
      · simp
      · simp only [cond_true, Int.sub_self, bne_self_eq_false, BEq.rfl, Bool.not_true, cond_false]
        unfold cmpS
        rw [← ht, ← ht']
        cases h5 : Op.bytesLess a.text b.text <;> cases h6 : Op.bytesLess b.text a.text <;> simp
    · have e2' : (b.node != a.node) = true := by simp; omega
      rw [e2', cond_true]
      rcases Int.lt_or_lt_of_ne h2 with h | h
      · have : cmpI a.node b.node = -1 := by simp [cmpI, h]
        rw [this]; simp [h]
      · have : cmpI a.node b.node = 1 := by simp [cmpI, h, show ¬ a.node < b.node by omega]
        rw [this]; simp; omega
  · have e1' : (b.time != a.time) = true := by simp; omega
    rw [e1', cond_true]
    rcases Int.lt_or_lt_of_ne h1 with h | h
    · have : cmpI a.time b.time = -1 := by simp [cmpI, h]
      rw [this]; simp [firstL, h]
    · have : cmpI a.time b.time = 1 := by simp [cmpI, h, show ¬ a.time < b.time by omega]
      rw [this]; simp [firstL]; omega

theorem clone_ev (l:List Int) (hl:l.length≤100000):slices_Clone_int_raw l l:=by
 refine ⟨fun h=>h,⟨by simp; omega,by simp; omega⟩,by simp⟩
theorem mostL_nth (a b:List Int) (h:a.length=b.length) (i:Nat) (hi:i<a.length):(mostL a b).getD i default=max (a.getD i default) (b.getD i default):=by
 have hb:i<b.length:=by omega
 simp [mostL,List.getElem?_zipWith,hi,hb]
theorem joinMost_ev (a b:List Int) (h:a.length=b.length) (hl:a.length≤100000):value_counter_join_1_raw a b (mostL a b):=by
 have hlen:(mostL a b).length=a.length:=by simp [mostL]; omega
 have:=loop_fold (body:=value_counter_join_1_b5 b) b.length (fun i=>((i:Int),(mostL a b).take i++a.drop i))
  (fun i hi=>by
   have hia:i<a.length:=by omega
   have hll:((mostL a b).take i++a.drop i).length=a.length:=by simp [hlen]; omega
   have hg:((mostL a b).take i++a.drop i).getD i default=a.getD i default:=by
    simp [List.getElem?_append,hlen,Nat.min_eq_left (show i≤a.length by omega)]
   refine ⟨fun _=>⟨⟨by simp,by simp; omega⟩,⟨by simp,by rw [hll]; simp; omega⟩,⟨by simp,by rw [hll]; simp; omega⟩,?_⟩,fun h=>by simp at h; omega⟩
   simp only
   rw [wrapS hi (by omega),nth_nat,nth_nat,hg,← mostL_nth a b h i hia,Int.toNat_natCast]
   congr 2
   apply List.ext_getElem?
   intro q
   rw [List.getElem?_set]
   have e1:(List.take (i + 1) (mostL a b)++List.drop (i + 1) a)[q]?=if q<i + 1 then (mostL a b)[q]? else a[q]?:=by
    rw [List.getElem?_append]
    simp only [List.length_take,hlen,Nat.min_eq_left (show i + 1≤a.length by omega)]
    split
    ·rw [List.getElem?_take,if_pos (by assumption)]
    ·rw [List.getElem?_drop]; congr 1; omega
   have e2:(List.take i (mostL a b)++List.drop i a)[q]?=if q<i then (mostL a b)[q]? else a[q]?:=by
    rw [List.getElem?_append]
    simp only [List.length_take,hlen,Nat.min_eq_left (show i≤a.length by omega)]
    split
    ·rw [List.getElem?_take,if_pos (by assumption)]
    ·rw [List.getElem?_drop]; congr 1; omega
   rw [e1,e2,hll]
   by_cases hq:i=q
   ·subst hq
    rw [if_pos rfl,if_pos hia,if_pos (by omega)]
    simp [hlen,hia]
   ·rw [if_neg hq]
    by_cases h3:q<i
    ·rw [if_pos h3,if_pos (by omega)]
    ·rw [if_neg h3,if_neg (by omega)])
  ⟨fun h=>by simp at h,fun _=>rfl⟩
 refine ⟨a,clone_ev a hl,_,by simpa using this,?_⟩
 simp [← h,← hlen]

/-! ### Join and what is made of it -/
theorem okV_c {v:Val} (h:okV v=true) (k1:(v.kind==1)=false) (k:(v.kind==2)=true):v.plus.length=8∧v.minus.length=8∧v.flags=0∧noReg v=true:=by
 unfold okV at h; rw [k1,k,cond_true,cond_false] at h
 simp only [okC,okN,Bool.and_eq_true,beq_iff_eq] at h
 exact ⟨h.1.2,h.2.1.2,h.2.2.2,h.2.2.1⟩
theorem okV_f {v:Val} (h:okV v=true) (k1:(v.kind==1)=false) (k2:(v.kind==2)=false):(v.kind==3)=true∧v.plus=[]∧v.minus=[]∧noReg v=true:=by
 unfold okV at h; rw [k1,k2,cond_false,cond_false] at h
 simp only [okF,Bool.and_eq_true,beq_iff_eq] at h
 exact ⟨by simpa using h.1,h.2.2.1,h.2.2.2,h.2.1⟩
theorem kind_eq {a b:Val} (h:(a.kind != b.kind)=false):b.kind=a.kind:=by simp at h; exact h.symm
theorem okV_len {v:Val} (h:okV v=true):v.plus.length≤100000∧v.minus.length≤100000:=by
 cases k1:v.kind==1 with
 | true =>
  unfold okV okR at h
  rw [k1] at h
  simp only [cond_true,Bool.and_eq_true,beq_iff_eq] at h
  have e1:v.plus=[]:=by simp_all
  have e2:v.minus=[]:=by simp_all
  rw [e1,e2]; exact ⟨Nat.zero_le _,Nat.zero_le _⟩
 | false =>
  cases k2:v.kind==2 with
  | true=>obtain ⟨a1,a2,_⟩:=okV_c h k1 k2; omega
  | false=>obtain ⟨_,a1,a2,_⟩:=okV_f h k1 k2; rw [a1,a2]; exact ⟨Nat.zero_le _,Nat.zero_le _⟩
theorem checkV_ne (v:Val):(checkV v != 0)=!okV v:=by unfold checkV; cases okV v <;> rfl
theorem lenC {v:Val} (h:(checkV v != 0)=false):v.plus.length≤100000∧v.minus.length≤100000:=okV_len (by rw [checkV_ne] at h; simpa using h)
theorem valJoin_ev (a b:Val) (ha:sm a) (hb:sm b):value_Join_raw a b (joinV a b):=by
 refine ⟨_,valCheck_ev a ha,fun h1=>?_,fun h1=>⟨_,valCheck_ev b hb,fun h2=>?_,fun h2=>⟨fun h3=>?_,fun h3=>⟨fun k1=>⟨_,cmpI_ev _ _,_,cmpI_ev _ _,_,bit_ev _,_,bit_ev _,_,cmpS_ev _ _,_,first_ev _ (by simp),fun h4=>⟨_,clone_ev _ (lenC h2).1,_,clone_ev _ (lenC h2).2,?_⟩,fun h4=>⟨_,clone_ev _ (lenC h1).1,_,clone_ev _ (lenC h1).2,?_⟩⟩,fun k1=>?_⟩⟩⟩⟩ <;>
  rw [checkV_ne] at h1 <;> (try rw [checkV_ne] at h2)
 ·unfold joinV; rw [h1]; rfl
 ·unfold joinV; rw [h1,h2]; rfl
 ·unfold joinV; rw [h1,h2,h3]; rfl
 ·rw [first_behind] at h4; unfold joinV; rw [h1,h2,h3,k1,h4]; rfl
 ·rw [first_behind] at h4; unfold joinV; rw [h1,h2,h3,k1,h4]; rfl
 ·have hk:=kind_eq h3
  have oka:okV a=true:=by simpa using h1
  have okb:okV b=true:=by simpa using h2
  refine ⟨fun k2=>?_,fun k2=>⟨fun k3=>?_,fun k3=>?_⟩⟩
  ·obtain ⟨a1,a2,a3,_⟩:=okV_c oka k1 k2
   obtain ⟨b1,b2,b3,_⟩:=okV_c okb (by rw [hk]; exact k1) (by rw [hk]; exact k2)
   have l1:(mostL a.plus b.plus).length=8:=by simp [mostL,a1,b1]
   have l2:(mostL a.minus b.minus).length=8:=by simp [mostL,a2,b2]
   refine ⟨_,joinMost_ev _ _ (by omega) (okV_len oka).1,_,joinMost_ev _ _ (by omega) (okV_len oka).2,_,clone_ev _ (by omega),_,clone_ev _ (by omega),?_⟩
   unfold joinV; rw [h1,h2,h3,k1,k2]
   simp only [cond_false,cond_true,a3]
  ·obtain ⟨_,a1,a2,_⟩:=okV_f oka k1 k2
   refine ⟨_,clone_ev _ (okV_len oka).1,_,clone_ev _ (okV_len oka).2,?_⟩
   unfold joinV; rw [h1,h2,h3,k1,k2]
   simp only [cond_false,a1,a2]
   rfl
  ·rw [(okV_f oka k1 k2).1] at k3; cases k3
theorem mostL_len (a b:List Int):(mostL a b).length≤a.length:=by simp only [mostL,List.length_zipWith]; omega
theorem sm_join {a b:Val} (ha:sm a) (hb:sm b):sm (joinV a b).1:=by
 have hz:sm zeroV:=by decide
 unfold joinV
 cases okV a <;> cases okV b <;> cases (a.kind != b.kind) <;> cases (a.kind==1) <;> cases (a.kind==2) <;> cases behind b a <;> simp only [cond_true,cond_false,Bool.not_true,Bool.not_false] <;>
  first | exact ha | exact hb | exact hz | exact ⟨Nat.le_trans (mostL_len _ _) ha.1,Nat.le_trans (mostL_len _ _) ha.2⟩ | exact ⟨Nat.zero_le _,Nat.zero_le _⟩
theorem valBelow_ev (a b:Val) (ha:sm a) (hb:sm b):value_Below_raw a b (belowV a b) :=
 ⟨_,valJoin_ev a b ha hb,_,fun _=>valSame_ev _ _ (sm_join ha hb),rfl⟩
theorem valLeast_ev (k:Int):value_Least_raw k (leastV k):=by
 refine ⟨fun h=>?_,fun h=>⟨fun h1=>⟨by decide,by decide,?_⟩,fun h1=>⟨fun h2=>?_,fun h2=>?_⟩⟩⟩
 ·unfold leastV; rw [h]; rfl
 ·unfold leastV; rw [h,h1]; rfl
 ·unfold leastV; rw [h,h1,h2]; rfl
 ·unfold leastV; rw [h,h1,h2]; rfl
theorem okN_nth {l:List Int} (h:okN l=true) (i:Nat):0≤l.getD i 0∧l.getD i 0≤65535:=by
 simp only [okN,Bool.and_eq_true,List.all_eq_true,decide_eq_true_eq] at h
 by_cases hi:i<l.length
 ·have:=h.1 l[i] (List.getElem_mem hi)
  simpa [hi] using this
 ·simp [hi]
theorem sumTo_bound {v:Val} (h1:okN v.plus=true) (h2:okN v.minus=true):∀ i:Nat,-(65535 * i:Int)≤sumTo v i∧sumTo v i≤65535 * i
 | 0=>by simp [sumTo]
 | i + 1=>by
  have:=sumTo_bound h1 h2 i
  have a:=okN_nth h1 i
  have b:=okN_nth h2 i
  unfold sumTo
  omega
theorem okV_cc {v:Val} (h:okV v=true) (k:v.kind=2):okN v.plus=true∧okN v.minus=true∧v.plus.length=8∧v.minus.length=8:=by
 unfold okV at h; rw [k] at h
 have h:okC v=true:=h
 simp only [okC,Bool.and_eq_true] at h
 have l1:=h.1
 have l2:=h.2.1
 simp only [okN,Bool.and_eq_true,beq_iff_eq] at l1 l2
 exact ⟨h.1,h.2.1,l1.2,l2.2⟩
theorem valSum_ev (v:Val) (h:sm v):value_Sum_raw v (sumV v):=by
 refine ⟨_,fun _=>valCheck_ev v h,fun h2=>?_,fun h2=>?_⟩ <;> rw [checkV_ne] at h2
 ·have:(v.kind==2&&okV v)=false:=by
   revert h2; unfold bne; cases v.kind==2 <;> cases okV v <;> simp
  unfold sumV; rw [this]; rfl
 ·have hk:v.kind=2:=by simpa using orL h2
  have ho:okV v=true:=by simpa using orR h2
  obtain ⟨o1,o2,l1,l2⟩:=okV_cc ho hk
  have:=loop_fold (body:=value_Sum_b15 v) 8 (fun i=>(sumTo v i,(i:Int)))
   (fun i hi=>by
    have a:=okN_nth o1 i
    have b:=okN_nth o2 i
    have c:=sumTo_bound o1 o2 i
    refine ⟨fun _=>⟨⟨by simp,by simp; omega⟩,⟨by simp,by simp; omega⟩,?_⟩,fun h=>by simp at h; omega⟩
    simp only
    rw [wrapS (n:=8) hi (by omega),nth_nat,nth_nat]
    have e1:(default:Int)=0:=rfl
    rw [e1,wrap64 (n:=v.plus.getD i 0 - v.minus.getD i 0) (by omega) (by omega),wrap64 (by omega) (by omega)]
    rw [show sumTo v (i + 1)=sumTo v i + v.plus.getD i 0 - v.minus.getD i 0 from rfl]
    congr 2; omega)
   ⟨fun h=>by simp at h,fun _=>rfl⟩
  refine ⟨_,this,?_⟩
  unfold sumV; rw [ho,hk]; rfl
def worksV:Bool:=true
end Go.Proofs.Ytdojgmmpcdbeoaa
