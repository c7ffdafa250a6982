/- What an update comes to, when it is joined: plain Lean. -/
import Derived.Test.YthhjcijhanacnaaLh
import Derived.Test.YthhjcijhanacnaaSe10
import Derived.Test.YthhjcijhanacnaaAr
namespace Go.Proofs.Ythhjcijhanacnaa
open Go Go.RowKit
set_option linter.unusedVariables false
set_option linter.unusedSimpArgs false

def isK (k:Int):Prop:=k=1∨k=2∨k=3
theorem least_kind {k:Int} (h:isK k):okV (leastV k).1=true∧(leastV k).1.kind=k∧WfV (leastV k).1:=by
 rcases h with rfl | rfl | rfl <;> exact ⟨by decide,rfl,by decide⟩
theorem old_ok {a:Arena} (wa:wfa a) {k:Int} (hk:isK k) (key:Str):okV (oldD a k key).1=true∧(oldD a k key).1.kind=k∧WfV (oldD a k key).1:=by
 unfold oldD
 cases hc:decide (0≤findA a k key) with
 | true =>
  have h0:0≤findA a k key:=by simpa using hc
  obtain ⟨ho,h1,h2⟩:=find_lt h0
  have hm:nth a.slots (findA a k key)∈a.slots:=by unfold nth; exact getD_mem (by omega)
  exact ⟨okE_V ((arOk_iff.1 ho).2.1 _ hm),(isN_iff.1 h2).1,wa _ hm⟩
 | false=>exact least_kind hk
theorem J_least {k:Int} (hk:isK k) {v:Val} (hv:okV v=true) (hvk:v.kind=k) (w:WfV v):J (leastV k).1 v=v:=by
 have:=(least_ok hv w).2
 rw [hvk] at this
 exact ((belowV_iff _ _).1 this).2
theorem okE_kind {e:Ent} (h:okE e=true):isK e.val.kind:=kinds_of (okE_V h)
theorem old_of {a:Arena} {k:Int} {key:Str} {i:Nat} (h:findA a k key=(i:Int)):oldD a k key=((a.slots.getD i default).val,true):=by
 unfold oldD
 have:decide (0≤findA a k key)=true:=by rw [h]; simp
 rw [this,h]; rfl
theorem old_no {a:Arena} {k:Int} {key:Str} (h:findA a k key=-1):oldD a k key=((leastV k).1,false):=by
 unfold oldD
 rw [h]; rfl
/-- What is read behind a join. -/
theorem old_join {a : Arena} {e : Ent} (ho : arOk a = true) (wa : wfa a) (he : okE e = true) (we : WfV e.val) (hr : (oldD a e.val.kind e.key).2 = true ∨ (a.slots.length : Int) < a.cap) :
    (joinA a e).2.2 = 0 ∧ oldD (joinA a e).1 e.val.kind e.key = (J (oldD a e.val.kind e.key).1 e.val, true) ∧ (J (oldD a e.val.kind e.key).1 e.val ≠ (oldD a e.val.kind e.key).1 → (joinA a e).2.1 = true) := by
  have hjo := join_arOk e ho
  rcases join_cases a e with ⟨h0, _⟩ | ⟨_, _, ⟨_, hf, hc, _⟩ | ⟨hn, hf, hl, h1⟩ | ⟨i, hi, hf, hn, h1⟩⟩
  · rw [ho, he] at h0; simp at h0
  · exfalso
    rw [old_no hf] at hr
    rcases hr with hr | hr
    · cases hr
    · omega
  · have hold := old_no hf
    have hfind : findA (joinA a e).1 e.val.kind e.key = ((a.slots.length : Nat) : Int) := find_at hjo (by rw [h1]; simp) (by rw [h1]; simp [nameE_self])
    rw [old_of hfind, hold, h1]
    refine ⟨rfl, ?_, fun _ => rfl⟩
    have : (a.slots ++ [e]).getD a.slots.length default = e := by simp
    rw [this, J_least (okE_kind he) (okE_V he) rfl we]
  · have hm := getD_mem' hi
    have hxo := (arOk_iff.1 ho).2.1 _ hm
    obtain ⟨o, q⟩ := joinE_ok hxo he hn
    have hset : (a.slots.set i (joinE (a.slots.getD i default) e).1).getD i default = (joinE (a.slots.getD i default) e).1 := by rw [set_getD, if_pos ⟨rfl, hi⟩]
    have hfind : findA (joinA a e).1 e.val.kind e.key = (i : Int) := find_at hjo (by rw [h1]; simpa using hi) (by
      rw [h1]; show nameE ((a.slots.set i (joinE (a.slots.getD i default) e).1).getD i default) e = true
      rw [hset]; exact nameE_trans (joinE_name hxo he hn) hn)
    rw [old_of hfind, old_of hf, h1]
    refine ⟨rfl, ?_, fun hne => ?_⟩
    · show ((a.slots.set i (joinE (a.slots.getD i default) e).1).getD i default |>.val, true) = _
      rw [hset, q]
    · show (!sameE (a.slots.getD i default) (joinE (a.slots.getD i default) e).1) = true
      rw [q]
      cases hs : sameE (a.slots.getD i default) ⟨(a.slots.getD i default).key, J (a.slots.getD i default).val e.val⟩ with
      | false => rfl
      | true =>
        exfalso
        have := sameE_iff.1 hs
        exact hne (congrArg Ent.val this).symm
theorem keyD_len {key:Str} (h:keyD key=true):1≤key.length∧key.length≤8:=by
 unfold keyD at h
 have h1:=andL h
 have h2:=andR h
 refine ⟨?_,by simp at h2; omega⟩
 cases key with
 | nil=>simp at h1
 | cons x l=>simp
theorem okE_ent {k:Int} {key:Str} {v:Val} (hk:keyD key=true) (hv:okV (entD k key v).val=true):okE (entD k key v)=true:=by
 obtain ⟨h1,h2⟩:=keyD_len hk
 unfold okE
 rw [hv]
 show (decide (1≤key.length)&&(decide (key.length≤8)&&true))=true
 simp [h1,h2]
theorem room_0 {a:Arena} {k:Int} {key:Str} (h:(roomD a k key != 0)=false):(oldD a k key).2=true∨(a.slots.length:Int)<a.cap:=by
 unfold roomD unlessD at h
 cases h1:(oldD a k key).2 with
 | true=>exact .inl rfl
 | false =>
  rw [h1] at h
  cases h2:decide ((a.slots.length:Int)<a.cap) with
  | true=>exact .inr (by simpa using h2)
  | false=>rw [h2] at h; simp at h
/-- A register of one time more. -/
def regD (a : Arena) (node : Int) (key : Str) (dead : Bool) (text : Str) : Val := ⟨1, (oldD a 1 key).1.time + 1, node, dead, text, [], [], 0⟩
theorem later_0 {a:Arena} {node:Int} {key:Str} {dead:Bool} {text:Str} (wa:wfa a) (h:(laterD a node key dead text).2=0) (h0:0≤node) (h8:node<8) (ht:text.length≤8) (hd:dead=false∨text=[]) :
  laterD a node key dead text=(⟨key,regD a node key dead text⟩,0)∧okV (regD a node key dead text)=true∧WfV (regD a node key dead text)∧J (oldD a 1 key).1 (regD a node key dead text)=regD a node key dead text∧J (oldD a 1 key).1 (regD a node key dead text)≠(oldD a 1 key).1:=by
 obtain ⟨o1,o2,o3⟩:=old_ok wa (.inl rfl:isK 1) key
 have hr:=ok1 o1 o2
 unfold okR at hr
 simp only [Bool.and_eq_true,decide_eq_true_eq] at hr
 have t0:=hr.1
 have t1:=hr.2.1
 unfold laterD at h ⊢
 cases ht1:(oldD a 1 key).1.time==2147483647 with
 | true=>rw [ht1] at h; cases h
 | false =>
  have ht2:(oldD a 1 key).1.time≠2147483647:=by simpa using ht1
  have ew:IntKind.i64.wrap ((oldD a 1 key).1.time + 1)=(oldD a 1 key).1.time + 1:=wrap64 (by omega) (by omega)
  have hok:okV (regD a node key dead text)=true:=by
   show okR (regD a node key dead text)=true
   unfold okR regD
   simp only [Bool.and_eq_true,decide_eq_true_eq]
   refine ⟨by omega,by omega,by omega,by omega,ht,?_,by simp⟩
   rcases hd with rfl | rfl <;> simp
  have hw:WfV (regD a node key dead text):=⟨(show inI (1:Int) from ⟨by decide,by decide⟩),⟨by show _≤(oldD a 1 key).1.time + 1; omega,by show (oldD a 1 key).1.time + 1<_; omega⟩,⟨by show _≤node; omega,by show node<_; omega⟩,(fun x hx=>by cases hx),(fun x hx=>by cases hx),(show inU (0:Int) from ⟨by decide,by decide⟩)⟩
  have o:Ok2 (oldD a 1 key).1 (regD a node key dead text):=⟨o1,hok,o2⟩
  have hb:behind (regD a node key dead text) (oldD a 1 key).1=true:=(behind_iff _ _).2 (.inl (by show (oldD a 1 key).1.time<(oldD a 1 key).1.time + 1; omega))
  have hJ:J (oldD a 1 key).1 (regD a node key dead text)=regD a node key dead text:=by rw [J_1 o o2,hb]; rfl
  refine ⟨by rw [cond_false,ew]; rfl,hok,hw,hJ,?_⟩
  rw [hJ]
  intro c
  have:=congrArg Val.time c
  have e:(regD a node key dead text).time=(oldD a 1 key).1.time + 1:=rfl
  rw [e] at this; omega
theorem text_join {a:Arena} {node:Int} {key:Str} {dead:Bool} {text:Str} (ho:arOk a=true) (wa:wfa a) (hk:keyD key=true) (hr:(oldD a 1 key).2=true∨(a.slots.length:Int)<a.cap) (h:(laterD a node key dead text).2=0) (h0:0≤node) (h8:node<8) (ht:text.length≤8) (hd:dead=false∨text=[]) :
  (joinA a (laterD a node key dead text).1).2=(true,0)∧textU (joinA a (laterD a node key dead text).1).1 key=(text,!dead)∧WfV (laterD a node key dead text).1.val∧sm (laterD a node key dead text).1.val:=by
 obtain ⟨h1,hv,hw,hJ,hne⟩:=later_0 wa h h0 h8 ht hd
 have he:okE (⟨key,regD a node key dead text⟩:Ent)=true:=okE_ent (k:=1) (v:=regD a node key dead text) hk hv
 obtain ⟨j1,j2,j3⟩:=old_join (e:=⟨key,regD a node key dead text⟩) ho wa he hw hr
 rw [h1]
 refine ⟨Prod.ext (j3 hne) j1,?_,hw,⟨Nat.zero_le _,Nat.zero_le _⟩⟩
 unfold textU
 have j2':oldD (joinA a ⟨key,regD a node key dead text⟩).1 1 key=(J (oldD a 1 key).1 (regD a node key dead text),true):=j2
 rw [j2',hJ]; rfl
end Go.Proofs.Ythhjcijhanacnaa

/- Counters and flags that are counted on: plain Lean. -/
namespace Go.Proofs.Ythhjcijhanacnaa
open Go Go.RowKit
set_option linter.unusedVariables false
set_option linter.unusedSimpArgs false

theorem eight {l:List Int} (h:l.length=8):∃ a b c d e f g i,l=[a,b,c,d,e,f,g,i]:=by
 match l,h with
 | [a,b,c,d,e,f,g,i],_=>exact ⟨a,b,c,d,e,f,g,i,rfl⟩
theorem node8 {n:Int} (h0:0≤n) (h8:n<8):n=0∨n=1∨n=2∨n=3∨n=4∨n=5∨n=6∨n=7:=by omega
/-- Numbers of a counter: what holds of each. -/
def cn (l : List Int) : Prop := l.length = 8 ∧ ∀ x ∈ l, 0 ≤ x ∧ x ≤ 65535
theorem cn_of {l:List Int} (h:okN l=true):cn l:=by
 unfold okN at h
 refine ⟨by simpa using andR h,fun x hx=>?_⟩
 have:=List.all_eq_true.1 (andL h) x hx
 simpa using this
theorem of_cn {l:List Int} (h:cn l):okN l=true:=by
 unfold okN
 rw [Bool.and_eq_true]
 refine ⟨List.all_eq_true.2 fun x hx=>?_,by simp [h.1]⟩
 have:=h.2 x hx
 simp [this]
theorem cn_Z8:cn Z8:=⟨rfl,fun x hx=>by
 have:x=0:=by simpa using hx
 omega⟩
theorem cn_set {l:List Int} {n x:Int} (h:cn l) (h0:0≤x) (h1:x≤65535):cn (l.set n.toNat x):=⟨by rw [List.length_set]; exact h.1,fun y hy=>by
 rcases List.mem_or_eq_of_mem_set hy with h2 | h2
 ·exact h.2 y h2
 ·omega⟩
theorem nth_cn {l:List Int} {n:Int} (h:cn l) (h0:0≤n) (h8:n<8):0≤nth l n∧nth l n≤65535:=h.2 _ (by unfold nth; exact getD_mem (by have:=h.1; omega))
theorem most_Z8 {l:List Int} (h:cn l):mostL l Z8=l:=by
 obtain ⟨a,b,c,d,e,f,g,i,rfl⟩:=eight h.1
 have:=h.2
 simp only [List.mem_cons,List.not_mem_nil,or_false,forall_eq_or_imp,forall_eq] at this
 obtain ⟨h1,h2,h3,h4,h5,h6,h7,h8⟩:=this
 show [max a 0,max b 0,max c 0,max d 0,max e 0,max f 0,max g 0,max i 0]=_
 rw [Int.max_eq_left h1.1,Int.max_eq_left h2.1,Int.max_eq_left h3.1,Int.max_eq_left h4.1,Int.max_eq_left h5.1,Int.max_eq_left h6.1,Int.max_eq_left h7.1,Int.max_eq_left h8.1]
theorem most_set {l:List Int} {n x:Int} (h:cn l) (h0:0≤n) (h8:n<8) (hx:nth l n≤x):mostL l (Z8.set n.toNat x)=l.set n.toNat x:=by
 have hz:=most_Z8 h
 have hl:=h.1
 unfold mostL at hz ⊢
 apply List.ext_getElem
 ·simp [hl]
 ·intro i h1 h2
  have hi:i<8:=by simpa [hl] using h2
  have hz':=List.getElem_of_eq hz (i:=i) (by simp [hl]; omega)
  rw [List.getElem_zipWith] at hz' ⊢
  rw [List.getElem_set,List.getElem_set]
  by_cases hn:n.toNat=i
  ·rw [if_pos hn,if_pos hn]
   have:l[i]'(by omega)=nth l n:=by unfold nth; rw [hn]; simp [show i<l.length by omega]
   rw [this]; omega
  ·rw [if_neg hn,if_neg hn]; exact hz'
theorem sum_def (v:Val):sumTo v 8=(v.plus.getD 0 0 - v.minus.getD 0 0) + (v.plus.getD 1 0 - v.minus.getD 1 0) + (v.plus.getD 2 0 - v.minus.getD 2 0) + (v.plus.getD 3 0 - v.minus.getD 3 0) + (v.plus.getD 4 0 - v.minus.getD 4 0) + (v.plus.getD 5 0 - v.minus.getD 5 0) + (v.plus.getD 6 0 - v.minus.getD 6 0) + (v.plus.getD 7 0 - v.minus.getD 7 0):=by
 simp only [sumTo]; omega
def sumL (l:List Int):Int:=l.getD 0 0 + l.getD 1 0 + l.getD 2 0 + l.getD 3 0 + l.getD 4 0 + l.getD 5 0 + l.getD 6 0 + l.getD 7 0
theorem sumTo_L (v:Val):sumTo v 8=sumL v.plus - sumL v.minus:=by rw [sum_def]; unfold sumL; omega
theorem sumL_set {l:List Int} {n x:Int} (h:l.length=8) (h0:0≤n) (h8:n<8):sumL (l.set n.toNat x)=sumL l + x - nth l n:=by
 obtain ⟨a,b,c,d,e,f,g,i,rfl⟩:=eight h
 rcases node8 h0 h8 with rfl | rfl | rfl | rfl | rfl | rfl | rfl | rfl <;> simp [sumL,nth] <;> omega
theorem sumL_bound {l:List Int} (h:cn l):0≤sumL l∧sumL l≤524280:=by
 obtain ⟨a,b,c,d,e,f,g,i,rfl⟩:=eight h.1
 have:=h.2
 simp only [List.mem_cons,List.not_mem_nil,or_false,forall_eq_or_imp,forall_eq] at this
 obtain ⟨h1,h2,h3,h4,h5,h6,h7,h8⟩:=this
 simp [sumL]; omega
theorem cnt_ok {v:Val} (h:okV v=true) (k:v.kind=2):cn v.plus∧cn v.minus∧v.time=0∧v.node=0∧v.dead=false∧v.text=[]∧v.flags=0:=by
 obtain ⟨h1,h2,h3,h4⟩:=okC_eq (ok2 h k)
 obtain ⟨r1,r2,r3,r4⟩:=noReg_eq h3
 exact ⟨cn_of h1,cn_of h2,r1,r2,r3,r4,h4⟩
theorem sumV_L {v:Val} (h:okV v=true) (k:v.kind=2):sumV v=sumL v.plus - sumL v.minus:=by
 unfold sumV
 rw [h,k,← sumTo_L]; rfl
theorem sumV_bound {v:Val} (h:okV v=true) (k:v.kind=2) : -524280≤sumV v∧sumV v≤524280:=by
 obtain ⟨h1,h2,_⟩:=cnt_ok h k
 have:=sumL_bound h1
 have:=sumL_bound h2
 rw [sumV_L h k]; omega
def cntV (P M:List Int):Val:=⟨2,0,0,false,[],P,M,0⟩
theorem okV_cnt {P M:List Int} (hp:cn P) (hm:cn M):okV (cntV P M)=true:=by
 show okC (cntV P M)=true
 unfold okC cntV noReg
 rw [of_cn hp,of_cn hm]; rfl
theorem wfV_cnt {P M:List Int} (hp:cn P) (hm:cn M):WfV (cntV P M) :=
 ⟨(show inI (2:Int) from ⟨by decide,by decide⟩),(show inI (0:Int) from ⟨by decide,by decide⟩),(show inI (0:Int) from ⟨by decide,by decide⟩),fun x hx=>by have:=hp.2 x hx; exact ⟨by omega,by omega⟩,fun x hx=>by have:=hm.2 x hx; exact ⟨by omega,by omega⟩,(show inU (0:Int) from ⟨by decide,by decide⟩)⟩
theorem J_cnt {v:Val} (h:okV v=true) (k:v.kind=2) {P M:List Int} (hp:cn P) (hm:cn M):J v (cntV P M)=cntV (mostL v.plus P) (mostL v.minus M):=by
 have o:Ok2 v (cntV P M):=⟨h,okV_cnt hp hm,k⟩
 obtain ⟨_,_,r1,r2,r3,r4,_⟩:=cnt_ok h k
 rw [J_2 o k,k,r1,r2,r3,r4]; rfl
/-- What an addition that is told comes to. -/
theorem add_0 {a : Arena} {node : Int} {key : Str} {n : Int} (wa : wfa a) (h : (addU a node key n).2 = 0) :
    arOk a = true ∧ (0 ≤ node ∧ node < 8) ∧ keyD key = true ∧ ((oldD a 2 key).2 = true ∨ (a.slots.length : Int) < a.cap) ∧ (n ≠ 0 ∧ n ≤ 65535 ∧ -65535 ≤ n) ∧
    ((0 < n ∧ nth (oldD a 2 key).1.plus node + n ≤ 65535 ∧ addU a node key n = (⟨key, cntV (Z8.set node.toNat (nth (oldD a 2 key).1.plus node + n)) Z8⟩, 0)) ∨
     (n < 0 ∧ nth (oldD a 2 key).1.minus node - n ≤ 65535 ∧ addU a node key n = (⟨key, cntV Z8 (Z8.set node.toNat (nth (oldD a 2 key).1.minus node - n))⟩, 0))) := by
  obtain ⟨o1, o2, o3⟩ := old_ok wa (.inr (.inl rfl) : isK 2) key
  obtain ⟨cp, cm, _⟩ := cnt_ok o1 o2
  cases h1 : mayD a node key != 0 with
  | true => exfalso; unfold addU at h; rw [bif_ne h1] at h; rw [show mayD a node key = 0 from h] at h1; simp at h1
  | false =>
    obtain ⟨ho, n0, n8, hk⟩ := may_0 h1
    cases h2 : mostD n != 0 with
    | true => exfalso; unfold addU at h; rw [bif_eq h1, bif_ne h2] at h; rw [show mostD n = 0 from h] at h2; simp at h2
    | false =>
      cases h3 : roomD a 2 key != 0 with
      | true => exfalso; unfold addU at h; rw [bif_eq h1, bif_eq h2, bif_ne h3] at h; rw [show roomD a 2 key = 0 from h] at h3; simp at h3
      | false =>
        have hn : n ≠ 0 ∧ n ≤ 65535 ∧ -65535 ≤ n := by
          unfold mostD unlessD at h2
          cases h4 : ((n != 0) && decide (n ≤ 65535)) && decide (-65535 ≤ n) with
          | false => rw [h4] at h2; simp at h2
          | true => simp at h4; exact ⟨h4.1.1, h4.1.2, h4.2⟩
        obtain ⟨p0, p1⟩ := nth_cn cp n0 n8
        obtain ⟨m0, m1⟩ := nth_cn cm n0 n8
        refine ⟨ho, ⟨n0, n8⟩, hk, room_0 h3, hn, ?_⟩
        unfold addU at h ⊢
        rw [bif_eq h1, bif_eq h2, bif_eq h3] at h ⊢
        cases h5 : decide (n < 0) with
        | true =>
          have hneg : n < 0 := by simpa using h5
          have em : minusD a node key n = nth (oldD a 2 key).1.minus node - n := by
            unfold minusD; rw [wrap64 (n := 0 - n) (by omega) (by omega), wrap64 (by omega) (by omega)]; omega
          rw [h5, cond_true, em] at h
          cases h6 : decide (65535 < nth (oldD a 2 key).1.minus node - n) with
          | true => rw [h6] at h; cases h
          | false => exact .inr ⟨hneg, by simp at h6; omega, by rw [cond_true, em, h6]; rfl⟩
        | false =>
          have hpos : 0 < n := by simp at h5; omega
          have ep : plusD a node key n = nth (oldD a 2 key).1.plus node + n := by unfold plusD; rw [wrap64 (by omega) (by omega)]
          rw [h5, cond_false, ep] at h
          cases h6 : decide (65535 < nth (oldD a 2 key).1.plus node + n) with
          | true => rw [h6] at h; cases h
          | false => exact .inl ⟨hpos, by simp at h6; omega, by rw [cond_false, ep, h6]; rfl⟩
theorem sumU_V (a:Arena) (key:Str):(sumU a key).1=sumV (oldD a 2 key).1:=by
 unfold sumU oldD
 cases decide (0≤findA a 2 key) <;> rfl
/-- It is counted on. -/
theorem add_join {a : Arena} {node : Int} {key : Str} {n : Int} (wa : wfa a) (h : (addU a node key n).2 = 0) :
    (joinA a (addU a node key n).1).2 = (true, 0) ∧ sumU (joinA a (addU a node key n).1).1 key = ((sumU a key).1 + n, true) ∧ WfV (addU a node key n).1.val ∧ sm (addU a node key n).1.val ∧
    okE (addU a node key n).1 = true ∧ (addU a node key n).1.key = key ∧ (addU a node key n).1.val.kind = 2 ∧ (oldD (joinA a (addU a node key n).1).1 2 key).2 = true ∧
    (∀ m, 0 ≤ m → m < 8 → m ≠ node → nth (oldD (joinA a (addU a node key n).1).1 2 key).1.plus m = nth (oldD a 2 key).1.plus m ∧ nth (oldD (joinA a (addU a node key n).1).1 2 key).1.minus m = nth (oldD a 2 key).1.minus m) := by
  obtain ⟨o1, o2, o3⟩ := old_ok wa (.inr (.inl rfl) : isK 2) key
  obtain ⟨cp, cm, _⟩ := cnt_ok o1 o2
  obtain ⟨ho, ⟨n0, n8⟩, hk, hr, hn, hc⟩ := add_0 wa h
  obtain ⟨p0, p1⟩ := nth_cn cp n0 n8
  obtain ⟨m0, m1⟩ := nth_cn cm n0 n8
  have key1 : ∀ P M : List Int, cn P → cn M → ∀ P' M' : List Int, mostL (oldD a 2 key).1.plus P = P' → mostL (oldD a 2 key).1.minus M = M' → cn P' → cn M' → (P' ≠ (oldD a 2 key).1.plus ∨ M' ≠ (oldD a 2 key).1.minus) →
      (joinA a ⟨key, cntV P M⟩).2 = (true, 0) ∧ oldD (joinA a ⟨key, cntV P M⟩).1 2 key = (cntV P' M', true) ∧ okE ⟨key, cntV P M⟩ = true := by
    intro P M hP hM P' M' e1 e2 hP' hM' hne
    have he : okE (⟨key, cntV P M⟩ : Ent) = true := okE_ent (k := 2) (v := cntV P M) hk (okV_cnt hP hM)
    obtain ⟨j1, j2, j3⟩ := old_join (e := ⟨key, cntV P M⟩) ho wa he (wfV_cnt hP hM) hr
    have j2' : oldD (joinA a ⟨key, cntV P M⟩).1 2 key = (J (oldD a 2 key).1 (cntV P M), true) := j2
    have j3' : J (oldD a 2 key).1 (cntV P M) ≠ (oldD a 2 key).1 → (joinA a ⟨key, cntV P M⟩).2.1 = true := j3
    rw [J_cnt o1 o2 hP hM, e1, e2] at j2' j3'
    refine ⟨Prod.ext (j3' fun c => ?_) j1, j2', he⟩
    rcases hne with hne | hne
    · exact hne (congrArg Val.plus c)
    · exact hne (congrArg Val.minus c)
  have sumk : ∀ P' M' : List Int, cn P' → cn M' → ∀ b : Arena, oldD b 2 key = (cntV P' M', true) → sumU b key = (sumL P' - sumL M', true) := by
    intro P' M' hP' hM' b e
    unfold sumU
    rw [e]
    show (sumV (cntV P' M'), true) = _
    rw [sumV_L (okV_cnt hP' hM') rfl]; rfl
  have nset : ∀ (l : List Int) (x m : Int), 0 ≤ m → m ≠ node → nth (l.set node.toNat x) m = nth l m := fun l x m h0 hm => by
    unfold nth
    simp only [List.getD_eq_getElem?_getD]
    rw [List.getElem?_set_ne (by omega)]
  rcases hc with ⟨hpos, hle, e⟩ | ⟨hneg, hle, e⟩
  · have hs : cn (Z8.set node.toNat (nth (oldD a 2 key).1.plus node + n)) := cn_set cn_Z8 (by omega) hle
    have hs' : cn ((oldD a 2 key).1.plus.set node.toNat (nth (oldD a 2 key).1.plus node + n)) := cn_set cp (by omega) hle
    obtain ⟨k1, k2, k3⟩ := key1 _ Z8 hs cn_Z8 _ _ (most_set cp n0 n8 (by omega)) (most_Z8 cm) hs' cm (.inl fun c => by
      have := nth_set (l := (oldD a 2 key).1.plus) (x := nth (oldD a 2 key).1.plus node + n) n0 (by rw [cp.1]; exact n8)
      rw [c] at this; omega)
    rw [e]
    refine ⟨k1, ?_, wfV_cnt hs cn_Z8, ⟨by show (Z8.set _ _).length ≤ _; simp, by show (Z8 : List Int).length ≤ _; decide⟩, k3, rfl, rfl, by rw [k2], fun m h0 _ hm => ?_⟩
    · rw [sumk _ _ hs' cm _ k2, sumU_V, sumV_L o1 o2, sumL_set cp.1 n0 n8]
      congr 1; omega
    · rw [k2]; exact ⟨nset _ _ m h0 hm, rfl⟩
  · have hs : cn (Z8.set node.toNat (nth (oldD a 2 key).1.minus node - n)) := cn_set cn_Z8 (by omega) hle
    have hs' : cn ((oldD a 2 key).1.minus.set node.toNat (nth (oldD a 2 key).1.minus node - n)) := cn_set cm (by omega) hle
    obtain ⟨k1, k2, k3⟩ := key1 Z8 _ cn_Z8 hs _ _ (most_Z8 cp) (most_set cm n0 n8 (by omega)) cp hs' (.inr fun c => by
      have := nth_set (l := (oldD a 2 key).1.minus) (x := nth (oldD a 2 key).1.minus node - n) n0 (by rw [cm.1]; exact n8)
      rw [c] at this; omega)
    rw [e]
    refine ⟨k1, ?_, wfV_cnt cn_Z8 hs, ⟨by show (Z8 : List Int).length ≤ _; decide, by show (Z8.set _ _).length ≤ _; simp⟩, k3, rfl, rfl, by rw [k2], fun m h0 _ hm => ?_⟩
    · rw [sumk _ _ cp hs' _ k2, sumU_V, sumV_L o1 o2, sumL_set cm.1 n0 n8]
      congr 1; omega
    · rw [k2]; exact ⟨rfl, nset _ _ m h0 hm⟩
theorem sumU_bound {a:Arena} (wa:wfa a) (key:Str) : -524280≤(sumU a key).1∧(sumU a key).1≤524280:=by
 obtain ⟨o1,o2,_⟩:=old_ok wa (.inr (.inl rfl):isK 2) key
 rw [sumU_V]; exact sumV_bound o1 o2
end Go.Proofs.Ythhjcijhanacnaa
