/- Buffers in plain Lean: what each function comes to. -/
import Derived.Test.YthfkbabgkacfnaaFb
namespace Go.Proofs.Ythfkbabgkacfnaa
open Go Go.RowKit
set_option linter.unusedVariables false
set_option linter.unusedSimpArgs false

instance:DecidableEq Nm:=fun a b=>decidable_of_iff (a.kind=b.kind∧a.key=b.key) ⟨fun h=>by cases a; cases b; simp at h; simp [h],fun h=>by rw [h]; exact ⟨rfl,rfl⟩⟩
def smB (b:Buf):Prop:=b.names.length≤1000000
def smC (b:Buf):Prop:=b.names.length≤9223372036854775807
theorem smB_smC {b:Buf} (h:smB b):smC b:=Nat.le_trans (m:=1000000) h (by decide)
def hasA (a:Arena) (n:Nm):Bool:=decide (0≤findA a n.kind n.key)
def okB (b:Buf) (a:Arena) (m:Int):Bool :=
 (decide (0≤b.epoch)&&decide (b.epoch≤2147483647))&&((decide (0≤b.first)&&decide (b.first≤2147483647 - (b.names.length:Int)))&&(decide ((b.names.length:Int)≤m)&&(arOk a&&b.names.all (hasA a))))
def checkB (b:Buf) (a:Arena) (m:Int):Int:=bif okB b a m then 0 else 2
def resetB (b:Buf):Buf:=bif decide (b.epoch<0)||decide (2147483647≤b.epoch) then ⟨0,0,[]⟩ else ⟨b.epoch + 1,0,[]⟩
def mendB (b:Buf) (a:Arena) (m:Int):Buf:=bif okB b a m then b else resetB b
def noteM (b:Buf) (a:Arena) (m:Int) (e:Ent):Buf :=
 bif decide (findA a e.val.kind e.key<0)||decide (m<1) then b else
 bif decide (m<((b.names++[(⟨e.val.kind,e.key⟩:Nm)]).length:Int)) then mendB ⟨b.epoch,b.first + 1,(b.names++[(⟨e.val.kind,e.key⟩:Nm)]).drop 1⟩ a m else mendB ⟨b.epoch,b.first,b.names++[(⟨e.val.kind,e.key⟩:Nm)]⟩ a m
def noteB (b:Buf) (a:Arena) (m:Int) (e:Ent):Buf:=noteM (mendB b a m) a m e
def ackM (b:Buf) (ep up:Int):Buf:=bif (b.epoch==ep&&decide (b.first<up))&&decide (up≤b.first + (b.names.length:Int)) then ⟨b.epoch,up,b.names.drop (up - b.first).toNat⟩ else b
def ackB (b:Buf) (a:Arena) (m ep up:Int):Buf:=ackM (mendB b a m) ep up
def someB (b:Buf) (a:Arena) (m n:Int):List Ent:=((mendB b a m).names.take n.toNat).map fun x=>nth a.slots (findA a x.kind x.key)
def fewB (b:Buf):Bool:=decide ((b.names.length:Int)≤20)&&b.names.all fun n=>decide ((n.key.length:Int)≤100)
theorem okB_iff {b:Buf} {a:Arena} {m:Int}:okB b a m=true↔(0≤b.epoch∧b.epoch≤2147483647)∧(0≤b.first∧b.first≤2147483647 - (b.names.length:Int))∧(b.names.length:Int)≤m∧arOk a=true∧∀ n∈b.names,0≤findA a n.kind n.key:=by
 unfold okB hasA
 simp only [Bool.and_eq_true,decide_eq_true_eq,List.all_eq_true]
theorem checkB_eq (b:Buf) (a:Arena) (m:Int):(checkB b a m==0)=okB b a m:=by unfold checkB; cases okB b a m <;> rfl
theorem resetB_names (b:Buf):(resetB b).names=[]∧(resetB b).first=0∧0≤(resetB b).epoch∧(resetB b).epoch≤2147483647:=by
 unfold resetB
 cases hc:(decide (b.epoch<0)||decide (2147483647≤b.epoch)) with
 | true=>refine ⟨?_,?_,?_,?_⟩ <;> simp
 | false =>
  simp only [Bool.or_eq_false_iff,decide_eq_false_iff_not] at hc
  refine ⟨rfl,rfl,?_,?_⟩ <;> simp only [cond_false] <;> omega
theorem mendB_bound (b:Buf) (a:Arena) (m:Int):(mendB b a m).names.length≤b.names.length∧0≤(mendB b a m).first∧(mendB b a m).first≤2147483647∧0≤(mendB b a m).epoch∧(mendB b a m).epoch≤2147483647:=by
 unfold mendB
 cases hc:okB b a m with
 | true=>have h:=okB_iff.1 hc; simp only [cond_true]; refine ⟨Nat.le_refl _,h.2.1.1,by have:=h.2.1.2; omega,h.1.1,h.1.2⟩
 | false=>obtain ⟨h1,h2,h3,h4⟩:=resetB_names b; simp only [cond_false]; rw [h1,h2]; exact ⟨Nat.zero_le _,Int.le_refl _,by decide,h3,h4⟩
theorem mendB_names {b:Buf} {a:Arena} {m:Int}:∀ n∈(mendB b a m).names,arOk a=true∧0≤findA a n.kind n.key:=by
 unfold mendB
 cases hc:okB b a m with
 | true=>have h:=okB_iff.1 hc; exact fun n hn=>⟨h.2.2.2.1,h.2.2.2.2 n hn⟩
 | false=>obtain ⟨h1,_⟩:=resetB_names b; simp only [cond_false]; rw [h1]; intro n hn; cases hn
theorem findL_cs (l:List Ent) (k:Int) (key:Str):(findL l k key=-1∧∀ i,i<l.length→isN k key (l.getD i default)=false)∨∃ i:Nat,i<l.length∧findL l k key=(i:Int)∧isN k key (l.getD i default)=true:=by
 by_cases h:l.findIdx (isN k key)<l.length
 ·refine .inr ⟨_,h,?_,?_⟩
  ·unfold findL; simp [h]
  ·have:=List.findIdx_getElem (w:=h); simpa [h] using this
 ·refine .inl ⟨?_,fun i hi=>?_⟩
  ·unfold findL; simp [h]
  ·have:=List.not_of_lt_findIdx (p:=isN k key) (xs:=l) (i:=i) (by omega)
   simpa [hi] using this
theorem find_lt {a:Arena} (k:Int) (key:Str):findA a k key<(a.slots.length:Int)∨findA a k key<0:=by
 unfold findA
 cases arOk a with
 | false=>simp only [cond_false]; omega
 | true=>rcases findL_cs a.slots k key with ⟨h1,_⟩ | ⟨i,h1,h2,_⟩ <;> simp only [cond_true] <;> omega
theorem wrapM {n:Nat} (h:n≤9223372036854775807):IntKind.i64.wrap ((2147483647:Int) - (n:Int))=2147483647 - (n:Int):=wrap64 (by omega) (by omega)

theorem contB_ev (l:List Nm) (a:Arena) (hl:l.length≤9223372036854775807) (ha:sma a):slices_ContainsFunc_Name_Check_2_raw l a (!l.all (hasA a)):=by
 have hd:∀ n:Nm,decide (findA a n.kind n.key<0)=!hasA a n:=fun n=>by
  unfold hasA
  rw [Bool.eq_iff_iff]
  simp only [decide_eq_true_eq,Bool.not_eq_true',decide_eq_false_iff_not]; omega
 obtain ⟨x,hx,h2⟩:=loop_scan (body:=slices_IndexFunc_Name_Check_2_b7 l a) l.length (fun i=>hasA a (l.getD i default)) (fun i=>(i:Int))
  (fun i hi hp=>⟨fun _=>⟨⟨by omega,by omega⟩,_,⟨ha,rfl⟩,fun e=>(by rw [nth_nat,hd,hp] at e; cases e),fun e=>by rw [wrapS hi (by omega)]⟩,fun h=>by simp at h; omega⟩)
  (fun i hi hp=>⟨fun _=>⟨⟨by omega,by omega⟩,_,⟨ha,rfl⟩,fun e=>rfl,fun e=>(by rw [nth_nat,hd,hp] at e; cases e)⟩,fun h=>by simp at h; omega⟩)
  ⟨fun h=>by simp at h,fun _=>rfl⟩
 rcases h2 with ⟨h3,h4⟩ | ⟨i,hi,h4,_,h6⟩
 ·refine ⟨(-1:Int),⟨x,hx,fun _ _=>rfl,fun y e=>?_⟩,?_⟩
  ·rw [e] at h3; cases h3
  ·have:l.all (hasA a)=true:=by
    rw [List.all_eq_true]; intro e he
    obtain ⟨i,hi,rfl⟩:=List.getElem_of_mem he
    have:=h4 i hi; simpa [hi] using this
   rw [this]; rfl
 ·refine ⟨(i:Int),⟨x,hx,fun s e=>?_,fun y e=>?_⟩,?_⟩
  ·rw [e] at h6; cases h6
  ·rw [e] at h6; cases h6; rfl
  ·have:l.all (hasA a)=false:=by rw [List.all_eq_false]; exact ⟨_,getD_mem' hi,by simpa using h4⟩
   rw [this]; simp
theorem bufCheck_evC (b:Buf) (a:Arena) (m:Int) (hb:smC b) (ha:sma a):buffer_Check_raw b a m (checkB b a m):=by
 have hl:b.names.length≤9223372036854775807:=hb
 have no:okB b a m=false→checkB b a m=2:=fun h=>by unfold checkB; rw [h]; rfl
 refine ⟨_,rfl,fun c=>?_,fun c1=>⟨_,rfl,fun c=>?_,fun c2=>⟨fun c=>?_,fun c3=>⟨ha,fun c=>?_,fun c4=>⟨_,contB_ev _ _ hl ha,fun c=>?_,fun c5=>?_⟩⟩⟩⟩⟩
 ·refine no ?_
  cases ho:okB b a m with
  | false=>rfl
  | true=>obtain ⟨h1,_⟩:=okB_iff.1 ho; simp at c; omega
 ·refine no ?_
  rw [wrapM hl] at c
  cases ho:okB b a m with
  | false=>rfl
  | true=>obtain ⟨_,h1,_⟩:=okB_iff.1 ho; simp at c; omega
 ·refine no ?_
  cases ho:okB b a m with
  | false=>rfl
  | true=>obtain ⟨_,_,h1,_⟩:=okB_iff.1 ho; simp at c; omega
 ·refine no ?_
  rw [checkA_ne] at c
  cases ho:okB b a m with
  | false=>rfl
  | true=>obtain ⟨_,_,_,h1,_⟩:=okB_iff.1 ho; rw [h1] at c; cases c
 ·refine no ?_
  unfold okB
  simp only [Bool.not_eq_true'] at c
  rw [c]; simp
 ·rw [wrapM hl] at c2
  rw [checkA_ne] at c4
  simp only [Bool.not_eq_false',Bool.and_eq_true,decide_eq_true_eq,decide_eq_false_iff_not] at c1 c2 c3 c4 c5
  have:okB b a m=true:=okB_iff.2 ⟨c1,c2,by omega,c4,fun n hn=>by
   have:=List.all_eq_true.1 c5 n hn; unfold hasA at this; simpa using this⟩
  unfold checkB; rw [this]; rfl
theorem reset_ev {raw:Buf→Buf→Prop} (hr:raw=buffer_Reset_raw) (b:Buf):raw b (resetB b):=by
 subst hr
 refine ⟨fun c=>?_,fun c=>?_⟩ <;> unfold resetB <;> rw [c]
 ·rfl
 ·simp only [Bool.or_eq_false_iff,decide_eq_false_iff_not] at c
  rw [wrap64 (by omega) (by omega)]; rfl
theorem bufReset_ev (b:Buf):buffer_Reset_raw b (resetB b):=reset_ev rfl b
theorem bufMend_evC (b:Buf) (a:Arena) (m:Int) (hb:smC b) (ha:sma a):buffer_Mend_raw b a m (mendB b a m) :=
 ⟨_,bufCheck_evC b a m hb ha,fun c=>by rw [checkB_eq] at c; unfold mendB; rw [c]; rfl,fun c=>⟨_,bufReset_ev b,by rw [checkB_eq] at c; unfold mendB; rw [c]; rfl⟩⟩
theorem bufMend_ev (b:Buf) (a:Arena) (m:Int) (hb:smB b) (ha:sma a):buffer_Mend_raw b a m (mendB b a m):=bufMend_evC b a m (smB_smC hb) ha
theorem cloneN_ev (l:List Nm) (h:l.length≤1000000):slices_Clone_Name_raw l l:=⟨fun h=>h,by simp only [List.length_nil]; omega,rfl⟩
theorem cutL_drop {T:Type} (l:List T) (i:Int):cutL l i (l.length:Int)=l.drop i.toNat:=by simp [cutL]
def smN (b:Buf):Prop:=b.names.length≤100000
theorem smN_smB {b:Buf} (h:smN b):smB b:=Nat.le_trans (m:=100000) h (by decide)
theorem bufNote_ev (b:Buf) (a:Arena) (m:Int) (e:Ent) (hb:smN b) (ha:sma a):buffer_Note_raw b a m e (noteB b a m e):=by
 obtain ⟨h1,h2,h3,_⟩:=mendB_bound b a m
 have hl:b.names.length≤100000:=hb
 refine ⟨_,bufMend_ev b a m (smN_smB hb) ha,_,⟨ha,fun c=>?_,fun c=>⟨_,cloneN_ev _ (by omega),by omega,fun c2=>⟨⟨by omega,by simp; omega,Int.le_refl _⟩,_,bufMend_ev _ a m ?_ ha,?_⟩,fun c2=>⟨_,bufMend_ev _ a m ?_ ha,?_⟩⟩⟩,rfl⟩
 ·unfold noteB noteM; rw [c]; rfl
 ·show (cutL _ _ _).length≤1000000
  rw [cutL_drop]; simp; omega
 ·unfold noteB noteM
  rw [c,c2,wrap64 (by omega) (by omega),cutL_drop]; rfl
 ·show (_++[_]).length≤1000000
  simp; omega
 ·unfold noteB noteM
  rw [c,c2]; rfl
theorem bufAck_ev (b:Buf) (a:Arena) (m ep up:Int) (hb:smB b) (ha:sma a):buffer_Ack_raw b a m ep up (ackB b a m ep up):=by
 obtain ⟨h1,h2,h3,_⟩:=mendB_bound b a m
 have hl:b.names.length≤1000000:=hb
 have hw:IntKind.i64.wrap ((mendB b a m).first + ((mendB b a m).names.length:Int))=(mendB b a m).first + ((mendB b a m).names.length:Int):=wrap64 (by omega) (by omega)
 refine ⟨_,bufMend_ev b a m hb ha,_,⟨fun c=>?_,fun c=>?_⟩,rfl⟩
 ·rw [hw] at c
  have c':=c
  simp only [Bool.and_eq_true,decide_eq_true_eq] at c'
  rw [wrap64 (n:=up - (mendB b a m).first) (by omega) (by omega),cutL_drop]
  refine ⟨⟨by omega,by omega,Int.le_refl _⟩,_,cloneN_ev _ (by simp; omega),?_⟩
  unfold ackB ackM; rw [c]; rfl
 ·rw [hw] at c
  unfold ackB ackM; rw [c]; rfl
theorem mend_slot {b:Buf} {a:Arena} {m:Int} {n:Nm} (hn:n∈(mendB b a m).names):0≤findA a n.kind n.key∧findA a n.kind n.key<(a.slots.length:Int):=by
 have h:=(mendB_names n hn).2
 rcases find_lt (a:=a) n.kind n.key with h2 | h2 <;> omega
theorem bufSome_ev (b:Buf) (a:Arena) (m n:Int) (hb:smB b) (ha:sma a):buffer_Some_raw b a m n (someB b a m n):=by
 obtain ⟨h1,_⟩:=mendB_bound b a m
 have hl:b.names.length≤1000000:=hb
 refine ⟨_,bufMend_ev b a m hb ha,by omega,?_⟩
 have hm:∀ x∈(mendB b a m).names,0≤findA a x.kind x.key∧findA a x.kind x.key<(a.slots.length:Int):=fun x hx=>mend_slot hx
 unfold someB
 generalize mendB b a m=c at *
 have key:∀ (l:List Nm) (acc:List Ent),(∀ x∈l,x∈c.names)→acc.length + l.length≤1000000→ItR (buffer_Some_b50 a) acc l (.inl (acc++l.map fun x=>nth a.slots (findA a x.kind x.key))):=by
  intro l
  induction l with
  | nil=>intro acc _ _; simp; exact .nil
  | cons x l ih =>
   intro acc hs hlen
   simp only [List.length_cons] at hlen
   have:=ih (acc++[nth a.slots (findA a x.kind x.key)]) (fun y hy=>hs y (List.mem_cons_of_mem _ hy)) (by simp; omega)
   simp only [List.append_assoc,List.singleton_append] at this
   exact .step ⟨ha,hm x (hs x (List.mem_cons_self)),by omega,rfl⟩ this
 refine ⟨_,key _ [] (fun x hx=>List.mem_of_mem_take hx) (by simp only [List.length_nil,List.length_take]; omega),fun s e=>?_,fun _ e=>by cases e⟩
 cases e; simp
theorem fewB_ev (b:Buf):law16_Few_raw b (fewB b):=by
 have hc:∀ i,(decide (((nth b.names (i:Int)).key.length:Int)≤100))=!(decide ((100:Int)<((nth b.names (i:Int)).key.length:Int))):=fun i=>by
  rw [Bool.eq_iff_iff]; simp
 obtain ⟨x,hx,h2⟩:=loop_scan (body:=law16_Few_b6 b) (min b.names.length 21) (fun i=>decide (((nth b.names (i:Int)).key.length:Int)≤100)) (fun _=>false)
  (fun i hi hp=>by
   have e1:(decide ((i:Int)<(b.names.length:Int))&&decide ((i:Int)≤20))=true:=by simp; omega
   rw [hc] at hp
   refine ⟨fun _=>⟨⟨by omega,by omega⟩,fun h=>(by rw [h] at hp; cases hp),fun _=>by rw [wrapS (n:=22) (by omega) (by decide)]⟩,fun h=>by rw [e1] at h; cases h⟩)
  (fun i hi hp=>by
   have e1:(decide ((i:Int)<(b.names.length:Int))&&decide ((i:Int)≤20))=true:=by simp; omega
   rw [hc] at hp
   refine ⟨fun _=>⟨⟨by omega,by omega⟩,fun h=>rfl,fun h=>(by rw [h] at hp; cases hp)⟩,fun h=>by rw [e1] at h; cases h⟩)
  ⟨fun h=>by simp at h; omega,fun _=>rfl⟩
 refine ⟨x,hx,fun s e=>?_,fun y e=>?_⟩
 ·rcases h2 with ⟨_,h3⟩ | ⟨i,_,_,_,h6⟩
  ·unfold fewB
   by_cases hle:(b.names.length:Int)≤20
   ·have:(b.names.all fun n=>decide ((n.key.length:Int)≤100))=true:=by
     rw [List.all_eq_true]
     intro n hn
     obtain ⟨i,hi,rfl⟩:=List.getElem_of_mem hn
     have:=h3 i (by omega)
     rw [nth_nat] at this
     simpa [hi] using this
    rw [this,Bool.and_true]
   ·have:decide ((b.names.length:Int)≤20)=false:=by simpa using hle
    rw [this]; rfl
  ·rw [e] at h6; cases h6
 ·rcases h2 with ⟨h3,_⟩ | ⟨i,hi,h4,_,h6⟩
  ·rw [e] at h3; cases h3
  ·rw [e] at h6; cases h6
   have hil:i<b.names.length:=by omega
   have:(b.names.all fun n=>decide ((n.key.length:Int)≤100))=false:=by
    rw [List.all_eq_false]
    exact ⟨_,getD_mem' hil,by rw [nth_nat] at h4; rw [h4]; simp⟩
   unfold fewB; rw [this,Bool.and_false]
theorem fewB_len {b:Buf} (h:fewB b=true):b.names.length≤20:=by
 unfold fewB at h
 have:=andL h
 simp only [decide_eq_true_eq] at this; omega
theorem fewB_smN {b:Buf} (h:fewB b=true):smN b:=Nat.le_trans (m:=20) (fewB_len h) (by decide)
theorem fewB_smB {b:Buf} (h:fewB b=true):smB b:=smN_smB (fewB_smN h)
end Go.Proofs.Ythfkbabgkacfnaa
