/- Entries in the order of their names: sorted places; the evaluations of arena's first functions. -/
import Derived.Test.YthifkdgljapmeaaEs
import Derived.Test.YthifkdgljapmeaaEc
namespace Go.Proofs.Ythifkdgljapmeaa
open Go Go.RowKit
set_option linter.unusedVariables false
set_option linter.unusedSimpArgs false

theorem loop_run {S R:Type} {body:S→S ⊕ R→Prop} (m:S→Nat) (Inv:S→Prop) (Pq:R→Prop)
  (step:∀ s,Inv s→(∃ s',body s (.inl s')∧Inv s'∧m s'<m s)∨(∃ x,body s (.inr x)∧Pq x)) (s:S) (h:Inv s):∃ x,LoopR body s x∧Pq x:=by
 have key:∀ n s,m s<n→Inv s→∃ x,LoopR body s x∧Pq x:=by
  intro n
  induction n with
  | zero=>intro s hm; omega
  | succ n ih =>
   intro s hm hi
   rcases step s hi with ⟨s',hb,hi',hm'⟩ | ⟨x,hb,hp⟩
   ·obtain ⟨x,hl,hp⟩:=ih s' (by omega) hi'; exact ⟨x,.step hb hl,hp⟩
   ·exact ⟨x,.done hb,hp⟩
 exact key _ s (Nat.lt_succ_self _) h

/-! ### names in order -/
def ltN (a b:Ent):Prop:=a.val.kind<b.val.kind∨(a.val.kind=b.val.kind∧a.key<b.key)
theorem lessE_iff {a b:Ent}:lessE a b=true↔ltN a b:=by
 unfold lessE ltN
 by_cases h:a.val.kind=b.val.kind
 ·have:(a.val.kind != b.val.kind)=false:=by simp [h]
  rw [this,cond_false,lt_str]; simp [h]
 ·have:(a.val.kind != b.val.kind)=true:=by simp [h]
  rw [this,cond_true]; simp [h]
theorem lessE_no {a b:Ent}:lessE a b=false↔¬ ltN a b:=by rw [← lessE_iff]; simp
theorem nameE_iff {a b:Ent}:nameE a b=true↔a.val.kind=b.val.kind∧a.key=b.key:=by unfold nameE; simp
theorem nameE_no {a b:Ent}:nameE a b=false↔¬ (a.val.kind=b.val.kind∧a.key=b.key):=by rw [← nameE_iff]; simp
theorem ltN_irr (a:Ent):¬ ltN a a:=by
 rintro (h | ⟨_,h⟩)
 ·omega
 ·exact List.lt_irrefl _ h
theorem ltN_trans {a b c:Ent} (h:ltN a b) (k:ltN b c):ltN a c:=by
 rcases h with h | ⟨h1,h2⟩ <;> rcases k with k | ⟨k1,k2⟩
 ·exact .inl (by omega)
 ·exact .inl (by omega)
 ·exact .inl (by omega)
 ·exact .inr ⟨by omega,List.lt_trans h2 k2⟩
theorem ltN_tri {a b:Ent} (h:¬ ltN a b) (k:¬ ltN b a):a.val.kind=b.val.kind∧a.key=b.key:=by
 have h1:a.val.kind=b.val.kind:=by
  have h2:¬ a.val.kind<b.val.kind:=fun e=>h (.inl e)
  have h3:¬ b.val.kind<a.val.kind:=fun e=>k (.inl e)
  omega
 refine ⟨h1,?_⟩
 have h2:¬ a.key<b.key:=fun e=>h (.inr ⟨h1,e⟩)
 have h3:¬ b.key<a.key:=fun e=>k (.inr ⟨h1.symm,e⟩)
 exact List.le_antisymm (List.not_lt.1 h3) (List.not_lt.1 h2)
theorem ltN_name {a b c:Ent} (h:a.val.kind=b.val.kind∧a.key=b.key):(ltN a c↔ltN b c)∧(ltN c a↔ltN c b):=by
 unfold ltN; rw [h.1,h.2]; exact ⟨Iff.rfl,Iff.rfl⟩
theorem ltN_asymm {a b:Ent} (h:ltN a b):¬ ltN b a:=fun k=>ltN_irr _ (ltN_trans h k)
theorem geN_trans {a b c:Ent} (h:¬ ltN b a) (k:¬ ltN c b):¬ ltN c a:=fun e=>by
 by_cases h1:ltN b c
 ·exact h (ltN_trans h1 e)
 ·exact h ((ltN_name (ltN_tri k h1)).1.1 e)
/-! ### sorted places -/
def idR (n:Nat):List Int:=(List.range n).map fun i:Nat=>(i:Int)
theorem idR_length (n:Nat):(idR n).length=n:=by simp [idR]
theorem idR_mem {n:Nat} {i:Int}:i∈idR n↔0≤i∧i<n:=by
 simp only [idR,List.mem_map,List.mem_range]
 constructor
 ·rintro ⟨k,hk,rfl⟩; omega
 ·intro h; exact ⟨i.toNat,by omega,by omega⟩
theorem idR_succ (n:Nat):idR (n + 1)=idR n++[(n:Int)]:=by simp [idR,List.range_succ]
def leP (d:List Ent) (i j:Int):Prop:=¬ ltN (nth d j) (nth d i)
def Srt (d:List Ent) (p:List Int):Prop:=p.Pairwise (leP d)
/-- No two of one name. -/
def Dist (d : List Ent) : Prop := ∀ i k : Nat, k < i → i < d.length → nameE (d.getD i default) (d.getD k default) = false
theorem dist_ne {d:List Ent} (h:Dist d) {i j:Int} (hi:i∈idR d.length) (hj:j∈idR d.length) (he:(nth d i).val.kind=(nth d j).val.kind∧(nth d i).key=(nth d j).key):i=j:=by
 rw [idR_mem] at hi hj
 rcases Int.lt_trichotomy i j with hl | hl | hl
 ·have:=h j.toNat i.toNat (by omega) (by omega)
  rw [nameE_no] at this
  exact absurd ⟨he.1.symm,he.2.symm⟩ this
 ·exact hl
 ·have:=h i.toNat j.toNat (by omega) (by omega)
  rw [nameE_no] at this
  exact absurd he this
theorem srt_one {d:List Ent} (hd:Dist d) {p q:List Int} (hp:p.Perm (idR d.length)) (hq:q.Perm (idR d.length)) (sp:Srt d p) (sq:Srt d q):p=q :=
 List.Perm.eq_of_pairwise (le:=leP d) (fun a b ha hb h1 h2=>dist_ne hd (hp.mem_iff.1 ha) (hq.mem_iff.1 hb) (ltN_tri h2 h1)) sp sq (hp.trans hq.symm)
def insI (d:List Ent) (i:Int):List Int→List Int
 | []=>[i]
 | j::l=>bif lessE (nth d j) (nth d i) then j::insI d i l else i::j::l
def srtI (d:List Ent):List Int→List Int
 | []=>[]
 | i::l=>insI d i (srtI d l)
def idxR (d:List Ent):List Int:=srtI d (idR d.length)
theorem insI_perm (d:List Ent) (i:Int):∀ l,(insI d i l).Perm (i::l)
 | []=>List.Perm.refl _
 | j::l=>by
  unfold insI
  cases lessE (nth d j) (nth d i) with
  | true=>exact ((insI_perm d i l).cons j).trans (List.Perm.swap _ _ _)
  | false=>exact List.Perm.refl _
theorem insI_srt {d:List Ent} {i:Int}:∀ {l:List Int},Srt d l→Srt d (insI d i l)
 | [],_=>by simp [insI,Srt]
 | j::l,h=>by
  unfold insI
  have h':=List.pairwise_cons.1 h
  cases hl:lessE (nth d j) (nth d i) with
  | true =>
   refine List.pairwise_cons.2 ⟨fun x hx=>?_,insI_srt h'.2⟩
   rcases List.mem_cons.1 ((insI_perm d i l).mem_iff.1 hx) with rfl | hx
   ·exact ltN_asymm (lessE_iff.1 hl)
   ·exact h'.1 x hx
  | false =>
   refine List.pairwise_cons.2 ⟨fun x hx=>?_,h⟩
   have hji:leP d i j:=lessE_no.1 hl
   rcases List.mem_cons.1 hx with rfl | hx
   ·exact hji
   ·exact geN_trans hji (h'.1 x hx)
theorem srtI_perm (d:List Ent):∀ l,(srtI d l).Perm l
 | []=>List.Perm.refl _
 | i::l=>(insI_perm d i _).trans ((srtI_perm d l).cons i)
theorem srtI_srt (d:List Ent):∀ l,Srt d (srtI d l)
 | []=>List.Pairwise.nil
 | i::l=>insI_srt (srtI_srt d l)
theorem idxR_perm (d:List Ent):(idxR d).Perm (idR d.length):=srtI_perm d _
theorem idxR_srt (d:List Ent):Srt d (idxR d):=srtI_srt d _
theorem idxR_length (d:List Ent):(idxR d).length=d.length:=by rw [(idxR_perm d).length_eq,idR_length]
theorem idxR_eq {d:List Ent} (hd:Dist d) {p:List Int} (hp:p.Perm (idR d.length)) (sp:Srt d p):p=idxR d:=srt_one hd hp (idxR_perm d) sp (idxR_srt d)
theorem getD_mem' {T:Type} [Inhabited T] {l:List T} {i:Nat} (h:i<l.length):l.getD i default∈l:=by simp [h]
theorem srt_ins {d:List Ent} {A B:List Int} {x:Int} (h:Srt d (A++B)) (hA:∀ a∈A,leP d a x) (hB:∀ b∈B,leP d x b):Srt d (A++x::B):=by
 unfold Srt at *
 rw [List.pairwise_append] at h ⊢
 refine ⟨h.1,List.pairwise_cons.2 ⟨hB,h.2.1⟩,fun a ha b hb=>?_⟩
 rcases List.mem_cons.1 hb with rfl | hb
 ·exact hA a ha
 ·exact h.2.2 a ha b hb

def slotsB (d:List Ent):Bool:=(List.range d.length).all fun i=>okE (d.getD i default)&&(List.range i).all fun k=>!nameE (d.getD i default) (d.getD k default)
theorem slotsB_iff {d:List Ent}:slotsB d=true↔(∀ e∈d,okE e=true)∧Dist d:=by
 simp only [slotsB,List.all_eq_true,List.mem_range,Bool.and_eq_true,Bool.not_eq_true']
 constructor
 ·intro h
  refine ⟨fun e he=>?_,fun i k hk hi=>(h i hi).2 k hk⟩
  obtain ⟨i,hi,rfl⟩:=List.getElem_of_mem he
  simpa [hi] using (h i hi).1
 ·rintro ⟨h1,h2⟩ i hi
  exact ⟨h1 _ (getD_mem hi),fun k hk=>h2 i k hk hi⟩
def eqInts (a b:List Int):Bool:=a==b
theorem eqI_nth {a b:List Int} (hl:a.length=b.length) (h:∀ i,i<a.length→(a.getD i default==b.getD i default)=true):eqInts a b=true:=by
 have:a=b:=by
  apply List.ext_getElem hl
  intro i h1 h2
  have:=h i h1
  simpa [h1,h2] using this
 subst this; simp [eqInts]
theorem eqI_no {a b:List Int} {i:Nat} (h:(a.getD i default==b.getD i default)=false):eqInts a b=false:=by
 cases hc:eqInts a b with
 | false=>rfl
 | true =>
  have:a=b:=by simpa [eqInts] using hc
  subst this; simp at h
theorem eqI_len {a b:List Int} (h:¬ ((a.length:Int)=b.length)):eqInts a b=false:=by
 cases hc:eqInts a b with
 | false=>rfl
 | true =>
  have:a=b:=by simpa [eqInts] using hc
  subst this; simp at h
theorem slEqual_ev (a b:List Int) (ha:a.length≤9223372036854775807):slices_Equal_int_raw a b (eqInts a b):=by
 refine ⟨fun h=>eqI_len (by simpa using h),fun h=>?_⟩
 have hl:a.length=b.length:=by
  have:¬ (a.length:Int)≠b.length:=by simpa using h
  omega
 obtain ⟨x,hx,h2⟩:=loop_scan (body:=slices_Equal_int_b2 a b) a.length (fun i=>a.getD i default==b.getD i default) (fun _=>false)
  (fun i hi hp=>by
   rw [beq_iff_eq] at hp
   refine ⟨fun _=>?_,fun h=>by simp at h; omega⟩
   simp only [nth_nat,hp,wrapS hi (show a.length≤9223372036854775807 by omega)]
   refine ⟨⟨by omega,by omega⟩,⟨by omega,by omega⟩,?_⟩
   simp)
  (fun i hi hp=>by
   refine ⟨fun _=>?_,fun h=>by simp at h; omega⟩
   simp only [nth_nat]
   refine ⟨⟨by omega,by omega⟩,⟨by omega,by omega⟩,?_⟩
   simpa using hp)
  ⟨fun h=>by simp at h,fun _=>rfl⟩
 refine ⟨x,hx,fun s e=>?_,fun y e=>?_⟩
 ·rcases h2 with ⟨_,h3⟩ | ⟨i,_,_,_,h6⟩
  ·exact eqI_nth hl h3
  ·rw [e] at h6; cases h6
 ·rcases h2 with ⟨h3,_⟩ | ⟨i,_,h4,_,h6⟩
  ·rw [e] at h3; cases h3
  ·rw [e] at h6; cases h6; exact eqI_no h4
/-! ### of arena itself -/
def newA (n:Int):Arena × Int:=bif decide (n<1)||decide (8<n) then (⟨0,[],[]⟩,1) else (⟨n,[],[]⟩,0)
theorem arNew_ev (n:Int):arena_New_raw n (newA n):=⟨fun h=>by unfold newA; rw [h]; rfl,fun h=>by unfold newA; rw [h]; rfl⟩
theorem checkE_odd (e:Ent):(checkE e != 0)=!okE e:=checkE_ne e
def oddE (d:List Ent):Bool:=!d.all okE
theorem odd_ev (d:List Ent) (h:sml d) (hd:d.length≤100):slices_ContainsFunc_Entry_Check_1_raw d (oddE d):=by
 obtain ⟨x,hx,h2⟩:=loop_scan (body:=slices_IndexFunc_Entry_Check_1_b1 d) d.length (fun i=>okE (d.getD i default)) (fun i=>(i:Int))
  (fun i hi hp=>⟨fun _=>⟨⟨by omega,by omega⟩,_,⟨h.2 _ (by rw [nth_nat]; exact getD_mem hi),rfl⟩,fun e=>(by rw [nth_nat,checkE_odd,hp] at e; cases e),fun e=>by rw [wrapS hi (by omega)]⟩,fun h=>by simp at h; omega⟩)
  (fun i hi hp=>⟨fun _=>⟨⟨by omega,by omega⟩,_,⟨h.2 _ (by rw [nth_nat]; exact getD_mem hi),rfl⟩,fun e=>rfl,fun e=>(by rw [nth_nat,checkE_odd,hp] at e; cases e)⟩,fun h=>by simp at h; omega⟩)
  ⟨fun h=>by simp at h,fun _=>rfl⟩
 rcases h2 with ⟨h3,h4⟩ | ⟨i,hi,h4,_,h6⟩
 ·refine ⟨(-1:Int),⟨x,hx,fun _ _=>rfl,fun y e=>?_⟩,?_⟩
  ·rw [e] at h3; cases h3
  ·have:d.all okE=true:=by
    rw [List.all_eq_true]; intro e he
    obtain ⟨i,hi,rfl⟩:=List.getElem_of_mem he
    have:=h4 i hi; simpa [hi] using this
   unfold oddE; rw [this]; rfl
 ·refine ⟨(i:Int),⟨x,hx,fun s e=>?_,fun y e=>?_⟩,?_⟩
  ·rw [e] at h6; cases h6
  ·rw [e] at h6; cases h6; rfl
  ·have:d.all okE=false:=by rw [List.all_eq_false]; exact ⟨_,getD_mem hi,by simpa using h4⟩
   unfold oddE; rw [this]; simp
def idE (d:List Ent):List Ent:=d
theorem cloneE_ev (d:List Ent) (hd:d.length≤1000):slices_Clone_Entry_raw d (idE d):=by
 refine ⟨fun h=>h,by simp only [List.length_nil]; omega,rfl⟩
theorem eqFunc_ev (a b:List Ent) (ha:sml a):slices_EqualFunc_Entry_Same_raw a b (allE a b):=by
 refine ⟨fun h=>allE_len (fun e=>by simp [e] at h),fun h=>?_⟩
 have hl:a.length=b.length:=by
  have:¬ (a.length:Int)≠b.length:=by simpa using h
  omega
 have hla:=ha.1
 obtain ⟨x,hx,h2⟩:=loop_scan (body:=slices_EqualFunc_Entry_Same_b2 a b) a.length (fun i=>sameE (a.getD i default) (b.getD i default)) (fun _=>false)
  (fun i hi hp=>⟨fun _=>⟨⟨by omega,by omega⟩,⟨by omega,by omega⟩,ha.2 _ (by rw [nth_nat]; exact getD_mem hi),fun h=>(by rw [nth_nat,nth_nat,hp] at h; cases h),fun _=>by rw [wrapS hi (by omega)]⟩,fun h=>by simp at h; omega⟩)
  (fun i hi hp=>⟨fun _=>⟨⟨by omega,by omega⟩,⟨by omega,by omega⟩,ha.2 _ (by rw [nth_nat]; exact getD_mem hi),fun _=>rfl,fun h=>(by rw [nth_nat,nth_nat,hp] at h; cases h)⟩,fun h=>by simp at h; omega⟩)
  ⟨fun h=>by simp at h,fun _=>rfl⟩
 refine ⟨x,hx,fun s e=>?_,fun y e=>?_⟩
 ·rcases h2 with ⟨_,h3⟩ | ⟨i,_,_,_,h6⟩
  ·exact allE_nth hl h3
  ·rw [e] at h6; cases h6
 ·rcases h2 with ⟨h3,_⟩ | ⟨i,_,h4,_,h6⟩
  ·rw [e] at h3; cases h3
  ·rw [e] at h6; cases h6; exact allE_no h4
theorem nth_mid {T:Type} [Inhabited T] (A B:List T) (x:T):nth (A++x::B) (A.length:Int)=x:=by
 rw [nth_nat]; simp
theorem cmp_ev {d:List Ent} {i j:Int} (hi:i∈idR d.length) (hj:j∈idR d.length):arena_index_1_raw i j d (bif lessE (nth d i) (nth d j) then -1 else bif lessE (nth d j) (nth d i) then 1 else 0):=by
 rw [idR_mem] at hi hj
 refine ⟨hi,hj,fun h=>by rw [h]; rfl,fun h=>⟨hj,hi,fun k=>by rw [h,k]; rfl,fun k=>by rw [h,k]; rfl⟩⟩
theorem arIndex_ex (d:List Ent) (hd:d.length≤19):∃ p,arena_index_raw d p∧p.Perm (idR d.length)∧Srt d p:=by
 have hrep:(List.replicate ((d.length:Int)).toNat (0:Int)).length=d.length:=by simp
 -- it is filled
 have fill:LoopR (arena_index_b12 d) ((0:Int),List.replicate ((d.length:Int)).toNat (0:Int)) ((d.length:Int),idR d.length):=by
  have:=loop_fold (body:=arena_index_b12 d) d.length (fun i=>((i:Int),idR i++List.replicate (d.length - i) (0:Int))) (fun i hi=>?_) ?_
  ·simpa [idR] using this
  ·refine ⟨fun _=>⟨⟨by simp,by simp [idR]; omega⟩,?_⟩,fun h=>by rw [hrep] at h; simp at h; omega⟩
   simp only [wrapS hi (show d.length≤9223372036854775807 by omega),idR_succ,Int.toNat_natCast]
   congr 2
   obtain ⟨m,hm⟩:∃ m,d.length - i=m + 1:=⟨d.length - i - 1,by omega⟩
   rw [hm,show d.length - (i + 1)=m by omega,List.replicate_succ,List.set_append]
   simp [idR_length]
  ·exact ⟨fun h=>by rw [hrep] at h; simp at h,fun _=>by simp⟩
 -- an element finds its place
 have inner:∀ (k:Nat) (p:List Int),k<d.length→p.Perm (idR d.length)→Srt d (p.take k)→∃ x,LoopR (arena_index_b40 d) ((k:Int),p) x∧x.2.Perm (idR d.length)∧Srt d (x.2.take (k + 1)):=by
  intro k p hk hp hs
  have hpl:p.length=d.length:=by rw [hp.length_eq,idR_length]
  refine loop_run (fun s=>s.1.toNat) (fun s=>∃ (A B C:List Int) (x:Int),s=((A.length:Int),A++x::(B++C))∧A.length + B.length=k∧(A++x::(B++C)).Perm (idR d.length)∧Srt d (A++B)∧∀ b∈B,leP d x b) _ ?_ _ ?_
  ·rintro s ⟨A,B,C,x,rfl,hk',hp',hs',hB⟩
   have hmem:∀ z∈A++x::(B++C),z∈idR d.length:=fun z hz=>hp'.mem_iff.1 hz
   have hlen:(A++x::(B++C)).length=d.length:=by rw [hp'.length_eq,idR_length]
   have htake:(A++x::(B++C)).take (k + 1)=A++x::B:=by
    rw [← hk',show A.length + B.length + 1=A.length + (B.length + 1) by omega,List.take_length_add_append]
    simp
   rcases List.eq_nil_or_concat A with rfl | ⟨A',a,rfl⟩
   ·refine .inr ⟨_,⟨fun h=>by simp at h,fun _=>rfl⟩,hp',?_⟩
    rw [htake]
    exact srt_ins hs' (fun _ h=>by cases h) hB
   ·have e1:A'.concat a++x::(B++C)=A'++a::(x::(B++C)):=by simp
    have e2:((A'.concat a).length:Int)=((A'.length + 1:Nat):Int):=by simp
    have e3:IntKind.i64.wrap (((A'.length + 1:Nat):Int) - 1)=(A'.length:Int):=by
     have:A'.length + 1<1000:=by simp at hlen; omega
     rw [wrap64 (by omega) (by omega)]; omega
    have n1:nth (A'.concat a++x::(B++C)) ((A'.length + 1:Nat):Int)=x:=by rw [← e2]; exact nth_mid _ _ _
    have n2:nth (A'.concat a++x::(B++C)) (A'.length:Int)=a:=by rw [e1]; exact nth_mid _ _ _
    have l1:A'.length + 1<(A'.concat a++x::(B++C)).length:=by simp
    have hx:=hmem x (by simp)
    have ha:=hmem a (by simp)
    have hcmp:=cmp_ev hx ha
    cases hl:lessE (nth d x) (nth d a) with
    | true =>
     rw [hl] at hcmp
     refine .inl ⟨((A'.length:Int),A'++x::(([a]++B)++C)),⟨fun _=>?_,fun h=>by rw [e2] at h; simp at h⟩,⟨A',[a]++B,C,x,rfl,by simp at hk' ⊢; omega,?_,?_,?_⟩,by simp⟩
     ·simp only [e2,e3,n1,n2]
      refine ⟨⟨by omega,by omega⟩,⟨by omega,by omega⟩,_,hcmp,fun _=>⟨⟨by omega,by omega⟩,⟨by omega,by omega⟩,⟨by omega,by omega⟩,⟨by omega,by omega⟩,?_⟩,fun h=>by simp at h⟩
      congr 2
      rw [e1]
      simp [List.set_append]
     ·refine List.Perm.trans ?_ hp'
      rw [e1]
      exact List.Perm.append_left _ (List.Perm.swap _ _ _)
     ·simpa using hs'
     ·intro b hb
      rcases List.mem_append.1 hb with hb | hb
      ·rw [List.mem_singleton] at hb; subst hb; exact ltN_asymm (lessE_iff.1 hl)
      ·exact hB b hb
    | false =>
     rw [hl] at hcmp
     refine .inr ⟨_,⟨fun _=>?_,fun _=>rfl⟩,hp',?_⟩
     ·simp only [e2,e3,n1,n2]
      refine ⟨⟨by omega,by omega⟩,⟨by omega,by omega⟩,_,hcmp,fun h=>?_,fun h=>by simp⟩
      exfalso
      rw [cond_false] at h
      cases hl2:lessE (nth d a) (nth d x) <;> rw [hl2] at h <;> simp at h
     ·show Srt d ((A'.concat a++x::(B++C)).take (k + 1))
      rw [htake]
      refine srt_ins hs' (fun c hc=>?_) hB
      have hla:leP d a x:=lessE_no.1 hl
      have hc':c∈A'∨c=a:=by simpa using hc
      rcases hc' with hc' | rfl
      ·have h3:Srt d (A'++([a]++B)):=by simpa using hs'
       have h4:=(List.pairwise_append.1 h3).2.2 c hc' a (by simp)
       exact geN_trans h4 hla
      ·exact hla
  ·have hlt:k<p.length:=by omega
   refine ⟨p.take k,[],p.drop (k + 1),p[k],?_,by simp; omega,?_,by simpa using hs,fun b hb=>by cases hb⟩
   ·have e:p.take k++p[k]::([]++p.drop (k + 1))=p:=by simp
    rw [e]; simp; omega
   ·have e:p.take k++p[k]::([]++p.drop (k + 1))=p:=by simp
    rw [e]; exact hp
 obtain ⟨x,hx,h1,h2⟩:=loop_run (body:=arena_index_b36 d) (fun s=>d.length + 1 - s.1.toNat) (fun s=>∃ k:Nat,s.1=(k:Int)∧s.2.Perm (idR d.length)∧Srt d (s.2.take k)) (fun x=>x.2.Perm (idR d.length)∧Srt d x.2) (by
  rintro ⟨s1,p⟩ ⟨k,e,hp,hs⟩
  simp only at e hp hs
  subst e
  by_cases hk:k<d.length
  ·obtain ⟨x,hx,h1,h2⟩:=inner k p hk hp hs
   refine .inl ⟨(((k + 1:Nat):Int),x.2),⟨fun _=>⟨x,hx,by rw [wrapS hk (by omega)]⟩,fun h=>by rw [hrep] at h; simp at h; omega⟩,⟨k + 1,rfl,h1,h2⟩,by simp; omega⟩
  ·refine .inr ⟨_,⟨fun h=>by rw [hrep] at h; simp at h; omega,fun _=>rfl⟩,hp,?_⟩
   rwa [List.take_of_length_le (by rw [hp.length_eq,idR_length]; omega)] at hs) ((1:Int),idR d.length) ⟨1,rfl,List.Perm.refl _,by
    unfold Srt
    cases h:idR d.length with
    | nil=>simp
    | cons a l=>simp⟩
 exact ⟨x.2,⟨⟨by omega,by omega,by omega⟩,_,fill,by rw [hrep]; simp; omega,x,hx,by rw [hrep]; simp; omega,rfl⟩,h1,h2⟩
theorem arIndex_ev (d:List Ent) (hD:slotsB d=true) (hd:d.length≤19):arena_index_raw d (idxR d):=by
 obtain ⟨p,h1,h2,h3⟩:=arIndex_ex d hd
 rw [← idxR_eq (slotsB_iff.1 hD).2 h2 h3]; exact h1
end Go.Proofs.Ythifkdgljapmeaa
