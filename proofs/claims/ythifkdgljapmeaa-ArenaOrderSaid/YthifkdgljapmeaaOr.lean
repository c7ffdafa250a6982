/- What a drawn region leaves that makes a slice of two others and merges it: ArenaOrder's. -/
import Derived.Test.YthifkdgljapmeaaEy
import Derived.Test.YthifkdgljapmeaaWa
namespace Go.Proofs.Ythifkdgljapmeaa
open Go Go.RowKit
set_option linter.unusedVariables false
set_option linter.unusedSimpArgs false

structure OP where
 W:World
 LX:List Nat
 csA:List Value
 A12:Option Addr
 c12:Nat
 M:List Ent
 Al:Option Addr
 cl:Nat
 l:List Ent
 X:Arena × Int × Int
abbrev og (γ:Option Nat × Nat):List Nat:=γ.1.toList
abbrev zArena:List Value:=[.int .i64 0,.slice none 0 0,.slice none 0 0]
def SO (p:OP) (γ:Option Nat × Nat):Nat→Value→World→Prop
 | 0,v,_=>v=.agg p.csA.toArray
 | 1,v,w=>∃ b,v=.slice (some ⟨b,0,none⟩) 0 0∧(γ.2=0→p.W.heap.size≤b∧Blk w b 42 [])
 | 2,v,_=>v=.slice p.A12 p.M.length p.c12
 | 3,v,w=>γ.2≤1→OwnS kEnt p.W.heap.size 42 (og γ++p.LX) w v p.M
 | 4,v,_=>v=.slice p.Al p.l.length p.cl
 | 5,v,w=>γ.2≤2→OwnS kEnt p.W.heap.size 42 (og γ++p.LX) w v (p.M++p.l)
 | 6,v,w=>∃ cs,v=.tuple #[.agg cs.toArray,.int .i64 p.X.2.1,.int .i64 p.X.2.2]∧Stb (og γ++p.LX) w (fun w=>kArena.r w cs p.X.1)
 | 7,v,w=>∃ cs,v=.tuple #[.agg cs.toArray,.int .i64 p.X.2.1,.int .i64 p.X.2.2]∧Stb (og γ++p.LX) w (fun w=>kArena.r w cs p.X.1)
 | 8,v,w=>∃ cs,v=.agg cs.toArray∧Stb (og γ++p.LX) w (fun w=>kArena.r w cs p.X.1)
 | 9,v,_=>v=.int .i64 p.X.2.1
 | 10,v,_=>v=.int .i64 p.X.2.2
 | 11,v,_=>∃ b,γ.1=some b∧v=.pointer (some ⟨b,0,none⟩)
 | 12,_,_=>True
 | 13,v,_=>v=.int .i64 p.X.2.1
 | 14,v,_=>v=.int .i64 p.X.2.2
 | _ + 15,_,_=>True
def IO (p:OP) (γ:Option Nat × Nat) (k:Nat) (w:World):Prop :=
 γ.2=k∧∀ b,γ.1=some b→p.W.heap.size≤b∧b<w.heap.size∧(k≤2→Blk w b 25 zArena) ∧
  (k=3→∃ A1 c1 A2 c2,Blk w b 25 (cArena p.X.1 A1 c1 A2 c2)∧Stb (b::p.LX) w (fun w=>SlC kEnt w A1 c1 p.X.1.slots)∧Stb (b::p.LX) w (fun w=>SlC (kI .i64) w A2 c2 p.X.1.idx))
section
variable {p : OP} {γ : Option Nat × Nat} {v : Value} {w w' : World}
theorem SO_ex (f:Ext w w'):∀ i,SO p γ i v w→SO p γ i v w'
 | 0,h=>h
 | 1,⟨b,e,h⟩=>⟨b,e,fun h0=>⟨(h h0).1,(h h0).2.ex f⟩⟩
 | 2,h=>h
 | 3,h=>fun h0=>(h h0).ex f
 | 4,h=>h
 | 5,h=>fun h0=>(h h0).ex f
 | 6,⟨cs,e,h⟩=>⟨cs,e,h.ex f⟩
 | 7,⟨cs,e,h⟩=>⟨cs,e,h.ex f⟩
 | 8,⟨cs,e,h⟩=>⟨cs,e,h.ex f⟩
 | 9,h=>h
 | 10,h=>h
 | 11,h=>h
 | 12,_=>trivial
 | 13,h=>h
 | 14,h=>h
 | _ + 15,_=>trivial
theorem IO_ex {k:Nat} (f:Ext w w') (h:IO p γ k w):IO p γ k w' :=
 ⟨h.1,fun b hb=>by
  obtain ⟨h1,h2,h3,h4⟩:=h.2 b hb
  refine ⟨h1,Nat.lt_of_lt_of_le h2 f.size,fun hk=>(h3 hk).ex f,fun hk=>?_⟩
  obtain ⟨A1,c1,A2,c2,q1,q2,q3⟩:=h4 hk
  exact ⟨A1,c1,A2,c2,q1.ex f,q2.ex f,q3.ex f⟩⟩
/-- A new block, named from then on. -/
theorem SO_born {b : Nat} (hg : γ.1 = none) (f : Ext w w') (h1 : w.heap.size ≤ b) (h2 : b < w'.heap.size) : ∀ i, i ≠ 11 → SO p γ i v w → SO p (some b, γ.2) i v w'
  | 0, _, h => h
  | 1, _, ⟨b, e, h⟩ => ⟨b, e, fun h0 => ⟨(h h0).1, (h h0).2.ex f⟩⟩
  | 2, _, h => h
  | 3, _, h => fun h0 => by have := h h0; simp only [og, hg, Option.toList_none, List.nil_append] at this; exact this.born f h1 h2
  | 4, _, h => h
  | 5, _, h => fun h0 => by have := h h0; simp only [og, hg, Option.toList_none, List.nil_append] at this; exact this.born f h1 h2
  | 6, _, ⟨cs, e, h⟩ => ⟨cs, e, by
      simp only [og, hg, Option.toList_none, List.nil_append] at h
      exact h.up f (fun _ hm => by cases hm) (fun m hm => (List.mem_cons.1 hm).elim (fun e => .inr (by rw [e]; exact h1)) .inl)⟩
  | 7, _, ⟨cs, e, h⟩ => ⟨cs, e, by
      simp only [og, hg, Option.toList_none, List.nil_append] at h
      exact h.up f (fun _ hm => by cases hm) (fun m hm => (List.mem_cons.1 hm).elim (fun e => .inr (by rw [e]; exact h1)) .inl)⟩
  | 8, _, ⟨cs, e, h⟩ => ⟨cs, e, by
      simp only [og, hg, Option.toList_none, List.nil_append] at h
      exact h.up f (fun _ hm => by cases hm) (fun m hm => (List.mem_cons.1 hm).elim (fun e => .inr (by rw [e]; exact h1)) .inl)⟩
  | 9, _, h => h
  | 10, _, h => h
  | 11, hn, _ => absurd rfl hn
  | 12, _, _ => trivial
  | 13, _, h => h
  | 14, _, h => h
  | _ + 15, _, _ => trivial
/-- The first of both slices is made. -/
theorem SO_3 : ∀ i, i ≠ 3 → i ≠ 5 → i ≠ 6 → i ≠ 7 → i ≠ 8 → SO p γ i v w → SO p (γ.1, 1) i v w'
  | 0, _, _, _, _, _, h => h
  | 1, _, _, _, _, _, ⟨b, e, h⟩ => ⟨b, e, fun h0 => by cases h0⟩
  | 2, _, _, _, _, _, h => h
  | 3, hn, _, _, _, _, _ => absurd rfl hn
  | 4, _, _, _, _, _, h => h
  | 5, _, hn, _, _, _, _ => absurd rfl hn
  | 6, _, _, hn, _, _, _ => absurd rfl hn
  | 7, _, _, _, hn, _, _ => absurd rfl hn
  | 8, _, _, _, _, hn, _ => absurd rfl hn
  | 9, _, _, _, _, _, h => h
  | 10, _, _, _, _, _, h => h
  | 11, _, _, _, _, _, h => h
  | 12, _, _, _, _, _, _ => trivial
  | 13, _, _, _, _, _, h => h
  | 14, _, _, _, _, _, h => h
  | _ + 15, _, _, _, _, _, _ => trivial
theorem SO_5:∀ i,i≠5→i≠6→i≠7→i≠8→SO p γ i v w→SO p (γ.1,2) i v w'
 | 0,_,_,_,_,h=>h
 | 1,_,_,_,_,⟨b,e,h⟩=>⟨b,e,fun h0=>by cases h0⟩
 | 2,_,_,_,_,h=>h
 | 3,_,_,_,_,_=>fun h0=>absurd h0 (by decide:¬ (2:Nat)≤1)
 | 4,_,_,_,_,h=>h
 | 5,hn,_,_,_,_=>absurd rfl hn
 | 6,_,hn,_,_,_=>absurd rfl hn
 | 7,_,_,hn,_,_=>absurd rfl hn
 | 8,_,_,_,hn,_=>absurd rfl hn
 | 9,_,_,_,_,h=>h
 | 10,_,_,_,_,h=>h
 | 11,_,_,_,_,h=>h
 | 12,_,_,_,_,_=>trivial
 | 13,_,_,_,_,h=>h
 | 14,_,_,_,_,h=>h
 | _ + 15,_,_,_,_,_=>trivial
theorem SO_12 {b:Nat} (hg:γ.1=some b) (F:Fr [b] w w'):∀ i,SO p γ i v w→SO p (γ.1,3) i v w'
 | 0,h=>h
 | 1,⟨b,e,h⟩=>⟨b,e,fun h0=>by cases h0⟩
 | 2,h=>h
 | 3,_=>fun h0=>absurd h0 (by decide:¬ (3:Nat)≤1)
 | 4,h=>h
 | 5,_=>fun h0=>absurd h0 (by decide:¬ (3:Nat)≤2)
 | 6,⟨cs,e,h⟩=>⟨cs,e,h.fr F (fun m hm=>by rw [List.mem_singleton] at hm; simp [og,hg,hm])⟩
 | 7,⟨cs,e,h⟩=>⟨cs,e,h.fr F (fun m hm=>by rw [List.mem_singleton] at hm; simp [og,hg,hm])⟩
 | 8,⟨cs,e,h⟩=>⟨cs,e,h.fr F (fun m hm=>by rw [List.mem_singleton] at hm; simp [og,hg,hm])⟩
 | 9,h=>h
 | 10,h=>h
 | 11,h=>h
 | 12,_=>trivial
 | 13,h=>h
 | 14,h=>h
 | _ + 15,_=>trivial
end
theorem blk_types {w:World} {b b':Nat} {cs cs':List Value} (h:Blk w b 42 cs) (h':Blk w b' 25 cs'):b≠b':=by
 rintro rfl
 unfold Blk at h h'
 rw [h] at h'
 simp at h'
theorem own_types {w:World} {b B:Nat} {L:List Nat} {v:Value} {l:List Ent} {cs:List Value} (h:OwnS kEnt B 42 L w v l) (h':Blk w b 25 cs):b∉own v:=by
 obtain ⟨_,_,_,xs,⟨_,h1⟩,_⟩:=h
 rcases h1 with ⟨rfl,_⟩ | ⟨g,cap,cur,rfl,_,hg,_⟩
 ·simp [own,Value.ownBlock]
 ·intro hm
  have:b=g:=by simpa [own,Value.ownBlock] using hm
  subst this
  unfold Blk at h'
  rw [hg] at h'
  simp at h'
theorem og_mem {γ:Option Nat × Nat} {m:Nat} (h:m∈og γ):γ.1=some m:=by simpa [og] using h
theorem og_lt {p:OP} {γ:Option Nat × Nat} {k:Nat} {w:World} (hI:IO p γ k w) (hL:Lt p.LX w):Lt (og γ++p.LX) w:=fun m hm=>(List.mem_append.1 hm).elim (fun h=>(hI.2 m (og_mem h)).2.1) (fun h=>hL m h)
theorem og_up {p:OP} {γ:Option Nat × Nat} {k:Nat} {w:World} (hI:IO p γ k w):∀ m∈og γ++p.LX,m∈p.LX∨p.W.heap.size≤m:=fun m hm=>(List.mem_append.1 hm).elim (fun h=>.inr (hI.2 m (og_mem h)).1) .inl
theorem lit_own {w:World} {b B:Nat} {L:List Nat} (hL:Lt L w) (hn:b∉L) (hB:B≤b) (hk:Blk w b 42 []):OwnS kEnt B 42 L w (.slice (some ⟨b,0,none⟩) 0 0) ([]:List Ent) :=
 ⟨by decide,fun m hm=>⟨hL m hm,fun h=>hn ((show m=b by simpa [own,Value.ownBlock] using h) ▸ hm)⟩,Nat.le_trans hB (Nat.le_of_lt hk.lt),[],⟨by simp,.inr ⟨b,0,#[],rfl,hB,hk,Nat.le_refl _,by simp [maxLen],by simp,by simp⟩⟩,fun _ _ i hi=>by simp at hi⟩
end Go.Proofs.Ythifkdgljapmeaa
