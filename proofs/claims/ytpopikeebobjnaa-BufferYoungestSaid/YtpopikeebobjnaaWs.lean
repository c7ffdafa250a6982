/- Slices that a call makes and grows. -/
import Derived.Test.YtpopikeebobjnaaWr
import Derived.Laws.OwnMore
namespace Go.Proofs.Ytpopikeebobjnaa
open Go Go.RowKit
set_option linter.unusedVariables false
set_option linter.unusedSimpArgs false

def own (v:Value):List Nat:=v.ownBlock.toList
def RowD {T:Type} [Inhabited T] (k:Kd T) (w:World) (xs:List Value) (l:List T):Prop :=
 ∀ i:Nat,i<l.length→k.r w ((xs.drop (i * k.n)).take k.n) (l.getD i default)
/-- v is a slice of this call's own (none of its cells lies below B), which holds l. -/
structure OwnS {T : Type} [Inhabited T] (k : Kd T) (B : Nat) (e : TypeId) (L : List Nat) (w : World) (v : Value) (l : List T) : Prop where
  pos : 0 < k.n
  below : ∀ m ∈ L, m < w.heap.size ∧ m ∉ own v
  base : B ≤ w.heap.size
  row : ∃ xs, w.ownsRow B e k.n v l.length xs ∧ Stb (own v ++ L) w (fun w => RowD k w xs l)

theorem ownsRow_same {w w':World} {base e n m:Nat} {v:Value} {xs:List Value} (h:w.ownsRow base e n v m xs) (hs:∀ g,v.ownBlock=some g→w'.heap[g]?=w.heap[g]?):w'.ownsRow base e n v m xs:=by
 obtain ⟨h1,h2⟩:=h
 refine ⟨h1,?_⟩
 rcases h2 with h2 | ⟨g,cap,cur,rfl,hg,hh,hr⟩
 ·exact .inl h2
 ·exact .inr ⟨g,cap,cur,rfl,hg,by rw [hs g rfl]; exact hh,hr⟩
theorem ownsRow_block {w:World} {base e n m:Nat} {v:Value} {xs:List Value} (h:w.ownsRow base e n v m xs) {g:Nat} (hg:v.ownBlock=some g):base≤g∧g<w.heap.size:=by
 rcases h.2 with ⟨rfl,_⟩ | ⟨g',cap,cur,rfl,hb,hh,_⟩
 ·cases hg
 ·obtain rfl:g'=g:=by simpa [Value.ownBlock] using hg
  exact ⟨hb,(Array.getElem?_eq_some_iff.1 hh).1⟩

section
variable {T : Type} [Inhabited T] {k : Kd T} {B e : Nat} {L : List Nat} {w w' : World} {v : Value} {l : List T}
theorem mem_own {g:Nat}:g∈own v↔v.ownBlock=some g:=by
 unfold own; cases v.ownBlock <;> simp [eq_comm]
theorem OwnS.fr {M:List Nat} (h:OwnS k B e L w v l) (f:Fr M w w') (hM:∀ m∈M,m∈L):OwnS k B e L w' v l:=by
 obtain ⟨hp,hb,hB,xs,h1,h2⟩:=h
 refine ⟨hp,fun m hm=>⟨Nat.lt_of_lt_of_le (hb m hm).1 f.size,(hb m hm).2⟩,Nat.le_trans hB f.size,xs,ownsRow_same h1 fun g hg=>?_,h2.fr f (fun m hm=>List.mem_append_right _ (hM m hm))⟩
 obtain ⟨h3,h4⟩:=ownsRow_block h1 hg
 exact f.block g h4 (fun hm=>(hb g (hM g hm)).2 (mem_own.2 hg))
theorem OwnS.ex (h:OwnS k B e L w v l) (f:Ext w w'):OwnS k B e L w' v l:=h.fr f (fun _ hm=>by cases hm)
theorem OwnS.nil (hp:0<k.n) (hL:Lt L w):OwnS k w.heap.size e L w (.slice none 0 0) [] :=
 ⟨hp,fun m hm=>⟨hL m hm,fun h=>by cases h⟩,Nat.le_refl _,[],⟨by simp,.inl ⟨rfl,rfl⟩⟩,fun _ _ i hi=>by simp at hi⟩
theorem OwnS.mono {B':Nat} (h:OwnS k B e L w v l) (hB:B'≤B) (hb:∀ m∈L,m<B'):OwnS k B' e L w v l:=by
 obtain ⟨hp,hb0,hB1,xs,h1,h2⟩:=h
 refine ⟨hp,hb0,Nat.le_trans hB hB1,xs,⟨h1.1,?_⟩,h2⟩
 rcases h1.2 with h3 | ⟨g,cap,cur,hv,hg,hr⟩
 ·exact .inl h3
 ·exact .inr ⟨g,cap,cur,hv,Nat.le_trans hB hg,hr⟩

theorem OwnS.born {b:Nat} (h:OwnS k B e L w v l) (f:Ext w w') (h1:w.heap.size≤b) (h2:b<w'.heap.size):OwnS k B e (b::L) w' v l:=by
 have h':=h.ex f
 obtain ⟨hp,hb,hB,xs,hr,hs⟩:=h
 refine ⟨h'.pos,fun m hm=>?_,h'.base,xs,ownsRow_same hr fun g hg=>f.block g (ownsRow_block hr hg).2 (by simp),?_⟩
 ·rcases List.mem_cons.1 hm with rfl | hm
  ·exact ⟨h2,fun hq=>by have:=(ownsRow_block hr (mem_own.1 hq)).2; omega⟩
  ·exact h'.below m hm
 ·refine hs.up f (fun _ hm=>by cases hm) (fun q hq=>?_)
  rcases List.mem_append.1 hq with hq | hq
  ·exact .inl (List.mem_append_left _ hq)
  ·rcases List.mem_cons.1 hq with rfl | hq
   ·exact .inr h1
   ·exact .inl (List.mem_append_right _ hq)
theorem OwnS.shape (h:OwnS k B e L w v l):∃ A c,v=.slice A l.length c:=by
 obtain ⟨hp,_,_,xs,h1,_⟩:=h
 rcases h1.2 with ⟨rfl,h0⟩ | ⟨g,cap,cur,rfl,_⟩
 ·exact ⟨none,0,by rw [h0]⟩
 ·exact ⟨_,_,rfl⟩

theorem take_drop_getElem? {α:Type} {xs:List α} {n i j:Nat} {v:α} (h:((xs.drop (i * n)).take n)[j]?=some v):j<n∧xs[i * n + j]?=some v:=by
 rw [List.getElem?_take] at h
 split at h
 ·rename_i hj; rw [List.getElem?_drop] at h; exact ⟨hj,h⟩
 ·cases h

theorem OwnS.still (h:OwnS k B e L w v l):∃ A c,v=.slice A l.length c∧Stb L w (fun w=>SlC k w A c l):=by
 obtain ⟨hp,hb,hB,xs,h1,h2⟩:=h
 obtain ⟨hl,h1'⟩:=h1
 rcases h1' with ⟨rfl,h0⟩ | ⟨g,cap,cur,rfl,hg,hh,hle,hcm,hcs,htk⟩
 ·have:l=[]:=List.eq_nil_of_length_eq_zero h0
  subst this
  exact ⟨none,0,rfl,stb_nil⟩
 ·refine ⟨some ⟨g,0,none⟩,cap,rfl,fun w' ha=>⟨hle,fun i hi=>⟨⟨_,rfl,rfl⟩,(xs.drop (i * k.n)).take k.n,?_,?_,?_⟩⟩⟩
  ·have h3:(i + 1) * k.n≤l.length * k.n:=Nat.mul_le_mul_right _ hi
   rw [Nat.add_mul] at h3
   simp only [List.length_take,List.length_drop,hl]
   omega
  ·intro j u hj
   obtain ⟨hjn,hj⟩:=take_drop_getElem? hj
   have hg':g∉L:=fun hm=>(hb g hm).2 (mem_own.2 rfl)
   have hlt:g<w.heap.size:=(Array.getElem?_eq_some_iff.1 hh).1
   have h3:w'.heap[g]?=some (.cells cur e (0,0)):=(ha g hlt hg').trans hh
   have h4:cur.toList[i * k.n + j]?=some u:=by
    rw [← htk] at hj
    rw [List.getElem?_take] at hj
    split at hj
    ·exact hj
    ·cases hj
   simp only [World.cell?,ad,elemA,h3,Option.isSome_none,Bool.false_eq_true,if_false,Nat.zero_add]
   rw [← Array.getElem?_toList]; exact h4
  ·exact h2 w' (fun k hk hn=>ha k hk (fun hm=>hn (List.mem_append_right _ hm))) i hi

theorem RowD.append {w:World} {xs ys:List Value} {l m:List T} (hl:xs.length=l.length * k.n) (hx:RowD k w xs l) (hy:RowD k w ys m) (hm:ys.length=m.length * k.n):RowD k w (xs++ys) (l++m):=by
 intro i hi
 by_cases h:i<l.length
 ·have h3:(i + 1) * k.n≤l.length * k.n:=Nat.mul_le_mul_right _ h
  rw [Nat.add_mul,Nat.one_mul] at h3
  have:((xs++ys).drop (i * k.n)).take k.n=(xs.drop (i * k.n)).take k.n:=by
   rw [List.drop_append_of_le_length (by omega),List.take_append_of_le_length (by simp; omega)]
  rw [this]
  have hg:(l++m).getD i default=l.getD i default:=by simp [List.getElem?_append,h]
  rw [hg]; exact hx i h
 ·have hi':i - l.length<m.length:=by simp at hi; omega
  have hmul:i * k.n=l.length * k.n + (i - l.length) * k.n:=by rw [← Nat.add_mul]; congr 1; omega
  have:((xs++ys).drop (i * k.n)).take k.n=(ys.drop ((i - l.length) * k.n)).take k.n:=by
   rw [hmul,← List.drop_drop,← hl,List.drop_left]
  rw [this]
  have hg:(l++m).getD i default=m.getD (i - l.length) default:=by simp [List.getElem?_append,h]
  rw [hg]; exact hy _ hi'

theorem oneC_eq (u:Value):oneC u=u.oneCell':=by cases u <;> rfl

/-- The law of append, as it is used here. -/
theorem run_app {P : Program} {t ty n bytes : Nat} {z : Value} (hT : Slc P t e n bytes z) (hn : k.n = n) (hz : z.cells.size = n) (hO : OwnS k B e L w v l) {a : Addr} {m c : Nat} {news : List Value} {ys : List T}
    (hm : ys.length = m) (hl : news.length = m * n) (hc : ∀ j u, news[j]? = some u → w.cell? (a.add j) = some u) (h1 : news.all oneC = true) (hd : Stb (own v ++ L) w (fun w => RowD k w news ys))
    (hsz : l.length + m ≤ 9223372036854775807 ∧ (l.length + m) * bytes ≤ 140737488355328) :
    ∃ v' w', (Builtin.append_ #[t, t] ty #[v, .slice (some a) m c]).run P w = .ok v' w' ∧ OwnS k B e L w' v' (l ++ ys) ∧ Fr (own v) w w' ∧ (∀ q ∈ own v', q ∈ own v ∨ w.heap.size ≤ q) := by
  obtain ⟨hp, hb, hB, xs, hr1, hr2⟩ := hO
  obtain ⟨hu, i, h2, h3, h4, h5⟩ := hT
  subst hn
  obtain ⟨v', w', r1, r2, r3, r4⟩ := run_append_own (P := P) w B t ty e i z k.n bytes hu h2 h3 h4 h5 hz hp v l.length xs hr1 a m c news hl hc
    (fun u hu => by rw [← oneC_eq]; exact List.all_eq_true.1 h1 u hu) (by simp only [maxLen]; omega) hsz.2 hB
  have f : Fr (own v) w w' := ⟨r3.os, r3.tape, r3.output, r3.size, fun q hq hn => r3.block q hq (fun e => hn (by rw [mem_own]; exact e.symm))⟩
  have hnew : ∀ q ∈ own v', q ∈ own v ∨ w.heap.size ≤ q := by
    intro q hq
    rw [mem_own] at hq
    obtain ⟨h6, h7⟩ := ownsRow_block r2 hq
    by_cases hv : v.ownBlock = some q
    · exact .inl (mem_own.2 hv)
    · refine .inr ?_
      rcases hr1.2 with ⟨rfl, h0⟩ | ⟨g, cap, cur, rfl, hbg, hg, hnc, hcm, hcs, htake⟩
      · by_cases hm0 : m = 0
        · rw [r4.2 ⟨rfl, hm0⟩] at hq; cases hq
        · have hr := run_append_nil (P := P) w t ty e i z hu h2 h3 a m c news (by rw [h4]; exact hl) hc (by omega) (by omega) (by rw [h5]; have := hsz.2; rw [h0] at this; simp only [Nat.zero_add] at this; omega)
          rw [hr] at r1; cases r1
          simp only [Value.ownBlock, Option.some.injEq] at hq; omega
      · by_cases hroom : l.length + m ≤ cap
        · obtain ⟨w2, hr, _⟩ := run_append_fits (P := P) w B t ty e i k.n hu h2 h4 g l.length cap xs hr1 a m c news hl hc (fun u hu => by rw [← oneC_eq]; exact List.all_eq_true.1 h1 u hu) hroom
          rw [hr] at r1; cases r1
          exact absurd hq hv
        · have holds : ∀ j u, xs[j]? = some u → w.cell? ((⟨g, 0, none⟩ : Addr).add j) = some u := hr1.cells (g := g) rfl
          have hr := run_append_grow (P := P) w t ty e i z hu h2 h3 ⟨g, 0, none⟩ l.length cap xs (by rw [h4]; exact hr1.1) holds a m c news (by rw [h4]; exact hl) hc (by omega) (by omega) (growslice_fits (by omega) (by rw [h5]; exact hsz.2))
          rw [hr] at r1; cases r1
          simp only [Value.ownBlock, Option.some.injEq] at hq; omega
  refine ⟨v', w', r1, ⟨hp, fun m hm => ⟨Nat.lt_of_lt_of_le (hb m hm).1 r3.size, fun hq => (hnew m hq).elim (hb m hm).2 (fun h => by have := (hb m hm).1; omega)⟩, Nat.le_trans hB r3.size, xs ++ news, by rw [List.length_append, hm]; exact r2, ?_⟩, f, hnew⟩
  have hall : Stb (own v ++ L) w (fun w => RowD k w (xs ++ news) (l ++ ys)) := (hr2.and hd).mono fun w0 ⟨q1, q2⟩ => q1.append hr1.1 q2 (by rw [hl, hm])
  refine hall.up f (fun m hm => List.mem_append_left _ hm) (fun q hq => ?_)
  rcases List.mem_append.1 hq with hq | hq
  · rcases hnew q hq with h6 | h6
    · exact .inl (List.mem_append_left _ h6)
    · exact .inr h6
  · exact .inl (List.mem_append_right _ hq)
end
end Go.Proofs.Ytpopikeebobjnaa
