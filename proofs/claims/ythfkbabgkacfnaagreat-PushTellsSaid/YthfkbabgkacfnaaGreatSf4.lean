/- Frames, opened. -/
import Derived.Test.YthfkbabgkacfnaaGreatSf3
import Derived.Test.YthfkbabgkacfnaaGreatCt5
namespace Go.Proofs.YthfkbabgkacfnaaGreat
open Go Go.ChangeShapes Go.WideShapes Go.ChangeAt Go.RowKit Go.Deep
set_option linter.unusedVariables false
set_option linter.unusedSimpArgs false

/-- An array of four numbers, opened: its cells are these. -/
theorem opens_four {H : Type} {enc : TypeId × Value → H} {P : Program} {w : World} {base : Nat} {spare : Nat → Bool} {held : Bool} {fuel : Nat} {t e : TypeId} {cs : List Value} {x : DataW H × List MemPlace} (ht : P.underlying t = some (.array 4 e)) (he : P.underlying e = some (.int .i64)) (hc : P.cellsOf e = 1) (hc4 : P.cellsOf t = 4)
    (h : DataW.trod enc P w base spare held fuel t cs = some x) : ∃ l : List Int, l.length = 4 ∧ (∀ n ∈ l, inI n) ∧ cs = [.int .i64 (nth l 0), .int .i64 (nth l 1), .int .i64 (nth l 2), .int .i64 (nth l 3)] := by
  obtain ⟨xs, m, _, _, hl, hx, hf⟩ := DataW.trod_array ht h
  rw [hc4] at hl
  rw [hc] at hf
  obtain ⟨c0, c1, c2, c3, rfl⟩ : ∃ c0 c1 c2 c3, cs = [c0, c1, c2, c3] := by
    match cs, hl with
    | [c0, c1, c2, c3], _ => exact ⟨_, _, _, _, rfl⟩
  have hg : ∀ (i : Nat) (c : Value), i < 4 → (([c0, c1, c2, c3].drop (i * 1)).take 1) = [c] → ∃ n : Int, c = .int .i64 n ∧ inI n := fun i c hi hcs => by
    have h1 := hf i hi
    rw [hcs, List.getElem?_eq_getElem (by omega)] at h1
    obtain ⟨n, hn, _, hw⟩ := DataW.trod_int he h1
    exact ⟨n, by simpa using hn, inK_i64 hw⟩
  obtain ⟨n0, rfl, g0⟩ := hg 0 c0 (by decide) rfl
  obtain ⟨n1, rfl, g1⟩ := hg 1 c1 (by decide) rfl
  obtain ⟨n2, rfl, g2⟩ := hg 2 c2 (by decide) rfl
  obtain ⟨n3, rfl, g3⟩ := hg 3 c3 (by decide) rfl
  exact ⟨[n0, n1, n2, n3], rfl, fun n hn => by simp at hn; rcases hn with rfl | rfl | rfl | rfl <;> assumption, rfl⟩
def kI4:Kd (List Int):=⟨4,fun _ cs d=>d.length=4∧cs=[.int .i64 (nth d 0),.int .i64 (nth d 1),.int .i64 (nth d 2),.int .i64 (nth d 3)]⟩
theorem opens_I4:Opens Tryz.prog 29 kI4 (fun l=>l.length=4∧∀ n∈l,inI n):=fun H enc w base spare held fuel cs x h=>by
 obtain ⟨l,h1,h2,rfl⟩:=opens_four un_4_int un_int (by kernel_rfl) (by kernel_rfl) h
 exact ⟨l,rfl,⟨h1,h2⟩,fun _ _=>⟨h1,rfl⟩⟩
def GFrm (f:Frm):Prop:=inI f.kind∧inI f.a∧inI f.b∧(f.sums.length=4∧∀ n∈f.sums,inI n)∧Gs_api_Entry f.entries
theorem opens_Frm:Opens Tryz.prog 31 kFrm GFrm:=fun H enc w base spare held fuel cs x h=>by
 have hu:=Tryz.underlying31
 have hl:cs.length=8:=(trod_len hu h).trans (by kernel_rfl)
 obtain ⟨c0,c1,c2,c3,c4,c5,c6,c7,rfl⟩:∃ c0 c1 c2 c3 c4 c5 c6 c7,cs=[c0,c1,c2,c3,c4,c5,c6,c7]:=by
  match cs,hl with
  | [c0,c1,c2,c3,c4,c5,c6,c7],_=>exact ⟨_,_,_,_,_,_,_,_,rfl⟩
 obtain ⟨d0,_,g0,h0⟩:=trod_field hu h (k:=kI .i64) 0 rfl (opens_int un_int) (o:=0) rfl (by kernel_rfl)
 obtain ⟨d1,_,g1,h1⟩:=trod_field hu h (k:=kI .i64) 1 rfl (opens_int un_int) (o:=1) rfl (by kernel_rfl)
 obtain ⟨d2,_,g2,h2⟩:=trod_field hu h (k:=kI .i64) 2 rfl (opens_int un_int) (o:=2) rfl (by kernel_rfl)
 obtain ⟨d3,_,g3,h3⟩:=trod_field hu h (k:=kI4) 3 rfl opens_I4 (o:=3) rfl (by kernel_rfl)
 obtain ⟨d4,_,g4,h4⟩:=trod_field hu h (k:=kSl kEnt) 4 rfl opens_s_api_Entry (o:=7) rfl (by kernel_rfl)
 obtain rfl:c0=.int .i64 d0:=by have:=h0.now; simpa [kI] using this
 obtain rfl:c1=.int .i64 d1:=by have:=h1.now; simpa [kI] using this
 obtain rfl:c2=.int .i64 d2:=by have:=h2.now; simpa [kI] using this
 obtain ⟨e3,rfl,rfl,rfl,rfl⟩:d3.length=4∧c3=.int .i64 (nth d3 0)∧c4=.int .i64 (nth d3 1)∧c5=.int .i64 (nth d3 2)∧c6=.int .i64 (nth d3 3):=by have:=h3.now; simpa [kI4] using this
 obtain ⟨A4,q4,rfl,s4⟩:=Stb.sl (v:=c7) (k:=kEnt) (d:=d4) (by simpa [kSl] using h4)
 exact ⟨⟨d0,d1,d2,d3,d4⟩,rfl,⟨inK_i64 g0,inK_i64 g1,inK_i64 g2,g3,g4⟩,kFrm_mk (d:=⟨d0,d1,d2,d3,d4⟩) s4 e3⟩
end Go.Proofs.YthfkbabgkacfnaaGreat
