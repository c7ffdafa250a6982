/- The writer of entry: its methods, each by what it writes. -/
import Derived.Test.YtbijobepjjokmaaBd
import Derived.Test.YtbijobepjjokmaaPk
namespace Go.Proofs.Ytbijobepjjokmaa
open Go Go.RowKit
set_option linter.unusedVariables false
set_option linter.unusedSimpArgs false

/-- From w0 on, where its slice was v0, the writer b has come to hold l. -/
def WS (B : Nat) (w0 : World) (b : Nat) (v0 : Value) (l : List Int) (w : World) : Prop :=
  Fr (b :: own v0) w0 w ∧ ∃ p v, Blk w b 51 [p, v] ∧ (p = .pointer none ∨ p = .pointer (some ⟨b, 0, none⟩)) ∧ OwnS (kI .u8) B 5 [b] w v l ∧ ∀ q ∈ own v, q ∈ own v0 ∨ w0.heap.size ≤ q
theorem WS.ex {B b:Nat} {w0 w w':World} {v0:Value} {l:List Int} (h:WS B w0 b v0 l w) (f:Ext w w'):WS B w0 b v0 l w':=by
 obtain ⟨F,p,v,HB,hp,HO,hN⟩:=h
 exact ⟨F.trans (Fr.ext f),p,v,HB.ex f,hp,HO.ex f,hN⟩
theorem WS.cons {B b:Nat} {w0 w w':World} {v0 v:Value} {l':List Int} (F:Fr (b::own v0) w0 w) (hN:∀ q∈own v,q∈own v0∨w0.heap.size≤q) (h:WS B w b v l' w'):WS B w0 b v0 l' w':=by
 obtain ⟨F2,p,v2,HB,hp,HO,hN2⟩:=h
 refine ⟨F.stp F2 (fun m hm=>?_),p,v2,HB,hp,HO,fun q hq=>?_⟩
 ·rcases List.mem_cons.1 hm with rfl | hm
  ·exact .inl List.mem_cons_self
  ·exact (hN m hm).elim (fun h=>.inl (List.mem_cons_of_mem _ h)) .inr
 ·rcases hN2 q hq with h | h
  ·exact hN q h
  ·exact .inr (Nat.le_trans F.size h)
theorem WS.lt {B b:Nat} {w:World} {p v:Value} {l:List Int} (HB:Blk w b 51 [p,v]) (HO:OwnS (kI .u8) B 5 [b] w v l):Lt (b::own v) w:=fun m hm=>by
 rcases List.mem_cons.1 hm with rfl | hm
 ·exact HB.lt
 ·exact HO.ltw m hm
theorem WS.start {B b:Nat} {w w1:World} {p v:Value} {l:List Int} (HB:Blk w b 51 [p,v]) (hp:p=.pointer none∨p=.pointer (some ⟨b,0,none⟩)) (HO:OwnS (kI .u8) B 5 [b] w v l) (f:Ext w w1):WS B w1 b v l w1 :=
 ⟨Fr.refl _ _,p,v,HB.ex f,hp,HO.ex f,fun q hq=>.inl hq⟩
theorem WS.write {B b:Nat} {w0 w:World} {v0:Value} {l:List Int} (h:WS B w0 b v0 l w) (s:Str) (hsz:l.length + s.length≤140737488355328) :
  Calls Try.prog 53 [.pointer (some ⟨b,0,none⟩),str s].toArray w (Ret fun r w'=>r=.tuple #[.int .i64 (s.length:Int),.nilIface]∧WS B w0 b v0 (l++ints s) w'):=by
 obtain ⟨F,p,v,HB,hp,HO,hN⟩:=h
 refine (wstr_c s HB hp HO (by simp) hsz).mono ?_
 rintro e w' ⟨r,he,hr,F2,v',B2,O2,N2⟩
 refine ⟨r,he,hr,WS.cons F hN ⟨F2,_,v',B2,.inr rfl,O2,N2⟩⟩
theorem WS.len {B b:Nat} {w0 w:World} {v0:Value} {l:List Int} (h:WS B w0 b v0 l w) :
  Calls Try.prog 29 [.pointer (some ⟨b,0,none⟩)].toArray w (Ret fun r w'=>Ext w w'∧r=.int .i64 (l.length:Int)):=by
 obtain ⟨F,p,v,HB,hp,HO,hN⟩:=h
 exact blen_c HB HO
theorem fld_writer_0:Fld Try.prog 51 0 0:=⟨_,Try.underlying51,_,rfl,rfl,fnz in_Builder (by decide)⟩
theorem cf_wnumber:CF Try.prog 27:=fun _ _=>by kernel_rfl
theorem cf_wtext:CF Try.prog 28:=fun _ _=>by kernel_rfl

theorem WS.number {B b:Nat} {w0 w:World} {v0:Value} {l:List Int} (h:WS B w0 b v0 l w) (n wd:Int) (hsz:l.length≤1000000) :
  Calls Try.prog 27 [.pointer (some ⟨b,0,none⟩),.int .i64 n,.int .i64 wd].toArray w (Ret fun r w'=>r=.tuple #[]∧WS B w0 b v0 (l++ints (putO n wd).1) w'):=by
 have hl:=putO_len n wd
 refine calls_ec Try.func27 rfl rfl rfl ?_
 refine ec_seq ?_
 refine ec_region ?_
 refine o_w (v:=.int .i64 n) (r_mov rfl) ?_
 refine o_w (v:=.int .i64 wd) (r_mov rfl) ?_
 refine o_call cf_octet_Put rfl (octet_Put_c (L:=[]) n wd (fun _ hm=>by cases hm) (octPut_ev n wd)) rfl rfl ?_
 rintro _ w1 ⟨F1,rfl⟩
 refine o_w (v:=.tuple #[str (putO n wd).1,.int .i64 (putO n wd).2]) (r_mov rfl) ?_
 refine o_w (v:=str (putO n wd).1) (r_ext rfl rfl) ?_
 refine o_w (v:=.int .i64 (putO n wd).2) (r_ext rfl rfl) ?_
 refine o_w (v:=str (putO n wd).1) (r_asg rfl) ?_
 refine o_w (v:=.int .i64 (putO n wd).2) (r_asg rfl) ?_
 refine eo_nil_sq ?_
 refine ec_region ?_
 refine o_w (v:=.pointer (some ⟨b,0,none⟩)) (r_mov rfl) ?_
 refine o_w (v:=.pointer (some ⟨b,0,none⟩)) (r_nilchk rfl) ?_
 refine o_w (v:=.pointer (some ⟨b,0,none⟩)) (r_fa fld_writer_0 rfl rfl) ?_
 refine o_w (v:=str (putO n wd).1) (r_mov rfl) ?_
 refine o_call cf_WriteString rfl ((h.ex F1).write (putO n wd).1 (by omega)) rfl rfl ?_
 rintro _ w2 ⟨rfl,h2⟩
 refine eo_nil ?_
 exact end0 ⟨_,rfl,rfl,h2⟩
/-- Zeros. -/
def zeros (n : Int) : Str := bstr (List.replicate n.toNat (0 : Int))
theorem zeros_len (n:Int):(zeros n).length=n.toNat:=by simp [zeros,bstr]
set_option maxRecDepth 20000 in
set_option maxHeartbeats 4000000 in
theorem WS.text {B b : Nat} {w0 w : World} {v0 : Value} {l : List Int} (h : WS B w0 b v0 l w) (s : Str) (wd : Int) (hsz : l.length ≤ 1000000) (h1 : (s.length : Int) ≤ wd) (h2 : wd ≤ 1000) :
    Calls Try.prog 28 [.pointer (some ⟨b, 0, none⟩), str s, .int .i64 wd].toArray w (Ret fun r w' => r = .tuple #[] ∧ WS B w0 b v0 (l ++ (ints s ++ ints (zeros (wd - s.length)))) w') := by
  refine calls_ec Try.func28 rfl rfl rfl ?_
  refine ec_seq ?_
  refine ec_region ?_
  refine o_v (v := .pointer (some ⟨b, 0, none⟩)) (r_mov rfl) rfl rfl rfl ?_
  refine o_v (v := .pointer (some ⟨b, 0, none⟩)) (r_nilchk rfl) rfl rfl rfl ?_
  refine o_v (v := .pointer (some ⟨b, 0, none⟩)) (r_fa fld_writer_0 rfl rfl) rfl rfl rfl ?_
  refine o_v (v := str s) (r_mov rfl) rfl rfl rfl ?_
  refine o_call cf_WriteString rfl (h.write s (by omega)) rfl rfl ?_
  rintro _ w1 ⟨rfl, F, p, v, HB, hp, HO, hN⟩
  refine eo_nil_sq ?_
  have hLt := WS.lt HB HO
  have hw : IntKind.i64.wrap (wd - (s.length : Int)) = wd - (s.length : Int) := wrap64 (by omega) (by omega)
  refine ec_anyN (by kernel_rfl) [[], [0], [0, 1], [], [], [4], [3, 4, 5], [3, 4, 5, 6], [3, 4, 5, 6, 7], [0, 1, 2, 3, 4, 5, 6, 7, 8]] [11, 12, 13, 14, 15, 16, 17, 18, 19, 20] (b :: own v) [9] [b :: own v] [[9]]
    [fun w' => WS B w1 b v (l ++ ints s) w', fun w' => WS B w1 b v (l ++ ints s ++ ints (zeros (wd - (s.length : Int)))) w']
    [fun v _ => v = (.pointer (some ⟨b, 0, none⟩) : Value), fun v _ => v = (.pointer (some ⟨b, 0, none⟩) : Value), fun v _ => v = (.pointer (some ⟨b, 0, none⟩) : Value), fun v _ => v = (.int .i64 wd : Value), fun v _ => v = str s, fun v _ => v = (.int .i64 (s.length : Int) : Value), fun v _ => v = (.int .i64 (wd - (s.length : Int)) : Value),
     fun x w' => ∃ A c, x = (.slice A (List.replicate (wd - (s.length : Int)).toNat (0 : Int)).length c : Value) ∧ Stb (b :: own v) w' (fun w => SlC (kI .u8) w A c (List.replicate (wd - (s.length : Int)).toNat (0 : Int))), fun v _ => v = str (zeros (wd - (s.length : Int))), fun _ _ => True]
    (by kernel_rfl) (allM1 (fun m hm => hm) (fun _ h => by cases h))
    ⟨fun _ _ _ _ _ h => h, fun _ _ _ _ _ h => h, fun _ _ _ _ _ h => h, fun _ _ _ _ _ h => h, fun _ _ _ _ _ h => h, fun _ _ _ _ _ h => h, fun _ _ _ _ _ h => h, fun _ v w' w'' F h => by obtain ⟨A, c, hv, H⟩ := h; exact ⟨A, c, hv, H.ex F⟩, fun _ _ _ _ _ h => h, fun _ _ _ _ _ h => h, trivial⟩
    ⟨⟨fun _ _ _ _ _ h => h, fun _ _ _ _ _ h => h, fun _ _ _ _ _ h => h, fun _ _ _ _ _ h => h, fun _ _ _ _ _ h => h, fun _ _ _ _ _ h => h, fun _ _ _ _ _ h => h, fun _ v w' w'' F h => by obtain ⟨A, c, hv, H⟩ := h; exact ⟨A, c, hv, H.fr F (fun _ hm => hm)⟩, fun _ _ _ _ _ h => h, (fun h => absurd h (by decide)), trivial⟩, trivial⟩
    ⟨fun w' w'' F h => h.ex F, fun w' w'' F h => h.ex F, trivial⟩ (WS.start HB hp HO (Fr.refl _ _)) ?_ ?_ ?_
  · refine ⟨?_, ?_, ?_, ?_, ?_, ?_, ?_, ?_, ?_, ?_, trivial⟩
    · intro _ ρ w2 F2 hX hS hρ
      have q0 : ρ 0 = .pointer (some ⟨b, 0, none⟩) := hρ 0 (by kernel_rfl)
      exact o_v (r_mov q0) rfl rfl rfl (eo_nil ⟨rfl, rfl, _, rfl, Fr.refl _ _, rfl⟩)
    · intro _ ρ w2 F2 hX hS hρ
      have q : ρ 11 = .pointer (some ⟨b, 0, none⟩) := hS 0 (by decide) 11 rfl
      exact o_v (r_nilchk q) rfl rfl rfl (eo_nil ⟨rfl, rfl, _, rfl, Fr.refl _ _, rfl⟩)
    · intro _ ρ w2 F2 hX hS hρ
      have q : ρ 12 = .pointer (some ⟨b, 0, none⟩) := hS 1 (by decide) 12 rfl
      exact o_v (r_fa fld_writer_0 rfl q) rfl rfl rfl (eo_nil ⟨rfl, rfl, _, rfl, Fr.refl _ _, rfl⟩)
    · intro _ ρ w2 F2 hX hS hρ
      have q : ρ 2 = .int .i64 wd := hρ 2 (by kernel_rfl)
      exact o_v (r_mov q) rfl rfl rfl (eo_nil ⟨rfl, rfl, _, rfl, Fr.refl _ _, rfl⟩)
    · intro _ ρ w2 F2 hX hS hρ
      have q : ρ 1 = str s := hρ 1 (by kernel_rfl)
      exact o_v (r_mov q) rfl rfl rfl (eo_nil ⟨rfl, rfl, _, rfl, Fr.refl _ _, rfl⟩)
    · intro _ ρ w2 F2 hX hS hρ
      have q : ρ 15 = str s := hS 4 (by decide) 15 rfl
      exact o_v (r_len_str un_string q) rfl rfl rfl (eo_nil ⟨rfl, rfl, _, rfl, Fr.refl _ _, rfl⟩)
    · intro _ ρ w2 F2 hX hS hρ
      have q1 : ρ 14 = .int .i64 wd := hS 3 (by decide) 14 rfl
      have q2 : ρ 16 = .int .i64 (s.length : Int) := hS 5 (by decide) 16 rfl
      exact o_v (v := .int .i64 (wd - (s.length : Int))) (r_int q1 q2 (by show some (Value.int .i64 (IntKind.i64.wrap (wd - (s.length : Int)))) = _; rw [hw])) rfl rfl rfl (eo_nil ⟨rfl, rfl, _, rfl, Fr.refl _ _, rfl⟩)
    · intro _ ρ w2 F2 hX hS hρ
      have q : ρ 17 = .int .i64 (wd - (s.length : Int)) := hS 6 (by decide) 17 rfl
      have E2 := hX 9 rfl rfl
      refine o_make1 (k := kI .u8) (z := (0 : Int)) slc_s_uint8 rfl rfl (fun _ => rfl) (show ev ρ _ = _ from q) (show ev ρ _ = _ from q) ⟨by omega, by omega, by omega⟩ (hLt.fr F2) rfl rfl (by decide) ?_
      intro A c w' F H
      exact eo_nil ⟨rfl, rfl, _, rfl, F, A, c, rfl, H⟩
    · intro _ ρ w2 F2 hX hS hρ
      obtain ⟨A, c, q, H⟩ := hS 7 (by decide) 18 rfl
      exact o_v (r_bstr slc_s_uint8 un_uint8 un_string q H.now) rfl rfl rfl (eo_nil ⟨rfl, rfl, _, rfl, Fr.refl _ _, rfl⟩)
    · intro hT; exact absurd hT (by decide)
  · refine ⟨⟨_, rfl, ?_⟩, trivial⟩
    intro ρ w2 F2 hX hI hS hρ
    have q13 : ρ 13 = .pointer (some ⟨b, 0, none⟩) := hS 2 (by decide) 13 rfl
    have q19 : ρ 19 = str (zeros (wd - (s.length : Int))) := hS 8 (by decide) 19 rfl
    have E2 := hX rfl
    refine o_call cf_WriteString (by simp only [List.map, ev, q13, q19] <;> rfl) (wstr_c (zeros (wd - (s.length : Int))) (HB.ex E2) hp (HO.ex E2) (by simp) (by rw [List.length_append, ints_length, zeros_len]; omega)) rfl rfl ?_
    rintro _ w' ⟨rfl, F4, v4, B4, O4, N4⟩
    exact eo_nil ⟨rfl, rfl, _, rfl, F4, WS.cons (Fr.ext E2) (fun q hq => .inl hq) ⟨F4, _, v4, B4, .inr rfl, O4, N4⟩, trivial⟩
  · intro ρ w2 F2 hI hS hρ
    refine end0 ⟨_, rfl, rfl, ?_⟩
    rw [← List.append_assoc]
    exact WS.cons F hN hI
end Go.Proofs.Ytbijobepjjokmaa
