/- The reader of entry: number, text. -/
import Derived.Test.YtbijobepjjokmaaHc
import Derived.Test.YtbijobepjjokmaaWi
namespace Go.Proofs.Ytbijobepjjokmaa
open Go Go.RowKit
set_option linter.unusedVariables false
set_option linter.unusedSimpArgs false

/-- What a panic of the reader bears. -/
abbrev oddC : List PanicEntry := [{ v := .iface 63 (.agg #[]), recovered := false }]
/-- A call of the reader b, that holds s: it tells x and holds t behind that, or it panics. -/
def RdR (b : Nat) (w : World) (z : Option (Value × Str)) : Ending → World → Prop := fun e w' => match z with
  | some (v, t) => e = .returned v ∧ Fr [b] w w' ∧ Blk w' b 67 [str t]
  | none => e = .panicked oddC ∧ Fr [b] w w'
theorem fld_reader_0:Fld Try.prog 67 0 0:=⟨_,Try.underlying67,_,rfl,rfl,fnz in_string (by decide)⟩
theorem zero_odd:Zero Try.prog 63 (.agg #[]):=zero_of (show (Try.prog.info? 63).map (fun i=>(i.zero,i.size,i.bytes))=some (some (.agg #[]),0,0) by kernel_rfl)
theorem bld_odd:Bld Try.prog 63 [] []:=bld_struct zero_odd rfl Try.underlying63 (fun _=>by kernel_rfl)
theorem cf_octet_Get:CF Try.prog 60:=fun _ _=>by kernel_rfl
def numR (s:Str) (n:Nat):Option (Value × Str):=if s.length<n then none else some (.int .i64 (leN (s.take n):Int),s.drop n)
def textR (s:Str) (n:Int) (wd:Nat):Option (Value × Str):=if (wd:Int)<n∨s.length<wd then none else some (str (s.take n.toNat),s.drop wd)
theorem conc_odd : Try.prog.concrete 63=true:=by kernel_rfl
theorem getO_0 (s:Str) (n:Nat) (h1:1≤n) (h7:n≤7):getO s 0 (n:Int)=if s.length<n then (0,2) else ((leN (s.take n):Int),0):=by
 unfold getO
 have e1:(decide ((n:Int)<1)||decide (7<(n:Int)))=false:=by simp; omega
 rw [e1]
 by_cases h:s.length<n
 ·have e2:((decide ((0:Int)<0)||decide ((s.length:Int)<0))||decide ((s.length:Int) - 0<(n:Int)))=true:=by simp; omega
  rw [e2,if_pos h]; rfl
 ·have e2:((decide ((0:Int)<0)||decide ((s.length:Int)<0))||decide ((s.length:Int) - 0<(n:Int)))=false:=by simp; omega
  rw [e2,if_neg h]; simp
section
variable {ρ : Env} {w : World} {d : Option Nat} {ty : TypeId} {pos : String} {after : Array Edge} {g : Option (Nat × Bool)}
theorem cut_lo {X Y:Operand} {s:Str} {n:Nat} (hX:ev ρ X=str s) (hY:ev ρ Y=.int .i64 (n:Int)) (h:n≤s.length):RunV Try.prog ρ w ⟨d,.slice 9 X (some Y) none none,ty,pos,after,g⟩ (str (s.drop n)):=by
 have e:cut s (n:Int) (s.length:Int)=s.drop n:=by simp [cut]
 rw [← e]
 exact r_sl_str un_string hX ⟨_,hY⟩ rfl (by omega) (by omega) (by omega)
theorem cut_hi {X Y:Operand} {s:Str} {n:Nat} (hX:ev ρ X=str s) (hY:ev ρ Y=.int .i64 (n:Int)) (h:n≤s.length):RunV Try.prog ρ w ⟨d,.slice 9 X none (some Y) none,ty,pos,after,g⟩ (str (s.take n)):=by
 have e:cut s (0:Int) (n:Int)=s.take n:=by simp [cut]
 rw [← e]
 exact r_sl_str un_string hX rfl ⟨_,hY⟩ (by omega) (by omega) (by omega)
end
set_option maxRecDepth 20000 in
theorem rd_number {w:World} {b:Nat} {s:Str} (HB:Blk w b 67 [str s]) (n:Nat) (h1:1≤n) (h7:n≤7) (hs:s.length≤9223372036854775807) :
  Calls Try.prog 42 [.pointer (some ⟨b,0,none⟩),.int .i64 (n:Int)].toArray w (RdR b w (numR s n)):=by
 refine calls_ec Try.func42 rfl rfl rfl ?_
 refine ec_seq ?_
 refine ec_region ?_
 refine o_w (v:=.int .i64 (0:Int)) (r_asg rfl) ?_
 refine eo_nil_sq ?_
 refine ec_seq ?_
 refine ec_region ?_
 refine o_w (v:=.pointer (some ⟨b,0,none⟩)) (r_mov rfl) ?_
 refine o_w (v:=.pointer (some ⟨b,0,none⟩)) (r_nilchk rfl) ?_
 refine o_w (v:=.pointer (some ⟨b,0,none⟩)) (r_fa fld_reader_0 rfl rfl) ?_
 refine o_w (v:=str s) (r_ld one_string rfl (HB.cell rfl)) ?_
 refine o_w (v:=.int .i64 (n:Int)) (r_mov rfl) ?_
 refine o_call cf_octet_Get rfl (octet_Get_c (L:=[]) s (0:Int) (n:Int) (fun _ hm=>by cases hm) (octGet_ev s 0 (n:Int) hs)) rfl rfl ?_
 rintro _ w1 ⟨F1,rfl⟩
 have B1:=HB.ex F1
 rw [getO_0 s n h1 h7]
 unfold numR
 by_cases h:s.length<n
 ·rw [if_pos h,if_pos h]
  refine o_w (v:=.tuple #[.int .i64 (0:Int),.int .i64 (2:Int)]) (r_mov rfl) ?_
  refine o_w (v:=.int .i64 (0:Int)) (r_ext rfl rfl) ?_
  refine o_w (v:=.int .i64 (2:Int)) (r_ext rfl rfl) ?_
  refine o_w (v:=.int .i64 (0:Int)) (r_asg rfl) ?_
  refine o_w (v:=.int .i64 (2:Int)) (r_asg rfl) ?_
  refine eo_nil_sq ?_
  iterate 2 refine ec_seq ?_
  refine ec_region ?_
  refine o_w (v:=.int .i64 (2:Int)) (r_mov rfl) ?_
  refine o_w (v:=.bool true) (r_int rfl rfl rfl) ?_
  refine eo_nil_sq ?_
  refine ec_condT rfl rfl ?_
  refine ec_region ?_
  refine o_w (v:=.agg #[]) (r_build bld_odd (vs:=[]) (cells:=[]) rfl rfl) ?_
  refine o_w (v:=.iface 63 (.agg #[])) (r_mkif conc_odd rfl) ?_
  refine o_panic rfl rfl ?_
  exact ⟨rfl,rfl,Fr.ext F1⟩
 ·rw [if_neg h,if_neg h]
  refine o_w (v:=.tuple #[.int .i64 (leN (s.take n):Int),.int .i64 (0:Int)]) (r_mov rfl) ?_
  refine o_w (v:=.int .i64 (leN (s.take n):Int)) (r_ext rfl rfl) ?_
  refine o_w (v:=.int .i64 (0:Int)) (r_ext rfl rfl) ?_
  refine o_w (v:=.int .i64 (leN (s.take n):Int)) (r_asg rfl) ?_
  refine o_w (v:=.int .i64 (0:Int)) (r_asg rfl) ?_
  refine eo_nil_sq ?_
  iterate 2 refine ec_seq ?_
  refine ec_region ?_
  refine o_w (v:=.int .i64 (0:Int)) (r_mov rfl) ?_
  refine o_w (v:=.bool false) (r_int rfl rfl rfl) ?_
  refine eo_nil_sq ?_
  refine ec_condF rfl rfl ?_
  refine ec_skip ?_
  refine sq_n ?_
  refine ec_seq ?_
  refine ec_region ?_
  iterate 2 refine o_w (v:=.pointer (some ⟨b,0,none⟩)) (r_mov rfl) ?_
  refine o_w (v:=.pointer (some ⟨b,0,none⟩)) (r_nilchk rfl) ?_
  refine o_w (v:=.pointer (some ⟨b,0,none⟩)) (r_fa fld_reader_0 rfl rfl) ?_
  refine o_w (v:=str s) (r_ld one_string rfl (B1.cell rfl)) ?_
  refine o_w (v:=.int .i64 (n:Int)) (r_mov rfl) ?_
  refine o_w (v:=str (s.drop n)) (cut_lo rfl rfl (by omega)) ?_
  refine o_w (v:=.pointer (some ⟨b,0,none⟩)) (r_nilchk rfl) ?_
  refine o_w (v:=.pointer (some ⟨b,0,none⟩)) (r_fa fld_reader_0 rfl rfl) ?_
  refine o_store rfl B1 (vs:=[str (s.drop n)]) rfl sz_string rfl rfl rfl ?_
  intro w2 F2 B2
  refine eo_nil_sq ?_
  refine ec_seq ?_
  refine ec_region ?_
  refine o_w (v:=.int .i64 (leN (s.take n):Int)) (r_mov rfl) ?_
  refine o_w (v:=.int .i64 (leN (s.take n):Int)) (r_asg rfl) ?_
  refine eo_nil_sq ?_
  refine ec_ret ?_
  exact end1 rfl ⟨rfl,(Fr.ext F1).trans F2,B2⟩
set_option maxRecDepth 20000 in
theorem rd_text {w:World} {b:Nat} {s:Str} (HB:Blk w b 67 [str s]) (n wd:Nat) (hs:s.length≤9223372036854775807) :
  Calls Try.prog 43 [.pointer (some ⟨b,0,none⟩),.int .i64 (n:Int),.int .i64 (wd:Int)].toArray w (RdR b w (textR s (n:Int) wd)):=by
 refine calls_ec Try.func43 rfl rfl rfl ?_
 refine ec_seq ?_
 refine ec_region ?_
 refine o_w (v:=str []) (r_asg rfl) ?_
 refine eo_nil_sq ?_
 iterate 2 refine ec_seq ?_
 refine ec_region ?_
 refine o_w (v:=.int .i64 (n:Int)) (r_mov rfl) ?_
 refine o_w (v:=.int .i64 (wd:Int)) (r_mov rfl) ?_
 refine o_w (v:=.bool (decide ((wd:Int)<(n:Int)))) (r_int rfl rfl rfl) ?_
 refine o_w (v:=.bool (decide ((wd:Int)<(n:Int)))) (r_mov rfl) ?_
 by_cases hc:(wd:Int)<(n:Int)
 ·have hd:decide ((wd:Int)<(n:Int))=true:=by simpa using hc
  iterate 7 refine o_no (want_f (t:=11) rfl rfl hd) rfl ?_
  refine o_w (v:=.bool true) (r_pickT rfl hd rfl) ?_
  refine eo_nil_sq ?_
  refine ec_condT rfl rfl ?_
  refine ec_region ?_
  refine o_w (v:=.agg #[]) (r_build bld_odd (vs:=[]) (cells:=[]) rfl rfl) ?_
  refine o_w (v:=.iface 63 (.agg #[])) (r_mkif conc_odd rfl) ?_
  refine o_panic rfl rfl ?_
  refine ⟨rfl,?_⟩
  unfold textR
  rw [if_pos (.inl hc)]
  exact ⟨rfl,Fr.refl _ _⟩
 ·have hd:decide ((wd:Int)<(n:Int))=false:=by simpa using hc
  refine o_v (v:=.int .i64 (wd:Int)) (r_mov rfl) (want_t (t:=11) rfl rfl hd) rfl rfl ?_
  refine o_v (v:=.pointer (some ⟨b,0,none⟩)) (r_mov rfl) (want_t (t:=11) rfl rfl hd) rfl rfl ?_
  refine o_v (v:=.pointer (some ⟨b,0,none⟩)) (r_nilchk rfl) (want_t (t:=11) rfl rfl hd) rfl rfl ?_
  refine o_v (v:=.pointer (some ⟨b,0,none⟩)) (r_fa fld_reader_0 rfl rfl) (want_t (t:=11) rfl rfl hd) rfl rfl ?_
  refine o_v (v:=str s) (r_ld one_string rfl (HB.cell rfl)) (want_t (t:=11) rfl rfl hd) rfl rfl ?_
  refine o_v (v:=.int .i64 (s.length:Int)) (r_len_str un_string rfl) (want_t (t:=11) rfl rfl hd) rfl rfl ?_
  refine o_v (v:=.bool (decide ((s.length:Int)<(wd:Int)))) (r_int rfl rfl rfl) (want_t (t:=11) rfl rfl hd) rfl rfl ?_
  refine o_w (v:=.bool (decide ((s.length:Int)<(wd:Int)))) (r_pickF rfl hd rfl) ?_
  refine eo_nil_sq ?_
  refine ec_cond rfl (fun h2=>?_) (fun h2=>?_)
  ·refine ec_region ?_
   refine o_w (v:=.agg #[]) (r_build bld_odd (vs:=[]) (cells:=[]) rfl rfl) ?_
   refine o_w (v:=.iface 63 (.agg #[])) (r_mkif conc_odd rfl) ?_
   refine o_panic rfl rfl ?_
   refine ⟨rfl,?_⟩
   unfold textR
   rw [if_pos (.inr (by simpa using h2))]
   exact ⟨rfl,Fr.refl _ _⟩
  ·have h2':wd≤s.length:=by simpa using h2
   refine ec_skip ?_
   refine sq_n ?_
   refine ec_seq ?_
   refine ec_region ?_
   refine o_w (v:=.pointer (some ⟨b,0,none⟩)) (r_mov rfl) ?_
   refine o_w (v:=.pointer (some ⟨b,0,none⟩)) (r_nilchk rfl) ?_
   refine o_w (v:=.pointer (some ⟨b,0,none⟩)) (r_fa fld_reader_0 rfl rfl) ?_
   refine o_w (v:=str s) (r_ld one_string rfl (HB.cell rfl)) ?_
   refine o_w (v:=.int .i64 (n:Int)) (r_mov rfl) ?_
   refine o_w (v:=str (s.take n)) (cut_hi rfl rfl (by omega)) ?_
   refine o_w (v:=str (s.take n)) (r_asg rfl) ?_
   refine eo_nil_sq ?_
   refine ec_seq ?_
   refine ec_region ?_
   iterate 2 refine o_w (v:=.pointer (some ⟨b,0,none⟩)) (r_mov rfl) ?_
   refine o_w (v:=.pointer (some ⟨b,0,none⟩)) (r_nilchk rfl) ?_
   refine o_w (v:=.pointer (some ⟨b,0,none⟩)) (r_fa fld_reader_0 rfl rfl) ?_
   refine o_w (v:=str s) (r_ld one_string rfl (HB.cell rfl)) ?_
   refine o_w (v:=.int .i64 (wd:Int)) (r_mov rfl) ?_
   refine o_w (v:=str (s.drop wd)) (cut_lo rfl rfl h2') ?_
   refine o_w (v:=.pointer (some ⟨b,0,none⟩)) (r_nilchk rfl) ?_
   refine o_w (v:=.pointer (some ⟨b,0,none⟩)) (r_fa fld_reader_0 rfl rfl) ?_
   refine o_store rfl HB (vs:=[str (s.drop wd)]) rfl sz_string rfl rfl rfl ?_
   intro w2 F2 B2
   refine eo_nil_sq ?_
   refine ec_seq ?_
   refine ec_region ?_
   refine o_w (v:=str (s.take n)) (r_mov rfl) ?_
   refine o_w (v:=str (s.take n)) (r_asg rfl) ?_
   refine eo_nil_sq ?_
   refine ec_ret ?_
   refine end1 (v:=str (s.take n)) rfl ?_
   unfold textR
   rw [if_neg (by omega)]
   exact ⟨by simp,F2,B2⟩
end Go.Proofs.Ytbijobepjjokmaa
