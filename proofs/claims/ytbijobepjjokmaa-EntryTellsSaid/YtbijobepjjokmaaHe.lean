/- The reader of entry where it does not panic: numbers, counts, a value. -/
import Derived.Test.YtbijobepjjokmaaHd
namespace Go.Proofs.Ytbijobepjjokmaa
open Go Go.RowKit
set_option linter.unusedVariables false
set_option linter.unusedSimpArgs false

theorem cf_rnumber:CF Try.prog 42:=fun _ _=>by kernel_rfl
theorem cf_rtext:CF Try.prog 43:=fun _ _=>by kernel_rfl
theorem cf_rcounts:CF Try.prog 61:=fun _ _=>by kernel_rfl
theorem cf_rvalue:CF Try.prog 44:=fun _ _=>by kernel_rfl
/-- What is read, with no panic. -/
abbrev RdN (b : Nat) (w : World) (v : Value) (t : Str) : Value → World → Prop := fun r w' => r = v ∧ Fr [b] w w' ∧ Blk w' b 67 [str t]
theorem rd_num {w:World} {b:Nat} {s:Str} (HB:Blk w b 67 [str s]) (n:Nat) (h1:1≤n) (h7:n≤7) (hs:s.length≤9223372036854775807) (hn:n≤s.length) :
  Calls Try.prog 42 [.pointer (some ⟨b,0,none⟩),.int .i64 (n:Int)].toArray w (Ret (RdN b w (.int .i64 (leN (s.take n):Int)) (s.drop n))):=by
 refine (rd_number HB n h1 h7 hs).mono ?_
 intro e w' h
 unfold RdR numR at h
 rw [if_neg (by omega)] at h
 exact ⟨_,h.1,rfl,h.2.1,h.2.2⟩
theorem rd_txt {w:World} {b:Nat} {s:Str} (HB:Blk w b 67 [str s]) (n wd:Nat) (hs:s.length≤9223372036854775807) (h1:n≤wd) (h2:wd≤s.length) :
  Calls Try.prog 43 [.pointer (some ⟨b,0,none⟩),.int .i64 (n:Int),.int .i64 (wd:Int)].toArray w (Ret (RdN b w (str (s.take n)) (s.drop wd))):=by
 refine (rd_text HB n wd hs).mono ?_
 intro e w' h
 unfold RdR textR at h
 rw [if_neg (by omega)] at h
 exact ⟨_,h.1,by simp,h.2.1,h.2.2⟩
theorem rowD_i64 (w:World) (n:Int):RowD (kI .i64) w [.int .i64 n] [n]:=by
 intro i hi
 have:i=0:=by simpa using hi
 subst this
 rfl
/-- Numbers of two bytes. -/
def pairs : Nat → Str → List Int
  | 0, _ => []
  | k + 1, s => (leN (s.take 2) : Int) :: pairs k (s.drop 2)
theorem pairs_snoc:∀ (k:Nat) (s:Str),pairs (k + 1) s=pairs k s++[(leN ((s.drop (2 * k)).take 2):Int)]
 | 0,s=>by simp [pairs]
 | k + 1,s=>by
  rw [pairs,pairs_snoc k (s.drop 2),pairs]
  simp [List.drop_drop,Nat.mul_add,Nat.add_comm]
theorem pairs_len:∀ (k:Nat) (s:Str),(pairs k s).length=k
 | 0,_=>rfl
 | k + 1,s=>by simp [pairs,pairs_len k]
set_option maxRecDepth 20000 in
set_option maxHeartbeats 4000000 in
theorem rd_counts {L:List Nat} {w:World} {b:Nat} {s:Str} (hLt:Lt L w) (hbL:b∈L) (HB:Blk w b 67 [str s]) (hs:s.length≤9223372036854775807) (hn:16≤s.length) :
  Calls Try.prog 61 [.pointer (some ⟨b,0,none⟩)].toArray w (Ret fun r w'=>Fr [b] w w'∧Blk w' b 67 [str (s.drop 16)]∧∃ A c,r=.slice A (pairs 8 s).length c∧Stb L w' (fun w=>SlC (kI .i64) w A c (pairs 8 s))):=by
 refine calls_ec Try.func61 rfl rfl rfl ?_
 refine ec_seq ?_
 refine ec_region ?_
 refine o_w (v:=.slice none 0 0) (r_asg rfl) ?_
 refine eo_nil_sq ?_
 refine ec_seq ?_
 refine ec_region ?_
 refine o_w (v:=.slice none 0 0) (r_asg rfl) ?_
 refine eo_nil_sq ?_
 iterate 2 refine ec_seq ?_
 refine ec_region ?_
 refine o_w (v:=.int .i64 (0:Int)) (r_mov rfl) ?_
 refine eo_nil_sq ?_
 refine ec_block ?_
 refine ec_loopE 0 (I:=(fun (i:Nat) ρ ds w'=>∃ (ρ':Env) (v:Value),ρ=envs ρ' [(4,.int .i64 (i:Int)),(3,v),(0,.pointer (some ⟨b,0,none⟩))]∧ds=[]∧i≤8∧Fr [b] w w'∧Blk w' b 67 [str (s.drop (2 * i))]∧OwnS (kI .i64) w.heap.size 3 L w' v (pairs i s))) ?_ (cnt_loop 8 8 0 rfl) ?_ ?_
 ·intro i z ρ1 ds1 wr hI hb
  obtain ⟨ρr,v,rfl,rfl,hi8,Fr1,Br,Or⟩:=hI
  refine ec_seq ?_
  refine ec_region ?_
  refine o_w (v:=.bool (decide ((i:Int)<(8:Int)))) (r_int rfl rfl rfl) ?_
  refine eo_nil_sq ?_
  refine ec_seq ?_
  refine ec_cond rfl (fun hc=>?_) (fun hc=>?_)
  ·have hi:i<8:=by simp at hc; omega
   obtain rfl:=hb.1 hi
   refine ec_skip ?_
   refine sq_n ?_
   refine ec_seq ?_
   refine ec_block ?_
   refine ec_region ?_
   refine o_w (v:=v) (r_mov rfl) ?_
   refine o_w (v:=.pointer (some ⟨b,0,none⟩)) (r_mov rfl) ?_
   refine o_call cf_rnumber rfl (rd_num Br 2 (by omega) (by omega) (by rw [List.length_drop]; omega) (by rw [List.length_drop]; omega)) rfl rfl ?_
   rintro _ w3 ⟨rfl,F3,B3⟩
   have O3:=Or.fr F3 (fun m hm=>by rw [List.mem_singleton] at hm; rw [hm]; exact hbL)
   refine o_bslice slc_s_int (vs:=[.int .i64 (leN ((s.drop (2 * i)).take 2):Int)]) (cs:=[.int .i64 (leN ((s.drop (2 * i)).take 2):Int)]) rfl rfl rfl rfl rfl rfl rfl rfl ?_
   intro b4 w4 e4 F4 B4
   refine o_app (ys:=[(leN ((s.drop (2 * i)).take 2):Int)]) slc_s_int rfl rfl rfl (O3.ex F4) rfl B4 rfl rfl rfl (fun w'' _=>rowD_i64 _ _) (by rw [pairs_len]; omega) rfl rfl ?_
   intro v5 w5 F5 O5 N5
   refine o_w (v:=v5) (r_asg rfl) ?_
   refine eo_nil ?_
   refine blk_n ?_
   refine sq_n ?_
   refine ec_region ?_
   have e1:IntKind.i64.wrap ((i:Int) + (1:Int))=((i + 1:Nat):Int):=wrapS hi (by omega)
   refine o_w (v:=.int .i64 ((i + 1:Nat):Int)) (r_int rfl rfl (by show some (Value.int .i64 (IntKind.i64.wrap ((i:Int) + (1:Int))))=_; rw [e1])) ?_
   refine o_w (v:=.int .i64 ((i + 1:Nat):Int)) (r_mov rfl) ?_
   refine eo_nil ?_
   refine lq_n ⟨_,_,envs_self ⟨rfl,rfl,rfl,trivial⟩,rfl,by omega,?_,?_,by rw [pairs_snoc]; exact O5⟩
   ·exact ((Fr1.trans F3).trans (Fr.ext F4)).stp F5 (fun m hm=>.inr (O3.lo m hm))
   ·rw [List.drop_drop] at B3
    rw [show 2 * (i + 1)=2 * i + 2 by omega]
    exact (B3.ex F4).fr F5 (fun hm=>(O3.below b hbL).2 hm)
  ·have hi:¬ i<8:=by simp at hc; omega
   obtain rfl:=hb.2 hi
   refine ec_exit ?_
   refine sq_exit ?_
   exact lq_x ⟨_,_,envs_self ⟨rfl,rfl,rfl,trivial⟩,rfl,hi8,Fr1,Br,Or⟩
 ·exact ⟨_,_,envs_self ⟨rfl,rfl,rfl,trivial⟩,rfl,by omega,Fr.refl _ _,by simpa using HB,OwnS.nil (by decide) hLt⟩
 ·rintro ρ3 ds3 w3 ⟨ρ3',v,rfl,rfl,_,F3,B3,O3⟩
  obtain ⟨A,c,rfl,H⟩:=O3.still
  refine blk_hit ?_
  refine sq_n ?_
  refine ec_seq ?_
  refine ec_region ?_
  refine o_w (v:=.slice A (pairs 8 s).length c) (r_mov rfl) ?_
  refine o_w (v:=.slice A (pairs 8 s).length c) (r_asg rfl) ?_
  refine eo_nil_sq ?_
  refine ec_ret ?_
  exact end1 rfl ⟨_,rfl,F3,B3,A,c,rfl,H⟩
end Go.Proofs.Ytbijobepjjokmaa
