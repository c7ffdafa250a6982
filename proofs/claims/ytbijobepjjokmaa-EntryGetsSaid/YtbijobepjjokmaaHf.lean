/- The reader of entry: numbers, texts, counts; each may panic. -/
import Derived.Test.YtbijobepjjokmaaHd
import Derived.Test.YtbijobepjjokmaaWi
namespace Go.Proofs.Ytbijobepjjokmaa
open Go Go.RowKit
set_option linter.unusedVariables false
set_option linter.unusedSimpArgs false

theorem cf_rnumber:CF Try.prog 42:=fun _ _=>by kernel_rfl
theorem cf_rtext:CF Try.prog 43:=fun _ _=>by kernel_rfl
theorem cf_rcounts:CF Try.prog 61:=fun _ _=>by kernel_rfl
theorem cf_rvalue:CF Try.prog 44:=fun _ _=>by kernel_rfl
/-- What is read, with no panic. -/
abbrev RdN (b : Nat) (w : World) (v : Value) (t : Str) : Value → World → Prop := fun r w' => r = v ∧ Fr [b] w w' ∧ Blk w' b 67 [str t]
/-- What is read, if there is enough; otherwise a panic. -/
abbrev RdP (b : Nat) (w : World) (ok : Prop) (post : Value → World → Prop) : Ending → World → Prop := fun e w' => (∃ v, e = .returned v ∧ (ok ∧ post v w')) ∨ (∃ c, e = .panicked c ∧ (c = oddC ∧ ¬ ok ∧ Fr [b] w w'))
theorem rd_num {w:World} {b:Nat} {s:Str} (HB:Blk w b 67 [str s]) (n:Nat) (h1:1≤n) (h7:n≤7) (hs:s.length≤9223372036854775807) :
  Calls Try.prog 42 [.pointer (some ⟨b,0,none⟩),.int .i64 (n:Int)].toArray w (RdP b w (n≤s.length) (RdN b w (.int .i64 (leN (s.take n):Int)) (s.drop n))):=by
 refine (rd_number HB n h1 h7 hs).mono ?_
 intro e w' h
 unfold RdR numR at h
 by_cases hn:s.length<n
 ·rw [if_pos hn] at h
  exact .inr ⟨_,h.1,rfl,by omega,h.2⟩
 ·rw [if_neg hn] at h
  exact .inl ⟨_,h.1,by omega,rfl,h.2.1,h.2.2⟩
theorem rd_txt {w:World} {b:Nat} {s:Str} (HB:Blk w b 67 [str s]) (n wd:Nat) (hs:s.length≤9223372036854775807) :
  Calls Try.prog 43 [.pointer (some ⟨b,0,none⟩),.int .i64 (n:Int),.int .i64 (wd:Int)].toArray w (RdP b w (n≤wd∧wd≤s.length) (RdN b w (str (s.take n)) (s.drop wd))):=by
 refine (rd_text HB n wd hs).mono ?_
 intro e w' h
 unfold RdR textR at h
 by_cases hn:(wd:Int)<(n:Int)∨s.length<wd
 ·rw [if_pos hn] at h
  exact .inr ⟨_,h.1,rfl,by omega,h.2⟩
 ·rw [if_neg hn] at h
  exact .inl ⟨_,h.1,by omega,by simp,h.2.1,h.2.2⟩
theorem rowD_i64 (w:World) (n:Int):RowD (kI .i64) w [.int .i64 n] [n]:=by
 intro i hi
 have:i=0:=by simpa using hi
 subst this
 rfl
/-- Numbers of two bytes. -/
def pairs : Nat → Str → List Int
  | 0, _ => []
  | k + 1, s => (leN (s.take 2) : Int) :: pairs k (s.drop 2)
theorem pairs_snoc:∀ (k:Nat) (s:Str),pairs (k + 1) s=pairs k s++[(leN ((s.drop (2 * k)).take 2):Int)]
 | 0,s=>by simp [pairs]
 | k + 1,s=>by
  rw [pairs,pairs_snoc k (s.drop 2),pairs]
  simp [List.drop_drop,Nat.mul_add,Nat.add_comm]
theorem pairs_len:∀ (k:Nat) (s:Str),(pairs k s).length=k
 | 0,_=>rfl
 | k + 1,s=>by simp [pairs,pairs_len k]
/-- Eight rounds of two bytes each, or too few bytes. -/
def cntP (n : Nat) (i : Nat) (z : Nat ⊕ Bool) : Prop := (i < 8 → 2 * (i + 1) ≤ n → z = .inl (i + 1)) ∧ (i < 8 → n < 2 * (i + 1) → z = .inr false) ∧ (¬ i < 8 → z = .inr true)
theorem cntP_loop1 (n:Nat):∀ (k i:Nat),i + k=8→LoopR (cntP n) i (decide (16≤n)||(decide (n<2 * i)))∨n<2 * i
 | 0,i,h=>by
  by_cases hn:n<2 * i
  ·exact .inr hn
  ·refine .inl (.done ⟨fun c=>by omega,fun c=>by omega,fun _=>?_⟩)
   have:decide (16≤n)=true:=by simp; omega
   rw [this]; rfl
 | k + 1,i,h=>by
  by_cases hn:n<2 * i
  ·exact .inr hn
  ·left
   by_cases h2:n<2 * (i + 1)
   ·refine .done ⟨fun _ c=>by omega,fun _ _=>?_,fun c=>by omega⟩
    have e1:decide (16≤n)=false:=by simp; omega
    have e2:decide (n<2 * i)=false:=by simp; omega
    rw [e1,e2]; rfl
   ·rcases cntP_loop1 n k (i + 1) (by omega) with h3 | h3
    ·refine .step ⟨fun _ _=>rfl,fun _ c=>by omega,fun c=>by omega⟩ ?_
     have e1:decide (n<2 * i)=false:=by simp; omega
     have e2:decide (n<2 * (i + 1))=false:=by simp; omega
     rw [e1]; rwa [e2] at h3
    ·omega
theorem cntP_loop (n:Nat):LoopR (cntP n) 0 (decide (16≤n)):=by
 rcases cntP_loop1 n 8 0 rfl with h | h
 ·simpa using h
 ·omega
set_option maxRecDepth 20000 in
set_option maxHeartbeats 4000000 in
theorem rd_counts {L:List Nat} {w:World} {b:Nat} {s:Str} (hLt:Lt L w) (hbL:b∈L) (HB:Blk w b 67 [str s]) (hs:s.length≤9223372036854775807) :
  Calls Try.prog 61 [.pointer (some ⟨b,0,none⟩)].toArray w (RdP b w (16≤s.length) fun r w'=>Fr [b] w w'∧Blk w' b 67 [str (s.drop 16)]∧∃ A c,r=.slice A (pairs 8 s).length c∧Stb L w' (fun w=>SlC (kI .i64) w A c (pairs 8 s))):=by
 refine calls_ec Try.func61 rfl rfl rfl ?_
 refine ec_seq ?_
 refine ec_region ?_
 refine o_w (v:=.slice none 0 0) (r_asg rfl) ?_
 refine eo_nil_sq ?_
 refine ec_seq ?_
 refine ec_region ?_
 refine o_w (v:=.slice none 0 0) (r_asg rfl) ?_
 refine eo_nil_sq ?_
 iterate 2 refine ec_seq ?_
 refine ec_region ?_
 refine o_w (v:=.int .i64 (0:Int)) (r_mov rfl) ?_
 refine eo_nil_sq ?_
 refine ec_block ?_
 refine ec_loop (fun (i:Nat) ρ ds w'=>∃ (ρ':Env) (v:Value),ρ=envs ρ' [(4,.int .i64 (i:Int)),(3,v),(0,.pointer (some ⟨b,0,none⟩))]∧ds=[]∧(i≤8∧2 * i≤s.length)∧Fr [b] w w'∧Blk w' b 67 [str (s.drop (2 * i))]∧OwnS (kI .i64) w.heap.size 3 L w' v (pairs i s)) (fun (y:Bool) e ρ ds w'=>(y=true∧16≤s.length∧e=.exit 0∧(fun (i:Nat) ρ ds w'=>∃ (ρ':Env) (v:Value),ρ=envs ρ' [(4,.int .i64 (i:Int)),(3,v),(0,.pointer (some ⟨b,0,none⟩))]∧ds=[]∧(i≤8∧2 * i≤s.length)∧Fr [b] w w'∧Blk w' b 67 [str (s.drop (2 * i))]∧OwnS (kI .i64) w.heap.size 3 L w' v (pairs i s)) 8 ρ ds w')∨(y=false∧s.length<16∧∃ c,e=.panic c∧c=oddC∧ds=[]∧Fr [b] w w')) (body:=cntP s.length) ?_ (cntP_loop s.length) ?_ ?_
 ·intro i z ρ1 ds1 wr hI hb
  obtain ⟨ρr,v,rfl,rfl,hi8,Fr1,Br,Or⟩:=hI
  refine ec_seq ?_
  refine ec_region ?_
  refine o_w (v:=.bool (decide ((i:Int)<(8:Int)))) (r_int rfl rfl rfl) ?_
  refine eo_nil_sq ?_
  refine ec_seq ?_
  refine ec_cond rfl (fun hc=>?_) (fun hc=>?_)
  ·have hi:i<8:=by simp at hc; omega
   refine ec_skip ?_
   refine sq_n ?_
   refine ec_seq ?_
   refine ec_block ?_
   refine ec_region ?_
   refine o_w (v:=v) (r_mov rfl) ?_
   refine o_w (v:=.pointer (some ⟨b,0,none⟩)) (r_mov rfl) ?_
   refine o_callP cf_rnumber rfl (rd_num Br 2 (by omega) (by omega) (by rw [List.length_drop]; omega)) rfl rfl ?_ (by
    rintro _ w3 ⟨rfl,hno,F3⟩
    rw [List.length_drop] at hno
    obtain rfl:=hb.2.1 hi (by omega)
    exact ⟨(fun h=>by cases h),.inr ⟨rfl,by omega,_,rfl,rfl,rfl,Fr1.trans F3⟩⟩)
   rintro _ w3 ⟨hok,rfl,F3,B3⟩
   rw [List.length_drop] at hok
   obtain rfl:=hb.1 hi (by omega)
   have O3:=Or.fr F3 (fun m hm=>by rw [List.mem_singleton] at hm; rw [hm]; exact hbL)
   refine o_bslice slc_s_int (vs:=[.int .i64 (leN ((s.drop (2 * i)).take 2):Int)]) (cs:=[.int .i64 (leN ((s.drop (2 * i)).take 2):Int)]) rfl rfl rfl rfl rfl rfl rfl rfl ?_
   intro b4 w4 e4 F4 B4
   refine o_app (ys:=[(leN ((s.drop (2 * i)).take 2):Int)]) slc_s_int rfl rfl rfl (O3.ex F4) rfl B4 rfl rfl rfl (fun w'' _=>rowD_i64 _ _) (by rw [pairs_len]; omega) rfl rfl ?_
   intro v5 w5 F5 O5 N5
   refine o_w (v:=v5) (r_asg rfl) ?_
   refine eo_nil ?_
   refine blk_n ?_
   refine sq_n ?_
   refine ec_region ?_
   have e1:IntKind.i64.wrap ((i:Int) + (1:Int))=((i + 1:Nat):Int):=wrapS hi (by omega)
   refine o_w (v:=.int .i64 ((i + 1:Nat):Int)) (r_int rfl rfl (by show some (Value.int .i64 (IntKind.i64.wrap ((i:Int) + (1:Int))))=_; rw [e1])) ?_
   refine o_w (v:=.int .i64 ((i + 1:Nat):Int)) (r_mov rfl) ?_
   refine eo_nil ?_
   refine ⟨rfl,_,_,envs_self ⟨rfl,rfl,rfl,trivial⟩,rfl,⟨by omega,by omega⟩,?_,?_,by rw [pairs_snoc]; exact O5⟩
   ·exact ((Fr1.trans F3).trans (Fr.ext F4)).stp F5 (fun m hm=>.inr (O3.lo m hm))
   ·rw [List.drop_drop] at B3
    rw [show 2 * (i + 1)=2 * i + 2 by omega]
    exact (B3.ex F4).fr F5 (fun hm=>(O3.below b hbL).2 hm)
  ·have hi:¬ i<8:=by simp at hc; omega
   obtain rfl:=hb.2.2 hi
   obtain rfl:i=8:=by omega
   refine ec_exit ?_
   refine sq_exit ?_
   exact ⟨(fun h=>by cases h),.inl ⟨rfl,by omega,rfl,_,_,envs_self ⟨rfl,rfl,rfl,trivial⟩,rfl,hi8,Fr1,Br,Or⟩⟩
 ·exact ⟨_,_,envs_self ⟨rfl,rfl,rfl,trivial⟩,rfl,⟨by omega,by omega⟩,Fr.refl _ _,by simpa using HB,OwnS.nil (by decide) hLt⟩
 ·rintro e ρ3 ds3 w3 - (⟨_,hok,rfl,ρ3',v,rfl,rfl,_,F3,B3,O3⟩ | ⟨_,hno,c,rfl,rfl,rfl,F3⟩)
  rotate_left
  ·exact ⟨rfl,.inr ⟨_,rfl,rfl,by omega,F3⟩⟩
  obtain ⟨A,c,rfl,H⟩:=O3.still
  refine blk_hit ?_
  refine sq_n ?_
  refine ec_seq ?_
  refine ec_region ?_
  refine o_w (v:=.slice A (pairs 8 s).length c) (r_mov rfl) ?_
  refine o_w (v:=.slice A (pairs 8 s).length c) (r_asg rfl) ?_
  refine eo_nil_sq ?_
  refine ec_ret ?_
  exact end1 rfl (.inl ⟨_,rfl,hok,F3,B3,A,c,rfl,H⟩)
end Go.Proofs.Ytbijobepjjokmaa

/- The reader of entry: a value; it may panic. -/
namespace Go.Proofs.Ytbijobepjjokmaa
open Go Go.RowKit
set_option linter.unusedVariables false
set_option linter.unusedSimpArgs false

def flR (s:Str):Int:=(IntKind.u64.wrap ((BitVec.ofInt IntKind.u64.bits (IntKind.u64.wrap (leN (s.take 4):Int)) ||| BitVec.ofInt IntKind.u64.bits (IntKind.u64.wrap ((IntKind.u64.wrap (leN ((s.drop 4).take 4):Int)) * 2 ^ min ((32:Int)).toNat IntKind.u64.bits))).toNat:Int))
def readV (k:Int) (s:Str):Val :=
 bif k==1 then ⟨k,(leN (s.take 4):Int),(leN ((s.drop 4).take 1):Int),((leN (((s.drop 4).drop 1).take 1):Int)==(1:Int)),((((((s.drop 4).drop 1).drop 1)).drop 1).take (leN (((((s.drop 4).drop 1).drop 1)).take 1))),[],[],0⟩ else bif k==2 then ⟨k,0,0,false,[],pairs 8 s,pairs 8 (s.drop 16),0⟩ else bif k==3 then ⟨k,0,0,false,[],[],[],flR s⟩ else ⟨k,0,0,false,[],[],[],0⟩
/-- There is enough of a value's bytes. -/
def okS (k : Int) (s : Str) : Prop := (k = 1 → leN (((((s.drop 4).drop 1).drop 1)).take 1) ≤ 8 ∧ 15 ≤ s.length) ∧ (k = 2 → 32 ≤ s.length) ∧ (k = 3 → 8 ≤ s.length)
theorem Stb.weakb {L:List Nat} {x y:Nat} {w:World} {φ:World→Prop} (h:Stb (x::y::L) w φ):Stb L w φ:=fun w' ha=>h w' (fun k hk hn=>ha k hk (fun hm=>hn (List.mem_cons_of_mem _ (List.mem_cons_of_mem _ hm))))
def VS (w0:World) (b b4 b5:Nat) (t:Str) (c5:List Value) (w:World):Prop:=(b4≠b∧b5≠b∧b4≠b5∧w0.heap.size≤b5∧w0.heap.size≤b4)∧Fr [b] w0 w∧Blk w b 67 [str t]∧Blk w b4 25 [.int .i64 0,.int .i64 0,.int .i64 0,.bool false,str [],.slice none 0 0,.slice none 0 0,.int .u64 0]∧Blk w b5 25 c5
theorem VS.ex {w0 w w':World} {b b4 b5:Nat} {t:Str} {c:List Value} (h:VS w0 b b4 b5 t c w) (f:Ext w w'):VS w0 b b4 b5 t c w':=⟨h.1,h.2.1.trans (Fr.ext f),h.2.2.1.ex f,h.2.2.2.1.ex f,h.2.2.2.2.ex f⟩
theorem VS.rd {w0 w w':World} {b b4 b5:Nat} {t t':Str} {c:List Value} (h:VS w0 b b4 b5 t c w) (F:Fr [b] w w') (R:Blk w' b 67 [str t']):VS w0 b b4 b5 t' c w' :=
 ⟨h.1,h.2.1.trans F,R,h.2.2.2.1.fr F (by simpa using h.1.1),h.2.2.2.2.fr F (by simpa using h.1.2.1)⟩
theorem VS.st {w0 w w':World} {b b4 b5:Nat} {t:Str} {c c':List Value} (h:VS w0 b b4 b5 t c w) (F:Fr [b5] w w') (X:Blk w' b5 25 c'):VS w0 b b4 b5 t c' w' :=
 ⟨h.1,h.2.1.stp F (fun m hm=>by rw [List.mem_singleton] at hm; rw [hm]; exact .inr h.1.2.2.2.1),h.2.2.1.fr F (by simpa using h.1.2.1.symm),h.2.2.2.1.fr F (by simpa using h.1.2.2.1),X⟩
set_option maxRecDepth 20000 in
set_option maxHeartbeats 8000000 in
theorem rd_value {L:List Nat} {w:World} {b:Nat} {s:Str} (hL:Lt L w) (hbL:b∈L) (HB:Blk w b 67 [str s]) (k:Int) (hs:s.length≤9223372036854775807) :
  Calls Try.prog 44 [.pointer (some ⟨b,0,none⟩),.int .i64 k].toArray w (RdP b w (okS k s) fun r w'=>Fr [b] w w'∧∃ A1 c1 A2 c2,r=.agg (cVal (readV k s) A1 c1 A2 c2).toArray∧Stb L w' (fun w=>SlC (kI .i64) w A1 c1 (readV k s).plus)∧Stb L w' (fun w=>SlC (kI .i64) w A2 c2 (readV k s).minus)):=by
 refine calls_ec Try.func44 rfl rfl rfl ?_
 refine ec_seq ?_
 refine ec_region ?_
 refine o_alloc zero_api_Value rfl rfl rfl ?_
 intro b4 w1 e4 F1 B4
 refine eo_nil_sq ?_
 refine ec_seq ?_
 refine ec_region ?_
 refine o_w (v:=.int .i64 k) (r_mov rfl) ?_
 refine o_w (v:=.agg ([.int .i64 k,.int .i64 (0),.int .i64 (0),.bool (false),str ([]),.slice none 0 0,.slice none 0 0,.int .u64 (0)]:List Value).toArray) (r_build bld_api_Value (vs:=[(0,.int .i64 k)]) (cells:=[.int .i64 k,.int .i64 (0),.int .i64 (0),.bool (false),str ([]),.slice none 0 0,.slice none 0 0,.int .u64 (0)]) rfl rfl) ?_
 refine o_alloc zero_api_Value rfl rfl rfl ?_
 intro b5 w2 e5 F2 B5
 refine o_store rfl B5 (vs:=[.int .i64 k,.int .i64 (0),.int .i64 (0),.bool (false),str ([]),.slice none 0 0,.slice none 0 0,.int .u64 (0)]) rfl sz_api_Value rfl rfl rfl ?_
 intro w3 F3 X3
 have n4:b4≠b:=by have:=HB.lt; omega
 have n45:b4≠b5:=by have:=B4.lt; omega
 have hsz:=F1.size
 have n5:b5≠b:=by have:=HB.lt; omega
 have h5:w.heap.size≤b5:=by omega
 have H:VS w b b4 b5 s [.int .i64 k,.int .i64 (0),.int .i64 (0),.bool (false),str ([]),.slice none 0 0,.slice none 0 0,.int .u64 (0)] w3:=⟨⟨n4,n5,n45,h5,by omega⟩,(Fr.ext (F1.trans F2)).stp F3 (fun m hm=>by rw [List.mem_singleton] at hm; rw [hm]; exact .inr h5),((HB.ex F1).ex F2).fr F3 (by simpa using n5.symm),(B4.ex F2).fr F3 (by simpa using n45),X3⟩
 refine eo_nil_sq ?_
 iterate 2 refine ec_seq ?_
 refine ec_region ?_
 refine o_w (v:=.int .i64 k) (r_mov rfl) ?_
 refine eo_nil_sq ?_
 refine ec_block ?_
 refine ec_seq ?_
 refine ec_region ?_
 refine o_w (v:=.bool (k==(1:Int))) (r_int rfl rfl rfl) ?_
 refine o_w (v:=.bool (k==(1:Int))) (r_asg rfl) ?_
 refine eo_nil_sq ?_
 refine ec_cond rfl (fun hk1=>?_) (fun hk1=>?_)
 · -- a register
  have hk:k=1:=by simpa using hk1
  refine ec_seq ?_
  refine ec_region ?_
  refine o_w (v:=.pointer (some ⟨b,0,none⟩)) (r_mov rfl) ?_
  refine o_callP cf_rnumber rfl (rd_num H.2.2.1 4 (by omega) (by omega) (by (try simp only [List.length_drop]); omega)) rfl rfl ?_ (by
    rintro _ w' ⟨rfl,hno,G⟩
    refine ⟨rfl,.inr ⟨_,rfl,rfl,fun hq=>?_,H.2.1.trans G⟩⟩
    have hq:=hq.1 hk
    (try simp only [List.length_drop] at hno); omega)
  rintro _ w' ⟨hok,rfl,G,R⟩
  replace H:=H.rd G R
  refine o_w (v:=.pointer (some ⟨b,0,none⟩)) (r_mov rfl) ?_
  refine o_callP cf_rnumber rfl (rd_num H.2.2.1 1 (by omega) (by omega) (by (try simp only [List.length_drop]); omega)) rfl rfl ?_ (by
    rintro _ w' ⟨rfl,hno,G⟩
    refine ⟨rfl,.inr ⟨_,rfl,rfl,fun hq=>?_,H.2.1.trans G⟩⟩
    have hq:=hq.1 hk
    (try simp only [List.length_drop] at hno); omega)
  rintro _ w' ⟨hok,rfl,G,R⟩
  replace H:=H.rd G R
  refine o_w (v:=.pointer (some ⟨b5,1,none⟩)) (r_fa fld_api_Value_1 rfl rfl) ?_
  refine o_store rfl H.2.2.2.2 (vs:=[.int .i64 (leN (s.take 4):Int)]) rfl sz_int rfl rfl rfl ?_
  intro w' G X
  replace H:=H.st (c':=[.int .i64 k,.int .i64 ((leN (s.take 4):Int)),.int .i64 (0),.bool (false),str ([]),.slice none 0 0,.slice none 0 0,.int .u64 (0)]) G X
  refine o_w (v:=.pointer (some ⟨b5,2,none⟩)) (r_fa fld_api_Value_2 rfl rfl) ?_
  refine o_store rfl H.2.2.2.2 (vs:=[.int .i64 (leN ((s.drop 4).take 1):Int)]) rfl sz_int rfl rfl rfl ?_
  intro w' G X
  replace H:=H.st (c':=[.int .i64 k,.int .i64 ((leN (s.take 4):Int)),.int .i64 ((leN ((s.drop 4).take 1):Int)),.bool (false),str ([]),.slice none 0 0,.slice none 0 0,.int .u64 (0)]) G X
  refine eo_nil_sq ?_
  refine ec_seq ?_
  refine ec_region ?_
  refine o_w (v:=.pointer (some ⟨b,0,none⟩)) (r_mov rfl) ?_
  refine o_callP cf_rnumber rfl (rd_num H.2.2.1 1 (by omega) (by omega) (by (try simp only [List.length_drop]); omega)) rfl rfl ?_ (by
    rintro _ w' ⟨rfl,hno,G⟩
    refine ⟨rfl,.inr ⟨_,rfl,rfl,fun hq=>?_,H.2.1.trans G⟩⟩
    have hq:=hq.1 hk
    (try simp only [List.length_drop] at hno); omega)
  rintro _ w' ⟨hok,rfl,G,R⟩
  replace H:=H.rd G R
  refine o_w (v:=.bool ((leN (((s.drop 4).drop 1).take 1):Int)==(1:Int))) (r_int rfl rfl rfl) ?_
  refine o_w (v:=.pointer (some ⟨b5,3,none⟩)) (r_fa fld_api_Value_3 rfl rfl) ?_
  refine o_store rfl H.2.2.2.2 (vs:=[.bool ((leN (((s.drop 4).drop 1).take 1):Int)==(1:Int))]) rfl sz_bool rfl rfl rfl ?_
  intro w' G X
  replace H:=H.st (c':=[.int .i64 k,.int .i64 ((leN (s.take 4):Int)),.int .i64 ((leN ((s.drop 4).take 1):Int)),.bool (((leN (((s.drop 4).drop 1).take 1):Int)==(1:Int))),str ([]),.slice none 0 0,.slice none 0 0,.int .u64 (0)]) G X
  refine eo_nil_sq ?_
  refine ec_region ?_
  iterate 2 refine o_w (v:=.pointer (some ⟨b,0,none⟩)) (r_mov rfl) ?_
  refine o_callP cf_rnumber rfl (rd_num H.2.2.1 1 (by omega) (by omega) (by (try simp only [List.length_drop]); omega)) rfl rfl ?_ (by
    rintro _ w' ⟨rfl,hno,G⟩
    refine ⟨rfl,.inr ⟨_,rfl,rfl,fun hq=>?_,H.2.1.trans G⟩⟩
    have hq:=hq.1 hk
    (try simp only [List.length_drop] at hno); omega)
  rintro _ w' ⟨hok,rfl,G,R⟩
  replace H:=H.rd G R
  refine o_callP cf_rtext rfl (rd_txt H.2.2.1 (leN (((((s.drop 4).drop 1).drop 1)).take 1)) 8 (by (try simp only [List.length_drop]); omega)) rfl rfl ?_ (by
    rintro _ w' ⟨rfl,hno,G⟩
    refine ⟨rfl,.inr ⟨_,rfl,rfl,fun hq=>?_,H.2.1.trans G⟩⟩
    have hq:=hq.1 hk
    (try simp only [List.length_drop] at hno); omega)
  rintro _ w' ⟨hok,rfl,G,R⟩
  replace H:=H.rd G R
  refine o_w (v:=.pointer (some ⟨b5,4,none⟩)) (r_fa fld_api_Value_4 rfl rfl) ?_
  refine o_store rfl H.2.2.2.2 (vs:=[str ((((((s.drop 4).drop 1).drop 1)).drop 1).take (leN (((((s.drop 4).drop 1).drop 1)).take 1)))]) rfl sz_string rfl rfl rfl ?_
  intro w' G X
  replace H:=H.st (c':=[.int .i64 k,.int .i64 ((leN (s.take 4):Int)),.int .i64 ((leN ((s.drop 4).take 1):Int)),.bool (((leN (((s.drop 4).drop 1).take 1):Int)==(1:Int))),str (((((((s.drop 4).drop 1).drop 1)).drop 1).take (leN (((((s.drop 4).drop 1).drop 1)).take 1)))),.slice none 0 0,.slice none 0 0,.int .u64 (0)]) G X
  refine eo_nil ?_
  refine blk_n ?_
  refine sq_n ?_
  refine ec_seq ?_
  refine ec_region ?_
  refine o_w (v:=.agg ([.int .i64 k,.int .i64 ((leN (s.take 4):Int)),.int .i64 ((leN ((s.drop 4).take 1):Int)),.bool (((leN (((s.drop 4).drop 1).take 1):Int)==(1:Int))),str (((((((s.drop 4).drop 1).drop 1)).drop 1).take (leN (((((s.drop 4).drop 1).drop 1)).take 1)))),.slice none 0 0,.slice none 0 0,.int .u64 (0)]:List Value).toArray) (r_lda agg_api_Value rfl (vs:=[.int .i64 k,.int .i64 ((leN (s.take 4):Int)),.int .i64 ((leN ((s.drop 4).take 1):Int)),.bool (((leN (((s.drop 4).drop 1).take 1):Int)==(1:Int))),str (((((((s.drop 4).drop 1).drop 1)).drop 1).take (leN (((((s.drop 4).drop 1).drop 1)).take 1)))),.slice none 0 0,.slice none 0 0,.int .u64 (0)]) rfl (H.2.2.2.2.part (o:=0) (n:=8) rfl)) ?_
  refine o_store rfl H.2.2.2.1 (vs:=[.int .i64 k,.int .i64 ((leN (s.take 4):Int)),.int .i64 ((leN ((s.drop 4).take 1):Int)),.bool (((leN (((s.drop 4).drop 1).take 1):Int)==(1:Int))),str (((((((s.drop 4).drop 1).drop 1)).drop 1).take (leN (((((s.drop 4).drop 1).drop 1)).take 1)))),.slice none 0 0,.slice none 0 0,.int .u64 (0)]) rfl sz_api_Value rfl rfl rfl ?_
  intro w' G X
  refine eo_nil_sq ?_
  refine ec_ret ?_
  exact endr1 (rv_a rfl agg_api_Value X (vs:=[.int .i64 k,.int .i64 ((leN (s.take 4):Int)),.int .i64 ((leN ((s.drop 4).take 1):Int)),.bool (((leN (((s.drop 4).drop 1).take 1):Int)==(1:Int))),str (((((((s.drop 4).drop 1).drop 1)).drop 1).take (leN (((((s.drop 4).drop 1).drop 1)).take 1)))),.slice none 0 0,.slice none 0 0,.int .u64 (0)]) rfl rfl) (.inl ⟨_,rfl,⟨fun _=>(by (try simp only [List.length_drop] at *); omega),fun c=>absurd c (by omega),fun c=>absurd c (by omega)⟩,H.2.1.stp G (fun m hm=>by rw [List.mem_singleton] at hm; rw [hm]; exact .inr H.1.2.2.2.2),none,0,none,0,by unfold readV; rw [hk1,cond_true]; simp only [cVal,List.drop_drop,List.length_nil],by unfold readV; rw [hk1,cond_true]; exact stb_nil,by unfold readV; rw [hk1,cond_true]; exact stb_nil⟩)
 ·refine ec_seq ?_
  refine ec_region ?_
  refine o_w (v:=.bool (k==(2:Int))) (r_int rfl rfl rfl) ?_
  refine o_w (v:=.bool (k==(2:Int))) (r_asg rfl) ?_
  refine eo_nil_sq ?_
  refine ec_cond rfl (fun hk2=>?_) (fun hk2=>?_)
  · -- a counter
   have hk:k=2:=by simpa using hk2
   refine ec_region ?_
   have hLt:Lt (b5::b4::L) w3:=((hL.fr H.2.1).cons H.2.2.2.1.lt).cons H.2.2.2.2.lt
   refine o_w (v:=.pointer (some ⟨b,0,none⟩)) (r_mov rfl) ?_
   refine o_callP cf_rcounts rfl (rd_counts hLt (by simp [hbL]) H.2.2.1 (by omega)) rfl rfl ?_ (by
     rintro _ w' ⟨rfl,hno,G⟩
     refine ⟨rfl,.inr ⟨_,rfl,rfl,fun hq=>?_,H.2.1.trans G⟩⟩
     have hq:=hq.2.1 hk
     (try simp only [List.length_drop] at hno); omega)
   rintro _ wa ⟨hok,Ga,Ra,A1,c1,rfl,S1⟩
   have hLt2:=hLt.fr Ga
   replace H:=H.rd Ga Ra
   refine o_w (v:=.pointer (some ⟨b,0,none⟩)) (r_mov rfl) ?_
   refine o_callP cf_rcounts rfl (rd_counts hLt2 (by simp [hbL]) H.2.2.1 (by (try simp only [List.length_drop]); omega)) rfl rfl ?_ (by
     rintro _ w' ⟨rfl,hno,G⟩
     refine ⟨rfl,.inr ⟨_,rfl,rfl,fun hq=>?_,H.2.1.trans G⟩⟩
     have hq:=hq.2.1 hk
     (try simp only [List.length_drop] at hno); omega)
   rintro _ wb ⟨hok2,Gb,Rb,A2,c2,rfl,S2⟩
   replace H:=H.rd Gb Rb
   have S1b:=S1.fr Gb (by simp [hbL])
   refine o_w (v:=.pointer (some ⟨b5,5,none⟩)) (r_fa fld_api_Value_5 rfl rfl) ?_
   refine o_store rfl H.2.2.2.2 (vs:=[.slice A1 (pairs 8 s).length c1]) rfl sz_s_int rfl rfl rfl ?_
   intro w' G X
   replace H:=H.st (c':=[.int .i64 k,.int .i64 (0),.int .i64 (0),.bool (false),str ([]),.slice A1 (pairs 8 s).length c1,.slice none 0 0,.int .u64 (0)]) G X
   replace S1b:=S1b.fr G (by simp)
   replace S2:=S2.fr G (by simp)
   refine o_w (v:=.pointer (some ⟨b5,6,none⟩)) (r_fa fld_api_Value_6 rfl rfl) ?_
   refine o_store rfl H.2.2.2.2 (vs:=[.slice A2 (pairs 8 (s.drop 16)).length c2]) rfl sz_s_int rfl rfl rfl ?_
   intro w' G X
   replace H:=H.st (c':=[.int .i64 k,.int .i64 (0),.int .i64 (0),.bool (false),str ([]),.slice A1 (pairs 8 s).length c1,.slice A2 (pairs 8 (s.drop 16)).length c2,.int .u64 (0)]) G X
   replace S1b:=S1b.fr G (by simp)
   replace S2:=S2.fr G (by simp)
   refine eo_nil ?_
   refine blk_n ?_
   refine sq_n ?_
   refine ec_seq ?_
   refine ec_region ?_
   refine o_w (v:=.agg ([.int .i64 k,.int .i64 (0),.int .i64 (0),.bool (false),str ([]),.slice A1 (pairs 8 s).length c1,.slice A2 (pairs 8 (s.drop 16)).length c2,.int .u64 (0)]:List Value).toArray) (r_lda agg_api_Value rfl (vs:=[.int .i64 k,.int .i64 (0),.int .i64 (0),.bool (false),str ([]),.slice A1 (pairs 8 s).length c1,.slice A2 (pairs 8 (s.drop 16)).length c2,.int .u64 (0)]) rfl (H.2.2.2.2.part (o:=0) (n:=8) rfl)) ?_
   refine o_store rfl H.2.2.2.1 (vs:=[.int .i64 k,.int .i64 (0),.int .i64 (0),.bool (false),str ([]),.slice A1 (pairs 8 s).length c1,.slice A2 (pairs 8 (s.drop 16)).length c2,.int .u64 (0)]) rfl sz_api_Value rfl rfl rfl ?_
   intro w' G X
   refine eo_nil_sq ?_
   refine ec_ret ?_
   exact endr1 (rv_a rfl agg_api_Value X (vs:=[.int .i64 k,.int .i64 (0),.int .i64 (0),.bool (false),str ([]),.slice A1 (pairs 8 s).length c1,.slice A2 (pairs 8 (s.drop 16)).length c2,.int .u64 (0)]) rfl rfl) (.inl ⟨_,rfl,⟨fun c=>absurd c (by omega),fun _=>(by (try simp only [List.length_drop] at *); omega),fun c=>absurd c (by omega)⟩,H.2.1.stp G (fun m hm=>by rw [List.mem_singleton] at hm; rw [hm]; exact .inr H.1.2.2.2.2),A1,c1,A2,c2,by unfold readV; rw [hk1,hk2,cond_false,cond_true],by unfold readV; rw [hk1,hk2,cond_false,cond_true]; exact (S1b.fr G (by simp)).weakb,by unfold readV; rw [hk1,hk2,cond_false,cond_true]; exact (S2.fr G (by simp)).weakb⟩)
  ·refine ec_seq ?_
   refine ec_region ?_
   refine o_w (v:=.bool (k==(3:Int))) (r_int rfl rfl rfl) ?_
   refine o_w (v:=.bool (k==(3:Int))) (r_asg rfl) ?_
   refine eo_nil_sq ?_
   refine ec_cond rfl (fun hk3=>?_) (fun hk3=>?_)
   · -- flags
    refine ec_seq ?_
    refine ec_region ?_
    refine o_w (v:=.pointer (some ⟨b,0,none⟩)) (r_mov rfl) ?_
    refine o_callP cf_rnumber rfl (rd_num H.2.2.1 4 (by omega) (by omega) (by (try simp only [List.length_drop]); omega)) rfl rfl ?_ (by
      rintro _ w' ⟨rfl,hno,G⟩
      refine ⟨rfl,.inr ⟨_,rfl,rfl,fun hq=>?_,H.2.1.trans G⟩⟩
      have hq:=hq.2.2 (by simpa using hk3)
      (try simp only [List.length_drop] at hno); omega)
    rintro _ w' ⟨hok,rfl,G,R⟩
    replace H:=H.rd G R
    refine o_w (v:=.int .u64 (IntKind.u64.wrap (leN (s.take 4):Int))) (r_conv un_int un_uint64 rfl) ?_
    refine o_w (v:=.pointer (some ⟨b5,7,none⟩)) (r_fa fld_api_Value_7 rfl rfl) ?_
    refine o_store rfl H.2.2.2.2 (vs:=[.int .u64 (IntKind.u64.wrap (leN (s.take 4):Int))]) rfl sz_uint64 rfl rfl rfl ?_
    intro w' G X
    replace H:=H.st (c':=[.int .i64 k,.int .i64 (0),.int .i64 (0),.bool (false),str ([]),.slice none 0 0,.slice none 0 0,.int .u64 ((IntKind.u64.wrap (leN (s.take 4):Int)))]) G X
    refine eo_nil_sq ?_
    refine ec_anyNIP (by kernel_rfl) [[],[0],[],[2],[2,3],[2,3,4],[0,1,2,3,4,5],[],[0,1,2,3,4,5,6,7]] [40,41,42,43,44,45,46,47] [b,b5] [3,8] [[b],[b5]] [[3,4,5,6,8],[8]]
     [fun w'=>VS w b b4 b5 (s.drop 4) [.int .i64 k,.int .i64 (0),.int .i64 (0),.bool (false),str ([]),.slice none 0 0,.slice none 0 0,.int .u64 ((IntKind.u64.wrap (leN (s.take 4):Int)))] w',fun w'=>VS w b b4 b5 ((s.drop 4).drop 4) [.int .i64 k,.int .i64 (0),.int .i64 (0),.bool (false),str ([]),.slice none 0 0,.slice none 0 0,.int .u64 ((IntKind.u64.wrap (leN (s.take 4):Int)))] w'∧8≤s.length,fun w'=>VS w b b4 b5 ((s.drop 4).drop 4) [.int .i64 k,.int .i64 (0),.int .i64 (0),.bool (false),str ([]),.slice none 0 0,.slice none 0 0,.int .u64 ((IntKind.u64.wrap ((BitVec.ofInt IntKind.u64.bits (IntKind.u64.wrap (leN (s.take 4):Int)) ||| BitVec.ofInt IntKind.u64.bits (IntKind.u64.wrap ((IntKind.u64.wrap (leN ((s.drop 4).take 4):Int)) * 2 ^ min ((32:Int)).toNat IntKind.u64.bits))).toNat:Int)))] w'∧8≤s.length]
     [fun v _=>v=(.pointer (some ⟨b5,7,none⟩):Value),fun v _=>v=(.int .u64 (IntKind.u64.wrap (leN (s.take 4):Int)):Value),fun v _=>v=(.pointer (some ⟨b,0,none⟩):Value),fun v _=>v=(.int .i64 (leN ((s.drop 4).take 4):Int):Value),fun v _=>v=(.int .u64 (IntKind.u64.wrap (leN ((s.drop 4).take 4):Int)):Value),fun v _=>v=(.int .u64 (IntKind.u64.wrap ((IntKind.u64.wrap (leN ((s.drop 4).take 4):Int)) * 2 ^ min ((32:Int)).toNat IntKind.u64.bits)):Value),fun v _=>v=(.int .u64 (IntKind.u64.wrap ((BitVec.ofInt IntKind.u64.bits (IntKind.u64.wrap (leN (s.take 4):Int)) ||| BitVec.ofInt IntKind.u64.bits (IntKind.u64.wrap ((IntKind.u64.wrap (leN ((s.drop 4).take 4):Int)) * 2 ^ min ((32:Int)).toNat IntKind.u64.bits))).toNat:Int)):Value),fun v _=>v=(.pointer (some ⟨b5,7,none⟩):Value),fun _ _=>True]
     (by kernel_rfl) (fun M hM m hm=>by simp at hM; rcases hM with rfl | rfl <;> simp at hm <;> simp [hm])
     ⟨fun _ _ _ _ _ h=>h,fun _ _ _ _ _ h=>h,fun _ _ _ _ _ h=>h,fun _ _ _ _ _ h=>h,fun _ _ _ _ _ h=>h,fun _ _ _ _ _ h=>h,fun _ _ _ _ _ h=>h,fun _ _ _ _ _ h=>h,fun _ _ _ _ _ h=>h,trivial⟩
     ⟨⟨fun _ _ _ _ _ h=>h,fun _ _ _ _ _ h=>h,fun _ _ _ _ _ h=>h,fun _ _ _ _ _ h=>h,fun _ _ _ _ _ h=>h,fun _ _ _ _ _ h=>h,fun _ _ _ _ _ h=>h,fun _ _ _ _ _ h=>h,fun _ _ _ _ _ h=>h,trivial⟩,⟨fun _ _ _ _ _ h=>h,fun _ _ _ _ _ h=>h,fun _ _ _ _ _ h=>h,fun _ _ _ _ _ h=>h,fun _ _ _ _ _ h=>h,fun _ _ _ _ _ h=>h,fun _ _ _ _ _ h=>h,fun _ _ _ _ _ h=>h,fun _ _ _ _ _ h=>h,trivial⟩,trivial⟩
     ⟨fun w' w'' F h=>h.ex F,fun w' w'' F h=>⟨h.1.ex F,h.2⟩,fun w' w'' F h=>⟨h.1.ex F,h.2⟩,trivial⟩ H ?_ ?_ ?_
    ·refine ⟨?_,?_,?_,?_,?_,?_,?_,?_,?_,trivial⟩
     ·intro _ ρ w2 F2 hX hS hρ hI
      have q:ρ 5=.pointer (some ⟨b5,0,none⟩):=hρ 5 (by kernel_rfl)
      exact o_q (r_fa fld_api_Value_7 rfl q) ⟨Fr.refl _ _,rfl⟩
     ·intro _ ρ w2 F2 hX hS hρ hI
      have q:ρ 40=.pointer (some ⟨b5,7,none⟩):=hS 0 (by decide) 40 rfl
      obtain ⟨kk,hIk,hkm⟩:=hI
      have hk1':=hkm 1 8 rfl rfl
      have hB5:Blk w2 b5 25 [.int .i64 k,.int .i64 (0),.int .i64 (0),.bool (false),str ([]),.slice none 0 0,.slice none 0 0,.int .u64 ((IntKind.u64.wrap (leN (s.take 4):Int)))]:=by
       match kk,hk1',hIk with
       | 0,_,h=>exact h.2.2.2.2
       | 1,_,h=>exact h.1.2.2.2.2
      exact o_q (r_ld one_uint64 q (hB5.cell rfl)) ⟨Fr.refl _ _,rfl⟩
     ·intro _ ρ w2 F2 hX hS hρ hI
      have q:ρ 0=.pointer (some ⟨b,0,none⟩):=hρ 0 (by kernel_rfl)
      exact o_q (r_mov q) ⟨Fr.refl _ _,rfl⟩
     ·intro hT; exact absurd hT (by decide)
     ·intro _ ρ w2 F2 hX hS hρ hI
      have q:ρ 43=.int .i64 (leN ((s.drop 4).take 4):Int):=hS 3 (by decide) 43 rfl
      exact o_q (r_conv un_int un_uint64 q) ⟨Fr.refl _ _,rfl⟩
     ·intro _ ρ w2 F2 hX hS hρ hI
      have q:ρ 44=.int .u64 (IntKind.u64.wrap (leN ((s.drop 4).take 4):Int)):=hS 4 (by decide) 44 rfl
      exact o_q (r_shl q rfl rfl) ⟨Fr.refl _ _,rfl⟩
     ·intro _ ρ w2 F2 hX hS hρ hI
      have q1:ρ 41=.int .u64 (IntKind.u64.wrap (leN (s.take 4):Int)):=hS 1 (by decide) 41 rfl
      have q2:ρ 45=.int .u64 (IntKind.u64.wrap ((IntKind.u64.wrap (leN ((s.drop 4).take 4):Int)) * 2 ^ min ((32:Int)).toNat IntKind.u64.bits)):=hS 5 (by decide) 45 rfl
      exact o_q (r_int q1 q2 rfl) ⟨Fr.refl _ _,rfl⟩
     ·intro _ ρ w2 F2 hX hS hρ hI
      have q:ρ 5=.pointer (some ⟨b5,0,none⟩):=hρ 5 (by kernel_rfl)
      exact o_q (r_fa fld_api_Value_7 rfl q) ⟨Fr.refl _ _,rfl⟩
     ·intro hT; exact absurd hT (by decide)
    ·refine ⟨⟨_,rfl,?_⟩,⟨_,rfl,?_⟩,trivial⟩
     ·intro ρ w2 F2 hX hI hS hρ
      have q:ρ 42=.pointer (some ⟨b,0,none⟩):=hS 2 (by decide) 42 rfl
      have hI':VS w b b4 b5 (s.drop 4) [.int .i64 k,.int .i64 (0),.int .i64 (0),.bool (false),str ([]),.slice none 0 0,.slice none 0 0,.int .u64 ((IntKind.u64.wrap (leN (s.take 4):Int)))] w2:=hI
      refine o_callP cf_rnumber (by simp only [List.map,ev,q] <;> rfl) (rd_num hI'.2.2.1 4 (by omega) (by omega) (by (try simp only [List.length_drop]); omega)) rfl rfl ?_ (by
        rintro _ w' ⟨rfl,hno,G⟩
        refine .inr ⟨_,rfl,rfl,.inr ⟨_,rfl,rfl,fun hq=>?_,hI'.2.1.trans G⟩⟩
        have hq:=hq.2.2 (by simpa using hk3)
        (try simp only [List.length_drop] at hno); omega)
      rintro _ w' ⟨hok,rfl,G,R⟩
      exact eo_nil (.inl ⟨rfl,rfl,_,rfl,G,⟨hI'.rd G R,by simp only [List.length_drop] at hok; omega⟩,rfl⟩)
     ·intro ρ w2 F2 hX hI hS hρ
      have q1:ρ 47=.pointer (some ⟨b5,7,none⟩):=hS 7 (by decide) 47 rfl
      have q2:ρ 46=.int .u64 (IntKind.u64.wrap ((BitVec.ofInt IntKind.u64.bits (IntKind.u64.wrap (leN (s.take 4):Int)) ||| BitVec.ofInt IntKind.u64.bits (IntKind.u64.wrap ((IntKind.u64.wrap (leN ((s.drop 4).take 4):Int)) * 2 ^ min ((32:Int)).toNat IntKind.u64.bits))).toNat:Int)):=hS 6 (by decide) 46 rfl
      have hI':VS w b b4 b5 ((s.drop 4).drop 4) [.int .i64 k,.int .i64 (0),.int .i64 (0),.bool (false),str ([]),.slice none 0 0,.slice none 0 0,.int .u64 ((IntKind.u64.wrap (leN (s.take 4):Int)))] w2:=hI.1
      refine o_store (show ev ρ _=_ from q1) hI'.2.2.2.2 (vs:=[.int .u64 (IntKind.u64.wrap ((BitVec.ofInt IntKind.u64.bits (IntKind.u64.wrap (leN (s.take 4):Int)) ||| BitVec.ofInt IntKind.u64.bits (IntKind.u64.wrap ((IntKind.u64.wrap (leN ((s.drop 4).take 4):Int)) * 2 ^ min ((32:Int)).toNat IntKind.u64.bits))).toNat:Int))]) (congrArg Value.cells q2) sz_uint64 rfl rfl rfl ?_
      intro w' G X
      exact eo_nil (.inl ⟨rfl,rfl,undef,rfl,G,⟨hI'.st G X,hI.2⟩,trivial⟩)
    ·intro ρ w2 F2 hI hS hρ
     have h8:8≤s.length:=hI.2
     replace H:VS w b b4 b5 ((s.drop 4).drop 4) [.int .i64 k,.int .i64 (0),.int .i64 (0),.bool (false),str ([]),.slice none 0 0,.slice none 0 0,.int .u64 ((IntKind.u64.wrap ((BitVec.ofInt IntKind.u64.bits (IntKind.u64.wrap (leN (s.take 4):Int)) ||| BitVec.ofInt IntKind.u64.bits (IntKind.u64.wrap ((IntKind.u64.wrap (leN ((s.drop 4).take 4):Int)) * 2 ^ min ((32:Int)).toNat IntKind.u64.bits))).toNat:Int)))] w2:=hI.1
     have r4:ρ 4=.pointer (some ⟨b4,0,none⟩):=hρ 4 (by kernel_rfl)
     have r5:ρ 5=.pointer (some ⟨b5,0,none⟩):=hρ 5 (by kernel_rfl)
     refine blk_n ?_
     refine sq_n ?_
     refine ec_seq ?_
     refine ec_region ?_
     refine o_w (v:=.agg ([.int .i64 k,.int .i64 (0),.int .i64 (0),.bool (false),str ([]),.slice none 0 0,.slice none 0 0,.int .u64 ((IntKind.u64.wrap ((BitVec.ofInt IntKind.u64.bits (IntKind.u64.wrap (leN (s.take 4):Int)) ||| BitVec.ofInt IntKind.u64.bits (IntKind.u64.wrap ((IntKind.u64.wrap (leN ((s.drop 4).take 4):Int)) * 2 ^ min ((32:Int)).toNat IntKind.u64.bits))).toNat:Int)))]:List Value).toArray) (r_lda agg_api_Value r5 (vs:=[.int .i64 k,.int .i64 (0),.int .i64 (0),.bool (false),str ([]),.slice none 0 0,.slice none 0 0,.int .u64 ((IntKind.u64.wrap ((BitVec.ofInt IntKind.u64.bits (IntKind.u64.wrap (leN (s.take 4):Int)) ||| BitVec.ofInt IntKind.u64.bits (IntKind.u64.wrap ((IntKind.u64.wrap (leN ((s.drop 4).take 4):Int)) * 2 ^ min ((32:Int)).toNat IntKind.u64.bits))).toNat:Int)))]) rfl (H.2.2.2.2.part (o:=0) (n:=8) rfl)) ?_
     refine o_store (show ev _ _=_ from r4) H.2.2.2.1 (vs:=[.int .i64 k,.int .i64 (0),.int .i64 (0),.bool (false),str ([]),.slice none 0 0,.slice none 0 0,.int .u64 ((IntKind.u64.wrap ((BitVec.ofInt IntKind.u64.bits (IntKind.u64.wrap (leN (s.take 4):Int)) ||| BitVec.ofInt IntKind.u64.bits (IntKind.u64.wrap ((IntKind.u64.wrap (leN ((s.drop 4).take 4):Int)) * 2 ^ min ((32:Int)).toNat IntKind.u64.bits))).toNat:Int)))]) rfl sz_api_Value rfl rfl rfl ?_
     intro w' G X
     refine eo_nil_sq ?_
     refine ec_ret ?_
     exact endr1 (rv_a r4 agg_api_Value X (vs:=[.int .i64 k,.int .i64 (0),.int .i64 (0),.bool (false),str ([]),.slice none 0 0,.slice none 0 0,.int .u64 ((IntKind.u64.wrap ((BitVec.ofInt IntKind.u64.bits (IntKind.u64.wrap (leN (s.take 4):Int)) ||| BitVec.ofInt IntKind.u64.bits (IntKind.u64.wrap ((IntKind.u64.wrap (leN ((s.drop 4).take 4):Int)) * 2 ^ min ((32:Int)).toNat IntKind.u64.bits))).toNat:Int)))]) rfl rfl) (.inl ⟨_,rfl,⟨fun c=>absurd c (by simpa using hk1),fun c=>absurd c (by simpa using hk2),fun _=>h8⟩,H.2.1.stp G (fun m hm=>by rw [List.mem_singleton] at hm; rw [hm]; exact .inr H.1.2.2.2.2),none,0,none,0,by unfold readV; rw [hk1,hk2,hk3]; rfl,by unfold readV; rw [hk1,hk2,hk3]; exact stb_nil,by unfold readV; rw [hk1,hk2,hk3]; exact stb_nil⟩)
   ·refine ec_skip ?_
    refine blk_n ?_
    refine sq_n ?_
    refine ec_seq ?_
    refine ec_region ?_
    refine o_w (v:=.agg ([.int .i64 k,.int .i64 (0),.int .i64 (0),.bool (false),str ([]),.slice none 0 0,.slice none 0 0,.int .u64 (0)]:List Value).toArray) (r_lda agg_api_Value rfl (vs:=[.int .i64 k,.int .i64 (0),.int .i64 (0),.bool (false),str ([]),.slice none 0 0,.slice none 0 0,.int .u64 (0)]) rfl (H.2.2.2.2.part (o:=0) (n:=8) rfl)) ?_
    refine o_store rfl H.2.2.2.1 (vs:=[.int .i64 k,.int .i64 (0),.int .i64 (0),.bool (false),str ([]),.slice none 0 0,.slice none 0 0,.int .u64 (0)]) rfl sz_api_Value rfl rfl rfl ?_
    intro w' G X
    refine eo_nil_sq ?_
    refine ec_ret ?_
    exact endr1 (rv_a rfl agg_api_Value X (vs:=[.int .i64 k,.int .i64 (0),.int .i64 (0),.bool (false),str ([]),.slice none 0 0,.slice none 0 0,.int .u64 (0)]) rfl rfl) (.inl ⟨_,rfl,⟨fun c=>absurd c (by simpa using hk1),fun c=>absurd c (by simpa using hk2),fun c=>absurd c (by simpa using hk3)⟩,H.2.1.stp G (fun m hm=>by rw [List.mem_singleton] at hm; rw [hm]; exact .inr H.1.2.2.2.2),none,0,none,0,by unfold readV; rw [hk1,hk2,hk3]; rfl,by unfold readV; rw [hk1,hk2,hk3]; exact stb_nil,by unfold readV; rw [hk1,hk2,hk3]; exact stb_nil⟩)
end Go.Proofs.Ytbijobepjjokmaa
