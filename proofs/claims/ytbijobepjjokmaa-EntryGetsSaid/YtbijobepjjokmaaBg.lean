/- The writer of entry: a value of each kind. -/
import Derived.Test.YtbijobepjjokmaaBe
namespace Go.Proofs.Ytbijobepjjokmaa
open Go Go.RowKit
set_option linter.unusedVariables false
set_option linter.unusedSimpArgs false

def regS (d:Val):List Int:=ints (putO d.time 4).1++(ints (putO d.node 1).1++(ints (putO (bif d.dead then 1 else 0) 1).1++(ints (putO (d.text.length:Int) 1).1++(ints d.text++ints (zeros (8 - (d.text.length:Int)))))))
theorem WS.register {B b:Nat} {w0 w:World} {v0:Value} {l:List Int} (h:WS B w0 b v0 l w) (d:Val) {A1 A2:Option Addr} {c1 c2:Nat} (hsz:l.length≤1000) (ht:d.text.length≤8) :
  Calls Try.prog 30 [.pointer (some ⟨b,0,none⟩),.agg (cVal d A1 c1 A2 c2).toArray].toArray w (Ret fun r w'=>r=.tuple #[]∧WS B w0 b v0 (l++regS d) w'):=by
 have hl1:=putO_len d.time 4
 have hl2:=putO_len d.node 1
 have hl3:=putO_len 0 1
 have hl3':=putO_len 1 1
 have hl4:=putO_len (d.text.length:Int) 1
 obtain ⟨F0,p,v,HB,hp,HO,hN⟩:=h
 have hLt:=WS.lt HB HO
 refine calls_ec Try.func30 rfl rfl rfl ?_
 refine ec_seq ?_
 refine ec_region ?_
 refine o_box (cs:=(cVal d A1 c1 A2 c2)) rfl rfl rfl ?_
 intro b3 w1 e3 F3 B3
 have S3:=B3.stb (nin hLt e3)
 have W1:=WS.start HB hp HO F3
 refine eo_nil_sq ?_
 refine ec_seq ?_
 refine ec_region ?_
 refine o_w (v:=.int .i64 (0:Int)) (r_asg rfl) ?_
 refine eo_nil_sq ?_
 iterate 2 refine ec_seq ?_
 refine ec_region ?_
 refine o_w (v:=.pointer (some ⟨b3,3,none⟩)) (r_fa fld_api_Value_3 rfl rfl) ?_
 refine o_w (v:=.bool d.dead) (r_ld one_bool rfl (S3.now.cell rfl)) ?_
 refine eo_nil_sq ?_
 refine ec_cond rfl (fun hd=>?_) (fun hd=>?_)
 ·refine ec_region ?_
  refine o_w (v:=.int .i64 (1:Int)) (r_asg rfl) ?_
  refine eo_nil_sq ?_
  refine ec_seq ?_
  refine ec_region ?_
  refine o_w (v:=.pointer (some ⟨b,0,none⟩)) (r_mov rfl) ?_
  refine o_w (v:=.pointer (some ⟨b3,1,none⟩)) (r_fa fld_api_Value_1 rfl rfl) ?_
  refine o_w (v:=.int .i64 d.time) (r_ld one_int rfl (S3.now.cell rfl)) ?_
  refine o_call cf_wnumber rfl (W1.number d.time 4 (by omega)) rfl rfl ?_
  rintro _ w2 ⟨rfl,W2⟩
  refine eo_nil_sq ?_
  refine ec_seq ?_
  refine ec_region ?_
  refine o_w (v:=.pointer (some ⟨b,0,none⟩)) (r_mov rfl) ?_
  refine o_w (v:=.pointer (some ⟨b3,2,none⟩)) (r_fa fld_api_Value_2 rfl rfl) ?_
  refine o_w (v:=.int .i64 d.node) (r_ld one_int rfl ((S3.fr W2.1 (fun _ h=>h)).now.cell rfl)) ?_
  refine o_call cf_wnumber rfl (W2.number d.node 1 (by simp only [List.length_append,ints_length]; omega)) rfl rfl ?_
  rintro _ w3 ⟨rfl,W3⟩
  refine eo_nil_sq ?_
  refine ec_seq ?_
  refine ec_region ?_
  refine o_w (v:=.pointer (some ⟨b,0,none⟩)) (r_mov rfl) ?_
  refine o_w (v:=.int .i64 ((1:Int))) (r_mov rfl) ?_
  refine o_call cf_wnumber rfl (W3.number ((1:Int)) 1 (by simp only [List.length_append,ints_length]; omega)) rfl rfl ?_
  rintro _ w4 ⟨rfl,W4⟩
  refine eo_nil_sq ?_
  refine ec_seq ?_
  refine ec_region ?_
  refine o_w (v:=.pointer (some ⟨b,0,none⟩)) (r_mov rfl) ?_
  refine o_w (v:=.pointer (some ⟨b3,4,none⟩)) (r_fa fld_api_Value_4 rfl rfl) ?_
  refine o_w (v:=str d.text) (r_ld one_string rfl ((S3.fr W4.1 (fun _ h=>h)).now.cell rfl)) ?_
  refine o_w (v:=.int .i64 (d.text.length:Int)) (r_len_str un_string rfl) ?_
  refine o_call cf_wnumber rfl (W4.number (d.text.length:Int) 1 (by simp only [List.length_append,ints_length]; omega)) rfl rfl ?_
  rintro _ w5 ⟨rfl,W5⟩
  refine eo_nil_sq ?_
  refine ec_region ?_
  refine o_w (v:=.pointer (some ⟨b,0,none⟩)) (r_mov rfl) ?_
  refine o_w (v:=.pointer (some ⟨b3,4,none⟩)) (r_fa fld_api_Value_4 rfl rfl) ?_
  refine o_w (v:=str d.text) (r_ld one_string rfl ((S3.fr W5.1 (fun _ h=>h)).now.cell rfl)) ?_
  refine o_call cf_wtext rfl (W5.text d.text 8 (by simp only [List.length_append,ints_length]; omega) (by omega) (by omega)) rfl rfl ?_
  rintro _ w6 ⟨rfl,W6⟩
  refine eo_nil ?_
  refine end0 ⟨_,rfl,rfl,WS.cons (F0.trans (Fr.ext F3)) (fun q hq=>hN q hq) ?_⟩
  simpa only [regS,hd,cond_true,List.append_assoc] using W6
 ·refine ec_skip ?_
  refine sq_n ?_
  refine ec_seq ?_
  refine ec_region ?_
  refine o_w (v:=.pointer (some ⟨b,0,none⟩)) (r_mov rfl) ?_
  refine o_w (v:=.pointer (some ⟨b3,1,none⟩)) (r_fa fld_api_Value_1 rfl rfl) ?_
  refine o_w (v:=.int .i64 d.time) (r_ld one_int rfl (S3.now.cell rfl)) ?_
  refine o_call cf_wnumber rfl (W1.number d.time 4 (by omega)) rfl rfl ?_
  rintro _ w2 ⟨rfl,W2⟩
  refine eo_nil_sq ?_
  refine ec_seq ?_
  refine ec_region ?_
  refine o_w (v:=.pointer (some ⟨b,0,none⟩)) (r_mov rfl) ?_
  refine o_w (v:=.pointer (some ⟨b3,2,none⟩)) (r_fa fld_api_Value_2 rfl rfl) ?_
  refine o_w (v:=.int .i64 d.node) (r_ld one_int rfl ((S3.fr W2.1 (fun _ h=>h)).now.cell rfl)) ?_
  refine o_call cf_wnumber rfl (W2.number d.node 1 (by simp only [List.length_append,ints_length]; omega)) rfl rfl ?_
  rintro _ w3 ⟨rfl,W3⟩
  refine eo_nil_sq ?_
  refine ec_seq ?_
  refine ec_region ?_
  refine o_w (v:=.pointer (some ⟨b,0,none⟩)) (r_mov rfl) ?_
  refine o_w (v:=.int .i64 ((0:Int))) (r_mov rfl) ?_
  refine o_call cf_wnumber rfl (W3.number ((0:Int)) 1 (by simp only [List.length_append,ints_length]; omega)) rfl rfl ?_
  rintro _ w4 ⟨rfl,W4⟩
  refine eo_nil_sq ?_
  refine ec_seq ?_
  refine ec_region ?_
  refine o_w (v:=.pointer (some ⟨b,0,none⟩)) (r_mov rfl) ?_
  refine o_w (v:=.pointer (some ⟨b3,4,none⟩)) (r_fa fld_api_Value_4 rfl rfl) ?_
  refine o_w (v:=str d.text) (r_ld one_string rfl ((S3.fr W4.1 (fun _ h=>h)).now.cell rfl)) ?_
  refine o_w (v:=.int .i64 (d.text.length:Int)) (r_len_str un_string rfl) ?_
  refine o_call cf_wnumber rfl (W4.number (d.text.length:Int) 1 (by simp only [List.length_append,ints_length]; omega)) rfl rfl ?_
  rintro _ w5 ⟨rfl,W5⟩
  refine eo_nil_sq ?_
  refine ec_region ?_
  refine o_w (v:=.pointer (some ⟨b,0,none⟩)) (r_mov rfl) ?_
  refine o_w (v:=.pointer (some ⟨b3,4,none⟩)) (r_fa fld_api_Value_4 rfl rfl) ?_
  refine o_w (v:=str d.text) (r_ld one_string rfl ((S3.fr W5.1 (fun _ h=>h)).now.cell rfl)) ?_
  refine o_call cf_wtext rfl (W5.text d.text 8 (by simp only [List.length_append,ints_length]; omega) (by omega) (by omega)) rfl rfl ?_
  rintro _ w6 ⟨rfl,W6⟩
  refine eo_nil ?_
  refine end0 ⟨_,rfl,rfl,WS.cons (F0.trans (Fr.ext F3)) (fun q hq=>hN q hq) ?_⟩
  simpa only [regS,hd,cond_false,List.append_assoc] using W6

/-- Half of the flags, from there on. -/
def lowF (f : Int) : Int := IntKind.i64.wrap (IntKind.u64.wrap ((BitVec.ofInt IntKind.u64.bits f &&& BitVec.ofInt IntKind.u64.bits (4294967295 : Int)).toNat : Int))
def highF (f:Int):Int:=IntKind.i64.wrap (Int.fdiv f (2 ^ min ((32:Int)).toNat IntKind.u64.bits))
def flgS (d:Val):List Int:=ints (putO (lowF d.flags) 4).1++ints (putO (highF d.flags) 4).1
theorem WS.flags {B b:Nat} {w0 w:World} {v0:Value} {l:List Int} (h:WS B w0 b v0 l w) (d:Val) {A1 A2:Option Addr} {c1 c2:Nat} (hsz:l.length≤1000) :
  Calls Try.prog 32 [.pointer (some ⟨b,0,none⟩),.agg (cVal d A1 c1 A2 c2).toArray].toArray w (Ret fun r w'=>r=.tuple #[]∧WS B w0 b v0 (l++flgS d) w'):=by
 have hl1:=putO_len (lowF d.flags) 4
 obtain ⟨F0,p,v,HB,hp,HO,hN⟩:=h
 have hLt:=WS.lt HB HO
 refine calls_ec Try.func32 rfl rfl rfl ?_
 refine ec_seq ?_
 refine ec_region ?_
 refine o_box (cs:=(cVal d A1 c1 A2 c2)) rfl rfl rfl ?_
 intro b3 w1 e3 F3 B3
 have S3:=B3.stb (nin hLt e3)
 have W1:=WS.start HB hp HO F3
 refine eo_nil_sq ?_
 refine ec_seq ?_
 refine ec_region ?_
 refine o_w (v:=.pointer (some ⟨b,0,none⟩)) (r_mov rfl) ?_
 refine o_w (v:=.pointer (some ⟨b3,7,none⟩)) (r_fa fld_api_Value_7 rfl rfl) ?_
 refine o_w (v:=.int .u64 d.flags) (r_ld one_uint64 rfl (S3.now.cell rfl)) ?_
 refine o_w (v:=.int .u64 (IntKind.u64.wrap ((BitVec.ofInt IntKind.u64.bits d.flags &&& BitVec.ofInt IntKind.u64.bits (4294967295:Int)).toNat:Int))) (r_int rfl rfl rfl) ?_
 refine o_w (v:=.int .i64 (lowF d.flags)) (r_conv un_uint64 un_int rfl) ?_
 refine o_call cf_wnumber rfl (W1.number (lowF d.flags) 4 (by omega)) rfl rfl ?_
 rintro _ w2 ⟨rfl,W2⟩
 refine eo_nil_sq ?_
 refine ec_region ?_
 refine o_w (v:=.pointer (some ⟨b,0,none⟩)) (r_mov rfl) ?_
 refine o_w (v:=.pointer (some ⟨b3,7,none⟩)) (r_fa fld_api_Value_7 rfl rfl) ?_
 refine o_w (v:=.int .u64 d.flags) (r_ld one_uint64 rfl ((S3.fr W2.1 (fun _ h=>h)).now.cell rfl)) ?_
 refine o_w (v:=.int .u64 (Int.fdiv d.flags (2 ^ min ((32:Int)).toNat IntKind.u64.bits))) (r_shr rfl rfl rfl) ?_
 refine o_w (v:=.int .i64 (highF d.flags)) (r_conv un_uint64 un_int rfl) ?_
 refine o_call cf_wnumber rfl (W2.number (highF d.flags) 4 (by simp only [List.length_append,ints_length]; omega)) rfl rfl ?_
 rintro _ w3 ⟨rfl,W3⟩
 refine eo_nil ?_
 refine end0 ⟨_,rfl,rfl,WS.cons (F0.trans (Fr.ext F3)) (fun q hq=>hN q hq) ?_⟩
 simpa only [flgS,List.append_assoc] using W3
end Go.Proofs.Ytbijobepjjokmaa

/- The writer of entry: a counter. -/
namespace Go.Proofs.Ytbijobepjjokmaa
open Go Go.RowKit
set_option linter.unusedVariables false
set_option linter.unusedSimpArgs false

def numsS (xs:List Int):List Int:=xs.flatMap fun n=>ints (putO n 2).1
theorem numsS_len:∀ (xs:List Int),(numsS xs).length≤7 * xs.length
 | []=>by simp [numsS]
 | n::xs=>by
  have h1:=numsS_len xs
  have h2:=putO_len n 2
  simp only [numsS,List.flatMap_cons,List.length_append,ints_length,List.length_cons] at h1 ⊢
  omega
theorem numsS_snoc (xs:List Int) (i:Nat) (h:i<xs.length):numsS (xs.take (i + 1))=numsS (xs.take i)++ints (putO (nth xs (i:Int)) 2).1:=by
 have e:xs.take (i + 1)=xs.take i++[xs.getD i default]:=by rw [List.take_add_one]; simp [h]
 rw [e,nth_nat]; simp [numsS,List.flatMap_append]
def cntB (n:Nat) (i:Nat) (z:Nat ⊕ Nat):Prop:=(i<n→z=.inl (i + 1))∧(¬ i<n→z=.inr i)
theorem cnt_loop (n:Nat):∀ (k i:Nat),i + k=n→LoopR (cntB n) i n
 | 0,i,h=>.done ⟨fun c=>by omega,fun _=>by rw [show i=n by omega]⟩
 | k + 1,i,h=>.step ⟨fun _=>rfl,fun c=>by omega⟩ (cnt_loop n k (i + 1) (by omega))
def cntS (d:Val):List Int:=numsS d.plus++numsS d.minus
theorem slc_s_s_int:Slc Try.prog 84 22 1 24 (.slice none 0 0):=⟨Try.underlying84,info_parts' in_s_int⟩
set_option maxRecDepth 20000 in
set_option maxHeartbeats 4000000 in
theorem WS.counter {B b:Nat} {w0 w:World} {v0:Value} {l:List Int} (h:WS B w0 b v0 l w) (d:Val) {A1 A2:Option Addr} {c1 c2:Nat} (hsz:l.length≤1000) (hp8:d.plus.length≤8) (hm8:d.minus.length≤8)
  (HP:Stb (b::own v0) w0 (fun w=>SlC (kI .i64) w A1 c1 d.plus)) (HM:Stb (b::own v0) w0 (fun w=>SlC (kI .i64) w A2 c2 d.minus)) :
  Calls Try.prog 31 [.pointer (some ⟨b,0,none⟩),.agg (cVal d A1 c1 A2 c2).toArray].toArray w (Ret fun r w'=>r=.tuple #[]∧WS B w0 b v0 (l++cntS d) w'):=by
 obtain ⟨F0,p,v,HB,hp,HO,hN⟩:=h
 have hLt:=WS.lt HB HO
 have hup:∀ q∈b::own v,q∈b::own v0∨w0.heap.size≤q:=fun q hq=>by
  rcases List.mem_cons.1 hq with rfl | hq
  ·exact .inl List.mem_cons_self
  ·exact (hN q hq).elim (fun h=>.inl (List.mem_cons_of_mem _ h)) .inr
 have HP0:=HP.up F0 (fun _ h=>h) hup
 have HM0:=HM.up F0 (fun _ h=>h) hup
 refine calls_ec Try.func31 rfl rfl rfl ?_
 refine ec_seq ?_
 refine ec_region ?_
 refine o_box (cs:=(cVal d A1 c1 A2 c2)) rfl rfl rfl ?_
 intro b3 w1 e3 F3 B3
 refine eo_nil_sq ?_
 refine ec_seq ?_
 refine ec_region ?_
 refine o_w (v:=.pointer (some ⟨b3,5,none⟩)) (r_fa fld_api_Value_5 rfl rfl) ?_
 refine o_w (v:=.slice A1 d.plus.length c1) (r_ld one_s_int rfl (B3.cell rfl)) ?_
 refine o_w (v:=.pointer (some ⟨b3,6,none⟩)) (r_fa fld_api_Value_6 rfl rfl) ?_
 refine o_w (v:=.slice A2 d.minus.length c2) (r_ld one_s_int rfl (B3.cell rfl)) ?_
 refine o_bslice slc_s_s_int (vs:=[.slice A1 d.plus.length c1,.slice A2 d.minus.length c2]) (cs:=[.slice A1 d.plus.length c1,.slice A2 d.minus.length c2]) rfl rfl rfl rfl rfl rfl rfl rfl ?_
 intro b12 w2 e12 F12 B12
 have S12:=B12.stb (nin (hLt.fr F3) e12)
 have W2:=WS.start HB hp HO (F3.trans F12)
 have HP2:=HP0.ex (F3.trans F12)
 have HM2:=HM0.ex (F3.trans F12)
 refine o_w (v:=.int .i64 (2:Int)) (r_len_slc slc_s_s_int.1 rfl) ?_
 refine o_w (v:=.int .i64 (0:Int)) (r_mov rfl) ?_
 refine eo_nil_sq ?_
 refine ec_block ?_
 let fL:Nat→List Int:=fun i=>[d.plus,d.minus].getD i []
 let fA:Nat→Option Addr:=fun i=>[A1,A2].getD i none
 let fc:Nat→Nat:=fun i=>[c1,c2].getD i 0
 let pre:Nat→List Int:=fun i=>([d.plus,d.minus].take i).flatMap numsS
 have hpre:∀ i,i<2→pre (i + 1)=pre i++numsS (fL i):=fun i hi=>by
  match i,hi with
  | 0,_=>simp [pre,fL]
  | 1,_=>simp [pre,fL]
 have hpl:∀ i,i≤2→(pre i).length≤112:=fun i hi=>by
  have h1:=numsS_len d.plus
  have h2:=numsS_len d.minus
  match i,hi with
  | 0,_=>simp [pre]
  | 1,_=>simp [pre]; omega
  | 2,_=>simp [pre]; omega
 have hfl:∀ i,i<2→(fL i).length≤8:=fun i hi=>by
  match i,hi with
  | 0,_=>exact hp8
  | 1,_=>exact hm8
 have hcell:∀ i,i<2→[(Value.slice A1 d.plus.length c1),(.slice A2 d.minus.length c2)][i]?=some (.slice (fA i) (fL i).length (fc i)):=fun i hi=>by
  match i,hi with
  | 0,_=>rfl
  | 1,_=>rfl
 have hfact:∀ i,i<2→Stb (b::own v) w2 (fun w=>SlC (kI .i64) w (fA i) (fc i) (fL i)):=fun i hi=>by
  match i,hi with
  | 0,_=>exact HP2
  | 1,_=>exact HM2
 refine ec_loopE 0 (I:=(fun (i:Nat) ρ ds w'=>∃ (ρ':Env),ρ=envs ρ' [(14,.int .i64 (i:Int)),(0,.pointer (some ⟨b,0,none⟩)),(12,.slice (some ⟨b12,0,none⟩) 2 2),(13,.int .i64 (2:Int))]∧ds=[]∧WS B w2 b v (l++pre i) w')) ?_ (cnt_loop 2 2 0 rfl) ?_ ?_
 ·intro i z ρ1 ds1 wr hI hb
  obtain ⟨ρr,rfl,rfl,Wr⟩:=hI
  refine ec_seq ?_
  refine ec_region ?_
  refine o_w (v:=.bool (decide ((i:Int)<(2:Int)))) (r_int rfl rfl rfl) ?_
  refine eo_nil_sq ?_
  refine ec_seq ?_
  refine ec_cond rfl (fun hc=>?_) (fun hc=>?_)
  ·have hi:i<2:=by simp at hc; omega
   obtain rfl:=hb.1 hi
   refine ec_skip ?_
   refine sq_n ?_
   refine ec_seq ?_
   refine ec_block ?_
   refine ec_seq ?_
   refine ec_region ?_
   refine o_w (v:=.pointer (some ⟨b12,i,none⟩)) (r_ia' slc_s_s_int rfl rfl (by omega) hi) ?_
   refine o_w (v:=.slice (fA i) (fL i).length (fc i)) (r_ld one_s_int rfl ((S12.fr Wr.1 (fun _ h=>h)).now.cell (hcell i hi))) ?_
   refine o_w (v:=.slice (fA i) (fL i).length (fc i)) (r_asg rfl) ?_
   refine eo_nil_sq ?_
   refine ec_seq ?_
   refine ec_region ?_
   refine o_w (v:=.slice (fA i) (fL i).length (fc i)) (r_mov rfl) ?_
   refine o_w (v:=.int .i64 ((fL i).length:Int)) (r_len_slc un_s_int rfl) ?_
   refine o_w (v:=.int .i64 (0:Int)) (r_mov rfl) ?_
   refine eo_nil_sq ?_
   refine ec_block ?_
   refine ec_loopE 2 (I:=(fun (j:Nat) ρ ds w'=>∃ (ρ':Env),ρ=envs ρ' [(20,.int .i64 (j:Int)),(0,.pointer (some ⟨b,0,none⟩)),(18,.slice (fA i) (fL i).length (fc i)),(19,.int .i64 ((fL i).length:Int)),(14,.int .i64 (i:Int)),(12,.slice (some ⟨b12,0,none⟩) 2 2),(13,.int .i64 (2:Int))]∧ds=[]∧WS B w2 b v (l++pre i++numsS ((fL i).take j)) w')) ?_ (cnt_loop (fL i).length (fL i).length 0 (by omega)) ?_ ?_
   ·intro j z2 ρ2 ds2 wq hI2 hb2
    obtain ⟨ρq,rfl,rfl,Wq⟩:=hI2
    refine ec_seq ?_
    refine ec_region ?_
    refine o_w (v:=.bool (decide ((j:Int)<((fL i).length:Int)))) (r_int rfl rfl rfl) ?_
    refine eo_nil_sq ?_
    refine ec_seq ?_
    refine ec_cond rfl (fun hc2=>?_) (fun hc2=>?_)
    ·have hj:j<(fL i).length:=by simpa using hc2
     obtain rfl:=hb2.1 hj
     refine ec_skip ?_
     refine sq_n ?_
     refine ec_seq ?_
     refine ec_block ?_
     refine ec_seq ?_
     obtain ⟨cs,_,H⟩:=Stb.elem (by decide) ((hfact i hi).fr Wq.1 (fun _ h=>h)) (j:Int) (by omega) (by omega)
     obtain ⟨rfl,H'⟩:=kI_open2 H
     refine ec_region ?_
     refine o_w (r_ia slc_s_int rfl rfl (((hfact i hi).fr Wq.1 (fun _ h=>h)).now.2 _ (lt_toNat (i:=(j:Int)) (by omega) (by omega))).1 (by omega) (by omega)) ?_
     refine o_w (v:=.int .i64 (nth (fL i) (j:Int))) (r_ld' one_int rfl (elemA_spot _ _ _) (H'.now.1.at0 (elemA_spot _ _ _))) ?_
     refine o_w (v:=.int .i64 (nth (fL i) (j:Int))) (r_asg rfl) ?_
     refine eo_nil_sq ?_
     refine ec_region ?_
     refine o_w (v:=.pointer (some ⟨b,0,none⟩)) (r_mov rfl) ?_
     refine o_w (v:=.int .i64 (nth (fL i) (j:Int))) (r_mov rfl) ?_
     have hn1:=numsS_len ((fL i).take j)
     have hn2:=hpl i (by omega)
     have hn3:=hfl i hi
     refine o_call cf_wnumber rfl (Wq.number (nth (fL i) (j:Int)) 2 (by simp only [List.length_append,List.length_take] at hn1 ⊢; omega)) rfl rfl ?_
     rintro _ w9 ⟨rfl,W9⟩
     refine eo_nil ?_
     refine blk_n ?_
     refine sq_n ?_
     refine ec_region ?_
     have e1:IntKind.i64.wrap ((j:Int) + (1:Int))=((j + 1:Nat):Int):=wrapS hj (by omega)
     refine o_w (v:=.int .i64 ((j + 1:Nat):Int)) (r_int rfl rfl (by show some (Value.int .i64 (IntKind.i64.wrap ((j:Int) + (1:Int))))=_; rw [e1])) ?_
     refine o_w (v:=.int .i64 ((j + 1:Nat):Int)) (r_mov rfl) ?_
     refine eo_nil ?_
     exact lq_n ⟨_,envs_self ⟨rfl,rfl,rfl,rfl,rfl,rfl,rfl,trivial⟩,rfl,by rw [numsS_snoc _ _ hj,← List.append_assoc]; exact W9⟩
    ·have hj:¬ j<(fL i).length:=by simpa using hc2
     obtain rfl:=hb2.2 hj
     refine ec_exit ?_
     refine sq_exit ?_
     exact lq_x ⟨_,envs_self ⟨rfl,rfl,rfl,rfl,rfl,rfl,rfl,trivial⟩,rfl,Wq⟩
   ·exact ⟨_,envs_self ⟨rfl,rfl,rfl,rfl,rfl,rfl,rfl,trivial⟩,rfl,by simpa [numsS] using Wr⟩
   ·rintro ρ3 ds3 w3 ⟨ρ3',rfl,rfl,W3⟩
    refine blk_hit ?_
    refine blk_n ?_
    refine sq_n ?_
    refine ec_region ?_
    have e1:IntKind.i64.wrap ((i:Int) + (1:Int))=((i + 1:Nat):Int):=wrapS hi (by omega)
    refine o_w (v:=.int .i64 ((i + 1:Nat):Int)) (r_int rfl rfl (by show some (Value.int .i64 (IntKind.i64.wrap ((i:Int) + (1:Int))))=_; rw [e1])) ?_
    refine o_w (v:=.int .i64 ((i + 1:Nat):Int)) (r_mov rfl) ?_
    refine eo_nil ?_
    exact lq_n ⟨_,envs_self ⟨rfl,rfl,rfl,rfl,trivial⟩,rfl,by rw [hpre i hi,← List.append_assoc]; rw [List.take_length] at W3; exact W3⟩
  ·have hi:¬ i<2:=by simp at hc; omega
   obtain rfl:=hb.2 hi
   refine ec_exit ?_
   refine sq_exit ?_
   exact lq_x ⟨_,envs_self ⟨rfl,rfl,rfl,rfl,trivial⟩,rfl,Wr⟩
 ·exact ⟨_,envs_self ⟨rfl,rfl,rfl,rfl,trivial⟩,rfl,by simpa [pre] using W2⟩
 ·rintro ρ3 ds3 w3 ⟨ρ3',rfl,rfl,W3⟩
  refine blk_hit ?_
  refine end0 ⟨_,rfl,rfl,WS.cons (F0.trans (Fr.ext (F3.trans F12))) (fun q hq=>hN q hq) ?_⟩
  simpa [pre,cntS] using W3
end Go.Proofs.Ytbijobepjjokmaa
