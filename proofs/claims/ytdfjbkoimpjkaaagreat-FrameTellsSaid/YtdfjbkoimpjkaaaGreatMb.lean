import Derived.Test.YtdfjbkoimpjkaaaGreatHk
import Derived.Test.YtdfjbkoimpjkaaaGreatQl
import Derived.Test.YtdfjbkoimpjkaaaGreatJd
namespace Go.Proofs.YtdfjbkoimpjkaaaGreat
open Go Go.RowKit
set_option linter.unusedVariables false
set_option linter.unusedSimpArgs false
theorem un_digest_sums : Tryz.prog.underlying 114=some (.array 4 3):=Tryz.underlying114
theorem in_digest_sums:(Tryz.prog.info? 114).map (fun i=>(i.zero,i.size,i.bytes))=some (some (.agg #[.int .i64 0,.int .i64 0,.int .i64 0,.int .i64 0]),4,32):=by kernel_rfl
theorem zero_digest_sums:Zero Tryz.prog 114 (.agg #[.int .i64 0,.int .i64 0,.int .i64 0,.int .i64 0]):=zero_of in_digest_sums
theorem sz_digest_sums:Sz Tryz.prog 114 4:=sz_of in_digest_sums
theorem agg_digest_sums:Agg Tryz.prog 114 4:=⟨⟨_,Tryz.underlying114,trivial⟩,sz_digest_sums⟩
theorem cf_digest_Get:CF Tryz.prog 42:=fun _ _=>by kernel_rfl
theorem cf_ref02_Sum:CF Tryz.prog 67:=fun _ _=>by kernel_rfl
theorem cf_ref02_on:CF Tryz.prog 86:=fun _ _=>by kernel_rfl
theorem cf_ref02_step:CF Tryz.prog 100:=fun _ _=>by kernel_rfl
def ref02_step_raw (d0:Int) (d1:Int) (y:Int):Prop :=
 (((Int.tmod d0 (2:Int)) != d1)=true→(y=(IntKind.u32.wrap ((BitVec.ofInt IntKind.u32.bits (IntKind.u32.wrap (Int.tdiv d0 (2:Int))) ^^^ BitVec.ofInt IntKind.u32.bits (3988292384:Int)).toNat:Int))))∧(((Int.tmod d0 (2:Int)) != d1)=false→(y=(IntKind.u32.wrap (Int.tdiv d0 (2:Int)))))
set_option maxRecDepth 20000 in
set_option maxHeartbeats 4000000 in
theorem ref02_step_c {L:List Nat} {w:World} (d0:Int) (d1:Int) (hL:Lt L w) {y:Int} (h:ref02_step_raw d0 d1 y) :
  Calls Tryz.prog 100 [.int .u32 d0,.int .u32 d1].toArray w (Ret fun v w'=>Ext w w'∧v=.int .u32 y):=by
 unfold ref02_step_raw at h
 refine calls_ec Tryz.func100 rfl rfl rfl ?_
 refine ec_sr ?_
 refine o_w (v:=.int .u32 0) (r_asg rfl) ?_
 refine eo_nil_sq ?_
 refine ec_seq ?_
 refine ec_sr ?_
 refine o_w (v:=.int .u32 d0) (r_mov rfl) ?_
 refine o_w (v:=.int .u32 (Int.tmod d0 (2:Int))) (r_rem rfl rfl rfl) ?_
 refine o_w (v:=.int .u32 d1) (r_mov rfl) ?_
 refine o_w (v:=.bool ((Int.tmod d0 (2:Int)) != d1)) (r_int rfl rfl rfl) ?_
 refine eo_nil_sq ?_
 refine ec_cond rfl (fun hc1=>?_) (fun hc1=>?_)
 ·replace h:=h.1 hc1
  refine ec_sr ?_
  refine o_w (v:=.int .u32 d0) (r_mov rfl) ?_
  refine o_w (v:=.int .u32 (IntKind.u32.wrap (Int.tdiv d0 (2:Int)))) (r_quo rfl rfl rfl) ?_
  refine o_w (v:=.int .u32 (IntKind.u32.wrap ((BitVec.ofInt IntKind.u32.bits (IntKind.u32.wrap (Int.tdiv d0 (2:Int))) ^^^ BitVec.ofInt IntKind.u32.bits (3988292384:Int)).toNat:Int))) (r_int rfl rfl rfl) ?_
  refine o_w (v:=.int .u32 (IntKind.u32.wrap ((BitVec.ofInt IntKind.u32.bits (IntKind.u32.wrap (Int.tdiv d0 (2:Int))) ^^^ BitVec.ofInt IntKind.u32.bits (3988292384:Int)).toNat:Int))) (r_asg rfl) ?_
  refine eo_nil_sq ?_
  refine ec_ret ?_
  refine sq_ret ?_
  subst h
  exact (end1 rfl ⟨_,rfl,(Fr.refl _ _),rfl⟩)
 ·replace h:=h.2 hc1
  refine ec_skip ?_
  refine sq_n ?_
  refine ec_sr ?_
  refine o_w (v:=.int .u32 d0) (r_mov rfl) ?_
  refine o_w (v:=.int .u32 (IntKind.u32.wrap (Int.tdiv d0 (2:Int)))) (r_quo rfl rfl rfl) ?_
  refine o_w (v:=.int .u32 (IntKind.u32.wrap (Int.tdiv d0 (2:Int)))) (r_asg rfl) ?_
  refine eo_nil_sq ?_
  refine ec_ret ?_
  subst h
  exact (end1 rfl ⟨_,rfl,(Fr.refl _ _),rfl⟩)
def ref02_on_b4 (s4:Int × Int × Int) (z4:(Int × Int × Int) ⊕ (Int × Int × Int)):Prop :=
 ((decide (s4.2.2<8))=true→(∃ x7,ref02_step_raw s4.1 (Int.tmod s4.2.1 (2:Int)) x7∧(z4=.inl (x7,(IntKind.u32.wrap (Int.tdiv s4.2.1 (2:Int))),(IntKind.i64.wrap (s4.2.2 + (1:Int)))))))∧((decide (s4.2.2<8))=false→(z4=.inr (s4.1,s4.2.1,s4.2.2)))
def ref02_on_b1 (d1:Str) (s1:Int × Int) (z1:(Int × Int) ⊕ (Int × Int)):Prop :=
 ((decide (s1.2<(d1.length:Int)))=true→((0≤s1.2∧s1.2<(d1.length:Int))∧(∃ x4,LoopR (ref02_on_b4) (s1.1,(IntKind.u32.wrap ((nth d1 s1.2).toNat:Int)),(0:Int)) x4∧(z1=.inl (x4.1,(IntKind.i64.wrap (s1.2 + (1:Int))))))))∧((decide (s1.2<(d1.length:Int)))=false→(z1=.inr (s1.1,s1.2)))
def ref02_on_raw (d0:Int) (d1:Str) (y:Int):Prop :=
 ∃ x1,LoopR (ref02_on_b1 d1) (d0,(0:Int)) x1∧(y=x1.1)
set_option maxRecDepth 20000 in
set_option maxHeartbeats 4000000 in
theorem ref02_on_c {L:List Nat} {w:World} (d0:Int) (d1:Str) (hL:Lt L w) {y:Int} (h:ref02_on_raw d0 d1 y) :
  Calls Tryz.prog 86 [.int .u32 d0,str d1].toArray w (Ret fun v w'=>Ext w w'∧v=.int .u32 y):=by
 unfold ref02_on_raw at h
 refine calls_ec Tryz.func86 rfl rfl rfl ?_
 refine ec_sr ?_
 refine o_w (v:=.int .u32 0) (r_asg rfl) ?_
 refine eo_nil_sq ?_
 refine ec_seq ?_
 refine ec_sr ?_
 refine o_w (v:=.int .i64 0) (r_asg rfl) ?_
 refine eo_nil_sq ?_
 refine ec_block ?_
 obtain ⟨x1,hl1,h⟩:=h
 refine ec_loopE 0 (I:=(fun (s1:Int × Int) ρ ds w'=>∃ (ρ':Env),ρ=envs ρ' [(0,.int .u32 s1.1),(5,.int .i64 s1.2),(1,str d1)]∧ds=[]∧Fr L w w'∧Ext w w')) ?_ hl1 ?_ ?_
 ·intro s1 z1 ρ1 ds1 w1r hI1 hb1
  obtain ⟨ρ1r,rfl,rfl,F1r,E1r⟩:=hI1
  have h:=hb1
  unfold ref02_on_b1 at h
  refine ec_seq ?_
  refine ec_sr ?_
  refine o_w (v:=.int .i64 s1.2) (r_mov rfl) ?_
  refine o_w (v:=str d1) (r_mov rfl) ?_
  refine o_w (v:=.int .i64 (d1.length:Int)) (r_len_str un_string rfl) ?_
  refine o_w (v:=.bool (decide (s1.2<(d1.length:Int)))) (r_int rfl rfl rfl) ?_
  refine eo_nil_sq ?_
  refine ec_cond rfl (fun hc2=>?_) (fun hc2=>?_)
  ·replace h:=h.1 hc2
   refine ec_skip ?_
   refine sq_n ?_
   refine ec_seq ?_
   refine ec_block ?_
   refine ec_sr ?_
   refine o_w (v:=str d1) (r_mov rfl) ?_
   refine o_w (v:=.int .i64 s1.2) (r_mov rfl) ?_
   obtain ⟨ha3,h⟩:=h
   refine o_w (v:=.int .u8 ((nth d1 s1.2).toNat:Int)) (r_ix_str un_string rfl rfl ha3.1 ha3.2) ?_
   refine o_w (v:=.int .u32 (IntKind.u32.wrap ((nth d1 s1.2).toNat:Int))) (r_conv un_uint8 un_uint32 rfl) ?_
   refine o_w (v:=.int .u32 (IntKind.u32.wrap ((nth d1 s1.2).toNat:Int))) (r_asg rfl) ?_
   refine eo_r ?_
   refine o_w (v:=.int .i64 0) (r_asg rfl) ?_
   refine eo_nil_sq ?_
   refine ec_block ?_
   obtain ⟨x4,hl4,h⟩:=h
   refine ec_loopE 2 (I:=(fun (s4:Int × Int × Int) ρ ds w'=>∃ (ρ':Env),ρ=envs ρ' [(0,.int .u32 s4.1),(6,.int .u32 s4.2.1),(7,.int .i64 s4.2.2),(1,str d1),(5,.int .i64 s1.2)]∧ds=[]∧Fr L w1r w'∧Ext w w')) ?_ hl4 ?_ ?_
   ·intro s4 z4 ρ4 ds4 w4r hI4 hb4
    obtain ⟨ρ4r,rfl,rfl,F4r,E4r⟩:=hI4
    have h:=hb4
    unfold ref02_on_b4 at h
    refine ec_seq ?_
    refine ec_sr ?_
    refine o_w (v:=.int .i64 s4.2.2) (r_mov rfl) ?_
    refine o_w (v:=.bool (decide (s4.2.2<8))) (r_int rfl rfl rfl) ?_
    refine eo_nil_sq ?_
    refine ec_cond rfl (fun hc6=>?_) (fun hc6=>?_)
    ·replace h:=h.1 hc6
     refine ec_skip ?_
     refine sq_n ?_
     refine ec_seq ?_
     refine ec_block ?_
     refine ec_sr ?_
     refine o_w (v:=.int .u32 s4.1) (r_mov rfl) ?_
     refine o_w (v:=.int .u32 s4.2.1) (r_mov rfl) ?_
     refine o_w (v:=.int .u32 (Int.tmod s4.2.1 (2:Int))) (r_rem rfl rfl rfl) ?_
     obtain ⟨x7,hx7,h⟩:=h
     refine o_call cf_ref02_step rfl (ref02_step_c s4.1 (Int.tmod s4.2.1 (2:Int)) (hL.fr E4r) hx7) rfl rfl ?_
     rintro _ w7 ⟨F7,rfl⟩
     have E8:=E4r.trans F7
     refine o_w (v:=.int .u32 x7) (r_asg rfl) ?_
     refine eo_q ?_
     refine o_w (v:=.int .u32 s4.2.1) (r_mov rfl) ?_
     refine o_w (v:=.int .u32 (IntKind.u32.wrap (Int.tdiv s4.2.1 (2:Int)))) (r_quo rfl rfl rfl) ?_
     refine o_w (v:=.int .u32 (IntKind.u32.wrap (Int.tdiv s4.2.1 (2:Int)))) (r_asg rfl) ?_
     refine eo_nil ?_
     refine blk_n ?_
     refine sq_n ?_
     refine ec_region ?_
     refine o_w (v:=.int .i64 s4.2.2) (r_mov rfl) ?_
     refine o_w (v:=.int .i64 (IntKind.i64.wrap (s4.2.2 + (1:Int)))) (r_int rfl rfl rfl) ?_
     refine o_w (v:=.int .i64 (IntKind.i64.wrap (s4.2.2 + (1:Int)))) (r_asg rfl) ?_
     refine eo_nil ?_
     subst h
     exact lq_n ⟨_,envs_self ⟨rfl,rfl,rfl,rfl,rfl,trivial⟩,rfl,(F4r.trans (Fr.ext F7)),E8⟩
    ·replace h:=h.2 hc6
     refine ec_exit ?_
     refine sq_exit ?_
     subst h
     exact lq_x ⟨_,envs_self ⟨rfl,rfl,rfl,rfl,rfl,trivial⟩,rfl,F4r,E4r⟩
   ·exact ⟨_,envs_self ⟨rfl,rfl,rfl,rfl,rfl,trivial⟩,rfl,(Fr.refl _ _),E1r⟩
   ·rintro ρ4e ds4e w4e ⟨ρ4e,rfl,rfl,F4e,E4e⟩
    have G11:Fr L w w4e:=F1r.stp F4e (fun _ h=>.inl h)
    refine blk_hit ?_
    refine blk_n ?_
    refine sq_n ?_
    refine ec_region ?_
    refine o_w (v:=.int .i64 s1.2) (r_mov rfl) ?_
    refine o_w (v:=.int .i64 (IntKind.i64.wrap (s1.2 + (1:Int)))) (r_int rfl rfl rfl) ?_
    refine o_w (v:=.int .i64 (IntKind.i64.wrap (s1.2 + (1:Int)))) (r_asg rfl) ?_
    refine eo_nil ?_
    subst h
    exact lq_n ⟨_,envs_self ⟨rfl,rfl,rfl,trivial⟩,rfl,G11,E4e⟩
  ·replace h:=h.2 hc2
   refine ec_exit ?_
   refine sq_exit ?_
   subst h
   exact lq_x ⟨_,envs_self ⟨rfl,rfl,rfl,trivial⟩,rfl,F1r,E1r⟩
 ·exact ⟨_,envs_self ⟨rfl,rfl,rfl,trivial⟩,rfl,(Fr.refl _ _),(Fr.refl _ _)⟩
 ·rintro ρ1e ds1e w1e ⟨ρ1e,rfl,rfl,F1e,E1e⟩
  refine blk_hit ?_
  refine sq_n ?_
  refine ec_sr ?_
  refine o_w (v:=.int .u32 x1.1) (r_mov rfl) ?_
  refine o_w (v:=.int .u32 x1.1) (r_asg rfl) ?_
  refine eo_nil_sq ?_
  refine ec_ret ?_
  subst h
  exact (end1 rfl ⟨_,rfl,E1e,rfl⟩)
def ref02_Sum_raw (d0:Str) (y:Int):Prop :=
 ∃ x1,ref02_on_raw (4294967295:Int) d0 x1∧(y=(IntKind.i64.wrap (IntKind.u32.wrap ((BitVec.ofInt IntKind.u32.bits x1 ^^^ BitVec.ofInt IntKind.u32.bits (4294967295:Int)).toNat:Int))))
set_option maxRecDepth 20000 in
set_option maxHeartbeats 4000000 in
theorem ref02_Sum_c {L:List Nat} {w:World} (d0:Str) (hL:Lt L w) {y:Int} (h:ref02_Sum_raw d0 y) :
  Calls Tryz.prog 67 [str d0].toArray w (Ret fun v w'=>Ext w w'∧v=.int .i64 y):=by
 unfold ref02_Sum_raw at h
 refine calls_ec Tryz.func67 rfl rfl rfl ?_
 refine ec_sr ?_
 refine o_w (v:=.int .i64 0) (r_asg rfl) ?_
 refine eo_r ?_
 refine o_w (v:=str d0) (r_mov rfl) ?_
 obtain ⟨x1,hx1,h⟩:=h
 refine o_call cf_ref02_on rfl (ref02_on_c (4294967295:Int) d0 hL hx1) rfl rfl ?_
 rintro _ w1 ⟨F1,rfl⟩
 refine o_w (v:=.int .u32 (IntKind.u32.wrap ((BitVec.ofInt IntKind.u32.bits x1 ^^^ BitVec.ofInt IntKind.u32.bits (4294967295:Int)).toNat:Int))) (r_int rfl rfl rfl) ?_
 refine o_w (v:=.int .i64 (IntKind.i64.wrap (IntKind.u32.wrap ((BitVec.ofInt IntKind.u32.bits x1 ^^^ BitVec.ofInt IntKind.u32.bits (4294967295:Int)).toNat:Int)))) (r_conv un_uint32 un_int rfl) ?_
 refine o_w (v:=.int .i64 (IntKind.i64.wrap (IntKind.u32.wrap ((BitVec.ofInt IntKind.u32.bits x1 ^^^ BitVec.ofInt IntKind.u32.bits (4294967295:Int)).toNat:Int)))) (r_asg rfl) ?_
 refine eo_nil_sq ?_
 refine ec_ret ?_
 subst h
 exact (end1 rfl ⟨_,rfl,F1,rfl⟩)

/-- One bit, on whole numbers. -/
def bN (x : Nat) : Nat := (x / 2) ^^^ (if x % 2 = 1 then 3988292384 else 0)
def b4 (x:Nat):Nat:=bN (bN (bN (bN x)))
theorem xdiv (a b k:Nat):(a ^^^ b) / 2 ^ k=a / 2 ^ k ^^^ b / 2 ^ k:=by
 rw [← Nat.shiftRight_eq_div_pow,← Nat.shiftRight_eq_div_pow,← Nat.shiftRight_eq_div_pow,Nat.shiftRight_xor_distrib]
theorem bN_xor (a b:Nat):bN (a ^^^ b)=bN a ^^^ bN b:=by
 unfold bN
 have h1:(a ^^^ b) / 2=a / 2 ^^^ b / 2:=by simpa using xdiv a b 1
 have h2:(a ^^^ b) % 2=(a % 2) ^^^ (b % 2):=by simpa using Nat.xor_mod_two_pow (a:=a) (b:=b) (n:=1)
 rw [h1,h2]
 have ha:a % 2=0∨a % 2=1:=by omega
 have hb:b % 2=0∨b % 2=1:=by omega
 have comm:∀ x y z u:Nat,(x ^^^ y) ^^^ (z ^^^ u)=(x ^^^ z) ^^^ (y ^^^ u):=fun x y z u=>by
  rw [Nat.xor_assoc,Nat.xor_assoc]; congr 1; rw [← Nat.xor_assoc,Nat.xor_comm y z,Nat.xor_assoc]
 rcases ha with ha | ha <;> rcases hb with hb | hb <;> rw [ha,hb,comm] <;> simp
theorem bN_even (y:Nat):bN (2 * y)=y:=by
 unfold bN
 rw [if_neg (by omega),Nat.xor_zero]; omega
theorem b4_xor (a b:Nat):b4 (a ^^^ b)=b4 a ^^^ b4 b:=by unfold b4; rw [bN_xor,bN_xor,bN_xor,bN_xor]
theorem b4_16 (h:Nat):b4 (16 * h)=h:=by
 unfold b4
 rw [show 16 * h=2 * (2 * (2 * (2 * h))) by omega,bN_even,bN_even,bN_even,bN_even]
theorem split16 (m:Nat):m=(16 * (m / 16)) ^^^ (m % 16):=by
 apply Nat.eq_of_testBit_eq
 intro i
 rw [Nat.testBit_xor]
 have h1:16 * (m / 16)=2 ^ 4 * (m / 16):=by omega
 have h2:m % 16=m % 2 ^ 4:=rfl
 rw [h1,h2,Nat.testBit_mod_two_pow,Nat.testBit_two_pow_mul]
 have h3:m / 16=m >>> 4:=by rw [Nat.shiftRight_eq_div_pow]
 rw [h3,Nat.testBit_shiftRight]
 by_cases hi:i<4
 ·have:¬ (4≤i):=by omega
  simp [hi,this]
 ·have h4:4≤i:=by omega
  simp [hi,h4,Nat.add_sub_cancel' h4]
theorem b4_split (m:Nat):b4 m=(m / 16) ^^^ b4 (m % 16):=by
 conv=>lhs; rw [split16 m]
 rw [b4_xor,b4_16]
def stN (n p:Nat):Nat:=b4 ((n ^^^ p) % 16) ^^^ (n / 16)
theorem stN_b4 (n p:Nat) (hp:p<16):stN n p=b4 (n ^^^ p):=by
 rw [b4_split (n ^^^ p)]
 have:(n ^^^ p) / 16=n / 16:=by
  have:=xdiv n p 4
  rw [show (2:Nat) ^ 4=16 from rfl] at this
  rw [this,Nat.div_eq_of_lt hp,Nat.xor_zero]
 rw [this]; unfold stN; rw [Nat.xor_comm]
theorem bit_in (x b:Nat):bN x ^^^ b=bN (x ^^^ 2 * b):=by rw [bN_xor,bN_even]
theorem dec4 (d:Nat):d % 2 ^^^ 2 * (d / 2 % 2) ^^^ 4 * (d / 4 % 2) ^^^ 8 * (d / 8 % 2)=d % 16:=by
 have h:∀ e,e<16→e % 2 ^^^ 2 * (e / 2 % 2) ^^^ 4 * (e / 4 % 2) ^^^ 8 * (e / 8 % 2)=e:=by decide
 have:=h (d % 16) (Nat.mod_lt _ (by decide))
 rw [show d % 16 % 2=d % 2 by omega,show d % 16 / 2 % 2=d / 2 % 2 by omega,show d % 16 / 4 % 2=d / 4 % 2 by omega,show d % 16 / 8 % 2=d / 8 % 2 by omega] at this
 exact this
/-- Four of the document's bits. -/
theorem bits_4 (n c : Nat) : bN (bN (bN (bN (n ^^^ c % 2) ^^^ c / 2 % 2) ^^^ c / 4 % 2) ^^^ c / 8 % 2) = stN n (c % 16) := by
  rw [stN_b4 n _ (Nat.mod_lt _ (by decide)), ← dec4 c]
  unfold b4
  rw [bit_in, bit_in, bit_in, bit_in, bit_in, bit_in]
  rw [show 2 * (2 * (c / 4 % 2)) = 4 * (c / 4 % 2) by omega, show 2 * (2 * (2 * (c / 8 % 2))) = 8 * (c / 8 % 2) by omega]
  simp only [Nat.xor_assoc]
def byN (n c:Nat):Nat:=stN (stN n (c % 16)) (c / 16)
def onN (n:Nat) (s:Str):Nat:=s.foldl (fun n c=>byN n c.toNat) n
theorem bN_lt {x:Nat} (h:x<4294967296):bN x<4294967296:=by
 unfold bN
 have h1:x / 2<2 ^ 32:=by omega
 split
 ·exact Nat.xor_lt_two_pow h1 (by decide)
 ·exact Nat.xor_lt_two_pow h1 (by decide)
theorem b4_lt {x:Nat} (h:x<4294967296):b4 x<4294967296:=bN_lt (bN_lt (bN_lt (bN_lt h)))
theorem stN_lt {n p:Nat} (h:n<4294967296):stN n p<4294967296:=by
 unfold stN
 have h1:b4 ((n ^^^ p) % 16)<2 ^ 32:=b4_lt (by omega)
 have h2:n / 16<2 ^ 32:=by omega
 exact Nat.xor_lt_two_pow h1 h2
theorem byN_lt {n c:Nat} (h:n<4294967296):byN n c<4294967296:=stN_lt (stN_lt h)
theorem onN_lt:∀ (s:Str) {n:Nat},n<4294967296→onN n s<4294967296
 | [],n,h=>h
 | c::s,n,h=>onN_lt s (byN_lt h)

/-! ### the walk's numbers -/
theorem bvN {n:Nat} (h:n<4294967296):(BitVec.ofInt IntKind.u32.bits (n:Int)).toNat=n:=by
 rw [show IntKind.u32.bits=32 from rfl,BitVec.toNat_ofInt]; omega
theorem u32N {n:Nat} (h:n<4294967296):IntKind.u32.wrap (n:Int)=(n:Int):=by rw [IntKind.wrap_u32]; omega
theorem xorN {a b:Nat} (ha:a<4294967296) (hb:b<4294967296):xorW (a:Int) (b:Int)=((a ^^^ b:Nat):Int):=by
 unfold xorW
 rw [BitVec.toNat_xor,bvN ha,bvN hb]
 exact u32N (Nat.xor_lt_two_pow (n:=32) ha hb)
theorem andN {a k:Nat} (ha:a<4294967296) (hk:k<32):andW (a:Int) ((2 ^ k - 1:Nat):Int)=((a % 2 ^ k:Nat):Int):=by
 have h2:(2:Nat) ^ k≤2 ^ 31:=Nat.pow_le_pow_right (by decide) (by omega)
 have h3:(2:Nat) ^ 31=2147483648:=rfl
 unfold andW
 rw [BitVec.toNat_and,bvN ha,bvN (by omega),Nat.and_two_pow_sub_one_eq_mod]
 exact u32N (Nat.lt_of_le_of_lt (Nat.mod_le _ _) ha)
theorem bitW_N {x:Nat} (h:x<4294967296):bitW (x:Int)=(bN x:Int):=by
 unfold bitW bN
 have h1:andW (x:Int) 1=((x % 2:Nat):Int):=andN (k:=1) h (by decide)
 have h2:(x:Int).fdiv 2=((x / 2:Nat):Int):=by rw [Int.fdiv_eq_ediv_of_nonneg _ (by decide)]; rfl
 rw [h1,h2]
 by_cases hx:x % 2=1
 ·rw [if_pos hx,show (((x % 2:Nat):Int)==1)=true by rw [hx]; rfl]
  exact xorN (b:=3988292384) (by omega) (by decide)
 ·rw [if_neg hx,show (((x % 2:Nat):Int)==1)=false by rw [show x % 2=0 by omega]; rfl,Nat.xor_zero]; rfl
theorem rowF_N {x:Nat} (h:x<16):rowF x=(b4 x:Int):=by
 unfold rowF b4
 have h0:x<4294967296:=by omega
 rw [bitW_N h0,bitW_N (bN_lt h0),bitW_N (bN_lt (bN_lt h0)),bitW_N (bN_lt (bN_lt (bN_lt h0)))]
theorem stepF_N {n p:Nat} (hn:n<4294967296) (hp:p<16):stepF (n:Int) (p:Int)=(stN n p:Int):=by
 unfold stepF stN
 rw [u32N (by omega),xorN hn (by omega)]
 have hx:n ^^^ p<4294967296:=Nat.xor_lt_two_pow (n:=32) hn (by omega)
 rw [show andW ((n ^^^ p:Nat):Int) 15=(((n ^^^ p) % 16:Nat):Int) from andN (k:=4) hx (by decide)]
 rw [Int.toNat_natCast,rowF_N (Nat.mod_lt _ (by decide))]
 rw [show (n:Int).fdiv 16=((n / 16:Nat):Int) by rw [Int.fdiv_eq_ediv_of_nonneg _ (by decide)]; rfl]
 exact xorN (b4_lt (by omega)) (by omega)
theorem and8_N {c:Nat} (hc:c<256):and8 (c:Int) 15=((c % 16:Nat):Int):=by
 unfold and8
 rw [BitVec.toNat_and,show IntKind.u8.bits=8 from rfl,BitVec.toNat_ofInt,BitVec.toNat_ofInt]
 rw [show ((c:Int) % ((2 ^ 8:Nat):Int)).toNat=c by omega,show ((15:Int) % ((2 ^ 8:Nat):Int)).toNat=2 ^ 4 - 1 by decide,Nat.and_two_pow_sub_one_eq_mod,IntKind.wrap_u8]
 omega
theorem byteF_N {n c:Nat} (hn:n<4294967296) (hc:c<256):byteF (n:Int) (c:Int)=(byN n c:Int):=by
 unfold byteF byN
 rw [and8_N hc,show (c:Int).fdiv 16=((c / 16:Nat):Int) by rw [Int.fdiv_eq_ediv_of_nonneg _ (by decide)]; rfl,stepF_N hn (Nat.mod_lt _ (by decide)),stepF_N (stN_lt hn) (by omega)]
theorem byte_lt (c:UInt8):c.toNat<256:=c.toBitVec.isLt
theorem onF_N:∀ (s:Str) {n:Nat},n<4294967296→onF (n:Int) s=(onN n s:Int)
 | [],n,h=>rfl
 | c::s,n,h=>by
  show onF (byteF (n:Int) (c.toNat:Int)) s=_
  rw [byteF_N h (byte_lt c)]
  exact onF_N s (byN_lt h)
/-- The sum of a text. -/
def crcN (s : Str) : Nat := 4294967295 ^^^ onN 4294967295 s
theorem crcN_lt (s:Str):crcN s<4294967296:=Nat.xor_lt_two_pow (n:=32) (by decide) (onN_lt s (by decide))
theorem sumC_N (s:Str):sumC s=(crcN s:Int):=by
 unfold sumC crcN
 rw [show (4294967295:Int)=((4294967295:Nat):Int) from rfl,onF_N s (by decide)]
 have h:=xorN (a:=4294967295) (b:=onN 4294967295 s) (by decide) (onN_lt s (by decide))
 have h2:=crcN_lt s
 unfold crcN at h2
 unfold xorW at h
 rw [show IntKind.u32.max=((4294967295:Nat):Int) from rfl,h,IntKind.wrap_i64]
 omega

/-! ### the document's -/
theorem refStep_ev (n b:Nat) (hn:n<4294967296) (hb:b<2):ref02_step_raw (n:Int) (b:Int) (bN (n ^^^ b):Int):=by
 unfold ref02_step_raw
 have h1:Int.tmod (n:Int) 2=((n % 2:Nat):Int):=by rw [Int.tmod_eq_emod_of_nonneg (by omega)]; omega
 have h2:IntKind.u32.wrap (Int.tdiv (n:Int) 2)=((n / 2:Nat):Int):=by rw [Int.tdiv_eq_ediv_of_nonneg (by omega),IntKind.wrap_u32]; omega
 rw [h1,h2]
 have h3:(n ^^^ b) / 2=n / 2:=by
  have:=xdiv n b 1
  rw [Nat.pow_one] at this
  rw [this,show b / 2=0 by omega,Nat.xor_zero]
 have h4:(n ^^^ b) % 2=(n % 2) ^^^ b:=by
  have:=Nat.xor_mod_two_pow (a:=n) (b:=b) (n:=1)
  rw [Nat.pow_one,Nat.mod_eq_of_lt hb] at this; exact this
 have hm:n % 2=0∨n % 2=1:=by omega
 have hb':b=0∨b=1:=by omega
 have hx:=xorN (a:=n / 2) (b:=3988292384) (by omega) (by decide)
 unfold xorW at hx
 unfold bN
 rw [h3,h4]
 refine ⟨fun h=>?_,fun h=>?_⟩
 ·refine Eq.trans ?_ hx.symm
  rcases hm with hm | hm <;> rcases hb' with rfl | rfl <;> simp [hm] at h ⊢
 ·rcases hm with hm | hm <;> rcases hb' with rfl | rfl <;> simp [hm] at h ⊢
def refSt (n c:Nat):Nat→Nat × Nat
 | 0=>(n,c)
 | k + 1=>(bN ((refSt n c k).1 ^^^ (refSt n c k).2 % 2),(refSt n c k).2 / 2)
theorem refSt_lt {n c:Nat} (hn:n<4294967296) (hc:c<256):∀ k,(refSt n c k).1<4294967296∧(refSt n c k).2<256
 | 0=>⟨hn,hc⟩
 | k + 1=>by
  obtain ⟨h1,h2⟩:=refSt_lt hn hc k
  exact ⟨bN_lt (Nat.xor_lt_two_pow (n:=32) h1 (by omega)),by show (refSt n c k).2 / 2<256; omega⟩
theorem refBits (n c:Nat) (hn:n<4294967296) (hc:c<256):∀ m k,k + m=8→LoopR ref02_on_b4 (((refSt n c k).1:Int),((refSt n c k).2:Int),(k:Int)) (((refSt n c 8).1:Int),((refSt n c 8).2:Int),8)
 | 0,k,hk=>by
  obtain rfl:k=8:=by omega
  exact .done ⟨fun h=>absurd h (by simp),fun _=>rfl⟩
 | m + 1,k,hk=>by
  obtain ⟨h1,h2⟩:=refSt_lt hn hc k
  refine .step (s':=(((refSt n c (k + 1)).1:Int),((refSt n c (k + 1)).2:Int),((k + 1:Nat):Int))) ⟨fun _=>?_,fun h=>absurd h (by simp; omega)⟩ (refBits n c hn hc m (k + 1) (by omega))
  refine ⟨((refSt n c (k + 1)).1:Int),?_,?_⟩
  ·have h3:Int.tmod ((refSt n c k).2:Int) 2=(((refSt n c k).2 % 2:Nat):Int):=by rw [Int.tmod_eq_emod_of_nonneg (by omega)]; omega
   show ref02_step_raw ((refSt n c k).1:Int) (Int.tmod ((refSt n c k).2:Int) 2) _
   rw [h3]
   exact refStep_ev _ _ h1 (by omega)
  ·have h4:IntKind.u32.wrap (Int.tdiv ((refSt n c k).2:Int) 2)=(((refSt n c k).2 / 2:Nat):Int):=by rw [Int.tdiv_eq_ediv_of_nonneg (by omega),IntKind.wrap_u32]; omega
   have h5:IntKind.i64.wrap ((k:Int) + 1)=((k + 1:Nat):Int):=by rw [IntKind.wrap_i64]; omega
   simp only [h4,h5]
   rfl
theorem refSt8 (n c:Nat) (hc:c<256):(refSt n c 8).1=byN n c:=by
 have h1:(refSt n c 4).1=stN n (c % 16):=by
  rw [← bits_4 n c]
  simp only [refSt,Nat.div_div_eq_div_mul,Nat.reduceMul]
 have h2:(refSt n c 4).2=c / 16:=by simp only [refSt,Nat.div_div_eq_div_mul,Nat.reduceMul]
 have h3:(refSt n c 8).1=(refSt (refSt n c 4).1 (refSt n c 4).2 4).1:=rfl
 rw [h3,h1,h2]
 unfold byN
 have h5:=bits_4 (stN n (c % 16)) (c / 16)
 rw [show c / 16 % 16=c / 16 by omega] at h5
 rw [← h5]
 simp only [refSt,Nat.div_div_eq_div_mul,Nat.reduceMul]
theorem onN_succ (n:Nat) (s:Str) {i:Nat} (h:i<s.length):onN n (s.take (i + 1))=byN (onN n (s.take i)) (nth s (i:Int)).toNat:=by
 have:s.take (i + 1)=s.take i++[nth s (i:Int)]:=by
  rw [List.take_succ_eq_append_getElem h]
  simp [nth,h]
 rw [this]; unfold onN; rw [List.foldl_append]; rfl
theorem refOn_loop (n:Nat) (s:Str) (hn:n<4294967296) (hs:s.length≤9223372036854775807):∀ m i,i + m=s.length→LoopR (ref02_on_b1 s) ((onN n (s.take i):Int),(i:Int)) ((onN n s:Int),(s.length:Int))
 | 0,i,hi=>by
  obtain rfl:i=s.length:=by omega
  rw [List.take_length]
  exact .done ⟨fun h=>absurd h (by simp),fun _=>rfl⟩
 | m + 1,i,hi=>by
  have hlt:i<s.length:=by omega
  have h1:=onN_lt (s.take i) hn
  have h2:=byte_lt (nth s (i:Int))
  refine .step (s':=((onN n (s.take (i + 1)):Int),((i + 1:Nat):Int))) ⟨fun _=>⟨⟨by show (0:Int)≤(i:Int); omega,by show (i:Int)<(s.length:Int); omega⟩,?_⟩,fun h=>absurd h (by simp; omega)⟩ (refOn_loop n s hn hs m (i + 1) (by omega))
  refine ⟨(((refSt (onN n (s.take i)) (nth s (i:Int)).toNat 8).1:Int),((refSt (onN n (s.take i)) (nth s (i:Int)).toNat 8).2:Int),8),?_,?_⟩
  ·have:=refBits (onN n (s.take i)) (nth s (i:Int)).toNat h1 h2 8 0 rfl
   show LoopR ref02_on_b4 (_,IntKind.u32.wrap ((nth s (i:Int)).toNat:Int),0) _
   rw [u32N (by omega)]
   exact this
  ·have h5:IntKind.i64.wrap ((i:Int) + 1)=((i + 1:Nat):Int):=by rw [IntKind.wrap_i64]; omega
   show Sum.inl _=Sum.inl _
   rw [onN_succ n s hlt,← refSt8 _ _ h2]
   simp only [h5]
theorem refSumC_ev (s:Str) (hs:s.length≤9223372036854775807):ref02_Sum_raw s (sumC s):=by
 refine ⟨(onN 4294967295 s:Int),⟨((onN 4294967295 s:Int),(s.length:Int)),?_,rfl⟩,?_⟩
 ·exact refOn_loop 4294967295 s (by decide) hs s.length 0 (by omega)
 ·rw [sumC_N]
  have h:=xorN (a:=onN 4294967295 s) (b:=4294967295) (onN_lt s (by decide)) (by decide)
  have h2:=crcN_lt s
  unfold xorW at h
  unfold crcN at h2 ⊢
  rw [show (4294967295:Int)=((4294967295:Nat):Int) from rfl,h,Nat.xor_comm (onN 4294967295 s) 4294967295,IntKind.wrap_i64]
  omega
def crc_Sum_raw (s:Str) (y:Int):Prop:=s.length≤9223372036854775807∧y=sumC s
theorem crcSum_ev (s:Str) (hs:s.length≤9223372036854775807):crc_Sum_raw s (sumC s):=⟨hs,rfl⟩
theorem crc_Sum_c {L:List Nat} {w:World} (d0:Str) (hL:Lt L w) {y:Int} (h:crc_Sum_raw d0 y) :
  Calls Tryz.prog 82 [str d0].toArray w (Ret fun v w'=>Ext w w'∧v=.int .i64 y):=by
 obtain ⟨hs,rfl⟩:=h
 exact crc_Sum_c0 d0 hs
end Go.Proofs.YtdfjbkoimpjkaaaGreat