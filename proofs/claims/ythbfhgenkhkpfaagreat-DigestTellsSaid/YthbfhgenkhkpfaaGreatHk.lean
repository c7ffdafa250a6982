import Derived.Test.YthbfhgenkhkpfaaGreatBd
import Derived.Test.YthbfhgenkhkpfaaGreatBh
import Derived.Test.YthbfhgenkhkpfaaGreatQk
import Derived.Test.YthbfhgenkhkpfaaGreatWn
import Derived.Test.YthbfhgenkhkpfaaGreatSl
namespace Go.Proofs.YthbfhgenkhkpfaaGreat
open Go Go.RowKit
set_option linter.unusedVariables false
set_option linter.unusedSimpArgs false
def octet_Get_b3 (d0:Str) (d1:Int) (d2:Int) (s3:Int × Int) (z3:(Int × Int) ⊕ (Int × Int)):Prop :=
 ((decide (s3.2<d2))=true→((0≤(IntKind.i64.wrap (d1 + s3.2))∧(IntKind.i64.wrap (d1 + s3.2))<(d0.length:Int))∧(decide (0≤(IntKind.i64.wrap ((8:Int) * s3.2)))=true∧(z3=.inl ((IntKind.i64.wrap ((BitVec.ofInt IntKind.i64.bits s3.1 ||| BitVec.ofInt IntKind.i64.bits (IntKind.i64.wrap ((IntKind.i64.wrap ((nth d0 (IntKind.i64.wrap (d1 + s3.2))).toNat:Int)) * 2 ^ min ((IntKind.i64.wrap ((8:Int) * s3.2))).toNat IntKind.i64.bits))).toNat:Int)),(IntKind.i64.wrap (s3.2 + (1:Int))))))))∧((decide (s3.2<d2))=false→(z3=.inr (s3.1,s3.2)))
def octet_Get_raw (d0:Str) (d1:Int) (d2:Int) (y:Int × Int):Prop :=
 (((decide (d2<1))||(decide (7<d2)))=true→(y=((0:Int),(1:Int))))∧(((decide (d2<1))||(decide (7<d2)))=false→(((((decide (d1<0))||(decide ((d0.length:Int)<d1)))||(decide ((IntKind.i64.wrap ((d0.length:Int) - d1))<d2)))=true→(y=((0:Int),(2:Int))))∧((((decide (d1<0))||(decide ((d0.length:Int)<d1)))||(decide ((IntKind.i64.wrap ((d0.length:Int) - d1))<d2)))=false→(∃ x3,LoopR (octet_Get_b3 d0 d1 d2) ((0:Int),(0:Int)) x3∧(y=(x3.1,(0:Int)))))))
set_option maxRecDepth 20000 in
set_option maxHeartbeats 4000000 in
theorem octet_Get_c {L:List Nat} {w:World} (d0:Str) (d1:Int) (d2:Int) (hL:Lt L w) {y:Int × Int} (h:octet_Get_raw d0 d1 d2 y) :
  Calls Tryz.prog 43 [str d0,.int .i64 d1,.int .i64 d2].toArray w (Ret fun v w'=>Ext w w'∧v=.tuple #[.int .i64 y.1,.int .i64 y.2]):=by
 unfold octet_Get_raw at h
 refine calls_ec Tryz.func43 rfl rfl rfl ?_
 refine ec_sr ?_
 iterate 2 refine o_w (v:=.int .i64 0) (r_asg rfl) ?_
 refine eo_nil_sq ?_
 refine ec_seq ?_
 refine ec_block ?_
 refine ec_sr ?_
 refine o_w (v:=.int .i64 d2) (r_mov rfl) ?_
 refine o_w (v:=.bool (decide (d2<1))) (r_int rfl rfl rfl) ?_
 refine o_w (v:=.bool (decide (d2<1))) (r_mov rfl) ?_
 refine o_vg (v:=.int .i64 d2) (want_cf (t:=13) rfl rfl) (fun hk=>(r_mov rfl)) rfl rfl ?_
 refine o_vg (v:=.bool (decide (7<d2))) (want_cf (t:=13) rfl rfl) (fun hk=>(r_int (gdT hk) rfl rfl)) rfl rfl ?_
 refine o_w (v:=.bool ((decide (d2<1))||(decide (7<d2)))) (r_pickOr rfl rfl (fun hf=>(gdT (notT hf)))) ?_
 refine o_w (v:=.bool ((decide (d2<1))||(decide (7<d2)))) (r_asg rfl) ?_
 refine eo_nil_sq ?_
 refine ec_cond rfl (fun hc1=>?_) (fun hc1=>?_)
 ·replace h:=h.1 hc1
  refine ec_sr ?_
  refine o_w (v:=.int .i64 0) (r_asg rfl) ?_
  refine o_w (v:=.int .i64 1) (r_asg rfl) ?_
  refine eo_nil_sq ?_
  refine ec_ret ?_
  refine blk_ret ?_
  refine sq_ret ?_
  subst h
  exact (end2 rfl rfl ⟨_,rfl,(Fr.refl _ _),rfl⟩)
 ·replace h:=h.2 hc1
  refine ec_sr ?_
  refine o_w (v:=.int .i64 d1) (r_mov rfl) ?_
  refine o_w (v:=.bool (decide (d1<0))) (r_int rfl rfl rfl) ?_
  refine o_w (v:=.bool (decide (d1<0))) (r_mov rfl) ?_
  refine o_vg (v:=.int .i64 d1) (want_cf (t:=20) rfl rfl) (fun hk=>(r_mov rfl)) rfl rfl ?_
  refine o_vg (v:=str d0) (want_cf (t:=20) rfl rfl) (fun hk=>(r_mov rfl)) rfl rfl ?_
  refine o_vg (v:=.int .i64 (d0.length:Int)) (want_cf (t:=20) rfl rfl) (fun hk=>(r_len_str un_string (gdT hk))) rfl rfl ?_
  refine o_vg (v:=.bool (decide ((d0.length:Int)<d1))) (want_cf (t:=20) rfl rfl) (fun hk=>(r_int (gdT hk) (gdT hk) rfl)) rfl rfl ?_
  refine o_w (v:=.bool ((decide (d1<0))||(decide ((d0.length:Int)<d1)))) (r_pickOr rfl rfl (fun hf=>(gdT (notT hf)))) ?_
  refine o_w (v:=.bool ((decide (d1<0))||(decide ((d0.length:Int)<d1)))) (r_mov rfl) ?_
  refine o_vg (v:=.int .i64 d2) (want_cf (t:=26) rfl rfl) (fun hk=>(r_mov rfl)) rfl rfl ?_
  refine o_vg (v:=str d0) (want_cf (t:=26) rfl rfl) (fun hk=>(r_mov rfl)) rfl rfl ?_
  refine o_vg (v:=.int .i64 (d0.length:Int)) (want_cf (t:=26) rfl rfl) (fun hk=>(r_len_str un_string (gdT hk))) rfl rfl ?_
  refine o_vg (v:=.int .i64 d1) (want_cf (t:=26) rfl rfl) (fun hk=>(r_mov rfl)) rfl rfl ?_
  refine o_vg (v:=.int .i64 (IntKind.i64.wrap ((d0.length:Int) - d1))) (want_cf (t:=26) rfl rfl) (fun hk=>(r_int (gdT hk) (gdT hk) rfl)) rfl rfl ?_
  refine o_vg (v:=.bool (decide ((IntKind.i64.wrap ((d0.length:Int) - d1))<d2))) (want_cf (t:=26) rfl rfl) (fun hk=>(r_int (gdT hk) (gdT hk) rfl)) rfl rfl ?_
  refine o_w (v:=.bool (((decide (d1<0))||(decide ((d0.length:Int)<d1)))||(decide ((IntKind.i64.wrap ((d0.length:Int) - d1))<d2)))) (r_pickOr rfl rfl (fun hf=>(gdT (notT hf)))) ?_
  refine o_w (v:=.bool (((decide (d1<0))||(decide ((d0.length:Int)<d1)))||(decide ((IntKind.i64.wrap ((d0.length:Int) - d1))<d2)))) (r_asg rfl) ?_
  refine eo_nil_sq ?_
  refine ec_cond rfl (fun hc2=>?_) (fun hc2=>?_)
  ·replace h:=h.1 hc2
   refine ec_sr ?_
   refine o_w (v:=.int .i64 0) (r_asg rfl) ?_
   refine o_w (v:=.int .i64 2) (r_asg rfl) ?_
   refine eo_nil_sq ?_
   refine ec_ret ?_
   refine blk_ret ?_
   refine sq_ret ?_
   subst h
   exact (end2 rfl rfl ⟨_,rfl,(Fr.refl _ _),rfl⟩)
  ·replace h:=h.2 hc2
   refine ec_skip ?_
   refine blk_n ?_
   refine sq_n ?_
   refine ec_sr ?_
   refine o_w (v:=.int .i64 0) (r_asg rfl) ?_
   refine eo_nil_sq ?_
   refine ec_seq ?_
   refine ec_sr ?_
   refine o_w (v:=.int .i64 d2) (r_mov rfl) ?_
   refine o_w (v:=.int .i64 0) (r_mov rfl) ?_
   refine eo_nil_sq ?_
   refine ec_block ?_
   obtain ⟨x3,hl3,h⟩:=h
   refine ec_loopE 1 (I:=(fun (s3:Int × Int) ρ ds w'=>∃ (ρ':Env),ρ=envs ρ' [(8,.int .i64 s3.1),(35,.int .i64 s3.2),(0,str d0),(1,.int .i64 d1),(34,.int .i64 d2)]∧ds=[]∧Fr L w w'∧Ext w w')) ?_ hl3 ?_ ?_
   ·intro s3 z3 ρ3 ds3 w3r hI3 hb3
    obtain ⟨ρ3r,rfl,rfl,F3r,E3r⟩:=hI3
    have h:=hb3
    unfold octet_Get_b3 at h
    refine ec_sr ?_
    refine o_w (v:=.bool (decide (s3.2<d2))) (r_int rfl rfl rfl) ?_
    refine eo_nil_sq ?_
    refine ec_seq ?_
    refine ec_cond rfl (fun hc4=>?_) (fun hc4=>?_)
    ·replace h:=h.1 hc4
     refine ec_skip ?_
     refine sq_n ?_
     refine ec_seq ?_
     refine ec_block ?_
     refine ec_sr ?_
     refine o_w (v:=.int .i64 s3.2) (r_mov rfl) ?_
     refine o_w (v:=.int .i64 s3.2) (r_asg rfl) ?_
     refine eo_q ?_
     refine o_w (v:=.int .i64 s3.1) (r_mov rfl) ?_
     refine o_w (v:=str d0) (r_mov rfl) ?_
     refine o_w (v:=.int .i64 d1) (r_mov rfl) ?_
     refine o_w (v:=.int .i64 s3.2) (r_mov rfl) ?_
     refine o_w (v:=.int .i64 (IntKind.i64.wrap (d1 + s3.2))) (r_int rfl rfl rfl) ?_
     obtain ⟨ha5,h⟩:=h
     refine o_w (v:=.int .u8 ((nth d0 (IntKind.i64.wrap (d1 + s3.2))).toNat:Int)) (r_ix_str un_string rfl rfl ha5.1 ha5.2) ?_
     refine o_w (v:=.int .i64 (IntKind.i64.wrap ((nth d0 (IntKind.i64.wrap (d1 + s3.2))).toNat:Int))) (r_conv un_uint8 un_int rfl) ?_
     refine o_w (v:=.int .i64 s3.2) (r_mov rfl) ?_
     refine o_w (v:=.int .i64 (IntKind.i64.wrap ((8:Int) * s3.2))) (r_int rfl rfl rfl) ?_
     obtain ⟨ha6,h⟩:=h
     refine o_w (v:=.int .i64 (IntKind.i64.wrap ((IntKind.i64.wrap ((nth d0 (IntKind.i64.wrap (d1 + s3.2))).toNat:Int)) * 2 ^ min ((IntKind.i64.wrap ((8:Int) * s3.2))).toNat IntKind.i64.bits))) (r_shl rfl rfl ha6) ?_
     refine o_w (v:=.int .i64 (IntKind.i64.wrap ((BitVec.ofInt IntKind.i64.bits s3.1 ||| BitVec.ofInt IntKind.i64.bits (IntKind.i64.wrap ((IntKind.i64.wrap ((nth d0 (IntKind.i64.wrap (d1 + s3.2))).toNat:Int)) * 2 ^ min ((IntKind.i64.wrap ((8:Int) * s3.2))).toNat IntKind.i64.bits))).toNat:Int))) (r_int rfl rfl rfl) ?_
     refine o_w (v:=.int .i64 (IntKind.i64.wrap ((BitVec.ofInt IntKind.i64.bits s3.1 ||| BitVec.ofInt IntKind.i64.bits (IntKind.i64.wrap ((IntKind.i64.wrap ((nth d0 (IntKind.i64.wrap (d1 + s3.2))).toNat:Int)) * 2 ^ min ((IntKind.i64.wrap ((8:Int) * s3.2))).toNat IntKind.i64.bits))).toNat:Int))) (r_asg rfl) ?_
     refine eo_nil ?_
     refine blk_n ?_
     refine sq_n ?_
     refine ec_region ?_
     refine o_w (v:=.int .i64 (IntKind.i64.wrap (s3.2 + (1:Int)))) (r_int rfl rfl rfl) ?_
     refine o_w (v:=.int .i64 (IntKind.i64.wrap (s3.2 + (1:Int)))) (r_mov rfl) ?_
     refine eo_nil ?_
     subst h
     exact lq_n ⟨_,envs_self ⟨rfl,rfl,rfl,rfl,rfl,trivial⟩,rfl,F3r,E3r⟩
    ·replace h:=h.2 hc4
     refine ec_exit ?_
     refine sq_exit ?_
     subst h
     exact lq_x ⟨_,envs_self ⟨rfl,rfl,rfl,rfl,rfl,trivial⟩,rfl,F3r,E3r⟩
   ·exact ⟨_,envs_self ⟨rfl,rfl,rfl,rfl,rfl,trivial⟩,rfl,(Fr.refl _ _),(Fr.refl _ _)⟩
   ·rintro ρ3e ds3e w3e ⟨ρ3e,rfl,rfl,F3e,E3e⟩
    refine blk_hit ?_
    refine sq_n ?_
    refine ec_sr ?_
    refine o_w (v:=.int .i64 x3.1) (r_mov rfl) ?_
    refine o_w (v:=.int .i64 x3.1) (r_asg rfl) ?_
    refine o_w (v:=.int .i64 0) (r_asg rfl) ?_
    refine eo_nil_sq ?_
    refine ec_ret ?_
    subst h
    exact (end2 rfl rfl ⟨_,rfl,E3e,rfl⟩)
def ref07_num_raw (d0:Int) (d1:Int) (y:Str):Prop :=
 (d0≤9223372036854775807)∧(∃ x1,x1=(putO d0 d1)∧(y=x1.1))
set_option maxRecDepth 20000 in
set_option maxHeartbeats 4000000 in
theorem ref07_num_c {L:List Nat} {w:World} (d0:Int) (d1:Int) (hL:Lt L w) {y:Str} (h:ref07_num_raw d0 d1 y) :
  Calls Tryz.prog 68 [.int .i64 d0,.int .i64 d1].toArray w (Ret fun v w'=>Ext w w'∧v=str y):=by
 unfold ref07_num_raw at h
 refine calls_ec Tryz.func68 rfl rfl rfl ?_
 refine ec_sr ?_
 refine o_w (v:=str []) (r_asg rfl) ?_
 refine eo_r ?_
 refine o_w (v:=.int .i64 d0) (r_mov rfl) ?_
 refine o_w (v:=.int .i64 d1) (r_mov rfl) ?_
 obtain ⟨ha2,h⟩:=h
 obtain ⟨x1,hx1,h⟩:=h
 refine o_call cf_ref01_Put rfl (ref01_Put_c d0 d1 hL (eq_ev hx1 (refPutO_ev d0 d1 ha2))) rfl rfl ?_
 rintro _ w1 ⟨F1,rfl⟩
 refine o_w (v:=.tuple #[str x1.1,.int .i64 x1.2]) (r_mov rfl) ?_
 refine o_w (v:=str x1.1) (r_ext rfl rfl) ?_
 refine o_w (v:=.int .i64 x1.2) (r_ext rfl rfl) ?_
 refine o_w (v:=str x1.1) (r_asg rfl) ?_
 refine o_w (v:=.int .i64 x1.2) (r_asg rfl) ?_
 refine eo_r ?_
 refine o_w (v:=str x1.1) (r_mov rfl) ?_
 refine o_w (v:=str x1.1) (r_asg rfl) ?_
 refine eo_nil_sq ?_
 refine ec_ret ?_
 subst h
 exact (end1 rfl ⟨_,rfl,F1,rfl⟩)
def ref07_pad_raw (d0:Str) (d1:Int) (y:Str):Prop :=
 (0≤(IntKind.i64.wrap (d1 - (d0.length:Int)))∧(IntKind.i64.wrap (d1 - (d0.length:Int))) * 1≤281474976710656∧(IntKind.i64.wrap (d1 - (d0.length:Int)))≤9223372036854775807)∧(d0.length + (bstr (List.replicate ((IntKind.i64.wrap (d1 - (d0.length:Int)))).toNat (0:Int))).length≤9223372036854775807∧(y=(d0++(bstr (List.replicate ((IntKind.i64.wrap (d1 - (d0.length:Int)))).toNat (0:Int))))))
set_option maxRecDepth 20000 in
set_option maxHeartbeats 4000000 in
theorem ref07_pad_c {L:List Nat} {w:World} (d0:Str) (d1:Int) (hL:Lt L w) {y:Str} (h:ref07_pad_raw d0 d1 y) :
  Calls Tryz.prog 69 [str d0,.int .i64 d1].toArray w (Ret fun v w'=>Ext w w'∧v=str y):=by
 unfold ref07_pad_raw at h
 refine calls_ec Tryz.func69 rfl rfl rfl ?_
 refine ec_sr ?_
 refine o_w (v:=str []) (r_asg rfl) ?_
 refine eo_r ?_
 refine o_w (v:=str d0) (r_mov rfl) ?_
 refine o_w (v:=.int .i64 d1) (r_mov rfl) ?_
 refine o_w (v:=str d0) (r_mov rfl) ?_
 refine o_w (v:=.int .i64 (d0.length:Int)) (r_len_str un_string rfl) ?_
 refine o_w (v:=.int .i64 (IntKind.i64.wrap (d1 - (d0.length:Int)))) (r_int rfl rfl rfl) ?_
 have lo1:w.heap.size≤w.heap.size:=Nat.le_refl _
 obtain ⟨ha2,h⟩:=h
 refine o_make (k:=(kI .u8)) slc_s_uint8 rfl rfl (z:=(0:Int)) (fun _=>rfl) rfl rfl ha2 hL rfl rfl (by decide) ?_
 intro v1 w1 F1 O1 N1
 obtain ⟨A3,c4,eA3,H5⟩:=O1.still
 subst eA3
 have Zw1_6:=Fr.refl L w1
 refine o_w (v:=str (bstr (List.replicate ((IntKind.i64.wrap (d1 - (d0.length:Int)))).toNat (0:Int)))) (r_bstr slc_s_uint8 un_uint8 un_string rfl (H5.fr Zw1_6 sI).now) ?_
 obtain ⟨ha8,h⟩:=h
 refine o_w (v:=str (d0++(bstr (List.replicate ((IntKind.i64.wrap (d1 - (d0.length:Int)))).toNat (0:Int))))) (r_cat rfl rfl ha8) ?_
 refine o_w (v:=str (d0++(bstr (List.replicate ((IntKind.i64.wrap (d1 - (d0.length:Int)))).toNat (0:Int))))) (r_asg rfl) ?_
 refine eo_nil_sq ?_
 refine ec_ret ?_
 subst h
 exact (end1 rfl ⟨_,rfl,F1,rfl⟩)
def ref07_bit_raw (d0:Bool) (y:Int):Prop :=
 (d0=true→(y=(1:Int)))∧(d0=false→(y=(0:Int)))
set_option maxRecDepth 20000 in
set_option maxHeartbeats 4000000 in
theorem ref07_bit_c {L:List Nat} {w:World} (d0:Bool) (hL:Lt L w) {y:Int} (h:ref07_bit_raw d0 y) :
  Calls Tryz.prog 89 [.bool d0].toArray w (Ret fun v w'=>Ext w w'∧v=.int .i64 y):=by
 unfold ref07_bit_raw at h
 refine calls_ec Tryz.func89 rfl rfl rfl ?_
 refine ec_sr ?_
 refine o_w (v:=.int .i64 0) (r_asg rfl) ?_
 refine eo_nil_sq ?_
 refine ec_seq ?_
 refine ec_sr ?_
 refine o_w (v:=.bool d0) (r_mov rfl) ?_
 refine eo_nil_sq ?_
 refine ec_cond rfl (fun hc1=>?_) (fun hc1=>?_)
 ·replace h:=h.1 hc1
  refine ec_sr ?_
  refine o_w (v:=.int .i64 1) (r_asg rfl) ?_
  refine eo_nil_sq ?_
  refine ec_ret ?_
  refine sq_ret ?_
  subst h
  exact (end1 rfl ⟨_,rfl,(Fr.refl _ _),rfl⟩)
 ·replace h:=h.2 hc1
  refine ec_skip ?_
  refine sq_n ?_
  refine ec_sr ?_
  refine o_w (v:=.int .i64 0) (r_asg rfl) ?_
  refine eo_nil_sq ?_
  refine ec_ret ?_
  subst h
  exact (end1 rfl ⟨_,rfl,(Fr.refl _ _),rfl⟩)

/-- Bytes as a number, the first the least. -/
def leN : List UInt8 → Nat
  | [] => 0
  | b :: l => b.toNat + 256 * leN l
theorem leN_lt:∀ (l:List UInt8),leN l<256 ^ l.length
 | []=>by simp [leN]
 | b::l=>by
  have h1:=leN_lt l
  have h2:b.toNat<256:=b.toNat_lt
  have e:256 ^ (b::l).length=256 * 256 ^ l.length:=by rw [List.length_cons,Nat.pow_succ,Nat.mul_comm]
  rw [e]; simp only [leN]; omega
theorem leN_snoc:∀ (l:List UInt8) (b:UInt8),leN (l++[b])=leN l + b.toNat * 256 ^ l.length
 | [],b=>by simp [leN]
 | c::l,b=>by
  simp only [List.cons_append,leN,leN_snoc l b,List.length_cons,Nat.pow_succ]
  rw [Nat.mul_add,← Nat.add_assoc,Nat.mul_left_comm,Nat.mul_comm 256 (256 ^ l.length)]
def getO (s:Str) (at_ w:Int):Int × Int :=
 bif decide (w<1)||decide (7<w) then (0,1) else bif (decide (at_<0)||decide ((s.length:Int)<at_))||decide ((s.length:Int) - at_<w) then (0,2) else ((leN ((s.drop at_.toNat).take w.toNat):Int),0)
theorem pow256 (k:Nat):(256:Nat) ^ k=2 ^ (8 * k):=by rw [show (256:Nat)=2 ^ 8 from rfl,← Nat.pow_mul]
theorem or_step (n b k:Nat) (hn:n<256 ^ k) (hb:b<256) (hk:k<7) :
  IntKind.i64.wrap ((BitVec.ofInt IntKind.i64.bits (n:Int) ||| BitVec.ofInt IntKind.i64.bits (((b:Int)) * 2 ^ (8 * k))).toNat:Int)=((n + b * 256 ^ k:Nat):Int):=by
 have h7:n + b * 256 ^ k<256 ^ 7:=by
  have h1:(256:Nat) ^ (k + 1)≤256 ^ 7:=Nat.pow_le_pow_right (by decide) (by omega)
  have h2:b * 256 ^ k≤255 * 256 ^ k:=Nat.mul_le_mul_right _ (by omega)
  rw [Nat.pow_succ] at h1; omega
 have e7:(256:Nat) ^ 7=72057594037927936:=by decide
 have hbk:b * 256 ^ k<72057594037927936:=by omega
 have hcast:((b:Int)) * 2 ^ (8 * k)=((b * 256 ^ k:Nat):Int):=by rw [pow256]; simp
 have e:(BitVec.ofInt IntKind.i64.bits (n:Int) ||| BitVec.ofInt IntKind.i64.bits (((b:Int)) * 2 ^ (8 * k))).toNat=n + b * 256 ^ k:=by
  rw [hcast]
  show (BitVec.ofInt 64 ((n:Nat):Int) ||| BitVec.ofInt 64 ((b * 256 ^ k:Nat):Int)).toNat=_
  rw [BitVec.toNat_or,BitVec.ofInt_natCast,BitVec.ofInt_natCast,BitVec.toNat_ofNat,BitVec.toNat_ofNat,Nat.mod_eq_of_lt (by omega),Nat.mod_eq_of_lt (by omega)]
  have:=Nat.two_pow_add_eq_or_of_lt (b:=n) (i:=8 * k) (by rw [← pow256]; exact hn) b
  rw [pow256,Nat.mul_comm b,Nat.or_comm,← this,Nat.add_comm]
 rw [e,wrap64 (by omega) (by omega)]
theorem octGet_run (s:Str) (a w:Nat) (hw:w≤7) (hl:a + w≤s.length) (hs:s.length≤9223372036854775807):∀ (k i:Nat),i + k=w →
  LoopR (octet_Get_b3 s (a:Int) (w:Int)) ((leN ((s.drop a).take i):Int),(i:Int)) ((leN ((s.drop a).take w):Int),(w:Int))
 | 0,i,hi=>by
  obtain rfl:i=w:=by omega
  exact .done ⟨fun c=>by simp at c,fun _=>rfl⟩
 | k + 1,i,hi=>by
  have hlen:((s.drop a).take i).length=i:=by simp; omega
  have hlt:=leN_lt ((s.drop a).take i)
  rw [hlen] at hlt
  have e1:IntKind.i64.wrap ((a:Int) + (i:Int))=((a + i:Nat):Int):=by rw [wrap64 (by omega) (by omega)]; omega
  have e2:IntKind.i64.wrap ((8:Int) * (i:Int))=((8 * i:Nat):Int):=by rw [wrap64 (by omega) (by omega)]; omega
  have hb:(s.getD (a + i) default).toNat<256:=(s.getD (a + i) default).toNat_lt
  have e3:IntKind.i64.wrap ((s.getD (a + i) default).toNat:Int)=((s.getD (a + i) default).toNat:Int):=wrap64 (by omega) (by omega)
  have esn:(s.drop a).take (i + 1)=(s.drop a).take i++[s.getD (a + i) default]:=by
   rw [List.take_add_one]; simp [show a + i<s.length by omega]
  have ih:=octGet_run s a w hw hl hs k (i + 1) (by omega)
  rw [esn,leN_snoc,hlen] at ih
  refine .step ⟨fun _=>?_,fun c=>by simp at c; omega⟩ ih
  simp only [e1,e2,nth_nat,e3]
  refine ⟨⟨by omega,by omega⟩,by rw [decide_eq_true_eq]; omega,?_⟩
  have hp:(256:Nat) ^ i≤256 ^ 6:=Nat.pow_le_pow_right (by decide) (by omega)
  have e6:(256:Nat) ^ 6=281474976710656:=by decide
  have hm:(s.getD (a + i) default).toNat * 256 ^ i≤255 * 281474976710656:=Nat.le_trans (Nat.mul_le_mul_right _ (by omega)) (Nat.mul_le_mul_left _ (by omega))
  have e4:min (((8 * i:Nat):Int)).toNat IntKind.i64.bits=8 * i:=by
   show min (((8 * i:Nat):Int)).toNat 64=8 * i
   rw [Int.toNat_natCast]; omega
  rw [e4]
  have e5:IntKind.i64.wrap (((s.getD (a + i) default).toNat:Int) * 2 ^ (8 * i))=((s.getD (a + i) default).toNat:Int) * 2 ^ (8 * i):=by
   have hc:((s.getD (a + i) default).toNat:Int) * 2 ^ (8 * i)=(((s.getD (a + i) default).toNat * 256 ^ i:Nat):Int):=by rw [pow256]; simp
   rw [hc,wrap64 (by omega) (by omega)]
  rw [e5,or_step _ _ _ hlt hb (by omega),wrap64 (n:=(i:Int) + 1) (by omega) (by omega)]
  rfl
theorem octGet_ev (s:Str) (a w:Int) (hs:s.length≤9223372036854775807):octet_Get_raw s a w (getO s a w):=by
 refine ⟨fun hc=>by unfold getO; rw [hc]; rfl,fun hc=>⟨fun hd=>?_,fun hd=>?_⟩⟩
 ·unfold getO
  rw [hc]
  by_cases ha:(decide (a<0)||decide ((s.length:Int)<a))=true
  ·rw [ha]; rfl
  ·have ha':(decide (a<0)||decide ((s.length:Int)<a))=false:=by simpa using ha
   rw [ha'] at hd ⊢
   simp only [Bool.or_eq_false_iff,decide_eq_false_iff_not] at ha'
   rw [wrap64 (by omega) (by omega)] at hd
   rw [hd]; rfl
 ·simp only [Bool.or_eq_false_iff,decide_eq_false_iff_not] at hc hd
  obtain ⟨⟨hd1,hd2⟩,hd3⟩:=hd
  rw [wrap64 (by omega) (by omega)] at hd3
  obtain ⟨m,rfl⟩:=Int.eq_ofNat_of_zero_le (show 0≤a by omega)
  obtain ⟨n,rfl⟩:=Int.eq_ofNat_of_zero_le (show 0≤w by omega)
  refine ⟨_,by simpa [leN] using octGet_run s m n (by omega) (by omega) hs n 0 (by omega),?_⟩
  have h1:(decide ((n:Int)<1)||decide (7<(n:Int)))=false:=by simp; omega
  have h2:((decide ((m:Int)<0)||decide ((s.length:Int)<(m:Int)))||decide ((s.length:Int) - (m:Int)<(n:Int)))=false:=by simp; omega
  unfold getO
  rw [h1,h2]; rfl

theorem cf_octet_Get:CF Tryz.prog 43:=fun _ _=>by kernel_rfl
section
variable {ρ : Env} {w : World} {d : Option Nat} {ty : TypeId} {pos : String} {after : Array Edge} {g : Option (Nat × Bool)}
end

section
variable {P : Program} {N : Nat} {ops : Array Oper} {Q : Exit → Act → List Frame → World → Prop} {rest : List Nat} {ρ : Env} {cs : List Frame} {w w' : World} {i d : Nat}
end
section
variable {P : Program} {N : Nat} {ops : Array Oper} {Q : Exit → Act → List Frame → World → Prop} {rest : List Nat} {ρ : Env} {cs cs' : List Frame} {w : World} {i d : Nat}
end

def okG (s:Str):Prop:=s.length≤9223372036854775807
section
variable {P : Program} {ρ : Env} {w : World} {d : Option Nat} {ty : TypeId} {pos : String} {after : Array Edge} {g : Option (Nat × Bool)}
theorem r_bstrB {s t e n bytes:Nat} {z:Value} {X:Operand} {b e':Nat} {cells:List Value} {l:List Int} (hs:Slc P s e n bytes z) (he:P.underlying e=some (.int .u8)) (ht:P.underlying t=some .string)
  (hX:ev ρ X=.slice (some ⟨b,0,none⟩) l.length l.length) (hB:Blk w b e' cells) (hc:cells=l.map fun n=>.int .u8 n) :
  RunV P ρ w ⟨d,.convert s t X,ty,pos,after,g⟩ (str (bstr l)):=by
 subst hc
 exact r_bstr hs he ht hX (bs_seal (k:=kI .u8) (L:=[]) hB (by simp) (by simp [kI]) (Stb.triv (rowD_u8 w l) |>.mono fun _ _=>rowD_u8 _ l)).now
end
def ref07_nums_b1 (d0:(List Int)) (s1:Str × Int) (z1:(Str × Int) ⊕ (Str × Int)):Prop :=
 ((decide (s1.2<(d0.length:Int)))=true→((0≤s1.2∧s1.2<(d0.length:Int))∧(∃ x8,ref07_num_raw (nth d0 s1.2) (2:Int) x8∧(s1.1.length + x8.length≤9223372036854775807∧(z1=.inl ((s1.1++x8),(IntKind.i64.wrap (s1.2 + (1:Int)))))))))∧((decide (s1.2<(d0.length:Int)))=false→(z1=.inr (s1.1,s1.2)))
def ref07_nums_raw (d0:(List Int)) (y:Str):Prop :=
 ∃ x1,LoopR (ref07_nums_b1 d0) (([]:Str),(0:Int)) x1∧(y=x1.1)
set_option maxRecDepth 20000 in
set_option maxHeartbeats 4000000 in
theorem ref07_nums_c {L:List Nat} {w:World} {AP0:Option Addr} {cP0:Nat} (d0:(List Int)) (HP0:Stb L w (fun w=>SlC (kI .i64) w AP0 cP0 d0)) (hL:Lt L w) {y:Str} (h:ref07_nums_raw d0 y) :
  Calls Tryz.prog 90 [.slice AP0 d0.length cP0].toArray w (Ret fun v w'=>Ext w w'∧v=str y):=by
 unfold ref07_nums_raw at h
 refine calls_ec Tryz.func90 rfl rfl rfl ?_
 refine ec_sr ?_
 refine o_w (v:=str []) (r_asg rfl) ?_
 refine eo_r ?_
 refine o_w (v:=str []) (r_asg rfl) ?_
 refine eo_nil_sq ?_
 refine ec_seq ?_
 refine ec_sr ?_
 refine o_w (v:=.int .i64 0) (r_asg rfl) ?_
 refine eo_nil_sq ?_
 refine ec_block ?_
 obtain ⟨x1,hl1,h⟩:=h
 refine ec_loopE 0 (I:=(fun (s1:Str × Int) ρ ds w'=>∃ (ρ':Env),ρ=envs ρ' [(3,str s1.1),(4,.int .i64 s1.2),(0,.slice AP0 d0.length cP0)]∧ds=[]∧Fr L w w'∧Ext w w')) ?_ hl1 ?_ ?_
 ·intro s1 z1 ρ1 ds1 w1r hI1 hb1
  obtain ⟨ρ1r,rfl,rfl,F1r,E1r⟩:=hI1
  have h:=hb1
  unfold ref07_nums_b1 at h
  have G2:Fr L w w1r:=(Fr.refl _ _).stp F1r (fun _ h=>.inl h)
  refine ec_seq ?_
  refine ec_sr ?_
  refine o_w (v:=.int .i64 s1.2) (r_mov rfl) ?_
  refine o_w (v:=.slice AP0 d0.length cP0) (r_mov rfl) ?_
  refine o_w (v:=.int .i64 (d0.length:Int)) (r_len_slc un_s_int rfl) ?_
  refine o_w (v:=.bool (decide (s1.2<(d0.length:Int)))) (r_int rfl rfl rfl) ?_
  refine eo_nil_sq ?_
  refine ec_cond rfl (fun hc3=>?_) (fun hc3=>?_)
  ·replace h:=h.1 hc3
   refine ec_skip ?_
   refine sq_n ?_
   refine ec_seq ?_
   refine ec_block ?_
   refine ec_region ?_
   refine o_w (v:=str s1.1) (r_mov rfl) ?_
   refine o_w (v:=.slice AP0 d0.length cP0) (r_mov rfl) ?_
   refine o_w (v:=.int .i64 s1.2) (r_mov rfl) ?_
   obtain ⟨ha4,h⟩:=h
   obtain ⟨cs5,l7,H6⟩:=Stb.elem (by decide) (HP0.fr G2 sI) s1.2 ha4.1 ha4.2
   obtain ⟨rfl,H6'⟩:=kI_open2 H6
   refine o_w (v:=.pointer (some (elemA AP0 (kI .i64).n s1.2.toNat))) (r_ia slc_s_int rfl rfl ((HP0.fr G2 sI).now.2 _ (lt_toNat ha4.1 ha4.2)).1 ha4.1 ha4.2) ?_
   refine o_w (v:=.int .i64 (nth d0 s1.2)) (r_ld' one_int rfl (elemA_spot _ _ _) (H6'.now.1.at0 (elemA_spot _ _ _))) ?_
   obtain ⟨x8,hx8,h⟩:=h
   refine o_call cf_ref07_num rfl (ref07_num_c (nth d0 s1.2) (2:Int) (hL.fr E1r) hx8) rfl rfl ?_
   rintro _ w8 ⟨F8,rfl⟩
   have E9:=E1r.trans F8
   obtain ⟨ha13,h⟩:=h
   refine o_w (v:=str (s1.1++x8)) (r_cat rfl rfl ha13) ?_
   refine o_w (v:=str (s1.1++x8)) (r_asg rfl) ?_
   refine eo_nil ?_
   refine blk_n ?_
   refine sq_n ?_
   refine ec_region ?_
   refine o_w (v:=.int .i64 s1.2) (r_mov rfl) ?_
   refine o_w (v:=.int .i64 (IntKind.i64.wrap (s1.2 + (1:Int)))) (r_int rfl rfl rfl) ?_
   refine o_w (v:=.int .i64 (IntKind.i64.wrap (s1.2 + (1:Int)))) (r_asg rfl) ?_
   refine eo_nil ?_
   subst h
   exact lq_n ⟨_,envs_self ⟨rfl,rfl,rfl,trivial⟩,rfl,(F1r.trans (Fr.ext F8)),E9⟩
  ·replace h:=h.2 hc3
   refine ec_exit ?_
   refine sq_exit ?_
   subst h
   exact lq_x ⟨_,envs_self ⟨rfl,rfl,rfl,trivial⟩,rfl,F1r,E1r⟩
 ·exact ⟨_,envs_self ⟨rfl,rfl,rfl,trivial⟩,rfl,(Fr.refl _ _),(Fr.refl _ _)⟩
 ·rintro ρ1e ds1e w1e ⟨ρ1e,rfl,rfl,F1e,E1e⟩
  refine blk_hit ?_
  refine sq_n ?_
  refine ec_sr ?_
  refine o_w (v:=str x1.1) (r_mov rfl) ?_
  refine o_w (v:=str x1.1) (r_asg rfl) ?_
  refine eo_nil_sq ?_
  refine ec_ret ?_
  subst h
  exact (end1 rfl ⟨_,rfl,E1e,rfl⟩)
def ref07_data_raw (d0:Val) (y:Str):Prop :=
 ((d0.kind==1)=true→(∃ x11,ref07_num_raw d0.time (4:Int) x11∧(∃ x12,ref07_num_raw d0.node (1:Int) x12∧(x11.length + x12.length≤9223372036854775807∧(∃ x14,ref07_bit_raw d0.dead x14∧(∃ x15,ref07_num_raw x14 (1:Int) x15∧((x11++x12).length + x15.length≤9223372036854775807∧(∃ x17,ref07_num_raw (d0.text.length:Int) (1:Int) x17∧(((x11++x12)++x15).length + x17.length≤9223372036854775807∧((((x11++x12)++x15)++x17).length + d0.text.length≤9223372036854775807∧(y=((((x11++x12)++x15)++x17)++d0.text))))))))))))∧((d0.kind==1)=false→(((d0.kind==2)=true→(∃ x55,ref07_nums_raw d0.plus x55∧(∃ x56,ref07_nums_raw d0.minus x56∧(x55.length + x56.length≤9223372036854775807∧(y=(x55++x56))))))∧((d0.kind==2)=false→(∃ x74,ref07_num_raw (IntKind.i64.wrap (Int.tmod d0.flags (4294967296:Int))) (4:Int) x74∧(∃ x75,ref07_num_raw (IntKind.i64.wrap (IntKind.u64.wrap (Int.tdiv d0.flags (4294967296:Int)))) (4:Int) x75∧(x74.length + x75.length≤9223372036854775807∧(y=(x74++x75))))))))
set_option maxRecDepth 20000 in
set_option maxHeartbeats 4000000 in
theorem ref07_data_c {L:List Nat} {w:World} {csP0:List Value} (d0:Val) (HP0:Stb L w (fun w=>kVal.r w csP0 d0)) (hL:Lt L w) {y:Str} (h:ref07_data_raw d0 y) :
  Calls Tryz.prog 70 [.agg csP0.toArray].toArray w (Ret fun v w'=>Ext w w'∧v=str y):=by
 obtain ⟨A1,c2,A4,c5,rfl,H3,H6⟩:=kVal_open HP0
 unfold ref07_data_raw at h
 refine calls_ec Tryz.func70 rfl rfl rfl ?_
 refine ec_sr ?_
 refine o_box (cs:=(cVal d0 A1 c2 A4 c5)) rfl rfl rfl ?_
 intro b7 w7 e7 F7 B7
 have S7:=B7.stb (nin hL e7)
 have G8:Fr L w w7:=Fr.ext F7
 refine o_w (v:=str []) (r_asg rfl) ?_
 refine eo_nil_sq ?_
 refine ec_seq ?_
 refine ec_sr ?_
 refine o_w (v:=.pointer (some ⟨b7,0,none⟩)) (r_fa fld_api_Value_0 rfl rfl) ?_
 refine o_w (v:=.int .i64 d0.kind) (r_ld one_int rfl (S7.now.cell rfl)) ?_
 refine o_w (v:=.bool (d0.kind==1)) (r_int rfl rfl rfl) ?_
 refine eo_nil_sq ?_
 refine ec_cond rfl (fun hc9=>?_) (fun hc9=>?_)
 ·replace h:=h.1 hc9
  refine ec_seq ?_
  obtain ⟨x11,hx11,h⟩:=h
  obtain ⟨x12,hx12,h⟩:=h
  obtain ⟨ha13,h⟩:=h
  obtain ⟨x14,hx14,h⟩:=h
  obtain ⟨x15,hx15,h⟩:=h
  obtain ⟨ha16,h⟩:=h
  obtain ⟨x17,hx17,h⟩:=h
  obtain ⟨ha18,h⟩:=h
  obtain ⟨ha19,h⟩:=h
  refine ec_any0 (by kernel_rfl) [[],[0],[0,1],[],[3],[0,1,2,3,4],[0,1,2,3,4,5],[],[7],[0,1,2,3,4,5,7,8],[0,1,2,3,4,5,7,8,9],[0,1,2,3,4,5,6,7,8,9,10],[],[12],[12,13],[0,1,2,3,4,5,7,8,9,10,12,13,14],[0,1,2,3,4,5,6,7,8,9,10,11,12,13,14,15],[],[17],[0,1,2,3,4,5,6,7,8,9,10,11,12,13,14,15,16,17,18],[0,1,2,3,4,5,6,7,8,9,10,11,12,13,14,15,16,17,18,19]] [2,6,7,8,9,10,11,12,13,14,15,16,17,18,19,20,21,22,23,24,25] [fun v _=>v=(.pointer (some ⟨b7,1,none⟩):Value),fun v _=>v=(.int .i64 d0.time:Value),fun v _=>v=(str x11:Value),fun v _=>v=(.pointer (some ⟨b7,2,none⟩):Value),fun v _=>v=(.int .i64 d0.node:Value),fun v _=>v=(str x12:Value),fun v _=>v=(str (x11++x12):Value),fun v _=>v=(.pointer (some ⟨b7,3,none⟩):Value),fun v _=>v=(.bool d0.dead:Value),fun v _=>v=(.int .i64 x14:Value),fun v _=>v=(str x15:Value),fun v _=>v=(str ((x11++x12)++x15):Value),fun v _=>v=(.pointer (some ⟨b7,4,none⟩):Value),fun v _=>v=(str d0.text:Value),fun v _=>v=(.int .i64 (d0.text.length:Int):Value),fun v _=>v=(str x17:Value),fun v _=>v=(str (((x11++x12)++x15)++x17):Value),fun v _=>v=(.pointer (some ⟨b7,4,none⟩):Value),fun v _=>v=(str d0.text:Value),fun v _=>v=(str ((((x11++x12)++x15)++x17)++d0.text):Value),fun v _=>v=(str ((((x11++x12)++x15)++x17)++d0.text):Value)] (by kernel_rfl) ⟨fun _ _ _ _ _ h=>h,fun _ _ _ _ _ h=>h,fun _ _ _ _ _ h=>h,fun _ _ _ _ _ h=>h,fun _ _ _ _ _ h=>h,fun _ _ _ _ _ h=>h,fun _ _ _ _ _ h=>h,fun _ _ _ _ _ h=>h,fun _ _ _ _ _ h=>h,fun _ _ _ _ _ h=>h,fun _ _ _ _ _ h=>h,fun _ _ _ _ _ h=>h,fun _ _ _ _ _ h=>h,fun _ _ _ _ _ h=>h,fun _ _ _ _ _ h=>h,fun _ _ _ _ _ h=>h,fun _ _ _ _ _ h=>h,fun _ _ _ _ _ h=>h,fun _ _ _ _ _ h=>h,fun _ _ _ _ _ h=>h,fun _ _ _ _ _ h=>h,trivial⟩ ?_ ?_
  ·refine ⟨?_,?_,?_,?_,?_,?_,?_,?_,?_,?_,?_,?_,?_,?_,?_,?_,?_,?_,?_,?_,?_,trivial⟩
   ·intro ρ w10o F10o hS hρ
    have q1:ρ 1=.pointer (some ⟨b7,0,none⟩):=hρ 1 (by kernel_rfl)
    exact o_q (r_fa fld_api_Value_1 rfl q1) ⟨Fr.refl _ _,rfl⟩
   ·intro ρ w10o F10o hS hρ
    have G22:Fr L w7 w10o:=Fr.ext F10o
    have q6:ρ 6=.pointer (some ⟨b7,1,none⟩):=hS 0 (by decide) 6 rfl
    exact o_q (r_ld one_int q6 ((S7.fr G22 sI).now.cell rfl)) ⟨Fr.refl _ _,rfl⟩
   ·intro ρ w10o F10o hS hρ
    have E23:=F7.trans F10o
    have q7:ρ 7=.int .i64 d0.time:=hS 1 (by decide) 7 rfl
    refine o_call cf_ref07_num (by simp only [List.map,ev,q7] <;> rfl) (ref07_num_c d0.time (4:Int) (hL.fr E23) hx11) rfl rfl ?_
    rintro _ w' ⟨F,rfl⟩
    exact eo_nil ⟨rfl,rfl,_,rfl,F,rfl⟩
   ·intro ρ w10o F10o hS hρ
    have q1:ρ 1=.pointer (some ⟨b7,0,none⟩):=hρ 1 (by kernel_rfl)
    exact o_q (r_fa fld_api_Value_2 rfl q1) ⟨Fr.refl _ _,rfl⟩
   ·intro ρ w10o F10o hS hρ
    have G28:Fr L w7 w10o:=Fr.ext F10o
    have q9:ρ 9=.pointer (some ⟨b7,2,none⟩):=hS 3 (by decide) 9 rfl
    exact o_q (r_ld one_int q9 ((S7.fr G28 sI).now.cell rfl)) ⟨Fr.refl _ _,rfl⟩
   ·intro ρ w10o F10o hS hρ
    have E29:=F7.trans F10o
    have q10:ρ 10=.int .i64 d0.node:=hS 4 (by decide) 10 rfl
    refine o_call cf_ref07_num (by simp only [List.map,ev,q10] <;> rfl) (ref07_num_c d0.node (1:Int) (hL.fr E29) hx12) rfl rfl ?_
    rintro _ w' ⟨F,rfl⟩
    exact eo_nil ⟨rfl,rfl,_,rfl,F,rfl⟩
   ·intro ρ w10o F10o hS hρ
    have q8:ρ 8=str x11:=hS 2 (by decide) 8 rfl
    have q11:ρ 11=str x12:=hS 5 (by decide) 11 rfl
    exact o_q (r_cat q8 q11 ha13) ⟨Fr.refl _ _,rfl⟩
   ·intro ρ w10o F10o hS hρ
    have q1:ρ 1=.pointer (some ⟨b7,0,none⟩):=hρ 1 (by kernel_rfl)
    exact o_q (r_fa fld_api_Value_3 rfl q1) ⟨Fr.refl _ _,rfl⟩
   ·intro ρ w10o F10o hS hρ
    have G34:Fr L w7 w10o:=Fr.ext F10o
    have q13:ρ 13=.pointer (some ⟨b7,3,none⟩):=hS 7 (by decide) 13 rfl
    exact o_q (r_ld one_bool q13 ((S7.fr G34 sI).now.cell rfl)) ⟨Fr.refl _ _,rfl⟩
   ·intro ρ w10o F10o hS hρ
    have E35:=F7.trans F10o
    have q14:ρ 14=.bool d0.dead:=hS 8 (by decide) 14 rfl
    refine o_call cf_ref07_bit (by simp only [List.map,ev,q14] <;> rfl) (ref07_bit_c d0.dead (hL.fr E35) hx14) rfl rfl ?_
    rintro _ w' ⟨F,rfl⟩
    exact eo_nil ⟨rfl,rfl,_,rfl,F,rfl⟩
   ·intro ρ w10o F10o hS hρ
    have E38:=F7.trans F10o
    have q15:ρ 15=.int .i64 x14:=hS 9 (by decide) 15 rfl
    refine o_call cf_ref07_num (by simp only [List.map,ev,q15] <;> rfl) (ref07_num_c x14 (1:Int) (hL.fr E38) hx15) rfl rfl ?_
    rintro _ w' ⟨F,rfl⟩
    exact eo_nil ⟨rfl,rfl,_,rfl,F,rfl⟩
   ·intro ρ w10o F10o hS hρ
    have q12:ρ 12=str (x11++x12):=hS 6 (by decide) 12 rfl
    have q16:ρ 16=str x15:=hS 10 (by decide) 16 rfl
    exact o_q (r_cat q12 q16 ha16) ⟨Fr.refl _ _,rfl⟩
   ·intro ρ w10o F10o hS hρ
    have q1:ρ 1=.pointer (some ⟨b7,0,none⟩):=hρ 1 (by kernel_rfl)
    exact o_q (r_fa fld_api_Value_4 rfl q1) ⟨Fr.refl _ _,rfl⟩
   ·intro ρ w10o F10o hS hρ
    have G43:Fr L w7 w10o:=Fr.ext F10o
    have q18:ρ 18=.pointer (some ⟨b7,4,none⟩):=hS 12 (by decide) 18 rfl
    exact o_q (r_ld one_string q18 ((S7.fr G43 sI).now.cell rfl)) ⟨Fr.refl _ _,rfl⟩
   ·intro ρ w10o F10o hS hρ
    have q19:ρ 19=str d0.text:=hS 13 (by decide) 19 rfl
    exact o_q (r_len_str un_string q19) ⟨Fr.refl _ _,rfl⟩
   ·intro ρ w10o F10o hS hρ
    have E44:=F7.trans F10o
    have q20:ρ 20=.int .i64 (d0.text.length:Int):=hS 14 (by decide) 20 rfl
    refine o_call cf_ref07_num (by simp only [List.map,ev,q20] <;> rfl) (ref07_num_c (d0.text.length:Int) (1:Int) (hL.fr E44) hx17) rfl rfl ?_
    rintro _ w' ⟨F,rfl⟩
    exact eo_nil ⟨rfl,rfl,_,rfl,F,rfl⟩
   ·intro ρ w10o F10o hS hρ
    have q17:ρ 17=str ((x11++x12)++x15):=hS 11 (by decide) 17 rfl
    have q21:ρ 21=str x17:=hS 15 (by decide) 21 rfl
    exact o_q (r_cat q17 q21 ha18) ⟨Fr.refl _ _,rfl⟩
   ·intro ρ w10o F10o hS hρ
    have q1:ρ 1=.pointer (some ⟨b7,0,none⟩):=hρ 1 (by kernel_rfl)
    exact o_q (r_fa fld_api_Value_4 rfl q1) ⟨Fr.refl _ _,rfl⟩
   ·intro ρ w10o F10o hS hρ
    have G49:Fr L w7 w10o:=Fr.ext F10o
    have q23:ρ 23=.pointer (some ⟨b7,4,none⟩):=hS 17 (by decide) 23 rfl
    exact o_q (r_ld one_string q23 ((S7.fr G49 sI).now.cell rfl)) ⟨Fr.refl _ _,rfl⟩
   ·intro ρ w10o F10o hS hρ
    have q22:ρ 22=str (((x11++x12)++x15)++x17):=hS 16 (by decide) 22 rfl
    have q24:ρ 24=str d0.text:=hS 18 (by decide) 24 rfl
    exact o_q (r_cat q22 q24 ha19) ⟨Fr.refl _ _,rfl⟩
   ·intro ρ w10o F10o hS hρ
    have q25:ρ 25=str ((((x11++x12)++x15)++x17)++d0.text):=hS 19 (by decide) 25 rfl
    exact o_q (r_asg q25) ⟨Fr.refl _ _,rfl⟩
  ·intro ρ w10 F10 hS hρ
   have q2:ρ 2=str ((((x11++x12)++x15)++x17)++d0.text):=hS 20 2 rfl
   obtain ⟨ρ',rfl⟩:∃ ρ',ρ=envs (ovr [2,6,7,8,9,10,11,12,13,14,15,16,17,18,19,20,21,22,23,24,25] ρ' _) [(2,str ((((x11++x12)++x15)++x17)++d0.text))]:=⟨ρ,ovr_self hρ ⟨q2,trivial⟩⟩
   have E50:=F7.trans F10
   refine sq_n ?_
   refine ec_ret ?_
   refine sq_ret ?_
   subst h
   exact (end1 rfl ⟨_,rfl,E50,rfl⟩)
 ·replace h:=h.2 hc9
  refine ec_skip ?_
  refine sq_n ?_
  refine ec_seq ?_
  refine ec_sr ?_
  refine o_w (v:=.pointer (some ⟨b7,0,none⟩)) (r_fa fld_api_Value_0 rfl rfl) ?_
  refine o_w (v:=.int .i64 d0.kind) (r_ld one_int rfl (S7.now.cell rfl)) ?_
  refine o_w (v:=.bool (d0.kind==2)) (r_int rfl rfl rfl) ?_
  refine eo_nil_sq ?_
  refine ec_cond rfl (fun hc53=>?_) (fun hc53=>?_)
  ·replace h:=h.1 hc53
   refine ec_seq ?_
   obtain ⟨x55,hx55,h⟩:=h
   obtain ⟨x56,hx56,h⟩:=h
   obtain ⟨ha57,h⟩:=h
   refine ec_any0 (by kernel_rfl) [[],[0],[0,1],[],[3],[0,1,2,3,4],[0,1,2,3,4,5],[0,1,2,3,4,5,6]] [2,29,30,31,32,33,34,35] [fun v _=>v=(.pointer (some ⟨b7,5,none⟩):Value),fun v _=>v=(.slice A1 d0.plus.length c2:Value),fun v _=>v=(str x55:Value),fun v _=>v=(.pointer (some ⟨b7,6,none⟩):Value),fun v _=>v=(.slice A4 d0.minus.length c5:Value),fun v _=>v=(str x56:Value),fun v _=>v=(str (x55++x56):Value),fun v _=>v=(str (x55++x56):Value)] (by kernel_rfl) ⟨fun _ _ _ _ _ h=>h,fun _ _ _ _ _ h=>h,fun _ _ _ _ _ h=>h,fun _ _ _ _ _ h=>h,fun _ _ _ _ _ h=>h,fun _ _ _ _ _ h=>h,fun _ _ _ _ _ h=>h,fun _ _ _ _ _ h=>h,trivial⟩ ?_ ?_
   ·refine ⟨?_,?_,?_,?_,?_,?_,?_,?_,trivial⟩
    ·intro ρ w54o F54o hS hρ
     have q1:ρ 1=.pointer (some ⟨b7,0,none⟩):=hρ 1 (by kernel_rfl)
     exact o_q (r_fa fld_api_Value_5 rfl q1) ⟨Fr.refl _ _,rfl⟩
    ·intro ρ w54o F54o hS hρ
     have G60:Fr L w7 w54o:=Fr.ext F54o
     have q29:ρ 29=.pointer (some ⟨b7,5,none⟩):=hS 0 (by decide) 29 rfl
     exact o_q (r_ld one_s_int q29 ((S7.fr G60 sI).now.cell rfl)) ⟨Fr.refl _ _,rfl⟩
    ·intro ρ w54o F54o hS hρ
     have E61:=F7.trans F54o
     have q30:ρ 30=.slice A1 d0.plus.length c2:=hS 1 (by decide) 30 rfl
     refine o_call cf_ref07_nums (by simp only [List.map,ev,q30] <;> rfl) (ref07_nums_c d0.plus (H3.fr (G8.trans (Fr.ext F54o)) sI) (hL.fr E61) hx55) rfl rfl ?_
     rintro _ w' ⟨F,rfl⟩
     exact eo_nil ⟨rfl,rfl,_,rfl,F,rfl⟩
    ·intro ρ w54o F54o hS hρ
     have q1:ρ 1=.pointer (some ⟨b7,0,none⟩):=hρ 1 (by kernel_rfl)
     exact o_q (r_fa fld_api_Value_6 rfl q1) ⟨Fr.refl _ _,rfl⟩
    ·intro ρ w54o F54o hS hρ
     have G66:Fr L w7 w54o:=Fr.ext F54o
     have q32:ρ 32=.pointer (some ⟨b7,6,none⟩):=hS 3 (by decide) 32 rfl
     exact o_q (r_ld one_s_int q32 ((S7.fr G66 sI).now.cell rfl)) ⟨Fr.refl _ _,rfl⟩
    ·intro ρ w54o F54o hS hρ
     have E67:=F7.trans F54o
     have q33:ρ 33=.slice A4 d0.minus.length c5:=hS 4 (by decide) 33 rfl
     refine o_call cf_ref07_nums (by simp only [List.map,ev,q33] <;> rfl) (ref07_nums_c d0.minus (H6.fr (G8.trans (Fr.ext F54o)) sI) (hL.fr E67) hx56) rfl rfl ?_
     rintro _ w' ⟨F,rfl⟩
     exact eo_nil ⟨rfl,rfl,_,rfl,F,rfl⟩
    ·intro ρ w54o F54o hS hρ
     have q31:ρ 31=str x55:=hS 2 (by decide) 31 rfl
     have q34:ρ 34=str x56:=hS 5 (by decide) 34 rfl
     exact o_q (r_cat q31 q34 ha57) ⟨Fr.refl _ _,rfl⟩
    ·intro ρ w54o F54o hS hρ
     have q35:ρ 35=str (x55++x56):=hS 6 (by decide) 35 rfl
     exact o_q (r_asg q35) ⟨Fr.refl _ _,rfl⟩
   ·intro ρ w54 F54 hS hρ
    have q2:ρ 2=str (x55++x56):=hS 7 2 rfl
    obtain ⟨ρ',rfl⟩:∃ ρ',ρ=envs (ovr [2,29,30,31,32,33,34,35] ρ' _) [(2,str (x55++x56))]:=⟨ρ,ovr_self hρ ⟨q2,trivial⟩⟩
    have E70:=F7.trans F54
    refine sq_n ?_
    refine ec_ret ?_
    refine sq_ret ?_
    subst h
    exact (end1 rfl ⟨_,rfl,E70,rfl⟩)
  ·replace h:=h.2 hc53
   refine ec_skip ?_
   refine sq_n ?_
   refine ec_seq ?_
   obtain ⟨x74,hx74,h⟩:=h
   obtain ⟨x75,hx75,h⟩:=h
   obtain ⟨ha76,h⟩:=h
   refine ec_any0 (by kernel_rfl) [[],[0],[0,1],[0,1,2],[0,1,2,3],[],[5],[5,6],[5,6,7],[0,1,2,3,4,5,6,7,8],[0,1,2,3,4,5,6,7,8,9],[0,1,2,3,4,5,6,7,8,9,10]] [2,36,37,38,39,40,41,42,43,44,45,46] [fun v _=>v=(.pointer (some ⟨b7,7,none⟩):Value),fun v _=>v=(.int .u64 d0.flags:Value),fun v _=>v=(.int .u64 (Int.tmod d0.flags (4294967296:Int)):Value),fun v _=>v=(.int .i64 (IntKind.i64.wrap (Int.tmod d0.flags (4294967296:Int))):Value),fun v _=>v=(str x74:Value),fun v _=>v=(.pointer (some ⟨b7,7,none⟩):Value),fun v _=>v=(.int .u64 d0.flags:Value),fun v _=>v=(.int .u64 (IntKind.u64.wrap (Int.tdiv d0.flags (4294967296:Int))):Value),fun v _=>v=(.int .i64 (IntKind.i64.wrap (IntKind.u64.wrap (Int.tdiv d0.flags (4294967296:Int)))):Value),fun v _=>v=(str x75:Value),fun v _=>v=(str (x74++x75):Value),fun v _=>v=(str (x74++x75):Value)] (by kernel_rfl) ⟨fun _ _ _ _ _ h=>h,fun _ _ _ _ _ h=>h,fun _ _ _ _ _ h=>h,fun _ _ _ _ _ h=>h,fun _ _ _ _ _ h=>h,fun _ _ _ _ _ h=>h,fun _ _ _ _ _ h=>h,fun _ _ _ _ _ h=>h,fun _ _ _ _ _ h=>h,fun _ _ _ _ _ h=>h,fun _ _ _ _ _ h=>h,fun _ _ _ _ _ h=>h,trivial⟩ ?_ ?_
   ·refine ⟨?_,?_,?_,?_,?_,?_,?_,?_,?_,?_,?_,?_,trivial⟩
    ·intro ρ w73o F73o hS hρ
     have q1:ρ 1=.pointer (some ⟨b7,0,none⟩):=hρ 1 (by kernel_rfl)
     exact o_q (r_fa fld_api_Value_7 rfl q1) ⟨Fr.refl _ _,rfl⟩
    ·intro ρ w73o F73o hS hρ
     have G79:Fr L w7 w73o:=Fr.ext F73o
     have q36:ρ 36=.pointer (some ⟨b7,7,none⟩):=hS 0 (by decide) 36 rfl
     exact o_q (r_ld one_uint64 q36 ((S7.fr G79 sI).now.cell rfl)) ⟨Fr.refl _ _,rfl⟩
    ·intro ρ w73o F73o hS hρ
     have q37:ρ 37=.int .u64 d0.flags:=hS 1 (by decide) 37 rfl
     exact o_q (r_rem q37 rfl rfl) ⟨Fr.refl _ _,rfl⟩
    ·intro ρ w73o F73o hS hρ
     have q38:ρ 38=.int .u64 (Int.tmod d0.flags (4294967296:Int)):=hS 2 (by decide) 38 rfl
     exact o_q (r_conv un_uint64 un_int q38) ⟨Fr.refl _ _,rfl⟩
    ·intro ρ w73o F73o hS hρ
     have E80:=F7.trans F73o
     have q39:ρ 39=.int .i64 (IntKind.i64.wrap (Int.tmod d0.flags (4294967296:Int))):=hS 3 (by decide) 39 rfl
     refine o_call cf_ref07_num (by simp only [List.map,ev,q39] <;> rfl) (ref07_num_c (IntKind.i64.wrap (Int.tmod d0.flags (4294967296:Int))) (4:Int) (hL.fr E80) hx74) rfl rfl ?_
     rintro _ w' ⟨F,rfl⟩
     exact eo_nil ⟨rfl,rfl,_,rfl,F,rfl⟩
    ·intro ρ w73o F73o hS hρ
     have q1:ρ 1=.pointer (some ⟨b7,0,none⟩):=hρ 1 (by kernel_rfl)
     exact o_q (r_fa fld_api_Value_7 rfl q1) ⟨Fr.refl _ _,rfl⟩
    ·intro ρ w73o F73o hS hρ
     have G85:Fr L w7 w73o:=Fr.ext F73o
     have q41:ρ 41=.pointer (some ⟨b7,7,none⟩):=hS 5 (by decide) 41 rfl
     exact o_q (r_ld one_uint64 q41 ((S7.fr G85 sI).now.cell rfl)) ⟨Fr.refl _ _,rfl⟩
    ·intro ρ w73o F73o hS hρ
     have q42:ρ 42=.int .u64 d0.flags:=hS 6 (by decide) 42 rfl
     exact o_q (r_quo q42 rfl rfl) ⟨Fr.refl _ _,rfl⟩
    ·intro ρ w73o F73o hS hρ
     have q43:ρ 43=.int .u64 (IntKind.u64.wrap (Int.tdiv d0.flags (4294967296:Int))):=hS 7 (by decide) 43 rfl
     exact o_q (r_conv un_uint64 un_int q43) ⟨Fr.refl _ _,rfl⟩
    ·intro ρ w73o F73o hS hρ
     have E86:=F7.trans F73o
     have q44:ρ 44=.int .i64 (IntKind.i64.wrap (IntKind.u64.wrap (Int.tdiv d0.flags (4294967296:Int)))):=hS 8 (by decide) 44 rfl
     refine o_call cf_ref07_num (by simp only [List.map,ev,q44] <;> rfl) (ref07_num_c (IntKind.i64.wrap (IntKind.u64.wrap (Int.tdiv d0.flags (4294967296:Int)))) (4:Int) (hL.fr E86) hx75) rfl rfl ?_
     rintro _ w' ⟨F,rfl⟩
     exact eo_nil ⟨rfl,rfl,_,rfl,F,rfl⟩
    ·intro ρ w73o F73o hS hρ
     have q40:ρ 40=str x74:=hS 4 (by decide) 40 rfl
     have q45:ρ 45=str x75:=hS 9 (by decide) 45 rfl
     exact o_q (r_cat q40 q45 ha76) ⟨Fr.refl _ _,rfl⟩
    ·intro ρ w73o F73o hS hρ
     have q46:ρ 46=str (x74++x75):=hS 10 (by decide) 46 rfl
     exact o_q (r_asg q46) ⟨Fr.refl _ _,rfl⟩
   ·intro ρ w73 F73 hS hρ
    have q2:ρ 2=str (x74++x75):=hS 11 2 rfl
    obtain ⟨ρ',rfl⟩:∃ ρ',ρ=envs (ovr [2,36,37,38,39,40,41,42,43,44,45,46] ρ' _) [(2,str (x74++x75))]:=⟨ρ,ovr_self hρ ⟨q2,trivial⟩⟩
    have E89:=F7.trans F73
    refine sq_n ?_
    refine ec_ret ?_
    subst h
    exact (end1 rfl ⟨_,rfl,E89,rfl⟩)
def ref07_Put_raw (d0:Ent) (y:Str × Int):Prop :=
 (sm d0.val)∧(((!(okE d0))=true→(y=(([]:Str),(2:Int))))∧((!(okE d0))=false→(∃ x16,ref07_num_raw d0.val.kind (1:Int) x16∧(∃ x17,ref07_num_raw (d0.key.length:Int) (1:Int) x17∧(x16.length + x17.length≤9223372036854775807∧(∃ x19,ref07_pad_raw d0.key (8:Int) x19∧((x16++x17).length + x19.length≤9223372036854775807∧(∃ x21,ref07_data_raw d0.val x21∧(∃ x22,ref07_pad_raw x21 (32:Int) x22∧(((x16++x17)++x19).length + x22.length≤9223372036854775807∧(y=((((x16++x17)++x19)++x22),(0:Int)))))))))))))
set_option maxRecDepth 20000 in
set_option maxHeartbeats 4000000 in
theorem ref07_Put_c {L:List Nat} {w:World} {csP0:List Value} (d0:Ent) (HP0:Stb L w (fun w=>kEnt.r w csP0 d0)) (hL:Lt L w) {y:Str × Int} (h:ref07_Put_raw d0 y) :
  Calls Tryz.prog 36 [.agg csP0.toArray].toArray w (Ret fun v w'=>Ext w w'∧v=.tuple #[str y.1,.int .i64 y.2]):=by
 obtain ⟨A1,c2,A4,c5,rfl,H3,H6⟩:=kEnt_open HP0
 unfold ref07_Put_raw at h
 refine calls_ec Tryz.func36 rfl rfl rfl ?_
 refine ec_sr ?_
 refine o_box (cs:=(cEnt d0 A1 c2 A4 c5)) rfl rfl rfl ?_
 intro b7 w7 e7 F7 B7
 have S7:=B7.stb (nin hL e7)
 have G8:Fr L w w7:=Fr.ext F7
 refine o_w (v:=str []) (r_asg rfl) ?_
 refine o_w (v:=.int .i64 0) (r_asg rfl) ?_
 refine eo_nil_sq ?_
 refine ec_seq ?_
 refine ec_sr ?_
 refine o_w (v:=.agg (cEnt d0 A1 c2 A4 c5).toArray) (r_lda agg_api_Entry rfl (vs:=(cEnt d0 A1 c2 A4 c5)) rfl (S7.now.part (n:=9) rfl)) ?_
 obtain ⟨ha10,h⟩:=h
 refine o_call cf_ref07_Check rfl (ref07_Check_c d0 (kEnt_mk (d:=d0) (H3.fr G8 sI) (H6.fr G8 sI)) (hL.fr F7) (refCheckE_ev d0 ha10)) rfl rfl ?_
 rintro _ w9 ⟨F9,rfl⟩
 have E11:=F7.trans F9
 have G13:Fr L w7 w9:=Fr.ext F9
 refine o_w (v:=.bool (!(okE d0))) (r_not rfl) ?_
 refine eo_nil_sq ?_
 refine ec_cond rfl (fun hc14=>?_) (fun hc14=>?_)
 ·replace h:=h.1 hc14
  refine ec_sr ?_
  refine o_w (v:=str []) (r_asg rfl) ?_
  refine o_w (v:=.int .i64 2) (r_asg rfl) ?_
  refine eo_nil_sq ?_
  refine ec_ret ?_
  refine sq_ret ?_
  subst h
  exact (end2 rfl rfl ⟨_,rfl,E11,rfl⟩)
 ·replace h:=h.2 hc14
  refine ec_skip ?_
  refine sq_n ?_
  refine ec_seq ?_
  obtain ⟨x16,hx16,h⟩:=h
  obtain ⟨x17,hx17,h⟩:=h
  obtain ⟨ha18,h⟩:=h
  obtain ⟨x19,hx19,h⟩:=h
  obtain ⟨ha20,h⟩:=h
  obtain ⟨x21,hx21,h⟩:=h
  obtain ⟨x22,hx22,h⟩:=h
  obtain ⟨ha23,h⟩:=h
  refine ec_any0 (by kernel_rfl) [[],[0],[0,1],[0,1,2],[],[4],[4,5],[0,1,2,3,4,5,6],[0,1,2,3,4,5,6,7],[],[9],[0,1,2,3,4,5,6,7,9,10],[0,1,2,3,4,5,6,7,8,9,10,11],[],[13],[0,1,2,3,4,5,6,7,9,10,11,13,14],[0,1,2,3,4,5,6,7,9,10,11,13,14,15],[0,1,2,3,4,5,6,7,8,9,10,11,12,13,14,15,16],[0,1,2,3,4,5,6,7,8,9,10,11,12,13,14,15,16,17],[0,1,2,3,4,5,6,7,8,9,10,11,12,13,14,15,16,17,18]] [2,3,7,8,9,10,11,12,13,14,15,16,17,18,19,20,21,22,23,24] [fun v _=>v=(.pointer (some ⟨b7,1,none⟩):Value),fun v _=>v=(.pointer (some ⟨b7,1,none⟩):Value),fun v _=>v=(.int .i64 d0.val.kind:Value),fun v _=>v=(str x16:Value),fun v _=>v=(.pointer (some ⟨b7,0,none⟩):Value),fun v _=>v=(str d0.key:Value),fun v _=>v=(.int .i64 (d0.key.length:Int):Value),fun v _=>v=(str x17:Value),fun v _=>v=(str (x16++x17):Value),fun v _=>v=(.pointer (some ⟨b7,0,none⟩):Value),fun v _=>v=(str d0.key:Value),fun v _=>v=(str x19:Value),fun v _=>v=(str ((x16++x17)++x19):Value),fun v _=>v=(.pointer (some ⟨b7,1,none⟩):Value),fun v _=>v=(.agg (cVal d0.val A1 c2 A4 c5).toArray:Value),fun v _=>v=(str x21:Value),fun v _=>v=(str x22:Value),fun v _=>v=(str (((x16++x17)++x19)++x22):Value),fun v _=>v=(str (((x16++x17)++x19)++x22):Value),fun v _=>v=(.int .i64 0:Value)] (by kernel_rfl) ⟨fun _ _ _ _ _ h=>h,fun _ _ _ _ _ h=>h,fun _ _ _ _ _ h=>h,fun _ _ _ _ _ h=>h,fun _ _ _ _ _ h=>h,fun _ _ _ _ _ h=>h,fun _ _ _ _ _ h=>h,fun _ _ _ _ _ h=>h,fun _ _ _ _ _ h=>h,fun _ _ _ _ _ h=>h,fun _ _ _ _ _ h=>h,fun _ _ _ _ _ h=>h,fun _ _ _ _ _ h=>h,fun _ _ _ _ _ h=>h,fun _ _ _ _ _ h=>h,fun _ _ _ _ _ h=>h,fun _ _ _ _ _ h=>h,fun _ _ _ _ _ h=>h,fun _ _ _ _ _ h=>h,fun _ _ _ _ _ h=>h,trivial⟩ ?_ ?_
  ·refine ⟨?_,?_,?_,?_,?_,?_,?_,?_,?_,?_,?_,?_,?_,?_,?_,?_,?_,?_,?_,?_,trivial⟩
   ·intro ρ w15o F15o hS hρ
    have q1:ρ 1=.pointer (some ⟨b7,0,none⟩):=hρ 1 (by kernel_rfl)
    exact o_q (r_fa fld_api_Entry_1 rfl q1) ⟨Fr.refl _ _,rfl⟩
   ·intro ρ w15o F15o hS hρ
    have q7:ρ 7=.pointer (some ⟨b7,1,none⟩):=hS 0 (by decide) 7 rfl
    exact o_q (r_fa fld_api_Value_0 rfl q7) ⟨Fr.refl _ _,rfl⟩
   ·intro ρ w15o F15o hS hρ
    have q8:ρ 8=.pointer (some ⟨b7,1,none⟩):=hS 1 (by decide) 8 rfl
    exact o_q (r_ld one_int q8 ((S7.fr (G13.trans (Fr.ext F15o)) sI).now.cell rfl)) ⟨Fr.refl _ _,rfl⟩
   ·intro ρ w15o F15o hS hρ
    have E27:=E11.trans F15o
    have q9:ρ 9=.int .i64 d0.val.kind:=hS 2 (by decide) 9 rfl
    refine o_call cf_ref07_num (by simp only [List.map,ev,q9] <;> rfl) (ref07_num_c d0.val.kind (1:Int) (hL.fr E27) hx16) rfl rfl ?_
    rintro _ w' ⟨F,rfl⟩
    exact eo_nil ⟨rfl,rfl,_,rfl,F,rfl⟩
   ·intro ρ w15o F15o hS hρ
    have q1:ρ 1=.pointer (some ⟨b7,0,none⟩):=hρ 1 (by kernel_rfl)
    exact o_q (r_fa fld_api_Entry_0 rfl q1) ⟨Fr.refl _ _,rfl⟩
   ·intro ρ w15o F15o hS hρ
    have q11:ρ 11=.pointer (some ⟨b7,0,none⟩):=hS 4 (by decide) 11 rfl
    exact o_q (r_ld one_string q11 ((S7.fr (G13.trans (Fr.ext F15o)) sI).now.cell rfl)) ⟨Fr.refl _ _,rfl⟩
   ·intro ρ w15o F15o hS hρ
    have q12:ρ 12=str d0.key:=hS 5 (by decide) 12 rfl
    exact o_q (r_len_str un_string q12) ⟨Fr.refl _ _,rfl⟩
   ·intro ρ w15o F15o hS hρ
    have E33:=E11.trans F15o
    have q13:ρ 13=.int .i64 (d0.key.length:Int):=hS 6 (by decide) 13 rfl
    refine o_call cf_ref07_num (by simp only [List.map,ev,q13] <;> rfl) (ref07_num_c (d0.key.length:Int) (1:Int) (hL.fr E33) hx17) rfl rfl ?_
    rintro _ w' ⟨F,rfl⟩
    exact eo_nil ⟨rfl,rfl,_,rfl,F,rfl⟩
   ·intro ρ w15o F15o hS hρ
    have q10:ρ 10=str x16:=hS 3 (by decide) 10 rfl
    have q14:ρ 14=str x17:=hS 7 (by decide) 14 rfl
    exact o_q (r_cat q10 q14 ha18) ⟨Fr.refl _ _,rfl⟩
   ·intro ρ w15o F15o hS hρ
    have q1:ρ 1=.pointer (some ⟨b7,0,none⟩):=hρ 1 (by kernel_rfl)
    exact o_q (r_fa fld_api_Entry_0 rfl q1) ⟨Fr.refl _ _,rfl⟩
   ·intro ρ w15o F15o hS hρ
    have q16:ρ 16=.pointer (some ⟨b7,0,none⟩):=hS 9 (by decide) 16 rfl
    exact o_q (r_ld one_string q16 ((S7.fr (G13.trans (Fr.ext F15o)) sI).now.cell rfl)) ⟨Fr.refl _ _,rfl⟩
   ·intro ρ w15o F15o hS hρ
    have E39:=E11.trans F15o
    have q17:ρ 17=str d0.key:=hS 10 (by decide) 17 rfl
    refine o_call cf_ref07_pad (by simp only [List.map,ev,q17] <;> rfl) (ref07_pad_c d0.key (8:Int) (hL.fr E39) hx19) rfl rfl ?_
    rintro _ w' ⟨F,rfl⟩
    exact eo_nil ⟨rfl,rfl,_,rfl,F,rfl⟩
   ·intro ρ w15o F15o hS hρ
    have q15:ρ 15=str (x16++x17):=hS 8 (by decide) 15 rfl
    have q18:ρ 18=str x19:=hS 11 (by decide) 18 rfl
    exact o_q (r_cat q15 q18 ha20) ⟨Fr.refl _ _,rfl⟩
   ·intro ρ w15o F15o hS hρ
    have q1:ρ 1=.pointer (some ⟨b7,0,none⟩):=hρ 1 (by kernel_rfl)
    exact o_q (r_fa fld_api_Entry_1 rfl q1) ⟨Fr.refl _ _,rfl⟩
   ·intro ρ w15o F15o hS hρ
    have q20:ρ 20=.pointer (some ⟨b7,1,none⟩):=hS 13 (by decide) 20 rfl
    exact o_q (r_lda agg_api_Value q20 (vs:=(cVal d0.val A1 c2 A4 c5)) rfl ((S7.fr (G13.trans (Fr.ext F15o)) sI).now.part (n:=8) rfl)) ⟨Fr.refl _ _,rfl⟩
   ·intro ρ w15o F15o hS hρ
    have E45:=E11.trans F15o
    have q21:ρ 21=.agg (cVal d0.val A1 c2 A4 c5).toArray:=hS 14 (by decide) 21 rfl
    refine o_call cf_ref07_data (by simp only [List.map,ev,q21] <;> rfl) (ref07_data_c d0.val (kVal_mk (d:=d0.val) (H3.fr ((G8.trans (Fr.ext F9)).trans (Fr.ext F15o)) sI) (H6.fr ((G8.trans (Fr.ext F9)).trans (Fr.ext F15o)) sI)) (hL.fr E45) hx21) rfl rfl ?_
    rintro _ w' ⟨F,rfl⟩
    exact eo_nil ⟨rfl,rfl,_,rfl,F,rfl⟩
   ·intro ρ w15o F15o hS hρ
    have E48:=E11.trans F15o
    have q22:ρ 22=str x21:=hS 15 (by decide) 22 rfl
    refine o_call cf_ref07_pad (by simp only [List.map,ev,q22] <;> rfl) (ref07_pad_c x21 (32:Int) (hL.fr E48) hx22) rfl rfl ?_
    rintro _ w' ⟨F,rfl⟩
    exact eo_nil ⟨rfl,rfl,_,rfl,F,rfl⟩
   ·intro ρ w15o F15o hS hρ
    have q19:ρ 19=str ((x16++x17)++x19):=hS 12 (by decide) 19 rfl
    have q23:ρ 23=str x22:=hS 16 (by decide) 23 rfl
    exact o_q (r_cat q19 q23 ha23) ⟨Fr.refl _ _,rfl⟩
   ·intro ρ w15o F15o hS hρ
    have q24:ρ 24=str (((x16++x17)++x19)++x22):=hS 17 (by decide) 24 rfl
    exact o_q (r_asg q24) ⟨Fr.refl _ _,rfl⟩
   ·intro ρ w15o F15o hS hρ
    exact o_q (r_asg rfl) ⟨Fr.refl _ _,rfl⟩
  ·intro ρ w15 F15 hS hρ
   have q2:ρ 2=str (((x16++x17)++x19)++x22):=hS 18 2 rfl
   have q3:ρ 3=.int .i64 0:=hS 19 3 rfl
   obtain ⟨ρ',rfl⟩:∃ ρ',ρ=envs (ovr [2,3,7,8,9,10,11,12,13,14,15,16,17,18,19,20,21,22,23,24] ρ' _) [(2,str (((x16++x17)++x19)++x22)),(3,.int .i64 0)]:=⟨ρ,ovr_self hρ ⟨q2,q3,trivial⟩⟩
   have E51:=E11.trans F15
   refine sq_n ?_
   refine ec_ret ?_
   subst h
   exact (end2 rfl rfl ⟨_,rfl,E51,rfl⟩)
end Go.Proofs.YthbfhgenkhkpfaaGreat
namespace Go.Proofs.YthbfhgenkhkpfaaGreat
open Go Go.RowKit
set_option linter.unusedVariables false

instance (s:Str):Decidable (okG s):=by unfold okG; infer_instance
instance (v:Val):Decidable (sm v):=by unfold sm; infer_instance
end Go.Proofs.YthbfhgenkhkpfaaGreat
namespace Go.Proofs.YthbfhgenkhkpfaaGreat
open Go Go.RowKit
set_option linter.unusedVariables false
set_option linter.unusedSimpArgs false

theorem zeros_add {a b:Int} (ha:0≤a) (hb:0≤b):zeros a++zeros b=zeros (a + b):=by
 have e:(a + b).toNat=a.toNat + b.toNat:=by omega
 simp [zeros,bstr,e]
theorem inI_wrap (n:Int):inI (IntKind.i64.wrap n):=by
 unfold inI
 constructor
 ·simp [IntKind.wrap,IntKind.bits,IntKind.signed]; omega
 ·simp [IntKind.wrap,IntKind.bits,IntKind.signed]; omega
theorem bit7 (b:Bool):ref07_bit_raw b (bif b then 1 else 0):=by
 cases b
 ·exact ⟨fun h=>(by cases h),fun _=>rfl⟩
 ·exact ⟨fun _=>rfl,fun h=>(by cases h)⟩
theorem num7 {n w:Int} (h:n≤9223372036854775807):ref07_num_raw n w (putO n w).1:=⟨h,_,rfl,rfl⟩
theorem pad7 (s:Str) (w:Int) (h:(s.length:Int)≤w) (hw:w≤1000):ref07_pad_raw s w (s++zeros (w - (s.length:Int))):=by
 have e:IntKind.i64.wrap (w - (s.length:Int))=w - (s.length:Int):=wrap64 (by omega) (by omega)
 unfold ref07_pad_raw; rw [e]
 refine ⟨⟨by omega,by omega,by omega⟩,?_,rfl⟩
 have:=zeros_len (w - (s.length:Int))
 unfold zeros at this; omega
theorem nums7 (xs:List Int) (hx:∀ x∈xs,x≤9223372036854775807) (hl:xs.length≤8):ref07_nums_raw xs (numsT xs):=by
 obtain ⟨x,h1,h2⟩:=loop_run (body:=ref07_nums_b1 xs) (fun s=>xs.length - s.2.toNat) (fun s=>∃ i:Nat,i≤xs.length∧s=(numsT (xs.take i),(i:Int))) (fun x=>x.1=numsT xs) (fun s hs=>by
  obtain ⟨i,hi,rfl⟩:=hs
  by_cases hlt:i<xs.length
  ·have hn:=numsT_len (xs.take i)
   have h3:=putO_len2 (xs.getD i default) 2 (by decide)
   have h4:(2:Int).toNat=2:=rfl
   have ht:(xs.take i).length=i:=by simp; omega
   have e2:numsT (xs.take (i + 1))=numsT (xs.take i)++(putO (xs.getD i default) 2).1:=by
    rw [List.take_add_one,show xs[i]?.toList=[xs.getD i default] by simp [hlt]]
    simp only [numsT,List.flatMap_append,List.flatMap_cons,List.flatMap_nil,List.append_nil]
   refine .inl ⟨(numsT (xs.take (i + 1)),((i + 1:Nat):Int)),⟨fun _=>⟨⟨by omega,by simpa using hlt⟩,(putO (xs.getD i default) 2).1,⟨?_,_,rfl,rfl⟩,?_,?_⟩,fun c=>?_⟩,⟨i + 1,hlt,rfl⟩,?_⟩
   ·exact hx _ (getD_mem hlt)
   ·show (numsT (xs.take i)).length + _≤_
    omega
   ·rw [e2,wrapS hlt (by omega)]
   ·simp at c; omega
   ·show xs.length - (((i + 1:Nat):Int)).toNat<xs.length - ((i:Int)).toNat
    omega
  ·obtain rfl:i=xs.length:=by omega
   exact .inr ⟨_,⟨fun c=>by simp at c,fun _=>rfl⟩,by simp⟩) (([]:Str),(0:Int)) ⟨0,by omega,by simp [numsT]⟩
 exact ⟨x,h1,h2.symm⟩
theorem lowF_eq {f:Int} (h:inU f):IntKind.i64.wrap (Int.tmod f (4294967296:Int))=lowF f:=by
 obtain ⟨n,rfl⟩:=Int.eq_ofNat_of_zero_le h.1
 have hn:n<2 ^ 64:=by have:=h.2; omega
 have e:(BitVec.ofInt IntKind.u64.bits (n:Int) &&& BitVec.ofInt IntKind.u64.bits (4294967295:Int)).toNat=n % 4294967296:=by
  rw [BitVec.toNat_and,BitVec.toNat_ofInt,BitVec.toNat_ofInt]
  have h64:IntKind.u64.bits=64:=rfl
  rw [h64]
  have e1:((n:Int) % ((2 ^ 64:Nat):Int)).toNat=n:=by omega
  have e2:((4294967295:Int) % ((2 ^ 64:Nat):Int)).toNat=2 ^ 32 - 1:=by decide
  rw [e1,e2,Nat.and_two_pow_sub_one_eq_mod]
 have e3:Int.tmod (n:Int) 4294967296=((n % 4294967296:Nat):Int):=by
  rw [Int.tmod_eq_emod_of_nonneg (by omega)]; omega
 unfold lowF
 rw [e,e3,show IntKind.u64.wrap ((n % 4294967296:Nat):Int)=((n % 4294967296:Nat):Int) from by
  show (((n % 4294967296:Nat):Int)) % 18446744073709551616=_
  omega]
theorem highF_eq {f:Int} (h:inU f):IntKind.i64.wrap (IntKind.u64.wrap (Int.tdiv f (4294967296:Int)))=highF f:=by
 obtain ⟨n,rfl⟩:=Int.eq_ofNat_of_zero_le h.1
 have hn:n<2 ^ 64:=by have:=h.2; omega
 have e3:Int.tdiv (n:Int) 4294967296=((n / 4294967296:Nat):Int):=by
  rw [Int.tdiv_eq_ediv_of_nonneg (by omega)]; omega
 have e4:Int.fdiv (n:Int) (2 ^ min ((32:Int)).toNat IntKind.u64.bits)=((n / 4294967296:Nat):Int):=by
  rw [show (2 ^ min ((32:Int)).toNat IntKind.u64.bits:Int)=4294967296 from by decide,Int.fdiv_eq_ediv_of_nonneg _ (by decide)]; omega
 unfold highF
 rw [e3,e4,show IntKind.u64.wrap ((n / 4294967296:Nat):Int)=((n / 4294967296:Nat):Int) from by
  show (((n / 4294967296:Nat):Int)) % 18446744073709551616=_
  omega]
theorem data7 (d:Val) (ho:okV d=true) (wf:WfV d):∃ x,ref07_data_raw d x∧x.length≤32∧x++zeros (32 - (x.length:Int))=valT d++zeros (32 - ((valT d).length:Int)):=by
 have w1:=wf.time.2
 have w2:=wf.node.2
 rcases okV_kind ho with hk | hk | hk
 ·have ht:=okV_text ho hk
  have a1:=putO_len2 d.time 4 (by decide)
  have a2:=putO_len2 d.node 1 (by decide)
  have a3:=putO_len2 (bif d.dead then 1 else 0) 1 (by decide)
  have a4:=putO_len2 (d.text.length:Int) 1 (by decide)
  have z1:(4:Int).toNat=4:=rfl
  have z2:(1:Int).toNat=1:=rfl
  have hv:valT d=regT d:=by unfold valT; rw [hk]; rfl
  have hb:(bif d.dead then (1:Int) else 0)≤1:=by cases d.dead <;> decide
  refine ⟨((((putO d.time 4).1++(putO d.node 1).1)++(putO (bif d.dead then 1 else 0) 1).1)++(putO (d.text.length:Int) 1).1)++d.text,⟨fun _=>⟨_,num7 (by omega),_,num7 (by omega),?_,_,bit7 _,_,num7 (by omega),?_,_,num7 (by omega),?_,?_,rfl⟩,fun c=>?_⟩,?_,?_⟩
  ·omega
  ·simp only [List.length_append]; omega
  ·simp only [List.length_append]; omega
  ·simp only [List.length_append]; omega
  ·rw [hk] at c; cases c
  ·simp only [List.length_append]; omega
  ·have hz:=zeros_len (8 - (d.text.length:Int))
   have key:zeros (32 - ((((((putO d.time 4).1++(putO d.node 1).1)++(putO (bif d.dead then 1 else 0) 1).1)++(putO (d.text.length:Int) 1).1)++d.text).length:Int))=zeros (8 - (d.text.length:Int))++zeros (32 - ((regT d).length:Int)):=by
    have hr:(regT d).length=(putO d.time 4).1.length + ((putO d.node 1).1.length + ((putO (bif d.dead then 1 else 0) 1).1.length + ((putO (d.text.length:Int) 1).1.length + (d.text.length + (8 - (d.text.length:Int)).toNat)))):=by
     simp only [regT,List.length_append,hz]
    rw [zeros_add (by omega) (by omega),hr]
    simp only [List.length_append]
    congr 1; omega
   rw [key,hv]
   simp only [regT,List.append_assoc]
 ·have h8:=okV_8 ho hk
  have a1:=numsT_len d.plus
  have a2:=numsT_len d.minus
  have hv:valT d=cntT d:=by unfold valT; rw [hk]; rfl
  refine ⟨numsT d.plus++numsT d.minus,⟨fun c=>?_,fun _=>⟨fun _=>⟨_,nums7 _ (fun x hx=>by have:=(wf.plus x hx).2; omega) (by omega),_,nums7 _ (fun x hx=>by have:=(wf.minus x hx).2; omega) (by omega),?_,rfl⟩,fun c=>?_⟩⟩,?_,?_⟩
  ·rw [hk] at c; cases c
  ·omega
  ·rw [hk] at c; cases c
  ·simp only [List.length_append]; omega
  ·rw [hv]; rfl
 ·have hv:valT d=flgT d:=by unfold valT; rw [hk]; rfl
  have a1:=putO_len2 (lowF d.flags) 4 (by decide)
  have a2:=putO_len2 (highF d.flags) 4 (by decide)
  have z1:(4:Int).toNat=4:=rfl
  have b1:lowF d.flags≤9223372036854775807:=by have:=(show inI (lowF d.flags) from by unfold lowF; exact inI_wrap _).2; omega
  have b2:highF d.flags≤9223372036854775807:=by have:=(show inI (highF d.flags) from by unfold highF; exact inI_wrap _).2; omega
  refine ⟨(putO (lowF d.flags) 4).1++(putO (highF d.flags) 4).1,⟨fun c=>?_,fun _=>⟨fun c=>?_,fun _=>?_⟩⟩,?_,?_⟩
  ·rw [hk] at c; cases c
  ·rw [hk] at c; cases c
  ·rw [lowF_eq wf.flags,highF_eq wf.flags]
   exact ⟨_,num7 b1,_,num7 b2,by omega,rfl⟩
  ·simp only [List.length_append]; omega
  ·rw [hv]; rfl
theorem refPutE_ev (d:Ent) (hs:sm d.val) (wf:WfV d.val):ref07_Put_raw d (putE d):=by
 refine ⟨hs,fun h=>?_,fun h=>?_⟩
 ·have:okE d=false:=by simpa using h
  unfold putE; rw [this]; rfl
 ·have ho:okE d=true:=by simpa using h
  obtain ⟨h1,h2,h3⟩:=okE_val ho
  obtain ⟨x,hx,hl,he⟩:=data7 d.val h3 wf
  have w1:=wf.kind.2
  have a1:=putO_len2 d.val.kind 1 (by decide)
  have a2:=putO_len2 (d.key.length:Int) 1 (by decide)
  have z2:(1:Int).toNat=1:=rfl
  have k1:=zeros_len (8 - (d.key.length:Int))
  have k2:=zeros_len (32 - (x.length:Int))
  refine ⟨_,num7 (by omega),_,num7 (by omega),by omega,_,pad7 d.key 8 (by omega) (by omega),?_,x,hx,_,pad7 x 32 (by omega) (by omega),?_,?_⟩
  ·simp only [List.length_append]; omega
  ·simp only [List.length_append]; omega
  ·unfold putE; rw [ho,cond_true]
   unfold putT headT
   rw [← he]
   simp only [List.append_assoc]
end Go.Proofs.YthbfhgenkhkpfaaGreat