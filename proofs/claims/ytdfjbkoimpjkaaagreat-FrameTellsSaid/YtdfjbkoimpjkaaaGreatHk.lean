import Derived.Test.YtdfjbkoimpjkaaaGreatCu2
import Derived.Test.YtdfjbkoimpjkaaaGreatBh
import Derived.Test.YtdfjbkoimpjkaaaGreatQk
import Derived.Test.YtdfjbkoimpjkaaaGreatWn
import Derived.Test.YtdfjbkoimpjkaaaGreatSl
namespace Go.Proofs.YtdfjbkoimpjkaaaGreat
open Go Go.RowKit
set_option linter.unusedVariables false
set_option linter.unusedSimpArgs false
def octet_Get_b3 (d0:Str) (d1:Int) (d2:Int) (s3:Int × Int) (z3:(Int × Int) ⊕ (Int × Int)):Prop :=
 ((decide (s3.2<d2))=true→((0≤(IntKind.i64.wrap (d1 + s3.2))∧(IntKind.i64.wrap (d1 + s3.2))<(d0.length:Int))∧(decide (0≤(IntKind.i64.wrap ((8:Int) * s3.2)))=true∧(z3=.inl ((IntKind.i64.wrap ((BitVec.ofInt IntKind.i64.bits s3.1 ||| BitVec.ofInt IntKind.i64.bits (IntKind.i64.wrap ((IntKind.i64.wrap ((nth d0 (IntKind.i64.wrap (d1 + s3.2))).toNat:Int)) * 2 ^ min ((IntKind.i64.wrap ((8:Int) * s3.2))).toNat IntKind.i64.bits))).toNat:Int)),(IntKind.i64.wrap (s3.2 + (1:Int))))))))∧((decide (s3.2<d2))=false→(z3=.inr (s3.1,s3.2)))
def octet_Get_raw (d0:Str) (d1:Int) (d2:Int) (y:Int × Int):Prop :=
 (((decide (d2<1))||(decide (7<d2)))=true→(y=((0:Int),(1:Int))))∧(((decide (d2<1))||(decide (7<d2)))=false→(((((decide (d1<0))||(decide ((d0.length:Int)<d1)))||(decide ((IntKind.i64.wrap ((d0.length:Int) - d1))<d2)))=true→(y=((0:Int),(2:Int))))∧((((decide (d1<0))||(decide ((d0.length:Int)<d1)))||(decide ((IntKind.i64.wrap ((d0.length:Int) - d1))<d2)))=false→(∃ x3,LoopR (octet_Get_b3 d0 d1 d2) ((0:Int),(0:Int)) x3∧(y=(x3.1,(0:Int)))))))
set_option maxRecDepth 20000 in
set_option maxHeartbeats 4000000 in
theorem octet_Get_c {L:List Nat} {w:World} (d0:Str) (d1:Int) (d2:Int) (hL:Lt L w) {y:Int × Int} (h:octet_Get_raw d0 d1 d2 y) :
  Calls Tryz.prog 72 [str d0,.int .i64 d1,.int .i64 d2].toArray w (Ret fun v w'=>Ext w w'∧v=.tuple #[.int .i64 y.1,.int .i64 y.2]):=by
 unfold octet_Get_raw at h
 refine calls_ec Tryz.func72 rfl rfl rfl ?_
 refine ec_sr ?_
 iterate 2 refine o_w (v:=.int .i64 0) (r_asg rfl) ?_
 refine eo_nil_sq ?_
 refine ec_seq ?_
 refine ec_block ?_
 refine ec_sr ?_
 refine o_w (v:=.int .i64 d2) (r_mov rfl) ?_
 refine o_w (v:=.bool (decide (d2<1))) (r_int rfl rfl rfl) ?_
 refine o_w (v:=.bool (decide (d2<1))) (r_mov rfl) ?_
 refine o_vg (v:=.int .i64 d2) (want_cf (t:=13) rfl rfl) (fun hk=>(r_mov rfl)) rfl rfl ?_
 refine o_vg (v:=.bool (decide (7<d2))) (want_cf (t:=13) rfl rfl) (fun hk=>(r_int (gdT hk) rfl rfl)) rfl rfl ?_
 refine o_w (v:=.bool ((decide (d2<1))||(decide (7<d2)))) (r_pickOr rfl rfl (fun hf=>(gdT (notT hf)))) ?_
 refine o_w (v:=.bool ((decide (d2<1))||(decide (7<d2)))) (r_asg rfl) ?_
 refine eo_nil_sq ?_
 refine ec_cond rfl (fun hc1=>?_) (fun hc1=>?_)
 ·replace h:=h.1 hc1
  refine ec_sr ?_
  refine o_w (v:=.int .i64 0) (r_asg rfl) ?_
  refine o_w (v:=.int .i64 1) (r_asg rfl) ?_
  refine eo_nil_sq ?_
  refine ec_ret ?_
  refine blk_ret ?_
  refine sq_ret ?_
  subst h
  exact (end2 rfl rfl ⟨_,rfl,(Fr.refl _ _),rfl⟩)
 ·replace h:=h.2 hc1
  refine ec_sr ?_
  refine o_w (v:=.int .i64 d1) (r_mov rfl) ?_
  refine o_w (v:=.bool (decide (d1<0))) (r_int rfl rfl rfl) ?_
  refine o_w (v:=.bool (decide (d1<0))) (r_mov rfl) ?_
  refine o_vg (v:=.int .i64 d1) (want_cf (t:=20) rfl rfl) (fun hk=>(r_mov rfl)) rfl rfl ?_
  refine o_vg (v:=str d0) (want_cf (t:=20) rfl rfl) (fun hk=>(r_mov rfl)) rfl rfl ?_
  refine o_vg (v:=.int .i64 (d0.length:Int)) (want_cf (t:=20) rfl rfl) (fun hk=>(r_len_str un_string (gdT hk))) rfl rfl ?_
  refine o_vg (v:=.bool (decide ((d0.length:Int)<d1))) (want_cf (t:=20) rfl rfl) (fun hk=>(r_int (gdT hk) (gdT hk) rfl)) rfl rfl ?_
  refine o_w (v:=.bool ((decide (d1<0))||(decide ((d0.length:Int)<d1)))) (r_pickOr rfl rfl (fun hf=>(gdT (notT hf)))) ?_
  refine o_w (v:=.bool ((decide (d1<0))||(decide ((d0.length:Int)<d1)))) (r_mov rfl) ?_
  refine o_vg (v:=.int .i64 d2) (want_cf (t:=26) rfl rfl) (fun hk=>(r_mov rfl)) rfl rfl ?_
  refine o_vg (v:=str d0) (want_cf (t:=26) rfl rfl) (fun hk=>(r_mov rfl)) rfl rfl ?_
  refine o_vg (v:=.int .i64 (d0.length:Int)) (want_cf (t:=26) rfl rfl) (fun hk=>(r_len_str un_string (gdT hk))) rfl rfl ?_
  refine o_vg (v:=.int .i64 d1) (want_cf (t:=26) rfl rfl) (fun hk=>(r_mov rfl)) rfl rfl ?_
  refine o_vg (v:=.int .i64 (IntKind.i64.wrap ((d0.length:Int) - d1))) (want_cf (t:=26) rfl rfl) (fun hk=>(r_int (gdT hk) (gdT hk) rfl)) rfl rfl ?_
  refine o_vg (v:=.bool (decide ((IntKind.i64.wrap ((d0.length:Int) - d1))<d2))) (want_cf (t:=26) rfl rfl) (fun hk=>(r_int (gdT hk) (gdT hk) rfl)) rfl rfl ?_
  refine o_w (v:=.bool (((decide (d1<0))||(decide ((d0.length:Int)<d1)))||(decide ((IntKind.i64.wrap ((d0.length:Int) - d1))<d2)))) (r_pickOr rfl rfl (fun hf=>(gdT (notT hf)))) ?_
  refine o_w (v:=.bool (((decide (d1<0))||(decide ((d0.length:Int)<d1)))||(decide ((IntKind.i64.wrap ((d0.length:Int) - d1))<d2)))) (r_asg rfl) ?_
  refine eo_nil_sq ?_
  refine ec_cond rfl (fun hc2=>?_) (fun hc2=>?_)
  ·replace h:=h.1 hc2
   refine ec_sr ?_
   refine o_w (v:=.int .i64 0) (r_asg rfl) ?_
   refine o_w (v:=.int .i64 2) (r_asg rfl) ?_
   refine eo_nil_sq ?_
   refine ec_ret ?_
   refine blk_ret ?_
   refine sq_ret ?_
   subst h
   exact (end2 rfl rfl ⟨_,rfl,(Fr.refl _ _),rfl⟩)
  ·replace h:=h.2 hc2
   refine ec_skip ?_
   refine blk_n ?_
   refine sq_n ?_
   refine ec_sr ?_
   refine o_w (v:=.int .i64 0) (r_asg rfl) ?_
   refine eo_nil_sq ?_
   refine ec_seq ?_
   refine ec_sr ?_
   refine o_w (v:=.int .i64 d2) (r_mov rfl) ?_
   refine o_w (v:=.int .i64 0) (r_mov rfl) ?_
   refine eo_nil_sq ?_
   refine ec_block ?_
   obtain ⟨x3,hl3,h⟩:=h
   refine ec_loopE 1 (I:=(fun (s3:Int × Int) ρ ds w'=>∃ (ρ':Env),ρ=envs ρ' [(8,.int .i64 s3.1),(35,.int .i64 s3.2),(0,str d0),(1,.int .i64 d1),(34,.int .i64 d2)]∧ds=[]∧Fr L w w'∧Ext w w')) ?_ hl3 ?_ ?_
   ·intro s3 z3 ρ3 ds3 w3r hI3 hb3
    obtain ⟨ρ3r,rfl,rfl,F3r,E3r⟩:=hI3
    have h:=hb3
    unfold octet_Get_b3 at h
    refine ec_sr ?_
    refine o_w (v:=.bool (decide (s3.2<d2))) (r_int rfl rfl rfl) ?_
    refine eo_nil_sq ?_
    refine ec_seq ?_
    refine ec_cond rfl (fun hc4=>?_) (fun hc4=>?_)
    ·replace h:=h.1 hc4
     refine ec_skip ?_
     refine sq_n ?_
     refine ec_seq ?_
     refine ec_block ?_
     refine ec_sr ?_
     refine o_w (v:=.int .i64 s3.2) (r_mov rfl) ?_
     refine o_w (v:=.int .i64 s3.2) (r_asg rfl) ?_
     refine eo_q ?_
     refine o_w (v:=.int .i64 s3.1) (r_mov rfl) ?_
     refine o_w (v:=str d0) (r_mov rfl) ?_
     refine o_w (v:=.int .i64 d1) (r_mov rfl) ?_
     refine o_w (v:=.int .i64 s3.2) (r_mov rfl) ?_
     refine o_w (v:=.int .i64 (IntKind.i64.wrap (d1 + s3.2))) (r_int rfl rfl rfl) ?_
     obtain ⟨ha5,h⟩:=h
     refine o_w (v:=.int .u8 ((nth d0 (IntKind.i64.wrap (d1 + s3.2))).toNat:Int)) (r_ix_str un_string rfl rfl ha5.1 ha5.2) ?_
     refine o_w (v:=.int .i64 (IntKind.i64.wrap ((nth d0 (IntKind.i64.wrap (d1 + s3.2))).toNat:Int))) (r_conv un_uint8 un_int rfl) ?_
     refine o_w (v:=.int .i64 s3.2) (r_mov rfl) ?_
     refine o_w (v:=.int .i64 (IntKind.i64.wrap ((8:Int) * s3.2))) (r_int rfl rfl rfl) ?_
     obtain ⟨ha6,h⟩:=h
     refine o_w (v:=.int .i64 (IntKind.i64.wrap ((IntKind.i64.wrap ((nth d0 (IntKind.i64.wrap (d1 + s3.2))).toNat:Int)) * 2 ^ min ((IntKind.i64.wrap ((8:Int) * s3.2))).toNat IntKind.i64.bits))) (r_shl rfl rfl ha6) ?_
     refine o_w (v:=.int .i64 (IntKind.i64.wrap ((BitVec.ofInt IntKind.i64.bits s3.1 ||| BitVec.ofInt IntKind.i64.bits (IntKind.i64.wrap ((IntKind.i64.wrap ((nth d0 (IntKind.i64.wrap (d1 + s3.2))).toNat:Int)) * 2 ^ min ((IntKind.i64.wrap ((8:Int) * s3.2))).toNat IntKind.i64.bits))).toNat:Int))) (r_int rfl rfl rfl) ?_
     refine o_w (v:=.int .i64 (IntKind.i64.wrap ((BitVec.ofInt IntKind.i64.bits s3.1 ||| BitVec.ofInt IntKind.i64.bits (IntKind.i64.wrap ((IntKind.i64.wrap ((nth d0 (IntKind.i64.wrap (d1 + s3.2))).toNat:Int)) * 2 ^ min ((IntKind.i64.wrap ((8:Int) * s3.2))).toNat IntKind.i64.bits))).toNat:Int))) (r_asg rfl) ?_
     refine eo_nil ?_
     refine blk_n ?_
     refine sq_n ?_
     refine ec_region ?_
     refine o_w (v:=.int .i64 (IntKind.i64.wrap (s3.2 + (1:Int)))) (r_int rfl rfl rfl) ?_
     refine o_w (v:=.int .i64 (IntKind.i64.wrap (s3.2 + (1:Int)))) (r_mov rfl) ?_
     refine eo_nil ?_
     subst h
     exact lq_n ⟨_,envs_self ⟨rfl,rfl,rfl,rfl,rfl,trivial⟩,rfl,F3r,E3r⟩
    ·replace h:=h.2 hc4
     refine ec_exit ?_
     refine sq_exit ?_
     subst h
     exact lq_x ⟨_,envs_self ⟨rfl,rfl,rfl,rfl,rfl,trivial⟩,rfl,F3r,E3r⟩
   ·exact ⟨_,envs_self ⟨rfl,rfl,rfl,rfl,rfl,trivial⟩,rfl,(Fr.refl _ _),(Fr.refl _ _)⟩
   ·rintro ρ3e ds3e w3e ⟨ρ3e,rfl,rfl,F3e,E3e⟩
    refine blk_hit ?_
    refine sq_n ?_
    refine ec_sr ?_
    refine o_w (v:=.int .i64 x3.1) (r_mov rfl) ?_
    refine o_w (v:=.int .i64 x3.1) (r_asg rfl) ?_
    refine o_w (v:=.int .i64 0) (r_asg rfl) ?_
    refine eo_nil_sq ?_
    refine ec_ret ?_
    subst h
    exact (end2 rfl rfl ⟨_,rfl,E3e,rfl⟩)
def ref07_num_raw (d0:Int) (d1:Int) (y:Str):Prop :=
 (d0≤9223372036854775807)∧(∃ x1,x1=(putO d0 d1)∧(y=x1.1))
set_option maxRecDepth 20000 in
set_option maxHeartbeats 4000000 in
theorem ref07_num_c {L:List Nat} {w:World} (d0:Int) (d1:Int) (hL:Lt L w) {y:Str} (h:ref07_num_raw d0 d1 y) :
  Calls Tryz.prog 64 [.int .i64 d0,.int .i64 d1].toArray w (Ret fun v w'=>Ext w w'∧v=str y):=by
 unfold ref07_num_raw at h
 refine calls_ec Tryz.func64 rfl rfl rfl ?_
 refine ec_sr ?_
 refine o_w (v:=str []) (r_asg rfl) ?_
 refine eo_r ?_
 refine o_w (v:=.int .i64 d0) (r_mov rfl) ?_
 refine o_w (v:=.int .i64 d1) (r_mov rfl) ?_
 obtain ⟨ha2,h⟩:=h
 obtain ⟨x1,hx1,h⟩:=h
 refine o_call cf_ref01_Put rfl (ref01_Put_c d0 d1 hL (eq_ev hx1 (refPutO_ev d0 d1 ha2))) rfl rfl ?_
 rintro _ w1 ⟨F1,rfl⟩
 refine o_w (v:=.tuple #[str x1.1,.int .i64 x1.2]) (r_mov rfl) ?_
 refine o_w (v:=str x1.1) (r_ext rfl rfl) ?_
 refine o_w (v:=.int .i64 x1.2) (r_ext rfl rfl) ?_
 refine o_w (v:=str x1.1) (r_asg rfl) ?_
 refine o_w (v:=.int .i64 x1.2) (r_asg rfl) ?_
 refine eo_r ?_
 refine o_w (v:=str x1.1) (r_mov rfl) ?_
 refine o_w (v:=str x1.1) (r_asg rfl) ?_
 refine eo_nil_sq ?_
 refine ec_ret ?_
 subst h
 exact (end1 rfl ⟨_,rfl,F1,rfl⟩)
def ref07_pad_raw (d0:Str) (d1:Int) (y:Str):Prop :=
 (0≤(IntKind.i64.wrap (d1 - (d0.length:Int)))∧(IntKind.i64.wrap (d1 - (d0.length:Int))) * 1≤281474976710656∧(IntKind.i64.wrap (d1 - (d0.length:Int)))≤9223372036854775807)∧(d0.length + (bstr (List.replicate ((IntKind.i64.wrap (d1 - (d0.length:Int)))).toNat (0:Int))).length≤9223372036854775807∧(y=(d0++(bstr (List.replicate ((IntKind.i64.wrap (d1 - (d0.length:Int)))).toNat (0:Int))))))
set_option maxRecDepth 20000 in
set_option maxHeartbeats 4000000 in
theorem ref07_pad_c {L:List Nat} {w:World} (d0:Str) (d1:Int) (hL:Lt L w) {y:Str} (h:ref07_pad_raw d0 d1 y) :
  Calls Tryz.prog 65 [str d0,.int .i64 d1].toArray w (Ret fun v w'=>Ext w w'∧v=str y):=by
 unfold ref07_pad_raw at h
 refine calls_ec Tryz.func65 rfl rfl rfl ?_
 refine ec_sr ?_
 refine o_w (v:=str []) (r_asg rfl) ?_
 refine eo_r ?_
 refine o_w (v:=str d0) (r_mov rfl) ?_
 refine o_w (v:=.int .i64 d1) (r_mov rfl) ?_
 refine o_w (v:=str d0) (r_mov rfl) ?_
 refine o_w (v:=.int .i64 (d0.length:Int)) (r_len_str un_string rfl) ?_
 refine o_w (v:=.int .i64 (IntKind.i64.wrap (d1 - (d0.length:Int)))) (r_int rfl rfl rfl) ?_
 have lo1:w.heap.size≤w.heap.size:=Nat.le_refl _
 obtain ⟨ha2,h⟩:=h
 refine o_make (k:=(kI .u8)) slc_s_uint8 rfl rfl (z:=(0:Int)) (fun _=>rfl) rfl rfl ha2 hL rfl rfl (by decide) ?_
 intro v1 w1 F1 O1 N1
 obtain ⟨A3,c4,eA3,H5⟩:=O1.still
 subst eA3
 have Zw1_6:=Fr.refl L w1
 refine o_w (v:=str (bstr (List.replicate ((IntKind.i64.wrap (d1 - (d0.length:Int)))).toNat (0:Int)))) (r_bstr slc_s_uint8 un_uint8 un_string rfl (H5.fr Zw1_6 sI).now) ?_
 obtain ⟨ha8,h⟩:=h
 refine o_w (v:=str (d0++(bstr (List.replicate ((IntKind.i64.wrap (d1 - (d0.length:Int)))).toNat (0:Int))))) (r_cat rfl rfl ha8) ?_
 refine o_w (v:=str (d0++(bstr (List.replicate ((IntKind.i64.wrap (d1 - (d0.length:Int)))).toNat (0:Int))))) (r_asg rfl) ?_
 refine eo_nil_sq ?_
 refine ec_ret ?_
 subst h
 exact (end1 rfl ⟨_,rfl,F1,rfl⟩)
def ref07_bit_raw (d0:Bool) (y:Int):Prop :=
 (d0=true→(y=(1:Int)))∧(d0=false→(y=(0:Int)))
set_option maxRecDepth 20000 in
set_option maxHeartbeats 4000000 in
theorem ref07_bit_c {L:List Nat} {w:World} (d0:Bool) (hL:Lt L w) {y:Int} (h:ref07_bit_raw d0 y) :
  Calls Tryz.prog 84 [.bool d0].toArray w (Ret fun v w'=>Ext w w'∧v=.int .i64 y):=by
 unfold ref07_bit_raw at h
 refine calls_ec Tryz.func84 rfl rfl rfl ?_
 refine ec_sr ?_
 refine o_w (v:=.int .i64 0) (r_asg rfl) ?_
 refine eo_nil_sq ?_
 refine ec_seq ?_
 refine ec_sr ?_
 refine o_w (v:=.bool d0) (r_mov rfl) ?_
 refine eo_nil_sq ?_
 refine ec_cond rfl (fun hc1=>?_) (fun hc1=>?_)
 ·replace h:=h.1 hc1
  refine ec_sr ?_
  refine o_w (v:=.int .i64 1) (r_asg rfl) ?_
  refine eo_nil_sq ?_
  refine ec_ret ?_
  refine sq_ret ?_
  subst h
  exact (end1 rfl ⟨_,rfl,(Fr.refl _ _),rfl⟩)
 ·replace h:=h.2 hc1
  refine ec_skip ?_
  refine sq_n ?_
  refine ec_sr ?_
  refine o_w (v:=.int .i64 0) (r_asg rfl) ?_
  refine eo_nil_sq ?_
  refine ec_ret ?_
  subst h
  exact (end1 rfl ⟨_,rfl,(Fr.refl _ _),rfl⟩)

/-- Bytes as a number, the first the least. -/
def leN : List UInt8 → Nat
  | [] => 0
  | b :: l => b.toNat + 256 * leN l
theorem leN_lt:∀ (l:List UInt8),leN l<256 ^ l.length
 | []=>by simp [leN]
 | b::l=>by
  have h1:=leN_lt l
  have h2:b.toNat<256:=b.toNat_lt
  have e:256 ^ (b::l).length=256 * 256 ^ l.length:=by rw [List.length_cons,Nat.pow_succ,Nat.mul_comm]
  rw [e]; simp only [leN]; omega
theorem leN_snoc:∀ (l:List UInt8) (b:UInt8),leN (l++[b])=leN l + b.toNat * 256 ^ l.length
 | [],b=>by simp [leN]
 | c::l,b=>by
  simp only [List.cons_append,leN,leN_snoc l b,List.length_cons,Nat.pow_succ]
  rw [Nat.mul_add,← Nat.add_assoc,Nat.mul_left_comm,Nat.mul_comm 256 (256 ^ l.length)]
def getO (s:Str) (at_ w:Int):Int × Int :=
 bif decide (w<1)||decide (7<w) then (0,1) else bif (decide (at_<0)||decide ((s.length:Int)<at_))||decide ((s.length:Int) - at_<w) then (0,2) else ((leN ((s.drop at_.toNat).take w.toNat):Int),0)
theorem pow256 (k:Nat):(256:Nat) ^ k=2 ^ (8 * k):=by rw [show (256:Nat)=2 ^ 8 from rfl,← Nat.pow_mul]
theorem or_step (n b k:Nat) (hn:n<256 ^ k) (hb:b<256) (hk:k<7) :
  IntKind.i64.wrap ((BitVec.ofInt IntKind.i64.bits (n:Int) ||| BitVec.ofInt IntKind.i64.bits (((b:Int)) * 2 ^ (8 * k))).toNat:Int)=((n + b * 256 ^ k:Nat):Int):=by
 have h7:n + b * 256 ^ k<256 ^ 7:=by
  have h1:(256:Nat) ^ (k + 1)≤256 ^ 7:=Nat.pow_le_pow_right (by decide) (by omega)
  have h2:b * 256 ^ k≤255 * 256 ^ k:=Nat.mul_le_mul_right _ (by omega)
  rw [Nat.pow_succ] at h1; omega
 have e7:(256:Nat) ^ 7=72057594037927936:=by decide
 have hbk:b * 256 ^ k<72057594037927936:=by omega
 have hcast:((b:Int)) * 2 ^ (8 * k)=((b * 256 ^ k:Nat):Int):=by rw [pow256]; simp
 have e:(BitVec.ofInt IntKind.i64.bits (n:Int) ||| BitVec.ofInt IntKind.i64.bits (((b:Int)) * 2 ^ (8 * k))).toNat=n + b * 256 ^ k:=by
  rw [hcast]
  show (BitVec.ofInt 64 ((n:Nat):Int) ||| BitVec.ofInt 64 ((b * 256 ^ k:Nat):Int)).toNat=_
  rw [BitVec.toNat_or,BitVec.ofInt_natCast,BitVec.ofInt_natCast,BitVec.toNat_ofNat,BitVec.toNat_ofNat,Nat.mod_eq_of_lt (by omega),Nat.mod_eq_of_lt (by omega)]
  have:=Nat.two_pow_add_eq_or_of_lt (b:=n) (i:=8 * k) (by rw [← pow256]; exact hn) b
  rw [pow256,Nat.mul_comm b,Nat.or_comm,← this,Nat.add_comm]
 rw [e,wrap64 (by omega) (by omega)]
theorem octGet_run (s:Str) (a w:Nat) (hw:w≤7) (hl:a + w≤s.length) (hs:s.length≤9223372036854775807):∀ (k i:Nat),i + k=w →
  LoopR (octet_Get_b3 s (a:Int) (w:Int)) ((leN ((s.drop a).take i):Int),(i:Int)) ((leN ((s.drop a).take w):Int),(w:Int))
 | 0,i,hi=>by
  obtain rfl:i=w:=by omega
  exact .done ⟨fun c=>by simp at c,fun _=>rfl⟩
 | k + 1,i,hi=>by
  have hlen:((s.drop a).take i).length=i:=by simp; omega
  have hlt:=leN_lt ((s.drop a).take i)
  rw [hlen] at hlt
  have e1:IntKind.i64.wrap ((a:Int) + (i:Int))=((a + i:Nat):Int):=by rw [wrap64 (by omega) (by omega)]; omega
  have e2:IntKind.i64.wrap ((8:Int) * (i:Int))=((8 * i:Nat):Int):=by rw [wrap64 (by omega) (by omega)]; omega
  have hb:(s.getD (a + i) default).toNat<256:=(s.getD (a + i) default).toNat_lt
  have e3:IntKind.i64.wrap ((s.getD (a + i) default).toNat:Int)=((s.getD (a + i) default).toNat:Int):=wrap64 (by omega) (by omega)
  have esn:(s.drop a).take (i + 1)=(s.drop a).take i++[s.getD (a + i) default]:=by
   rw [List.take_add_one]; simp [show a + i<s.length by omega]
  have ih:=octGet_run s a w hw hl hs k (i + 1) (by omega)
  rw [esn,leN_snoc,hlen] at ih
  refine .step ⟨fun _=>?_,fun c=>by simp at c; omega⟩ ih
  simp only [e1,e2,nth_nat,e3]
  refine ⟨⟨by omega,by omega⟩,by rw [decide_eq_true_eq]; omega,?_⟩
  have hp:(256:Nat) ^ i≤256 ^ 6:=Nat.pow_le_pow_right (by decide) (by omega)
  have e6:(256:Nat) ^ 6=281474976710656:=by decide
  have hm:(s.getD (a + i) default).toNat * 256 ^ i≤255 * 281474976710656:=Nat.le_trans (Nat.mul_le_mul_right _ (by omega)) (Nat.mul_le_mul_left _ (by omega))
  have e4:min (((8 * i:Nat):Int)).toNat IntKind.i64.bits=8 * i:=by
   show min (((8 * i:Nat):Int)).toNat 64=8 * i
   rw [Int.toNat_natCast]; omega
  rw [e4]
  have e5:IntKind.i64.wrap (((s.getD (a + i) default).toNat:Int) * 2 ^ (8 * i))=((s.getD (a + i) default).toNat:Int) * 2 ^ (8 * i):=by
   have hc:((s.getD (a + i) default).toNat:Int) * 2 ^ (8 * i)=(((s.getD (a + i) default).toNat * 256 ^ i:Nat):Int):=by rw [pow256]; simp
   rw [hc,wrap64 (by omega) (by omega)]
  rw [e5,or_step _ _ _ hlt hb (by omega),wrap64 (n:=(i:Int) + 1) (by omega) (by omega)]
  rfl
theorem octGet_ev (s:Str) (a w:Int) (hs:s.length≤9223372036854775807):octet_Get_raw s a w (getO s a w):=by
 refine ⟨fun hc=>by unfold getO; rw [hc]; rfl,fun hc=>⟨fun hd=>?_,fun hd=>?_⟩⟩
 ·unfold getO
  rw [hc]
  by_cases ha:(decide (a<0)||decide ((s.length:Int)<a))=true
  ·rw [ha]; rfl
  ·have ha':(decide (a<0)||decide ((s.length:Int)<a))=false:=by simpa using ha
   rw [ha'] at hd ⊢
   simp only [Bool.or_eq_false_iff,decide_eq_false_iff_not] at ha'
   rw [wrap64 (by omega) (by omega)] at hd
   rw [hd]; rfl
 ·simp only [Bool.or_eq_false_iff,decide_eq_false_iff_not] at hc hd
  obtain ⟨⟨hd1,hd2⟩,hd3⟩:=hd
  rw [wrap64 (by omega) (by omega)] at hd3
  obtain ⟨m,rfl⟩:=Int.eq_ofNat_of_zero_le (show 0≤a by omega)
  obtain ⟨n,rfl⟩:=Int.eq_ofNat_of_zero_le (show 0≤w by omega)
  refine ⟨_,by simpa [leN] using octGet_run s m n (by omega) (by omega) hs n 0 (by omega),?_⟩
  have h1:(decide ((n:Int)<1)||decide (7<(n:Int)))=false:=by simp; omega
  have h2:((decide ((m:Int)<0)||decide ((s.length:Int)<(m:Int)))||decide ((s.length:Int) - (m:Int)<(n:Int)))=false:=by simp; omega
  unfold getO
  rw [h1,h2]; rfl

/-- What a panic of the reader bears. -/
abbrev oddC : List PanicEntry := [{ v := .iface 115 (.agg #[]), recovered := false }]
/-- A call of the reader b, that holds s: it tells x and holds t behind that, or it panics. -/
def RdR (b : Nat) (w : World) (z : Option (Value × Str)) : Ending → World → Prop := fun e w' => match z with
  | some (v, t) => e = .returned v ∧ Fr [b] w w' ∧ Blk w' b 119 [str t]
  | none => e = .panicked oddC ∧ Fr [b] w w'
theorem fld_reader_0:Fld Tryz.prog 119 0 0:=⟨_,Tryz.underlying119,_,rfl,rfl,fnz in_string (by decide)⟩
theorem zero_odd:Zero Tryz.prog 115 (.agg #[]):=zero_of (show (Tryz.prog.info? 115).map (fun i=>(i.zero,i.size,i.bytes))=some (some (.agg #[]),0,0) by kernel_rfl)
theorem bld_odd:Bld Tryz.prog 115 [] []:=bld_struct zero_odd rfl Tryz.underlying115 (fun _=>by kernel_rfl)
theorem cf_octet_Get:CF Tryz.prog 72:=fun _ _=>by kernel_rfl
def numR (s:Str) (n:Nat):Option (Value × Str):=if s.length<n then none else some (.int .i64 (leN (s.take n):Int),s.drop n)
def textR (s:Str) (n:Int) (wd:Nat):Option (Value × Str):=if (wd:Int)<n∨s.length<wd then none else some (str (s.take n.toNat),s.drop wd)
theorem conc_odd : Tryz.prog.concrete 115=true:=by kernel_rfl
theorem getO_0 (s:Str) (n:Nat) (h1:1≤n) (h7:n≤7):getO s 0 (n:Int)=if s.length<n then (0,2) else ((leN (s.take n):Int),0):=by
 unfold getO
 have e1:(decide ((n:Int)<1)||decide (7<(n:Int)))=false:=by simp; omega
 rw [e1]
 by_cases h:s.length<n
 ·have e2:((decide ((0:Int)<0)||decide ((s.length:Int)<0))||decide ((s.length:Int) - 0<(n:Int)))=true:=by simp; omega
  rw [e2,if_pos h]; rfl
 ·have e2:((decide ((0:Int)<0)||decide ((s.length:Int)<0))||decide ((s.length:Int) - 0<(n:Int)))=false:=by simp; omega
  rw [e2,if_neg h]; simp
section
variable {ρ : Env} {w : World} {d : Option Nat} {ty : TypeId} {pos : String} {after : Array Edge} {g : Option (Nat × Bool)}
theorem cut_lo {X Y:Operand} {s:Str} {n:Nat} (hX:ev ρ X=str s) (hY:ev ρ Y=.int .i64 (n:Int)) (h:n≤s.length):RunV Tryz.prog ρ w ⟨d,.slice 9 X (some Y) none none,ty,pos,after,g⟩ (str (s.drop n)):=by
 have e:cut s (n:Int) (s.length:Int)=s.drop n:=by simp [cut]
 rw [← e]
 exact r_sl_str un_string hX ⟨_,hY⟩ rfl (by omega) (by omega) (by omega)
theorem cut_hi {X Y:Operand} {s:Str} {n:Nat} (hX:ev ρ X=str s) (hY:ev ρ Y=.int .i64 (n:Int)) (h:n≤s.length):RunV Tryz.prog ρ w ⟨d,.slice 9 X none (some Y) none,ty,pos,after,g⟩ (str (s.take n)):=by
 have e:cut s (0:Int) (n:Int)=s.take n:=by simp [cut]
 rw [← e]
 exact r_sl_str un_string hX rfl ⟨_,hY⟩ (by omega) (by omega) (by omega)
end
set_option maxRecDepth 20000 in
theorem rd_number {w:World} {b:Nat} {s:Str} (HB:Blk w b 119 [str s]) (n:Nat) (h1:1≤n) (h7:n≤7) (hs:s.length≤9223372036854775807) :
  Calls Tryz.prog 74 [.pointer (some ⟨b,0,none⟩),.int .i64 (n:Int)].toArray w (RdR b w (numR s n)):=by
 refine calls_ec Tryz.func74 rfl rfl rfl ?_
 refine ec_sr ?_
 refine o_w (v:=.int .i64 0) (r_asg rfl) ?_
 refine eo_r ?_
 refine o_w (v:=.pointer (some ⟨b,0,none⟩)) (r_mov rfl) ?_
 refine o_w (v:=.pointer (some ⟨b,0,none⟩)) (r_nilchk rfl) ?_
 refine o_w (v:=.pointer (some ⟨b,0,none⟩)) (r_fa fld_reader_0 rfl rfl) ?_
 refine o_w (v:=str s) (r_ld one_string rfl (HB.cell rfl)) ?_
 refine o_w (v:=.int .i64 (n:Int)) (r_mov rfl) ?_
 refine o_call cf_octet_Get rfl (octet_Get_c (L:=[]) s (0:Int) (n:Int) (fun _ hm=>by cases hm) (octGet_ev s 0 (n:Int) hs)) rfl rfl ?_
 rintro _ w1 ⟨F1,rfl⟩
 have B1:=HB.ex F1
 rw [getO_0 s n h1 h7]
 unfold numR
 by_cases h:s.length<n
 ·rw [if_pos h,if_pos h]
  refine o_w (v:=.tuple #[.int .i64 0,.int .i64 2]) (r_mov rfl) ?_
  refine o_w (v:=.int .i64 0) (r_ext rfl rfl) ?_
  refine o_w (v:=.int .i64 2) (r_ext rfl rfl) ?_
  refine o_w (v:=.int .i64 0) (r_asg rfl) ?_
  refine o_w (v:=.int .i64 2) (r_asg rfl) ?_
  refine eo_nil_sq ?_
  refine ec_seq ?_
  refine ec_sr ?_
  refine o_w (v:=.int .i64 2) (r_mov rfl) ?_
  refine o_w (v:=.bool true) (r_int rfl rfl rfl) ?_
  refine eo_nil_sq ?_
  refine ec_condT rfl rfl ?_
  refine ec_region ?_
  refine o_w (v:=.agg #[]) (r_build bld_odd (vs:=[]) (cells:=[]) rfl rfl) ?_
  refine o_w (v:=.iface 115 (.agg #[])) (r_mkif conc_odd rfl) ?_
  refine o_panic rfl rfl ?_
  exact ⟨rfl,rfl,Fr.ext F1⟩
 ·rw [if_neg h,if_neg h]
  refine o_w (v:=.tuple #[.int .i64 (leN (s.take n):Int),.int .i64 0]) (r_mov rfl) ?_
  refine o_w (v:=.int .i64 (leN (s.take n):Int)) (r_ext rfl rfl) ?_
  refine o_w (v:=.int .i64 0) (r_ext rfl rfl) ?_
  refine o_w (v:=.int .i64 (leN (s.take n):Int)) (r_asg rfl) ?_
  refine o_w (v:=.int .i64 0) (r_asg rfl) ?_
  refine eo_nil_sq ?_
  refine ec_seq ?_
  refine ec_sr ?_
  refine o_w (v:=.int .i64 0) (r_mov rfl) ?_
  refine o_w (v:=.bool false) (r_int rfl rfl rfl) ?_
  refine eo_nil_sq ?_
  refine ec_condF rfl rfl ?_
  refine ec_skip ?_
  refine sq_n ?_
  refine ec_sr ?_
  iterate 2 refine o_w (v:=.pointer (some ⟨b,0,none⟩)) (r_mov rfl) ?_
  refine o_w (v:=.pointer (some ⟨b,0,none⟩)) (r_nilchk rfl) ?_
  refine o_w (v:=.pointer (some ⟨b,0,none⟩)) (r_fa fld_reader_0 rfl rfl) ?_
  refine o_w (v:=str s) (r_ld one_string rfl (B1.cell rfl)) ?_
  refine o_w (v:=.int .i64 (n:Int)) (r_mov rfl) ?_
  refine o_w (v:=str (s.drop n)) (cut_lo rfl rfl (by omega)) ?_
  refine o_w (v:=.pointer (some ⟨b,0,none⟩)) (r_nilchk rfl) ?_
  refine o_w (v:=.pointer (some ⟨b,0,none⟩)) (r_fa fld_reader_0 rfl rfl) ?_
  refine o_store rfl B1 (vs:=[str (s.drop n)]) rfl sz_string rfl rfl rfl ?_
  intro w2 F2 B2
  refine eo_r ?_
  refine o_w (v:=.int .i64 (leN (s.take n):Int)) (r_mov rfl) ?_
  refine o_w (v:=.int .i64 (leN (s.take n):Int)) (r_asg rfl) ?_
  refine eo_nil_sq ?_
  refine ec_ret ?_
  exact end1 rfl ⟨rfl,(Fr.ext F1).trans F2,B2⟩
set_option maxRecDepth 20000 in
theorem rd_text {w:World} {b:Nat} {s:Str} (HB:Blk w b 119 [str s]) (n wd:Nat) (hs:s.length≤9223372036854775807) :
  Calls Tryz.prog 75 [.pointer (some ⟨b,0,none⟩),.int .i64 (n:Int),.int .i64 (wd:Int)].toArray w (RdR b w (textR s (n:Int) wd)):=by
 refine calls_ec Tryz.func75 rfl rfl rfl ?_
 refine ec_sr ?_
 refine o_w (v:=str []) (r_asg rfl) ?_
 refine eo_nil_sq ?_
 refine ec_seq ?_
 refine ec_sr ?_
 refine o_w (v:=.int .i64 (n:Int)) (r_mov rfl) ?_
 refine o_w (v:=.int .i64 (wd:Int)) (r_mov rfl) ?_
 refine o_w (v:=.bool (decide ((wd:Int)<(n:Int)))) (r_int rfl rfl rfl) ?_
 refine o_w (v:=.bool (decide ((wd:Int)<(n:Int)))) (r_mov rfl) ?_
 by_cases hc:(wd:Int)<(n:Int)
 ·have hd:decide ((wd:Int)<(n:Int))=true:=by simpa using hc
  iterate 7 refine o_no (want_f (t:=11) rfl rfl hd) rfl ?_
  refine o_w (v:=.bool true) (r_pickT rfl hd rfl) ?_
  refine eo_nil_sq ?_
  refine ec_condT rfl rfl ?_
  refine ec_region ?_
  refine o_w (v:=.agg #[]) (r_build bld_odd (vs:=[]) (cells:=[]) rfl rfl) ?_
  refine o_w (v:=.iface 115 (.agg #[])) (r_mkif conc_odd rfl) ?_
  refine o_panic rfl rfl ?_
  refine ⟨rfl,?_⟩
  unfold textR
  rw [if_pos (.inl hc)]
  exact ⟨rfl,Fr.refl _ _⟩
 ·have hd:decide ((wd:Int)<(n:Int))=false:=by simpa using hc
  refine o_v (v:=.int .i64 (wd:Int)) (r_mov rfl) (want_t (t:=11) rfl rfl hd) rfl rfl ?_
  refine o_v (v:=.pointer (some ⟨b,0,none⟩)) (r_mov rfl) (want_t (t:=11) rfl rfl hd) rfl rfl ?_
  refine o_v (v:=.pointer (some ⟨b,0,none⟩)) (r_nilchk rfl) (want_t (t:=11) rfl rfl hd) rfl rfl ?_
  refine o_v (v:=.pointer (some ⟨b,0,none⟩)) (r_fa fld_reader_0 rfl rfl) (want_t (t:=11) rfl rfl hd) rfl rfl ?_
  refine o_v (v:=str s) (r_ld one_string rfl (HB.cell rfl)) (want_t (t:=11) rfl rfl hd) rfl rfl ?_
  refine o_v (v:=.int .i64 (s.length:Int)) (r_len_str un_string rfl) (want_t (t:=11) rfl rfl hd) rfl rfl ?_
  refine o_v (v:=.bool (decide ((s.length:Int)<(wd:Int)))) (r_int rfl rfl rfl) (want_t (t:=11) rfl rfl hd) rfl rfl ?_
  refine o_w (v:=.bool (decide ((s.length:Int)<(wd:Int)))) (r_pickF rfl hd rfl) ?_
  refine eo_nil_sq ?_
  refine ec_cond rfl (fun h2=>?_) (fun h2=>?_)
  ·refine ec_region ?_
   refine o_w (v:=.agg #[]) (r_build bld_odd (vs:=[]) (cells:=[]) rfl rfl) ?_
   refine o_w (v:=.iface 115 (.agg #[])) (r_mkif conc_odd rfl) ?_
   refine o_panic rfl rfl ?_
   refine ⟨rfl,?_⟩
   unfold textR
   rw [if_pos (.inr (by simpa using h2))]
   exact ⟨rfl,Fr.refl _ _⟩
  ·have h2':wd≤s.length:=by simpa using h2
   refine ec_skip ?_
   refine sq_n ?_
   refine ec_sr ?_
   refine o_w (v:=.pointer (some ⟨b,0,none⟩)) (r_mov rfl) ?_
   refine o_w (v:=.pointer (some ⟨b,0,none⟩)) (r_nilchk rfl) ?_
   refine o_w (v:=.pointer (some ⟨b,0,none⟩)) (r_fa fld_reader_0 rfl rfl) ?_
   refine o_w (v:=str s) (r_ld one_string rfl (HB.cell rfl)) ?_
   refine o_w (v:=.int .i64 (n:Int)) (r_mov rfl) ?_
   refine o_w (v:=str (s.take n)) (cut_hi rfl rfl (by omega)) ?_
   refine o_w (v:=str (s.take n)) (r_asg rfl) ?_
   refine eo_r ?_
   iterate 2 refine o_w (v:=.pointer (some ⟨b,0,none⟩)) (r_mov rfl) ?_
   refine o_w (v:=.pointer (some ⟨b,0,none⟩)) (r_nilchk rfl) ?_
   refine o_w (v:=.pointer (some ⟨b,0,none⟩)) (r_fa fld_reader_0 rfl rfl) ?_
   refine o_w (v:=str s) (r_ld one_string rfl (HB.cell rfl)) ?_
   refine o_w (v:=.int .i64 (wd:Int)) (r_mov rfl) ?_
   refine o_w (v:=str (s.drop wd)) (cut_lo rfl rfl h2') ?_
   refine o_w (v:=.pointer (some ⟨b,0,none⟩)) (r_nilchk rfl) ?_
   refine o_w (v:=.pointer (some ⟨b,0,none⟩)) (r_fa fld_reader_0 rfl rfl) ?_
   refine o_store rfl HB (vs:=[str (s.drop wd)]) rfl sz_string rfl rfl rfl ?_
   intro w2 F2 B2
   refine eo_r ?_
   refine o_w (v:=str (s.take n)) (r_mov rfl) ?_
   refine o_w (v:=str (s.take n)) (r_asg rfl) ?_
   refine eo_nil_sq ?_
   refine ec_ret ?_
   refine end1 (v:=str (s.take n)) rfl ?_
   unfold textR
   rw [if_neg (by omega)]
   exact ⟨by simp,F2,B2⟩

theorem cf_rnumber:CF Tryz.prog 74:=fun _ _=>by kernel_rfl
theorem cf_rtext:CF Tryz.prog 75:=fun _ _=>by kernel_rfl
theorem cf_rcounts:CF Tryz.prog 90:=fun _ _=>by kernel_rfl
theorem cf_rvalue:CF Tryz.prog 76:=fun _ _=>by kernel_rfl
/-- What is read, with no panic. -/
abbrev RdN (b : Nat) (w : World) (v : Value) (t : Str) : Value → World → Prop := fun r w' => r = v ∧ Fr [b] w w' ∧ Blk w' b 119 [str t]
/-- What is read, if there is enough; otherwise a panic. -/
abbrev RdP (b : Nat) (w : World) (ok : Prop) (post : Value → World → Prop) : Ending → World → Prop := fun e w' => (∃ v, e = .returned v ∧ (ok ∧ post v w')) ∨ (∃ c, e = .panicked c ∧ (c = oddC ∧ ¬ ok ∧ Fr [b] w w'))
theorem rd_num {w:World} {b:Nat} {s:Str} (HB:Blk w b 119 [str s]) (n:Nat) (h1:1≤n) (h7:n≤7) (hs:s.length≤9223372036854775807) :
  Calls Tryz.prog 74 [.pointer (some ⟨b,0,none⟩),.int .i64 (n:Int)].toArray w (RdP b w (n≤s.length) (RdN b w (.int .i64 (leN (s.take n):Int)) (s.drop n))):=by
 refine (rd_number HB n h1 h7 hs).mono ?_
 intro e w' h
 unfold RdR numR at h
 by_cases hn:s.length<n
 ·rw [if_pos hn] at h
  exact .inr ⟨_,h.1,rfl,by omega,h.2⟩
 ·rw [if_neg hn] at h
  exact .inl ⟨_,h.1,by omega,rfl,h.2.1,h.2.2⟩
theorem rd_txt {w:World} {b:Nat} {s:Str} (HB:Blk w b 119 [str s]) (n wd:Nat) (hs:s.length≤9223372036854775807) :
  Calls Tryz.prog 75 [.pointer (some ⟨b,0,none⟩),.int .i64 (n:Int),.int .i64 (wd:Int)].toArray w (RdP b w (n≤wd∧wd≤s.length) (RdN b w (str (s.take n)) (s.drop wd))):=by
 refine (rd_text HB n wd hs).mono ?_
 intro e w' h
 unfold RdR textR at h
 by_cases hn:(wd:Int)<(n:Int)∨s.length<wd
 ·rw [if_pos hn] at h
  exact .inr ⟨_,h.1,rfl,by omega,h.2⟩
 ·rw [if_neg hn] at h
  exact .inl ⟨_,h.1,by omega,by simp,h.2.1,h.2.2⟩
theorem rowD_i64 (w:World) (n:Int):RowD (kI .i64) w [.int .i64 n] [n]:=by
 intro i hi
 have:i=0:=by simpa using hi
 subst this
 rfl
/-- Numbers of two bytes. -/
def pairs : Nat → Str → List Int
  | 0, _ => []
  | k + 1, s => (leN (s.take 2) : Int) :: pairs k (s.drop 2)
theorem pairs_snoc:∀ (k:Nat) (s:Str),pairs (k + 1) s=pairs k s++[(leN ((s.drop (2 * k)).take 2):Int)]
 | 0,s=>by simp [pairs]
 | k + 1,s=>by
  rw [pairs,pairs_snoc k (s.drop 2),pairs]
  simp [List.drop_drop,Nat.mul_add,Nat.add_comm]
theorem pairs_len:∀ (k:Nat) (s:Str),(pairs k s).length=k
 | 0,_=>rfl
 | k + 1,s=>by simp [pairs,pairs_len k]
/-- Eight rounds of two bytes each, or too few bytes. -/
def cntP (n : Nat) (i : Nat) (z : Nat ⊕ Bool) : Prop := (i < 8 → 2 * (i + 1) ≤ n → z = .inl (i + 1)) ∧ (i < 8 → n < 2 * (i + 1) → z = .inr false) ∧ (¬ i < 8 → z = .inr true)
theorem cntP_loop1 (n:Nat):∀ (k i:Nat),i + k=8→LoopR (cntP n) i (decide (16≤n)||(decide (n<2 * i)))∨n<2 * i
 | 0,i,h=>by
  by_cases hn:n<2 * i
  ·exact .inr hn
  ·refine .inl (.done ⟨fun c=>by omega,fun c=>by omega,fun _=>?_⟩)
   have:decide (16≤n)=true:=by simp; omega
   rw [this]; rfl
 | k + 1,i,h=>by
  by_cases hn:n<2 * i
  ·exact .inr hn
  ·left
   by_cases h2:n<2 * (i + 1)
   ·refine .done ⟨fun _ c=>by omega,fun _ _=>?_,fun c=>by omega⟩
    have e1:decide (16≤n)=false:=by simp; omega
    have e2:decide (n<2 * i)=false:=by simp; omega
    rw [e1,e2]; rfl
   ·rcases cntP_loop1 n k (i + 1) (by omega) with h3 | h3
    ·refine .step ⟨fun _ _=>rfl,fun _ c=>by omega,fun c=>by omega⟩ ?_
     have e1:decide (n<2 * i)=false:=by simp; omega
     have e2:decide (n<2 * (i + 1))=false:=by simp; omega
     rw [e1]; rwa [e2] at h3
    ·omega
theorem cntP_loop (n:Nat):LoopR (cntP n) 0 (decide (16≤n)):=by
 rcases cntP_loop1 n 8 0 rfl with h | h
 ·simpa using h
 ·omega
set_option maxRecDepth 20000 in
set_option maxHeartbeats 4000000 in
theorem rd_counts {L:List Nat} {w:World} {b:Nat} {s:Str} (hLt:Lt L w) (hbL:b∈L) (HB:Blk w b 119 [str s]) (hs:s.length≤9223372036854775807) :
  Calls Tryz.prog 90 [.pointer (some ⟨b,0,none⟩)].toArray w (RdP b w (16≤s.length) fun r w'=>Fr [b] w w'∧Blk w' b 119 [str (s.drop 16)]∧∃ A c,r=.slice A (pairs 8 s).length c∧Stb L w' (fun w=>SlC (kI .i64) w A c (pairs 8 s))):=by
 refine calls_ec Tryz.func90 rfl rfl rfl ?_
 refine ec_sr ?_
 refine o_w (v:=.slice none 0 0) (r_asg rfl) ?_
 refine eo_r ?_
 refine o_w (v:=.slice none 0 0) (r_asg rfl) ?_
 refine eo_nil_sq ?_
 refine ec_seq ?_
 refine ec_sr ?_
 refine o_w (v:=.int .i64 0) (r_mov rfl) ?_
 refine eo_nil_sq ?_
 refine ec_block ?_
 refine ec_loop (fun (i:Nat) ρ ds w'=>∃ (ρ':Env) (v:Value),ρ=envs ρ' [(4,.int .i64 (i:Int)),(3,v),(0,.pointer (some ⟨b,0,none⟩))]∧ds=[]∧(i≤8∧2 * i≤s.length)∧Fr [b] w w'∧Blk w' b 119 [str (s.drop (2 * i))]∧OwnS (kI .i64) w.heap.size 3 L w' v (pairs i s)) (fun (y:Bool) e ρ ds w'=>(y=true∧16≤s.length∧e=.exit 0∧(fun (i:Nat) ρ ds w'=>∃ (ρ':Env) (v:Value),ρ=envs ρ' [(4,.int .i64 (i:Int)),(3,v),(0,.pointer (some ⟨b,0,none⟩))]∧ds=[]∧(i≤8∧2 * i≤s.length)∧Fr [b] w w'∧Blk w' b 119 [str (s.drop (2 * i))]∧OwnS (kI .i64) w.heap.size 3 L w' v (pairs i s)) 8 ρ ds w')∨(y=false∧s.length<16∧∃ c,e=.panic c∧c=oddC∧ds=[]∧Fr [b] w w')) (body:=cntP s.length) ?_ (cntP_loop s.length) ?_ ?_
 ·intro i z ρ1 ds1 wr hI hb
  obtain ⟨ρr,v,rfl,rfl,hi8,Fr1,Br,Or⟩:=hI
  refine ec_sr ?_
  refine o_w (v:=.bool (decide ((i:Int)<8))) (r_int rfl rfl rfl) ?_
  refine eo_nil_sq ?_
  refine ec_seq ?_
  refine ec_cond rfl (fun hc=>?_) (fun hc=>?_)
  ·have hi:i<8:=by simp at hc; omega
   refine ec_skip ?_
   refine sq_n ?_
   refine ec_seq ?_
   refine ec_block ?_
   refine ec_region ?_
   refine o_w (v:=v) (r_mov rfl) ?_
   refine o_w (v:=.pointer (some ⟨b,0,none⟩)) (r_mov rfl) ?_
   refine o_callP cf_rnumber rfl (rd_num Br 2 (by omega) (by omega) (by rw [List.length_drop]; omega)) rfl rfl ?_ (by
    rintro _ w3 ⟨rfl,hno,F3⟩
    rw [List.length_drop] at hno
    obtain rfl:=hb.2.1 hi (by omega)
    exact ⟨(fun h=>by cases h),.inr ⟨rfl,by omega,_,rfl,rfl,rfl,Fr1.trans F3⟩⟩)
   rintro _ w3 ⟨hok,rfl,F3,B3⟩
   rw [List.length_drop] at hok
   obtain rfl:=hb.1 hi (by omega)
   have O3:=Or.fr F3 (fun m hm=>by rw [List.mem_singleton] at hm; rw [hm]; exact hbL)
   refine o_bslice slc_s_int (vs:=[.int .i64 (leN ((s.drop (2 * i)).take 2):Int)]) (cs:=[.int .i64 (leN ((s.drop (2 * i)).take 2):Int)]) rfl rfl rfl rfl rfl rfl rfl rfl ?_
   intro b4 w4 e4 F4 B4
   refine o_app (ys:=[(leN ((s.drop (2 * i)).take 2):Int)]) slc_s_int rfl rfl rfl (O3.ex F4) rfl B4 rfl rfl rfl (fun w'' _=>rowD_i64 _ _) (by rw [pairs_len]; omega) rfl rfl ?_
   intro v5 w5 F5 O5 N5
   refine o_w (v:=v5) (r_asg rfl) ?_
   refine eo_nil ?_
   refine blk_n ?_
   refine sq_n ?_
   refine ec_region ?_
   have e1:IntKind.i64.wrap ((i:Int) + (1:Int))=((i + 1:Nat):Int):=wrapS hi (by omega)
   refine o_w (v:=.int .i64 ((i + 1:Nat):Int)) (r_int rfl rfl (by show some (Value.int .i64 (IntKind.i64.wrap ((i:Int) + (1:Int))))=_; rw [e1])) ?_
   refine o_w (v:=.int .i64 ((i + 1:Nat):Int)) (r_mov rfl) ?_
   refine eo_nil ?_
   refine ⟨rfl,_,_,envs_self ⟨rfl,rfl,rfl,trivial⟩,rfl,⟨by omega,by omega⟩,?_,?_,by rw [pairs_snoc]; exact O5⟩
   ·exact ((Fr1.trans F3).trans (Fr.ext F4)).stp F5 (fun m hm=>.inr (O3.lo m hm))
   ·rw [List.drop_drop] at B3
    rw [show 2 * (i + 1)=2 * i + 2 by omega]
    exact (B3.ex F4).fr F5 (fun hm=>(O3.below b hbL).2 hm)
  ·have hi:¬ i<8:=by simp at hc; omega
   obtain rfl:=hb.2.2 hi
   obtain rfl:i=8:=by omega
   refine ec_exit ?_
   refine sq_exit ?_
   exact ⟨(fun h=>by cases h),.inl ⟨rfl,by omega,rfl,_,_,envs_self ⟨rfl,rfl,rfl,trivial⟩,rfl,hi8,Fr1,Br,Or⟩⟩
 ·exact ⟨_,_,envs_self ⟨rfl,rfl,rfl,trivial⟩,rfl,⟨by omega,by omega⟩,Fr.refl _ _,by simpa using HB,OwnS.nil (by decide) hLt⟩
 ·rintro e ρ3 ds3 w3 - (⟨_,hok,rfl,ρ3',v,rfl,rfl,_,F3,B3,O3⟩ | ⟨_,hno,c,rfl,rfl,rfl,F3⟩)
  rotate_left
  ·exact ⟨rfl,.inr ⟨_,rfl,rfl,by omega,F3⟩⟩
  obtain ⟨A,c,rfl,H⟩:=O3.still
  refine blk_hit ?_
  refine sq_n ?_
  refine ec_sr ?_
  refine o_w (v:=.slice A (pairs 8 s).length c) (r_mov rfl) ?_
  refine o_w (v:=.slice A (pairs 8 s).length c) (r_asg rfl) ?_
  refine eo_nil_sq ?_
  refine ec_ret ?_
  exact end1 rfl (.inl ⟨_,rfl,hok,F3,B3,A,c,rfl,H⟩)

def flR (s:Str):Int:=(IntKind.u64.wrap ((BitVec.ofInt IntKind.u64.bits (IntKind.u64.wrap (leN (s.take 4):Int)) ||| BitVec.ofInt IntKind.u64.bits (IntKind.u64.wrap ((IntKind.u64.wrap (leN ((s.drop 4).take 4):Int)) * 2 ^ min ((32:Int)).toNat IntKind.u64.bits))).toNat:Int))
def readV (k:Int) (s:Str):Val :=
 bif k==1 then ⟨k,(leN (s.take 4):Int),(leN ((s.drop 4).take 1):Int),((leN (((s.drop 4).drop 1).take 1):Int)==1),((((((s.drop 4).drop 1).drop 1)).drop 1).take (leN (((((s.drop 4).drop 1).drop 1)).take 1))),[],[],0⟩ else bif k==2 then ⟨k,0,0,false,[],pairs 8 s,pairs 8 (s.drop 16),0⟩ else bif k==3 then ⟨k,0,0,false,[],[],[],flR s⟩ else ⟨k,0,0,false,[],[],[],0⟩
/-- There is enough of a value's bytes. -/
def okS (k : Int) (s : Str) : Prop := (k = 1 → leN (((((s.drop 4).drop 1).drop 1)).take 1) ≤ 8 ∧ 15 ≤ s.length) ∧ (k = 2 → 32 ≤ s.length) ∧ (k = 3 → 8 ≤ s.length)
theorem Stb.weakb {L:List Nat} {x y:Nat} {w:World} {φ:World→Prop} (h:Stb (x::y::L) w φ):Stb L w φ:=fun w' ha=>h w' (fun k hk hn=>ha k hk (fun hm=>hn (List.mem_cons_of_mem _ (List.mem_cons_of_mem _ hm))))
def VS (w0:World) (b b4 b5:Nat) (t:Str) (c5:List Value) (w:World):Prop:=(b4≠b∧b5≠b∧b4≠b5∧w0.heap.size≤b5∧w0.heap.size≤b4)∧Fr [b] w0 w∧Blk w b 119 [str t]∧Blk w b4 53 [.int .i64 0,.int .i64 0,.int .i64 0,.bool false,str [],.slice none 0 0,.slice none 0 0,.int .u64 0]∧Blk w b5 53 c5
theorem VS.ex {w0 w w':World} {b b4 b5:Nat} {t:Str} {c:List Value} (h:VS w0 b b4 b5 t c w) (f:Ext w w'):VS w0 b b4 b5 t c w':=⟨h.1,h.2.1.trans (Fr.ext f),h.2.2.1.ex f,h.2.2.2.1.ex f,h.2.2.2.2.ex f⟩
theorem VS.rd {w0 w w':World} {b b4 b5:Nat} {t t':Str} {c:List Value} (h:VS w0 b b4 b5 t c w) (F:Fr [b] w w') (R:Blk w' b 119 [str t']):VS w0 b b4 b5 t' c w' :=
 ⟨h.1,h.2.1.trans F,R,h.2.2.2.1.fr F (by simpa using h.1.1),h.2.2.2.2.fr F (by simpa using h.1.2.1)⟩
theorem VS.st {w0 w w':World} {b b4 b5:Nat} {t:Str} {c c':List Value} (h:VS w0 b b4 b5 t c w) (F:Fr [b5] w w') (X:Blk w' b5 53 c'):VS w0 b b4 b5 t c' w' :=
 ⟨h.1,h.2.1.stp F (fun m hm=>by rw [List.mem_singleton] at hm; rw [hm]; exact .inr h.1.2.2.2.1),h.2.2.1.fr F (by simpa using h.1.2.1.symm),h.2.2.2.1.fr F (by simpa using h.1.2.2.1),X⟩
set_option maxRecDepth 20000 in
set_option maxHeartbeats 8000000 in
theorem rd_value {L:List Nat} {w:World} {b:Nat} {s:Str} (hL:Lt L w) (hbL:b∈L) (HB:Blk w b 119 [str s]) (k:Int) (hs:s.length≤9223372036854775807) :
  Calls Tryz.prog 76 [.pointer (some ⟨b,0,none⟩),.int .i64 k].toArray w (RdP b w (okS k s) fun r w'=>Fr [b] w w'∧∃ A1 c1 A2 c2,r=.agg (cVal (readV k s) A1 c1 A2 c2).toArray∧Stb L w' (fun w=>SlC (kI .i64) w A1 c1 (readV k s).plus)∧Stb L w' (fun w=>SlC (kI .i64) w A2 c2 (readV k s).minus)):=by
 refine calls_ec Tryz.func76 rfl rfl rfl ?_
 refine ec_sr ?_
 refine o_alloc zero_api_Value rfl rfl rfl ?_
 intro b4 w1 e4 F1 B4
 refine eo_r ?_
 refine o_w (v:=.int .i64 k) (r_mov rfl) ?_
 refine o_w (v:=.agg ([.int .i64 k,.int .i64 (0),.int .i64 (0),.bool (false),str ([]),.slice none 0 0,.slice none 0 0,.int .u64 (0)]:List Value).toArray) (r_build bld_api_Value (vs:=[(0,.int .i64 k)]) (cells:=[.int .i64 k,.int .i64 (0),.int .i64 (0),.bool (false),str ([]),.slice none 0 0,.slice none 0 0,.int .u64 (0)]) rfl rfl) ?_
 refine o_alloc zero_api_Value rfl rfl rfl ?_
 intro b5 w2 e5 F2 B5
 refine o_store rfl B5 (vs:=[.int .i64 k,.int .i64 (0),.int .i64 (0),.bool (false),str ([]),.slice none 0 0,.slice none 0 0,.int .u64 (0)]) rfl sz_api_Value rfl rfl rfl ?_
 intro w3 F3 X3
 have n4:b4≠b:=by have:=HB.lt; omega
 have n45:b4≠b5:=by have:=B4.lt; omega
 have hsz:=F1.size
 have n5:b5≠b:=by have:=HB.lt; omega
 have h5:w.heap.size≤b5:=by omega
 have H:VS w b b4 b5 s [.int .i64 k,.int .i64 (0),.int .i64 (0),.bool (false),str ([]),.slice none 0 0,.slice none 0 0,.int .u64 (0)] w3:=⟨⟨n4,n5,n45,h5,by omega⟩,(Fr.ext (F1.trans F2)).stp F3 (fun m hm=>by rw [List.mem_singleton] at hm; rw [hm]; exact .inr h5),((HB.ex F1).ex F2).fr F3 (by simpa using n5.symm),(B4.ex F2).fr F3 (by simpa using n45),X3⟩
 refine eo_nil_sq ?_
 refine ec_seq ?_
 refine ec_sr ?_
 refine o_w (v:=.int .i64 k) (r_mov rfl) ?_
 refine eo_nil_sq ?_
 refine ec_block ?_
 refine ec_sr ?_
 refine o_w (v:=.bool (k==1)) (r_int rfl rfl rfl) ?_
 refine o_w (v:=.bool (k==1)) (r_asg rfl) ?_
 refine eo_nil_sq ?_
 refine ec_cond rfl (fun hk1=>?_) (fun hk1=>?_)
 · -- a register
  have hk:k=1:=by simpa using hk1
  refine ec_sr ?_
  refine o_w (v:=.pointer (some ⟨b,0,none⟩)) (r_mov rfl) ?_
  refine o_callP cf_rnumber rfl (rd_num H.2.2.1 4 (by omega) (by omega) (by (try simp only [List.length_drop]); omega)) rfl rfl ?_ (by
    rintro _ w' ⟨rfl,hno,G⟩
    refine ⟨rfl,.inr ⟨_,rfl,rfl,fun hq=>?_,H.2.1.trans G⟩⟩
    have hq:=hq.1 hk
    (try simp only [List.length_drop] at hno); omega)
  rintro _ w' ⟨hok,rfl,G,R⟩
  replace H:=H.rd G R
  refine o_w (v:=.pointer (some ⟨b,0,none⟩)) (r_mov rfl) ?_
  refine o_callP cf_rnumber rfl (rd_num H.2.2.1 1 (by omega) (by omega) (by (try simp only [List.length_drop]); omega)) rfl rfl ?_ (by
    rintro _ w' ⟨rfl,hno,G⟩
    refine ⟨rfl,.inr ⟨_,rfl,rfl,fun hq=>?_,H.2.1.trans G⟩⟩
    have hq:=hq.1 hk
    (try simp only [List.length_drop] at hno); omega)
  rintro _ w' ⟨hok,rfl,G,R⟩
  replace H:=H.rd G R
  refine o_w (v:=.pointer (some ⟨b5,1,none⟩)) (r_fa fld_api_Value_1 rfl rfl) ?_
  refine o_store rfl H.2.2.2.2 (vs:=[.int .i64 (leN (s.take 4):Int)]) rfl sz_int rfl rfl rfl ?_
  intro w' G X
  replace H:=H.st (c':=[.int .i64 k,.int .i64 ((leN (s.take 4):Int)),.int .i64 (0),.bool (false),str ([]),.slice none 0 0,.slice none 0 0,.int .u64 (0)]) G X
  refine o_w (v:=.pointer (some ⟨b5,2,none⟩)) (r_fa fld_api_Value_2 rfl rfl) ?_
  refine o_store rfl H.2.2.2.2 (vs:=[.int .i64 (leN ((s.drop 4).take 1):Int)]) rfl sz_int rfl rfl rfl ?_
  intro w' G X
  replace H:=H.st (c':=[.int .i64 k,.int .i64 ((leN (s.take 4):Int)),.int .i64 ((leN ((s.drop 4).take 1):Int)),.bool (false),str ([]),.slice none 0 0,.slice none 0 0,.int .u64 (0)]) G X
  refine eo_r ?_
  refine o_w (v:=.pointer (some ⟨b,0,none⟩)) (r_mov rfl) ?_
  refine o_callP cf_rnumber rfl (rd_num H.2.2.1 1 (by omega) (by omega) (by (try simp only [List.length_drop]); omega)) rfl rfl ?_ (by
    rintro _ w' ⟨rfl,hno,G⟩
    refine ⟨rfl,.inr ⟨_,rfl,rfl,fun hq=>?_,H.2.1.trans G⟩⟩
    have hq:=hq.1 hk
    (try simp only [List.length_drop] at hno); omega)
  rintro _ w' ⟨hok,rfl,G,R⟩
  replace H:=H.rd G R
  refine o_w (v:=.bool ((leN (((s.drop 4).drop 1).take 1):Int)==1)) (r_int rfl rfl rfl) ?_
  refine o_w (v:=.pointer (some ⟨b5,3,none⟩)) (r_fa fld_api_Value_3 rfl rfl) ?_
  refine o_store rfl H.2.2.2.2 (vs:=[.bool ((leN (((s.drop 4).drop 1).take 1):Int)==1)]) rfl sz_bool rfl rfl rfl ?_
  intro w' G X
  replace H:=H.st (c':=[.int .i64 k,.int .i64 ((leN (s.take 4):Int)),.int .i64 ((leN ((s.drop 4).take 1):Int)),.bool (((leN (((s.drop 4).drop 1).take 1):Int)==1)),str ([]),.slice none 0 0,.slice none 0 0,.int .u64 (0)]) G X
  refine eo_q ?_
  iterate 2 refine o_w (v:=.pointer (some ⟨b,0,none⟩)) (r_mov rfl) ?_
  refine o_callP cf_rnumber rfl (rd_num H.2.2.1 1 (by omega) (by omega) (by (try simp only [List.length_drop]); omega)) rfl rfl ?_ (by
    rintro _ w' ⟨rfl,hno,G⟩
    refine ⟨rfl,.inr ⟨_,rfl,rfl,fun hq=>?_,H.2.1.trans G⟩⟩
    have hq:=hq.1 hk
    (try simp only [List.length_drop] at hno); omega)
  rintro _ w' ⟨hok,rfl,G,R⟩
  replace H:=H.rd G R
  refine o_callP cf_rtext rfl (rd_txt H.2.2.1 (leN (((((s.drop 4).drop 1).drop 1)).take 1)) 8 (by (try simp only [List.length_drop]); omega)) rfl rfl ?_ (by
    rintro _ w' ⟨rfl,hno,G⟩
    refine ⟨rfl,.inr ⟨_,rfl,rfl,fun hq=>?_,H.2.1.trans G⟩⟩
    have hq:=hq.1 hk
    (try simp only [List.length_drop] at hno); omega)
  rintro _ w' ⟨hok,rfl,G,R⟩
  replace H:=H.rd G R
  refine o_w (v:=.pointer (some ⟨b5,4,none⟩)) (r_fa fld_api_Value_4 rfl rfl) ?_
  refine o_store rfl H.2.2.2.2 (vs:=[str ((((((s.drop 4).drop 1).drop 1)).drop 1).take (leN (((((s.drop 4).drop 1).drop 1)).take 1)))]) rfl sz_string rfl rfl rfl ?_
  intro w' G X
  replace H:=H.st (c':=[.int .i64 k,.int .i64 ((leN (s.take 4):Int)),.int .i64 ((leN ((s.drop 4).take 1):Int)),.bool (((leN (((s.drop 4).drop 1).take 1):Int)==1)),str (((((((s.drop 4).drop 1).drop 1)).drop 1).take (leN (((((s.drop 4).drop 1).drop 1)).take 1)))),.slice none 0 0,.slice none 0 0,.int .u64 (0)]) G X
  refine eo_nil ?_
  refine blk_n ?_
  refine sq_n ?_
  refine ec_sr ?_
  refine o_w (v:=.agg ([.int .i64 k,.int .i64 ((leN (s.take 4):Int)),.int .i64 ((leN ((s.drop 4).take 1):Int)),.bool (((leN (((s.drop 4).drop 1).take 1):Int)==1)),str (((((((s.drop 4).drop 1).drop 1)).drop 1).take (leN (((((s.drop 4).drop 1).drop 1)).take 1)))),.slice none 0 0,.slice none 0 0,.int .u64 (0)]:List Value).toArray) (r_lda agg_api_Value rfl (vs:=[.int .i64 k,.int .i64 ((leN (s.take 4):Int)),.int .i64 ((leN ((s.drop 4).take 1):Int)),.bool (((leN (((s.drop 4).drop 1).take 1):Int)==1)),str (((((((s.drop 4).drop 1).drop 1)).drop 1).take (leN (((((s.drop 4).drop 1).drop 1)).take 1)))),.slice none 0 0,.slice none 0 0,.int .u64 (0)]) rfl (H.2.2.2.2.part (o:=0) (n:=8) rfl)) ?_
  refine o_store rfl H.2.2.2.1 (vs:=[.int .i64 k,.int .i64 ((leN (s.take 4):Int)),.int .i64 ((leN ((s.drop 4).take 1):Int)),.bool (((leN (((s.drop 4).drop 1).take 1):Int)==1)),str (((((((s.drop 4).drop 1).drop 1)).drop 1).take (leN (((((s.drop 4).drop 1).drop 1)).take 1)))),.slice none 0 0,.slice none 0 0,.int .u64 (0)]) rfl sz_api_Value rfl rfl rfl ?_
  intro w' G X
  refine eo_nil_sq ?_
  refine ec_ret ?_
  exact endr1 (rv_a rfl agg_api_Value X (vs:=[.int .i64 k,.int .i64 ((leN (s.take 4):Int)),.int .i64 ((leN ((s.drop 4).take 1):Int)),.bool (((leN (((s.drop 4).drop 1).take 1):Int)==1)),str (((((((s.drop 4).drop 1).drop 1)).drop 1).take (leN (((((s.drop 4).drop 1).drop 1)).take 1)))),.slice none 0 0,.slice none 0 0,.int .u64 (0)]) rfl rfl) (.inl ⟨_,rfl,⟨fun _=>(by (try simp only [List.length_drop] at *); omega),fun c=>absurd c (by omega),fun c=>absurd c (by omega)⟩,H.2.1.stp G (fun m hm=>by rw [List.mem_singleton] at hm; rw [hm]; exact .inr H.1.2.2.2.2),none,0,none,0,by unfold readV; rw [hk1,cond_true]; simp only [cVal,List.drop_drop,List.length_nil],by unfold readV; rw [hk1,cond_true]; exact stb_nil,by unfold readV; rw [hk1,cond_true]; exact stb_nil⟩)
 ·refine ec_seq ?_
  refine ec_region ?_
  refine o_w (v:=.bool (k==2)) (r_int rfl rfl rfl) ?_
  refine o_w (v:=.bool (k==2)) (r_asg rfl) ?_
  refine eo_nil_sq ?_
  refine ec_cond rfl (fun hk2=>?_) (fun hk2=>?_)
  · -- a counter
   have hk:k=2:=by simpa using hk2
   refine ec_region ?_
   have hLt:Lt (b5::b4::L) w3:=((hL.fr H.2.1).cons H.2.2.2.1.lt).cons H.2.2.2.2.lt
   refine o_w (v:=.pointer (some ⟨b,0,none⟩)) (r_mov rfl) ?_
   refine o_callP cf_rcounts rfl (rd_counts hLt (by simp [hbL]) H.2.2.1 (by omega)) rfl rfl ?_ (by
     rintro _ w' ⟨rfl,hno,G⟩
     refine ⟨rfl,.inr ⟨_,rfl,rfl,fun hq=>?_,H.2.1.trans G⟩⟩
     have hq:=hq.2.1 hk
     (try simp only [List.length_drop] at hno); omega)
   rintro _ wa ⟨hok,Ga,Ra,A1,c1,rfl,S1⟩
   have hLt2:=hLt.fr Ga
   replace H:=H.rd Ga Ra
   refine o_w (v:=.pointer (some ⟨b,0,none⟩)) (r_mov rfl) ?_
   refine o_callP cf_rcounts rfl (rd_counts hLt2 (by simp [hbL]) H.2.2.1 (by (try simp only [List.length_drop]); omega)) rfl rfl ?_ (by
     rintro _ w' ⟨rfl,hno,G⟩
     refine ⟨rfl,.inr ⟨_,rfl,rfl,fun hq=>?_,H.2.1.trans G⟩⟩
     have hq:=hq.2.1 hk
     (try simp only [List.length_drop] at hno); omega)
   rintro _ wb ⟨hok2,Gb,Rb,A2,c2,rfl,S2⟩
   replace H:=H.rd Gb Rb
   have S1b:=S1.fr Gb (by simp [hbL])
   refine o_w (v:=.pointer (some ⟨b5,5,none⟩)) (r_fa fld_api_Value_5 rfl rfl) ?_
   refine o_store rfl H.2.2.2.2 (vs:=[.slice A1 (pairs 8 s).length c1]) rfl sz_s_int rfl rfl rfl ?_
   intro w' G X
   replace H:=H.st (c':=[.int .i64 k,.int .i64 (0),.int .i64 (0),.bool (false),str ([]),.slice A1 (pairs 8 s).length c1,.slice none 0 0,.int .u64 (0)]) G X
   replace S1b:=S1b.fr G (by simp)
   replace S2:=S2.fr G (by simp)
   refine o_w (v:=.pointer (some ⟨b5,6,none⟩)) (r_fa fld_api_Value_6 rfl rfl) ?_
   refine o_store rfl H.2.2.2.2 (vs:=[.slice A2 (pairs 8 (s.drop 16)).length c2]) rfl sz_s_int rfl rfl rfl ?_
   intro w' G X
   replace H:=H.st (c':=[.int .i64 k,.int .i64 (0),.int .i64 (0),.bool (false),str ([]),.slice A1 (pairs 8 s).length c1,.slice A2 (pairs 8 (s.drop 16)).length c2,.int .u64 (0)]) G X
   replace S1b:=S1b.fr G (by simp)
   replace S2:=S2.fr G (by simp)
   refine eo_nil ?_
   refine blk_n ?_
   refine sq_n ?_
   refine ec_sr ?_
   refine o_w (v:=.agg ([.int .i64 k,.int .i64 (0),.int .i64 (0),.bool (false),str ([]),.slice A1 (pairs 8 s).length c1,.slice A2 (pairs 8 (s.drop 16)).length c2,.int .u64 (0)]:List Value).toArray) (r_lda agg_api_Value rfl (vs:=[.int .i64 k,.int .i64 (0),.int .i64 (0),.bool (false),str ([]),.slice A1 (pairs 8 s).length c1,.slice A2 (pairs 8 (s.drop 16)).length c2,.int .u64 (0)]) rfl (H.2.2.2.2.part (o:=0) (n:=8) rfl)) ?_
   refine o_store rfl H.2.2.2.1 (vs:=[.int .i64 k,.int .i64 (0),.int .i64 (0),.bool (false),str ([]),.slice A1 (pairs 8 s).length c1,.slice A2 (pairs 8 (s.drop 16)).length c2,.int .u64 (0)]) rfl sz_api_Value rfl rfl rfl ?_
   intro w' G X
   refine eo_nil_sq ?_
   refine ec_ret ?_
   exact endr1 (rv_a rfl agg_api_Value X (vs:=[.int .i64 k,.int .i64 (0),.int .i64 (0),.bool (false),str ([]),.slice A1 (pairs 8 s).length c1,.slice A2 (pairs 8 (s.drop 16)).length c2,.int .u64 (0)]) rfl rfl) (.inl ⟨_,rfl,⟨fun c=>absurd c (by omega),fun _=>(by (try simp only [List.length_drop] at *); omega),fun c=>absurd c (by omega)⟩,H.2.1.stp G (fun m hm=>by rw [List.mem_singleton] at hm; rw [hm]; exact .inr H.1.2.2.2.2),A1,c1,A2,c2,by unfold readV; rw [hk1,hk2,cond_false,cond_true],by unfold readV; rw [hk1,hk2,cond_false,cond_true]; exact (S1b.fr G (by simp)).weakb,by unfold readV; rw [hk1,hk2,cond_false,cond_true]; exact (S2.fr G (by simp)).weakb⟩)
  ·refine ec_seq ?_
   refine ec_region ?_
   refine o_w (v:=.bool (k==3)) (r_int rfl rfl rfl) ?_
   refine o_w (v:=.bool (k==3)) (r_asg rfl) ?_
   refine eo_nil_sq ?_
   refine ec_cond rfl (fun hk3=>?_) (fun hk3=>?_)
   · -- flags
    refine ec_sr ?_
    refine o_w (v:=.pointer (some ⟨b,0,none⟩)) (r_mov rfl) ?_
    refine o_callP cf_rnumber rfl (rd_num H.2.2.1 4 (by omega) (by omega) (by (try simp only [List.length_drop]); omega)) rfl rfl ?_ (by
      rintro _ w' ⟨rfl,hno,G⟩
      refine ⟨rfl,.inr ⟨_,rfl,rfl,fun hq=>?_,H.2.1.trans G⟩⟩
      have hq:=hq.2.2 (by simpa using hk3)
      (try simp only [List.length_drop] at hno); omega)
    rintro _ w' ⟨hok,rfl,G,R⟩
    replace H:=H.rd G R
    refine o_w (v:=.int .u64 (IntKind.u64.wrap (leN (s.take 4):Int))) (r_conv un_int un_uint64 rfl) ?_
    refine o_w (v:=.pointer (some ⟨b5,7,none⟩)) (r_fa fld_api_Value_7 rfl rfl) ?_
    refine o_store rfl H.2.2.2.2 (vs:=[.int .u64 (IntKind.u64.wrap (leN (s.take 4):Int))]) rfl sz_uint64 rfl rfl rfl ?_
    intro w' G X
    replace H:=H.st (c':=[.int .i64 k,.int .i64 (0),.int .i64 (0),.bool (false),str ([]),.slice none 0 0,.slice none 0 0,.int .u64 ((IntKind.u64.wrap (leN (s.take 4):Int)))]) G X
    refine eo_nil_sq ?_
    refine ec_anyNIP (by kernel_rfl) [[],[0],[],[2],[2,3],[2,3,4],[0,1,2,3,4,5],[],[0,1,2,3,4,5,6,7]] [40,41,42,43,44,45,46,47] [b,b5] [3,8] [[b],[b5]] [[3,4,5,6,8],[8]]
     [fun w'=>VS w b b4 b5 (s.drop 4) [.int .i64 k,.int .i64 (0),.int .i64 (0),.bool (false),str ([]),.slice none 0 0,.slice none 0 0,.int .u64 ((IntKind.u64.wrap (leN (s.take 4):Int)))] w',fun w'=>VS w b b4 b5 ((s.drop 4).drop 4) [.int .i64 k,.int .i64 (0),.int .i64 (0),.bool (false),str ([]),.slice none 0 0,.slice none 0 0,.int .u64 ((IntKind.u64.wrap (leN (s.take 4):Int)))] w'∧8≤s.length,fun w'=>VS w b b4 b5 ((s.drop 4).drop 4) [.int .i64 k,.int .i64 (0),.int .i64 (0),.bool (false),str ([]),.slice none 0 0,.slice none 0 0,.int .u64 ((IntKind.u64.wrap ((BitVec.ofInt IntKind.u64.bits (IntKind.u64.wrap (leN (s.take 4):Int)) ||| BitVec.ofInt IntKind.u64.bits (IntKind.u64.wrap ((IntKind.u64.wrap (leN ((s.drop 4).take 4):Int)) * 2 ^ min ((32:Int)).toNat IntKind.u64.bits))).toNat:Int)))] w'∧8≤s.length]
     [fun v _=>v=(.pointer (some ⟨b5,7,none⟩):Value),fun v _=>v=(.int .u64 (IntKind.u64.wrap (leN (s.take 4):Int)):Value),fun v _=>v=(.pointer (some ⟨b,0,none⟩):Value),fun v _=>v=(.int .i64 (leN ((s.drop 4).take 4):Int):Value),fun v _=>v=(.int .u64 (IntKind.u64.wrap (leN ((s.drop 4).take 4):Int)):Value),fun v _=>v=(.int .u64 (IntKind.u64.wrap ((IntKind.u64.wrap (leN ((s.drop 4).take 4):Int)) * 2 ^ min ((32:Int)).toNat IntKind.u64.bits)):Value),fun v _=>v=(.int .u64 (IntKind.u64.wrap ((BitVec.ofInt IntKind.u64.bits (IntKind.u64.wrap (leN (s.take 4):Int)) ||| BitVec.ofInt IntKind.u64.bits (IntKind.u64.wrap ((IntKind.u64.wrap (leN ((s.drop 4).take 4):Int)) * 2 ^ min ((32:Int)).toNat IntKind.u64.bits))).toNat:Int)):Value),fun v _=>v=(.pointer (some ⟨b5,7,none⟩):Value),fun _ _=>True]
     (by kernel_rfl) (fun M hM m hm=>by simp at hM; rcases hM with rfl | rfl <;> simp at hm <;> simp [hm])
     ⟨fun _ _ _ _ _ h=>h,fun _ _ _ _ _ h=>h,fun _ _ _ _ _ h=>h,fun _ _ _ _ _ h=>h,fun _ _ _ _ _ h=>h,fun _ _ _ _ _ h=>h,fun _ _ _ _ _ h=>h,fun _ _ _ _ _ h=>h,fun _ _ _ _ _ h=>h,trivial⟩
     ⟨⟨fun _ _ _ _ _ h=>h,fun _ _ _ _ _ h=>h,fun _ _ _ _ _ h=>h,fun _ _ _ _ _ h=>h,fun _ _ _ _ _ h=>h,fun _ _ _ _ _ h=>h,fun _ _ _ _ _ h=>h,fun _ _ _ _ _ h=>h,fun _ _ _ _ _ h=>h,trivial⟩,⟨fun _ _ _ _ _ h=>h,fun _ _ _ _ _ h=>h,fun _ _ _ _ _ h=>h,fun _ _ _ _ _ h=>h,fun _ _ _ _ _ h=>h,fun _ _ _ _ _ h=>h,fun _ _ _ _ _ h=>h,fun _ _ _ _ _ h=>h,fun _ _ _ _ _ h=>h,trivial⟩,trivial⟩
     ⟨fun w' w'' F h=>h.ex F,fun w' w'' F h=>⟨h.1.ex F,h.2⟩,fun w' w'' F h=>⟨h.1.ex F,h.2⟩,trivial⟩ H ?_ ?_ ?_
    ·refine ⟨?_,?_,?_,?_,?_,?_,?_,?_,?_,trivial⟩
     ·intro _ ρ w2 F2 hX hS hρ hI
      have q:ρ 5=.pointer (some ⟨b5,0,none⟩):=hρ 5 (by kernel_rfl)
      exact o_q (r_fa fld_api_Value_7 rfl q) ⟨Fr.refl _ _,rfl⟩
     ·intro _ ρ w2 F2 hX hS hρ hI
      have q:ρ 40=.pointer (some ⟨b5,7,none⟩):=hS 0 (by decide) 40 rfl
      obtain ⟨kk,hIk,hkm⟩:=hI
      have hk1':=hkm 1 8 rfl rfl
      have hB5:Blk w2 b5 53 [.int .i64 k,.int .i64 (0),.int .i64 (0),.bool (false),str ([]),.slice none 0 0,.slice none 0 0,.int .u64 ((IntKind.u64.wrap (leN (s.take 4):Int)))]:=by
       match kk,hk1',hIk with
       | 0,_,h=>exact h.2.2.2.2
       | 1,_,h=>exact h.1.2.2.2.2
      exact o_q (r_ld one_uint64 q (hB5.cell rfl)) ⟨Fr.refl _ _,rfl⟩
     ·intro _ ρ w2 F2 hX hS hρ hI
      have q:ρ 0=.pointer (some ⟨b,0,none⟩):=hρ 0 (by kernel_rfl)
      exact o_q (r_mov q) ⟨Fr.refl _ _,rfl⟩
     ·intro hT; exact absurd hT (by decide)
     ·intro _ ρ w2 F2 hX hS hρ hI
      have q:ρ 43=.int .i64 (leN ((s.drop 4).take 4):Int):=hS 3 (by decide) 43 rfl
      exact o_q (r_conv un_int un_uint64 q) ⟨Fr.refl _ _,rfl⟩
     ·intro _ ρ w2 F2 hX hS hρ hI
      have q:ρ 44=.int .u64 (IntKind.u64.wrap (leN ((s.drop 4).take 4):Int)):=hS 4 (by decide) 44 rfl
      exact o_q (r_shl q rfl rfl) ⟨Fr.refl _ _,rfl⟩
     ·intro _ ρ w2 F2 hX hS hρ hI
      have q1:ρ 41=.int .u64 (IntKind.u64.wrap (leN (s.take 4):Int)):=hS 1 (by decide) 41 rfl
      have q2:ρ 45=.int .u64 (IntKind.u64.wrap ((IntKind.u64.wrap (leN ((s.drop 4).take 4):Int)) * 2 ^ min ((32:Int)).toNat IntKind.u64.bits)):=hS 5 (by decide) 45 rfl
      exact o_q (r_int q1 q2 rfl) ⟨Fr.refl _ _,rfl⟩
     ·intro _ ρ w2 F2 hX hS hρ hI
      have q:ρ 5=.pointer (some ⟨b5,0,none⟩):=hρ 5 (by kernel_rfl)
      exact o_q (r_fa fld_api_Value_7 rfl q) ⟨Fr.refl _ _,rfl⟩
     ·intro hT; exact absurd hT (by decide)
    ·refine ⟨⟨_,rfl,?_⟩,⟨_,rfl,?_⟩,trivial⟩
     ·intro ρ w2 F2 hX hI hS hρ
      have q:ρ 42=.pointer (some ⟨b,0,none⟩):=hS 2 (by decide) 42 rfl
      have hI':VS w b b4 b5 (s.drop 4) [.int .i64 k,.int .i64 (0),.int .i64 (0),.bool (false),str ([]),.slice none 0 0,.slice none 0 0,.int .u64 ((IntKind.u64.wrap (leN (s.take 4):Int)))] w2:=hI
      refine o_callP cf_rnumber (by simp only [List.map,ev,q] <;> rfl) (rd_num hI'.2.2.1 4 (by omega) (by omega) (by (try simp only [List.length_drop]); omega)) rfl rfl ?_ (by
        rintro _ w' ⟨rfl,hno,G⟩
        refine .inr ⟨_,rfl,rfl,.inr ⟨_,rfl,rfl,fun hq=>?_,hI'.2.1.trans G⟩⟩
        have hq:=hq.2.2 (by simpa using hk3)
        (try simp only [List.length_drop] at hno); omega)
      rintro _ w' ⟨hok,rfl,G,R⟩
      exact eo_nil (.inl ⟨rfl,rfl,_,rfl,G,⟨hI'.rd G R,by simp only [List.length_drop] at hok; omega⟩,rfl⟩)
     ·intro ρ w2 F2 hX hI hS hρ
      have q1:ρ 47=.pointer (some ⟨b5,7,none⟩):=hS 7 (by decide) 47 rfl
      have q2:ρ 46=.int .u64 (IntKind.u64.wrap ((BitVec.ofInt IntKind.u64.bits (IntKind.u64.wrap (leN (s.take 4):Int)) ||| BitVec.ofInt IntKind.u64.bits (IntKind.u64.wrap ((IntKind.u64.wrap (leN ((s.drop 4).take 4):Int)) * 2 ^ min ((32:Int)).toNat IntKind.u64.bits))).toNat:Int)):=hS 6 (by decide) 46 rfl
      have hI':VS w b b4 b5 ((s.drop 4).drop 4) [.int .i64 k,.int .i64 (0),.int .i64 (0),.bool (false),str ([]),.slice none 0 0,.slice none 0 0,.int .u64 ((IntKind.u64.wrap (leN (s.take 4):Int)))] w2:=hI.1
      refine o_store (show ev ρ _=_ from q1) hI'.2.2.2.2 (vs:=[.int .u64 (IntKind.u64.wrap ((BitVec.ofInt IntKind.u64.bits (IntKind.u64.wrap (leN (s.take 4):Int)) ||| BitVec.ofInt IntKind.u64.bits (IntKind.u64.wrap ((IntKind.u64.wrap (leN ((s.drop 4).take 4):Int)) * 2 ^ min ((32:Int)).toNat IntKind.u64.bits))).toNat:Int))]) (congrArg Value.cells q2) sz_uint64 rfl rfl rfl ?_
      intro w' G X
      exact eo_nil (.inl ⟨rfl,rfl,undef,rfl,G,⟨hI'.st G X,hI.2⟩,trivial⟩)
    ·intro ρ w2 F2 hI hS hρ
     have h8:8≤s.length:=hI.2
     replace H:VS w b b4 b5 ((s.drop 4).drop 4) [.int .i64 k,.int .i64 (0),.int .i64 (0),.bool (false),str ([]),.slice none 0 0,.slice none 0 0,.int .u64 ((IntKind.u64.wrap ((BitVec.ofInt IntKind.u64.bits (IntKind.u64.wrap (leN (s.take 4):Int)) ||| BitVec.ofInt IntKind.u64.bits (IntKind.u64.wrap ((IntKind.u64.wrap (leN ((s.drop 4).take 4):Int)) * 2 ^ min ((32:Int)).toNat IntKind.u64.bits))).toNat:Int)))] w2:=hI.1
     have r4:ρ 4=.pointer (some ⟨b4,0,none⟩):=hρ 4 (by kernel_rfl)
     have r5:ρ 5=.pointer (some ⟨b5,0,none⟩):=hρ 5 (by kernel_rfl)
     refine blk_n ?_
     refine sq_n ?_
     refine ec_sr ?_
     refine o_w (v:=.agg ([.int .i64 k,.int .i64 (0),.int .i64 (0),.bool (false),str ([]),.slice none 0 0,.slice none 0 0,.int .u64 ((IntKind.u64.wrap ((BitVec.ofInt IntKind.u64.bits (IntKind.u64.wrap (leN (s.take 4):Int)) ||| BitVec.ofInt IntKind.u64.bits (IntKind.u64.wrap ((IntKind.u64.wrap (leN ((s.drop 4).take 4):Int)) * 2 ^ min ((32:Int)).toNat IntKind.u64.bits))).toNat:Int)))]:List Value).toArray) (r_lda agg_api_Value r5 (vs:=[.int .i64 k,.int .i64 (0),.int .i64 (0),.bool (false),str ([]),.slice none 0 0,.slice none 0 0,.int .u64 ((IntKind.u64.wrap ((BitVec.ofInt IntKind.u64.bits (IntKind.u64.wrap (leN (s.take 4):Int)) ||| BitVec.ofInt IntKind.u64.bits (IntKind.u64.wrap ((IntKind.u64.wrap (leN ((s.drop 4).take 4):Int)) * 2 ^ min ((32:Int)).toNat IntKind.u64.bits))).toNat:Int)))]) rfl (H.2.2.2.2.part (o:=0) (n:=8) rfl)) ?_
     refine o_store (show ev _ _=_ from r4) H.2.2.2.1 (vs:=[.int .i64 k,.int .i64 (0),.int .i64 (0),.bool (false),str ([]),.slice none 0 0,.slice none 0 0,.int .u64 ((IntKind.u64.wrap ((BitVec.ofInt IntKind.u64.bits (IntKind.u64.wrap (leN (s.take 4):Int)) ||| BitVec.ofInt IntKind.u64.bits (IntKind.u64.wrap ((IntKind.u64.wrap (leN ((s.drop 4).take 4):Int)) * 2 ^ min ((32:Int)).toNat IntKind.u64.bits))).toNat:Int)))]) rfl sz_api_Value rfl rfl rfl ?_
     intro w' G X
     refine eo_nil_sq ?_
     refine ec_ret ?_
     exact endr1 (rv_a r4 agg_api_Value X (vs:=[.int .i64 k,.int .i64 (0),.int .i64 (0),.bool (false),str ([]),.slice none 0 0,.slice none 0 0,.int .u64 ((IntKind.u64.wrap ((BitVec.ofInt IntKind.u64.bits (IntKind.u64.wrap (leN (s.take 4):Int)) ||| BitVec.ofInt IntKind.u64.bits (IntKind.u64.wrap ((IntKind.u64.wrap (leN ((s.drop 4).take 4):Int)) * 2 ^ min ((32:Int)).toNat IntKind.u64.bits))).toNat:Int)))]) rfl rfl) (.inl ⟨_,rfl,⟨fun c=>absurd c (by simpa using hk1),fun c=>absurd c (by simpa using hk2),fun _=>h8⟩,H.2.1.stp G (fun m hm=>by rw [List.mem_singleton] at hm; rw [hm]; exact .inr H.1.2.2.2.2),none,0,none,0,by unfold readV; rw [hk1,hk2,hk3]; rfl,by unfold readV; rw [hk1,hk2,hk3]; exact stb_nil,by unfold readV; rw [hk1,hk2,hk3]; exact stb_nil⟩)
   ·refine ec_skip ?_
    refine blk_n ?_
    refine sq_n ?_
    refine ec_sr ?_
    refine o_w (v:=.agg ([.int .i64 k,.int .i64 (0),.int .i64 (0),.bool (false),str ([]),.slice none 0 0,.slice none 0 0,.int .u64 (0)]:List Value).toArray) (r_lda agg_api_Value rfl (vs:=[.int .i64 k,.int .i64 (0),.int .i64 (0),.bool (false),str ([]),.slice none 0 0,.slice none 0 0,.int .u64 (0)]) rfl (H.2.2.2.2.part (o:=0) (n:=8) rfl)) ?_
    refine o_store rfl H.2.2.2.1 (vs:=[.int .i64 k,.int .i64 (0),.int .i64 (0),.bool (false),str ([]),.slice none 0 0,.slice none 0 0,.int .u64 (0)]) rfl sz_api_Value rfl rfl rfl ?_
    intro w' G X
    refine eo_nil_sq ?_
    refine ec_ret ?_
    exact endr1 (rv_a rfl agg_api_Value X (vs:=[.int .i64 k,.int .i64 (0),.int .i64 (0),.bool (false),str ([]),.slice none 0 0,.slice none 0 0,.int .u64 (0)]) rfl rfl) (.inl ⟨_,rfl,⟨fun c=>absurd c (by simpa using hk1),fun c=>absurd c (by simpa using hk2),fun c=>absurd c (by simpa using hk3)⟩,H.2.1.stp G (fun m hm=>by rw [List.mem_singleton] at hm; rw [hm]; exact .inr H.1.2.2.2.2),none,0,none,0,by unfold readV; rw [hk1,hk2,hk3]; rfl,by unfold readV; rw [hk1,hk2,hk3]; exact stb_nil,by unfold readV; rw [hk1,hk2,hk3]; exact stb_nil⟩)

def EOS (P:Program) (N:Nat) (ops:Array Oper) (Q:Exit→Act→List Frame→World→Prop) (l:List Nat) (ρ:Env) (cs:List Frame) (w:World):Prop :=
 ∀ a:Act,a.tmps.size=N→envOf a=ρ→a.defers=[]→wpOpsSIn (FW none) 0 P ops Q l a cs w
section
variable {P : Program} {N : Nat} {ops : Array Oper} {Q : Exit → Act → List Frame → World → Prop} {rest : List Nat} {ρ : Env} {cs : List Frame} {w w' : World} {i d : Nat}
theorem eos_v {op:Op} {ty:TypeId} {pos:String} {after:Array Edge} {v:Value} (ho:ops[i]?=some ⟨some d,op,ty,pos,after,none⟩) (hr:(execOp (ev ρ) ⟨some d,op,ty,pos,after,none⟩).run P w=.ok (.value v) w') (hd:Nat.blt d N=true) (h:EOS P N ops Q rest (upd ρ d v) cs w') :
  EOS P N ops Q (i::rest) ρ cs w:=fun a h1 h2 h3=>by
 unfold wpOpsSIn
 rw [ho]
 refine ⟨fun _ _=>trivial,?_⟩
 have hw:Region.wanted (⟨some d,op,ty,pos,after,none⟩:Oper) (yielded ops a.tmps)=true:=rfl
 rw [if_pos hw,← ev_envOf,h2,hr]
 exact h _ (by rw [put_size]; exact h1) (by rw [envOf_put _ _ _ (by rw [h1]; exact hd),h2]; rfl) (by rw [put_defers']; exact h3)
theorem eos_u {op:Op} {ty:TypeId} {pos:String} {after:Array Edge} (ho:ops[i]?=some ⟨none,op,ty,pos,after,none⟩) (hr:(execOp (ev ρ) ⟨none,op,ty,pos,after,none⟩).run P w=.ok .skip w') (h:EOS P N ops Q rest ρ cs w') :
  EOS P N ops Q (i::rest) ρ cs w:=fun a h1 h2 h3=>by
 unfold wpOpsSIn
 rw [ho]
 refine ⟨fun _ _=>trivial,?_⟩
 have hw:Region.wanted (⟨none,op,ty,pos,after,none⟩:Oper) (yielded ops a.tmps)=true:=rfl
 rw [if_pos hw,← ev_envOf,h2,hr]
 exact h _ h1 h2 h3
theorem eos_rec {op:Op} {ty:TypeId} {pos:String} {after:Array Edge} (ho:ops[i]?=some ⟨some d,op,ty,pos,after,none⟩) (hr:(execOp (ev ρ) ⟨some d,op,ty,pos,after,none⟩).run P w=.ok .recover w) (hc:recoverD cs=none) (hd:Nat.blt d N=true) (h:EOS P N ops Q rest (upd ρ d .nilIface) cs w) :
  EOS P N ops Q (i::rest) ρ cs w:=fun a h1 h2 h3=>by
 unfold wpOpsSIn
 rw [ho]
 refine ⟨fun _ _=>trivial,?_⟩
 have hw:Region.wanted (⟨some d,op,ty,pos,after,none⟩:Oper) (yielded ops a.tmps)=true:=rfl
 rw [if_pos hw,← ev_envOf,h2,hr]
 simp only [hc]
 exact h _ (by rw [put_size]; exact h1) (by rw [envOf_put _ _ _ (by rw [h1]; exact hd),h2]; rfl) (by rw [put_defers']; exact h3)
theorem eos_store {T:TypeId} {X Y:Operand} {b o:Nat} {e:TypeId} {c0 vs:List Value} {ty:TypeId} {pos:String} {after:Array Edge} (ho:ops[i]?=some ⟨none,.store T X Y,ty,pos,after,none⟩) (hX:ev ρ X=.pointer (some ⟨b,o,none⟩)) (hB:Blk w b e c0) (hY:(ev ρ Y).cells=vs.toArray)
  (hT:Sz P T vs.length) (h1:vs.all oneC=true) (hl:Nat.ble (o + vs.length) c0.length=true) (h:∀ w',Fr [b] w w'→Blk w' b e (setL c0 o vs)→EOS P N ops Q rest ρ cs w') :
  EOS P N ops Q (i::rest) ρ cs w:=by
 obtain ⟨j,h2,h3⟩:=hT
 obtain ⟨w',hr,hf,hb⟩:=run_storeL (P:=P) (o:=o) vs 0 c0 w hB h1 (by have:=Nat.le_of_ble_eq_true hl; omega)
 refine eos_u (w':=w') ho ?_ (h w' hf hb)
 simp [execOp,hX,Instr.storeAt,Instr.sureAddr,storeVar,hY,sizeOf,typeInfo,h2,h3,hr,program,Sem.run,Result.andThen]
theorem eos_nil (h:∀ a:Act,a.tmps.size=N→envOf a=ρ→a.defers=[]→Q .normal a cs w):EOS P N ops Q [] ρ cs w:=fun a h1 h2 h3=>by
 unfold wpOpsSIn; exact h a h1 h2 h3
end
theorem envOf_base (args:Array Value) (n:Nat):envOf { tmps:=args++Array.replicate n undef,defers:=[] }=base args:=by
 funext t
 simp only [envOf,base,Array.getD_eq_getD_getElem?,List.getD_eq_getElem?_getD,Array.getElem?_append,Array.getElem?_toList]
 by_cases h1:t<args.size
 ·simp [h1]
 ·rw [if_neg h1,Array.getElem?_eq_none (Nat.le_of_not_lt h1)]
  simp only [Array.getElem?_replicate]
  split <;> rfl
theorem un_odd:∃ fs,Tryz.prog.underlying 115=some (.struct fs):=⟨_,Tryz.underlying115⟩
theorem assert_nil (w:World) (xT:TypeId):(Instr.typeAssert .nilIface xT 115 true).run Tryz.prog w=.ok (.tuple #[.agg #[],.bool false]) w:=by
 obtain ⟨fs,hu⟩:=un_odd
 obtain ⟨i,h1,h2⟩:=zero_odd
 simp [Instr.typeAssert,run_underlying hu,zeroValue,typeInfo,h1,h2,program,Sem.run,Result.andThen]
theorem sz_odd:Sz Tryz.prog 115 0:=sz_of (show (Tryz.prog.info? 115).map (fun i=>(i.zero,i.size,i.bytes))=some (some (.agg #[]),0,0) by kernel_rfl)
set_option maxRecDepth 20000 in
set_option maxHeartbeats 4000000 in
theorem get1_idle (b2 b3:Nat) (w:World):CallsDIn (FW none) 0 Tryz.prog 73 #[.pointer (some ⟨b2,0,none⟩),.pointer (some ⟨b3,0,none⟩)] .returning w fun e u' w'=>(∃ v,e=.returned v)∧u'=.returning∧Ext w w':=by
 refine callsDIn_of_wpSIn Tryz.func73 rfl trivial fun c₀ cs hu=>?_
 apply wpSIn_seq
 apply wpSIn_region
 have hc:recoverD (c₀::cs)=none:=by simp [recoverD,hu]
 have hself:({ c₀ with mode:=.returning }:Frame)=c₀:=by rw [← hu]
 refine (?_:EOS Tryz.prog 11 _ _ [0,1,2,3,4,5,6,7] (base #[.pointer (some ⟨b2,0,none⟩),.pointer (some ⟨b3,0,none⟩)]) (c₀::cs) w) _ (by rfl) ?_ rfl
 ·refine eos_rec rfl (by rfl) hc rfl ?_
  refine eos_v (w':=w) (v:=.tuple #[.agg #[],.bool false]) rfl (by simp [execOp,ev,upd,assert_nil]) rfl ?_
  refine eos_v (w':=w) (v:=.tuple #[.agg #[],.bool false]) rfl (r_mov rfl) rfl ?_
  refine eos_v (w':=w) (v:=.agg #[]) rfl (r_ext rfl rfl) rfl ?_
  refine eos_v (w':=w) (v:=.bool false) rfl (r_ext rfl rfl) rfl ?_
  have hz:(zeroValue 115).run Tryz.prog w=.ok (.agg #[]) w:=by
   obtain ⟨i,h1,h2⟩:=zero_odd
   simp [zeroValue,typeInfo,h1,h2,program,Sem.run,Result.andThen]
  refine eos_v (w':=w.alloc (.cells #[] 115)) (v:=.pointer (some ⟨w.heap.size,0,none⟩)) rfl (by
   simp only [execOp,Instr.alloc,Sem.run_bind,hz,Result.andThen,newVar,newRow,newObj]; rfl) rfl ?_
  have hB:Blk (w.alloc (.cells #[] 115)) w.heap.size 115 []:=Blk.alloc w 115 []
  refine eos_store rfl rfl hB (vs:=[]) rfl sz_odd rfl rfl ?_
  intro w1 hf _
  have E1:Ext w w1:=Ext.st (Ext.alloc w _) hf (fun m hm=>by rw [List.mem_singleton] at hm; rw [hm]; exact Nat.le_refl _)
  refine eos_v (w':=w1) (v:=.bool false) rfl (r_asg rfl) rfl ?_
  refine eos_nil fun a h1 h2 h3=>?_
  refine wpSIn_of_wpIn rfl ?_
  refine wpIn_mono ((?hE:EC Tryz.prog none 11 _ (fun e ρ ds w'=>e=.normal∧ds=[]∧Ext w w') _ [] w1) a h1 h2 h3) ?_
  case hE =>
   refine ec_sr ?_
   refine o_w (v:=.bool false) (r_mov rfl) ?_
   refine eo_nil_sq ?_
   refine ec_condF rfl rfl ?_
   exact ec_skip ⟨rfl,rfl,E1⟩
  rintro e a' w' ⟨hs,rfl,hd,hx⟩
  exact ⟨hd,.returning,by rw [hself],.tuple #[],by (rw [← resE_envOf]; show (resE #[] _).run _ _=_; simp [resE]),⟨_,rfl⟩,rfl,hx⟩
 ·exact envOf_base _ _
section
variable {P : Program} {N : Nat} {ops : Array Oper} {Q : Exit → Act → List Frame → World → Prop} {rest : List Nat} {ρ : Env} {cs cs' : List Frame} {w : World} {i d : Nat}
theorem eos_rec2 {op:Op} {ty:TypeId} {pos:String} {after:Array Edge} {v:Value} (ho:ops[i]?=some ⟨some d,op,ty,pos,after,none⟩) (hr:(execOp (ev ρ) ⟨some d,op,ty,pos,after,none⟩).run P w=.ok .recover w) (hc:recoverD cs=some (v,cs')) (hd:Nat.blt d N=true) (h:EOS P N ops Q rest (upd ρ d v) cs' w) :
  EOS P N ops Q (i::rest) ρ cs w:=fun a h1 h2 h3=>by
 unfold wpOpsSIn
 rw [ho]
 refine ⟨fun _ _=>trivial,?_⟩
 have hw:Region.wanted (⟨some d,op,ty,pos,after,none⟩:Oper) (yielded ops a.tmps)=true:=rfl
 rw [if_pos hw,← ev_envOf,h2,hr]
 simp only [hc]
 exact h _ (by rw [put_size]; exact h1) (by rw [envOf_put _ _ _ (by rw [h1]; exact hd),h2]; rfl) (by rw [put_defers']; exact h3)
end
theorem assert_odd (w:World) (xT:TypeId):(Instr.typeAssert (.iface 115 (.agg #[])) xT 115 true).run Tryz.prog w=.ok (.tuple #[.agg #[],.bool true]) w:=by
 obtain ⟨fs,hu⟩:=un_odd
 simp [Instr.typeAssert,run_underlying hu]
/-- The panic of the reader, when it has been recovered. -/
abbrev oddD : List PanicEntry := [{ v := .iface 115 (.agg #[]), recovered := true }]
set_option maxRecDepth 20000 in
set_option maxHeartbeats 4000000 in
theorem get1_caught {b2 b3:Nat} {w:World} (B2:Blk w b2 55 (cEnt zeroE none 0 none 0)) (B3:Blk w b3 31 [.int .i64 0]) (h23:b2≠b3) :
  CallsDIn (FW none) 0 Tryz.prog 73 #[.pointer (some ⟨b2,0,none⟩),.pointer (some ⟨b3,0,none⟩)] (.panicking oddC) w fun e u' w'=>(∃ v,e=.returned v)∧u'=.panicking oddD∧Fr [b2,b3] w w'∧Blk w' b2 55 (cEnt zeroE none 0 none 0)∧Blk w' b3 31 [.int .i64 2]:=by
 refine callsDIn_of_wpSIn Tryz.func73 rfl trivial fun c₀ cs hu=>?_
 apply wpSIn_seq
 apply wpSIn_region
 have hc:recoverD (c₀::cs)=some (.iface 115 (.agg #[]),{ c₀ with mode:=.panicking oddD }::cs):=by simp [recoverD,hu]
 refine (?_:EOS Tryz.prog 11 _ _ [0,1,2,3,4,5,6,7] (base #[.pointer (some ⟨b2,0,none⟩),.pointer (some ⟨b3,0,none⟩)]) (c₀::cs) w) _ (by rfl) ?_ rfl
 ·refine eos_rec2 rfl (by rfl) hc rfl ?_
  refine eos_v (w':=w) (v:=.tuple #[.agg #[],.bool true]) rfl (by simp [execOp,ev,upd,assert_odd]) rfl ?_
  refine eos_v (w':=w) (v:=.tuple #[.agg #[],.bool true]) rfl (r_mov rfl) rfl ?_
  refine eos_v (w':=w) (v:=.agg #[]) rfl (r_ext rfl rfl) rfl ?_
  refine eos_v (w':=w) (v:=.bool true) rfl (r_ext rfl rfl) rfl ?_
  have hz:(zeroValue 115).run Tryz.prog w=.ok (.agg #[]) w:=by
   obtain ⟨i,h1,h2⟩:=zero_odd
   simp [zeroValue,typeInfo,h1,h2,program,Sem.run,Result.andThen]
  refine eos_v (w':=w.alloc (.cells #[] 115)) (v:=.pointer (some ⟨w.heap.size,0,none⟩)) rfl (by
   simp only [execOp,Instr.alloc,Sem.run_bind,hz,Result.andThen,newVar,newRow,newObj]; rfl) rfl ?_
  have hB:Blk (w.alloc (.cells #[] 115)) w.heap.size 115 []:=Blk.alloc w 115 []
  refine eos_store rfl rfl hB (vs:=[]) rfl sz_odd rfl rfl ?_
  intro w1 hf _
  have E1:Ext w w1:=Ext.st (Ext.alloc w _) hf (fun m hm=>by rw [List.mem_singleton] at hm; rw [hm]; exact Nat.le_refl _)
  refine eos_v (w':=w1) (v:=.bool true) rfl (r_asg rfl) rfl ?_
  refine eos_nil fun a h1 h2 h3=>?_
  refine wpSIn_of_wpIn rfl ?_
  refine wpIn_mono ((?hE:EC Tryz.prog none 11 _ (fun e ρ ds w'=>e=.normal∧ds=[]∧Fr [b2,b3] w w'∧Blk w' b2 55 (cEnt zeroE none 0 none 0)∧Blk w' b3 31 [.int .i64 2]) _ [] w1) a h1 h2 h3) ?_
  case hE =>
   refine ec_sr ?_
   refine o_w (v:=.bool true) (r_mov rfl) ?_
   refine eo_nil_sq ?_
   refine ec_condT rfl rfl ?_
   refine ec_region ?_
   refine o_w (v:=.agg (cEnt zeroE none 0 none 0).toArray) (r_build bld_api_Entry (vs:=[]) (cells:=cEnt zeroE none 0 none 0) rfl rfl) ?_
   refine o_store rfl (B2.ex E1) (vs:=cEnt zeroE none 0 none 0) rfl sz_api_Entry rfl rfl rfl ?_
   intro w12 F12 B212
   refine o_store rfl ((B3.ex E1).fr F12 (by simpa using h23.symm)) (vs:=[.int .i64 2]) rfl sz_api_Errno rfl rfl rfl ?_
   intro w13 F13 B313
   refine eo_nil ?_
   exact ⟨rfl,rfl,((Fr.ext E1).stp F12 (fun m hm=>.inl (by simp at hm; simp [hm]))).stp F13 (fun m hm=>.inl (by simp at hm; simp [hm])),B212.fr F13 (by simpa using h23),B313⟩
  rintro e a' w' ⟨hs,rfl,hd,hx⟩
  exact ⟨hd,.panicking oddD,rfl,.tuple #[],by (rw [← resE_envOf]; show (resE #[] _).run _ _=_; simp [resE]),⟨_,rfl⟩,rfl,hx⟩
 ·exact envOf_base _ _

theorem lo8_nat (n:Nat):IntKind.u8.wrap (lo8 (n:Int))=((n % 256:Nat):Int):=by
 have e:(BitVec.ofInt IntKind.i64.bits (n:Int) &&& BitVec.ofInt IntKind.i64.bits (255:Int)).toNat=n % 256:=by
  rw [BitVec.toNat_and,BitVec.toNat_ofInt,BitVec.toNat_ofInt]
  have h64:IntKind.i64.bits=64:=rfl
  rw [h64]
  have e1:((n:Int) % ((2 ^ 64:Nat):Int)).toNat=n % 2 ^ 64:=by omega
  have e2:((255:Int) % ((2 ^ 64:Nat):Int)).toNat=2 ^ 8 - 1:=by decide
  rw [e1,e2,Nat.and_two_pow_sub_one_eq_mod]; omega
 unfold lo8
 rw [e,wrap64 (by omega) (by omega)]
 show (((n % 256:Nat):Int)) % 256=_
 omega
theorem sh8_nat (n:Nat):sh8 (n:Int)=((n / 256:Nat):Int):=by
 unfold sh8
 rw [show (2 ^ min ((8:Int)).toNat IntKind.i64.bits:Int)=256 from by decide,Int.fdiv_eq_ediv_of_nonneg _ (by decide)]; omega
theorem bytes_nat:∀ (k n:Nat),n<256 ^ k→restF k (n:Int)=0∧leN (bstr (bytesF k (n:Int)))=n
 | 0,n,h=>by
  obtain rfl:n=0:=by simpa using h
  exact ⟨rfl,rfl⟩
 | k + 1,n,h=>by
  have h':n / 256<256 ^ k:=by rw [Nat.pow_succ] at h; exact Nat.div_lt_of_lt_mul (by rw [Nat.mul_comm]; exact h)
  obtain ⟨i1,i2⟩:=bytes_nat k (n / 256) h'
  refine ⟨by show restF k (sh8 (n:Int))=0; rw [sh8_nat]; exact i1,?_⟩
  show leN (bstr (IntKind.u8.wrap (lo8 (n:Int))::bytesF k (sh8 (n:Int))))=n
  rw [lo8_nat,sh8_nat]
  have e:(UInt8.ofNat (((n % 256:Nat):Int)).toNat).toNat=n % 256:=by
   rw [Int.toNat_natCast]; simp
  show (UInt8.ofNat (((n % 256:Nat):Int)).toNat).toNat + 256 * leN (bstr (bytesF k ((n / 256:Nat):Int)))=n
  rw [e,i2]; omega
theorem putO_fit {n:Int} (w:Nat) (h1:1≤w) (h7:w≤7) (h0:0≤n) (hn:n<((256 ^ w:Nat):Int)):(putO n (w:Int)).2=0∧(putO n (w:Int)).1.length=w∧(leN (putO n (w:Int)).1:Int)=n:=by
 obtain ⟨m,rfl⟩:=Int.eq_ofNat_of_zero_le h0
 obtain ⟨i1,i2⟩:=bytes_nat w m (by omega)
 have e1:((decide ((w:Int)<1)||decide (7<(w:Int)))||decide ((m:Int)<0))=false:=by simp; omega
 unfold putO
 rw [e1,Int.toNat_natCast,i1]
 exact ⟨rfl,by simp [bstr,bytesF_length],by show ((leN (bstr (bytesF w (m:Int))):Nat):Int)=m; rw [i2]⟩
theorem putT_42 {e:Ent} (h:okE e=true):(putT e).length=42:=by
 obtain ⟨h1,h8,hv⟩:=okE_val h
 have hk:0≤e.val.kind∧e.val.kind≤3:=by rcases okV_kind hv with hk | hk | hk <;> omega
 obtain ⟨_,a1,_⟩:=putO_fit (n:=e.val.kind) 1 (by decide) (by decide) hk.1 (by show e.val.kind<256; omega)
 obtain ⟨_,b1,_⟩:=putO_fit (n:=(e.key.length:Int)) 1 (by decide) (by decide) (by omega) (by show (e.key.length:Int)<256; omega)
 replace a1:(putO e.val.kind 1).1.length=1:=a1
 replace b1:(putO (e.key.length:Int) 1).1.length=1:=b1
 have z1:=zeros_len (8 - (e.key.length:Int))
 have z2:=zeros_len (32 - ((valT e.val).length:Int))
 have hl:=valT_len h
 have hh:(headT e).length=10:=by unfold headT; simp only [List.length_append,a1,b1,z1]; omega
 unfold putT; simp only [List.length_append,hh,z2]; omega

def kindG (s:Str):Int:=(leN (s.take 1):Int)
def klenG (s:Str):Nat:=leN ((s.drop 1).take 1)
def readE (s:Str):Ent:=⟨(s.drop 2).take (klenG s),readV (kindG s) (s.drop 10)⟩
/-- Nothing panics. -/
def okG0 (s : Str) : Prop := (1 ≤ s.length ∧ 1 ≤ s.length - 1 ∧ klenG s ≤ 8 ∧ 8 ≤ s.length - 1 - 1) ∧ okS (kindG s) (s.drop 10)
def okG (s:Str):Prop:=s.length≤9223372036854775807
def getE (s:Str):Ent × Int:=bif ((putE (readE s)).2 != 0)||!((putE (readE s)).1==s) then (zeroE,2) else (readE s,0)
theorem sm_readV (k:Int) (s:Str):sm (readV k s):=by
 unfold readV
 cases k==1 with
 | true=>exact ⟨Nat.zero_le _,Nat.zero_le _⟩
 | false =>
  cases k==2 with
  | true=>exact ⟨by simp [pairs_len],by simp [pairs_len]⟩
  | false=>cases k==3 <;> exact ⟨Nat.zero_le _,Nat.zero_le _⟩
/-- There is nothing to be got where something panics. -/
theorem getE_short {s : Str} (h : s.length < 42) : getE s = (zeroE, 2) := by
  unfold getE
  by_cases hd : ((putE (readE s)).2 != 0) = true
  · rw [hd]; rfl
  · have hd' : ((putE (readE s)).2 != 0) = false := by simpa using hd
    have ho : okE (readE s) = true := by
      cases h1 : okE (readE s) with
      | true => rfl
      | false => exfalso; unfold putE at hd'; rw [h1] at hd'; simp at hd'
    have h2 : (putE (readE s)).1 = putT (readE s) := by unfold putE; rw [ho]; rfl
    have hl := putT_42 ho
    have : ((putE (readE s)).1 == s) = false := by
      rw [h2, beq_eq_false_iff_ne]
      intro c; rw [c] at hl; omega
    rw [hd', this]; rfl
theorem getE_odd {s:Str} (h:okE (readE s)=false):getE s=(zeroE,2):=by
 unfold getE putE
 rw [h]; rfl
theorem getE_bad {s:Str} (h:¬ okG0 s):getE s=(zeroE,2):=by
 by_cases hl:s.length<42
 ·exact getE_short hl
 ·refine getE_odd ?_
  by_cases hk:klenG s≤8
  ·have hq:¬ okS (kindG s) (s.drop 10):=fun c=>h ⟨⟨by omega,by omega,hk,by omega⟩,c⟩
   unfold okS at hq
   have h3:kindG s=1∧¬ leN ((((((s.drop 10).drop 4).drop 1).drop 1)).take 1)≤8:=by
    by_cases h1:kindG s=1
    ·refine ⟨h1,fun c=>hq ⟨fun _=>⟨c,by rw [List.length_drop]; omega⟩,fun c=>by omega,fun c=>by omega⟩⟩
    ·exact absurd ⟨fun c=>absurd c h1,fun _=>by rw [List.length_drop]; omega,fun _=>by rw [List.length_drop]; omega⟩ hq
   have ht:(readE s).val.text.length≤8→False:=fun c=>by
    unfold readE readV at c
    rw [h3.1] at c
    simp only [beq_self_eq_true,cond_true,List.length_take,List.length_drop] at c
    have:=h3.2
    omega
   unfold okE
   cases ho:okV (readE s).val with
   | false=>simp
   | true =>
    exfalso
    refine ht (okV_text ho ?_)
    unfold readE readV
    rw [h3.1]; rfl
  ·unfold okE
   have:decide ((readE s).key.length≤8)=false:=by
    unfold readE
    simp only [List.length_take,List.length_drop,decide_eq_false_iff_not]; omega
   rw [this]; simp
def entry_Get_raw (s:Str) (y:Ent × Int):Prop:=okG s∧y=getE s
theorem entGet_ev (s:Str) (h:okG s):entry_Get_raw s (getE s):=⟨h,rfl⟩
theorem zero_reader:Zero Tryz.prog 119 (.agg #[str []]):=zero_of (show (Tryz.prog.info? 119).map (fun i=>(i.zero,i.size,i.bytes))=some (some (.agg #[str []]),1,16) by kernel_rfl)
theorem bld_reader:Bld Tryz.prog 119 [(0,1)] [str []]:=bld_struct zero_reader rfl Tryz.underlying119 (fun _=>by kernel_rfl)
theorem get_end {ρ:Env} {w w1:World} {b2 b3:Nat} {L:List Nat} {cs:List Value} {x:Ent} {n:Int} (h2:ρ 2=.pointer (some ⟨b2,0,none⟩)) (h3:ρ 3=.pointer (some ⟨b3,0,none⟩))
  (B2:Blk w1 b2 55 cs) (B3:Blk w1 b3 31 [.int .i64 n]) (hn:cs.length=9) (E:Ext w w1) (S:Stb L w1 (fun w=>kEnt.r w cs x)) :
  leaveD Tryz.prog #[ResultVar.cell 2 55,ResultVar.cell 3 31] (Ret fun v w'=>Ext w w'∧∃ (cs90:List Value),v=.tuple #[.agg cs90.toArray,.int .i64 n]∧Stb L w' (fun w=>kEnt.r w cs90 x)) ρ
   [{ target:=.fn (.func 73) [.pointer (some ⟨b2,0,none⟩),.pointer (some ⟨b3,0,none⟩)].toArray,args:=#[] }] .returning w1:=by
 have hi:(invoke (.fn (.func 73) [.pointer (some ⟨b2,0,none⟩),.pointer (some ⟨b3,0,none⟩)].toArray) #[]).run Tryz.prog w1=.ok (.enter 73 #[.pointer (some ⟨b2,0,none⟩),.pointer (some ⟨b3,0,none⟩)]) w1:=by
  simp [invoke]
 refine ⟨by simp,_,_,_,_,rfl,hi,(get1_idle b2 b3 w1).mono ?_⟩
 rintro e u w' ⟨⟨v,rfl⟩,rfl,hx⟩
 obtain ⟨_,v',h⟩:=endr2 (P:=Tryz.prog) (w:=w') (R:=Ret fun v w'=>Ext w w'∧∃ (cs90:List Value),v=.tuple #[.agg cs90.toArray,.int .i64 n]∧Stb L w' (fun w=>kEnt.r w cs90 x)) (rv_a h2 agg_api_Entry (B2.ex hx) hn (by rw [List.drop_zero,← hn,List.take_length])) (rv_c h3 one_api_Errno (B3.ex hx) rfl) ⟨_,rfl,E.trans hx,_,rfl,S.ex hx⟩
 exact ⟨v',h⟩
theorem get_panic {ρ:Env} {w w1:World} {b2 b3:Nat} {L:List Nat} (h2:ρ 2=.pointer (some ⟨b2,0,none⟩)) (h3:ρ 3=.pointer (some ⟨b3,0,none⟩))
  (B2:Blk w1 b2 55 (cEnt zeroE none 0 none 0)) (B3:Blk w1 b3 31 [.int .i64 0]) (h23:b2≠b3) (E:Ext w w1) (l2:w.heap.size≤b2) (l3:w.heap.size≤b3) {s:Str} (hb:¬ okG0 s) :
  leaveD Tryz.prog #[ResultVar.cell 2 55,ResultVar.cell 3 31] (Ret fun v w'=>Ext w w'∧∃ (cs90:List Value),v=.tuple #[.agg cs90.toArray,.int .i64 (getE s).2]∧Stb L w' (fun w=>kEnt.r w cs90 (getE s).1)) ρ
   [{ target:=.fn (.func 73) [.pointer (some ⟨b2,0,none⟩),.pointer (some ⟨b3,0,none⟩)].toArray,args:=#[] }] (.panicking oddC) w1:=by
 have hi:(invoke (.fn (.func 73) [.pointer (some ⟨b2,0,none⟩),.pointer (some ⟨b3,0,none⟩)].toArray) #[]).run Tryz.prog w1=.ok (.enter 73 #[.pointer (some ⟨b2,0,none⟩),.pointer (some ⟨b3,0,none⟩)]) w1:=by
  simp [invoke]
 rw [getE_bad hb]
 refine ⟨by simp,_,_,_,_,rfl,hi,(get1_caught B2 B3 h23).mono ?_⟩
 rintro e u w' ⟨⟨v,rfl⟩,rfl,hx,X2,X3⟩
 obtain ⟨_,v',h⟩:=endr2 (P:=Tryz.prog) (w:=w') (R:=Ret fun v w'=>Ext w w'∧∃ (cs90:List Value),v=.tuple #[.agg cs90.toArray,.int .i64 2]∧Stb L w' (fun w=>kEnt.r w cs90 zeroE)) (rv_a h2 agg_api_Entry X2 rfl rfl) (rv_c h3 one_api_Errno X3 rfl) ⟨_,rfl,Ext.st E hx (by simp; omega),_,rfl,kEnt_mk (d:=zeroE) stb_nil stb_nil⟩
 exact ⟨v',h⟩
set_option maxRecDepth 20000 in
set_option maxHeartbeats 8000000 in
theorem entry_Get_c {L:List Nat} {w:World} (s:Str) (hL:Lt L w) {y:Ent × Int} (h:entry_Get_raw s y) :
  Calls Tryz.prog 44 [str s].toArray w (Ret fun v w'=>Ext w w'∧∃ (cs90:List Value),v=.tuple #[.agg cs90.toArray,.int .i64 y.2]∧Stb L w' (fun w=>kEnt.r w cs90 y.1)):=by
 obtain ⟨hsz,rfl⟩:=h
 replace hsz:s.length≤9223372036854775807:=hsz
 refine calls_ecD Tryz.func44 rfl rfl rfl ?_
 refine ec_sr ?_
 refine o_alloc zero_api_Entry rfl rfl rfl ?_
 intro b2 w1 e2 F1 B2
 refine o_alloc zero_api_Errno rfl rfl rfl ?_
 intro b3 w2 e3 F2 B3
 refine eo_r ?_
 refine o_w (v:=.func (.func 73) #[] #[.pointer (some ⟨b2,0,none⟩),.pointer (some ⟨b3,0,none⟩)]) (r_mkfb (us:=[]) (vs:=[.pointer (some ⟨b2,0,none⟩),.pointer (some ⟨b3,0,none⟩)]) rfl rfl) ?_
 refine o_defer (caps:=[.pointer (some ⟨b2,0,none⟩),.pointer (some ⟨b3,0,none⟩)]) rfl rfl ?_
 refine eo_r ?_
 refine o_w (v:=str s) (r_mov rfl) ?_
 refine o_w (v:=.agg #[str s]) (r_build bld_reader (vs:=[(0,str s)]) (cells:=[str s]) rfl rfl) ?_
 refine o_box (cs:=[str s]) rfl rfl rfl ?_
 intro br w3 er F3 Br
 refine o_w (v:=.pointer (some ⟨br,0,none⟩)) (r_asg rfl) ?_
 have hb2:=B2.lt
 have hb3:=B3.lt
 have s1:=F1.size
 have s2:=F2.size
 have B2r:=(B2.ex F2).ex F3
 have B3r:=B3.ex F3
 have E3:Ext w w3:=(F1.trans F2).trans F3
 have hbr:w.heap.size≤br:=by omega
 have n2:b2≠br:=by omega
 have n3:b3≠br:=by omega
 have n23:b2≠b3:=by omega
 have l2:w.heap.size≤b2:=by omega
 have l3:w.heap.size≤b3:=by omega
 refine eo_r ?_
 refine o_w (v:=.pointer (some ⟨br,0,none⟩)) (r_mov rfl) ?_
 refine o_callP cf_rnumber rfl (rd_num Br 1 (by omega) (by omega) hsz) rfl rfl ?_ (by
  rintro _ w' ⟨rfl,hno,G⟩
  exact get_panic (s:=s) rfl rfl (B2r.fr G (by simpa using n2)) (B3r.fr G (by simpa using n3)) n23 (Ext.st E3 G (fun m hm=>by rw [List.mem_singleton] at hm; rw [hm]; exact hbr)) l2 l3 (fun c=>hno c.1.1))
 rintro _ w4 ⟨ok1,rfl,F4,Br4⟩
 have B24:=B2r.fr F4 (by simpa using n2)
 have B34:=B3r.fr F4 (by simpa using n3)
 have E4:Ext w w4:=Ext.st E3 F4 (fun m hm=>by rw [List.mem_singleton] at hm; rw [hm]; exact hbr)
 refine o_w (v:=.int .i64 (kindG s)) (r_asg rfl) ?_
 refine eo_r ?_
 iterate 2 refine o_w (v:=.pointer (some ⟨br,0,none⟩)) (r_mov rfl) ?_
 refine o_callP cf_rnumber rfl (rd_num Br4 1 (by omega) (by omega) (by rw [List.length_drop]; omega)) rfl rfl ?_ (by
  rintro _ w' ⟨rfl,hno,G⟩
  exact get_panic (s:=s) rfl rfl (B24.fr G (by simpa using n2)) (B34.fr G (by simpa using n3)) n23 (Ext.st E4 G (fun m hm=>by rw [List.mem_singleton] at hm; rw [hm]; exact hbr)) l2 l3 (fun c=>hno (by rw [List.length_drop]; exact c.1.2.1)))
 rintro _ w5 ⟨ok2,rfl,F5,Br5⟩
 have B25:=B24.fr F5 (by simpa using n2)
 have B35:=B34.fr F5 (by simpa using n3)
 have E5:Ext w w5:=Ext.st E4 F5 (fun m hm=>by rw [List.mem_singleton] at hm; rw [hm]; exact hbr)
 refine o_callP cf_rtext rfl (rd_txt Br5 (klenG s) 8 (by simp only [List.length_drop]; omega)) rfl rfl ?_ (by
  rintro _ w' ⟨rfl,hno,G⟩
  exact get_panic (s:=s) rfl rfl (B25.fr G (by simpa using n2)) (B35.fr G (by simpa using n3)) n23 (Ext.st E5 G (fun m hm=>by rw [List.mem_singleton] at hm; rw [hm]; exact hbr)) l2 l3 (fun c=>hno ⟨c.1.2.2.1,by simp only [List.length_drop]; exact c.1.2.2.2⟩))
 rintro _ w6 ⟨ok3,rfl,F6,Br6⟩
 have B26:=B25.fr F6 (by simpa using n2)
 have B36:=B35.fr F6 (by simpa using n3)
 have E6:Ext w w6:=Ext.st E5 F6 (fun m hm=>by rw [List.mem_singleton] at hm; rw [hm]; exact hbr)
 have hkey:((s.drop 1).drop 1).take (klenG s)=(readE s).key:=by simp [readE,List.drop_drop]
 have hrest:((s.drop 1).drop 1).drop 8=s.drop 10:=by simp [List.drop_drop]
 rw [hrest] at Br6
 rw [hkey]
 refine o_w (v:=.agg #[str (readE s).key,.int .i64 0,.int .i64 0,.int .i64 0,.bool false,str [],.slice none 0 0,.slice none 0 0,.int .u64 0]) (r_build bld_api_Entry (vs:=[(0,str (readE s).key)]) (cells:=[str (readE s).key,.int .i64 0,.int .i64 0,.int .i64 0,.bool false,str [],.slice none 0 0,.slice none 0 0,.int .u64 0]) rfl rfl) ?_
 refine o_alloc zero_api_Entry rfl rfl rfl ?_
 intro b6 w7 e6 F7 B6
 refine o_store rfl B6 (vs:=[str (readE s).key,.int .i64 0,.int .i64 0,.int .i64 0,.bool false,str [],.slice none 0 0,.slice none 0 0,.int .u64 0]) rfl sz_api_Entry rfl rfl rfl ?_
 intro w8 F8 B68
 have hB2l:=B26.lt
 have hB3l:=B36.lt
 have hBrl:=Br6.lt
 have n62:b2≠b6:=by omega
 have n63:b3≠b6:=by omega
 have n6r:br≠b6:=by omega
 have h6:w.heap.size≤b6:=by have:=E6.size; omega
 have B28:=(B26.ex F7).fr F8 (by simpa using n62)
 have B38:=(B36.ex F7).fr F8 (by simpa using n63)
 have Br8:=(Br6.ex F7).fr F8 (by simpa using n6r)
 have E8:Ext w w8:=Ext.st (E6.trans F7) F8 (fun m hm=>by rw [List.mem_singleton] at hm; rw [hm]; exact h6)
 have hL8:Lt (br::b6::b3::b2::L) w8:=(((((hL.fr E8).cons B28.lt).cons B38.lt).cons B68.lt).cons Br8.lt)
 refine eo_r ?_
 refine o_w (v:=.pointer (some ⟨br,0,none⟩)) (r_mov rfl) ?_
 refine o_w (v:=.int .i64 (kindG s)) (r_mov rfl) ?_
 refine o_callP cf_rvalue rfl (rd_value hL8 (by simp) Br8 (kindG s) (by rw [List.length_drop]; omega)) rfl rfl ?_ (by
  rintro _ w' ⟨rfl,hno,G⟩
  exact get_panic (s:=s) rfl rfl (B28.fr G (by simpa using n2)) (B38.fr G (by simpa using n3)) n23 (Ext.st E8 G (fun m hm=>by rw [List.mem_singleton] at hm; rw [hm]; exact hbr)) l2 l3 (fun c=>hno c.2))
 rintro _ w9 ⟨ok4,F9,A1,c1,A2,c2,rfl,S1,S2⟩
 have B29:=B28.fr F9 (by simpa using n2)
 have B39:=B38.fr F9 (by simpa using n3)
 have B69:=B68.fr F9 (by simpa using n6r.symm)
 have E9:Ext w w9:=Ext.st E8 F9 (fun m hm=>by rw [List.mem_singleton] at hm; rw [hm]; exact hbr)
 refine o_w (v:=.pointer (some ⟨b6,1,none⟩)) (r_fa fld_api_Entry_1 rfl rfl) ?_
 refine o_store rfl B69 (vs:=cVal (readE s).val A1 c1 A2 c2) rfl sz_api_Value rfl rfl rfl ?_
 intro w10 F10 B610
 have S1':=S1.fr F10 (by simp)
 have S2':=S2.fr F10 (by simp)
 have B210:=B29.fr F10 (by simpa using n62)
 have B310:=B39.fr F10 (by simpa using n63)
 have B6':Blk w10 b6 55 (cEnt (readE s) A1 c1 A2 c2):=B610
 have E10:Ext w w10:=Ext.st E9 F10 (fun m hm=>by rw [List.mem_singleton] at hm; rw [hm]; exact h6)
 have hbr8:=Br8.lt
 have s9:=F9.size
 have s10:=F10.size
 have hL10:Lt (br::b6::b3::b2::L) w10:=((((hL.fr E10).cons B210.lt).cons B310.lt).cons B6'.lt).cons (by omega)
 refine eo_nil_sq ?_
 refine ec_seq ?_
 refine ec_sr ?_
 refine o_w (v:=.agg (cEnt (readE s) A1 c1 A2 c2).toArray) (r_lda agg_api_Entry rfl (vs:=cEnt (readE s) A1 c1 A2 c2) rfl (B6'.part (o:=0) (n:=9) rfl)) ?_
 refine o_call cf_entry_Put rfl (entry_Put_c (readE s) (kEnt_mk (d:=readE s) S1' S2') hL10 (entPut_ev _ (sm_readV _ _))) rfl rfl ?_
 rintro _ w11 ⟨F11,rfl⟩
 have B211:=B210.ex F11
 have B311:=B310.ex F11
 have B611:=B6'.ex F11
 have S11:=(S1'.ex F11)
 have S21:=(S2'.ex F11)
 have E11:=E10.trans F11
 have hs11:=E11.size
 have hsub:∀ m∈L,m∈(br::b6::b3::b2::L):=fun m hm=>by simp [hm]
 refine o_w (v:=.tuple #[str (putE (readE s)).1,.int .i64 (putE (readE s)).2]) (r_mov rfl) ?_
 refine o_w (v:=str (putE (readE s)).1) (r_ext rfl rfl) ?_
 refine o_w (v:=.int .i64 (putE (readE s)).2) (r_ext rfl rfl) ?_
 refine o_w (v:=str (putE (readE s)).1) (r_asg rfl) ?_
 refine o_w (v:=.int .i64 (putE (readE s)).2) (r_asg rfl) ?_
 refine eo_r ?_
 refine o_w (v:=.int .i64 (putE (readE s)).2) (r_mov rfl) ?_
 refine o_w (v:=.bool ((putE (readE s)).2 != 0)) (r_int rfl rfl rfl) ?_
 refine o_w (v:=.bool ((putE (readE s)).2 != 0)) (r_mov rfl) ?_
 have hn2:b2≠b3:=n23
 by_cases hd:((putE (readE s)).2 != 0)=true
 ·iterate 3 refine o_no (want_f (t:=31) rfl rfl hd) rfl ?_
  refine o_w (v:=.bool true) (r_pickT rfl hd rfl) ?_
  refine eo_nil_sq ?_
  refine ec_condT rfl rfl ?_
  refine ec_sr ?_
  refine o_w (v:=.agg (cEnt zeroE none 0 none 0).toArray) (r_build bld_api_Entry (vs:=[]) (cells:=cEnt zeroE none 0 none 0) rfl rfl) ?_
  refine o_store rfl B211 (vs:=cEnt zeroE none 0 none 0) rfl sz_api_Entry rfl rfl rfl ?_
  intro w12 F12 B212
  refine o_store rfl (B311.fr F12 (by simpa using n23.symm)) (vs:=[.int .i64 2]) rfl sz_api_Errno rfl rfl rfl ?_
  intro w13 F13 B313
  refine eo_nil_sq ?_
  refine ec_ret ?_
  refine sq_ret ?_
  have hg:getE s=(zeroE,2):=by simp only [getE,hd,Bool.true_or,cond_true]
  rw [hg]
  exact get_end rfl rfl (B212.fr F13 (by simpa using n23)) B313 rfl (Ext.st (Ext.st E11 F12 (by simp; omega)) F13 (by simp; omega)) (kEnt_mk (d:=zeroE) stb_nil stb_nil)
 ·have hd':((putE (readE s)).2 != 0)=false:=by simpa using hd
  refine o_v (v:=str (putE (readE s)).1) (r_mov rfl) (want_t (t:=31) rfl rfl hd') rfl rfl ?_
  refine o_v (v:=str s) (r_mov rfl) (want_t (t:=31) rfl rfl hd') rfl rfl ?_
  refine o_v (v:=.bool (!((putE (readE s)).1==s))) (r_str rfl rfl rfl) (want_t (t:=31) rfl rfl hd') rfl rfl ?_
  refine o_w (v:=.bool (!((putE (readE s)).1==s))) (r_pickF rfl hd' rfl) ?_
  refine eo_nil_sq ?_
  refine ec_cond rfl (fun h2=>?_) (fun h2=>?_)
  ·refine ec_seq ?_
   refine ec_region ?_
   refine o_w (v:=.agg (cEnt zeroE none 0 none 0).toArray) (r_build bld_api_Entry (vs:=[]) (cells:=cEnt zeroE none 0 none 0) rfl rfl) ?_
   refine o_store rfl B211 (vs:=cEnt zeroE none 0 none 0) rfl sz_api_Entry rfl rfl rfl ?_
   intro w12 F12 B212
   refine o_store rfl (B311.fr F12 (by simpa using n23.symm)) (vs:=[.int .i64 2]) rfl sz_api_Errno rfl rfl rfl ?_
   intro w13 F13 B313
   refine eo_nil_sq ?_
   refine ec_ret ?_
   refine sq_ret ?_
   have hg:getE s=(zeroE,2):=by simp only [getE,hd',h2,Bool.false_or,cond_true]
   rw [hg]
   exact get_end rfl rfl (B212.fr F13 (by simpa using n23)) B313 rfl (Ext.st (Ext.st E11 F12 (by simp; omega)) F13 (by simp; omega)) (kEnt_mk (d:=zeroE) stb_nil stb_nil)
  ·refine ec_skip ?_
   refine sq_n ?_
   refine ec_sr ?_
   refine o_w (v:=.agg (cEnt (readE s) A1 c1 A2 c2).toArray) (r_lda agg_api_Entry rfl (vs:=cEnt (readE s) A1 c1 A2 c2) rfl (B611.part (o:=0) (n:=9) rfl)) ?_
   refine o_store rfl B211 (vs:=cEnt (readE s) A1 c1 A2 c2) rfl sz_api_Entry rfl rfl rfl ?_
   intro w12 F12 B212
   refine o_store rfl (B311.fr F12 (by simpa using n23.symm)) (vs:=[.int .i64 0]) rfl sz_api_Errno rfl rfl rfl ?_
   intro w13 F13 B313
   refine eo_nil_sq ?_
   refine ec_ret ?_
   have hg:getE s=(readE s,0):=by simp only [getE,hd',h2,Bool.false_or,cond_false]
   rw [hg]
   exact get_end rfl rfl (B212.fr F13 (by simpa using n23)) B313 rfl (Ext.st (Ext.st E11 F12 (by simp; omega)) F13 (by simp; omega))
    (kEnt_mk (d:=readE s) (((S11.fr F12 (by simp)).fr F13 (by simp)).weak hsub) (((S21.fr F12 (by simp)).fr F13 (by simp)).weak hsub))
section
variable {P : Program} {ρ : Env} {w : World} {d : Option Nat} {ty : TypeId} {pos : String} {after : Array Edge} {g : Option (Nat × Bool)}
end
def ref07_nums_b1 (d0:(List Int)) (s1:Str × Int) (z1:(Str × Int) ⊕ (Str × Int)):Prop :=
 ((decide (s1.2<(d0.length:Int)))=true→((0≤s1.2∧s1.2<(d0.length:Int))∧(∃ x8,ref07_num_raw (nth d0 s1.2) (2:Int) x8∧(s1.1.length + x8.length≤9223372036854775807∧(z1=.inl ((s1.1++x8),(IntKind.i64.wrap (s1.2 + (1:Int)))))))))∧((decide (s1.2<(d0.length:Int)))=false→(z1=.inr (s1.1,s1.2)))
def ref07_nums_raw (d0:(List Int)) (y:Str):Prop :=
 ∃ x1,LoopR (ref07_nums_b1 d0) (([]:Str),(0:Int)) x1∧(y=x1.1)
set_option maxRecDepth 20000 in
set_option maxHeartbeats 4000000 in
theorem ref07_nums_c {L:List Nat} {w:World} {AP0:Option Addr} {cP0:Nat} (d0:(List Int)) (HP0:Stb L w (fun w=>SlC (kI .i64) w AP0 cP0 d0)) (hL:Lt L w) {y:Str} (h:ref07_nums_raw d0 y) :
  Calls Tryz.prog 85 [.slice AP0 d0.length cP0].toArray w (Ret fun v w'=>Ext w w'∧v=str y):=by
 unfold ref07_nums_raw at h
 refine calls_ec Tryz.func85 rfl rfl rfl ?_
 refine ec_sr ?_
 refine o_w (v:=str []) (r_asg rfl) ?_
 refine eo_r ?_
 refine o_w (v:=str []) (r_asg rfl) ?_
 refine eo_nil_sq ?_
 refine ec_seq ?_
 refine ec_sr ?_
 refine o_w (v:=.int .i64 0) (r_asg rfl) ?_
 refine eo_nil_sq ?_
 refine ec_block ?_
 obtain ⟨x1,hl1,h⟩:=h
 refine ec_loopE 0 (I:=(fun (s1:Str × Int) ρ ds w'=>∃ (ρ':Env),ρ=envs ρ' [(3,str s1.1),(4,.int .i64 s1.2),(0,.slice AP0 d0.length cP0)]∧ds=[]∧Fr L w w'∧Ext w w')) ?_ hl1 ?_ ?_
 ·intro s1 z1 ρ1 ds1 w1r hI1 hb1
  obtain ⟨ρ1r,rfl,rfl,F1r,E1r⟩:=hI1
  have h:=hb1
  unfold ref07_nums_b1 at h
  have G2:Fr L w w1r:=(Fr.refl _ _).stp F1r (fun _ h=>.inl h)
  refine ec_seq ?_
  refine ec_sr ?_
  refine o_w (v:=.int .i64 s1.2) (r_mov rfl) ?_
  refine o_w (v:=.slice AP0 d0.length cP0) (r_mov rfl) ?_
  refine o_w (v:=.int .i64 (d0.length:Int)) (r_len_slc un_s_int rfl) ?_
  refine o_w (v:=.bool (decide (s1.2<(d0.length:Int)))) (r_int rfl rfl rfl) ?_
  refine eo_nil_sq ?_
  refine ec_cond rfl (fun hc3=>?_) (fun hc3=>?_)
  ·replace h:=h.1 hc3
   refine ec_skip ?_
   refine sq_n ?_
   refine ec_seq ?_
   refine ec_block ?_
   refine ec_region ?_
   refine o_w (v:=str s1.1) (r_mov rfl) ?_
   refine o_w (v:=.slice AP0 d0.length cP0) (r_mov rfl) ?_
   refine o_w (v:=.int .i64 s1.2) (r_mov rfl) ?_
   obtain ⟨ha4,h⟩:=h
   obtain ⟨cs5,l7,H6⟩:=Stb.elem (by decide) (HP0.fr G2 sI) s1.2 ha4.1 ha4.2
   obtain ⟨rfl,H6'⟩:=kI_open2 H6
   refine o_w (v:=.pointer (some (elemA AP0 (kI .i64).n s1.2.toNat))) (r_ia slc_s_int rfl rfl ((HP0.fr G2 sI).now.2 _ (lt_toNat ha4.1 ha4.2)).1 ha4.1 ha4.2) ?_
   refine o_w (v:=.int .i64 (nth d0 s1.2)) (r_ld' one_int rfl (elemA_spot _ _ _) (H6'.now.1.at0 (elemA_spot _ _ _))) ?_
   obtain ⟨x8,hx8,h⟩:=h
   refine o_call cf_ref07_num rfl (ref07_num_c (nth d0 s1.2) (2:Int) (hL.fr E1r) hx8) rfl rfl ?_
   rintro _ w8 ⟨F8,rfl⟩
   have E9:=E1r.trans F8
   obtain ⟨ha13,h⟩:=h
   refine o_w (v:=str (s1.1++x8)) (r_cat rfl rfl ha13) ?_
   refine o_w (v:=str (s1.1++x8)) (r_asg rfl) ?_
   refine eo_nil ?_
   refine blk_n ?_
   refine sq_n ?_
   refine ec_region ?_
   refine o_w (v:=.int .i64 s1.2) (r_mov rfl) ?_
   refine o_w (v:=.int .i64 (IntKind.i64.wrap (s1.2 + (1:Int)))) (r_int rfl rfl rfl) ?_
   refine o_w (v:=.int .i64 (IntKind.i64.wrap (s1.2 + (1:Int)))) (r_asg rfl) ?_
   refine eo_nil ?_
   subst h
   exact lq_n ⟨_,envs_self ⟨rfl,rfl,rfl,trivial⟩,rfl,(F1r.trans (Fr.ext F8)),E9⟩
  ·replace h:=h.2 hc3
   refine ec_exit ?_
   refine sq_exit ?_
   subst h
   exact lq_x ⟨_,envs_self ⟨rfl,rfl,rfl,trivial⟩,rfl,F1r,E1r⟩
 ·exact ⟨_,envs_self ⟨rfl,rfl,rfl,trivial⟩,rfl,(Fr.refl _ _),(Fr.refl _ _)⟩
 ·rintro ρ1e ds1e w1e ⟨ρ1e,rfl,rfl,F1e,E1e⟩
  refine blk_hit ?_
  refine sq_n ?_
  refine ec_sr ?_
  refine o_w (v:=str x1.1) (r_mov rfl) ?_
  refine o_w (v:=str x1.1) (r_asg rfl) ?_
  refine eo_nil_sq ?_
  refine ec_ret ?_
  subst h
  exact (end1 rfl ⟨_,rfl,E1e,rfl⟩)
def ref07_data_raw (d0:Val) (y:Str):Prop :=
 ((d0.kind==1)=true→(∃ x11,ref07_num_raw d0.time (4:Int) x11∧(∃ x12,ref07_num_raw d0.node (1:Int) x12∧(x11.length + x12.length≤9223372036854775807∧(∃ x14,ref07_bit_raw d0.dead x14∧(∃ x15,ref07_num_raw x14 (1:Int) x15∧((x11++x12).length + x15.length≤9223372036854775807∧(∃ x17,ref07_num_raw (d0.text.length:Int) (1:Int) x17∧(((x11++x12)++x15).length + x17.length≤9223372036854775807∧((((x11++x12)++x15)++x17).length + d0.text.length≤9223372036854775807∧(y=((((x11++x12)++x15)++x17)++d0.text))))))))))))∧((d0.kind==1)=false→(((d0.kind==2)=true→(∃ x55,ref07_nums_raw d0.plus x55∧(∃ x56,ref07_nums_raw d0.minus x56∧(x55.length + x56.length≤9223372036854775807∧(y=(x55++x56))))))∧((d0.kind==2)=false→(∃ x74,ref07_num_raw (IntKind.i64.wrap (Int.tmod d0.flags (4294967296:Int))) (4:Int) x74∧(∃ x75,ref07_num_raw (IntKind.i64.wrap (IntKind.u64.wrap (Int.tdiv d0.flags (4294967296:Int)))) (4:Int) x75∧(x74.length + x75.length≤9223372036854775807∧(y=(x74++x75))))))))
set_option maxRecDepth 20000 in
set_option maxHeartbeats 4000000 in
theorem ref07_data_c {L:List Nat} {w:World} {csP0:List Value} (d0:Val) (HP0:Stb L w (fun w=>kVal.r w csP0 d0)) (hL:Lt L w) {y:Str} (h:ref07_data_raw d0 y) :
  Calls Tryz.prog 66 [.agg csP0.toArray].toArray w (Ret fun v w'=>Ext w w'∧v=str y):=by
 obtain ⟨A1,c2,A4,c5,rfl,H3,H6⟩:=kVal_open HP0
 unfold ref07_data_raw at h
 refine calls_ec Tryz.func66 rfl rfl rfl ?_
 refine ec_sr ?_
 refine o_box (cs:=(cVal d0 A1 c2 A4 c5)) rfl rfl rfl ?_
 intro b7 w7 e7 F7 B7
 have S7:=B7.stb (nin hL e7)
 have G8:Fr L w w7:=Fr.ext F7
 refine o_w (v:=str []) (r_asg rfl) ?_
 refine eo_nil_sq ?_
 refine ec_seq ?_
 refine ec_sr ?_
 refine o_w (v:=.pointer (some ⟨b7,0,none⟩)) (r_fa fld_api_Value_0 rfl rfl) ?_
 refine o_w (v:=.int .i64 d0.kind) (r_ld one_int rfl (S7.now.cell rfl)) ?_
 refine o_w (v:=.bool (d0.kind==1)) (r_int rfl rfl rfl) ?_
 refine eo_nil_sq ?_
 refine ec_cond rfl (fun hc9=>?_) (fun hc9=>?_)
 ·replace h:=h.1 hc9
  refine ec_seq ?_
  obtain ⟨x11,hx11,h⟩:=h
  obtain ⟨x12,hx12,h⟩:=h
  obtain ⟨ha13,h⟩:=h
  obtain ⟨x14,hx14,h⟩:=h
  obtain ⟨x15,hx15,h⟩:=h
  obtain ⟨ha16,h⟩:=h
  obtain ⟨x17,hx17,h⟩:=h
  obtain ⟨ha18,h⟩:=h
  obtain ⟨ha19,h⟩:=h
  refine ec_any0 (by kernel_rfl) [[],[0],[0,1],[],[3],[0,1,2,3,4],[0,1,2,3,4,5],[],[7],[0,1,2,3,4,5,7,8],[0,1,2,3,4,5,7,8,9],[0,1,2,3,4,5,6,7,8,9,10],[],[12],[12,13],[0,1,2,3,4,5,7,8,9,10,12,13,14],[0,1,2,3,4,5,6,7,8,9,10,11,12,13,14,15],[],[17],[0,1,2,3,4,5,6,7,8,9,10,11,12,13,14,15,16,17,18],[0,1,2,3,4,5,6,7,8,9,10,11,12,13,14,15,16,17,18,19]] [2,6,7,8,9,10,11,12,13,14,15,16,17,18,19,20,21,22,23,24,25] [fun v _=>v=(.pointer (some ⟨b7,1,none⟩):Value),fun v _=>v=(.int .i64 d0.time:Value),fun v _=>v=(str x11:Value),fun v _=>v=(.pointer (some ⟨b7,2,none⟩):Value),fun v _=>v=(.int .i64 d0.node:Value),fun v _=>v=(str x12:Value),fun v _=>v=(str (x11++x12):Value),fun v _=>v=(.pointer (some ⟨b7,3,none⟩):Value),fun v _=>v=(.bool d0.dead:Value),fun v _=>v=(.int .i64 x14:Value),fun v _=>v=(str x15:Value),fun v _=>v=(str ((x11++x12)++x15):Value),fun v _=>v=(.pointer (some ⟨b7,4,none⟩):Value),fun v _=>v=(str d0.text:Value),fun v _=>v=(.int .i64 (d0.text.length:Int):Value),fun v _=>v=(str x17:Value),fun v _=>v=(str (((x11++x12)++x15)++x17):Value),fun v _=>v=(.pointer (some ⟨b7,4,none⟩):Value),fun v _=>v=(str d0.text:Value),fun v _=>v=(str ((((x11++x12)++x15)++x17)++d0.text):Value),fun v _=>v=(str ((((x11++x12)++x15)++x17)++d0.text):Value)] (by kernel_rfl) ⟨fun _ _ _ _ _ h=>h,fun _ _ _ _ _ h=>h,fun _ _ _ _ _ h=>h,fun _ _ _ _ _ h=>h,fun _ _ _ _ _ h=>h,fun _ _ _ _ _ h=>h,fun _ _ _ _ _ h=>h,fun _ _ _ _ _ h=>h,fun _ _ _ _ _ h=>h,fun _ _ _ _ _ h=>h,fun _ _ _ _ _ h=>h,fun _ _ _ _ _ h=>h,fun _ _ _ _ _ h=>h,fun _ _ _ _ _ h=>h,fun _ _ _ _ _ h=>h,fun _ _ _ _ _ h=>h,fun _ _ _ _ _ h=>h,fun _ _ _ _ _ h=>h,fun _ _ _ _ _ h=>h,fun _ _ _ _ _ h=>h,fun _ _ _ _ _ h=>h,trivial⟩ ?_ ?_
  ·refine ⟨?_,?_,?_,?_,?_,?_,?_,?_,?_,?_,?_,?_,?_,?_,?_,?_,?_,?_,?_,?_,?_,trivial⟩
   ·intro ρ w10o F10o hS hρ
    have q1:ρ 1=.pointer (some ⟨b7,0,none⟩):=hρ 1 (by kernel_rfl)
    exact o_q (r_fa fld_api_Value_1 rfl q1) ⟨Fr.refl _ _,rfl⟩
   ·intro ρ w10o F10o hS hρ
    have G22:Fr L w7 w10o:=Fr.ext F10o
    have q6:ρ 6=.pointer (some ⟨b7,1,none⟩):=hS 0 (by decide) 6 rfl
    exact o_q (r_ld one_int q6 ((S7.fr G22 sI).now.cell rfl)) ⟨Fr.refl _ _,rfl⟩
   ·intro ρ w10o F10o hS hρ
    have E23:=F7.trans F10o
    have q7:ρ 7=.int .i64 d0.time:=hS 1 (by decide) 7 rfl
    refine o_call cf_ref07_num (by simp only [List.map,ev,q7] <;> rfl) (ref07_num_c d0.time (4:Int) (hL.fr E23) hx11) rfl rfl ?_
    rintro _ w' ⟨F,rfl⟩
    exact eo_nil ⟨rfl,rfl,_,rfl,F,rfl⟩
   ·intro ρ w10o F10o hS hρ
    have q1:ρ 1=.pointer (some ⟨b7,0,none⟩):=hρ 1 (by kernel_rfl)
    exact o_q (r_fa fld_api_Value_2 rfl q1) ⟨Fr.refl _ _,rfl⟩
   ·intro ρ w10o F10o hS hρ
    have G28:Fr L w7 w10o:=Fr.ext F10o
    have q9:ρ 9=.pointer (some ⟨b7,2,none⟩):=hS 3 (by decide) 9 rfl
    exact o_q (r_ld one_int q9 ((S7.fr G28 sI).now.cell rfl)) ⟨Fr.refl _ _,rfl⟩
   ·intro ρ w10o F10o hS hρ
    have E29:=F7.trans F10o
    have q10:ρ 10=.int .i64 d0.node:=hS 4 (by decide) 10 rfl
    refine o_call cf_ref07_num (by simp only [List.map,ev,q10] <;> rfl) (ref07_num_c d0.node (1:Int) (hL.fr E29) hx12) rfl rfl ?_
    rintro _ w' ⟨F,rfl⟩
    exact eo_nil ⟨rfl,rfl,_,rfl,F,rfl⟩
   ·intro ρ w10o F10o hS hρ
    have q8:ρ 8=str x11:=hS 2 (by decide) 8 rfl
    have q11:ρ 11=str x12:=hS 5 (by decide) 11 rfl
    exact o_q (r_cat q8 q11 ha13) ⟨Fr.refl _ _,rfl⟩
   ·intro ρ w10o F10o hS hρ
    have q1:ρ 1=.pointer (some ⟨b7,0,none⟩):=hρ 1 (by kernel_rfl)
    exact o_q (r_fa fld_api_Value_3 rfl q1) ⟨Fr.refl _ _,rfl⟩
   ·intro ρ w10o F10o hS hρ
    have G34:Fr L w7 w10o:=Fr.ext F10o
    have q13:ρ 13=.pointer (some ⟨b7,3,none⟩):=hS 7 (by decide) 13 rfl
    exact o_q (r_ld one_bool q13 ((S7.fr G34 sI).now.cell rfl)) ⟨Fr.refl _ _,rfl⟩
   ·intro ρ w10o F10o hS hρ
    have E35:=F7.trans F10o
    have q14:ρ 14=.bool d0.dead:=hS 8 (by decide) 14 rfl
    refine o_call cf_ref07_bit (by simp only [List.map,ev,q14] <;> rfl) (ref07_bit_c d0.dead (hL.fr E35) hx14) rfl rfl ?_
    rintro _ w' ⟨F,rfl⟩
    exact eo_nil ⟨rfl,rfl,_,rfl,F,rfl⟩
   ·intro ρ w10o F10o hS hρ
    have E38:=F7.trans F10o
    have q15:ρ 15=.int .i64 x14:=hS 9 (by decide) 15 rfl
    refine o_call cf_ref07_num (by simp only [List.map,ev,q15] <;> rfl) (ref07_num_c x14 (1:Int) (hL.fr E38) hx15) rfl rfl ?_
    rintro _ w' ⟨F,rfl⟩
    exact eo_nil ⟨rfl,rfl,_,rfl,F,rfl⟩
   ·intro ρ w10o F10o hS hρ
    have q12:ρ 12=str (x11++x12):=hS 6 (by decide) 12 rfl
    have q16:ρ 16=str x15:=hS 10 (by decide) 16 rfl
    exact o_q (r_cat q12 q16 ha16) ⟨Fr.refl _ _,rfl⟩
   ·intro ρ w10o F10o hS hρ
    have q1:ρ 1=.pointer (some ⟨b7,0,none⟩):=hρ 1 (by kernel_rfl)
    exact o_q (r_fa fld_api_Value_4 rfl q1) ⟨Fr.refl _ _,rfl⟩
   ·intro ρ w10o F10o hS hρ
    have G43:Fr L w7 w10o:=Fr.ext F10o
    have q18:ρ 18=.pointer (some ⟨b7,4,none⟩):=hS 12 (by decide) 18 rfl
    exact o_q (r_ld one_string q18 ((S7.fr G43 sI).now.cell rfl)) ⟨Fr.refl _ _,rfl⟩
   ·intro ρ w10o F10o hS hρ
    have q19:ρ 19=str d0.text:=hS 13 (by decide) 19 rfl
    exact o_q (r_len_str un_string q19) ⟨Fr.refl _ _,rfl⟩
   ·intro ρ w10o F10o hS hρ
    have E44:=F7.trans F10o
    have q20:ρ 20=.int .i64 (d0.text.length:Int):=hS 14 (by decide) 20 rfl
    refine o_call cf_ref07_num (by simp only [List.map,ev,q20] <;> rfl) (ref07_num_c (d0.text.length:Int) (1:Int) (hL.fr E44) hx17) rfl rfl ?_
    rintro _ w' ⟨F,rfl⟩
    exact eo_nil ⟨rfl,rfl,_,rfl,F,rfl⟩
   ·intro ρ w10o F10o hS hρ
    have q17:ρ 17=str ((x11++x12)++x15):=hS 11 (by decide) 17 rfl
    have q21:ρ 21=str x17:=hS 15 (by decide) 21 rfl
    exact o_q (r_cat q17 q21 ha18) ⟨Fr.refl _ _,rfl⟩
   ·intro ρ w10o F10o hS hρ
    have q1:ρ 1=.pointer (some ⟨b7,0,none⟩):=hρ 1 (by kernel_rfl)
    exact o_q (r_fa fld_api_Value_4 rfl q1) ⟨Fr.refl _ _,rfl⟩
   ·intro ρ w10o F10o hS hρ
    have G49:Fr L w7 w10o:=Fr.ext F10o
    have q23:ρ 23=.pointer (some ⟨b7,4,none⟩):=hS 17 (by decide) 23 rfl
    exact o_q (r_ld one_string q23 ((S7.fr G49 sI).now.cell rfl)) ⟨Fr.refl _ _,rfl⟩
   ·intro ρ w10o F10o hS hρ
    have q22:ρ 22=str (((x11++x12)++x15)++x17):=hS 16 (by decide) 22 rfl
    have q24:ρ 24=str d0.text:=hS 18 (by decide) 24 rfl
    exact o_q (r_cat q22 q24 ha19) ⟨Fr.refl _ _,rfl⟩
   ·intro ρ w10o F10o hS hρ
    have q25:ρ 25=str ((((x11++x12)++x15)++x17)++d0.text):=hS 19 (by decide) 25 rfl
    exact o_q (r_asg q25) ⟨Fr.refl _ _,rfl⟩
  ·intro ρ w10 F10 hS hρ
   have q2:ρ 2=str ((((x11++x12)++x15)++x17)++d0.text):=hS 20 2 rfl
   obtain ⟨ρ',rfl⟩:∃ ρ',ρ=envs (ovr [2,6,7,8,9,10,11,12,13,14,15,16,17,18,19,20,21,22,23,24,25] ρ' _) [(2,str ((((x11++x12)++x15)++x17)++d0.text))]:=⟨ρ,ovr_self hρ ⟨q2,trivial⟩⟩
   have E50:=F7.trans F10
   refine sq_n ?_
   refine ec_ret ?_
   refine sq_ret ?_
   subst h
   exact (end1 rfl ⟨_,rfl,E50,rfl⟩)
 ·replace h:=h.2 hc9
  refine ec_skip ?_
  refine sq_n ?_
  refine ec_seq ?_
  refine ec_sr ?_
  refine o_w (v:=.pointer (some ⟨b7,0,none⟩)) (r_fa fld_api_Value_0 rfl rfl) ?_
  refine o_w (v:=.int .i64 d0.kind) (r_ld one_int rfl (S7.now.cell rfl)) ?_
  refine o_w (v:=.bool (d0.kind==2)) (r_int rfl rfl rfl) ?_
  refine eo_nil_sq ?_
  refine ec_cond rfl (fun hc53=>?_) (fun hc53=>?_)
  ·replace h:=h.1 hc53
   refine ec_seq ?_
   obtain ⟨x55,hx55,h⟩:=h
   obtain ⟨x56,hx56,h⟩:=h
   obtain ⟨ha57,h⟩:=h
   refine ec_any0 (by kernel_rfl) [[],[0],[0,1],[],[3],[0,1,2,3,4],[0,1,2,3,4,5],[0,1,2,3,4,5,6]] [2,29,30,31,32,33,34,35] [fun v _=>v=(.pointer (some ⟨b7,5,none⟩):Value),fun v _=>v=(.slice A1 d0.plus.length c2:Value),fun v _=>v=(str x55:Value),fun v _=>v=(.pointer (some ⟨b7,6,none⟩):Value),fun v _=>v=(.slice A4 d0.minus.length c5:Value),fun v _=>v=(str x56:Value),fun v _=>v=(str (x55++x56):Value),fun v _=>v=(str (x55++x56):Value)] (by kernel_rfl) ⟨fun _ _ _ _ _ h=>h,fun _ _ _ _ _ h=>h,fun _ _ _ _ _ h=>h,fun _ _ _ _ _ h=>h,fun _ _ _ _ _ h=>h,fun _ _ _ _ _ h=>h,fun _ _ _ _ _ h=>h,fun _ _ _ _ _ h=>h,trivial⟩ ?_ ?_
   ·refine ⟨?_,?_,?_,?_,?_,?_,?_,?_,trivial⟩
    ·intro ρ w54o F54o hS hρ
     have q1:ρ 1=.pointer (some ⟨b7,0,none⟩):=hρ 1 (by kernel_rfl)
     exact o_q (r_fa fld_api_Value_5 rfl q1) ⟨Fr.refl _ _,rfl⟩
    ·intro ρ w54o F54o hS hρ
     have G60:Fr L w7 w54o:=Fr.ext F54o
     have q29:ρ 29=.pointer (some ⟨b7,5,none⟩):=hS 0 (by decide) 29 rfl
     exact o_q (r_ld one_s_int q29 ((S7.fr G60 sI).now.cell rfl)) ⟨Fr.refl _ _,rfl⟩
    ·intro ρ w54o F54o hS hρ
     have E61:=F7.trans F54o
     have q30:ρ 30=.slice A1 d0.plus.length c2:=hS 1 (by decide) 30 rfl
     refine o_call cf_ref07_nums (by simp only [List.map,ev,q30] <;> rfl) (ref07_nums_c d0.plus (H3.fr (G8.trans (Fr.ext F54o)) sI) (hL.fr E61) hx55) rfl rfl ?_
     rintro _ w' ⟨F,rfl⟩
     exact eo_nil ⟨rfl,rfl,_,rfl,F,rfl⟩
    ·intro ρ w54o F54o hS hρ
     have q1:ρ 1=.pointer (some ⟨b7,0,none⟩):=hρ 1 (by kernel_rfl)
     exact o_q (r_fa fld_api_Value_6 rfl q1) ⟨Fr.refl _ _,rfl⟩
    ·intro ρ w54o F54o hS hρ
     have G66:Fr L w7 w54o:=Fr.ext F54o
     have q32:ρ 32=.pointer (some ⟨b7,6,none⟩):=hS 3 (by decide) 32 rfl
     exact o_q (r_ld one_s_int q32 ((S7.fr G66 sI).now.cell rfl)) ⟨Fr.refl _ _,rfl⟩
    ·intro ρ w54o F54o hS hρ
     have E67:=F7.trans F54o
     have q33:ρ 33=.slice A4 d0.minus.length c5:=hS 4 (by decide) 33 rfl
     refine o_call cf_ref07_nums (by simp only [List.map,ev,q33] <;> rfl) (ref07_nums_c d0.minus (H6.fr (G8.trans (Fr.ext F54o)) sI) (hL.fr E67) hx56) rfl rfl ?_
     rintro _ w' ⟨F,rfl⟩
     exact eo_nil ⟨rfl,rfl,_,rfl,F,rfl⟩
    ·intro ρ w54o F54o hS hρ
     have q31:ρ 31=str x55:=hS 2 (by decide) 31 rfl
     have q34:ρ 34=str x56:=hS 5 (by decide) 34 rfl
     exact o_q (r_cat q31 q34 ha57) ⟨Fr.refl _ _,rfl⟩
    ·intro ρ w54o F54o hS hρ
     have q35:ρ 35=str (x55++x56):=hS 6 (by decide) 35 rfl
     exact o_q (r_asg q35) ⟨Fr.refl _ _,rfl⟩
   ·intro ρ w54 F54 hS hρ
    have q2:ρ 2=str (x55++x56):=hS 7 2 rfl
    obtain ⟨ρ',rfl⟩:∃ ρ',ρ=envs (ovr [2,29,30,31,32,33,34,35] ρ' _) [(2,str (x55++x56))]:=⟨ρ,ovr_self hρ ⟨q2,trivial⟩⟩
    have E70:=F7.trans F54
    refine sq_n ?_
    refine ec_ret ?_
    refine sq_ret ?_
    subst h
    exact (end1 rfl ⟨_,rfl,E70,rfl⟩)
  ·replace h:=h.2 hc53
   refine ec_skip ?_
   refine sq_n ?_
   refine ec_seq ?_
   obtain ⟨x74,hx74,h⟩:=h
   obtain ⟨x75,hx75,h⟩:=h
   obtain ⟨ha76,h⟩:=h
   refine ec_any0 (by kernel_rfl) [[],[0],[0,1],[0,1,2],[0,1,2,3],[],[5],[5,6],[5,6,7],[0,1,2,3,4,5,6,7,8],[0,1,2,3,4,5,6,7,8,9],[0,1,2,3,4,5,6,7,8,9,10]] [2,36,37,38,39,40,41,42,43,44,45,46] [fun v _=>v=(.pointer (some ⟨b7,7,none⟩):Value),fun v _=>v=(.int .u64 d0.flags:Value),fun v _=>v=(.int .u64 (Int.tmod d0.flags (4294967296:Int)):Value),fun v _=>v=(.int .i64 (IntKind.i64.wrap (Int.tmod d0.flags (4294967296:Int))):Value),fun v _=>v=(str x74:Value),fun v _=>v=(.pointer (some ⟨b7,7,none⟩):Value),fun v _=>v=(.int .u64 d0.flags:Value),fun v _=>v=(.int .u64 (IntKind.u64.wrap (Int.tdiv d0.flags (4294967296:Int))):Value),fun v _=>v=(.int .i64 (IntKind.i64.wrap (IntKind.u64.wrap (Int.tdiv d0.flags (4294967296:Int)))):Value),fun v _=>v=(str x75:Value),fun v _=>v=(str (x74++x75):Value),fun v _=>v=(str (x74++x75):Value)] (by kernel_rfl) ⟨fun _ _ _ _ _ h=>h,fun _ _ _ _ _ h=>h,fun _ _ _ _ _ h=>h,fun _ _ _ _ _ h=>h,fun _ _ _ _ _ h=>h,fun _ _ _ _ _ h=>h,fun _ _ _ _ _ h=>h,fun _ _ _ _ _ h=>h,fun _ _ _ _ _ h=>h,fun _ _ _ _ _ h=>h,fun _ _ _ _ _ h=>h,fun _ _ _ _ _ h=>h,trivial⟩ ?_ ?_
   ·refine ⟨?_,?_,?_,?_,?_,?_,?_,?_,?_,?_,?_,?_,trivial⟩
    ·intro ρ w73o F73o hS hρ
     have q1:ρ 1=.pointer (some ⟨b7,0,none⟩):=hρ 1 (by kernel_rfl)
     exact o_q (r_fa fld_api_Value_7 rfl q1) ⟨Fr.refl _ _,rfl⟩
    ·intro ρ w73o F73o hS hρ
     have G79:Fr L w7 w73o:=Fr.ext F73o
     have q36:ρ 36=.pointer (some ⟨b7,7,none⟩):=hS 0 (by decide) 36 rfl
     exact o_q (r_ld one_uint64 q36 ((S7.fr G79 sI).now.cell rfl)) ⟨Fr.refl _ _,rfl⟩
    ·intro ρ w73o F73o hS hρ
     have q37:ρ 37=.int .u64 d0.flags:=hS 1 (by decide) 37 rfl
     exact o_q (r_rem q37 rfl rfl) ⟨Fr.refl _ _,rfl⟩
    ·intro ρ w73o F73o hS hρ
     have q38:ρ 38=.int .u64 (Int.tmod d0.flags (4294967296:Int)):=hS 2 (by decide) 38 rfl
     exact o_q (r_conv un_uint64 un_int q38) ⟨Fr.refl _ _,rfl⟩
    ·intro ρ w73o F73o hS hρ
     have E80:=F7.trans F73o
     have q39:ρ 39=.int .i64 (IntKind.i64.wrap (Int.tmod d0.flags (4294967296:Int))):=hS 3 (by decide) 39 rfl
     refine o_call cf_ref07_num (by simp only [List.map,ev,q39] <;> rfl) (ref07_num_c (IntKind.i64.wrap (Int.tmod d0.flags (4294967296:Int))) (4:Int) (hL.fr E80) hx74) rfl rfl ?_
     rintro _ w' ⟨F,rfl⟩
     exact eo_nil ⟨rfl,rfl,_,rfl,F,rfl⟩
    ·intro ρ w73o F73o hS hρ
     have q1:ρ 1=.pointer (some ⟨b7,0,none⟩):=hρ 1 (by kernel_rfl)
     exact o_q (r_fa fld_api_Value_7 rfl q1) ⟨Fr.refl _ _,rfl⟩
    ·intro ρ w73o F73o hS hρ
     have G85:Fr L w7 w73o:=Fr.ext F73o
     have q41:ρ 41=.pointer (some ⟨b7,7,none⟩):=hS 5 (by decide) 41 rfl
     exact o_q (r_ld one_uint64 q41 ((S7.fr G85 sI).now.cell rfl)) ⟨Fr.refl _ _,rfl⟩
    ·intro ρ w73o F73o hS hρ
     have q42:ρ 42=.int .u64 d0.flags:=hS 6 (by decide) 42 rfl
     exact o_q (r_quo q42 rfl rfl) ⟨Fr.refl _ _,rfl⟩
    ·intro ρ w73o F73o hS hρ
     have q43:ρ 43=.int .u64 (IntKind.u64.wrap (Int.tdiv d0.flags (4294967296:Int))):=hS 7 (by decide) 43 rfl
     exact o_q (r_conv un_uint64 un_int q43) ⟨Fr.refl _ _,rfl⟩
    ·intro ρ w73o F73o hS hρ
     have E86:=F7.trans F73o
     have q44:ρ 44=.int .i64 (IntKind.i64.wrap (IntKind.u64.wrap (Int.tdiv d0.flags (4294967296:Int)))):=hS 8 (by decide) 44 rfl
     refine o_call cf_ref07_num (by simp only [List.map,ev,q44] <;> rfl) (ref07_num_c (IntKind.i64.wrap (IntKind.u64.wrap (Int.tdiv d0.flags (4294967296:Int)))) (4:Int) (hL.fr E86) hx75) rfl rfl ?_
     rintro _ w' ⟨F,rfl⟩
     exact eo_nil ⟨rfl,rfl,_,rfl,F,rfl⟩
    ·intro ρ w73o F73o hS hρ
     have q40:ρ 40=str x74:=hS 4 (by decide) 40 rfl
     have q45:ρ 45=str x75:=hS 9 (by decide) 45 rfl
     exact o_q (r_cat q40 q45 ha76) ⟨Fr.refl _ _,rfl⟩
    ·intro ρ w73o F73o hS hρ
     have q46:ρ 46=str (x74++x75):=hS 10 (by decide) 46 rfl
     exact o_q (r_asg q46) ⟨Fr.refl _ _,rfl⟩
   ·intro ρ w73 F73 hS hρ
    have q2:ρ 2=str (x74++x75):=hS 11 2 rfl
    obtain ⟨ρ',rfl⟩:∃ ρ',ρ=envs (ovr [2,36,37,38,39,40,41,42,43,44,45,46] ρ' _) [(2,str (x74++x75))]:=⟨ρ,ovr_self hρ ⟨q2,trivial⟩⟩
    have E89:=F7.trans F73
    refine sq_n ?_
    refine ec_ret ?_
    subst h
    exact (end1 rfl ⟨_,rfl,E89,rfl⟩)
def ref07_Put_raw (d0:Ent) (y:Str × Int):Prop :=
 (sm d0.val)∧(((!(okE d0))=true→(y=(([]:Str),(2:Int))))∧((!(okE d0))=false→(∃ x16,ref07_num_raw d0.val.kind (1:Int) x16∧(∃ x17,ref07_num_raw (d0.key.length:Int) (1:Int) x17∧(x16.length + x17.length≤9223372036854775807∧(∃ x19,ref07_pad_raw d0.key (8:Int) x19∧((x16++x17).length + x19.length≤9223372036854775807∧(∃ x21,ref07_data_raw d0.val x21∧(∃ x22,ref07_pad_raw x21 (32:Int) x22∧(((x16++x17)++x19).length + x22.length≤9223372036854775807∧(y=((((x16++x17)++x19)++x22),(0:Int)))))))))))))
set_option maxRecDepth 20000 in
set_option maxHeartbeats 4000000 in
theorem ref07_Put_c {L:List Nat} {w:World} {csP0:List Value} (d0:Ent) (HP0:Stb L w (fun w=>kEnt.r w csP0 d0)) (hL:Lt L w) {y:Str × Int} (h:ref07_Put_raw d0 y) :
  Calls Tryz.prog 29 [.agg csP0.toArray].toArray w (Ret fun v w'=>Ext w w'∧v=.tuple #[str y.1,.int .i64 y.2]):=by
 obtain ⟨A1,c2,A4,c5,rfl,H3,H6⟩:=kEnt_open HP0
 unfold ref07_Put_raw at h
 refine calls_ec Tryz.func29 rfl rfl rfl ?_
 refine ec_sr ?_
 refine o_box (cs:=(cEnt d0 A1 c2 A4 c5)) rfl rfl rfl ?_
 intro b7 w7 e7 F7 B7
 have S7:=B7.stb (nin hL e7)
 have G8:Fr L w w7:=Fr.ext F7
 refine o_w (v:=str []) (r_asg rfl) ?_
 refine o_w (v:=.int .i64 0) (r_asg rfl) ?_
 refine eo_nil_sq ?_
 refine ec_seq ?_
 refine ec_sr ?_
 refine o_w (v:=.agg (cEnt d0 A1 c2 A4 c5).toArray) (r_lda agg_api_Entry rfl (vs:=(cEnt d0 A1 c2 A4 c5)) rfl (S7.now.part (n:=9) rfl)) ?_
 obtain ⟨ha10,h⟩:=h
 refine o_call cf_ref07_Check rfl (ref07_Check_c d0 (kEnt_mk (d:=d0) (H3.fr G8 sI) (H6.fr G8 sI)) (hL.fr F7) (refCheckE_ev d0 ha10)) rfl rfl ?_
 rintro _ w9 ⟨F9,rfl⟩
 have E11:=F7.trans F9
 have G13:Fr L w7 w9:=Fr.ext F9
 refine o_w (v:=.bool (!(okE d0))) (r_not rfl) ?_
 refine eo_nil_sq ?_
 refine ec_cond rfl (fun hc14=>?_) (fun hc14=>?_)
 ·replace h:=h.1 hc14
  refine ec_sr ?_
  refine o_w (v:=str []) (r_asg rfl) ?_
  refine o_w (v:=.int .i64 2) (r_asg rfl) ?_
  refine eo_nil_sq ?_
  refine ec_ret ?_
  refine sq_ret ?_
  subst h
  exact (end2 rfl rfl ⟨_,rfl,E11,rfl⟩)
 ·replace h:=h.2 hc14
  refine ec_skip ?_
  refine sq_n ?_
  refine ec_seq ?_
  obtain ⟨x16,hx16,h⟩:=h
  obtain ⟨x17,hx17,h⟩:=h
  obtain ⟨ha18,h⟩:=h
  obtain ⟨x19,hx19,h⟩:=h
  obtain ⟨ha20,h⟩:=h
  obtain ⟨x21,hx21,h⟩:=h
  obtain ⟨x22,hx22,h⟩:=h
  obtain ⟨ha23,h⟩:=h
  refine ec_any0 (by kernel_rfl) [[],[0],[0,1],[0,1,2],[],[4],[4,5],[0,1,2,3,4,5,6],[0,1,2,3,4,5,6,7],[],[9],[0,1,2,3,4,5,6,7,9,10],[0,1,2,3,4,5,6,7,8,9,10,11],[],[13],[0,1,2,3,4,5,6,7,9,10,11,13,14],[0,1,2,3,4,5,6,7,9,10,11,13,14,15],[0,1,2,3,4,5,6,7,8,9,10,11,12,13,14,15,16],[0,1,2,3,4,5,6,7,8,9,10,11,12,13,14,15,16,17],[0,1,2,3,4,5,6,7,8,9,10,11,12,13,14,15,16,17,18]] [2,3,7,8,9,10,11,12,13,14,15,16,17,18,19,20,21,22,23,24] [fun v _=>v=(.pointer (some ⟨b7,1,none⟩):Value),fun v _=>v=(.pointer (some ⟨b7,1,none⟩):Value),fun v _=>v=(.int .i64 d0.val.kind:Value),fun v _=>v=(str x16:Value),fun v _=>v=(.pointer (some ⟨b7,0,none⟩):Value),fun v _=>v=(str d0.key:Value),fun v _=>v=(.int .i64 (d0.key.length:Int):Value),fun v _=>v=(str x17:Value),fun v _=>v=(str (x16++x17):Value),fun v _=>v=(.pointer (some ⟨b7,0,none⟩):Value),fun v _=>v=(str d0.key:Value),fun v _=>v=(str x19:Value),fun v _=>v=(str ((x16++x17)++x19):Value),fun v _=>v=(.pointer (some ⟨b7,1,none⟩):Value),fun v _=>v=(.agg (cVal d0.val A1 c2 A4 c5).toArray:Value),fun v _=>v=(str x21:Value),fun v _=>v=(str x22:Value),fun v _=>v=(str (((x16++x17)++x19)++x22):Value),fun v _=>v=(str (((x16++x17)++x19)++x22):Value),fun v _=>v=(.int .i64 0:Value)] (by kernel_rfl) ⟨fun _ _ _ _ _ h=>h,fun _ _ _ _ _ h=>h,fun _ _ _ _ _ h=>h,fun _ _ _ _ _ h=>h,fun _ _ _ _ _ h=>h,fun _ _ _ _ _ h=>h,fun _ _ _ _ _ h=>h,fun _ _ _ _ _ h=>h,fun _ _ _ _ _ h=>h,fun _ _ _ _ _ h=>h,fun _ _ _ _ _ h=>h,fun _ _ _ _ _ h=>h,fun _ _ _ _ _ h=>h,fun _ _ _ _ _ h=>h,fun _ _ _ _ _ h=>h,fun _ _ _ _ _ h=>h,fun _ _ _ _ _ h=>h,fun _ _ _ _ _ h=>h,fun _ _ _ _ _ h=>h,fun _ _ _ _ _ h=>h,trivial⟩ ?_ ?_
  ·refine ⟨?_,?_,?_,?_,?_,?_,?_,?_,?_,?_,?_,?_,?_,?_,?_,?_,?_,?_,?_,?_,trivial⟩
   ·intro ρ w15o F15o hS hρ
    have q1:ρ 1=.pointer (some ⟨b7,0,none⟩):=hρ 1 (by kernel_rfl)
    exact o_q (r_fa fld_api_Entry_1 rfl q1) ⟨Fr.refl _ _,rfl⟩
   ·intro ρ w15o F15o hS hρ
    have q7:ρ 7=.pointer (some ⟨b7,1,none⟩):=hS 0 (by decide) 7 rfl
    exact o_q (r_fa fld_api_Value_0 rfl q7) ⟨Fr.refl _ _,rfl⟩
   ·intro ρ w15o F15o hS hρ
    have q8:ρ 8=.pointer (some ⟨b7,1,none⟩):=hS 1 (by decide) 8 rfl
    exact o_q (r_ld one_int q8 ((S7.fr (G13.trans (Fr.ext F15o)) sI).now.cell rfl)) ⟨Fr.refl _ _,rfl⟩
   ·intro ρ w15o F15o hS hρ
    have E27:=E11.trans F15o
    have q9:ρ 9=.int .i64 d0.val.kind:=hS 2 (by decide) 9 rfl
    refine o_call cf_ref07_num (by simp only [List.map,ev,q9] <;> rfl) (ref07_num_c d0.val.kind (1:Int) (hL.fr E27) hx16) rfl rfl ?_
    rintro _ w' ⟨F,rfl⟩
    exact eo_nil ⟨rfl,rfl,_,rfl,F,rfl⟩
   ·intro ρ w15o F15o hS hρ
    have q1:ρ 1=.pointer (some ⟨b7,0,none⟩):=hρ 1 (by kernel_rfl)
    exact o_q (r_fa fld_api_Entry_0 rfl q1) ⟨Fr.refl _ _,rfl⟩
   ·intro ρ w15o F15o hS hρ
    have q11:ρ 11=.pointer (some ⟨b7,0,none⟩):=hS 4 (by decide) 11 rfl
    exact o_q (r_ld one_string q11 ((S7.fr (G13.trans (Fr.ext F15o)) sI).now.cell rfl)) ⟨Fr.refl _ _,rfl⟩
   ·intro ρ w15o F15o hS hρ
    have q12:ρ 12=str d0.key:=hS 5 (by decide) 12 rfl
    exact o_q (r_len_str un_string q12) ⟨Fr.refl _ _,rfl⟩
   ·intro ρ w15o F15o hS hρ
    have E33:=E11.trans F15o
    have q13:ρ 13=.int .i64 (d0.key.length:Int):=hS 6 (by decide) 13 rfl
    refine o_call cf_ref07_num (by simp only [List.map,ev,q13] <;> rfl) (ref07_num_c (d0.key.length:Int) (1:Int) (hL.fr E33) hx17) rfl rfl ?_
    rintro _ w' ⟨F,rfl⟩
    exact eo_nil ⟨rfl,rfl,_,rfl,F,rfl⟩
   ·intro ρ w15o F15o hS hρ
    have q10:ρ 10=str x16:=hS 3 (by decide) 10 rfl
    have q14:ρ 14=str x17:=hS 7 (by decide) 14 rfl
    exact o_q (r_cat q10 q14 ha18) ⟨Fr.refl _ _,rfl⟩
   ·intro ρ w15o F15o hS hρ
    have q1:ρ 1=.pointer (some ⟨b7,0,none⟩):=hρ 1 (by kernel_rfl)
    exact o_q (r_fa fld_api_Entry_0 rfl q1) ⟨Fr.refl _ _,rfl⟩
   ·intro ρ w15o F15o hS hρ
    have q16:ρ 16=.pointer (some ⟨b7,0,none⟩):=hS 9 (by decide) 16 rfl
    exact o_q (r_ld one_string q16 ((S7.fr (G13.trans (Fr.ext F15o)) sI).now.cell rfl)) ⟨Fr.refl _ _,rfl⟩
   ·intro ρ w15o F15o hS hρ
    have E39:=E11.trans F15o
    have q17:ρ 17=str d0.key:=hS 10 (by decide) 17 rfl
    refine o_call cf_ref07_pad (by simp only [List.map,ev,q17] <;> rfl) (ref07_pad_c d0.key (8:Int) (hL.fr E39) hx19) rfl rfl ?_
    rintro _ w' ⟨F,rfl⟩
    exact eo_nil ⟨rfl,rfl,_,rfl,F,rfl⟩
   ·intro ρ w15o F15o hS hρ
    have q15:ρ 15=str (x16++x17):=hS 8 (by decide) 15 rfl
    have q18:ρ 18=str x19:=hS 11 (by decide) 18 rfl
    exact o_q (r_cat q15 q18 ha20) ⟨Fr.refl _ _,rfl⟩
   ·intro ρ w15o F15o hS hρ
    have q1:ρ 1=.pointer (some ⟨b7,0,none⟩):=hρ 1 (by kernel_rfl)
    exact o_q (r_fa fld_api_Entry_1 rfl q1) ⟨Fr.refl _ _,rfl⟩
   ·intro ρ w15o F15o hS hρ
    have q20:ρ 20=.pointer (some ⟨b7,1,none⟩):=hS 13 (by decide) 20 rfl
    exact o_q (r_lda agg_api_Value q20 (vs:=(cVal d0.val A1 c2 A4 c5)) rfl ((S7.fr (G13.trans (Fr.ext F15o)) sI).now.part (n:=8) rfl)) ⟨Fr.refl _ _,rfl⟩
   ·intro ρ w15o F15o hS hρ
    have E45:=E11.trans F15o
    have q21:ρ 21=.agg (cVal d0.val A1 c2 A4 c5).toArray:=hS 14 (by decide) 21 rfl
    refine o_call cf_ref07_data (by simp only [List.map,ev,q21] <;> rfl) (ref07_data_c d0.val (kVal_mk (d:=d0.val) (H3.fr ((G8.trans (Fr.ext F9)).trans (Fr.ext F15o)) sI) (H6.fr ((G8.trans (Fr.ext F9)).trans (Fr.ext F15o)) sI)) (hL.fr E45) hx21) rfl rfl ?_
    rintro _ w' ⟨F,rfl⟩
    exact eo_nil ⟨rfl,rfl,_,rfl,F,rfl⟩
   ·intro ρ w15o F15o hS hρ
    have E48:=E11.trans F15o
    have q22:ρ 22=str x21:=hS 15 (by decide) 22 rfl
    refine o_call cf_ref07_pad (by simp only [List.map,ev,q22] <;> rfl) (ref07_pad_c x21 (32:Int) (hL.fr E48) hx22) rfl rfl ?_
    rintro _ w' ⟨F,rfl⟩
    exact eo_nil ⟨rfl,rfl,_,rfl,F,rfl⟩
   ·intro ρ w15o F15o hS hρ
    have q19:ρ 19=str ((x16++x17)++x19):=hS 12 (by decide) 19 rfl
    have q23:ρ 23=str x22:=hS 16 (by decide) 23 rfl
    exact o_q (r_cat q19 q23 ha23) ⟨Fr.refl _ _,rfl⟩
   ·intro ρ w15o F15o hS hρ
    have q24:ρ 24=str (((x16++x17)++x19)++x22):=hS 17 (by decide) 24 rfl
    exact o_q (r_asg q24) ⟨Fr.refl _ _,rfl⟩
   ·intro ρ w15o F15o hS hρ
    exact o_q (r_asg rfl) ⟨Fr.refl _ _,rfl⟩
  ·intro ρ w15 F15 hS hρ
   have q2:ρ 2=str (((x16++x17)++x19)++x22):=hS 18 2 rfl
   have q3:ρ 3=.int .i64 0:=hS 19 3 rfl
   obtain ⟨ρ',rfl⟩:∃ ρ',ρ=envs (ovr [2,3,7,8,9,10,11,12,13,14,15,16,17,18,19,20,21,22,23,24] ρ' _) [(2,str (((x16++x17)++x19)++x22)),(3,.int .i64 0)]:=⟨ρ,ovr_self hρ ⟨q2,q3,trivial⟩⟩
   have E51:=E11.trans F15
   refine sq_n ?_
   refine ec_ret ?_
   subst h
   exact (end2 rfl rfl ⟨_,rfl,E51,rfl⟩)
end Go.Proofs.YtdfjbkoimpjkaaaGreat
namespace Go.Proofs.YtdfjbkoimpjkaaaGreat
open Go Go.RowKit
set_option linter.unusedVariables false

instance (s:Str):Decidable (okG s):=by unfold okG; infer_instance
instance (v:Val):Decidable (sm v):=by unfold sm; infer_instance
end Go.Proofs.YtdfjbkoimpjkaaaGreat
namespace Go.Proofs.YtdfjbkoimpjkaaaGreat
open Go Go.RowKit
set_option linter.unusedVariables false
set_option linter.unusedSimpArgs false

theorem zeros_add {a b:Int} (ha:0≤a) (hb:0≤b):zeros a++zeros b=zeros (a + b):=by
 have e:(a + b).toNat=a.toNat + b.toNat:=by omega
 simp [zeros,bstr,e]
theorem inI_wrap (n:Int):inI (IntKind.i64.wrap n):=by
 unfold inI
 constructor
 ·simp [IntKind.wrap,IntKind.bits,IntKind.signed]; omega
 ·simp [IntKind.wrap,IntKind.bits,IntKind.signed]; omega
theorem bit7 (b:Bool):ref07_bit_raw b (bif b then 1 else 0):=by
 cases b
 ·exact ⟨fun h=>(by cases h),fun _=>rfl⟩
 ·exact ⟨fun _=>rfl,fun h=>(by cases h)⟩
theorem num7 {n w:Int} (h:n≤9223372036854775807):ref07_num_raw n w (putO n w).1:=⟨h,_,rfl,rfl⟩
theorem pad7 (s:Str) (w:Int) (h:(s.length:Int)≤w) (hw:w≤1000):ref07_pad_raw s w (s++zeros (w - (s.length:Int))):=by
 have e:IntKind.i64.wrap (w - (s.length:Int))=w - (s.length:Int):=wrap64 (by omega) (by omega)
 unfold ref07_pad_raw; rw [e]
 refine ⟨⟨by omega,by omega,by omega⟩,?_,rfl⟩
 have:=zeros_len (w - (s.length:Int))
 unfold zeros at this; omega
theorem nums7 (xs:List Int) (hx:∀ x∈xs,x≤9223372036854775807) (hl:xs.length≤8):ref07_nums_raw xs (numsT xs):=by
 obtain ⟨x,h1,h2⟩:=loop_run (body:=ref07_nums_b1 xs) (fun s=>xs.length - s.2.toNat) (fun s=>∃ i:Nat,i≤xs.length∧s=(numsT (xs.take i),(i:Int))) (fun x=>x.1=numsT xs) (fun s hs=>by
  obtain ⟨i,hi,rfl⟩:=hs
  by_cases hlt:i<xs.length
  ·have hn:=numsT_len (xs.take i)
   have h3:=putO_len2 (xs.getD i default) 2 (by decide)
   have h4:(2:Int).toNat=2:=rfl
   have ht:(xs.take i).length=i:=by simp; omega
   have e2:numsT (xs.take (i + 1))=numsT (xs.take i)++(putO (xs.getD i default) 2).1:=by
    rw [List.take_add_one,show xs[i]?.toList=[xs.getD i default] by simp [hlt]]
    simp only [numsT,List.flatMap_append,List.flatMap_cons,List.flatMap_nil,List.append_nil]
   refine .inl ⟨(numsT (xs.take (i + 1)),((i + 1:Nat):Int)),⟨fun _=>⟨⟨by omega,by simpa using hlt⟩,(putO (xs.getD i default) 2).1,⟨?_,_,rfl,rfl⟩,?_,?_⟩,fun c=>?_⟩,⟨i + 1,hlt,rfl⟩,?_⟩
   ·exact hx _ (getD_mem hlt)
   ·show (numsT (xs.take i)).length + _≤_
    omega
   ·rw [e2,wrapS hlt (by omega)]
   ·simp at c; omega
   ·show xs.length - (((i + 1:Nat):Int)).toNat<xs.length - ((i:Int)).toNat
    omega
  ·obtain rfl:i=xs.length:=by omega
   exact .inr ⟨_,⟨fun c=>by simp at c,fun _=>rfl⟩,by simp⟩) (([]:Str),(0:Int)) ⟨0,by omega,by simp [numsT]⟩
 exact ⟨x,h1,h2.symm⟩
theorem lowF_eq {f:Int} (h:inU f):IntKind.i64.wrap (Int.tmod f (4294967296:Int))=lowF f:=by
 obtain ⟨n,rfl⟩:=Int.eq_ofNat_of_zero_le h.1
 have hn:n<2 ^ 64:=by have:=h.2; omega
 have e:(BitVec.ofInt IntKind.u64.bits (n:Int) &&& BitVec.ofInt IntKind.u64.bits (4294967295:Int)).toNat=n % 4294967296:=by
  rw [BitVec.toNat_and,BitVec.toNat_ofInt,BitVec.toNat_ofInt]
  have h64:IntKind.u64.bits=64:=rfl
  rw [h64]
  have e1:((n:Int) % ((2 ^ 64:Nat):Int)).toNat=n:=by omega
  have e2:((4294967295:Int) % ((2 ^ 64:Nat):Int)).toNat=2 ^ 32 - 1:=by decide
  rw [e1,e2,Nat.and_two_pow_sub_one_eq_mod]
 have e3:Int.tmod (n:Int) 4294967296=((n % 4294967296:Nat):Int):=by
  rw [Int.tmod_eq_emod_of_nonneg (by omega)]; omega
 unfold lowF
 rw [e,e3,show IntKind.u64.wrap ((n % 4294967296:Nat):Int)=((n % 4294967296:Nat):Int) from by
  show (((n % 4294967296:Nat):Int)) % 18446744073709551616=_
  omega]
theorem highF_eq {f:Int} (h:inU f):IntKind.i64.wrap (IntKind.u64.wrap (Int.tdiv f (4294967296:Int)))=highF f:=by
 obtain ⟨n,rfl⟩:=Int.eq_ofNat_of_zero_le h.1
 have hn:n<2 ^ 64:=by have:=h.2; omega
 have e3:Int.tdiv (n:Int) 4294967296=((n / 4294967296:Nat):Int):=by
  rw [Int.tdiv_eq_ediv_of_nonneg (by omega)]; omega
 have e4:Int.fdiv (n:Int) (2 ^ min ((32:Int)).toNat IntKind.u64.bits)=((n / 4294967296:Nat):Int):=by
  rw [show (2 ^ min ((32:Int)).toNat IntKind.u64.bits:Int)=4294967296 from by decide,Int.fdiv_eq_ediv_of_nonneg _ (by decide)]; omega
 unfold highF
 rw [e3,e4,show IntKind.u64.wrap ((n / 4294967296:Nat):Int)=((n / 4294967296:Nat):Int) from by
  show (((n / 4294967296:Nat):Int)) % 18446744073709551616=_
  omega]
theorem data7 (d:Val) (ho:okV d=true) (wf:WfV d):∃ x,ref07_data_raw d x∧x.length≤32∧x++zeros (32 - (x.length:Int))=valT d++zeros (32 - ((valT d).length:Int)):=by
 have w1:=wf.time.2
 have w2:=wf.node.2
 rcases okV_kind ho with hk | hk | hk
 ·have ht:=okV_text ho hk
  have a1:=putO_len2 d.time 4 (by decide)
  have a2:=putO_len2 d.node 1 (by decide)
  have a3:=putO_len2 (bif d.dead then 1 else 0) 1 (by decide)
  have a4:=putO_len2 (d.text.length:Int) 1 (by decide)
  have z1:(4:Int).toNat=4:=rfl
  have z2:(1:Int).toNat=1:=rfl
  have hv:valT d=regT d:=by unfold valT; rw [hk]; rfl
  have hb:(bif d.dead then (1:Int) else 0)≤1:=by cases d.dead <;> decide
  refine ⟨((((putO d.time 4).1++(putO d.node 1).1)++(putO (bif d.dead then 1 else 0) 1).1)++(putO (d.text.length:Int) 1).1)++d.text,⟨fun _=>⟨_,num7 (by omega),_,num7 (by omega),?_,_,bit7 _,_,num7 (by omega),?_,_,num7 (by omega),?_,?_,rfl⟩,fun c=>?_⟩,?_,?_⟩
  ·omega
  ·simp only [List.length_append]; omega
  ·simp only [List.length_append]; omega
  ·simp only [List.length_append]; omega
  ·rw [hk] at c; cases c
  ·simp only [List.length_append]; omega
  ·have hz:=zeros_len (8 - (d.text.length:Int))
   have key:zeros (32 - ((((((putO d.time 4).1++(putO d.node 1).1)++(putO (bif d.dead then 1 else 0) 1).1)++(putO (d.text.length:Int) 1).1)++d.text).length:Int))=zeros (8 - (d.text.length:Int))++zeros (32 - ((regT d).length:Int)):=by
    have hr:(regT d).length=(putO d.time 4).1.length + ((putO d.node 1).1.length + ((putO (bif d.dead then 1 else 0) 1).1.length + ((putO (d.text.length:Int) 1).1.length + (d.text.length + (8 - (d.text.length:Int)).toNat)))):=by
     simp only [regT,List.length_append,hz]
    rw [zeros_add (by omega) (by omega),hr]
    simp only [List.length_append]
    congr 1; omega
   rw [key,hv]
   simp only [regT,List.append_assoc]
 ·have h8:=okV_8 ho hk
  have a1:=numsT_len d.plus
  have a2:=numsT_len d.minus
  have hv:valT d=cntT d:=by unfold valT; rw [hk]; rfl
  refine ⟨numsT d.plus++numsT d.minus,⟨fun c=>?_,fun _=>⟨fun _=>⟨_,nums7 _ (fun x hx=>by have:=(wf.plus x hx).2; omega) (by omega),_,nums7 _ (fun x hx=>by have:=(wf.minus x hx).2; omega) (by omega),?_,rfl⟩,fun c=>?_⟩⟩,?_,?_⟩
  ·rw [hk] at c; cases c
  ·omega
  ·rw [hk] at c; cases c
  ·simp only [List.length_append]; omega
  ·rw [hv]; rfl
 ·have hv:valT d=flgT d:=by unfold valT; rw [hk]; rfl
  have a1:=putO_len2 (lowF d.flags) 4 (by decide)
  have a2:=putO_len2 (highF d.flags) 4 (by decide)
  have z1:(4:Int).toNat=4:=rfl
  have b1:lowF d.flags≤9223372036854775807:=by have:=(show inI (lowF d.flags) from by unfold lowF; exact inI_wrap _).2; omega
  have b2:highF d.flags≤9223372036854775807:=by have:=(show inI (highF d.flags) from by unfold highF; exact inI_wrap _).2; omega
  refine ⟨(putO (lowF d.flags) 4).1++(putO (highF d.flags) 4).1,⟨fun c=>?_,fun _=>⟨fun c=>?_,fun _=>?_⟩⟩,?_,?_⟩
  ·rw [hk] at c; cases c
  ·rw [hk] at c; cases c
  ·rw [lowF_eq wf.flags,highF_eq wf.flags]
   exact ⟨_,num7 b1,_,num7 b2,by omega,rfl⟩
  ·simp only [List.length_append]; omega
  ·rw [hv]; rfl
theorem refPutE_ev (d:Ent) (hs:sm d.val) (wf:WfV d.val):ref07_Put_raw d (putE d):=by
 refine ⟨hs,fun h=>?_,fun h=>?_⟩
 ·have:okE d=false:=by simpa using h
  unfold putE; rw [this]; rfl
 ·have ho:okE d=true:=by simpa using h
  obtain ⟨h1,h2,h3⟩:=okE_val ho
  obtain ⟨x,hx,hl,he⟩:=data7 d.val h3 wf
  have w1:=wf.kind.2
  have a1:=putO_len2 d.val.kind 1 (by decide)
  have a2:=putO_len2 (d.key.length:Int) 1 (by decide)
  have z2:(1:Int).toNat=1:=rfl
  have k1:=zeros_len (8 - (d.key.length:Int))
  have k2:=zeros_len (32 - (x.length:Int))
  refine ⟨_,num7 (by omega),_,num7 (by omega),by omega,_,pad7 d.key 8 (by omega) (by omega),?_,x,hx,_,pad7 x 32 (by omega) (by omega),?_,?_⟩
  ·simp only [List.length_append]; omega
  ·simp only [List.length_append]; omega
  ·unfold putE; rw [ho,cond_true]
   unfold putT headT
   rw [← he]
   simp only [List.append_assoc]
end Go.Proofs.YtdfjbkoimpjkaaaGreat