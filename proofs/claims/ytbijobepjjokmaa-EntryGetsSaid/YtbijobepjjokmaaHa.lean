/- Numbers of bytes; references of entries. -/
import Derived.Test.YtbijobepjjokmaaCu
import Derived.Test.YtbijobepjjokmaaBh
import Derived.Test.YtbijobepjjokmaaQk
namespace Go.Proofs.Ytbijobepjjokmaa
open Go Go.RowKit
set_option linter.unusedVariables false
set_option linter.unusedSimpArgs false
def octet_Get_b3 (d0:Str) (d1:Int) (d2:Int) (s3:Int × Int) (z3:(Int × Int) ⊕ (Int × Int)):Prop :=
 ((decide (s3.2<d2))=true→((0≤(IntKind.i64.wrap (d1 + s3.2))∧(IntKind.i64.wrap (d1 + s3.2))<(d0.length:Int))∧(decide (0≤(IntKind.i64.wrap ((8:Int) * s3.2)))=true∧(z3=.inl ((IntKind.i64.wrap ((BitVec.ofInt IntKind.i64.bits s3.1 ||| BitVec.ofInt IntKind.i64.bits (IntKind.i64.wrap ((IntKind.i64.wrap ((nth d0 (IntKind.i64.wrap (d1 + s3.2))).toNat:Int)) * 2 ^ min ((IntKind.i64.wrap ((8:Int) * s3.2))).toNat IntKind.i64.bits))).toNat:Int)),(IntKind.i64.wrap (s3.2 + (1:Int))))))))∧((decide (s3.2<d2))=false→(z3=.inr (s3.1,s3.2)))
def octet_Get_raw (d0:Str) (d1:Int) (d2:Int) (y:Int × Int):Prop :=
 (((decide (d2<(1:Int)))||(decide ((7:Int)<d2)))=true→(y=((0:Int),(1:Int))))∧(((decide (d2<(1:Int)))||(decide ((7:Int)<d2)))=false→(((((decide (d1<(0:Int)))||(decide ((d0.length:Int)<d1)))||(decide ((IntKind.i64.wrap ((d0.length:Int) - d1))<d2)))=true→(y=((0:Int),(2:Int))))∧((((decide (d1<(0:Int)))||(decide ((d0.length:Int)<d1)))||(decide ((IntKind.i64.wrap ((d0.length:Int) - d1))<d2)))=false→(∃ x3,LoopR (octet_Get_b3 d0 d1 d2) ((0:Int),(0:Int)) x3∧(y=(x3.1,(0:Int)))))))
set_option maxRecDepth 20000 in
set_option maxHeartbeats 4000000 in
theorem octet_Get_c {L:List Nat} {w:World} (d0:Str) (d1:Int) (d2:Int) (hL:Lt L w) {y:Int × Int} (h:octet_Get_raw d0 d1 d2 y) :
  Calls Try.prog 60 [str d0,.int .i64 d1,.int .i64 d2].toArray w (Ret fun v w'=>Ext w w'∧v=.tuple #[.int .i64 y.1,.int .i64 y.2]):=by
 unfold octet_Get_raw at h
 refine calls_ec Try.func60 rfl rfl rfl ?_
 refine ec_seq ?_
 refine ec_region ?_
 iterate 2 refine o_w (v:=.int .i64 (0:Int)) (r_asg rfl) ?_
 refine eo_nil_sq ?_
 refine ec_seq ?_
 refine ec_block ?_
 refine ec_seq ?_
 refine ec_region ?_
 refine o_w (v:=.int .i64 d2) (r_mov rfl) ?_
 refine o_w (v:=.bool (decide (d2<(1:Int)))) (r_int rfl rfl rfl) ?_
 refine o_w (v:=.bool (decide (d2<(1:Int)))) (r_mov rfl) ?_
 refine o_vg (v:=.int .i64 d2) (want_cf (t:=13) rfl rfl) (fun hk=>(r_mov rfl)) rfl rfl ?_
 refine o_vg (v:=.bool (decide ((7:Int)<d2))) (want_cf (t:=13) rfl rfl) (fun hk=>(r_int (gdT hk) rfl rfl)) rfl rfl ?_
 refine o_w (v:=.bool ((decide (d2<(1:Int)))||(decide ((7:Int)<d2)))) (r_pickOr rfl rfl (fun hf=>(gdT (notT hf)))) ?_
 refine o_w (v:=.bool ((decide (d2<(1:Int)))||(decide ((7:Int)<d2)))) (r_asg rfl) ?_
 refine eo_nil_sq ?_
 refine ec_cond rfl (fun hc1=>?_) (fun hc1=>?_)
 ·replace h:=h.1 hc1
  refine ec_seq ?_
  refine ec_region ?_
  refine o_w (v:=.int .i64 (0:Int)) (r_asg rfl) ?_
  refine o_w (v:=.int .i64 (1:Int)) (r_asg rfl) ?_
  refine eo_nil_sq ?_
  refine ec_ret ?_
  refine blk_ret ?_
  refine sq_ret ?_
  subst h
  exact (end2 rfl rfl ⟨_,rfl,(Fr.refl _ _),rfl⟩)
 ·replace h:=h.2 hc1
  refine ec_seq ?_
  refine ec_region ?_
  refine o_w (v:=.int .i64 d1) (r_mov rfl) ?_
  refine o_w (v:=.bool (decide (d1<(0:Int)))) (r_int rfl rfl rfl) ?_
  refine o_w (v:=.bool (decide (d1<(0:Int)))) (r_mov rfl) ?_
  refine o_vg (v:=.int .i64 d1) (want_cf (t:=20) rfl rfl) (fun hk=>(r_mov rfl)) rfl rfl ?_
  refine o_vg (v:=str d0) (want_cf (t:=20) rfl rfl) (fun hk=>(r_mov rfl)) rfl rfl ?_
  refine o_vg (v:=.int .i64 (d0.length:Int)) (want_cf (t:=20) rfl rfl) (fun hk=>(r_len_str un_string (gdT hk))) rfl rfl ?_
  refine o_vg (v:=.bool (decide ((d0.length:Int)<d1))) (want_cf (t:=20) rfl rfl) (fun hk=>(r_int (gdT hk) (gdT hk) rfl)) rfl rfl ?_
  refine o_w (v:=.bool ((decide (d1<(0:Int)))||(decide ((d0.length:Int)<d1)))) (r_pickOr rfl rfl (fun hf=>(gdT (notT hf)))) ?_
  refine o_w (v:=.bool ((decide (d1<(0:Int)))||(decide ((d0.length:Int)<d1)))) (r_mov rfl) ?_
  refine o_vg (v:=.int .i64 d2) (want_cf (t:=26) rfl rfl) (fun hk=>(r_mov rfl)) rfl rfl ?_
  refine o_vg (v:=str d0) (want_cf (t:=26) rfl rfl) (fun hk=>(r_mov rfl)) rfl rfl ?_
  refine o_vg (v:=.int .i64 (d0.length:Int)) (want_cf (t:=26) rfl rfl) (fun hk=>(r_len_str un_string (gdT hk))) rfl rfl ?_
  refine o_vg (v:=.int .i64 d1) (want_cf (t:=26) rfl rfl) (fun hk=>(r_mov rfl)) rfl rfl ?_
  refine o_vg (v:=.int .i64 (IntKind.i64.wrap ((d0.length:Int) - d1))) (want_cf (t:=26) rfl rfl) (fun hk=>(r_int (gdT hk) (gdT hk) rfl)) rfl rfl ?_
  refine o_vg (v:=.bool (decide ((IntKind.i64.wrap ((d0.length:Int) - d1))<d2))) (want_cf (t:=26) rfl rfl) (fun hk=>(r_int (gdT hk) (gdT hk) rfl)) rfl rfl ?_
  refine o_w (v:=.bool (((decide (d1<(0:Int)))||(decide ((d0.length:Int)<d1)))||(decide ((IntKind.i64.wrap ((d0.length:Int) - d1))<d2)))) (r_pickOr rfl rfl (fun hf=>(gdT (notT hf)))) ?_
  refine o_w (v:=.bool (((decide (d1<(0:Int)))||(decide ((d0.length:Int)<d1)))||(decide ((IntKind.i64.wrap ((d0.length:Int) - d1))<d2)))) (r_asg rfl) ?_
  refine eo_nil_sq ?_
  refine ec_cond rfl (fun hc2=>?_) (fun hc2=>?_)
  ·replace h:=h.1 hc2
   refine ec_seq ?_
   refine ec_region ?_
   refine o_w (v:=.int .i64 (0:Int)) (r_asg rfl) ?_
   refine o_w (v:=.int .i64 (2:Int)) (r_asg rfl) ?_
   refine eo_nil_sq ?_
   refine ec_ret ?_
   refine blk_ret ?_
   refine sq_ret ?_
   subst h
   exact (end2 rfl rfl ⟨_,rfl,(Fr.refl _ _),rfl⟩)
  ·replace h:=h.2 hc2
   refine ec_skip ?_
   refine blk_n ?_
   refine sq_n ?_
   refine ec_seq ?_
   refine ec_region ?_
   refine o_w (v:=.int .i64 (0:Int)) (r_asg rfl) ?_
   refine eo_nil_sq ?_
   iterate 2 refine ec_seq ?_
   refine ec_region ?_
   refine o_w (v:=.int .i64 d2) (r_mov rfl) ?_
   refine o_w (v:=.int .i64 (0:Int)) (r_mov rfl) ?_
   refine eo_nil_sq ?_
   refine ec_block ?_
   obtain ⟨x3,hl3,h⟩:=h
   refine ec_loopE 1 (I:=(fun (s3:Int × Int) ρ ds w'=>∃ (ρ':Env),ρ=envs ρ' [(8,.int .i64 s3.1),(35,.int .i64 s3.2),(0,str d0),(1,.int .i64 d1),(34,.int .i64 d2)]∧ds=[]∧Fr L w w'∧Ext w w')) ?_ hl3 ?_ ?_
   ·intro s3 z3 ρ3 ds3 w3r hI3 hb3
    obtain ⟨ρ3r,rfl,rfl,F3r,E3r⟩:=hI3
    have h:=hb3
    unfold octet_Get_b3 at h
    refine ec_seq ?_
    refine ec_region ?_
    refine o_w (v:=.bool (decide (s3.2<d2))) (r_int rfl rfl rfl) ?_
    refine eo_nil_sq ?_
    refine ec_seq ?_
    refine ec_cond rfl (fun hc4=>?_) (fun hc4=>?_)
    ·replace h:=h.1 hc4
     refine ec_skip ?_
     refine sq_n ?_
     refine ec_seq ?_
     refine ec_block ?_
     refine ec_seq ?_
     refine ec_region ?_
     refine o_w (v:=.int .i64 s3.2) (r_mov rfl) ?_
     refine o_w (v:=.int .i64 s3.2) (r_asg rfl) ?_
     refine eo_nil_sq ?_
     refine ec_region ?_
     refine o_w (v:=.int .i64 s3.1) (r_mov rfl) ?_
     refine o_w (v:=str d0) (r_mov rfl) ?_
     refine o_w (v:=.int .i64 d1) (r_mov rfl) ?_
     refine o_w (v:=.int .i64 s3.2) (r_mov rfl) ?_
     refine o_w (v:=.int .i64 (IntKind.i64.wrap (d1 + s3.2))) (r_int rfl rfl rfl) ?_
     obtain ⟨ha5,h⟩:=h
     refine o_w (v:=.int .u8 ((nth d0 (IntKind.i64.wrap (d1 + s3.2))).toNat:Int)) (r_ix_str un_string rfl rfl ha5.1 ha5.2) ?_
     refine o_w (v:=.int .i64 (IntKind.i64.wrap ((nth d0 (IntKind.i64.wrap (d1 + s3.2))).toNat:Int))) (r_conv un_uint8 un_int rfl) ?_
     refine o_w (v:=.int .i64 s3.2) (r_mov rfl) ?_
     refine o_w (v:=.int .i64 (IntKind.i64.wrap ((8:Int) * s3.2))) (r_int rfl rfl rfl) ?_
     obtain ⟨ha6,h⟩:=h
     refine o_w (v:=.int .i64 (IntKind.i64.wrap ((IntKind.i64.wrap ((nth d0 (IntKind.i64.wrap (d1 + s3.2))).toNat:Int)) * 2 ^ min ((IntKind.i64.wrap ((8:Int) * s3.2))).toNat IntKind.i64.bits))) (r_shl rfl rfl ha6) ?_
     refine o_w (v:=.int .i64 (IntKind.i64.wrap ((BitVec.ofInt IntKind.i64.bits s3.1 ||| BitVec.ofInt IntKind.i64.bits (IntKind.i64.wrap ((IntKind.i64.wrap ((nth d0 (IntKind.i64.wrap (d1 + s3.2))).toNat:Int)) * 2 ^ min ((IntKind.i64.wrap ((8:Int) * s3.2))).toNat IntKind.i64.bits))).toNat:Int))) (r_int rfl rfl rfl) ?_
     refine o_w (v:=.int .i64 (IntKind.i64.wrap ((BitVec.ofInt IntKind.i64.bits s3.1 ||| BitVec.ofInt IntKind.i64.bits (IntKind.i64.wrap ((IntKind.i64.wrap ((nth d0 (IntKind.i64.wrap (d1 + s3.2))).toNat:Int)) * 2 ^ min ((IntKind.i64.wrap ((8:Int) * s3.2))).toNat IntKind.i64.bits))).toNat:Int))) (r_asg rfl) ?_
     refine eo_nil ?_
     refine blk_n ?_
     refine sq_n ?_
     refine ec_region ?_
     refine o_w (v:=.int .i64 (IntKind.i64.wrap (s3.2 + (1:Int)))) (r_int rfl rfl rfl) ?_
     refine o_w (v:=.int .i64 (IntKind.i64.wrap (s3.2 + (1:Int)))) (r_mov rfl) ?_
     refine eo_nil ?_
     subst h
     exact lq_n ⟨_,envs_self ⟨rfl,rfl,rfl,rfl,rfl,trivial⟩,rfl,F3r,E3r⟩
    ·replace h:=h.2 hc4
     refine ec_exit ?_
     refine sq_exit ?_
     subst h
     exact lq_x ⟨_,envs_self ⟨rfl,rfl,rfl,rfl,rfl,trivial⟩,rfl,F3r,E3r⟩
   ·exact ⟨_,envs_self ⟨rfl,rfl,rfl,rfl,rfl,trivial⟩,rfl,(Fr.refl _ _),(Fr.refl _ _)⟩
   ·rintro ρ3e ds3e w3e ⟨ρ3e,rfl,rfl,F3e,E3e⟩
    refine blk_hit ?_
    refine sq_n ?_
    refine ec_seq ?_
    refine ec_region ?_
    refine o_w (v:=.int .i64 x3.1) (r_mov rfl) ?_
    refine o_w (v:=.int .i64 x3.1) (r_asg rfl) ?_
    refine o_w (v:=.int .i64 (0:Int)) (r_asg rfl) ?_
    refine eo_nil_sq ?_
    refine ec_ret ?_
    subst h
    exact (end2 rfl rfl ⟨_,rfl,E3e,rfl⟩)
def ref01_Get_b3 (d0:Str) (d1:Int) (s3:Int × Int) (z3:(Int × Int) ⊕ (Int × Int)):Prop :=
 ((decide ((0:Int)≤s3.2))=true→((0≤(IntKind.i64.wrap (d1 + s3.2))∧(IntKind.i64.wrap (d1 + s3.2))<(d0.length:Int))∧(z3=.inl ((IntKind.i64.wrap ((IntKind.i64.wrap ((256:Int) * s3.1)) + (IntKind.i64.wrap ((nth d0 (IntKind.i64.wrap (d1 + s3.2))).toNat:Int)))),(IntKind.i64.wrap (s3.2 - (1:Int)))))))∧((decide ((0:Int)≤s3.2))=false→(z3=.inr (s3.1,s3.2)))
def ref01_Get_raw (d0:Str) (d1:Int) (d2:Int) (y:Int × Int):Prop :=
 (((decide (d2<(1:Int)))||(decide ((7:Int)<d2)))=true→(y=((0:Int),(1:Int))))∧(((decide (d2<(1:Int)))||(decide ((7:Int)<d2)))=false→(((((decide (d1<(0:Int)))||(decide ((d0.length:Int)<d1)))||(decide ((IntKind.i64.wrap ((d0.length:Int) - d1))<d2)))=true→(y=((0:Int),(2:Int))))∧((((decide (d1<(0:Int)))||(decide ((d0.length:Int)<d1)))||(decide ((IntKind.i64.wrap ((d0.length:Int) - d1))<d2)))=false→(∃ x3,LoopR (ref01_Get_b3 d0 d1) ((0:Int),(IntKind.i64.wrap (d2 - (1:Int)))) x3∧(y=(x3.1,(0:Int)))))))
set_option maxRecDepth 20000 in
set_option maxHeartbeats 4000000 in
theorem ref01_Get_c {L:List Nat} {w:World} (d0:Str) (d1:Int) (d2:Int) (hL:Lt L w) {y:Int × Int} (h:ref01_Get_raw d0 d1 d2 y) :
  Calls Try.prog 66 [str d0,.int .i64 d1,.int .i64 d2].toArray w (Ret fun v w'=>Ext w w'∧v=.tuple #[.int .i64 y.1,.int .i64 y.2]):=by
 unfold ref01_Get_raw at h
 refine calls_ec Try.func66 rfl rfl rfl ?_
 refine ec_seq ?_
 refine ec_region ?_
 iterate 2 refine o_w (v:=.int .i64 (0:Int)) (r_asg rfl) ?_
 refine eo_nil_sq ?_
 iterate 2 refine ec_seq ?_
 refine ec_region ?_
 refine o_w (v:=.int .i64 d2) (r_mov rfl) ?_
 refine o_w (v:=.bool (decide (d2<(1:Int)))) (r_int rfl rfl rfl) ?_
 refine o_w (v:=.bool (decide (d2<(1:Int)))) (r_mov rfl) ?_
 refine o_vg (v:=.int .i64 d2) (want_cf (t:=12) rfl rfl) (fun hk=>(r_mov rfl)) rfl rfl ?_
 refine o_vg (v:=.bool (decide ((7:Int)<d2))) (want_cf (t:=12) rfl rfl) (fun hk=>(r_int (gdT hk) rfl rfl)) rfl rfl ?_
 refine o_w (v:=.bool ((decide (d2<(1:Int)))||(decide ((7:Int)<d2)))) (r_pickOr rfl rfl (fun hf=>(gdT (notT hf)))) ?_
 refine eo_nil_sq ?_
 refine ec_cond rfl (fun hc1=>?_) (fun hc1=>?_)
 ·replace h:=h.1 hc1
  refine ec_seq ?_
  refine ec_region ?_
  refine o_w (v:=.int .i64 (0:Int)) (r_asg rfl) ?_
  refine o_w (v:=.int .i64 (1:Int)) (r_asg rfl) ?_
  refine eo_nil_sq ?_
  refine ec_ret ?_
  refine sq_ret ?_
  subst h
  exact (end2 rfl rfl ⟨_,rfl,(Fr.refl _ _),rfl⟩)
 ·replace h:=h.2 hc1
  refine ec_skip ?_
  refine sq_n ?_
  iterate 2 refine ec_seq ?_
  refine ec_region ?_
  refine o_w (v:=.int .i64 d1) (r_mov rfl) ?_
  refine o_w (v:=.bool (decide (d1<(0:Int)))) (r_int rfl rfl rfl) ?_
  refine o_w (v:=.bool (decide (d1<(0:Int)))) (r_mov rfl) ?_
  refine o_vg (v:=.int .i64 d1) (want_cf (t:=18) rfl rfl) (fun hk=>(r_mov rfl)) rfl rfl ?_
  refine o_vg (v:=str d0) (want_cf (t:=18) rfl rfl) (fun hk=>(r_mov rfl)) rfl rfl ?_
  refine o_vg (v:=.int .i64 (d0.length:Int)) (want_cf (t:=18) rfl rfl) (fun hk=>(r_len_str un_string (gdT hk))) rfl rfl ?_
  refine o_vg (v:=.bool (decide ((d0.length:Int)<d1))) (want_cf (t:=18) rfl rfl) (fun hk=>(r_int (gdT hk) (gdT hk) rfl)) rfl rfl ?_
  refine o_w (v:=.bool ((decide (d1<(0:Int)))||(decide ((d0.length:Int)<d1)))) (r_pickOr rfl rfl (fun hf=>(gdT (notT hf)))) ?_
  refine o_w (v:=.bool ((decide (d1<(0:Int)))||(decide ((d0.length:Int)<d1)))) (r_mov rfl) ?_
  refine o_vg (v:=.int .i64 d2) (want_cf (t:=24) rfl rfl) (fun hk=>(r_mov rfl)) rfl rfl ?_
  refine o_vg (v:=str d0) (want_cf (t:=24) rfl rfl) (fun hk=>(r_mov rfl)) rfl rfl ?_
  refine o_vg (v:=.int .i64 (d0.length:Int)) (want_cf (t:=24) rfl rfl) (fun hk=>(r_len_str un_string (gdT hk))) rfl rfl ?_
  refine o_vg (v:=.int .i64 d1) (want_cf (t:=24) rfl rfl) (fun hk=>(r_mov rfl)) rfl rfl ?_
  refine o_vg (v:=.int .i64 (IntKind.i64.wrap ((d0.length:Int) - d1))) (want_cf (t:=24) rfl rfl) (fun hk=>(r_int (gdT hk) (gdT hk) rfl)) rfl rfl ?_
  refine o_vg (v:=.bool (decide ((IntKind.i64.wrap ((d0.length:Int) - d1))<d2))) (want_cf (t:=24) rfl rfl) (fun hk=>(r_int (gdT hk) (gdT hk) rfl)) rfl rfl ?_
  refine o_w (v:=.bool (((decide (d1<(0:Int)))||(decide ((d0.length:Int)<d1)))||(decide ((IntKind.i64.wrap ((d0.length:Int) - d1))<d2)))) (r_pickOr rfl rfl (fun hf=>(gdT (notT hf)))) ?_
  refine eo_nil_sq ?_
  refine ec_cond rfl (fun hc2=>?_) (fun hc2=>?_)
  ·replace h:=h.1 hc2
   refine ec_seq ?_
   refine ec_region ?_
   refine o_w (v:=.int .i64 (0:Int)) (r_asg rfl) ?_
   refine o_w (v:=.int .i64 (2:Int)) (r_asg rfl) ?_
   refine eo_nil_sq ?_
   refine ec_ret ?_
   refine sq_ret ?_
   subst h
   exact (end2 rfl rfl ⟨_,rfl,(Fr.refl _ _),rfl⟩)
  ·replace h:=h.2 hc2
   refine ec_skip ?_
   refine sq_n ?_
   refine ec_seq ?_
   refine ec_region ?_
   refine o_w (v:=.int .i64 (0:Int)) (r_asg rfl) ?_
   refine eo_nil_sq ?_
   iterate 2 refine ec_seq ?_
   refine ec_region ?_
   refine o_w (v:=.int .i64 d2) (r_mov rfl) ?_
   refine o_w (v:=.int .i64 (IntKind.i64.wrap (d2 - (1:Int)))) (r_int rfl rfl rfl) ?_
   refine o_w (v:=.int .i64 (IntKind.i64.wrap (d2 - (1:Int)))) (r_asg rfl) ?_
   refine eo_nil_sq ?_
   refine ec_block ?_
   obtain ⟨x3,hl3,h⟩:=h
   refine ec_loopE 0 (I:=(fun (s3:Int × Int) ρ ds w'=>∃ (ρ':Env),ρ=envs ρ' [(8,.int .i64 s3.1),(9,.int .i64 s3.2),(0,str d0),(1,.int .i64 d1)]∧ds=[]∧Fr L w w'∧Ext w w')) ?_ hl3 ?_ ?_
   ·intro s3 z3 ρ3 ds3 w3r hI3 hb3
    obtain ⟨ρ3r,rfl,rfl,F3r,E3r⟩:=hI3
    have h:=hb3
    unfold ref01_Get_b3 at h
    iterate 2 refine ec_seq ?_
    refine ec_region ?_
    refine o_w (v:=.int .i64 s3.2) (r_mov rfl) ?_
    refine o_w (v:=.bool (decide ((0:Int)≤s3.2))) (r_int rfl rfl rfl) ?_
    refine eo_nil_sq ?_
    refine ec_cond rfl (fun hc4=>?_) (fun hc4=>?_)
    ·replace h:=h.1 hc4
     refine ec_skip ?_
     refine sq_n ?_
     refine ec_seq ?_
     refine ec_block ?_
     refine ec_region ?_
     refine o_w (v:=.int .i64 s3.1) (r_mov rfl) ?_
     refine o_w (v:=.int .i64 (IntKind.i64.wrap ((256:Int) * s3.1))) (r_int rfl rfl rfl) ?_
     refine o_w (v:=str d0) (r_mov rfl) ?_
     refine o_w (v:=.int .i64 d1) (r_mov rfl) ?_
     refine o_w (v:=.int .i64 s3.2) (r_mov rfl) ?_
     refine o_w (v:=.int .i64 (IntKind.i64.wrap (d1 + s3.2))) (r_int rfl rfl rfl) ?_
     obtain ⟨ha5,h⟩:=h
     refine o_w (v:=.int .u8 ((nth d0 (IntKind.i64.wrap (d1 + s3.2))).toNat:Int)) (r_ix_str un_string rfl rfl ha5.1 ha5.2) ?_
     refine o_w (v:=.int .i64 (IntKind.i64.wrap ((nth d0 (IntKind.i64.wrap (d1 + s3.2))).toNat:Int))) (r_conv un_uint8 un_int rfl) ?_
     refine o_w (v:=.int .i64 (IntKind.i64.wrap ((IntKind.i64.wrap ((256:Int) * s3.1)) + (IntKind.i64.wrap ((nth d0 (IntKind.i64.wrap (d1 + s3.2))).toNat:Int))))) (r_int rfl rfl rfl) ?_
     refine o_w (v:=.int .i64 (IntKind.i64.wrap ((IntKind.i64.wrap ((256:Int) * s3.1)) + (IntKind.i64.wrap ((nth d0 (IntKind.i64.wrap (d1 + s3.2))).toNat:Int))))) (r_asg rfl) ?_
     refine eo_nil ?_
     refine blk_n ?_
     refine sq_n ?_
     refine ec_region ?_
     refine o_w (v:=.int .i64 s3.2) (r_mov rfl) ?_
     refine o_w (v:=.int .i64 (IntKind.i64.wrap (s3.2 - (1:Int)))) (r_int rfl rfl rfl) ?_
     refine o_w (v:=.int .i64 (IntKind.i64.wrap (s3.2 - (1:Int)))) (r_asg rfl) ?_
     refine eo_nil ?_
     subst h
     exact lq_n ⟨_,envs_self ⟨rfl,rfl,rfl,rfl,trivial⟩,rfl,F3r,E3r⟩
    ·replace h:=h.2 hc4
     refine ec_exit ?_
     refine sq_exit ?_
     subst h
     exact lq_x ⟨_,envs_self ⟨rfl,rfl,rfl,rfl,trivial⟩,rfl,F3r,E3r⟩
   ·exact ⟨_,envs_self ⟨rfl,rfl,rfl,rfl,trivial⟩,rfl,(Fr.refl _ _),(Fr.refl _ _)⟩
   ·rintro ρ3e ds3e w3e ⟨ρ3e,rfl,rfl,F3e,E3e⟩
    refine blk_hit ?_
    refine sq_n ?_
    refine ec_seq ?_
    refine ec_region ?_
    refine o_w (v:=.int .i64 x3.1) (r_mov rfl) ?_
    refine o_w (v:=.int .i64 x3.1) (r_asg rfl) ?_
    refine o_w (v:=.int .i64 (0:Int)) (r_asg rfl) ?_
    refine eo_nil_sq ?_
    refine ec_ret ?_
    subst h
    exact (end2 rfl rfl ⟨_,rfl,E3e,rfl⟩)
def ref07_num_raw (d0:Int) (d1:Int) (y:Str):Prop :=
 (d0≤9223372036854775807)∧(∃ x1,x1=(putO d0 d1)∧(y=x1.1))
set_option maxRecDepth 20000 in
set_option maxHeartbeats 4000000 in
theorem ref07_num_c {L:List Nat} {w:World} (d0:Int) (d1:Int) (hL:Lt L w) {y:Str} (h:ref07_num_raw d0 d1 y) :
  Calls Try.prog 34 [.int .i64 d0,.int .i64 d1].toArray w (Ret fun v w'=>Ext w w'∧v=str y):=by
 unfold ref07_num_raw at h
 refine calls_ec Try.func34 rfl rfl rfl ?_
 refine ec_seq ?_
 refine ec_region ?_
 refine o_w (v:=str ([]:Str)) (r_asg rfl) ?_
 refine eo_nil_sq ?_
 refine ec_seq ?_
 refine ec_region ?_
 refine o_w (v:=.int .i64 d0) (r_mov rfl) ?_
 refine o_w (v:=.int .i64 d1) (r_mov rfl) ?_
 obtain ⟨ha2,h⟩:=h
 obtain ⟨x1,hx1,h⟩:=h
 refine o_call cf_ref01_Put rfl (ref01_Put_c d0 d1 hL (eq_ev hx1 (refPutO_ev d0 d1 ha2))) rfl rfl ?_
 rintro _ w1 ⟨F1,rfl⟩
 refine o_w (v:=.tuple #[str x1.1,.int .i64 x1.2]) (r_mov rfl) ?_
 refine o_w (v:=str x1.1) (r_ext rfl rfl) ?_
 refine o_w (v:=.int .i64 x1.2) (r_ext rfl rfl) ?_
 refine o_w (v:=str x1.1) (r_asg rfl) ?_
 refine o_w (v:=.int .i64 x1.2) (r_asg rfl) ?_
 refine eo_nil_sq ?_
 refine ec_seq ?_
 refine ec_region ?_
 refine o_w (v:=str x1.1) (r_mov rfl) ?_
 refine o_w (v:=str x1.1) (r_asg rfl) ?_
 refine eo_nil_sq ?_
 refine ec_ret ?_
 subst h
 exact (end1 rfl ⟨_,rfl,F1,rfl⟩)
def ref07_pad_raw (d0:Str) (d1:Int) (y:Str):Prop :=
 (0≤(IntKind.i64.wrap (d1 - (d0.length:Int)))∧(IntKind.i64.wrap (d1 - (d0.length:Int))) * 1≤281474976710656∧(IntKind.i64.wrap (d1 - (d0.length:Int)))≤9223372036854775807)∧(d0.length + (bstr (List.replicate ((IntKind.i64.wrap (d1 - (d0.length:Int)))).toNat (0:Int))).length≤9223372036854775807∧(y=(d0++(bstr (List.replicate ((IntKind.i64.wrap (d1 - (d0.length:Int)))).toNat (0:Int))))))
set_option maxRecDepth 20000 in
set_option maxHeartbeats 4000000 in
theorem ref07_pad_c {L:List Nat} {w:World} (d0:Str) (d1:Int) (hL:Lt L w) {y:Str} (h:ref07_pad_raw d0 d1 y) :
  Calls Try.prog 35 [str d0,.int .i64 d1].toArray w (Ret fun v w'=>Ext w w'∧v=str y):=by
 unfold ref07_pad_raw at h
 refine calls_ec Try.func35 rfl rfl rfl ?_
 refine ec_seq ?_
 refine ec_region ?_
 refine o_w (v:=str ([]:Str)) (r_asg rfl) ?_
 refine eo_nil_sq ?_
 refine ec_seq ?_
 refine ec_region ?_
 refine o_w (v:=str d0) (r_mov rfl) ?_
 refine o_w (v:=.int .i64 d1) (r_mov rfl) ?_
 refine o_w (v:=str d0) (r_mov rfl) ?_
 refine o_w (v:=.int .i64 (d0.length:Int)) (r_len_str un_string rfl) ?_
 refine o_w (v:=.int .i64 (IntKind.i64.wrap (d1 - (d0.length:Int)))) (r_int rfl rfl rfl) ?_
 have lo1:w.heap.size≤w.heap.size:=Nat.le_refl _
 obtain ⟨ha2,h⟩:=h
 refine o_make (k:=(kI .u8)) slc_s_uint8 rfl rfl (z:=(0:Int)) (fun _=>rfl) rfl rfl ha2 hL rfl rfl (by decide) ?_
 intro v1 w1 F1 O1 N1
 obtain ⟨A3,c4,eA3,H5⟩:=O1.still
 subst eA3
 have Zw1_6:=Fr.refl L w1
 refine o_w (v:=str (bstr (List.replicate ((IntKind.i64.wrap (d1 - (d0.length:Int)))).toNat (0:Int)))) (r_bstr slc_s_uint8 un_uint8 un_string rfl (H5.fr Zw1_6 (fun _ h=>h)).now) ?_
 obtain ⟨ha8,h⟩:=h
 refine o_w (v:=str (d0++(bstr (List.replicate ((IntKind.i64.wrap (d1 - (d0.length:Int)))).toNat (0:Int))))) (r_cat rfl rfl ha8) ?_
 refine o_w (v:=str (d0++(bstr (List.replicate ((IntKind.i64.wrap (d1 - (d0.length:Int)))).toNat (0:Int))))) (r_asg rfl) ?_
 refine eo_nil_sq ?_
 refine ec_ret ?_
 subst h
 exact (end1 rfl ⟨_,rfl,F1,rfl⟩)
def ref07_bit_raw (d0:Bool) (y:Int):Prop :=
 (d0=true→(y=(1:Int)))∧(d0=false→(y=(0:Int)))
set_option maxRecDepth 20000 in
set_option maxHeartbeats 4000000 in
theorem ref07_bit_c {L:List Nat} {w:World} (d0:Bool) (hL:Lt L w) {y:Int} (h:ref07_bit_raw d0 y) :
  Calls Try.prog 55 [.bool d0].toArray w (Ret fun v w'=>Ext w w'∧v=.int .i64 y):=by
 unfold ref07_bit_raw at h
 refine calls_ec Try.func55 rfl rfl rfl ?_
 refine ec_seq ?_
 refine ec_region ?_
 refine o_w (v:=.int .i64 (0:Int)) (r_asg rfl) ?_
 refine eo_nil_sq ?_
 iterate 2 refine ec_seq ?_
 refine ec_region ?_
 refine o_w (v:=.bool d0) (r_mov rfl) ?_
 refine eo_nil_sq ?_
 refine ec_cond rfl (fun hc1=>?_) (fun hc1=>?_)
 ·replace h:=h.1 hc1
  refine ec_seq ?_
  refine ec_region ?_
  refine o_w (v:=.int .i64 (1:Int)) (r_asg rfl) ?_
  refine eo_nil_sq ?_
  refine ec_ret ?_
  refine sq_ret ?_
  subst h
  exact (end1 rfl ⟨_,rfl,(Fr.refl _ _),rfl⟩)
 ·replace h:=h.2 hc1
  refine ec_skip ?_
  refine sq_n ?_
  refine ec_seq ?_
  refine ec_region ?_
  refine o_w (v:=.int .i64 (0:Int)) (r_asg rfl) ?_
  refine eo_nil_sq ?_
  refine ec_ret ?_
  subst h
  exact (end1 rfl ⟨_,rfl,(Fr.refl _ _),rfl⟩)
end Go.Proofs.Ytbijobepjjokmaa
