import Derived.Test.YtdfjbkoimpjkaaaGreatCz
namespace Go.Proofs.YtdfjbkoimpjkaaaGreat
open Go Go.RowKit
set_option linter.unusedVariables false
set_option linter.unusedSimpArgs false
def crc_Seal_raw (d0:Str) (y:Str):Prop :=
 (d0.length≤9223372036854775807)∧(∃ x3,x3=(putO (sumC d0) (4:Int))∧(d0.length + x3.1.length≤9223372036854775807∧(y=(d0++x3.1))))
set_option maxRecDepth 20000 in
set_option maxHeartbeats 4000000 in
theorem crc_Seal_c {L:List Nat} {w:World} (d0:Str) (hL:Lt L w) {y:Str} (h:crc_Seal_raw d0 y) :
  Calls Tryz.prog 62 [str d0].toArray w (Ret fun v w'=>Ext w w'∧v=str y):=by
 unfold crc_Seal_raw at h
 refine calls_ec Tryz.func62 rfl rfl rfl ?_
 refine ec_sr ?_
 refine o_w (v:=str []) (r_asg rfl) ?_
 refine eo_r ?_
 refine o_w (v:=str d0) (r_mov rfl) ?_
 obtain ⟨ha2,h⟩:=h
 refine o_call cf_crc_Sum rfl (crc_Sum_c d0 hL (crcSum_ev d0 ha2)) rfl rfl ?_
 rintro _ w1 ⟨F1,rfl⟩
 obtain ⟨x3,hx3,h⟩:=h
 refine o_call cf_octet_Put rfl (octet_Put_c (sumC d0) (4:Int) (hL.fr F1) (eq_ev hx3 (octPut_ev (sumC d0) (4:Int)))) rfl rfl ?_
 rintro _ w3 ⟨F3,rfl⟩
 have E4:=F1.trans F3
 refine o_w (v:=.tuple #[str x3.1,.int .i64 x3.2]) (r_mov rfl) ?_
 refine o_w (v:=str x3.1) (r_ext rfl rfl) ?_
 refine o_w (v:=.int .i64 x3.2) (r_ext rfl rfl) ?_
 refine o_w (v:=str x3.1) (r_asg rfl) ?_
 refine o_w (v:=.int .i64 x3.2) (r_asg rfl) ?_
 refine eo_r ?_
 refine o_w (v:=str d0) (r_mov rfl) ?_
 refine o_w (v:=str x3.1) (r_mov rfl) ?_
 obtain ⟨ha5,h⟩:=h
 refine o_w (v:=str (d0++x3.1)) (r_cat rfl rfl ha5) ?_
 refine o_w (v:=str (d0++x3.1)) (r_asg rfl) ?_
 refine eo_nil_sq ?_
 refine ec_ret ?_
 subst h
 exact (end1 rfl ⟨_,rfl,E4,rfl⟩)
def ref02_Seal_raw (d0:Str) (y:Str):Prop :=
 (d0.length≤9223372036854775807)∧(((sumC d0)≤9223372036854775807)∧(∃ x3,x3=(putO (sumC d0) (4:Int))∧(d0.length + x3.1.length≤9223372036854775807∧(y=(d0++x3.1)))))
set_option maxRecDepth 20000 in
set_option maxHeartbeats 4000000 in
theorem ref02_Seal_c {L:List Nat} {w:World} (d0:Str) (hL:Lt L w) {y:Str} (h:ref02_Seal_raw d0 y) :
  Calls Tryz.prog 30 [str d0].toArray w (Ret fun v w'=>Ext w w'∧v=str y):=by
 unfold ref02_Seal_raw at h
 refine calls_ec Tryz.func30 rfl rfl rfl ?_
 refine ec_sr ?_
 refine o_w (v:=str []) (r_asg rfl) ?_
 refine eo_r ?_
 refine o_w (v:=str d0) (r_mov rfl) ?_
 obtain ⟨ha2,h⟩:=h
 refine o_call cf_ref02_Sum rfl (ref02_Sum_c d0 hL (refSumC_ev d0 ha2)) rfl rfl ?_
 rintro _ w1 ⟨F1,rfl⟩
 obtain ⟨ha4,h⟩:=h
 obtain ⟨x3,hx3,h⟩:=h
 refine o_call cf_ref01_Put rfl (ref01_Put_c (sumC d0) (4:Int) (hL.fr F1) (eq_ev hx3 (refPutO_ev (sumC d0) (4:Int) ha4))) rfl rfl ?_
 rintro _ w3 ⟨F3,rfl⟩
 have E5:=F1.trans F3
 refine o_w (v:=.tuple #[str x3.1,.int .i64 x3.2]) (r_mov rfl) ?_
 refine o_w (v:=str x3.1) (r_ext rfl rfl) ?_
 refine o_w (v:=.int .i64 x3.2) (r_ext rfl rfl) ?_
 refine o_w (v:=str x3.1) (r_asg rfl) ?_
 refine o_w (v:=.int .i64 x3.2) (r_asg rfl) ?_
 refine eo_r ?_
 refine o_w (v:=str d0) (r_mov rfl) ?_
 refine o_w (v:=str x3.1) (r_mov rfl) ?_
 obtain ⟨ha6,h⟩:=h
 refine o_w (v:=str (d0++x3.1)) (r_cat rfl rfl ha6) ?_
 refine o_w (v:=str (d0++x3.1)) (r_asg rfl) ?_
 refine eo_nil_sq ?_
 refine ec_ret ?_
 subst h
 exact (end1 rfl ⟨_,rfl,E5,rfl⟩)

def sealC (s:Str):Str:=s++(putO (sumC s) 4).1
def openC (s:Str):Str × Int:=bif decide ((s.length:Int)<4) then ([],2) else bif !(sealC (s.take (s.length - 4))==s) then ([],2) else (s.take (s.length - 4),0)
def numF (n w:Int):Str:=(putO n w).1
theorem crcSeal_ev (s:Str) (h:s.length≤1000000000):crc_Seal_raw s (sealC s):=by
 have:=putO_len (sumC s) 4
 exact ⟨by omega,_,rfl,by omega,rfl⟩
theorem refSeal_ev (s:Str) (h:s.length≤1000000000):ref02_Seal_raw s (sealC s):=by
 have h1:=putO_len (sumC s) 4
 have h2:=crcN_lt s
 exact ⟨by omega,by rw [sumC_N]; omega,_,rfl,by omega,rfl⟩
theorem frCheckA_ev (f:Frm) (h:sml f.entries):frame_Check_raw f (checkF f):=by
 refine ⟨formsL,rfl,_,rfl,oddE f.entries,fun hc=>oddFr_ev _ h (by have h2:=of_decide_eq_false (Bool.or_eq_false_iff.1 (of_not hc)).2; omega),fun hc=>?_,fun hc=>?_⟩
 ·have h1:oddF f=true:=hc
  unfold checkF; rw [h1]; rfl
 ·have h1:oddF f=false:=hc
  unfold checkF; rw [h1]; rfl
theorem frCheckB_ev (f:Frm) (h:sml f.entries) (_:True):frame_Check_raw f (checkF f):=frCheckA_ev f h
def crc_Open_raw (d0:Str) (y:Str × Int):Prop :=
 ((decide ((d0.length:Int)<4))=true→(y=(([]:Str),(2:Int))))∧((decide ((d0.length:Int)<4))=false→((0≤(0:Int)∧(0:Int)≤(IntKind.i64.wrap ((d0.length:Int) - (4:Int)))∧(IntKind.i64.wrap ((d0.length:Int) - (4:Int)))≤(d0.length:Int))∧(((cut d0 (0:Int) (IntKind.i64.wrap ((d0.length:Int) - (4:Int)))).length≤1000000000)∧(∃ x3,x3=(sealC (cut d0 (0:Int) (IntKind.i64.wrap ((d0.length:Int) - (4:Int)))))∧(((!(x3==d0))=true→(y=(([]:Str),(2:Int))))∧((!(x3==d0))=false→(y=((cut d0 (0:Int) (IntKind.i64.wrap ((d0.length:Int) - (4:Int)))),(0:Int)))))))))
set_option maxRecDepth 20000 in
set_option maxHeartbeats 4000000 in
theorem crc_Open_c {L:List Nat} {w:World} (d0:Str) (hL:Lt L w) {y:Str × Int} (h:crc_Open_raw d0 y) :
  Calls Tryz.prog 39 [str d0].toArray w (Ret fun v w'=>Ext w w'∧v=.tuple #[str y.1,.int .i64 y.2]):=by
 unfold crc_Open_raw at h
 refine calls_ec Tryz.func39 rfl rfl rfl ?_
 refine ec_sr ?_
 refine o_w (v:=str []) (r_asg rfl) ?_
 refine o_w (v:=.int .i64 0) (r_asg rfl) ?_
 refine eo_nil_sq ?_
 refine ec_seq ?_
 refine ec_sr ?_
 refine o_w (v:=str d0) (r_mov rfl) ?_
 refine o_w (v:=.int .i64 (d0.length:Int)) (r_len_str un_string rfl) ?_
 refine o_w (v:=.bool (decide ((d0.length:Int)<4))) (r_int rfl rfl rfl) ?_
 refine eo_nil_sq ?_
 refine ec_cond rfl (fun hc1=>?_) (fun hc1=>?_)
 ·replace h:=h.1 hc1
  refine ec_sr ?_
  refine o_w (v:=str []) (r_asg rfl) ?_
  refine o_w (v:=.int .i64 2) (r_asg rfl) ?_
  refine eo_nil_sq ?_
  refine ec_ret ?_
  refine sq_ret ?_
  subst h
  exact (end2 rfl rfl ⟨_,rfl,(Fr.refl _ _),rfl⟩)
 ·replace h:=h.2 hc1
  refine ec_skip ?_
  refine sq_n ?_
  refine ec_sr ?_
  iterate 2 refine o_w (v:=str d0) (r_mov rfl) ?_
  refine o_w (v:=.int .i64 (d0.length:Int)) (r_len_str un_string rfl) ?_
  refine o_w (v:=.int .i64 (IntKind.i64.wrap ((d0.length:Int) - (4:Int)))) (r_int rfl rfl rfl) ?_
  obtain ⟨ha2,h⟩:=h
  refine o_w (v:=str (cut d0 (0:Int) (IntKind.i64.wrap ((d0.length:Int) - (4:Int))))) (r_sl_str un_string rfl rfl ⟨_,rfl⟩ ha2.1 ha2.2.1 ha2.2.2) ?_
  refine o_w (v:=str (cut d0 (0:Int) (IntKind.i64.wrap ((d0.length:Int) - (4:Int))))) (r_asg rfl) ?_
  refine eo_nil_sq ?_
  refine ec_seq ?_
  refine ec_sr ?_
  refine o_w (v:=str (cut d0 (0:Int) (IntKind.i64.wrap ((d0.length:Int) - (4:Int))))) (r_mov rfl) ?_
  obtain ⟨ha4,h⟩:=h
  obtain ⟨x3,hx3,h⟩:=h
  refine o_call cf_crc_Seal rfl (crc_Seal_c (cut d0 (0:Int) (IntKind.i64.wrap ((d0.length:Int) - (4:Int)))) hL (eq_ev hx3 (crcSeal_ev (cut d0 (0:Int) (IntKind.i64.wrap ((d0.length:Int) - (4:Int)))) ha4))) rfl rfl ?_
  rintro _ w3 ⟨F3,rfl⟩
  refine o_w (v:=str d0) (r_mov rfl) ?_
  refine o_w (v:=.bool (!(x3==d0))) (r_str rfl rfl rfl) ?_
  refine eo_nil_sq ?_
  refine ec_cond rfl (fun hc5=>?_) (fun hc5=>?_)
  ·replace h:=h.1 hc5
   refine ec_sr ?_
   refine o_w (v:=str []) (r_asg rfl) ?_
   refine o_w (v:=.int .i64 2) (r_asg rfl) ?_
   refine eo_nil_sq ?_
   refine ec_ret ?_
   refine sq_ret ?_
   subst h
   exact (end2 rfl rfl ⟨_,rfl,F3,rfl⟩)
  ·replace h:=h.2 hc5
   refine ec_skip ?_
   refine sq_n ?_
   refine ec_sr ?_
   refine o_w (v:=str (cut d0 (0:Int) (IntKind.i64.wrap ((d0.length:Int) - (4:Int))))) (r_mov rfl) ?_
   refine o_w (v:=str (cut d0 (0:Int) (IntKind.i64.wrap ((d0.length:Int) - (4:Int))))) (r_asg rfl) ?_
   refine o_w (v:=.int .i64 0) (r_asg rfl) ?_
   refine eo_nil_sq ?_
   refine ec_ret ?_
   subst h
   exact (end2 rfl rfl ⟨_,rfl,F3,rfl⟩)
def frame_number_raw (d0:Int) (d1:Int) (y:Str):Prop :=
 ∃ x1,x1=(putO d0 d1)∧(y=x1.1)
set_option maxRecDepth 20000 in
set_option maxHeartbeats 4000000 in
theorem frame_number_c {L:List Nat} {w:World} (d0:Int) (d1:Int) (hL:Lt L w) {y:Str} (h:frame_number_raw d0 d1 y) :
  Calls Tryz.prog 25 [.int .i64 d0,.int .i64 d1].toArray w (Ret fun v w'=>Ext w w'∧v=str y):=by
 unfold frame_number_raw at h
 refine calls_ec Tryz.func25 rfl rfl rfl ?_
 refine ec_sr ?_
 refine o_w (v:=str []) (r_asg rfl) ?_
 refine eo_r ?_
 refine o_w (v:=.int .i64 d0) (r_mov rfl) ?_
 refine o_w (v:=.int .i64 d1) (r_mov rfl) ?_
 obtain ⟨x1,hx1,h⟩:=h
 refine o_call cf_octet_Put rfl (octet_Put_c d0 d1 hL (eq_ev hx1 (octPut_ev d0 d1))) rfl rfl ?_
 rintro _ w1 ⟨F1,rfl⟩
 refine o_w (v:=.tuple #[str x1.1,.int .i64 x1.2]) (r_mov rfl) ?_
 refine o_w (v:=str x1.1) (r_ext rfl rfl) ?_
 refine o_w (v:=.int .i64 x1.2) (r_ext rfl rfl) ?_
 refine o_w (v:=str x1.1) (r_asg rfl) ?_
 refine o_w (v:=.int .i64 x1.2) (r_asg rfl) ?_
 refine eo_r ?_
 refine o_w (v:=str x1.1) (r_mov rfl) ?_
 refine o_w (v:=str x1.1) (r_asg rfl) ?_
 refine eo_nil_sq ?_
 refine ec_ret ?_
 subst h
 exact (end1 rfl ⟨_,rfl,F1,rfl⟩)
def ref14_num_raw (d0:Int) (d1:Int) (y:Str):Prop :=
 (d0≤9223372036854775807)∧(∃ x1,x1=(putO d0 d1)∧(y=x1.1))
set_option maxRecDepth 20000 in
set_option maxHeartbeats 4000000 in
theorem ref14_num_c {L:List Nat} {w:World} (d0:Int) (d1:Int) (hL:Lt L w) {y:Str} (h:ref14_num_raw d0 d1 y) :
  Calls Tryz.prog 28 [.int .i64 d0,.int .i64 d1].toArray w (Ret fun v w'=>Ext w w'∧v=str y):=by
 unfold ref14_num_raw at h
 refine calls_ec Tryz.func28 rfl rfl rfl ?_
 refine ec_sr ?_
 refine o_w (v:=str []) (r_asg rfl) ?_
 refine eo_r ?_
 refine o_w (v:=.int .i64 d0) (r_mov rfl) ?_
 refine o_w (v:=.int .i64 d1) (r_mov rfl) ?_
 obtain ⟨ha2,h⟩:=h
 obtain ⟨x1,hx1,h⟩:=h
 refine o_call cf_ref01_Put rfl (ref01_Put_c d0 d1 hL (eq_ev hx1 (refPutO_ev d0 d1 ha2))) rfl rfl ?_
 rintro _ w1 ⟨F1,rfl⟩
 refine o_w (v:=.tuple #[str x1.1,.int .i64 x1.2]) (r_mov rfl) ?_
 refine o_w (v:=str x1.1) (r_ext rfl rfl) ?_
 refine o_w (v:=.int .i64 x1.2) (r_ext rfl rfl) ?_
 refine o_w (v:=str x1.1) (r_asg rfl) ?_
 refine o_w (v:=.int .i64 x1.2) (r_asg rfl) ?_
 refine eo_r ?_
 refine o_w (v:=str x1.1) (r_mov rfl) ?_
 refine o_w (v:=str x1.1) (r_asg rfl) ?_
 refine eo_nil_sq ?_
 refine ec_ret ?_
 subst h
 exact (end1 rfl ⟨_,rfl,F1,rfl⟩)

theorem cut_end (s:Str) (h4:4≤s.length) (h:s.length≤1000000000):IntKind.i64.wrap ((s.length:Int) - (4:Int))=((s.length - 4:Nat):Int)∧cut s (0:Int) ((s.length - 4:Nat):Int)=s.take (s.length - 4):=by
 constructor
 ·rw [IntKind.wrap_i64]; omega
 ·unfold cut; simp
theorem crcOpen_ev (s:Str) (h:s.length≤1000000000):crc_Open_raw s (openC s):=by
 refine ⟨fun hc=>by unfold openC; rw [hc]; rfl,fun hc=>?_⟩
 have h4:4≤s.length:=by have:=of_decide_eq_false hc; omega
 obtain ⟨e1,e2⟩:=cut_end s h4 h
 rw [e1,e2]
 unfold openC
 rw [hc]
 refine ⟨⟨by omega,by omega,by omega⟩,by simp; omega,_,rfl,fun hd=>?_,fun hd=>?_⟩
 ·rw [hd]; rfl
 ·rw [hd]; rfl
theorem frNum_ev (n w:Int):frame_number_raw n w (numF n w):=⟨_,rfl,rfl⟩
theorem refNum_ev (n w:Int) (h:n≤9223372036854775807):ref14_num_raw n w (numF n w):=⟨h,_,rfl,rfl⟩
end Go.Proofs.YtdfjbkoimpjkaaaGreat