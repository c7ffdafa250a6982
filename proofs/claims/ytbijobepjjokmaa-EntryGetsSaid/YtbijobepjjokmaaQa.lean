/- References: numbers as bytes. -/
import Derived.Test.YtbijobepjjokmaaCt7
import Derived.Test.YtbijobepjjokmaaCt5
import Derived.Test.YtbijobepjjokmaaPk
import Derived.Test.YtbijobepjjokmaaFx
namespace Go.Proofs.Ytbijobepjjokmaa
open Go Go.RowKit
set_option linter.unusedVariables false
set_option linter.unusedSimpArgs false
def ref01_Put_b2 (d1:Int) (s2:Int × List Int × Int) (z2:(Int × List Int × Int) ⊕ (Int × List Int × Int)):Prop :=
 ((decide (s2.2.2<d1))=true→((s2.2.1.length + 1≤9223372036854775807∧(s2.2.1.length + 1) * 1≤140737488355328)∧(z2=.inl ((IntKind.i64.wrap (Int.tdiv s2.1 (256:Int))),(s2.2.1++([(IntKind.u8.wrap (Int.tmod s2.1 (256:Int)))]:List Int)),(IntKind.i64.wrap (s2.2.2 + (1:Int)))))))∧((decide (s2.2.2<d1))=false→(z2=.inr (s2.1,s2.2.1,s2.2.2)))
def ref01_Put_raw (d0:Int) (d1:Int) (y:Str × Int):Prop :=
 ((((decide (d1<(1:Int)))||(decide ((7:Int)<d1)))||(decide (d0<(0:Int))))=true→(y=(([]:Str),(1:Int))))∧((((decide (d1<(1:Int)))||(decide ((7:Int)<d1)))||(decide (d0<(0:Int))))=false→(∃ x2,LoopR (ref01_Put_b2 d1) (d0,([]:List Int),(0:Int)) x2∧(((decide ((0:Int)<x2.1))=true→(y=(([]:Str),(1:Int))))∧((decide ((0:Int)<x2.1))=false→(y=((bstr x2.2.1),(0:Int)))))))
set_option maxRecDepth 20000 in
set_option maxHeartbeats 4000000 in
theorem ref01_Put_c {L:List Nat} {w:World} (d0:Int) (d1:Int) (hL:Lt L w) {y:Str × Int} (h:ref01_Put_raw d0 d1 y) :
  Calls Try.prog 54 [.int .i64 d0,.int .i64 d1].toArray w (Ret fun v w'=>Ext w w'∧v=.tuple #[str y.1,.int .i64 y.2]):=by
 unfold ref01_Put_raw at h
 refine calls_ec Try.func54 rfl rfl rfl ?_
 refine ec_seq ?_
 refine ec_region ?_
 refine o_w (v:=str ([]:Str)) (r_asg rfl) ?_
 refine o_w (v:=.int .i64 (0:Int)) (r_asg rfl) ?_
 refine eo_nil_sq ?_
 iterate 2 refine ec_seq ?_
 refine ec_region ?_
 refine o_w (v:=.int .i64 d1) (r_mov rfl) ?_
 refine o_w (v:=.bool (decide (d1<(1:Int)))) (r_int rfl rfl rfl) ?_
 refine o_w (v:=.bool (decide (d1<(1:Int)))) (r_mov rfl) ?_
 refine o_vg (v:=.int .i64 d1) (want_cf (t:=10) rfl rfl) (fun hk=>(r_mov rfl)) rfl rfl ?_
 refine o_vg (v:=.bool (decide ((7:Int)<d1))) (want_cf (t:=10) rfl rfl) (fun hk=>(r_int (gdT hk) rfl rfl)) rfl rfl ?_
 refine o_w (v:=.bool ((decide (d1<(1:Int)))||(decide ((7:Int)<d1)))) (r_pickOr rfl rfl (fun hf=>(gdT (notT hf)))) ?_
 refine o_w (v:=.bool ((decide (d1<(1:Int)))||(decide ((7:Int)<d1)))) (r_mov rfl) ?_
 refine o_vg (v:=.int .i64 d0) (want_cf (t:=14) rfl rfl) (fun hk=>(r_mov rfl)) rfl rfl ?_
 refine o_vg (v:=.bool (decide (d0<(0:Int)))) (want_cf (t:=14) rfl rfl) (fun hk=>(r_int (gdT hk) rfl rfl)) rfl rfl ?_
 refine o_w (v:=.bool (((decide (d1<(1:Int)))||(decide ((7:Int)<d1)))||(decide (d0<(0:Int))))) (r_pickOr rfl rfl (fun hf=>(gdT (notT hf)))) ?_
 refine eo_nil_sq ?_
 refine ec_cond rfl (fun hc1=>?_) (fun hc1=>?_)
 ·replace h:=h.1 hc1
  refine ec_seq ?_
  refine ec_region ?_
  refine o_w (v:=str ([]:Str)) (r_asg rfl) ?_
  refine o_w (v:=.int .i64 (1:Int)) (r_asg rfl) ?_
  refine eo_nil_sq ?_
  refine ec_ret ?_
  refine sq_ret ?_
  subst h
  exact (end2 rfl rfl ⟨_,rfl,(Fr.refl _ _),rfl⟩)
 ·replace h:=h.2 hc1
  refine ec_skip ?_
  refine sq_n ?_
  refine ec_seq ?_
  refine ec_region ?_
  refine o_w (v:=.slice none ([]:List Int).length 0) (r_asg rfl) ?_
  refine eo_nil_sq ?_
  iterate 2 refine ec_seq ?_
  refine ec_region ?_
  refine o_w (v:=.int .i64 (0:Int)) (r_asg rfl) ?_
  refine eo_nil_sq ?_
  refine ec_block ?_
  have lo3:w.heap.size≤w.heap.size:=Nat.le_refl _
  have O3:=OwnS.nil (k:=(kI .u8)) (e:=5) (by decide) hL
  obtain ⟨x2,hl2,h⟩:=h
  refine ec_loopE 0 (I:=(fun (s2:Int × List Int × Int) ρ ds w'=>∃ (ρ':Env) (v2i2:Value),ρ=envs ρ' [(0,.int .i64 s2.1),(6,v2i2),(7,.int .i64 s2.2.2),(1,.int .i64 d1)]∧ds=[]∧Fr (own (.slice none 0 0)++L) w w'∧Ext w w'∧OwnS (kI .u8) (w.heap.size) 5 L w' v2i2 s2.2.1∧(∀ q∈own v2i2,q∈(own (.slice none 0 0)++L)∨w.heap.size≤q))) ?_ hl2 ?_ ?_
  ·intro s2 z2 ρ2 ds2 w2r hI2 hb2
   obtain ⟨ρ2r,v2r2,rfl,rfl,F2r,E2r,O2r2,N2r2⟩:=hI2
   have h:=hb2
   unfold ref01_Put_b2 at h
   iterate 2 refine ec_seq ?_
   refine ec_region ?_
   refine o_w (v:=.int .i64 s2.2.2) (r_mov rfl) ?_
   refine o_w (v:=.int .i64 d1) (r_mov rfl) ?_
   refine o_w (v:=.bool (decide (s2.2.2<d1))) (r_int rfl rfl rfl) ?_
   refine eo_nil_sq ?_
   refine ec_cond rfl (fun hc4=>?_) (fun hc4=>?_)
   ·replace h:=h.1 hc4
    refine ec_skip ?_
    refine sq_n ?_
    refine ec_seq ?_
    refine ec_block ?_
    refine ec_seq ?_
    refine ec_region ?_
    refine o_w (v:=v2r2) (r_mov rfl) ?_
    refine o_w (v:=.int .i64 s2.1) (r_mov rfl) ?_
    refine o_w (v:=.int .i64 (Int.tmod s2.1 (256:Int))) (r_rem rfl rfl rfl) ?_
    refine o_w (v:=.int .u8 (IntKind.u8.wrap (Int.tmod s2.1 (256:Int)))) (r_conv un_int un_uint8 rfl) ?_
    refine o_bslice slc_s_uint8 rfl (vs:=[.int .u8 (IntKind.u8.wrap (Int.tmod s2.1 (256:Int)))]) rfl rfl rfl (cs:=[.int .u8 (IntKind.u8.wrap (Int.tmod s2.1 (256:Int)))]) rfl rfl rfl rfl ?_
    intro b5 w5 e5 F5 B5
    have N5:=nin ((hL.fr E2r).own O2r2) e5
    have S5:=B5.stb N5
    have E6:=E2r.trans F5
    obtain ⟨ha10,h⟩:=h
    refine o_app slc_s_uint8 rfl rfl rfl (O2r2.ex F5) rfl S5.now (ys:=([(IntKind.u8.wrap (Int.tmod s2.1 (256:Int)))]:List Int)) rfl rfl rfl (rowd1 (cs:=[.int .u8 (IntKind.u8.wrap (Int.tmod s2.1 (256:Int)))]) (fun _ _=>rfl) rfl) ha10 rfl rfl ?_
    intro v9 w9 F9 O9 N9
    have P11:∀ m∈own v9,m∈(own (.slice none 0 0)++L)∨w.heap.size≤m:=fun m hm=>(N9 m hm).elim (fun h=>(show ∀ m∈own v2r2,m∈(own (.slice none 0 0)++L)∨w.heap.size≤m from N2r2) m h) (fun h=>.inr (Nat.le_trans ((F2r.trans (Fr.ext F5)).size) h))
    have E13:=Ext.st E6 F9 (fun m hm=>Nat.le_trans lo3 ((O2r2.ex F5).lo m hm))
    have G14:Fr (own (.slice none 0 0)++L) w w9:=(F2r.trans (Fr.ext F5)).stp F9 N2r2
    refine o_w (v:=v9) (r_asg rfl) ?_
    refine eo_nil_sq ?_
    refine ec_region ?_
    refine o_w (v:=.int .i64 s2.1) (r_mov rfl) ?_
    refine o_w (v:=.int .i64 (IntKind.i64.wrap (Int.tdiv s2.1 (256:Int)))) (r_quo rfl rfl rfl) ?_
    refine o_w (v:=.int .i64 (IntKind.i64.wrap (Int.tdiv s2.1 (256:Int)))) (r_asg rfl) ?_
    refine eo_nil ?_
    refine blk_n ?_
    refine sq_n ?_
    refine ec_region ?_
    refine o_w (v:=.int .i64 s2.2.2) (r_mov rfl) ?_
    refine o_w (v:=.int .i64 (IntKind.i64.wrap (s2.2.2 + (1:Int)))) (r_int rfl rfl rfl) ?_
    refine o_w (v:=.int .i64 (IntKind.i64.wrap (s2.2.2 + (1:Int)))) (r_asg rfl) ?_
    refine eo_nil ?_
    subst h
    exact lq_n ⟨_,v9,envs_self ⟨rfl,rfl,rfl,rfl,trivial⟩,rfl,G14,E13,O9,P11⟩
   ·replace h:=h.2 hc4
    refine ec_exit ?_
    refine sq_exit ?_
    subst h
    exact lq_x ⟨_,v2r2,envs_self ⟨rfl,rfl,rfl,rfl,trivial⟩,rfl,F2r,E2r,O2r2,N2r2⟩
  ·exact ⟨_,(.slice none 0 0),envs_self ⟨rfl,rfl,rfl,rfl,trivial⟩,rfl,(Fr.refl _ _),(Fr.refl _ _),O3,(fun q hq=>.inl (by first | exact List.mem_append_left _ hq | simp [hq]))⟩
  ·rintro ρ2e ds2e w2e ⟨ρ2e,v2e2,rfl,rfl,F2e,E2e,O2e2,N2e2⟩
   refine blk_hit ?_
   refine sq_n ?_
   iterate 2 refine ec_seq ?_
   refine ec_region ?_
   refine o_w (v:=.int .i64 x2.1) (r_mov rfl) ?_
   refine o_w (v:=.bool (decide ((0:Int)<x2.1))) (r_int rfl rfl rfl) ?_
   refine eo_nil_sq ?_
   refine ec_cond rfl (fun hc16=>?_) (fun hc16=>?_)
   ·replace h:=h.1 hc16
    refine ec_seq ?_
    refine ec_region ?_
    refine o_w (v:=str ([]:Str)) (r_asg rfl) ?_
    refine o_w (v:=.int .i64 (1:Int)) (r_asg rfl) ?_
    refine eo_nil_sq ?_
    refine ec_ret ?_
    refine sq_ret ?_
    subst h
    exact (end2 rfl rfl ⟨_,rfl,E2e,rfl⟩)
   ·replace h:=h.2 hc16
    refine ec_skip ?_
    refine sq_n ?_
    refine ec_seq ?_
    refine ec_region ?_
    refine o_w (v:=v2e2) (r_mov rfl) ?_
    obtain ⟨A17,c18,eA17,H19⟩:=O2e2.still
    subst eA17
    have Zw2e_20:=Fr.refl L w2e
    refine o_w (v:=str (bstr x2.2.1)) (r_bstr slc_s_uint8 un_uint8 un_string rfl (H19.fr Zw2e_20 (fun _ h=>h)).now) ?_
    refine o_w (v:=str (bstr x2.2.1)) (r_asg rfl) ?_
    refine o_w (v:=.int .i64 (0:Int)) (r_asg rfl) ?_
    refine eo_nil_sq ?_
    refine ec_ret ?_
    subst h
    exact (end2 rfl rfl ⟨_,rfl,E2e,rfl⟩)
end Go.Proofs.Ytbijobepjjokmaa
