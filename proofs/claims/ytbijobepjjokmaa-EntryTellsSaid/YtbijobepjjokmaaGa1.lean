/- The reference of value: what each function comes to. -/
import Derived.Test.YtbijobepjjokmaaCt
namespace Go.Proofs.Ytbijobepjjokmaa
open Go Go.RowKit
set_option linter.unusedVariables false
set_option linter.unusedSimpArgs false
def ref01_Ints_b2 (d0:(List Int)) (d1:(List Int)) (s2:Int) (z2:(Int) ⊕ ((Int) ⊕ (Bool))):Prop :=
 ((decide (s2<(d0.length:Int)))=true→((0≤s2∧s2<(d0.length:Int))∧((0≤s2∧s2<(d1.length:Int))∧((((nth d0 s2) != (nth d1 s2))=true→(z2=.inr (.inr false)))∧(((nth d0 s2) != (nth d1 s2))=false→(z2=.inl (IntKind.i64.wrap (s2 + (1:Int)))))))))∧((decide (s2<(d0.length:Int)))=false→(z2=.inr (.inl s2)))
def ref01_Ints_raw (d0:(List Int)) (d1:(List Int)) (y:Bool):Prop :=
 (((d0.length:Int) != (d1.length:Int))=true→(y=false))∧(((d0.length:Int) != (d1.length:Int))=false→(∃ x2,LoopR (ref01_Ints_b2 d0 d1) (0:Int) x2∧(∀ sx2,x2=.inl sx2→(y=true))∧(∀ y2,x2=.inr y2→(y=y2))))
set_option maxRecDepth 20000 in
set_option maxHeartbeats 4000000 in
theorem ref01_Ints_c {L:List Nat} {w:World} {AP0:Option Addr} {cP0:Nat} (d0:(List Int)) (HP0:Stb L w (fun w=>SlC (kI .i64) w AP0 cP0 d0)) {AP1:Option Addr} {cP1:Nat} (d1:(List Int)) (HP1:Stb L w (fun w=>SlC (kI .i64) w AP1 cP1 d1)) (hL:Lt L w) {y:Bool} (h:ref01_Ints_raw d0 d1 y) :
  Calls Try.prog 59 [.slice AP0 d0.length cP0,.slice AP1 d1.length cP1].toArray w (Ret fun v w'=>Ext w w'∧v=.bool y):=by
 unfold ref01_Ints_raw at h
 refine calls_ec Try.func59 rfl rfl rfl ?_
 refine ec_seq ?_
 refine ec_region ?_
 refine o_w (v:=.bool false) (r_asg rfl) ?_
 refine eo_nil_sq ?_
 iterate 2 refine ec_seq ?_
 refine ec_region ?_
 refine o_w (v:=.slice AP0 d0.length cP0) (r_mov rfl) ?_
 refine o_w (v:=.int .i64 (d0.length:Int)) (r_len_slc un_s_int rfl) ?_
 refine o_w (v:=.slice AP1 d1.length cP1) (r_mov rfl) ?_
 refine o_w (v:=.int .i64 (d1.length:Int)) (r_len_slc un_s_int rfl) ?_
 refine o_w (v:=.bool ((d0.length:Int) != (d1.length:Int))) (r_int rfl rfl rfl) ?_
 refine eo_nil_sq ?_
 refine ec_cond rfl (fun hc1=>?_) (fun hc1=>?_)
 ·replace h:=h.1 hc1
  refine ec_seq ?_
  refine ec_region ?_
  refine o_w (v:=.bool false) (r_asg rfl) ?_
  refine eo_nil_sq ?_
  refine ec_ret ?_
  refine sq_ret ?_
  subst h
  exact (end1 rfl ⟨_,rfl,(Fr.refl _ _),rfl⟩)
 ·replace h:=h.2 hc1
  refine ec_skip ?_
  refine sq_n ?_
  iterate 2 refine ec_seq ?_
  refine ec_region ?_
  refine o_w (v:=.int .i64 (0:Int)) (r_asg rfl) ?_
  refine eo_nil_sq ?_
  refine ec_block ?_
  obtain ⟨x2,hl2,h⟩:=h
  refine ec_loopER 0 (I:=(fun (s2:Int) ρ ds w'=>∃ (ρ':Env),ρ=envs ρ' [(5,.int .i64 s2),(0,.slice AP0 d0.length cP0),(1,.slice AP1 d1.length cP1)]∧ds=[]∧Fr L w w'∧Ext w w')) (J:=(fun (y':Bool) ρ ds wz=>bodyE Try.prog #[.tmp 4] (Ret fun v w'=>Ext w w'∧v=.bool y') .ret ρ ds wz)) ?_ hl2 ?_ ?_ ?_
  ·intro s2 z2 ρ2 ds2 w2r hI2 hb2
   obtain ⟨ρ2r,rfl,rfl,F2r,E2r⟩:=hI2
   have h:=hb2
   unfold ref01_Ints_b2 at h
   have G3:Fr L w w2r:=(Fr.refl _ _).stp F2r (fun _ h=>.inl h)
   iterate 2 refine ec_seq ?_
   refine ec_region ?_
   refine o_w (v:=.int .i64 s2) (r_mov rfl) ?_
   refine o_w (v:=.slice AP0 d0.length cP0) (r_mov rfl) ?_
   refine o_w (v:=.int .i64 (d0.length:Int)) (r_len_slc un_s_int rfl) ?_
   refine o_w (v:=.bool (decide (s2<(d0.length:Int)))) (r_int rfl rfl rfl) ?_
   refine eo_nil_sq ?_
   refine ec_cond rfl (fun hc4=>?_) (fun hc4=>?_)
   ·replace h:=h.1 hc4
    refine ec_skip ?_
    refine sq_n ?_
    refine ec_seq ?_
    refine ec_block ?_
    refine ec_seq ?_
    obtain ⟨ha14,h⟩:=h
    obtain ⟨cs15,l17,H16⟩:=Stb.elem (by decide) (HP0.fr G3 (fun _ h=>h)) s2 ha14.1 ha14.2
    obtain ⟨rfl,H16'⟩:=kI_open2 H16
    obtain ⟨ha18,h⟩:=h
    obtain ⟨cs19,l21,H20⟩:=Stb.elem (by decide) (HP1.fr G3 (fun _ h=>h)) s2 ha18.1 ha18.2
    obtain ⟨rfl,H20'⟩:=kI_open2 H20
    refine ec_any0 (by kernel_rfl) [[],[],[0,1],[0,1,2],[],[],[4,5],[4,5,6],[0,1,2,3,4,5,6,7]] [17,18,19,20,21,22,23,24,25] [fun v _=>v=(.slice AP0 d0.length cP0:Value),fun v _=>v=(.int .i64 s2:Value),fun v _=>v=(.pointer (some (elemA AP0 (kI .i64).n s2.toNat)):Value),fun v _=>v=(.int .i64 (nth d0 s2):Value),fun v _=>v=(.slice AP1 d1.length cP1:Value),fun v _=>v=(.int .i64 s2:Value),fun v _=>v=(.pointer (some (elemA AP1 (kI .i64).n s2.toNat)):Value),fun v _=>v=(.int .i64 (nth d1 s2):Value),fun v _=>v=(.bool ((nth d0 s2) != (nth d1 s2)):Value)] (by kernel_rfl) ⟨fun _ _ _ _ _ h=>h,fun _ _ _ _ _ h=>h,fun _ _ _ _ _ h=>h,fun _ _ _ _ _ h=>h,fun _ _ _ _ _ h=>h,fun _ _ _ _ _ h=>h,fun _ _ _ _ _ h=>h,fun _ _ _ _ _ h=>h,fun _ _ _ _ _ h=>h,trivial⟩ ?_ ?_
    ·refine ⟨?_,?_,?_,?_,?_,?_,?_,?_,?_,trivial⟩
     ·intro ρ w13o F13o hS hρ
      have q0:ρ 0=.slice AP0 d0.length cP0:=hρ 0 (by kernel_rfl)
      exact o_q (r_mov q0) ⟨Fr.refl _ _,rfl⟩
     ·intro ρ w13o F13o hS hρ
      have q5:ρ 5=.int .i64 s2:=hρ 5 (by kernel_rfl)
      exact o_q (r_mov q5) ⟨Fr.refl _ _,rfl⟩
     ·intro ρ w13o F13o hS hρ
      have q17:ρ 17=.slice AP0 d0.length cP0:=hS 0 (by decide) 17 rfl
      have q18:ρ 18=.int .i64 s2:=hS 1 (by decide) 18 rfl
      exact o_q (r_ia slc_s_int q17 q18 ((HP0.fr (G3.trans (Fr.ext F13o)) (fun _ h=>h)).now.2 _ (lt_toNat ha14.1 ha14.2)).1 ha14.1 ha14.2) ⟨Fr.refl _ _,rfl⟩
     ·intro ρ w13o F13o hS hρ
      have G29:Fr L w2r w13o:=Fr.ext F13o
      have q19:ρ 19=.pointer (some (elemA AP0 (kI .i64).n s2.toNat)):=hS 2 (by decide) 19 rfl
      exact o_q (r_ld' one_int q19 (elemA_spot _ _ _) ((H16'.fr G29 (fun _ h=>h)).now.1.at0 (elemA_spot _ _ _))) ⟨Fr.refl _ _,rfl⟩
     ·intro ρ w13o F13o hS hρ
      have q1:ρ 1=.slice AP1 d1.length cP1:=hρ 1 (by kernel_rfl)
      exact o_q (r_mov q1) ⟨Fr.refl _ _,rfl⟩
     ·intro ρ w13o F13o hS hρ
      have q5:ρ 5=.int .i64 s2:=hρ 5 (by kernel_rfl)
      exact o_q (r_mov q5) ⟨Fr.refl _ _,rfl⟩
     ·intro ρ w13o F13o hS hρ
      have q21:ρ 21=.slice AP1 d1.length cP1:=hS 4 (by decide) 21 rfl
      have q22:ρ 22=.int .i64 s2:=hS 5 (by decide) 22 rfl
      exact o_q (r_ia slc_s_int q21 q22 ((HP1.fr (G3.trans (Fr.ext F13o)) (fun _ h=>h)).now.2 _ (lt_toNat ha18.1 ha18.2)).1 ha18.1 ha18.2) ⟨Fr.refl _ _,rfl⟩
     ·intro ρ w13o F13o hS hρ
      have G37:Fr L w2r w13o:=Fr.ext F13o
      have q23:ρ 23=.pointer (some (elemA AP1 (kI .i64).n s2.toNat)):=hS 6 (by decide) 23 rfl
      exact o_q (r_ld' one_int q23 (elemA_spot _ _ _) ((H20'.fr G37 (fun _ h=>h)).now.1.at0 (elemA_spot _ _ _))) ⟨Fr.refl _ _,rfl⟩
     ·intro ρ w13o F13o hS hρ
      have q20:ρ 20=.int .i64 (nth d0 s2):=hS 3 (by decide) 20 rfl
      have q24:ρ 24=.int .i64 (nth d1 s2):=hS 7 (by decide) 24 rfl
      exact o_q (r_int q20 q24 rfl) ⟨Fr.refl _ _,rfl⟩
    ·intro ρ w13 F13 hS hρ
     have q25:ρ 25=.bool ((nth d0 s2) != (nth d1 s2)):=hS 8 25 rfl
     obtain ⟨ρ',rfl⟩:∃ ρ',ρ=envs (ovr [17,18,19,20,21,22,23,24,25] ρ' _) [(25,.bool ((nth d0 s2) != (nth d1 s2)))]:=⟨ρ,ovr_self hρ ⟨q25,trivial⟩⟩
     have E38:=E2r.trans F13
     refine sq_n ?_
     refine ec_cond rfl (fun hc42=>?_) (fun hc42=>?_)
     ·replace h:=h.1 hc42
      refine ec_seq ?_
      refine ec_region ?_
      refine o_w (v:=.bool false) (r_asg rfl) ?_
      refine eo_nil_sq ?_
      refine ec_ret ?_
      refine blk_ret ?_
      refine sq_ret ?_
      subst h
      exact lqR_r (end1 rfl ⟨_,rfl,E38,rfl⟩)
     ·replace h:=h.2 hc42
      refine ec_skip ?_
      refine blk_n ?_
      refine sq_n ?_
      refine ec_region ?_
      refine o_w (v:=.int .i64 s2) (r_mov rfl) ?_
      refine o_w (v:=.int .i64 (IntKind.i64.wrap (s2 + (1:Int)))) (r_int rfl rfl rfl) ?_
      refine o_w (v:=.int .i64 (IntKind.i64.wrap (s2 + (1:Int)))) (r_asg rfl) ?_
      refine eo_nil ?_
      subst h
      exact lqR_n ⟨_,envs_self ⟨rfl,rfl,rfl,trivial⟩,rfl,(F2r.trans (Fr.ext F13)),E38⟩
   ·replace h:=h.2 hc4
    refine ec_exit ?_
    refine sq_exit ?_
    subst h
    exact lqR_x ⟨_,envs_self ⟨rfl,rfl,rfl,trivial⟩,rfl,F2r,E2r⟩
  ·exact ⟨_,envs_self ⟨rfl,rfl,rfl,trivial⟩,rfl,(Fr.refl _ _),(Fr.refl _ _)⟩
  ·rintro sx2 rfl ρ2e ds2e w2e ⟨ρ2e,rfl,rfl,F2e,E2e⟩
   replace h:=h.1 _ rfl
   refine blk_hit ?_
   refine sq_n ?_
   refine ec_seq ?_
   refine ec_region ?_
   refine o_w (v:=.bool true) (r_asg rfl) ?_
   refine eo_nil_sq ?_
   refine ec_ret ?_
   subst h
   exact (end1 rfl ⟨_,rfl,E2e,rfl⟩)
  ·rintro y2 rfl ρ2q ds2q w2q hJ
   have hy:=h.2 _ rfl
   subst hy
   refine blk_ret ?_
   refine sq_ret ?_
   exact hJ
def ref06_noReg_raw (d0:Val) (y:Bool):Prop :=
 y=((((d0.time==(0:Int))&&(d0.node==(0:Int)))&&(!d0.dead))&&(d0.text==([]:Str)))
set_option maxRecDepth 20000 in
set_option maxHeartbeats 4000000 in
theorem ref06_noReg_c {L:List Nat} {w:World} {csP0:List Value} (d0:Val) (HP0:Stb L w (fun w=>kVal.r w csP0 d0)) (hL:Lt L w) {y:Bool} (h:ref06_noReg_raw d0 y) :
  Calls Try.prog 51 [.agg csP0.toArray].toArray w (Ret fun v w'=>Ext w w'∧v=.bool y):=by
 obtain ⟨A1,c2,A4,c5,rfl,H3,H6⟩:=kVal_open HP0
 unfold ref06_noReg_raw at h
 refine calls_ec Try.func51 rfl rfl rfl ?_
 refine ec_seq ?_
 refine ec_region ?_
 refine o_box (cs:=(cVal d0 A1 c2 A4 c5)) rfl rfl rfl ?_
 intro b7 w7 e7 F7 B7
 have S7:=B7.stb (nin hL e7)
 refine o_w (v:=.bool false) (r_asg rfl) ?_
 refine eo_nil_sq ?_
 refine ec_seq ?_
 refine ec_region ?_
 refine o_w (v:=.pointer (some ⟨b7,1,none⟩)) (r_fa fld_api_Value_1 rfl rfl) ?_
 refine o_w (v:=.int .i64 d0.time) (r_ld one_int rfl (S7.now.cell rfl)) ?_
 refine o_w (v:=.bool (d0.time==(0:Int))) (r_int rfl rfl rfl) ?_
 refine o_w (v:=.bool (d0.time==(0:Int))) (r_mov rfl) ?_
 refine o_vg (v:=.pointer (some ⟨b7,2,none⟩)) (want_ct (t:=6) rfl rfl) (fun hk=>(r_fa fld_api_Value_2 rfl rfl)) rfl rfl ?_
 refine o_vg (v:=.int .i64 d0.node) (want_ct (t:=6) rfl rfl) (fun hk=>(r_ld one_int (gdT hk) (S7.now.cell rfl))) rfl rfl ?_
 refine o_vg (v:=.bool (d0.node==(0:Int))) (want_ct (t:=6) rfl rfl) (fun hk=>(r_int (gdT hk) rfl rfl)) rfl rfl ?_
 refine o_w (v:=.bool ((d0.time==(0:Int))&&(d0.node==(0:Int)))) (r_pickAnd rfl (fun ht=>(gdT ht)) rfl) ?_
 refine o_w (v:=.bool ((d0.time==(0:Int))&&(d0.node==(0:Int)))) (r_mov rfl) ?_
 refine o_vg (v:=.pointer (some ⟨b7,3,none⟩)) (want_ct (t:=11) rfl rfl) (fun hk=>(r_fa fld_api_Value_3 rfl rfl)) rfl rfl ?_
 refine o_vg (v:=.bool d0.dead) (want_ct (t:=11) rfl rfl) (fun hk=>(r_ld one_bool (gdT hk) (S7.now.cell rfl))) rfl rfl ?_
 refine o_vg (v:=.bool (!d0.dead)) (want_ct (t:=11) rfl rfl) (fun hk=>(r_not (gdT hk))) rfl rfl ?_
 refine o_w (v:=.bool (((d0.time==(0:Int))&&(d0.node==(0:Int)))&&(!d0.dead))) (r_pickAnd rfl (fun ht=>(gdT ht)) rfl) ?_
 refine o_w (v:=.bool (((d0.time==(0:Int))&&(d0.node==(0:Int)))&&(!d0.dead))) (r_mov rfl) ?_
 refine o_vg (v:=.pointer (some ⟨b7,4,none⟩)) (want_ct (t:=16) rfl rfl) (fun hk=>(r_fa fld_api_Value_4 rfl rfl)) rfl rfl ?_
 refine o_vg (v:=str d0.text) (want_ct (t:=16) rfl rfl) (fun hk=>(r_ld one_string (gdT hk) (S7.now.cell rfl))) rfl rfl ?_
 refine o_vg (v:=.bool (d0.text==([]:Str))) (want_ct (t:=16) rfl rfl) (fun hk=>(r_str (gdT hk) rfl rfl)) rfl rfl ?_
 refine o_w (v:=.bool ((((d0.time==(0:Int))&&(d0.node==(0:Int)))&&(!d0.dead))&&(d0.text==([]:Str)))) (r_pickAnd rfl (fun ht=>(gdT ht)) rfl) ?_
 refine o_w (v:=.bool ((((d0.time==(0:Int))&&(d0.node==(0:Int)))&&(!d0.dead))&&(d0.text==([]:Str)))) (r_asg rfl) ?_
 refine eo_nil_sq ?_
 refine ec_ret ?_
 subst h
 exact (end1 rfl ⟨_,rfl,F7,rfl⟩)
def ref06_noCount_raw (d0:Val) (y:Bool):Prop :=
 y=((IntKind.i64.wrap ((d0.plus.length:Int) + (d0.minus.length:Int)))==(0:Int))
set_option maxRecDepth 20000 in
set_option maxHeartbeats 4000000 in
theorem ref06_noCount_c {L:List Nat} {w:World} {csP0:List Value} (d0:Val) (HP0:Stb L w (fun w=>kVal.r w csP0 d0)) (hL:Lt L w) {y:Bool} (h:ref06_noCount_raw d0 y) :
  Calls Try.prog 49 [.agg csP0.toArray].toArray w (Ret fun v w'=>Ext w w'∧v=.bool y):=by
 obtain ⟨A1,c2,A4,c5,rfl,H3,H6⟩:=kVal_open HP0
 unfold ref06_noCount_raw at h
 refine calls_ec Try.func49 rfl rfl rfl ?_
 refine ec_seq ?_
 refine ec_region ?_
 refine o_box (cs:=(cVal d0 A1 c2 A4 c5)) rfl rfl rfl ?_
 intro b7 w7 e7 F7 B7
 have S7:=B7.stb (nin hL e7)
 refine o_w (v:=.bool false) (r_asg rfl) ?_
 refine eo_nil_sq ?_
 refine ec_seq ?_
 refine ec_region ?_
 refine o_w (v:=.pointer (some ⟨b7,5,none⟩)) (r_fa fld_api_Value_5 rfl rfl) ?_
 refine o_w (v:=.slice A1 d0.plus.length c2) (r_ld one_s_int rfl (S7.now.cell rfl)) ?_
 refine o_w (v:=.int .i64 (d0.plus.length:Int)) (r_len_slc un_s_int rfl) ?_
 refine o_w (v:=.pointer (some ⟨b7,6,none⟩)) (r_fa fld_api_Value_6 rfl rfl) ?_
 refine o_w (v:=.slice A4 d0.minus.length c5) (r_ld one_s_int rfl (S7.now.cell rfl)) ?_
 refine o_w (v:=.int .i64 (d0.minus.length:Int)) (r_len_slc un_s_int rfl) ?_
 refine o_w (v:=.int .i64 (IntKind.i64.wrap ((d0.plus.length:Int) + (d0.minus.length:Int)))) (r_int rfl rfl rfl) ?_
 refine o_w (v:=.bool ((IntKind.i64.wrap ((d0.plus.length:Int) + (d0.minus.length:Int)))==(0:Int))) (r_int rfl rfl rfl) ?_
 refine o_w (v:=.bool ((IntKind.i64.wrap ((d0.plus.length:Int) + (d0.minus.length:Int)))==(0:Int))) (r_asg rfl) ?_
 refine eo_nil_sq ?_
 refine ec_ret ?_
 subst h
 exact (end1 rfl ⟨_,rfl,F7,rfl⟩)
def ref06_behind_raw (d0:Val) (d1:Val) (y:Bool):Prop :=
 ((d0.time != d1.time)=true→(y=(decide (d1.time<d0.time))))∧((d0.time != d1.time)=false→(((d0.node != d1.node)=true→(y=(decide (d1.node<d0.node))))∧((d0.node != d1.node)=false→(((!(d0.dead==d1.dead))=true→(y=d0.dead))∧((!(d0.dead==d1.dead))=false→(y=(!(Op.bytesLess d0.text d1.text||d0.text==d1.text))))))))
set_option maxRecDepth 20000 in
set_option maxHeartbeats 4000000 in
theorem ref06_behind_c {L:List Nat} {w:World} {csP0:List Value} (d0:Val) (HP0:Stb L w (fun w=>kVal.r w csP0 d0)) {csP1:List Value} (d1:Val) (HP1:Stb L w (fun w=>kVal.r w csP1 d1)) (hL:Lt L w) {y:Bool} (h:ref06_behind_raw d0 d1 y) :
  Calls Try.prog 57 [.agg csP0.toArray,.agg csP1.toArray].toArray w (Ret fun v w'=>Ext w w'∧v=.bool y):=by
 obtain ⟨A1,c2,A4,c5,rfl,H3,H6⟩:=kVal_open HP0
 obtain ⟨A7,c8,A10,c11,rfl,H9,H12⟩:=kVal_open HP1
 unfold ref06_behind_raw at h
 refine calls_ec Try.func57 rfl rfl rfl ?_
 refine ec_seq ?_
 refine ec_region ?_
 refine o_box (cs:=(cVal d0 A1 c2 A4 c5)) rfl rfl rfl ?_
 intro b13 w13 e13 F13 B13
 have S13:=B13.stb (nin hL e13)
 refine o_box (cs:=(cVal d1 A7 c8 A10 c11)) rfl rfl rfl ?_
 intro b15 w15 e15 F15 B15
 have S15:=B15.stb (nin (hL.fr F13) e15)
 have E16:=F13.trans F15
 have G18:Fr L w13 w15:=Fr.ext F15
 refine o_w (v:=.bool false) (r_asg rfl) ?_
 refine eo_nil_sq ?_
 iterate 2 refine ec_seq ?_
 refine ec_region ?_
 refine o_w (v:=.pointer (some ⟨b13,1,none⟩)) (r_fa fld_api_Value_1 rfl rfl) ?_
 refine o_w (v:=.int .i64 d0.time) (r_ld one_int rfl ((S13.fr G18 (fun _ h=>h)).now.cell rfl)) ?_
 refine o_w (v:=.pointer (some ⟨b15,1,none⟩)) (r_fa fld_api_Value_1 rfl rfl) ?_
 refine o_w (v:=.int .i64 d1.time) (r_ld one_int rfl (S15.now.cell rfl)) ?_
 refine o_w (v:=.bool (d0.time != d1.time)) (r_int rfl rfl rfl) ?_
 refine eo_nil_sq ?_
 refine ec_cond rfl (fun hc19=>?_) (fun hc19=>?_)
 ·replace h:=h.1 hc19
  refine ec_seq ?_
  refine ec_region ?_
  refine o_w (v:=.pointer (some ⟨b13,1,none⟩)) (r_fa fld_api_Value_1 rfl rfl) ?_
  refine o_w (v:=.int .i64 d0.time) (r_ld one_int rfl ((S13.fr G18 (fun _ h=>h)).now.cell rfl)) ?_
  refine o_w (v:=.pointer (some ⟨b15,1,none⟩)) (r_fa fld_api_Value_1 rfl rfl) ?_
  refine o_w (v:=.int .i64 d1.time) (r_ld one_int rfl (S15.now.cell rfl)) ?_
  refine o_w (v:=.bool (decide (d1.time<d0.time))) (r_int rfl rfl rfl) ?_
  refine o_w (v:=.bool (decide (d1.time<d0.time))) (r_asg rfl) ?_
  refine eo_nil_sq ?_
  refine ec_ret ?_
  refine sq_ret ?_
  subst h
  exact (end1 rfl ⟨_,rfl,E16,rfl⟩)
 ·replace h:=h.2 hc19
  refine ec_skip ?_
  refine sq_n ?_
  iterate 2 refine ec_seq ?_
  refine ec_region ?_
  refine o_w (v:=.pointer (some ⟨b13,2,none⟩)) (r_fa fld_api_Value_2 rfl rfl) ?_
  refine o_w (v:=.int .i64 d0.node) (r_ld one_int rfl ((S13.fr G18 (fun _ h=>h)).now.cell rfl)) ?_
  refine o_w (v:=.pointer (some ⟨b15,2,none⟩)) (r_fa fld_api_Value_2 rfl rfl) ?_
  refine o_w (v:=.int .i64 d1.node) (r_ld one_int rfl (S15.now.cell rfl)) ?_
  refine o_w (v:=.bool (d0.node != d1.node)) (r_int rfl rfl rfl) ?_
  refine eo_nil_sq ?_
  refine ec_cond rfl (fun hc20=>?_) (fun hc20=>?_)
  ·replace h:=h.1 hc20
   refine ec_seq ?_
   refine ec_region ?_
   refine o_w (v:=.pointer (some ⟨b13,2,none⟩)) (r_fa fld_api_Value_2 rfl rfl) ?_
   refine o_w (v:=.int .i64 d0.node) (r_ld one_int rfl ((S13.fr G18 (fun _ h=>h)).now.cell rfl)) ?_
   refine o_w (v:=.pointer (some ⟨b15,2,none⟩)) (r_fa fld_api_Value_2 rfl rfl) ?_
   refine o_w (v:=.int .i64 d1.node) (r_ld one_int rfl (S15.now.cell rfl)) ?_
   refine o_w (v:=.bool (decide (d1.node<d0.node))) (r_int rfl rfl rfl) ?_
   refine o_w (v:=.bool (decide (d1.node<d0.node))) (r_asg rfl) ?_
   refine eo_nil_sq ?_
   refine ec_ret ?_
   refine sq_ret ?_
   subst h
   exact (end1 rfl ⟨_,rfl,E16,rfl⟩)
  ·replace h:=h.2 hc20
   refine ec_skip ?_
   refine sq_n ?_
   iterate 2 refine ec_seq ?_
   refine ec_region ?_
   refine o_w (v:=.pointer (some ⟨b13,3,none⟩)) (r_fa fld_api_Value_3 rfl rfl) ?_
   refine o_w (v:=.bool d0.dead) (r_ld one_bool rfl ((S13.fr G18 (fun _ h=>h)).now.cell rfl)) ?_
   refine o_w (v:=.pointer (some ⟨b15,3,none⟩)) (r_fa fld_api_Value_3 rfl rfl) ?_
   refine o_w (v:=.bool d1.dead) (r_ld one_bool rfl (S15.now.cell rfl)) ?_
   refine o_w (v:=.bool (!(d0.dead==d1.dead))) (r_boolNe un_bool rfl rfl) ?_
   refine eo_nil_sq ?_
   refine ec_cond rfl (fun hc21=>?_) (fun hc21=>?_)
   ·replace h:=h.1 hc21
    refine ec_seq ?_
    refine ec_region ?_
    refine o_w (v:=.pointer (some ⟨b13,3,none⟩)) (r_fa fld_api_Value_3 rfl rfl) ?_
    refine o_w (v:=.bool d0.dead) (r_ld one_bool rfl ((S13.fr G18 (fun _ h=>h)).now.cell rfl)) ?_
    refine o_w (v:=.bool d0.dead) (r_asg rfl) ?_
    refine eo_nil_sq ?_
    refine ec_ret ?_
    refine sq_ret ?_
    subst h
    exact (end1 rfl ⟨_,rfl,E16,rfl⟩)
   ·replace h:=h.2 hc21
    refine ec_skip ?_
    refine sq_n ?_
    refine ec_seq ?_
    refine ec_region ?_
    refine o_w (v:=.pointer (some ⟨b13,4,none⟩)) (r_fa fld_api_Value_4 rfl rfl) ?_
    refine o_w (v:=str d0.text) (r_ld one_string rfl ((S13.fr G18 (fun _ h=>h)).now.cell rfl)) ?_
    refine o_w (v:=.pointer (some ⟨b15,4,none⟩)) (r_fa fld_api_Value_4 rfl rfl) ?_
    refine o_w (v:=str d1.text) (r_ld one_string rfl (S15.now.cell rfl)) ?_
    refine o_w (v:=.bool (!(Op.bytesLess d0.text d1.text||d0.text==d1.text))) (r_str rfl rfl rfl) ?_
    refine o_w (v:=.bool (!(Op.bytesLess d0.text d1.text||d0.text==d1.text))) (r_asg rfl) ?_
    refine eo_nil_sq ?_
    refine ec_ret ?_
    subst h
    exact (end1 rfl ⟨_,rfl,E16,rfl⟩)
def ref06_counts_b1 (d0:(List Int)) (s1:Int) (z1:(Int) ⊕ ((Int) ⊕ (Bool))):Prop :=
 ((decide (s1<(d0.length:Int)))=true→((0≤s1∧s1<(d0.length:Int))∧(((decide ((nth d0 s1)<(0:Int)))=true→(z1=.inr (.inr false)))∧((decide ((nth d0 s1)<(0:Int)))=false→((0≤s1∧s1<(d0.length:Int))∧(((decide ((65535:Int)<(nth d0 s1)))=true→(z1=.inr (.inr false)))∧((decide ((65535:Int)<(nth d0 s1)))=false→(z1=.inl (IntKind.i64.wrap (s1 + (1:Int)))))))))))∧((decide (s1<(d0.length:Int)))=false→(z1=.inr (.inl s1)))
def ref06_counts_raw (d0:(List Int)) (y:Bool):Prop :=
 ∃ x1,LoopR (ref06_counts_b1 d0) (0:Int) x1∧(∀ sx1,x1=.inl sx1→(y=((d0.length:Int)==(8:Int))))∧(∀ y1,x1=.inr y1→(y=y1))
set_option maxRecDepth 20000 in
set_option maxHeartbeats 4000000 in
theorem ref06_counts_c {L:List Nat} {w:World} {AP0:Option Addr} {cP0:Nat} (d0:(List Int)) (HP0:Stb L w (fun w=>SlC (kI .i64) w AP0 cP0 d0)) (hL:Lt L w) {y:Bool} (h:ref06_counts_raw d0 y) :
  Calls Try.prog 50 [.slice AP0 d0.length cP0].toArray w (Ret fun v w'=>Ext w w'∧v=.bool y):=by
 unfold ref06_counts_raw at h
 refine calls_ec Try.func50 rfl rfl rfl ?_
 refine ec_seq ?_
 refine ec_region ?_
 refine o_w (v:=.bool false) (r_asg rfl) ?_
 refine eo_nil_sq ?_
 iterate 2 refine ec_seq ?_
 refine ec_region ?_
 refine o_w (v:=.int .i64 (0:Int)) (r_asg rfl) ?_
 refine eo_nil_sq ?_
 refine ec_block ?_
 obtain ⟨x1,hl1,h⟩:=h
 refine ec_loopER 0 (I:=(fun (s1:Int) ρ ds w'=>∃ (ρ':Env),ρ=envs ρ' [(3,.int .i64 s1),(0,.slice AP0 d0.length cP0)]∧ds=[]∧Fr L w w'∧Ext w w')) (J:=(fun (y':Bool) ρ ds wz=>bodyE Try.prog #[.tmp 2] (Ret fun v w'=>Ext w w'∧v=.bool y') .ret ρ ds wz)) ?_ hl1 ?_ ?_ ?_
 ·intro s1 z1 ρ1 ds1 w1r hI1 hb1
  obtain ⟨ρ1r,rfl,rfl,F1r,E1r⟩:=hI1
  have h:=hb1
  unfold ref06_counts_b1 at h
  have G2:Fr L w w1r:=(Fr.refl _ _).stp F1r (fun _ h=>.inl h)
  iterate 2 refine ec_seq ?_
  refine ec_region ?_
  refine o_w (v:=.int .i64 s1) (r_mov rfl) ?_
  refine o_w (v:=.slice AP0 d0.length cP0) (r_mov rfl) ?_
  refine o_w (v:=.int .i64 (d0.length:Int)) (r_len_slc un_s_int rfl) ?_
  refine o_w (v:=.bool (decide (s1<(d0.length:Int)))) (r_int rfl rfl rfl) ?_
  refine eo_nil_sq ?_
  refine ec_cond rfl (fun hc3=>?_) (fun hc3=>?_)
  ·replace h:=h.1 hc3
   refine ec_skip ?_
   refine sq_n ?_
   refine ec_seq ?_
   refine ec_block ?_
   refine ec_seq ?_
   refine ec_region ?_
   refine o_w (v:=.slice AP0 d0.length cP0) (r_mov rfl) ?_
   refine o_w (v:=.int .i64 s1) (r_mov rfl) ?_
   obtain ⟨ha12,h⟩:=h
   obtain ⟨cs13,l15,H14⟩:=Stb.elem (by decide) (HP0.fr G2 (fun _ h=>h)) s1 ha12.1 ha12.2
   obtain ⟨rfl,H14'⟩:=kI_open2 H14
   refine o_w (v:=.pointer (some (elemA AP0 (kI .i64).n s1.toNat))) (r_ia slc_s_int rfl rfl ((HP0.fr G2 (fun _ h=>h)).now.2 _ (lt_toNat ha12.1 ha12.2)).1 ha12.1 ha12.2) ?_
   refine o_w (v:=.int .i64 (nth d0 s1)) (r_ld' one_int rfl (elemA_spot _ _ _) (H14'.now.1.at0 (elemA_spot _ _ _))) ?_
   refine o_w (v:=.bool (decide ((nth d0 s1)<(0:Int)))) (r_int rfl rfl rfl) ?_
   refine o_w (v:=.bool (decide ((nth d0 s1)<(0:Int)))) (r_mov rfl) ?_
   rcases Bool.eq_false_or_eq_true (decide ((nth d0 s1)<(0:Int))) with hc16 | hc16
   ·replace h:=h.1 hc16
    iterate 5 refine o_no (want_f (t:=15) rfl rfl hc16) rfl ?_
    refine o_w (v:=.bool true) (r_pickT rfl hc16 rfl) ?_
    refine eo_nil_sq ?_
    refine ec_condT rfl rfl ?_
    refine ec_seq ?_
    refine ec_region ?_
    refine o_w (v:=.bool false) (r_asg rfl) ?_
    refine eo_nil_sq ?_
    refine ec_ret ?_
    refine blk_ret ?_
    refine sq_ret ?_
    subst h
    exact lqR_r (end1 rfl ⟨_,rfl,E1r,rfl⟩)
   ·replace h:=h.2 hc16
    refine o_v (v:=.slice AP0 d0.length cP0) (r_mov rfl) (want_t (t:=15) rfl rfl hc16) rfl rfl ?_
    refine o_v (v:=.int .i64 s1) (r_mov rfl) (want_t (t:=15) rfl rfl hc16) rfl rfl ?_
    obtain ⟨ha17,h⟩:=h
    obtain ⟨cs18,l20,H19⟩:=Stb.elem (by decide) (HP0.fr G2 (fun _ h=>h)) s1 ha17.1 ha17.2
    obtain ⟨rfl,H19'⟩:=kI_open2 H19
    refine o_v (v:=.pointer (some (elemA AP0 (kI .i64).n s1.toNat))) (r_ia slc_s_int rfl rfl ((HP0.fr G2 (fun _ h=>h)).now.2 _ (lt_toNat ha17.1 ha17.2)).1 ha17.1 ha17.2) (want_t (t:=15) rfl rfl hc16) rfl rfl ?_
    refine o_v (v:=.int .i64 (nth d0 s1)) (r_ld' one_int rfl (elemA_spot _ _ _) (H19'.now.1.at0 (elemA_spot _ _ _))) (want_t (t:=15) rfl rfl hc16) rfl rfl ?_
    refine o_v (v:=.bool (decide ((65535:Int)<(nth d0 s1)))) (r_int rfl rfl rfl) (want_t (t:=15) rfl rfl hc16) rfl rfl ?_
    refine o_w (v:=.bool (decide ((65535:Int)<(nth d0 s1)))) (r_pickF rfl hc16 rfl) ?_
    refine eo_nil_sq ?_
    refine ec_cond rfl (fun hc21=>?_) (fun hc21=>?_)
    ·replace h:=h.1 hc21
     refine ec_seq ?_
     refine ec_region ?_
     refine o_w (v:=.bool false) (r_asg rfl) ?_
     refine eo_nil_sq ?_
     refine ec_ret ?_
     refine blk_ret ?_
     refine sq_ret ?_
     subst h
     exact lqR_r (end1 rfl ⟨_,rfl,E1r,rfl⟩)
    ·replace h:=h.2 hc21
     refine ec_skip ?_
     refine blk_n ?_
     refine sq_n ?_
     refine ec_region ?_
     refine o_w (v:=.int .i64 s1) (r_mov rfl) ?_
     refine o_w (v:=.int .i64 (IntKind.i64.wrap (s1 + (1:Int)))) (r_int rfl rfl rfl) ?_
     refine o_w (v:=.int .i64 (IntKind.i64.wrap (s1 + (1:Int)))) (r_asg rfl) ?_
     refine eo_nil ?_
     subst h
     exact lqR_n ⟨_,envs_self ⟨rfl,rfl,trivial⟩,rfl,F1r,E1r⟩
  ·replace h:=h.2 hc3
   refine ec_exit ?_
   refine sq_exit ?_
   subst h
   exact lqR_x ⟨_,envs_self ⟨rfl,rfl,trivial⟩,rfl,F1r,E1r⟩
 ·exact ⟨_,envs_self ⟨rfl,rfl,trivial⟩,rfl,(Fr.refl _ _),(Fr.refl _ _)⟩
 ·rintro sx1 rfl ρ1e ds1e w1e ⟨ρ1e,rfl,rfl,F1e,E1e⟩
  replace h:=h.1 _ rfl
  refine blk_hit ?_
  refine sq_n ?_
  refine ec_seq ?_
  refine ec_region ?_
  refine o_w (v:=.slice AP0 d0.length cP0) (r_mov rfl) ?_
  refine o_w (v:=.int .i64 (d0.length:Int)) (r_len_slc un_s_int rfl) ?_
  refine o_w (v:=.bool ((d0.length:Int)==(8:Int))) (r_int rfl rfl rfl) ?_
  refine o_w (v:=.bool ((d0.length:Int)==(8:Int))) (r_asg rfl) ?_
  refine eo_nil_sq ?_
  refine ec_ret ?_
  subst h
  exact (end1 rfl ⟨_,rfl,E1e,rfl⟩)
 ·rintro y1 rfl ρ1q ds1q w1q hJ
  have hy:=h.2 _ rfl
  subst hy
  refine blk_ret ?_
  refine sq_ret ?_
  exact hJ
def ref06_Check_raw (d0:Val) (y:Bool):Prop :=
 ((d0.kind==(1:Int))=true→(∃ x11,(((((((decide ((0:Int)≤d0.time))&&(decide (d0.time≤(2147483647:Int))))&&(decide ((0:Int)≤d0.node)))&&(decide (d0.node≤(7:Int))))&&(decide ((d0.text.length:Int)≤(8:Int))))&&((!d0.dead)||(d0.text==([]:Str))))=true→ref06_noCount_raw d0 x11)∧(y=((((((((decide ((0:Int)≤d0.time))&&(decide (d0.time≤(2147483647:Int))))&&(decide ((0:Int)≤d0.node)))&&(decide (d0.node≤(7:Int))))&&(decide ((d0.text.length:Int)≤(8:Int))))&&((!d0.dead)||(d0.text==([]:Str))))&&x11)&&(d0.flags==(0:Int))))))∧((d0.kind==(1:Int))=false→(((d0.kind==(2:Int))=true→(∃ x19,ref06_counts_raw d0.plus x19∧(∃ x23,(x19=true→ref06_counts_raw d0.minus x23)∧(∃ x27,((x19&&x23)=true→ref06_noReg_raw d0 x27)∧(y=(((x19&&x23)&&x27)&&(d0.flags==(0:Int))))))))∧((d0.kind==(2:Int))=false→(∃ x33,((d0.kind==(3:Int))=true→ref06_noReg_raw d0 x33)∧(∃ x37,(((d0.kind==(3:Int))&&x33)=true→ref06_noCount_raw d0 x37)∧(y=(((d0.kind==(3:Int))&&x33)&&x37)))))))
set_option maxRecDepth 20000 in
set_option maxHeartbeats 4000000 in
theorem ref06_Check_c {L:List Nat} {w:World} {csP0:List Value} (d0:Val) (HP0:Stb L w (fun w=>kVal.r w csP0 d0)) (hL:Lt L w) {y:Bool} (h:ref06_Check_raw d0 y) :
  Calls Try.prog 26 [.agg csP0.toArray].toArray w (Ret fun v w'=>Ext w w'∧v=.bool y):=by
 obtain ⟨A1,c2,A4,c5,rfl,H3,H6⟩:=kVal_open HP0
 unfold ref06_Check_raw at h
 refine calls_ec Try.func26 rfl rfl rfl ?_
 refine ec_seq ?_
 refine ec_region ?_
 refine o_box (cs:=(cVal d0 A1 c2 A4 c5)) rfl rfl rfl ?_
 intro b7 w7 e7 F7 B7
 have S7:=B7.stb (nin hL e7)
 have G8:Fr L w w7:=Fr.ext F7
 refine o_w (v:=.bool false) (r_asg rfl) ?_
 refine eo_nil_sq ?_
 iterate 2 refine ec_seq ?_
 refine ec_region ?_
 refine o_w (v:=.pointer (some ⟨b7,0,none⟩)) (r_fa fld_api_Value_0 rfl rfl) ?_
 refine o_w (v:=.int .i64 d0.kind) (r_ld one_int rfl (S7.now.cell rfl)) ?_
 refine o_w (v:=.bool (d0.kind==(1:Int))) (r_int rfl rfl rfl) ?_
 refine eo_nil_sq ?_
 refine ec_cond rfl (fun hc9=>?_) (fun hc9=>?_)
 ·replace h:=h.1 hc9
  refine ec_seq ?_
  refine ec_region ?_
  refine o_w (v:=.pointer (some ⟨b7,1,none⟩)) (r_fa fld_api_Value_1 rfl rfl) ?_
  refine o_w (v:=.int .i64 d0.time) (r_ld one_int rfl (S7.now.cell rfl)) ?_
  refine o_w (v:=.bool (decide ((0:Int)≤d0.time))) (r_int rfl rfl rfl) ?_
  refine o_w (v:=.bool (decide ((0:Int)≤d0.time))) (r_mov rfl) ?_
  refine o_vg (v:=.pointer (some ⟨b7,1,none⟩)) (want_ct (t:=9) rfl rfl) (fun hk=>(r_fa fld_api_Value_1 rfl rfl)) rfl rfl ?_
  refine o_vg (v:=.int .i64 d0.time) (want_ct (t:=9) rfl rfl) (fun hk=>(r_ld one_int (gdT hk) (S7.now.cell rfl))) rfl rfl ?_
  refine o_vg (v:=.bool (decide (d0.time≤(2147483647:Int)))) (want_ct (t:=9) rfl rfl) (fun hk=>(r_int (gdT hk) rfl rfl)) rfl rfl ?_
  refine o_w (v:=.bool ((decide ((0:Int)≤d0.time))&&(decide (d0.time≤(2147483647:Int))))) (r_pickAnd rfl (fun ht=>(gdT ht)) rfl) ?_
  refine o_w (v:=.bool ((decide ((0:Int)≤d0.time))&&(decide (d0.time≤(2147483647:Int))))) (r_mov rfl) ?_
  refine o_vg (v:=.pointer (some ⟨b7,2,none⟩)) (want_ct (t:=14) rfl rfl) (fun hk=>(r_fa fld_api_Value_2 rfl rfl)) rfl rfl ?_
  refine o_vg (v:=.int .i64 d0.node) (want_ct (t:=14) rfl rfl) (fun hk=>(r_ld one_int (gdT hk) (S7.now.cell rfl))) rfl rfl ?_
  refine o_vg (v:=.bool (decide ((0:Int)≤d0.node))) (want_ct (t:=14) rfl rfl) (fun hk=>(r_int (gdT hk) rfl rfl)) rfl rfl ?_
  refine o_w (v:=.bool (((decide ((0:Int)≤d0.time))&&(decide (d0.time≤(2147483647:Int))))&&(decide ((0:Int)≤d0.node)))) (r_pickAnd rfl (fun ht=>(gdT ht)) rfl) ?_
  refine o_w (v:=.bool (((decide ((0:Int)≤d0.time))&&(decide (d0.time≤(2147483647:Int))))&&(decide ((0:Int)≤d0.node)))) (r_mov rfl) ?_
  refine o_vg (v:=.pointer (some ⟨b7,2,none⟩)) (want_ct (t:=19) rfl rfl) (fun hk=>(r_fa fld_api_Value_2 rfl rfl)) rfl rfl ?_
  refine o_vg (v:=.int .i64 d0.node) (want_ct (t:=19) rfl rfl) (fun hk=>(r_ld one_int (gdT hk) (S7.now.cell rfl))) rfl rfl ?_
  refine o_vg (v:=.bool (decide (d0.node≤(7:Int)))) (want_ct (t:=19) rfl rfl) (fun hk=>(r_int (gdT hk) rfl rfl)) rfl rfl ?_
  refine o_w (v:=.bool ((((decide ((0:Int)≤d0.time))&&(decide (d0.time≤(2147483647:Int))))&&(decide ((0:Int)≤d0.node)))&&(decide (d0.node≤(7:Int))))) (r_pickAnd rfl (fun ht=>(gdT ht)) rfl) ?_
  refine o_w (v:=.bool ((((decide ((0:Int)≤d0.time))&&(decide (d0.time≤(2147483647:Int))))&&(decide ((0:Int)≤d0.node)))&&(decide (d0.node≤(7:Int))))) (r_mov rfl) ?_
  refine o_vg (v:=.pointer (some ⟨b7,4,none⟩)) (want_ct (t:=24) rfl rfl) (fun hk=>(r_fa fld_api_Value_4 rfl rfl)) rfl rfl ?_
  refine o_vg (v:=str d0.text) (want_ct (t:=24) rfl rfl) (fun hk=>(r_ld one_string (gdT hk) (S7.now.cell rfl))) rfl rfl ?_
  refine o_vg (v:=.int .i64 (d0.text.length:Int)) (want_ct (t:=24) rfl rfl) (fun hk=>(r_len_str un_string (gdT hk))) rfl rfl ?_
  refine o_vg (v:=.bool (decide ((d0.text.length:Int)≤(8:Int)))) (want_ct (t:=24) rfl rfl) (fun hk=>(r_int (gdT hk) rfl rfl)) rfl rfl ?_
  refine o_w (v:=.bool (((((decide ((0:Int)≤d0.time))&&(decide (d0.time≤(2147483647:Int))))&&(decide ((0:Int)≤d0.node)))&&(decide (d0.node≤(7:Int))))&&(decide ((d0.text.length:Int)≤(8:Int))))) (r_pickAnd rfl (fun ht=>(gdT ht)) rfl) ?_
  refine o_w (v:=.bool (((((decide ((0:Int)≤d0.time))&&(decide (d0.time≤(2147483647:Int))))&&(decide ((0:Int)≤d0.node)))&&(decide (d0.node≤(7:Int))))&&(decide ((d0.text.length:Int)≤(8:Int))))) (r_mov rfl) ?_
  refine o_vg (v:=.pointer (some ⟨b7,3,none⟩)) (want_ct (t:=30) rfl rfl) (fun hk=>(r_fa fld_api_Value_3 rfl rfl)) rfl rfl ?_
  refine o_vg (v:=.bool d0.dead) (want_ct (t:=30) rfl rfl) (fun hk=>(r_ld one_bool (gdT hk) (S7.now.cell rfl))) rfl rfl ?_
  refine o_vg (v:=.bool (!d0.dead)) (want_ct (t:=30) rfl rfl) (fun hk=>(r_not (gdT hk))) rfl rfl ?_
  refine o_vg (v:=.bool (!d0.dead)) (want_ct (t:=30) rfl rfl) (fun hk=>(r_mov (gdT hk))) rfl rfl ?_
  refine o_vg (v:=.pointer (some ⟨b7,4,none⟩)) (want_gf (t:=34) rfl rfl) (fun hk=>(r_fa fld_api_Value_4 rfl rfl)) rfl rfl ?_
  refine o_vg (v:=str d0.text) (want_gf (t:=34) rfl rfl) (fun hk=>(r_ld one_string (gdT hk) (S7.now.cell rfl))) rfl rfl ?_
  refine o_vg (v:=.bool (d0.text==([]:Str))) (want_gf (t:=34) rfl rfl) (fun hk=>(r_str (gdT hk) rfl rfl)) rfl rfl ?_
  refine o_vg (v:=.bool ((!d0.dead)||(d0.text==([]:Str)))) (want_ct (t:=30) rfl rfl) (fun hk=>(r_pickOr (gdT hk) rfl (fun hf=>(gdT (andM hk (notT hf)))))) rfl rfl ?_
  refine o_w (v:=.bool ((((((decide ((0:Int)≤d0.time))&&(decide (d0.time≤(2147483647:Int))))&&(decide ((0:Int)≤d0.node)))&&(decide (d0.node≤(7:Int))))&&(decide ((d0.text.length:Int)≤(8:Int))))&&((!d0.dead)||(d0.text==([]:Str))))) (r_pickAnd rfl (fun ht=>(gdT ht)) rfl) ?_
  refine o_w (v:=.bool ((((((decide ((0:Int)≤d0.time))&&(decide (d0.time≤(2147483647:Int))))&&(decide ((0:Int)≤d0.node)))&&(decide (d0.node≤(7:Int))))&&(decide ((d0.text.length:Int)≤(8:Int))))&&((!d0.dead)||(d0.text==([]:Str))))) (r_mov rfl) ?_
  refine o_vg (v:=.agg (cVal d0 A1 c2 A4 c5).toArray) (want_ct (t:=40) rfl rfl) (fun hk=>(r_lda agg_api_Value rfl (vs:=(cVal d0 A1 c2 A4 c5)) rfl (S7.now.part (n:=8) rfl))) rfl rfl ?_
  obtain ⟨x11,hx11,h⟩:=h
  refine o_callg (V:=.bool x11) cf_ref06_noCount (want_ct (t:=40) rfl rfl) (fun hk=>(mapv1 (gdT hk))) (fun hk=>(ref06_noCount_c d0 (kVal_mk (d:=d0) (H3.fr G8 (fun _ h=>h)) (H6.fr G8 (fun _ h=>h))) (hL.fr F7) (hx11 hk))) rfl ?_
  intro w11 F11
  have E12:=F7.trans F11
  have G14:Fr L w7 w11:=Fr.ext F11
  refine o_w (v:=.bool (((((((decide ((0:Int)≤d0.time))&&(decide (d0.time≤(2147483647:Int))))&&(decide ((0:Int)≤d0.node)))&&(decide (d0.node≤(7:Int))))&&(decide ((d0.text.length:Int)≤(8:Int))))&&((!d0.dead)||(d0.text==([]:Str))))&&x11)) (r_pickAnd rfl (fun ht=>(gdT ht)) rfl) ?_
  refine o_w (v:=.bool (((((((decide ((0:Int)≤d0.time))&&(decide (d0.time≤(2147483647:Int))))&&(decide ((0:Int)≤d0.node)))&&(decide (d0.node≤(7:Int))))&&(decide ((d0.text.length:Int)≤(8:Int))))&&((!d0.dead)||(d0.text==([]:Str))))&&x11)) (r_mov rfl) ?_
  refine o_vg (v:=.pointer (some ⟨b7,7,none⟩)) (want_ct (t:=44) rfl rfl) (fun hk=>(r_fa fld_api_Value_7 rfl rfl)) rfl rfl ?_
  refine o_vg (v:=.int .u64 d0.flags) (want_ct (t:=44) rfl rfl) (fun hk=>(r_ld one_uint64 (gdT hk) ((S7.fr G14 (fun _ h=>h)).now.cell rfl))) rfl rfl ?_
  refine o_vg (v:=.bool (d0.flags==(0:Int))) (want_ct (t:=44) rfl rfl) (fun hk=>(r_int (gdT hk) rfl rfl)) rfl rfl ?_
  refine o_w (v:=.bool ((((((((decide ((0:Int)≤d0.time))&&(decide (d0.time≤(2147483647:Int))))&&(decide ((0:Int)≤d0.node)))&&(decide (d0.node≤(7:Int))))&&(decide ((d0.text.length:Int)≤(8:Int))))&&((!d0.dead)||(d0.text==([]:Str))))&&x11)&&(d0.flags==(0:Int)))) (r_pickAnd rfl (fun ht=>(gdT ht)) rfl) ?_
  refine o_w (v:=.bool ((((((((decide ((0:Int)≤d0.time))&&(decide (d0.time≤(2147483647:Int))))&&(decide ((0:Int)≤d0.node)))&&(decide (d0.node≤(7:Int))))&&(decide ((d0.text.length:Int)≤(8:Int))))&&((!d0.dead)||(d0.text==([]:Str))))&&x11)&&(d0.flags==(0:Int)))) (r_asg rfl) ?_
  refine eo_nil_sq ?_
  refine ec_ret ?_
  refine sq_ret ?_
  subst h
  exact (end1 rfl ⟨_,rfl,E12,rfl⟩)
 ·replace h:=h.2 hc9
  refine ec_skip ?_
  refine sq_n ?_
  iterate 2 refine ec_seq ?_
  refine ec_region ?_
  refine o_w (v:=.pointer (some ⟨b7,0,none⟩)) (r_fa fld_api_Value_0 rfl rfl) ?_
  refine o_w (v:=.int .i64 d0.kind) (r_ld one_int rfl (S7.now.cell rfl)) ?_
  refine o_w (v:=.bool (d0.kind==(2:Int))) (r_int rfl rfl rfl) ?_
  refine eo_nil_sq ?_
  refine ec_cond rfl (fun hc15=>?_) (fun hc15=>?_)
  ·replace h:=h.1 hc15
   refine ec_seq ?_
   refine ec_region ?_
   refine o_w (v:=.pointer (some ⟨b7,5,none⟩)) (r_fa fld_api_Value_5 rfl rfl) ?_
   refine o_w (v:=.slice A1 d0.plus.length c2) (r_ld one_s_int rfl (S7.now.cell rfl)) ?_
   obtain ⟨x19,hx19,h⟩:=h
   refine o_call cf_ref06_counts rfl (ref06_counts_c d0.plus (H3.fr G8 (fun _ h=>h)) (hL.fr F7) hx19) rfl rfl ?_
   rintro _ w19 ⟨F19,rfl⟩
   have E20:=F7.trans F19
   have G22:Fr L w7 w19:=Fr.ext F19
   refine o_w (v:=.bool x19) (r_mov rfl) ?_
   refine o_vg (v:=.pointer (some ⟨b7,6,none⟩)) (want_ct (t:=55) rfl rfl) (fun hk=>(r_fa fld_api_Value_6 rfl rfl)) rfl rfl ?_
   refine o_vg (v:=.slice A4 d0.minus.length c5) (want_ct (t:=55) rfl rfl) (fun hk=>(r_ld one_s_int (gdT hk) ((S7.fr G22 (fun _ h=>h)).now.cell rfl))) rfl rfl ?_
   obtain ⟨x23,hx23,h⟩:=h
   refine o_callg (V:=.bool x23) cf_ref06_counts (want_ct (t:=55) rfl rfl) (fun hk=>(mapv1 (gdT hk))) (fun hk=>(ref06_counts_c d0.minus (H6.fr (G8.trans (Fr.ext F19)) (fun _ h=>h)) (hL.fr E20) (hx23 hk))) rfl ?_
   intro w23 F23
   have E24:=E20.trans F23
   refine o_w (v:=.bool (x19&&x23)) (r_pickAnd rfl (fun ht=>(gdT ht)) rfl) ?_
   refine o_w (v:=.bool (x19&&x23)) (r_mov rfl) ?_
   refine o_vg (v:=.agg (cVal d0 A1 c2 A4 c5).toArray) (want_ct (t:=60) rfl rfl) (fun hk=>(r_lda agg_api_Value rfl (vs:=(cVal d0 A1 c2 A4 c5)) rfl ((S7.fr (G22.trans (Fr.ext F23)) (fun _ h=>h)).now.part (n:=8) rfl))) rfl rfl ?_
   obtain ⟨x27,hx27,h⟩:=h
   refine o_callg (V:=.bool x27) cf_ref06_noReg (want_ct (t:=60) rfl rfl) (fun hk=>(mapv1 (gdT hk))) (fun hk=>(ref06_noReg_c d0 (kVal_mk (d:=d0) (H3.fr ((G8.trans (Fr.ext F19)).trans (Fr.ext F23)) (fun _ h=>h)) (H6.fr ((G8.trans (Fr.ext F19)).trans (Fr.ext F23)) (fun _ h=>h))) (hL.fr E24) (hx27 hk))) rfl ?_
   intro w27 F27
   have E28:=E24.trans F27
   refine o_w (v:=.bool ((x19&&x23)&&x27)) (r_pickAnd rfl (fun ht=>(gdT ht)) rfl) ?_
   refine o_w (v:=.bool ((x19&&x23)&&x27)) (r_mov rfl) ?_
   refine o_vg (v:=.pointer (some ⟨b7,7,none⟩)) (want_ct (t:=64) rfl rfl) (fun hk=>(r_fa fld_api_Value_7 rfl rfl)) rfl rfl ?_
   refine o_vg (v:=.int .u64 d0.flags) (want_ct (t:=64) rfl rfl) (fun hk=>(r_ld one_uint64 (gdT hk) ((S7.fr ((G22.trans (Fr.ext F23)).trans (Fr.ext F27)) (fun _ h=>h)).now.cell rfl))) rfl rfl ?_
   refine o_vg (v:=.bool (d0.flags==(0:Int))) (want_ct (t:=64) rfl rfl) (fun hk=>(r_int (gdT hk) rfl rfl)) rfl rfl ?_
   refine o_w (v:=.bool (((x19&&x23)&&x27)&&(d0.flags==(0:Int)))) (r_pickAnd rfl (fun ht=>(gdT ht)) rfl) ?_
   refine o_w (v:=.bool (((x19&&x23)&&x27)&&(d0.flags==(0:Int)))) (r_asg rfl) ?_
   refine eo_nil_sq ?_
   refine ec_ret ?_
   refine sq_ret ?_
   subst h
   exact (end1 rfl ⟨_,rfl,E28,rfl⟩)
  ·replace h:=h.2 hc15
   refine ec_skip ?_
   refine sq_n ?_
   refine ec_seq ?_
   refine ec_region ?_
   refine o_w (v:=.pointer (some ⟨b7,0,none⟩)) (r_fa fld_api_Value_0 rfl rfl) ?_
   refine o_w (v:=.int .i64 d0.kind) (r_ld one_int rfl (S7.now.cell rfl)) ?_
   refine o_w (v:=.bool (d0.kind==(3:Int))) (r_int rfl rfl rfl) ?_
   refine o_w (v:=.bool (d0.kind==(3:Int))) (r_mov rfl) ?_
   refine o_vg (v:=.agg (cVal d0 A1 c2 A4 c5).toArray) (want_ct (t:=72) rfl rfl) (fun hk=>(r_lda agg_api_Value rfl (vs:=(cVal d0 A1 c2 A4 c5)) rfl (S7.now.part (n:=8) rfl))) rfl rfl ?_
   obtain ⟨x33,hx33,h⟩:=h
   refine o_callg (V:=.bool x33) cf_ref06_noReg (want_ct (t:=72) rfl rfl) (fun hk=>(mapv1 (gdT hk))) (fun hk=>(ref06_noReg_c d0 (kVal_mk (d:=d0) (H3.fr G8 (fun _ h=>h)) (H6.fr G8 (fun _ h=>h))) (hL.fr F7) (hx33 hk))) rfl ?_
   intro w33 F33
   have E34:=F7.trans F33
   have G36:Fr L w7 w33:=Fr.ext F33
   refine o_w (v:=.bool ((d0.kind==(3:Int))&&x33)) (r_pickAnd rfl (fun ht=>(gdT ht)) rfl) ?_
   refine o_w (v:=.bool ((d0.kind==(3:Int))&&x33)) (r_mov rfl) ?_
   refine o_vg (v:=.agg (cVal d0 A1 c2 A4 c5).toArray) (want_ct (t:=76) rfl rfl) (fun hk=>(r_lda agg_api_Value rfl (vs:=(cVal d0 A1 c2 A4 c5)) rfl ((S7.fr G36 (fun _ h=>h)).now.part (n:=8) rfl))) rfl rfl ?_
   obtain ⟨x37,hx37,h⟩:=h
   refine o_callg (V:=.bool x37) cf_ref06_noCount (want_ct (t:=76) rfl rfl) (fun hk=>(mapv1 (gdT hk))) (fun hk=>(ref06_noCount_c d0 (kVal_mk (d:=d0) (H3.fr (G8.trans (Fr.ext F33)) (fun _ h=>h)) (H6.fr (G8.trans (Fr.ext F33)) (fun _ h=>h))) (hL.fr E34) (hx37 hk))) rfl ?_
   intro w37 F37
   have E38:=E34.trans F37
   refine o_w (v:=.bool (((d0.kind==(3:Int))&&x33)&&x37)) (r_pickAnd rfl (fun ht=>(gdT ht)) rfl) ?_
   refine o_w (v:=.bool (((d0.kind==(3:Int))&&x33)&&x37)) (r_asg rfl) ?_
   refine eo_nil_sq ?_
   refine ec_ret ?_
   subst h
   exact (end1 rfl ⟨_,rfl,E38,rfl⟩)
def ref06_most_b1 (d0:(List Int)) (d1:(List Int)) (s1:List Int × Int) (z1:(List Int × Int) ⊕ (List Int × Int)):Prop :=
 ((decide (s1.2<(d0.length:Int)))=true→((0≤s1.2∧s1.2<(d0.length:Int))∧((0≤s1.2∧s1.2<(d1.length:Int))∧((s1.1.length + 1≤9223372036854775807∧(s1.1.length + 1) * 8≤140737488355328)∧(z1=.inl ((s1.1++([(max (nth d0 s1.2) (nth d1 s1.2))]:List Int)),(IntKind.i64.wrap (s1.2 + (1:Int)))))))))∧((decide (s1.2<(d0.length:Int)))=false→(z1=.inr (s1.1,s1.2)))
def ref06_most_raw (d0:(List Int)) (d1:(List Int)) (y:(List Int)):Prop :=
 ∃ x1,LoopR (ref06_most_b1 d0 d1) (([]:List Int),(0:Int)) x1∧(y=x1.1)
set_option maxRecDepth 20000 in
set_option maxHeartbeats 4000000 in
theorem ref06_most_c {L:List Nat} {w:World} {AP0:Option Addr} {cP0:Nat} (d0:(List Int)) (HP0:Stb L w (fun w=>SlC (kI .i64) w AP0 cP0 d0)) {AP1:Option Addr} {cP1:Nat} (d1:(List Int)) (HP1:Stb L w (fun w=>SlC (kI .i64) w AP1 cP1 d1)) (hL:Lt L w) {y:(List Int)} (h:ref06_most_raw d0 d1 y) :
  Calls Try.prog 58 [.slice AP0 d0.length cP0,.slice AP1 d1.length cP1].toArray w (Ret fun v w'=>Ext w w'∧∃ (A90:Option Addr) (c90:Nat),v=.slice A90 (y).length c90∧Stb L w' (fun w=>SlC (kI .i64) w A90 c90 y)):=by
 unfold ref06_most_raw at h
 refine calls_ec Try.func58 rfl rfl rfl ?_
 refine ec_seq ?_
 refine ec_region ?_
 refine o_w (v:=.slice none ([]:List Int).length 0) (r_asg rfl) ?_
 refine eo_nil_sq ?_
 refine ec_seq ?_
 refine ec_region ?_
 refine o_w (v:=.slice none ([]:List Int).length 0) (r_asg rfl) ?_
 refine eo_nil_sq ?_
 iterate 2 refine ec_seq ?_
 refine ec_region ?_
 refine o_w (v:=.int .i64 (0:Int)) (r_asg rfl) ?_
 refine eo_nil_sq ?_
 refine ec_block ?_
 have lo2:w.heap.size≤w.heap.size:=Nat.le_refl _
 have O2:=OwnS.nil (k:=(kI .i64)) (e:=3) (by decide) hL
 obtain ⟨x1,hl1,h⟩:=h
 refine ec_loopE 0 (I:=(fun (s1:List Int × Int) ρ ds w'=>∃ (ρ':Env) (v1i1:Value),ρ=envs ρ' [(5,v1i1),(6,.int .i64 s1.2),(0,.slice AP0 d0.length cP0),(1,.slice AP1 d1.length cP1)]∧ds=[]∧Fr (own (.slice none 0 0)++L) w w'∧Ext w w'∧OwnS (kI .i64) (w.heap.size) 3 L w' v1i1 s1.1∧(∀ q∈own v1i1,q∈(own (.slice none 0 0)++L)∨w.heap.size≤q))) ?_ hl1 ?_ ?_
 ·intro s1 z1 ρ1 ds1 w1r hI1 hb1
  obtain ⟨ρ1r,v1r1,rfl,rfl,F1r,E1r,O1r1,N1r1⟩:=hI1
  have h:=hb1
  unfold ref06_most_b1 at h
  have G3:Fr L w w1r:=(Fr.refl _ _).stp F1r (upo (fun m hm=>by cases hm) (fun _ h=>.inl h))
  have P4:∀ m∈own v1r1,m∈L∨w.heap.size≤m:=fun m hm=>(N1r1 m hm).elim (fun h=>(show ∀ m∈(own (.slice none 0 0)++L),m∈L∨w.heap.size≤m from (upo (fun m hm=>by cases hm) (fun _ h=>.inl h))) m h) (fun h=>.inr (Nat.le_trans (Nat.le_refl _) h))
  iterate 2 refine ec_seq ?_
  refine ec_region ?_
  refine o_w (v:=.int .i64 s1.2) (r_mov rfl) ?_
  refine o_w (v:=.slice AP0 d0.length cP0) (r_mov rfl) ?_
  refine o_w (v:=.int .i64 (d0.length:Int)) (r_len_slc un_s_int rfl) ?_
  refine o_w (v:=.bool (decide (s1.2<(d0.length:Int)))) (r_int rfl rfl rfl) ?_
  refine eo_nil_sq ?_
  refine ec_cond rfl (fun hc5=>?_) (fun hc5=>?_)
  ·replace h:=h.1 hc5
   refine ec_skip ?_
   refine sq_n ?_
   refine ec_seq ?_
   refine ec_block ?_
   obtain ⟨ha15,h⟩:=h
   obtain ⟨cs16,l18,H17⟩:=Stb.elem (by decide) (HP0.up G3 (fun _ h=>h) (upo P4 (fun _ h=>.inl h))) s1.2 ha15.1 ha15.2
   obtain ⟨rfl,H17'⟩:=kI_open2 H17
   obtain ⟨ha19,h⟩:=h
   obtain ⟨cs20,l22,H21⟩:=Stb.elem (by decide) (HP1.up G3 (fun _ h=>h) (upo P4 (fun _ h=>.inl h))) s1.2 ha19.1 ha19.2
   obtain ⟨rfl,H21'⟩:=kI_open2 H21
   obtain ⟨ha23,h⟩:=h
   refine ec_anyN (by kernel_rfl) [[],[],[],[1,2],[1,2,3],[],[],[5,6],[5,6,7],[1,2,3,4,5,6,7,8],[1,2,3,4,5,6,7,8,9],[0,1,2,3,4,5,6,7,8,9,10],[0,1,2,3,4,5,6,7,8,9,10,11]] [5,13,14,15,16,17,18,19,20,21,22,23,24] (own v1r1++[]) [11] [own v1r1] [[11,12]] [fun w'=>OwnS (kI .i64) (w.heap.size) 3 L w' v1r1 s1.1,fun _=>True] [fun v _=>v=(v1r1:Value),fun v _=>v=(.slice AP0 d0.length cP0:Value),fun v _=>v=(.int .i64 s1.2:Value),fun v _=>v=(.pointer (some (elemA AP0 (kI .i64).n s1.2.toNat)):Value),fun v _=>v=(.int .i64 (nth d0 s1.2):Value),fun v _=>v=(.slice AP1 d1.length cP1:Value),fun v _=>v=(.int .i64 s1.2:Value),fun v _=>v=(.pointer (some (elemA AP1 (kI .i64).n s1.2.toNat)):Value),fun v _=>v=(.int .i64 (nth d1 s1.2):Value),fun v _=>v=(.int .i64 (max (nth d0 s1.2) (nth d1 s1.2)):Value),fun v w'=>∃ b14_10,v=(.slice (some ⟨b14_10,0,none⟩) 1 1:Value)∧Blk w' b14_10 3 [.int .i64 (max (nth d0 s1.2) (nth d1 s1.2))]∧w1r.heap.size≤b14_10,fun v w'=>∃ v14_11,v=(v14_11:Value)∧OwnS (kI .i64) (w.heap.size) 3 L w' v14_11 (s1.1++([(max (nth d0 s1.2) (nth d1 s1.2))]:List Int))∧(∀ q∈own v14_11,q∈own v1r1∨w1r.heap.size≤q),fun v w'=>∃ v14_11,v=(v14_11:Value)∧OwnS (kI .i64) (w.heap.size) 3 L w' v14_11 (s1.1++([(max (nth d0 s1.2) (nth d1 s1.2))]:List Int))∧(∀ q∈own v14_11,q∈own v1r1∨w1r.heap.size≤q)] (by kernel_rfl) (allM1 (fun m hm=>by first | exact hm | (simp at hm ⊢; simp [hm]; done) | simp_all) (fun _ h=>by cases h)) ⟨fun _ _ _ _ _ h=>h,fun _ _ _ _ _ h=>h,fun _ _ _ _ _ h=>h,fun _ _ _ _ _ h=>h,fun _ _ _ _ _ h=>h,fun _ _ _ _ _ h=>h,fun _ _ _ _ _ h=>h,fun _ _ _ _ _ h=>h,fun _ _ _ _ _ h=>h,fun _ _ _ _ _ h=>h,fun _ v w' w'' F h=>by obtain ⟨b14_10,hv,B14_10,qB14_10⟩:=h; exact ⟨b14_10,hv,(B14_10.ex F),qB14_10⟩,fun _ v w' w'' F h=>by obtain ⟨v14_11,hv,O14_11,NO14_11⟩:=h; exact ⟨v14_11,hv,(O14_11.ex F),NO14_11⟩,fun _ v w' w'' F h=>by obtain ⟨v14_11,hv,O14_11,NO14_11⟩:=h; exact ⟨v14_11,hv,(O14_11.ex F),NO14_11⟩,trivial⟩ ⟨⟨fun _ _ _ _ _ h=>h,fun _ _ _ _ _ h=>h,fun _ _ _ _ _ h=>h,fun _ _ _ _ _ h=>h,fun _ _ _ _ _ h=>h,fun _ _ _ _ _ h=>h,fun _ _ _ _ _ h=>h,fun _ _ _ _ _ h=>h,fun _ _ _ _ _ h=>h,fun _ _ _ _ _ h=>h,fun _ v w' w'' F h=>by obtain ⟨b14_10,hv,B14_10,qB14_10⟩:=h; exact ⟨b14_10,hv,(B14_10.fr F (fun hm=>by have h1:=O1r1.ltw _ hm; omega)),qB14_10⟩,(fun h=>absurd h (by decide)),(fun h=>absurd h (by decide)),trivial⟩,trivial⟩ ⟨fun w' w'' F h=>by have hO14_2:=h; exact (hO14_2.ex F),fun _ _ _ h=>h,trivial⟩ O1r1 ?_ ?_ ?_
   ·refine ⟨?_,?_,?_,?_,?_,?_,?_,?_,?_,?_,?_,?_,?_,trivial⟩
    ·intro _ ρ w14o F14o hX hS hρ
     have F14o:=hX 11 rfl rfl
     have q5:ρ 5=v1r1:=hρ 5 (by kernel_rfl)
     exact o_q (r_mov q5) ⟨Fr.refl _ _,rfl⟩
    ·intro _ ρ w14o F14o hX hS hρ
     have F14o:=hX 11 rfl rfl
     have q0:ρ 0=.slice AP0 d0.length cP0:=hρ 0 (by kernel_rfl)
     exact o_q (r_mov q0) ⟨Fr.refl _ _,rfl⟩
    ·intro _ ρ w14o F14o hX hS hρ
     have F14o:=hX 11 rfl rfl
     have q6:ρ 6=.int .i64 s1.2:=hρ 6 (by kernel_rfl)
     exact o_q (r_mov q6) ⟨Fr.refl _ _,rfl⟩
    ·intro _ ρ w14o F14o hX hS hρ
     have F14o:=hX 11 rfl rfl
     have q14:ρ 14=.slice AP0 d0.length cP0:=hS 1 (by decide) 14 rfl
     have q15:ρ 15=.int .i64 s1.2:=hS 2 (by decide) 15 rfl
     exact o_q (r_ia slc_s_int q14 q15 ((HP0.fr (G3.trans (Fr.ext F14o)) (fun _ h=>h)).now.2 _ (lt_toNat ha15.1 ha15.2)).1 ha15.1 ha15.2) ⟨Fr.refl _ _,rfl⟩
    ·intro _ ρ w14o F14o hX hS hρ
     have F14o:=hX 11 rfl rfl
     have G32:Fr (own v1r1++L) w1r w14o:=Fr.ext F14o
     have q16:ρ 16=.pointer (some (elemA AP0 (kI .i64).n s1.2.toNat)):=hS 3 (by decide) 16 rfl
     exact o_q (r_ld' one_int q16 (elemA_spot _ _ _) ((H17'.fr G32 (fun _ h=>h)).now.1.at0 (elemA_spot _ _ _))) ⟨Fr.refl _ _,rfl⟩
    ·intro _ ρ w14o F14o hX hS hρ
     have F14o:=hX 11 rfl rfl
     have q1:ρ 1=.slice AP1 d1.length cP1:=hρ 1 (by kernel_rfl)
     exact o_q (r_mov q1) ⟨Fr.refl _ _,rfl⟩
    ·intro _ ρ w14o F14o hX hS hρ
     have F14o:=hX 11 rfl rfl
     have q6:ρ 6=.int .i64 s1.2:=hρ 6 (by kernel_rfl)
     exact o_q (r_mov q6) ⟨Fr.refl _ _,rfl⟩
    ·intro _ ρ w14o F14o hX hS hρ
     have F14o:=hX 11 rfl rfl
     have q18:ρ 18=.slice AP1 d1.length cP1:=hS 5 (by decide) 18 rfl
     have q19:ρ 19=.int .i64 s1.2:=hS 6 (by decide) 19 rfl
     exact o_q (r_ia slc_s_int q18 q19 ((HP1.fr (G3.trans (Fr.ext F14o)) (fun _ h=>h)).now.2 _ (lt_toNat ha19.1 ha19.2)).1 ha19.1 ha19.2) ⟨Fr.refl _ _,rfl⟩
    ·intro _ ρ w14o F14o hX hS hρ
     have F14o:=hX 11 rfl rfl
     have G42:Fr (own v1r1++L) w1r w14o:=Fr.ext F14o
     have q20:ρ 20=.pointer (some (elemA AP1 (kI .i64).n s1.2.toNat)):=hS 7 (by decide) 20 rfl
     exact o_q (r_ld' one_int q20 (elemA_spot _ _ _) ((H21'.fr G42 (fun _ h=>h)).now.1.at0 (elemA_spot _ _ _))) ⟨Fr.refl _ _,rfl⟩
    ·intro _ ρ w14o F14o hX hS hρ
     have F14o:=hX 11 rfl rfl
     have q17:ρ 17=.int .i64 (nth d0 s1.2):=hS 4 (by decide) 17 rfl
     have q21:ρ 21=.int .i64 (nth d1 s1.2):=hS 8 (by decide) 21 rfl
     exact o_q (r_max q17 q21) ⟨Fr.refl _ _,rfl⟩
    ·intro _ ρ w14o F14o hX hS hρ
     have F14o:=hX 11 rfl rfl
     have q22:ρ 22=.int .i64 (max (nth d0 s1.2) (nth d1 s1.2)):=hS 9 (by decide) 22 rfl
     refine o_bslice slc_s_int rfl (vs:=[.int .i64 (max (nth d0 s1.2) (nth d1 s1.2))]) (by simp only [List.map,ev,idx,q22]) rfl rfl (cs:=[.int .i64 (max (nth d0 s1.2) (nth d1 s1.2))]) rfl rfl rfl rfl ?_
     intro b w' e F B
     exact eo_nil ⟨rfl,rfl,_,rfl,F,b,rfl,B,by rw [e]; exact F14o.size⟩
    ·intro hT; exact absurd hT (by decide)
    ·intro _ ρ w14o F14o hX hS hρ
     obtain ⟨v14_11,q24,O14_11,NO14_11⟩:=hS 11 (by decide) 24 rfl
     exact o_q (r_asg q24) ⟨Fr.refl _ _,⟨v14_11,rfl,O14_11,NO14_11⟩⟩
   ·refine ⟨⟨_,rfl,?_⟩,trivial⟩
    ·intro ρ w14o F14o hX hI hS hρ
     have F14o:=hX rfl
     have hO14_2:=hI
     have q13:ρ 13=v1r1:=hS 0 (by decide) 13 rfl
     obtain ⟨b14_10,q23,B14_10,qB14_10⟩:=hS 10 (by decide) 23 rfl
     refine o_app slc_s_int rfl rfl (show ev ρ _=_ from q13) hO14_2 (show ev ρ _=_ from q23) B14_10 (ys:=([(max (nth d0 s1.2) (nth d1 s1.2))]:List Int)) rfl rfl rfl (rowd1 (cs:=[.int .i64 (max (nth d0 s1.2) (nth d1 s1.2))]) (fun _ _=>rfl) rfl) ha23 rfl rfl ?_
     intro v' w' F O Nn
     have N':∀ q∈own v',q∈own v1r1∨w1r.heap.size≤q:=fun q hq=>(Nn q hq).elim .inl (fun h=>.inr (Nat.le_trans F14o.size h))
     exact eo_nil ⟨rfl,rfl,_,rfl,F,trivial,v',rfl,O,N'⟩
   ·intro ρ w14 F14 hI hS hρ
    obtain ⟨v14_11,q5,O14_11,NO14_11⟩:=hS 12 5 rfl
    obtain ⟨ρ',rfl⟩:∃ ρ',ρ=envs (ovr [5,13,14,15,16,17,18,19,20,21,22,23,24] ρ' _) [(5,v14_11)]:=⟨ρ,ovr_self hρ ⟨q5,trivial⟩⟩
    have E49:Ext w w14:=Ext.st E1r F14 (upo (fun m hm=>Nat.le_trans lo2 (O1r1.lo m hm)) (fun m hm=>by cases hm))
    have G52:Fr (own (.slice none 0 0)++L) w w14:=Fr.stp F1r F14 (upo N1r1 (fun m hm=>by cases hm))
    have P53:∀ m∈own v14_11,m∈(own (.slice none 0 0)++L)∨w.heap.size≤m:=fun m hm=>(NO14_11 m hm).elim (fun h=>(show ∀ m∈own v1r1,m∈(own (.slice none 0 0)++L)∨w.heap.size≤m from N1r1) m h) (fun h=>.inr (Nat.le_trans (F1r.size) h))
    refine blk_n ?_
    refine sq_n ?_
    refine ec_region ?_
    refine o_w (v:=.int .i64 s1.2) (r_mov rfl) ?_
    refine o_w (v:=.int .i64 (IntKind.i64.wrap (s1.2 + (1:Int)))) (r_int rfl rfl rfl) ?_
    refine o_w (v:=.int .i64 (IntKind.i64.wrap (s1.2 + (1:Int)))) (r_asg rfl) ?_
    refine eo_nil ?_
    subst h
    exact lq_n ⟨_,v14_11,envs_self ⟨rfl,rfl,rfl,rfl,trivial⟩,rfl,G52,E49,O14_11,P53⟩
  ·replace h:=h.2 hc5
   refine ec_exit ?_
   refine sq_exit ?_
   subst h
   exact lq_x ⟨_,v1r1,envs_self ⟨rfl,rfl,rfl,rfl,trivial⟩,rfl,F1r,E1r,O1r1,N1r1⟩
 ·exact ⟨_,(.slice none 0 0),envs_self ⟨rfl,rfl,rfl,rfl,trivial⟩,rfl,(Fr.refl _ _),(Fr.refl _ _),O2,(fun q hq=>.inl (by simp [hq]))⟩
 ·rintro ρ1e ds1e w1e ⟨ρ1e,v1e1,rfl,rfl,F1e,E1e,O1e1,N1e1⟩
  refine blk_hit ?_
  refine sq_n ?_
  refine ec_seq ?_
  refine ec_region ?_
  refine o_w (v:=v1e1) (r_mov rfl) ?_
  refine o_w (v:=v1e1) (r_asg rfl) ?_
  refine eo_nil_sq ?_
  refine ec_ret ?_
  obtain ⟨A58,c59,eA58,H60⟩:=O1e1.still
  subst eA58
  have Zw1e_61:=Fr.refl L w1e
  subst h
  exact (end1 rfl ⟨_,rfl,E1e,_,_,rfl,(H60.fr Zw1e_61 (fun _ h=>h))⟩)
def ref06_Join_raw (d0:Val) (d1:Val) (y:Val × Int):Prop :=
 ∃ x30,ref06_Check_raw d0 x30∧(∃ x36,((!(!x30))=true→ref06_Check_raw d1 x36)∧((((!x30)||(!x36))=true→(y=((⟨(0:Int),(0:Int),(0:Int),false,([]:Str),([]:List Int),([]:List Int),(0:Int)⟩:Val),(2:Int))))∧(((!x30)||(!x36))=false→(((d0.kind != d1.kind)=true→(y=((⟨(0:Int),(0:Int),(0:Int),false,([]:Str),([]:List Int),([]:List Int),(0:Int)⟩:Val),(3:Int))))∧((d0.kind != d1.kind)=false→(((d0.kind==(1:Int))=true→(∃ x55,ref06_behind_raw d1 d0 x55∧((x55=true→(y=(d1,(0:Int))))∧(x55=false→(y=(d0,(0:Int)))))))∧((d0.kind==(1:Int))=false→(∃ x72,ref06_most_raw d0.plus d1.plus x72∧(∃ x87,ref06_most_raw d0.minus d1.minus x87∧(y=((⟨d0.kind,d0.time,d0.node,d0.dead,d0.text,x72,x87,(IntKind.u64.wrap ((BitVec.ofInt IntKind.u64.bits d0.flags ||| BitVec.ofInt IntKind.u64.bits d1.flags).toNat:Int))⟩:Val),(0:Int))))))))))))
set_option maxRecDepth 20000 in
set_option maxHeartbeats 4000000 in
theorem ref06_Join_c {L:List Nat} {w:World} {csP0:List Value} (d0:Val) (HP0:Stb L w (fun w=>kVal.r w csP0 d0)) {csP1:List Value} (d1:Val) (HP1:Stb L w (fun w=>kVal.r w csP1 d1)) (hL:Lt L w) {y:Val × Int} (h:ref06_Join_raw d0 d1 y) :
  Calls Try.prog 38 [.agg csP0.toArray,.agg csP1.toArray].toArray w (Ret fun v w'=>Ext w w'∧∃ (cs90:List Value),v=.tuple #[.agg cs90.toArray,.int .i64 y.2]∧Stb L w' (fun w=>kVal.r w cs90 y.1)):=by
 obtain ⟨A1,c2,A4,c5,rfl,H3,H6⟩:=kVal_open HP0
 obtain ⟨A7,c8,A10,c11,rfl,H9,H12⟩:=kVal_open HP1
 unfold ref06_Join_raw at h
 refine calls_ec Try.func38 rfl rfl rfl ?_
 refine ec_seq ?_
 refine ec_region ?_
 refine o_box (cs:=(cVal d0 A1 c2 A4 c5)) rfl rfl rfl ?_
 intro b13 w13 e13 F13 B13
 have n13:w.heap.size≤b13:=Nat.le_of_eq e13.symm
 have m14:w.heap.size≤b13:=Nat.le_of_eq e13.symm
 have G15:Fr L w w13:=Fr.ext F13
 refine o_box (cs:=(cVal d1 A7 c8 A10 c11)) rfl rfl rfl ?_
 intro b16 w16 e16 F16 B16
 have S16:=B16.stb (nin ((hL.fr F13).cons B13.lt) e16)
 have E17:=F13.trans F16
 refine o_alloc zero_api_Value rfl rfl rfl ?_
 intro b20 w20 e20 F20 B20
 have n20:w.heap.size≤b20:=by rw [e20]; exact E17.size
 have q21:b13<b20:=by rw [e20]; exact (B13.ex F16).lt
 have m22:w.heap.size≤b20:=by rw [e20]; exact (G15.trans (Fr.ext F16)).size
 have E24:=E17.trans F20
 have G26:Fr (b13::L) w16 w20:=Fr.ext F20
 refine o_w (v:=.int .i64 (0:Int)) (r_asg rfl) ?_
 refine eo_nil_sq ?_
 iterate 2 refine ec_seq ?_
 refine ec_region ?_
 refine o_w (v:=.agg (cVal d0 A1 c2 A4 c5).toArray) (r_lda agg_api_Value rfl (vs:=(cVal d0 A1 c2 A4 c5)) rfl (((B13.ex F16).ex F20).part (n:=8) rfl)) ?_
 obtain ⟨x30,hx30,h⟩:=h
 refine o_call cf_ref06_Check rfl (ref06_Check_c d0 (kVal_mk (d:=d0) (H3.up ((G15.trans (Fr.ext F16)).trans (Fr.ext F20)) (fun _ h=>h) (upc (.inr m22) (upc (.inr m14) (fun _ h=>.inl h)))) (H6.up ((G15.trans (Fr.ext F16)).trans (Fr.ext F20)) (fun _ h=>h) (upc (.inr m22) (upc (.inr m14) (fun _ h=>.inl h))))) (((hL.fr E24).cons ((B13.ex F16).ex F20).lt).cons B20.lt) hx30) rfl rfl ?_
 rintro _ w30 ⟨F30,rfl⟩
 have E31:=E24.trans F30
 refine o_w (v:=.bool (!x30)) (r_not rfl) ?_
 refine o_w (v:=.bool (!x30)) (r_mov rfl) ?_
 refine o_vg (v:=.agg (cVal d1 A7 c8 A10 c11).toArray) (want_cf (t:=9) rfl rfl) (fun hk=>(r_lda agg_api_Value rfl (vs:=(cVal d1 A7 c8 A10 c11)) rfl ((S16.fr (G26.trans (Fr.ext F30)) (fun _ h=>h)).now.part (n:=8) rfl))) rfl rfl ?_
 obtain ⟨x36,hx36,h⟩:=h
 refine o_callg (V:=.bool x36) cf_ref06_Check (want_cf (t:=9) rfl rfl) (fun hk=>(mapv1 (gdT hk))) (fun hk=>(ref06_Check_c d1 (kVal_mk (d:=d1) (H9.up (((G15.trans (Fr.ext F16)).trans (Fr.ext F20)).trans (Fr.ext F30)) (fun _ h=>h) (upc (.inr m22) (upc (.inr m14) (fun _ h=>.inl h)))) (H12.up (((G15.trans (Fr.ext F16)).trans (Fr.ext F20)).trans (Fr.ext F30)) (fun _ h=>h) (upc (.inr m22) (upc (.inr m14) (fun _ h=>.inl h))))) (((hL.fr E31).cons (((B13.ex F16).ex F20).ex F30).lt).cons (B20.ex F30).lt) (hx36 hk))) rfl ?_
 intro w36 F36
 have E37:=E31.trans F36
 have G38:=(((G15.trans (Fr.ext F16)).trans (Fr.ext F20)).trans (Fr.ext F30)).trans (Fr.ext F36)
 refine o_vg (v:=.bool (!x36)) (want_cf (t:=9) rfl rfl) (fun hk=>(r_not (gdT hk))) rfl rfl ?_
 refine o_w (v:=.bool ((!x30)||(!x36))) (r_pickOr rfl rfl (fun hf=>(gdT (notT hf)))) ?_
 refine eo_nil_sq ?_
 refine ec_cond rfl (fun hc42=>?_) (fun hc42=>?_)
 ·replace h:=h.1 hc42
  refine ec_seq ?_
  refine ec_region ?_
  refine o_w (v:=.agg #[.int .i64 (0:Int),.int .i64 (0:Int),.int .i64 (0:Int),.bool false,str ([]:Str),.slice none ([]:List Int).length 0,.slice none ([]:List Int).length 0,.int .u64 (0:Int)]) (r_build bld_api_Value (vs:=[]) (cells:=[.int .i64 (0:Int),.int .i64 (0:Int),.int .i64 (0:Int),.bool false,str ([]:Str),.slice none ([]:List Int).length 0,.slice none ([]:List Int).length 0,.int .u64 (0:Int)]) rfl rfl) ?_
  refine o_store rfl ((B20.ex F30).ex F36) (vs:=[.int .i64 (0:Int),.int .i64 (0:Int),.int .i64 (0:Int),.bool false,str ([]:Str),.slice none ([]:List Int).length 0,.slice none ([]:List Int).length 0,.int .u64 (0:Int)]) rfl sz_api_Value rfl rfl rfl ?_
  intro w43 F43 B43
  have E44:=Ext.st E37 F43 (by simp; omega)
  have B43':Blk w43 b20 _ [.int .i64 (0:Int),.int .i64 (0:Int),.int .i64 (0:Int),.bool false,str ([]:Str),.slice none ([]:List Int).length 0,.slice none ([]:List Int).length 0,.int .u64 (0:Int)]:=B43
  refine o_w (v:=.int .i64 (2:Int)) (r_asg rfl) ?_
  refine eo_nil_sq ?_
  refine ec_ret ?_
  refine sq_ret ?_
  subst h
  exact (endr2 (rv_a rfl (agg_api_Value) B43' (vs:=[.int .i64 (0:Int),.int .i64 (0:Int),.int .i64 (0:Int),.bool false,str ([]:Str),.slice none ([]:List Int).length 0,.slice none ([]:List Int).length 0,.int .u64 (0:Int)]) rfl rfl) (rv_t rfl) ⟨_,rfl,E44,_,rfl,(kVal_mk (d:=(⟨(0:Int),(0:Int),(0:Int),false,([]:Str),([]:List Int),([]:List Int),(0:Int)⟩:Val)) stb_nil stb_nil)⟩)
 ·replace h:=h.2 hc42
  refine ec_skip ?_
  refine sq_n ?_
  iterate 2 refine ec_seq ?_
  refine ec_region ?_
  refine o_w (v:=.pointer (some ⟨b13,0,none⟩)) (r_fa fld_api_Value_0 rfl rfl) ?_
  refine o_w (v:=.int .i64 d0.kind) (r_ld one_int rfl (((((B13.ex F16).ex F20).ex F30).ex F36).cell rfl)) ?_
  refine o_w (v:=.pointer (some ⟨b16,0,none⟩)) (r_fa fld_api_Value_0 rfl rfl) ?_
  refine o_w (v:=.int .i64 d1.kind) (r_ld one_int rfl ((S16.fr ((G26.trans (Fr.ext F30)).trans (Fr.ext F36)) (fun _ h=>h)).now.cell rfl)) ?_
  refine o_w (v:=.bool (d0.kind != d1.kind)) (r_int rfl rfl rfl) ?_
  refine eo_nil_sq ?_
  refine ec_cond rfl (fun hc48=>?_) (fun hc48=>?_)
  ·replace h:=h.1 hc48
   refine ec_seq ?_
   refine ec_region ?_
   refine o_w (v:=.agg #[.int .i64 (0:Int),.int .i64 (0:Int),.int .i64 (0:Int),.bool false,str ([]:Str),.slice none ([]:List Int).length 0,.slice none ([]:List Int).length 0,.int .u64 (0:Int)]) (r_build bld_api_Value (vs:=[]) (cells:=[.int .i64 (0:Int),.int .i64 (0:Int),.int .i64 (0:Int),.bool false,str ([]:Str),.slice none ([]:List Int).length 0,.slice none ([]:List Int).length 0,.int .u64 (0:Int)]) rfl rfl) ?_
   refine o_store rfl ((B20.ex F30).ex F36) (vs:=[.int .i64 (0:Int),.int .i64 (0:Int),.int .i64 (0:Int),.bool false,str ([]:Str),.slice none ([]:List Int).length 0,.slice none ([]:List Int).length 0,.int .u64 (0:Int)]) rfl sz_api_Value rfl rfl rfl ?_
   intro w49 F49 B49
   have E50:=Ext.st E37 F49 (by simp; omega)
   have B49':Blk w49 b20 _ [.int .i64 (0:Int),.int .i64 (0:Int),.int .i64 (0:Int),.bool false,str ([]:Str),.slice none ([]:List Int).length 0,.slice none ([]:List Int).length 0,.int .u64 (0:Int)]:=B49
   refine o_w (v:=.int .i64 (3:Int)) (r_asg rfl) ?_
   refine eo_nil_sq ?_
   refine ec_ret ?_
   refine sq_ret ?_
   subst h
   exact (endr2 (rv_a rfl (agg_api_Value) B49' (vs:=[.int .i64 (0:Int),.int .i64 (0:Int),.int .i64 (0:Int),.bool false,str ([]:Str),.slice none ([]:List Int).length 0,.slice none ([]:List Int).length 0,.int .u64 (0:Int)]) rfl rfl) (rv_t rfl) ⟨_,rfl,E50,_,rfl,(kVal_mk (d:=(⟨(0:Int),(0:Int),(0:Int),false,([]:Str),([]:List Int),([]:List Int),(0:Int)⟩:Val)) stb_nil stb_nil)⟩)
  ·replace h:=h.2 hc48
   refine ec_skip ?_
   refine sq_n ?_
   iterate 2 refine ec_seq ?_
   refine ec_region ?_
   refine o_w (v:=.pointer (some ⟨b13,0,none⟩)) (r_fa fld_api_Value_0 rfl rfl) ?_
   refine o_w (v:=.int .i64 d0.kind) (r_ld one_int rfl (((((B13.ex F16).ex F20).ex F30).ex F36).cell rfl)) ?_
   refine o_w (v:=.bool (d0.kind==(1:Int))) (r_int rfl rfl rfl) ?_
   refine eo_nil_sq ?_
   refine ec_cond rfl (fun hc54=>?_) (fun hc54=>?_)
   ·replace h:=h.1 hc54
    iterate 2 refine ec_seq ?_
    refine ec_region ?_
    refine o_w (v:=.agg (cVal d1 A7 c8 A10 c11).toArray) (r_lda agg_api_Value rfl (vs:=(cVal d1 A7 c8 A10 c11)) rfl ((S16.fr ((G26.trans (Fr.ext F30)).trans (Fr.ext F36)) (fun _ h=>h)).now.part (n:=8) rfl)) ?_
    refine o_w (v:=.agg (cVal d0 A1 c2 A4 c5).toArray) (r_lda agg_api_Value rfl (vs:=(cVal d0 A1 c2 A4 c5)) rfl (((((B13.ex F16).ex F20).ex F30).ex F36).part (n:=8) rfl)) ?_
    obtain ⟨x55,hx55,h⟩:=h
    refine o_call cf_ref06_behind rfl (ref06_behind_c d1 (kVal_mk (d:=d1) (H9.up G38 (fun _ h=>h) (upc (.inr m22) (upc (.inr m14) (fun _ h=>.inl h)))) (H12.up G38 (fun _ h=>h) (upc (.inr m22) (upc (.inr m14) (fun _ h=>.inl h))))) d0 (kVal_mk (d:=d0) (H3.up G38 (fun _ h=>h) (upc (.inr m22) (upc (.inr m14) (fun _ h=>.inl h)))) (H6.up G38 (fun _ h=>h) (upc (.inr m22) (upc (.inr m14) (fun _ h=>.inl h))))) (((hL.fr E37).cons ((((B13.ex F16).ex F20).ex F30).ex F36).lt).cons ((B20.ex F30).ex F36).lt) hx55) rfl rfl ?_
    rintro _ w55 ⟨F55,rfl⟩
    have E56:=E37.trans F55
    refine eo_nil_sq ?_
    refine ec_cond rfl (fun hc61=>?_) (fun hc61=>?_)
    ·replace h:=h.1 hc61
     refine ec_seq ?_
     refine ec_region ?_
     refine o_w (v:=.agg (cVal d1 A7 c8 A10 c11).toArray) (r_lda agg_api_Value rfl (vs:=(cVal d1 A7 c8 A10 c11)) rfl ((S16.fr (((G26.trans (Fr.ext F30)).trans (Fr.ext F36)).trans (Fr.ext F55)) (fun _ h=>h)).now.part (n:=8) rfl)) ?_
     refine o_store rfl (((B20.ex F30).ex F36).ex F55) (vs:=(cVal d1 A7 c8 A10 c11)) rfl sz_api_Value rfl rfl rfl ?_
     intro w62 F62 B62
     have E63:=Ext.st E56 F62 (by simp; omega)
     have G64:Fr L w w62:=(G38.trans (Fr.ext F55)).stp F62 (upc (.inr m22) (fun m hm=>by cases hm))
     have B62':Blk w62 b20 _ (cVal d1 A7 c8 A10 c11):=B62
     refine o_w (v:=.int .i64 (0:Int)) (r_asg rfl) ?_
     refine eo_nil_sq ?_
     refine ec_ret ?_
     iterate 2 refine sq_ret ?_
     subst h
     exact (endr2 (rv_a rfl (agg_api_Value) B62' (vs:=(cVal d1 A7 c8 A10 c11)) rfl rfl) (rv_t rfl) ⟨_,rfl,E63,_,rfl,(kVal_mk (d:=d1) (H9.fr G64 (fun _ h=>h)) (H12.fr G64 (fun _ h=>h)))⟩)
    ·replace h:=h.2 hc61
     refine ec_skip ?_
     refine sq_n ?_
     refine ec_seq ?_
     refine ec_region ?_
     refine o_w (v:=.agg (cVal d0 A1 c2 A4 c5).toArray) (r_lda agg_api_Value rfl (vs:=(cVal d0 A1 c2 A4 c5)) rfl ((((((B13.ex F16).ex F20).ex F30).ex F36).ex F55).part (n:=8) rfl)) ?_
     refine o_store rfl (((B20.ex F30).ex F36).ex F55) (vs:=(cVal d0 A1 c2 A4 c5)) rfl sz_api_Value rfl rfl rfl ?_
     intro w67 F67 B67
     have E68:=Ext.st E56 F67 (by simp; omega)
     have G69:Fr L w w67:=(G38.trans (Fr.ext F55)).stp F67 (upc (.inr m22) (fun m hm=>by cases hm))
     have B67':Blk w67 b20 _ (cVal d0 A1 c2 A4 c5):=B67
     refine o_w (v:=.int .i64 (0:Int)) (r_asg rfl) ?_
     refine eo_nil_sq ?_
     refine ec_ret ?_
     refine sq_ret ?_
     subst h
     exact (endr2 (rv_a rfl (agg_api_Value) B67' (vs:=(cVal d0 A1 c2 A4 c5)) rfl rfl) (rv_t rfl) ⟨_,rfl,E68,_,rfl,(kVal_mk (d:=d0) (H3.fr G69 (fun _ h=>h)) (H6.fr G69 (fun _ h=>h)))⟩)
   ·replace h:=h.2 hc54
    refine ec_skip ?_
    refine sq_n ?_
    refine ec_seq ?_
    refine ec_region ?_
    refine o_w (v:=.pointer (some ⟨b13,5,none⟩)) (r_fa fld_api_Value_5 rfl rfl) ?_
    refine o_w (v:=.slice A1 d0.plus.length c2) (r_ld one_s_int rfl (((((B13.ex F16).ex F20).ex F30).ex F36).cell rfl)) ?_
    refine o_w (v:=.pointer (some ⟨b16,5,none⟩)) (r_fa fld_api_Value_5 rfl rfl) ?_
    refine o_w (v:=.slice A7 d1.plus.length c8) (r_ld one_s_int rfl ((S16.fr ((G26.trans (Fr.ext F30)).trans (Fr.ext F36)) (fun _ h=>h)).now.cell rfl)) ?_
    obtain ⟨x72,hx72,h⟩:=h
    refine o_call cf_ref06_most rfl (ref06_most_c d0.plus (H3.up G38 (fun _ h=>h) (upc (.inr m22) (upc (.inr m14) (fun _ h=>.inl h)))) d1.plus (H9.up G38 (fun _ h=>h) (upc (.inr m22) (upc (.inr m14) (fun _ h=>.inl h)))) (((hL.fr E37).cons ((((B13.ex F16).ex F20).ex F30).ex F36).lt).cons ((B20.ex F30).ex F36).lt) hx72) rfl rfl ?_
    rintro _ w72 ⟨F72,A73,c74,rfl,H75⟩
    have E76:=E37.trans F72
    refine o_w (v:=.pointer (some ⟨b13,5,none⟩)) (r_fa fld_api_Value_5 rfl rfl) ?_
    refine o_store rfl (((((B13.ex F16).ex F20).ex F30).ex F36).ex F72) (vs:=[.slice A73 x72.length c74]) rfl sz_s_int rfl rfl rfl ?_
    intro w81 F81 B81
    have E82:=Ext.st E76 F81 (by simp; omega)
    have G83:Fr L w w81:=(G38.trans (Fr.ext F72)).stp F81 (upc (.inr m14) (fun m hm=>by cases hm))
    have G84:Fr (b13::L) w16 w81:=(((G26.trans (Fr.ext F30)).trans (Fr.ext F36)).trans (Fr.ext F72)).stp F81 (upc (.inl (List.Mem.head _)) (fun m hm=>by cases hm))
    have G85:Fr (b20::(b13::L)) w72 w81:=(Fr.refl _ _).stp F81 (upc (.inl (List.Mem.tail _ (List.Mem.head _))) (fun m hm=>by cases hm))
    have B86:=(((B20.ex F30).ex F36).ex F72).fr F81 (by simp; omega)
    have B81':Blk w81 b13 _ [.int .i64 d0.kind,.int .i64 d0.time,.int .i64 d0.node,.bool d0.dead,str d0.text,.slice A73 x72.length c74,.slice A4 d0.minus.length c5,.int .u64 d0.flags]:=B81
    refine eo_nil_sq ?_
    refine ec_seq ?_
    refine ec_region ?_
    refine o_w (v:=.pointer (some ⟨b13,6,none⟩)) (r_fa fld_api_Value_6 rfl rfl) ?_
    refine o_w (v:=.slice A4 d0.minus.length c5) (r_ld one_s_int rfl (B81'.cell rfl)) ?_
    refine o_w (v:=.pointer (some ⟨b16,6,none⟩)) (r_fa fld_api_Value_6 rfl rfl) ?_
    refine o_w (v:=.slice A10 d1.minus.length c11) (r_ld one_s_int rfl ((S16.fr G84 (fun _ h=>h)).now.cell rfl)) ?_
    obtain ⟨x87,hx87,h⟩:=h
    refine o_call cf_ref06_most rfl (ref06_most_c d0.minus (H6.up G83 (fun _ h=>h) (upc (.inr m22) (upc (.inr m14) (fun _ h=>.inl h)))) d1.minus (H12.up G83 (fun _ h=>h) (upc (.inr m22) (upc (.inr m14) (fun _ h=>.inl h)))) (((hL.fr E82).cons B81'.lt).cons B86.lt) hx87) rfl rfl ?_
    rintro _ w87 ⟨F87,A88,c89,rfl,H90⟩
    have E91:=E82.trans F87
    refine o_w (v:=.pointer (some ⟨b13,6,none⟩)) (r_fa fld_api_Value_6 rfl rfl) ?_
    refine o_store rfl (B81'.ex F87) (vs:=[.slice A88 x87.length c89]) rfl sz_s_int rfl rfl rfl ?_
    intro w97 F97 B97
    have E98:=Ext.st E91 F97 (by simp; omega)
    have G100:Fr (b13::L) w16 w97:=(G84.trans (Fr.ext F87)).stp F97 (upc (.inl (List.Mem.head _)) (fun m hm=>by cases hm))
    have G101:Fr (b20::(b13::L)) w72 w97:=(G85.trans (Fr.ext F87)).stp F97 (upc (.inl (List.Mem.tail _ (List.Mem.head _))) (fun m hm=>by cases hm))
    have G102:Fr (b20::(b13::L)) w87 w97:=(Fr.refl _ _).stp F97 (upc (.inl (List.Mem.tail _ (List.Mem.head _))) (fun m hm=>by cases hm))
    have B103:=(B86.ex F87).fr F97 (by simp; omega)
    have B97':Blk w97 b13 _ [.int .i64 d0.kind,.int .i64 d0.time,.int .i64 d0.node,.bool d0.dead,str d0.text,.slice A73 x72.length c74,.slice A88 x87.length c89,.int .u64 d0.flags]:=B97
    refine eo_nil_sq ?_
    refine ec_seq ?_
    refine ec_region ?_
    refine o_w (v:=.pointer (some ⟨b13,7,none⟩)) (r_fa fld_api_Value_7 rfl rfl) ?_
    refine o_w (v:=.int .u64 d0.flags) (r_ld one_uint64 rfl (B97'.cell rfl)) ?_
    refine o_w (v:=.pointer (some ⟨b16,7,none⟩)) (r_fa fld_api_Value_7 rfl rfl) ?_
    refine o_w (v:=.int .u64 d1.flags) (r_ld one_uint64 rfl ((S16.fr G100 (fun _ h=>h)).now.cell rfl)) ?_
    refine o_w (v:=.int .u64 (IntKind.u64.wrap ((BitVec.ofInt IntKind.u64.bits d0.flags ||| BitVec.ofInt IntKind.u64.bits d1.flags).toNat:Int))) (r_int rfl rfl rfl) ?_
    refine o_w (v:=.pointer (some ⟨b13,7,none⟩)) (r_fa fld_api_Value_7 rfl rfl) ?_
    refine o_store rfl B97' (vs:=[.int .u64 (IntKind.u64.wrap ((BitVec.ofInt IntKind.u64.bits d0.flags ||| BitVec.ofInt IntKind.u64.bits d1.flags).toNat:Int))]) rfl sz_uint64 rfl rfl rfl ?_
    intro w104 F104 B104
    have E105:=Ext.st E98 F104 (by simp; omega)
    have G108:Fr (b20::(b13::L)) w72 w104:=G101.stp F104 (upc (.inl (List.Mem.tail _ (List.Mem.head _))) (fun m hm=>by cases hm))
    have G109:Fr (b20::(b13::L)) w87 w104:=G102.stp F104 (upc (.inl (List.Mem.tail _ (List.Mem.head _))) (fun m hm=>by cases hm))
    have B110:=B103.fr F104 (by simp; omega)
    have B104':Blk w104 b13 _ [.int .i64 d0.kind,.int .i64 d0.time,.int .i64 d0.node,.bool d0.dead,str d0.text,.slice A73 x72.length c74,.slice A88 x87.length c89,.int .u64 (IntKind.u64.wrap ((BitVec.ofInt IntKind.u64.bits d0.flags ||| BitVec.ofInt IntKind.u64.bits d1.flags).toNat:Int))]:=B104
    refine eo_nil_sq ?_
    refine ec_seq ?_
    refine ec_region ?_
    refine o_w (v:=.agg #[.int .i64 d0.kind,.int .i64 d0.time,.int .i64 d0.node,.bool d0.dead,str d0.text,.slice A73 x72.length c74,.slice A88 x87.length c89,.int .u64 (IntKind.u64.wrap ((BitVec.ofInt IntKind.u64.bits d0.flags ||| BitVec.ofInt IntKind.u64.bits d1.flags).toNat:Int))]) (r_lda agg_api_Value rfl (vs:=[.int .i64 d0.kind,.int .i64 d0.time,.int .i64 d0.node,.bool d0.dead,str d0.text,.slice A73 x72.length c74,.slice A88 x87.length c89,.int .u64 (IntKind.u64.wrap ((BitVec.ofInt IntKind.u64.bits d0.flags ||| BitVec.ofInt IntKind.u64.bits d1.flags).toNat:Int))]) rfl (B104'.part (n:=8) rfl)) ?_
    refine o_store rfl B110 (vs:=[.int .i64 d0.kind,.int .i64 d0.time,.int .i64 d0.node,.bool d0.dead,str d0.text,.slice A73 x72.length c74,.slice A88 x87.length c89,.int .u64 (IntKind.u64.wrap ((BitVec.ofInt IntKind.u64.bits d0.flags ||| BitVec.ofInt IntKind.u64.bits d1.flags).toNat:Int))]) rfl sz_api_Value rfl rfl rfl ?_
    intro w111 F111 B111
    have E112:=Ext.st E105 F111 (by simp; omega)
    have G115:Fr (b20::(b13::L)) w72 w111:=G108.stp F111 (upc (.inl (List.Mem.head _)) (fun m hm=>by cases hm))
    have G116:Fr (b20::(b13::L)) w87 w111:=G109.stp F111 (upc (.inl (List.Mem.head _)) (fun m hm=>by cases hm))
    have B111':Blk w111 b20 _ [.int .i64 d0.kind,.int .i64 d0.time,.int .i64 d0.node,.bool d0.dead,str d0.text,.slice A73 x72.length c74,.slice A88 x87.length c89,.int .u64 (IntKind.u64.wrap ((BitVec.ofInt IntKind.u64.bits d0.flags ||| BitVec.ofInt IntKind.u64.bits d1.flags).toNat:Int))]:=B111
    refine o_w (v:=.int .i64 (0:Int)) (r_asg rfl) ?_
    refine eo_nil_sq ?_
    refine ec_ret ?_
    subst h
    exact (endr2 (rv_a rfl (agg_api_Value) B111' (vs:=[.int .i64 d0.kind,.int .i64 d0.time,.int .i64 d0.node,.bool d0.dead,str d0.text,.slice A73 x72.length c74,.slice A88 x87.length c89,.int .u64 (IntKind.u64.wrap ((BitVec.ofInt IntKind.u64.bits d0.flags ||| BitVec.ofInt IntKind.u64.bits d1.flags).toNat:Int))]) rfl rfl) (rv_t rfl) ⟨_,rfl,E112,_,rfl,(kVal_mk (d:=(⟨d0.kind,d0.time,d0.node,d0.dead,d0.text,x72,x87,(IntKind.u64.wrap ((BitVec.ofInt IntKind.u64.bits d0.flags ||| BitVec.ofInt IntKind.u64.bits d1.flags).toNat:Int))⟩:Val)) (H75.up G115 (fun _ h=>h) (fun m hm=>Or.inl (List.Mem.tail _ (List.Mem.tail _ hm)))) (H90.up G116 (fun _ h=>h) (fun m hm=>Or.inl (List.Mem.tail _ (List.Mem.tail _ hm)))))⟩)
def ref06_Same_raw (d0:Val) (d1:Val) (y:Bool):Prop :=
 ∃ x21,(((((((d0.kind==d1.kind)&&(d0.time==d1.time))&&(d0.node==d1.node))&&(d0.dead==d1.dead))&&(d0.text==d1.text))&&(d0.flags==d1.flags))=true→ref01_Ints_raw d0.plus d1.plus x21)∧(∃ x26,((((((((d0.kind==d1.kind)&&(d0.time==d1.time))&&(d0.node==d1.node))&&(d0.dead==d1.dead))&&(d0.text==d1.text))&&(d0.flags==d1.flags))&&x21)=true→ref01_Ints_raw d0.minus d1.minus x26)∧(y=((((((((d0.kind==d1.kind)&&(d0.time==d1.time))&&(d0.node==d1.node))&&(d0.dead==d1.dead))&&(d0.text==d1.text))&&(d0.flags==d1.flags))&&x21)&&x26)))
set_option maxRecDepth 20000 in
set_option maxHeartbeats 4000000 in
theorem ref06_Same_c {L:List Nat} {w:World} {csP0:List Value} (d0:Val) (HP0:Stb L w (fun w=>kVal.r w csP0 d0)) {csP1:List Value} (d1:Val) (HP1:Stb L w (fun w=>kVal.r w csP1 d1)) (hL:Lt L w) {y:Bool} (h:ref06_Same_raw d0 d1 y) :
  Calls Try.prog 39 [.agg csP0.toArray,.agg csP1.toArray].toArray w (Ret fun v w'=>Ext w w'∧v=.bool y):=by
 obtain ⟨A1,c2,A4,c5,rfl,H3,H6⟩:=kVal_open HP0
 obtain ⟨A7,c8,A10,c11,rfl,H9,H12⟩:=kVal_open HP1
 unfold ref06_Same_raw at h
 refine calls_ec Try.func39 rfl rfl rfl ?_
 refine ec_seq ?_
 refine ec_region ?_
 refine o_box (cs:=(cVal d0 A1 c2 A4 c5)) rfl rfl rfl ?_
 intro b13 w13 e13 F13 B13
 have S13:=B13.stb (nin hL e13)
 have G14:Fr L w w13:=Fr.ext F13
 refine o_box (cs:=(cVal d1 A7 c8 A10 c11)) rfl rfl rfl ?_
 intro b15 w15 e15 F15 B15
 have S15:=B15.stb (nin (hL.fr F13) e15)
 have E16:=F13.trans F15
 have G18:Fr L w13 w15:=Fr.ext F15
 refine o_w (v:=.bool false) (r_asg rfl) ?_
 refine eo_nil_sq ?_
 refine ec_seq ?_
 refine ec_region ?_
 refine o_w (v:=.pointer (some ⟨b13,0,none⟩)) (r_fa fld_api_Value_0 rfl rfl) ?_
 refine o_w (v:=.int .i64 d0.kind) (r_ld one_int rfl ((S13.fr G18 (fun _ h=>h)).now.cell rfl)) ?_
 refine o_w (v:=.pointer (some ⟨b15,0,none⟩)) (r_fa fld_api_Value_0 rfl rfl) ?_
 refine o_w (v:=.int .i64 d1.kind) (r_ld one_int rfl (S15.now.cell rfl)) ?_
 refine o_w (v:=.bool (d0.kind==d1.kind)) (r_int rfl rfl rfl) ?_
 refine o_w (v:=.bool (d0.kind==d1.kind)) (r_mov rfl) ?_
 refine o_vg (v:=.pointer (some ⟨b13,1,none⟩)) (want_ct (t:=10) rfl rfl) (fun hk=>(r_fa fld_api_Value_1 rfl rfl)) rfl rfl ?_
 refine o_vg (v:=.int .i64 d0.time) (want_ct (t:=10) rfl rfl) (fun hk=>(r_ld one_int (gdT hk) ((S13.fr G18 (fun _ h=>h)).now.cell rfl))) rfl rfl ?_
 refine o_vg (v:=.pointer (some ⟨b15,1,none⟩)) (want_ct (t:=10) rfl rfl) (fun hk=>(r_fa fld_api_Value_1 rfl rfl)) rfl rfl ?_
 refine o_vg (v:=.int .i64 d1.time) (want_ct (t:=10) rfl rfl) (fun hk=>(r_ld one_int (gdT hk) (S15.now.cell rfl))) rfl rfl ?_
 refine o_vg (v:=.bool (d0.time==d1.time)) (want_ct (t:=10) rfl rfl) (fun hk=>(r_int (gdT hk) (gdT hk) rfl)) rfl rfl ?_
 refine o_w (v:=.bool ((d0.kind==d1.kind)&&(d0.time==d1.time))) (r_pickAnd rfl (fun ht=>(gdT ht)) rfl) ?_
 refine o_w (v:=.bool ((d0.kind==d1.kind)&&(d0.time==d1.time))) (r_mov rfl) ?_
 refine o_vg (v:=.pointer (some ⟨b13,2,none⟩)) (want_ct (t:=17) rfl rfl) (fun hk=>(r_fa fld_api_Value_2 rfl rfl)) rfl rfl ?_
 refine o_vg (v:=.int .i64 d0.node) (want_ct (t:=17) rfl rfl) (fun hk=>(r_ld one_int (gdT hk) ((S13.fr G18 (fun _ h=>h)).now.cell rfl))) rfl rfl ?_
 refine o_vg (v:=.pointer (some ⟨b15,2,none⟩)) (want_ct (t:=17) rfl rfl) (fun hk=>(r_fa fld_api_Value_2 rfl rfl)) rfl rfl ?_
 refine o_vg (v:=.int .i64 d1.node) (want_ct (t:=17) rfl rfl) (fun hk=>(r_ld one_int (gdT hk) (S15.now.cell rfl))) rfl rfl ?_
 refine o_vg (v:=.bool (d0.node==d1.node)) (want_ct (t:=17) rfl rfl) (fun hk=>(r_int (gdT hk) (gdT hk) rfl)) rfl rfl ?_
 refine o_w (v:=.bool (((d0.kind==d1.kind)&&(d0.time==d1.time))&&(d0.node==d1.node))) (r_pickAnd rfl (fun ht=>(gdT ht)) rfl) ?_
 refine o_w (v:=.bool (((d0.kind==d1.kind)&&(d0.time==d1.time))&&(d0.node==d1.node))) (r_mov rfl) ?_
 refine o_vg (v:=.pointer (some ⟨b13,3,none⟩)) (want_ct (t:=24) rfl rfl) (fun hk=>(r_fa fld_api_Value_3 rfl rfl)) rfl rfl ?_
 refine o_vg (v:=.bool d0.dead) (want_ct (t:=24) rfl rfl) (fun hk=>(r_ld one_bool (gdT hk) ((S13.fr G18 (fun _ h=>h)).now.cell rfl))) rfl rfl ?_
 refine o_vg (v:=.pointer (some ⟨b15,3,none⟩)) (want_ct (t:=24) rfl rfl) (fun hk=>(r_fa fld_api_Value_3 rfl rfl)) rfl rfl ?_
 refine o_vg (v:=.bool d1.dead) (want_ct (t:=24) rfl rfl) (fun hk=>(r_ld one_bool (gdT hk) (S15.now.cell rfl))) rfl rfl ?_
 refine o_vg (v:=.bool (d0.dead==d1.dead)) (want_ct (t:=24) rfl rfl) (fun hk=>(r_boolEq un_bool (gdT hk) (gdT hk))) rfl rfl ?_
 refine o_w (v:=.bool ((((d0.kind==d1.kind)&&(d0.time==d1.time))&&(d0.node==d1.node))&&(d0.dead==d1.dead))) (r_pickAnd rfl (fun ht=>(gdT ht)) rfl) ?_
 refine o_w (v:=.bool ((((d0.kind==d1.kind)&&(d0.time==d1.time))&&(d0.node==d1.node))&&(d0.dead==d1.dead))) (r_mov rfl) ?_
 refine o_vg (v:=.pointer (some ⟨b13,4,none⟩)) (want_ct (t:=31) rfl rfl) (fun hk=>(r_fa fld_api_Value_4 rfl rfl)) rfl rfl ?_
 refine o_vg (v:=str d0.text) (want_ct (t:=31) rfl rfl) (fun hk=>(r_ld one_string (gdT hk) ((S13.fr G18 (fun _ h=>h)).now.cell rfl))) rfl rfl ?_
 refine o_vg (v:=.pointer (some ⟨b15,4,none⟩)) (want_ct (t:=31) rfl rfl) (fun hk=>(r_fa fld_api_Value_4 rfl rfl)) rfl rfl ?_
 refine o_vg (v:=str d1.text) (want_ct (t:=31) rfl rfl) (fun hk=>(r_ld one_string (gdT hk) (S15.now.cell rfl))) rfl rfl ?_
 refine o_vg (v:=.bool (d0.text==d1.text)) (want_ct (t:=31) rfl rfl) (fun hk=>(r_str (gdT hk) (gdT hk) rfl)) rfl rfl ?_
 refine o_w (v:=.bool (((((d0.kind==d1.kind)&&(d0.time==d1.time))&&(d0.node==d1.node))&&(d0.dead==d1.dead))&&(d0.text==d1.text))) (r_pickAnd rfl (fun ht=>(gdT ht)) rfl) ?_
 refine o_w (v:=.bool (((((d0.kind==d1.kind)&&(d0.time==d1.time))&&(d0.node==d1.node))&&(d0.dead==d1.dead))&&(d0.text==d1.text))) (r_mov rfl) ?_
 refine o_vg (v:=.pointer (some ⟨b13,7,none⟩)) (want_ct (t:=38) rfl rfl) (fun hk=>(r_fa fld_api_Value_7 rfl rfl)) rfl rfl ?_
 refine o_vg (v:=.int .u64 d0.flags) (want_ct (t:=38) rfl rfl) (fun hk=>(r_ld one_uint64 (gdT hk) ((S13.fr G18 (fun _ h=>h)).now.cell rfl))) rfl rfl ?_
 refine o_vg (v:=.pointer (some ⟨b15,7,none⟩)) (want_ct (t:=38) rfl rfl) (fun hk=>(r_fa fld_api_Value_7 rfl rfl)) rfl rfl ?_
 refine o_vg (v:=.int .u64 d1.flags) (want_ct (t:=38) rfl rfl) (fun hk=>(r_ld one_uint64 (gdT hk) (S15.now.cell rfl))) rfl rfl ?_
 refine o_vg (v:=.bool (d0.flags==d1.flags)) (want_ct (t:=38) rfl rfl) (fun hk=>(r_int (gdT hk) (gdT hk) rfl)) rfl rfl ?_
 refine o_w (v:=.bool ((((((d0.kind==d1.kind)&&(d0.time==d1.time))&&(d0.node==d1.node))&&(d0.dead==d1.dead))&&(d0.text==d1.text))&&(d0.flags==d1.flags))) (r_pickAnd rfl (fun ht=>(gdT ht)) rfl) ?_
 refine o_w (v:=.bool ((((((d0.kind==d1.kind)&&(d0.time==d1.time))&&(d0.node==d1.node))&&(d0.dead==d1.dead))&&(d0.text==d1.text))&&(d0.flags==d1.flags))) (r_mov rfl) ?_
 refine o_vg (v:=.pointer (some ⟨b13,5,none⟩)) (want_ct (t:=45) rfl rfl) (fun hk=>(r_fa fld_api_Value_5 rfl rfl)) rfl rfl ?_
 refine o_vg (v:=.slice A1 d0.plus.length c2) (want_ct (t:=45) rfl rfl) (fun hk=>(r_ld one_s_int (gdT hk) ((S13.fr G18 (fun _ h=>h)).now.cell rfl))) rfl rfl ?_
 refine o_vg (v:=.pointer (some ⟨b15,5,none⟩)) (want_ct (t:=45) rfl rfl) (fun hk=>(r_fa fld_api_Value_5 rfl rfl)) rfl rfl ?_
 refine o_vg (v:=.slice A7 d1.plus.length c8) (want_ct (t:=45) rfl rfl) (fun hk=>(r_ld one_s_int (gdT hk) (S15.now.cell rfl))) rfl rfl ?_
 obtain ⟨x21,hx21,h⟩:=h
 refine o_callg (V:=.bool x21) cf_ref01_Ints (want_ct (t:=45) rfl rfl) (fun hk=>(mapv2 (gdT hk) (gdT hk))) (fun hk=>(ref01_Ints_c d0.plus (H3.fr (G14.trans (Fr.ext F15)) (fun _ h=>h)) d1.plus (H9.fr (G14.trans (Fr.ext F15)) (fun _ h=>h)) (hL.fr E16) (hx21 hk))) rfl ?_
 intro w21 F21
 have E22:=E16.trans F21
 have G25:Fr L w15 w21:=Fr.ext F21
 refine o_w (v:=.bool (((((((d0.kind==d1.kind)&&(d0.time==d1.time))&&(d0.node==d1.node))&&(d0.dead==d1.dead))&&(d0.text==d1.text))&&(d0.flags==d1.flags))&&x21)) (r_pickAnd rfl (fun ht=>(gdT ht)) rfl) ?_
 refine o_w (v:=.bool (((((((d0.kind==d1.kind)&&(d0.time==d1.time))&&(d0.node==d1.node))&&(d0.dead==d1.dead))&&(d0.text==d1.text))&&(d0.flags==d1.flags))&&x21)) (r_mov rfl) ?_
 refine o_vg (v:=.pointer (some ⟨b13,6,none⟩)) (want_ct (t:=52) rfl rfl) (fun hk=>(r_fa fld_api_Value_6 rfl rfl)) rfl rfl ?_
 refine o_vg (v:=.slice A4 d0.minus.length c5) (want_ct (t:=52) rfl rfl) (fun hk=>(r_ld one_s_int (gdT hk) ((S13.fr (G18.trans (Fr.ext F21)) (fun _ h=>h)).now.cell rfl))) rfl rfl ?_
 refine o_vg (v:=.pointer (some ⟨b15,6,none⟩)) (want_ct (t:=52) rfl rfl) (fun hk=>(r_fa fld_api_Value_6 rfl rfl)) rfl rfl ?_
 refine o_vg (v:=.slice A10 d1.minus.length c11) (want_ct (t:=52) rfl rfl) (fun hk=>(r_ld one_s_int (gdT hk) ((S15.fr G25 (fun _ h=>h)).now.cell rfl))) rfl rfl ?_
 obtain ⟨x26,hx26,h⟩:=h
 refine o_callg (V:=.bool x26) cf_ref01_Ints (want_ct (t:=52) rfl rfl) (fun hk=>(mapv2 (gdT hk) (gdT hk))) (fun hk=>(ref01_Ints_c d0.minus (H6.fr ((G14.trans (Fr.ext F15)).trans (Fr.ext F21)) (fun _ h=>h)) d1.minus (H12.fr ((G14.trans (Fr.ext F15)).trans (Fr.ext F21)) (fun _ h=>h)) (hL.fr E22) (hx26 hk))) rfl ?_
 intro w26 F26
 have E27:=E22.trans F26
 refine o_w (v:=.bool ((((((((d0.kind==d1.kind)&&(d0.time==d1.time))&&(d0.node==d1.node))&&(d0.dead==d1.dead))&&(d0.text==d1.text))&&(d0.flags==d1.flags))&&x21)&&x26)) (r_pickAnd rfl (fun ht=>(gdT ht)) rfl) ?_
 refine o_w (v:=.bool ((((((((d0.kind==d1.kind)&&(d0.time==d1.time))&&(d0.node==d1.node))&&(d0.dead==d1.dead))&&(d0.text==d1.text))&&(d0.flags==d1.flags))&&x21)&&x26)) (r_asg rfl) ?_
 refine eo_nil_sq ?_
 refine ec_ret ?_
 subst h
 exact (end1 rfl ⟨_,rfl,E27,rfl⟩)
end Go.Proofs.Ytbijobepjjokmaa
