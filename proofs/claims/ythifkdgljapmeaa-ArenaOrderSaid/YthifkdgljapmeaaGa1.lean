/- The reference of value: what each function comes to. -/
import Derived.Test.YthifkdgljapmeaaCt
namespace Go.Proofs.Ythifkdgljapmeaa
open Go Go.RowKit
set_option linter.unusedVariables false
set_option linter.unusedSimpArgs false
def ref01_Ints_b2 (d0:(List Int)) (d1:(List Int)) (s2:Int) (z2:(Int) ⊕ ((Int) ⊕ (Bool))):Prop :=
 ((decide (s2<(d0.length:Int)))=true→((0≤s2∧s2<(d0.length:Int))∧((0≤s2∧s2<(d1.length:Int))∧((((nth d0 s2) != (nth d1 s2))=true→(z2=.inr (.inr false)))∧(((nth d0 s2) != (nth d1 s2))=false→(z2=.inl (IntKind.i64.wrap (s2 + (1:Int)))))))))∧((decide (s2<(d0.length:Int)))=false→(z2=.inr (.inl s2)))
def ref01_Ints_raw (d0:(List Int)) (d1:(List Int)) (y:Bool):Prop :=
 (((d0.length:Int) != (d1.length:Int))=true→(y=false))∧(((d0.length:Int) != (d1.length:Int))=false→(∃ x2,LoopR (ref01_Ints_b2 d0 d1) (0:Int) x2∧(∀ sx2,x2=.inl sx2→(y=true))∧(∀ y2,x2=.inr y2→(y=y2))))
set_option maxRecDepth 20000 in
set_option maxHeartbeats 4000000 in
theorem ref01_Ints_c {L:List Nat} {w:World} {AP0:Option Addr} {cP0:Nat} (d0:(List Int)) (HP0:Stb L w (fun w=>SlC (kI .i64) w AP0 cP0 d0)) {AP1:Option Addr} {cP1:Nat} (d1:(List Int)) (HP1:Stb L w (fun w=>SlC (kI .i64) w AP1 cP1 d1)) (hL:Lt L w) {y:Bool} (h:ref01_Ints_raw d0 d1 y) :
  Calls Try.prog 40 [.slice AP0 d0.length cP0,.slice AP1 d1.length cP1].toArray w (Ret fun v w'=>Ext w w'∧v=.bool y):=by
 unfold ref01_Ints_raw at h
 refine calls_ec Try.func40 rfl rfl rfl ?_
 refine ec_sr ?_
 refine o_w (v:=.bool false) (r_asg rfl) ?_
 refine eo_nil_sq ?_
 refine ec_seq ?_
 refine ec_sr ?_
 refine o_w (v:=.slice AP0 d0.length cP0) (r_mov rfl) ?_
 refine o_w (v:=.int .i64 (d0.length:Int)) (r_len_slc un_s_int rfl) ?_
 refine o_w (v:=.slice AP1 d1.length cP1) (r_mov rfl) ?_
 refine o_w (v:=.int .i64 (d1.length:Int)) (r_len_slc un_s_int rfl) ?_
 refine o_w (v:=.bool ((d0.length:Int) != (d1.length:Int))) (r_int rfl rfl rfl) ?_
 refine eo_nil_sq ?_
 refine ec_cond rfl (fun hc1=>?_) (fun hc1=>?_)
 ·replace h:=h.1 hc1
  refine ec_sr ?_
  refine o_w (v:=.bool false) (r_asg rfl) ?_
  refine eo_nil_sq ?_
  refine ec_ret ?_
  refine sq_ret ?_
  subst h
  exact (end1 rfl ⟨_,rfl,(Fr.refl _ _),rfl⟩)
 ·replace h:=h.2 hc1
  refine ec_skip ?_
  refine sq_n ?_
  refine ec_seq ?_
  refine ec_sr ?_
  refine o_w (v:=.int .i64 0) (r_asg rfl) ?_
  refine eo_nil_sq ?_
  refine ec_block ?_
  obtain ⟨x2,hl2,h⟩:=h
  refine ec_loopER 0 (I:=(fun (s2:Int) ρ ds w'=>∃ (ρ':Env),ρ=envs ρ' [(5,.int .i64 s2),(0,.slice AP0 d0.length cP0),(1,.slice AP1 d1.length cP1)]∧ds=[]∧Fr L w w'∧Ext w w')) (J:=(fun (y':Bool) ρ ds wz=>bodyE Try.prog #[.tmp 4] (Ret fun v w'=>Ext w w'∧v=.bool y') .ret ρ ds wz)) ?_ hl2 ?_ ?_ ?_
  ·intro s2 z2 ρ2 ds2 w2r hI2 hb2
   obtain ⟨ρ2r,rfl,rfl,F2r,E2r⟩:=hI2
   have h:=hb2
   unfold ref01_Ints_b2 at h
   have G3:Fr L w w2r:=(Fr.refl _ _).stp F2r (fun _ h=>.inl h)
   refine ec_seq ?_
   refine ec_sr ?_
   refine o_w (v:=.int .i64 s2) (r_mov rfl) ?_
   refine o_w (v:=.slice AP0 d0.length cP0) (r_mov rfl) ?_
   refine o_w (v:=.int .i64 (d0.length:Int)) (r_len_slc un_s_int rfl) ?_
   refine o_w (v:=.bool (decide (s2<(d0.length:Int)))) (r_int rfl rfl rfl) ?_
   refine eo_nil_sq ?_
   refine ec_cond rfl (fun hc4=>?_) (fun hc4=>?_)
   ·replace h:=h.1 hc4
    refine ec_skip ?_
    refine sq_n ?_
    refine ec_seq ?_
    refine ec_block ?_
    refine ec_seq ?_
    obtain ⟨ha14,h⟩:=h
    obtain ⟨cs15,l17,H16⟩:=Stb.elem (by decide) (HP0.fr G3 sI) s2 ha14.1 ha14.2
    obtain ⟨rfl,H16'⟩:=kI_open2 H16
    obtain ⟨ha18,h⟩:=h
    obtain ⟨cs19,l21,H20⟩:=Stb.elem (by decide) (HP1.fr G3 sI) s2 ha18.1 ha18.2
    obtain ⟨rfl,H20'⟩:=kI_open2 H20
    refine ec_any0 (by kernel_rfl) [[],[],[0,1],[0,1,2],[],[],[4,5],[4,5,6],[0,1,2,3,4,5,6,7]] [17,18,19,20,21,22,23,24,25] [fun v _=>v=(.slice AP0 d0.length cP0:Value),fun v _=>v=(.int .i64 s2:Value),fun v _=>v=(.pointer (some (elemA AP0 (kI .i64).n s2.toNat)):Value),fun v _=>v=(.int .i64 (nth d0 s2):Value),fun v _=>v=(.slice AP1 d1.length cP1:Value),fun v _=>v=(.int .i64 s2:Value),fun v _=>v=(.pointer (some (elemA AP1 (kI .i64).n s2.toNat)):Value),fun v _=>v=(.int .i64 (nth d1 s2):Value),fun v _=>v=(.bool ((nth d0 s2) != (nth d1 s2)):Value)] (by kernel_rfl) ⟨fun _ _ _ _ _ h=>h,fun _ _ _ _ _ h=>h,fun _ _ _ _ _ h=>h,fun _ _ _ _ _ h=>h,fun _ _ _ _ _ h=>h,fun _ _ _ _ _ h=>h,fun _ _ _ _ _ h=>h,fun _ _ _ _ _ h=>h,fun _ _ _ _ _ h=>h,trivial⟩ ?_ ?_
    ·refine ⟨?_,?_,?_,?_,?_,?_,?_,?_,?_,trivial⟩
     ·intro ρ w13o F13o hS hρ
      have q0:ρ 0=.slice AP0 d0.length cP0:=hρ 0 (by kernel_rfl)
      exact o_q (r_mov q0) ⟨Fr.refl _ _,rfl⟩
     ·intro ρ w13o F13o hS hρ
      have q5:ρ 5=.int .i64 s2:=hρ 5 (by kernel_rfl)
      exact o_q (r_mov q5) ⟨Fr.refl _ _,rfl⟩
     ·intro ρ w13o F13o hS hρ
      have q17:ρ 17=.slice AP0 d0.length cP0:=hS 0 (by decide) 17 rfl
      have q18:ρ 18=.int .i64 s2:=hS 1 (by decide) 18 rfl
      exact o_q (r_ia slc_s_int q17 q18 ((HP0.fr (G3.trans (Fr.ext F13o)) sI).now.2 _ (lt_toNat ha14.1 ha14.2)).1 ha14.1 ha14.2) ⟨Fr.refl _ _,rfl⟩
     ·intro ρ w13o F13o hS hρ
      have G29:Fr L w2r w13o:=Fr.ext F13o
      have q19:ρ 19=.pointer (some (elemA AP0 (kI .i64).n s2.toNat)):=hS 2 (by decide) 19 rfl
      exact o_q (r_ld' one_int q19 (elemA_spot _ _ _) ((H16'.fr G29 sI).now.1.at0 (elemA_spot _ _ _))) ⟨Fr.refl _ _,rfl⟩
     ·intro ρ w13o F13o hS hρ
      have q1:ρ 1=.slice AP1 d1.length cP1:=hρ 1 (by kernel_rfl)
      exact o_q (r_mov q1) ⟨Fr.refl _ _,rfl⟩
     ·intro ρ w13o F13o hS hρ
      have q5:ρ 5=.int .i64 s2:=hρ 5 (by kernel_rfl)
      exact o_q (r_mov q5) ⟨Fr.refl _ _,rfl⟩
     ·intro ρ w13o F13o hS hρ
      have q21:ρ 21=.slice AP1 d1.length cP1:=hS 4 (by decide) 21 rfl
      have q22:ρ 22=.int .i64 s2:=hS 5 (by decide) 22 rfl
      exact o_q (r_ia slc_s_int q21 q22 ((HP1.fr (G3.trans (Fr.ext F13o)) sI).now.2 _ (lt_toNat ha18.1 ha18.2)).1 ha18.1 ha18.2) ⟨Fr.refl _ _,rfl⟩
     ·intro ρ w13o F13o hS hρ
      have G37:Fr L w2r w13o:=Fr.ext F13o
      have q23:ρ 23=.pointer (some (elemA AP1 (kI .i64).n s2.toNat)):=hS 6 (by decide) 23 rfl
      exact o_q (r_ld' one_int q23 (elemA_spot _ _ _) ((H20'.fr G37 sI).now.1.at0 (elemA_spot _ _ _))) ⟨Fr.refl _ _,rfl⟩
     ·intro ρ w13o F13o hS hρ
      have q20:ρ 20=.int .i64 (nth d0 s2):=hS 3 (by decide) 20 rfl
      have q24:ρ 24=.int .i64 (nth d1 s2):=hS 7 (by decide) 24 rfl
      exact o_q (r_int q20 q24 rfl) ⟨Fr.refl _ _,rfl⟩
    ·intro ρ w13 F13 hS hρ
     have q25:ρ 25=.bool ((nth d0 s2) != (nth d1 s2)):=hS 8 25 rfl
     obtain ⟨ρ',rfl⟩:∃ ρ',ρ=envs (ovr [17,18,19,20,21,22,23,24,25] ρ' _) [(25,.bool ((nth d0 s2) != (nth d1 s2)))]:=⟨ρ,ovr_self hρ ⟨q25,trivial⟩⟩
     have E38:=E2r.trans F13
     refine sq_n ?_
     refine ec_cond rfl (fun hc42=>?_) (fun hc42=>?_)
     ·replace h:=h.1 hc42
      refine ec_sr ?_
      refine o_w (v:=.bool false) (r_asg rfl) ?_
      refine eo_nil_sq ?_
      refine ec_ret ?_
      refine blk_ret ?_
      refine sq_ret ?_
      subst h
      exact lqR_r (end1 rfl ⟨_,rfl,E38,rfl⟩)
     ·replace h:=h.2 hc42
      refine ec_skip ?_
      refine blk_n ?_
      refine sq_n ?_
      refine ec_region ?_
      refine o_w (v:=.int .i64 s2) (r_mov rfl) ?_
      refine o_w (v:=.int .i64 (IntKind.i64.wrap (s2 + (1:Int)))) (r_int rfl rfl rfl) ?_
      refine o_w (v:=.int .i64 (IntKind.i64.wrap (s2 + (1:Int)))) (r_asg rfl) ?_
      refine eo_nil ?_
      subst h
      exact lqR_n ⟨_,envs_self ⟨rfl,rfl,rfl,trivial⟩,rfl,(F2r.trans (Fr.ext F13)),E38⟩
   ·replace h:=h.2 hc4
    refine ec_exit ?_
    refine sq_exit ?_
    subst h
    exact lqR_x ⟨_,envs_self ⟨rfl,rfl,rfl,trivial⟩,rfl,F2r,E2r⟩
  ·exact ⟨_,envs_self ⟨rfl,rfl,rfl,trivial⟩,rfl,(Fr.refl _ _),(Fr.refl _ _)⟩
  ·rintro sx2 rfl ρ2e ds2e w2e ⟨ρ2e,rfl,rfl,F2e,E2e⟩
   replace h:=h.1 _ rfl
   refine blk_hit ?_
   refine sq_n ?_
   refine ec_sr ?_
   refine o_w (v:=.bool true) (r_asg rfl) ?_
   refine eo_nil_sq ?_
   refine ec_ret ?_
   subst h
   exact (end1 rfl ⟨_,rfl,E2e,rfl⟩)
  ·rintro y2 rfl ρ2q ds2q w2q hJ
   have hy:=h.2 _ rfl
   subst hy
   refine blk_ret ?_
   refine sq_ret ?_
   exact hJ
def ref06_Same_raw (d0:Val) (d1:Val) (y:Bool):Prop :=
 ∃ x21,(((((((d0.kind==d1.kind)&&(d0.time==d1.time))&&(d0.node==d1.node))&&(d0.dead==d1.dead))&&(d0.text==d1.text))&&(d0.flags==d1.flags))=true→ref01_Ints_raw d0.plus d1.plus x21)∧(∃ x26,((((((((d0.kind==d1.kind)&&(d0.time==d1.time))&&(d0.node==d1.node))&&(d0.dead==d1.dead))&&(d0.text==d1.text))&&(d0.flags==d1.flags))&&x21)=true→ref01_Ints_raw d0.minus d1.minus x26)∧(y=((((((((d0.kind==d1.kind)&&(d0.time==d1.time))&&(d0.node==d1.node))&&(d0.dead==d1.dead))&&(d0.text==d1.text))&&(d0.flags==d1.flags))&&x21)&&x26)))
set_option maxRecDepth 20000 in
set_option maxHeartbeats 4000000 in
theorem ref06_Same_c {L:List Nat} {w:World} {csP0:List Value} (d0:Val) (HP0:Stb L w (fun w=>kVal.r w csP0 d0)) {csP1:List Value} (d1:Val) (HP1:Stb L w (fun w=>kVal.r w csP1 d1)) (hL:Lt L w) {y:Bool} (h:ref06_Same_raw d0 d1 y) :
  Calls Try.prog 59 [.agg csP0.toArray,.agg csP1.toArray].toArray w (Ret fun v w'=>Ext w w'∧v=.bool y):=by
 obtain ⟨A1,c2,A4,c5,rfl,H3,H6⟩:=kVal_open HP0
 obtain ⟨A7,c8,A10,c11,rfl,H9,H12⟩:=kVal_open HP1
 unfold ref06_Same_raw at h
 refine calls_ec Try.func59 rfl rfl rfl ?_
 refine ec_sr ?_
 refine o_box (cs:=(cVal d0 A1 c2 A4 c5)) rfl rfl rfl ?_
 intro b13 w13 e13 F13 B13
 have S13:=B13.stb (nin hL e13)
 have G14:Fr L w w13:=Fr.ext F13
 refine o_box (cs:=(cVal d1 A7 c8 A10 c11)) rfl rfl rfl ?_
 intro b15 w15 e15 F15 B15
 have S15:=B15.stb (nin (hL.fr F13) e15)
 have E16:=F13.trans F15
 have G18:Fr L w13 w15:=Fr.ext F15
 refine o_w (v:=.bool false) (r_asg rfl) ?_
 refine eo_r ?_
 refine o_w (v:=.pointer (some ⟨b13,0,none⟩)) (r_fa fld_api_Value_0 rfl rfl) ?_
 refine o_w (v:=.int .i64 d0.kind) (r_ld one_int rfl ((S13.fr G18 sI).now.cell rfl)) ?_
 refine o_w (v:=.pointer (some ⟨b15,0,none⟩)) (r_fa fld_api_Value_0 rfl rfl) ?_
 refine o_w (v:=.int .i64 d1.kind) (r_ld one_int rfl (S15.now.cell rfl)) ?_
 refine o_w (v:=.bool (d0.kind==d1.kind)) (r_int rfl rfl rfl) ?_
 refine o_w (v:=.bool (d0.kind==d1.kind)) (r_mov rfl) ?_
 refine o_vg (v:=.pointer (some ⟨b13,1,none⟩)) (want_ct (t:=10) rfl rfl) (fun hk=>(r_fa fld_api_Value_1 rfl rfl)) rfl rfl ?_
 refine o_vg (v:=.int .i64 d0.time) (want_ct (t:=10) rfl rfl) (fun hk=>(r_ld one_int (gdT hk) ((S13.fr G18 sI).now.cell rfl))) rfl rfl ?_
 refine o_vg (v:=.pointer (some ⟨b15,1,none⟩)) (want_ct (t:=10) rfl rfl) (fun hk=>(r_fa fld_api_Value_1 rfl rfl)) rfl rfl ?_
 refine o_vg (v:=.int .i64 d1.time) (want_ct (t:=10) rfl rfl) (fun hk=>(r_ld one_int (gdT hk) (S15.now.cell rfl))) rfl rfl ?_
 refine o_vg (v:=.bool (d0.time==d1.time)) (want_ct (t:=10) rfl rfl) (fun hk=>(r_int (gdT hk) (gdT hk) rfl)) rfl rfl ?_
 refine o_w (v:=.bool ((d0.kind==d1.kind)&&(d0.time==d1.time))) (r_pickAnd rfl (fun ht=>(gdT ht)) rfl) ?_
 refine o_w (v:=.bool ((d0.kind==d1.kind)&&(d0.time==d1.time))) (r_mov rfl) ?_
 refine o_vg (v:=.pointer (some ⟨b13,2,none⟩)) (want_ct (t:=17) rfl rfl) (fun hk=>(r_fa fld_api_Value_2 rfl rfl)) rfl rfl ?_
 refine o_vg (v:=.int .i64 d0.node) (want_ct (t:=17) rfl rfl) (fun hk=>(r_ld one_int (gdT hk) ((S13.fr G18 sI).now.cell rfl))) rfl rfl ?_
 refine o_vg (v:=.pointer (some ⟨b15,2,none⟩)) (want_ct (t:=17) rfl rfl) (fun hk=>(r_fa fld_api_Value_2 rfl rfl)) rfl rfl ?_
 refine o_vg (v:=.int .i64 d1.node) (want_ct (t:=17) rfl rfl) (fun hk=>(r_ld one_int (gdT hk) (S15.now.cell rfl))) rfl rfl ?_
 refine o_vg (v:=.bool (d0.node==d1.node)) (want_ct (t:=17) rfl rfl) (fun hk=>(r_int (gdT hk) (gdT hk) rfl)) rfl rfl ?_
 refine o_w (v:=.bool (((d0.kind==d1.kind)&&(d0.time==d1.time))&&(d0.node==d1.node))) (r_pickAnd rfl (fun ht=>(gdT ht)) rfl) ?_
 refine o_w (v:=.bool (((d0.kind==d1.kind)&&(d0.time==d1.time))&&(d0.node==d1.node))) (r_mov rfl) ?_
 refine o_vg (v:=.pointer (some ⟨b13,3,none⟩)) (want_ct (t:=24) rfl rfl) (fun hk=>(r_fa fld_api_Value_3 rfl rfl)) rfl rfl ?_
 refine o_vg (v:=.bool d0.dead) (want_ct (t:=24) rfl rfl) (fun hk=>(r_ld one_bool (gdT hk) ((S13.fr G18 sI).now.cell rfl))) rfl rfl ?_
 refine o_vg (v:=.pointer (some ⟨b15,3,none⟩)) (want_ct (t:=24) rfl rfl) (fun hk=>(r_fa fld_api_Value_3 rfl rfl)) rfl rfl ?_
 refine o_vg (v:=.bool d1.dead) (want_ct (t:=24) rfl rfl) (fun hk=>(r_ld one_bool (gdT hk) (S15.now.cell rfl))) rfl rfl ?_
 refine o_vg (v:=.bool (d0.dead==d1.dead)) (want_ct (t:=24) rfl rfl) (fun hk=>(r_boolEq un_bool (gdT hk) (gdT hk))) rfl rfl ?_
 refine o_w (v:=.bool ((((d0.kind==d1.kind)&&(d0.time==d1.time))&&(d0.node==d1.node))&&(d0.dead==d1.dead))) (r_pickAnd rfl (fun ht=>(gdT ht)) rfl) ?_
 refine o_w (v:=.bool ((((d0.kind==d1.kind)&&(d0.time==d1.time))&&(d0.node==d1.node))&&(d0.dead==d1.dead))) (r_mov rfl) ?_
 refine o_vg (v:=.pointer (some ⟨b13,4,none⟩)) (want_ct (t:=31) rfl rfl) (fun hk=>(r_fa fld_api_Value_4 rfl rfl)) rfl rfl ?_
 refine o_vg (v:=str d0.text) (want_ct (t:=31) rfl rfl) (fun hk=>(r_ld one_string (gdT hk) ((S13.fr G18 sI).now.cell rfl))) rfl rfl ?_
 refine o_vg (v:=.pointer (some ⟨b15,4,none⟩)) (want_ct (t:=31) rfl rfl) (fun hk=>(r_fa fld_api_Value_4 rfl rfl)) rfl rfl ?_
 refine o_vg (v:=str d1.text) (want_ct (t:=31) rfl rfl) (fun hk=>(r_ld one_string (gdT hk) (S15.now.cell rfl))) rfl rfl ?_
 refine o_vg (v:=.bool (d0.text==d1.text)) (want_ct (t:=31) rfl rfl) (fun hk=>(r_str (gdT hk) (gdT hk) rfl)) rfl rfl ?_
 refine o_w (v:=.bool (((((d0.kind==d1.kind)&&(d0.time==d1.time))&&(d0.node==d1.node))&&(d0.dead==d1.dead))&&(d0.text==d1.text))) (r_pickAnd rfl (fun ht=>(gdT ht)) rfl) ?_
 refine o_w (v:=.bool (((((d0.kind==d1.kind)&&(d0.time==d1.time))&&(d0.node==d1.node))&&(d0.dead==d1.dead))&&(d0.text==d1.text))) (r_mov rfl) ?_
 refine o_vg (v:=.pointer (some ⟨b13,7,none⟩)) (want_ct (t:=38) rfl rfl) (fun hk=>(r_fa fld_api_Value_7 rfl rfl)) rfl rfl ?_
 refine o_vg (v:=.int .u64 d0.flags) (want_ct (t:=38) rfl rfl) (fun hk=>(r_ld one_uint64 (gdT hk) ((S13.fr G18 sI).now.cell rfl))) rfl rfl ?_
 refine o_vg (v:=.pointer (some ⟨b15,7,none⟩)) (want_ct (t:=38) rfl rfl) (fun hk=>(r_fa fld_api_Value_7 rfl rfl)) rfl rfl ?_
 refine o_vg (v:=.int .u64 d1.flags) (want_ct (t:=38) rfl rfl) (fun hk=>(r_ld one_uint64 (gdT hk) (S15.now.cell rfl))) rfl rfl ?_
 refine o_vg (v:=.bool (d0.flags==d1.flags)) (want_ct (t:=38) rfl rfl) (fun hk=>(r_int (gdT hk) (gdT hk) rfl)) rfl rfl ?_
 refine o_w (v:=.bool ((((((d0.kind==d1.kind)&&(d0.time==d1.time))&&(d0.node==d1.node))&&(d0.dead==d1.dead))&&(d0.text==d1.text))&&(d0.flags==d1.flags))) (r_pickAnd rfl (fun ht=>(gdT ht)) rfl) ?_
 refine o_w (v:=.bool ((((((d0.kind==d1.kind)&&(d0.time==d1.time))&&(d0.node==d1.node))&&(d0.dead==d1.dead))&&(d0.text==d1.text))&&(d0.flags==d1.flags))) (r_mov rfl) ?_
 refine o_vg (v:=.pointer (some ⟨b13,5,none⟩)) (want_ct (t:=45) rfl rfl) (fun hk=>(r_fa fld_api_Value_5 rfl rfl)) rfl rfl ?_
 refine o_vg (v:=.slice A1 d0.plus.length c2) (want_ct (t:=45) rfl rfl) (fun hk=>(r_ld one_s_int (gdT hk) ((S13.fr G18 sI).now.cell rfl))) rfl rfl ?_
 refine o_vg (v:=.pointer (some ⟨b15,5,none⟩)) (want_ct (t:=45) rfl rfl) (fun hk=>(r_fa fld_api_Value_5 rfl rfl)) rfl rfl ?_
 refine o_vg (v:=.slice A7 d1.plus.length c8) (want_ct (t:=45) rfl rfl) (fun hk=>(r_ld one_s_int (gdT hk) (S15.now.cell rfl))) rfl rfl ?_
 obtain ⟨x21,hx21,h⟩:=h
 refine o_callg (V:=.bool x21) cf_ref01_Ints (want_ct (t:=45) rfl rfl) (fun hk=>(mapv2 (gdT hk) (gdT hk))) (fun hk=>(ref01_Ints_c d0.plus (H3.fr (G14.trans (Fr.ext F15)) sI) d1.plus (H9.fr (G14.trans (Fr.ext F15)) sI) (hL.fr E16) (hx21 hk))) rfl ?_
 intro w21 F21
 have E22:=E16.trans F21
 have G25:Fr L w15 w21:=Fr.ext F21
 refine o_w (v:=.bool (((((((d0.kind==d1.kind)&&(d0.time==d1.time))&&(d0.node==d1.node))&&(d0.dead==d1.dead))&&(d0.text==d1.text))&&(d0.flags==d1.flags))&&x21)) (r_pickAnd rfl (fun ht=>(gdT ht)) rfl) ?_
 refine o_w (v:=.bool (((((((d0.kind==d1.kind)&&(d0.time==d1.time))&&(d0.node==d1.node))&&(d0.dead==d1.dead))&&(d0.text==d1.text))&&(d0.flags==d1.flags))&&x21)) (r_mov rfl) ?_
 refine o_vg (v:=.pointer (some ⟨b13,6,none⟩)) (want_ct (t:=52) rfl rfl) (fun hk=>(r_fa fld_api_Value_6 rfl rfl)) rfl rfl ?_
 refine o_vg (v:=.slice A4 d0.minus.length c5) (want_ct (t:=52) rfl rfl) (fun hk=>(r_ld one_s_int (gdT hk) ((S13.fr (G18.trans (Fr.ext F21)) sI).now.cell rfl))) rfl rfl ?_
 refine o_vg (v:=.pointer (some ⟨b15,6,none⟩)) (want_ct (t:=52) rfl rfl) (fun hk=>(r_fa fld_api_Value_6 rfl rfl)) rfl rfl ?_
 refine o_vg (v:=.slice A10 d1.minus.length c11) (want_ct (t:=52) rfl rfl) (fun hk=>(r_ld one_s_int (gdT hk) ((S15.fr G25 sI).now.cell rfl))) rfl rfl ?_
 obtain ⟨x26,hx26,h⟩:=h
 refine o_callg (V:=.bool x26) cf_ref01_Ints (want_ct (t:=52) rfl rfl) (fun hk=>(mapv2 (gdT hk) (gdT hk))) (fun hk=>(ref01_Ints_c d0.minus (H6.fr ((G14.trans (Fr.ext F15)).trans (Fr.ext F21)) sI) d1.minus (H12.fr ((G14.trans (Fr.ext F15)).trans (Fr.ext F21)) sI) (hL.fr E22) (hx26 hk))) rfl ?_
 intro w26 F26
 have E27:=E22.trans F26
 refine o_w (v:=.bool ((((((((d0.kind==d1.kind)&&(d0.time==d1.time))&&(d0.node==d1.node))&&(d0.dead==d1.dead))&&(d0.text==d1.text))&&(d0.flags==d1.flags))&&x21)&&x26)) (r_pickAnd rfl (fun ht=>(gdT ht)) rfl) ?_
 refine o_w (v:=.bool ((((((((d0.kind==d1.kind)&&(d0.time==d1.time))&&(d0.node==d1.node))&&(d0.dead==d1.dead))&&(d0.text==d1.text))&&(d0.flags==d1.flags))&&x21)&&x26)) (r_asg rfl) ?_
 refine eo_nil_sq ?_
 refine ec_ret ?_
 subst h
 exact (end1 rfl ⟨_,rfl,E27,rfl⟩)
end Go.Proofs.Ythifkdgljapmeaa
