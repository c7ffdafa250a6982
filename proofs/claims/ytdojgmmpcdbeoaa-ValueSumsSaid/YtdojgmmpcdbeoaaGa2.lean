/- The functions of value: what each comes to. -/
import Derived.Test.YtdojgmmpcdbeoaaCt
namespace Go.Proofs.Ytdojgmmpcdbeoaa
open Go Go.RowKit
set_option linter.unusedVariables false
set_option linter.unusedSimpArgs false
def slices_Equal_int_b2 (d0:(List Int)) (d1:(List Int)) (s2:Int) (z2:(Int) ⊕ ((Int) ⊕ (Bool))):Prop :=
 ((decide (s2<(d0.length:Int)))=true→((0≤s2∧s2<(d0.length:Int))∧((0≤s2∧s2<(d1.length:Int))∧((((nth d0 s2) != (nth d1 s2))=true→(z2=.inr (.inr false)))∧(((nth d0 s2) != (nth d1 s2))=false→(z2=.inl (IntKind.i64.wrap (s2 + (1:Int)))))))))∧((decide (s2<(d0.length:Int)))=false→(z2=.inr (.inl s2)))
def slices_Equal_int_raw (d0:(List Int)) (d1:(List Int)) (y:Bool):Prop :=
 (((d0.length:Int) != (d1.length:Int))=true→(y=false))∧(((d0.length:Int) != (d1.length:Int))=false→(∃ x2,LoopR (slices_Equal_int_b2 d0 d1) (0:Int) x2∧(∀ sx2,x2=.inl sx2→(y=true))∧(∀ y2,x2=.inr y2→(y=y2))))
set_option maxRecDepth 20000 in
set_option maxHeartbeats 4000000 in
theorem slices_Equal_int_c {L:List Nat} {w:World} {AP0:Option Addr} {cP0:Nat} (d0:(List Int)) (HP0:Stb L w (fun w=>SlC (kI .i64) w AP0 cP0 d0)) {AP1:Option Addr} {cP1:Nat} (d1:(List Int)) (HP1:Stb L w (fun w=>SlC (kI .i64) w AP1 cP1 d1)) (hL:Lt L w) {y:Bool} (h:slices_Equal_int_raw d0 d1 y) :
  Calls Try.prog 32 [.slice AP0 d0.length cP0,.slice AP1 d1.length cP1].toArray w (Ret fun v w'=>Ext w w'∧v=.bool y):=by
 unfold slices_Equal_int_raw at h
 refine calls_ec Try.func32 rfl rfl rfl ?_
 refine ec_sr ?_
 refine o_w (v:=.bool false) (r_asg rfl) ?_
 refine eo_nil_sq ?_
 refine ec_seq ?_
 refine ec_sr ?_
 refine o_w (v:=.slice AP0 d0.length cP0) (r_mov rfl) ?_
 refine o_w (v:=.int .i64 (d0.length:Int)) (r_len_slc un_s_int rfl) ?_
 refine o_w (v:=.slice AP1 d1.length cP1) (r_mov rfl) ?_
 refine o_w (v:=.int .i64 (d1.length:Int)) (r_len_slc un_s_int rfl) ?_
 refine o_w (v:=.bool ((d0.length:Int) != (d1.length:Int))) (r_int rfl rfl rfl) ?_
 refine eo_nil_sq ?_
 refine ec_cond rfl (fun hc1=>?_) (fun hc1=>?_)
 ·replace h:=h.1 hc1
  refine ec_sr ?_
  refine o_w (v:=.bool false) (r_asg rfl) ?_
  refine eo_nil_sq ?_
  refine ec_ret ?_
  refine sq_ret ?_
  subst h
  exact (end1 rfl ⟨_,rfl,(Fr.refl _ _),rfl⟩)
 ·replace h:=h.2 hc1
  refine ec_skip ?_
  refine sq_n ?_
  refine ec_seq ?_
  refine ec_sr ?_
  refine o_w (v:=.slice AP0 d0.length cP0) (r_mov rfl) ?_
  refine o_w (v:=.int .i64 (d0.length:Int)) (r_len_slc un_s_int rfl) ?_
  refine o_w (v:=.int .i64 0) (r_mov rfl) ?_
  refine eo_nil_sq ?_
  refine ec_block ?_
  obtain ⟨x2,hl2,h⟩:=h
  refine ec_loopER 0 (I:=(fun (s2:Int) ρ ds w'=>∃ (ρ':Env),ρ=envs ρ' [(13,.int .i64 s2),(0,.slice AP0 d0.length cP0),(1,.slice AP1 d1.length cP1),(12,.int .i64 (d0.length:Int))]∧ds=[]∧Fr L w w'∧Ext w w')) (J:=(fun (y':Bool) ρ ds wz=>bodyE Try.prog #[.tmp 4] (Ret fun v w'=>Ext w w'∧v=.bool y') .ret ρ ds wz)) ?_ hl2 ?_ ?_ ?_
  ·intro s2 z2 ρ2 ds2 w2r hI2 hb2
   obtain ⟨ρ2r,rfl,rfl,F2r,E2r⟩:=hI2
   have h:=hb2
   unfold slices_Equal_int_b2 at h
   have G3:Fr L w w2r:=(Fr.refl _ _).stp F2r (fun _ h=>.inl h)
   refine ec_sr ?_
   refine o_w (v:=.bool (decide (s2<(d0.length:Int)))) (r_int rfl rfl rfl) ?_
   refine eo_nil_sq ?_
   refine ec_seq ?_
   refine ec_cond rfl (fun hc4=>?_) (fun hc4=>?_)
   ·replace h:=h.1 hc4
    refine ec_skip ?_
    refine sq_n ?_
    refine ec_seq ?_
    refine ec_block ?_
    refine ec_sr ?_
    refine o_w (v:=.int .i64 s2) (r_mov rfl) ?_
    refine o_w (v:=.int .i64 s2) (r_asg rfl) ?_
    refine eo_nil_sq ?_
    refine ec_seq ?_
    obtain ⟨ha14,h⟩:=h
    obtain ⟨cs15,l17,H16⟩:=Stb.elem (by decide) (HP0.fr G3 sI) s2 ha14.1 ha14.2
    obtain ⟨rfl,H16'⟩:=kI_open2 H16
    obtain ⟨ha18,h⟩:=h
    obtain ⟨cs19,l21,H20⟩:=Stb.elem (by decide) (HP1.fr G3 sI) s2 ha18.1 ha18.2
    obtain ⟨rfl,H20'⟩:=kI_open2 H20
    refine ec_any0 (by kernel_rfl) [[],[],[0,1],[0,1,2],[],[],[4,5],[4,5,6],[0,1,2,3,4,5,6,7]] [16,17,18,19,20,21,22,23,24] [fun v _=>v=(.slice AP0 d0.length cP0:Value),fun v _=>v=(.int .i64 s2:Value),fun v _=>v=(.pointer (some (elemA AP0 (kI .i64).n s2.toNat)):Value),fun v _=>v=(.int .i64 (nth d0 s2):Value),fun v _=>v=(.slice AP1 d1.length cP1:Value),fun v _=>v=(.int .i64 s2:Value),fun v _=>v=(.pointer (some (elemA AP1 (kI .i64).n s2.toNat)):Value),fun v _=>v=(.int .i64 (nth d1 s2):Value),fun v _=>v=(.bool ((nth d0 s2) != (nth d1 s2)):Value)] (by kernel_rfl) ⟨fun _ _ _ _ _ h=>h,fun _ _ _ _ _ h=>h,fun _ _ _ _ _ h=>h,fun _ _ _ _ _ h=>h,fun _ _ _ _ _ h=>h,fun _ _ _ _ _ h=>h,fun _ _ _ _ _ h=>h,fun _ _ _ _ _ h=>h,fun _ _ _ _ _ h=>h,trivial⟩ ?_ ?_
    ·refine ⟨?_,?_,?_,?_,?_,?_,?_,?_,?_,trivial⟩
     ·intro ρ w13o F13o hS hρ
      have q0:ρ 0=.slice AP0 d0.length cP0:=hρ 0 (by kernel_rfl)
      exact o_q (r_mov q0) ⟨Fr.refl _ _,rfl⟩
     ·intro ρ w13o F13o hS hρ
      have q5:ρ 5=.int .i64 s2:=hρ 5 (by kernel_rfl)
      exact o_q (r_mov q5) ⟨Fr.refl _ _,rfl⟩
     ·intro ρ w13o F13o hS hρ
      have q16:ρ 16=.slice AP0 d0.length cP0:=hS 0 (by decide) 16 rfl
      have q17:ρ 17=.int .i64 s2:=hS 1 (by decide) 17 rfl
      exact o_q (r_ia slc_s_int q16 q17 ((HP0.fr (G3.trans (Fr.ext F13o)) sI).now.2 _ (lt_toNat ha14.1 ha14.2)).1 ha14.1 ha14.2) ⟨Fr.refl _ _,rfl⟩
     ·intro ρ w13o F13o hS hρ
      have G29:Fr L w2r w13o:=Fr.ext F13o
      have q18:ρ 18=.pointer (some (elemA AP0 (kI .i64).n s2.toNat)):=hS 2 (by decide) 18 rfl
      exact o_q (r_ld' one_int q18 (elemA_spot _ _ _) ((H16'.fr G29 sI).now.1.at0 (elemA_spot _ _ _))) ⟨Fr.refl _ _,rfl⟩
     ·intro ρ w13o F13o hS hρ
      have q1:ρ 1=.slice AP1 d1.length cP1:=hρ 1 (by kernel_rfl)
      exact o_q (r_mov q1) ⟨Fr.refl _ _,rfl⟩
     ·intro ρ w13o F13o hS hρ
      have q5:ρ 5=.int .i64 s2:=hρ 5 (by kernel_rfl)
      exact o_q (r_mov q5) ⟨Fr.refl _ _,rfl⟩
     ·intro ρ w13o F13o hS hρ
      have q20:ρ 20=.slice AP1 d1.length cP1:=hS 4 (by decide) 20 rfl
      have q21:ρ 21=.int .i64 s2:=hS 5 (by decide) 21 rfl
      exact o_q (r_ia slc_s_int q20 q21 ((HP1.fr (G3.trans (Fr.ext F13o)) sI).now.2 _ (lt_toNat ha18.1 ha18.2)).1 ha18.1 ha18.2) ⟨Fr.refl _ _,rfl⟩
     ·intro ρ w13o F13o hS hρ
      have G37:Fr L w2r w13o:=Fr.ext F13o
      have q22:ρ 22=.pointer (some (elemA AP1 (kI .i64).n s2.toNat)):=hS 6 (by decide) 22 rfl
      exact o_q (r_ld' one_int q22 (elemA_spot _ _ _) ((H20'.fr G37 sI).now.1.at0 (elemA_spot _ _ _))) ⟨Fr.refl _ _,rfl⟩
     ·intro ρ w13o F13o hS hρ
      have q19:ρ 19=.int .i64 (nth d0 s2):=hS 3 (by decide) 19 rfl
      have q23:ρ 23=.int .i64 (nth d1 s2):=hS 7 (by decide) 23 rfl
      exact o_q (r_int q19 q23 rfl) ⟨Fr.refl _ _,rfl⟩
    ·intro ρ w13 F13 hS hρ
     have q24:ρ 24=.bool ((nth d0 s2) != (nth d1 s2)):=hS 8 24 rfl
     obtain ⟨ρ',rfl⟩:∃ ρ',ρ=envs (ovr [16,17,18,19,20,21,22,23,24] ρ' _) [(24,.bool ((nth d0 s2) != (nth d1 s2)))]:=⟨ρ,ovr_self hρ ⟨q24,trivial⟩⟩
     have E38:=E2r.trans F13
     refine sq_n ?_
     refine ec_cond rfl (fun hc42=>?_) (fun hc42=>?_)
     ·replace h:=h.1 hc42
      refine ec_sr ?_
      refine o_w (v:=.bool false) (r_asg rfl) ?_
      refine eo_nil_sq ?_
      refine ec_ret ?_
      refine blk_ret ?_
      refine sq_ret ?_
      subst h
      exact lqR_r (end1 rfl ⟨_,rfl,E38,rfl⟩)
     ·replace h:=h.2 hc42
      refine ec_skip ?_
      refine blk_n ?_
      refine sq_n ?_
      refine ec_region ?_
      refine o_w (v:=.int .i64 (IntKind.i64.wrap (s2 + (1:Int)))) (r_int rfl rfl rfl) ?_
      refine o_w (v:=.int .i64 (IntKind.i64.wrap (s2 + (1:Int)))) (r_mov rfl) ?_
      refine eo_nil ?_
      subst h
      exact lqR_n ⟨_,envs_self ⟨rfl,rfl,rfl,rfl,trivial⟩,rfl,(F2r.trans (Fr.ext F13)),E38⟩
   ·replace h:=h.2 hc4
    refine ec_exit ?_
    refine sq_exit ?_
    subst h
    exact lqR_x ⟨_,envs_self ⟨rfl,rfl,rfl,rfl,trivial⟩,rfl,F2r,E2r⟩
  ·exact ⟨_,envs_self ⟨rfl,rfl,rfl,rfl,trivial⟩,rfl,(Fr.refl _ _),(Fr.refl _ _)⟩
  ·rintro sx2 rfl ρ2e ds2e w2e ⟨ρ2e,rfl,rfl,F2e,E2e⟩
   replace h:=h.1 _ rfl
   refine blk_hit ?_
   refine sq_n ?_
   refine ec_sr ?_
   refine o_w (v:=.bool true) (r_asg rfl) ?_
   refine eo_nil_sq ?_
   refine ec_ret ?_
   subst h
   exact (end1 rfl ⟨_,rfl,E2e,rfl⟩)
  ·rintro y2 rfl ρ2q ds2q w2q hJ
   have hy:=h.2 _ rfl
   subst hy
   refine blk_ret ?_
   refine sq_ret ?_
   exact hJ
def value_Same_raw (d0:Val) (d1:Val) (y:Bool):Prop :=
 ∃ x21,(((((((d0.kind==d1.kind)&&(d0.time==d1.time))&&(d0.node==d1.node))&&(d0.dead==d1.dead))&&(d0.text==d1.text))&&(d0.flags==d1.flags))=true→slices_Equal_int_raw d0.plus d1.plus x21)∧(∃ x26,((((((((d0.kind==d1.kind)&&(d0.time==d1.time))&&(d0.node==d1.node))&&(d0.dead==d1.dead))&&(d0.text==d1.text))&&(d0.flags==d1.flags))&&x21)=true→slices_Equal_int_raw d0.minus d1.minus x26)∧(y=((((((((d0.kind==d1.kind)&&(d0.time==d1.time))&&(d0.node==d1.node))&&(d0.dead==d1.dead))&&(d0.text==d1.text))&&(d0.flags==d1.flags))&&x21)&&x26)))
set_option maxRecDepth 20000 in
set_option maxHeartbeats 4000000 in
theorem value_Same_c {L:List Nat} {w:World} {csP0:List Value} (d0:Val) (HP0:Stb L w (fun w=>kVal.r w csP0 d0)) {csP1:List Value} (d1:Val) (HP1:Stb L w (fun w=>kVal.r w csP1 d1)) (hL:Lt L w) {y:Bool} (h:value_Same_raw d0 d1 y) :
  Calls Try.prog 22 [.agg csP0.toArray,.agg csP1.toArray].toArray w (Ret fun v w'=>Ext w w'∧v=.bool y):=by
 obtain ⟨A1,c2,A4,c5,rfl,H3,H6⟩:=kVal_open HP0
 obtain ⟨A7,c8,A10,c11,rfl,H9,H12⟩:=kVal_open HP1
 unfold value_Same_raw at h
 refine calls_ec Try.func22 rfl rfl rfl ?_
 refine ec_sr ?_
 refine o_box (cs:=(cVal d0 A1 c2 A4 c5)) rfl rfl rfl ?_
 intro b13 w13 e13 F13 B13
 have S13:=B13.stb (nin hL e13)
 have G14:Fr L w w13:=Fr.ext F13
 refine o_box (cs:=(cVal d1 A7 c8 A10 c11)) rfl rfl rfl ?_
 intro b15 w15 e15 F15 B15
 have S15:=B15.stb (nin (hL.fr F13) e15)
 have E16:=F13.trans F15
 have G18:Fr L w13 w15:=Fr.ext F15
 refine o_w (v:=.bool false) (r_asg rfl) ?_
 refine eo_r ?_
 refine o_w (v:=.pointer (some ⟨b13,0,none⟩)) (r_fa fld_api_Value_0 rfl rfl) ?_
 refine o_w (v:=.int .i64 d0.kind) (r_ld one_int rfl ((S13.fr G18 sI).now.cell rfl)) ?_
 refine o_w (v:=.pointer (some ⟨b15,0,none⟩)) (r_fa fld_api_Value_0 rfl rfl) ?_
 refine o_w (v:=.int .i64 d1.kind) (r_ld one_int rfl (S15.now.cell rfl)) ?_
 refine o_w (v:=.bool (d0.kind==d1.kind)) (r_int rfl rfl rfl) ?_
 refine o_w (v:=.bool (d0.kind==d1.kind)) (r_mov rfl) ?_
 refine o_vg (v:=.pointer (some ⟨b13,1,none⟩)) (want_ct (t:=10) rfl rfl) (fun hk=>(r_fa fld_api_Value_1 rfl rfl)) rfl rfl ?_
 refine o_vg (v:=.int .i64 d0.time) (want_ct (t:=10) rfl rfl) (fun hk=>(r_ld one_int (gdT hk) ((S13.fr G18 sI).now.cell rfl))) rfl rfl ?_
 refine o_vg (v:=.pointer (some ⟨b15,1,none⟩)) (want_ct (t:=10) rfl rfl) (fun hk=>(r_fa fld_api_Value_1 rfl rfl)) rfl rfl ?_
 refine o_vg (v:=.int .i64 d1.time) (want_ct (t:=10) rfl rfl) (fun hk=>(r_ld one_int (gdT hk) (S15.now.cell rfl))) rfl rfl ?_
 refine o_vg (v:=.bool (d0.time==d1.time)) (want_ct (t:=10) rfl rfl) (fun hk=>(r_int (gdT hk) (gdT hk) rfl)) rfl rfl ?_
 refine o_w (v:=.bool ((d0.kind==d1.kind)&&(d0.time==d1.time))) (r_pickAnd rfl (fun ht=>(gdT ht)) rfl) ?_
 refine o_w (v:=.bool ((d0.kind==d1.kind)&&(d0.time==d1.time))) (r_mov rfl) ?_
 refine o_vg (v:=.pointer (some ⟨b13,2,none⟩)) (want_ct (t:=17) rfl rfl) (fun hk=>(r_fa fld_api_Value_2 rfl rfl)) rfl rfl ?_
 refine o_vg (v:=.int .i64 d0.node) (want_ct (t:=17) rfl rfl) (fun hk=>(r_ld one_int (gdT hk) ((S13.fr G18 sI).now.cell rfl))) rfl rfl ?_
 refine o_vg (v:=.pointer (some ⟨b15,2,none⟩)) (want_ct (t:=17) rfl rfl) (fun hk=>(r_fa fld_api_Value_2 rfl rfl)) rfl rfl ?_
 refine o_vg (v:=.int .i64 d1.node) (want_ct (t:=17) rfl rfl) (fun hk=>(r_ld one_int (gdT hk) (S15.now.cell rfl))) rfl rfl ?_
 refine o_vg (v:=.bool (d0.node==d1.node)) (want_ct (t:=17) rfl rfl) (fun hk=>(r_int (gdT hk) (gdT hk) rfl)) rfl rfl ?_
 refine o_w (v:=.bool (((d0.kind==d1.kind)&&(d0.time==d1.time))&&(d0.node==d1.node))) (r_pickAnd rfl (fun ht=>(gdT ht)) rfl) ?_
 refine o_w (v:=.bool (((d0.kind==d1.kind)&&(d0.time==d1.time))&&(d0.node==d1.node))) (r_mov rfl) ?_
 refine o_vg (v:=.pointer (some ⟨b13,3,none⟩)) (want_ct (t:=24) rfl rfl) (fun hk=>(r_fa fld_api_Value_3 rfl rfl)) rfl rfl ?_
 refine o_vg (v:=.bool d0.dead) (want_ct (t:=24) rfl rfl) (fun hk=>(r_ld one_bool (gdT hk) ((S13.fr G18 sI).now.cell rfl))) rfl rfl ?_
 refine o_vg (v:=.pointer (some ⟨b15,3,none⟩)) (want_ct (t:=24) rfl rfl) (fun hk=>(r_fa fld_api_Value_3 rfl rfl)) rfl rfl ?_
 refine o_vg (v:=.bool d1.dead) (want_ct (t:=24) rfl rfl) (fun hk=>(r_ld one_bool (gdT hk) (S15.now.cell rfl))) rfl rfl ?_
 refine o_vg (v:=.bool (d0.dead==d1.dead)) (want_ct (t:=24) rfl rfl) (fun hk=>(r_boolEq un_bool (gdT hk) (gdT hk))) rfl rfl ?_
 refine o_w (v:=.bool ((((d0.kind==d1.kind)&&(d0.time==d1.time))&&(d0.node==d1.node))&&(d0.dead==d1.dead))) (r_pickAnd rfl (fun ht=>(gdT ht)) rfl) ?_
 refine o_w (v:=.bool ((((d0.kind==d1.kind)&&(d0.time==d1.time))&&(d0.node==d1.node))&&(d0.dead==d1.dead))) (r_mov rfl) ?_
 refine o_vg (v:=.pointer (some ⟨b13,4,none⟩)) (want_ct (t:=31) rfl rfl) (fun hk=>(r_fa fld_api_Value_4 rfl rfl)) rfl rfl ?_
 refine o_vg (v:=str d0.text) (want_ct (t:=31) rfl rfl) (fun hk=>(r_ld one_string (gdT hk) ((S13.fr G18 sI).now.cell rfl))) rfl rfl ?_
 refine o_vg (v:=.pointer (some ⟨b15,4,none⟩)) (want_ct (t:=31) rfl rfl) (fun hk=>(r_fa fld_api_Value_4 rfl rfl)) rfl rfl ?_
 refine o_vg (v:=str d1.text) (want_ct (t:=31) rfl rfl) (fun hk=>(r_ld one_string (gdT hk) (S15.now.cell rfl))) rfl rfl ?_
 refine o_vg (v:=.bool (d0.text==d1.text)) (want_ct (t:=31) rfl rfl) (fun hk=>(r_str (gdT hk) (gdT hk) rfl)) rfl rfl ?_
 refine o_w (v:=.bool (((((d0.kind==d1.kind)&&(d0.time==d1.time))&&(d0.node==d1.node))&&(d0.dead==d1.dead))&&(d0.text==d1.text))) (r_pickAnd rfl (fun ht=>(gdT ht)) rfl) ?_
 refine o_w (v:=.bool (((((d0.kind==d1.kind)&&(d0.time==d1.time))&&(d0.node==d1.node))&&(d0.dead==d1.dead))&&(d0.text==d1.text))) (r_mov rfl) ?_
 refine o_vg (v:=.pointer (some ⟨b13,7,none⟩)) (want_ct (t:=38) rfl rfl) (fun hk=>(r_fa fld_api_Value_7 rfl rfl)) rfl rfl ?_
 refine o_vg (v:=.int .u64 d0.flags) (want_ct (t:=38) rfl rfl) (fun hk=>(r_ld one_uint64 (gdT hk) ((S13.fr G18 sI).now.cell rfl))) rfl rfl ?_
 refine o_vg (v:=.pointer (some ⟨b15,7,none⟩)) (want_ct (t:=38) rfl rfl) (fun hk=>(r_fa fld_api_Value_7 rfl rfl)) rfl rfl ?_
 refine o_vg (v:=.int .u64 d1.flags) (want_ct (t:=38) rfl rfl) (fun hk=>(r_ld one_uint64 (gdT hk) (S15.now.cell rfl))) rfl rfl ?_
 refine o_vg (v:=.bool (d0.flags==d1.flags)) (want_ct (t:=38) rfl rfl) (fun hk=>(r_int (gdT hk) (gdT hk) rfl)) rfl rfl ?_
 refine o_w (v:=.bool ((((((d0.kind==d1.kind)&&(d0.time==d1.time))&&(d0.node==d1.node))&&(d0.dead==d1.dead))&&(d0.text==d1.text))&&(d0.flags==d1.flags))) (r_pickAnd rfl (fun ht=>(gdT ht)) rfl) ?_
 refine o_w (v:=.bool ((((((d0.kind==d1.kind)&&(d0.time==d1.time))&&(d0.node==d1.node))&&(d0.dead==d1.dead))&&(d0.text==d1.text))&&(d0.flags==d1.flags))) (r_mov rfl) ?_
 refine o_vg (v:=.pointer (some ⟨b13,5,none⟩)) (want_ct (t:=45) rfl rfl) (fun hk=>(r_fa fld_api_Value_5 rfl rfl)) rfl rfl ?_
 refine o_vg (v:=.slice A1 d0.plus.length c2) (want_ct (t:=45) rfl rfl) (fun hk=>(r_ld one_s_int (gdT hk) ((S13.fr G18 sI).now.cell rfl))) rfl rfl ?_
 refine o_vg (v:=.pointer (some ⟨b15,5,none⟩)) (want_ct (t:=45) rfl rfl) (fun hk=>(r_fa fld_api_Value_5 rfl rfl)) rfl rfl ?_
 refine o_vg (v:=.slice A7 d1.plus.length c8) (want_ct (t:=45) rfl rfl) (fun hk=>(r_ld one_s_int (gdT hk) (S15.now.cell rfl))) rfl rfl ?_
 obtain ⟨x21,hx21,h⟩:=h
 refine o_callg (V:=.bool x21) cf_slices_Equal_int (want_ct (t:=45) rfl rfl) (fun hk=>(mapv2 (gdT hk) (gdT hk))) (fun hk=>(slices_Equal_int_c d0.plus (H3.fr (G14.trans (Fr.ext F15)) sI) d1.plus (H9.fr (G14.trans (Fr.ext F15)) sI) (hL.fr E16) (hx21 hk))) rfl ?_
 intro w21 F21
 have E22:=E16.trans F21
 have G25:Fr L w15 w21:=Fr.ext F21
 refine o_w (v:=.bool (((((((d0.kind==d1.kind)&&(d0.time==d1.time))&&(d0.node==d1.node))&&(d0.dead==d1.dead))&&(d0.text==d1.text))&&(d0.flags==d1.flags))&&x21)) (r_pickAnd rfl (fun ht=>(gdT ht)) rfl) ?_
 refine o_w (v:=.bool (((((((d0.kind==d1.kind)&&(d0.time==d1.time))&&(d0.node==d1.node))&&(d0.dead==d1.dead))&&(d0.text==d1.text))&&(d0.flags==d1.flags))&&x21)) (r_mov rfl) ?_
 refine o_vg (v:=.pointer (some ⟨b13,6,none⟩)) (want_ct (t:=52) rfl rfl) (fun hk=>(r_fa fld_api_Value_6 rfl rfl)) rfl rfl ?_
 refine o_vg (v:=.slice A4 d0.minus.length c5) (want_ct (t:=52) rfl rfl) (fun hk=>(r_ld one_s_int (gdT hk) ((S13.fr (G18.trans (Fr.ext F21)) sI).now.cell rfl))) rfl rfl ?_
 refine o_vg (v:=.pointer (some ⟨b15,6,none⟩)) (want_ct (t:=52) rfl rfl) (fun hk=>(r_fa fld_api_Value_6 rfl rfl)) rfl rfl ?_
 refine o_vg (v:=.slice A10 d1.minus.length c11) (want_ct (t:=52) rfl rfl) (fun hk=>(r_ld one_s_int (gdT hk) ((S15.fr G25 sI).now.cell rfl))) rfl rfl ?_
 obtain ⟨x26,hx26,h⟩:=h
 refine o_callg (V:=.bool x26) cf_slices_Equal_int (want_ct (t:=52) rfl rfl) (fun hk=>(mapv2 (gdT hk) (gdT hk))) (fun hk=>(slices_Equal_int_c d0.minus (H6.fr ((G14.trans (Fr.ext F15)).trans (Fr.ext F21)) sI) d1.minus (H12.fr ((G14.trans (Fr.ext F15)).trans (Fr.ext F21)) sI) (hL.fr E22) (hx26 hk))) rfl ?_
 intro w26 F26
 have E27:=E22.trans F26
 refine o_w (v:=.bool ((((((((d0.kind==d1.kind)&&(d0.time==d1.time))&&(d0.node==d1.node))&&(d0.dead==d1.dead))&&(d0.text==d1.text))&&(d0.flags==d1.flags))&&x21)&&x26)) (r_pickAnd rfl (fun ht=>(gdT ht)) rfl) ?_
 refine o_w (v:=.bool ((((((((d0.kind==d1.kind)&&(d0.time==d1.time))&&(d0.node==d1.node))&&(d0.dead==d1.dead))&&(d0.text==d1.text))&&(d0.flags==d1.flags))&&x21)&&x26)) (r_asg rfl) ?_
 refine eo_nil_sq ?_
 refine ec_ret ?_
 subst h
 exact (end1 rfl ⟨_,rfl,E27,rfl⟩)
def value_bit_raw (d0:Bool) (y:Int):Prop :=
 (d0=true→(y=(1:Int)))∧(d0=false→(y=(0:Int)))
set_option maxRecDepth 20000 in
set_option maxHeartbeats 4000000 in
theorem value_bit_c {L:List Nat} {w:World} (d0:Bool) (hL:Lt L w) {y:Int} (h:value_bit_raw d0 y) :
  Calls Try.prog 56 [.bool d0].toArray w (Ret fun v w'=>Ext w w'∧v=.int .i64 y):=by
 unfold value_bit_raw at h
 refine calls_ec Try.func56 rfl rfl rfl ?_
 refine ec_sr ?_
 refine o_w (v:=.int .i64 0) (r_asg rfl) ?_
 refine eo_nil_sq ?_
 refine ec_seq ?_
 refine ec_sr ?_
 refine o_w (v:=.bool d0) (r_mov rfl) ?_
 refine eo_nil_sq ?_
 refine ec_cond rfl (fun hc1=>?_) (fun hc1=>?_)
 ·replace h:=h.1 hc1
  refine ec_sr ?_
  refine o_w (v:=.int .i64 1) (r_asg rfl) ?_
  refine eo_nil_sq ?_
  refine ec_ret ?_
  refine sq_ret ?_
  subst h
  exact (end1 rfl ⟨_,rfl,(Fr.refl _ _),rfl⟩)
 ·replace h:=h.2 hc1
  refine ec_skip ?_
  refine sq_n ?_
  refine ec_sr ?_
  refine o_w (v:=.int .i64 0) (r_asg rfl) ?_
  refine eo_nil_sq ?_
  refine ec_ret ?_
  subst h
  exact (end1 rfl ⟨_,rfl,(Fr.refl _ _),rfl⟩)
def value_first_b1 (d0:(List Int)) (s1:Int) (z1:(Int) ⊕ ((Int) ⊕ (Int))):Prop :=
 ((decide (s1<(d0.length:Int)))=true→((0≤s1∧s1<(d0.length:Int))∧((((nth d0 s1) != (0:Int))=true→(z1=.inr (.inr (nth d0 s1))))∧(((nth d0 s1) != (0:Int))=false→(z1=.inl (IntKind.i64.wrap (s1 + (1:Int))))))))∧((decide (s1<(d0.length:Int)))=false→(z1=.inr (.inl s1)))
def value_first_raw (d0:(List Int)) (y:Int):Prop :=
 ∃ x1,LoopR (value_first_b1 d0) (0:Int) x1∧(∀ sx1,x1=.inl sx1→(y=(0:Int)))∧(∀ y1,x1=.inr y1→(y=y1))
set_option maxRecDepth 20000 in
set_option maxHeartbeats 4000000 in
theorem value_first_c {L:List Nat} {w:World} {AP0:Option Addr} {cP0:Nat} (d0:(List Int)) (HP0:Stb L w (fun w=>SlC (kI .i64) w AP0 cP0 d0)) (hL:Lt L w) {y:Int} (h:value_first_raw d0 y) :
  Calls Try.prog 54 [.slice AP0 d0.length cP0].toArray w (Ret fun v w'=>Ext w w'∧v=.int .i64 y):=by
 unfold value_first_raw at h
 refine calls_ec Try.func54 rfl rfl rfl ?_
 refine ec_sr ?_
 refine o_w (v:=.int .i64 0) (r_asg rfl) ?_
 refine eo_nil_sq ?_
 refine ec_seq ?_
 refine ec_sr ?_
 refine o_w (v:=.slice AP0 d0.length cP0) (r_mov rfl) ?_
 refine o_w (v:=.int .i64 (d0.length:Int)) (r_len_slc un_s_int rfl) ?_
 refine o_w (v:=.int .i64 0) (r_mov rfl) ?_
 refine eo_nil_sq ?_
 refine ec_block ?_
 obtain ⟨x1,hl1,h⟩:=h
 refine ec_loopER 0 (I:=(fun (s1:Int) ρ ds w'=>∃ (ρ':Env),ρ=envs ρ' [(7,.int .i64 s1),(5,.slice AP0 d0.length cP0),(6,.int .i64 (d0.length:Int))]∧ds=[]∧Fr L w w'∧Ext w w')) (J:=(fun (y':Int) ρ ds wz=>bodyE Try.prog #[.tmp 2] (Ret fun v w'=>Ext w w'∧v=.int .i64 y') .ret ρ ds wz)) ?_ hl1 ?_ ?_ ?_
 ·intro s1 z1 ρ1 ds1 w1r hI1 hb1
  obtain ⟨ρ1r,rfl,rfl,F1r,E1r⟩:=hI1
  have h:=hb1
  unfold value_first_b1 at h
  have G2:Fr L w w1r:=(Fr.refl _ _).stp F1r (fun _ h=>.inl h)
  refine ec_sr ?_
  refine o_w (v:=.bool (decide (s1<(d0.length:Int)))) (r_int rfl rfl rfl) ?_
  refine eo_nil_sq ?_
  refine ec_seq ?_
  refine ec_cond rfl (fun hc3=>?_) (fun hc3=>?_)
  ·replace h:=h.1 hc3
   refine ec_skip ?_
   refine sq_n ?_
   refine ec_seq ?_
   refine ec_block ?_
   refine ec_sr ?_
   obtain ⟨ha4,h⟩:=h
   obtain ⟨cs5,l7,H6⟩:=Stb.elem (by decide) (HP0.fr G2 sI) s1 ha4.1 ha4.2
   obtain ⟨rfl,H6'⟩:=kI_open2 H6
   refine o_w (v:=.pointer (some (elemA AP0 (kI .i64).n s1.toNat))) (r_ia slc_s_int rfl rfl ((HP0.fr G2 sI).now.2 _ (lt_toNat ha4.1 ha4.2)).1 ha4.1 ha4.2) ?_
   refine o_w (v:=.int .i64 (nth d0 s1)) (r_ld' one_int rfl (elemA_spot _ _ _) (H6'.now.1.at0 (elemA_spot _ _ _))) ?_
   refine o_w (v:=.int .i64 (nth d0 s1)) (r_asg rfl) ?_
   refine eo_r ?_
   refine o_w (v:=.int .i64 (nth d0 s1)) (r_mov rfl) ?_
   refine o_w (v:=.bool ((nth d0 s1) != (0:Int))) (r_int rfl rfl rfl) ?_
   refine eo_nil_sq ?_
   refine ec_cond rfl (fun hc8=>?_) (fun hc8=>?_)
   ·replace h:=h.1 hc8
    refine ec_sr ?_
    refine o_w (v:=.int .i64 (nth d0 s1)) (r_mov rfl) ?_
    refine o_w (v:=.int .i64 (nth d0 s1)) (r_asg rfl) ?_
    refine eo_nil_sq ?_
    refine ec_ret ?_
    refine blk_ret ?_
    refine sq_ret ?_
    subst h
    exact lqR_r (end1 rfl ⟨_,rfl,E1r,rfl⟩)
   ·replace h:=h.2 hc8
    refine ec_skip ?_
    refine blk_n ?_
    refine sq_n ?_
    refine ec_region ?_
    refine o_w (v:=.int .i64 (IntKind.i64.wrap (s1 + (1:Int)))) (r_int rfl rfl rfl) ?_
    refine o_w (v:=.int .i64 (IntKind.i64.wrap (s1 + (1:Int)))) (r_mov rfl) ?_
    refine eo_nil ?_
    subst h
    exact lqR_n ⟨_,envs_self ⟨rfl,rfl,rfl,trivial⟩,rfl,F1r,E1r⟩
  ·replace h:=h.2 hc3
   refine ec_exit ?_
   refine sq_exit ?_
   subst h
   exact lqR_x ⟨_,envs_self ⟨rfl,rfl,rfl,trivial⟩,rfl,F1r,E1r⟩
 ·exact ⟨_,envs_self ⟨rfl,rfl,rfl,trivial⟩,rfl,(Fr.refl _ _),(Fr.refl _ _)⟩
 ·rintro sx1 rfl ρ1e ds1e w1e ⟨ρ1e,rfl,rfl,F1e,E1e⟩
  replace h:=h.1 _ rfl
  refine blk_hit ?_
  refine sq_n ?_
  refine ec_sr ?_
  refine o_w (v:=.int .i64 0) (r_asg rfl) ?_
  refine eo_nil_sq ?_
  refine ec_ret ?_
  subst h
  exact (end1 rfl ⟨_,rfl,E1e,rfl⟩)
 ·rintro y1 rfl ρ1q ds1q w1q hJ
  have hy:=h.2 _ rfl
  subst hy
  refine blk_ret ?_
  refine sq_ret ?_
  exact hJ
def cmp_isNaN_int_raw (d0:Int) (y:Bool):Prop :=
 y=(d0 != d0)
set_option maxRecDepth 20000 in
set_option maxHeartbeats 4000000 in
theorem cmp_isNaN_int_c {L:List Nat} {w:World} (d0:Int) (hL:Lt L w) {y:Bool} (h:cmp_isNaN_int_raw d0 y) :
  Calls Try.prog 58 [.int .i64 d0].toArray w (Ret fun v w'=>Ext w w'∧v=.bool y):=by
 unfold cmp_isNaN_int_raw at h
 refine calls_ec Try.func58 rfl rfl rfl ?_
 refine ec_sr ?_
 refine o_w (v:=.bool false) (r_asg rfl) ?_
 refine eo_r ?_
 iterate 2 refine o_w (v:=.int .i64 d0) (r_mov rfl) ?_
 refine o_w (v:=.bool (d0 != d0)) (r_int rfl rfl rfl) ?_
 refine o_w (v:=.bool (d0 != d0)) (r_asg rfl) ?_
 refine eo_nil_sq ?_
 refine ec_ret ?_
 subst h
 exact (end1 rfl ⟨_,rfl,(Fr.refl _ _),rfl⟩)
def cmp_isNaN_string_raw (d0:Str) (y:Bool):Prop :=
 y=(!(d0==d0))
set_option maxRecDepth 20000 in
set_option maxHeartbeats 4000000 in
theorem cmp_isNaN_string_c {L:List Nat} {w:World} (d0:Str) (hL:Lt L w) {y:Bool} (h:cmp_isNaN_string_raw d0 y) :
  Calls Try.prog 59 [str d0].toArray w (Ret fun v w'=>Ext w w'∧v=.bool y):=by
 unfold cmp_isNaN_string_raw at h
 refine calls_ec Try.func59 rfl rfl rfl ?_
 refine ec_sr ?_
 refine o_w (v:=.bool false) (r_asg rfl) ?_
 refine eo_r ?_
 iterate 2 refine o_w (v:=str d0) (r_mov rfl) ?_
 refine o_w (v:=.bool (!(d0==d0))) (r_str rfl rfl rfl) ?_
 refine o_w (v:=.bool (!(d0==d0))) (r_asg rfl) ?_
 refine eo_nil_sq ?_
 refine ec_ret ?_
 subst h
 exact (end1 rfl ⟨_,rfl,(Fr.refl _ _),rfl⟩)
def cmp_Compare_int_raw (d0:Int) (d1:Int) (y:Int):Prop :=
 ∃ x1,cmp_isNaN_int_raw d0 x1∧(∃ x2,cmp_isNaN_int_raw d1 x2∧((x1=true→((x2=true→(y=(0:Int)))∧(x2=false→(y=(-1:Int)))))∧(x1=false→((x2=true→(y=(1:Int)))∧(x2=false→(((decide (d0<d1))=true→(y=(-1:Int)))∧((decide (d0<d1))=false→(((decide (d1<d0))=true→(y=(1:Int)))∧((decide (d1<d0))=false→(y=(0:Int)))))))))))
set_option maxRecDepth 20000 in
set_option maxHeartbeats 4000000 in
theorem cmp_Compare_int_c {L:List Nat} {w:World} (d0:Int) (d1:Int) (hL:Lt L w) {y:Int} (h:cmp_Compare_int_raw d0 d1 y) :
  Calls Try.prog 55 [.int .i64 d0,.int .i64 d1].toArray w (Ret fun v w'=>Ext w w'∧v=.int .i64 y):=by
 unfold cmp_Compare_int_raw at h
 refine calls_ec Try.func55 rfl rfl rfl ?_
 refine ec_sr ?_
 refine o_w (v:=.int .i64 0) (r_asg rfl) ?_
 refine eo_r ?_
 refine o_w (v:=.int .i64 d0) (r_mov rfl) ?_
 obtain ⟨x1,hx1,h⟩:=h
 refine o_call cf_cmp_isNaN_int rfl (cmp_isNaN_int_c d0 hL hx1) rfl rfl ?_
 rintro _ w1 ⟨F1,rfl⟩
 refine o_w (v:=.bool x1) (r_asg rfl) ?_
 refine eo_r ?_
 refine o_w (v:=.int .i64 d1) (r_mov rfl) ?_
 obtain ⟨x2,hx2,h⟩:=h
 refine o_call cf_cmp_isNaN_int rfl (cmp_isNaN_int_c d1 (hL.fr F1) hx2) rfl rfl ?_
 rintro _ w2 ⟨F2,rfl⟩
 have E3:=F1.trans F2
 refine o_w (v:=.bool x2) (r_asg rfl) ?_
 refine eo_nil_sq ?_
 refine ec_seq ?_
 refine ec_sr ?_
 refine o_w (v:=.bool x1) (r_mov rfl) ?_
 refine eo_nil_sq ?_
 refine ec_cond rfl (fun hc4=>?_) (fun hc4=>?_)
 ·replace h:=h.1 hc4
  refine ec_seq ?_
  refine ec_sr ?_
  refine o_w (v:=.bool x2) (r_mov rfl) ?_
  refine eo_nil_sq ?_
  refine ec_cond rfl (fun hc5=>?_) (fun hc5=>?_)
  ·replace h:=h.1 hc5
   refine ec_sr ?_
   refine o_w (v:=.int .i64 0) (r_asg rfl) ?_
   refine eo_nil_sq ?_
   refine ec_ret ?_
   iterate 2 refine sq_ret ?_
   subst h
   exact (end1 rfl ⟨_,rfl,E3,rfl⟩)
  ·replace h:=h.2 hc5
   refine ec_skip ?_
   refine sq_n ?_
   refine ec_sr ?_
   refine o_w (v:=.int .i64 (-1:Int)) (r_asg rfl) ?_
   refine eo_nil_sq ?_
   refine ec_ret ?_
   refine sq_ret ?_
   subst h
   exact (end1 rfl ⟨_,rfl,E3,rfl⟩)
 ·replace h:=h.2 hc4
  refine ec_skip ?_
  refine sq_n ?_
  refine ec_seq ?_
  refine ec_sr ?_
  refine o_w (v:=.bool x2) (r_mov rfl) ?_
  refine eo_nil_sq ?_
  refine ec_cond rfl (fun hc6=>?_) (fun hc6=>?_)
  ·replace h:=h.1 hc6
   refine ec_sr ?_
   refine o_w (v:=.int .i64 1) (r_asg rfl) ?_
   refine eo_nil_sq ?_
   refine ec_ret ?_
   refine sq_ret ?_
   subst h
   exact (end1 rfl ⟨_,rfl,E3,rfl⟩)
  ·replace h:=h.2 hc6
   refine ec_skip ?_
   refine sq_n ?_
   refine ec_seq ?_
   refine ec_sr ?_
   refine o_w (v:=.int .i64 d0) (r_mov rfl) ?_
   refine o_w (v:=.int .i64 d1) (r_mov rfl) ?_
   refine o_w (v:=.bool (decide (d0<d1))) (r_int rfl rfl rfl) ?_
   refine eo_nil_sq ?_
   refine ec_cond rfl (fun hc7=>?_) (fun hc7=>?_)
   ·replace h:=h.1 hc7
    refine ec_sr ?_
    refine o_w (v:=.int .i64 (-1:Int)) (r_asg rfl) ?_
    refine eo_nil_sq ?_
    refine ec_ret ?_
    refine sq_ret ?_
    subst h
    exact (end1 rfl ⟨_,rfl,E3,rfl⟩)
   ·replace h:=h.2 hc7
    refine ec_skip ?_
    refine sq_n ?_
    refine ec_seq ?_
    refine ec_sr ?_
    refine o_w (v:=.int .i64 d0) (r_mov rfl) ?_
    refine o_w (v:=.int .i64 d1) (r_mov rfl) ?_
    refine o_w (v:=.bool (decide (d1<d0))) (r_int rfl rfl rfl) ?_
    refine eo_nil_sq ?_
    refine ec_cond rfl (fun hc8=>?_) (fun hc8=>?_)
    ·replace h:=h.1 hc8
     refine ec_sr ?_
     refine o_w (v:=.int .i64 1) (r_asg rfl) ?_
     refine eo_nil_sq ?_
     refine ec_ret ?_
     refine sq_ret ?_
     subst h
     exact (end1 rfl ⟨_,rfl,E3,rfl⟩)
    ·replace h:=h.2 hc8
     refine ec_skip ?_
     refine sq_n ?_
     refine ec_sr ?_
     refine o_w (v:=.int .i64 0) (r_asg rfl) ?_
     refine eo_nil_sq ?_
     refine ec_ret ?_
     subst h
     exact (end1 rfl ⟨_,rfl,E3,rfl⟩)
def cmp_Compare_string_raw (d0:Str) (d1:Str) (y:Int):Prop :=
 ∃ x1,cmp_isNaN_string_raw d0 x1∧(∃ x2,cmp_isNaN_string_raw d1 x2∧((x1=true→((x2=true→(y=(0:Int)))∧(x2=false→(y=(-1:Int)))))∧(x1=false→((x2=true→(y=(1:Int)))∧(x2=false→(((Op.bytesLess d0 d1)=true→(y=(-1:Int)))∧((Op.bytesLess d0 d1)=false→(((!(Op.bytesLess d0 d1||d0==d1))=true→(y=(1:Int)))∧((!(Op.bytesLess d0 d1||d0==d1))=false→(y=(0:Int)))))))))))
set_option maxRecDepth 20000 in
set_option maxHeartbeats 4000000 in
theorem cmp_Compare_string_c {L:List Nat} {w:World} (d0:Str) (d1:Str) (hL:Lt L w) {y:Int} (h:cmp_Compare_string_raw d0 d1 y) :
  Calls Try.prog 57 [str d0,str d1].toArray w (Ret fun v w'=>Ext w w'∧v=.int .i64 y):=by
 unfold cmp_Compare_string_raw at h
 refine calls_ec Try.func57 rfl rfl rfl ?_
 refine ec_sr ?_
 refine o_w (v:=.int .i64 0) (r_asg rfl) ?_
 refine eo_r ?_
 refine o_w (v:=str d0) (r_mov rfl) ?_
 obtain ⟨x1,hx1,h⟩:=h
 refine o_call cf_cmp_isNaN_string rfl (cmp_isNaN_string_c d0 hL hx1) rfl rfl ?_
 rintro _ w1 ⟨F1,rfl⟩
 refine o_w (v:=.bool x1) (r_asg rfl) ?_
 refine eo_r ?_
 refine o_w (v:=str d1) (r_mov rfl) ?_
 obtain ⟨x2,hx2,h⟩:=h
 refine o_call cf_cmp_isNaN_string rfl (cmp_isNaN_string_c d1 (hL.fr F1) hx2) rfl rfl ?_
 rintro _ w2 ⟨F2,rfl⟩
 have E3:=F1.trans F2
 refine o_w (v:=.bool x2) (r_asg rfl) ?_
 refine eo_nil_sq ?_
 refine ec_seq ?_
 refine ec_sr ?_
 refine o_w (v:=.bool x1) (r_mov rfl) ?_
 refine eo_nil_sq ?_
 refine ec_cond rfl (fun hc4=>?_) (fun hc4=>?_)
 ·replace h:=h.1 hc4
  refine ec_seq ?_
  refine ec_sr ?_
  refine o_w (v:=.bool x2) (r_mov rfl) ?_
  refine eo_nil_sq ?_
  refine ec_cond rfl (fun hc5=>?_) (fun hc5=>?_)
  ·replace h:=h.1 hc5
   refine ec_sr ?_
   refine o_w (v:=.int .i64 0) (r_asg rfl) ?_
   refine eo_nil_sq ?_
   refine ec_ret ?_
   iterate 2 refine sq_ret ?_
   subst h
   exact (end1 rfl ⟨_,rfl,E3,rfl⟩)
  ·replace h:=h.2 hc5
   refine ec_skip ?_
   refine sq_n ?_
   refine ec_sr ?_
   refine o_w (v:=.int .i64 (-1:Int)) (r_asg rfl) ?_
   refine eo_nil_sq ?_
   refine ec_ret ?_
   refine sq_ret ?_
   subst h
   exact (end1 rfl ⟨_,rfl,E3,rfl⟩)
 ·replace h:=h.2 hc4
  refine ec_skip ?_
  refine sq_n ?_
  refine ec_seq ?_
  refine ec_sr ?_
  refine o_w (v:=.bool x2) (r_mov rfl) ?_
  refine eo_nil_sq ?_
  refine ec_cond rfl (fun hc6=>?_) (fun hc6=>?_)
  ·replace h:=h.1 hc6
   refine ec_sr ?_
   refine o_w (v:=.int .i64 1) (r_asg rfl) ?_
   refine eo_nil_sq ?_
   refine ec_ret ?_
   refine sq_ret ?_
   subst h
   exact (end1 rfl ⟨_,rfl,E3,rfl⟩)
  ·replace h:=h.2 hc6
   refine ec_skip ?_
   refine sq_n ?_
   refine ec_seq ?_
   refine ec_sr ?_
   refine o_w (v:=str d0) (r_mov rfl) ?_
   refine o_w (v:=str d1) (r_mov rfl) ?_
   refine o_w (v:=.bool (Op.bytesLess d0 d1)) (r_str rfl rfl rfl) ?_
   refine eo_nil_sq ?_
   refine ec_cond rfl (fun hc7=>?_) (fun hc7=>?_)
   ·replace h:=h.1 hc7
    refine ec_sr ?_
    refine o_w (v:=.int .i64 (-1:Int)) (r_asg rfl) ?_
    refine eo_nil_sq ?_
    refine ec_ret ?_
    refine sq_ret ?_
    subst h
    exact (end1 rfl ⟨_,rfl,E3,rfl⟩)
   ·replace h:=h.2 hc7
    refine ec_skip ?_
    refine sq_n ?_
    refine ec_seq ?_
    refine ec_sr ?_
    refine o_w (v:=str d0) (r_mov rfl) ?_
    refine o_w (v:=str d1) (r_mov rfl) ?_
    refine o_w (v:=.bool (!(Op.bytesLess d0 d1||d0==d1))) (r_str rfl rfl rfl) ?_
    refine eo_nil_sq ?_
    refine ec_cond rfl (fun hc8=>?_) (fun hc8=>?_)
    ·replace h:=h.1 hc8
     refine ec_sr ?_
     refine o_w (v:=.int .i64 1) (r_asg rfl) ?_
     refine eo_nil_sq ?_
     refine ec_ret ?_
     refine sq_ret ?_
     subst h
     exact (end1 rfl ⟨_,rfl,E3,rfl⟩)
    ·replace h:=h.2 hc8
     refine ec_skip ?_
     refine sq_n ?_
     refine ec_sr ?_
     refine o_w (v:=.int .i64 0) (r_asg rfl) ?_
     refine eo_nil_sq ?_
     refine ec_ret ?_
     subst h
     exact (end1 rfl ⟨_,rfl,E3,rfl⟩)
def slices_Clone_int_raw (d0:(List Int)) (y:(List Int)):Prop :=
 (d0=[]→(y=([]:List Int)))∧((([]:List Int).length + d0.length≤9223372036854775807∧(([]:List Int).length + d0.length) * 8≤140737488355328)∧(y=(([]:List Int)++d0)))
set_option maxRecDepth 20000 in
set_option maxHeartbeats 4000000 in
theorem slices_Clone_int_c {L:List Nat} {w:World} {AP0:Option Addr} {cP0:Nat} (d0:(List Int)) (HP0:Stb L w (fun w=>SlC (kI .i64) w AP0 cP0 d0)) (hL:Lt L w) {y:(List Int)} (h:slices_Clone_int_raw d0 y) :
  Calls Try.prog 28 [.slice AP0 d0.length cP0].toArray w (Ret fun v w'=>Ext w w'∧OwnS (kI .i64) w.heap.size 3 L w' v y∧(∀ q∈own v,w.heap.size≤q)):=by
 have hL0:=hL
 unfold slices_Clone_int_raw at h
 refine calls_ec Try.func28 rfl rfl rfl ?_
 refine ec_sr ?_
 refine o_w (v:=.slice none ([]:List Int).length 0) (r_asg rfl) ?_
 refine eo_nil_sq ?_
 refine ec_seq ?_
 refine ec_sr ?_
 refine o_w (v:=.slice AP0 d0.length cP0) (r_mov rfl) ?_
 refine o_w (v:=.bool (AP0.isNone)) (r_nilEq un_s_int rfl rfl) ?_
 refine eo_nil_sq ?_
 refine ec_cond rfl (fun hc1=>?_) (fun hc1=>?_)
 ·replace h:=h.1 (slc_none HP0.now hc1)
  refine ec_sr ?_
  refine o_w (v:=.slice none ([]:List Int).length 0) (r_asg rfl) ?_
  refine eo_nil_sq ?_
  refine ec_ret ?_
  refine sq_ret ?_
  subst h
  exact (end1 rfl ⟨_,rfl,Fr.refl _ _,OwnS.nil (by decide) hL0,fun q hq=>by cases hq⟩)
 ·replace h:=h.2
  refine ec_skip ?_
  refine sq_n ?_
  refine ec_sr ?_
  refine o_bslice slc_s_int rfl (vs:=[]) rfl rfl rfl (cs:=[]) rfl rfl rfl rfl ?_
  intro b2 w2 e2 F2 B2
  have N2:=nin hL e2
  have S2:=B2.stb N2
  have G3:Fr L w w2:=Fr.ext F2
  refine o_w (v:=.slice AP0 d0.length cP0) (r_mov rfl) ?_
  have lo4:w.heap.size≤w.heap.size:=Nat.le_refl _
  have O4:OwnS (kI .i64) (w.heap.size) 3 L w2 (.slice (some ⟨b2,0,none⟩) 0 0) ([]:List Int):=bs_own (by decide) hL (Nat.le_of_eq e2.symm) S2.now rfl rfl rowd0
  have P5:∀ m∈own (.slice (some ⟨b2,0,none⟩) 0 0),m∈L∨w.heap.size≤m:=fun m hm=>.inr (by have h1:m=b2:=(by simpa [own,Value.ownBlock] using hm); rw [h1,e2]; exact Nat.le_refl _)
  obtain ⟨ha7,h⟩:=h
  refine o_appsl slc_s_int rfl rfl kI_one rfl O4 rfl (HP0.up G3 sI (upo P5 (fun _ h=>.inl h))) ha7 rfl rfl ?_
  intro v6 w6 F6 O6 N6
  have E10:=Ext.st F2 F6 (fun m hm=>Nat.le_trans lo4 (O4.lo m hm))
  refine o_w (v:=v6) (r_asg rfl) ?_
  refine eo_nil_sq ?_
  refine ec_ret ?_
  subst h
  exact (end1 rfl ⟨_,rfl,E10,(O6.weak (by simp)).mono lo4 hL0,fun q hq=>Nat.le_trans lo4 (O6.lo q hq)⟩)
def value_counter_join_1_b5 (d1:(List Int)) (s5:Int × List Int) (z5:(Int × List Int) ⊕ (Int × List Int)):Prop :=
 ((decide (s5.1<(d1.length:Int)))=true→((0≤s5.1∧s5.1<(d1.length:Int))∧((0≤s5.1∧s5.1<(s5.2.length:Int))∧((0≤s5.1∧s5.1<(s5.2.length:Int))∧(z5=.inl ((IntKind.i64.wrap (s5.1 + (1:Int))),(s5.2.set s5.1.toNat (max (nth s5.2 s5.1) (nth d1 s5.1)))))))))∧((decide (s5.1<(d1.length:Int)))=false→(z5=.inr (s5.1,s5.2)))
def value_counter_join_1_raw (d0:(List Int)) (d1:(List Int)) (y:(List Int)):Prop :=
 ∃ x1,slices_Clone_int_raw d0 x1∧(∃ x5,LoopR (value_counter_join_1_b5 d1) ((0:Int),x1) x5∧(y=x5.2))
set_option maxRecDepth 20000 in
set_option maxHeartbeats 4000000 in
theorem value_counter_join_1_c {L:List Nat} {w:World} {AP0:Option Addr} {cP0:Nat} (d0:(List Int)) (HP0:Stb L w (fun w=>SlC (kI .i64) w AP0 cP0 d0)) {AP1:Option Addr} {cP1:Nat} (d1:(List Int)) (HP1:Stb L w (fun w=>SlC (kI .i64) w AP1 cP1 d1)) (hL:Lt L w) {y:(List Int)} (h:value_counter_join_1_raw d0 d1 y) :
  Calls Try.prog 66 [.slice AP0 d0.length cP0,.slice AP1 d1.length cP1].toArray w (Ret fun v w'=>Ext w w'∧∃ (A90:Option Addr) (c90:Nat),v=.slice A90 (y).length c90∧Stb L w' (fun w=>SlC (kI .i64) w A90 c90 y)):=by
 unfold value_counter_join_1_raw at h
 refine calls_ec Try.func66 rfl rfl rfl ?_
 refine ec_sr ?_
 refine o_w (v:=.slice none ([]:List Int).length 0) (r_asg rfl) ?_
 refine eo_r ?_
 refine o_w (v:=.slice AP0 d0.length cP0) (r_mov rfl) ?_
 obtain ⟨x1,hx1,h⟩:=h
 refine o_call cf_slices_Clone_int rfl (slices_Clone_int_c d0 HP0 hL hx1) rfl rfl ?_
 have lo2:w.heap.size≤w.heap.size:=Nat.le_refl _
 rintro v2 w1 ⟨F1,O2,N2⟩
 have P3:∀ m∈own v2,m∈L∨w.heap.size≤m:=fun m hm=>.inr (Nat.le_trans (Nat.le_refl _) (N2 m hm))
 have G4:Fr L w w1:=Fr.ext F1
 refine o_w (v:=v2) (r_asg rfl) ?_
 refine eo_nil_sq ?_
 refine ec_seq ?_
 refine ec_sr ?_
 refine o_w (v:=.slice AP1 d1.length cP1) (r_mov rfl) ?_
 refine o_w (v:=.int .i64 (d1.length:Int)) (r_len_slc un_s_int rfl) ?_
 refine o_w (v:=.int .i64 0) (r_mov rfl) ?_
 refine eo_nil_sq ?_
 refine ec_block ?_
 obtain ⟨x5,hl5,h⟩:=h
 refine ec_loopE 0 (I:=(fun (s5:Int × List Int) ρ ds w'=>∃ (ρ':Env) (v5i2:Value),ρ=envs ρ' [(12,.int .i64 s5.1),(5,v5i2),(10,.slice AP1 d1.length cP1),(11,.int .i64 (d1.length:Int))]∧ds=[]∧Fr (own v2++L) w1 w'∧Ext w w'∧OwnS (kI .i64) (w.heap.size) 3 L w' v5i2 s5.2∧(∀ q∈own v5i2,q∈(own v2++L)∨w1.heap.size≤q))) ?_ hl5 ?_ ?_
 ·intro s5 z5 ρ5 ds5 w5r hI5 hb5
  obtain ⟨ρ5r,v5r2,rfl,rfl,F5r,E5r,O5r2,N5r2⟩:=hI5
  have h:=hb5
  unfold value_counter_join_1_b5 at h
  have G6:Fr L w w5r:=G4.stp F5r (upo P3 (fun _ h=>.inl h))
  have P7:∀ m∈own v5r2,m∈L∨w.heap.size≤m:=fun m hm=>(N5r2 m hm).elim (fun h=>(show ∀ m∈(own v2++L),m∈L∨w.heap.size≤m from (upo P3 (fun _ h=>.inl h))) m h) (fun h=>.inr (Nat.le_trans (G4.size) h))
  refine ec_sr ?_
  refine o_w (v:=.bool (decide (s5.1<(d1.length:Int)))) (r_int rfl rfl rfl) ?_
  refine eo_nil_sq ?_
  refine ec_seq ?_
  refine ec_cond rfl (fun hc8=>?_) (fun hc8=>?_)
  ·replace h:=h.1 hc8
   refine ec_skip ?_
   refine sq_n ?_
   refine ec_seq ?_
   refine ec_block ?_
   refine ec_sr ?_
   refine o_w (v:=.int .i64 s5.1) (r_mov rfl) ?_
   obtain ⟨ha9,h⟩:=h
   obtain ⟨cs10,l12,H11⟩:=Stb.elem (by decide) (HP1.up G6 sI (upo P7 (fun _ h=>.inl h))) s5.1 ha9.1 ha9.2
   obtain ⟨rfl,H11'⟩:=kI_open2 H11
   refine o_w (v:=.pointer (some (elemA AP1 (kI .i64).n s5.1.toNat))) (r_ia slc_s_int rfl rfl ((HP1.fr G6 sI).now.2 _ (lt_toNat ha9.1 ha9.2)).1 ha9.1 ha9.2) ?_
   refine o_w (v:=.int .i64 (nth d1 s5.1)) (r_ld' one_int rfl (elemA_spot _ _ _) (H11'.now.1.at0 (elemA_spot _ _ _))) ?_
   refine o_w (v:=.int .i64 s5.1) (r_asg rfl) ?_
   refine o_w (v:=.int .i64 (nth d1 s5.1)) (r_asg rfl) ?_
   refine eo_q ?_
   refine o_w (v:=v5r2) (r_mov rfl) ?_
   refine o_w (v:=.int .i64 s5.1) (r_mov rfl) ?_
   refine o_w (v:=v5r2) (r_mov rfl) ?_
   refine o_w (v:=.int .i64 s5.1) (r_mov rfl) ?_
   obtain ⟨A13,c14,rfl⟩:=O5r2.shape
   obtain ⟨A15,c16,eA15,H17⟩:=O5r2.still
   cases eA15
   have Zanc18:=Fr.refl L w5r
   obtain ⟨ha19,h⟩:=h
   obtain ⟨cs20,l22,H21⟩:=Stb.elem (by decide) (H17.fr Zanc18 sI) s5.1 ha19.1 ha19.2
   obtain ⟨rfl,H21'⟩:=kI_open2 H21
   refine o_w (r_ia slc_s_int rfl rfl ((H17.fr Zanc18 sI).now.2 _ (lt_toNat ha19.1 ha19.2)).1 ha19.1 ha19.2) ?_
   refine o_w (v:=.int .i64 (nth s5.2 s5.1)) (r_ld' one_int rfl (elemA_spot _ _ _) (H21'.now.1.at0 (elemA_spot _ _ _))) ?_
   refine o_w (v:=.int .i64 (nth d1 s5.1)) (r_mov rfl) ?_
   refine o_w (v:=.int .i64 (max (nth s5.2 s5.1) (nth d1 s5.1))) (r_max rfl rfl) ?_
   obtain ⟨A23,c24,eA23,H25⟩:=O5r2.still
   cases eA23
   have Zanc26:=Fr.refl L w5r
   obtain ⟨ha27,h⟩:=h
   obtain ⟨cs28,l30,H29⟩:=Stb.elem (by decide) (H25.fr Zanc26 sI) s5.1 ha27.1 ha27.2
   obtain ⟨rfl,H29'⟩:=kI_open2 H29
   refine o_w (r_ia slc_s_int rfl rfl ((H25.fr Zanc26 sI).now.2 _ (lt_toNat ha27.1 ha27.2)).1 ha27.1 ha27.2) ?_
   refine o_ostore rfl O5r2 ha27.1 ha27.2 rfl (vs:=[.int .i64 (max (nth s5.2 s5.1) (nth d1 s5.1))]) sz_int rfl rfl (x:=(max (nth s5.2 s5.1) (nth d1 s5.1))) (fun _ _=>rfl) rfl ?_
   intro w31 F31 O31
   have E32:=Ext.st E5r F31 (fun m hm=>Nat.le_trans lo2 (O5r2.lo m hm))
   have G34:Fr (own v2++L) w1 w31:=F5r.stp F31 N5r2
   refine eo_nil ?_
   refine blk_n ?_
   refine sq_n ?_
   refine ec_region ?_
   refine o_w (v:=.int .i64 (IntKind.i64.wrap (s5.1 + (1:Int)))) (r_int rfl rfl rfl) ?_
   refine o_w (v:=.int .i64 (IntKind.i64.wrap (s5.1 + (1:Int)))) (r_mov rfl) ?_
   refine eo_nil ?_
   subst h
   exact lq_n ⟨_,(.slice A13 s5.2.length c14),envs_self ⟨rfl,rfl,rfl,rfl,trivial⟩,rfl,G34,E32,O31,N5r2⟩
  ·replace h:=h.2 hc8
   refine ec_exit ?_
   refine sq_exit ?_
   subst h
   exact lq_x ⟨_,v5r2,envs_self ⟨rfl,rfl,rfl,rfl,trivial⟩,rfl,F5r,E5r,O5r2,N5r2⟩
 ·exact ⟨_,v2,envs_self ⟨rfl,rfl,rfl,rfl,trivial⟩,rfl,(Fr.refl _ _),F1,O2,(fun q hq=>.inl (by simp [hq]))⟩
 ·rintro ρ5e ds5e w5e ⟨ρ5e,v5e2,rfl,rfl,F5e,E5e,O5e2,N5e2⟩
  refine blk_hit ?_
  refine sq_n ?_
  refine ec_sr ?_
  refine o_w (v:=v5e2) (r_mov rfl) ?_
  refine o_w (v:=v5e2) (r_asg rfl) ?_
  refine eo_nil_sq ?_
  refine ec_ret ?_
  obtain ⟨A40,c41,eA40,H42⟩:=O5e2.still
  subst eA40
  have Zw5e_43:=Fr.refl L w5e
  subst h
  exact (end1 rfl ⟨_,rfl,E5e,_,_,rfl,(H42.fr Zw5e_43 sI)⟩)
def value_counter_is_1_raw (d0:Int) (y:Bool):Prop :=
 y=((decide (d0<0))||(decide (65535<d0)))
set_option maxRecDepth 20000 in
set_option maxHeartbeats 4000000 in
theorem value_counter_is_1_c {L:List Nat} {w:World} (d0:Int) (hL:Lt L w) {y:Bool} (h:value_counter_is_1_raw d0 y) :
  Calls Try.prog 63 [.int .i64 d0].toArray w (Ret fun v w'=>Ext w w'∧v=.bool y):=by
 unfold value_counter_is_1_raw at h
 refine calls_ec Try.func63 rfl rfl rfl ?_
 refine ec_sr ?_
 refine o_w (v:=.bool false) (r_asg rfl) ?_
 refine eo_r ?_
 refine o_w (v:=.int .i64 d0) (r_mov rfl) ?_
 refine o_w (v:=.bool (decide (d0<0))) (r_int rfl rfl rfl) ?_
 refine o_w (v:=.bool (decide (d0<0))) (r_mov rfl) ?_
 refine o_vg (v:=.int .i64 d0) (want_cf (t:=5) rfl rfl) (fun hk=>(r_mov rfl)) rfl rfl ?_
 refine o_vg (v:=.bool (decide (65535<d0))) (want_cf (t:=5) rfl rfl) (fun hk=>(r_int (gdT hk) rfl rfl)) rfl rfl ?_
 refine o_w (v:=.bool ((decide (d0<0))||(decide (65535<d0)))) (r_pickOr rfl rfl (fun hf=>(gdT (notT hf)))) ?_
 refine o_w (v:=.bool ((decide (d0<0))||(decide (65535<d0)))) (r_asg rfl) ?_
 refine eo_nil_sq ?_
 refine ec_ret ?_
 subst h
 exact (end1 rfl ⟨_,rfl,(Fr.refl _ _),rfl⟩)
def slices_IndexFunc_int_is_1_b1 (d0:(List Int)) (s1:Int) (z1:(Int) ⊕ ((Int) ⊕ (Int))):Prop :=
 ((decide (s1<(d0.length:Int)))=true→((0≤s1∧s1<(d0.length:Int))∧(∃ x8,value_counter_is_1_raw (nth d0 s1) x8∧((x8=true→(z1=.inr (.inr s1)))∧(x8=false→(z1=.inl (IntKind.i64.wrap (s1 + (1:Int)))))))))∧((decide (s1<(d0.length:Int)))=false→(z1=.inr (.inl s1)))
def slices_IndexFunc_int_is_1_raw (d0:(List Int)) (y:Int):Prop :=
 ∃ x1,LoopR (slices_IndexFunc_int_is_1_b1 d0) (0:Int) x1∧(∀ sx1,x1=.inl sx1→(y=(-1:Int)))∧(∀ y1,x1=.inr y1→(y=y1))
set_option maxRecDepth 20000 in
set_option maxHeartbeats 4000000 in
theorem slices_IndexFunc_int_is_1_c {L:List Nat} {w:World} {AP0:Option Addr} {cP0:Nat} (d0:(List Int)) (HP0:Stb L w (fun w=>SlC (kI .i64) w AP0 cP0 d0)) (hL:Lt L w) {y:Int} (h:slices_IndexFunc_int_is_1_raw d0 y) :
  Calls Try.prog 67 [.slice AP0 d0.length cP0,.func (.func 63) #[] #[]].toArray w (Ret fun v w'=>Ext w w'∧v=.int .i64 y):=by
 unfold slices_IndexFunc_int_is_1_raw at h
 refine calls_ec Try.func67 rfl rfl rfl ?_
 refine ec_sr ?_
 refine o_w (v:=.int .i64 0) (r_asg rfl) ?_
 refine eo_nil_sq ?_
 refine ec_seq ?_
 refine ec_sr ?_
 refine o_w (v:=.slice AP0 d0.length cP0) (r_mov rfl) ?_
 refine o_w (v:=.int .i64 (d0.length:Int)) (r_len_slc un_s_int rfl) ?_
 refine o_w (v:=.int .i64 0) (r_mov rfl) ?_
 refine eo_nil_sq ?_
 refine ec_block ?_
 obtain ⟨x1,hl1,h⟩:=h
 refine ec_loopER 0 (I:=(fun (s1:Int) ρ ds w'=>∃ (ρ':Env),ρ=envs ρ' [(8,.int .i64 s1),(0,.slice AP0 d0.length cP0),(1,.func (.func 63) #[] #[]),(7,.int .i64 (d0.length:Int))]∧ds=[]∧Fr L w w'∧Ext w w')) (J:=(fun (y':Int) ρ ds wz=>bodyE Try.prog #[.tmp 4] (Ret fun v w'=>Ext w w'∧v=.int .i64 y') .ret ρ ds wz)) ?_ hl1 ?_ ?_ ?_
 ·intro s1 z1 ρ1 ds1 w1r hI1 hb1
  obtain ⟨ρ1r,rfl,rfl,F1r,E1r⟩:=hI1
  have h:=hb1
  unfold slices_IndexFunc_int_is_1_b1 at h
  have G2:Fr L w w1r:=(Fr.refl _ _).stp F1r (fun _ h=>.inl h)
  refine ec_sr ?_
  refine o_w (v:=.bool (decide (s1<(d0.length:Int)))) (r_int rfl rfl rfl) ?_
  refine eo_nil_sq ?_
  refine ec_seq ?_
  refine ec_cond rfl (fun hc3=>?_) (fun hc3=>?_)
  ·replace h:=h.1 hc3
   refine ec_skip ?_
   refine sq_n ?_
   refine ec_seq ?_
   refine ec_block ?_
   refine ec_sr ?_
   refine o_w (v:=.int .i64 s1) (r_mov rfl) ?_
   refine o_w (v:=.int .i64 s1) (r_asg rfl) ?_
   refine eo_r ?_
   refine o_w (v:=.func (.func 63) #[] #[]) (r_mov rfl) ?_
   refine o_w (v:=.slice AP0 d0.length cP0) (r_mov rfl) ?_
   refine o_w (v:=.int .i64 s1) (r_mov rfl) ?_
   obtain ⟨ha4,h⟩:=h
   obtain ⟨cs5,l7,H6⟩:=Stb.elem (by decide) (HP0.fr G2 sI) s1 ha4.1 ha4.2
   obtain ⟨rfl,H6'⟩:=kI_open2 H6
   refine o_w (v:=.pointer (some (elemA AP0 (kI .i64).n s1.toNat))) (r_ia slc_s_int rfl rfl ((HP0.fr G2 sI).now.2 _ (lt_toNat ha4.1 ha4.2)).1 ha4.1 ha4.2) ?_
   refine o_w (v:=.int .i64 (nth d0 s1)) (r_ld' one_int rfl (elemA_spot _ _ _) (H6'.now.1.at0 (elemA_spot _ _ _))) ?_
   obtain ⟨x8,hx8,h⟩:=h
   refine o_callv cf_value_counter_is_1 rfl rfl (value_counter_is_1_c (nth d0 s1) (hL.fr E1r) hx8) rfl rfl ?_
   rintro _ w8 ⟨F8,rfl⟩
   have E9:=E1r.trans F8
   refine eo_nil_sq ?_
   refine ec_cond rfl (fun hc13=>?_) (fun hc13=>?_)
   ·replace h:=h.1 hc13
    refine ec_sr ?_
    refine o_w (v:=.int .i64 s1) (r_mov rfl) ?_
    refine o_w (v:=.int .i64 s1) (r_asg rfl) ?_
    refine eo_nil_sq ?_
    refine ec_ret ?_
    refine blk_ret ?_
    refine sq_ret ?_
    subst h
    exact lqR_r (end1 rfl ⟨_,rfl,E9,rfl⟩)
   ·replace h:=h.2 hc13
    refine ec_skip ?_
    refine blk_n ?_
    refine sq_n ?_
    refine ec_region ?_
    refine o_w (v:=.int .i64 (IntKind.i64.wrap (s1 + (1:Int)))) (r_int rfl rfl rfl) ?_
    refine o_w (v:=.int .i64 (IntKind.i64.wrap (s1 + (1:Int)))) (r_mov rfl) ?_
    refine eo_nil ?_
    subst h
    exact lqR_n ⟨_,envs_self ⟨rfl,rfl,rfl,rfl,trivial⟩,rfl,(F1r.trans (Fr.ext F8)),E9⟩
  ·replace h:=h.2 hc3
   refine ec_exit ?_
   refine sq_exit ?_
   subst h
   exact lqR_x ⟨_,envs_self ⟨rfl,rfl,rfl,rfl,trivial⟩,rfl,F1r,E1r⟩
 ·exact ⟨_,envs_self ⟨rfl,rfl,rfl,rfl,trivial⟩,rfl,(Fr.refl _ _),(Fr.refl _ _)⟩
 ·rintro sx1 rfl ρ1e ds1e w1e ⟨ρ1e,rfl,rfl,F1e,E1e⟩
  replace h:=h.1 _ rfl
  refine blk_hit ?_
  refine sq_n ?_
  refine ec_sr ?_
  refine o_w (v:=.int .i64 (-1:Int)) (r_asg rfl) ?_
  refine eo_nil_sq ?_
  refine ec_ret ?_
  subst h
  exact (end1 rfl ⟨_,rfl,E1e,rfl⟩)
 ·rintro y1 rfl ρ1q ds1q w1q hJ
  have hy:=h.2 _ rfl
  subst hy
  refine blk_ret ?_
  refine sq_ret ?_
  exact hJ
def slices_ContainsFunc_int_is_1_raw (d0:(List Int)) (y:Bool):Prop :=
 ∃ x1,slices_IndexFunc_int_is_1_raw d0 x1∧(y=(decide (0≤x1)))
set_option maxRecDepth 20000 in
set_option maxHeartbeats 4000000 in
theorem slices_ContainsFunc_int_is_1_c {L:List Nat} {w:World} {AP0:Option Addr} {cP0:Nat} (d0:(List Int)) (HP0:Stb L w (fun w=>SlC (kI .i64) w AP0 cP0 d0)) (hL:Lt L w) {y:Bool} (h:slices_ContainsFunc_int_is_1_raw d0 y) :
  Calls Try.prog 65 [.slice AP0 d0.length cP0,.func (.func 63) #[] #[]].toArray w (Ret fun v w'=>Ext w w'∧v=.bool y):=by
 unfold slices_ContainsFunc_int_is_1_raw at h
 refine calls_ec Try.func65 rfl rfl rfl ?_
 refine ec_sr ?_
 refine o_w (v:=.bool false) (r_asg rfl) ?_
 refine eo_r ?_
 refine o_w (v:=.slice AP0 d0.length cP0) (r_mov rfl) ?_
 refine o_w (v:=.func (.func 63) #[] #[]) (r_mov rfl) ?_
 obtain ⟨x1,hx1,h⟩:=h
 refine o_call cf_slices_IndexFunc_int rfl (slices_IndexFunc_int_is_1_c d0 HP0 hL hx1) rfl rfl ?_
 rintro _ w1 ⟨F1,rfl⟩
 refine o_w (v:=.bool (decide (0≤x1))) (r_int rfl rfl rfl) ?_
 refine o_w (v:=.bool (decide (0≤x1))) (r_asg rfl) ?_
 refine eo_nil_sq ?_
 refine ec_ret ?_
 subst h
 exact (end1 rfl ⟨_,rfl,F1,rfl⟩)
def value_Check_raw (d0:Val) (y:Int):Prop :=
 ((d0.kind==1)=true→(∃ x104,value_Same_raw d0 (⟨d0.kind,d0.time,d0.node,d0.dead,d0.text,([]:List Int),([]:List Int),(0:Int)⟩:Val) x104∧((((((((x104&&(decide (0≤d0.time)))&&(decide (d0.time≤2147483647)))&&(decide (0≤d0.node)))&&(decide (d0.node<8)))&&(decide ((d0.text.length:Int)≤8)))&&((!d0.dead)||(d0.text==([]:Str))))=true→(y=(0:Int)))∧(((((((x104&&(decide (0≤d0.time)))&&(decide (d0.time≤2147483647)))&&(decide (0≤d0.node)))&&(decide (d0.node<8)))&&(decide ((d0.text.length:Int)≤8)))&&((!d0.dead)||(d0.text==([]:Str))))=false→(y=(2:Int))))))∧((d0.kind==1)=false→(((d0.kind==2)=true→(∃ x184,value_Same_raw d0 (⟨d0.kind,(0:Int),(0:Int),false,([]:Str),d0.plus,d0.minus,(0:Int)⟩:Val) x184∧(∃ x194,(((x184&&((d0.plus.length:Int)==8))&&((d0.minus.length:Int)==8))=true→slices_ContainsFunc_int_is_1_raw d0.plus x194)∧(∃ x202,((((x184&&((d0.plus.length:Int)==8))&&((d0.minus.length:Int)==8))&&(!x194))=true→slices_ContainsFunc_int_is_1_raw d0.minus x202)∧((((((x184&&((d0.plus.length:Int)==8))&&((d0.minus.length:Int)==8))&&(!x194))&&(!x202))=true→(y=(0:Int)))∧(((((x184&&((d0.plus.length:Int)==8))&&((d0.minus.length:Int)==8))&&(!x194))&&(!x202))=false→(y=(2:Int))))))))∧((d0.kind==2)=false→(((d0.kind==3)=true→(∃ x256,value_Same_raw d0 (⟨d0.kind,(0:Int),(0:Int),false,([]:Str),([]:List Int),([]:List Int),d0.flags⟩:Val) x256∧((x256=true→(y=(0:Int)))∧(x256=false→(y=(2:Int))))))∧((d0.kind==3)=false→(y=(2:Int)))))))
set_option maxRecDepth 20000 in
set_option maxHeartbeats 4000000 in
theorem value_Check_c {L:List Nat} {w:World} {csP0:List Value} (d0:Val) (HP0:Stb L w (fun w=>kVal.r w csP0 d0)) (hL:Lt L w) {y:Int} (h:value_Check_raw d0 y) :
  Calls Try.prog 20 [.agg csP0.toArray].toArray w (Ret fun v w'=>Ext w w'∧v=.int .i64 y):=by
 obtain ⟨A1,c2,A4,c5,rfl,H3,H6⟩:=kVal_open HP0
 unfold value_Check_raw at h
 refine calls_ec Try.func20 rfl rfl rfl ?_
 refine ec_sr ?_
 refine o_box (cs:=(cVal d0 A1 c2 A4 c5)) rfl rfl rfl ?_
 intro b7 w7 e7 F7 B7
 have S7:=B7.stb (nin hL e7)
 have G8:Fr L w w7:=Fr.ext F7
 refine o_w (v:=.int .i64 0) (r_asg rfl) ?_
 refine eo_nil_sq ?_
 refine ec_seq ?_
 refine ec_sr ?_
 refine o_w (v:=.pointer (some ⟨b7,0,none⟩)) (r_fa fld_api_Value_0 rfl rfl) ?_
 refine o_w (v:=.int .i64 d0.kind) (r_ld one_int rfl (S7.now.cell rfl)) ?_
 refine o_inl (vs:=[.int .i64 d0.kind]) (caps:=[]) cf_value_kinds rfl rfl rfl rfl ?_
 refine calls_ec Try.func27 rfl rfl rfl ?_
 refine ec_sr ?_
 refine o_w (v:=.nilIface) (r_asg rfl) ?_
 refine o_w (v:=.bool false) (r_asg rfl) ?_
 refine eo_nil_sq ?_
 refine ec_seq ?_
 refine ec_sr ?_
 refine o_w (v:=.int .i64 d0.kind) (r_mov rfl) ?_
 refine eo_nil_sq ?_
 refine ec_block ?_
 refine ec_sr ?_
 refine o_w (v:=.bool (d0.kind==1)) (r_int rfl rfl rfl) ?_
 refine o_w (v:=.bool (d0.kind==1)) (r_asg rfl) ?_
 refine eo_nil_sq ?_
 refine ec_cond rfl (fun hc9=>?_) (fun hc9=>?_)
 ·replace h:=h.1 hc9
  refine ec_sr ?_
  refine o_w (v:=.agg #[]) (r_build bld_value_register (vs:=[]) (cells:=[]) rfl rfl) ?_
  refine o_w (v:=.iface 53 (.agg #[])) (r_mkif conc_value_register rfl) ?_
  refine o_w (v:=.iface 53 (.agg #[])) (r_asg rfl) ?_
  refine o_w (v:=.bool true) (r_asg rfl) ?_
  refine eo_nil_sq ?_
  refine ec_ret ?_
  refine blk_ret ?_
  refine sq_ret ?_
  refine end2 (v:=.iface 53 (.agg #[])) (x:=.bool true) rfl rfl ⟨_,rfl,?_⟩
  refine o_w (v:=.tuple #[.iface 53 (.agg #[]),.bool true]) (r_mov rfl) ?_
  refine o_w (v:=.iface 53 (.agg #[])) (r_ext rfl rfl) ?_
  refine o_w (v:=.bool true) (r_ext rfl rfl) ?_
  refine o_w (v:=.iface 53 (.agg #[])) (r_asg rfl) ?_
  refine o_w (v:=.bool true) (r_asg rfl) ?_
  refine eo_r ?_
  iterate 2 refine o_w (v:=.bool true) (r_mov rfl) ?_
  refine o_v (v:=.iface 53 (.agg #[])) (r_mov rfl) (want_t (t:=12) rfl rfl rfl) rfl rfl ?_
  refine o_v (v:=.agg (cVal d0 A1 c2 A4 c5).toArray) (r_lda agg_api_Value rfl (vs:=(cVal d0 A1 c2 A4 c5)) rfl (S7.now.part (n:=8) rfl)) (want_t (t:=12) rfl rfl rfl) rfl rfl ?_
  refine o_inlI (vs:=[.agg (cVal d0 A1 c2 A4 c5).toArray]) mf_value_register_ouroboros_value_is rfl rfl (want_t (t:=12) rfl rfl rfl) rfl ?_
  refine calls_ec Try.func49 rfl rfl rfl ?_
  refine ec_sr ?_
  refine o_box (cs:=[]) rfl rfl rfl ?_
  intro b10 w10 e10 F10 B10
  have E11:=F7.trans F10
  refine o_box (cs:=(cVal d0 A1 c2 A4 c5)) rfl rfl rfl ?_
  intro b14 w14 e14 F14 B14
  have n14:w.heap.size≤b14:=by rw [e14]; exact E11.size
  have m15:w.heap.size≤b14:=by rw [e14]; exact (G8.trans (Fr.ext F10)).size
  have E18:=E11.trans F14
  refine o_w (v:=.bool false) (r_asg rfl) ?_
  refine eo_r ?_
  refine o_w (v:=.agg (cVal d0 A1 c2 A4 c5).toArray) (r_lda agg_api_Value rfl (vs:=(cVal d0 A1 c2 A4 c5)) rfl (B14.part (n:=8) rfl)) ?_
  refine o_w (r_mkfn' (vs:=[.pointer (some ⟨b14,0,none⟩)]) rfl) ?_
  refine o_inl (vs:=[.agg (cVal d0 A1 c2 A4 c5).toArray,.func (.func 53) #[] #[.pointer (some ⟨b14,0,none⟩)]]) (caps:=[]) cf_value_only rfl rfl rfl rfl ?_
  refine calls_ec Try.func52 rfl rfl rfl ?_
  refine ec_sr ?_
  refine o_box (cs:=(cVal d0 A1 c2 A4 c5)) rfl rfl rfl ?_
  intro b22 w22 e22 F22 B22
  have S22:=B22.stb (nin ((hL.fr E18).cons B14.lt) e22)
  have E23:=E18.trans F22
  refine o_w (v:=.bool false) (r_asg rfl) ?_
  refine eo_r ?_
  refine o_w (v:=.pointer (some ⟨b22,0,none⟩)) (r_fa fld_api_Value_0 rfl rfl) ?_
  refine o_w (v:=.int .i64 d0.kind) (r_ld one_int rfl (S22.now.cell rfl)) ?_
  refine o_w (v:=.agg #[.int .i64 d0.kind,.int .i64 0,.int .i64 0,.bool false,str [],.slice none ([]:List Int).length 0,.slice none ([]:List Int).length 0,.int .u64 0]) (r_build bld_api_Value (vs:=[(0,.int .i64 d0.kind)]) (cells:=[.int .i64 d0.kind,.int .i64 0,.int .i64 0,.bool false,str [],.slice none ([]:List Int).length 0,.slice none ([]:List Int).length 0,.int .u64 0]) rfl rfl) ?_
  refine o_alloc zero_api_Value rfl rfl rfl ?_
  intro b28 w28 e28 F28 B28
  have n28:w.heap.size≤b28:=by rw [e28]; exact E23.size
  have q29:b14<b28:=by rw [e28]; exact (B14.ex F22).lt
  have m30:w.heap.size≤b28:=by rw [e28]; exact (((G8.trans (Fr.ext F10)).trans (Fr.ext F14)).trans (Fr.ext F22)).size
  have m33:w22.heap.size≤b28:=Nat.le_of_eq e28.symm
  have E34:=E23.trans F28
  have G35:=(((G8.trans (Fr.ext F10)).trans (Fr.ext F14)).trans (Fr.ext F22)).trans (Fr.ext F28)
  have G38:Fr (b14::L) w22 w28:=Fr.ext F28
  refine o_store rfl B28 (vs:=[.int .i64 d0.kind,.int .i64 0,.int .i64 0,.bool false,str [],.slice none ([]:List Int).length 0,.slice none ([]:List Int).length 0,.int .u64 0]) rfl sz_api_Value rfl rfl rfl ?_
  intro w40 F40 B40
  have E41:=Ext.st E34 F40 (by simp; omega)
  have G42:Fr L w w40:=G35.stp F40 (upc (.inr m30) (fun m hm=>by cases hm))
  have G45:Fr (b14::L) w22 w40:=G38.stp F40 (upc (.inr m33) (fun m hm=>by cases hm))
  have B46:=((B14.ex F22).ex F28).fr F40 (by simp; omega)
  have B40':Blk w40 b28 _ [.int .i64 d0.kind,.int .i64 0,.int .i64 0,.bool false,str [],.slice none ([]:List Int).length 0,.slice none ([]:List Int).length 0,.int .u64 0]:=B40
  refine eo_r ?_
  refine o_w (v:=.func (.func 53) #[] #[.pointer (some ⟨b14,0,none⟩)]) (r_mov rfl) ?_
  refine o_inl (vs:=[.pointer (some ⟨b28,0,none⟩)]) (caps:=[.pointer (some ⟨b14,0,none⟩)]) cf_value_register_is_1 rfl rfl rfl rfl ?_
  refine calls_ec Try.func53 rfl rfl rfl ?_
  have qb47_b28:b28<w40.heap.size:=B40'.lt
  refine ec_anyN (by kernel_rfl) [[],[],[],[],[],[4],[],[6],[],[8],[],[10],[0,4,5],[0,4,5,12],[0,4,5,12,13],[0,1,4,5,6,7,12,13,14],[0,1,4,5,6,7,12,13,14,15],[0,1,4,5,6,7,12,13,14,15,16],[0,1,2,4,5,6,7,8,9,12,13,14,15,16,17],[0,1,2,4,5,6,7,8,9,12,13,14,15,16,17,18],[0,1,2,4,5,6,7,8,9,12,13,14,15,16,17,18,19],[0,1,2,3,4,5,6,7,8,9,10,11,12,13,14,15,16,17,18,19,20],[0,1,2,3,4,5,6,7,8,9,10,11,12,13,14,15,16,17,18,19,20,21],[0,1,2,3,4,5,6,7,8,9,10,11,12,13,14,15,16,17,18,19,20,21,22]] [3,4,5,6,7,8,9,10,11,12,13,14,15,16,17,18,19,20,21,22] (b28::[]) [14,17,20,23] [[b28],[b28],[b28],[b28]] [[14,15,16,17,18,19,20,21,22,23],[17,18,19,20,21,22,23],[20,21,22,23],[23]] [fun w'=>Blk w' b28 25 [.int .i64 d0.kind,.int .i64 0,.int .i64 0,.bool false,str [],.slice none ([]:List Int).length 0,.slice none ([]:List Int).length 0,.int .u64 0],fun w'=>Blk w' b28 25 [.int .i64 d0.kind,.int .i64 d0.time,.int .i64 0,.bool false,str [],.slice none ([]:List Int).length 0,.slice none ([]:List Int).length 0,.int .u64 0],fun w'=>Blk w' b28 25 [.int .i64 d0.kind,.int .i64 d0.time,.int .i64 d0.node,.bool false,str [],.slice none ([]:List Int).length 0,.slice none ([]:List Int).length 0,.int .u64 0],fun w'=>Blk w' b28 25 [.int .i64 d0.kind,.int .i64 d0.time,.int .i64 d0.node,.bool d0.dead,str [],.slice none ([]:List Int).length 0,.slice none ([]:List Int).length 0,.int .u64 0],fun w'=>Blk w' b28 25 [.int .i64 d0.kind,.int .i64 d0.time,.int .i64 d0.node,.bool d0.dead,str d0.text,.slice none ([]:List Int).length 0,.slice none ([]:List Int).length 0,.int .u64 0]] [fun v _=>v=(.pointer (some ⟨b28,0,none⟩):Value),fun v _=>v=(.pointer (some ⟨b28,0,none⟩):Value),fun v _=>v=(.pointer (some ⟨b28,0,none⟩):Value),fun v _=>v=(.pointer (some ⟨b28,0,none⟩):Value),fun v _=>v=(.pointer (some ⟨b14,1,none⟩):Value),fun v _=>v=(.int .i64 d0.time:Value),fun v _=>v=(.pointer (some ⟨b14,2,none⟩):Value),fun v _=>v=(.int .i64 d0.node:Value),fun v _=>v=(.pointer (some ⟨b14,3,none⟩):Value),fun v _=>v=(.bool d0.dead:Value),fun v _=>v=(.pointer (some ⟨b14,4,none⟩):Value),fun v _=>v=(str d0.text:Value),fun v _=>v=(.pointer (some ⟨b28,0,none⟩):Value),fun v _=>v=(.pointer (some ⟨b28,1,none⟩):Value),fun _ _=>True,fun v _=>v=(.pointer (some ⟨b28,0,none⟩):Value),fun v _=>v=(.pointer (some ⟨b28,2,none⟩):Value),fun _ _=>True,fun v _=>v=(.pointer (some ⟨b28,0,none⟩):Value),fun v _=>v=(.pointer (some ⟨b28,3,none⟩):Value),fun _ _=>True,fun v _=>v=(.pointer (some ⟨b28,0,none⟩):Value),fun v _=>v=(.pointer (some ⟨b28,4,none⟩):Value),fun _ _=>True] (by kernel_rfl) (allM1 (fun m hm=>by first | exact hm | (simp at hm ⊢; simp [hm]; done) | simp_all) (allM1 (fun m hm=>by first | exact hm | (simp at hm ⊢; simp [hm]; done) | simp_all) (allM1 (fun m hm=>by first | exact hm | (simp at hm ⊢; simp [hm]; done) | simp_all) (allM1 (fun m hm=>by first | exact hm | (simp at hm ⊢; simp [hm]; done) | simp_all) (fun _ h=>by cases h))))) ⟨fun _ _ _ _ _ h=>h,fun _ _ _ _ _ h=>h,fun _ _ _ _ _ h=>h,fun _ _ _ _ _ h=>h,fun _ _ _ _ _ h=>h,fun _ _ _ _ _ h=>h,fun _ _ _ _ _ h=>h,fun _ _ _ _ _ h=>h,fun _ _ _ _ _ h=>h,fun _ _ _ _ _ h=>h,fun _ _ _ _ _ h=>h,fun _ _ _ _ _ h=>h,fun _ _ _ _ _ h=>h,fun _ _ _ _ _ h=>h,fun _ _ _ _ _ h=>h,fun _ _ _ _ _ h=>h,fun _ _ _ _ _ h=>h,fun _ _ _ _ _ h=>h,fun _ _ _ _ _ h=>h,fun _ _ _ _ _ h=>h,fun _ _ _ _ _ h=>h,fun _ _ _ _ _ h=>h,fun _ _ _ _ _ h=>h,fun _ _ _ _ _ h=>h,trivial⟩ ⟨⟨fun _ _ _ _ _ h=>h,fun _ _ _ _ _ h=>h,fun _ _ _ _ _ h=>h,fun _ _ _ _ _ h=>h,fun _ _ _ _ _ h=>h,fun _ _ _ _ _ h=>h,fun _ _ _ _ _ h=>h,fun _ _ _ _ _ h=>h,fun _ _ _ _ _ h=>h,fun _ _ _ _ _ h=>h,fun _ _ _ _ _ h=>h,fun _ _ _ _ _ h=>h,fun _ _ _ _ _ h=>h,fun _ _ _ _ _ h=>h,(fun h=>absurd h (by decide)),(fun h=>absurd h (by decide)),(fun h=>absurd h (by decide)),(fun h=>absurd h (by decide)),(fun h=>absurd h (by decide)),(fun h=>absurd h (by decide)),(fun h=>absurd h (by decide)),(fun h=>absurd h (by decide)),(fun h=>absurd h (by decide)),(fun h=>absurd h (by decide)),trivial⟩,⟨fun _ _ _ _ _ h=>h,fun _ _ _ _ _ h=>h,fun _ _ _ _ _ h=>h,fun _ _ _ _ _ h=>h,fun _ _ _ _ _ h=>h,fun _ _ _ _ _ h=>h,fun _ _ _ _ _ h=>h,fun _ _ _ _ _ h=>h,fun _ _ _ _ _ h=>h,fun _ _ _ _ _ h=>h,fun _ _ _ _ _ h=>h,fun _ _ _ _ _ h=>h,fun _ _ _ _ _ h=>h,fun _ _ _ _ _ h=>h,fun _ _ _ _ _ h=>h,fun _ _ _ _ _ h=>h,fun _ _ _ _ _ h=>h,(fun h=>absurd h (by decide)),(fun h=>absurd h (by decide)),(fun h=>absurd h (by decide)),(fun h=>absurd h (by decide)),(fun h=>absurd h (by decide)),(fun h=>absurd h (by decide)),(fun h=>absurd h (by decide)),trivial⟩,⟨fun _ _ _ _ _ h=>h,fun _ _ _ _ _ h=>h,fun _ _ _ _ _ h=>h,fun _ _ _ _ _ h=>h,fun _ _ _ _ _ h=>h,fun _ _ _ _ _ h=>h,fun _ _ _ _ _ h=>h,fun _ _ _ _ _ h=>h,fun _ _ _ _ _ h=>h,fun _ _ _ _ _ h=>h,fun _ _ _ _ _ h=>h,fun _ _ _ _ _ h=>h,fun _ _ _ _ _ h=>h,fun _ _ _ _ _ h=>h,fun _ _ _ _ _ h=>h,fun _ _ _ _ _ h=>h,fun _ _ _ _ _ h=>h,fun _ _ _ _ _ h=>h,fun _ _ _ _ _ h=>h,fun _ _ _ _ _ h=>h,(fun h=>absurd h (by decide)),(fun h=>absurd h (by decide)),(fun h=>absurd h (by decide)),(fun h=>absurd h (by decide)),trivial⟩,⟨fun _ _ _ _ _ h=>h,fun _ _ _ _ _ h=>h,fun _ _ _ _ _ h=>h,fun _ _ _ _ _ h=>h,fun _ _ _ _ _ h=>h,fun _ _ _ _ _ h=>h,fun _ _ _ _ _ h=>h,fun _ _ _ _ _ h=>h,fun _ _ _ _ _ h=>h,fun _ _ _ _ _ h=>h,fun _ _ _ _ _ h=>h,fun _ _ _ _ _ h=>h,fun _ _ _ _ _ h=>h,fun _ _ _ _ _ h=>h,fun _ _ _ _ _ h=>h,fun _ _ _ _ _ h=>h,fun _ _ _ _ _ h=>h,fun _ _ _ _ _ h=>h,fun _ _ _ _ _ h=>h,fun _ _ _ _ _ h=>h,fun _ _ _ _ _ h=>h,fun _ _ _ _ _ h=>h,fun _ _ _ _ _ h=>h,(fun h=>absurd h (by decide)),trivial⟩,trivial⟩ ⟨fun w' w'' F h=>by have hB47_b28:=h; exact (hB47_b28.ex F),fun w' w'' F h=>by have hB47_b28:=h; exact (hB47_b28.ex F),fun w' w'' F h=>by have hB47_b28:=h; exact (hB47_b28.ex F),fun w' w'' F h=>by have hB47_b28:=h; exact (hB47_b28.ex F),fun w' w'' F h=>by have hB47_b28:=h; exact (hB47_b28.ex F),trivial⟩ B40' ?_ ?_ ?_
  ·refine ⟨?_,?_,?_,?_,?_,?_,?_,?_,?_,?_,?_,?_,?_,?_,?_,?_,?_,?_,?_,?_,?_,?_,?_,?_,trivial⟩
   ·intro _ ρ w47o F47o hX hS hρ
    have F47o:=hX 14 rfl rfl
    have q0:ρ 0=.pointer (some ⟨b28,0,none⟩):=hρ 0 (by kernel_rfl)
    exact o_q (r_mov q0) ⟨Fr.refl _ _,rfl⟩
   ·intro _ ρ w47o F47o hX hS hρ
    have q0:ρ 0=.pointer (some ⟨b28,0,none⟩):=hρ 0 (by kernel_rfl)
    exact o_q (r_mov q0) ⟨Fr.refl _ _,rfl⟩
   ·intro _ ρ w47o F47o hX hS hρ
    have q0:ρ 0=.pointer (some ⟨b28,0,none⟩):=hρ 0 (by kernel_rfl)
    exact o_q (r_mov q0) ⟨Fr.refl _ _,rfl⟩
   ·intro _ ρ w47o F47o hX hS hρ
    have q0:ρ 0=.pointer (some ⟨b28,0,none⟩):=hρ 0 (by kernel_rfl)
    exact o_q (r_mov q0) ⟨Fr.refl _ _,rfl⟩
   ·intro _ ρ w47o F47o hX hS hρ
    have F47o:=hX 14 rfl rfl
    have q1:ρ 1=.pointer (some ⟨b14,0,none⟩):=hρ 1 (by kernel_rfl)
    exact o_q (r_fa fld_api_Value_1 rfl q1) ⟨Fr.refl _ _,rfl⟩
   ·intro _ ρ w47o F47o hX hS hρ
    have F47o:=hX 14 rfl rfl
    have q7:ρ 7=.pointer (some ⟨b14,1,none⟩):=hS 4 (by decide) 7 rfl
    exact o_q (r_ld one_int q7 ((B46.ex F47o).cell rfl)) ⟨Fr.refl _ _,rfl⟩
   ·intro _ ρ w47o F47o hX hS hρ
    have q1:ρ 1=.pointer (some ⟨b14,0,none⟩):=hρ 1 (by kernel_rfl)
    exact o_q (r_fa fld_api_Value_2 rfl q1) ⟨Fr.refl _ _,rfl⟩
   ·intro _ ρ w47o F47o hX hS hρ
    have B60:=B46.fr F47o (fun hm=>(show ∀ m∈_,m≠b14 from (upc (by omega) (fun m hm=>by cases hm))) _ hm rfl)
    have q9:ρ 9=.pointer (some ⟨b14,2,none⟩):=hS 6 (by decide) 9 rfl
    exact o_q (r_ld one_int q9 (B60.cell rfl)) ⟨Fr.refl _ _,rfl⟩
   ·intro _ ρ w47o F47o hX hS hρ
    have q1:ρ 1=.pointer (some ⟨b14,0,none⟩):=hρ 1 (by kernel_rfl)
    exact o_q (r_fa fld_api_Value_3 rfl q1) ⟨Fr.refl _ _,rfl⟩
   ·intro _ ρ w47o F47o hX hS hρ
    have B66:=B46.fr F47o (fun hm=>(show ∀ m∈_,m≠b14 from (upc (by omega) (fun m hm=>by cases hm))) _ hm rfl)
    have q11:ρ 11=.pointer (some ⟨b14,3,none⟩):=hS 8 (by decide) 11 rfl
    exact o_q (r_ld one_bool q11 (B66.cell rfl)) ⟨Fr.refl _ _,rfl⟩
   ·intro _ ρ w47o F47o hX hS hρ
    have q1:ρ 1=.pointer (some ⟨b14,0,none⟩):=hρ 1 (by kernel_rfl)
    exact o_q (r_fa fld_api_Value_4 rfl q1) ⟨Fr.refl _ _,rfl⟩
   ·intro _ ρ w47o F47o hX hS hρ
    have B72:=B46.fr F47o (fun hm=>(show ∀ m∈_,m≠b14 from (upc (by omega) (fun m hm=>by cases hm))) _ hm rfl)
    have q13:ρ 13=.pointer (some ⟨b14,4,none⟩):=hS 10 (by decide) 13 rfl
    exact o_q (r_ld one_string q13 (B72.cell rfl)) ⟨Fr.refl _ _,rfl⟩
   ·intro _ ρ w47o F47o hX hS hρ
    have F47o:=hX 14 rfl rfl
    have q3:ρ 3=.pointer (some ⟨b28,0,none⟩):=hS 0 (by decide) 3 rfl
    exact o_q (r_nilchk q3) ⟨Fr.refl _ _,rfl⟩
   ·intro _ ρ w47o F47o hX hS hρ
    have F47o:=hX 14 rfl rfl
    have q15:ρ 15=.pointer (some ⟨b28,0,none⟩):=hS 12 (by decide) 15 rfl
    exact o_q (r_fa fld_api_Value_1 rfl q15) ⟨Fr.refl _ _,rfl⟩
   ·intro hT; exact absurd hT (by decide)
   ·intro _ ρ w47o F47o hX hS hρ
    have q4:ρ 4=.pointer (some ⟨b28,0,none⟩):=hS 1 (by decide) 4 rfl
    exact o_q (r_nilchk q4) ⟨Fr.refl _ _,rfl⟩
   ·intro _ ρ w47o F47o hX hS hρ
    have q17:ρ 17=.pointer (some ⟨b28,0,none⟩):=hS 15 (by decide) 17 rfl
    exact o_q (r_fa fld_api_Value_2 rfl q17) ⟨Fr.refl _ _,rfl⟩
   ·intro hT; exact absurd hT (by decide)
   ·intro _ ρ w47o F47o hX hS hρ
    have q5:ρ 5=.pointer (some ⟨b28,0,none⟩):=hS 2 (by decide) 5 rfl
    exact o_q (r_nilchk q5) ⟨Fr.refl _ _,rfl⟩
   ·intro _ ρ w47o F47o hX hS hρ
    have q19:ρ 19=.pointer (some ⟨b28,0,none⟩):=hS 18 (by decide) 19 rfl
    exact o_q (r_fa fld_api_Value_3 rfl q19) ⟨Fr.refl _ _,rfl⟩
   ·intro hT; exact absurd hT (by decide)
   ·intro _ ρ w47o F47o hX hS hρ
    have q6:ρ 6=.pointer (some ⟨b28,0,none⟩):=hS 3 (by decide) 6 rfl
    exact o_q (r_nilchk q6) ⟨Fr.refl _ _,rfl⟩
   ·intro _ ρ w47o F47o hX hS hρ
    have q21:ρ 21=.pointer (some ⟨b28,0,none⟩):=hS 21 (by decide) 21 rfl
    exact o_q (r_fa fld_api_Value_4 rfl q21) ⟨Fr.refl _ _,rfl⟩
   ·intro hT; exact absurd hT (by decide)
  ·refine ⟨⟨_,rfl,?_⟩,⟨_,rfl,?_⟩,⟨_,rfl,?_⟩,⟨_,rfl,?_⟩,trivial⟩
   ·intro ρ w47o F47o hX hI hS hρ
    have F47o:=hX rfl
    have hB47_b28:=hI
    have q8:ρ 8=.int .i64 d0.time:=hS 5 (by decide) 8 rfl
    have q16:ρ 16=.pointer (some ⟨b28,1,none⟩):=hS 13 (by decide) 16 rfl
    refine o_store (show ev ρ _=_ from q16) hB47_b28 (vs:=[.int .i64 d0.time]) (congrArg Value.cells q8) sz_int rfl rfl rfl ?_
    intro w' F B2
    exact eo_nil ⟨rfl,rfl,undef,rfl,F,B2,trivial⟩
   ·intro ρ w47o F47o hX hI hS hρ
    have hB47_b28:=hI
    have q10:ρ 10=.int .i64 d0.node:=hS 7 (by decide) 10 rfl
    have q18:ρ 18=.pointer (some ⟨b28,2,none⟩):=hS 16 (by decide) 18 rfl
    refine o_store (show ev ρ _=_ from q18) hB47_b28 (vs:=[.int .i64 d0.node]) (congrArg Value.cells q10) sz_int rfl rfl rfl ?_
    intro w' F B2
    exact eo_nil ⟨rfl,rfl,undef,rfl,F,B2,trivial⟩
   ·intro ρ w47o F47o hX hI hS hρ
    have hB47_b28:=hI
    have q12:ρ 12=.bool d0.dead:=hS 9 (by decide) 12 rfl
    have q20:ρ 20=.pointer (some ⟨b28,3,none⟩):=hS 19 (by decide) 20 rfl
    refine o_store (show ev ρ _=_ from q20) hB47_b28 (vs:=[.bool d0.dead]) (congrArg Value.cells q12) sz_bool rfl rfl rfl ?_
    intro w' F B2
    exact eo_nil ⟨rfl,rfl,undef,rfl,F,B2,trivial⟩
   ·intro ρ w47o F47o hX hI hS hρ
    have hB47_b28:=hI
    have q14:ρ 14=str d0.text:=hS 11 (by decide) 14 rfl
    have q22:ρ 22=.pointer (some ⟨b28,4,none⟩):=hS 22 (by decide) 22 rfl
    refine o_store (show ev ρ _=_ from q22) hB47_b28 (vs:=[str d0.text]) (congrArg Value.cells q14) sz_string rfl rfl rfl ?_
    intro w' F B2
    exact eo_nil ⟨rfl,rfl,undef,rfl,F,B2,trivial⟩
  ·intro ρ w47 F47 hI hS hρ
   have hB47_b28:=hI
   obtain ⟨ρ',rfl⟩:∃ ρ',ρ=envs (ovr [3,4,5,6,7,8,9,10,11,12,13,14,15,16,17,18,19,20,21,22] ρ' _) []:=⟨ρ,ovr_self hρ trivial⟩
   have E98:Ext w w47:=Ext.st E41 F47 (upc n28 (fun m hm=>by cases hm))
   have G99:Fr L w w47:=Fr.stp G42 F47 (upc (.inr m30) (fun m hm=>by cases hm))
   have G102:Fr (b14::L) w22 w47:=Fr.stp G45 F47 (upc (.inr m33) (fun m hm=>by cases hm))
   have B103:=B46.fr F47 (fun hm=>(show ∀ m∈_,m≠b14 from (upc (by omega) (fun m hm=>by cases hm))) _ hm rfl)
   refine end0 ⟨_,rfl,?_⟩
   refine eo_r ?_
   refine o_w (v:=.agg (cVal d0 A1 c2 A4 c5).toArray) (r_lda agg_api_Value rfl (vs:=(cVal d0 A1 c2 A4 c5)) rfl ((S22.fr G102 sI).now.part (n:=8) rfl)) ?_
   refine o_w (v:=.agg #[.int .i64 d0.kind,.int .i64 d0.time,.int .i64 d0.node,.bool d0.dead,str d0.text,.slice none ([]:List Int).length 0,.slice none ([]:List Int).length 0,.int .u64 0]) (r_lda agg_api_Value rfl (vs:=[.int .i64 d0.kind,.int .i64 d0.time,.int .i64 d0.node,.bool d0.dead,str d0.text,.slice none ([]:List Int).length 0,.slice none ([]:List Int).length 0,.int .u64 0]) rfl (hB47_b28.part (n:=8) rfl)) ?_
   obtain ⟨x104,hx104,h⟩:=h
   refine o_call cf_value_Same rfl (value_Same_c d0 (kVal_mk (d:=d0) (H3.up G99 sI (upc (.inr m30) (upc (.inr m15) (fun _ h=>.inl h)))) (H6.up G99 sI (upc (.inr m30) (upc (.inr m15) (fun _ h=>.inl h))))) (⟨d0.kind,d0.time,d0.node,d0.dead,d0.text,([]:List Int),([]:List Int),(0:Int)⟩:Val) (kVal_mk (d:=(⟨d0.kind,d0.time,d0.node,d0.dead,d0.text,([]:List Int),([]:List Int),(0:Int)⟩:Val)) stb_nil stb_nil) (((hL.fr E98).cons B103.lt).cons hB47_b28.lt) hx104) rfl rfl ?_
   rintro _ w104 ⟨F104,rfl⟩
   have E105:=E98.trans F104
   refine o_w (v:=.bool x104) (r_asg rfl) ?_
   refine eo_nil_sq ?_
   refine ec_ret ?_
   refine end1 (v:=.bool x104) rfl ⟨_,rfl,?_⟩
   refine o_w (v:=.bool x104) (r_asg rfl) ?_
   refine eo_r ?_
   iterate 2 refine o_w (v:=.bool x104) (r_mov rfl) ?_
   refine o_vg (v:=.pointer (some ⟨b14,1,none⟩)) (want_ct (t:=10) rfl rfl) (fun hk=>(r_fa fld_api_Value_1 rfl rfl)) rfl rfl ?_
   refine o_vg (v:=.int .i64 d0.time) (want_ct (t:=10) rfl rfl) (fun hk=>(r_ld one_int (gdT hk) ((B103.ex F104).cell rfl))) rfl rfl ?_
   refine o_vg (v:=.bool (decide (0≤d0.time))) (want_ct (t:=10) rfl rfl) (fun hk=>(r_int (gdT hk) rfl rfl)) rfl rfl ?_
   refine o_w (v:=.bool (x104&&(decide (0≤d0.time)))) (r_pickAnd rfl (fun ht=>(gdT ht)) rfl) ?_
   refine o_w (v:=.bool (x104&&(decide (0≤d0.time)))) (r_mov rfl) ?_
   refine o_vg (v:=.pointer (some ⟨b14,1,none⟩)) (want_ct (t:=15) rfl rfl) (fun hk=>(r_fa fld_api_Value_1 rfl rfl)) rfl rfl ?_
   refine o_vg (v:=.int .i64 d0.time) (want_ct (t:=15) rfl rfl) (fun hk=>(r_ld one_int (gdT hk) ((B103.ex F104).cell rfl))) rfl rfl ?_
   refine o_vg (v:=.bool (decide (d0.time≤2147483647))) (want_ct (t:=15) rfl rfl) (fun hk=>(r_int (gdT hk) rfl rfl)) rfl rfl ?_
   refine o_w (v:=.bool ((x104&&(decide (0≤d0.time)))&&(decide (d0.time≤2147483647)))) (r_pickAnd rfl (fun ht=>(gdT ht)) rfl) ?_
   refine o_w (v:=.bool ((x104&&(decide (0≤d0.time)))&&(decide (d0.time≤2147483647)))) (r_mov rfl) ?_
   refine o_vg (v:=.pointer (some ⟨b14,2,none⟩)) (want_ct (t:=20) rfl rfl) (fun hk=>(r_fa fld_api_Value_2 rfl rfl)) rfl rfl ?_
   refine o_vg (v:=.int .i64 d0.node) (want_ct (t:=20) rfl rfl) (fun hk=>(r_ld one_int (gdT hk) ((B103.ex F104).cell rfl))) rfl rfl ?_
   refine o_vg (v:=.bool (decide (0≤d0.node))) (want_ct (t:=20) rfl rfl) (fun hk=>(r_int (gdT hk) rfl rfl)) rfl rfl ?_
   refine o_w (v:=.bool (((x104&&(decide (0≤d0.time)))&&(decide (d0.time≤2147483647)))&&(decide (0≤d0.node)))) (r_pickAnd rfl (fun ht=>(gdT ht)) rfl) ?_
   refine o_w (v:=.bool (((x104&&(decide (0≤d0.time)))&&(decide (d0.time≤2147483647)))&&(decide (0≤d0.node)))) (r_mov rfl) ?_
   refine o_vg (v:=.pointer (some ⟨b14,2,none⟩)) (want_ct (t:=25) rfl rfl) (fun hk=>(r_fa fld_api_Value_2 rfl rfl)) rfl rfl ?_
   refine o_vg (v:=.int .i64 d0.node) (want_ct (t:=25) rfl rfl) (fun hk=>(r_ld one_int (gdT hk) ((B103.ex F104).cell rfl))) rfl rfl ?_
   refine o_vg (v:=.bool (decide (d0.node<8))) (want_ct (t:=25) rfl rfl) (fun hk=>(r_int (gdT hk) rfl rfl)) rfl rfl ?_
   refine o_w (v:=.bool ((((x104&&(decide (0≤d0.time)))&&(decide (d0.time≤2147483647)))&&(decide (0≤d0.node)))&&(decide (d0.node<8)))) (r_pickAnd rfl (fun ht=>(gdT ht)) rfl) ?_
   refine o_w (v:=.bool ((((x104&&(decide (0≤d0.time)))&&(decide (d0.time≤2147483647)))&&(decide (0≤d0.node)))&&(decide (d0.node<8)))) (r_mov rfl) ?_
   refine o_vg (v:=.pointer (some ⟨b14,4,none⟩)) (want_ct (t:=30) rfl rfl) (fun hk=>(r_fa fld_api_Value_4 rfl rfl)) rfl rfl ?_
   refine o_vg (v:=str d0.text) (want_ct (t:=30) rfl rfl) (fun hk=>(r_ld one_string (gdT hk) ((B103.ex F104).cell rfl))) rfl rfl ?_
   refine o_vg (v:=.int .i64 (d0.text.length:Int)) (want_ct (t:=30) rfl rfl) (fun hk=>(r_len_str un_string (gdT hk))) rfl rfl ?_
   refine o_vg (v:=.bool (decide ((d0.text.length:Int)≤8))) (want_ct (t:=30) rfl rfl) (fun hk=>(r_int (gdT hk) rfl rfl)) rfl rfl ?_
   refine o_w (v:=.bool (((((x104&&(decide (0≤d0.time)))&&(decide (d0.time≤2147483647)))&&(decide (0≤d0.node)))&&(decide (d0.node<8)))&&(decide ((d0.text.length:Int)≤8)))) (r_pickAnd rfl (fun ht=>(gdT ht)) rfl) ?_
   refine o_w (v:=.bool (((((x104&&(decide (0≤d0.time)))&&(decide (d0.time≤2147483647)))&&(decide (0≤d0.node)))&&(decide (d0.node<8)))&&(decide ((d0.text.length:Int)≤8)))) (r_mov rfl) ?_
   refine o_vg (v:=.pointer (some ⟨b14,3,none⟩)) (want_ct (t:=36) rfl rfl) (fun hk=>(r_fa fld_api_Value_3 rfl rfl)) rfl rfl ?_
   refine o_vg (v:=.bool d0.dead) (want_ct (t:=36) rfl rfl) (fun hk=>(r_ld one_bool (gdT hk) ((B103.ex F104).cell rfl))) rfl rfl ?_
   refine o_vg (v:=.bool (!d0.dead)) (want_ct (t:=36) rfl rfl) (fun hk=>(r_not (gdT hk))) rfl rfl ?_
   refine o_vg (v:=.bool (!d0.dead)) (want_ct (t:=36) rfl rfl) (fun hk=>(r_mov (gdT hk))) rfl rfl ?_
   refine o_vg (v:=.pointer (some ⟨b14,4,none⟩)) (want_gf (t:=40) rfl rfl) (fun hk=>(r_fa fld_api_Value_4 rfl rfl)) rfl rfl ?_
   refine o_vg (v:=str d0.text) (want_gf (t:=40) rfl rfl) (fun hk=>(r_ld one_string (gdT hk) ((B103.ex F104).cell rfl))) rfl rfl ?_
   refine o_vg (v:=.bool (d0.text==([]:Str))) (want_gf (t:=40) rfl rfl) (fun hk=>(r_str (gdT hk) rfl rfl)) rfl rfl ?_
   refine o_vg (v:=.bool ((!d0.dead)||(d0.text==([]:Str)))) (want_ct (t:=36) rfl rfl) (fun hk=>(r_pickOr (gdT hk) rfl (fun hf=>(gdT (andM hk (notT hf)))))) rfl rfl ?_
   refine o_w (v:=.bool ((((((x104&&(decide (0≤d0.time)))&&(decide (d0.time≤2147483647)))&&(decide (0≤d0.node)))&&(decide (d0.node<8)))&&(decide ((d0.text.length:Int)≤8)))&&((!d0.dead)||(d0.text==([]:Str))))) (r_pickAnd rfl (fun ht=>(gdT ht)) rfl) ?_
   refine o_w (v:=.bool ((((((x104&&(decide (0≤d0.time)))&&(decide (d0.time≤2147483647)))&&(decide (0≤d0.node)))&&(decide (d0.node<8)))&&(decide ((d0.text.length:Int)≤8)))&&((!d0.dead)||(d0.text==([]:Str))))) (r_asg rfl) ?_
   refine eo_nil_sq ?_
   refine ec_ret ?_
   refine end1 (v:=.bool ((((((x104&&(decide (0≤d0.time)))&&(decide (d0.time≤2147483647)))&&(decide (0≤d0.node)))&&(decide (d0.node<8)))&&(decide ((d0.text.length:Int)≤8)))&&((!d0.dead)||(d0.text==([]:Str))))) rfl ⟨_,rfl,?_⟩
   refine o_w (v:=.bool ((((((x104&&(decide (0≤d0.time)))&&(decide (d0.time≤2147483647)))&&(decide (0≤d0.node)))&&(decide (d0.node<8)))&&(decide ((d0.text.length:Int)≤8)))&&((!d0.dead)||(d0.text==([]:Str))))) (r_pickT rfl rfl rfl) ?_
   refine eo_nil_sq ?_
   refine ec_cond rfl (fun hc112=>?_) (fun hc112=>?_)
   ·replace h:=h.1 hc112
    refine ec_sr ?_
    refine o_w (v:=.int .i64 0) (r_asg rfl) ?_
    refine eo_nil_sq ?_
    refine ec_ret ?_
    refine sq_ret ?_
    subst h
    exact (end1 rfl ⟨_,rfl,E105,rfl⟩)
   ·replace h:=h.2 hc112
    refine ec_skip ?_
    refine sq_n ?_
    refine ec_sr ?_
    refine o_w (v:=.int .i64 2) (r_asg rfl) ?_
    refine eo_nil_sq ?_
    refine ec_ret ?_
    subst h
    exact (end1 rfl ⟨_,rfl,E105,rfl⟩)
 ·replace h:=h.2 hc9
  refine ec_sr ?_
  refine o_w (v:=.bool (d0.kind==2)) (r_int rfl rfl rfl) ?_
  refine o_w (v:=.bool (d0.kind==2)) (r_asg rfl) ?_
  refine eo_nil_sq ?_
  refine ec_cond rfl (fun hc113=>?_) (fun hc113=>?_)
  ·replace h:=h.1 hc113
   refine ec_sr ?_
   refine o_w (v:=.agg #[]) (r_build bld_value_counter (vs:=[]) (cells:=[]) rfl rfl) ?_
   refine o_w (v:=.iface 54 (.agg #[])) (r_mkif conc_value_counter rfl) ?_
   refine o_w (v:=.iface 54 (.agg #[])) (r_asg rfl) ?_
   refine o_w (v:=.bool true) (r_asg rfl) ?_
   refine eo_nil_sq ?_
   refine ec_ret ?_
   refine blk_ret ?_
   refine sq_ret ?_
   refine end2 (v:=.iface 54 (.agg #[])) (x:=.bool true) rfl rfl ⟨_,rfl,?_⟩
   refine o_w (v:=.tuple #[.iface 54 (.agg #[]),.bool true]) (r_mov rfl) ?_
   refine o_w (v:=.iface 54 (.agg #[])) (r_ext rfl rfl) ?_
   refine o_w (v:=.bool true) (r_ext rfl rfl) ?_
   refine o_w (v:=.iface 54 (.agg #[])) (r_asg rfl) ?_
   refine o_w (v:=.bool true) (r_asg rfl) ?_
   refine eo_r ?_
   iterate 2 refine o_w (v:=.bool true) (r_mov rfl) ?_
   refine o_v (v:=.iface 54 (.agg #[])) (r_mov rfl) (want_t (t:=12) rfl rfl rfl) rfl rfl ?_
   refine o_v (v:=.agg (cVal d0 A1 c2 A4 c5).toArray) (r_lda agg_api_Value rfl (vs:=(cVal d0 A1 c2 A4 c5)) rfl (S7.now.part (n:=8) rfl)) (want_t (t:=12) rfl rfl rfl) rfl rfl ?_
   refine o_inlI (vs:=[.agg (cVal d0 A1 c2 A4 c5).toArray]) mf_value_counter_ouroboros_value_is rfl rfl (want_t (t:=12) rfl rfl rfl) rfl ?_
   refine calls_ec Try.func60 rfl rfl rfl ?_
   refine ec_sr ?_
   refine o_box (cs:=[]) rfl rfl rfl ?_
   intro b114 w114 e114 F114 B114
   have E115:=F7.trans F114
   refine o_box (cs:=(cVal d0 A1 c2 A4 c5)) rfl rfl rfl ?_
   intro b118 w118 e118 F118 B118
   have n118:w.heap.size≤b118:=by rw [e118]; exact E115.size
   have m119:w.heap.size≤b118:=by rw [e118]; exact (G8.trans (Fr.ext F114)).size
   have E122:=E115.trans F118
   refine o_w (v:=.bool false) (r_asg rfl) ?_
   refine eo_r ?_
   refine o_w (v:=.func (.func 63) #[] #[]) (r_asg rfl) ?_
   refine eo_r ?_
   refine o_w (v:=.agg (cVal d0 A1 c2 A4 c5).toArray) (r_lda agg_api_Value rfl (vs:=(cVal d0 A1 c2 A4 c5)) rfl (B118.part (n:=8) rfl)) ?_
   refine o_w (r_mkfn' (vs:=[.pointer (some ⟨b118,0,none⟩)]) rfl) ?_
   refine o_inl (vs:=[.agg (cVal d0 A1 c2 A4 c5).toArray,.func (.func 64) #[] #[.pointer (some ⟨b118,0,none⟩)]]) (caps:=[]) cf_value_only rfl rfl rfl rfl ?_
   refine calls_ec Try.func52 rfl rfl rfl ?_
   refine ec_sr ?_
   refine o_box (cs:=(cVal d0 A1 c2 A4 c5)) rfl rfl rfl ?_
   intro b126 w126 e126 F126 B126
   have S126:=B126.stb (nin ((hL.fr E122).cons B118.lt) e126)
   have E127:=E122.trans F126
   refine o_w (v:=.bool false) (r_asg rfl) ?_
   refine eo_r ?_
   refine o_w (v:=.pointer (some ⟨b126,0,none⟩)) (r_fa fld_api_Value_0 rfl rfl) ?_
   refine o_w (v:=.int .i64 d0.kind) (r_ld one_int rfl (S126.now.cell rfl)) ?_
   refine o_w (v:=.agg #[.int .i64 d0.kind,.int .i64 0,.int .i64 0,.bool false,str [],.slice none ([]:List Int).length 0,.slice none ([]:List Int).length 0,.int .u64 0]) (r_build bld_api_Value (vs:=[(0,.int .i64 d0.kind)]) (cells:=[.int .i64 d0.kind,.int .i64 0,.int .i64 0,.bool false,str [],.slice none ([]:List Int).length 0,.slice none ([]:List Int).length 0,.int .u64 0]) rfl rfl) ?_
   refine o_alloc zero_api_Value rfl rfl rfl ?_
   intro b132 w132 e132 F132 B132
   have n132:w.heap.size≤b132:=by rw [e132]; exact E127.size
   have q133:b118<b132:=by rw [e132]; exact (B118.ex F126).lt
   have m134:w.heap.size≤b132:=by rw [e132]; exact (((G8.trans (Fr.ext F114)).trans (Fr.ext F118)).trans (Fr.ext F126)).size
   have m137:w126.heap.size≤b132:=Nat.le_of_eq e132.symm
   have E138:=E127.trans F132
   have G139:=(((G8.trans (Fr.ext F114)).trans (Fr.ext F118)).trans (Fr.ext F126)).trans (Fr.ext F132)
   have G142:Fr (b118::L) w126 w132:=Fr.ext F132
   refine o_store rfl B132 (vs:=[.int .i64 d0.kind,.int .i64 0,.int .i64 0,.bool false,str [],.slice none ([]:List Int).length 0,.slice none ([]:List Int).length 0,.int .u64 0]) rfl sz_api_Value rfl rfl rfl ?_
   intro w144 F144 B144
   have E145:=Ext.st E138 F144 (by simp; omega)
   have G146:Fr L w w144:=G139.stp F144 (upc (.inr m134) (fun m hm=>by cases hm))
   have G149:Fr (b118::L) w126 w144:=G142.stp F144 (upc (.inr m137) (fun m hm=>by cases hm))
   have B150:=((B118.ex F126).ex F132).fr F144 (by simp; omega)
   have B144':Blk w144 b132 _ [.int .i64 d0.kind,.int .i64 0,.int .i64 0,.bool false,str [],.slice none ([]:List Int).length 0,.slice none ([]:List Int).length 0,.int .u64 0]:=B144
   refine eo_r ?_
   refine o_w (v:=.func (.func 64) #[] #[.pointer (some ⟨b118,0,none⟩)]) (r_mov rfl) ?_
   refine o_inl (vs:=[.pointer (some ⟨b132,0,none⟩)]) (caps:=[.pointer (some ⟨b118,0,none⟩)]) cf_value_counter_is_2 rfl rfl rfl rfl ?_
   refine calls_ec Try.func64 rfl rfl rfl ?_
   have qb151_b132:b132<w144.heap.size:=B144'.lt
   refine ec_anyN (by kernel_rfl) [[],[],[],[2],[],[4],[0,2,3],[0,2,3,6],[0,2,3,6,7],[0,1,2,3,4,5,6,7,8],[0,1,2,3,4,5,6,7,8,9],[0,1,2,3,4,5,6,7,8,9,10]] [3,4,5,6,7,8,9,10,11,12] (b132::[]) [8,11] [[b132],[b132]] [[8,9,10,11],[11]] [fun w'=>Blk w' b132 25 [.int .i64 d0.kind,.int .i64 0,.int .i64 0,.bool false,str [],.slice none ([]:List Int).length 0,.slice none ([]:List Int).length 0,.int .u64 0],fun w'=>Blk w' b132 25 [.int .i64 d0.kind,.int .i64 0,.int .i64 0,.bool false,str [],.slice A1 d0.plus.length c2,.slice none ([]:List Int).length 0,.int .u64 0],fun w'=>Blk w' b132 25 [.int .i64 d0.kind,.int .i64 0,.int .i64 0,.bool false,str [],.slice A1 d0.plus.length c2,.slice A4 d0.minus.length c5,.int .u64 0]] [fun v _=>v=(.pointer (some ⟨b132,0,none⟩):Value),fun v _=>v=(.pointer (some ⟨b132,0,none⟩):Value),fun v _=>v=(.pointer (some ⟨b118,5,none⟩):Value),fun v _=>v=(.slice A1 d0.plus.length c2:Value),fun v _=>v=(.pointer (some ⟨b118,6,none⟩):Value),fun v _=>v=(.slice A4 d0.minus.length c5:Value),fun v _=>v=(.pointer (some ⟨b132,0,none⟩):Value),fun v _=>v=(.pointer (some ⟨b132,5,none⟩):Value),fun _ _=>True,fun v _=>v=(.pointer (some ⟨b132,0,none⟩):Value),fun v _=>v=(.pointer (some ⟨b132,6,none⟩):Value),fun _ _=>True] (by kernel_rfl) (allM1 (fun m hm=>by first | exact hm | (simp at hm ⊢; simp [hm]; done) | simp_all) (allM1 (fun m hm=>by first | exact hm | (simp at hm ⊢; simp [hm]; done) | simp_all) (fun _ h=>by cases h))) ⟨fun _ _ _ _ _ h=>h,fun _ _ _ _ _ h=>h,fun _ _ _ _ _ h=>h,fun _ _ _ _ _ h=>h,fun _ _ _ _ _ h=>h,fun _ _ _ _ _ h=>h,fun _ _ _ _ _ h=>h,fun _ _ _ _ _ h=>h,fun _ _ _ _ _ h=>h,fun _ _ _ _ _ h=>h,fun _ _ _ _ _ h=>h,fun _ _ _ _ _ h=>h,trivial⟩ ⟨⟨fun _ _ _ _ _ h=>h,fun _ _ _ _ _ h=>h,fun _ _ _ _ _ h=>h,fun _ _ _ _ _ h=>h,fun _ _ _ _ _ h=>h,fun _ _ _ _ _ h=>h,fun _ _ _ _ _ h=>h,fun _ _ _ _ _ h=>h,(fun h=>absurd h (by decide)),(fun h=>absurd h (by decide)),(fun h=>absurd h (by decide)),(fun h=>absurd h (by decide)),trivial⟩,⟨fun _ _ _ _ _ h=>h,fun _ _ _ _ _ h=>h,fun _ _ _ _ _ h=>h,fun _ _ _ _ _ h=>h,fun _ _ _ _ _ h=>h,fun _ _ _ _ _ h=>h,fun _ _ _ _ _ h=>h,fun _ _ _ _ _ h=>h,fun _ _ _ _ _ h=>h,fun _ _ _ _ _ h=>h,fun _ _ _ _ _ h=>h,(fun h=>absurd h (by decide)),trivial⟩,trivial⟩ ⟨fun w' w'' F h=>by have hB151_b132:=h; exact (hB151_b132.ex F),fun w' w'' F h=>by have hB151_b132:=h; exact (hB151_b132.ex F),fun w' w'' F h=>by have hB151_b132:=h; exact (hB151_b132.ex F),trivial⟩ B144' ?_ ?_ ?_
   ·refine ⟨?_,?_,?_,?_,?_,?_,?_,?_,?_,?_,?_,?_,trivial⟩
    ·intro _ ρ w151o F151o hX hS hρ
     have F151o:=hX 8 rfl rfl
     have q0:ρ 0=.pointer (some ⟨b132,0,none⟩):=hρ 0 (by kernel_rfl)
     exact o_q (r_mov q0) ⟨Fr.refl _ _,rfl⟩
    ·intro _ ρ w151o F151o hX hS hρ
     have q0:ρ 0=.pointer (some ⟨b132,0,none⟩):=hρ 0 (by kernel_rfl)
     exact o_q (r_mov q0) ⟨Fr.refl _ _,rfl⟩
    ·intro _ ρ w151o F151o hX hS hρ
     have F151o:=hX 8 rfl rfl
     have q1:ρ 1=.pointer (some ⟨b118,0,none⟩):=hρ 1 (by kernel_rfl)
     exact o_q (r_fa fld_api_Value_5 rfl q1) ⟨Fr.refl _ _,rfl⟩
    ·intro _ ρ w151o F151o hX hS hρ
     have F151o:=hX 8 rfl rfl
     have q5:ρ 5=.pointer (some ⟨b118,5,none⟩):=hS 2 (by decide) 5 rfl
     exact o_q (r_ld one_s_int q5 ((B150.ex F151o).cell rfl)) ⟨Fr.refl _ _,rfl⟩
    ·intro _ ρ w151o F151o hX hS hρ
     have q1:ρ 1=.pointer (some ⟨b118,0,none⟩):=hρ 1 (by kernel_rfl)
     exact o_q (r_fa fld_api_Value_6 rfl q1) ⟨Fr.refl _ _,rfl⟩
    ·intro _ ρ w151o F151o hX hS hρ
     have B164:=B150.fr F151o (fun hm=>(show ∀ m∈_,m≠b118 from (upc (by omega) (fun m hm=>by cases hm))) _ hm rfl)
     have q7:ρ 7=.pointer (some ⟨b118,6,none⟩):=hS 4 (by decide) 7 rfl
     exact o_q (r_ld one_s_int q7 (B164.cell rfl)) ⟨Fr.refl _ _,rfl⟩
    ·intro _ ρ w151o F151o hX hS hρ
     have F151o:=hX 8 rfl rfl
     have q3:ρ 3=.pointer (some ⟨b132,0,none⟩):=hS 0 (by decide) 3 rfl
     exact o_q (r_nilchk q3) ⟨Fr.refl _ _,rfl⟩
    ·intro _ ρ w151o F151o hX hS hρ
     have F151o:=hX 8 rfl rfl
     have q9:ρ 9=.pointer (some ⟨b132,0,none⟩):=hS 6 (by decide) 9 rfl
     exact o_q (r_fa fld_api_Value_5 rfl q9) ⟨Fr.refl _ _,rfl⟩
    ·intro hT; exact absurd hT (by decide)
    ·intro _ ρ w151o F151o hX hS hρ
     have q4:ρ 4=.pointer (some ⟨b132,0,none⟩):=hS 1 (by decide) 4 rfl
     exact o_q (r_nilchk q4) ⟨Fr.refl _ _,rfl⟩
    ·intro _ ρ w151o F151o hX hS hρ
     have q11:ρ 11=.pointer (some ⟨b132,0,none⟩):=hS 9 (by decide) 11 rfl
     exact o_q (r_fa fld_api_Value_6 rfl q11) ⟨Fr.refl _ _,rfl⟩
    ·intro hT; exact absurd hT (by decide)
   ·refine ⟨⟨_,rfl,?_⟩,⟨_,rfl,?_⟩,trivial⟩
    ·intro ρ w151o F151o hX hI hS hρ
     have F151o:=hX rfl
     have hB151_b132:=hI
     have q6:ρ 6=.slice A1 d0.plus.length c2:=hS 3 (by decide) 6 rfl
     have q10:ρ 10=.pointer (some ⟨b132,5,none⟩):=hS 7 (by decide) 10 rfl
     refine o_store (show ev ρ _=_ from q10) hB151_b132 (vs:=[.slice A1 d0.plus.length c2]) (congrArg Value.cells q6) sz_s_int rfl rfl rfl ?_
     intro w' F B2
     exact eo_nil ⟨rfl,rfl,undef,rfl,F,B2,trivial⟩
    ·intro ρ w151o F151o hX hI hS hρ
     have hB151_b132:=hI
     have q8:ρ 8=.slice A4 d0.minus.length c5:=hS 5 (by decide) 8 rfl
     have q12:ρ 12=.pointer (some ⟨b132,6,none⟩):=hS 10 (by decide) 12 rfl
     refine o_store (show ev ρ _=_ from q12) hB151_b132 (vs:=[.slice A4 d0.minus.length c5]) (congrArg Value.cells q8) sz_s_int rfl rfl rfl ?_
     intro w' F B2
     exact eo_nil ⟨rfl,rfl,undef,rfl,F,B2,trivial⟩
   ·intro ρ w151 F151 hI hS hρ
    have hB151_b132:=hI
    obtain ⟨ρ',rfl⟩:∃ ρ',ρ=envs (ovr [3,4,5,6,7,8,9,10,11,12] ρ' _) []:=⟨ρ,ovr_self hρ trivial⟩
    have E178:Ext w w151:=Ext.st E145 F151 (upc n132 (fun m hm=>by cases hm))
    have G179:Fr L w w151:=Fr.stp G146 F151 (upc (.inr m134) (fun m hm=>by cases hm))
    have G182:Fr (b118::L) w126 w151:=Fr.stp G149 F151 (upc (.inr m137) (fun m hm=>by cases hm))
    have B183:=B150.fr F151 (fun hm=>(show ∀ m∈_,m≠b118 from (upc (by omega) (fun m hm=>by cases hm))) _ hm rfl)
    refine end0 ⟨_,rfl,?_⟩
    refine eo_r ?_
    refine o_w (v:=.agg (cVal d0 A1 c2 A4 c5).toArray) (r_lda agg_api_Value rfl (vs:=(cVal d0 A1 c2 A4 c5)) rfl ((S126.fr G182 sI).now.part (n:=8) rfl)) ?_
    refine o_w (v:=.agg #[.int .i64 d0.kind,.int .i64 0,.int .i64 0,.bool false,str [],.slice A1 d0.plus.length c2,.slice A4 d0.minus.length c5,.int .u64 0]) (r_lda agg_api_Value rfl (vs:=[.int .i64 d0.kind,.int .i64 0,.int .i64 0,.bool false,str [],.slice A1 d0.plus.length c2,.slice A4 d0.minus.length c5,.int .u64 0]) rfl (hB151_b132.part (n:=8) rfl)) ?_
    obtain ⟨x184,hx184,h⟩:=h
    refine o_call cf_value_Same rfl (value_Same_c d0 (kVal_mk (d:=d0) (H3.up G179 sI (upc (.inr m134) (upc (.inr m119) (fun _ h=>.inl h)))) (H6.up G179 sI (upc (.inr m134) (upc (.inr m119) (fun _ h=>.inl h))))) (⟨d0.kind,(0:Int),(0:Int),false,([]:Str),d0.plus,d0.minus,(0:Int)⟩:Val) (kVal_mk (d:=(⟨d0.kind,(0:Int),(0:Int),false,([]:Str),d0.plus,d0.minus,(0:Int)⟩:Val)) (H3.up G179 sI (upc (.inr m134) (upc (.inr m119) (fun _ h=>.inl h)))) (H6.up G179 sI (upc (.inr m134) (upc (.inr m119) (fun _ h=>.inl h))))) (((hL.fr E178).cons B183.lt).cons hB151_b132.lt) hx184) rfl rfl ?_
    rintro _ w184 ⟨F184,rfl⟩
    have E185:=E178.trans F184
    refine o_w (v:=.bool x184) (r_asg rfl) ?_
    refine eo_nil_sq ?_
    refine ec_ret ?_
    refine end1 (v:=.bool x184) rfl ⟨_,rfl,?_⟩
    refine o_w (v:=.bool x184) (r_asg rfl) ?_
    refine eo_r ?_
    iterate 2 refine o_w (v:=.bool x184) (r_mov rfl) ?_
    refine o_vg (v:=.pointer (some ⟨b118,5,none⟩)) (want_ct (t:=11) rfl rfl) (fun hk=>(r_fa fld_api_Value_5 rfl rfl)) rfl rfl ?_
    refine o_vg (v:=.slice A1 d0.plus.length c2) (want_ct (t:=11) rfl rfl) (fun hk=>(r_ld one_s_int (gdT hk) ((B183.ex F184).cell rfl))) rfl rfl ?_
    refine o_vg (v:=.int .i64 (d0.plus.length:Int)) (want_ct (t:=11) rfl rfl) (fun hk=>(r_len_slc un_s_int (gdT hk))) rfl rfl ?_
    refine o_vg (v:=.bool ((d0.plus.length:Int)==8)) (want_ct (t:=11) rfl rfl) (fun hk=>(r_int (gdT hk) rfl rfl)) rfl rfl ?_
    refine o_w (v:=.bool (x184&&((d0.plus.length:Int)==8))) (r_pickAnd rfl (fun ht=>(gdT ht)) rfl) ?_
    refine o_w (v:=.bool (x184&&((d0.plus.length:Int)==8))) (r_mov rfl) ?_
    refine o_vg (v:=.pointer (some ⟨b118,6,none⟩)) (want_ct (t:=17) rfl rfl) (fun hk=>(r_fa fld_api_Value_6 rfl rfl)) rfl rfl ?_
    refine o_vg (v:=.slice A4 d0.minus.length c5) (want_ct (t:=17) rfl rfl) (fun hk=>(r_ld one_s_int (gdT hk) ((B183.ex F184).cell rfl))) rfl rfl ?_
    refine o_vg (v:=.int .i64 (d0.minus.length:Int)) (want_ct (t:=17) rfl rfl) (fun hk=>(r_len_slc un_s_int (gdT hk))) rfl rfl ?_
    refine o_vg (v:=.bool ((d0.minus.length:Int)==8)) (want_ct (t:=17) rfl rfl) (fun hk=>(r_int (gdT hk) rfl rfl)) rfl rfl ?_
    refine o_w (v:=.bool ((x184&&((d0.plus.length:Int)==8))&&((d0.minus.length:Int)==8))) (r_pickAnd rfl (fun ht=>(gdT ht)) rfl) ?_
    refine o_w (v:=.bool ((x184&&((d0.plus.length:Int)==8))&&((d0.minus.length:Int)==8))) (r_mov rfl) ?_
    refine o_vg (v:=.pointer (some ⟨b118,5,none⟩)) (want_ct (t:=23) rfl rfl) (fun hk=>(r_fa fld_api_Value_5 rfl rfl)) rfl rfl ?_
    refine o_vg (v:=.slice A1 d0.plus.length c2) (want_ct (t:=23) rfl rfl) (fun hk=>(r_ld one_s_int (gdT hk) ((B183.ex F184).cell rfl))) rfl rfl ?_
    refine o_vg (v:=.func (.func 63) #[] #[]) (want_ct (t:=23) rfl rfl) (fun hk=>(r_mov rfl)) rfl rfl ?_
    obtain ⟨x194,hx194,h⟩:=h
    refine o_callg (V:=.bool x194) cf_slices_ContainsFunc_int (want_ct (t:=23) rfl rfl) (fun hk=>(mapv2 (gdT hk) (gdT hk))) (fun hk=>(slices_ContainsFunc_int_is_1_c d0.plus (H3.up (G179.trans (Fr.ext F184)) sI (upc (.inr m134) (upc (.inr m119) (fun _ h=>.inl h)))) (((hL.fr E185).cons (B183.ex F184).lt).cons (hB151_b132.ex F184).lt) (hx194 hk))) rfl ?_
    intro w194 F194
    have E195:=E185.trans F194
    refine o_vg (v:=.bool (!x194)) (want_ct (t:=23) rfl rfl) (fun hk=>(r_not (gdT hk))) rfl rfl ?_
    refine o_w (v:=.bool (((x184&&((d0.plus.length:Int)==8))&&((d0.minus.length:Int)==8))&&(!x194))) (r_pickAnd rfl (fun ht=>(gdT ht)) rfl) ?_
    refine o_w (v:=.bool (((x184&&((d0.plus.length:Int)==8))&&((d0.minus.length:Int)==8))&&(!x194))) (r_mov rfl) ?_
    refine o_vg (v:=.pointer (some ⟨b118,6,none⟩)) (want_ct (t:=30) rfl rfl) (fun hk=>(r_fa fld_api_Value_6 rfl rfl)) rfl rfl ?_
    refine o_vg (v:=.slice A4 d0.minus.length c5) (want_ct (t:=30) rfl rfl) (fun hk=>(r_ld one_s_int (gdT hk) (((B183.ex F184).ex F194).cell rfl))) rfl rfl ?_
    refine o_vg (v:=.func (.func 63) #[] #[]) (want_ct (t:=30) rfl rfl) (fun hk=>(r_mov rfl)) rfl rfl ?_
    obtain ⟨x202,hx202,h⟩:=h
    refine o_callg (V:=.bool x202) cf_slices_ContainsFunc_int (want_ct (t:=30) rfl rfl) (fun hk=>(mapv2 (gdT hk) (gdT hk))) (fun hk=>(slices_ContainsFunc_int_is_1_c d0.minus (H6.up ((G179.trans (Fr.ext F184)).trans (Fr.ext F194)) sI (upc (.inr m134) (upc (.inr m119) (fun _ h=>.inl h)))) (((hL.fr E195).cons ((B183.ex F184).ex F194).lt).cons ((hB151_b132.ex F184).ex F194).lt) (hx202 hk))) rfl ?_
    intro w202 F202
    have E203:=E195.trans F202
    refine o_vg (v:=.bool (!x202)) (want_ct (t:=30) rfl rfl) (fun hk=>(r_not (gdT hk))) rfl rfl ?_
    refine o_w (v:=.bool ((((x184&&((d0.plus.length:Int)==8))&&((d0.minus.length:Int)==8))&&(!x194))&&(!x202))) (r_pickAnd rfl (fun ht=>(gdT ht)) rfl) ?_
    refine o_w (v:=.bool ((((x184&&((d0.plus.length:Int)==8))&&((d0.minus.length:Int)==8))&&(!x194))&&(!x202))) (r_asg rfl) ?_
    refine eo_nil_sq ?_
    refine ec_ret ?_
    refine end1 (v:=.bool ((((x184&&((d0.plus.length:Int)==8))&&((d0.minus.length:Int)==8))&&(!x194))&&(!x202))) rfl ⟨_,rfl,?_⟩
    refine o_w (v:=.bool ((((x184&&((d0.plus.length:Int)==8))&&((d0.minus.length:Int)==8))&&(!x194))&&(!x202))) (r_pickT rfl rfl rfl) ?_
    refine eo_nil_sq ?_
    refine ec_cond rfl (fun hc210=>?_) (fun hc210=>?_)
    ·replace h:=h.1 hc210
     refine ec_sr ?_
     refine o_w (v:=.int .i64 0) (r_asg rfl) ?_
     refine eo_nil_sq ?_
     refine ec_ret ?_
     refine sq_ret ?_
     subst h
     exact (end1 rfl ⟨_,rfl,E203,rfl⟩)
    ·replace h:=h.2 hc210
     refine ec_skip ?_
     refine sq_n ?_
     refine ec_sr ?_
     refine o_w (v:=.int .i64 2) (r_asg rfl) ?_
     refine eo_nil_sq ?_
     refine ec_ret ?_
     subst h
     exact (end1 rfl ⟨_,rfl,E203,rfl⟩)
  ·replace h:=h.2 hc113
   refine ec_sr ?_
   refine o_w (v:=.bool (d0.kind==3)) (r_int rfl rfl rfl) ?_
   refine o_w (v:=.bool (d0.kind==3)) (r_asg rfl) ?_
   refine eo_nil_sq ?_
   refine ec_cond rfl (fun hc211=>?_) (fun hc211=>?_)
   ·replace h:=h.1 hc211
    refine ec_sr ?_
    refine o_w (v:=.agg #[]) (r_build bld_value_flags (vs:=[]) (cells:=[]) rfl rfl) ?_
    refine o_w (v:=.iface 55 (.agg #[])) (r_mkif conc_value_flags rfl) ?_
    refine o_w (v:=.iface 55 (.agg #[])) (r_asg rfl) ?_
    refine o_w (v:=.bool true) (r_asg rfl) ?_
    refine eo_nil_sq ?_
    refine ec_ret ?_
    refine blk_ret ?_
    refine sq_ret ?_
    refine end2 (v:=.iface 55 (.agg #[])) (x:=.bool true) rfl rfl ⟨_,rfl,?_⟩
    refine o_w (v:=.tuple #[.iface 55 (.agg #[]),.bool true]) (r_mov rfl) ?_
    refine o_w (v:=.iface 55 (.agg #[])) (r_ext rfl rfl) ?_
    refine o_w (v:=.bool true) (r_ext rfl rfl) ?_
    refine o_w (v:=.iface 55 (.agg #[])) (r_asg rfl) ?_
    refine o_w (v:=.bool true) (r_asg rfl) ?_
    refine eo_r ?_
    iterate 2 refine o_w (v:=.bool true) (r_mov rfl) ?_
    refine o_v (v:=.iface 55 (.agg #[])) (r_mov rfl) (want_t (t:=12) rfl rfl rfl) rfl rfl ?_
    refine o_v (v:=.agg (cVal d0 A1 c2 A4 c5).toArray) (r_lda agg_api_Value rfl (vs:=(cVal d0 A1 c2 A4 c5)) rfl (S7.now.part (n:=8) rfl)) (want_t (t:=12) rfl rfl rfl) rfl rfl ?_
    refine o_inlI (vs:=[.agg (cVal d0 A1 c2 A4 c5).toArray]) mf_value_flags_ouroboros_value_is rfl rfl (want_t (t:=12) rfl rfl rfl) rfl ?_
    refine calls_ec Try.func68 rfl rfl rfl ?_
    refine ec_sr ?_
    refine o_box (cs:=[]) rfl rfl rfl ?_
    intro b212 w212 e212 F212 B212
    have E213:=F7.trans F212
    refine o_box (cs:=(cVal d0 A1 c2 A4 c5)) rfl rfl rfl ?_
    intro b216 w216 e216 F216 B216
    have n216:w.heap.size≤b216:=by rw [e216]; exact E213.size
    have m217:w.heap.size≤b216:=by rw [e216]; exact (G8.trans (Fr.ext F212)).size
    have E220:=E213.trans F216
    refine o_w (v:=.bool false) (r_asg rfl) ?_
    refine eo_r ?_
    refine o_w (v:=.agg (cVal d0 A1 c2 A4 c5).toArray) (r_lda agg_api_Value rfl (vs:=(cVal d0 A1 c2 A4 c5)) rfl (B216.part (n:=8) rfl)) ?_
    refine o_w (r_mkfn' (vs:=[.pointer (some ⟨b216,0,none⟩)]) rfl) ?_
    refine o_inl (vs:=[.agg (cVal d0 A1 c2 A4 c5).toArray,.func (.func 71) #[] #[.pointer (some ⟨b216,0,none⟩)]]) (caps:=[]) cf_value_only rfl rfl rfl rfl ?_
    refine calls_ec Try.func52 rfl rfl rfl ?_
    refine ec_sr ?_
    refine o_box (cs:=(cVal d0 A1 c2 A4 c5)) rfl rfl rfl ?_
    intro b224 w224 e224 F224 B224
    have S224:=B224.stb (nin ((hL.fr E220).cons B216.lt) e224)
    have E225:=E220.trans F224
    refine o_w (v:=.bool false) (r_asg rfl) ?_
    refine eo_r ?_
    refine o_w (v:=.pointer (some ⟨b224,0,none⟩)) (r_fa fld_api_Value_0 rfl rfl) ?_
    refine o_w (v:=.int .i64 d0.kind) (r_ld one_int rfl (S224.now.cell rfl)) ?_
    refine o_w (v:=.agg #[.int .i64 d0.kind,.int .i64 0,.int .i64 0,.bool false,str [],.slice none ([]:List Int).length 0,.slice none ([]:List Int).length 0,.int .u64 0]) (r_build bld_api_Value (vs:=[(0,.int .i64 d0.kind)]) (cells:=[.int .i64 d0.kind,.int .i64 0,.int .i64 0,.bool false,str [],.slice none ([]:List Int).length 0,.slice none ([]:List Int).length 0,.int .u64 0]) rfl rfl) ?_
    refine o_alloc zero_api_Value rfl rfl rfl ?_
    intro b230 w230 e230 F230 B230
    have n230:w.heap.size≤b230:=by rw [e230]; exact E225.size
    have q231:b216<b230:=by rw [e230]; exact (B216.ex F224).lt
    have m232:w.heap.size≤b230:=by rw [e230]; exact (((G8.trans (Fr.ext F212)).trans (Fr.ext F216)).trans (Fr.ext F224)).size
    have m235:w224.heap.size≤b230:=Nat.le_of_eq e230.symm
    have E236:=E225.trans F230
    have G237:=(((G8.trans (Fr.ext F212)).trans (Fr.ext F216)).trans (Fr.ext F224)).trans (Fr.ext F230)
    have G240:Fr (b216::L) w224 w230:=Fr.ext F230
    refine o_store rfl B230 (vs:=[.int .i64 d0.kind,.int .i64 0,.int .i64 0,.bool false,str [],.slice none ([]:List Int).length 0,.slice none ([]:List Int).length 0,.int .u64 0]) rfl sz_api_Value rfl rfl rfl ?_
    intro w242 F242 B242
    have E243:=Ext.st E236 F242 (by simp; omega)
    have G244:Fr L w w242:=G237.stp F242 (upc (.inr m232) (fun m hm=>by cases hm))
    have G247:Fr (b216::L) w224 w242:=G240.stp F242 (upc (.inr m235) (fun m hm=>by cases hm))
    have B248:=((B216.ex F224).ex F230).fr F242 (by simp; omega)
    have B242':Blk w242 b230 _ [.int .i64 d0.kind,.int .i64 0,.int .i64 0,.bool false,str [],.slice none ([]:List Int).length 0,.slice none ([]:List Int).length 0,.int .u64 0]:=B242
    refine eo_r ?_
    refine o_w (v:=.func (.func 71) #[] #[.pointer (some ⟨b216,0,none⟩)]) (r_mov rfl) ?_
    refine o_inl (vs:=[.pointer (some ⟨b230,0,none⟩)]) (caps:=[.pointer (some ⟨b216,0,none⟩)]) cf_value_flags_is_1 rfl rfl rfl rfl ?_
    refine calls_ec Try.func71 rfl rfl rfl ?_
    refine ec_region ?_
    refine o_w (v:=.pointer (some ⟨b230,0,none⟩)) (r_mov rfl) ?_
    refine o_w (v:=.pointer (some ⟨b216,7,none⟩)) (r_fa fld_api_Value_7 rfl rfl) ?_
    refine o_w (v:=.int .u64 d0.flags) (r_ld one_uint64 rfl (B248.cell rfl)) ?_
    refine o_w (v:=.pointer (some ⟨b230,0,none⟩)) (r_nilchk rfl) ?_
    refine o_w (v:=.pointer (some ⟨b230,7,none⟩)) (r_fa fld_api_Value_7 rfl rfl) ?_
    refine o_store rfl B242' (vs:=[.int .u64 d0.flags]) rfl sz_uint64 rfl rfl rfl ?_
    intro w249 F249 B249
    have E250:=Ext.st E243 F249 (by simp; omega)
    have G251:Fr L w w249:=G244.stp F249 (upc (.inr m232) (fun m hm=>by cases hm))
    have G254:Fr (b216::L) w224 w249:=G247.stp F249 (upc (.inr m235) (fun m hm=>by cases hm))
    have B255:=B248.fr F249 (by simp; omega)
    have B249':Blk w249 b230 _ [.int .i64 d0.kind,.int .i64 0,.int .i64 0,.bool false,str [],.slice none ([]:List Int).length 0,.slice none ([]:List Int).length 0,.int .u64 d0.flags]:=B249
    refine eo_nil ?_
    refine end0 ⟨_,rfl,?_⟩
    refine eo_r ?_
    refine o_w (v:=.agg (cVal d0 A1 c2 A4 c5).toArray) (r_lda agg_api_Value rfl (vs:=(cVal d0 A1 c2 A4 c5)) rfl ((S224.fr G254 sI).now.part (n:=8) rfl)) ?_
    refine o_w (v:=.agg #[.int .i64 d0.kind,.int .i64 0,.int .i64 0,.bool false,str [],.slice none ([]:List Int).length 0,.slice none ([]:List Int).length 0,.int .u64 d0.flags]) (r_lda agg_api_Value rfl (vs:=[.int .i64 d0.kind,.int .i64 0,.int .i64 0,.bool false,str [],.slice none ([]:List Int).length 0,.slice none ([]:List Int).length 0,.int .u64 d0.flags]) rfl (B249'.part (n:=8) rfl)) ?_
    obtain ⟨x256,hx256,h⟩:=h
    refine o_call cf_value_Same rfl (value_Same_c d0 (kVal_mk (d:=d0) (H3.up G251 sI (upc (.inr m232) (upc (.inr m217) (fun _ h=>.inl h)))) (H6.up G251 sI (upc (.inr m232) (upc (.inr m217) (fun _ h=>.inl h))))) (⟨d0.kind,(0:Int),(0:Int),false,([]:Str),([]:List Int),([]:List Int),d0.flags⟩:Val) (kVal_mk (d:=(⟨d0.kind,(0:Int),(0:Int),false,([]:Str),([]:List Int),([]:List Int),d0.flags⟩:Val)) stb_nil stb_nil) (((hL.fr E250).cons B255.lt).cons B249'.lt) hx256) rfl rfl ?_
    rintro _ w256 ⟨F256,rfl⟩
    have E257:=E250.trans F256
    refine o_w (v:=.bool x256) (r_asg rfl) ?_
    refine eo_nil_sq ?_
    refine ec_ret ?_
    refine end1 (v:=.bool x256) rfl ⟨_,rfl,?_⟩
    refine o_w (v:=.bool x256) (r_asg rfl) ?_
    refine eo_nil_sq ?_
    refine ec_ret ?_
    refine end1 (v:=.bool x256) rfl ⟨_,rfl,?_⟩
    refine o_w (v:=.bool x256) (r_pickT rfl rfl rfl) ?_
    refine eo_nil_sq ?_
    refine ec_cond rfl (fun hc264=>?_) (fun hc264=>?_)
    ·replace h:=h.1 hc264
     refine ec_sr ?_
     refine o_w (v:=.int .i64 0) (r_asg rfl) ?_
     refine eo_nil_sq ?_
     refine ec_ret ?_
     refine sq_ret ?_
     subst h
     exact (end1 rfl ⟨_,rfl,E257,rfl⟩)
    ·replace h:=h.2 hc264
     refine ec_skip ?_
     refine sq_n ?_
     refine ec_sr ?_
     refine o_w (v:=.int .i64 2) (r_asg rfl) ?_
     refine eo_nil_sq ?_
     refine ec_ret ?_
     subst h
     exact (end1 rfl ⟨_,rfl,E257,rfl⟩)
   ·replace h:=h.2 hc211
    refine ec_skip ?_
    refine blk_n ?_
    refine sq_n ?_
    refine ec_sr ?_
    refine o_w (v:=.nilIface) (r_asg rfl) ?_
    refine o_w (v:=.bool false) (r_asg rfl) ?_
    refine eo_nil_sq ?_
    refine ec_ret ?_
    refine end2 (v:=.nilIface) (x:=.bool false) rfl rfl ⟨_,rfl,?_⟩
    refine o_w (v:=.tuple #[.nilIface,.bool false]) (r_mov rfl) ?_
    refine o_w (v:=.nilIface) (r_ext rfl rfl) ?_
    refine o_w (v:=.bool false) (r_ext rfl rfl) ?_
    refine o_w (v:=.nilIface) (r_asg rfl) ?_
    refine o_w (v:=.bool false) (r_asg rfl) ?_
    refine eo_r ?_
    iterate 2 refine o_w (v:=.bool false) (r_mov rfl) ?_
    iterate 3 refine o_no (want_f (t:=12) rfl rfl rfl) rfl ?_
    refine o_w (v:=.bool false) (r_pickF rfl rfl rfl) ?_
    refine eo_nil_sq ?_
    refine ec_condF rfl rfl ?_
    refine ec_skip ?_
    refine sq_n ?_
    refine ec_sr ?_
    refine o_w (v:=.int .i64 2) (r_asg rfl) ?_
    refine eo_nil_sq ?_
    refine ec_ret ?_
    subst h
    exact (end1 rfl ⟨_,rfl,F7,rfl⟩)
def value_Least_raw (d0:Int) (y:Val × Int):Prop :=
 ((d0==1)=true→(y=((⟨(1:Int),(0:Int),(0:Int),false,([]:Str),([]:List Int),([]:List Int),(0:Int)⟩:Val),(0:Int))))∧((d0==1)=false→(((d0==2)=true→((0≤(8:Int)∧(8:Int) * 8≤281474976710656∧(8:Int)≤9223372036854775807)∧((0≤(8:Int)∧(8:Int) * 8≤281474976710656∧(8:Int)≤9223372036854775807)∧(y=((⟨(2:Int),(0:Int),(0:Int),false,([]:Str),(List.replicate ((8:Int)).toNat (0:Int)),(List.replicate ((8:Int)).toNat (0:Int)),(0:Int)⟩:Val),(0:Int))))))∧((d0==2)=false→(((d0==3)=true→(y=((⟨(3:Int),(0:Int),(0:Int),false,([]:Str),([]:List Int),([]:List Int),(0:Int)⟩:Val),(0:Int))))∧((d0==3)=false→(y=((⟨(0:Int),(0:Int),(0:Int),false,([]:Str),([]:List Int),([]:List Int),(0:Int)⟩:Val),(3:Int))))))))
set_option maxRecDepth 20000 in
set_option maxHeartbeats 4000000 in
theorem value_Least_c {L:List Nat} {w:World} (d0:Int) (hL:Lt L w) {y:Val × Int} (h:value_Least_raw d0 y) :
  Calls Try.prog 15 [.int .i64 d0].toArray w (Ret fun v w'=>Ext w w'∧∃ (cs90:List Value),v=.tuple #[.agg cs90.toArray,.int .i64 y.2]∧Stb L w' (fun w=>kVal.r w cs90 y.1)):=by
 unfold value_Least_raw at h
 refine calls_ec Try.func15 rfl rfl rfl ?_
 refine ec_sr ?_
 refine o_alloc zero_api_Value rfl rfl rfl ?_
 intro b1 w1 e1 F1 B1
 have n1:w.heap.size≤b1:=Nat.le_of_eq e1.symm
 refine o_w (v:=.int .i64 0) (r_asg rfl) ?_
 refine eo_r ?_
 refine o_w (v:=.int .i64 d0) (r_mov rfl) ?_
 refine o_inl (vs:=[.int .i64 d0]) (caps:=[]) cf_value_kinds rfl rfl rfl rfl ?_
 refine calls_ec Try.func27 rfl rfl rfl ?_
 refine ec_sr ?_
 refine o_w (v:=.nilIface) (r_asg rfl) ?_
 refine o_w (v:=.bool false) (r_asg rfl) ?_
 refine eo_nil_sq ?_
 refine ec_seq ?_
 refine ec_sr ?_
 refine o_w (v:=.int .i64 d0) (r_mov rfl) ?_
 refine eo_nil_sq ?_
 refine ec_block ?_
 refine ec_sr ?_
 refine o_w (v:=.bool (d0==1)) (r_int rfl rfl rfl) ?_
 refine o_w (v:=.bool (d0==1)) (r_asg rfl) ?_
 refine eo_nil_sq ?_
 refine ec_cond rfl (fun hc2=>?_) (fun hc2=>?_)
 ·replace h:=h.1 hc2
  refine ec_sr ?_
  refine o_w (v:=.agg #[]) (r_build bld_value_register (vs:=[]) (cells:=[]) rfl rfl) ?_
  refine o_w (v:=.iface 53 (.agg #[])) (r_mkif conc_value_register rfl) ?_
  refine o_w (v:=.iface 53 (.agg #[])) (r_asg rfl) ?_
  refine o_w (v:=.bool true) (r_asg rfl) ?_
  refine eo_nil_sq ?_
  refine ec_ret ?_
  refine blk_ret ?_
  refine sq_ret ?_
  refine end2 (v:=.iface 53 (.agg #[])) (x:=.bool true) rfl rfl ⟨_,rfl,?_⟩
  refine o_w (v:=.tuple #[.iface 53 (.agg #[]),.bool true]) (r_mov rfl) ?_
  refine o_w (v:=.iface 53 (.agg #[])) (r_ext rfl rfl) ?_
  refine o_w (v:=.bool true) (r_ext rfl rfl) ?_
  refine o_w (v:=.iface 53 (.agg #[])) (r_asg rfl) ?_
  refine o_w (v:=.bool true) (r_asg rfl) ?_
  refine eo_nil_sq ?_
  refine ec_seq ?_
  refine ec_sr ?_
  refine o_w (v:=.bool true) (r_mov rfl) ?_
  refine o_w (r_not rfl) ?_
  refine eo_nil_sq ?_
  refine ec_condF rfl rfl ?_
  refine ec_skip ?_
  refine sq_n ?_
  refine ec_sr ?_
  refine o_w (v:=.iface 53 (.agg #[])) (r_mov rfl) ?_
  refine o_inlI (vs:=[]) mf_value_register_ouroboros_value_least rfl rfl rfl rfl ?_
  refine calls_ec Try.func51 rfl rfl rfl ?_
  refine ec_sr ?_
  refine o_box (cs:=[]) rfl rfl rfl ?_
  intro b3 w3 e3 F3 B3
  have E4:=F1.trans F3
  refine o_alloc zero_api_Value rfl rfl rfl ?_
  intro b6 w6 e6 F6 B6
  have n6:w.heap.size≤b6:=by rw [e6]; exact E4.size
  have q7:b1<b6:=by rw [e6]; exact (B1.ex F3).lt
  have E9:=E4.trans F6
  refine eo_r ?_
  refine o_w (v:=.agg #[.int .i64 1,.int .i64 0,.int .i64 0,.bool false,str [],.slice none ([]:List Int).length 0,.slice none ([]:List Int).length 0,.int .u64 0]) (r_build bld_api_Value (vs:=[(0,.int .i64 1)]) (cells:=[.int .i64 1,.int .i64 0,.int .i64 0,.bool false,str [],.slice none ([]:List Int).length 0,.slice none ([]:List Int).length 0,.int .u64 0]) rfl rfl) ?_
  refine o_store rfl B6 (vs:=[.int .i64 1,.int .i64 0,.int .i64 0,.bool false,str [],.slice none ([]:List Int).length 0,.slice none ([]:List Int).length 0,.int .u64 0]) rfl sz_api_Value rfl rfl rfl ?_
  intro w12 F12 B12
  have E13:=Ext.st E9 F12 (by simp; omega)
  have B15:=((B1.ex F3).ex F6).fr F12 (by simp; omega)
  have B12':Blk w12 b6 _ [.int .i64 1,.int .i64 0,.int .i64 0,.bool false,str [],.slice none ([]:List Int).length 0,.slice none ([]:List Int).length 0,.int .u64 0]:=B12
  refine eo_nil_sq ?_
  refine ec_ret ?_
  refine endr1 (v:=.agg #[.int .i64 1,.int .i64 0,.int .i64 0,.bool false,str [],.slice none ([]:List Int).length 0,.slice none ([]:List Int).length 0,.int .u64 0]) (rv_a rfl (agg_api_Value) B12' (vs:=[.int .i64 1,.int .i64 0,.int .i64 0,.bool false,str [],.slice none ([]:List Int).length 0,.slice none ([]:List Int).length 0,.int .u64 0]) rfl rfl) ⟨_,rfl,?_⟩
  refine o_store rfl B15 (vs:=[.int .i64 1,.int .i64 0,.int .i64 0,.bool false,str [],.slice none ([]:List Int).length 0,.slice none ([]:List Int).length 0,.int .u64 0]) rfl sz_api_Value rfl rfl rfl ?_
  intro w16 F16 B16
  have E17:=Ext.st E13 F16 (by simp; omega)
  have B16':Blk w16 b1 _ [.int .i64 1,.int .i64 0,.int .i64 0,.bool false,str [],.slice none ([]:List Int).length 0,.slice none ([]:List Int).length 0,.int .u64 0]:=B16
  refine o_w (v:=.int .i64 0) (r_asg rfl) ?_
  refine eo_nil_sq ?_
  refine ec_ret ?_
  subst h
  exact (endr2 (rv_a rfl (agg_api_Value) B16' (vs:=[.int .i64 1,.int .i64 0,.int .i64 0,.bool false,str [],.slice none ([]:List Int).length 0,.slice none ([]:List Int).length 0,.int .u64 0]) rfl rfl) (rv_t rfl) ⟨_,rfl,E17,_,rfl,(kVal_mk (d:=(⟨(1:Int),(0:Int),(0:Int),false,([]:Str),([]:List Int),([]:List Int),(0:Int)⟩:Val)) stb_nil stb_nil)⟩)
 ·replace h:=h.2 hc2
  refine ec_sr ?_
  refine o_w (v:=.bool (d0==2)) (r_int rfl rfl rfl) ?_
  refine o_w (v:=.bool (d0==2)) (r_asg rfl) ?_
  refine eo_nil_sq ?_
  refine ec_cond rfl (fun hc20=>?_) (fun hc20=>?_)
  ·replace h:=h.1 hc20
   refine ec_sr ?_
   refine o_w (v:=.agg #[]) (r_build bld_value_counter (vs:=[]) (cells:=[]) rfl rfl) ?_
   refine o_w (v:=.iface 54 (.agg #[])) (r_mkif conc_value_counter rfl) ?_
   refine o_w (v:=.iface 54 (.agg #[])) (r_asg rfl) ?_
   refine o_w (v:=.bool true) (r_asg rfl) ?_
   refine eo_nil_sq ?_
   refine ec_ret ?_
   refine blk_ret ?_
   refine sq_ret ?_
   refine end2 (v:=.iface 54 (.agg #[])) (x:=.bool true) rfl rfl ⟨_,rfl,?_⟩
   refine o_w (v:=.tuple #[.iface 54 (.agg #[]),.bool true]) (r_mov rfl) ?_
   refine o_w (v:=.iface 54 (.agg #[])) (r_ext rfl rfl) ?_
   refine o_w (v:=.bool true) (r_ext rfl rfl) ?_
   refine o_w (v:=.iface 54 (.agg #[])) (r_asg rfl) ?_
   refine o_w (v:=.bool true) (r_asg rfl) ?_
   refine eo_nil_sq ?_
   refine ec_seq ?_
   refine ec_sr ?_
   refine o_w (v:=.bool true) (r_mov rfl) ?_
   refine o_w (r_not rfl) ?_
   refine eo_nil_sq ?_
   refine ec_condF rfl rfl ?_
   refine ec_skip ?_
   refine sq_n ?_
   refine ec_sr ?_
   refine o_w (v:=.iface 54 (.agg #[])) (r_mov rfl) ?_
   refine o_inlI (vs:=[]) mf_value_counter_ouroboros_value_least rfl rfl rfl rfl ?_
   refine calls_ec Try.func62 rfl rfl rfl ?_
   refine ec_sr ?_
   refine o_box (cs:=[]) rfl rfl rfl ?_
   intro b21 w21 e21 F21 B21
   have E22:=F1.trans F21
   refine o_alloc zero_api_Value rfl rfl rfl ?_
   intro b24 w24 e24 F24 B24
   have n24:w.heap.size≤b24:=by rw [e24]; exact E22.size
   have q25:b1<b24:=by rw [e24]; exact (B1.ex F21).lt
   have E27:=E22.trans F24
   refine eo_nil_sq ?_
   refine ec_seq ?_
   obtain ⟨ha32,h⟩:=h
   obtain ⟨ha34,h⟩:=h
   have qb30_b24:b24<w24.heap.size:=B24.lt
   refine ec_anyN (by kernel_rfl) [[],[],[0,1],[0,1,2]] [3,4,5] (b24::[]) [3] [[b24]] [[3]] [fun w'=>Blk w' b24 25 [.int .i64 0,.int .i64 0,.int .i64 0,.bool false,str [],.slice none ([]:List Int).length 0,.slice none ([]:List Int).length 0,.int .u64 0],fun w'=>∃ A31 c31 A33 c33,Stb (b24::(b1::L)) w' (fun w=>SlC (kI .i64) w A31 c31 (List.replicate ((8:Int)).toNat (0:Int)))∧Stb (b24::(b1::L)) w' (fun w=>SlC (kI .i64) w A33 c33 (List.replicate ((8:Int)).toNat (0:Int)))∧Blk w' b24 25 [.int .i64 2,.int .i64 0,.int .i64 0,.bool false,str [],.slice A31 (List.replicate ((8:Int)).toNat (0:Int)).length c31,.slice A33 (List.replicate ((8:Int)).toNat (0:Int)).length c33,.int .u64 0]] [fun v w'=>∃ A31 c31,v=(.slice A31 (List.replicate ((8:Int)).toNat (0:Int)).length c31:Value)∧Stb (b24::(b1::L)) w' (fun w=>SlC (kI .i64) w A31 c31 (List.replicate ((8:Int)).toNat (0:Int))),fun v w'=>∃ A33 c33,v=(.slice A33 (List.replicate ((8:Int)).toNat (0:Int)).length c33:Value)∧Stb (b24::(b1::L)) w' (fun w=>SlC (kI .i64) w A33 c33 (List.replicate ((8:Int)).toNat (0:Int))),fun v w'=>∃ A31 c31 A33 c33,v=(.agg #[.int .i64 2,.int .i64 0,.int .i64 0,.bool false,str [],.slice A31 (List.replicate ((8:Int)).toNat (0:Int)).length c31,.slice A33 (List.replicate ((8:Int)).toNat (0:Int)).length c33,.int .u64 0]:Value)∧Stb (b24::(b1::L)) w' (fun w=>SlC (kI .i64) w A31 c31 (List.replicate ((8:Int)).toNat (0:Int)))∧Stb (b24::(b1::L)) w' (fun w=>SlC (kI .i64) w A33 c33 (List.replicate ((8:Int)).toNat (0:Int))),fun _ _=>True] (by kernel_rfl) (allM1 (fun m hm=>by first | exact hm | (simp at hm ⊢; simp [hm]; done) | simp_all) (fun _ h=>by cases h)) ⟨fun _ v w' w'' F h=>by obtain ⟨A31,c31,hv,H31⟩:=h; exact ⟨A31,c31,hv,(H31.ex F)⟩,fun _ v w' w'' F h=>by obtain ⟨A33,c33,hv,H33⟩:=h; exact ⟨A33,c33,hv,(H33.ex F)⟩,fun _ v w' w'' F h=>by obtain ⟨A31,c31,A33,c33,hv,H31,H33⟩:=h; exact ⟨A31,c31,A33,c33,hv,(H31.ex F),(H33.ex F)⟩,fun _ _ _ _ _ h=>h,trivial⟩ ⟨⟨fun _ v w' w'' F h=>by obtain ⟨A31,c31,hv,H31⟩:=h; exact ⟨A31,c31,hv,(H31.fr F (by simp))⟩,fun _ v w' w'' F h=>by obtain ⟨A33,c33,hv,H33⟩:=h; exact ⟨A33,c33,hv,(H33.fr F (by simp))⟩,fun _ v w' w'' F h=>by obtain ⟨A31,c31,A33,c33,hv,H31,H33⟩:=h; exact ⟨A31,c31,A33,c33,hv,(H31.fr F (by simp)),(H33.fr F (by simp))⟩,(fun h=>absurd h (by decide)),trivial⟩,trivial⟩ ⟨fun w' w'' F h=>by have hB30_b24:=h; exact (hB30_b24.ex F),fun w' w'' F h=>by obtain ⟨A31,c31,A33,c33,H31,H33,hB30_b24⟩:=h; exact ⟨A31,c31,A33,c33,(H31.ex F),(H33.ex F),(hB30_b24.ex F)⟩,trivial⟩ B24 ?_ ?_ ?_
   ·refine ⟨?_,?_,?_,?_,trivial⟩
    ·intro _ ρ w30o F30o hX hS hρ
     have F30o:=hX 3 rfl rfl
     have E35:=E27.trans F30o
     refine o_make1 (k:=(kI .i64)) slc_s_int rfl rfl (z:=(0:Int)) (fun _=>rfl) rfl rfl ha32 (((hL.fr E35).cons (((B1.ex F21).ex F24).ex F30o).lt).cons (B24.ex F30o).lt) rfl rfl (by decide) ?_
     intro A c w' F H
     exact eo_nil ⟨rfl,rfl,_,rfl,F,A,c,rfl,H⟩
    ·intro _ ρ w30o F30o hX hS hρ
     have F30o:=hX 3 rfl rfl
     have E39:=E27.trans F30o
     refine o_make1 (k:=(kI .i64)) slc_s_int rfl rfl (z:=(0:Int)) (fun _=>rfl) rfl rfl ha34 (((hL.fr E39).cons (((B1.ex F21).ex F24).ex F30o).lt).cons (B24.ex F30o).lt) rfl rfl (by decide) ?_
     intro A c w' F H
     exact eo_nil ⟨rfl,rfl,_,rfl,F,A,c,rfl,H⟩
    ·intro _ ρ w30o F30o hX hS hρ
     have F30o:=hX 3 rfl rfl
     obtain ⟨A31,c31,q3,H31⟩:=hS 0 (by decide) 3 rfl
     obtain ⟨A33,c33,q4,H33⟩:=hS 1 (by decide) 4 rfl
     exact o_q (r_build bld_api_Value (vs:=[(0,.int .i64 2),(5,.slice A31 (List.replicate ((8:Int)).toNat (0:Int)).length c31),(6,.slice A33 (List.replicate ((8:Int)).toNat (0:Int)).length c33)]) (cells:=[.int .i64 2,.int .i64 0,.int .i64 0,.bool false,str [],.slice A31 (List.replicate ((8:Int)).toNat (0:Int)).length c31,.slice A33 (List.replicate ((8:Int)).toNat (0:Int)).length c33,.int .u64 0]) (by simp only [List.map,ev,q3,q4]) rfl) ⟨Fr.refl _ _,⟨A31,c31,A33,c33,rfl,H31,H33⟩⟩
    ·intro hT; exact absurd hT (by decide)
   ·refine ⟨⟨_,rfl,?_⟩,trivial⟩
    ·intro ρ w30o F30o hX hI hS hρ
     have hB30_b24:=hI
     have q2:ρ 2=.pointer (some ⟨b24,0,none⟩):=hρ 2 (by kernel_rfl)
     obtain ⟨A31,c31,A33,c33,q5,H31,H33⟩:=hS 2 (by decide) 5 rfl
     refine o_store (show ev ρ _=_ from q2) hB30_b24 (vs:=[.int .i64 2,.int .i64 0,.int .i64 0,.bool false,str [],.slice A31 (List.replicate ((8:Int)).toNat (0:Int)).length c31,.slice A33 (List.replicate ((8:Int)).toNat (0:Int)).length c33,.int .u64 0]) (congrArg Value.cells q5) sz_api_Value rfl rfl rfl ?_
     intro w' F B2
     exact eo_nil ⟨rfl,rfl,undef,rfl,F,⟨A31,c31,A33,c33,(H31.fr F (by simp)),(H33.fr F (by simp)),B2⟩,trivial⟩
   ·intro ρ w30 F30 hI hS hρ
    obtain ⟨A31,c31,A33,c33,H31,H33,hB30_b24⟩:=hI
    obtain ⟨ρ',rfl⟩:∃ ρ',ρ=envs (ovr [3,4,5] ρ' _) []:=⟨ρ,ovr_self hρ trivial⟩
    have E47:Ext w w30:=Ext.st E27 F30 (upc n24 (fun m hm=>by cases hm))
    have B49:=((B1.ex F21).ex F24).fr F30 (fun hm=>(show ∀ m∈_,m≠b1 from (upc (by omega) (fun m hm=>by cases hm))) _ hm rfl)
    have Z30:=Fr.refl (b24::(b1::L)) w30
    refine sq_n ?_
    refine ec_ret ?_
    refine endr1 (v:=.agg #[.int .i64 2,.int .i64 0,.int .i64 0,.bool false,str [],.slice A31 (List.replicate ((8:Int)).toNat (0:Int)).length c31,.slice A33 (List.replicate ((8:Int)).toNat (0:Int)).length c33,.int .u64 0]) (rv_a rfl (agg_api_Value) hB30_b24 (vs:=[.int .i64 2,.int .i64 0,.int .i64 0,.bool false,str [],.slice A31 (List.replicate ((8:Int)).toNat (0:Int)).length c31,.slice A33 (List.replicate ((8:Int)).toNat (0:Int)).length c33,.int .u64 0]) rfl rfl) ⟨_,rfl,?_⟩
    refine o_store rfl B49 (vs:=[.int .i64 2,.int .i64 0,.int .i64 0,.bool false,str [],.slice A31 (List.replicate ((8:Int)).toNat (0:Int)).length c31,.slice A33 (List.replicate ((8:Int)).toNat (0:Int)).length c33,.int .u64 0]) rfl sz_api_Value rfl rfl rfl ?_
    intro w50 F50 B50
    have E51:=Ext.st E47 F50 (by simp; omega)
    have G53:Fr (b24::(b1::L)) w30 w50:=Z30.stp F50 (upc (.inl (mT mH)) (fun m hm=>by cases hm))
    have B50':Blk w50 b1 _ [.int .i64 2,.int .i64 0,.int .i64 0,.bool false,str [],.slice A31 (List.replicate ((8:Int)).toNat (0:Int)).length c31,.slice A33 (List.replicate ((8:Int)).toNat (0:Int)).length c33,.int .u64 0]:=B50
    refine o_w (v:=.int .i64 0) (r_asg rfl) ?_
    refine eo_nil_sq ?_
    refine ec_ret ?_
    subst h
    exact (endr2 (rv_a rfl (agg_api_Value) B50' (vs:=[.int .i64 2,.int .i64 0,.int .i64 0,.bool false,str [],.slice A31 (List.replicate ((8:Int)).toNat (0:Int)).length c31,.slice A33 (List.replicate ((8:Int)).toNat (0:Int)).length c33,.int .u64 0]) rfl rfl) (rv_t rfl) ⟨_,rfl,E51,_,rfl,(kVal_mk (d:=(⟨(2:Int),(0:Int),(0:Int),false,([]:Str),(List.replicate ((8:Int)).toNat (0:Int)),(List.replicate ((8:Int)).toNat (0:Int)),(0:Int)⟩:Val)) (H31.up G53 sI (fun m hm=>Or.inl (mT (mT hm)))) (H33.up G53 sI (fun m hm=>Or.inl (mT (mT hm)))))⟩)
  ·replace h:=h.2 hc20
   refine ec_sr ?_
   refine o_w (v:=.bool (d0==3)) (r_int rfl rfl rfl) ?_
   refine o_w (v:=.bool (d0==3)) (r_asg rfl) ?_
   refine eo_nil_sq ?_
   refine ec_cond rfl (fun hc55=>?_) (fun hc55=>?_)
   ·replace h:=h.1 hc55
    refine ec_sr ?_
    refine o_w (v:=.agg #[]) (r_build bld_value_flags (vs:=[]) (cells:=[]) rfl rfl) ?_
    refine o_w (v:=.iface 55 (.agg #[])) (r_mkif conc_value_flags rfl) ?_
    refine o_w (v:=.iface 55 (.agg #[])) (r_asg rfl) ?_
    refine o_w (v:=.bool true) (r_asg rfl) ?_
    refine eo_nil_sq ?_
    refine ec_ret ?_
    refine blk_ret ?_
    refine sq_ret ?_
    refine end2 (v:=.iface 55 (.agg #[])) (x:=.bool true) rfl rfl ⟨_,rfl,?_⟩
    refine o_w (v:=.tuple #[.iface 55 (.agg #[]),.bool true]) (r_mov rfl) ?_
    refine o_w (v:=.iface 55 (.agg #[])) (r_ext rfl rfl) ?_
    refine o_w (v:=.bool true) (r_ext rfl rfl) ?_
    refine o_w (v:=.iface 55 (.agg #[])) (r_asg rfl) ?_
    refine o_w (v:=.bool true) (r_asg rfl) ?_
    refine eo_nil_sq ?_
    refine ec_seq ?_
    refine ec_sr ?_
    refine o_w (v:=.bool true) (r_mov rfl) ?_
    refine o_w (r_not rfl) ?_
    refine eo_nil_sq ?_
    refine ec_condF rfl rfl ?_
    refine ec_skip ?_
    refine sq_n ?_
    refine ec_sr ?_
    refine o_w (v:=.iface 55 (.agg #[])) (r_mov rfl) ?_
    refine o_inlI (vs:=[]) mf_value_flags_ouroboros_value_least rfl rfl rfl rfl ?_
    refine calls_ec Try.func70 rfl rfl rfl ?_
    refine ec_sr ?_
    refine o_box (cs:=[]) rfl rfl rfl ?_
    intro b56 w56 e56 F56 B56
    have E57:=F1.trans F56
    refine o_alloc zero_api_Value rfl rfl rfl ?_
    intro b59 w59 e59 F59 B59
    have n59:w.heap.size≤b59:=by rw [e59]; exact E57.size
    have q60:b1<b59:=by rw [e59]; exact (B1.ex F56).lt
    have E62:=E57.trans F59
    refine eo_r ?_
    refine o_w (v:=.agg #[.int .i64 3,.int .i64 0,.int .i64 0,.bool false,str [],.slice none ([]:List Int).length 0,.slice none ([]:List Int).length 0,.int .u64 0]) (r_build bld_api_Value (vs:=[(0,.int .i64 3)]) (cells:=[.int .i64 3,.int .i64 0,.int .i64 0,.bool false,str [],.slice none ([]:List Int).length 0,.slice none ([]:List Int).length 0,.int .u64 0]) rfl rfl) ?_
    refine o_store rfl B59 (vs:=[.int .i64 3,.int .i64 0,.int .i64 0,.bool false,str [],.slice none ([]:List Int).length 0,.slice none ([]:List Int).length 0,.int .u64 0]) rfl sz_api_Value rfl rfl rfl ?_
    intro w65 F65 B65
    have E66:=Ext.st E62 F65 (by simp; omega)
    have B68:=((B1.ex F56).ex F59).fr F65 (by simp; omega)
    have B65':Blk w65 b59 _ [.int .i64 3,.int .i64 0,.int .i64 0,.bool false,str [],.slice none ([]:List Int).length 0,.slice none ([]:List Int).length 0,.int .u64 0]:=B65
    refine eo_nil_sq ?_
    refine ec_ret ?_
    refine endr1 (v:=.agg #[.int .i64 3,.int .i64 0,.int .i64 0,.bool false,str [],.slice none ([]:List Int).length 0,.slice none ([]:List Int).length 0,.int .u64 0]) (rv_a rfl (agg_api_Value) B65' (vs:=[.int .i64 3,.int .i64 0,.int .i64 0,.bool false,str [],.slice none ([]:List Int).length 0,.slice none ([]:List Int).length 0,.int .u64 0]) rfl rfl) ⟨_,rfl,?_⟩
    refine o_store rfl B68 (vs:=[.int .i64 3,.int .i64 0,.int .i64 0,.bool false,str [],.slice none ([]:List Int).length 0,.slice none ([]:List Int).length 0,.int .u64 0]) rfl sz_api_Value rfl rfl rfl ?_
    intro w69 F69 B69
    have E70:=Ext.st E66 F69 (by simp; omega)
    have B69':Blk w69 b1 _ [.int .i64 3,.int .i64 0,.int .i64 0,.bool false,str [],.slice none ([]:List Int).length 0,.slice none ([]:List Int).length 0,.int .u64 0]:=B69
    refine o_w (v:=.int .i64 0) (r_asg rfl) ?_
    refine eo_nil_sq ?_
    refine ec_ret ?_
    subst h
    exact (endr2 (rv_a rfl (agg_api_Value) B69' (vs:=[.int .i64 3,.int .i64 0,.int .i64 0,.bool false,str [],.slice none ([]:List Int).length 0,.slice none ([]:List Int).length 0,.int .u64 0]) rfl rfl) (rv_t rfl) ⟨_,rfl,E70,_,rfl,(kVal_mk (d:=(⟨(3:Int),(0:Int),(0:Int),false,([]:Str),([]:List Int),([]:List Int),(0:Int)⟩:Val)) stb_nil stb_nil)⟩)
   ·replace h:=h.2 hc55
    refine ec_skip ?_
    refine blk_n ?_
    refine sq_n ?_
    refine ec_sr ?_
    refine o_w (v:=.nilIface) (r_asg rfl) ?_
    refine o_w (v:=.bool false) (r_asg rfl) ?_
    refine eo_nil_sq ?_
    refine ec_ret ?_
    refine end2 (v:=.nilIface) (x:=.bool false) rfl rfl ⟨_,rfl,?_⟩
    refine o_w (v:=.tuple #[.nilIface,.bool false]) (r_mov rfl) ?_
    refine o_w (v:=.nilIface) (r_ext rfl rfl) ?_
    refine o_w (v:=.bool false) (r_ext rfl rfl) ?_
    refine o_w (v:=.nilIface) (r_asg rfl) ?_
    refine o_w (v:=.bool false) (r_asg rfl) ?_
    refine eo_nil_sq ?_
    refine ec_seq ?_
    refine ec_sr ?_
    refine o_w (v:=.bool false) (r_mov rfl) ?_
    refine o_w (r_not rfl) ?_
    refine eo_nil_sq ?_
    refine ec_condT rfl rfl ?_
    refine ec_sr ?_
    refine o_w (v:=.agg #[.int .i64 0,.int .i64 0,.int .i64 0,.bool false,str [],.slice none ([]:List Int).length 0,.slice none ([]:List Int).length 0,.int .u64 0]) (r_build bld_api_Value (vs:=[]) (cells:=[.int .i64 0,.int .i64 0,.int .i64 0,.bool false,str [],.slice none ([]:List Int).length 0,.slice none ([]:List Int).length 0,.int .u64 0]) rfl rfl) ?_
    refine o_store rfl B1 (vs:=[.int .i64 0,.int .i64 0,.int .i64 0,.bool false,str [],.slice none ([]:List Int).length 0,.slice none ([]:List Int).length 0,.int .u64 0]) rfl sz_api_Value rfl rfl rfl ?_
    intro w73 F73 B73
    have E74:=Ext.st F1 F73 (by simp; omega)
    have B73':Blk w73 b1 _ [.int .i64 0,.int .i64 0,.int .i64 0,.bool false,str [],.slice none ([]:List Int).length 0,.slice none ([]:List Int).length 0,.int .u64 0]:=B73
    refine o_w (v:=.int .i64 3) (r_asg rfl) ?_
    refine eo_nil_sq ?_
    refine ec_ret ?_
    refine sq_ret ?_
    subst h
    exact (endr2 (rv_a rfl (agg_api_Value) B73' (vs:=[.int .i64 0,.int .i64 0,.int .i64 0,.bool false,str [],.slice none ([]:List Int).length 0,.slice none ([]:List Int).length 0,.int .u64 0]) rfl rfl) (rv_t rfl) ⟨_,rfl,E74,_,rfl,(kVal_mk (d:=(⟨(0:Int),(0:Int),(0:Int),false,([]:Str),([]:List Int),([]:List Int),(0:Int)⟩:Val)) stb_nil stb_nil)⟩)
def value_Sum_b15 (d0:Val) (s15:Int × Int) (z15:(Int × Int) ⊕ (Int × Int)):Prop :=
 ((decide (s15.2<8))=true→((0≤s15.2∧s15.2<(d0.plus.length:Int))∧((0≤s15.2∧s15.2<(d0.minus.length:Int))∧(z15=.inl ((IntKind.i64.wrap (s15.1 + (IntKind.i64.wrap ((nth d0.plus s15.2) - (nth d0.minus s15.2))))),(IntKind.i64.wrap (s15.2 + (1:Int))))))))∧((decide (s15.2<8))=false→(z15=.inr (s15.1,s15.2)))
def value_Sum_raw (d0:Val) (y:Int):Prop :=
 ∃ x10,((!(d0.kind != (2:Int)))=true→value_Check_raw d0 x10)∧((((d0.kind != (2:Int))||(x10 != (0:Int)))=true→(y=(0:Int)))∧(((d0.kind != (2:Int))||(x10 != (0:Int)))=false→(∃ x15,LoopR (value_Sum_b15 d0) ((0:Int),(0:Int)) x15∧(y=x15.1))))
set_option maxRecDepth 20000 in
set_option maxHeartbeats 4000000 in
theorem value_Sum_c {L:List Nat} {w:World} {csP0:List Value} (d0:Val) (HP0:Stb L w (fun w=>kVal.r w csP0 d0)) (hL:Lt L w) {y:Int} (h:value_Sum_raw d0 y) :
  Calls Try.prog 23 [.agg csP0.toArray].toArray w (Ret fun v w'=>Ext w w'∧v=.int .i64 y):=by
 obtain ⟨A1,c2,A4,c5,rfl,H3,H6⟩:=kVal_open HP0
 unfold value_Sum_raw at h
 refine calls_ec Try.func23 rfl rfl rfl ?_
 refine ec_sr ?_
 refine o_box (cs:=(cVal d0 A1 c2 A4 c5)) rfl rfl rfl ?_
 intro b7 w7 e7 F7 B7
 have S7:=B7.stb (nin hL e7)
 have G8:Fr L w w7:=Fr.ext F7
 refine o_w (v:=.int .i64 0) (r_asg rfl) ?_
 refine eo_nil_sq ?_
 refine ec_seq ?_
 refine ec_sr ?_
 refine o_w (v:=.pointer (some ⟨b7,0,none⟩)) (r_fa fld_api_Value_0 rfl rfl) ?_
 refine o_w (v:=.int .i64 d0.kind) (r_ld one_int rfl (S7.now.cell rfl)) ?_
 refine o_w (v:=.bool (d0.kind != (2:Int))) (r_int rfl rfl rfl) ?_
 refine o_w (v:=.bool (d0.kind != (2:Int))) (r_mov rfl) ?_
 refine o_vg (v:=.agg (cVal d0 A1 c2 A4 c5).toArray) (want_cf (t:=8) rfl rfl) (fun hk=>(r_lda agg_api_Value rfl (vs:=(cVal d0 A1 c2 A4 c5)) rfl (S7.now.part (n:=8) rfl))) rfl rfl ?_
 obtain ⟨x10,hx10,h⟩:=h
 refine o_callg (V:=.int .i64 x10) cf_value_Check (want_cf (t:=8) rfl rfl) (fun hk=>(mapv1 (gdT hk))) (fun hk=>(value_Check_c d0 (kVal_mk (d:=d0) (H3.fr G8 sI) (H6.fr G8 sI)) (hL.fr F7) (hx10 hk))) rfl ?_
 intro w10 F10
 have E11:=F7.trans F10
 have G13:Fr L w7 w10:=Fr.ext F10
 refine o_vg (v:=.bool (x10 != (0:Int))) (want_cf (t:=8) rfl rfl) (fun hk=>(r_int (gdT hk) rfl rfl)) rfl rfl ?_
 refine o_w (v:=.bool ((d0.kind != (2:Int))||(x10 != (0:Int)))) (r_pickOr rfl rfl (fun hf=>(gdT (notT hf)))) ?_
 refine eo_nil_sq ?_
 refine ec_cond rfl (fun hc14=>?_) (fun hc14=>?_)
 ·replace h:=h.1 hc14
  refine ec_sr ?_
  refine o_w (v:=.int .i64 0) (r_asg rfl) ?_
  refine eo_nil_sq ?_
  refine ec_ret ?_
  refine sq_ret ?_
  subst h
  exact (end1 rfl ⟨_,rfl,E11,rfl⟩)
 ·replace h:=h.2 hc14
  refine ec_skip ?_
  refine sq_n ?_
  refine ec_sr ?_
  refine o_w (v:=.int .i64 0) (r_asg rfl) ?_
  refine eo_nil_sq ?_
  refine ec_seq ?_
  refine ec_sr ?_
  refine o_w (v:=.int .i64 0) (r_mov rfl) ?_
  refine eo_nil_sq ?_
  refine ec_block ?_
  obtain ⟨x15,hl15,h⟩:=h
  refine ec_loopE 0 (I:=(fun (s15:Int × Int) ρ ds w'=>∃ (ρ':Env),ρ=envs ρ' [(3,.int .i64 s15.1),(13,.int .i64 s15.2),(1,.pointer (some ⟨b7,0,none⟩))]∧ds=[]∧Fr L w10 w'∧Ext w w')) ?_ hl15 ?_ ?_
  ·intro s15 z15 ρ15 ds15 w15r hI15 hb15
   obtain ⟨ρ15r,rfl,rfl,F15r,E15r⟩:=hI15
   have h:=hb15
   unfold value_Sum_b15 at h
   have G16:Fr L w w15r:=(G8.trans (Fr.ext F10)).stp F15r (fun _ h=>.inl h)
   have G17:Fr L w7 w15r:=G13.stp F15r (fun _ h=>.inl h)
   refine ec_sr ?_
   refine o_w (v:=.bool (decide (s15.2<8))) (r_int rfl rfl rfl) ?_
   refine eo_nil_sq ?_
   refine ec_seq ?_
   refine ec_cond rfl (fun hc18=>?_) (fun hc18=>?_)
   ·replace h:=h.1 hc18
    refine ec_skip ?_
    refine sq_n ?_
    refine ec_seq ?_
    refine ec_block ?_
    refine ec_sr ?_
    refine o_w (v:=.int .i64 s15.2) (r_mov rfl) ?_
    refine o_w (v:=.int .i64 s15.2) (r_asg rfl) ?_
    refine eo_nil_sq ?_
    obtain ⟨ha28,h⟩:=h
    obtain ⟨cs29,l31,H30⟩:=Stb.elem (by decide) (H3.fr G16 sI) s15.2 ha28.1 ha28.2
    obtain ⟨rfl,H30'⟩:=kI_open2 H30
    obtain ⟨ha32,h⟩:=h
    obtain ⟨cs33,l35,H34⟩:=Stb.elem (by decide) (H6.fr G16 sI) s15.2 ha32.1 ha32.2
    obtain ⟨rfl,H34'⟩:=kI_open2 H34
    refine ec_any0 (by kernel_rfl) [[],[],[1],[],[1,2,3],[1,2,3,4],[],[6],[],[6,7,8],[6,7,8,9],[1,2,3,4,5,6,7,8,9,10],[0,1,2,3,4,5,6,7,8,9,10,11],[0,1,2,3,4,5,6,7,8,9,10,11,12]] [3,16,17,18,19,20,21,22,23,24,25,26,27,28] [fun v _=>v=(.int .i64 s15.1:Value),fun v _=>v=(.pointer (some ⟨b7,5,none⟩):Value),fun v _=>v=(.slice A1 d0.plus.length c2:Value),fun v _=>v=(.int .i64 s15.2:Value),fun v _=>v=(.pointer (some (elemA A1 (kI .i64).n s15.2.toNat)):Value),fun v _=>v=(.int .i64 (nth d0.plus s15.2):Value),fun v _=>v=(.pointer (some ⟨b7,6,none⟩):Value),fun v _=>v=(.slice A4 d0.minus.length c5:Value),fun v _=>v=(.int .i64 s15.2:Value),fun v _=>v=(.pointer (some (elemA A4 (kI .i64).n s15.2.toNat)):Value),fun v _=>v=(.int .i64 (nth d0.minus s15.2):Value),fun v _=>v=(.int .i64 (IntKind.i64.wrap ((nth d0.plus s15.2) - (nth d0.minus s15.2))):Value),fun v _=>v=(.int .i64 (IntKind.i64.wrap (s15.1 + (IntKind.i64.wrap ((nth d0.plus s15.2) - (nth d0.minus s15.2))))):Value),fun v _=>v=(.int .i64 (IntKind.i64.wrap (s15.1 + (IntKind.i64.wrap ((nth d0.plus s15.2) - (nth d0.minus s15.2))))):Value)] (by kernel_rfl) ⟨fun _ _ _ _ _ h=>h,fun _ _ _ _ _ h=>h,fun _ _ _ _ _ h=>h,fun _ _ _ _ _ h=>h,fun _ _ _ _ _ h=>h,fun _ _ _ _ _ h=>h,fun _ _ _ _ _ h=>h,fun _ _ _ _ _ h=>h,fun _ _ _ _ _ h=>h,fun _ _ _ _ _ h=>h,fun _ _ _ _ _ h=>h,fun _ _ _ _ _ h=>h,fun _ _ _ _ _ h=>h,fun _ _ _ _ _ h=>h,trivial⟩ ?_ ?_
    ·refine ⟨?_,?_,?_,?_,?_,?_,?_,?_,?_,?_,?_,?_,?_,?_,trivial⟩
     ·intro ρ w27o F27o hS hρ
      have q3:ρ 3=.int .i64 s15.1:=hρ 3 (by kernel_rfl)
      exact o_q (r_mov q3) ⟨Fr.refl _ _,rfl⟩
     ·intro ρ w27o F27o hS hρ
      have q1:ρ 1=.pointer (some ⟨b7,0,none⟩):=hρ 1 (by kernel_rfl)
      exact o_q (r_fa fld_api_Value_5 rfl q1) ⟨Fr.refl _ _,rfl⟩
     ·intro ρ w27o F27o hS hρ
      have q17:ρ 17=.pointer (some ⟨b7,5,none⟩):=hS 1 (by decide) 17 rfl
      exact o_q (r_ld one_s_int q17 ((S7.fr (G17.trans (Fr.ext F27o)) sI).now.cell rfl)) ⟨Fr.refl _ _,rfl⟩
     ·intro ρ w27o F27o hS hρ
      have q4:ρ 4=.int .i64 s15.2:=hρ 4 (by kernel_rfl)
      exact o_q (r_mov q4) ⟨Fr.refl _ _,rfl⟩
     ·intro ρ w27o F27o hS hρ
      have q18:ρ 18=.slice A1 d0.plus.length c2:=hS 2 (by decide) 18 rfl
      have q19:ρ 19=.int .i64 s15.2:=hS 3 (by decide) 19 rfl
      exact o_q (r_ia slc_s_int q18 q19 ((H3.fr (G16.trans (Fr.ext F27o)) sI).now.2 _ (lt_toNat ha28.1 ha28.2)).1 ha28.1 ha28.2) ⟨Fr.refl _ _,rfl⟩
     ·intro ρ w27o F27o hS hρ
      have G50:Fr L w15r w27o:=Fr.ext F27o
      have q20:ρ 20=.pointer (some (elemA A1 (kI .i64).n s15.2.toNat)):=hS 4 (by decide) 20 rfl
      exact o_q (r_ld' one_int q20 (elemA_spot _ _ _) ((H30'.fr G50 sI).now.1.at0 (elemA_spot _ _ _))) ⟨Fr.refl _ _,rfl⟩
     ·intro ρ w27o F27o hS hρ
      have q1:ρ 1=.pointer (some ⟨b7,0,none⟩):=hρ 1 (by kernel_rfl)
      exact o_q (r_fa fld_api_Value_6 rfl q1) ⟨Fr.refl _ _,rfl⟩
     ·intro ρ w27o F27o hS hρ
      have q22:ρ 22=.pointer (some ⟨b7,6,none⟩):=hS 6 (by decide) 22 rfl
      exact o_q (r_ld one_s_int q22 ((S7.fr (G17.trans (Fr.ext F27o)) sI).now.cell rfl)) ⟨Fr.refl _ _,rfl⟩
     ·intro ρ w27o F27o hS hρ
      have q4:ρ 4=.int .i64 s15.2:=hρ 4 (by kernel_rfl)
      exact o_q (r_mov q4) ⟨Fr.refl _ _,rfl⟩
     ·intro ρ w27o F27o hS hρ
      have q23:ρ 23=.slice A4 d0.minus.length c5:=hS 7 (by decide) 23 rfl
      have q24:ρ 24=.int .i64 s15.2:=hS 8 (by decide) 24 rfl
      exact o_q (r_ia slc_s_int q23 q24 ((H6.fr (G16.trans (Fr.ext F27o)) sI).now.2 _ (lt_toNat ha32.1 ha32.2)).1 ha32.1 ha32.2) ⟨Fr.refl _ _,rfl⟩
     ·intro ρ w27o F27o hS hρ
      have G65:Fr L w15r w27o:=Fr.ext F27o
      have q25:ρ 25=.pointer (some (elemA A4 (kI .i64).n s15.2.toNat)):=hS 9 (by decide) 25 rfl
      exact o_q (r_ld' one_int q25 (elemA_spot _ _ _) ((H34'.fr G65 sI).now.1.at0 (elemA_spot _ _ _))) ⟨Fr.refl _ _,rfl⟩
     ·intro ρ w27o F27o hS hρ
      have q21:ρ 21=.int .i64 (nth d0.plus s15.2):=hS 5 (by decide) 21 rfl
      have q26:ρ 26=.int .i64 (nth d0.minus s15.2):=hS 10 (by decide) 26 rfl
      exact o_q (r_int q21 q26 rfl) ⟨Fr.refl _ _,rfl⟩
     ·intro ρ w27o F27o hS hρ
      have q16:ρ 16=.int .i64 s15.1:=hS 0 (by decide) 16 rfl
      have q27:ρ 27=.int .i64 (IntKind.i64.wrap ((nth d0.plus s15.2) - (nth d0.minus s15.2))):=hS 11 (by decide) 27 rfl
      exact o_q (r_int q16 q27 rfl) ⟨Fr.refl _ _,rfl⟩
     ·intro ρ w27o F27o hS hρ
      have q28:ρ 28=.int .i64 (IntKind.i64.wrap (s15.1 + (IntKind.i64.wrap ((nth d0.plus s15.2) - (nth d0.minus s15.2))))):=hS 12 (by decide) 28 rfl
      exact o_q (r_asg q28) ⟨Fr.refl _ _,rfl⟩
    ·intro ρ w27 F27 hS hρ
     have q3:ρ 3=.int .i64 (IntKind.i64.wrap (s15.1 + (IntKind.i64.wrap ((nth d0.plus s15.2) - (nth d0.minus s15.2))))):=hS 13 3 rfl
     obtain ⟨ρ',rfl⟩:∃ ρ',ρ=envs (ovr [3,16,17,18,19,20,21,22,23,24,25,26,27,28] ρ' _) [(3,.int .i64 (IntKind.i64.wrap (s15.1 + (IntKind.i64.wrap ((nth d0.plus s15.2) - (nth d0.minus s15.2))))))]:=⟨ρ,ovr_self hρ ⟨q3,trivial⟩⟩
     have E66:=E15r.trans F27
     refine blk_n ?_
     refine sq_n ?_
     refine ec_region ?_
     refine o_w (v:=.int .i64 (IntKind.i64.wrap (s15.2 + (1:Int)))) (r_int rfl rfl rfl) ?_
     refine o_w (v:=.int .i64 (IntKind.i64.wrap (s15.2 + (1:Int)))) (r_mov rfl) ?_
     refine eo_nil ?_
     subst h
     exact lq_n ⟨_,envs_self ⟨rfl,rfl,rfl,trivial⟩,rfl,(F15r.trans (Fr.ext F27)),E66⟩
   ·replace h:=h.2 hc18
    refine ec_exit ?_
    refine sq_exit ?_
    subst h
    exact lq_x ⟨_,envs_self ⟨rfl,rfl,rfl,trivial⟩,rfl,F15r,E15r⟩
  ·exact ⟨_,envs_self ⟨rfl,rfl,rfl,trivial⟩,rfl,(Fr.refl _ _),E11⟩
  ·rintro ρ15e ds15e w15e ⟨ρ15e,rfl,rfl,F15e,E15e⟩
   refine blk_hit ?_
   refine sq_n ?_
   refine ec_sr ?_
   refine o_w (v:=.int .i64 x15.1) (r_mov rfl) ?_
   refine o_w (v:=.int .i64 x15.1) (r_asg rfl) ?_
   refine eo_nil_sq ?_
   refine ec_ret ?_
   subst h
   exact (end1 rfl ⟨_,rfl,E15e,rfl⟩)
end Go.Proofs.Ytdojgmmpcdbeoaa
