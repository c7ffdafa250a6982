/- The reference of value: what each function comes to. -/
import Derived.Test.YthhjcijhanacnaaGreatCt
namespace Go.Proofs.YthhjcijhanacnaaGreat
open Go Go.RowKit
set_option linter.unusedVariables false
set_option linter.unusedSimpArgs false
def ref01_Ints_b2 (d0:(List Int)) (d1:(List Int)) (s2:Int) (z2:(Int) ⊕ ((Int) ⊕ (Bool))):Prop :=
 ((decide (s2<(d0.length:Int)))=true→((0≤s2∧s2<(d0.length:Int))∧((0≤s2∧s2<(d1.length:Int))∧((((nth d0 s2) != (nth d1 s2))=true→(z2=.inr (.inr false)))∧(((nth d0 s2) != (nth d1 s2))=false→(z2=.inl (IntKind.i64.wrap (s2 + (1:Int)))))))))∧((decide (s2<(d0.length:Int)))=false→(z2=.inr (.inl s2)))
def ref01_Ints_raw (d0:(List Int)) (d1:(List Int)) (y:Bool):Prop :=
 (((d0.length:Int) != (d1.length:Int))=true→(y=false))∧(((d0.length:Int) != (d1.length:Int))=false→(∃ x2,LoopR (ref01_Ints_b2 d0 d1) (0:Int) x2∧(∀ sx2,x2=.inl sx2→(y=true))∧(∀ y2,x2=.inr y2→(y=y2))))
set_option maxRecDepth 20000 in
set_option maxHeartbeats 4000000 in
theorem ref01_Ints_c {L:List Nat} {w:World} {AP0:Option Addr} {cP0:Nat} (d0:(List Int)) (HP0:Stb L w (fun w=>SlC (kI .i64) w AP0 cP0 d0)) {AP1:Option Addr} {cP1:Nat} (d1:(List Int)) (HP1:Stb L w (fun w=>SlC (kI .i64) w AP1 cP1 d1)) (hL:Lt L w) {y:Bool} (h:ref01_Ints_raw d0 d1 y) :
  Calls Tryz.prog 64 [.slice AP0 d0.length cP0,.slice AP1 d1.length cP1].toArray w (Ret fun v w'=>Ext w w'∧v=.bool y):=by
 unfold ref01_Ints_raw at h
 refine calls_ec Tryz.func64 rfl rfl rfl ?_
 refine ec_seq ?_
 refine ec_region ?_
 refine o_w (v:=.bool false) (r_asg rfl) ?_
 refine eo_nil_sq ?_
 iterate 2 refine ec_seq ?_
 refine ec_region ?_
 refine o_w (v:=.slice AP0 d0.length cP0) (r_mov rfl) ?_
 refine o_w (v:=.int .i64 (d0.length:Int)) (r_len_slc un_s_int rfl) ?_
 refine o_w (v:=.slice AP1 d1.length cP1) (r_mov rfl) ?_
 refine o_w (v:=.int .i64 (d1.length:Int)) (r_len_slc un_s_int rfl) ?_
 refine o_w (v:=.bool ((d0.length:Int) != (d1.length:Int))) (r_int rfl rfl rfl) ?_
 refine eo_nil_sq ?_
 refine ec_cond rfl (fun hc1=>?_) (fun hc1=>?_)
 ·replace h:=h.1 hc1
  refine ec_seq ?_
  refine ec_region ?_
  refine o_w (v:=.bool false) (r_asg rfl) ?_
  refine eo_nil_sq ?_
  refine ec_ret ?_
  refine sq_ret ?_
  subst h
  exact (end1 rfl ⟨_,rfl,(Fr.refl _ _),rfl⟩)
 ·replace h:=h.2 hc1
  refine ec_skip ?_
  refine sq_n ?_
  iterate 2 refine ec_seq ?_
  refine ec_region ?_
  refine o_w (v:=.int .i64 0) (r_asg rfl) ?_
  refine eo_nil_sq ?_
  refine ec_block ?_
  obtain ⟨x2,hl2,h⟩:=h
  refine ec_loopER 0 (I:=(fun (s2:Int) ρ ds w'=>∃ (ρ':Env),ρ=envs ρ' [(5,.int .i64 s2),(0,.slice AP0 d0.length cP0),(1,.slice AP1 d1.length cP1)]∧ds=[]∧Fr L w w'∧Ext w w')) (J:=(fun (y':Bool) ρ ds wz=>bodyE Tryz.prog #[.tmp 4] (Ret fun v w'=>Ext w w'∧v=.bool y') .ret ρ ds wz)) ?_ hl2 ?_ ?_ ?_
  ·intro s2 z2 ρ2 ds2 w2r hI2 hb2
   obtain ⟨ρ2r,rfl,rfl,F2r,E2r⟩:=hI2
   have h:=hb2
   unfold ref01_Ints_b2 at h
   have G3:Fr L w w2r:=(Fr.refl _ _).stp F2r (fun _ h=>.inl h)
   iterate 2 refine ec_seq ?_
   refine ec_region ?_
   refine o_w (v:=.int .i64 s2) (r_mov rfl) ?_
   refine o_w (v:=.slice AP0 d0.length cP0) (r_mov rfl) ?_
   refine o_w (v:=.int .i64 (d0.length:Int)) (r_len_slc un_s_int rfl) ?_
   refine o_w (v:=.bool (decide (s2<(d0.length:Int)))) (r_int rfl rfl rfl) ?_
   refine eo_nil_sq ?_
   refine ec_cond rfl (fun hc4=>?_) (fun hc4=>?_)
   ·replace h:=h.1 hc4
    refine ec_skip ?_
    refine sq_n ?_
    refine ec_seq ?_
    refine ec_block ?_
    refine ec_seq ?_
    obtain ⟨ha14,h⟩:=h
    obtain ⟨cs15,l17,H16⟩:=Stb.elem (by decide) (HP0.fr G3 sI) s2 ha14.1 ha14.2
    obtain ⟨rfl,H16'⟩:=kI_open2 H16
    obtain ⟨ha18,h⟩:=h
    obtain ⟨cs19,l21,H20⟩:=Stb.elem (by decide) (HP1.fr G3 sI) s2 ha18.1 ha18.2
    obtain ⟨rfl,H20'⟩:=kI_open2 H20
    refine ec_any0 (by kernel_rfl) [[],[],[0,1],[0,1,2],[],[],[4,5],[4,5,6],[0,1,2,3,4,5,6,7]] [17,18,19,20,21,22,23,24,25] [fun v _=>v=(.slice AP0 d0.length cP0:Value),fun v _=>v=(.int .i64 s2:Value),fun v _=>v=(.pointer (some (elemA AP0 (kI .i64).n s2.toNat)):Value),fun v _=>v=(.int .i64 (nth d0 s2):Value),fun v _=>v=(.slice AP1 d1.length cP1:Value),fun v _=>v=(.int .i64 s2:Value),fun v _=>v=(.pointer (some (elemA AP1 (kI .i64).n s2.toNat)):Value),fun v _=>v=(.int .i64 (nth d1 s2):Value),fun v _=>v=(.bool ((nth d0 s2) != (nth d1 s2)):Value)] (by kernel_rfl) ⟨fun _ _ _ _ _ h=>h,fun _ _ _ _ _ h=>h,fun _ _ _ _ _ h=>h,fun _ _ _ _ _ h=>h,fun _ _ _ _ _ h=>h,fun _ _ _ _ _ h=>h,fun _ _ _ _ _ h=>h,fun _ _ _ _ _ h=>h,fun _ _ _ _ _ h=>h,trivial⟩ ?_ ?_
    ·refine ⟨?_,?_,?_,?_,?_,?_,?_,?_,?_,trivial⟩
     ·intro ρ w13o F13o hS hρ
      have q0:ρ 0=.slice AP0 d0.length cP0:=hρ 0 (by kernel_rfl)
      exact o_q (r_mov q0) ⟨Fr.refl _ _,rfl⟩
     ·intro ρ w13o F13o hS hρ
      have q5:ρ 5=.int .i64 s2:=hρ 5 (by kernel_rfl)
      exact o_q (r_mov q5) ⟨Fr.refl _ _,rfl⟩
     ·intro ρ w13o F13o hS hρ
      have q17:ρ 17=.slice AP0 d0.length cP0:=hS 0 (by decide) 17 rfl
      have q18:ρ 18=.int .i64 s2:=hS 1 (by decide) 18 rfl
      exact o_q (r_ia slc_s_int q17 q18 ((HP0.fr (G3.trans (Fr.ext F13o)) sI).now.2 _ (lt_toNat ha14.1 ha14.2)).1 ha14.1 ha14.2) ⟨Fr.refl _ _,rfl⟩
     ·intro ρ w13o F13o hS hρ
      have G29:Fr L w2r w13o:=Fr.ext F13o
      have q19:ρ 19=.pointer (some (elemA AP0 (kI .i64).n s2.toNat)):=hS 2 (by decide) 19 rfl
      exact o_q (r_ld' one_int q19 (elemA_spot _ _ _) ((H16'.fr G29 sI).now.1.at0 (elemA_spot _ _ _))) ⟨Fr.refl _ _,rfl⟩
     ·intro ρ w13o F13o hS hρ
      have q1:ρ 1=.slice AP1 d1.length cP1:=hρ 1 (by kernel_rfl)
      exact o_q (r_mov q1) ⟨Fr.refl _ _,rfl⟩
     ·intro ρ w13o F13o hS hρ
      have q5:ρ 5=.int .i64 s2:=hρ 5 (by kernel_rfl)
      exact o_q (r_mov q5) ⟨Fr.refl _ _,rfl⟩
     ·intro ρ w13o F13o hS hρ
      have q21:ρ 21=.slice AP1 d1.length cP1:=hS 4 (by decide) 21 rfl
      have q22:ρ 22=.int .i64 s2:=hS 5 (by decide) 22 rfl
      exact o_q (r_ia slc_s_int q21 q22 ((HP1.fr (G3.trans (Fr.ext F13o)) sI).now.2 _ (lt_toNat ha18.1 ha18.2)).1 ha18.1 ha18.2) ⟨Fr.refl _ _,rfl⟩
     ·intro ρ w13o F13o hS hρ
      have G37:Fr L w2r w13o:=Fr.ext F13o
      have q23:ρ 23=.pointer (some (elemA AP1 (kI .i64).n s2.toNat)):=hS 6 (by decide) 23 rfl
      exact o_q (r_ld' one_int q23 (elemA_spot _ _ _) ((H20'.fr G37 sI).now.1.at0 (elemA_spot _ _ _))) ⟨Fr.refl _ _,rfl⟩
     ·intro ρ w13o F13o hS hρ
      have q20:ρ 20=.int .i64 (nth d0 s2):=hS 3 (by decide) 20 rfl
      have q24:ρ 24=.int .i64 (nth d1 s2):=hS 7 (by decide) 24 rfl
      exact o_q (r_int q20 q24 rfl) ⟨Fr.refl _ _,rfl⟩
    ·intro ρ w13 F13 hS hρ
     have q25:ρ 25=.bool ((nth d0 s2) != (nth d1 s2)):=hS 8 25 rfl
     obtain ⟨ρ',rfl⟩:∃ ρ',ρ=envs (ovr [17,18,19,20,21,22,23,24,25] ρ' _) [(25,.bool ((nth d0 s2) != (nth d1 s2)))]:=⟨ρ,ovr_self hρ ⟨q25,trivial⟩⟩
     have E38:=E2r.trans F13
     refine sq_n ?_
     refine ec_cond rfl (fun hc42=>?_) (fun hc42=>?_)
     ·replace h:=h.1 hc42
      refine ec_seq ?_
      refine ec_region ?_
      refine o_w (v:=.bool false) (r_asg rfl) ?_
      refine eo_nil_sq ?_
      refine ec_ret ?_
      refine blk_ret ?_
      refine sq_ret ?_
      subst h
      exact lqR_r (end1 rfl ⟨_,rfl,E38,rfl⟩)
     ·replace h:=h.2 hc42
      refine ec_skip ?_
      refine blk_n ?_
      refine sq_n ?_
      refine ec_region ?_
      refine o_w (v:=.int .i64 s2) (r_mov rfl) ?_
      refine o_w (v:=.int .i64 (IntKind.i64.wrap (s2 + (1:Int)))) (r_int rfl rfl rfl) ?_
      refine o_w (v:=.int .i64 (IntKind.i64.wrap (s2 + (1:Int)))) (r_asg rfl) ?_
      refine eo_nil ?_
      subst h
      exact lqR_n ⟨_,envs_self ⟨rfl,rfl,rfl,trivial⟩,rfl,(F2r.trans (Fr.ext F13)),E38⟩
   ·replace h:=h.2 hc4
    refine ec_exit ?_
    refine sq_exit ?_
    subst h
    exact lqR_x ⟨_,envs_self ⟨rfl,rfl,rfl,trivial⟩,rfl,F2r,E2r⟩
  ·exact ⟨_,envs_self ⟨rfl,rfl,rfl,trivial⟩,rfl,(Fr.refl _ _),(Fr.refl _ _)⟩
  ·rintro sx2 rfl ρ2e ds2e w2e ⟨ρ2e,rfl,rfl,F2e,E2e⟩
   replace h:=h.1 _ rfl
   refine blk_hit ?_
   refine sq_n ?_
   refine ec_seq ?_
   refine ec_region ?_
   refine o_w (v:=.bool true) (r_asg rfl) ?_
   refine eo_nil_sq ?_
   refine ec_ret ?_
   subst h
   exact (end1 rfl ⟨_,rfl,E2e,rfl⟩)
  ·rintro y2 rfl ρ2q ds2q w2q hJ
   have hy:=h.2 _ rfl
   subst hy
   refine blk_ret ?_
   refine sq_ret ?_
   exact hJ
def ref06_noReg_raw (d0:Val) (y:Bool):Prop :=
 y=((((d0.time==0)&&(d0.node==0))&&(!d0.dead))&&(d0.text==([]:Str)))
set_option maxRecDepth 20000 in
set_option maxHeartbeats 4000000 in
theorem ref06_noReg_c {L:List Nat} {w:World} {csP0:List Value} (d0:Val) (HP0:Stb L w (fun w=>kVal.r w csP0 d0)) (hL:Lt L w) {y:Bool} (h:ref06_noReg_raw d0 y) :
  Calls Tryz.prog 83 [.agg csP0.toArray].toArray w (Ret fun v w'=>Ext w w'∧v=.bool y):=by
 obtain ⟨A1,c2,A4,c5,rfl,H3,H6⟩:=kVal_open HP0
 unfold ref06_noReg_raw at h
 refine calls_ec Tryz.func83 rfl rfl rfl ?_
 refine ec_seq ?_
 refine ec_region ?_
 refine o_box (cs:=(cVal d0 A1 c2 A4 c5)) rfl rfl rfl ?_
 intro b7 w7 e7 F7 B7
 have S7:=B7.stb (nin hL e7)
 refine o_w (v:=.bool false) (r_asg rfl) ?_
 refine eo_nil_sq ?_
 refine ec_seq ?_
 refine ec_region ?_
 refine o_w (v:=.pointer (some ⟨b7,1,none⟩)) (r_fa fld_api_Value_1 rfl rfl) ?_
 refine o_w (v:=.int .i64 d0.time) (r_ld one_int rfl (S7.now.cell rfl)) ?_
 refine o_w (v:=.bool (d0.time==0)) (r_int rfl rfl rfl) ?_
 refine o_w (v:=.bool (d0.time==0)) (r_mov rfl) ?_
 refine o_vg (v:=.pointer (some ⟨b7,2,none⟩)) (want_ct (t:=6) rfl rfl) (fun hk=>(r_fa fld_api_Value_2 rfl rfl)) rfl rfl ?_
 refine o_vg (v:=.int .i64 d0.node) (want_ct (t:=6) rfl rfl) (fun hk=>(r_ld one_int (gdT hk) (S7.now.cell rfl))) rfl rfl ?_
 refine o_vg (v:=.bool (d0.node==0)) (want_ct (t:=6) rfl rfl) (fun hk=>(r_int (gdT hk) rfl rfl)) rfl rfl ?_
 refine o_w (v:=.bool ((d0.time==0)&&(d0.node==0))) (r_pickAnd rfl (fun ht=>(gdT ht)) rfl) ?_
 refine o_w (v:=.bool ((d0.time==0)&&(d0.node==0))) (r_mov rfl) ?_
 refine o_vg (v:=.pointer (some ⟨b7,3,none⟩)) (want_ct (t:=11) rfl rfl) (fun hk=>(r_fa fld_api_Value_3 rfl rfl)) rfl rfl ?_
 refine o_vg (v:=.bool d0.dead) (want_ct (t:=11) rfl rfl) (fun hk=>(r_ld one_bool (gdT hk) (S7.now.cell rfl))) rfl rfl ?_
 refine o_vg (v:=.bool (!d0.dead)) (want_ct (t:=11) rfl rfl) (fun hk=>(r_not (gdT hk))) rfl rfl ?_
 refine o_w (v:=.bool (((d0.time==0)&&(d0.node==0))&&(!d0.dead))) (r_pickAnd rfl (fun ht=>(gdT ht)) rfl) ?_
 refine o_w (v:=.bool (((d0.time==0)&&(d0.node==0))&&(!d0.dead))) (r_mov rfl) ?_
 refine o_vg (v:=.pointer (some ⟨b7,4,none⟩)) (want_ct (t:=16) rfl rfl) (fun hk=>(r_fa fld_api_Value_4 rfl rfl)) rfl rfl ?_
 refine o_vg (v:=str d0.text) (want_ct (t:=16) rfl rfl) (fun hk=>(r_ld one_string (gdT hk) (S7.now.cell rfl))) rfl rfl ?_
 refine o_vg (v:=.bool (d0.text==([]:Str))) (want_ct (t:=16) rfl rfl) (fun hk=>(r_str (gdT hk) rfl rfl)) rfl rfl ?_
 refine o_w (v:=.bool ((((d0.time==0)&&(d0.node==0))&&(!d0.dead))&&(d0.text==([]:Str)))) (r_pickAnd rfl (fun ht=>(gdT ht)) rfl) ?_
 refine o_w (v:=.bool ((((d0.time==0)&&(d0.node==0))&&(!d0.dead))&&(d0.text==([]:Str)))) (r_asg rfl) ?_
 refine eo_nil_sq ?_
 refine ec_ret ?_
 subst h
 exact (end1 rfl ⟨_,rfl,F7,rfl⟩)
def ref06_noCount_raw (d0:Val) (y:Bool):Prop :=
 y=((IntKind.i64.wrap ((d0.plus.length:Int) + (d0.minus.length:Int)))==0)
set_option maxRecDepth 20000 in
set_option maxHeartbeats 4000000 in
theorem ref06_noCount_c {L:List Nat} {w:World} {csP0:List Value} (d0:Val) (HP0:Stb L w (fun w=>kVal.r w csP0 d0)) (hL:Lt L w) {y:Bool} (h:ref06_noCount_raw d0 y) :
  Calls Tryz.prog 81 [.agg csP0.toArray].toArray w (Ret fun v w'=>Ext w w'∧v=.bool y):=by
 obtain ⟨A1,c2,A4,c5,rfl,H3,H6⟩:=kVal_open HP0
 unfold ref06_noCount_raw at h
 refine calls_ec Tryz.func81 rfl rfl rfl ?_
 refine ec_seq ?_
 refine ec_region ?_
 refine o_box (cs:=(cVal d0 A1 c2 A4 c5)) rfl rfl rfl ?_
 intro b7 w7 e7 F7 B7
 have S7:=B7.stb (nin hL e7)
 refine o_w (v:=.bool false) (r_asg rfl) ?_
 refine eo_nil_sq ?_
 refine ec_seq ?_
 refine ec_region ?_
 refine o_w (v:=.pointer (some ⟨b7,5,none⟩)) (r_fa fld_api_Value_5 rfl rfl) ?_
 refine o_w (v:=.slice A1 d0.plus.length c2) (r_ld one_s_int rfl (S7.now.cell rfl)) ?_
 refine o_w (v:=.int .i64 (d0.plus.length:Int)) (r_len_slc un_s_int rfl) ?_
 refine o_w (v:=.pointer (some ⟨b7,6,none⟩)) (r_fa fld_api_Value_6 rfl rfl) ?_
 refine o_w (v:=.slice A4 d0.minus.length c5) (r_ld one_s_int rfl (S7.now.cell rfl)) ?_
 refine o_w (v:=.int .i64 (d0.minus.length:Int)) (r_len_slc un_s_int rfl) ?_
 refine o_w (v:=.int .i64 (IntKind.i64.wrap ((d0.plus.length:Int) + (d0.minus.length:Int)))) (r_int rfl rfl rfl) ?_
 refine o_w (v:=.bool ((IntKind.i64.wrap ((d0.plus.length:Int) + (d0.minus.length:Int)))==0)) (r_int rfl rfl rfl) ?_
 refine o_w (v:=.bool ((IntKind.i64.wrap ((d0.plus.length:Int) + (d0.minus.length:Int)))==0)) (r_asg rfl) ?_
 refine eo_nil_sq ?_
 refine ec_ret ?_
 subst h
 exact (end1 rfl ⟨_,rfl,F7,rfl⟩)
def ref06_counts_b1 (d0:(List Int)) (s1:Int) (z1:(Int) ⊕ ((Int) ⊕ (Bool))):Prop :=
 ((decide (s1<(d0.length:Int)))=true→((0≤s1∧s1<(d0.length:Int))∧(((decide ((nth d0 s1)<0))=true→(z1=.inr (.inr false)))∧((decide ((nth d0 s1)<0))=false→((0≤s1∧s1<(d0.length:Int))∧(((decide (65535<(nth d0 s1)))=true→(z1=.inr (.inr false)))∧((decide (65535<(nth d0 s1)))=false→(z1=.inl (IntKind.i64.wrap (s1 + (1:Int)))))))))))∧((decide (s1<(d0.length:Int)))=false→(z1=.inr (.inl s1)))
def ref06_counts_raw (d0:(List Int)) (y:Bool):Prop :=
 ∃ x1,LoopR (ref06_counts_b1 d0) (0:Int) x1∧(∀ sx1,x1=.inl sx1→(y=((d0.length:Int)==8)))∧(∀ y1,x1=.inr y1→(y=y1))
set_option maxRecDepth 20000 in
set_option maxHeartbeats 4000000 in
theorem ref06_counts_c {L:List Nat} {w:World} {AP0:Option Addr} {cP0:Nat} (d0:(List Int)) (HP0:Stb L w (fun w=>SlC (kI .i64) w AP0 cP0 d0)) (hL:Lt L w) {y:Bool} (h:ref06_counts_raw d0 y) :
  Calls Tryz.prog 82 [.slice AP0 d0.length cP0].toArray w (Ret fun v w'=>Ext w w'∧v=.bool y):=by
 unfold ref06_counts_raw at h
 refine calls_ec Tryz.func82 rfl rfl rfl ?_
 refine ec_seq ?_
 refine ec_region ?_
 refine o_w (v:=.bool false) (r_asg rfl) ?_
 refine eo_nil_sq ?_
 iterate 2 refine ec_seq ?_
 refine ec_region ?_
 refine o_w (v:=.int .i64 0) (r_asg rfl) ?_
 refine eo_nil_sq ?_
 refine ec_block ?_
 obtain ⟨x1,hl1,h⟩:=h
 refine ec_loopER 0 (I:=(fun (s1:Int) ρ ds w'=>∃ (ρ':Env),ρ=envs ρ' [(3,.int .i64 s1),(0,.slice AP0 d0.length cP0)]∧ds=[]∧Fr L w w'∧Ext w w')) (J:=(fun (y':Bool) ρ ds wz=>bodyE Tryz.prog #[.tmp 2] (Ret fun v w'=>Ext w w'∧v=.bool y') .ret ρ ds wz)) ?_ hl1 ?_ ?_ ?_
 ·intro s1 z1 ρ1 ds1 w1r hI1 hb1
  obtain ⟨ρ1r,rfl,rfl,F1r,E1r⟩:=hI1
  have h:=hb1
  unfold ref06_counts_b1 at h
  have G2:Fr L w w1r:=(Fr.refl _ _).stp F1r (fun _ h=>.inl h)
  iterate 2 refine ec_seq ?_
  refine ec_region ?_
  refine o_w (v:=.int .i64 s1) (r_mov rfl) ?_
  refine o_w (v:=.slice AP0 d0.length cP0) (r_mov rfl) ?_
  refine o_w (v:=.int .i64 (d0.length:Int)) (r_len_slc un_s_int rfl) ?_
  refine o_w (v:=.bool (decide (s1<(d0.length:Int)))) (r_int rfl rfl rfl) ?_
  refine eo_nil_sq ?_
  refine ec_cond rfl (fun hc3=>?_) (fun hc3=>?_)
  ·replace h:=h.1 hc3
   refine ec_skip ?_
   refine sq_n ?_
   refine ec_seq ?_
   refine ec_block ?_
   refine ec_seq ?_
   refine ec_region ?_
   refine o_w (v:=.slice AP0 d0.length cP0) (r_mov rfl) ?_
   refine o_w (v:=.int .i64 s1) (r_mov rfl) ?_
   obtain ⟨ha12,h⟩:=h
   obtain ⟨cs13,l15,H14⟩:=Stb.elem (by decide) (HP0.fr G2 sI) s1 ha12.1 ha12.2
   obtain ⟨rfl,H14'⟩:=kI_open2 H14
   refine o_w (v:=.pointer (some (elemA AP0 (kI .i64).n s1.toNat))) (r_ia slc_s_int rfl rfl ((HP0.fr G2 sI).now.2 _ (lt_toNat ha12.1 ha12.2)).1 ha12.1 ha12.2) ?_
   refine o_w (v:=.int .i64 (nth d0 s1)) (r_ld' one_int rfl (elemA_spot _ _ _) (H14'.now.1.at0 (elemA_spot _ _ _))) ?_
   refine o_w (v:=.bool (decide ((nth d0 s1)<0))) (r_int rfl rfl rfl) ?_
   refine o_w (v:=.bool (decide ((nth d0 s1)<0))) (r_mov rfl) ?_
   rcases Bool.eq_false_or_eq_true (decide ((nth d0 s1)<0)) with hc16 | hc16
   ·replace h:=h.1 hc16
    iterate 5 refine o_no (want_f (t:=15) rfl rfl hc16) rfl ?_
    refine o_w (v:=.bool true) (r_pickT rfl hc16 rfl) ?_
    refine eo_nil_sq ?_
    refine ec_condT rfl rfl ?_
    refine ec_seq ?_
    refine ec_region ?_
    refine o_w (v:=.bool false) (r_asg rfl) ?_
    refine eo_nil_sq ?_
    refine ec_ret ?_
    refine blk_ret ?_
    refine sq_ret ?_
    subst h
    exact lqR_r (end1 rfl ⟨_,rfl,E1r,rfl⟩)
   ·replace h:=h.2 hc16
    refine o_v (v:=.slice AP0 d0.length cP0) (r_mov rfl) (want_t (t:=15) rfl rfl hc16) rfl rfl ?_
    refine o_v (v:=.int .i64 s1) (r_mov rfl) (want_t (t:=15) rfl rfl hc16) rfl rfl ?_
    obtain ⟨ha17,h⟩:=h
    obtain ⟨cs18,l20,H19⟩:=Stb.elem (by decide) (HP0.fr G2 sI) s1 ha17.1 ha17.2
    obtain ⟨rfl,H19'⟩:=kI_open2 H19
    refine o_v (v:=.pointer (some (elemA AP0 (kI .i64).n s1.toNat))) (r_ia slc_s_int rfl rfl ((HP0.fr G2 sI).now.2 _ (lt_toNat ha17.1 ha17.2)).1 ha17.1 ha17.2) (want_t (t:=15) rfl rfl hc16) rfl rfl ?_
    refine o_v (v:=.int .i64 (nth d0 s1)) (r_ld' one_int rfl (elemA_spot _ _ _) (H19'.now.1.at0 (elemA_spot _ _ _))) (want_t (t:=15) rfl rfl hc16) rfl rfl ?_
    refine o_v (v:=.bool (decide (65535<(nth d0 s1)))) (r_int rfl rfl rfl) (want_t (t:=15) rfl rfl hc16) rfl rfl ?_
    refine o_w (v:=.bool (decide (65535<(nth d0 s1)))) (r_pickF rfl hc16 rfl) ?_
    refine eo_nil_sq ?_
    refine ec_cond rfl (fun hc21=>?_) (fun hc21=>?_)
    ·replace h:=h.1 hc21
     refine ec_seq ?_
     refine ec_region ?_
     refine o_w (v:=.bool false) (r_asg rfl) ?_
     refine eo_nil_sq ?_
     refine ec_ret ?_
     refine blk_ret ?_
     refine sq_ret ?_
     subst h
     exact lqR_r (end1 rfl ⟨_,rfl,E1r,rfl⟩)
    ·replace h:=h.2 hc21
     refine ec_skip ?_
     refine blk_n ?_
     refine sq_n ?_
     refine ec_region ?_
     refine o_w (v:=.int .i64 s1) (r_mov rfl) ?_
     refine o_w (v:=.int .i64 (IntKind.i64.wrap (s1 + (1:Int)))) (r_int rfl rfl rfl) ?_
     refine o_w (v:=.int .i64 (IntKind.i64.wrap (s1 + (1:Int)))) (r_asg rfl) ?_
     refine eo_nil ?_
     subst h
     exact lqR_n ⟨_,envs_self ⟨rfl,rfl,trivial⟩,rfl,F1r,E1r⟩
  ·replace h:=h.2 hc3
   refine ec_exit ?_
   refine sq_exit ?_
   subst h
   exact lqR_x ⟨_,envs_self ⟨rfl,rfl,trivial⟩,rfl,F1r,E1r⟩
 ·exact ⟨_,envs_self ⟨rfl,rfl,trivial⟩,rfl,(Fr.refl _ _),(Fr.refl _ _)⟩
 ·rintro sx1 rfl ρ1e ds1e w1e ⟨ρ1e,rfl,rfl,F1e,E1e⟩
  replace h:=h.1 _ rfl
  refine blk_hit ?_
  refine sq_n ?_
  refine ec_seq ?_
  refine ec_region ?_
  refine o_w (v:=.slice AP0 d0.length cP0) (r_mov rfl) ?_
  refine o_w (v:=.int .i64 (d0.length:Int)) (r_len_slc un_s_int rfl) ?_
  refine o_w (v:=.bool ((d0.length:Int)==8)) (r_int rfl rfl rfl) ?_
  refine o_w (v:=.bool ((d0.length:Int)==8)) (r_asg rfl) ?_
  refine eo_nil_sq ?_
  refine ec_ret ?_
  subst h
  exact (end1 rfl ⟨_,rfl,E1e,rfl⟩)
 ·rintro y1 rfl ρ1q ds1q w1q hJ
  have hy:=h.2 _ rfl
  subst hy
  refine blk_ret ?_
  refine sq_ret ?_
  exact hJ
def ref06_Check_raw (d0:Val) (y:Bool):Prop :=
 ((d0.kind==1)=true→(∃ x11,(((((((decide (0≤d0.time))&&(decide (d0.time≤2147483647)))&&(decide (0≤d0.node)))&&(decide (d0.node≤7)))&&(decide ((d0.text.length:Int)≤8)))&&((!d0.dead)||(d0.text==([]:Str))))=true→ref06_noCount_raw d0 x11)∧(y=((((((((decide (0≤d0.time))&&(decide (d0.time≤2147483647)))&&(decide (0≤d0.node)))&&(decide (d0.node≤7)))&&(decide ((d0.text.length:Int)≤8)))&&((!d0.dead)||(d0.text==([]:Str))))&&x11)&&(d0.flags==0)))))∧((d0.kind==1)=false→(((d0.kind==2)=true→(∃ x19,ref06_counts_raw d0.plus x19∧(∃ x23,(x19=true→ref06_counts_raw d0.minus x23)∧(∃ x27,((x19&&x23)=true→ref06_noReg_raw d0 x27)∧(y=(((x19&&x23)&&x27)&&(d0.flags==0)))))))∧((d0.kind==2)=false→(∃ x33,((d0.kind==3)=true→ref06_noReg_raw d0 x33)∧(∃ x37,(((d0.kind==3)&&x33)=true→ref06_noCount_raw d0 x37)∧(y=(((d0.kind==3)&&x33)&&x37)))))))
set_option maxRecDepth 20000 in
set_option maxHeartbeats 4000000 in
theorem ref06_Check_c {L:List Nat} {w:World} {csP0:List Value} (d0:Val) (HP0:Stb L w (fun w=>kVal.r w csP0 d0)) (hL:Lt L w) {y:Bool} (h:ref06_Check_raw d0 y) :
  Calls Tryz.prog 66 [.agg csP0.toArray].toArray w (Ret fun v w'=>Ext w w'∧v=.bool y):=by
 obtain ⟨A1,c2,A4,c5,rfl,H3,H6⟩:=kVal_open HP0
 unfold ref06_Check_raw at h
 refine calls_ec Tryz.func66 rfl rfl rfl ?_
 refine ec_seq ?_
 refine ec_region ?_
 refine o_box (cs:=(cVal d0 A1 c2 A4 c5)) rfl rfl rfl ?_
 intro b7 w7 e7 F7 B7
 have S7:=B7.stb (nin hL e7)
 have G8:Fr L w w7:=Fr.ext F7
 refine o_w (v:=.bool false) (r_asg rfl) ?_
 refine eo_nil_sq ?_
 iterate 2 refine ec_seq ?_
 refine ec_region ?_
 refine o_w (v:=.pointer (some ⟨b7,0,none⟩)) (r_fa fld_api_Value_0 rfl rfl) ?_
 refine o_w (v:=.int .i64 d0.kind) (r_ld one_int rfl (S7.now.cell rfl)) ?_
 refine o_w (v:=.bool (d0.kind==1)) (r_int rfl rfl rfl) ?_
 refine eo_nil_sq ?_
 refine ec_cond rfl (fun hc9=>?_) (fun hc9=>?_)
 ·replace h:=h.1 hc9
  refine ec_seq ?_
  refine ec_region ?_
  refine o_w (v:=.pointer (some ⟨b7,1,none⟩)) (r_fa fld_api_Value_1 rfl rfl) ?_
  refine o_w (v:=.int .i64 d0.time) (r_ld one_int rfl (S7.now.cell rfl)) ?_
  refine o_w (v:=.bool (decide (0≤d0.time))) (r_int rfl rfl rfl) ?_
  refine o_w (v:=.bool (decide (0≤d0.time))) (r_mov rfl) ?_
  refine o_vg (v:=.pointer (some ⟨b7,1,none⟩)) (want_ct (t:=9) rfl rfl) (fun hk=>(r_fa fld_api_Value_1 rfl rfl)) rfl rfl ?_
  refine o_vg (v:=.int .i64 d0.time) (want_ct (t:=9) rfl rfl) (fun hk=>(r_ld one_int (gdT hk) (S7.now.cell rfl))) rfl rfl ?_
  refine o_vg (v:=.bool (decide (d0.time≤2147483647))) (want_ct (t:=9) rfl rfl) (fun hk=>(r_int (gdT hk) rfl rfl)) rfl rfl ?_
  refine o_w (v:=.bool ((decide (0≤d0.time))&&(decide (d0.time≤2147483647)))) (r_pickAnd rfl (fun ht=>(gdT ht)) rfl) ?_
  refine o_w (v:=.bool ((decide (0≤d0.time))&&(decide (d0.time≤2147483647)))) (r_mov rfl) ?_
  refine o_vg (v:=.pointer (some ⟨b7,2,none⟩)) (want_ct (t:=14) rfl rfl) (fun hk=>(r_fa fld_api_Value_2 rfl rfl)) rfl rfl ?_
  refine o_vg (v:=.int .i64 d0.node) (want_ct (t:=14) rfl rfl) (fun hk=>(r_ld one_int (gdT hk) (S7.now.cell rfl))) rfl rfl ?_
  refine o_vg (v:=.bool (decide (0≤d0.node))) (want_ct (t:=14) rfl rfl) (fun hk=>(r_int (gdT hk) rfl rfl)) rfl rfl ?_
  refine o_w (v:=.bool (((decide (0≤d0.time))&&(decide (d0.time≤2147483647)))&&(decide (0≤d0.node)))) (r_pickAnd rfl (fun ht=>(gdT ht)) rfl) ?_
  refine o_w (v:=.bool (((decide (0≤d0.time))&&(decide (d0.time≤2147483647)))&&(decide (0≤d0.node)))) (r_mov rfl) ?_
  refine o_vg (v:=.pointer (some ⟨b7,2,none⟩)) (want_ct (t:=19) rfl rfl) (fun hk=>(r_fa fld_api_Value_2 rfl rfl)) rfl rfl ?_
  refine o_vg (v:=.int .i64 d0.node) (want_ct (t:=19) rfl rfl) (fun hk=>(r_ld one_int (gdT hk) (S7.now.cell rfl))) rfl rfl ?_
  refine o_vg (v:=.bool (decide (d0.node≤7))) (want_ct (t:=19) rfl rfl) (fun hk=>(r_int (gdT hk) rfl rfl)) rfl rfl ?_
  refine o_w (v:=.bool ((((decide (0≤d0.time))&&(decide (d0.time≤2147483647)))&&(decide (0≤d0.node)))&&(decide (d0.node≤7)))) (r_pickAnd rfl (fun ht=>(gdT ht)) rfl) ?_
  refine o_w (v:=.bool ((((decide (0≤d0.time))&&(decide (d0.time≤2147483647)))&&(decide (0≤d0.node)))&&(decide (d0.node≤7)))) (r_mov rfl) ?_
  refine o_vg (v:=.pointer (some ⟨b7,4,none⟩)) (want_ct (t:=24) rfl rfl) (fun hk=>(r_fa fld_api_Value_4 rfl rfl)) rfl rfl ?_
  refine o_vg (v:=str d0.text) (want_ct (t:=24) rfl rfl) (fun hk=>(r_ld one_string (gdT hk) (S7.now.cell rfl))) rfl rfl ?_
  refine o_vg (v:=.int .i64 (d0.text.length:Int)) (want_ct (t:=24) rfl rfl) (fun hk=>(r_len_str un_string (gdT hk))) rfl rfl ?_
  refine o_vg (v:=.bool (decide ((d0.text.length:Int)≤8))) (want_ct (t:=24) rfl rfl) (fun hk=>(r_int (gdT hk) rfl rfl)) rfl rfl ?_
  refine o_w (v:=.bool (((((decide (0≤d0.time))&&(decide (d0.time≤2147483647)))&&(decide (0≤d0.node)))&&(decide (d0.node≤7)))&&(decide ((d0.text.length:Int)≤8)))) (r_pickAnd rfl (fun ht=>(gdT ht)) rfl) ?_
  refine o_w (v:=.bool (((((decide (0≤d0.time))&&(decide (d0.time≤2147483647)))&&(decide (0≤d0.node)))&&(decide (d0.node≤7)))&&(decide ((d0.text.length:Int)≤8)))) (r_mov rfl) ?_
  refine o_vg (v:=.pointer (some ⟨b7,3,none⟩)) (want_ct (t:=30) rfl rfl) (fun hk=>(r_fa fld_api_Value_3 rfl rfl)) rfl rfl ?_
  refine o_vg (v:=.bool d0.dead) (want_ct (t:=30) rfl rfl) (fun hk=>(r_ld one_bool (gdT hk) (S7.now.cell rfl))) rfl rfl ?_
  refine o_vg (v:=.bool (!d0.dead)) (want_ct (t:=30) rfl rfl) (fun hk=>(r_not (gdT hk))) rfl rfl ?_
  refine o_vg (v:=.bool (!d0.dead)) (want_ct (t:=30) rfl rfl) (fun hk=>(r_mov (gdT hk))) rfl rfl ?_
  refine o_vg (v:=.pointer (some ⟨b7,4,none⟩)) (want_gf (t:=34) rfl rfl) (fun hk=>(r_fa fld_api_Value_4 rfl rfl)) rfl rfl ?_
  refine o_vg (v:=str d0.text) (want_gf (t:=34) rfl rfl) (fun hk=>(r_ld one_string (gdT hk) (S7.now.cell rfl))) rfl rfl ?_
  refine o_vg (v:=.bool (d0.text==([]:Str))) (want_gf (t:=34) rfl rfl) (fun hk=>(r_str (gdT hk) rfl rfl)) rfl rfl ?_
  refine o_vg (v:=.bool ((!d0.dead)||(d0.text==([]:Str)))) (want_ct (t:=30) rfl rfl) (fun hk=>(r_pickOr (gdT hk) rfl (fun hf=>(gdT (andM hk (notT hf)))))) rfl rfl ?_
  refine o_w (v:=.bool ((((((decide (0≤d0.time))&&(decide (d0.time≤2147483647)))&&(decide (0≤d0.node)))&&(decide (d0.node≤7)))&&(decide ((d0.text.length:Int)≤8)))&&((!d0.dead)||(d0.text==([]:Str))))) (r_pickAnd rfl (fun ht=>(gdT ht)) rfl) ?_
  refine o_w (v:=.bool ((((((decide (0≤d0.time))&&(decide (d0.time≤2147483647)))&&(decide (0≤d0.node)))&&(decide (d0.node≤7)))&&(decide ((d0.text.length:Int)≤8)))&&((!d0.dead)||(d0.text==([]:Str))))) (r_mov rfl) ?_
  refine o_vg (v:=.agg (cVal d0 A1 c2 A4 c5).toArray) (want_ct (t:=40) rfl rfl) (fun hk=>(r_lda agg_api_Value rfl (vs:=(cVal d0 A1 c2 A4 c5)) rfl (S7.now.part (n:=8) rfl))) rfl rfl ?_
  obtain ⟨x11,hx11,h⟩:=h
  refine o_callg (V:=.bool x11) cf_ref06_noCount (want_ct (t:=40) rfl rfl) (fun hk=>(mapv1 (gdT hk))) (fun hk=>(ref06_noCount_c d0 (kVal_mk (d:=d0) (H3.fr G8 sI) (H6.fr G8 sI)) (hL.fr F7) (hx11 hk))) rfl ?_
  intro w11 F11
  have E12:=F7.trans F11
  have G14:Fr L w7 w11:=Fr.ext F11
  refine o_w (v:=.bool (((((((decide (0≤d0.time))&&(decide (d0.time≤2147483647)))&&(decide (0≤d0.node)))&&(decide (d0.node≤7)))&&(decide ((d0.text.length:Int)≤8)))&&((!d0.dead)||(d0.text==([]:Str))))&&x11)) (r_pickAnd rfl (fun ht=>(gdT ht)) rfl) ?_
  refine o_w (v:=.bool (((((((decide (0≤d0.time))&&(decide (d0.time≤2147483647)))&&(decide (0≤d0.node)))&&(decide (d0.node≤7)))&&(decide ((d0.text.length:Int)≤8)))&&((!d0.dead)||(d0.text==([]:Str))))&&x11)) (r_mov rfl) ?_
  refine o_vg (v:=.pointer (some ⟨b7,7,none⟩)) (want_ct (t:=44) rfl rfl) (fun hk=>(r_fa fld_api_Value_7 rfl rfl)) rfl rfl ?_
  refine o_vg (v:=.int .u64 d0.flags) (want_ct (t:=44) rfl rfl) (fun hk=>(r_ld one_uint64 (gdT hk) ((S7.fr G14 sI).now.cell rfl))) rfl rfl ?_
  refine o_vg (v:=.bool (d0.flags==0)) (want_ct (t:=44) rfl rfl) (fun hk=>(r_int (gdT hk) rfl rfl)) rfl rfl ?_
  refine o_w (v:=.bool ((((((((decide (0≤d0.time))&&(decide (d0.time≤2147483647)))&&(decide (0≤d0.node)))&&(decide (d0.node≤7)))&&(decide ((d0.text.length:Int)≤8)))&&((!d0.dead)||(d0.text==([]:Str))))&&x11)&&(d0.flags==0))) (r_pickAnd rfl (fun ht=>(gdT ht)) rfl) ?_
  refine o_w (v:=.bool ((((((((decide (0≤d0.time))&&(decide (d0.time≤2147483647)))&&(decide (0≤d0.node)))&&(decide (d0.node≤7)))&&(decide ((d0.text.length:Int)≤8)))&&((!d0.dead)||(d0.text==([]:Str))))&&x11)&&(d0.flags==0))) (r_asg rfl) ?_
  refine eo_nil_sq ?_
  refine ec_ret ?_
  refine sq_ret ?_
  subst h
  exact (end1 rfl ⟨_,rfl,E12,rfl⟩)
 ·replace h:=h.2 hc9
  refine ec_skip ?_
  refine sq_n ?_
  iterate 2 refine ec_seq ?_
  refine ec_region ?_
  refine o_w (v:=.pointer (some ⟨b7,0,none⟩)) (r_fa fld_api_Value_0 rfl rfl) ?_
  refine o_w (v:=.int .i64 d0.kind) (r_ld one_int rfl (S7.now.cell rfl)) ?_
  refine o_w (v:=.bool (d0.kind==2)) (r_int rfl rfl rfl) ?_
  refine eo_nil_sq ?_
  refine ec_cond rfl (fun hc15=>?_) (fun hc15=>?_)
  ·replace h:=h.1 hc15
   refine ec_seq ?_
   refine ec_region ?_
   refine o_w (v:=.pointer (some ⟨b7,5,none⟩)) (r_fa fld_api_Value_5 rfl rfl) ?_
   refine o_w (v:=.slice A1 d0.plus.length c2) (r_ld one_s_int rfl (S7.now.cell rfl)) ?_
   obtain ⟨x19,hx19,h⟩:=h
   refine o_call cf_ref06_counts rfl (ref06_counts_c d0.plus (H3.fr G8 sI) (hL.fr F7) hx19) rfl rfl ?_
   rintro _ w19 ⟨F19,rfl⟩
   have E20:=F7.trans F19
   have G22:Fr L w7 w19:=Fr.ext F19
   refine o_w (v:=.bool x19) (r_mov rfl) ?_
   refine o_vg (v:=.pointer (some ⟨b7,6,none⟩)) (want_ct (t:=55) rfl rfl) (fun hk=>(r_fa fld_api_Value_6 rfl rfl)) rfl rfl ?_
   refine o_vg (v:=.slice A4 d0.minus.length c5) (want_ct (t:=55) rfl rfl) (fun hk=>(r_ld one_s_int (gdT hk) ((S7.fr G22 sI).now.cell rfl))) rfl rfl ?_
   obtain ⟨x23,hx23,h⟩:=h
   refine o_callg (V:=.bool x23) cf_ref06_counts (want_ct (t:=55) rfl rfl) (fun hk=>(mapv1 (gdT hk))) (fun hk=>(ref06_counts_c d0.minus (H6.fr (G8.trans (Fr.ext F19)) sI) (hL.fr E20) (hx23 hk))) rfl ?_
   intro w23 F23
   have E24:=E20.trans F23
   refine o_w (v:=.bool (x19&&x23)) (r_pickAnd rfl (fun ht=>(gdT ht)) rfl) ?_
   refine o_w (v:=.bool (x19&&x23)) (r_mov rfl) ?_
   refine o_vg (v:=.agg (cVal d0 A1 c2 A4 c5).toArray) (want_ct (t:=60) rfl rfl) (fun hk=>(r_lda agg_api_Value rfl (vs:=(cVal d0 A1 c2 A4 c5)) rfl ((S7.fr (G22.trans (Fr.ext F23)) sI).now.part (n:=8) rfl))) rfl rfl ?_
   obtain ⟨x27,hx27,h⟩:=h
   refine o_callg (V:=.bool x27) cf_ref06_noReg (want_ct (t:=60) rfl rfl) (fun hk=>(mapv1 (gdT hk))) (fun hk=>(ref06_noReg_c d0 (kVal_mk (d:=d0) (H3.fr ((G8.trans (Fr.ext F19)).trans (Fr.ext F23)) sI) (H6.fr ((G8.trans (Fr.ext F19)).trans (Fr.ext F23)) sI)) (hL.fr E24) (hx27 hk))) rfl ?_
   intro w27 F27
   have E28:=E24.trans F27
   refine o_w (v:=.bool ((x19&&x23)&&x27)) (r_pickAnd rfl (fun ht=>(gdT ht)) rfl) ?_
   refine o_w (v:=.bool ((x19&&x23)&&x27)) (r_mov rfl) ?_
   refine o_vg (v:=.pointer (some ⟨b7,7,none⟩)) (want_ct (t:=64) rfl rfl) (fun hk=>(r_fa fld_api_Value_7 rfl rfl)) rfl rfl ?_
   refine o_vg (v:=.int .u64 d0.flags) (want_ct (t:=64) rfl rfl) (fun hk=>(r_ld one_uint64 (gdT hk) ((S7.fr ((G22.trans (Fr.ext F23)).trans (Fr.ext F27)) sI).now.cell rfl))) rfl rfl ?_
   refine o_vg (v:=.bool (d0.flags==0)) (want_ct (t:=64) rfl rfl) (fun hk=>(r_int (gdT hk) rfl rfl)) rfl rfl ?_
   refine o_w (v:=.bool (((x19&&x23)&&x27)&&(d0.flags==0))) (r_pickAnd rfl (fun ht=>(gdT ht)) rfl) ?_
   refine o_w (v:=.bool (((x19&&x23)&&x27)&&(d0.flags==0))) (r_asg rfl) ?_
   refine eo_nil_sq ?_
   refine ec_ret ?_
   refine sq_ret ?_
   subst h
   exact (end1 rfl ⟨_,rfl,E28,rfl⟩)
  ·replace h:=h.2 hc15
   refine ec_skip ?_
   refine sq_n ?_
   refine ec_seq ?_
   refine ec_region ?_
   refine o_w (v:=.pointer (some ⟨b7,0,none⟩)) (r_fa fld_api_Value_0 rfl rfl) ?_
   refine o_w (v:=.int .i64 d0.kind) (r_ld one_int rfl (S7.now.cell rfl)) ?_
   refine o_w (v:=.bool (d0.kind==3)) (r_int rfl rfl rfl) ?_
   refine o_w (v:=.bool (d0.kind==3)) (r_mov rfl) ?_
   refine o_vg (v:=.agg (cVal d0 A1 c2 A4 c5).toArray) (want_ct (t:=72) rfl rfl) (fun hk=>(r_lda agg_api_Value rfl (vs:=(cVal d0 A1 c2 A4 c5)) rfl (S7.now.part (n:=8) rfl))) rfl rfl ?_
   obtain ⟨x33,hx33,h⟩:=h
   refine o_callg (V:=.bool x33) cf_ref06_noReg (want_ct (t:=72) rfl rfl) (fun hk=>(mapv1 (gdT hk))) (fun hk=>(ref06_noReg_c d0 (kVal_mk (d:=d0) (H3.fr G8 sI) (H6.fr G8 sI)) (hL.fr F7) (hx33 hk))) rfl ?_
   intro w33 F33
   have E34:=F7.trans F33
   have G36:Fr L w7 w33:=Fr.ext F33
   refine o_w (v:=.bool ((d0.kind==3)&&x33)) (r_pickAnd rfl (fun ht=>(gdT ht)) rfl) ?_
   refine o_w (v:=.bool ((d0.kind==3)&&x33)) (r_mov rfl) ?_
   refine o_vg (v:=.agg (cVal d0 A1 c2 A4 c5).toArray) (want_ct (t:=76) rfl rfl) (fun hk=>(r_lda agg_api_Value rfl (vs:=(cVal d0 A1 c2 A4 c5)) rfl ((S7.fr G36 sI).now.part (n:=8) rfl))) rfl rfl ?_
   obtain ⟨x37,hx37,h⟩:=h
   refine o_callg (V:=.bool x37) cf_ref06_noCount (want_ct (t:=76) rfl rfl) (fun hk=>(mapv1 (gdT hk))) (fun hk=>(ref06_noCount_c d0 (kVal_mk (d:=d0) (H3.fr (G8.trans (Fr.ext F33)) sI) (H6.fr (G8.trans (Fr.ext F33)) sI)) (hL.fr E34) (hx37 hk))) rfl ?_
   intro w37 F37
   have E38:=E34.trans F37
   refine o_w (v:=.bool (((d0.kind==3)&&x33)&&x37)) (r_pickAnd rfl (fun ht=>(gdT ht)) rfl) ?_
   refine o_w (v:=.bool (((d0.kind==3)&&x33)&&x37)) (r_asg rfl) ?_
   refine eo_nil_sq ?_
   refine ec_ret ?_
   subst h
   exact (end1 rfl ⟨_,rfl,E38,rfl⟩)
def ref06_Same_raw (d0:Val) (d1:Val) (y:Bool):Prop :=
 ∃ x21,(((((((d0.kind==d1.kind)&&(d0.time==d1.time))&&(d0.node==d1.node))&&(d0.dead==d1.dead))&&(d0.text==d1.text))&&(d0.flags==d1.flags))=true→ref01_Ints_raw d0.plus d1.plus x21)∧(∃ x26,((((((((d0.kind==d1.kind)&&(d0.time==d1.time))&&(d0.node==d1.node))&&(d0.dead==d1.dead))&&(d0.text==d1.text))&&(d0.flags==d1.flags))&&x21)=true→ref01_Ints_raw d0.minus d1.minus x26)∧(y=((((((((d0.kind==d1.kind)&&(d0.time==d1.time))&&(d0.node==d1.node))&&(d0.dead==d1.dead))&&(d0.text==d1.text))&&(d0.flags==d1.flags))&&x21)&&x26)))
set_option maxRecDepth 20000 in
set_option maxHeartbeats 4000000 in
theorem ref06_Same_c {L:List Nat} {w:World} {csP0:List Value} (d0:Val) (HP0:Stb L w (fun w=>kVal.r w csP0 d0)) {csP1:List Value} (d1:Val) (HP1:Stb L w (fun w=>kVal.r w csP1 d1)) (hL:Lt L w) {y:Bool} (h:ref06_Same_raw d0 d1 y) :
  Calls Tryz.prog 44 [.agg csP0.toArray,.agg csP1.toArray].toArray w (Ret fun v w'=>Ext w w'∧v=.bool y):=by
 obtain ⟨A1,c2,A4,c5,rfl,H3,H6⟩:=kVal_open HP0
 obtain ⟨A7,c8,A10,c11,rfl,H9,H12⟩:=kVal_open HP1
 unfold ref06_Same_raw at h
 refine calls_ec Tryz.func44 rfl rfl rfl ?_
 refine ec_seq ?_
 refine ec_region ?_
 refine o_box (cs:=(cVal d0 A1 c2 A4 c5)) rfl rfl rfl ?_
 intro b13 w13 e13 F13 B13
 have S13:=B13.stb (nin hL e13)
 have G14:Fr L w w13:=Fr.ext F13
 refine o_box (cs:=(cVal d1 A7 c8 A10 c11)) rfl rfl rfl ?_
 intro b15 w15 e15 F15 B15
 have S15:=B15.stb (nin (hL.fr F13) e15)
 have E16:=F13.trans F15
 have G18:Fr L w13 w15:=Fr.ext F15
 refine o_w (v:=.bool false) (r_asg rfl) ?_
 refine eo_nil_sq ?_
 refine ec_seq ?_
 refine ec_region ?_
 refine o_w (v:=.pointer (some ⟨b13,0,none⟩)) (r_fa fld_api_Value_0 rfl rfl) ?_
 refine o_w (v:=.int .i64 d0.kind) (r_ld one_int rfl ((S13.fr G18 sI).now.cell rfl)) ?_
 refine o_w (v:=.pointer (some ⟨b15,0,none⟩)) (r_fa fld_api_Value_0 rfl rfl) ?_
 refine o_w (v:=.int .i64 d1.kind) (r_ld one_int rfl (S15.now.cell rfl)) ?_
 refine o_w (v:=.bool (d0.kind==d1.kind)) (r_int rfl rfl rfl) ?_
 refine o_w (v:=.bool (d0.kind==d1.kind)) (r_mov rfl) ?_
 refine o_vg (v:=.pointer (some ⟨b13,1,none⟩)) (want_ct (t:=10) rfl rfl) (fun hk=>(r_fa fld_api_Value_1 rfl rfl)) rfl rfl ?_
 refine o_vg (v:=.int .i64 d0.time) (want_ct (t:=10) rfl rfl) (fun hk=>(r_ld one_int (gdT hk) ((S13.fr G18 sI).now.cell rfl))) rfl rfl ?_
 refine o_vg (v:=.pointer (some ⟨b15,1,none⟩)) (want_ct (t:=10) rfl rfl) (fun hk=>(r_fa fld_api_Value_1 rfl rfl)) rfl rfl ?_
 refine o_vg (v:=.int .i64 d1.time) (want_ct (t:=10) rfl rfl) (fun hk=>(r_ld one_int (gdT hk) (S15.now.cell rfl))) rfl rfl ?_
 refine o_vg (v:=.bool (d0.time==d1.time)) (want_ct (t:=10) rfl rfl) (fun hk=>(r_int (gdT hk) (gdT hk) rfl)) rfl rfl ?_
 refine o_w (v:=.bool ((d0.kind==d1.kind)&&(d0.time==d1.time))) (r_pickAnd rfl (fun ht=>(gdT ht)) rfl) ?_
 refine o_w (v:=.bool ((d0.kind==d1.kind)&&(d0.time==d1.time))) (r_mov rfl) ?_
 refine o_vg (v:=.pointer (some ⟨b13,2,none⟩)) (want_ct (t:=17) rfl rfl) (fun hk=>(r_fa fld_api_Value_2 rfl rfl)) rfl rfl ?_
 refine o_vg (v:=.int .i64 d0.node) (want_ct (t:=17) rfl rfl) (fun hk=>(r_ld one_int (gdT hk) ((S13.fr G18 sI).now.cell rfl))) rfl rfl ?_
 refine o_vg (v:=.pointer (some ⟨b15,2,none⟩)) (want_ct (t:=17) rfl rfl) (fun hk=>(r_fa fld_api_Value_2 rfl rfl)) rfl rfl ?_
 refine o_vg (v:=.int .i64 d1.node) (want_ct (t:=17) rfl rfl) (fun hk=>(r_ld one_int (gdT hk) (S15.now.cell rfl))) rfl rfl ?_
 refine o_vg (v:=.bool (d0.node==d1.node)) (want_ct (t:=17) rfl rfl) (fun hk=>(r_int (gdT hk) (gdT hk) rfl)) rfl rfl ?_
 refine o_w (v:=.bool (((d0.kind==d1.kind)&&(d0.time==d1.time))&&(d0.node==d1.node))) (r_pickAnd rfl (fun ht=>(gdT ht)) rfl) ?_
 refine o_w (v:=.bool (((d0.kind==d1.kind)&&(d0.time==d1.time))&&(d0.node==d1.node))) (r_mov rfl) ?_
 refine o_vg (v:=.pointer (some ⟨b13,3,none⟩)) (want_ct (t:=24) rfl rfl) (fun hk=>(r_fa fld_api_Value_3 rfl rfl)) rfl rfl ?_
 refine o_vg (v:=.bool d0.dead) (want_ct (t:=24) rfl rfl) (fun hk=>(r_ld one_bool (gdT hk) ((S13.fr G18 sI).now.cell rfl))) rfl rfl ?_
 refine o_vg (v:=.pointer (some ⟨b15,3,none⟩)) (want_ct (t:=24) rfl rfl) (fun hk=>(r_fa fld_api_Value_3 rfl rfl)) rfl rfl ?_
 refine o_vg (v:=.bool d1.dead) (want_ct (t:=24) rfl rfl) (fun hk=>(r_ld one_bool (gdT hk) (S15.now.cell rfl))) rfl rfl ?_
 refine o_vg (v:=.bool (d0.dead==d1.dead)) (want_ct (t:=24) rfl rfl) (fun hk=>(r_boolEq un_bool (gdT hk) (gdT hk))) rfl rfl ?_
 refine o_w (v:=.bool ((((d0.kind==d1.kind)&&(d0.time==d1.time))&&(d0.node==d1.node))&&(d0.dead==d1.dead))) (r_pickAnd rfl (fun ht=>(gdT ht)) rfl) ?_
 refine o_w (v:=.bool ((((d0.kind==d1.kind)&&(d0.time==d1.time))&&(d0.node==d1.node))&&(d0.dead==d1.dead))) (r_mov rfl) ?_
 refine o_vg (v:=.pointer (some ⟨b13,4,none⟩)) (want_ct (t:=31) rfl rfl) (fun hk=>(r_fa fld_api_Value_4 rfl rfl)) rfl rfl ?_
 refine o_vg (v:=str d0.text) (want_ct (t:=31) rfl rfl) (fun hk=>(r_ld one_string (gdT hk) ((S13.fr G18 sI).now.cell rfl))) rfl rfl ?_
 refine o_vg (v:=.pointer (some ⟨b15,4,none⟩)) (want_ct (t:=31) rfl rfl) (fun hk=>(r_fa fld_api_Value_4 rfl rfl)) rfl rfl ?_
 refine o_vg (v:=str d1.text) (want_ct (t:=31) rfl rfl) (fun hk=>(r_ld one_string (gdT hk) (S15.now.cell rfl))) rfl rfl ?_
 refine o_vg (v:=.bool (d0.text==d1.text)) (want_ct (t:=31) rfl rfl) (fun hk=>(r_str (gdT hk) (gdT hk) rfl)) rfl rfl ?_
 refine o_w (v:=.bool (((((d0.kind==d1.kind)&&(d0.time==d1.time))&&(d0.node==d1.node))&&(d0.dead==d1.dead))&&(d0.text==d1.text))) (r_pickAnd rfl (fun ht=>(gdT ht)) rfl) ?_
 refine o_w (v:=.bool (((((d0.kind==d1.kind)&&(d0.time==d1.time))&&(d0.node==d1.node))&&(d0.dead==d1.dead))&&(d0.text==d1.text))) (r_mov rfl) ?_
 refine o_vg (v:=.pointer (some ⟨b13,7,none⟩)) (want_ct (t:=38) rfl rfl) (fun hk=>(r_fa fld_api_Value_7 rfl rfl)) rfl rfl ?_
 refine o_vg (v:=.int .u64 d0.flags) (want_ct (t:=38) rfl rfl) (fun hk=>(r_ld one_uint64 (gdT hk) ((S13.fr G18 sI).now.cell rfl))) rfl rfl ?_
 refine o_vg (v:=.pointer (some ⟨b15,7,none⟩)) (want_ct (t:=38) rfl rfl) (fun hk=>(r_fa fld_api_Value_7 rfl rfl)) rfl rfl ?_
 refine o_vg (v:=.int .u64 d1.flags) (want_ct (t:=38) rfl rfl) (fun hk=>(r_ld one_uint64 (gdT hk) (S15.now.cell rfl))) rfl rfl ?_
 refine o_vg (v:=.bool (d0.flags==d1.flags)) (want_ct (t:=38) rfl rfl) (fun hk=>(r_int (gdT hk) (gdT hk) rfl)) rfl rfl ?_
 refine o_w (v:=.bool ((((((d0.kind==d1.kind)&&(d0.time==d1.time))&&(d0.node==d1.node))&&(d0.dead==d1.dead))&&(d0.text==d1.text))&&(d0.flags==d1.flags))) (r_pickAnd rfl (fun ht=>(gdT ht)) rfl) ?_
 refine o_w (v:=.bool ((((((d0.kind==d1.kind)&&(d0.time==d1.time))&&(d0.node==d1.node))&&(d0.dead==d1.dead))&&(d0.text==d1.text))&&(d0.flags==d1.flags))) (r_mov rfl) ?_
 refine o_vg (v:=.pointer (some ⟨b13,5,none⟩)) (want_ct (t:=45) rfl rfl) (fun hk=>(r_fa fld_api_Value_5 rfl rfl)) rfl rfl ?_
 refine o_vg (v:=.slice A1 d0.plus.length c2) (want_ct (t:=45) rfl rfl) (fun hk=>(r_ld one_s_int (gdT hk) ((S13.fr G18 sI).now.cell rfl))) rfl rfl ?_
 refine o_vg (v:=.pointer (some ⟨b15,5,none⟩)) (want_ct (t:=45) rfl rfl) (fun hk=>(r_fa fld_api_Value_5 rfl rfl)) rfl rfl ?_
 refine o_vg (v:=.slice A7 d1.plus.length c8) (want_ct (t:=45) rfl rfl) (fun hk=>(r_ld one_s_int (gdT hk) (S15.now.cell rfl))) rfl rfl ?_
 obtain ⟨x21,hx21,h⟩:=h
 refine o_callg (V:=.bool x21) cf_ref01_Ints (want_ct (t:=45) rfl rfl) (fun hk=>(mapv2 (gdT hk) (gdT hk))) (fun hk=>(ref01_Ints_c d0.plus (H3.fr (G14.trans (Fr.ext F15)) sI) d1.plus (H9.fr (G14.trans (Fr.ext F15)) sI) (hL.fr E16) (hx21 hk))) rfl ?_
 intro w21 F21
 have E22:=E16.trans F21
 have G25:Fr L w15 w21:=Fr.ext F21
 refine o_w (v:=.bool (((((((d0.kind==d1.kind)&&(d0.time==d1.time))&&(d0.node==d1.node))&&(d0.dead==d1.dead))&&(d0.text==d1.text))&&(d0.flags==d1.flags))&&x21)) (r_pickAnd rfl (fun ht=>(gdT ht)) rfl) ?_
 refine o_w (v:=.bool (((((((d0.kind==d1.kind)&&(d0.time==d1.time))&&(d0.node==d1.node))&&(d0.dead==d1.dead))&&(d0.text==d1.text))&&(d0.flags==d1.flags))&&x21)) (r_mov rfl) ?_
 refine o_vg (v:=.pointer (some ⟨b13,6,none⟩)) (want_ct (t:=52) rfl rfl) (fun hk=>(r_fa fld_api_Value_6 rfl rfl)) rfl rfl ?_
 refine o_vg (v:=.slice A4 d0.minus.length c5) (want_ct (t:=52) rfl rfl) (fun hk=>(r_ld one_s_int (gdT hk) ((S13.fr (G18.trans (Fr.ext F21)) sI).now.cell rfl))) rfl rfl ?_
 refine o_vg (v:=.pointer (some ⟨b15,6,none⟩)) (want_ct (t:=52) rfl rfl) (fun hk=>(r_fa fld_api_Value_6 rfl rfl)) rfl rfl ?_
 refine o_vg (v:=.slice A10 d1.minus.length c11) (want_ct (t:=52) rfl rfl) (fun hk=>(r_ld one_s_int (gdT hk) ((S15.fr G25 sI).now.cell rfl))) rfl rfl ?_
 obtain ⟨x26,hx26,h⟩:=h
 refine o_callg (V:=.bool x26) cf_ref01_Ints (want_ct (t:=52) rfl rfl) (fun hk=>(mapv2 (gdT hk) (gdT hk))) (fun hk=>(ref01_Ints_c d0.minus (H6.fr ((G14.trans (Fr.ext F15)).trans (Fr.ext F21)) sI) d1.minus (H12.fr ((G14.trans (Fr.ext F15)).trans (Fr.ext F21)) sI) (hL.fr E22) (hx26 hk))) rfl ?_
 intro w26 F26
 have E27:=E22.trans F26
 refine o_w (v:=.bool ((((((((d0.kind==d1.kind)&&(d0.time==d1.time))&&(d0.node==d1.node))&&(d0.dead==d1.dead))&&(d0.text==d1.text))&&(d0.flags==d1.flags))&&x21)&&x26)) (r_pickAnd rfl (fun ht=>(gdT ht)) rfl) ?_
 refine o_w (v:=.bool ((((((((d0.kind==d1.kind)&&(d0.time==d1.time))&&(d0.node==d1.node))&&(d0.dead==d1.dead))&&(d0.text==d1.text))&&(d0.flags==d1.flags))&&x21)&&x26)) (r_asg rfl) ?_
 refine eo_nil_sq ?_
 refine ec_ret ?_
 subst h
 exact (end1 rfl ⟨_,rfl,E27,rfl⟩)
def ref06_Least_raw (d0:Int) (y:Val × Int):Prop :=
 (((decide (d0<1))||(decide (3<d0)))=true→(y=((⟨(0:Int),(0:Int),(0:Int),false,([]:Str),([]:List Int),([]:List Int),(0:Int)⟩:Val),(3:Int))))∧(((decide (d0<1))||(decide (3<d0)))=false→(((d0==2)=true→((0≤(8:Int)∧(8:Int) * 8≤281474976710656∧(8:Int)≤9223372036854775807)∧((0≤(8:Int)∧(8:Int) * 8≤281474976710656∧(8:Int)≤9223372036854775807)∧(y=((⟨d0,(0:Int),(0:Int),false,([]:Str),(List.replicate ((8:Int)).toNat (0:Int)),(List.replicate ((8:Int)).toNat (0:Int)),(0:Int)⟩:Val),(0:Int))))))∧((d0==2)=false→(y=((⟨d0,(0:Int),(0:Int),false,([]:Str),([]:List Int),([]:List Int),(0:Int)⟩:Val),(0:Int))))))
set_option maxRecDepth 20000 in
set_option maxHeartbeats 4000000 in
theorem ref06_Least_c {L:List Nat} {w:World} (d0:Int) (hL:Lt L w) {y:Val × Int} (h:ref06_Least_raw d0 y) :
  Calls Tryz.prog 62 [.int .i64 d0].toArray w (Ret fun v w'=>Ext w w'∧∃ (cs90:List Value),v=.tuple #[.agg cs90.toArray,.int .i64 y.2]∧Stb L w' (fun w=>kVal.r w cs90 y.1)):=by
 unfold ref06_Least_raw at h
 refine calls_ec Tryz.func62 rfl rfl rfl ?_
 refine ec_seq ?_
 refine ec_region ?_
 refine o_alloc zero_api_Value rfl rfl rfl ?_
 intro b1 w1 e1 F1 B1
 have n1:w.heap.size≤b1:=Nat.le_of_eq e1.symm
 refine o_w (v:=.int .i64 0) (r_asg rfl) ?_
 refine eo_nil_sq ?_
 refine ec_seq ?_
 refine ec_region ?_
 refine o_w (v:=.int .i64 d0) (r_mov rfl) ?_
 refine o_w (v:=.agg #[.int .i64 d0,.int .i64 0,.int .i64 0,.bool false,str [],.slice none ([]:List Int).length 0,.slice none ([]:List Int).length 0,.int .u64 0]) (r_build bld_api_Value (vs:=[(0,.int .i64 d0)]) (cells:=[.int .i64 d0,.int .i64 0,.int .i64 0,.bool false,str [],.slice none ([]:List Int).length 0,.slice none ([]:List Int).length 0,.int .u64 0]) rfl rfl) ?_
 refine o_alloc zero_api_Value rfl rfl rfl ?_
 intro b2 w2 e2 F2 B2
 have n2:w.heap.size≤b2:=by rw [e2]; exact F1.size
 have q3:b1<b2:=by rw [e2]; exact B1.lt
 have E4:=F1.trans F2
 refine o_store rfl B2 (vs:=[.int .i64 d0,.int .i64 0,.int .i64 0,.bool false,str [],.slice none ([]:List Int).length 0,.slice none ([]:List Int).length 0,.int .u64 0]) rfl sz_api_Value rfl rfl rfl ?_
 intro w6 F6 B6
 have E7:=Ext.st E4 F6 (by simp; omega)
 have B8:=(B1.ex F2).fr F6 (by simp; omega)
 have B6':Blk w6 b2 _ [.int .i64 d0,.int .i64 0,.int .i64 0,.bool false,str [],.slice none ([]:List Int).length 0,.slice none ([]:List Int).length 0,.int .u64 0]:=B6
 refine eo_nil_sq ?_
 iterate 2 refine ec_seq ?_
 refine ec_region ?_
 refine o_w (v:=.int .i64 d0) (r_mov rfl) ?_
 refine o_w (v:=.bool (decide (d0<1))) (r_int rfl rfl rfl) ?_
 refine o_w (v:=.bool (decide (d0<1))) (r_mov rfl) ?_
 refine o_vg (v:=.int .i64 d0) (want_cf (t:=9) rfl rfl) (fun hk=>(r_mov rfl)) rfl rfl ?_
 refine o_vg (v:=.bool (decide (3<d0))) (want_cf (t:=9) rfl rfl) (fun hk=>(r_int (gdT hk) rfl rfl)) rfl rfl ?_
 refine o_w (v:=.bool ((decide (d0<1))||(decide (3<d0)))) (r_pickOr rfl rfl (fun hf=>(gdT (notT hf)))) ?_
 refine eo_nil_sq ?_
 refine ec_cond rfl (fun hc9=>?_) (fun hc9=>?_)
 ·replace h:=h.1 hc9
  refine ec_seq ?_
  refine ec_region ?_
  refine o_w (v:=.agg #[.int .i64 0,.int .i64 0,.int .i64 0,.bool false,str [],.slice none ([]:List Int).length 0,.slice none ([]:List Int).length 0,.int .u64 0]) (r_build bld_api_Value (vs:=[]) (cells:=[.int .i64 0,.int .i64 0,.int .i64 0,.bool false,str [],.slice none ([]:List Int).length 0,.slice none ([]:List Int).length 0,.int .u64 0]) rfl rfl) ?_
  refine o_store rfl B8 (vs:=[.int .i64 0,.int .i64 0,.int .i64 0,.bool false,str [],.slice none ([]:List Int).length 0,.slice none ([]:List Int).length 0,.int .u64 0]) rfl sz_api_Value rfl rfl rfl ?_
  intro w10 F10 B10
  have E11:=Ext.st E7 F10 (by simp; omega)
  have B10':Blk w10 b1 _ [.int .i64 0,.int .i64 0,.int .i64 0,.bool false,str [],.slice none ([]:List Int).length 0,.slice none ([]:List Int).length 0,.int .u64 0]:=B10
  refine o_w (v:=.int .i64 3) (r_asg rfl) ?_
  refine eo_nil_sq ?_
  refine ec_ret ?_
  refine sq_ret ?_
  subst h
  exact (endr2 (rv_a rfl (agg_api_Value) B10' (vs:=[.int .i64 0,.int .i64 0,.int .i64 0,.bool false,str [],.slice none ([]:List Int).length 0,.slice none ([]:List Int).length 0,.int .u64 0]) rfl rfl) (rv_t rfl) ⟨_,rfl,E11,_,rfl,(kVal_mk (d:=(⟨(0:Int),(0:Int),(0:Int),false,([]:Str),([]:List Int),([]:List Int),(0:Int)⟩:Val)) stb_nil stb_nil)⟩)
 ·replace h:=h.2 hc9
  refine ec_skip ?_
  refine sq_n ?_
  iterate 2 refine ec_seq ?_
  refine ec_region ?_
  refine o_w (v:=.int .i64 d0) (r_mov rfl) ?_
  refine o_w (v:=.bool (d0==2)) (r_int rfl rfl rfl) ?_
  refine eo_nil_sq ?_
  refine ec_cond rfl (fun hc13=>?_) (fun hc13=>?_)
  ·replace h:=h.1 hc13
   refine ec_seq ?_
   refine ec_region ?_
   have lo14:w.heap.size≤w6.heap.size:=E7.size
   obtain ⟨ha15,h⟩:=h
   refine o_make (k:=(kI .i64)) slc_s_int rfl rfl (z:=(0:Int)) (fun _=>rfl) rfl rfl ha15 (((hL.fr E7).cons B8.lt).cons B6'.lt) rfl rfl (by decide) ?_
   intro v14 w14 F14 O14 N14
   have E16:=E7.trans F14
   refine o_w (v:=.pointer (some ⟨b2,5,none⟩)) (r_fa fld_api_Value_5 rfl rfl) ?_
   obtain ⟨A19,c20,rfl⟩:=O14.shape
   refine o_store rfl (B6'.ex F14) (vs:=[(.slice A19 (List.replicate ((8:Int)).toNat (0:Int)).length c20)]) rfl sz_s_int rfl rfl rfl ?_
   intro w21 F21 B21
   have E22:=Ext.st E16 F21 (by simp; omega)
   have B23:=(B8.ex F14).fr F21 (by simp; omega)
   have O24:=O14.fr F21 (by simp)
   have B21':Blk w21 b2 _ [.int .i64 d0,.int .i64 0,.int .i64 0,.bool false,str [],(.slice A19 (List.replicate ((8:Int)).toNat (0:Int)).length c20),.slice none ([]:List Int).length 0,.int .u64 0]:=B21
   refine eo_nil_sq ?_
   refine ec_region ?_
   have lo25:w.heap.size≤w21.heap.size:=E22.size
   obtain ⟨ha26,h⟩:=h
   refine o_make (k:=(kI .i64)) slc_s_int rfl rfl (z:=(0:Int)) (fun _=>rfl) rfl rfl ha26 ((((hL.fr E22).cons B23.lt).cons B21'.lt).own O24) rfl rfl (by decide) ?_
   intro v25 w25 F25 O25 N25
   have E27:=E22.trans F25
   refine o_w (v:=.pointer (some ⟨b2,6,none⟩)) (r_fa fld_api_Value_6 rfl rfl) ?_
   obtain ⟨A31,c32,rfl⟩:=O25.shape
   refine o_store rfl (B21'.ex F25) (vs:=[(.slice A31 (List.replicate ((8:Int)).toNat (0:Int)).length c32)]) rfl sz_s_int rfl rfl rfl ?_
   intro w33 F33 B33
   have E34:=Ext.st E27 F33 (by simp; omega)
   have B35:=(B23.ex F25).fr F33 (by simp; omega)
   have O36:=(O24.ex F25).fr F33 (by simp)
   have O37:=O25.fr F33 (by simp)
   have B33':Blk w33 b2 _ [.int .i64 d0,.int .i64 0,.int .i64 0,.bool false,str [],(.slice A19 (List.replicate ((8:Int)).toNat (0:Int)).length c20),(.slice A31 (List.replicate ((8:Int)).toNat (0:Int)).length c32),.int .u64 0]:=B33
   refine eo_nil_sq ?_
   refine ec_seq ?_
   refine ec_region ?_
   refine o_w (v:=.agg #[.int .i64 d0,.int .i64 0,.int .i64 0,.bool false,str [],(.slice A19 (List.replicate ((8:Int)).toNat (0:Int)).length c20),(.slice A31 (List.replicate ((8:Int)).toNat (0:Int)).length c32),.int .u64 0]) (r_lda agg_api_Value rfl (vs:=[.int .i64 d0,.int .i64 0,.int .i64 0,.bool false,str [],(.slice A19 (List.replicate ((8:Int)).toNat (0:Int)).length c20),(.slice A31 (List.replicate ((8:Int)).toNat (0:Int)).length c32),.int .u64 0]) rfl (B33'.part (n:=8) rfl)) ?_
   refine o_store rfl B35 (vs:=[.int .i64 d0,.int .i64 0,.int .i64 0,.bool false,str [],(.slice A19 (List.replicate ((8:Int)).toNat (0:Int)).length c20),(.slice A31 (List.replicate ((8:Int)).toNat (0:Int)).length c32),.int .u64 0]) rfl sz_api_Value rfl rfl rfl ?_
   intro w38 F38 B38
   have E39:=Ext.st E34 F38 (by simp; omega)
   have O41:=O36.fr F38 (by simp)
   have O42:=O37.fr F38 (by simp)
   have B38':Blk w38 b1 _ [.int .i64 d0,.int .i64 0,.int .i64 0,.bool false,str [],(.slice A19 (List.replicate ((8:Int)).toNat (0:Int)).length c20),(.slice A31 (List.replicate ((8:Int)).toNat (0:Int)).length c32),.int .u64 0]:=B38
   refine o_w (v:=.int .i64 0) (r_asg rfl) ?_
   refine eo_nil_sq ?_
   refine ec_ret ?_
   obtain ⟨A43,c44,eA43,H45⟩:=O41.still
   cases eA43
   have Zw38_46:=Fr.refl (b2::(b1::L)) w38
   obtain ⟨A48,c49,eA48,H50⟩:=O42.still
   cases eA48
   have Zw38_51:=Fr.refl (own (.slice A19 (List.replicate ((8:Int)).toNat (0:Int)).length c20)++(b2::(b1::L))) w38
   subst h
   exact (endr2 (rv_a rfl (agg_api_Value) B38' (vs:=[.int .i64 d0,.int .i64 0,.int .i64 0,.bool false,str [],.slice A19 (List.replicate ((8:Int)).toNat (0:Int)).length c20,.slice A31 (List.replicate ((8:Int)).toNat (0:Int)).length c32,.int .u64 0]) rfl rfl) (rv_t rfl) ⟨_,rfl,E39,_,rfl,(kVal_mk (d:=(⟨d0,(0:Int),(0:Int),false,([]:Str),(List.replicate ((8:Int)).toNat (0:Int)),(List.replicate ((8:Int)).toNat (0:Int)),(0:Int)⟩:Val)) (H45.up Zw38_46 sI (fun m hm=>Or.inl (mT (mT hm)))) (H50.up Zw38_51 sI (fun m hm=>Or.inl (List.mem_append_right _ (mT (mT hm))))))⟩)
  ·replace h:=h.2 hc13
   refine ec_skip ?_
   refine sq_n ?_
   refine ec_seq ?_
   refine ec_region ?_
   refine o_w (v:=.agg #[.int .i64 d0,.int .i64 0,.int .i64 0,.bool false,str [],.slice none ([]:List Int).length 0,.slice none ([]:List Int).length 0,.int .u64 0]) (r_lda agg_api_Value rfl (vs:=[.int .i64 d0,.int .i64 0,.int .i64 0,.bool false,str [],.slice none ([]:List Int).length 0,.slice none ([]:List Int).length 0,.int .u64 0]) rfl (B6'.part (n:=8) rfl)) ?_
   refine o_store rfl B8 (vs:=[.int .i64 d0,.int .i64 0,.int .i64 0,.bool false,str [],.slice none ([]:List Int).length 0,.slice none ([]:List Int).length 0,.int .u64 0]) rfl sz_api_Value rfl rfl rfl ?_
   intro w53 F53 B53
   have E54:=Ext.st E7 F53 (by simp; omega)
   have B53':Blk w53 b1 _ [.int .i64 d0,.int .i64 0,.int .i64 0,.bool false,str [],.slice none ([]:List Int).length 0,.slice none ([]:List Int).length 0,.int .u64 0]:=B53
   refine o_w (v:=.int .i64 0) (r_asg rfl) ?_
   refine eo_nil_sq ?_
   refine ec_ret ?_
   subst h
   exact (endr2 (rv_a rfl (agg_api_Value) B53' (vs:=[.int .i64 d0,.int .i64 0,.int .i64 0,.bool false,str [],.slice none ([]:List Int).length 0,.slice none ([]:List Int).length 0,.int .u64 0]) rfl rfl) (rv_t rfl) ⟨_,rfl,E54,_,rfl,(kVal_mk (d:=(⟨d0,(0:Int),(0:Int),false,([]:Str),([]:List Int),([]:List Int),(0:Int)⟩:Val)) stb_nil stb_nil)⟩)
def ref06_Sum_b15 (d0:Val) (s15:Int × Int) (z15:(Int × Int) ⊕ (Int × Int)):Prop :=
 ((decide (s15.2<8))=true→((0≤s15.2∧s15.2<(d0.plus.length:Int))∧((0≤s15.2∧s15.2<(d0.minus.length:Int))∧(z15=.inl ((IntKind.i64.wrap ((IntKind.i64.wrap (s15.1 + (nth d0.plus s15.2))) - (nth d0.minus s15.2))),(IntKind.i64.wrap (s15.2 + (1:Int))))))))∧((decide (s15.2<8))=false→(z15=.inr (s15.1,s15.2)))
def ref06_Sum_raw (d0:Val) (y:Int):Prop :=
 ∃ x10,ref06_Check_raw d0 x10∧((((!x10)||(d0.kind != (2:Int)))=true→(y=(0:Int)))∧(((!x10)||(d0.kind != (2:Int)))=false→(∃ x15,LoopR (ref06_Sum_b15 d0) ((0:Int),(0:Int)) x15∧(y=x15.1))))
set_option maxRecDepth 20000 in
set_option maxHeartbeats 4000000 in
theorem ref06_Sum_c {L:List Nat} {w:World} {csP0:List Value} (d0:Val) (HP0:Stb L w (fun w=>kVal.r w csP0 d0)) (hL:Lt L w) {y:Int} (h:ref06_Sum_raw d0 y) :
  Calls Tryz.prog 50 [.agg csP0.toArray].toArray w (Ret fun v w'=>Ext w w'∧v=.int .i64 y):=by
 obtain ⟨A1,c2,A4,c5,rfl,H3,H6⟩:=kVal_open HP0
 unfold ref06_Sum_raw at h
 refine calls_ec Tryz.func50 rfl rfl rfl ?_
 refine ec_seq ?_
 refine ec_region ?_
 refine o_box (cs:=(cVal d0 A1 c2 A4 c5)) rfl rfl rfl ?_
 intro b7 w7 e7 F7 B7
 have S7:=B7.stb (nin hL e7)
 have G8:Fr L w w7:=Fr.ext F7
 refine o_w (v:=.int .i64 0) (r_asg rfl) ?_
 refine eo_nil_sq ?_
 refine ec_seq ?_
 refine ec_region ?_
 refine o_w (v:=.int .i64 0) (r_asg rfl) ?_
 refine eo_nil_sq ?_
 iterate 2 refine ec_seq ?_
 refine ec_region ?_
 refine o_w (v:=.agg (cVal d0 A1 c2 A4 c5).toArray) (r_lda agg_api_Value rfl (vs:=(cVal d0 A1 c2 A4 c5)) rfl (S7.now.part (n:=8) rfl)) ?_
 obtain ⟨x10,hx10,h⟩:=h
 refine o_call cf_ref06_Check rfl (ref06_Check_c d0 (kVal_mk (d:=d0) (H3.fr G8 sI) (H6.fr G8 sI)) (hL.fr F7) hx10) rfl rfl ?_
 rintro _ w10 ⟨F10,rfl⟩
 have E11:=F7.trans F10
 have G13:Fr L w7 w10:=Fr.ext F10
 refine o_w (v:=.bool (!x10)) (r_not rfl) ?_
 refine o_w (v:=.bool (!x10)) (r_mov rfl) ?_
 refine o_vg (v:=.pointer (some ⟨b7,0,none⟩)) (want_cf (t:=8) rfl rfl) (fun hk=>(r_fa fld_api_Value_0 rfl rfl)) rfl rfl ?_
 refine o_vg (v:=.int .i64 d0.kind) (want_cf (t:=8) rfl rfl) (fun hk=>(r_ld one_int (gdT hk) ((S7.fr G13 sI).now.cell rfl))) rfl rfl ?_
 refine o_vg (v:=.bool (d0.kind != (2:Int))) (want_cf (t:=8) rfl rfl) (fun hk=>(r_int (gdT hk) rfl rfl)) rfl rfl ?_
 refine o_w (v:=.bool ((!x10)||(d0.kind != (2:Int)))) (r_pickOr rfl rfl (fun hf=>(gdT (notT hf)))) ?_
 refine eo_nil_sq ?_
 refine ec_cond rfl (fun hc14=>?_) (fun hc14=>?_)
 ·replace h:=h.1 hc14
  refine ec_seq ?_
  refine ec_region ?_
  refine o_w (v:=.int .i64 0) (r_asg rfl) ?_
  refine eo_nil_sq ?_
  refine ec_ret ?_
  refine sq_ret ?_
  subst h
  exact (end1 rfl ⟨_,rfl,E11,rfl⟩)
 ·replace h:=h.2 hc14
  refine ec_skip ?_
  refine sq_n ?_
  iterate 2 refine ec_seq ?_
  refine ec_region ?_
  refine o_w (v:=.int .i64 0) (r_asg rfl) ?_
  refine eo_nil_sq ?_
  refine ec_block ?_
  obtain ⟨x15,hl15,h⟩:=h
  refine ec_loopE 0 (I:=(fun (s15:Int × Int) ρ ds w'=>∃ (ρ':Env),ρ=envs ρ' [(3,.int .i64 s15.1),(4,.int .i64 s15.2),(1,.pointer (some ⟨b7,0,none⟩))]∧ds=[]∧Fr L w10 w'∧Ext w w')) ?_ hl15 ?_ ?_
  ·intro s15 z15 ρ15 ds15 w15r hI15 hb15
   obtain ⟨ρ15r,rfl,rfl,F15r,E15r⟩:=hI15
   have h:=hb15
   unfold ref06_Sum_b15 at h
   have G16:Fr L w w15r:=(G8.trans (Fr.ext F10)).stp F15r (fun _ h=>.inl h)
   have G17:Fr L w7 w15r:=G13.stp F15r (fun _ h=>.inl h)
   iterate 2 refine ec_seq ?_
   refine ec_region ?_
   refine o_w (v:=.int .i64 s15.2) (r_mov rfl) ?_
   refine o_w (v:=.bool (decide (s15.2<8))) (r_int rfl rfl rfl) ?_
   refine eo_nil_sq ?_
   refine ec_cond rfl (fun hc18=>?_) (fun hc18=>?_)
   ·replace h:=h.1 hc18
    refine ec_skip ?_
    refine sq_n ?_
    refine ec_seq ?_
    refine ec_block ?_
    obtain ⟨ha28,h⟩:=h
    obtain ⟨cs29,l31,H30⟩:=Stb.elem (by decide) (H3.fr G16 sI) s15.2 ha28.1 ha28.2
    obtain ⟨rfl,H30'⟩:=kI_open2 H30
    obtain ⟨ha32,h⟩:=h
    obtain ⟨cs33,l35,H34⟩:=Stb.elem (by decide) (H6.fr G16 sI) s15.2 ha32.1 ha32.2
    obtain ⟨rfl,H34'⟩:=kI_open2 H34
    refine ec_any0 (by kernel_rfl) [[],[],[1],[],[1,2,3],[1,2,3,4],[0,1,2,3,4,5],[],[7],[],[7,8,9],[7,8,9,10],[0,1,2,3,4,5,6,7,8,9,10,11],[0,1,2,3,4,5,6,7,8,9,10,11,12]] [3,17,18,19,20,21,22,23,24,25,26,27,28,29] [fun v _=>v=(.int .i64 s15.1:Value),fun v _=>v=(.pointer (some ⟨b7,5,none⟩):Value),fun v _=>v=(.slice A1 d0.plus.length c2:Value),fun v _=>v=(.int .i64 s15.2:Value),fun v _=>v=(.pointer (some (elemA A1 (kI .i64).n s15.2.toNat)):Value),fun v _=>v=(.int .i64 (nth d0.plus s15.2):Value),fun v _=>v=(.int .i64 (IntKind.i64.wrap (s15.1 + (nth d0.plus s15.2))):Value),fun v _=>v=(.pointer (some ⟨b7,6,none⟩):Value),fun v _=>v=(.slice A4 d0.minus.length c5:Value),fun v _=>v=(.int .i64 s15.2:Value),fun v _=>v=(.pointer (some (elemA A4 (kI .i64).n s15.2.toNat)):Value),fun v _=>v=(.int .i64 (nth d0.minus s15.2):Value),fun v _=>v=(.int .i64 (IntKind.i64.wrap ((IntKind.i64.wrap (s15.1 + (nth d0.plus s15.2))) - (nth d0.minus s15.2))):Value),fun v _=>v=(.int .i64 (IntKind.i64.wrap ((IntKind.i64.wrap (s15.1 + (nth d0.plus s15.2))) - (nth d0.minus s15.2))):Value)] (by kernel_rfl) ⟨fun _ _ _ _ _ h=>h,fun _ _ _ _ _ h=>h,fun _ _ _ _ _ h=>h,fun _ _ _ _ _ h=>h,fun _ _ _ _ _ h=>h,fun _ _ _ _ _ h=>h,fun _ _ _ _ _ h=>h,fun _ _ _ _ _ h=>h,fun _ _ _ _ _ h=>h,fun _ _ _ _ _ h=>h,fun _ _ _ _ _ h=>h,fun _ _ _ _ _ h=>h,fun _ _ _ _ _ h=>h,fun _ _ _ _ _ h=>h,trivial⟩ ?_ ?_
    ·refine ⟨?_,?_,?_,?_,?_,?_,?_,?_,?_,?_,?_,?_,?_,?_,trivial⟩
     ·intro ρ w27o F27o hS hρ
      have q3:ρ 3=.int .i64 s15.1:=hρ 3 (by kernel_rfl)
      exact o_q (r_mov q3) ⟨Fr.refl _ _,rfl⟩
     ·intro ρ w27o F27o hS hρ
      have q1:ρ 1=.pointer (some ⟨b7,0,none⟩):=hρ 1 (by kernel_rfl)
      exact o_q (r_fa fld_api_Value_5 rfl q1) ⟨Fr.refl _ _,rfl⟩
     ·intro ρ w27o F27o hS hρ
      have q18:ρ 18=.pointer (some ⟨b7,5,none⟩):=hS 1 (by decide) 18 rfl
      exact o_q (r_ld one_s_int q18 ((S7.fr (G17.trans (Fr.ext F27o)) sI).now.cell rfl)) ⟨Fr.refl _ _,rfl⟩
     ·intro ρ w27o F27o hS hρ
      have q4:ρ 4=.int .i64 s15.2:=hρ 4 (by kernel_rfl)
      exact o_q (r_mov q4) ⟨Fr.refl _ _,rfl⟩
     ·intro ρ w27o F27o hS hρ
      have q19:ρ 19=.slice A1 d0.plus.length c2:=hS 2 (by decide) 19 rfl
      have q20:ρ 20=.int .i64 s15.2:=hS 3 (by decide) 20 rfl
      exact o_q (r_ia slc_s_int q19 q20 ((H3.fr (G16.trans (Fr.ext F27o)) sI).now.2 _ (lt_toNat ha28.1 ha28.2)).1 ha28.1 ha28.2) ⟨Fr.refl _ _,rfl⟩
     ·intro ρ w27o F27o hS hρ
      have G50:Fr L w15r w27o:=Fr.ext F27o
      have q21:ρ 21=.pointer (some (elemA A1 (kI .i64).n s15.2.toNat)):=hS 4 (by decide) 21 rfl
      exact o_q (r_ld' one_int q21 (elemA_spot _ _ _) ((H30'.fr G50 sI).now.1.at0 (elemA_spot _ _ _))) ⟨Fr.refl _ _,rfl⟩
     ·intro ρ w27o F27o hS hρ
      have q17:ρ 17=.int .i64 s15.1:=hS 0 (by decide) 17 rfl
      have q22:ρ 22=.int .i64 (nth d0.plus s15.2):=hS 5 (by decide) 22 rfl
      exact o_q (r_int q17 q22 rfl) ⟨Fr.refl _ _,rfl⟩
     ·intro ρ w27o F27o hS hρ
      have q1:ρ 1=.pointer (some ⟨b7,0,none⟩):=hρ 1 (by kernel_rfl)
      exact o_q (r_fa fld_api_Value_6 rfl q1) ⟨Fr.refl _ _,rfl⟩
     ·intro ρ w27o F27o hS hρ
      have q24:ρ 24=.pointer (some ⟨b7,6,none⟩):=hS 7 (by decide) 24 rfl
      exact o_q (r_ld one_s_int q24 ((S7.fr (G17.trans (Fr.ext F27o)) sI).now.cell rfl)) ⟨Fr.refl _ _,rfl⟩
     ·intro ρ w27o F27o hS hρ
      have q4:ρ 4=.int .i64 s15.2:=hρ 4 (by kernel_rfl)
      exact o_q (r_mov q4) ⟨Fr.refl _ _,rfl⟩
     ·intro ρ w27o F27o hS hρ
      have q25:ρ 25=.slice A4 d0.minus.length c5:=hS 8 (by decide) 25 rfl
      have q26:ρ 26=.int .i64 s15.2:=hS 9 (by decide) 26 rfl
      exact o_q (r_ia slc_s_int q25 q26 ((H6.fr (G16.trans (Fr.ext F27o)) sI).now.2 _ (lt_toNat ha32.1 ha32.2)).1 ha32.1 ha32.2) ⟨Fr.refl _ _,rfl⟩
     ·intro ρ w27o F27o hS hρ
      have G65:Fr L w15r w27o:=Fr.ext F27o
      have q27:ρ 27=.pointer (some (elemA A4 (kI .i64).n s15.2.toNat)):=hS 10 (by decide) 27 rfl
      exact o_q (r_ld' one_int q27 (elemA_spot _ _ _) ((H34'.fr G65 sI).now.1.at0 (elemA_spot _ _ _))) ⟨Fr.refl _ _,rfl⟩
     ·intro ρ w27o F27o hS hρ
      have q23:ρ 23=.int .i64 (IntKind.i64.wrap (s15.1 + (nth d0.plus s15.2))):=hS 6 (by decide) 23 rfl
      have q28:ρ 28=.int .i64 (nth d0.minus s15.2):=hS 11 (by decide) 28 rfl
      exact o_q (r_int q23 q28 rfl) ⟨Fr.refl _ _,rfl⟩
     ·intro ρ w27o F27o hS hρ
      have q29:ρ 29=.int .i64 (IntKind.i64.wrap ((IntKind.i64.wrap (s15.1 + (nth d0.plus s15.2))) - (nth d0.minus s15.2))):=hS 12 (by decide) 29 rfl
      exact o_q (r_asg q29) ⟨Fr.refl _ _,rfl⟩
    ·intro ρ w27 F27 hS hρ
     have q3:ρ 3=.int .i64 (IntKind.i64.wrap ((IntKind.i64.wrap (s15.1 + (nth d0.plus s15.2))) - (nth d0.minus s15.2))):=hS 13 3 rfl
     obtain ⟨ρ',rfl⟩:∃ ρ',ρ=envs (ovr [3,17,18,19,20,21,22,23,24,25,26,27,28,29] ρ' _) [(3,.int .i64 (IntKind.i64.wrap ((IntKind.i64.wrap (s15.1 + (nth d0.plus s15.2))) - (nth d0.minus s15.2))))]:=⟨ρ,ovr_self hρ ⟨q3,trivial⟩⟩
     have E66:=E15r.trans F27
     refine blk_n ?_
     refine sq_n ?_
     refine ec_region ?_
     refine o_w (v:=.int .i64 s15.2) (r_mov rfl) ?_
     refine o_w (v:=.int .i64 (IntKind.i64.wrap (s15.2 + (1:Int)))) (r_int rfl rfl rfl) ?_
     refine o_w (v:=.int .i64 (IntKind.i64.wrap (s15.2 + (1:Int)))) (r_asg rfl) ?_
     refine eo_nil ?_
     subst h
     exact lq_n ⟨_,envs_self ⟨rfl,rfl,rfl,trivial⟩,rfl,(F15r.trans (Fr.ext F27)),E66⟩
   ·replace h:=h.2 hc18
    refine ec_exit ?_
    refine sq_exit ?_
    subst h
    exact lq_x ⟨_,envs_self ⟨rfl,rfl,rfl,trivial⟩,rfl,F15r,E15r⟩
  ·exact ⟨_,envs_self ⟨rfl,rfl,rfl,trivial⟩,rfl,(Fr.refl _ _),E11⟩
  ·rintro ρ15e ds15e w15e ⟨ρ15e,rfl,rfl,F15e,E15e⟩
   refine blk_hit ?_
   refine sq_n ?_
   refine ec_seq ?_
   refine ec_region ?_
   refine o_w (v:=.int .i64 x15.1) (r_mov rfl) ?_
   refine o_w (v:=.int .i64 x15.1) (r_asg rfl) ?_
   refine eo_nil_sq ?_
   refine ec_ret ?_
   subst h
   exact (end1 rfl ⟨_,rfl,E15e,rfl⟩)
end Go.Proofs.YthhjcijhanacnaaGreat
