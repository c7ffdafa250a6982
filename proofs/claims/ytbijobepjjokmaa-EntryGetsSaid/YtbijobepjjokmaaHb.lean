/- References of entries. -/
import Derived.Test.YtbijobepjjokmaaHa
namespace Go.Proofs.Ytbijobepjjokmaa
open Go Go.RowKit
set_option linter.unusedVariables false
set_option linter.unusedSimpArgs false
def ref07_nums_b1 (d0:(List Int)) (s1:Str × Int) (z1:(Str × Int) ⊕ (Str × Int)):Prop :=
 ((decide (s1.2<(d0.length:Int)))=true→((0≤s1.2∧s1.2<(d0.length:Int))∧(∃ x8,ref07_num_raw (nth d0 s1.2) (2:Int) x8∧(s1.1.length + x8.length≤9223372036854775807∧(z1=.inl ((s1.1++x8),(IntKind.i64.wrap (s1.2 + (1:Int)))))))))∧((decide (s1.2<(d0.length:Int)))=false→(z1=.inr (s1.1,s1.2)))
def ref07_nums_raw (d0:(List Int)) (y:Str):Prop :=
 ∃ x1,LoopR (ref07_nums_b1 d0) (([]:Str),(0:Int)) x1∧(y=x1.1)
set_option maxRecDepth 20000 in
set_option maxHeartbeats 4000000 in
theorem ref07_nums_c {L:List Nat} {w:World} {AP0:Option Addr} {cP0:Nat} (d0:(List Int)) (HP0:Stb L w (fun w=>SlC (kI .i64) w AP0 cP0 d0)) (hL:Lt L w) {y:Str} (h:ref07_nums_raw d0 y) :
  Calls Try.prog 56 [.slice AP0 d0.length cP0].toArray w (Ret fun v w'=>Ext w w'∧v=str y):=by
 unfold ref07_nums_raw at h
 refine calls_ec Try.func56 rfl rfl rfl ?_
 refine ec_seq ?_
 refine ec_region ?_
 refine o_w (v:=str ([]:Str)) (r_asg rfl) ?_
 refine eo_nil_sq ?_
 refine ec_seq ?_
 refine ec_region ?_
 refine o_w (v:=str ([]:Str)) (r_asg rfl) ?_
 refine eo_nil_sq ?_
 iterate 2 refine ec_seq ?_
 refine ec_region ?_
 refine o_w (v:=.int .i64 (0:Int)) (r_asg rfl) ?_
 refine eo_nil_sq ?_
 refine ec_block ?_
 obtain ⟨x1,hl1,h⟩:=h
 refine ec_loopE 0 (I:=(fun (s1:Str × Int) ρ ds w'=>∃ (ρ':Env),ρ=envs ρ' [(3,str s1.1),(4,.int .i64 s1.2),(0,.slice AP0 d0.length cP0)]∧ds=[]∧Fr L w w'∧Ext w w')) ?_ hl1 ?_ ?_
 ·intro s1 z1 ρ1 ds1 w1r hI1 hb1
  obtain ⟨ρ1r,rfl,rfl,F1r,E1r⟩:=hI1
  have h:=hb1
  unfold ref07_nums_b1 at h
  have G2:Fr L w w1r:=(Fr.refl _ _).stp F1r (fun _ h=>.inl h)
  iterate 2 refine ec_seq ?_
  refine ec_region ?_
  refine o_w (v:=.int .i64 s1.2) (r_mov rfl) ?_
  refine o_w (v:=.slice AP0 d0.length cP0) (r_mov rfl) ?_
  refine o_w (v:=.int .i64 (d0.length:Int)) (r_len_slc un_s_int rfl) ?_
  refine o_w (v:=.bool (decide (s1.2<(d0.length:Int)))) (r_int rfl rfl rfl) ?_
  refine eo_nil_sq ?_
  refine ec_cond rfl (fun hc3=>?_) (fun hc3=>?_)
  ·replace h:=h.1 hc3
   refine ec_skip ?_
   refine sq_n ?_
   refine ec_seq ?_
   refine ec_block ?_
   refine ec_region ?_
   refine o_w (v:=str s1.1) (r_mov rfl) ?_
   refine o_w (v:=.slice AP0 d0.length cP0) (r_mov rfl) ?_
   refine o_w (v:=.int .i64 s1.2) (r_mov rfl) ?_
   obtain ⟨ha4,h⟩:=h
   obtain ⟨cs5,l7,H6⟩:=Stb.elem (by decide) (HP0.fr G2 (fun _ h=>h)) s1.2 ha4.1 ha4.2
   obtain ⟨rfl,H6'⟩:=kI_open2 H6
   refine o_w (v:=.pointer (some (elemA AP0 (kI .i64).n s1.2.toNat))) (r_ia slc_s_int rfl rfl ((HP0.fr G2 (fun _ h=>h)).now.2 _ (lt_toNat ha4.1 ha4.2)).1 ha4.1 ha4.2) ?_
   refine o_w (v:=.int .i64 (nth d0 s1.2)) (r_ld' one_int rfl (elemA_spot _ _ _) (H6'.now.1.at0 (elemA_spot _ _ _))) ?_
   obtain ⟨x8,hx8,h⟩:=h
   refine o_call cf_ref07_num rfl (ref07_num_c (nth d0 s1.2) (2:Int) (hL.fr E1r) hx8) rfl rfl ?_
   rintro _ w8 ⟨F8,rfl⟩
   have E9:=E1r.trans F8
   obtain ⟨ha13,h⟩:=h
   refine o_w (v:=str (s1.1++x8)) (r_cat rfl rfl ha13) ?_
   refine o_w (v:=str (s1.1++x8)) (r_asg rfl) ?_
   refine eo_nil ?_
   refine blk_n ?_
   refine sq_n ?_
   refine ec_region ?_
   refine o_w (v:=.int .i64 s1.2) (r_mov rfl) ?_
   refine o_w (v:=.int .i64 (IntKind.i64.wrap (s1.2 + (1:Int)))) (r_int rfl rfl rfl) ?_
   refine o_w (v:=.int .i64 (IntKind.i64.wrap (s1.2 + (1:Int)))) (r_asg rfl) ?_
   refine eo_nil ?_
   subst h
   exact lq_n ⟨_,envs_self ⟨rfl,rfl,rfl,trivial⟩,rfl,(F1r.trans (Fr.ext F8)),E9⟩
  ·replace h:=h.2 hc3
   refine ec_exit ?_
   refine sq_exit ?_
   subst h
   exact lq_x ⟨_,envs_self ⟨rfl,rfl,rfl,trivial⟩,rfl,F1r,E1r⟩
 ·exact ⟨_,envs_self ⟨rfl,rfl,rfl,trivial⟩,rfl,(Fr.refl _ _),(Fr.refl _ _)⟩
 ·rintro ρ1e ds1e w1e ⟨ρ1e,rfl,rfl,F1e,E1e⟩
  refine blk_hit ?_
  refine sq_n ?_
  refine ec_seq ?_
  refine ec_region ?_
  refine o_w (v:=str x1.1) (r_mov rfl) ?_
  refine o_w (v:=str x1.1) (r_asg rfl) ?_
  refine eo_nil_sq ?_
  refine ec_ret ?_
  subst h
  exact (end1 rfl ⟨_,rfl,E1e,rfl⟩)
def ref07_data_raw (d0:Val) (y:Str):Prop :=
 ((d0.kind==(1:Int))=true→(∃ x11,ref07_num_raw d0.time (4:Int) x11∧(∃ x12,ref07_num_raw d0.node (1:Int) x12∧(x11.length + x12.length≤9223372036854775807∧(∃ x14,ref07_bit_raw d0.dead x14∧(∃ x15,ref07_num_raw x14 (1:Int) x15∧((x11++x12).length + x15.length≤9223372036854775807∧(∃ x17,ref07_num_raw (d0.text.length:Int) (1:Int) x17∧(((x11++x12)++x15).length + x17.length≤9223372036854775807∧((((x11++x12)++x15)++x17).length + d0.text.length≤9223372036854775807∧(y=((((x11++x12)++x15)++x17)++d0.text))))))))))))∧((d0.kind==(1:Int))=false→(((d0.kind==(2:Int))=true→(∃ x55,ref07_nums_raw d0.plus x55∧(∃ x56,ref07_nums_raw d0.minus x56∧(x55.length + x56.length≤9223372036854775807∧(y=(x55++x56))))))∧((d0.kind==(2:Int))=false→(∃ x74,ref07_num_raw (IntKind.i64.wrap (Int.tmod d0.flags (4294967296:Int))) (4:Int) x74∧(∃ x75,ref07_num_raw (IntKind.i64.wrap (IntKind.u64.wrap (Int.tdiv d0.flags (4294967296:Int)))) (4:Int) x75∧(x74.length + x75.length≤9223372036854775807∧(y=(x74++x75))))))))
set_option maxRecDepth 20000 in
set_option maxHeartbeats 4000000 in
theorem ref07_data_c {L:List Nat} {w:World} {csP0:List Value} (d0:Val) (HP0:Stb L w (fun w=>kVal.r w csP0 d0)) (hL:Lt L w) {y:Str} (h:ref07_data_raw d0 y) :
  Calls Try.prog 36 [.agg csP0.toArray].toArray w (Ret fun v w'=>Ext w w'∧v=str y):=by
 obtain ⟨A1,c2,A4,c5,rfl,H3,H6⟩:=kVal_open HP0
 unfold ref07_data_raw at h
 refine calls_ec Try.func36 rfl rfl rfl ?_
 refine ec_seq ?_
 refine ec_region ?_
 refine o_box (cs:=(cVal d0 A1 c2 A4 c5)) rfl rfl rfl ?_
 intro b7 w7 e7 F7 B7
 have S7:=B7.stb (nin hL e7)
 have G8:Fr L w w7:=Fr.ext F7
 refine o_w (v:=str ([]:Str)) (r_asg rfl) ?_
 refine eo_nil_sq ?_
 iterate 2 refine ec_seq ?_
 refine ec_region ?_
 refine o_w (v:=.pointer (some ⟨b7,0,none⟩)) (r_fa fld_api_Value_0 rfl rfl) ?_
 refine o_w (v:=.int .i64 d0.kind) (r_ld one_int rfl (S7.now.cell rfl)) ?_
 refine o_w (v:=.bool (d0.kind==(1:Int))) (r_int rfl rfl rfl) ?_
 refine eo_nil_sq ?_
 refine ec_cond rfl (fun hc9=>?_) (fun hc9=>?_)
 ·replace h:=h.1 hc9
  refine ec_seq ?_
  obtain ⟨x11,hx11,h⟩:=h
  obtain ⟨x12,hx12,h⟩:=h
  obtain ⟨ha13,h⟩:=h
  obtain ⟨x14,hx14,h⟩:=h
  obtain ⟨x15,hx15,h⟩:=h
  obtain ⟨ha16,h⟩:=h
  obtain ⟨x17,hx17,h⟩:=h
  obtain ⟨ha18,h⟩:=h
  obtain ⟨ha19,h⟩:=h
  refine ec_any0 (by kernel_rfl) [[],[0],[0,1],[],[3],[0,1,2,3,4],[0,1,2,3,4,5],[],[7],[0,1,2,3,4,5,7,8],[0,1,2,3,4,5,7,8,9],[0,1,2,3,4,5,6,7,8,9,10],[],[12],[12,13],[0,1,2,3,4,5,7,8,9,10,12,13,14],[0,1,2,3,4,5,6,7,8,9,10,11,12,13,14,15],[],[17],[0,1,2,3,4,5,6,7,8,9,10,11,12,13,14,15,16,17,18],[0,1,2,3,4,5,6,7,8,9,10,11,12,13,14,15,16,17,18,19]] [2,6,7,8,9,10,11,12,13,14,15,16,17,18,19,20,21,22,23,24,25] [fun v _=>v=(.pointer (some ⟨b7,1,none⟩):Value),fun v _=>v=(.int .i64 d0.time:Value),fun v _=>v=(str x11:Value),fun v _=>v=(.pointer (some ⟨b7,2,none⟩):Value),fun v _=>v=(.int .i64 d0.node:Value),fun v _=>v=(str x12:Value),fun v _=>v=(str (x11++x12):Value),fun v _=>v=(.pointer (some ⟨b7,3,none⟩):Value),fun v _=>v=(.bool d0.dead:Value),fun v _=>v=(.int .i64 x14:Value),fun v _=>v=(str x15:Value),fun v _=>v=(str ((x11++x12)++x15):Value),fun v _=>v=(.pointer (some ⟨b7,4,none⟩):Value),fun v _=>v=(str d0.text:Value),fun v _=>v=(.int .i64 (d0.text.length:Int):Value),fun v _=>v=(str x17:Value),fun v _=>v=(str (((x11++x12)++x15)++x17):Value),fun v _=>v=(.pointer (some ⟨b7,4,none⟩):Value),fun v _=>v=(str d0.text:Value),fun v _=>v=(str ((((x11++x12)++x15)++x17)++d0.text):Value),fun v _=>v=(str ((((x11++x12)++x15)++x17)++d0.text):Value)] (by kernel_rfl) ⟨fun _ _ _ _ _ h=>h,fun _ _ _ _ _ h=>h,fun _ _ _ _ _ h=>h,fun _ _ _ _ _ h=>h,fun _ _ _ _ _ h=>h,fun _ _ _ _ _ h=>h,fun _ _ _ _ _ h=>h,fun _ _ _ _ _ h=>h,fun _ _ _ _ _ h=>h,fun _ _ _ _ _ h=>h,fun _ _ _ _ _ h=>h,fun _ _ _ _ _ h=>h,fun _ _ _ _ _ h=>h,fun _ _ _ _ _ h=>h,fun _ _ _ _ _ h=>h,fun _ _ _ _ _ h=>h,fun _ _ _ _ _ h=>h,fun _ _ _ _ _ h=>h,fun _ _ _ _ _ h=>h,fun _ _ _ _ _ h=>h,fun _ _ _ _ _ h=>h,trivial⟩ ?_ ?_
  ·refine ⟨?_,?_,?_,?_,?_,?_,?_,?_,?_,?_,?_,?_,?_,?_,?_,?_,?_,?_,?_,?_,?_,trivial⟩
   ·intro ρ w10o F10o hS hρ
    have q1:ρ 1=.pointer (some ⟨b7,0,none⟩):=hρ 1 (by kernel_rfl)
    exact o_q (r_fa fld_api_Value_1 rfl q1) ⟨Fr.refl _ _,rfl⟩
   ·intro ρ w10o F10o hS hρ
    have G22:Fr L w7 w10o:=Fr.ext F10o
    have q6:ρ 6=.pointer (some ⟨b7,1,none⟩):=hS 0 (by decide) 6 rfl
    exact o_q (r_ld one_int q6 ((S7.fr G22 (fun _ h=>h)).now.cell rfl)) ⟨Fr.refl _ _,rfl⟩
   ·intro ρ w10o F10o hS hρ
    have E23:=F7.trans F10o
    have q7:ρ 7=.int .i64 d0.time:=hS 1 (by decide) 7 rfl
    refine o_call cf_ref07_num (by simp only [List.map,ev,q7] <;> rfl) (ref07_num_c d0.time (4:Int) (hL.fr E23) hx11) rfl rfl ?_
    rintro _ w' ⟨F,rfl⟩
    exact eo_nil ⟨rfl,rfl,_,rfl,F,rfl⟩
   ·intro ρ w10o F10o hS hρ
    have q1:ρ 1=.pointer (some ⟨b7,0,none⟩):=hρ 1 (by kernel_rfl)
    exact o_q (r_fa fld_api_Value_2 rfl q1) ⟨Fr.refl _ _,rfl⟩
   ·intro ρ w10o F10o hS hρ
    have G28:Fr L w7 w10o:=Fr.ext F10o
    have q9:ρ 9=.pointer (some ⟨b7,2,none⟩):=hS 3 (by decide) 9 rfl
    exact o_q (r_ld one_int q9 ((S7.fr G28 (fun _ h=>h)).now.cell rfl)) ⟨Fr.refl _ _,rfl⟩
   ·intro ρ w10o F10o hS hρ
    have E29:=F7.trans F10o
    have q10:ρ 10=.int .i64 d0.node:=hS 4 (by decide) 10 rfl
    refine o_call cf_ref07_num (by simp only [List.map,ev,q10] <;> rfl) (ref07_num_c d0.node (1:Int) (hL.fr E29) hx12) rfl rfl ?_
    rintro _ w' ⟨F,rfl⟩
    exact eo_nil ⟨rfl,rfl,_,rfl,F,rfl⟩
   ·intro ρ w10o F10o hS hρ
    have q8:ρ 8=str x11:=hS 2 (by decide) 8 rfl
    have q11:ρ 11=str x12:=hS 5 (by decide) 11 rfl
    exact o_q (r_cat q8 q11 ha13) ⟨Fr.refl _ _,rfl⟩
   ·intro ρ w10o F10o hS hρ
    have q1:ρ 1=.pointer (some ⟨b7,0,none⟩):=hρ 1 (by kernel_rfl)
    exact o_q (r_fa fld_api_Value_3 rfl q1) ⟨Fr.refl _ _,rfl⟩
   ·intro ρ w10o F10o hS hρ
    have G34:Fr L w7 w10o:=Fr.ext F10o
    have q13:ρ 13=.pointer (some ⟨b7,3,none⟩):=hS 7 (by decide) 13 rfl
    exact o_q (r_ld one_bool q13 ((S7.fr G34 (fun _ h=>h)).now.cell rfl)) ⟨Fr.refl _ _,rfl⟩
   ·intro ρ w10o F10o hS hρ
    have E35:=F7.trans F10o
    have q14:ρ 14=.bool d0.dead:=hS 8 (by decide) 14 rfl
    refine o_call cf_ref07_bit (by simp only [List.map,ev,q14] <;> rfl) (ref07_bit_c d0.dead (hL.fr E35) hx14) rfl rfl ?_
    rintro _ w' ⟨F,rfl⟩
    exact eo_nil ⟨rfl,rfl,_,rfl,F,rfl⟩
   ·intro ρ w10o F10o hS hρ
    have E38:=F7.trans F10o
    have q15:ρ 15=.int .i64 x14:=hS 9 (by decide) 15 rfl
    refine o_call cf_ref07_num (by simp only [List.map,ev,q15] <;> rfl) (ref07_num_c x14 (1:Int) (hL.fr E38) hx15) rfl rfl ?_
    rintro _ w' ⟨F,rfl⟩
    exact eo_nil ⟨rfl,rfl,_,rfl,F,rfl⟩
   ·intro ρ w10o F10o hS hρ
    have q12:ρ 12=str (x11++x12):=hS 6 (by decide) 12 rfl
    have q16:ρ 16=str x15:=hS 10 (by decide) 16 rfl
    exact o_q (r_cat q12 q16 ha16) ⟨Fr.refl _ _,rfl⟩
   ·intro ρ w10o F10o hS hρ
    have q1:ρ 1=.pointer (some ⟨b7,0,none⟩):=hρ 1 (by kernel_rfl)
    exact o_q (r_fa fld_api_Value_4 rfl q1) ⟨Fr.refl _ _,rfl⟩
   ·intro ρ w10o F10o hS hρ
    have G43:Fr L w7 w10o:=Fr.ext F10o
    have q18:ρ 18=.pointer (some ⟨b7,4,none⟩):=hS 12 (by decide) 18 rfl
    exact o_q (r_ld one_string q18 ((S7.fr G43 (fun _ h=>h)).now.cell rfl)) ⟨Fr.refl _ _,rfl⟩
   ·intro ρ w10o F10o hS hρ
    have q19:ρ 19=str d0.text:=hS 13 (by decide) 19 rfl
    exact o_q (r_len_str un_string q19) ⟨Fr.refl _ _,rfl⟩
   ·intro ρ w10o F10o hS hρ
    have E44:=F7.trans F10o
    have q20:ρ 20=.int .i64 (d0.text.length:Int):=hS 14 (by decide) 20 rfl
    refine o_call cf_ref07_num (by simp only [List.map,ev,q20] <;> rfl) (ref07_num_c (d0.text.length:Int) (1:Int) (hL.fr E44) hx17) rfl rfl ?_
    rintro _ w' ⟨F,rfl⟩
    exact eo_nil ⟨rfl,rfl,_,rfl,F,rfl⟩
   ·intro ρ w10o F10o hS hρ
    have q17:ρ 17=str ((x11++x12)++x15):=hS 11 (by decide) 17 rfl
    have q21:ρ 21=str x17:=hS 15 (by decide) 21 rfl
    exact o_q (r_cat q17 q21 ha18) ⟨Fr.refl _ _,rfl⟩
   ·intro ρ w10o F10o hS hρ
    have q1:ρ 1=.pointer (some ⟨b7,0,none⟩):=hρ 1 (by kernel_rfl)
    exact o_q (r_fa fld_api_Value_4 rfl q1) ⟨Fr.refl _ _,rfl⟩
   ·intro ρ w10o F10o hS hρ
    have G49:Fr L w7 w10o:=Fr.ext F10o
    have q23:ρ 23=.pointer (some ⟨b7,4,none⟩):=hS 17 (by decide) 23 rfl
    exact o_q (r_ld one_string q23 ((S7.fr G49 (fun _ h=>h)).now.cell rfl)) ⟨Fr.refl _ _,rfl⟩
   ·intro ρ w10o F10o hS hρ
    have q22:ρ 22=str (((x11++x12)++x15)++x17):=hS 16 (by decide) 22 rfl
    have q24:ρ 24=str d0.text:=hS 18 (by decide) 24 rfl
    exact o_q (r_cat q22 q24 ha19) ⟨Fr.refl _ _,rfl⟩
   ·intro ρ w10o F10o hS hρ
    have q25:ρ 25=str ((((x11++x12)++x15)++x17)++d0.text):=hS 19 (by decide) 25 rfl
    exact o_q (r_asg q25) ⟨Fr.refl _ _,rfl⟩
  ·intro ρ w10 F10 hS hρ
   have q2:ρ 2=str ((((x11++x12)++x15)++x17)++d0.text):=hS 20 2 rfl
   obtain ⟨ρ',rfl⟩:∃ ρ',ρ=envs (ovr [2,6,7,8,9,10,11,12,13,14,15,16,17,18,19,20,21,22,23,24,25] ρ' _) [(2,str ((((x11++x12)++x15)++x17)++d0.text))]:=⟨ρ,ovr_self hρ ⟨q2,trivial⟩⟩
   have E50:=F7.trans F10
   refine sq_n ?_
   refine ec_ret ?_
   refine sq_ret ?_
   subst h
   exact (end1 rfl ⟨_,rfl,E50,rfl⟩)
 ·replace h:=h.2 hc9
  refine ec_skip ?_
  refine sq_n ?_
  iterate 2 refine ec_seq ?_
  refine ec_region ?_
  refine o_w (v:=.pointer (some ⟨b7,0,none⟩)) (r_fa fld_api_Value_0 rfl rfl) ?_
  refine o_w (v:=.int .i64 d0.kind) (r_ld one_int rfl (S7.now.cell rfl)) ?_
  refine o_w (v:=.bool (d0.kind==(2:Int))) (r_int rfl rfl rfl) ?_
  refine eo_nil_sq ?_
  refine ec_cond rfl (fun hc53=>?_) (fun hc53=>?_)
  ·replace h:=h.1 hc53
   refine ec_seq ?_
   obtain ⟨x55,hx55,h⟩:=h
   obtain ⟨x56,hx56,h⟩:=h
   obtain ⟨ha57,h⟩:=h
   refine ec_any0 (by kernel_rfl) [[],[0],[0,1],[],[3],[0,1,2,3,4],[0,1,2,3,4,5],[0,1,2,3,4,5,6]] [2,29,30,31,32,33,34,35] [fun v _=>v=(.pointer (some ⟨b7,5,none⟩):Value),fun v _=>v=(.slice A1 d0.plus.length c2:Value),fun v _=>v=(str x55:Value),fun v _=>v=(.pointer (some ⟨b7,6,none⟩):Value),fun v _=>v=(.slice A4 d0.minus.length c5:Value),fun v _=>v=(str x56:Value),fun v _=>v=(str (x55++x56):Value),fun v _=>v=(str (x55++x56):Value)] (by kernel_rfl) ⟨fun _ _ _ _ _ h=>h,fun _ _ _ _ _ h=>h,fun _ _ _ _ _ h=>h,fun _ _ _ _ _ h=>h,fun _ _ _ _ _ h=>h,fun _ _ _ _ _ h=>h,fun _ _ _ _ _ h=>h,fun _ _ _ _ _ h=>h,trivial⟩ ?_ ?_
   ·refine ⟨?_,?_,?_,?_,?_,?_,?_,?_,trivial⟩
    ·intro ρ w54o F54o hS hρ
     have q1:ρ 1=.pointer (some ⟨b7,0,none⟩):=hρ 1 (by kernel_rfl)
     exact o_q (r_fa fld_api_Value_5 rfl q1) ⟨Fr.refl _ _,rfl⟩
    ·intro ρ w54o F54o hS hρ
     have G60:Fr L w7 w54o:=Fr.ext F54o
     have q29:ρ 29=.pointer (some ⟨b7,5,none⟩):=hS 0 (by decide) 29 rfl
     exact o_q (r_ld one_s_int q29 ((S7.fr G60 (fun _ h=>h)).now.cell rfl)) ⟨Fr.refl _ _,rfl⟩
    ·intro ρ w54o F54o hS hρ
     have E61:=F7.trans F54o
     have q30:ρ 30=.slice A1 d0.plus.length c2:=hS 1 (by decide) 30 rfl
     refine o_call cf_ref07_nums (by simp only [List.map,ev,q30] <;> rfl) (ref07_nums_c d0.plus (H3.fr (G8.trans (Fr.ext F54o)) (fun _ h=>h)) (hL.fr E61) hx55) rfl rfl ?_
     rintro _ w' ⟨F,rfl⟩
     exact eo_nil ⟨rfl,rfl,_,rfl,F,rfl⟩
    ·intro ρ w54o F54o hS hρ
     have q1:ρ 1=.pointer (some ⟨b7,0,none⟩):=hρ 1 (by kernel_rfl)
     exact o_q (r_fa fld_api_Value_6 rfl q1) ⟨Fr.refl _ _,rfl⟩
    ·intro ρ w54o F54o hS hρ
     have G66:Fr L w7 w54o:=Fr.ext F54o
     have q32:ρ 32=.pointer (some ⟨b7,6,none⟩):=hS 3 (by decide) 32 rfl
     exact o_q (r_ld one_s_int q32 ((S7.fr G66 (fun _ h=>h)).now.cell rfl)) ⟨Fr.refl _ _,rfl⟩
    ·intro ρ w54o F54o hS hρ
     have E67:=F7.trans F54o
     have q33:ρ 33=.slice A4 d0.minus.length c5:=hS 4 (by decide) 33 rfl
     refine o_call cf_ref07_nums (by simp only [List.map,ev,q33] <;> rfl) (ref07_nums_c d0.minus (H6.fr (G8.trans (Fr.ext F54o)) (fun _ h=>h)) (hL.fr E67) hx56) rfl rfl ?_
     rintro _ w' ⟨F,rfl⟩
     exact eo_nil ⟨rfl,rfl,_,rfl,F,rfl⟩
    ·intro ρ w54o F54o hS hρ
     have q31:ρ 31=str x55:=hS 2 (by decide) 31 rfl
     have q34:ρ 34=str x56:=hS 5 (by decide) 34 rfl
     exact o_q (r_cat q31 q34 ha57) ⟨Fr.refl _ _,rfl⟩
    ·intro ρ w54o F54o hS hρ
     have q35:ρ 35=str (x55++x56):=hS 6 (by decide) 35 rfl
     exact o_q (r_asg q35) ⟨Fr.refl _ _,rfl⟩
   ·intro ρ w54 F54 hS hρ
    have q2:ρ 2=str (x55++x56):=hS 7 2 rfl
    obtain ⟨ρ',rfl⟩:∃ ρ',ρ=envs (ovr [2,29,30,31,32,33,34,35] ρ' _) [(2,str (x55++x56))]:=⟨ρ,ovr_self hρ ⟨q2,trivial⟩⟩
    have E70:=F7.trans F54
    refine sq_n ?_
    refine ec_ret ?_
    refine sq_ret ?_
    subst h
    exact (end1 rfl ⟨_,rfl,E70,rfl⟩)
  ·replace h:=h.2 hc53
   refine ec_skip ?_
   refine sq_n ?_
   refine ec_seq ?_
   obtain ⟨x74,hx74,h⟩:=h
   obtain ⟨x75,hx75,h⟩:=h
   obtain ⟨ha76,h⟩:=h
   refine ec_any0 (by kernel_rfl) [[],[0],[0,1],[0,1,2],[0,1,2,3],[],[5],[5,6],[5,6,7],[0,1,2,3,4,5,6,7,8],[0,1,2,3,4,5,6,7,8,9],[0,1,2,3,4,5,6,7,8,9,10]] [2,36,37,38,39,40,41,42,43,44,45,46] [fun v _=>v=(.pointer (some ⟨b7,7,none⟩):Value),fun v _=>v=(.int .u64 d0.flags:Value),fun v _=>v=(.int .u64 (Int.tmod d0.flags (4294967296:Int)):Value),fun v _=>v=(.int .i64 (IntKind.i64.wrap (Int.tmod d0.flags (4294967296:Int))):Value),fun v _=>v=(str x74:Value),fun v _=>v=(.pointer (some ⟨b7,7,none⟩):Value),fun v _=>v=(.int .u64 d0.flags:Value),fun v _=>v=(.int .u64 (IntKind.u64.wrap (Int.tdiv d0.flags (4294967296:Int))):Value),fun v _=>v=(.int .i64 (IntKind.i64.wrap (IntKind.u64.wrap (Int.tdiv d0.flags (4294967296:Int)))):Value),fun v _=>v=(str x75:Value),fun v _=>v=(str (x74++x75):Value),fun v _=>v=(str (x74++x75):Value)] (by kernel_rfl) ⟨fun _ _ _ _ _ h=>h,fun _ _ _ _ _ h=>h,fun _ _ _ _ _ h=>h,fun _ _ _ _ _ h=>h,fun _ _ _ _ _ h=>h,fun _ _ _ _ _ h=>h,fun _ _ _ _ _ h=>h,fun _ _ _ _ _ h=>h,fun _ _ _ _ _ h=>h,fun _ _ _ _ _ h=>h,fun _ _ _ _ _ h=>h,fun _ _ _ _ _ h=>h,trivial⟩ ?_ ?_
   ·refine ⟨?_,?_,?_,?_,?_,?_,?_,?_,?_,?_,?_,?_,trivial⟩
    ·intro ρ w73o F73o hS hρ
     have q1:ρ 1=.pointer (some ⟨b7,0,none⟩):=hρ 1 (by kernel_rfl)
     exact o_q (r_fa fld_api_Value_7 rfl q1) ⟨Fr.refl _ _,rfl⟩
    ·intro ρ w73o F73o hS hρ
     have G79:Fr L w7 w73o:=Fr.ext F73o
     have q36:ρ 36=.pointer (some ⟨b7,7,none⟩):=hS 0 (by decide) 36 rfl
     exact o_q (r_ld one_uint64 q36 ((S7.fr G79 (fun _ h=>h)).now.cell rfl)) ⟨Fr.refl _ _,rfl⟩
    ·intro ρ w73o F73o hS hρ
     have q37:ρ 37=.int .u64 d0.flags:=hS 1 (by decide) 37 rfl
     exact o_q (r_rem q37 rfl rfl) ⟨Fr.refl _ _,rfl⟩
    ·intro ρ w73o F73o hS hρ
     have q38:ρ 38=.int .u64 (Int.tmod d0.flags (4294967296:Int)):=hS 2 (by decide) 38 rfl
     exact o_q (r_conv un_uint64 un_int q38) ⟨Fr.refl _ _,rfl⟩
    ·intro ρ w73o F73o hS hρ
     have E80:=F7.trans F73o
     have q39:ρ 39=.int .i64 (IntKind.i64.wrap (Int.tmod d0.flags (4294967296:Int))):=hS 3 (by decide) 39 rfl
     refine o_call cf_ref07_num (by simp only [List.map,ev,q39] <;> rfl) (ref07_num_c (IntKind.i64.wrap (Int.tmod d0.flags (4294967296:Int))) (4:Int) (hL.fr E80) hx74) rfl rfl ?_
     rintro _ w' ⟨F,rfl⟩
     exact eo_nil ⟨rfl,rfl,_,rfl,F,rfl⟩
    ·intro ρ w73o F73o hS hρ
     have q1:ρ 1=.pointer (some ⟨b7,0,none⟩):=hρ 1 (by kernel_rfl)
     exact o_q (r_fa fld_api_Value_7 rfl q1) ⟨Fr.refl _ _,rfl⟩
    ·intro ρ w73o F73o hS hρ
     have G85:Fr L w7 w73o:=Fr.ext F73o
     have q41:ρ 41=.pointer (some ⟨b7,7,none⟩):=hS 5 (by decide) 41 rfl
     exact o_q (r_ld one_uint64 q41 ((S7.fr G85 (fun _ h=>h)).now.cell rfl)) ⟨Fr.refl _ _,rfl⟩
    ·intro ρ w73o F73o hS hρ
     have q42:ρ 42=.int .u64 d0.flags:=hS 6 (by decide) 42 rfl
     exact o_q (r_quo q42 rfl rfl) ⟨Fr.refl _ _,rfl⟩
    ·intro ρ w73o F73o hS hρ
     have q43:ρ 43=.int .u64 (IntKind.u64.wrap (Int.tdiv d0.flags (4294967296:Int))):=hS 7 (by decide) 43 rfl
     exact o_q (r_conv un_uint64 un_int q43) ⟨Fr.refl _ _,rfl⟩
    ·intro ρ w73o F73o hS hρ
     have E86:=F7.trans F73o
     have q44:ρ 44=.int .i64 (IntKind.i64.wrap (IntKind.u64.wrap (Int.tdiv d0.flags (4294967296:Int)))):=hS 8 (by decide) 44 rfl
     refine o_call cf_ref07_num (by simp only [List.map,ev,q44] <;> rfl) (ref07_num_c (IntKind.i64.wrap (IntKind.u64.wrap (Int.tdiv d0.flags (4294967296:Int)))) (4:Int) (hL.fr E86) hx75) rfl rfl ?_
     rintro _ w' ⟨F,rfl⟩
     exact eo_nil ⟨rfl,rfl,_,rfl,F,rfl⟩
    ·intro ρ w73o F73o hS hρ
     have q40:ρ 40=str x74:=hS 4 (by decide) 40 rfl
     have q45:ρ 45=str x75:=hS 9 (by decide) 45 rfl
     exact o_q (r_cat q40 q45 ha76) ⟨Fr.refl _ _,rfl⟩
    ·intro ρ w73o F73o hS hρ
     have q46:ρ 46=str (x74++x75):=hS 10 (by decide) 46 rfl
     exact o_q (r_asg q46) ⟨Fr.refl _ _,rfl⟩
   ·intro ρ w73 F73 hS hρ
    have q2:ρ 2=str (x74++x75):=hS 11 2 rfl
    obtain ⟨ρ',rfl⟩:∃ ρ',ρ=envs (ovr [2,36,37,38,39,40,41,42,43,44,45,46] ρ' _) [(2,str (x74++x75))]:=⟨ρ,ovr_self hρ ⟨q2,trivial⟩⟩
    have E89:=F7.trans F73
    refine sq_n ?_
    refine ec_ret ?_
    subst h
    exact (end1 rfl ⟨_,rfl,E89,rfl⟩)
def ref07_Put_raw (d0:Ent) (y:Str × Int):Prop :=
 (sm d0.val)∧(((!(okE d0))=true→(y=(([]:Str),(2:Int))))∧((!(okE d0))=false→(∃ x16,ref07_num_raw d0.val.kind (1:Int) x16∧(∃ x17,ref07_num_raw (d0.key.length:Int) (1:Int) x17∧(x16.length + x17.length≤9223372036854775807∧(∃ x19,ref07_pad_raw d0.key (8:Int) x19∧((x16++x17).length + x19.length≤9223372036854775807∧(∃ x21,ref07_data_raw d0.val x21∧(∃ x22,ref07_pad_raw x21 (32:Int) x22∧(((x16++x17)++x19).length + x22.length≤9223372036854775807∧(y=((((x16++x17)++x19)++x22),(0:Int)))))))))))))
set_option maxRecDepth 20000 in
set_option maxHeartbeats 4000000 in
theorem ref07_Put_c {L:List Nat} {w:World} {csP0:List Value} (d0:Ent) (HP0:Stb L w (fun w=>kEnt.r w csP0 d0)) (hL:Lt L w) {y:Str × Int} (h:ref07_Put_raw d0 y) :
  Calls Try.prog 13 [.agg csP0.toArray].toArray w (Ret fun v w'=>Ext w w'∧v=.tuple #[str y.1,.int .i64 y.2]):=by
 obtain ⟨A1,c2,A4,c5,rfl,H3,H6⟩:=kEnt_open HP0
 unfold ref07_Put_raw at h
 refine calls_ec Try.func13 rfl rfl rfl ?_
 refine ec_seq ?_
 refine ec_region ?_
 refine o_box (cs:=(cEnt d0 A1 c2 A4 c5)) rfl rfl rfl ?_
 intro b7 w7 e7 F7 B7
 have S7:=B7.stb (nin hL e7)
 have G8:Fr L w w7:=Fr.ext F7
 refine o_w (v:=str ([]:Str)) (r_asg rfl) ?_
 refine o_w (v:=.int .i64 (0:Int)) (r_asg rfl) ?_
 refine eo_nil_sq ?_
 iterate 2 refine ec_seq ?_
 refine ec_region ?_
 refine o_w (v:=.agg (cEnt d0 A1 c2 A4 c5).toArray) (r_lda agg_api_Entry rfl (vs:=(cEnt d0 A1 c2 A4 c5)) rfl (S7.now.part (n:=9) rfl)) ?_
 obtain ⟨ha10,h⟩:=h
 refine o_call cf_ref07_Check rfl (ref07_Check_c d0 (kEnt_mk (d:=d0) (H3.fr G8 (fun _ h=>h)) (H6.fr G8 (fun _ h=>h))) (hL.fr F7) (refCheckE_ev d0 ha10)) rfl rfl ?_
 rintro _ w9 ⟨F9,rfl⟩
 have E11:=F7.trans F9
 have G13:Fr L w7 w9:=Fr.ext F9
 refine o_w (v:=.bool (!(okE d0))) (r_not rfl) ?_
 refine eo_nil_sq ?_
 refine ec_cond rfl (fun hc14=>?_) (fun hc14=>?_)
 ·replace h:=h.1 hc14
  refine ec_seq ?_
  refine ec_region ?_
  refine o_w (v:=str ([]:Str)) (r_asg rfl) ?_
  refine o_w (v:=.int .i64 (2:Int)) (r_asg rfl) ?_
  refine eo_nil_sq ?_
  refine ec_ret ?_
  refine sq_ret ?_
  subst h
  exact (end2 rfl rfl ⟨_,rfl,E11,rfl⟩)
 ·replace h:=h.2 hc14
  refine ec_skip ?_
  refine sq_n ?_
  refine ec_seq ?_
  obtain ⟨x16,hx16,h⟩:=h
  obtain ⟨x17,hx17,h⟩:=h
  obtain ⟨ha18,h⟩:=h
  obtain ⟨x19,hx19,h⟩:=h
  obtain ⟨ha20,h⟩:=h
  obtain ⟨x21,hx21,h⟩:=h
  obtain ⟨x22,hx22,h⟩:=h
  obtain ⟨ha23,h⟩:=h
  refine ec_any0 (by kernel_rfl) [[],[0],[0,1],[0,1,2],[],[4],[4,5],[0,1,2,3,4,5,6],[0,1,2,3,4,5,6,7],[],[9],[0,1,2,3,4,5,6,7,9,10],[0,1,2,3,4,5,6,7,8,9,10,11],[],[13],[0,1,2,3,4,5,6,7,9,10,11,13,14],[0,1,2,3,4,5,6,7,9,10,11,13,14,15],[0,1,2,3,4,5,6,7,8,9,10,11,12,13,14,15,16],[0,1,2,3,4,5,6,7,8,9,10,11,12,13,14,15,16,17],[0,1,2,3,4,5,6,7,8,9,10,11,12,13,14,15,16,17,18]] [2,3,7,8,9,10,11,12,13,14,15,16,17,18,19,20,21,22,23,24] [fun v _=>v=(.pointer (some ⟨b7,1,none⟩):Value),fun v _=>v=(.pointer (some ⟨b7,1,none⟩):Value),fun v _=>v=(.int .i64 d0.val.kind:Value),fun v _=>v=(str x16:Value),fun v _=>v=(.pointer (some ⟨b7,0,none⟩):Value),fun v _=>v=(str d0.key:Value),fun v _=>v=(.int .i64 (d0.key.length:Int):Value),fun v _=>v=(str x17:Value),fun v _=>v=(str (x16++x17):Value),fun v _=>v=(.pointer (some ⟨b7,0,none⟩):Value),fun v _=>v=(str d0.key:Value),fun v _=>v=(str x19:Value),fun v _=>v=(str ((x16++x17)++x19):Value),fun v _=>v=(.pointer (some ⟨b7,1,none⟩):Value),fun v _=>v=(.agg (cVal d0.val A1 c2 A4 c5).toArray:Value),fun v _=>v=(str x21:Value),fun v _=>v=(str x22:Value),fun v _=>v=(str (((x16++x17)++x19)++x22):Value),fun v _=>v=(str (((x16++x17)++x19)++x22):Value),fun v _=>v=(.int .i64 (0:Int):Value)] (by kernel_rfl) ⟨fun _ _ _ _ _ h=>h,fun _ _ _ _ _ h=>h,fun _ _ _ _ _ h=>h,fun _ _ _ _ _ h=>h,fun _ _ _ _ _ h=>h,fun _ _ _ _ _ h=>h,fun _ _ _ _ _ h=>h,fun _ _ _ _ _ h=>h,fun _ _ _ _ _ h=>h,fun _ _ _ _ _ h=>h,fun _ _ _ _ _ h=>h,fun _ _ _ _ _ h=>h,fun _ _ _ _ _ h=>h,fun _ _ _ _ _ h=>h,fun _ _ _ _ _ h=>h,fun _ _ _ _ _ h=>h,fun _ _ _ _ _ h=>h,fun _ _ _ _ _ h=>h,fun _ _ _ _ _ h=>h,fun _ _ _ _ _ h=>h,trivial⟩ ?_ ?_
  ·refine ⟨?_,?_,?_,?_,?_,?_,?_,?_,?_,?_,?_,?_,?_,?_,?_,?_,?_,?_,?_,?_,trivial⟩
   ·intro ρ w15o F15o hS hρ
    have q1:ρ 1=.pointer (some ⟨b7,0,none⟩):=hρ 1 (by kernel_rfl)
    exact o_q (r_fa fld_api_Entry_1 rfl q1) ⟨Fr.refl _ _,rfl⟩
   ·intro ρ w15o F15o hS hρ
    have q7:ρ 7=.pointer (some ⟨b7,1,none⟩):=hS 0 (by decide) 7 rfl
    exact o_q (r_fa fld_api_Value_0 rfl q7) ⟨Fr.refl _ _,rfl⟩
   ·intro ρ w15o F15o hS hρ
    have q8:ρ 8=.pointer (some ⟨b7,1,none⟩):=hS 1 (by decide) 8 rfl
    exact o_q (r_ld one_int q8 ((S7.fr (G13.trans (Fr.ext F15o)) (fun _ h=>h)).now.cell rfl)) ⟨Fr.refl _ _,rfl⟩
   ·intro ρ w15o F15o hS hρ
    have E27:=E11.trans F15o
    have q9:ρ 9=.int .i64 d0.val.kind:=hS 2 (by decide) 9 rfl
    refine o_call cf_ref07_num (by simp only [List.map,ev,q9] <;> rfl) (ref07_num_c d0.val.kind (1:Int) (hL.fr E27) hx16) rfl rfl ?_
    rintro _ w' ⟨F,rfl⟩
    exact eo_nil ⟨rfl,rfl,_,rfl,F,rfl⟩
   ·intro ρ w15o F15o hS hρ
    have q1:ρ 1=.pointer (some ⟨b7,0,none⟩):=hρ 1 (by kernel_rfl)
    exact o_q (r_fa fld_api_Entry_0 rfl q1) ⟨Fr.refl _ _,rfl⟩
   ·intro ρ w15o F15o hS hρ
    have q11:ρ 11=.pointer (some ⟨b7,0,none⟩):=hS 4 (by decide) 11 rfl
    exact o_q (r_ld one_string q11 ((S7.fr (G13.trans (Fr.ext F15o)) (fun _ h=>h)).now.cell rfl)) ⟨Fr.refl _ _,rfl⟩
   ·intro ρ w15o F15o hS hρ
    have q12:ρ 12=str d0.key:=hS 5 (by decide) 12 rfl
    exact o_q (r_len_str un_string q12) ⟨Fr.refl _ _,rfl⟩
   ·intro ρ w15o F15o hS hρ
    have E33:=E11.trans F15o
    have q13:ρ 13=.int .i64 (d0.key.length:Int):=hS 6 (by decide) 13 rfl
    refine o_call cf_ref07_num (by simp only [List.map,ev,q13] <;> rfl) (ref07_num_c (d0.key.length:Int) (1:Int) (hL.fr E33) hx17) rfl rfl ?_
    rintro _ w' ⟨F,rfl⟩
    exact eo_nil ⟨rfl,rfl,_,rfl,F,rfl⟩
   ·intro ρ w15o F15o hS hρ
    have q10:ρ 10=str x16:=hS 3 (by decide) 10 rfl
    have q14:ρ 14=str x17:=hS 7 (by decide) 14 rfl
    exact o_q (r_cat q10 q14 ha18) ⟨Fr.refl _ _,rfl⟩
   ·intro ρ w15o F15o hS hρ
    have q1:ρ 1=.pointer (some ⟨b7,0,none⟩):=hρ 1 (by kernel_rfl)
    exact o_q (r_fa fld_api_Entry_0 rfl q1) ⟨Fr.refl _ _,rfl⟩
   ·intro ρ w15o F15o hS hρ
    have q16:ρ 16=.pointer (some ⟨b7,0,none⟩):=hS 9 (by decide) 16 rfl
    exact o_q (r_ld one_string q16 ((S7.fr (G13.trans (Fr.ext F15o)) (fun _ h=>h)).now.cell rfl)) ⟨Fr.refl _ _,rfl⟩
   ·intro ρ w15o F15o hS hρ
    have E39:=E11.trans F15o
    have q17:ρ 17=str d0.key:=hS 10 (by decide) 17 rfl
    refine o_call cf_ref07_pad (by simp only [List.map,ev,q17] <;> rfl) (ref07_pad_c d0.key (8:Int) (hL.fr E39) hx19) rfl rfl ?_
    rintro _ w' ⟨F,rfl⟩
    exact eo_nil ⟨rfl,rfl,_,rfl,F,rfl⟩
   ·intro ρ w15o F15o hS hρ
    have q15:ρ 15=str (x16++x17):=hS 8 (by decide) 15 rfl
    have q18:ρ 18=str x19:=hS 11 (by decide) 18 rfl
    exact o_q (r_cat q15 q18 ha20) ⟨Fr.refl _ _,rfl⟩
   ·intro ρ w15o F15o hS hρ
    have q1:ρ 1=.pointer (some ⟨b7,0,none⟩):=hρ 1 (by kernel_rfl)
    exact o_q (r_fa fld_api_Entry_1 rfl q1) ⟨Fr.refl _ _,rfl⟩
   ·intro ρ w15o F15o hS hρ
    have q20:ρ 20=.pointer (some ⟨b7,1,none⟩):=hS 13 (by decide) 20 rfl
    exact o_q (r_lda agg_api_Value q20 (vs:=(cVal d0.val A1 c2 A4 c5)) rfl ((S7.fr (G13.trans (Fr.ext F15o)) (fun _ h=>h)).now.part (n:=8) rfl)) ⟨Fr.refl _ _,rfl⟩
   ·intro ρ w15o F15o hS hρ
    have E45:=E11.trans F15o
    have q21:ρ 21=.agg (cVal d0.val A1 c2 A4 c5).toArray:=hS 14 (by decide) 21 rfl
    refine o_call cf_ref07_data (by simp only [List.map,ev,q21] <;> rfl) (ref07_data_c d0.val (kVal_mk (d:=d0.val) (H3.fr ((G8.trans (Fr.ext F9)).trans (Fr.ext F15o)) (fun _ h=>h)) (H6.fr ((G8.trans (Fr.ext F9)).trans (Fr.ext F15o)) (fun _ h=>h))) (hL.fr E45) hx21) rfl rfl ?_
    rintro _ w' ⟨F,rfl⟩
    exact eo_nil ⟨rfl,rfl,_,rfl,F,rfl⟩
   ·intro ρ w15o F15o hS hρ
    have E48:=E11.trans F15o
    have q22:ρ 22=str x21:=hS 15 (by decide) 22 rfl
    refine o_call cf_ref07_pad (by simp only [List.map,ev,q22] <;> rfl) (ref07_pad_c x21 (32:Int) (hL.fr E48) hx22) rfl rfl ?_
    rintro _ w' ⟨F,rfl⟩
    exact eo_nil ⟨rfl,rfl,_,rfl,F,rfl⟩
   ·intro ρ w15o F15o hS hρ
    have q19:ρ 19=str ((x16++x17)++x19):=hS 12 (by decide) 19 rfl
    have q23:ρ 23=str x22:=hS 16 (by decide) 23 rfl
    exact o_q (r_cat q19 q23 ha23) ⟨Fr.refl _ _,rfl⟩
   ·intro ρ w15o F15o hS hρ
    have q24:ρ 24=str (((x16++x17)++x19)++x22):=hS 17 (by decide) 24 rfl
    exact o_q (r_asg q24) ⟨Fr.refl _ _,rfl⟩
   ·intro ρ w15o F15o hS hρ
    exact o_q (r_asg rfl) ⟨Fr.refl _ _,rfl⟩
  ·intro ρ w15 F15 hS hρ
   have q2:ρ 2=str (((x16++x17)++x19)++x22):=hS 18 2 rfl
   have q3:ρ 3=.int .i64 (0:Int):=hS 19 3 rfl
   obtain ⟨ρ',rfl⟩:∃ ρ',ρ=envs (ovr [2,3,7,8,9,10,11,12,13,14,15,16,17,18,19,20,21,22,23,24] ρ' _) [(2,str (((x16++x17)++x19)++x22)),(3,.int .i64 (0:Int))]:=⟨ρ,ovr_self hρ ⟨q2,q3,trivial⟩⟩
   have E51:=E11.trans F15
   refine sq_n ?_
   refine ec_ret ?_
   subst h
   exact (end2 rfl rfl ⟨_,rfl,E51,rfl⟩)
def ref07_get_raw (d0:Str) (d1:Int) (d2:Int) (y:Int):Prop :=
 ∃ x1,ref01_Get_raw d0 d1 d2 x1∧(y=x1.1)
set_option maxRecDepth 20000 in
set_option maxHeartbeats 4000000 in
theorem ref07_get_c {L:List Nat} {w:World} (d0:Str) (d1:Int) (d2:Int) (hL:Lt L w) {y:Int} (h:ref07_get_raw d0 d1 d2 y) :
  Calls Try.prog 62 [str d0,.int .i64 d1,.int .i64 d2].toArray w (Ret fun v w'=>Ext w w'∧v=.int .i64 y):=by
 unfold ref07_get_raw at h
 refine calls_ec Try.func62 rfl rfl rfl ?_
 refine ec_seq ?_
 refine ec_region ?_
 refine o_w (v:=.int .i64 (0:Int)) (r_asg rfl) ?_
 refine eo_nil_sq ?_
 refine ec_seq ?_
 refine ec_region ?_
 refine o_w (v:=str d0) (r_mov rfl) ?_
 refine o_w (v:=.int .i64 d1) (r_mov rfl) ?_
 refine o_w (v:=.int .i64 d2) (r_mov rfl) ?_
 obtain ⟨x1,hx1,h⟩:=h
 refine o_call cf_ref01_Get rfl (ref01_Get_c d0 d1 d2 hL hx1) rfl rfl ?_
 rintro _ w1 ⟨F1,rfl⟩
 refine o_w (v:=.tuple #[.int .i64 x1.1,.int .i64 x1.2]) (r_mov rfl) ?_
 refine o_w (v:=.int .i64 x1.1) (r_ext rfl rfl) ?_
 refine o_w (v:=.int .i64 x1.2) (r_ext rfl rfl) ?_
 refine o_w (v:=.int .i64 x1.1) (r_asg rfl) ?_
 refine o_w (v:=.int .i64 x1.2) (r_asg rfl) ?_
 refine eo_nil_sq ?_
 refine ec_seq ?_
 refine ec_region ?_
 refine o_w (v:=.int .i64 x1.1) (r_mov rfl) ?_
 refine o_w (v:=.int .i64 x1.1) (r_asg rfl) ?_
 refine eo_nil_sq ?_
 refine ec_ret ?_
 subst h
 exact (end1 rfl ⟨_,rfl,F1,rfl⟩)
def ref07_gets_b1 (d0:Str) (d1:Int) (s1:List Int × Int) (z1:(List Int × Int) ⊕ (List Int × Int)):Prop :=
 ((decide (s1.2<(8:Int)))=true→(∃ x4,ref07_get_raw d0 (IntKind.i64.wrap (d1 + (IntKind.i64.wrap ((2:Int) * s1.2)))) (2:Int) x4∧((s1.1.length + 1≤9223372036854775807∧(s1.1.length + 1) * 8≤140737488355328)∧(z1=.inl ((s1.1++([x4]:List Int)),(IntKind.i64.wrap (s1.2 + (1:Int))))))))∧((decide (s1.2<(8:Int)))=false→(z1=.inr (s1.1,s1.2)))
def ref07_gets_raw (d0:Str) (d1:Int) (y:(List Int)):Prop :=
 ∃ x1,LoopR (ref07_gets_b1 d0 d1) (([]:List Int),(0:Int)) x1∧(y=x1.1)
set_option maxRecDepth 20000 in
set_option maxHeartbeats 4000000 in
theorem ref07_gets_c {L:List Nat} {w:World} (d0:Str) (d1:Int) (hL:Lt L w) {y:(List Int)} (h:ref07_gets_raw d0 d1 y) :
  Calls Try.prog 63 [str d0,.int .i64 d1].toArray w (Ret fun v w'=>Ext w w'∧OwnS (kI .i64) w.heap.size 3 L w' v y∧(∀ q∈own v,w.heap.size≤q)):=by
 have hL0:=hL
 unfold ref07_gets_raw at h
 refine calls_ec Try.func63 rfl rfl rfl ?_
 refine ec_seq ?_
 refine ec_region ?_
 refine o_w (v:=.slice none ([]:List Int).length 0) (r_asg rfl) ?_
 refine eo_nil_sq ?_
 refine ec_seq ?_
 refine ec_region ?_
 refine o_w (v:=.slice none ([]:List Int).length 0) (r_asg rfl) ?_
 refine eo_nil_sq ?_
 iterate 2 refine ec_seq ?_
 refine ec_region ?_
 refine o_w (v:=.int .i64 (0:Int)) (r_asg rfl) ?_
 refine eo_nil_sq ?_
 refine ec_block ?_
 have lo2:w.heap.size≤w.heap.size:=Nat.le_refl _
 have O2:=OwnS.nil (k:=(kI .i64)) (e:=3) (by decide) hL
 obtain ⟨x1,hl1,h⟩:=h
 refine ec_loopE 0 (I:=(fun (s1:List Int × Int) ρ ds w'=>∃ (ρ':Env) (v1i1:Value),ρ=envs ρ' [(5,v1i1),(6,.int .i64 s1.2),(0,str d0),(1,.int .i64 d1)]∧ds=[]∧Fr (own (.slice none 0 0)++L) w w'∧Ext w w'∧OwnS (kI .i64) (w.heap.size) 3 L w' v1i1 s1.1∧(∀ q∈own v1i1,q∈(own (.slice none 0 0)++L)∨w.heap.size≤q))) ?_ hl1 ?_ ?_
 ·intro s1 z1 ρ1 ds1 w1r hI1 hb1
  obtain ⟨ρ1r,v1r1,rfl,rfl,F1r,E1r,O1r1,N1r1⟩:=hI1
  have h:=hb1
  unfold ref07_gets_b1 at h
  iterate 2 refine ec_seq ?_
  refine ec_region ?_
  refine o_w (v:=.int .i64 s1.2) (r_mov rfl) ?_
  refine o_w (v:=.bool (decide (s1.2<(8:Int)))) (r_int rfl rfl rfl) ?_
  refine eo_nil_sq ?_
  refine ec_cond rfl (fun hc3=>?_) (fun hc3=>?_)
  ·replace h:=h.1 hc3
   refine ec_skip ?_
   refine sq_n ?_
   refine ec_seq ?_
   refine ec_block ?_
   refine ec_region ?_
   refine o_w (v:=v1r1) (r_mov rfl) ?_
   refine o_w (v:=str d0) (r_mov rfl) ?_
   refine o_w (v:=.int .i64 d1) (r_mov rfl) ?_
   refine o_w (v:=.int .i64 s1.2) (r_mov rfl) ?_
   refine o_w (v:=.int .i64 (IntKind.i64.wrap ((2:Int) * s1.2))) (r_int rfl rfl rfl) ?_
   refine o_w (v:=.int .i64 (IntKind.i64.wrap (d1 + (IntKind.i64.wrap ((2:Int) * s1.2))))) (r_int rfl rfl rfl) ?_
   obtain ⟨x4,hx4,h⟩:=h
   refine o_call cf_ref07_get rfl (ref07_get_c d0 (IntKind.i64.wrap (d1 + (IntKind.i64.wrap ((2:Int) * s1.2)))) (2:Int) ((hL.fr E1r).own O1r1) hx4) rfl rfl ?_
   rintro _ w4 ⟨F4,rfl⟩
   have E5:=E1r.trans F4
   refine o_bslice slc_s_int rfl (vs:=[.int .i64 x4]) rfl rfl rfl (cs:=[.int .i64 x4]) rfl rfl rfl rfl ?_
   intro b8 w8 e8 F8 B8
   have N8:=nin ((hL.fr E5).own (O1r1.ex F4)) e8
   have S8:=B8.stb N8
   have E9:=E5.trans F8
   obtain ⟨ha13,h⟩:=h
   refine o_app slc_s_int rfl rfl rfl ((O1r1.ex F4).ex F8) rfl S8.now (ys:=([x4]:List Int)) rfl rfl rfl (rowd1 (cs:=[.int .i64 x4]) (fun _ _=>rfl) rfl) ha13 rfl rfl ?_
   intro v12 w12 F12 O12 N12
   have P14:∀ m∈own v12,m∈(own (.slice none 0 0)++L)∨w.heap.size≤m:=fun m hm=>(N12 m hm).elim (fun h=>(show ∀ m∈own v1r1,m∈(own (.slice none 0 0)++L)∨w.heap.size≤m from N1r1) m h) (fun h=>.inr (Nat.le_trans (((F1r.trans (Fr.ext F4)).trans (Fr.ext F8)).size) h))
   have E16:=Ext.st E9 F12 (fun m hm=>Nat.le_trans lo2 (((O1r1.ex F4).ex F8).lo m hm))
   have G17:Fr (own (.slice none 0 0)++L) w w12:=((F1r.trans (Fr.ext F4)).trans (Fr.ext F8)).stp F12 N1r1
   refine o_w (v:=v12) (r_asg rfl) ?_
   refine eo_nil ?_
   refine blk_n ?_
   refine sq_n ?_
   refine ec_region ?_
   refine o_w (v:=.int .i64 s1.2) (r_mov rfl) ?_
   refine o_w (v:=.int .i64 (IntKind.i64.wrap (s1.2 + (1:Int)))) (r_int rfl rfl rfl) ?_
   refine o_w (v:=.int .i64 (IntKind.i64.wrap (s1.2 + (1:Int)))) (r_asg rfl) ?_
   refine eo_nil ?_
   subst h
   exact lq_n ⟨_,v12,envs_self ⟨rfl,rfl,rfl,rfl,trivial⟩,rfl,G17,E16,O12,P14⟩
  ·replace h:=h.2 hc3
   refine ec_exit ?_
   refine sq_exit ?_
   subst h
   exact lq_x ⟨_,v1r1,envs_self ⟨rfl,rfl,rfl,rfl,trivial⟩,rfl,F1r,E1r,O1r1,N1r1⟩
 ·exact ⟨_,(.slice none 0 0),envs_self ⟨rfl,rfl,rfl,rfl,trivial⟩,rfl,(Fr.refl _ _),(Fr.refl _ _),O2,(fun q hq=>.inl (by first | exact List.mem_append_left _ hq | simp [hq]))⟩
 ·rintro ρ1e ds1e w1e ⟨ρ1e,v1e1,rfl,rfl,F1e,E1e,O1e1,N1e1⟩
  refine blk_hit ?_
  refine sq_n ?_
  refine ec_seq ?_
  refine ec_region ?_
  refine o_w (v:=v1e1) (r_mov rfl) ?_
  refine o_w (v:=v1e1) (r_asg rfl) ?_
  refine eo_nil_sq ?_
  refine ec_ret ?_
  subst h
  exact (end1 rfl ⟨_,rfl,E1e,(O1e1.weak (by simp)).mono lo2 hL0,fun q hq=>Nat.le_trans lo2 (O1e1.lo q hq)⟩)
def ref07_read_raw (d0:Str) (y:Ent):Prop :=
 ∃ x2,ref07_get_raw d0 (0:Int) (1:Int) x2∧(((x2==(1:Int))=true→(∃ x13,ref07_get_raw d0 (10:Int) (4:Int) x13∧(∃ x20,ref07_get_raw d0 (14:Int) (1:Int) x20∧(∃ x27,ref07_get_raw d0 (15:Int) (1:Int) x27∧(∃ x34,ref07_get_raw d0 (16:Int) (1:Int) x34∧((0≤(17:Int)∧(17:Int)≤(IntKind.i64.wrap ((17:Int) + (min x34 (8:Int))))∧(IntKind.i64.wrap ((17:Int) + (min x34 (8:Int))))≤(d0.length:Int))∧(((x2==(2:Int))=true→(∃ x43,ref07_gets_raw d0 (10:Int) x43∧(∃ x54,ref07_gets_raw d0 (26:Int) x54∧(((x2==(3:Int))=true→(∃ x68,ref07_get_raw d0 (10:Int) (4:Int) x68∧(∃ x74,ref07_get_raw d0 (14:Int) (4:Int) x74∧(∃ x96,ref07_get_raw d0 (1:Int) (1:Int) x96∧((0≤(2:Int)∧(2:Int)≤(IntKind.i64.wrap ((2:Int) + (min x96 (8:Int))))∧(IntKind.i64.wrap ((2:Int) + (min x96 (8:Int))))≤(d0.length:Int))∧(y=(⟨(cut d0 (2:Int) (IntKind.i64.wrap ((2:Int) + (min x96 (8:Int))))),(⟨x2,x13,x20,(x27==(1:Int)),(cut d0 (17:Int) (IntKind.i64.wrap ((17:Int) + (min x34 (8:Int))))),x43,x54,(IntKind.u64.wrap ((IntKind.u64.wrap x68) + (IntKind.u64.wrap ((4294967296:Int) * (IntKind.u64.wrap x74)))))⟩:Val)⟩:Ent)))))))∧((x2==(3:Int))=false→(∃ x128,ref07_get_raw d0 (1:Int) (1:Int) x128∧((0≤(2:Int)∧(2:Int)≤(IntKind.i64.wrap ((2:Int) + (min x128 (8:Int))))∧(IntKind.i64.wrap ((2:Int) + (min x128 (8:Int))))≤(d0.length:Int))∧(y=(⟨(cut d0 (2:Int) (IntKind.i64.wrap ((2:Int) + (min x128 (8:Int))))),(⟨x2,x13,x20,(x27==(1:Int)),(cut d0 (17:Int) (IntKind.i64.wrap ((17:Int) + (min x34 (8:Int))))),x43,x54,(0:Int)⟩:Val)⟩:Ent)))))))))∧((x2==(2:Int))=false→(((x2==(3:Int))=true→(∃ x150,ref07_get_raw d0 (10:Int) (4:Int) x150∧(∃ x154,ref07_get_raw d0 (14:Int) (4:Int) x154∧(∃ x162,ref07_get_raw d0 (1:Int) (1:Int) x162∧((0≤(2:Int)∧(2:Int)≤(IntKind.i64.wrap ((2:Int) + (min x162 (8:Int))))∧(IntKind.i64.wrap ((2:Int) + (min x162 (8:Int))))≤(d0.length:Int))∧(y=(⟨(cut d0 (2:Int) (IntKind.i64.wrap ((2:Int) + (min x162 (8:Int))))),(⟨x2,x13,x20,(x27==(1:Int)),(cut d0 (17:Int) (IntKind.i64.wrap ((17:Int) + (min x34 (8:Int))))),([]:List Int),([]:List Int),(IntKind.u64.wrap ((IntKind.u64.wrap x150) + (IntKind.u64.wrap ((4294967296:Int) * (IntKind.u64.wrap x154)))))⟩:Val)⟩:Ent)))))))∧((x2==(3:Int))=false→(∃ x176,ref07_get_raw d0 (1:Int) (1:Int) x176∧((0≤(2:Int)∧(2:Int)≤(IntKind.i64.wrap ((2:Int) + (min x176 (8:Int))))∧(IntKind.i64.wrap ((2:Int) + (min x176 (8:Int))))≤(d0.length:Int))∧(y=(⟨(cut d0 (2:Int) (IntKind.i64.wrap ((2:Int) + (min x176 (8:Int))))),(⟨x2,x13,x20,(x27==(1:Int)),(cut d0 (17:Int) (IntKind.i64.wrap ((17:Int) + (min x34 (8:Int))))),([]:List Int),([]:List Int),(0:Int)⟩:Val)⟩:Ent))))))))))))))∧((x2==(1:Int))=false→(((x2==(2:Int))=true→(∃ x190,ref07_gets_raw d0 (10:Int) x190∧(∃ x201,ref07_gets_raw d0 (26:Int) x201∧(((x2==(3:Int))=true→(∃ x215,ref07_get_raw d0 (10:Int) (4:Int) x215∧(∃ x221,ref07_get_raw d0 (14:Int) (4:Int) x221∧(∃ x243,ref07_get_raw d0 (1:Int) (1:Int) x243∧((0≤(2:Int)∧(2:Int)≤(IntKind.i64.wrap ((2:Int) + (min x243 (8:Int))))∧(IntKind.i64.wrap ((2:Int) + (min x243 (8:Int))))≤(d0.length:Int))∧(y=(⟨(cut d0 (2:Int) (IntKind.i64.wrap ((2:Int) + (min x243 (8:Int))))),(⟨x2,(0:Int),(0:Int),false,([]:Str),x190,x201,(IntKind.u64.wrap ((IntKind.u64.wrap x215) + (IntKind.u64.wrap ((4294967296:Int) * (IntKind.u64.wrap x221)))))⟩:Val)⟩:Ent)))))))∧((x2==(3:Int))=false→(∃ x275,ref07_get_raw d0 (1:Int) (1:Int) x275∧((0≤(2:Int)∧(2:Int)≤(IntKind.i64.wrap ((2:Int) + (min x275 (8:Int))))∧(IntKind.i64.wrap ((2:Int) + (min x275 (8:Int))))≤(d0.length:Int))∧(y=(⟨(cut d0 (2:Int) (IntKind.i64.wrap ((2:Int) + (min x275 (8:Int))))),(⟨x2,(0:Int),(0:Int),false,([]:Str),x190,x201,(0:Int)⟩:Val)⟩:Ent)))))))))∧((x2==(2:Int))=false→(((x2==(3:Int))=true→(∃ x297,ref07_get_raw d0 (10:Int) (4:Int) x297∧(∃ x301,ref07_get_raw d0 (14:Int) (4:Int) x301∧(∃ x309,ref07_get_raw d0 (1:Int) (1:Int) x309∧((0≤(2:Int)∧(2:Int)≤(IntKind.i64.wrap ((2:Int) + (min x309 (8:Int))))∧(IntKind.i64.wrap ((2:Int) + (min x309 (8:Int))))≤(d0.length:Int))∧(y=(⟨(cut d0 (2:Int) (IntKind.i64.wrap ((2:Int) + (min x309 (8:Int))))),(⟨x2,(0:Int),(0:Int),false,([]:Str),([]:List Int),([]:List Int),(IntKind.u64.wrap ((IntKind.u64.wrap x297) + (IntKind.u64.wrap ((4294967296:Int) * (IntKind.u64.wrap x301)))))⟩:Val)⟩:Ent)))))))∧((x2==(3:Int))=false→(∃ x323,ref07_get_raw d0 (1:Int) (1:Int) x323∧((0≤(2:Int)∧(2:Int)≤(IntKind.i64.wrap ((2:Int) + (min x323 (8:Int))))∧(IntKind.i64.wrap ((2:Int) + (min x323 (8:Int))))≤(d0.length:Int))∧(y=(⟨(cut d0 (2:Int) (IntKind.i64.wrap ((2:Int) + (min x323 (8:Int))))),(⟨x2,(0:Int),(0:Int),false,([]:Str),([]:List Int),([]:List Int),(0:Int)⟩:Val)⟩:Ent))))))))))
set_option maxRecDepth 20000 in
set_option maxHeartbeats 4000000 in
theorem ref07_read_c {L:List Nat} {w:World} (d0:Str) (hL:Lt L w) {y:Ent} (h:ref07_read_raw d0 y) :
  Calls Try.prog 45 [str d0].toArray w (Ret fun v w'=>Ext w w'∧∃ (cs90:List Value),v=.agg cs90.toArray∧Stb L w' (fun w=>kEnt.r w cs90 y)):=by
 unfold ref07_read_raw at h
 refine calls_ec Try.func45 rfl rfl rfl ?_
 refine ec_seq ?_
 refine ec_region ?_
 refine o_alloc zero_api_Entry rfl rfl rfl ?_
 intro b1 w1 e1 F1 B1
 have n1:w.heap.size≤b1:=Nat.le_of_eq e1.symm
 refine eo_nil_sq ?_
 refine ec_seq ?_
 refine ec_region ?_
 refine o_w (v:=str d0) (r_mov rfl) ?_
 obtain ⟨x2,hx2,h⟩:=h
 refine o_call cf_ref07_get rfl (ref07_get_c d0 (0:Int) (1:Int) ((hL.fr F1).cons B1.lt) hx2) rfl rfl ?_
 rintro _ w2 ⟨F2,rfl⟩
 have E3:=F1.trans F2
 refine o_w (v:=.agg #[.int .i64 x2,.int .i64 (0:Int),.int .i64 (0:Int),.bool false,str ([]:Str),.slice none ([]:List Int).length 0,.slice none ([]:List Int).length 0,.int .u64 (0:Int)]) (r_build bld_api_Value (vs:=[(0,.int .i64 x2)]) (cells:=[.int .i64 x2,.int .i64 (0:Int),.int .i64 (0:Int),.bool false,str ([]:Str),.slice none ([]:List Int).length 0,.slice none ([]:List Int).length 0,.int .u64 (0:Int)]) rfl rfl) ?_
 refine o_alloc zero_api_Value rfl rfl rfl ?_
 intro b5 w5 e5 F5 B5
 have n5:w.heap.size≤b5:=by rw [e5]; exact E3.size
 have q6:b1<b5:=by rw [e5]; exact (B1.ex F2).lt
 have E7:=E3.trans F5
 refine o_store rfl B5 (vs:=[.int .i64 x2,.int .i64 (0:Int),.int .i64 (0:Int),.bool false,str ([]:Str),.slice none ([]:List Int).length 0,.slice none ([]:List Int).length 0,.int .u64 (0:Int)]) rfl sz_api_Value rfl rfl rfl ?_
 intro w9 F9 B9
 have E10:=Ext.st E7 F9 (by simp; omega)
 have B11:=((B1.ex F2).ex F5).fr F9 (by simp; omega)
 have B9':Blk w9 b5 _ [.int .i64 x2,.int .i64 (0:Int),.int .i64 (0:Int),.bool false,str ([]:Str),.slice none ([]:List Int).length 0,.slice none ([]:List Int).length 0,.int .u64 (0:Int)]:=B9
 refine eo_nil_sq ?_
 iterate 2 refine ec_seq ?_
 refine ec_region ?_
 refine o_w (v:=.pointer (some ⟨b5,0,none⟩)) (r_fa fld_api_Value_0 rfl rfl) ?_
 refine o_w (v:=.int .i64 x2) (r_ld one_int rfl (B9'.cell rfl)) ?_
 refine o_w (v:=.bool (x2==(1:Int))) (r_int rfl rfl rfl) ?_
 refine eo_nil_sq ?_
 refine ec_cond rfl (fun hc12=>?_) (fun hc12=>?_)
 ·replace h:=h.1 hc12
  refine ec_seq ?_
  refine ec_region ?_
  refine o_w (v:=str d0) (r_mov rfl) ?_
  obtain ⟨x13,hx13,h⟩:=h
  refine o_call cf_ref07_get rfl (ref07_get_c d0 (10:Int) (4:Int) (((hL.fr E10).cons B11.lt).cons B9'.lt) hx13) rfl rfl ?_
  rintro _ w13 ⟨F13,rfl⟩
  have E14:=E10.trans F13
  refine o_w (v:=.pointer (some ⟨b5,1,none⟩)) (r_fa fld_api_Value_1 rfl rfl) ?_
  refine o_store rfl (B9'.ex F13) (vs:=[.int .i64 x13]) rfl sz_int rfl rfl rfl ?_
  intro w17 F17 B17
  have E18:=Ext.st E14 F17 (by simp; omega)
  have B19:=(B11.ex F13).fr F17 (by simp; omega)
  have B17':Blk w17 b5 _ [.int .i64 x2,.int .i64 x13,.int .i64 (0:Int),.bool false,str ([]:Str),.slice none ([]:List Int).length 0,.slice none ([]:List Int).length 0,.int .u64 (0:Int)]:=B17
  refine eo_nil_sq ?_
  refine ec_seq ?_
  refine ec_region ?_
  refine o_w (v:=str d0) (r_mov rfl) ?_
  obtain ⟨x20,hx20,h⟩:=h
  refine o_call cf_ref07_get rfl (ref07_get_c d0 (14:Int) (1:Int) (((hL.fr E18).cons B19.lt).cons B17'.lt) hx20) rfl rfl ?_
  rintro _ w20 ⟨F20,rfl⟩
  have E21:=E18.trans F20
  refine o_w (v:=.pointer (some ⟨b5,2,none⟩)) (r_fa fld_api_Value_2 rfl rfl) ?_
  refine o_store rfl (B17'.ex F20) (vs:=[.int .i64 x20]) rfl sz_int rfl rfl rfl ?_
  intro w24 F24 B24
  have E25:=Ext.st E21 F24 (by simp; omega)
  have B26:=(B19.ex F20).fr F24 (by simp; omega)
  have B24':Blk w24 b5 _ [.int .i64 x2,.int .i64 x13,.int .i64 x20,.bool false,str ([]:Str),.slice none ([]:List Int).length 0,.slice none ([]:List Int).length 0,.int .u64 (0:Int)]:=B24
  refine eo_nil_sq ?_
  refine ec_seq ?_
  refine ec_region ?_
  refine o_w (v:=str d0) (r_mov rfl) ?_
  obtain ⟨x27,hx27,h⟩:=h
  refine o_call cf_ref07_get rfl (ref07_get_c d0 (15:Int) (1:Int) (((hL.fr E25).cons B26.lt).cons B24'.lt) hx27) rfl rfl ?_
  rintro _ w27 ⟨F27,rfl⟩
  have E28:=E25.trans F27
  refine o_w (v:=.bool (x27==(1:Int))) (r_int rfl rfl rfl) ?_
  refine o_w (v:=.pointer (some ⟨b5,3,none⟩)) (r_fa fld_api_Value_3 rfl rfl) ?_
  refine o_store rfl (B24'.ex F27) (vs:=[.bool (x27==(1:Int))]) rfl sz_bool rfl rfl rfl ?_
  intro w31 F31 B31
  have E32:=Ext.st E28 F31 (by simp; omega)
  have B33:=(B26.ex F27).fr F31 (by simp; omega)
  have B31':Blk w31 b5 _ [.int .i64 x2,.int .i64 x13,.int .i64 x20,.bool (x27==(1:Int)),str ([]:Str),.slice none ([]:List Int).length 0,.slice none ([]:List Int).length 0,.int .u64 (0:Int)]:=B31
  refine eo_nil_sq ?_
  refine ec_region ?_
  iterate 2 refine o_w (v:=str d0) (r_mov rfl) ?_
  obtain ⟨x34,hx34,h⟩:=h
  refine o_call cf_ref07_get rfl (ref07_get_c d0 (16:Int) (1:Int) (((hL.fr E32).cons B33.lt).cons B31'.lt) hx34) rfl rfl ?_
  rintro _ w34 ⟨F34,rfl⟩
  have E35:=E32.trans F34
  refine o_w (v:=.int .i64 (min x34 (8:Int))) (r_min rfl rfl) ?_
  refine o_w (v:=.int .i64 (IntKind.i64.wrap ((17:Int) + (min x34 (8:Int))))) (r_int rfl rfl rfl) ?_
  obtain ⟨ha38,h⟩:=h
  refine o_w (v:=str (cut d0 (17:Int) (IntKind.i64.wrap ((17:Int) + (min x34 (8:Int)))))) (r_sl_str un_string rfl ⟨_,rfl⟩ ⟨_,rfl⟩ ha38.1 ha38.2.1 ha38.2.2) ?_
  refine o_w (v:=.pointer (some ⟨b5,4,none⟩)) (r_fa fld_api_Value_4 rfl rfl) ?_
  refine o_store rfl (B31'.ex F34) (vs:=[str (cut d0 (17:Int) (IntKind.i64.wrap ((17:Int) + (min x34 (8:Int)))))]) rfl sz_string rfl rfl rfl ?_
  intro w39 F39 B39
  have E40:=Ext.st E35 F39 (by simp; omega)
  have B41:=(B33.ex F34).fr F39 (by simp; omega)
  have B39':Blk w39 b5 _ [.int .i64 x2,.int .i64 x13,.int .i64 x20,.bool (x27==(1:Int)),str (cut d0 (17:Int) (IntKind.i64.wrap ((17:Int) + (min x34 (8:Int))))),.slice none ([]:List Int).length 0,.slice none ([]:List Int).length 0,.int .u64 (0:Int)]:=B39
  refine eo_nil_sq ?_
  iterate 2 refine ec_seq ?_
  refine ec_region ?_
  refine o_w (v:=.pointer (some ⟨b5,0,none⟩)) (r_fa fld_api_Value_0 rfl rfl) ?_
  refine o_w (v:=.int .i64 x2) (r_ld one_int rfl (B39'.cell rfl)) ?_
  refine o_w (v:=.bool (x2==(2:Int))) (r_int rfl rfl rfl) ?_
  refine eo_nil_sq ?_
  refine ec_cond rfl (fun hc42=>?_) (fun hc42=>?_)
  ·replace h:=h.1 hc42
   refine ec_seq ?_
   refine ec_region ?_
   refine o_w (v:=str d0) (r_mov rfl) ?_
   obtain ⟨x43,hx43,h⟩:=h
   refine o_call cf_ref07_gets rfl (ref07_gets_c d0 (10:Int) (((hL.fr E40).cons B41.lt).cons B39'.lt) hx43) rfl rfl ?_
   have lo44:w.heap.size≤w39.heap.size:=E40.size
   rintro v44 w43 ⟨F43,O44,N44⟩
   have E45:=E40.trans F43
   refine o_w (v:=.pointer (some ⟨b5,5,none⟩)) (r_fa fld_api_Value_5 rfl rfl) ?_
   obtain ⟨A48,c49,rfl⟩:=O44.shape
   refine o_store rfl (B39'.ex F43) (vs:=[(.slice A48 x43.length c49)]) rfl sz_s_int rfl rfl rfl ?_
   intro w50 F50 B50
   have E51:=Ext.st E45 F50 (by simp; omega)
   have B52:=(B41.ex F43).fr F50 (by simp; omega)
   have O53:=O44.fr F50 (by simp)
   have B50':Blk w50 b5 _ [.int .i64 x2,.int .i64 x13,.int .i64 x20,.bool (x27==(1:Int)),str (cut d0 (17:Int) (IntKind.i64.wrap ((17:Int) + (min x34 (8:Int))))),(.slice A48 x43.length c49),.slice none ([]:List Int).length 0,.int .u64 (0:Int)]:=B50
   refine eo_nil_sq ?_
   refine ec_region ?_
   refine o_w (v:=str d0) (r_mov rfl) ?_
   obtain ⟨x54,hx54,h⟩:=h
   refine o_call cf_ref07_gets rfl (ref07_gets_c d0 (26:Int) ((((hL.fr E51).cons B52.lt).cons B50'.lt).own O53) hx54) rfl rfl ?_
   have lo55:w.heap.size≤w50.heap.size:=E51.size
   rintro v55 w54 ⟨F54,O55,N55⟩
   have E56:=E51.trans F54
   refine o_w (v:=.pointer (some ⟨b5,6,none⟩)) (r_fa fld_api_Value_6 rfl rfl) ?_
   obtain ⟨A60,c61,rfl⟩:=O55.shape
   refine o_store rfl (B50'.ex F54) (vs:=[(.slice A60 x54.length c61)]) rfl sz_s_int rfl rfl rfl ?_
   intro w62 F62 B62
   have E63:=Ext.st E56 F62 (by simp; omega)
   have B64:=(B52.ex F54).fr F62 (by simp; omega)
   have O65:=(O53.ex F54).fr F62 (by simp)
   have O66:=O55.fr F62 (by simp)
   have B62':Blk w62 b5 _ [.int .i64 x2,.int .i64 x13,.int .i64 x20,.bool (x27==(1:Int)),str (cut d0 (17:Int) (IntKind.i64.wrap ((17:Int) + (min x34 (8:Int))))),(.slice A48 x43.length c49),(.slice A60 x54.length c61),.int .u64 (0:Int)]:=B62
   refine eo_nil_sq ?_
   iterate 2 refine ec_seq ?_
   refine ec_region ?_
   refine o_w (v:=.pointer (some ⟨b5,0,none⟩)) (r_fa fld_api_Value_0 rfl rfl) ?_
   refine o_w (v:=.int .i64 x2) (r_ld one_int rfl (B62'.cell rfl)) ?_
   refine o_w (v:=.bool (x2==(3:Int))) (r_int rfl rfl rfl) ?_
   refine eo_nil_sq ?_
   refine ec_cond rfl (fun hc67=>?_) (fun hc67=>?_)
   ·replace h:=h.1 hc67
    refine ec_region ?_
    refine o_w (v:=str d0) (r_mov rfl) ?_
    obtain ⟨x68,hx68,h⟩:=h
    refine o_call cf_ref07_get rfl (ref07_get_c d0 (10:Int) (4:Int) (((((hL.fr E63).cons B64.lt).cons B62'.lt).own O65).own O66) hx68) rfl rfl ?_
    rintro _ w68 ⟨F68,rfl⟩
    have E69:=E63.trans F68
    refine o_w (v:=.int .u64 (IntKind.u64.wrap x68)) (r_conv un_int un_uint64 rfl) ?_
    refine o_w (v:=str d0) (r_mov rfl) ?_
    obtain ⟨x74,hx74,h⟩:=h
    refine o_call cf_ref07_get rfl (ref07_get_c d0 (14:Int) (4:Int) (((((hL.fr E69).cons (B64.ex F68).lt).cons (B62'.ex F68).lt).own (O65.ex F68)).own (O66.ex F68)) hx74) rfl rfl ?_
    rintro _ w74 ⟨F74,rfl⟩
    have E75:=E69.trans F74
    refine o_w (v:=.int .u64 (IntKind.u64.wrap x74)) (r_conv un_int un_uint64 rfl) ?_
    refine o_w (v:=.int .u64 (IntKind.u64.wrap ((4294967296:Int) * (IntKind.u64.wrap x74)))) (r_int rfl rfl rfl) ?_
    refine o_w (v:=.int .u64 (IntKind.u64.wrap ((IntKind.u64.wrap x68) + (IntKind.u64.wrap ((4294967296:Int) * (IntKind.u64.wrap x74)))))) (r_int rfl rfl rfl) ?_
    refine o_w (v:=.pointer (some ⟨b5,7,none⟩)) (r_fa fld_api_Value_7 rfl rfl) ?_
    refine o_store rfl ((B62'.ex F68).ex F74) (vs:=[.int .u64 (IntKind.u64.wrap ((IntKind.u64.wrap x68) + (IntKind.u64.wrap ((4294967296:Int) * (IntKind.u64.wrap x74)))))]) rfl sz_uint64 rfl rfl rfl ?_
    intro w80 F80 B80
    have E81:=Ext.st E75 F80 (by simp; omega)
    have B82:=((B64.ex F68).ex F74).fr F80 (by simp; omega)
    have O83:=((O65.ex F68).ex F74).fr F80 (by simp)
    have O84:=((O66.ex F68).ex F74).fr F80 (by simp)
    have B80':Blk w80 b5 _ [.int .i64 x2,.int .i64 x13,.int .i64 x20,.bool (x27==(1:Int)),str (cut d0 (17:Int) (IntKind.i64.wrap ((17:Int) + (min x34 (8:Int))))),(.slice A48 x43.length c49),(.slice A60 x54.length c61),.int .u64 (IntKind.u64.wrap ((IntKind.u64.wrap x68) + (IntKind.u64.wrap ((4294967296:Int) * (IntKind.u64.wrap x74)))))]:=B80
    refine eo_nil_sq ?_
    refine ec_seq ?_
    obtain ⟨A85,c86,eA85,H87⟩:=O83.still
    cases eA85
    have Zw80_88:=Fr.refl (b5::(b1::L)) w80
    obtain ⟨A90,c91,eA90,H92⟩:=O84.still
    cases eA90
    have Zw80_93:=Fr.refl (own (.slice A48 x43.length c49)++(b5::(b1::L))) w80
    obtain ⟨x96,hx96,h⟩:=h
    obtain ⟨ha97,h⟩:=h
    have qb95_b1:b1<w80.heap.size:=B82.lt
    refine ec_anyN (by kernel_rfl) [[],[],[1],[1,2],[1,2,3],[0,1,2,3,4],[],[0,1,2,3,4,5,6],[0,1,2,3,4,5,6,7]] [48,49,50,51,52,53,54,55] (b1::[]) [8] [[b1]] [[8]] [fun w'=>Blk w' b1 27 [str ([]:Str),.int .i64 (0:Int),.int .i64 (0:Int),.int .i64 (0:Int),.bool false,str ([]:Str),.slice none ([]:List Int).length 0,.slice none ([]:List Int).length 0,.int .u64 (0:Int)],fun w'=>Blk w' b1 27 [str (cut d0 (2:Int) (IntKind.i64.wrap ((2:Int) + (min x96 (8:Int))))),.int .i64 x2,.int .i64 x13,.int .i64 x20,.bool (x27==(1:Int)),str (cut d0 (17:Int) (IntKind.i64.wrap ((17:Int) + (min x34 (8:Int))))),.slice A48 x43.length c49,.slice A60 x54.length c61,.int .u64 (IntKind.u64.wrap ((IntKind.u64.wrap x68) + (IntKind.u64.wrap ((4294967296:Int) * (IntKind.u64.wrap x74)))))]] [fun v _=>v=(str d0:Value),fun v _=>v=(str d0:Value),fun v _=>v=(.int .i64 x96:Value),fun v _=>v=(.int .i64 (min x96 (8:Int)):Value),fun v _=>v=(.int .i64 (IntKind.i64.wrap ((2:Int) + (min x96 (8:Int)))):Value),fun v _=>v=(str (cut d0 (2:Int) (IntKind.i64.wrap ((2:Int) + (min x96 (8:Int))))):Value),fun v _=>v=(.agg #[.int .i64 x2,.int .i64 x13,.int .i64 x20,.bool (x27==(1:Int)),str (cut d0 (17:Int) (IntKind.i64.wrap ((17:Int) + (min x34 (8:Int))))),.slice A48 x43.length c49,.slice A60 x54.length c61,.int .u64 (IntKind.u64.wrap ((IntKind.u64.wrap x68) + (IntKind.u64.wrap ((4294967296:Int) * (IntKind.u64.wrap x74)))))]:Value),fun v _=>v=(.agg #[str (cut d0 (2:Int) (IntKind.i64.wrap ((2:Int) + (min x96 (8:Int))))),.int .i64 x2,.int .i64 x13,.int .i64 x20,.bool (x27==(1:Int)),str (cut d0 (17:Int) (IntKind.i64.wrap ((17:Int) + (min x34 (8:Int))))),.slice A48 x43.length c49,.slice A60 x54.length c61,.int .u64 (IntKind.u64.wrap ((IntKind.u64.wrap x68) + (IntKind.u64.wrap ((4294967296:Int) * (IntKind.u64.wrap x74)))))]:Value),fun _ _=>True] (by kernel_rfl) (allM1 (fun m hm=>by first | exact hm | (simp at hm ⊢; simp [hm]; done) | simp_all) (fun _ h=>by cases h)) ⟨fun _ _ _ _ _ h=>h,fun _ _ _ _ _ h=>h,fun _ _ _ _ _ h=>h,fun _ _ _ _ _ h=>h,fun _ _ _ _ _ h=>h,fun _ _ _ _ _ h=>h,fun _ _ _ _ _ h=>h,fun _ _ _ _ _ h=>h,fun _ _ _ _ _ h=>h,trivial⟩ ⟨⟨fun _ _ _ _ _ h=>h,fun _ _ _ _ _ h=>h,fun _ _ _ _ _ h=>h,fun _ _ _ _ _ h=>h,fun _ _ _ _ _ h=>h,fun _ _ _ _ _ h=>h,fun _ _ _ _ _ h=>h,fun _ _ _ _ _ h=>h,(fun h=>absurd h (by decide)),trivial⟩,trivial⟩ ⟨fun w' w'' F h=>by have hB95_b1:=h; exact (hB95_b1.ex F),fun w' w'' F h=>by have hB95_b1:=h; exact (hB95_b1.ex F),trivial⟩ B82 ?_ ?_ ?_
    ·refine ⟨?_,?_,?_,?_,?_,?_,?_,?_,?_,trivial⟩
     ·intro _ ρ w95o F95o hX hS hρ
      have F95o:=hX 8 rfl rfl
      have q0:ρ 0=str d0:=hρ 0 (by kernel_rfl)
      exact o_q (r_mov q0) ⟨Fr.refl _ _,rfl⟩
     ·intro _ ρ w95o F95o hX hS hρ
      have F95o:=hX 8 rfl rfl
      have q0:ρ 0=str d0:=hρ 0 (by kernel_rfl)
      exact o_q (r_mov q0) ⟨Fr.refl _ _,rfl⟩
     ·intro _ ρ w95o F95o hX hS hρ
      have F95o:=hX 8 rfl rfl
      have E98:=E81.trans F95o
      have q49:ρ 49=str d0:=hS 1 (by decide) 49 rfl
      refine o_call cf_ref07_get (by simp only [List.map,ev,q49] <;> rfl) (ref07_get_c d0 (1:Int) (1:Int) (((hL.fr E98).cons (B82.ex F95o).lt).cons (B80'.ex F95o).lt) hx96) rfl rfl ?_
      rintro _ w' ⟨F,rfl⟩
      exact eo_nil ⟨rfl,rfl,_,rfl,F,rfl⟩
     ·intro _ ρ w95o F95o hX hS hρ
      have F95o:=hX 8 rfl rfl
      have q50:ρ 50=.int .i64 x96:=hS 2 (by decide) 50 rfl
      exact o_q (r_min q50 rfl) ⟨Fr.refl _ _,rfl⟩
     ·intro _ ρ w95o F95o hX hS hρ
      have F95o:=hX 8 rfl rfl
      have q51:ρ 51=.int .i64 (min x96 (8:Int)):=hS 3 (by decide) 51 rfl
      exact o_q (r_int rfl q51 rfl) ⟨Fr.refl _ _,rfl⟩
     ·intro _ ρ w95o F95o hX hS hρ
      have F95o:=hX 8 rfl rfl
      have q48:ρ 48=str d0:=hS 0 (by decide) 48 rfl
      have q52:ρ 52=.int .i64 (IntKind.i64.wrap ((2:Int) + (min x96 (8:Int)))):=hS 4 (by decide) 52 rfl
      exact o_q (r_sl_str un_string q48 ⟨_,rfl⟩ ⟨_,q52⟩ ha97.1 ha97.2.1 ha97.2.2) ⟨Fr.refl _ _,rfl⟩
     ·intro _ ρ w95o F95o hX hS hρ
      have F95o:=hX 8 rfl rfl
      have q3:ρ 3=.pointer (some ⟨b5,0,none⟩):=hρ 3 (by kernel_rfl)
      exact o_q (r_lda agg_api_Value q3 (vs:=[.int .i64 x2,.int .i64 x13,.int .i64 x20,.bool (x27==(1:Int)),str (cut d0 (17:Int) (IntKind.i64.wrap ((17:Int) + (min x34 (8:Int))))),.slice A48 x43.length c49,.slice A60 x54.length c61,.int .u64 (IntKind.u64.wrap ((IntKind.u64.wrap x68) + (IntKind.u64.wrap ((4294967296:Int) * (IntKind.u64.wrap x74)))))]) rfl ((B80'.ex F95o).part (n:=8) rfl)) ⟨Fr.refl _ _,rfl⟩
     ·intro _ ρ w95o F95o hX hS hρ
      have F95o:=hX 8 rfl rfl
      have q53:ρ 53=str (cut d0 (2:Int) (IntKind.i64.wrap ((2:Int) + (min x96 (8:Int))))):=hS 5 (by decide) 53 rfl
      have q54:ρ 54=.agg #[.int .i64 x2,.int .i64 x13,.int .i64 x20,.bool (x27==(1:Int)),str (cut d0 (17:Int) (IntKind.i64.wrap ((17:Int) + (min x34 (8:Int))))),.slice A48 x43.length c49,.slice A60 x54.length c61,.int .u64 (IntKind.u64.wrap ((IntKind.u64.wrap x68) + (IntKind.u64.wrap ((4294967296:Int) * (IntKind.u64.wrap x74)))))]:=hS 6 (by decide) 54 rfl
      exact o_q (r_build bld_api_Entry (vs:=[(0,str (cut d0 (2:Int) (IntKind.i64.wrap ((2:Int) + (min x96 (8:Int)))))),(1,.agg #[.int .i64 x2,.int .i64 x13,.int .i64 x20,.bool (x27==(1:Int)),str (cut d0 (17:Int) (IntKind.i64.wrap ((17:Int) + (min x34 (8:Int))))),.slice A48 x43.length c49,.slice A60 x54.length c61,.int .u64 (IntKind.u64.wrap ((IntKind.u64.wrap x68) + (IntKind.u64.wrap ((4294967296:Int) * (IntKind.u64.wrap x74)))))])]) (cells:=[str (cut d0 (2:Int) (IntKind.i64.wrap ((2:Int) + (min x96 (8:Int))))),.int .i64 x2,.int .i64 x13,.int .i64 x20,.bool (x27==(1:Int)),str (cut d0 (17:Int) (IntKind.i64.wrap ((17:Int) + (min x34 (8:Int))))),.slice A48 x43.length c49,.slice A60 x54.length c61,.int .u64 (IntKind.u64.wrap ((IntKind.u64.wrap x68) + (IntKind.u64.wrap ((4294967296:Int) * (IntKind.u64.wrap x74)))))]) (by simp only [List.map,ev,q53,q54]) rfl) ⟨Fr.refl _ _,rfl⟩
     ·intro hT; exact absurd hT (by decide)
    ·refine ⟨⟨_,rfl,?_⟩,trivial⟩
     ·intro ρ w95o F95o hX hI hS hρ
      have hB95_b1:=hI
      have q2:ρ 2=.pointer (some ⟨b1,0,none⟩):=hρ 2 (by kernel_rfl)
      have q55:ρ 55=.agg #[str (cut d0 (2:Int) (IntKind.i64.wrap ((2:Int) + (min x96 (8:Int))))),.int .i64 x2,.int .i64 x13,.int .i64 x20,.bool (x27==(1:Int)),str (cut d0 (17:Int) (IntKind.i64.wrap ((17:Int) + (min x34 (8:Int))))),.slice A48 x43.length c49,.slice A60 x54.length c61,.int .u64 (IntKind.u64.wrap ((IntKind.u64.wrap x68) + (IntKind.u64.wrap ((4294967296:Int) * (IntKind.u64.wrap x74)))))]:=hS 7 (by decide) 55 rfl
      refine o_store (show ev ρ _=_ from q2) hB95_b1 (vs:=[str (cut d0 (2:Int) (IntKind.i64.wrap ((2:Int) + (min x96 (8:Int))))),.int .i64 x2,.int .i64 x13,.int .i64 x20,.bool (x27==(1:Int)),str (cut d0 (17:Int) (IntKind.i64.wrap ((17:Int) + (min x34 (8:Int))))),.slice A48 x43.length c49,.slice A60 x54.length c61,.int .u64 (IntKind.u64.wrap ((IntKind.u64.wrap x68) + (IntKind.u64.wrap ((4294967296:Int) * (IntKind.u64.wrap x74)))))]) (congrArg Value.cells q55) sz_api_Entry rfl rfl rfl ?_
      intro w' F B2
      exact eo_nil ⟨rfl,rfl,undef,rfl,F,B2,trivial⟩
    ·intro ρ w95 F95 hI hS hρ
     have hB95_b1:=hI
     obtain ⟨ρ',rfl⟩:∃ ρ',ρ=envs (ovr [48,49,50,51,52,53,54,55] ρ' _) []:=⟨ρ,ovr_self hρ trivial⟩
     have E113:Ext w w95:=Ext.st E81 F95 (upc n1 (fun m hm=>by cases hm))
     have G114:Fr (b5::(b1::L)) w80 w95:=Fr.stp Zw80_88 F95 (upc (.inl (by simp)) (fun m hm=>by cases hm))
     have G115:Fr (own (.slice A48 x43.length c49)++(b5::(b1::L))) w80 w95:=Fr.stp Zw80_93 F95 (upc (.inl (by simp)) (fun m hm=>by cases hm))
     refine sq_n ?_
     refine ec_ret ?_
     subst h
     exact (endr1 (rv_a rfl (agg_api_Entry) hB95_b1 (vs:=[str (cut d0 (2:Int) (IntKind.i64.wrap ((2:Int) + (min x96 (8:Int))))),.int .i64 x2,.int .i64 x13,.int .i64 x20,.bool (x27==(1:Int)),str (cut d0 (17:Int) (IntKind.i64.wrap ((17:Int) + (min x34 (8:Int))))),.slice A48 x43.length c49,.slice A60 x54.length c61,.int .u64 (IntKind.u64.wrap ((IntKind.u64.wrap x68) + (IntKind.u64.wrap ((4294967296:Int) * (IntKind.u64.wrap x74)))))]) rfl rfl) ⟨_,rfl,E113,_,rfl,(kEnt_mk (d:=(⟨(cut d0 (2:Int) (IntKind.i64.wrap ((2:Int) + (min x96 (8:Int))))),(⟨x2,x13,x20,(x27==(1:Int)),(cut d0 (17:Int) (IntKind.i64.wrap ((17:Int) + (min x34 (8:Int))))),x43,x54,(IntKind.u64.wrap ((IntKind.u64.wrap x68) + (IntKind.u64.wrap ((4294967296:Int) * (IntKind.u64.wrap x74)))))⟩:Val)⟩:Ent)) (H87.up G114 (fun _ h=>h) (fun m hm=>Or.inl (List.Mem.tail _ (List.Mem.tail _ hm)))) (H92.up G115 (fun _ h=>h) (fun m hm=>Or.inl (List.mem_append_right _ (List.Mem.tail _ (List.Mem.tail _ hm))))))⟩)
   ·replace h:=h.2 hc67
    refine ec_skip ?_
    refine sq_n ?_
    refine ec_seq ?_
    obtain ⟨A117,c118,eA117,H119⟩:=O65.still
    cases eA117
    have Zw62_120:=Fr.refl (b5::(b1::L)) w62
    obtain ⟨A122,c123,eA122,H124⟩:=O66.still
    cases eA122
    have Zw62_125:=Fr.refl (own (.slice A48 x43.length c49)++(b5::(b1::L))) w62
    obtain ⟨x128,hx128,h⟩:=h
    obtain ⟨ha129,h⟩:=h
    have qb127_b1:b1<w62.heap.size:=B64.lt
    refine ec_anyN (by kernel_rfl) [[],[],[1],[1,2],[1,2,3],[0,1,2,3,4],[],[0,1,2,3,4,5,6],[0,1,2,3,4,5,6,7]] [48,49,50,51,52,53,54,55] (b1::[]) [8] [[b1]] [[8]] [fun w'=>Blk w' b1 27 [str ([]:Str),.int .i64 (0:Int),.int .i64 (0:Int),.int .i64 (0:Int),.bool false,str ([]:Str),.slice none ([]:List Int).length 0,.slice none ([]:List Int).length 0,.int .u64 (0:Int)],fun w'=>Blk w' b1 27 [str (cut d0 (2:Int) (IntKind.i64.wrap ((2:Int) + (min x128 (8:Int))))),.int .i64 x2,.int .i64 x13,.int .i64 x20,.bool (x27==(1:Int)),str (cut d0 (17:Int) (IntKind.i64.wrap ((17:Int) + (min x34 (8:Int))))),.slice A48 x43.length c49,.slice A60 x54.length c61,.int .u64 (0:Int)]] [fun v _=>v=(str d0:Value),fun v _=>v=(str d0:Value),fun v _=>v=(.int .i64 x128:Value),fun v _=>v=(.int .i64 (min x128 (8:Int)):Value),fun v _=>v=(.int .i64 (IntKind.i64.wrap ((2:Int) + (min x128 (8:Int)))):Value),fun v _=>v=(str (cut d0 (2:Int) (IntKind.i64.wrap ((2:Int) + (min x128 (8:Int))))):Value),fun v _=>v=(.agg #[.int .i64 x2,.int .i64 x13,.int .i64 x20,.bool (x27==(1:Int)),str (cut d0 (17:Int) (IntKind.i64.wrap ((17:Int) + (min x34 (8:Int))))),.slice A48 x43.length c49,.slice A60 x54.length c61,.int .u64 (0:Int)]:Value),fun v _=>v=(.agg #[str (cut d0 (2:Int) (IntKind.i64.wrap ((2:Int) + (min x128 (8:Int))))),.int .i64 x2,.int .i64 x13,.int .i64 x20,.bool (x27==(1:Int)),str (cut d0 (17:Int) (IntKind.i64.wrap ((17:Int) + (min x34 (8:Int))))),.slice A48 x43.length c49,.slice A60 x54.length c61,.int .u64 (0:Int)]:Value),fun _ _=>True] (by kernel_rfl) (allM1 (fun m hm=>by first | exact hm | (simp at hm ⊢; simp [hm]; done) | simp_all) (fun _ h=>by cases h)) ⟨fun _ _ _ _ _ h=>h,fun _ _ _ _ _ h=>h,fun _ _ _ _ _ h=>h,fun _ _ _ _ _ h=>h,fun _ _ _ _ _ h=>h,fun _ _ _ _ _ h=>h,fun _ _ _ _ _ h=>h,fun _ _ _ _ _ h=>h,fun _ _ _ _ _ h=>h,trivial⟩ ⟨⟨fun _ _ _ _ _ h=>h,fun _ _ _ _ _ h=>h,fun _ _ _ _ _ h=>h,fun _ _ _ _ _ h=>h,fun _ _ _ _ _ h=>h,fun _ _ _ _ _ h=>h,fun _ _ _ _ _ h=>h,fun _ _ _ _ _ h=>h,(fun h=>absurd h (by decide)),trivial⟩,trivial⟩ ⟨fun w' w'' F h=>by have hB127_b1:=h; exact (hB127_b1.ex F),fun w' w'' F h=>by have hB127_b1:=h; exact (hB127_b1.ex F),trivial⟩ B64 ?_ ?_ ?_
    ·refine ⟨?_,?_,?_,?_,?_,?_,?_,?_,?_,trivial⟩
     ·intro _ ρ w127o F127o hX hS hρ
      have F127o:=hX 8 rfl rfl
      have q0:ρ 0=str d0:=hρ 0 (by kernel_rfl)
      exact o_q (r_mov q0) ⟨Fr.refl _ _,rfl⟩
     ·intro _ ρ w127o F127o hX hS hρ
      have F127o:=hX 8 rfl rfl
      have q0:ρ 0=str d0:=hρ 0 (by kernel_rfl)
      exact o_q (r_mov q0) ⟨Fr.refl _ _,rfl⟩
     ·intro _ ρ w127o F127o hX hS hρ
      have F127o:=hX 8 rfl rfl
      have E130:=E63.trans F127o
      have q49:ρ 49=str d0:=hS 1 (by decide) 49 rfl
      refine o_call cf_ref07_get (by simp only [List.map,ev,q49] <;> rfl) (ref07_get_c d0 (1:Int) (1:Int) (((hL.fr E130).cons (B64.ex F127o).lt).cons (B62'.ex F127o).lt) hx128) rfl rfl ?_
      rintro _ w' ⟨F,rfl⟩
      exact eo_nil ⟨rfl,rfl,_,rfl,F,rfl⟩
     ·intro _ ρ w127o F127o hX hS hρ
      have F127o:=hX 8 rfl rfl
      have q50:ρ 50=.int .i64 x128:=hS 2 (by decide) 50 rfl
      exact o_q (r_min q50 rfl) ⟨Fr.refl _ _,rfl⟩
     ·intro _ ρ w127o F127o hX hS hρ
      have F127o:=hX 8 rfl rfl
      have q51:ρ 51=.int .i64 (min x128 (8:Int)):=hS 3 (by decide) 51 rfl
      exact o_q (r_int rfl q51 rfl) ⟨Fr.refl _ _,rfl⟩
     ·intro _ ρ w127o F127o hX hS hρ
      have F127o:=hX 8 rfl rfl
      have q48:ρ 48=str d0:=hS 0 (by decide) 48 rfl
      have q52:ρ 52=.int .i64 (IntKind.i64.wrap ((2:Int) + (min x128 (8:Int)))):=hS 4 (by decide) 52 rfl
      exact o_q (r_sl_str un_string q48 ⟨_,rfl⟩ ⟨_,q52⟩ ha129.1 ha129.2.1 ha129.2.2) ⟨Fr.refl _ _,rfl⟩
     ·intro _ ρ w127o F127o hX hS hρ
      have F127o:=hX 8 rfl rfl
      have q3:ρ 3=.pointer (some ⟨b5,0,none⟩):=hρ 3 (by kernel_rfl)
      exact o_q (r_lda agg_api_Value q3 (vs:=[.int .i64 x2,.int .i64 x13,.int .i64 x20,.bool (x27==(1:Int)),str (cut d0 (17:Int) (IntKind.i64.wrap ((17:Int) + (min x34 (8:Int))))),.slice A48 x43.length c49,.slice A60 x54.length c61,.int .u64 (0:Int)]) rfl ((B62'.ex F127o).part (n:=8) rfl)) ⟨Fr.refl _ _,rfl⟩
     ·intro _ ρ w127o F127o hX hS hρ
      have F127o:=hX 8 rfl rfl
      have q53:ρ 53=str (cut d0 (2:Int) (IntKind.i64.wrap ((2:Int) + (min x128 (8:Int))))):=hS 5 (by decide) 53 rfl
      have q54:ρ 54=.agg #[.int .i64 x2,.int .i64 x13,.int .i64 x20,.bool (x27==(1:Int)),str (cut d0 (17:Int) (IntKind.i64.wrap ((17:Int) + (min x34 (8:Int))))),.slice A48 x43.length c49,.slice A60 x54.length c61,.int .u64 (0:Int)]:=hS 6 (by decide) 54 rfl
      exact o_q (r_build bld_api_Entry (vs:=[(0,str (cut d0 (2:Int) (IntKind.i64.wrap ((2:Int) + (min x128 (8:Int)))))),(1,.agg #[.int .i64 x2,.int .i64 x13,.int .i64 x20,.bool (x27==(1:Int)),str (cut d0 (17:Int) (IntKind.i64.wrap ((17:Int) + (min x34 (8:Int))))),.slice A48 x43.length c49,.slice A60 x54.length c61,.int .u64 (0:Int)])]) (cells:=[str (cut d0 (2:Int) (IntKind.i64.wrap ((2:Int) + (min x128 (8:Int))))),.int .i64 x2,.int .i64 x13,.int .i64 x20,.bool (x27==(1:Int)),str (cut d0 (17:Int) (IntKind.i64.wrap ((17:Int) + (min x34 (8:Int))))),.slice A48 x43.length c49,.slice A60 x54.length c61,.int .u64 (0:Int)]) (by simp only [List.map,ev,q53,q54]) rfl) ⟨Fr.refl _ _,rfl⟩
     ·intro hT; exact absurd hT (by decide)
    ·refine ⟨⟨_,rfl,?_⟩,trivial⟩
     ·intro ρ w127o F127o hX hI hS hρ
      have hB127_b1:=hI
      have q2:ρ 2=.pointer (some ⟨b1,0,none⟩):=hρ 2 (by kernel_rfl)
      have q55:ρ 55=.agg #[str (cut d0 (2:Int) (IntKind.i64.wrap ((2:Int) + (min x128 (8:Int))))),.int .i64 x2,.int .i64 x13,.int .i64 x20,.bool (x27==(1:Int)),str (cut d0 (17:Int) (IntKind.i64.wrap ((17:Int) + (min x34 (8:Int))))),.slice A48 x43.length c49,.slice A60 x54.length c61,.int .u64 (0:Int)]:=hS 7 (by decide) 55 rfl
      refine o_store (show ev ρ _=_ from q2) hB127_b1 (vs:=[str (cut d0 (2:Int) (IntKind.i64.wrap ((2:Int) + (min x128 (8:Int))))),.int .i64 x2,.int .i64 x13,.int .i64 x20,.bool (x27==(1:Int)),str (cut d0 (17:Int) (IntKind.i64.wrap ((17:Int) + (min x34 (8:Int))))),.slice A48 x43.length c49,.slice A60 x54.length c61,.int .u64 (0:Int)]) (congrArg Value.cells q55) sz_api_Entry rfl rfl rfl ?_
      intro w' F B2
      exact eo_nil ⟨rfl,rfl,undef,rfl,F,B2,trivial⟩
    ·intro ρ w127 F127 hI hS hρ
     have hB127_b1:=hI
     obtain ⟨ρ',rfl⟩:∃ ρ',ρ=envs (ovr [48,49,50,51,52,53,54,55] ρ' _) []:=⟨ρ,ovr_self hρ trivial⟩
     have E145:Ext w w127:=Ext.st E63 F127 (upc n1 (fun m hm=>by cases hm))
     have G146:Fr (b5::(b1::L)) w62 w127:=Fr.stp Zw62_120 F127 (upc (.inl (by simp)) (fun m hm=>by cases hm))
     have G147:Fr (own (.slice A48 x43.length c49)++(b5::(b1::L))) w62 w127:=Fr.stp Zw62_125 F127 (upc (.inl (by simp)) (fun m hm=>by cases hm))
     refine sq_n ?_
     refine ec_ret ?_
     subst h
     exact (endr1 (rv_a rfl (agg_api_Entry) hB127_b1 (vs:=[str (cut d0 (2:Int) (IntKind.i64.wrap ((2:Int) + (min x128 (8:Int))))),.int .i64 x2,.int .i64 x13,.int .i64 x20,.bool (x27==(1:Int)),str (cut d0 (17:Int) (IntKind.i64.wrap ((17:Int) + (min x34 (8:Int))))),.slice A48 x43.length c49,.slice A60 x54.length c61,.int .u64 (0:Int)]) rfl rfl) ⟨_,rfl,E145,_,rfl,(kEnt_mk (d:=(⟨(cut d0 (2:Int) (IntKind.i64.wrap ((2:Int) + (min x128 (8:Int))))),(⟨x2,x13,x20,(x27==(1:Int)),(cut d0 (17:Int) (IntKind.i64.wrap ((17:Int) + (min x34 (8:Int))))),x43,x54,(0:Int)⟩:Val)⟩:Ent)) (H119.up G146 (fun _ h=>h) (fun m hm=>Or.inl (List.Mem.tail _ (List.Mem.tail _ hm)))) (H124.up G147 (fun _ h=>h) (fun m hm=>Or.inl (List.mem_append_right _ (List.Mem.tail _ (List.Mem.tail _ hm))))))⟩)
  ·replace h:=h.2 hc42
   refine ec_skip ?_
   refine sq_n ?_
   iterate 2 refine ec_seq ?_
   refine ec_region ?_
   refine o_w (v:=.pointer (some ⟨b5,0,none⟩)) (r_fa fld_api_Value_0 rfl rfl) ?_
   refine o_w (v:=.int .i64 x2) (r_ld one_int rfl (B39'.cell rfl)) ?_
   refine o_w (v:=.bool (x2==(3:Int))) (r_int rfl rfl rfl) ?_
   refine eo_nil_sq ?_
   refine ec_cond rfl (fun hc149=>?_) (fun hc149=>?_)
   ·replace h:=h.1 hc149
    refine ec_region ?_
    refine o_w (v:=str d0) (r_mov rfl) ?_
    obtain ⟨x150,hx150,h⟩:=h
    refine o_call cf_ref07_get rfl (ref07_get_c d0 (10:Int) (4:Int) (((hL.fr E40).cons B41.lt).cons B39'.lt) hx150) rfl rfl ?_
    rintro _ w150 ⟨F150,rfl⟩
    have E151:=E40.trans F150
    refine o_w (v:=.int .u64 (IntKind.u64.wrap x150)) (r_conv un_int un_uint64 rfl) ?_
    refine o_w (v:=str d0) (r_mov rfl) ?_
    obtain ⟨x154,hx154,h⟩:=h
    refine o_call cf_ref07_get rfl (ref07_get_c d0 (14:Int) (4:Int) (((hL.fr E151).cons (B41.ex F150).lt).cons (B39'.ex F150).lt) hx154) rfl rfl ?_
    rintro _ w154 ⟨F154,rfl⟩
    have E155:=E151.trans F154
    refine o_w (v:=.int .u64 (IntKind.u64.wrap x154)) (r_conv un_int un_uint64 rfl) ?_
    refine o_w (v:=.int .u64 (IntKind.u64.wrap ((4294967296:Int) * (IntKind.u64.wrap x154)))) (r_int rfl rfl rfl) ?_
    refine o_w (v:=.int .u64 (IntKind.u64.wrap ((IntKind.u64.wrap x150) + (IntKind.u64.wrap ((4294967296:Int) * (IntKind.u64.wrap x154)))))) (r_int rfl rfl rfl) ?_
    refine o_w (v:=.pointer (some ⟨b5,7,none⟩)) (r_fa fld_api_Value_7 rfl rfl) ?_
    refine o_store rfl ((B39'.ex F150).ex F154) (vs:=[.int .u64 (IntKind.u64.wrap ((IntKind.u64.wrap x150) + (IntKind.u64.wrap ((4294967296:Int) * (IntKind.u64.wrap x154)))))]) rfl sz_uint64 rfl rfl rfl ?_
    intro w158 F158 B158
    have E159:=Ext.st E155 F158 (by simp; omega)
    have B160:=((B41.ex F150).ex F154).fr F158 (by simp; omega)
    have B158':Blk w158 b5 _ [.int .i64 x2,.int .i64 x13,.int .i64 x20,.bool (x27==(1:Int)),str (cut d0 (17:Int) (IntKind.i64.wrap ((17:Int) + (min x34 (8:Int))))),.slice none ([]:List Int).length 0,.slice none ([]:List Int).length 0,.int .u64 (IntKind.u64.wrap ((IntKind.u64.wrap x150) + (IntKind.u64.wrap ((4294967296:Int) * (IntKind.u64.wrap x154)))))]:=B158
    refine eo_nil_sq ?_
    refine ec_seq ?_
    obtain ⟨x162,hx162,h⟩:=h
    obtain ⟨ha163,h⟩:=h
    have qb161_b1:b1<w158.heap.size:=B160.lt
    refine ec_anyN (by kernel_rfl) [[],[],[1],[1,2],[1,2,3],[0,1,2,3,4],[],[0,1,2,3,4,5,6],[0,1,2,3,4,5,6,7]] [48,49,50,51,52,53,54,55] (b1::[]) [8] [[b1]] [[8]] [fun w'=>Blk w' b1 27 [str ([]:Str),.int .i64 (0:Int),.int .i64 (0:Int),.int .i64 (0:Int),.bool false,str ([]:Str),.slice none ([]:List Int).length 0,.slice none ([]:List Int).length 0,.int .u64 (0:Int)],fun w'=>Blk w' b1 27 [str (cut d0 (2:Int) (IntKind.i64.wrap ((2:Int) + (min x162 (8:Int))))),.int .i64 x2,.int .i64 x13,.int .i64 x20,.bool (x27==(1:Int)),str (cut d0 (17:Int) (IntKind.i64.wrap ((17:Int) + (min x34 (8:Int))))),.slice none ([]:List Int).length 0,.slice none ([]:List Int).length 0,.int .u64 (IntKind.u64.wrap ((IntKind.u64.wrap x150) + (IntKind.u64.wrap ((4294967296:Int) * (IntKind.u64.wrap x154)))))]] [fun v _=>v=(str d0:Value),fun v _=>v=(str d0:Value),fun v _=>v=(.int .i64 x162:Value),fun v _=>v=(.int .i64 (min x162 (8:Int)):Value),fun v _=>v=(.int .i64 (IntKind.i64.wrap ((2:Int) + (min x162 (8:Int)))):Value),fun v _=>v=(str (cut d0 (2:Int) (IntKind.i64.wrap ((2:Int) + (min x162 (8:Int))))):Value),fun v _=>v=(.agg #[.int .i64 x2,.int .i64 x13,.int .i64 x20,.bool (x27==(1:Int)),str (cut d0 (17:Int) (IntKind.i64.wrap ((17:Int) + (min x34 (8:Int))))),.slice none ([]:List Int).length 0,.slice none ([]:List Int).length 0,.int .u64 (IntKind.u64.wrap ((IntKind.u64.wrap x150) + (IntKind.u64.wrap ((4294967296:Int) * (IntKind.u64.wrap x154)))))]:Value),fun v _=>v=(.agg #[str (cut d0 (2:Int) (IntKind.i64.wrap ((2:Int) + (min x162 (8:Int))))),.int .i64 x2,.int .i64 x13,.int .i64 x20,.bool (x27==(1:Int)),str (cut d0 (17:Int) (IntKind.i64.wrap ((17:Int) + (min x34 (8:Int))))),.slice none ([]:List Int).length 0,.slice none ([]:List Int).length 0,.int .u64 (IntKind.u64.wrap ((IntKind.u64.wrap x150) + (IntKind.u64.wrap ((4294967296:Int) * (IntKind.u64.wrap x154)))))]:Value),fun _ _=>True] (by kernel_rfl) (allM1 (fun m hm=>by first | exact hm | (simp at hm ⊢; simp [hm]; done) | simp_all) (fun _ h=>by cases h)) ⟨fun _ _ _ _ _ h=>h,fun _ _ _ _ _ h=>h,fun _ _ _ _ _ h=>h,fun _ _ _ _ _ h=>h,fun _ _ _ _ _ h=>h,fun _ _ _ _ _ h=>h,fun _ _ _ _ _ h=>h,fun _ _ _ _ _ h=>h,fun _ _ _ _ _ h=>h,trivial⟩ ⟨⟨fun _ _ _ _ _ h=>h,fun _ _ _ _ _ h=>h,fun _ _ _ _ _ h=>h,fun _ _ _ _ _ h=>h,fun _ _ _ _ _ h=>h,fun _ _ _ _ _ h=>h,fun _ _ _ _ _ h=>h,fun _ _ _ _ _ h=>h,(fun h=>absurd h (by decide)),trivial⟩,trivial⟩ ⟨fun w' w'' F h=>by have hB161_b1:=h; exact (hB161_b1.ex F),fun w' w'' F h=>by have hB161_b1:=h; exact (hB161_b1.ex F),trivial⟩ B160 ?_ ?_ ?_
    ·refine ⟨?_,?_,?_,?_,?_,?_,?_,?_,?_,trivial⟩
     ·intro _ ρ w161o F161o hX hS hρ
      have F161o:=hX 8 rfl rfl
      have q0:ρ 0=str d0:=hρ 0 (by kernel_rfl)
      exact o_q (r_mov q0) ⟨Fr.refl _ _,rfl⟩
     ·intro _ ρ w161o F161o hX hS hρ
      have F161o:=hX 8 rfl rfl
      have q0:ρ 0=str d0:=hρ 0 (by kernel_rfl)
      exact o_q (r_mov q0) ⟨Fr.refl _ _,rfl⟩
     ·intro _ ρ w161o F161o hX hS hρ
      have F161o:=hX 8 rfl rfl
      have E164:=E159.trans F161o
      have q49:ρ 49=str d0:=hS 1 (by decide) 49 rfl
      refine o_call cf_ref07_get (by simp only [List.map,ev,q49] <;> rfl) (ref07_get_c d0 (1:Int) (1:Int) (((hL.fr E164).cons (B160.ex F161o).lt).cons (B158'.ex F161o).lt) hx162) rfl rfl ?_
      rintro _ w' ⟨F,rfl⟩
      exact eo_nil ⟨rfl,rfl,_,rfl,F,rfl⟩
     ·intro _ ρ w161o F161o hX hS hρ
      have F161o:=hX 8 rfl rfl
      have q50:ρ 50=.int .i64 x162:=hS 2 (by decide) 50 rfl
      exact o_q (r_min q50 rfl) ⟨Fr.refl _ _,rfl⟩
     ·intro _ ρ w161o F161o hX hS hρ
      have F161o:=hX 8 rfl rfl
      have q51:ρ 51=.int .i64 (min x162 (8:Int)):=hS 3 (by decide) 51 rfl
      exact o_q (r_int rfl q51 rfl) ⟨Fr.refl _ _,rfl⟩
     ·intro _ ρ w161o F161o hX hS hρ
      have F161o:=hX 8 rfl rfl
      have q48:ρ 48=str d0:=hS 0 (by decide) 48 rfl
      have q52:ρ 52=.int .i64 (IntKind.i64.wrap ((2:Int) + (min x162 (8:Int)))):=hS 4 (by decide) 52 rfl
      exact o_q (r_sl_str un_string q48 ⟨_,rfl⟩ ⟨_,q52⟩ ha163.1 ha163.2.1 ha163.2.2) ⟨Fr.refl _ _,rfl⟩
     ·intro _ ρ w161o F161o hX hS hρ
      have F161o:=hX 8 rfl rfl
      have q3:ρ 3=.pointer (some ⟨b5,0,none⟩):=hρ 3 (by kernel_rfl)
      exact o_q (r_lda agg_api_Value q3 (vs:=[.int .i64 x2,.int .i64 x13,.int .i64 x20,.bool (x27==(1:Int)),str (cut d0 (17:Int) (IntKind.i64.wrap ((17:Int) + (min x34 (8:Int))))),.slice none ([]:List Int).length 0,.slice none ([]:List Int).length 0,.int .u64 (IntKind.u64.wrap ((IntKind.u64.wrap x150) + (IntKind.u64.wrap ((4294967296:Int) * (IntKind.u64.wrap x154)))))]) rfl ((B158'.ex F161o).part (n:=8) rfl)) ⟨Fr.refl _ _,rfl⟩
     ·intro _ ρ w161o F161o hX hS hρ
      have F161o:=hX 8 rfl rfl
      have q53:ρ 53=str (cut d0 (2:Int) (IntKind.i64.wrap ((2:Int) + (min x162 (8:Int))))):=hS 5 (by decide) 53 rfl
      have q54:ρ 54=.agg #[.int .i64 x2,.int .i64 x13,.int .i64 x20,.bool (x27==(1:Int)),str (cut d0 (17:Int) (IntKind.i64.wrap ((17:Int) + (min x34 (8:Int))))),.slice none ([]:List Int).length 0,.slice none ([]:List Int).length 0,.int .u64 (IntKind.u64.wrap ((IntKind.u64.wrap x150) + (IntKind.u64.wrap ((4294967296:Int) * (IntKind.u64.wrap x154)))))]:=hS 6 (by decide) 54 rfl
      exact o_q (r_build bld_api_Entry (vs:=[(0,str (cut d0 (2:Int) (IntKind.i64.wrap ((2:Int) + (min x162 (8:Int)))))),(1,.agg #[.int .i64 x2,.int .i64 x13,.int .i64 x20,.bool (x27==(1:Int)),str (cut d0 (17:Int) (IntKind.i64.wrap ((17:Int) + (min x34 (8:Int))))),.slice none ([]:List Int).length 0,.slice none ([]:List Int).length 0,.int .u64 (IntKind.u64.wrap ((IntKind.u64.wrap x150) + (IntKind.u64.wrap ((4294967296:Int) * (IntKind.u64.wrap x154)))))])]) (cells:=[str (cut d0 (2:Int) (IntKind.i64.wrap ((2:Int) + (min x162 (8:Int))))),.int .i64 x2,.int .i64 x13,.int .i64 x20,.bool (x27==(1:Int)),str (cut d0 (17:Int) (IntKind.i64.wrap ((17:Int) + (min x34 (8:Int))))),.slice none ([]:List Int).length 0,.slice none ([]:List Int).length 0,.int .u64 (IntKind.u64.wrap ((IntKind.u64.wrap x150) + (IntKind.u64.wrap ((4294967296:Int) * (IntKind.u64.wrap x154)))))]) (by simp only [List.map,ev,q53,q54]) rfl) ⟨Fr.refl _ _,rfl⟩
     ·intro hT; exact absurd hT (by decide)
    ·refine ⟨⟨_,rfl,?_⟩,trivial⟩
     ·intro ρ w161o F161o hX hI hS hρ
      have hB161_b1:=hI
      have q2:ρ 2=.pointer (some ⟨b1,0,none⟩):=hρ 2 (by kernel_rfl)
      have q55:ρ 55=.agg #[str (cut d0 (2:Int) (IntKind.i64.wrap ((2:Int) + (min x162 (8:Int))))),.int .i64 x2,.int .i64 x13,.int .i64 x20,.bool (x27==(1:Int)),str (cut d0 (17:Int) (IntKind.i64.wrap ((17:Int) + (min x34 (8:Int))))),.slice none ([]:List Int).length 0,.slice none ([]:List Int).length 0,.int .u64 (IntKind.u64.wrap ((IntKind.u64.wrap x150) + (IntKind.u64.wrap ((4294967296:Int) * (IntKind.u64.wrap x154)))))]:=hS 7 (by decide) 55 rfl
      refine o_store (show ev ρ _=_ from q2) hB161_b1 (vs:=[str (cut d0 (2:Int) (IntKind.i64.wrap ((2:Int) + (min x162 (8:Int))))),.int .i64 x2,.int .i64 x13,.int .i64 x20,.bool (x27==(1:Int)),str (cut d0 (17:Int) (IntKind.i64.wrap ((17:Int) + (min x34 (8:Int))))),.slice none ([]:List Int).length 0,.slice none ([]:List Int).length 0,.int .u64 (IntKind.u64.wrap ((IntKind.u64.wrap x150) + (IntKind.u64.wrap ((4294967296:Int) * (IntKind.u64.wrap x154)))))]) (congrArg Value.cells q55) sz_api_Entry rfl rfl rfl ?_
      intro w' F B2
      exact eo_nil ⟨rfl,rfl,undef,rfl,F,B2,trivial⟩
    ·intro ρ w161 F161 hI hS hρ
     have hB161_b1:=hI
     obtain ⟨ρ',rfl⟩:∃ ρ',ρ=envs (ovr [48,49,50,51,52,53,54,55] ρ' _) []:=⟨ρ,ovr_self hρ trivial⟩
     have E173:Ext w w161:=Ext.st E159 F161 (upc n1 (fun m hm=>by cases hm))
     refine sq_n ?_
     refine ec_ret ?_
     subst h
     exact (endr1 (rv_a rfl (agg_api_Entry) hB161_b1 (vs:=[str (cut d0 (2:Int) (IntKind.i64.wrap ((2:Int) + (min x162 (8:Int))))),.int .i64 x2,.int .i64 x13,.int .i64 x20,.bool (x27==(1:Int)),str (cut d0 (17:Int) (IntKind.i64.wrap ((17:Int) + (min x34 (8:Int))))),.slice none ([]:List Int).length 0,.slice none ([]:List Int).length 0,.int .u64 (IntKind.u64.wrap ((IntKind.u64.wrap x150) + (IntKind.u64.wrap ((4294967296:Int) * (IntKind.u64.wrap x154)))))]) rfl rfl) ⟨_,rfl,E173,_,rfl,(kEnt_mk (d:=(⟨(cut d0 (2:Int) (IntKind.i64.wrap ((2:Int) + (min x162 (8:Int))))),(⟨x2,x13,x20,(x27==(1:Int)),(cut d0 (17:Int) (IntKind.i64.wrap ((17:Int) + (min x34 (8:Int))))),([]:List Int),([]:List Int),(IntKind.u64.wrap ((IntKind.u64.wrap x150) + (IntKind.u64.wrap ((4294967296:Int) * (IntKind.u64.wrap x154)))))⟩:Val)⟩:Ent)) stb_nil stb_nil)⟩)
   ·replace h:=h.2 hc149
    refine ec_skip ?_
    refine sq_n ?_
    refine ec_seq ?_
    obtain ⟨x176,hx176,h⟩:=h
    obtain ⟨ha177,h⟩:=h
    have qb175_b1:b1<w39.heap.size:=B41.lt
    refine ec_anyN (by kernel_rfl) [[],[],[1],[1,2],[1,2,3],[0,1,2,3,4],[],[0,1,2,3,4,5,6],[0,1,2,3,4,5,6,7]] [48,49,50,51,52,53,54,55] (b1::[]) [8] [[b1]] [[8]] [fun w'=>Blk w' b1 27 [str ([]:Str),.int .i64 (0:Int),.int .i64 (0:Int),.int .i64 (0:Int),.bool false,str ([]:Str),.slice none ([]:List Int).length 0,.slice none ([]:List Int).length 0,.int .u64 (0:Int)],fun w'=>Blk w' b1 27 [str (cut d0 (2:Int) (IntKind.i64.wrap ((2:Int) + (min x176 (8:Int))))),.int .i64 x2,.int .i64 x13,.int .i64 x20,.bool (x27==(1:Int)),str (cut d0 (17:Int) (IntKind.i64.wrap ((17:Int) + (min x34 (8:Int))))),.slice none ([]:List Int).length 0,.slice none ([]:List Int).length 0,.int .u64 (0:Int)]] [fun v _=>v=(str d0:Value),fun v _=>v=(str d0:Value),fun v _=>v=(.int .i64 x176:Value),fun v _=>v=(.int .i64 (min x176 (8:Int)):Value),fun v _=>v=(.int .i64 (IntKind.i64.wrap ((2:Int) + (min x176 (8:Int)))):Value),fun v _=>v=(str (cut d0 (2:Int) (IntKind.i64.wrap ((2:Int) + (min x176 (8:Int))))):Value),fun v _=>v=(.agg #[.int .i64 x2,.int .i64 x13,.int .i64 x20,.bool (x27==(1:Int)),str (cut d0 (17:Int) (IntKind.i64.wrap ((17:Int) + (min x34 (8:Int))))),.slice none ([]:List Int).length 0,.slice none ([]:List Int).length 0,.int .u64 (0:Int)]:Value),fun v _=>v=(.agg #[str (cut d0 (2:Int) (IntKind.i64.wrap ((2:Int) + (min x176 (8:Int))))),.int .i64 x2,.int .i64 x13,.int .i64 x20,.bool (x27==(1:Int)),str (cut d0 (17:Int) (IntKind.i64.wrap ((17:Int) + (min x34 (8:Int))))),.slice none ([]:List Int).length 0,.slice none ([]:List Int).length 0,.int .u64 (0:Int)]:Value),fun _ _=>True] (by kernel_rfl) (allM1 (fun m hm=>by first | exact hm | (simp at hm ⊢; simp [hm]; done) | simp_all) (fun _ h=>by cases h)) ⟨fun _ _ _ _ _ h=>h,fun _ _ _ _ _ h=>h,fun _ _ _ _ _ h=>h,fun _ _ _ _ _ h=>h,fun _ _ _ _ _ h=>h,fun _ _ _ _ _ h=>h,fun _ _ _ _ _ h=>h,fun _ _ _ _ _ h=>h,fun _ _ _ _ _ h=>h,trivial⟩ ⟨⟨fun _ _ _ _ _ h=>h,fun _ _ _ _ _ h=>h,fun _ _ _ _ _ h=>h,fun _ _ _ _ _ h=>h,fun _ _ _ _ _ h=>h,fun _ _ _ _ _ h=>h,fun _ _ _ _ _ h=>h,fun _ _ _ _ _ h=>h,(fun h=>absurd h (by decide)),trivial⟩,trivial⟩ ⟨fun w' w'' F h=>by have hB175_b1:=h; exact (hB175_b1.ex F),fun w' w'' F h=>by have hB175_b1:=h; exact (hB175_b1.ex F),trivial⟩ B41 ?_ ?_ ?_
    ·refine ⟨?_,?_,?_,?_,?_,?_,?_,?_,?_,trivial⟩
     ·intro _ ρ w175o F175o hX hS hρ
      have F175o:=hX 8 rfl rfl
      have q0:ρ 0=str d0:=hρ 0 (by kernel_rfl)
      exact o_q (r_mov q0) ⟨Fr.refl _ _,rfl⟩
     ·intro _ ρ w175o F175o hX hS hρ
      have F175o:=hX 8 rfl rfl
      have q0:ρ 0=str d0:=hρ 0 (by kernel_rfl)
      exact o_q (r_mov q0) ⟨Fr.refl _ _,rfl⟩
     ·intro _ ρ w175o F175o hX hS hρ
      have F175o:=hX 8 rfl rfl
      have E178:=E40.trans F175o
      have q49:ρ 49=str d0:=hS 1 (by decide) 49 rfl
      refine o_call cf_ref07_get (by simp only [List.map,ev,q49] <;> rfl) (ref07_get_c d0 (1:Int) (1:Int) (((hL.fr E178).cons (B41.ex F175o).lt).cons (B39'.ex F175o).lt) hx176) rfl rfl ?_
      rintro _ w' ⟨F,rfl⟩
      exact eo_nil ⟨rfl,rfl,_,rfl,F,rfl⟩
     ·intro _ ρ w175o F175o hX hS hρ
      have F175o:=hX 8 rfl rfl
      have q50:ρ 50=.int .i64 x176:=hS 2 (by decide) 50 rfl
      exact o_q (r_min q50 rfl) ⟨Fr.refl _ _,rfl⟩
     ·intro _ ρ w175o F175o hX hS hρ
      have F175o:=hX 8 rfl rfl
      have q51:ρ 51=.int .i64 (min x176 (8:Int)):=hS 3 (by decide) 51 rfl
      exact o_q (r_int rfl q51 rfl) ⟨Fr.refl _ _,rfl⟩
     ·intro _ ρ w175o F175o hX hS hρ
      have F175o:=hX 8 rfl rfl
      have q48:ρ 48=str d0:=hS 0 (by decide) 48 rfl
      have q52:ρ 52=.int .i64 (IntKind.i64.wrap ((2:Int) + (min x176 (8:Int)))):=hS 4 (by decide) 52 rfl
      exact o_q (r_sl_str un_string q48 ⟨_,rfl⟩ ⟨_,q52⟩ ha177.1 ha177.2.1 ha177.2.2) ⟨Fr.refl _ _,rfl⟩
     ·intro _ ρ w175o F175o hX hS hρ
      have F175o:=hX 8 rfl rfl
      have q3:ρ 3=.pointer (some ⟨b5,0,none⟩):=hρ 3 (by kernel_rfl)
      exact o_q (r_lda agg_api_Value q3 (vs:=[.int .i64 x2,.int .i64 x13,.int .i64 x20,.bool (x27==(1:Int)),str (cut d0 (17:Int) (IntKind.i64.wrap ((17:Int) + (min x34 (8:Int))))),.slice none ([]:List Int).length 0,.slice none ([]:List Int).length 0,.int .u64 (0:Int)]) rfl ((B39'.ex F175o).part (n:=8) rfl)) ⟨Fr.refl _ _,rfl⟩
     ·intro _ ρ w175o F175o hX hS hρ
      have F175o:=hX 8 rfl rfl
      have q53:ρ 53=str (cut d0 (2:Int) (IntKind.i64.wrap ((2:Int) + (min x176 (8:Int))))):=hS 5 (by decide) 53 rfl
      have q54:ρ 54=.agg #[.int .i64 x2,.int .i64 x13,.int .i64 x20,.bool (x27==(1:Int)),str (cut d0 (17:Int) (IntKind.i64.wrap ((17:Int) + (min x34 (8:Int))))),.slice none ([]:List Int).length 0,.slice none ([]:List Int).length 0,.int .u64 (0:Int)]:=hS 6 (by decide) 54 rfl
      exact o_q (r_build bld_api_Entry (vs:=[(0,str (cut d0 (2:Int) (IntKind.i64.wrap ((2:Int) + (min x176 (8:Int)))))),(1,.agg #[.int .i64 x2,.int .i64 x13,.int .i64 x20,.bool (x27==(1:Int)),str (cut d0 (17:Int) (IntKind.i64.wrap ((17:Int) + (min x34 (8:Int))))),.slice none ([]:List Int).length 0,.slice none ([]:List Int).length 0,.int .u64 (0:Int)])]) (cells:=[str (cut d0 (2:Int) (IntKind.i64.wrap ((2:Int) + (min x176 (8:Int))))),.int .i64 x2,.int .i64 x13,.int .i64 x20,.bool (x27==(1:Int)),str (cut d0 (17:Int) (IntKind.i64.wrap ((17:Int) + (min x34 (8:Int))))),.slice none ([]:List Int).length 0,.slice none ([]:List Int).length 0,.int .u64 (0:Int)]) (by simp only [List.map,ev,q53,q54]) rfl) ⟨Fr.refl _ _,rfl⟩
     ·intro hT; exact absurd hT (by decide)
    ·refine ⟨⟨_,rfl,?_⟩,trivial⟩
     ·intro ρ w175o F175o hX hI hS hρ
      have hB175_b1:=hI
      have q2:ρ 2=.pointer (some ⟨b1,0,none⟩):=hρ 2 (by kernel_rfl)
      have q55:ρ 55=.agg #[str (cut d0 (2:Int) (IntKind.i64.wrap ((2:Int) + (min x176 (8:Int))))),.int .i64 x2,.int .i64 x13,.int .i64 x20,.bool (x27==(1:Int)),str (cut d0 (17:Int) (IntKind.i64.wrap ((17:Int) + (min x34 (8:Int))))),.slice none ([]:List Int).length 0,.slice none ([]:List Int).length 0,.int .u64 (0:Int)]:=hS 7 (by decide) 55 rfl
      refine o_store (show ev ρ _=_ from q2) hB175_b1 (vs:=[str (cut d0 (2:Int) (IntKind.i64.wrap ((2:Int) + (min x176 (8:Int))))),.int .i64 x2,.int .i64 x13,.int .i64 x20,.bool (x27==(1:Int)),str (cut d0 (17:Int) (IntKind.i64.wrap ((17:Int) + (min x34 (8:Int))))),.slice none ([]:List Int).length 0,.slice none ([]:List Int).length 0,.int .u64 (0:Int)]) (congrArg Value.cells q55) sz_api_Entry rfl rfl rfl ?_
      intro w' F B2
      exact eo_nil ⟨rfl,rfl,undef,rfl,F,B2,trivial⟩
    ·intro ρ w175 F175 hI hS hρ
     have hB175_b1:=hI
     obtain ⟨ρ',rfl⟩:∃ ρ',ρ=envs (ovr [48,49,50,51,52,53,54,55] ρ' _) []:=⟨ρ,ovr_self hρ trivial⟩
     have E187:Ext w w175:=Ext.st E40 F175 (upc n1 (fun m hm=>by cases hm))
     refine sq_n ?_
     refine ec_ret ?_
     subst h
     exact (endr1 (rv_a rfl (agg_api_Entry) hB175_b1 (vs:=[str (cut d0 (2:Int) (IntKind.i64.wrap ((2:Int) + (min x176 (8:Int))))),.int .i64 x2,.int .i64 x13,.int .i64 x20,.bool (x27==(1:Int)),str (cut d0 (17:Int) (IntKind.i64.wrap ((17:Int) + (min x34 (8:Int))))),.slice none ([]:List Int).length 0,.slice none ([]:List Int).length 0,.int .u64 (0:Int)]) rfl rfl) ⟨_,rfl,E187,_,rfl,(kEnt_mk (d:=(⟨(cut d0 (2:Int) (IntKind.i64.wrap ((2:Int) + (min x176 (8:Int))))),(⟨x2,x13,x20,(x27==(1:Int)),(cut d0 (17:Int) (IntKind.i64.wrap ((17:Int) + (min x34 (8:Int))))),([]:List Int),([]:List Int),(0:Int)⟩:Val)⟩:Ent)) stb_nil stb_nil)⟩)
 ·replace h:=h.2 hc12
  refine ec_skip ?_
  refine sq_n ?_
  iterate 2 refine ec_seq ?_
  refine ec_region ?_
  refine o_w (v:=.pointer (some ⟨b5,0,none⟩)) (r_fa fld_api_Value_0 rfl rfl) ?_
  refine o_w (v:=.int .i64 x2) (r_ld one_int rfl (B9'.cell rfl)) ?_
  refine o_w (v:=.bool (x2==(2:Int))) (r_int rfl rfl rfl) ?_
  refine eo_nil_sq ?_
  refine ec_cond rfl (fun hc189=>?_) (fun hc189=>?_)
  ·replace h:=h.1 hc189
   refine ec_seq ?_
   refine ec_region ?_
   refine o_w (v:=str d0) (r_mov rfl) ?_
   obtain ⟨x190,hx190,h⟩:=h
   refine o_call cf_ref07_gets rfl (ref07_gets_c d0 (10:Int) (((hL.fr E10).cons B11.lt).cons B9'.lt) hx190) rfl rfl ?_
   have lo191:w.heap.size≤w9.heap.size:=E10.size
   rintro v191 w190 ⟨F190,O191,N191⟩
   have E192:=E10.trans F190
   refine o_w (v:=.pointer (some ⟨b5,5,none⟩)) (r_fa fld_api_Value_5 rfl rfl) ?_
   obtain ⟨A195,c196,rfl⟩:=O191.shape
   refine o_store rfl (B9'.ex F190) (vs:=[(.slice A195 x190.length c196)]) rfl sz_s_int rfl rfl rfl ?_
   intro w197 F197 B197
   have E198:=Ext.st E192 F197 (by simp; omega)
   have B199:=(B11.ex F190).fr F197 (by simp; omega)
   have O200:=O191.fr F197 (by simp)
   have B197':Blk w197 b5 _ [.int .i64 x2,.int .i64 (0:Int),.int .i64 (0:Int),.bool false,str ([]:Str),(.slice A195 x190.length c196),.slice none ([]:List Int).length 0,.int .u64 (0:Int)]:=B197
   refine eo_nil_sq ?_
   refine ec_region ?_
   refine o_w (v:=str d0) (r_mov rfl) ?_
   obtain ⟨x201,hx201,h⟩:=h
   refine o_call cf_ref07_gets rfl (ref07_gets_c d0 (26:Int) ((((hL.fr E198).cons B199.lt).cons B197'.lt).own O200) hx201) rfl rfl ?_
   have lo202:w.heap.size≤w197.heap.size:=E198.size
   rintro v202 w201 ⟨F201,O202,N202⟩
   have E203:=E198.trans F201
   refine o_w (v:=.pointer (some ⟨b5,6,none⟩)) (r_fa fld_api_Value_6 rfl rfl) ?_
   obtain ⟨A207,c208,rfl⟩:=O202.shape
   refine o_store rfl (B197'.ex F201) (vs:=[(.slice A207 x201.length c208)]) rfl sz_s_int rfl rfl rfl ?_
   intro w209 F209 B209
   have E210:=Ext.st E203 F209 (by simp; omega)
   have B211:=(B199.ex F201).fr F209 (by simp; omega)
   have O212:=(O200.ex F201).fr F209 (by simp)
   have O213:=O202.fr F209 (by simp)
   have B209':Blk w209 b5 _ [.int .i64 x2,.int .i64 (0:Int),.int .i64 (0:Int),.bool false,str ([]:Str),(.slice A195 x190.length c196),(.slice A207 x201.length c208),.int .u64 (0:Int)]:=B209
   refine eo_nil_sq ?_
   iterate 2 refine ec_seq ?_
   refine ec_region ?_
   refine o_w (v:=.pointer (some ⟨b5,0,none⟩)) (r_fa fld_api_Value_0 rfl rfl) ?_
   refine o_w (v:=.int .i64 x2) (r_ld one_int rfl (B209'.cell rfl)) ?_
   refine o_w (v:=.bool (x2==(3:Int))) (r_int rfl rfl rfl) ?_
   refine eo_nil_sq ?_
   refine ec_cond rfl (fun hc214=>?_) (fun hc214=>?_)
   ·replace h:=h.1 hc214
    refine ec_region ?_
    refine o_w (v:=str d0) (r_mov rfl) ?_
    obtain ⟨x215,hx215,h⟩:=h
    refine o_call cf_ref07_get rfl (ref07_get_c d0 (10:Int) (4:Int) (((((hL.fr E210).cons B211.lt).cons B209'.lt).own O212).own O213) hx215) rfl rfl ?_
    rintro _ w215 ⟨F215,rfl⟩
    have E216:=E210.trans F215
    refine o_w (v:=.int .u64 (IntKind.u64.wrap x215)) (r_conv un_int un_uint64 rfl) ?_
    refine o_w (v:=str d0) (r_mov rfl) ?_
    obtain ⟨x221,hx221,h⟩:=h
    refine o_call cf_ref07_get rfl (ref07_get_c d0 (14:Int) (4:Int) (((((hL.fr E216).cons (B211.ex F215).lt).cons (B209'.ex F215).lt).own (O212.ex F215)).own (O213.ex F215)) hx221) rfl rfl ?_
    rintro _ w221 ⟨F221,rfl⟩
    have E222:=E216.trans F221
    refine o_w (v:=.int .u64 (IntKind.u64.wrap x221)) (r_conv un_int un_uint64 rfl) ?_
    refine o_w (v:=.int .u64 (IntKind.u64.wrap ((4294967296:Int) * (IntKind.u64.wrap x221)))) (r_int rfl rfl rfl) ?_
    refine o_w (v:=.int .u64 (IntKind.u64.wrap ((IntKind.u64.wrap x215) + (IntKind.u64.wrap ((4294967296:Int) * (IntKind.u64.wrap x221)))))) (r_int rfl rfl rfl) ?_
    refine o_w (v:=.pointer (some ⟨b5,7,none⟩)) (r_fa fld_api_Value_7 rfl rfl) ?_
    refine o_store rfl ((B209'.ex F215).ex F221) (vs:=[.int .u64 (IntKind.u64.wrap ((IntKind.u64.wrap x215) + (IntKind.u64.wrap ((4294967296:Int) * (IntKind.u64.wrap x221)))))]) rfl sz_uint64 rfl rfl rfl ?_
    intro w227 F227 B227
    have E228:=Ext.st E222 F227 (by simp; omega)
    have B229:=((B211.ex F215).ex F221).fr F227 (by simp; omega)
    have O230:=((O212.ex F215).ex F221).fr F227 (by simp)
    have O231:=((O213.ex F215).ex F221).fr F227 (by simp)
    have B227':Blk w227 b5 _ [.int .i64 x2,.int .i64 (0:Int),.int .i64 (0:Int),.bool false,str ([]:Str),(.slice A195 x190.length c196),(.slice A207 x201.length c208),.int .u64 (IntKind.u64.wrap ((IntKind.u64.wrap x215) + (IntKind.u64.wrap ((4294967296:Int) * (IntKind.u64.wrap x221)))))]:=B227
    refine eo_nil_sq ?_
    refine ec_seq ?_
    obtain ⟨A232,c233,eA232,H234⟩:=O230.still
    cases eA232
    have Zw227_235:=Fr.refl (b5::(b1::L)) w227
    obtain ⟨A237,c238,eA237,H239⟩:=O231.still
    cases eA237
    have Zw227_240:=Fr.refl (own (.slice A195 x190.length c196)++(b5::(b1::L))) w227
    obtain ⟨x243,hx243,h⟩:=h
    obtain ⟨ha244,h⟩:=h
    have qb242_b1:b1<w227.heap.size:=B229.lt
    refine ec_anyN (by kernel_rfl) [[],[],[1],[1,2],[1,2,3],[0,1,2,3,4],[],[0,1,2,3,4,5,6],[0,1,2,3,4,5,6,7]] [48,49,50,51,52,53,54,55] (b1::[]) [8] [[b1]] [[8]] [fun w'=>Blk w' b1 27 [str ([]:Str),.int .i64 (0:Int),.int .i64 (0:Int),.int .i64 (0:Int),.bool false,str ([]:Str),.slice none ([]:List Int).length 0,.slice none ([]:List Int).length 0,.int .u64 (0:Int)],fun w'=>Blk w' b1 27 [str (cut d0 (2:Int) (IntKind.i64.wrap ((2:Int) + (min x243 (8:Int))))),.int .i64 x2,.int .i64 (0:Int),.int .i64 (0:Int),.bool false,str ([]:Str),.slice A195 x190.length c196,.slice A207 x201.length c208,.int .u64 (IntKind.u64.wrap ((IntKind.u64.wrap x215) + (IntKind.u64.wrap ((4294967296:Int) * (IntKind.u64.wrap x221)))))]] [fun v _=>v=(str d0:Value),fun v _=>v=(str d0:Value),fun v _=>v=(.int .i64 x243:Value),fun v _=>v=(.int .i64 (min x243 (8:Int)):Value),fun v _=>v=(.int .i64 (IntKind.i64.wrap ((2:Int) + (min x243 (8:Int)))):Value),fun v _=>v=(str (cut d0 (2:Int) (IntKind.i64.wrap ((2:Int) + (min x243 (8:Int))))):Value),fun v _=>v=(.agg #[.int .i64 x2,.int .i64 (0:Int),.int .i64 (0:Int),.bool false,str ([]:Str),.slice A195 x190.length c196,.slice A207 x201.length c208,.int .u64 (IntKind.u64.wrap ((IntKind.u64.wrap x215) + (IntKind.u64.wrap ((4294967296:Int) * (IntKind.u64.wrap x221)))))]:Value),fun v _=>v=(.agg #[str (cut d0 (2:Int) (IntKind.i64.wrap ((2:Int) + (min x243 (8:Int))))),.int .i64 x2,.int .i64 (0:Int),.int .i64 (0:Int),.bool false,str ([]:Str),.slice A195 x190.length c196,.slice A207 x201.length c208,.int .u64 (IntKind.u64.wrap ((IntKind.u64.wrap x215) + (IntKind.u64.wrap ((4294967296:Int) * (IntKind.u64.wrap x221)))))]:Value),fun _ _=>True] (by kernel_rfl) (allM1 (fun m hm=>by first | exact hm | (simp at hm ⊢; simp [hm]; done) | simp_all) (fun _ h=>by cases h)) ⟨fun _ _ _ _ _ h=>h,fun _ _ _ _ _ h=>h,fun _ _ _ _ _ h=>h,fun _ _ _ _ _ h=>h,fun _ _ _ _ _ h=>h,fun _ _ _ _ _ h=>h,fun _ _ _ _ _ h=>h,fun _ _ _ _ _ h=>h,fun _ _ _ _ _ h=>h,trivial⟩ ⟨⟨fun _ _ _ _ _ h=>h,fun _ _ _ _ _ h=>h,fun _ _ _ _ _ h=>h,fun _ _ _ _ _ h=>h,fun _ _ _ _ _ h=>h,fun _ _ _ _ _ h=>h,fun _ _ _ _ _ h=>h,fun _ _ _ _ _ h=>h,(fun h=>absurd h (by decide)),trivial⟩,trivial⟩ ⟨fun w' w'' F h=>by have hB242_b1:=h; exact (hB242_b1.ex F),fun w' w'' F h=>by have hB242_b1:=h; exact (hB242_b1.ex F),trivial⟩ B229 ?_ ?_ ?_
    ·refine ⟨?_,?_,?_,?_,?_,?_,?_,?_,?_,trivial⟩
     ·intro _ ρ w242o F242o hX hS hρ
      have F242o:=hX 8 rfl rfl
      have q0:ρ 0=str d0:=hρ 0 (by kernel_rfl)
      exact o_q (r_mov q0) ⟨Fr.refl _ _,rfl⟩
     ·intro _ ρ w242o F242o hX hS hρ
      have F242o:=hX 8 rfl rfl
      have q0:ρ 0=str d0:=hρ 0 (by kernel_rfl)
      exact o_q (r_mov q0) ⟨Fr.refl _ _,rfl⟩
     ·intro _ ρ w242o F242o hX hS hρ
      have F242o:=hX 8 rfl rfl
      have E245:=E228.trans F242o
      have q49:ρ 49=str d0:=hS 1 (by decide) 49 rfl
      refine o_call cf_ref07_get (by simp only [List.map,ev,q49] <;> rfl) (ref07_get_c d0 (1:Int) (1:Int) (((hL.fr E245).cons (B229.ex F242o).lt).cons (B227'.ex F242o).lt) hx243) rfl rfl ?_
      rintro _ w' ⟨F,rfl⟩
      exact eo_nil ⟨rfl,rfl,_,rfl,F,rfl⟩
     ·intro _ ρ w242o F242o hX hS hρ
      have F242o:=hX 8 rfl rfl
      have q50:ρ 50=.int .i64 x243:=hS 2 (by decide) 50 rfl
      exact o_q (r_min q50 rfl) ⟨Fr.refl _ _,rfl⟩
     ·intro _ ρ w242o F242o hX hS hρ
      have F242o:=hX 8 rfl rfl
      have q51:ρ 51=.int .i64 (min x243 (8:Int)):=hS 3 (by decide) 51 rfl
      exact o_q (r_int rfl q51 rfl) ⟨Fr.refl _ _,rfl⟩
     ·intro _ ρ w242o F242o hX hS hρ
      have F242o:=hX 8 rfl rfl
      have q48:ρ 48=str d0:=hS 0 (by decide) 48 rfl
      have q52:ρ 52=.int .i64 (IntKind.i64.wrap ((2:Int) + (min x243 (8:Int)))):=hS 4 (by decide) 52 rfl
      exact o_q (r_sl_str un_string q48 ⟨_,rfl⟩ ⟨_,q52⟩ ha244.1 ha244.2.1 ha244.2.2) ⟨Fr.refl _ _,rfl⟩
     ·intro _ ρ w242o F242o hX hS hρ
      have F242o:=hX 8 rfl rfl
      have q3:ρ 3=.pointer (some ⟨b5,0,none⟩):=hρ 3 (by kernel_rfl)
      exact o_q (r_lda agg_api_Value q3 (vs:=[.int .i64 x2,.int .i64 (0:Int),.int .i64 (0:Int),.bool false,str ([]:Str),.slice A195 x190.length c196,.slice A207 x201.length c208,.int .u64 (IntKind.u64.wrap ((IntKind.u64.wrap x215) + (IntKind.u64.wrap ((4294967296:Int) * (IntKind.u64.wrap x221)))))]) rfl ((B227'.ex F242o).part (n:=8) rfl)) ⟨Fr.refl _ _,rfl⟩
     ·intro _ ρ w242o F242o hX hS hρ
      have F242o:=hX 8 rfl rfl
      have q53:ρ 53=str (cut d0 (2:Int) (IntKind.i64.wrap ((2:Int) + (min x243 (8:Int))))):=hS 5 (by decide) 53 rfl
      have q54:ρ 54=.agg #[.int .i64 x2,.int .i64 (0:Int),.int .i64 (0:Int),.bool false,str ([]:Str),.slice A195 x190.length c196,.slice A207 x201.length c208,.int .u64 (IntKind.u64.wrap ((IntKind.u64.wrap x215) + (IntKind.u64.wrap ((4294967296:Int) * (IntKind.u64.wrap x221)))))]:=hS 6 (by decide) 54 rfl
      exact o_q (r_build bld_api_Entry (vs:=[(0,str (cut d0 (2:Int) (IntKind.i64.wrap ((2:Int) + (min x243 (8:Int)))))),(1,.agg #[.int .i64 x2,.int .i64 (0:Int),.int .i64 (0:Int),.bool false,str ([]:Str),.slice A195 x190.length c196,.slice A207 x201.length c208,.int .u64 (IntKind.u64.wrap ((IntKind.u64.wrap x215) + (IntKind.u64.wrap ((4294967296:Int) * (IntKind.u64.wrap x221)))))])]) (cells:=[str (cut d0 (2:Int) (IntKind.i64.wrap ((2:Int) + (min x243 (8:Int))))),.int .i64 x2,.int .i64 (0:Int),.int .i64 (0:Int),.bool false,str ([]:Str),.slice A195 x190.length c196,.slice A207 x201.length c208,.int .u64 (IntKind.u64.wrap ((IntKind.u64.wrap x215) + (IntKind.u64.wrap ((4294967296:Int) * (IntKind.u64.wrap x221)))))]) (by simp only [List.map,ev,q53,q54]) rfl) ⟨Fr.refl _ _,rfl⟩
     ·intro hT; exact absurd hT (by decide)
    ·refine ⟨⟨_,rfl,?_⟩,trivial⟩
     ·intro ρ w242o F242o hX hI hS hρ
      have hB242_b1:=hI
      have q2:ρ 2=.pointer (some ⟨b1,0,none⟩):=hρ 2 (by kernel_rfl)
      have q55:ρ 55=.agg #[str (cut d0 (2:Int) (IntKind.i64.wrap ((2:Int) + (min x243 (8:Int))))),.int .i64 x2,.int .i64 (0:Int),.int .i64 (0:Int),.bool false,str ([]:Str),.slice A195 x190.length c196,.slice A207 x201.length c208,.int .u64 (IntKind.u64.wrap ((IntKind.u64.wrap x215) + (IntKind.u64.wrap ((4294967296:Int) * (IntKind.u64.wrap x221)))))]:=hS 7 (by decide) 55 rfl
      refine o_store (show ev ρ _=_ from q2) hB242_b1 (vs:=[str (cut d0 (2:Int) (IntKind.i64.wrap ((2:Int) + (min x243 (8:Int))))),.int .i64 x2,.int .i64 (0:Int),.int .i64 (0:Int),.bool false,str ([]:Str),.slice A195 x190.length c196,.slice A207 x201.length c208,.int .u64 (IntKind.u64.wrap ((IntKind.u64.wrap x215) + (IntKind.u64.wrap ((4294967296:Int) * (IntKind.u64.wrap x221)))))]) (congrArg Value.cells q55) sz_api_Entry rfl rfl rfl ?_
      intro w' F B2
      exact eo_nil ⟨rfl,rfl,undef,rfl,F,B2,trivial⟩
    ·intro ρ w242 F242 hI hS hρ
     have hB242_b1:=hI
     obtain ⟨ρ',rfl⟩:∃ ρ',ρ=envs (ovr [48,49,50,51,52,53,54,55] ρ' _) []:=⟨ρ,ovr_self hρ trivial⟩
     have E260:Ext w w242:=Ext.st E228 F242 (upc n1 (fun m hm=>by cases hm))
     have G261:Fr (b5::(b1::L)) w227 w242:=Fr.stp Zw227_235 F242 (upc (.inl (by simp)) (fun m hm=>by cases hm))
     have G262:Fr (own (.slice A195 x190.length c196)++(b5::(b1::L))) w227 w242:=Fr.stp Zw227_240 F242 (upc (.inl (by simp)) (fun m hm=>by cases hm))
     refine sq_n ?_
     refine ec_ret ?_
     subst h
     exact (endr1 (rv_a rfl (agg_api_Entry) hB242_b1 (vs:=[str (cut d0 (2:Int) (IntKind.i64.wrap ((2:Int) + (min x243 (8:Int))))),.int .i64 x2,.int .i64 (0:Int),.int .i64 (0:Int),.bool false,str ([]:Str),.slice A195 x190.length c196,.slice A207 x201.length c208,.int .u64 (IntKind.u64.wrap ((IntKind.u64.wrap x215) + (IntKind.u64.wrap ((4294967296:Int) * (IntKind.u64.wrap x221)))))]) rfl rfl) ⟨_,rfl,E260,_,rfl,(kEnt_mk (d:=(⟨(cut d0 (2:Int) (IntKind.i64.wrap ((2:Int) + (min x243 (8:Int))))),(⟨x2,(0:Int),(0:Int),false,([]:Str),x190,x201,(IntKind.u64.wrap ((IntKind.u64.wrap x215) + (IntKind.u64.wrap ((4294967296:Int) * (IntKind.u64.wrap x221)))))⟩:Val)⟩:Ent)) (H234.up G261 (fun _ h=>h) (fun m hm=>Or.inl (List.Mem.tail _ (List.Mem.tail _ hm)))) (H239.up G262 (fun _ h=>h) (fun m hm=>Or.inl (List.mem_append_right _ (List.Mem.tail _ (List.Mem.tail _ hm))))))⟩)
   ·replace h:=h.2 hc214
    refine ec_skip ?_
    refine sq_n ?_
    refine ec_seq ?_
    obtain ⟨A264,c265,eA264,H266⟩:=O212.still
    cases eA264
    have Zw209_267:=Fr.refl (b5::(b1::L)) w209
    obtain ⟨A269,c270,eA269,H271⟩:=O213.still
    cases eA269
    have Zw209_272:=Fr.refl (own (.slice A195 x190.length c196)++(b5::(b1::L))) w209
    obtain ⟨x275,hx275,h⟩:=h
    obtain ⟨ha276,h⟩:=h
    have qb274_b1:b1<w209.heap.size:=B211.lt
    refine ec_anyN (by kernel_rfl) [[],[],[1],[1,2],[1,2,3],[0,1,2,3,4],[],[0,1,2,3,4,5,6],[0,1,2,3,4,5,6,7]] [48,49,50,51,52,53,54,55] (b1::[]) [8] [[b1]] [[8]] [fun w'=>Blk w' b1 27 [str ([]:Str),.int .i64 (0:Int),.int .i64 (0:Int),.int .i64 (0:Int),.bool false,str ([]:Str),.slice none ([]:List Int).length 0,.slice none ([]:List Int).length 0,.int .u64 (0:Int)],fun w'=>Blk w' b1 27 [str (cut d0 (2:Int) (IntKind.i64.wrap ((2:Int) + (min x275 (8:Int))))),.int .i64 x2,.int .i64 (0:Int),.int .i64 (0:Int),.bool false,str ([]:Str),.slice A195 x190.length c196,.slice A207 x201.length c208,.int .u64 (0:Int)]] [fun v _=>v=(str d0:Value),fun v _=>v=(str d0:Value),fun v _=>v=(.int .i64 x275:Value),fun v _=>v=(.int .i64 (min x275 (8:Int)):Value),fun v _=>v=(.int .i64 (IntKind.i64.wrap ((2:Int) + (min x275 (8:Int)))):Value),fun v _=>v=(str (cut d0 (2:Int) (IntKind.i64.wrap ((2:Int) + (min x275 (8:Int))))):Value),fun v _=>v=(.agg #[.int .i64 x2,.int .i64 (0:Int),.int .i64 (0:Int),.bool false,str ([]:Str),.slice A195 x190.length c196,.slice A207 x201.length c208,.int .u64 (0:Int)]:Value),fun v _=>v=(.agg #[str (cut d0 (2:Int) (IntKind.i64.wrap ((2:Int) + (min x275 (8:Int))))),.int .i64 x2,.int .i64 (0:Int),.int .i64 (0:Int),.bool false,str ([]:Str),.slice A195 x190.length c196,.slice A207 x201.length c208,.int .u64 (0:Int)]:Value),fun _ _=>True] (by kernel_rfl) (allM1 (fun m hm=>by first | exact hm | (simp at hm ⊢; simp [hm]; done) | simp_all) (fun _ h=>by cases h)) ⟨fun _ _ _ _ _ h=>h,fun _ _ _ _ _ h=>h,fun _ _ _ _ _ h=>h,fun _ _ _ _ _ h=>h,fun _ _ _ _ _ h=>h,fun _ _ _ _ _ h=>h,fun _ _ _ _ _ h=>h,fun _ _ _ _ _ h=>h,fun _ _ _ _ _ h=>h,trivial⟩ ⟨⟨fun _ _ _ _ _ h=>h,fun _ _ _ _ _ h=>h,fun _ _ _ _ _ h=>h,fun _ _ _ _ _ h=>h,fun _ _ _ _ _ h=>h,fun _ _ _ _ _ h=>h,fun _ _ _ _ _ h=>h,fun _ _ _ _ _ h=>h,(fun h=>absurd h (by decide)),trivial⟩,trivial⟩ ⟨fun w' w'' F h=>by have hB274_b1:=h; exact (hB274_b1.ex F),fun w' w'' F h=>by have hB274_b1:=h; exact (hB274_b1.ex F),trivial⟩ B211 ?_ ?_ ?_
    ·refine ⟨?_,?_,?_,?_,?_,?_,?_,?_,?_,trivial⟩
     ·intro _ ρ w274o F274o hX hS hρ
      have F274o:=hX 8 rfl rfl
      have q0:ρ 0=str d0:=hρ 0 (by kernel_rfl)
      exact o_q (r_mov q0) ⟨Fr.refl _ _,rfl⟩
     ·intro _ ρ w274o F274o hX hS hρ
      have F274o:=hX 8 rfl rfl
      have q0:ρ 0=str d0:=hρ 0 (by kernel_rfl)
      exact o_q (r_mov q0) ⟨Fr.refl _ _,rfl⟩
     ·intro _ ρ w274o F274o hX hS hρ
      have F274o:=hX 8 rfl rfl
      have E277:=E210.trans F274o
      have q49:ρ 49=str d0:=hS 1 (by decide) 49 rfl
      refine o_call cf_ref07_get (by simp only [List.map,ev,q49] <;> rfl) (ref07_get_c d0 (1:Int) (1:Int) (((hL.fr E277).cons (B211.ex F274o).lt).cons (B209'.ex F274o).lt) hx275) rfl rfl ?_
      rintro _ w' ⟨F,rfl⟩
      exact eo_nil ⟨rfl,rfl,_,rfl,F,rfl⟩
     ·intro _ ρ w274o F274o hX hS hρ
      have F274o:=hX 8 rfl rfl
      have q50:ρ 50=.int .i64 x275:=hS 2 (by decide) 50 rfl
      exact o_q (r_min q50 rfl) ⟨Fr.refl _ _,rfl⟩
     ·intro _ ρ w274o F274o hX hS hρ
      have F274o:=hX 8 rfl rfl
      have q51:ρ 51=.int .i64 (min x275 (8:Int)):=hS 3 (by decide) 51 rfl
      exact o_q (r_int rfl q51 rfl) ⟨Fr.refl _ _,rfl⟩
     ·intro _ ρ w274o F274o hX hS hρ
      have F274o:=hX 8 rfl rfl
      have q48:ρ 48=str d0:=hS 0 (by decide) 48 rfl
      have q52:ρ 52=.int .i64 (IntKind.i64.wrap ((2:Int) + (min x275 (8:Int)))):=hS 4 (by decide) 52 rfl
      exact o_q (r_sl_str un_string q48 ⟨_,rfl⟩ ⟨_,q52⟩ ha276.1 ha276.2.1 ha276.2.2) ⟨Fr.refl _ _,rfl⟩
     ·intro _ ρ w274o F274o hX hS hρ
      have F274o:=hX 8 rfl rfl
      have q3:ρ 3=.pointer (some ⟨b5,0,none⟩):=hρ 3 (by kernel_rfl)
      exact o_q (r_lda agg_api_Value q3 (vs:=[.int .i64 x2,.int .i64 (0:Int),.int .i64 (0:Int),.bool false,str ([]:Str),.slice A195 x190.length c196,.slice A207 x201.length c208,.int .u64 (0:Int)]) rfl ((B209'.ex F274o).part (n:=8) rfl)) ⟨Fr.refl _ _,rfl⟩
     ·intro _ ρ w274o F274o hX hS hρ
      have F274o:=hX 8 rfl rfl
      have q53:ρ 53=str (cut d0 (2:Int) (IntKind.i64.wrap ((2:Int) + (min x275 (8:Int))))):=hS 5 (by decide) 53 rfl
      have q54:ρ 54=.agg #[.int .i64 x2,.int .i64 (0:Int),.int .i64 (0:Int),.bool false,str ([]:Str),.slice A195 x190.length c196,.slice A207 x201.length c208,.int .u64 (0:Int)]:=hS 6 (by decide) 54 rfl
      exact o_q (r_build bld_api_Entry (vs:=[(0,str (cut d0 (2:Int) (IntKind.i64.wrap ((2:Int) + (min x275 (8:Int)))))),(1,.agg #[.int .i64 x2,.int .i64 (0:Int),.int .i64 (0:Int),.bool false,str ([]:Str),.slice A195 x190.length c196,.slice A207 x201.length c208,.int .u64 (0:Int)])]) (cells:=[str (cut d0 (2:Int) (IntKind.i64.wrap ((2:Int) + (min x275 (8:Int))))),.int .i64 x2,.int .i64 (0:Int),.int .i64 (0:Int),.bool false,str ([]:Str),.slice A195 x190.length c196,.slice A207 x201.length c208,.int .u64 (0:Int)]) (by simp only [List.map,ev,q53,q54]) rfl) ⟨Fr.refl _ _,rfl⟩
     ·intro hT; exact absurd hT (by decide)
    ·refine ⟨⟨_,rfl,?_⟩,trivial⟩
     ·intro ρ w274o F274o hX hI hS hρ
      have hB274_b1:=hI
      have q2:ρ 2=.pointer (some ⟨b1,0,none⟩):=hρ 2 (by kernel_rfl)
      have q55:ρ 55=.agg #[str (cut d0 (2:Int) (IntKind.i64.wrap ((2:Int) + (min x275 (8:Int))))),.int .i64 x2,.int .i64 (0:Int),.int .i64 (0:Int),.bool false,str ([]:Str),.slice A195 x190.length c196,.slice A207 x201.length c208,.int .u64 (0:Int)]:=hS 7 (by decide) 55 rfl
      refine o_store (show ev ρ _=_ from q2) hB274_b1 (vs:=[str (cut d0 (2:Int) (IntKind.i64.wrap ((2:Int) + (min x275 (8:Int))))),.int .i64 x2,.int .i64 (0:Int),.int .i64 (0:Int),.bool false,str ([]:Str),.slice A195 x190.length c196,.slice A207 x201.length c208,.int .u64 (0:Int)]) (congrArg Value.cells q55) sz_api_Entry rfl rfl rfl ?_
      intro w' F B2
      exact eo_nil ⟨rfl,rfl,undef,rfl,F,B2,trivial⟩
    ·intro ρ w274 F274 hI hS hρ
     have hB274_b1:=hI
     obtain ⟨ρ',rfl⟩:∃ ρ',ρ=envs (ovr [48,49,50,51,52,53,54,55] ρ' _) []:=⟨ρ,ovr_self hρ trivial⟩
     have E292:Ext w w274:=Ext.st E210 F274 (upc n1 (fun m hm=>by cases hm))
     have G293:Fr (b5::(b1::L)) w209 w274:=Fr.stp Zw209_267 F274 (upc (.inl (by simp)) (fun m hm=>by cases hm))
     have G294:Fr (own (.slice A195 x190.length c196)++(b5::(b1::L))) w209 w274:=Fr.stp Zw209_272 F274 (upc (.inl (by simp)) (fun m hm=>by cases hm))
     refine sq_n ?_
     refine ec_ret ?_
     subst h
     exact (endr1 (rv_a rfl (agg_api_Entry) hB274_b1 (vs:=[str (cut d0 (2:Int) (IntKind.i64.wrap ((2:Int) + (min x275 (8:Int))))),.int .i64 x2,.int .i64 (0:Int),.int .i64 (0:Int),.bool false,str ([]:Str),.slice A195 x190.length c196,.slice A207 x201.length c208,.int .u64 (0:Int)]) rfl rfl) ⟨_,rfl,E292,_,rfl,(kEnt_mk (d:=(⟨(cut d0 (2:Int) (IntKind.i64.wrap ((2:Int) + (min x275 (8:Int))))),(⟨x2,(0:Int),(0:Int),false,([]:Str),x190,x201,(0:Int)⟩:Val)⟩:Ent)) (H266.up G293 (fun _ h=>h) (fun m hm=>Or.inl (List.Mem.tail _ (List.Mem.tail _ hm)))) (H271.up G294 (fun _ h=>h) (fun m hm=>Or.inl (List.mem_append_right _ (List.Mem.tail _ (List.Mem.tail _ hm))))))⟩)
  ·replace h:=h.2 hc189
   refine ec_skip ?_
   refine sq_n ?_
   iterate 2 refine ec_seq ?_
   refine ec_region ?_
   refine o_w (v:=.pointer (some ⟨b5,0,none⟩)) (r_fa fld_api_Value_0 rfl rfl) ?_
   refine o_w (v:=.int .i64 x2) (r_ld one_int rfl (B9'.cell rfl)) ?_
   refine o_w (v:=.bool (x2==(3:Int))) (r_int rfl rfl rfl) ?_
   refine eo_nil_sq ?_
   refine ec_cond rfl (fun hc296=>?_) (fun hc296=>?_)
   ·replace h:=h.1 hc296
    refine ec_region ?_
    refine o_w (v:=str d0) (r_mov rfl) ?_
    obtain ⟨x297,hx297,h⟩:=h
    refine o_call cf_ref07_get rfl (ref07_get_c d0 (10:Int) (4:Int) (((hL.fr E10).cons B11.lt).cons B9'.lt) hx297) rfl rfl ?_
    rintro _ w297 ⟨F297,rfl⟩
    have E298:=E10.trans F297
    refine o_w (v:=.int .u64 (IntKind.u64.wrap x297)) (r_conv un_int un_uint64 rfl) ?_
    refine o_w (v:=str d0) (r_mov rfl) ?_
    obtain ⟨x301,hx301,h⟩:=h
    refine o_call cf_ref07_get rfl (ref07_get_c d0 (14:Int) (4:Int) (((hL.fr E298).cons (B11.ex F297).lt).cons (B9'.ex F297).lt) hx301) rfl rfl ?_
    rintro _ w301 ⟨F301,rfl⟩
    have E302:=E298.trans F301
    refine o_w (v:=.int .u64 (IntKind.u64.wrap x301)) (r_conv un_int un_uint64 rfl) ?_
    refine o_w (v:=.int .u64 (IntKind.u64.wrap ((4294967296:Int) * (IntKind.u64.wrap x301)))) (r_int rfl rfl rfl) ?_
    refine o_w (v:=.int .u64 (IntKind.u64.wrap ((IntKind.u64.wrap x297) + (IntKind.u64.wrap ((4294967296:Int) * (IntKind.u64.wrap x301)))))) (r_int rfl rfl rfl) ?_
    refine o_w (v:=.pointer (some ⟨b5,7,none⟩)) (r_fa fld_api_Value_7 rfl rfl) ?_
    refine o_store rfl ((B9'.ex F297).ex F301) (vs:=[.int .u64 (IntKind.u64.wrap ((IntKind.u64.wrap x297) + (IntKind.u64.wrap ((4294967296:Int) * (IntKind.u64.wrap x301)))))]) rfl sz_uint64 rfl rfl rfl ?_
    intro w305 F305 B305
    have E306:=Ext.st E302 F305 (by simp; omega)
    have B307:=((B11.ex F297).ex F301).fr F305 (by simp; omega)
    have B305':Blk w305 b5 _ [.int .i64 x2,.int .i64 (0:Int),.int .i64 (0:Int),.bool false,str ([]:Str),.slice none ([]:List Int).length 0,.slice none ([]:List Int).length 0,.int .u64 (IntKind.u64.wrap ((IntKind.u64.wrap x297) + (IntKind.u64.wrap ((4294967296:Int) * (IntKind.u64.wrap x301)))))]:=B305
    refine eo_nil_sq ?_
    refine ec_seq ?_
    obtain ⟨x309,hx309,h⟩:=h
    obtain ⟨ha310,h⟩:=h
    have qb308_b1:b1<w305.heap.size:=B307.lt
    refine ec_anyN (by kernel_rfl) [[],[],[1],[1,2],[1,2,3],[0,1,2,3,4],[],[0,1,2,3,4,5,6],[0,1,2,3,4,5,6,7]] [48,49,50,51,52,53,54,55] (b1::[]) [8] [[b1]] [[8]] [fun w'=>Blk w' b1 27 [str ([]:Str),.int .i64 (0:Int),.int .i64 (0:Int),.int .i64 (0:Int),.bool false,str ([]:Str),.slice none ([]:List Int).length 0,.slice none ([]:List Int).length 0,.int .u64 (0:Int)],fun w'=>Blk w' b1 27 [str (cut d0 (2:Int) (IntKind.i64.wrap ((2:Int) + (min x309 (8:Int))))),.int .i64 x2,.int .i64 (0:Int),.int .i64 (0:Int),.bool false,str ([]:Str),.slice none ([]:List Int).length 0,.slice none ([]:List Int).length 0,.int .u64 (IntKind.u64.wrap ((IntKind.u64.wrap x297) + (IntKind.u64.wrap ((4294967296:Int) * (IntKind.u64.wrap x301)))))]] [fun v _=>v=(str d0:Value),fun v _=>v=(str d0:Value),fun v _=>v=(.int .i64 x309:Value),fun v _=>v=(.int .i64 (min x309 (8:Int)):Value),fun v _=>v=(.int .i64 (IntKind.i64.wrap ((2:Int) + (min x309 (8:Int)))):Value),fun v _=>v=(str (cut d0 (2:Int) (IntKind.i64.wrap ((2:Int) + (min x309 (8:Int))))):Value),fun v _=>v=(.agg #[.int .i64 x2,.int .i64 (0:Int),.int .i64 (0:Int),.bool false,str ([]:Str),.slice none ([]:List Int).length 0,.slice none ([]:List Int).length 0,.int .u64 (IntKind.u64.wrap ((IntKind.u64.wrap x297) + (IntKind.u64.wrap ((4294967296:Int) * (IntKind.u64.wrap x301)))))]:Value),fun v _=>v=(.agg #[str (cut d0 (2:Int) (IntKind.i64.wrap ((2:Int) + (min x309 (8:Int))))),.int .i64 x2,.int .i64 (0:Int),.int .i64 (0:Int),.bool false,str ([]:Str),.slice none ([]:List Int).length 0,.slice none ([]:List Int).length 0,.int .u64 (IntKind.u64.wrap ((IntKind.u64.wrap x297) + (IntKind.u64.wrap ((4294967296:Int) * (IntKind.u64.wrap x301)))))]:Value),fun _ _=>True] (by kernel_rfl) (allM1 (fun m hm=>by first | exact hm | (simp at hm ⊢; simp [hm]; done) | simp_all) (fun _ h=>by cases h)) ⟨fun _ _ _ _ _ h=>h,fun _ _ _ _ _ h=>h,fun _ _ _ _ _ h=>h,fun _ _ _ _ _ h=>h,fun _ _ _ _ _ h=>h,fun _ _ _ _ _ h=>h,fun _ _ _ _ _ h=>h,fun _ _ _ _ _ h=>h,fun _ _ _ _ _ h=>h,trivial⟩ ⟨⟨fun _ _ _ _ _ h=>h,fun _ _ _ _ _ h=>h,fun _ _ _ _ _ h=>h,fun _ _ _ _ _ h=>h,fun _ _ _ _ _ h=>h,fun _ _ _ _ _ h=>h,fun _ _ _ _ _ h=>h,fun _ _ _ _ _ h=>h,(fun h=>absurd h (by decide)),trivial⟩,trivial⟩ ⟨fun w' w'' F h=>by have hB308_b1:=h; exact (hB308_b1.ex F),fun w' w'' F h=>by have hB308_b1:=h; exact (hB308_b1.ex F),trivial⟩ B307 ?_ ?_ ?_
    ·refine ⟨?_,?_,?_,?_,?_,?_,?_,?_,?_,trivial⟩
     ·intro _ ρ w308o F308o hX hS hρ
      have F308o:=hX 8 rfl rfl
      have q0:ρ 0=str d0:=hρ 0 (by kernel_rfl)
      exact o_q (r_mov q0) ⟨Fr.refl _ _,rfl⟩
     ·intro _ ρ w308o F308o hX hS hρ
      have F308o:=hX 8 rfl rfl
      have q0:ρ 0=str d0:=hρ 0 (by kernel_rfl)
      exact o_q (r_mov q0) ⟨Fr.refl _ _,rfl⟩
     ·intro _ ρ w308o F308o hX hS hρ
      have F308o:=hX 8 rfl rfl
      have E311:=E306.trans F308o
      have q49:ρ 49=str d0:=hS 1 (by decide) 49 rfl
      refine o_call cf_ref07_get (by simp only [List.map,ev,q49] <;> rfl) (ref07_get_c d0 (1:Int) (1:Int) (((hL.fr E311).cons (B307.ex F308o).lt).cons (B305'.ex F308o).lt) hx309) rfl rfl ?_
      rintro _ w' ⟨F,rfl⟩
      exact eo_nil ⟨rfl,rfl,_,rfl,F,rfl⟩
     ·intro _ ρ w308o F308o hX hS hρ
      have F308o:=hX 8 rfl rfl
      have q50:ρ 50=.int .i64 x309:=hS 2 (by decide) 50 rfl
      exact o_q (r_min q50 rfl) ⟨Fr.refl _ _,rfl⟩
     ·intro _ ρ w308o F308o hX hS hρ
      have F308o:=hX 8 rfl rfl
      have q51:ρ 51=.int .i64 (min x309 (8:Int)):=hS 3 (by decide) 51 rfl
      exact o_q (r_int rfl q51 rfl) ⟨Fr.refl _ _,rfl⟩
     ·intro _ ρ w308o F308o hX hS hρ
      have F308o:=hX 8 rfl rfl
      have q48:ρ 48=str d0:=hS 0 (by decide) 48 rfl
      have q52:ρ 52=.int .i64 (IntKind.i64.wrap ((2:Int) + (min x309 (8:Int)))):=hS 4 (by decide) 52 rfl
      exact o_q (r_sl_str un_string q48 ⟨_,rfl⟩ ⟨_,q52⟩ ha310.1 ha310.2.1 ha310.2.2) ⟨Fr.refl _ _,rfl⟩
     ·intro _ ρ w308o F308o hX hS hρ
      have F308o:=hX 8 rfl rfl
      have q3:ρ 3=.pointer (some ⟨b5,0,none⟩):=hρ 3 (by kernel_rfl)
      exact o_q (r_lda agg_api_Value q3 (vs:=[.int .i64 x2,.int .i64 (0:Int),.int .i64 (0:Int),.bool false,str ([]:Str),.slice none ([]:List Int).length 0,.slice none ([]:List Int).length 0,.int .u64 (IntKind.u64.wrap ((IntKind.u64.wrap x297) + (IntKind.u64.wrap ((4294967296:Int) * (IntKind.u64.wrap x301)))))]) rfl ((B305'.ex F308o).part (n:=8) rfl)) ⟨Fr.refl _ _,rfl⟩
     ·intro _ ρ w308o F308o hX hS hρ
      have F308o:=hX 8 rfl rfl
      have q53:ρ 53=str (cut d0 (2:Int) (IntKind.i64.wrap ((2:Int) + (min x309 (8:Int))))):=hS 5 (by decide) 53 rfl
      have q54:ρ 54=.agg #[.int .i64 x2,.int .i64 (0:Int),.int .i64 (0:Int),.bool false,str ([]:Str),.slice none ([]:List Int).length 0,.slice none ([]:List Int).length 0,.int .u64 (IntKind.u64.wrap ((IntKind.u64.wrap x297) + (IntKind.u64.wrap ((4294967296:Int) * (IntKind.u64.wrap x301)))))]:=hS 6 (by decide) 54 rfl
      exact o_q (r_build bld_api_Entry (vs:=[(0,str (cut d0 (2:Int) (IntKind.i64.wrap ((2:Int) + (min x309 (8:Int)))))),(1,.agg #[.int .i64 x2,.int .i64 (0:Int),.int .i64 (0:Int),.bool false,str ([]:Str),.slice none ([]:List Int).length 0,.slice none ([]:List Int).length 0,.int .u64 (IntKind.u64.wrap ((IntKind.u64.wrap x297) + (IntKind.u64.wrap ((4294967296:Int) * (IntKind.u64.wrap x301)))))])]) (cells:=[str (cut d0 (2:Int) (IntKind.i64.wrap ((2:Int) + (min x309 (8:Int))))),.int .i64 x2,.int .i64 (0:Int),.int .i64 (0:Int),.bool false,str ([]:Str),.slice none ([]:List Int).length 0,.slice none ([]:List Int).length 0,.int .u64 (IntKind.u64.wrap ((IntKind.u64.wrap x297) + (IntKind.u64.wrap ((4294967296:Int) * (IntKind.u64.wrap x301)))))]) (by simp only [List.map,ev,q53,q54]) rfl) ⟨Fr.refl _ _,rfl⟩
     ·intro hT; exact absurd hT (by decide)
    ·refine ⟨⟨_,rfl,?_⟩,trivial⟩
     ·intro ρ w308o F308o hX hI hS hρ
      have hB308_b1:=hI
      have q2:ρ 2=.pointer (some ⟨b1,0,none⟩):=hρ 2 (by kernel_rfl)
      have q55:ρ 55=.agg #[str (cut d0 (2:Int) (IntKind.i64.wrap ((2:Int) + (min x309 (8:Int))))),.int .i64 x2,.int .i64 (0:Int),.int .i64 (0:Int),.bool false,str ([]:Str),.slice none ([]:List Int).length 0,.slice none ([]:List Int).length 0,.int .u64 (IntKind.u64.wrap ((IntKind.u64.wrap x297) + (IntKind.u64.wrap ((4294967296:Int) * (IntKind.u64.wrap x301)))))]:=hS 7 (by decide) 55 rfl
      refine o_store (show ev ρ _=_ from q2) hB308_b1 (vs:=[str (cut d0 (2:Int) (IntKind.i64.wrap ((2:Int) + (min x309 (8:Int))))),.int .i64 x2,.int .i64 (0:Int),.int .i64 (0:Int),.bool false,str ([]:Str),.slice none ([]:List Int).length 0,.slice none ([]:List Int).length 0,.int .u64 (IntKind.u64.wrap ((IntKind.u64.wrap x297) + (IntKind.u64.wrap ((4294967296:Int) * (IntKind.u64.wrap x301)))))]) (congrArg Value.cells q55) sz_api_Entry rfl rfl rfl ?_
      intro w' F B2
      exact eo_nil ⟨rfl,rfl,undef,rfl,F,B2,trivial⟩
    ·intro ρ w308 F308 hI hS hρ
     have hB308_b1:=hI
     obtain ⟨ρ',rfl⟩:∃ ρ',ρ=envs (ovr [48,49,50,51,52,53,54,55] ρ' _) []:=⟨ρ,ovr_self hρ trivial⟩
     have E320:Ext w w308:=Ext.st E306 F308 (upc n1 (fun m hm=>by cases hm))
     refine sq_n ?_
     refine ec_ret ?_
     subst h
     exact (endr1 (rv_a rfl (agg_api_Entry) hB308_b1 (vs:=[str (cut d0 (2:Int) (IntKind.i64.wrap ((2:Int) + (min x309 (8:Int))))),.int .i64 x2,.int .i64 (0:Int),.int .i64 (0:Int),.bool false,str ([]:Str),.slice none ([]:List Int).length 0,.slice none ([]:List Int).length 0,.int .u64 (IntKind.u64.wrap ((IntKind.u64.wrap x297) + (IntKind.u64.wrap ((4294967296:Int) * (IntKind.u64.wrap x301)))))]) rfl rfl) ⟨_,rfl,E320,_,rfl,(kEnt_mk (d:=(⟨(cut d0 (2:Int) (IntKind.i64.wrap ((2:Int) + (min x309 (8:Int))))),(⟨x2,(0:Int),(0:Int),false,([]:Str),([]:List Int),([]:List Int),(IntKind.u64.wrap ((IntKind.u64.wrap x297) + (IntKind.u64.wrap ((4294967296:Int) * (IntKind.u64.wrap x301)))))⟩:Val)⟩:Ent)) stb_nil stb_nil)⟩)
   ·replace h:=h.2 hc296
    refine ec_skip ?_
    refine sq_n ?_
    refine ec_seq ?_
    obtain ⟨x323,hx323,h⟩:=h
    obtain ⟨ha324,h⟩:=h
    have qb322_b1:b1<w9.heap.size:=B11.lt
    refine ec_anyN (by kernel_rfl) [[],[],[1],[1,2],[1,2,3],[0,1,2,3,4],[],[0,1,2,3,4,5,6],[0,1,2,3,4,5,6,7]] [48,49,50,51,52,53,54,55] (b1::[]) [8] [[b1]] [[8]] [fun w'=>Blk w' b1 27 [str ([]:Str),.int .i64 (0:Int),.int .i64 (0:Int),.int .i64 (0:Int),.bool false,str ([]:Str),.slice none ([]:List Int).length 0,.slice none ([]:List Int).length 0,.int .u64 (0:Int)],fun w'=>Blk w' b1 27 [str (cut d0 (2:Int) (IntKind.i64.wrap ((2:Int) + (min x323 (8:Int))))),.int .i64 x2,.int .i64 (0:Int),.int .i64 (0:Int),.bool false,str ([]:Str),.slice none ([]:List Int).length 0,.slice none ([]:List Int).length 0,.int .u64 (0:Int)]] [fun v _=>v=(str d0:Value),fun v _=>v=(str d0:Value),fun v _=>v=(.int .i64 x323:Value),fun v _=>v=(.int .i64 (min x323 (8:Int)):Value),fun v _=>v=(.int .i64 (IntKind.i64.wrap ((2:Int) + (min x323 (8:Int)))):Value),fun v _=>v=(str (cut d0 (2:Int) (IntKind.i64.wrap ((2:Int) + (min x323 (8:Int))))):Value),fun v _=>v=(.agg #[.int .i64 x2,.int .i64 (0:Int),.int .i64 (0:Int),.bool false,str ([]:Str),.slice none ([]:List Int).length 0,.slice none ([]:List Int).length 0,.int .u64 (0:Int)]:Value),fun v _=>v=(.agg #[str (cut d0 (2:Int) (IntKind.i64.wrap ((2:Int) + (min x323 (8:Int))))),.int .i64 x2,.int .i64 (0:Int),.int .i64 (0:Int),.bool false,str ([]:Str),.slice none ([]:List Int).length 0,.slice none ([]:List Int).length 0,.int .u64 (0:Int)]:Value),fun _ _=>True] (by kernel_rfl) (allM1 (fun m hm=>by first | exact hm | (simp at hm ⊢; simp [hm]; done) | simp_all) (fun _ h=>by cases h)) ⟨fun _ _ _ _ _ h=>h,fun _ _ _ _ _ h=>h,fun _ _ _ _ _ h=>h,fun _ _ _ _ _ h=>h,fun _ _ _ _ _ h=>h,fun _ _ _ _ _ h=>h,fun _ _ _ _ _ h=>h,fun _ _ _ _ _ h=>h,fun _ _ _ _ _ h=>h,trivial⟩ ⟨⟨fun _ _ _ _ _ h=>h,fun _ _ _ _ _ h=>h,fun _ _ _ _ _ h=>h,fun _ _ _ _ _ h=>h,fun _ _ _ _ _ h=>h,fun _ _ _ _ _ h=>h,fun _ _ _ _ _ h=>h,fun _ _ _ _ _ h=>h,(fun h=>absurd h (by decide)),trivial⟩,trivial⟩ ⟨fun w' w'' F h=>by have hB322_b1:=h; exact (hB322_b1.ex F),fun w' w'' F h=>by have hB322_b1:=h; exact (hB322_b1.ex F),trivial⟩ B11 ?_ ?_ ?_
    ·refine ⟨?_,?_,?_,?_,?_,?_,?_,?_,?_,trivial⟩
     ·intro _ ρ w322o F322o hX hS hρ
      have F322o:=hX 8 rfl rfl
      have q0:ρ 0=str d0:=hρ 0 (by kernel_rfl)
      exact o_q (r_mov q0) ⟨Fr.refl _ _,rfl⟩
     ·intro _ ρ w322o F322o hX hS hρ
      have F322o:=hX 8 rfl rfl
      have q0:ρ 0=str d0:=hρ 0 (by kernel_rfl)
      exact o_q (r_mov q0) ⟨Fr.refl _ _,rfl⟩
     ·intro _ ρ w322o F322o hX hS hρ
      have F322o:=hX 8 rfl rfl
      have E325:=E10.trans F322o
      have q49:ρ 49=str d0:=hS 1 (by decide) 49 rfl
      refine o_call cf_ref07_get (by simp only [List.map,ev,q49] <;> rfl) (ref07_get_c d0 (1:Int) (1:Int) (((hL.fr E325).cons (B11.ex F322o).lt).cons (B9'.ex F322o).lt) hx323) rfl rfl ?_
      rintro _ w' ⟨F,rfl⟩
      exact eo_nil ⟨rfl,rfl,_,rfl,F,rfl⟩
     ·intro _ ρ w322o F322o hX hS hρ
      have F322o:=hX 8 rfl rfl
      have q50:ρ 50=.int .i64 x323:=hS 2 (by decide) 50 rfl
      exact o_q (r_min q50 rfl) ⟨Fr.refl _ _,rfl⟩
     ·intro _ ρ w322o F322o hX hS hρ
      have F322o:=hX 8 rfl rfl
      have q51:ρ 51=.int .i64 (min x323 (8:Int)):=hS 3 (by decide) 51 rfl
      exact o_q (r_int rfl q51 rfl) ⟨Fr.refl _ _,rfl⟩
     ·intro _ ρ w322o F322o hX hS hρ
      have F322o:=hX 8 rfl rfl
      have q48:ρ 48=str d0:=hS 0 (by decide) 48 rfl
      have q52:ρ 52=.int .i64 (IntKind.i64.wrap ((2:Int) + (min x323 (8:Int)))):=hS 4 (by decide) 52 rfl
      exact o_q (r_sl_str un_string q48 ⟨_,rfl⟩ ⟨_,q52⟩ ha324.1 ha324.2.1 ha324.2.2) ⟨Fr.refl _ _,rfl⟩
     ·intro _ ρ w322o F322o hX hS hρ
      have F322o:=hX 8 rfl rfl
      have q3:ρ 3=.pointer (some ⟨b5,0,none⟩):=hρ 3 (by kernel_rfl)
      exact o_q (r_lda agg_api_Value q3 (vs:=[.int .i64 x2,.int .i64 (0:Int),.int .i64 (0:Int),.bool false,str ([]:Str),.slice none ([]:List Int).length 0,.slice none ([]:List Int).length 0,.int .u64 (0:Int)]) rfl ((B9'.ex F322o).part (n:=8) rfl)) ⟨Fr.refl _ _,rfl⟩
     ·intro _ ρ w322o F322o hX hS hρ
      have F322o:=hX 8 rfl rfl
      have q53:ρ 53=str (cut d0 (2:Int) (IntKind.i64.wrap ((2:Int) + (min x323 (8:Int))))):=hS 5 (by decide) 53 rfl
      have q54:ρ 54=.agg #[.int .i64 x2,.int .i64 (0:Int),.int .i64 (0:Int),.bool false,str ([]:Str),.slice none ([]:List Int).length 0,.slice none ([]:List Int).length 0,.int .u64 (0:Int)]:=hS 6 (by decide) 54 rfl
      exact o_q (r_build bld_api_Entry (vs:=[(0,str (cut d0 (2:Int) (IntKind.i64.wrap ((2:Int) + (min x323 (8:Int)))))),(1,.agg #[.int .i64 x2,.int .i64 (0:Int),.int .i64 (0:Int),.bool false,str ([]:Str),.slice none ([]:List Int).length 0,.slice none ([]:List Int).length 0,.int .u64 (0:Int)])]) (cells:=[str (cut d0 (2:Int) (IntKind.i64.wrap ((2:Int) + (min x323 (8:Int))))),.int .i64 x2,.int .i64 (0:Int),.int .i64 (0:Int),.bool false,str ([]:Str),.slice none ([]:List Int).length 0,.slice none ([]:List Int).length 0,.int .u64 (0:Int)]) (by simp only [List.map,ev,q53,q54]) rfl) ⟨Fr.refl _ _,rfl⟩
     ·intro hT; exact absurd hT (by decide)
    ·refine ⟨⟨_,rfl,?_⟩,trivial⟩
     ·intro ρ w322o F322o hX hI hS hρ
      have hB322_b1:=hI
      have q2:ρ 2=.pointer (some ⟨b1,0,none⟩):=hρ 2 (by kernel_rfl)
      have q55:ρ 55=.agg #[str (cut d0 (2:Int) (IntKind.i64.wrap ((2:Int) + (min x323 (8:Int))))),.int .i64 x2,.int .i64 (0:Int),.int .i64 (0:Int),.bool false,str ([]:Str),.slice none ([]:List Int).length 0,.slice none ([]:List Int).length 0,.int .u64 (0:Int)]:=hS 7 (by decide) 55 rfl
      refine o_store (show ev ρ _=_ from q2) hB322_b1 (vs:=[str (cut d0 (2:Int) (IntKind.i64.wrap ((2:Int) + (min x323 (8:Int))))),.int .i64 x2,.int .i64 (0:Int),.int .i64 (0:Int),.bool false,str ([]:Str),.slice none ([]:List Int).length 0,.slice none ([]:List Int).length 0,.int .u64 (0:Int)]) (congrArg Value.cells q55) sz_api_Entry rfl rfl rfl ?_
      intro w' F B2
      exact eo_nil ⟨rfl,rfl,undef,rfl,F,B2,trivial⟩
    ·intro ρ w322 F322 hI hS hρ
     have hB322_b1:=hI
     obtain ⟨ρ',rfl⟩:∃ ρ',ρ=envs (ovr [48,49,50,51,52,53,54,55] ρ' _) []:=⟨ρ,ovr_self hρ trivial⟩
     have E334:Ext w w322:=Ext.st E10 F322 (upc n1 (fun m hm=>by cases hm))
     refine sq_n ?_
     refine ec_ret ?_
     subst h
     exact (endr1 (rv_a rfl (agg_api_Entry) hB322_b1 (vs:=[str (cut d0 (2:Int) (IntKind.i64.wrap ((2:Int) + (min x323 (8:Int))))),.int .i64 x2,.int .i64 (0:Int),.int .i64 (0:Int),.bool false,str ([]:Str),.slice none ([]:List Int).length 0,.slice none ([]:List Int).length 0,.int .u64 (0:Int)]) rfl rfl) ⟨_,rfl,E334,_,rfl,(kEnt_mk (d:=(⟨(cut d0 (2:Int) (IntKind.i64.wrap ((2:Int) + (min x323 (8:Int))))),(⟨x2,(0:Int),(0:Int),false,([]:Str),([]:List Int),([]:List Int),(0:Int)⟩:Val)⟩:Ent)) stb_nil stb_nil)⟩)
def ref07_Get_raw (d0:Str) (y:Ent × Int):Prop :=
 (((d0.length:Int) != (42:Int))=true→(y=((⟨([]:Str),(⟨(0:Int),(0:Int),(0:Int),false,([]:Str),([]:List Int),([]:List Int),(0:Int)⟩:Val)⟩:Ent),(2:Int))))∧(((d0.length:Int) != (42:Int))=false→(∃ x5,ref07_read_raw d0 x5∧(∃ x26,ref07_Put_raw x5 x26∧((((x26.2 != (0:Int))||(!(x26.1==d0)))=true→(y=((⟨([]:Str),(⟨(0:Int),(0:Int),(0:Int),false,([]:Str),([]:List Int),([]:List Int),(0:Int)⟩:Val)⟩:Ent),(2:Int))))∧(((x26.2 != (0:Int))||(!(x26.1==d0)))=false→(y=(x5,(0:Int))))))))
set_option maxRecDepth 20000 in
set_option maxHeartbeats 4000000 in
theorem ref07_Get_c {L:List Nat} {w:World} (d0:Str) (hL:Lt L w) {y:Ent × Int} (h:ref07_Get_raw d0 y) :
  Calls Try.prog 22 [str d0].toArray w (Ret fun v w'=>Ext w w'∧∃ (cs90:List Value),v=.tuple #[.agg cs90.toArray,.int .i64 y.2]∧Stb L w' (fun w=>kEnt.r w cs90 y.1)):=by
 unfold ref07_Get_raw at h
 refine calls_ec Try.func22 rfl rfl rfl ?_
 refine ec_seq ?_
 refine ec_region ?_
 refine o_alloc zero_api_Entry rfl rfl rfl ?_
 intro b1 w1 e1 F1 B1
 have n1:w.heap.size≤b1:=Nat.le_of_eq e1.symm
 refine o_w (v:=.int .i64 (0:Int)) (r_asg rfl) ?_
 refine eo_nil_sq ?_
 iterate 2 refine ec_seq ?_
 refine ec_region ?_
 refine o_w (v:=str d0) (r_mov rfl) ?_
 refine o_w (v:=.int .i64 (d0.length:Int)) (r_len_str un_string rfl) ?_
 refine o_w (v:=.bool ((d0.length:Int) != (42:Int))) (r_int rfl rfl rfl) ?_
 refine eo_nil_sq ?_
 refine ec_cond rfl (fun hc2=>?_) (fun hc2=>?_)
 ·replace h:=h.1 hc2
  refine ec_seq ?_
  refine ec_region ?_
  refine o_w (v:=.agg #[str ([]:Str),.int .i64 (0:Int),.int .i64 (0:Int),.int .i64 (0:Int),.bool false,str ([]:Str),.slice none ([]:List Int).length 0,.slice none ([]:List Int).length 0,.int .u64 (0:Int)]) (r_build bld_api_Entry (vs:=[]) (cells:=[str ([]:Str),.int .i64 (0:Int),.int .i64 (0:Int),.int .i64 (0:Int),.bool false,str ([]:Str),.slice none ([]:List Int).length 0,.slice none ([]:List Int).length 0,.int .u64 (0:Int)]) rfl rfl) ?_
  refine o_store rfl B1 (vs:=[str ([]:Str),.int .i64 (0:Int),.int .i64 (0:Int),.int .i64 (0:Int),.bool false,str ([]:Str),.slice none ([]:List Int).length 0,.slice none ([]:List Int).length 0,.int .u64 (0:Int)]) rfl sz_api_Entry rfl rfl rfl ?_
  intro w3 F3 B3
  have E4:=Ext.st F1 F3 (by simp; omega)
  have B3':Blk w3 b1 _ [str ([]:Str),.int .i64 (0:Int),.int .i64 (0:Int),.int .i64 (0:Int),.bool false,str ([]:Str),.slice none ([]:List Int).length 0,.slice none ([]:List Int).length 0,.int .u64 (0:Int)]:=B3
  refine o_w (v:=.int .i64 (2:Int)) (r_asg rfl) ?_
  refine eo_nil_sq ?_
  refine ec_ret ?_
  refine sq_ret ?_
  subst h
  exact (endr2 (rv_a rfl (agg_api_Entry) B3' (vs:=[str ([]:Str),.int .i64 (0:Int),.int .i64 (0:Int),.int .i64 (0:Int),.bool false,str ([]:Str),.slice none ([]:List Int).length 0,.slice none ([]:List Int).length 0,.int .u64 (0:Int)]) rfl rfl) (rv_t rfl) ⟨_,rfl,E4,_,rfl,(kEnt_mk (d:=(⟨([]:Str),(⟨(0:Int),(0:Int),(0:Int),false,([]:Str),([]:List Int),([]:List Int),(0:Int)⟩:Val)⟩:Ent)) stb_nil stb_nil)⟩)
 ·replace h:=h.2 hc2
  refine ec_skip ?_
  refine sq_n ?_
  refine ec_seq ?_
  refine ec_region ?_
  refine o_w (v:=str d0) (r_mov rfl) ?_
  obtain ⟨x5,hx5,h⟩:=h
  refine o_call cf_ref07_read rfl (ref07_read_c d0 ((hL.fr F1).cons B1.lt) hx5) rfl rfl ?_
  rintro _ w5 ⟨F5,cs6,rfl,H7⟩
  have E8:=F1.trans F5
  obtain ⟨A10,c11,A13,c14,rfl,H12,H15⟩:=kEnt_open H7
  refine o_alloc zero_api_Entry rfl rfl rfl ?_
  intro b16 w16 e16 F16 B16
  have n16:w.heap.size≤b16:=by rw [e16]; exact E8.size
  have q17:b1<b16:=by rw [e16]; exact (B1.ex F5).lt
  have m18:w5.heap.size≤b16:=Nat.le_of_eq e16.symm
  have E19:=E8.trans F16
  have G20:Fr (b1::L) w5 w16:=Fr.ext F16
  refine o_store rfl B16 (vs:=(cEnt x5 A10 c11 A13 c14)) rfl sz_api_Entry rfl rfl rfl ?_
  intro w22 F22 B22
  have E23:=Ext.st E19 F22 (by simp; omega)
  have G24:Fr (b1::L) w5 w22:=G20.stp F22 (upc (.inr m18) (fun m hm=>by cases hm))
  have B25:=((B1.ex F5).ex F16).fr F22 (by simp; omega)
  have B22':Blk w22 b16 _ (cEnt x5 A10 c11 A13 c14):=B22
  refine eo_nil_sq ?_
  refine ec_seq ?_
  refine ec_region ?_
  refine o_w (v:=.agg (cEnt x5 A10 c11 A13 c14).toArray) (r_lda agg_api_Entry rfl (vs:=(cEnt x5 A10 c11 A13 c14)) rfl (B22'.part (n:=9) rfl)) ?_
  obtain ⟨x26,hx26,h⟩:=h
  refine o_call cf_ref07_Put rfl (ref07_Put_c x5 (kEnt_mk (d:=x5) (H12.up G24 (fun _ h=>h) (upc (.inr m18) (upc (.inl (List.Mem.head _)) (fun m hm=>Or.inl (List.Mem.tail _ hm))))) (H15.up G24 (fun _ h=>h) (upc (.inr m18) (upc (.inl (List.Mem.head _)) (fun m hm=>Or.inl (List.Mem.tail _ hm)))))) (((hL.fr E23).cons B25.lt).cons B22'.lt) hx26) rfl rfl ?_
  rintro _ w26 ⟨F26,rfl⟩
  have E27:=E23.trans F26
  refine o_w (v:=.tuple #[str x26.1,.int .i64 x26.2]) (r_mov rfl) ?_
  refine o_w (v:=str x26.1) (r_ext rfl rfl) ?_
  refine o_w (v:=.int .i64 x26.2) (r_ext rfl rfl) ?_
  refine o_w (v:=str x26.1) (r_asg rfl) ?_
  refine o_w (v:=.int .i64 x26.2) (r_asg rfl) ?_
  refine eo_nil_sq ?_
  iterate 2 refine ec_seq ?_
  refine ec_region ?_
  refine o_w (v:=.int .i64 x26.2) (r_mov rfl) ?_
  refine o_w (v:=.bool (x26.2 != (0:Int))) (r_int rfl rfl rfl) ?_
  refine o_w (v:=.bool (x26.2 != (0:Int))) (r_mov rfl) ?_
  refine o_vg (v:=str x26.1) (want_cf (t:=20) rfl rfl) (fun hk=>(r_mov rfl)) rfl rfl ?_
  refine o_vg (v:=str d0) (want_cf (t:=20) rfl rfl) (fun hk=>(r_mov rfl)) rfl rfl ?_
  refine o_vg (v:=.bool (!(x26.1==d0))) (want_cf (t:=20) rfl rfl) (fun hk=>(r_str (gdT hk) (gdT hk) rfl)) rfl rfl ?_
  refine o_w (v:=.bool ((x26.2 != (0:Int))||(!(x26.1==d0)))) (r_pickOr rfl rfl (fun hf=>(gdT (notT hf)))) ?_
  refine eo_nil_sq ?_
  refine ec_cond rfl (fun hc31=>?_) (fun hc31=>?_)
  ·replace h:=h.1 hc31
   refine ec_seq ?_
   refine ec_region ?_
   refine o_w (v:=.agg #[str ([]:Str),.int .i64 (0:Int),.int .i64 (0:Int),.int .i64 (0:Int),.bool false,str ([]:Str),.slice none ([]:List Int).length 0,.slice none ([]:List Int).length 0,.int .u64 (0:Int)]) (r_build bld_api_Entry (vs:=[]) (cells:=[str ([]:Str),.int .i64 (0:Int),.int .i64 (0:Int),.int .i64 (0:Int),.bool false,str ([]:Str),.slice none ([]:List Int).length 0,.slice none ([]:List Int).length 0,.int .u64 (0:Int)]) rfl rfl) ?_
   refine o_store rfl (B25.ex F26) (vs:=[str ([]:Str),.int .i64 (0:Int),.int .i64 (0:Int),.int .i64 (0:Int),.bool false,str ([]:Str),.slice none ([]:List Int).length 0,.slice none ([]:List Int).length 0,.int .u64 (0:Int)]) rfl sz_api_Entry rfl rfl rfl ?_
   intro w32 F32 B32
   have E33:=Ext.st E27 F32 (by simp; omega)
   have B32':Blk w32 b1 _ [str ([]:Str),.int .i64 (0:Int),.int .i64 (0:Int),.int .i64 (0:Int),.bool false,str ([]:Str),.slice none ([]:List Int).length 0,.slice none ([]:List Int).length 0,.int .u64 (0:Int)]:=B32
   refine o_w (v:=.int .i64 (2:Int)) (r_asg rfl) ?_
   refine eo_nil_sq ?_
   refine ec_ret ?_
   refine sq_ret ?_
   subst h
   exact (endr2 (rv_a rfl (agg_api_Entry) B32' (vs:=[str ([]:Str),.int .i64 (0:Int),.int .i64 (0:Int),.int .i64 (0:Int),.bool false,str ([]:Str),.slice none ([]:List Int).length 0,.slice none ([]:List Int).length 0,.int .u64 (0:Int)]) rfl rfl) (rv_t rfl) ⟨_,rfl,E33,_,rfl,(kEnt_mk (d:=(⟨([]:Str),(⟨(0:Int),(0:Int),(0:Int),false,([]:Str),([]:List Int),([]:List Int),(0:Int)⟩:Val)⟩:Ent)) stb_nil stb_nil)⟩)
  ·replace h:=h.2 hc31
   refine ec_skip ?_
   refine sq_n ?_
   refine ec_seq ?_
   refine ec_region ?_
   refine o_w (v:=.agg (cEnt x5 A10 c11 A13 c14).toArray) (r_lda agg_api_Entry rfl (vs:=(cEnt x5 A10 c11 A13 c14)) rfl ((B22'.ex F26).part (n:=9) rfl)) ?_
   refine o_store rfl (B25.ex F26) (vs:=(cEnt x5 A10 c11 A13 c14)) rfl sz_api_Entry rfl rfl rfl ?_
   intro w36 F36 B36
   have E37:=Ext.st E27 F36 (by simp; omega)
   have G38:Fr (b1::L) w5 w36:=(G24.trans (Fr.ext F26)).stp F36 (upc (.inl (List.Mem.head _)) (fun m hm=>by cases hm))
   have B36':Blk w36 b1 _ (cEnt x5 A10 c11 A13 c14):=B36
   refine o_w (v:=.int .i64 (0:Int)) (r_asg rfl) ?_
   refine eo_nil_sq ?_
   refine ec_ret ?_
   subst h
   exact (endr2 (rv_a rfl (agg_api_Entry) B36' (vs:=(cEnt x5 A10 c11 A13 c14)) rfl rfl) (rv_t rfl) ⟨_,rfl,E37,_,rfl,(kEnt_mk (d:=x5) (H12.up G38 (fun _ h=>h) (fun m hm=>Or.inl (List.Mem.tail _ hm))) (H15.up G38 (fun _ h=>h) (fun m hm=>Or.inl (List.Mem.tail _ hm))))⟩)
end Go.Proofs.Ytbijobepjjokmaa
