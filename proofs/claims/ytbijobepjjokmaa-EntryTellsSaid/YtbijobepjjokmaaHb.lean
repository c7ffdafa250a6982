/- References of entries. -/
import Derived.Test.YtbijobepjjokmaaHa
namespace Go.Proofs.Ytbijobepjjokmaa
open Go Go.RowKit
set_option linter.unusedVariables false
set_option linter.unusedSimpArgs false
def ref07_nums_b1 (d0:(List Int)) (s1:Str × Int) (z1:(Str × Int) ⊕ (Str × Int)):Prop :=
 ((decide (s1.2<(d0.length:Int)))=true→((0≤s1.2∧s1.2<(d0.length:Int))∧(∃ x8,ref07_num_raw (nth d0 s1.2) (2:Int) x8∧(s1.1.length + x8.length≤9223372036854775807∧(z1=.inl ((s1.1++x8),(IntKind.i64.wrap (s1.2 + (1:Int)))))))))∧((decide (s1.2<(d0.length:Int)))=false→(z1=.inr (s1.1,s1.2)))
def ref07_nums_raw (d0:(List Int)) (y:Str):Prop :=
 ∃ x1,LoopR (ref07_nums_b1 d0) (([]:Str),(0:Int)) x1∧(y=x1.1)
set_option maxRecDepth 20000 in
set_option maxHeartbeats 4000000 in
theorem ref07_nums_c {L:List Nat} {w:World} {AP0:Option Addr} {cP0:Nat} (d0:(List Int)) (HP0:Stb L w (fun w=>SlC (kI .i64) w AP0 cP0 d0)) (hL:Lt L w) {y:Str} (h:ref07_nums_raw d0 y) :
  Calls Try.prog 56 [.slice AP0 d0.length cP0].toArray w (Ret fun v w'=>Ext w w'∧v=str y):=by
 unfold ref07_nums_raw at h
 refine calls_ec Try.func56 rfl rfl rfl ?_
 refine ec_seq ?_
 refine ec_region ?_
 refine o_w (v:=str ([]:Str)) (r_asg rfl) ?_
 refine eo_nil_sq ?_
 refine ec_seq ?_
 refine ec_region ?_
 refine o_w (v:=str ([]:Str)) (r_asg rfl) ?_
 refine eo_nil_sq ?_
 iterate 2 refine ec_seq ?_
 refine ec_region ?_
 refine o_w (v:=.int .i64 (0:Int)) (r_asg rfl) ?_
 refine eo_nil_sq ?_
 refine ec_block ?_
 obtain ⟨x1,hl1,h⟩:=h
 refine ec_loopE 0 (I:=(fun (s1:Str × Int) ρ ds w'=>∃ (ρ':Env),ρ=envs ρ' [(3,str s1.1),(4,.int .i64 s1.2),(0,.slice AP0 d0.length cP0)]∧ds=[]∧Fr L w w'∧Ext w w')) ?_ hl1 ?_ ?_
 ·intro s1 z1 ρ1 ds1 w1r hI1 hb1
  obtain ⟨ρ1r,rfl,rfl,F1r,E1r⟩:=hI1
  have h:=hb1
  unfold ref07_nums_b1 at h
  have G2:Fr L w w1r:=(Fr.refl _ _).stp F1r (fun _ h=>.inl h)
  iterate 2 refine ec_seq ?_
  refine ec_region ?_
  refine o_w (v:=.int .i64 s1.2) (r_mov rfl) ?_
  refine o_w (v:=.slice AP0 d0.length cP0) (r_mov rfl) ?_
  refine o_w (v:=.int .i64 (d0.length:Int)) (r_len_slc un_s_int rfl) ?_
  refine o_w (v:=.bool (decide (s1.2<(d0.length:Int)))) (r_int rfl rfl rfl) ?_
  refine eo_nil_sq ?_
  refine ec_cond rfl (fun hc3=>?_) (fun hc3=>?_)
  ·replace h:=h.1 hc3
   refine ec_skip ?_
   refine sq_n ?_
   refine ec_seq ?_
   refine ec_block ?_
   refine ec_region ?_
   refine o_w (v:=str s1.1) (r_mov rfl) ?_
   refine o_w (v:=.slice AP0 d0.length cP0) (r_mov rfl) ?_
   refine o_w (v:=.int .i64 s1.2) (r_mov rfl) ?_
   obtain ⟨ha4,h⟩:=h
   obtain ⟨cs5,l7,H6⟩:=Stb.elem (by decide) (HP0.fr G2 (fun _ h=>h)) s1.2 ha4.1 ha4.2
   obtain ⟨rfl,H6'⟩:=kI_open2 H6
   refine o_w (v:=.pointer (some (elemA AP0 (kI .i64).n s1.2.toNat))) (r_ia slc_s_int rfl rfl ((HP0.fr G2 (fun _ h=>h)).now.2 _ (lt_toNat ha4.1 ha4.2)).1 ha4.1 ha4.2) ?_
   refine o_w (v:=.int .i64 (nth d0 s1.2)) (r_ld' one_int rfl (elemA_spot _ _ _) (H6'.now.1.at0 (elemA_spot _ _ _))) ?_
   obtain ⟨x8,hx8,h⟩:=h
   refine o_call cf_ref07_num rfl (ref07_num_c (nth d0 s1.2) (2:Int) (hL.fr E1r) hx8) rfl rfl ?_
   rintro _ w8 ⟨F8,rfl⟩
   have E9:=E1r.trans F8
   obtain ⟨ha13,h⟩:=h
   refine o_w (v:=str (s1.1++x8)) (r_cat rfl rfl ha13) ?_
   refine o_w (v:=str (s1.1++x8)) (r_asg rfl) ?_
   refine eo_nil ?_
   refine blk_n ?_
   refine sq_n ?_
   refine ec_region ?_
   refine o_w (v:=.int .i64 s1.2) (r_mov rfl) ?_
   refine o_w (v:=.int .i64 (IntKind.i64.wrap (s1.2 + (1:Int)))) (r_int rfl rfl rfl) ?_
   refine o_w (v:=.int .i64 (IntKind.i64.wrap (s1.2 + (1:Int)))) (r_asg rfl) ?_
   refine eo_nil ?_
   subst h
   exact lq_n ⟨_,envs_self ⟨rfl,rfl,rfl,trivial⟩,rfl,(F1r.trans (Fr.ext F8)),E9⟩
  ·replace h:=h.2 hc3
   refine ec_exit ?_
   refine sq_exit ?_
   subst h
   exact lq_x ⟨_,envs_self ⟨rfl,rfl,rfl,trivial⟩,rfl,F1r,E1r⟩
 ·exact ⟨_,envs_self ⟨rfl,rfl,rfl,trivial⟩,rfl,(Fr.refl _ _),(Fr.refl _ _)⟩
 ·rintro ρ1e ds1e w1e ⟨ρ1e,rfl,rfl,F1e,E1e⟩
  refine blk_hit ?_
  refine sq_n ?_
  refine ec_seq ?_
  refine ec_region ?_
  refine o_w (v:=str x1.1) (r_mov rfl) ?_
  refine o_w (v:=str x1.1) (r_asg rfl) ?_
  refine eo_nil_sq ?_
  refine ec_ret ?_
  subst h
  exact (end1 rfl ⟨_,rfl,E1e,rfl⟩)
def ref07_data_raw (d0:Val) (y:Str):Prop :=
 ((d0.kind==(1:Int))=true→(∃ x11,ref07_num_raw d0.time (4:Int) x11∧(∃ x12,ref07_num_raw d0.node (1:Int) x12∧(x11.length + x12.length≤9223372036854775807∧(∃ x14,ref07_bit_raw d0.dead x14∧(∃ x15,ref07_num_raw x14 (1:Int) x15∧((x11++x12).length + x15.length≤9223372036854775807∧(∃ x17,ref07_num_raw (d0.text.length:Int) (1:Int) x17∧(((x11++x12)++x15).length + x17.length≤9223372036854775807∧((((x11++x12)++x15)++x17).length + d0.text.length≤9223372036854775807∧(y=((((x11++x12)++x15)++x17)++d0.text))))))))))))∧((d0.kind==(1:Int))=false→(((d0.kind==(2:Int))=true→(∃ x55,ref07_nums_raw d0.plus x55∧(∃ x56,ref07_nums_raw d0.minus x56∧(x55.length + x56.length≤9223372036854775807∧(y=(x55++x56))))))∧((d0.kind==(2:Int))=false→(∃ x74,ref07_num_raw (IntKind.i64.wrap (Int.tmod d0.flags (4294967296:Int))) (4:Int) x74∧(∃ x75,ref07_num_raw (IntKind.i64.wrap (IntKind.u64.wrap (Int.tdiv d0.flags (4294967296:Int)))) (4:Int) x75∧(x74.length + x75.length≤9223372036854775807∧(y=(x74++x75))))))))
set_option maxRecDepth 20000 in
set_option maxHeartbeats 4000000 in
theorem ref07_data_c {L:List Nat} {w:World} {csP0:List Value} (d0:Val) (HP0:Stb L w (fun w=>kVal.r w csP0 d0)) (hL:Lt L w) {y:Str} (h:ref07_data_raw d0 y) :
  Calls Try.prog 36 [.agg csP0.toArray].toArray w (Ret fun v w'=>Ext w w'∧v=str y):=by
 obtain ⟨A1,c2,A4,c5,rfl,H3,H6⟩:=kVal_open HP0
 unfold ref07_data_raw at h
 refine calls_ec Try.func36 rfl rfl rfl ?_
 refine ec_seq ?_
 refine ec_region ?_
 refine o_box (cs:=(cVal d0 A1 c2 A4 c5)) rfl rfl rfl ?_
 intro b7 w7 e7 F7 B7
 have S7:=B7.stb (nin hL e7)
 have G8:Fr L w w7:=Fr.ext F7
 refine o_w (v:=str ([]:Str)) (r_asg rfl) ?_
 refine eo_nil_sq ?_
 iterate 2 refine ec_seq ?_
 refine ec_region ?_
 refine o_w (v:=.pointer (some ⟨b7,0,none⟩)) (r_fa fld_api_Value_0 rfl rfl) ?_
 refine o_w (v:=.int .i64 d0.kind) (r_ld one_int rfl (S7.now.cell rfl)) ?_
 refine o_w (v:=.bool (d0.kind==(1:Int))) (r_int rfl rfl rfl) ?_
 refine eo_nil_sq ?_
 refine ec_cond rfl (fun hc9=>?_) (fun hc9=>?_)
 ·replace h:=h.1 hc9
  refine ec_seq ?_
  obtain ⟨x11,hx11,h⟩:=h
  obtain ⟨x12,hx12,h⟩:=h
  obtain ⟨ha13,h⟩:=h
  obtain ⟨x14,hx14,h⟩:=h
  obtain ⟨x15,hx15,h⟩:=h
  obtain ⟨ha16,h⟩:=h
  obtain ⟨x17,hx17,h⟩:=h
  obtain ⟨ha18,h⟩:=h
  obtain ⟨ha19,h⟩:=h
  refine ec_any0 (by kernel_rfl) [[],[0],[0,1],[],[3],[0,1,2,3,4],[0,1,2,3,4,5],[],[7],[0,1,2,3,4,5,7,8],[0,1,2,3,4,5,7,8,9],[0,1,2,3,4,5,6,7,8,9,10],[],[12],[12,13],[0,1,2,3,4,5,7,8,9,10,12,13,14],[0,1,2,3,4,5,6,7,8,9,10,11,12,13,14,15],[],[17],[0,1,2,3,4,5,6,7,8,9,10,11,12,13,14,15,16,17,18],[0,1,2,3,4,5,6,7,8,9,10,11,12,13,14,15,16,17,18,19]] [2,6,7,8,9,10,11,12,13,14,15,16,17,18,19,20,21,22,23,24,25] [fun v _=>v=(.pointer (some ⟨b7,1,none⟩):Value),fun v _=>v=(.int .i64 d0.time:Value),fun v _=>v=(str x11:Value),fun v _=>v=(.pointer (some ⟨b7,2,none⟩):Value),fun v _=>v=(.int .i64 d0.node:Value),fun v _=>v=(str x12:Value),fun v _=>v=(str (x11++x12):Value),fun v _=>v=(.pointer (some ⟨b7,3,none⟩):Value),fun v _=>v=(.bool d0.dead:Value),fun v _=>v=(.int .i64 x14:Value),fun v _=>v=(str x15:Value),fun v _=>v=(str ((x11++x12)++x15):Value),fun v _=>v=(.pointer (some ⟨b7,4,none⟩):Value),fun v _=>v=(str d0.text:Value),fun v _=>v=(.int .i64 (d0.text.length:Int):Value),fun v _=>v=(str x17:Value),fun v _=>v=(str (((x11++x12)++x15)++x17):Value),fun v _=>v=(.pointer (some ⟨b7,4,none⟩):Value),fun v _=>v=(str d0.text:Value),fun v _=>v=(str ((((x11++x12)++x15)++x17)++d0.text):Value),fun v _=>v=(str ((((x11++x12)++x15)++x17)++d0.text):Value)] (by kernel_rfl) ⟨fun _ _ _ _ _ h=>h,fun _ _ _ _ _ h=>h,fun _ _ _ _ _ h=>h,fun _ _ _ _ _ h=>h,fun _ _ _ _ _ h=>h,fun _ _ _ _ _ h=>h,fun _ _ _ _ _ h=>h,fun _ _ _ _ _ h=>h,fun _ _ _ _ _ h=>h,fun _ _ _ _ _ h=>h,fun _ _ _ _ _ h=>h,fun _ _ _ _ _ h=>h,fun _ _ _ _ _ h=>h,fun _ _ _ _ _ h=>h,fun _ _ _ _ _ h=>h,fun _ _ _ _ _ h=>h,fun _ _ _ _ _ h=>h,fun _ _ _ _ _ h=>h,fun _ _ _ _ _ h=>h,fun _ _ _ _ _ h=>h,fun _ _ _ _ _ h=>h,trivial⟩ ?_ ?_
  ·refine ⟨?_,?_,?_,?_,?_,?_,?_,?_,?_,?_,?_,?_,?_,?_,?_,?_,?_,?_,?_,?_,?_,trivial⟩
   ·intro ρ w10o F10o hS hρ
    have q1:ρ 1=.pointer (some ⟨b7,0,none⟩):=hρ 1 (by kernel_rfl)
    exact o_q (r_fa fld_api_Value_1 rfl q1) ⟨Fr.refl _ _,rfl⟩
   ·intro ρ w10o F10o hS hρ
    have G22:Fr L w7 w10o:=Fr.ext F10o
    have q6:ρ 6=.pointer (some ⟨b7,1,none⟩):=hS 0 (by decide) 6 rfl
    exact o_q (r_ld one_int q6 ((S7.fr G22 (fun _ h=>h)).now.cell rfl)) ⟨Fr.refl _ _,rfl⟩
   ·intro ρ w10o F10o hS hρ
    have E23:=F7.trans F10o
    have q7:ρ 7=.int .i64 d0.time:=hS 1 (by decide) 7 rfl
    refine o_call cf_ref07_num (by simp only [List.map,ev,q7] <;> rfl) (ref07_num_c d0.time (4:Int) (hL.fr E23) hx11) rfl rfl ?_
    rintro _ w' ⟨F,rfl⟩
    exact eo_nil ⟨rfl,rfl,_,rfl,F,rfl⟩
   ·intro ρ w10o F10o hS hρ
    have q1:ρ 1=.pointer (some ⟨b7,0,none⟩):=hρ 1 (by kernel_rfl)
    exact o_q (r_fa fld_api_Value_2 rfl q1) ⟨Fr.refl _ _,rfl⟩
   ·intro ρ w10o F10o hS hρ
    have G28:Fr L w7 w10o:=Fr.ext F10o
    have q9:ρ 9=.pointer (some ⟨b7,2,none⟩):=hS 3 (by decide) 9 rfl
    exact o_q (r_ld one_int q9 ((S7.fr G28 (fun _ h=>h)).now.cell rfl)) ⟨Fr.refl _ _,rfl⟩
   ·intro ρ w10o F10o hS hρ
    have E29:=F7.trans F10o
    have q10:ρ 10=.int .i64 d0.node:=hS 4 (by decide) 10 rfl
    refine o_call cf_ref07_num (by simp only [List.map,ev,q10] <;> rfl) (ref07_num_c d0.node (1:Int) (hL.fr E29) hx12) rfl rfl ?_
    rintro _ w' ⟨F,rfl⟩
    exact eo_nil ⟨rfl,rfl,_,rfl,F,rfl⟩
   ·intro ρ w10o F10o hS hρ
    have q8:ρ 8=str x11:=hS 2 (by decide) 8 rfl
    have q11:ρ 11=str x12:=hS 5 (by decide) 11 rfl
    exact o_q (r_cat q8 q11 ha13) ⟨Fr.refl _ _,rfl⟩
   ·intro ρ w10o F10o hS hρ
    have q1:ρ 1=.pointer (some ⟨b7,0,none⟩):=hρ 1 (by kernel_rfl)
    exact o_q (r_fa fld_api_Value_3 rfl q1) ⟨Fr.refl _ _,rfl⟩
   ·intro ρ w10o F10o hS hρ
    have G34:Fr L w7 w10o:=Fr.ext F10o
    have q13:ρ 13=.pointer (some ⟨b7,3,none⟩):=hS 7 (by decide) 13 rfl
    exact o_q (r_ld one_bool q13 ((S7.fr G34 (fun _ h=>h)).now.cell rfl)) ⟨Fr.refl _ _,rfl⟩
   ·intro ρ w10o F10o hS hρ
    have E35:=F7.trans F10o
    have q14:ρ 14=.bool d0.dead:=hS 8 (by decide) 14 rfl
    refine o_call cf_ref07_bit (by simp only [List.map,ev,q14] <;> rfl) (ref07_bit_c d0.dead (hL.fr E35) hx14) rfl rfl ?_
    rintro _ w' ⟨F,rfl⟩
    exact eo_nil ⟨rfl,rfl,_,rfl,F,rfl⟩
   ·intro ρ w10o F10o hS hρ
    have E38:=F7.trans F10o
    have q15:ρ 15=.int .i64 x14:=hS 9 (by decide) 15 rfl
    refine o_call cf_ref07_num (by simp only [List.map,ev,q15] <;> rfl) (ref07_num_c x14 (1:Int) (hL.fr E38) hx15) rfl rfl ?_
    rintro _ w' ⟨F,rfl⟩
    exact eo_nil ⟨rfl,rfl,_,rfl,F,rfl⟩
   ·intro ρ w10o F10o hS hρ
    have q12:ρ 12=str (x11++x12):=hS 6 (by decide) 12 rfl
    have q16:ρ 16=str x15:=hS 10 (by decide) 16 rfl
    exact o_q (r_cat q12 q16 ha16) ⟨Fr.refl _ _,rfl⟩
   ·intro ρ w10o F10o hS hρ
    have q1:ρ 1=.pointer (some ⟨b7,0,none⟩):=hρ 1 (by kernel_rfl)
    exact o_q (r_fa fld_api_Value_4 rfl q1) ⟨Fr.refl _ _,rfl⟩
   ·intro ρ w10o F10o hS hρ
    have G43:Fr L w7 w10o:=Fr.ext F10o
    have q18:ρ 18=.pointer (some ⟨b7,4,none⟩):=hS 12 (by decide) 18 rfl
    exact o_q (r_ld one_string q18 ((S7.fr G43 (fun _ h=>h)).now.cell rfl)) ⟨Fr.refl _ _,rfl⟩
   ·intro ρ w10o F10o hS hρ
    have q19:ρ 19=str d0.text:=hS 13 (by decide) 19 rfl
    exact o_q (r_len_str un_string q19) ⟨Fr.refl _ _,rfl⟩
   ·intro ρ w10o F10o hS hρ
    have E44:=F7.trans F10o
    have q20:ρ 20=.int .i64 (d0.text.length:Int):=hS 14 (by decide) 20 rfl
    refine o_call cf_ref07_num (by simp only [List.map,ev,q20] <;> rfl) (ref07_num_c (d0.text.length:Int) (1:Int) (hL.fr E44) hx17) rfl rfl ?_
    rintro _ w' ⟨F,rfl⟩
    exact eo_nil ⟨rfl,rfl,_,rfl,F,rfl⟩
   ·intro ρ w10o F10o hS hρ
    have q17:ρ 17=str ((x11++x12)++x15):=hS 11 (by decide) 17 rfl
    have q21:ρ 21=str x17:=hS 15 (by decide) 21 rfl
    exact o_q (r_cat q17 q21 ha18) ⟨Fr.refl _ _,rfl⟩
   ·intro ρ w10o F10o hS hρ
    have q1:ρ 1=.pointer (some ⟨b7,0,none⟩):=hρ 1 (by kernel_rfl)
    exact o_q (r_fa fld_api_Value_4 rfl q1) ⟨Fr.refl _ _,rfl⟩
   ·intro ρ w10o F10o hS hρ
    have G49:Fr L w7 w10o:=Fr.ext F10o
    have q23:ρ 23=.pointer (some ⟨b7,4,none⟩):=hS 17 (by decide) 23 rfl
    exact o_q (r_ld one_string q23 ((S7.fr G49 (fun _ h=>h)).now.cell rfl)) ⟨Fr.refl _ _,rfl⟩
   ·intro ρ w10o F10o hS hρ
    have q22:ρ 22=str (((x11++x12)++x15)++x17):=hS 16 (by decide) 22 rfl
    have q24:ρ 24=str d0.text:=hS 18 (by decide) 24 rfl
    exact o_q (r_cat q22 q24 ha19) ⟨Fr.refl _ _,rfl⟩
   ·intro ρ w10o F10o hS hρ
    have q25:ρ 25=str ((((x11++x12)++x15)++x17)++d0.text):=hS 19 (by decide) 25 rfl
    exact o_q (r_asg q25) ⟨Fr.refl _ _,rfl⟩
  ·intro ρ w10 F10 hS hρ
   have q2:ρ 2=str ((((x11++x12)++x15)++x17)++d0.text):=hS 20 2 rfl
   obtain ⟨ρ',rfl⟩:∃ ρ',ρ=envs (ovr [2,6,7,8,9,10,11,12,13,14,15,16,17,18,19,20,21,22,23,24,25] ρ' _) [(2,str ((((x11++x12)++x15)++x17)++d0.text))]:=⟨ρ,ovr_self hρ ⟨q2,trivial⟩⟩
   have E50:=F7.trans F10
   refine sq_n ?_
   refine ec_ret ?_
   refine sq_ret ?_
   subst h
   exact (end1 rfl ⟨_,rfl,E50,rfl⟩)
 ·replace h:=h.2 hc9
  refine ec_skip ?_
  refine sq_n ?_
  iterate 2 refine ec_seq ?_
  refine ec_region ?_
  refine o_w (v:=.pointer (some ⟨b7,0,none⟩)) (r_fa fld_api_Value_0 rfl rfl) ?_
  refine o_w (v:=.int .i64 d0.kind) (r_ld one_int rfl (S7.now.cell rfl)) ?_
  refine o_w (v:=.bool (d0.kind==(2:Int))) (r_int rfl rfl rfl) ?_
  refine eo_nil_sq ?_
  refine ec_cond rfl (fun hc53=>?_) (fun hc53=>?_)
  ·replace h:=h.1 hc53
   refine ec_seq ?_
   obtain ⟨x55,hx55,h⟩:=h
   obtain ⟨x56,hx56,h⟩:=h
   obtain ⟨ha57,h⟩:=h
   refine ec_any0 (by kernel_rfl) [[],[0],[0,1],[],[3],[0,1,2,3,4],[0,1,2,3,4,5],[0,1,2,3,4,5,6]] [2,29,30,31,32,33,34,35] [fun v _=>v=(.pointer (some ⟨b7,5,none⟩):Value),fun v _=>v=(.slice A1 d0.plus.length c2:Value),fun v _=>v=(str x55:Value),fun v _=>v=(.pointer (some ⟨b7,6,none⟩):Value),fun v _=>v=(.slice A4 d0.minus.length c5:Value),fun v _=>v=(str x56:Value),fun v _=>v=(str (x55++x56):Value),fun v _=>v=(str (x55++x56):Value)] (by kernel_rfl) ⟨fun _ _ _ _ _ h=>h,fun _ _ _ _ _ h=>h,fun _ _ _ _ _ h=>h,fun _ _ _ _ _ h=>h,fun _ _ _ _ _ h=>h,fun _ _ _ _ _ h=>h,fun _ _ _ _ _ h=>h,fun _ _ _ _ _ h=>h,trivial⟩ ?_ ?_
   ·refine ⟨?_,?_,?_,?_,?_,?_,?_,?_,trivial⟩
    ·intro ρ w54o F54o hS hρ
     have q1:ρ 1=.pointer (some ⟨b7,0,none⟩):=hρ 1 (by kernel_rfl)
     exact o_q (r_fa fld_api_Value_5 rfl q1) ⟨Fr.refl _ _,rfl⟩
    ·intro ρ w54o F54o hS hρ
     have G60:Fr L w7 w54o:=Fr.ext F54o
     have q29:ρ 29=.pointer (some ⟨b7,5,none⟩):=hS 0 (by decide) 29 rfl
     exact o_q (r_ld one_s_int q29 ((S7.fr G60 (fun _ h=>h)).now.cell rfl)) ⟨Fr.refl _ _,rfl⟩
    ·intro ρ w54o F54o hS hρ
     have E61:=F7.trans F54o
     have q30:ρ 30=.slice A1 d0.plus.length c2:=hS 1 (by decide) 30 rfl
     refine o_call cf_ref07_nums (by simp only [List.map,ev,q30] <;> rfl) (ref07_nums_c d0.plus (H3.fr (G8.trans (Fr.ext F54o)) (fun _ h=>h)) (hL.fr E61) hx55) rfl rfl ?_
     rintro _ w' ⟨F,rfl⟩
     exact eo_nil ⟨rfl,rfl,_,rfl,F,rfl⟩
    ·intro ρ w54o F54o hS hρ
     have q1:ρ 1=.pointer (some ⟨b7,0,none⟩):=hρ 1 (by kernel_rfl)
     exact o_q (r_fa fld_api_Value_6 rfl q1) ⟨Fr.refl _ _,rfl⟩
    ·intro ρ w54o F54o hS hρ
     have G66:Fr L w7 w54o:=Fr.ext F54o
     have q32:ρ 32=.pointer (some ⟨b7,6,none⟩):=hS 3 (by decide) 32 rfl
     exact o_q (r_ld one_s_int q32 ((S7.fr G66 (fun _ h=>h)).now.cell rfl)) ⟨Fr.refl _ _,rfl⟩
    ·intro ρ w54o F54o hS hρ
     have E67:=F7.trans F54o
     have q33:ρ 33=.slice A4 d0.minus.length c5:=hS 4 (by decide) 33 rfl
     refine o_call cf_ref07_nums (by simp only [List.map,ev,q33] <;> rfl) (ref07_nums_c d0.minus (H6.fr (G8.trans (Fr.ext F54o)) (fun _ h=>h)) (hL.fr E67) hx56) rfl rfl ?_
     rintro _ w' ⟨F,rfl⟩
     exact eo_nil ⟨rfl,rfl,_,rfl,F,rfl⟩
    ·intro ρ w54o F54o hS hρ
     have q31:ρ 31=str x55:=hS 2 (by decide) 31 rfl
     have q34:ρ 34=str x56:=hS 5 (by decide) 34 rfl
     exact o_q (r_cat q31 q34 ha57) ⟨Fr.refl _ _,rfl⟩
    ·intro ρ w54o F54o hS hρ
     have q35:ρ 35=str (x55++x56):=hS 6 (by decide) 35 rfl
     exact o_q (r_asg q35) ⟨Fr.refl _ _,rfl⟩
   ·intro ρ w54 F54 hS hρ
    have q2:ρ 2=str (x55++x56):=hS 7 2 rfl
    obtain ⟨ρ',rfl⟩:∃ ρ',ρ=envs (ovr [2,29,30,31,32,33,34,35] ρ' _) [(2,str (x55++x56))]:=⟨ρ,ovr_self hρ ⟨q2,trivial⟩⟩
    have E70:=F7.trans F54
    refine sq_n ?_
    refine ec_ret ?_
    refine sq_ret ?_
    subst h
    exact (end1 rfl ⟨_,rfl,E70,rfl⟩)
  ·replace h:=h.2 hc53
   refine ec_skip ?_
   refine sq_n ?_
   refine ec_seq ?_
   obtain ⟨x74,hx74,h⟩:=h
   obtain ⟨x75,hx75,h⟩:=h
   obtain ⟨ha76,h⟩:=h
   refine ec_any0 (by kernel_rfl) [[],[0],[0,1],[0,1,2],[0,1,2,3],[],[5],[5,6],[5,6,7],[0,1,2,3,4,5,6,7,8],[0,1,2,3,4,5,6,7,8,9],[0,1,2,3,4,5,6,7,8,9,10]] [2,36,37,38,39,40,41,42,43,44,45,46] [fun v _=>v=(.pointer (some ⟨b7,7,none⟩):Value),fun v _=>v=(.int .u64 d0.flags:Value),fun v _=>v=(.int .u64 (Int.tmod d0.flags (4294967296:Int)):Value),fun v _=>v=(.int .i64 (IntKind.i64.wrap (Int.tmod d0.flags (4294967296:Int))):Value),fun v _=>v=(str x74:Value),fun v _=>v=(.pointer (some ⟨b7,7,none⟩):Value),fun v _=>v=(.int .u64 d0.flags:Value),fun v _=>v=(.int .u64 (IntKind.u64.wrap (Int.tdiv d0.flags (4294967296:Int))):Value),fun v _=>v=(.int .i64 (IntKind.i64.wrap (IntKind.u64.wrap (Int.tdiv d0.flags (4294967296:Int)))):Value),fun v _=>v=(str x75:Value),fun v _=>v=(str (x74++x75):Value),fun v _=>v=(str (x74++x75):Value)] (by kernel_rfl) ⟨fun _ _ _ _ _ h=>h,fun _ _ _ _ _ h=>h,fun _ _ _ _ _ h=>h,fun _ _ _ _ _ h=>h,fun _ _ _ _ _ h=>h,fun _ _ _ _ _ h=>h,fun _ _ _ _ _ h=>h,fun _ _ _ _ _ h=>h,fun _ _ _ _ _ h=>h,fun _ _ _ _ _ h=>h,fun _ _ _ _ _ h=>h,fun _ _ _ _ _ h=>h,trivial⟩ ?_ ?_
   ·refine ⟨?_,?_,?_,?_,?_,?_,?_,?_,?_,?_,?_,?_,trivial⟩
    ·intro ρ w73o F73o hS hρ
     have q1:ρ 1=.pointer (some ⟨b7,0,none⟩):=hρ 1 (by kernel_rfl)
     exact o_q (r_fa fld_api_Value_7 rfl q1) ⟨Fr.refl _ _,rfl⟩
    ·intro ρ w73o F73o hS hρ
     have G79:Fr L w7 w73o:=Fr.ext F73o
     have q36:ρ 36=.pointer (some ⟨b7,7,none⟩):=hS 0 (by decide) 36 rfl
     exact o_q (r_ld one_uint64 q36 ((S7.fr G79 (fun _ h=>h)).now.cell rfl)) ⟨Fr.refl _ _,rfl⟩
    ·intro ρ w73o F73o hS hρ
     have q37:ρ 37=.int .u64 d0.flags:=hS 1 (by decide) 37 rfl
     exact o_q (r_rem q37 rfl rfl) ⟨Fr.refl _ _,rfl⟩
    ·intro ρ w73o F73o hS hρ
     have q38:ρ 38=.int .u64 (Int.tmod d0.flags (4294967296:Int)):=hS 2 (by decide) 38 rfl
     exact o_q (r_conv un_uint64 un_int q38) ⟨Fr.refl _ _,rfl⟩
    ·intro ρ w73o F73o hS hρ
     have E80:=F7.trans F73o
     have q39:ρ 39=.int .i64 (IntKind.i64.wrap (Int.tmod d0.flags (4294967296:Int))):=hS 3 (by decide) 39 rfl
     refine o_call cf_ref07_num (by simp only [List.map,ev,q39] <;> rfl) (ref07_num_c (IntKind.i64.wrap (Int.tmod d0.flags (4294967296:Int))) (4:Int) (hL.fr E80) hx74) rfl rfl ?_
     rintro _ w' ⟨F,rfl⟩
     exact eo_nil ⟨rfl,rfl,_,rfl,F,rfl⟩
    ·intro ρ w73o F73o hS hρ
     have q1:ρ 1=.pointer (some ⟨b7,0,none⟩):=hρ 1 (by kernel_rfl)
     exact o_q (r_fa fld_api_Value_7 rfl q1) ⟨Fr.refl _ _,rfl⟩
    ·intro ρ w73o F73o hS hρ
     have G85:Fr L w7 w73o:=Fr.ext F73o
     have q41:ρ 41=.pointer (some ⟨b7,7,none⟩):=hS 5 (by decide) 41 rfl
     exact o_q (r_ld one_uint64 q41 ((S7.fr G85 (fun _ h=>h)).now.cell rfl)) ⟨Fr.refl _ _,rfl⟩
    ·intro ρ w73o F73o hS hρ
     have q42:ρ 42=.int .u64 d0.flags:=hS 6 (by decide) 42 rfl
     exact o_q (r_quo q42 rfl rfl) ⟨Fr.refl _ _,rfl⟩
    ·intro ρ w73o F73o hS hρ
     have q43:ρ 43=.int .u64 (IntKind.u64.wrap (Int.tdiv d0.flags (4294967296:Int))):=hS 7 (by decide) 43 rfl
     exact o_q (r_conv un_uint64 un_int q43) ⟨Fr.refl _ _,rfl⟩
    ·intro ρ w73o F73o hS hρ
     have E86:=F7.trans F73o
     have q44:ρ 44=.int .i64 (IntKind.i64.wrap (IntKind.u64.wrap (Int.tdiv d0.flags (4294967296:Int)))):=hS 8 (by decide) 44 rfl
     refine o_call cf_ref07_num (by simp only [List.map,ev,q44] <;> rfl) (ref07_num_c (IntKind.i64.wrap (IntKind.u64.wrap (Int.tdiv d0.flags (4294967296:Int)))) (4:Int) (hL.fr E86) hx75) rfl rfl ?_
     rintro _ w' ⟨F,rfl⟩
     exact eo_nil ⟨rfl,rfl,_,rfl,F,rfl⟩
    ·intro ρ w73o F73o hS hρ
     have q40:ρ 40=str x74:=hS 4 (by decide) 40 rfl
     have q45:ρ 45=str x75:=hS 9 (by decide) 45 rfl
     exact o_q (r_cat q40 q45 ha76) ⟨Fr.refl _ _,rfl⟩
    ·intro ρ w73o F73o hS hρ
     have q46:ρ 46=str (x74++x75):=hS 10 (by decide) 46 rfl
     exact o_q (r_asg q46) ⟨Fr.refl _ _,rfl⟩
   ·intro ρ w73 F73 hS hρ
    have q2:ρ 2=str (x74++x75):=hS 11 2 rfl
    obtain ⟨ρ',rfl⟩:∃ ρ',ρ=envs (ovr [2,36,37,38,39,40,41,42,43,44,45,46] ρ' _) [(2,str (x74++x75))]:=⟨ρ,ovr_self hρ ⟨q2,trivial⟩⟩
    have E89:=F7.trans F73
    refine sq_n ?_
    refine ec_ret ?_
    subst h
    exact (end1 rfl ⟨_,rfl,E89,rfl⟩)
def ref07_Put_raw (d0:Ent) (y:Str × Int):Prop :=
 (sm d0.val)∧(((!(okE d0))=true→(y=(([]:Str),(2:Int))))∧((!(okE d0))=false→(∃ x16,ref07_num_raw d0.val.kind (1:Int) x16∧(∃ x17,ref07_num_raw (d0.key.length:Int) (1:Int) x17∧(x16.length + x17.length≤9223372036854775807∧(∃ x19,ref07_pad_raw d0.key (8:Int) x19∧((x16++x17).length + x19.length≤9223372036854775807∧(∃ x21,ref07_data_raw d0.val x21∧(∃ x22,ref07_pad_raw x21 (32:Int) x22∧(((x16++x17)++x19).length + x22.length≤9223372036854775807∧(y=((((x16++x17)++x19)++x22),(0:Int)))))))))))))
set_option maxRecDepth 20000 in
set_option maxHeartbeats 4000000 in
theorem ref07_Put_c {L:List Nat} {w:World} {csP0:List Value} (d0:Ent) (HP0:Stb L w (fun w=>kEnt.r w csP0 d0)) (hL:Lt L w) {y:Str × Int} (h:ref07_Put_raw d0 y) :
  Calls Try.prog 13 [.agg csP0.toArray].toArray w (Ret fun v w'=>Ext w w'∧v=.tuple #[str y.1,.int .i64 y.2]):=by
 obtain ⟨A1,c2,A4,c5,rfl,H3,H6⟩:=kEnt_open HP0
 unfold ref07_Put_raw at h
 refine calls_ec Try.func13 rfl rfl rfl ?_
 refine ec_seq ?_
 refine ec_region ?_
 refine o_box (cs:=(cEnt d0 A1 c2 A4 c5)) rfl rfl rfl ?_
 intro b7 w7 e7 F7 B7
 have S7:=B7.stb (nin hL e7)
 have G8:Fr L w w7:=Fr.ext F7
 refine o_w (v:=str ([]:Str)) (r_asg rfl) ?_
 refine o_w (v:=.int .i64 (0:Int)) (r_asg rfl) ?_
 refine eo_nil_sq ?_
 iterate 2 refine ec_seq ?_
 refine ec_region ?_
 refine o_w (v:=.agg (cEnt d0 A1 c2 A4 c5).toArray) (r_lda agg_api_Entry rfl (vs:=(cEnt d0 A1 c2 A4 c5)) rfl (S7.now.part (n:=9) rfl)) ?_
 obtain ⟨ha10,h⟩:=h
 refine o_call cf_ref07_Check rfl (ref07_Check_c d0 (kEnt_mk (d:=d0) (H3.fr G8 (fun _ h=>h)) (H6.fr G8 (fun _ h=>h))) (hL.fr F7) (refCheckE_ev d0 ha10)) rfl rfl ?_
 rintro _ w9 ⟨F9,rfl⟩
 have E11:=F7.trans F9
 have G13:Fr L w7 w9:=Fr.ext F9
 refine o_w (v:=.bool (!(okE d0))) (r_not rfl) ?_
 refine eo_nil_sq ?_
 refine ec_cond rfl (fun hc14=>?_) (fun hc14=>?_)
 ·replace h:=h.1 hc14
  refine ec_seq ?_
  refine ec_region ?_
  refine o_w (v:=str ([]:Str)) (r_asg rfl) ?_
  refine o_w (v:=.int .i64 (2:Int)) (r_asg rfl) ?_
  refine eo_nil_sq ?_
  refine ec_ret ?_
  refine sq_ret ?_
  subst h
  exact (end2 rfl rfl ⟨_,rfl,E11,rfl⟩)
 ·replace h:=h.2 hc14
  refine ec_skip ?_
  refine sq_n ?_
  refine ec_seq ?_
  obtain ⟨x16,hx16,h⟩:=h
  obtain ⟨x17,hx17,h⟩:=h
  obtain ⟨ha18,h⟩:=h
  obtain ⟨x19,hx19,h⟩:=h
  obtain ⟨ha20,h⟩:=h
  obtain ⟨x21,hx21,h⟩:=h
  obtain ⟨x22,hx22,h⟩:=h
  obtain ⟨ha23,h⟩:=h
  refine ec_any0 (by kernel_rfl) [[],[0],[0,1],[0,1,2],[],[4],[4,5],[0,1,2,3,4,5,6],[0,1,2,3,4,5,6,7],[],[9],[0,1,2,3,4,5,6,7,9,10],[0,1,2,3,4,5,6,7,8,9,10,11],[],[13],[0,1,2,3,4,5,6,7,9,10,11,13,14],[0,1,2,3,4,5,6,7,9,10,11,13,14,15],[0,1,2,3,4,5,6,7,8,9,10,11,12,13,14,15,16],[0,1,2,3,4,5,6,7,8,9,10,11,12,13,14,15,16,17],[0,1,2,3,4,5,6,7,8,9,10,11,12,13,14,15,16,17,18]] [2,3,7,8,9,10,11,12,13,14,15,16,17,18,19,20,21,22,23,24] [fun v _=>v=(.pointer (some ⟨b7,1,none⟩):Value),fun v _=>v=(.pointer (some ⟨b7,1,none⟩):Value),fun v _=>v=(.int .i64 d0.val.kind:Value),fun v _=>v=(str x16:Value),fun v _=>v=(.pointer (some ⟨b7,0,none⟩):Value),fun v _=>v=(str d0.key:Value),fun v _=>v=(.int .i64 (d0.key.length:Int):Value),fun v _=>v=(str x17:Value),fun v _=>v=(str (x16++x17):Value),fun v _=>v=(.pointer (some ⟨b7,0,none⟩):Value),fun v _=>v=(str d0.key:Value),fun v _=>v=(str x19:Value),fun v _=>v=(str ((x16++x17)++x19):Value),fun v _=>v=(.pointer (some ⟨b7,1,none⟩):Value),fun v _=>v=(.agg (cVal d0.val A1 c2 A4 c5).toArray:Value),fun v _=>v=(str x21:Value),fun v _=>v=(str x22:Value),fun v _=>v=(str (((x16++x17)++x19)++x22):Value),fun v _=>v=(str (((x16++x17)++x19)++x22):Value),fun v _=>v=(.int .i64 (0:Int):Value)] (by kernel_rfl) ⟨fun _ _ _ _ _ h=>h,fun _ _ _ _ _ h=>h,fun _ _ _ _ _ h=>h,fun _ _ _ _ _ h=>h,fun _ _ _ _ _ h=>h,fun _ _ _ _ _ h=>h,fun _ _ _ _ _ h=>h,fun _ _ _ _ _ h=>h,fun _ _ _ _ _ h=>h,fun _ _ _ _ _ h=>h,fun _ _ _ _ _ h=>h,fun _ _ _ _ _ h=>h,fun _ _ _ _ _ h=>h,fun _ _ _ _ _ h=>h,fun _ _ _ _ _ h=>h,fun _ _ _ _ _ h=>h,fun _ _ _ _ _ h=>h,fun _ _ _ _ _ h=>h,fun _ _ _ _ _ h=>h,fun _ _ _ _ _ h=>h,trivial⟩ ?_ ?_
  ·refine ⟨?_,?_,?_,?_,?_,?_,?_,?_,?_,?_,?_,?_,?_,?_,?_,?_,?_,?_,?_,?_,trivial⟩
   ·intro ρ w15o F15o hS hρ
    have q1:ρ 1=.pointer (some ⟨b7,0,none⟩):=hρ 1 (by kernel_rfl)
    exact o_q (r_fa fld_api_Entry_1 rfl q1) ⟨Fr.refl _ _,rfl⟩
   ·intro ρ w15o F15o hS hρ
    have q7:ρ 7=.pointer (some ⟨b7,1,none⟩):=hS 0 (by decide) 7 rfl
    exact o_q (r_fa fld_api_Value_0 rfl q7) ⟨Fr.refl _ _,rfl⟩
   ·intro ρ w15o F15o hS hρ
    have q8:ρ 8=.pointer (some ⟨b7,1,none⟩):=hS 1 (by decide) 8 rfl
    exact o_q (r_ld one_int q8 ((S7.fr (G13.trans (Fr.ext F15o)) (fun _ h=>h)).now.cell rfl)) ⟨Fr.refl _ _,rfl⟩
   ·intro ρ w15o F15o hS hρ
    have E27:=E11.trans F15o
    have q9:ρ 9=.int .i64 d0.val.kind:=hS 2 (by decide) 9 rfl
    refine o_call cf_ref07_num (by simp only [List.map,ev,q9] <;> rfl) (ref07_num_c d0.val.kind (1:Int) (hL.fr E27) hx16) rfl rfl ?_
    rintro _ w' ⟨F,rfl⟩
    exact eo_nil ⟨rfl,rfl,_,rfl,F,rfl⟩
   ·intro ρ w15o F15o hS hρ
    have q1:ρ 1=.pointer (some ⟨b7,0,none⟩):=hρ 1 (by kernel_rfl)
    exact o_q (r_fa fld_api_Entry_0 rfl q1) ⟨Fr.refl _ _,rfl⟩
   ·intro ρ w15o F15o hS hρ
    have q11:ρ 11=.pointer (some ⟨b7,0,none⟩):=hS 4 (by decide) 11 rfl
    exact o_q (r_ld one_string q11 ((S7.fr (G13.trans (Fr.ext F15o)) (fun _ h=>h)).now.cell rfl)) ⟨Fr.refl _ _,rfl⟩
   ·intro ρ w15o F15o hS hρ
    have q12:ρ 12=str d0.key:=hS 5 (by decide) 12 rfl
    exact o_q (r_len_str un_string q12) ⟨Fr.refl _ _,rfl⟩
   ·intro ρ w15o F15o hS hρ
    have E33:=E11.trans F15o
    have q13:ρ 13=.int .i64 (d0.key.length:Int):=hS 6 (by decide) 13 rfl
    refine o_call cf_ref07_num (by simp only [List.map,ev,q13] <;> rfl) (ref07_num_c (d0.key.length:Int) (1:Int) (hL.fr E33) hx17) rfl rfl ?_
    rintro _ w' ⟨F,rfl⟩
    exact eo_nil ⟨rfl,rfl,_,rfl,F,rfl⟩
   ·intro ρ w15o F15o hS hρ
    have q10:ρ 10=str x16:=hS 3 (by decide) 10 rfl
    have q14:ρ 14=str x17:=hS 7 (by decide) 14 rfl
    exact o_q (r_cat q10 q14 ha18) ⟨Fr.refl _ _,rfl⟩
   ·intro ρ w15o F15o hS hρ
    have q1:ρ 1=.pointer (some ⟨b7,0,none⟩):=hρ 1 (by kernel_rfl)
    exact o_q (r_fa fld_api_Entry_0 rfl q1) ⟨Fr.refl _ _,rfl⟩
   ·intro ρ w15o F15o hS hρ
    have q16:ρ 16=.pointer (some ⟨b7,0,none⟩):=hS 9 (by decide) 16 rfl
    exact o_q (r_ld one_string q16 ((S7.fr (G13.trans (Fr.ext F15o)) (fun _ h=>h)).now.cell rfl)) ⟨Fr.refl _ _,rfl⟩
   ·intro ρ w15o F15o hS hρ
    have E39:=E11.trans F15o
    have q17:ρ 17=str d0.key:=hS 10 (by decide) 17 rfl
    refine o_call cf_ref07_pad (by simp only [List.map,ev,q17] <;> rfl) (ref07_pad_c d0.key (8:Int) (hL.fr E39) hx19) rfl rfl ?_
    rintro _ w' ⟨F,rfl⟩
    exact eo_nil ⟨rfl,rfl,_,rfl,F,rfl⟩
   ·intro ρ w15o F15o hS hρ
    have q15:ρ 15=str (x16++x17):=hS 8 (by decide) 15 rfl
    have q18:ρ 18=str x19:=hS 11 (by decide) 18 rfl
    exact o_q (r_cat q15 q18 ha20) ⟨Fr.refl _ _,rfl⟩
   ·intro ρ w15o F15o hS hρ
    have q1:ρ 1=.pointer (some ⟨b7,0,none⟩):=hρ 1 (by kernel_rfl)
    exact o_q (r_fa fld_api_Entry_1 rfl q1) ⟨Fr.refl _ _,rfl⟩
   ·intro ρ w15o F15o hS hρ
    have q20:ρ 20=.pointer (some ⟨b7,1,none⟩):=hS 13 (by decide) 20 rfl
    exact o_q (r_lda agg_api_Value q20 (vs:=(cVal d0.val A1 c2 A4 c5)) rfl ((S7.fr (G13.trans (Fr.ext F15o)) (fun _ h=>h)).now.part (n:=8) rfl)) ⟨Fr.refl _ _,rfl⟩
   ·intro ρ w15o F15o hS hρ
    have E45:=E11.trans F15o
    have q21:ρ 21=.agg (cVal d0.val A1 c2 A4 c5).toArray:=hS 14 (by decide) 21 rfl
    refine o_call cf_ref07_data (by simp only [List.map,ev,q21] <;> rfl) (ref07_data_c d0.val (kVal_mk (d:=d0.val) (H3.fr ((G8.trans (Fr.ext F9)).trans (Fr.ext F15o)) (fun _ h=>h)) (H6.fr ((G8.trans (Fr.ext F9)).trans (Fr.ext F15o)) (fun _ h=>h))) (hL.fr E45) hx21) rfl rfl ?_
    rintro _ w' ⟨F,rfl⟩
    exact eo_nil ⟨rfl,rfl,_,rfl,F,rfl⟩
   ·intro ρ w15o F15o hS hρ
    have E48:=E11.trans F15o
    have q22:ρ 22=str x21:=hS 15 (by decide) 22 rfl
    refine o_call cf_ref07_pad (by simp only [List.map,ev,q22] <;> rfl) (ref07_pad_c x21 (32:Int) (hL.fr E48) hx22) rfl rfl ?_
    rintro _ w' ⟨F,rfl⟩
    exact eo_nil ⟨rfl,rfl,_,rfl,F,rfl⟩
   ·intro ρ w15o F15o hS hρ
    have q19:ρ 19=str ((x16++x17)++x19):=hS 12 (by decide) 19 rfl
    have q23:ρ 23=str x22:=hS 16 (by decide) 23 rfl
    exact o_q (r_cat q19 q23 ha23) ⟨Fr.refl _ _,rfl⟩
   ·intro ρ w15o F15o hS hρ
    have q24:ρ 24=str (((x16++x17)++x19)++x22):=hS 17 (by decide) 24 rfl
    exact o_q (r_asg q24) ⟨Fr.refl _ _,rfl⟩
   ·intro ρ w15o F15o hS hρ
    exact o_q (r_asg rfl) ⟨Fr.refl _ _,rfl⟩
  ·intro ρ w15 F15 hS hρ
   have q2:ρ 2=str (((x16++x17)++x19)++x22):=hS 18 2 rfl
   have q3:ρ 3=.int .i64 (0:Int):=hS 19 3 rfl
   obtain ⟨ρ',rfl⟩:∃ ρ',ρ=envs (ovr [2,3,7,8,9,10,11,12,13,14,15,16,17,18,19,20,21,22,23,24] ρ' _) [(2,str (((x16++x17)++x19)++x22)),(3,.int .i64 (0:Int))]:=⟨ρ,ovr_self hρ ⟨q2,q3,trivial⟩⟩
   have E51:=E11.trans F15
   refine sq_n ?_
   refine ec_ret ?_
   subst h
   exact (end2 rfl rfl ⟨_,rfl,E51,rfl⟩)
end Go.Proofs.Ytbijobepjjokmaa
