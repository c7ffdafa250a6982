/- The reference of arena: its index, its slots. -/
import Derived.Test.YthhjcijhanacnaaGreatEs
namespace Go.Proofs.YthhjcijhanacnaaGreat
open Go Go.RowKit
set_option linter.unusedVariables false
set_option linter.unusedSimpArgs false
def ref08_index_b4 (d0:(List Ent)) (s1:List Int × Int) (s4:Int) (z4:(Int) ⊕ (Int)):Prop :=
 ((decide (s4<(s1.1.length:Int)))=true→((0≤s4∧s4<(s1.1.length:Int))∧((0≤(nth s1.1 s4)∧(nth s1.1 s4)<(d0.length:Int))∧((0≤s1.2∧s1.2<(d0.length:Int))∧(((lessE (nth d0 (nth s1.1 s4)) (nth d0 s1.2))=true→(z4=.inl (IntKind.i64.wrap (s4 + (1:Int)))))∧((lessE (nth d0 (nth s1.1 s4)) (nth d0 s1.2))=false→(z4=.inr s4)))))))∧((decide (s4<(s1.1.length:Int)))=false→(z4=.inr s4))
def ref08_index_b1 (d0:(List Ent)) (s1:List Int × Int) (z1:(List Int × Int) ⊕ (List Int × Int)):Prop :=
 ((decide (s1.2<(d0.length:Int)))=true→(∃ x4,LoopR (ref08_index_b4 d0 s1) (0:Int) x4∧((0≤(0:Int)∧(0:Int)≤x4∧x4≤(s1.1.length:Int))∧((([]:List Int).length + (cutL s1.1 (0:Int) x4).length≤9223372036854775807∧(([]:List Int).length + (cutL s1.1 (0:Int) x4).length) * 8≤140737488355328)∧(((([]:List Int)++(cutL s1.1 (0:Int) x4)).length + 1≤9223372036854775807∧((([]:List Int)++(cutL s1.1 (0:Int) x4)).length + 1) * 8≤140737488355328)∧((0≤x4∧x4≤(s1.1.length:Int)∧(s1.1.length:Int)≤(s1.1.length:Int))∧((((([]:List Int)++(cutL s1.1 (0:Int) x4))++([s1.2]:List Int)).length + (cutL s1.1 x4 (s1.1.length:Int)).length≤9223372036854775807∧(((([]:List Int)++(cutL s1.1 (0:Int) x4))++([s1.2]:List Int)).length + (cutL s1.1 x4 (s1.1.length:Int)).length) * 8≤140737488355328)∧(z1=.inl ((((([]:List Int)++(cutL s1.1 (0:Int) x4))++([s1.2]:List Int))++(cutL s1.1 x4 (s1.1.length:Int))),(IntKind.i64.wrap (s1.2 + (1:Int))))))))))))∧((decide (s1.2<(d0.length:Int)))=false→(z1=.inr (s1.1,s1.2)))
def ref08_index_raw (d0:(List Ent)) (y:(List Int)):Prop :=
 ∃ x1,LoopR (ref08_index_b1 d0) (([]:List Int),(0:Int)) x1∧(y=x1.1)
set_option maxRecDepth 20000 in
set_option maxHeartbeats 4000000 in
theorem ref08_index_c {L:List Nat} {w:World} {AP0:Option Addr} {cP0:Nat} (d0:(List Ent)) (HP0:Stb L w (fun w=>SlC kEnt w AP0 cP0 d0)) (hL:Lt L w) {y:(List Int)} (h:ref08_index_raw d0 y) :
  Calls Tryz.prog 79 [.slice AP0 d0.length cP0].toArray w (Ret fun v w'=>Ext w w'∧∃ (A90:Option Addr) (c90:Nat),v=.slice A90 (y).length c90∧Stb L w' (fun w=>SlC (kI .i64) w A90 c90 y)):=by
 unfold ref08_index_raw at h
 refine calls_ec Tryz.func79 rfl rfl rfl ?_
 refine ec_seq ?_
 refine ec_region ?_
 refine o_w (v:=.slice none ([]:List Int).length 0) (r_asg rfl) ?_
 refine eo_nil_sq ?_
 refine ec_seq ?_
 refine ec_region ?_
 refine o_w (v:=.slice none ([]:List Int).length 0) (r_asg rfl) ?_
 refine eo_nil_sq ?_
 iterate 2 refine ec_seq ?_
 refine ec_region ?_
 refine o_w (v:=.int .i64 0) (r_asg rfl) ?_
 refine eo_nil_sq ?_
 refine ec_block ?_
 obtain ⟨x1,hl1,h⟩:=h
 refine ec_loopE 0 (I:=(fun (s1:List Int × Int) ρ ds w'=>∃ (ρ':Env) (A1i1:Option Addr) (c1i1:Nat),ρ=envs ρ' [(3,.slice A1i1 s1.1.length c1i1),(4,.int .i64 s1.2),(0,.slice AP0 d0.length cP0)]∧ds=[]∧Fr L w w'∧Ext w w'∧Stb L w' (fun w=>SlC (kI .i64) w A1i1 c1i1 s1.1))) ?_ hl1 ?_ ?_
 ·intro s1 z1 ρ1 ds1 w1r hI1 hb1
  obtain ⟨ρ1r,A1r1,c1r1,rfl,rfl,F1r,E1r,H1r1⟩:=hI1
  have h:=hb1
  unfold ref08_index_b1 at h
  have G2:Fr L w w1r:=(Fr.refl _ _).stp F1r (fun _ h=>.inl h)
  iterate 2 refine ec_seq ?_
  refine ec_region ?_
  refine o_w (v:=.int .i64 s1.2) (r_mov rfl) ?_
  refine o_w (v:=.slice AP0 d0.length cP0) (r_mov rfl) ?_
  refine o_w (v:=.int .i64 (d0.length:Int)) (r_len_slc un_s_api_Entry rfl) ?_
  refine o_w (v:=.bool (decide (s1.2<(d0.length:Int)))) (r_int rfl rfl rfl) ?_
  refine eo_nil_sq ?_
  refine ec_cond rfl (fun hc3=>?_) (fun hc3=>?_)
  ·replace h:=h.1 hc3
   refine ec_skip ?_
   refine sq_n ?_
   refine ec_seq ?_
   refine ec_block ?_
   refine ec_seq ?_
   refine ec_region ?_
   refine o_w (v:=.int .i64 0) (r_asg rfl) ?_
   refine eo_nil_sq ?_
   refine ec_seq ?_
   refine ec_block ?_
   obtain ⟨x4,hl4,h⟩:=h
   refine ec_loopE 2 (I:=(fun (s4:Int) ρ ds w'=>∃ (ρ':Env),ρ=envs ρ' [(5,.int .i64 s4),(0,.slice AP0 d0.length cP0),(3,.slice A1r1 s1.1.length c1r1),(4,.int .i64 s1.2)]∧ds=[]∧Fr L w1r w'∧Ext w w')) ?_ hl4 ?_ ?_
   ·intro s4 z4 ρ4 ds4 w4r hI4 hb4
    obtain ⟨ρ4r,rfl,rfl,F4r,E4r⟩:=hI4
    have h:=hb4
    unfold ref08_index_b4 at h
    have G5:Fr L w w4r:=G2.stp F4r (fun _ h=>.inl h)
    have G6:Fr L w1r w4r:=(Fr.refl _ _).stp F4r (fun _ h=>.inl h)
    iterate 2 refine ec_seq ?_
    rcases Bool.eq_false_or_eq_true (decide (s4<(s1.1.length:Int))) with hc16 | hc16
    ·replace h:=h.1 hc16
     obtain ⟨ha70,h⟩:=h
     obtain ⟨cs71,l73,H72⟩:=Stb.elem (by decide) (H1r1.fr G6 sI) s4 ha70.1 ha70.2
     obtain ⟨rfl,H72'⟩:=kI_open2 H72
     obtain ⟨ha74,h⟩:=h
     obtain ⟨cs75,l77,H76⟩:=Stb.elem (by decide) (HP0.fr G5 sI) (nth s1.1 s4) ha74.1 ha74.2
     obtain ⟨A79,c80,A82,c83,rfl,H78,H81,H84⟩:=kEnt_open2 H76
     obtain ⟨ha85,h⟩:=h
     obtain ⟨cs86,l88,H87⟩:=Stb.elem (by decide) (HP0.fr G5 sI) s1.2 ha85.1 ha85.2
     obtain ⟨A90,c91,A93,c94,rfl,H89,H92,H95⟩:=kEnt_open2 H87
     refine ec_any0 (by kernel_rfl) [[],[],[1],[0,1,2],[0,1,2,3],[0,1,2,3,4],[0,1,2,3,4],[0,1,2,3,4],[0,1,2,3,4,6,7],[0,1,2,3,4,6,7,8],[0,1,2,3,4,5,6,7,8,9],[0,1,2,3,4,5,6,7,8,9,10],[0,1,2,3,4],[0,1,2,3,4],[0,1,2,3,4,12,13],[0,1,2,3,4,12,13,14],[0,1,2,3,4,5,6,7,8,9,10,11,12,13,14,15],[0,1,2,3,4,5,6,7,8,9,10,11,12,13,14,15,16]] [13,14,15,16,17,18,19,20,21,22,23,24,25,26,27,28,29,30] [fun v _=>v=(.int .i64 s4:Value),fun v _=>v=(.slice A1r1 s1.1.length c1r1:Value),fun v _=>v=(.int .i64 (s1.1.length:Int):Value),fun v _=>v=(.bool (decide (s4<(s1.1.length:Int))):Value),fun v _=>v=(.bool (decide (s4<(s1.1.length:Int))):Value),fun v _=>v=(.slice AP0 d0.length cP0:Value),fun v _=>v=(.slice A1r1 s1.1.length c1r1:Value),fun v _=>v=(.int .i64 s4:Value),fun v _=>v=(.pointer (some (elemA A1r1 (kI .i64).n s4.toNat)):Value),fun v _=>v=(.int .i64 (nth s1.1 s4):Value),fun v _=>v=(.pointer (some (elemA AP0 kEnt.n (nth s1.1 s4).toNat)):Value),fun v _=>v=(.agg (cEnt (nth d0 (nth s1.1 s4)) A79 c80 A82 c83).toArray:Value),fun v _=>v=(.slice AP0 d0.length cP0:Value),fun v _=>v=(.int .i64 s1.2:Value),fun v _=>v=(.pointer (some (elemA AP0 kEnt.n s1.2.toNat)):Value),fun v _=>v=(.agg (cEnt (nth d0 s1.2) A90 c91 A93 c94).toArray:Value),fun v _=>v=(.bool (lessE (nth d0 (nth s1.1 s4)) (nth d0 s1.2)):Value),fun v _=>v=(.bool (lessE (nth d0 (nth s1.1 s4)) (nth d0 s1.2)):Value)] (by kernel_rfl) ⟨fun _ _ _ _ _ h=>h,fun _ _ _ _ _ h=>h,fun _ _ _ _ _ h=>h,fun _ _ _ _ _ h=>h,fun _ _ _ _ _ h=>h,fun _ _ _ _ _ h=>h,fun _ _ _ _ _ h=>h,fun _ _ _ _ _ h=>h,fun _ _ _ _ _ h=>h,fun _ _ _ _ _ h=>h,fun _ _ _ _ _ h=>h,fun _ _ _ _ _ h=>h,fun _ _ _ _ _ h=>h,fun _ _ _ _ _ h=>h,fun _ _ _ _ _ h=>h,fun _ _ _ _ _ h=>h,fun _ _ _ _ _ h=>h,fun _ _ _ _ _ h=>h,trivial⟩ ?_ ?_
     ·refine ⟨?_,?_,?_,?_,?_,?_,?_,?_,?_,?_,?_,?_,?_,?_,?_,?_,?_,?_,trivial⟩
      ·intro ρ w69o F69o hS hρ
       have q5:ρ 5=.int .i64 s4:=hρ 5 (by kernel_rfl)
       exact o_q (r_mov q5) ⟨Fr.refl _ _,rfl⟩
      ·intro ρ w69o F69o hS hρ
       have q3:ρ 3=.slice A1r1 s1.1.length c1r1:=hρ 3 (by kernel_rfl)
       exact o_q (r_mov q3) ⟨Fr.refl _ _,rfl⟩
      ·intro ρ w69o F69o hS hρ
       have q14:ρ 14=.slice A1r1 s1.1.length c1r1:=hS 1 (by decide) 14 rfl
       exact o_q (r_len_slc un_s_int q14) ⟨Fr.refl _ _,rfl⟩
      ·intro ρ w69o F69o hS hρ
       have q13:ρ 13=.int .i64 s4:=hS 0 (by decide) 13 rfl
       have q15:ρ 15=.int .i64 (s1.1.length:Int):=hS 2 (by decide) 15 rfl
       exact o_q (r_int q13 q15 rfl) ⟨Fr.refl _ _,rfl⟩
      ·intro ρ w69o F69o hS hρ
       have q16:ρ 16=.bool (decide (s4<(s1.1.length:Int))):=hS 3 (by decide) 16 rfl
       exact o_q (r_mov q16) ⟨Fr.refl _ _,rfl⟩
      ·intro ρ w69o F69o hS hρ
       have q0:ρ 0=.slice AP0 d0.length cP0:=hρ 0 (by kernel_rfl)
       have q17:ρ 17=.bool (decide (s4<(s1.1.length:Int))):=hS 4 (by decide) 17 rfl
       exact o_v (r_mov q0) (want_t (t:=17) rfl q17 hc16) rfl rfl (eo_nil ⟨rfl,rfl,_,rfl,Fr.refl _ _,rfl⟩)
      ·intro ρ w69o F69o hS hρ
       have q3:ρ 3=.slice A1r1 s1.1.length c1r1:=hρ 3 (by kernel_rfl)
       have q17:ρ 17=.bool (decide (s4<(s1.1.length:Int))):=hS 4 (by decide) 17 rfl
       exact o_v (r_mov q3) (want_t (t:=17) rfl q17 hc16) rfl rfl (eo_nil ⟨rfl,rfl,_,rfl,Fr.refl _ _,rfl⟩)
      ·intro ρ w69o F69o hS hρ
       have q5:ρ 5=.int .i64 s4:=hρ 5 (by kernel_rfl)
       have q17:ρ 17=.bool (decide (s4<(s1.1.length:Int))):=hS 4 (by decide) 17 rfl
       exact o_v (r_mov q5) (want_t (t:=17) rfl q17 hc16) rfl rfl (eo_nil ⟨rfl,rfl,_,rfl,Fr.refl _ _,rfl⟩)
      ·intro ρ w69o F69o hS hρ
       have q17:ρ 17=.bool (decide (s4<(s1.1.length:Int))):=hS 4 (by decide) 17 rfl
       have q19:ρ 19=.slice A1r1 s1.1.length c1r1:=hS 6 (by decide) 19 rfl
       have q20:ρ 20=.int .i64 s4:=hS 7 (by decide) 20 rfl
       exact o_v (r_ia slc_s_int q19 q20 ((H1r1.fr (G6.trans (Fr.ext F69o)) sI).now.2 _ (lt_toNat ha70.1 ha70.2)).1 ha70.1 ha70.2) (want_t (t:=17) rfl q17 hc16) rfl rfl (eo_nil ⟨rfl,rfl,_,rfl,Fr.refl _ _,rfl⟩)
      ·intro ρ w69o F69o hS hρ
       have G108:Fr L w4r w69o:=Fr.ext F69o
       have q17:ρ 17=.bool (decide (s4<(s1.1.length:Int))):=hS 4 (by decide) 17 rfl
       have q21:ρ 21=.pointer (some (elemA A1r1 (kI .i64).n s4.toNat)):=hS 8 (by decide) 21 rfl
       exact o_v (r_ld' one_int q21 (elemA_spot _ _ _) ((H72'.fr G108 sI).now.1.at0 (elemA_spot _ _ _))) (want_t (t:=17) rfl q17 hc16) rfl rfl (eo_nil ⟨rfl,rfl,_,rfl,Fr.refl _ _,rfl⟩)
      ·intro ρ w69o F69o hS hρ
       have q17:ρ 17=.bool (decide (s4<(s1.1.length:Int))):=hS 4 (by decide) 17 rfl
       have q18:ρ 18=.slice AP0 d0.length cP0:=hS 5 (by decide) 18 rfl
       have q22:ρ 22=.int .i64 (nth s1.1 s4):=hS 9 (by decide) 22 rfl
       exact o_v (r_ia slc_s_api_Entry q18 q22 ((HP0.fr (G5.trans (Fr.ext F69o)) sI).now.2 _ (lt_toNat ha74.1 ha74.2)).1 ha74.1 ha74.2) (want_t (t:=17) rfl q17 hc16) rfl rfl (eo_nil ⟨rfl,rfl,_,rfl,Fr.refl _ _,rfl⟩)
      ·intro ρ w69o F69o hS hρ
       have G120:Fr L w4r w69o:=Fr.ext F69o
       have q17:ρ 17=.bool (decide (s4<(s1.1.length:Int))):=hS 4 (by decide) 17 rfl
       have q23:ρ 23=.pointer (some (elemA AP0 kEnt.n (nth s1.1 s4).toNat)):=hS 10 (by decide) 23 rfl
       exact o_v (r_lda' agg_api_Entry q23 (elemA_spot _ _ _) (vs:=(cEnt (nth d0 (nth s1.1 s4)) A79 c80 A82 c83)) rfl ((H78.fr G120 sI).now.1)) (want_t (t:=17) rfl q17 hc16) rfl rfl (eo_nil ⟨rfl,rfl,_,rfl,Fr.refl _ _,rfl⟩)
      ·intro ρ w69o F69o hS hρ
       have q0:ρ 0=.slice AP0 d0.length cP0:=hρ 0 (by kernel_rfl)
       have q17:ρ 17=.bool (decide (s4<(s1.1.length:Int))):=hS 4 (by decide) 17 rfl
       exact o_v (r_mov q0) (want_t (t:=17) rfl q17 hc16) rfl rfl (eo_nil ⟨rfl,rfl,_,rfl,Fr.refl _ _,rfl⟩)
      ·intro ρ w69o F69o hS hρ
       have q4:ρ 4=.int .i64 s1.2:=hρ 4 (by kernel_rfl)
       have q17:ρ 17=.bool (decide (s4<(s1.1.length:Int))):=hS 4 (by decide) 17 rfl
       exact o_v (r_mov q4) (want_t (t:=17) rfl q17 hc16) rfl rfl (eo_nil ⟨rfl,rfl,_,rfl,Fr.refl _ _,rfl⟩)
      ·intro ρ w69o F69o hS hρ
       have q17:ρ 17=.bool (decide (s4<(s1.1.length:Int))):=hS 4 (by decide) 17 rfl
       have q25:ρ 25=.slice AP0 d0.length cP0:=hS 12 (by decide) 25 rfl
       have q26:ρ 26=.int .i64 s1.2:=hS 13 (by decide) 26 rfl
       exact o_v (r_ia slc_s_api_Entry q25 q26 ((HP0.fr (G5.trans (Fr.ext F69o)) sI).now.2 _ (lt_toNat ha85.1 ha85.2)).1 ha85.1 ha85.2) (want_t (t:=17) rfl q17 hc16) rfl rfl (eo_nil ⟨rfl,rfl,_,rfl,Fr.refl _ _,rfl⟩)
      ·intro ρ w69o F69o hS hρ
       have G132:Fr L w4r w69o:=Fr.ext F69o
       have q17:ρ 17=.bool (decide (s4<(s1.1.length:Int))):=hS 4 (by decide) 17 rfl
       have q27:ρ 27=.pointer (some (elemA AP0 kEnt.n s1.2.toNat)):=hS 14 (by decide) 27 rfl
       exact o_v (r_lda' agg_api_Entry q27 (elemA_spot _ _ _) (vs:=(cEnt (nth d0 s1.2) A90 c91 A93 c94)) rfl ((H89.fr G132 sI).now.1)) (want_t (t:=17) rfl q17 hc16) rfl rfl (eo_nil ⟨rfl,rfl,_,rfl,Fr.refl _ _,rfl⟩)
      ·intro ρ w69o F69o hS hρ
       have E133:=E4r.trans F69o
       have G138:Fr L w4r w69o:=Fr.ext F69o
       have q17:ρ 17=.bool (decide (s4<(s1.1.length:Int))):=hS 4 (by decide) 17 rfl
       have q24:ρ 24=.agg (cEnt (nth d0 (nth s1.1 s4)) A79 c80 A82 c83).toArray:=hS 11 (by decide) 24 rfl
       have q28:ρ 28=.agg (cEnt (nth d0 s1.2) A90 c91 A93 c94).toArray:=hS 15 (by decide) 28 rfl
       refine o_call cf_ref07_Less (by simp only [List.map,ev,q24,q28] <;> rfl) (ref07_Less_c (nth d0 (nth s1.1 s4)) (kEnt_mk (d:=(nth d0 (nth s1.1 s4))) (H81.fr G138 sI) (H84.fr G138 sI)) (nth d0 s1.2) (kEnt_mk (d:=(nth d0 s1.2)) (H92.fr G138 sI) (H95.fr G138 sI)) (hL.fr E133) (refLess_ev (nth d0 (nth s1.1 s4)) (nth d0 s1.2))) (want_t (t:=17) rfl q17 hc16) rfl ?_
       rintro _ w' ⟨F,rfl⟩
       exact eo_nil ⟨rfl,rfl,_,rfl,F,rfl⟩
      ·intro ρ w69o F69o hS hρ
       have q17:ρ 17=.bool (decide (s4<(s1.1.length:Int))):=hS 4 (by decide) 17 rfl
       have q29:ρ 29=.bool (lessE (nth d0 (nth s1.1 s4)) (nth d0 s1.2)):=hS 16 (by decide) 29 rfl
       exact o_q (r_pickT q17 hc16 q29) ⟨Fr.refl _ _,rfl⟩
     ·intro ρ w69 F69 hS hρ
      have q18:ρ 18=.slice AP0 d0.length cP0:=hS 5 18 rfl
      have q19:ρ 19=.slice A1r1 s1.1.length c1r1:=hS 6 19 rfl
      have q20:ρ 20=.int .i64 s4:=hS 7 20 rfl
      have q21:ρ 21=.pointer (some (elemA A1r1 (kI .i64).n s4.toNat)):=hS 8 21 rfl
      have q22:ρ 22=.int .i64 (nth s1.1 s4):=hS 9 22 rfl
      have q23:ρ 23=.pointer (some (elemA AP0 kEnt.n (nth s1.1 s4).toNat)):=hS 10 23 rfl
      have q24:ρ 24=.agg (cEnt (nth d0 (nth s1.1 s4)) A79 c80 A82 c83).toArray:=hS 11 24 rfl
      have q25:ρ 25=.slice AP0 d0.length cP0:=hS 12 25 rfl
      have q26:ρ 26=.int .i64 s1.2:=hS 13 26 rfl
      have q27:ρ 27=.pointer (some (elemA AP0 kEnt.n s1.2.toNat)):=hS 14 27 rfl
      have q28:ρ 28=.agg (cEnt (nth d0 s1.2) A90 c91 A93 c94).toArray:=hS 15 28 rfl
      have q29:ρ 29=.bool (lessE (nth d0 (nth s1.1 s4)) (nth d0 s1.2)):=hS 16 29 rfl
      have q30:ρ 30=.bool (lessE (nth d0 (nth s1.1 s4)) (nth d0 s1.2)):=hS 17 30 rfl
      obtain ⟨ρ',rfl⟩:∃ ρ',ρ=envs (ovr [13,14,15,16,17,18,19,20,21,22,23,24,25,26,27,28,29,30] ρ' _) [(18,.slice AP0 d0.length cP0),(19,.slice A1r1 s1.1.length c1r1),(20,.int .i64 s4),(21,.pointer (some (elemA A1r1 (kI .i64).n s4.toNat))),(22,.int .i64 (nth s1.1 s4)),(23,.pointer (some (elemA AP0 kEnt.n (nth s1.1 s4).toNat))),(24,.agg (cEnt (nth d0 (nth s1.1 s4)) A79 c80 A82 c83).toArray),(25,.slice AP0 d0.length cP0),(26,.int .i64 s1.2),(27,.pointer (some (elemA AP0 kEnt.n s1.2.toNat))),(28,.agg (cEnt (nth d0 s1.2) A90 c91 A93 c94).toArray),(29,.bool (lessE (nth d0 (nth s1.1 s4)) (nth d0 s1.2))),(30,.bool (lessE (nth d0 (nth s1.1 s4)) (nth d0 s1.2)))]:=⟨ρ,ovr_self hρ ⟨q18,q19,q20,q21,q22,q23,q24,q25,q26,q27,q28,q29,q30,trivial⟩⟩
      have E139:=E4r.trans F69
      refine sq_n ?_
      refine ec_cond rfl (fun hc145=>?_) (fun hc145=>?_)
      ·replace h:=h.1 hc145
       refine ec_skip ?_
       refine sq_n ?_
       refine ec_block ?_
       refine ec_region ?_
       refine o_w (v:=.int .i64 s4) (r_mov rfl) ?_
       refine o_w (v:=.int .i64 (IntKind.i64.wrap (s4 + (1:Int)))) (r_int rfl rfl rfl) ?_
       refine o_w (v:=.int .i64 (IntKind.i64.wrap (s4 + (1:Int)))) (r_asg rfl) ?_
       refine eo_nil ?_
       refine blk_n ?_
       subst h
       exact lq_n ⟨_,envs_self ⟨rfl,rfl,rfl,rfl,trivial⟩,rfl,(F4r.trans (Fr.ext F69)),E139⟩
      ·replace h:=h.2 hc145
       refine ec_exit ?_
       refine sq_exit ?_
       subst h
       exact lq_x ⟨_,envs_self ⟨rfl,rfl,rfl,rfl,trivial⟩,rfl,(F4r.trans (Fr.ext F69)),E139⟩
    ·replace h:=h.2 hc16
     refine ec_any0 (by kernel_rfl) [[],[],[1],[0,1,2],[0,1,2,3],[0,1,2,3,4],[0,1,2,3,4],[0,1,2,3,4],[0,1,2,3,4,6,7],[0,1,2,3,4,6,7,8],[0,1,2,3,4,5,6,7,8,9],[0,1,2,3,4,5,6,7,8,9,10],[0,1,2,3,4],[0,1,2,3,4],[0,1,2,3,4,12,13],[0,1,2,3,4,12,13,14],[0,1,2,3,4,5,6,7,8,9,10,11,12,13,14,15],[0,1,2,3,4,5,6,7,8,9,10,11,12,13,14,15,16]] [13,14,15,16,17,18,19,20,21,22,23,24,25,26,27,28,29,30] [fun v _=>v=(.int .i64 s4:Value),fun v _=>v=(.slice A1r1 s1.1.length c1r1:Value),fun v _=>v=(.int .i64 (s1.1.length:Int):Value),fun v _=>v=(.bool (decide (s4<(s1.1.length:Int))):Value),fun v _=>v=(.bool (decide (s4<(s1.1.length:Int))):Value),fun v _=>v=((undef:Value):Value),fun v _=>v=((undef:Value):Value),fun v _=>v=((undef:Value):Value),fun v _=>v=((undef:Value):Value),fun v _=>v=((undef:Value):Value),fun v _=>v=((undef:Value):Value),fun v _=>v=((undef:Value):Value),fun v _=>v=((undef:Value):Value),fun v _=>v=((undef:Value):Value),fun v _=>v=((undef:Value):Value),fun v _=>v=((undef:Value):Value),fun v _=>v=((undef:Value):Value),fun v _=>v=(.bool false:Value)] (by kernel_rfl) ⟨fun _ _ _ _ _ h=>h,fun _ _ _ _ _ h=>h,fun _ _ _ _ _ h=>h,fun _ _ _ _ _ h=>h,fun _ _ _ _ _ h=>h,fun _ _ _ _ _ h=>h,fun _ _ _ _ _ h=>h,fun _ _ _ _ _ h=>h,fun _ _ _ _ _ h=>h,fun _ _ _ _ _ h=>h,fun _ _ _ _ _ h=>h,fun _ _ _ _ _ h=>h,fun _ _ _ _ _ h=>h,fun _ _ _ _ _ h=>h,fun _ _ _ _ _ h=>h,fun _ _ _ _ _ h=>h,fun _ _ _ _ _ h=>h,fun _ _ _ _ _ h=>h,trivial⟩ ?_ ?_
     ·refine ⟨?_,?_,?_,?_,?_,?_,?_,?_,?_,?_,?_,?_,?_,?_,?_,?_,?_,?_,trivial⟩
      ·intro ρ w146o F146o hS hρ
       have q5:ρ 5=.int .i64 s4:=hρ 5 (by kernel_rfl)
       exact o_q (r_mov q5) ⟨Fr.refl _ _,rfl⟩
      ·intro ρ w146o F146o hS hρ
       have q3:ρ 3=.slice A1r1 s1.1.length c1r1:=hρ 3 (by kernel_rfl)
       exact o_q (r_mov q3) ⟨Fr.refl _ _,rfl⟩
      ·intro ρ w146o F146o hS hρ
       have q14:ρ 14=.slice A1r1 s1.1.length c1r1:=hS 1 (by decide) 14 rfl
       exact o_q (r_len_slc un_s_int q14) ⟨Fr.refl _ _,rfl⟩
      ·intro ρ w146o F146o hS hρ
       have q13:ρ 13=.int .i64 s4:=hS 0 (by decide) 13 rfl
       have q15:ρ 15=.int .i64 (s1.1.length:Int):=hS 2 (by decide) 15 rfl
       exact o_q (r_int q13 q15 rfl) ⟨Fr.refl _ _,rfl⟩
      ·intro ρ w146o F146o hS hρ
       have q16:ρ 16=.bool (decide (s4<(s1.1.length:Int))):=hS 3 (by decide) 16 rfl
       exact o_q (r_mov q16) ⟨Fr.refl _ _,rfl⟩
      ·intro ρ w146o F146o hS hρ
       have q17:ρ 17=.bool (decide (s4<(s1.1.length:Int))):=hS 4 (by decide) 17 rfl
       exact o_no (want_f (t:=17) rfl q17 hc16) rfl (eo_nil ⟨rfl,rfl,undef,rfl,Fr.refl _ _,rfl⟩)
      ·intro ρ w146o F146o hS hρ
       have q17:ρ 17=.bool (decide (s4<(s1.1.length:Int))):=hS 4 (by decide) 17 rfl
       exact o_no (want_f (t:=17) rfl q17 hc16) rfl (eo_nil ⟨rfl,rfl,undef,rfl,Fr.refl _ _,rfl⟩)
      ·intro ρ w146o F146o hS hρ
       have q17:ρ 17=.bool (decide (s4<(s1.1.length:Int))):=hS 4 (by decide) 17 rfl
       exact o_no (want_f (t:=17) rfl q17 hc16) rfl (eo_nil ⟨rfl,rfl,undef,rfl,Fr.refl _ _,rfl⟩)
      ·intro ρ w146o F146o hS hρ
       have q17:ρ 17=.bool (decide (s4<(s1.1.length:Int))):=hS 4 (by decide) 17 rfl
       exact o_no (want_f (t:=17) rfl q17 hc16) rfl (eo_nil ⟨rfl,rfl,undef,rfl,Fr.refl _ _,rfl⟩)
      ·intro ρ w146o F146o hS hρ
       have q17:ρ 17=.bool (decide (s4<(s1.1.length:Int))):=hS 4 (by decide) 17 rfl
       exact o_no (want_f (t:=17) rfl q17 hc16) rfl (eo_nil ⟨rfl,rfl,undef,rfl,Fr.refl _ _,rfl⟩)
      ·intro ρ w146o F146o hS hρ
       have q17:ρ 17=.bool (decide (s4<(s1.1.length:Int))):=hS 4 (by decide) 17 rfl
       exact o_no (want_f (t:=17) rfl q17 hc16) rfl (eo_nil ⟨rfl,rfl,undef,rfl,Fr.refl _ _,rfl⟩)
      ·intro ρ w146o F146o hS hρ
       have q17:ρ 17=.bool (decide (s4<(s1.1.length:Int))):=hS 4 (by decide) 17 rfl
       exact o_no (want_f (t:=17) rfl q17 hc16) rfl (eo_nil ⟨rfl,rfl,undef,rfl,Fr.refl _ _,rfl⟩)
      ·intro ρ w146o F146o hS hρ
       have q17:ρ 17=.bool (decide (s4<(s1.1.length:Int))):=hS 4 (by decide) 17 rfl
       exact o_no (want_f (t:=17) rfl q17 hc16) rfl (eo_nil ⟨rfl,rfl,undef,rfl,Fr.refl _ _,rfl⟩)
      ·intro ρ w146o F146o hS hρ
       have q17:ρ 17=.bool (decide (s4<(s1.1.length:Int))):=hS 4 (by decide) 17 rfl
       exact o_no (want_f (t:=17) rfl q17 hc16) rfl (eo_nil ⟨rfl,rfl,undef,rfl,Fr.refl _ _,rfl⟩)
      ·intro ρ w146o F146o hS hρ
       have q17:ρ 17=.bool (decide (s4<(s1.1.length:Int))):=hS 4 (by decide) 17 rfl
       exact o_no (want_f (t:=17) rfl q17 hc16) rfl (eo_nil ⟨rfl,rfl,undef,rfl,Fr.refl _ _,rfl⟩)
      ·intro ρ w146o F146o hS hρ
       have q17:ρ 17=.bool (decide (s4<(s1.1.length:Int))):=hS 4 (by decide) 17 rfl
       exact o_no (want_f (t:=17) rfl q17 hc16) rfl (eo_nil ⟨rfl,rfl,undef,rfl,Fr.refl _ _,rfl⟩)
      ·intro ρ w146o F146o hS hρ
       have q17:ρ 17=.bool (decide (s4<(s1.1.length:Int))):=hS 4 (by decide) 17 rfl
       exact o_no (want_f (t:=17) rfl q17 hc16) rfl (eo_nil ⟨rfl,rfl,undef,rfl,Fr.refl _ _,rfl⟩)
      ·intro ρ w146o F146o hS hρ
       have q17:ρ 17=.bool (decide (s4<(s1.1.length:Int))):=hS 4 (by decide) 17 rfl
       exact o_q (r_pickF q17 hc16 rfl) ⟨Fr.refl _ _,rfl⟩
     ·intro ρ w146 F146 hS hρ
      have q30:ρ 30=.bool false:=hS 17 30 rfl
      obtain ⟨ρ',rfl⟩:∃ ρ',ρ=envs (ovr [13,14,15,16,17,18,19,20,21,22,23,24,25,26,27,28,29,30] ρ' _) [(30,.bool false)]:=⟨ρ,ovr_self hρ ⟨q30,trivial⟩⟩
      have E147:=E4r.trans F146
      refine sq_n ?_
      refine ec_condF rfl rfl ?_
      refine ec_exit ?_
      refine sq_exit ?_
      subst h
      exact lq_x ⟨_,envs_self ⟨rfl,rfl,rfl,rfl,trivial⟩,rfl,(F4r.trans (Fr.ext F146)),E147⟩
   ·exact ⟨_,envs_self ⟨rfl,rfl,rfl,rfl,trivial⟩,rfl,(Fr.refl _ _),E1r⟩
   ·rintro ρ4e ds4e w4e ⟨ρ4e,rfl,rfl,F4e,E4e⟩
    have G153:Fr L w1r w4e:=(Fr.refl _ _).stp F4e (fun _ h=>.inl h)
    have G154:Fr L w w4e:=F1r.stp F4e (fun _ h=>.inl h)
    refine blk_hit ?_
    refine sq_n ?_
    refine ec_seq ?_
    refine ec_region ?_
    refine o_w (v:=.slice none ([]:List Int).length 0) (r_asg rfl) ?_
    refine eo_nil_sq ?_
    refine ec_seq ?_
    refine ec_region ?_
    refine o_w (v:=.slice none ([]:List Int).length 0) (r_mov rfl) ?_
    refine o_w (v:=.slice A1r1 s1.1.length c1r1) (r_mov rfl) ?_
    refine o_w (v:=.int .i64 x4) (r_mov rfl) ?_
    obtain ⟨ha155,h⟩:=h
    have H156:=Stb.cutL (H1r1.fr G153 sI) ha155.1 ha155.2.1 ha155.2.2
    refine o_w (v:=.slice (slA A1r1 c1r1 (0:Int).toNat (kI .i64).n) (cutL s1.1 (0:Int) x4).length (c1r1 - (0:Int).toNat)) (r_sl_slc slc_s_int rfl rfl rfl ⟨_,rfl⟩ ha155.1 ha155.2.1 ha155.2.2 (H1r1.fr G153 sI).now.1) ?_
    have lo157:w.heap.size≤w4e.heap.size:=E4e.size
    have O157:=OwnS.nil (k:=(kI .i64)) (e:=3) (by decide) (hL.fr E4e)
    obtain ⟨ha159,h⟩:=h
    refine o_appsl slc_s_int rfl rfl kI_one rfl O157 rfl (H156.up (Fr.refl L _) sI (upo (fun m hm=>by cases hm) (fun _ h=>.inl h))) ha159 rfl rfl ?_
    intro v158 w158 F158 O158 N158
    have P161:∀ m∈own v158,m∈L∨w1r.heap.size≤m:=fun m hm=>(N158 m hm).elim (fun h=>(show ∀ m∈own (.slice none 0 0),m∈L∨w1r.heap.size≤m from (fun m hm=>by cases hm)) m h) (fun h=>.inr (Nat.le_trans (G153.size) h))
    have P162:∀ m∈own v158,m∈L∨w.heap.size≤m:=fun m hm=>(N158 m hm).elim (fun h=>(show ∀ m∈own (.slice none 0 0),m∈L∨w.heap.size≤m from (fun m hm=>by cases hm)) m h) (fun h=>.inr (Nat.le_trans (G154.size) h))
    have E164:=Ext.st E4e F158 (fun m hm=>Nat.le_trans lo157 (O157.lo m hm))
    have G166:Fr L w1r w158:=G153.stp F158 (fun m hm=>by cases hm)
    have G167:Fr L w w158:=G154.stp F158 (fun m hm=>by cases hm)
    refine o_w (v:=v158) (r_asg rfl) ?_
    refine eo_nil_sq ?_
    refine ec_seq ?_
    refine ec_region ?_
    refine o_w (v:=v158) (r_mov rfl) ?_
    refine o_w (v:=.int .i64 s1.2) (r_mov rfl) ?_
    refine o_bslice slc_s_int rfl (vs:=[.int .i64 s1.2]) rfl rfl rfl (cs:=[.int .i64 s1.2]) rfl rfl rfl rfl ?_
    intro b169 w169 e169 F169 B169
    have N169:=nin ((hL.fr E164).own O158) e169
    have S169:=B169.stb N169
    have E170:=E164.trans F169
    obtain ⟨ha177,h⟩:=h
    refine o_app slc_s_int rfl rfl rfl (O158.ex F169) rfl S169.now (ys:=([s1.2]:List Int)) rfl rfl rfl (rowd1 (cs:=[.int .i64 s1.2]) (fun _ _=>rfl) rfl) ha177 rfl rfl ?_
    intro v176 w176 F176 O176 N176
    have P179:∀ m∈own v176,m∈L∨w1r.heap.size≤m:=fun m hm=>(N176 m hm).elim (fun h=>(show ∀ m∈own v158,m∈L∨w1r.heap.size≤m from P161) m h) (fun h=>.inr (Nat.le_trans ((G166.trans (Fr.ext F169)).size) h))
    have P180:∀ m∈own v176,m∈L∨w.heap.size≤m:=fun m hm=>(N176 m hm).elim (fun h=>(show ∀ m∈own v158,m∈L∨w.heap.size≤m from P162) m h) (fun h=>.inr (Nat.le_trans ((G167.trans (Fr.ext F169)).size) h))
    have E183:=Ext.st E170 F176 (fun m hm=>Nat.le_trans lo157 ((O158.ex F169).lo m hm))
    have G185:Fr L w1r w176:=(G166.trans (Fr.ext F169)).stp F176 P161
    have G186:Fr L w w176:=(G167.trans (Fr.ext F169)).stp F176 P162
    refine o_w (v:=v176) (r_asg rfl) ?_
    refine eo_nil_sq ?_
    refine ec_seq ?_
    refine ec_region ?_
    refine o_w (v:=v176) (r_mov rfl) ?_
    refine o_w (v:=.slice A1r1 s1.1.length c1r1) (r_mov rfl) ?_
    refine o_w (v:=.int .i64 x4) (r_mov rfl) ?_
    obtain ⟨ha189,h⟩:=h
    have H190:=Stb.cutL (H1r1.up G185 sI (upo P179 (fun _ h=>.inl h))) ha189.1 ha189.2.1 ha189.2.2
    refine o_w (v:=.slice (slA A1r1 c1r1 x4.toNat (kI .i64).n) (cutL s1.1 x4 (s1.1.length:Int)).length (c1r1 - x4.toNat)) (r_sl_slc slc_s_int rfl rfl ⟨_,rfl⟩ rfl ha189.1 ha189.2.1 ha189.2.2 (H1r1.fr G185 sI).now.1) ?_
    obtain ⟨ha192,h⟩:=h
    refine o_appsl slc_s_int rfl rfl kI_one rfl O176 rfl H190 ha192 rfl rfl ?_
    intro v191 w191 F191 O191 N191
    have E199:=Ext.st E183 F191 (fun m hm=>Nat.le_trans lo157 (O176.lo m hm))
    have G202:Fr L w w191:=G186.stp F191 P180
    refine o_w (v:=v191) (r_asg rfl) ?_
    refine eo_nil_sq ?_
    refine ec_region ?_
    refine o_w (v:=v191) (r_mov rfl) ?_
    refine o_w (v:=v191) (r_asg rfl) ?_
    refine eo_nil ?_
    refine blk_n ?_
    refine sq_n ?_
    refine ec_region ?_
    refine o_w (v:=.int .i64 s1.2) (r_mov rfl) ?_
    refine o_w (v:=.int .i64 (IntKind.i64.wrap (s1.2 + (1:Int)))) (r_int rfl rfl rfl) ?_
    refine o_w (v:=.int .i64 (IntKind.i64.wrap (s1.2 + (1:Int)))) (r_asg rfl) ?_
    refine eo_nil ?_
    obtain ⟨A206,c207,eA206,H208⟩:=O191.still
    subst eA206
    have Zw191_209:=Fr.refl L w191
    subst h
    exact lq_n ⟨_,A206,c207,envs_self ⟨rfl,rfl,rfl,trivial⟩,rfl,G202,E199,(H208.fr Zw191_209 sI)⟩
  ·replace h:=h.2 hc3
   refine ec_exit ?_
   refine sq_exit ?_
   subst h
   exact lq_x ⟨_,A1r1,c1r1,envs_self ⟨rfl,rfl,rfl,trivial⟩,rfl,F1r,E1r,H1r1⟩
 ·exact ⟨_,none,0,envs_self ⟨rfl,rfl,rfl,trivial⟩,rfl,(Fr.refl _ _),(Fr.refl _ _),stb_nil⟩
 ·rintro ρ1e ds1e w1e ⟨ρ1e,A1e1,c1e1,rfl,rfl,F1e,E1e,H1e1⟩
  refine blk_hit ?_
  refine sq_n ?_
  refine ec_seq ?_
  refine ec_region ?_
  refine o_w (v:=.slice A1e1 x1.1.length c1e1) (r_mov rfl) ?_
  refine o_w (v:=.slice A1e1 x1.1.length c1e1) (r_asg rfl) ?_
  refine eo_nil_sq ?_
  refine ec_ret ?_
  subst h
  exact (end1 rfl ⟨_,rfl,E1e,_,_,rfl,H1e1⟩)
def ref08_slots_b22 (d0:(List Ent)) (s1:Int) (s22:Int) (z22:(Int) ⊕ ((Int) ⊕ (Bool))):Prop :=
 ((decide (s22<s1))=true→((0≤s1∧s1<(d0.length:Int))∧((0≤s22∧s22<(d0.length:Int))∧(((nameE (nth d0 s1) (nth d0 s22))=true→(z22=.inr (.inr false)))∧((nameE (nth d0 s1) (nth d0 s22))=false→(z22=.inl (IntKind.i64.wrap (s22 + (1:Int)))))))))∧((decide (s22<s1))=false→(z22=.inr (.inl s22)))
def ref08_slots_b1 (d0:(List Ent)) (s1:Int) (z1:(Int) ⊕ ((Int) ⊕ (Bool))):Prop :=
 ((decide (s1<(d0.length:Int)))=true→((0≤s1∧s1<(d0.length:Int))∧((sm (nth d0 s1).val)∧(((!(okE (nth d0 s1)))=true→(z1=.inr (.inr false)))∧((!(okE (nth d0 s1)))=false→(∃ x22,LoopR (ref08_slots_b22 d0 s1) (0:Int) x22∧(∀ sx22,x22=.inl sx22→(z1=.inl (IntKind.i64.wrap (s1 + (1:Int)))))∧(∀ y22,x22=.inr y22→(z1=.inr (.inr y22)))))))))∧((decide (s1<(d0.length:Int)))=false→(z1=.inr (.inl s1)))
def ref08_slots_raw (d0:(List Ent)) (y:Bool):Prop :=
 ∃ x1,LoopR (ref08_slots_b1 d0) (0:Int) x1∧(∀ sx1,x1=.inl sx1→(y=true))∧(∀ y1,x1=.inr y1→(y=y1))
set_option maxRecDepth 20000 in
set_option maxHeartbeats 4000000 in
theorem ref08_slots_c {L:List Nat} {w:World} {AP0:Option Addr} {cP0:Nat} (d0:(List Ent)) (HP0:Stb L w (fun w=>SlC kEnt w AP0 cP0 d0)) (hL:Lt L w) {y:Bool} (h:ref08_slots_raw d0 y) :
  Calls Tryz.prog 78 [.slice AP0 d0.length cP0].toArray w (Ret fun v w'=>Ext w w'∧v=.bool y):=by
 unfold ref08_slots_raw at h
 refine calls_ec Tryz.func78 rfl rfl rfl ?_
 refine ec_seq ?_
 refine ec_region ?_
 refine o_w (v:=.bool false) (r_asg rfl) ?_
 refine eo_nil_sq ?_
 iterate 2 refine ec_seq ?_
 refine ec_region ?_
 refine o_w (v:=.int .i64 0) (r_asg rfl) ?_
 refine eo_nil_sq ?_
 refine ec_block ?_
 obtain ⟨x1,hl1,h⟩:=h
 refine ec_loopER 0 (I:=(fun (s1:Int) ρ ds w'=>∃ (ρ':Env),ρ=envs ρ' [(3,.int .i64 s1),(0,.slice AP0 d0.length cP0)]∧ds=[]∧Fr L w w'∧Ext w w')) (J:=(fun (y':Bool) ρ ds wz=>bodyE Tryz.prog #[.tmp 2] (Ret fun v w'=>Ext w w'∧v=.bool y') .ret ρ ds wz)) ?_ hl1 ?_ ?_ ?_
 ·intro s1 z1 ρ1 ds1 w1r hI1 hb1
  obtain ⟨ρ1r,rfl,rfl,F1r,E1r⟩:=hI1
  have h:=hb1
  unfold ref08_slots_b1 at h
  have G2:Fr L w w1r:=(Fr.refl _ _).stp F1r (fun _ h=>.inl h)
  iterate 2 refine ec_seq ?_
  refine ec_region ?_
  refine o_w (v:=.int .i64 s1) (r_mov rfl) ?_
  refine o_w (v:=.slice AP0 d0.length cP0) (r_mov rfl) ?_
  refine o_w (v:=.int .i64 (d0.length:Int)) (r_len_slc un_s_api_Entry rfl) ?_
  refine o_w (v:=.bool (decide (s1<(d0.length:Int)))) (r_int rfl rfl rfl) ?_
  refine eo_nil_sq ?_
  refine ec_cond rfl (fun hc3=>?_) (fun hc3=>?_)
  ·replace h:=h.1 hc3
   refine ec_skip ?_
   refine sq_n ?_
   refine ec_seq ?_
   refine ec_block ?_
   iterate 2 refine ec_seq ?_
   refine ec_region ?_
   refine o_w (v:=.slice AP0 d0.length cP0) (r_mov rfl) ?_
   refine o_w (v:=.int .i64 s1) (r_mov rfl) ?_
   obtain ⟨ha4,h⟩:=h
   obtain ⟨cs5,l7,H6⟩:=Stb.elem (by decide) (HP0.fr G2 sI) s1 ha4.1 ha4.2
   obtain ⟨A9,c10,A12,c13,rfl,H8,H11,H14⟩:=kEnt_open2 H6
   refine o_w (v:=.pointer (some (elemA AP0 kEnt.n s1.toNat))) (r_ia slc_s_api_Entry rfl rfl ((HP0.fr G2 sI).now.2 _ (lt_toNat ha4.1 ha4.2)).1 ha4.1 ha4.2) ?_
   refine o_w (v:=.agg (cEnt (nth d0 s1) A9 c10 A12 c13).toArray) (r_lda' agg_api_Entry rfl (elemA_spot _ _ _) (vs:=(cEnt (nth d0 s1) A9 c10 A12 c13)) rfl (H8.now.1)) ?_
   obtain ⟨ha16,h⟩:=h
   refine o_call cf_ref07_Check rfl (ref07_Check_c (nth d0 s1) (kEnt_mk (d:=(nth d0 s1)) H11 H14) (hL.fr E1r) (refCheckE_ev (nth d0 s1) ha16)) rfl rfl ?_
   rintro _ w15 ⟨F15,rfl⟩
   have E17:=E1r.trans F15
   refine o_w (v:=.bool (!(okE (nth d0 s1)))) (r_not rfl) ?_
   refine eo_nil_sq ?_
   refine ec_cond rfl (fun hc21=>?_) (fun hc21=>?_)
   ·replace h:=h.1 hc21
    refine ec_seq ?_
    refine ec_region ?_
    refine o_w (v:=.bool false) (r_asg rfl) ?_
    refine eo_nil_sq ?_
    refine ec_ret ?_
    refine sq_ret ?_
    refine blk_ret ?_
    refine sq_ret ?_
    subst h
    exact lqR_r (end1 rfl ⟨_,rfl,E17,rfl⟩)
   ·replace h:=h.2 hc21
    refine ec_skip ?_
    refine sq_n ?_
    refine ec_seq ?_
    refine ec_region ?_
    refine o_w (v:=.int .i64 0) (r_asg rfl) ?_
    refine eo_nil_sq ?_
    refine ec_block ?_
    obtain ⟨x22,hl22,h⟩:=h
    refine ec_loopER 2 (I:=(fun (s22:Int) ρ ds w'=>∃ (ρ':Env),ρ=envs ρ' [(4,.int .i64 s22),(0,.slice AP0 d0.length cP0),(3,.int .i64 s1)]∧ds=[]∧Fr L w15 w'∧Ext w w')) (J:=(fun (y':Bool) ρ ds wz=>bodyE Tryz.prog #[.tmp 2] (Ret fun v w'=>Ext w w'∧v=.bool y') .ret ρ ds wz)) ?_ hl22 ?_ ?_ ?_
    ·intro s22 z22 ρ22 ds22 w22r hI22 hb22
     obtain ⟨ρ22r,rfl,rfl,F22r,E22r⟩:=hI22
     have h:=hb22
     unfold ref08_slots_b22 at h
     have G23:Fr L w w22r:=(G2.trans (Fr.ext F15)).stp F22r (fun _ h=>.inl h)
     iterate 2 refine ec_seq ?_
     refine ec_region ?_
     refine o_w (v:=.int .i64 s22) (r_mov rfl) ?_
     refine o_w (v:=.int .i64 s1) (r_mov rfl) ?_
     refine o_w (v:=.bool (decide (s22<s1))) (r_int rfl rfl rfl) ?_
     refine eo_nil_sq ?_
     refine ec_cond rfl (fun hc26=>?_) (fun hc26=>?_)
     ·replace h:=h.1 hc26
      refine ec_skip ?_
      refine sq_n ?_
      refine ec_seq ?_
      refine ec_block ?_
      refine ec_seq ?_
      obtain ⟨ha50,h⟩:=h
      obtain ⟨cs51,l53,H52⟩:=Stb.elem (by decide) (HP0.fr G23 sI) s1 ha50.1 ha50.2
      obtain ⟨A55,c56,A58,c59,rfl,H54,H57,H60⟩:=kEnt_open2 H52
      obtain ⟨ha61,h⟩:=h
      obtain ⟨cs62,l64,H63⟩:=Stb.elem (by decide) (HP0.fr G23 sI) s22 ha61.1 ha61.2
      obtain ⟨A66,c67,A69,c70,rfl,H65,H68,H71⟩:=kEnt_open2 H63
      refine ec_any0 (by kernel_rfl) [[],[],[0,1],[0,1,2],[],[],[4,5],[4,5,6],[0,1,2,3,4,5,6,7]] [22,23,24,25,26,27,28,29,30] [fun v _=>v=(.slice AP0 d0.length cP0:Value),fun v _=>v=(.int .i64 s1:Value),fun v _=>v=(.pointer (some (elemA AP0 kEnt.n s1.toNat)):Value),fun v _=>v=(.agg (cEnt (nth d0 s1) A55 c56 A58 c59).toArray:Value),fun v _=>v=(.slice AP0 d0.length cP0:Value),fun v _=>v=(.int .i64 s22:Value),fun v _=>v=(.pointer (some (elemA AP0 kEnt.n s22.toNat)):Value),fun v _=>v=(.agg (cEnt (nth d0 s22) A66 c67 A69 c70).toArray:Value),fun v _=>v=(.bool (nameE (nth d0 s1) (nth d0 s22)):Value)] (by kernel_rfl) ⟨fun _ _ _ _ _ h=>h,fun _ _ _ _ _ h=>h,fun _ _ _ _ _ h=>h,fun _ _ _ _ _ h=>h,fun _ _ _ _ _ h=>h,fun _ _ _ _ _ h=>h,fun _ _ _ _ _ h=>h,fun _ _ _ _ _ h=>h,fun _ _ _ _ _ h=>h,trivial⟩ ?_ ?_
      ·refine ⟨?_,?_,?_,?_,?_,?_,?_,?_,?_,trivial⟩
       ·intro ρ w49o F49o hS hρ
        have q0:ρ 0=.slice AP0 d0.length cP0:=hρ 0 (by kernel_rfl)
        exact o_q (r_mov q0) ⟨Fr.refl _ _,rfl⟩
       ·intro ρ w49o F49o hS hρ
        have q3:ρ 3=.int .i64 s1:=hρ 3 (by kernel_rfl)
        exact o_q (r_mov q3) ⟨Fr.refl _ _,rfl⟩
       ·intro ρ w49o F49o hS hρ
        have q22:ρ 22=.slice AP0 d0.length cP0:=hS 0 (by decide) 22 rfl
        have q23:ρ 23=.int .i64 s1:=hS 1 (by decide) 23 rfl
        exact o_q (r_ia slc_s_api_Entry q22 q23 ((HP0.fr (G23.trans (Fr.ext F49o)) sI).now.2 _ (lt_toNat ha50.1 ha50.2)).1 ha50.1 ha50.2) ⟨Fr.refl _ _,rfl⟩
       ·intro ρ w49o F49o hS hρ
        have G84:Fr L w22r w49o:=Fr.ext F49o
        have q24:ρ 24=.pointer (some (elemA AP0 kEnt.n s1.toNat)):=hS 2 (by decide) 24 rfl
        exact o_q (r_lda' agg_api_Entry q24 (elemA_spot _ _ _) (vs:=(cEnt (nth d0 s1) A55 c56 A58 c59)) rfl ((H54.fr G84 sI).now.1)) ⟨Fr.refl _ _,rfl⟩
       ·intro ρ w49o F49o hS hρ
        have q0:ρ 0=.slice AP0 d0.length cP0:=hρ 0 (by kernel_rfl)
        exact o_q (r_mov q0) ⟨Fr.refl _ _,rfl⟩
       ·intro ρ w49o F49o hS hρ
        have q4:ρ 4=.int .i64 s22:=hρ 4 (by kernel_rfl)
        exact o_q (r_mov q4) ⟨Fr.refl _ _,rfl⟩
       ·intro ρ w49o F49o hS hρ
        have q26:ρ 26=.slice AP0 d0.length cP0:=hS 4 (by decide) 26 rfl
        have q27:ρ 27=.int .i64 s22:=hS 5 (by decide) 27 rfl
        exact o_q (r_ia slc_s_api_Entry q26 q27 ((HP0.fr (G23.trans (Fr.ext F49o)) sI).now.2 _ (lt_toNat ha61.1 ha61.2)).1 ha61.1 ha61.2) ⟨Fr.refl _ _,rfl⟩
       ·intro ρ w49o F49o hS hρ
        have G96:Fr L w22r w49o:=Fr.ext F49o
        have q28:ρ 28=.pointer (some (elemA AP0 kEnt.n s22.toNat)):=hS 6 (by decide) 28 rfl
        exact o_q (r_lda' agg_api_Entry q28 (elemA_spot _ _ _) (vs:=(cEnt (nth d0 s22) A66 c67 A69 c70)) rfl ((H65.fr G96 sI).now.1)) ⟨Fr.refl _ _,rfl⟩
       ·intro ρ w49o F49o hS hρ
        have E97:=E22r.trans F49o
        have G102:Fr L w22r w49o:=Fr.ext F49o
        have q25:ρ 25=.agg (cEnt (nth d0 s1) A55 c56 A58 c59).toArray:=hS 3 (by decide) 25 rfl
        have q29:ρ 29=.agg (cEnt (nth d0 s22) A66 c67 A69 c70).toArray:=hS 7 (by decide) 29 rfl
        refine o_call cf_ref07_Name (by simp only [List.map,ev,q25,q29] <;> rfl) (ref07_Name_c (nth d0 s1) (kEnt_mk (d:=(nth d0 s1)) (H57.fr G102 sI) (H60.fr G102 sI)) (nth d0 s22) (kEnt_mk (d:=(nth d0 s22)) (H68.fr G102 sI) (H71.fr G102 sI)) (hL.fr E97) (refName_ev (nth d0 s1) (nth d0 s22))) rfl rfl ?_
        rintro _ w' ⟨F,rfl⟩
        exact eo_nil ⟨rfl,rfl,_,rfl,F,rfl⟩
      ·intro ρ w49 F49 hS hρ
       have q30:ρ 30=.bool (nameE (nth d0 s1) (nth d0 s22)):=hS 8 30 rfl
       obtain ⟨ρ',rfl⟩:∃ ρ',ρ=envs (ovr [22,23,24,25,26,27,28,29,30] ρ' _) [(30,.bool (nameE (nth d0 s1) (nth d0 s22)))]:=⟨ρ,ovr_self hρ ⟨q30,trivial⟩⟩
       have E103:=E22r.trans F49
       refine sq_n ?_
       refine ec_cond rfl (fun hc109=>?_) (fun hc109=>?_)
       ·replace h:=h.1 hc109
        refine ec_seq ?_
        refine ec_region ?_
        refine o_w (v:=.bool false) (r_asg rfl) ?_
        refine eo_nil_sq ?_
        refine ec_ret ?_
        refine blk_ret ?_
        refine sq_ret ?_
        subst h
        exact lqR_r (end1 rfl ⟨_,rfl,E103,rfl⟩)
       ·replace h:=h.2 hc109
        refine ec_skip ?_
        refine blk_n ?_
        refine sq_n ?_
        refine ec_region ?_
        refine o_w (v:=.int .i64 s22) (r_mov rfl) ?_
        refine o_w (v:=.int .i64 (IntKind.i64.wrap (s22 + (1:Int)))) (r_int rfl rfl rfl) ?_
        refine o_w (v:=.int .i64 (IntKind.i64.wrap (s22 + (1:Int)))) (r_asg rfl) ?_
        refine eo_nil ?_
        subst h
        exact lqR_n ⟨_,envs_self ⟨rfl,rfl,rfl,trivial⟩,rfl,(F22r.trans (Fr.ext F49)),E103⟩
     ·replace h:=h.2 hc26
      refine ec_exit ?_
      refine sq_exit ?_
      subst h
      exact lqR_x ⟨_,envs_self ⟨rfl,rfl,rfl,trivial⟩,rfl,F22r,E22r⟩
    ·exact ⟨_,envs_self ⟨rfl,rfl,rfl,trivial⟩,rfl,(Fr.refl _ _),E17⟩
    ·rintro sx22 rfl ρ22e ds22e w22e ⟨ρ22e,rfl,rfl,F22e,E22e⟩
     replace h:=h.1 _ rfl
     have G111:Fr L w w22e:=(F1r.trans (Fr.ext F15)).stp F22e (fun _ h=>.inl h)
     refine blk_hit ?_
     refine blk_n ?_
     refine sq_n ?_
     refine ec_region ?_
     refine o_w (v:=.int .i64 s1) (r_mov rfl) ?_
     refine o_w (v:=.int .i64 (IntKind.i64.wrap (s1 + (1:Int)))) (r_int rfl rfl rfl) ?_
     refine o_w (v:=.int .i64 (IntKind.i64.wrap (s1 + (1:Int)))) (r_asg rfl) ?_
     refine eo_nil ?_
     subst h
     exact lqR_n ⟨_,envs_self ⟨rfl,rfl,trivial⟩,rfl,G111,E22e⟩
    ·rintro y22 rfl ρ22q ds22q w22q hJ
     have hy:=h.2 _ rfl
     subst hy
     iterate 2 refine blk_ret ?_
     refine sq_ret ?_
     exact lqR_r hJ
  ·replace h:=h.2 hc3
   refine ec_exit ?_
   refine sq_exit ?_
   subst h
   exact lqR_x ⟨_,envs_self ⟨rfl,rfl,trivial⟩,rfl,F1r,E1r⟩
 ·exact ⟨_,envs_self ⟨rfl,rfl,trivial⟩,rfl,(Fr.refl _ _),(Fr.refl _ _)⟩
 ·rintro sx1 rfl ρ1e ds1e w1e ⟨ρ1e,rfl,rfl,F1e,E1e⟩
  replace h:=h.1 _ rfl
  refine blk_hit ?_
  refine sq_n ?_
  refine ec_seq ?_
  refine ec_region ?_
  refine o_w (v:=.bool true) (r_asg rfl) ?_
  refine eo_nil_sq ?_
  refine ec_ret ?_
  subst h
  exact (end1 rfl ⟨_,rfl,E1e,rfl⟩)
 ·rintro y1 rfl ρ1q ds1q w1q hJ
  have hy:=h.2 _ rfl
  subst hy
  refine blk_ret ?_
  refine sq_ret ?_
  exact hJ
end Go.Proofs.YthhjcijhanacnaaGreat
