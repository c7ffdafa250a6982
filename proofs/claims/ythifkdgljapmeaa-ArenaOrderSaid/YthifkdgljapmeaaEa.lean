/- The functions of entry and of its reference: what each comes to. -/
import Derived.Test.YthifkdgljapmeaaCt2
import Derived.Test.YthifkdgljapmeaaSl
namespace Go.Proofs.Ythifkdgljapmeaa
open Go Go.RowKit
set_option linter.unusedVariables false
set_option linter.unusedSimpArgs false
def ref07_Same_raw (d0:Ent) (d1:Ent) (y:Bool):Prop :=
 ((d0.key==d1.key)=true→sm d0.val)∧(y=((d0.key==d1.key)&&(sameV d0.val d1.val)))
set_option maxRecDepth 20000 in
set_option maxHeartbeats 4000000 in
theorem ref07_Same_c {L:List Nat} {w:World} {csP0:List Value} (d0:Ent) (HP0:Stb L w (fun w=>kEnt.r w csP0 d0)) {csP1:List Value} (d1:Ent) (HP1:Stb L w (fun w=>kEnt.r w csP1 d1)) (hL:Lt L w) {y:Bool} (h:ref07_Same_raw d0 d1 y) :
  Calls Try.prog 42 [.agg csP0.toArray,.agg csP1.toArray].toArray w (Ret fun v w'=>Ext w w'∧v=.bool y):=by
 obtain ⟨A1,c2,A4,c5,rfl,H3,H6⟩:=kEnt_open HP0
 obtain ⟨A7,c8,A10,c11,rfl,H9,H12⟩:=kEnt_open HP1
 unfold ref07_Same_raw at h
 refine calls_ec Try.func42 rfl rfl rfl ?_
 refine ec_sr ?_
 refine o_box (cs:=(cEnt d0 A1 c2 A4 c5)) rfl rfl rfl ?_
 intro b13 w13 e13 F13 B13
 have S13:=B13.stb (nin hL e13)
 have G14:Fr L w w13:=Fr.ext F13
 refine o_box (cs:=(cEnt d1 A7 c8 A10 c11)) rfl rfl rfl ?_
 intro b15 w15 e15 F15 B15
 have S15:=B15.stb (nin (hL.fr F13) e15)
 have E16:=F13.trans F15
 have G18:Fr L w13 w15:=Fr.ext F15
 refine o_w (v:=.bool false) (r_asg rfl) ?_
 refine eo_r ?_
 refine o_w (v:=.pointer (some ⟨b13,0,none⟩)) (r_fa fld_api_Entry_0 rfl rfl) ?_
 refine o_w (v:=str d0.key) (r_ld one_string rfl ((S13.fr G18 sI).now.cell rfl)) ?_
 refine o_w (v:=.pointer (some ⟨b15,0,none⟩)) (r_fa fld_api_Entry_0 rfl rfl) ?_
 refine o_w (v:=str d1.key) (r_ld one_string rfl (S15.now.cell rfl)) ?_
 refine o_w (v:=.bool (d0.key==d1.key)) (r_str rfl rfl rfl) ?_
 refine o_w (v:=.bool (d0.key==d1.key)) (r_mov rfl) ?_
 refine o_vg (v:=.pointer (some ⟨b13,1,none⟩)) (want_ct (t:=10) rfl rfl) (fun hk=>(r_fa fld_api_Entry_1 rfl rfl)) rfl rfl ?_
 refine o_vg (v:=.agg (cVal d0.val A1 c2 A4 c5).toArray) (want_ct (t:=10) rfl rfl) (fun hk=>(r_lda agg_api_Value (gdT hk) (vs:=(cVal d0.val A1 c2 A4 c5)) rfl ((S13.fr G18 sI).now.part (n:=8) rfl))) rfl rfl ?_
 refine o_vg (v:=.pointer (some ⟨b15,1,none⟩)) (want_ct (t:=10) rfl rfl) (fun hk=>(r_fa fld_api_Entry_1 rfl rfl)) rfl rfl ?_
 refine o_vg (v:=.agg (cVal d1.val A7 c8 A10 c11).toArray) (want_ct (t:=10) rfl rfl) (fun hk=>(r_lda agg_api_Value (gdT hk) (vs:=(cVal d1.val A7 c8 A10 c11)) rfl (S15.now.part (n:=8) rfl))) rfl rfl ?_
 obtain ⟨ha21,h⟩:=h
 refine o_callg (V:=.bool (sameV d0.val d1.val)) cf_ref06_Same (want_ct (t:=10) rfl rfl) (fun hk=>(mapv2 (gdT hk) (gdT hk))) (fun hk=>(ref06_Same_c d0.val (kVal_mk (d:=d0.val) (H3.fr (G14.trans (Fr.ext F15)) sI) (H6.fr (G14.trans (Fr.ext F15)) sI)) d1.val (kVal_mk (d:=d1.val) (H9.fr (G14.trans (Fr.ext F15)) sI) (H12.fr (G14.trans (Fr.ext F15)) sI)) (hL.fr E16) (refSame_ev d0.val d1.val (ha21 hk)))) rfl ?_
 intro w20 F20
 have E22:=E16.trans F20
 refine o_w (v:=.bool ((d0.key==d1.key)&&(sameV d0.val d1.val))) (r_pickAnd rfl (fun ht=>(gdT ht)) rfl) ?_
 refine o_w (v:=.bool ((d0.key==d1.key)&&(sameV d0.val d1.val))) (r_asg rfl) ?_
 refine eo_nil_sq ?_
 refine ec_ret ?_
 subst h
 exact (end1 rfl ⟨_,rfl,E22,rfl⟩)
def ref07_All_b2 (d0:(List Ent)) (d1:(List Ent)) (s2:Int) (z2:(Int) ⊕ ((Int) ⊕ (Bool))):Prop :=
 ((decide (s2<(d0.length:Int)))=true→((0≤s2∧s2<(d0.length:Int))∧((0≤s2∧s2<(d1.length:Int))∧(∃ x50,ref07_Same_raw (nth d0 s2) (nth d1 s2) x50∧(((!x50)=true→(z2=.inr (.inr false)))∧((!x50)=false→(z2=.inl (IntKind.i64.wrap (s2 + (1:Int))))))))))∧((decide (s2<(d0.length:Int)))=false→(z2=.inr (.inl s2)))
def ref07_All_raw (d0:(List Ent)) (d1:(List Ent)) (y:Bool):Prop :=
 (((d0.length:Int) != (d1.length:Int))=true→(y=false))∧(((d0.length:Int) != (d1.length:Int))=false→(∃ x2,LoopR (ref07_All_b2 d0 d1) (0:Int) x2∧(∀ sx2,x2=.inl sx2→(y=true))∧(∀ y2,x2=.inr y2→(y=y2))))
set_option maxRecDepth 20000 in
set_option maxHeartbeats 4000000 in
theorem ref07_All_c {L:List Nat} {w:World} {AP0:Option Addr} {cP0:Nat} (d0:(List Ent)) (HP0:Stb L w (fun w=>SlC kEnt w AP0 cP0 d0)) {AP1:Option Addr} {cP1:Nat} (d1:(List Ent)) (HP1:Stb L w (fun w=>SlC kEnt w AP1 cP1 d1)) (hL:Lt L w) {y:Bool} (h:ref07_All_raw d0 d1 y) :
  Calls Try.prog 16 [.slice AP0 d0.length cP0,.slice AP1 d1.length cP1].toArray w (Ret fun v w'=>Ext w w'∧v=.bool y):=by
 unfold ref07_All_raw at h
 refine calls_ec Try.func16 rfl rfl rfl ?_
 refine ec_sr ?_
 refine o_w (v:=.bool false) (r_asg rfl) ?_
 refine eo_nil_sq ?_
 refine ec_seq ?_
 refine ec_sr ?_
 refine o_w (v:=.slice AP0 d0.length cP0) (r_mov rfl) ?_
 refine o_w (v:=.int .i64 (d0.length:Int)) (r_len_slc un_s_api_Entry rfl) ?_
 refine o_w (v:=.slice AP1 d1.length cP1) (r_mov rfl) ?_
 refine o_w (v:=.int .i64 (d1.length:Int)) (r_len_slc un_s_api_Entry rfl) ?_
 refine o_w (v:=.bool ((d0.length:Int) != (d1.length:Int))) (r_int rfl rfl rfl) ?_
 refine eo_nil_sq ?_
 refine ec_cond rfl (fun hc1=>?_) (fun hc1=>?_)
 ·replace h:=h.1 hc1
  refine ec_sr ?_
  refine o_w (v:=.bool false) (r_asg rfl) ?_
  refine eo_nil_sq ?_
  refine ec_ret ?_
  refine sq_ret ?_
  subst h
  exact (end1 rfl ⟨_,rfl,(Fr.refl _ _),rfl⟩)
 ·replace h:=h.2 hc1
  refine ec_skip ?_
  refine sq_n ?_
  refine ec_seq ?_
  refine ec_sr ?_
  refine o_w (v:=.int .i64 0) (r_asg rfl) ?_
  refine eo_nil_sq ?_
  refine ec_block ?_
  obtain ⟨x2,hl2,h⟩:=h
  refine ec_loopER 0 (I:=(fun (s2:Int) ρ ds w'=>∃ (ρ':Env),ρ=envs ρ' [(5,.int .i64 s2),(0,.slice AP0 d0.length cP0),(1,.slice AP1 d1.length cP1)]∧ds=[]∧Fr L w w'∧Ext w w')) (J:=(fun (y':Bool) ρ ds wz=>bodyE Try.prog #[.tmp 4] (Ret fun v w'=>Ext w w'∧v=.bool y') .ret ρ ds wz)) ?_ hl2 ?_ ?_ ?_
  ·intro s2 z2 ρ2 ds2 w2r hI2 hb2
   obtain ⟨ρ2r,rfl,rfl,F2r,E2r⟩:=hI2
   have h:=hb2
   unfold ref07_All_b2 at h
   have G3:Fr L w w2r:=(Fr.refl _ _).stp F2r (fun _ h=>.inl h)
   refine ec_seq ?_
   refine ec_sr ?_
   refine o_w (v:=.int .i64 s2) (r_mov rfl) ?_
   refine o_w (v:=.slice AP0 d0.length cP0) (r_mov rfl) ?_
   refine o_w (v:=.int .i64 (d0.length:Int)) (r_len_slc un_s_api_Entry rfl) ?_
   refine o_w (v:=.bool (decide (s2<(d0.length:Int)))) (r_int rfl rfl rfl) ?_
   refine eo_nil_sq ?_
   refine ec_cond rfl (fun hc4=>?_) (fun hc4=>?_)
   ·replace h:=h.1 hc4
    refine ec_skip ?_
    refine sq_n ?_
    refine ec_seq ?_
    refine ec_block ?_
    refine ec_seq ?_
    obtain ⟨ha28,h⟩:=h
    obtain ⟨cs29,l31,H30⟩:=Stb.elem (by decide) (HP0.fr G3 sI) s2 ha28.1 ha28.2
    obtain ⟨A33,c34,A36,c37,rfl,H32,H35,H38⟩:=kEnt_open2 H30
    obtain ⟨ha39,h⟩:=h
    obtain ⟨cs40,l42,H41⟩:=Stb.elem (by decide) (HP1.fr G3 sI) s2 ha39.1 ha39.2
    obtain ⟨A44,c45,A47,c48,rfl,H43,H46,H49⟩:=kEnt_open2 H41
    obtain ⟨x50,hx50,h⟩:=h
    refine ec_any0 (by kernel_rfl) [[],[],[0,1],[0,1,2],[],[],[4,5],[4,5,6],[0,1,2,3,4,5,6,7],[0,1,2,3,4,5,6,7,8]] [17,18,19,20,21,22,23,24,25,26] [fun v _=>v=(.slice AP0 d0.length cP0:Value),fun v _=>v=(.int .i64 s2:Value),fun v _=>v=(.pointer (some (elemA AP0 kEnt.n s2.toNat)):Value),fun v _=>v=(.agg (cEnt (nth d0 s2) A33 c34 A36 c37).toArray:Value),fun v _=>v=(.slice AP1 d1.length cP1:Value),fun v _=>v=(.int .i64 s2:Value),fun v _=>v=(.pointer (some (elemA AP1 kEnt.n s2.toNat)):Value),fun v _=>v=(.agg (cEnt (nth d1 s2) A44 c45 A47 c48).toArray:Value),fun v _=>v=(.bool x50:Value),fun v _=>v=(.bool (!x50):Value)] (by kernel_rfl) ⟨fun _ _ _ _ _ h=>h,fun _ _ _ _ _ h=>h,fun _ _ _ _ _ h=>h,fun _ _ _ _ _ h=>h,fun _ _ _ _ _ h=>h,fun _ _ _ _ _ h=>h,fun _ _ _ _ _ h=>h,fun _ _ _ _ _ h=>h,fun _ _ _ _ _ h=>h,fun _ _ _ _ _ h=>h,trivial⟩ ?_ ?_
    ·refine ⟨?_,?_,?_,?_,?_,?_,?_,?_,?_,?_,trivial⟩
     ·intro ρ w27o F27o hS hρ
      have q0:ρ 0=.slice AP0 d0.length cP0:=hρ 0 (by kernel_rfl)
      exact o_q (r_mov q0) ⟨Fr.refl _ _,rfl⟩
     ·intro ρ w27o F27o hS hρ
      have q5:ρ 5=.int .i64 s2:=hρ 5 (by kernel_rfl)
      exact o_q (r_mov q5) ⟨Fr.refl _ _,rfl⟩
     ·intro ρ w27o F27o hS hρ
      have q17:ρ 17=.slice AP0 d0.length cP0:=hS 0 (by decide) 17 rfl
      have q18:ρ 18=.int .i64 s2:=hS 1 (by decide) 18 rfl
      exact o_q (r_ia slc_s_api_Entry q17 q18 ((HP0.fr (G3.trans (Fr.ext F27o)) sI).now.2 _ (lt_toNat ha28.1 ha28.2)).1 ha28.1 ha28.2) ⟨Fr.refl _ _,rfl⟩
     ·intro ρ w27o F27o hS hρ
      have G58:Fr L w2r w27o:=Fr.ext F27o
      have q19:ρ 19=.pointer (some (elemA AP0 kEnt.n s2.toNat)):=hS 2 (by decide) 19 rfl
      exact o_q (r_lda' agg_api_Entry q19 (elemA_spot _ _ _) (vs:=(cEnt (nth d0 s2) A33 c34 A36 c37)) rfl ((H32.fr G58 sI).now.1)) ⟨Fr.refl _ _,rfl⟩
     ·intro ρ w27o F27o hS hρ
      have q1:ρ 1=.slice AP1 d1.length cP1:=hρ 1 (by kernel_rfl)
      exact o_q (r_mov q1) ⟨Fr.refl _ _,rfl⟩
     ·intro ρ w27o F27o hS hρ
      have q5:ρ 5=.int .i64 s2:=hρ 5 (by kernel_rfl)
      exact o_q (r_mov q5) ⟨Fr.refl _ _,rfl⟩
     ·intro ρ w27o F27o hS hρ
      have q21:ρ 21=.slice AP1 d1.length cP1:=hS 4 (by decide) 21 rfl
      have q22:ρ 22=.int .i64 s2:=hS 5 (by decide) 22 rfl
      exact o_q (r_ia slc_s_api_Entry q21 q22 ((HP1.fr (G3.trans (Fr.ext F27o)) sI).now.2 _ (lt_toNat ha39.1 ha39.2)).1 ha39.1 ha39.2) ⟨Fr.refl _ _,rfl⟩
     ·intro ρ w27o F27o hS hρ
      have G66:Fr L w2r w27o:=Fr.ext F27o
      have q23:ρ 23=.pointer (some (elemA AP1 kEnt.n s2.toNat)):=hS 6 (by decide) 23 rfl
      exact o_q (r_lda' agg_api_Entry q23 (elemA_spot _ _ _) (vs:=(cEnt (nth d1 s2) A44 c45 A47 c48)) rfl ((H43.fr G66 sI).now.1)) ⟨Fr.refl _ _,rfl⟩
     ·intro ρ w27o F27o hS hρ
      have E67:=E2r.trans F27o
      have G70:Fr L w2r w27o:=Fr.ext F27o
      have q20:ρ 20=.agg (cEnt (nth d0 s2) A33 c34 A36 c37).toArray:=hS 3 (by decide) 20 rfl
      have q24:ρ 24=.agg (cEnt (nth d1 s2) A44 c45 A47 c48).toArray:=hS 7 (by decide) 24 rfl
      refine o_call cf_ref07_Same (by simp only [List.map,ev,q20,q24] <;> rfl) (ref07_Same_c (nth d0 s2) (kEnt_mk (d:=(nth d0 s2)) (H35.fr G70 sI) (H38.fr G70 sI)) (nth d1 s2) (kEnt_mk (d:=(nth d1 s2)) (H46.fr G70 sI) (H49.fr G70 sI)) (hL.fr E67) hx50) rfl rfl ?_
      rintro _ w' ⟨F,rfl⟩
      exact eo_nil ⟨rfl,rfl,_,rfl,F,rfl⟩
     ·intro ρ w27o F27o hS hρ
      have q25:ρ 25=.bool x50:=hS 8 (by decide) 25 rfl
      exact o_q (r_not q25) ⟨Fr.refl _ _,rfl⟩
    ·intro ρ w27 F27 hS hρ
     have q26:ρ 26=.bool (!x50):=hS 9 26 rfl
     obtain ⟨ρ',rfl⟩:∃ ρ',ρ=envs (ovr [17,18,19,20,21,22,23,24,25,26] ρ' _) [(26,.bool (!x50))]:=⟨ρ,ovr_self hρ ⟨q26,trivial⟩⟩
     have E71:=E2r.trans F27
     refine sq_n ?_
     refine ec_cond rfl (fun hc75=>?_) (fun hc75=>?_)
     ·replace h:=h.1 hc75
      refine ec_sr ?_
      refine o_w (v:=.bool false) (r_asg rfl) ?_
      refine eo_nil_sq ?_
      refine ec_ret ?_
      refine blk_ret ?_
      refine sq_ret ?_
      subst h
      exact lqR_r (end1 rfl ⟨_,rfl,E71,rfl⟩)
     ·replace h:=h.2 hc75
      refine ec_skip ?_
      refine blk_n ?_
      refine sq_n ?_
      refine ec_region ?_
      refine o_w (v:=.int .i64 s2) (r_mov rfl) ?_
      refine o_w (v:=.int .i64 (IntKind.i64.wrap (s2 + (1:Int)))) (r_int rfl rfl rfl) ?_
      refine o_w (v:=.int .i64 (IntKind.i64.wrap (s2 + (1:Int)))) (r_asg rfl) ?_
      refine eo_nil ?_
      subst h
      exact lqR_n ⟨_,envs_self ⟨rfl,rfl,rfl,trivial⟩,rfl,(F2r.trans (Fr.ext F27)),E71⟩
   ·replace h:=h.2 hc4
    refine ec_exit ?_
    refine sq_exit ?_
    subst h
    exact lqR_x ⟨_,envs_self ⟨rfl,rfl,rfl,trivial⟩,rfl,F2r,E2r⟩
  ·exact ⟨_,envs_self ⟨rfl,rfl,rfl,trivial⟩,rfl,(Fr.refl _ _),(Fr.refl _ _)⟩
  ·rintro sx2 rfl ρ2e ds2e w2e ⟨ρ2e,rfl,rfl,F2e,E2e⟩
   replace h:=h.1 _ rfl
   refine blk_hit ?_
   refine sq_n ?_
   refine ec_sr ?_
   refine o_w (v:=.bool true) (r_asg rfl) ?_
   refine eo_nil_sq ?_
   refine ec_ret ?_
   subst h
   exact (end1 rfl ⟨_,rfl,E2e,rfl⟩)
  ·rintro y2 rfl ρ2q ds2q w2q hJ
   have hy:=h.2 _ rfl
   subst hy
   refine blk_ret ?_
   refine sq_ret ?_
   exact hJ
def entry_Check_raw (d0:Ent) (y:Int):Prop :=
 (((d0.key==([]:Str))||(decide (8<(d0.key.length:Int))))=true→(y=(2:Int)))∧(((d0.key==([]:Str))||(decide (8<(d0.key.length:Int))))=false→((sm d0.val)∧(y=(checkV d0.val))))
set_option maxRecDepth 20000 in
set_option maxHeartbeats 4000000 in
theorem entry_Check_c {L:List Nat} {w:World} {csP0:List Value} (d0:Ent) (HP0:Stb L w (fun w=>kEnt.r w csP0 d0)) (hL:Lt L w) {y:Int} (h:entry_Check_raw d0 y) :
  Calls Try.prog 38 [.agg csP0.toArray].toArray w (Ret fun v w'=>Ext w w'∧v=.int .i64 y):=by
 obtain ⟨A1,c2,A4,c5,rfl,H3,H6⟩:=kEnt_open HP0
 unfold entry_Check_raw at h
 refine calls_ec Try.func38 rfl rfl rfl ?_
 refine ec_sr ?_
 refine o_box (cs:=(cEnt d0 A1 c2 A4 c5)) rfl rfl rfl ?_
 intro b7 w7 e7 F7 B7
 have S7:=B7.stb (nin hL e7)
 have G8:Fr L w w7:=Fr.ext F7
 refine o_w (v:=.int .i64 0) (r_asg rfl) ?_
 refine eo_nil_sq ?_
 refine ec_seq ?_
 refine ec_sr ?_
 refine o_w (v:=.pointer (some ⟨b7,0,none⟩)) (r_fa fld_api_Entry_0 rfl rfl) ?_
 refine o_w (v:=str d0.key) (r_ld one_string rfl (S7.now.cell rfl)) ?_
 refine o_w (v:=.bool (d0.key==([]:Str))) (r_str rfl rfl rfl) ?_
 refine o_w (v:=.bool (d0.key==([]:Str))) (r_mov rfl) ?_
 refine o_vg (v:=.pointer (some ⟨b7,0,none⟩)) (want_cf (t:=6) rfl rfl) (fun hk=>(r_fa fld_api_Entry_0 rfl rfl)) rfl rfl ?_
 refine o_vg (v:=str d0.key) (want_cf (t:=6) rfl rfl) (fun hk=>(r_ld one_string (gdT hk) (S7.now.cell rfl))) rfl rfl ?_
 refine o_vg (v:=.int .i64 (d0.key.length:Int)) (want_cf (t:=6) rfl rfl) (fun hk=>(r_len_str un_string (gdT hk))) rfl rfl ?_
 refine o_vg (v:=.bool (decide (8<(d0.key.length:Int)))) (want_cf (t:=6) rfl rfl) (fun hk=>(r_int (gdT hk) rfl rfl)) rfl rfl ?_
 refine o_w (v:=.bool ((d0.key==([]:Str))||(decide (8<(d0.key.length:Int))))) (r_pickOr rfl rfl (fun hf=>(gdT (notT hf)))) ?_
 refine eo_nil_sq ?_
 refine ec_cond rfl (fun hc9=>?_) (fun hc9=>?_)
 ·replace h:=h.1 hc9
  refine ec_sr ?_
  refine o_w (v:=.int .i64 2) (r_asg rfl) ?_
  refine eo_nil_sq ?_
  refine ec_ret ?_
  refine sq_ret ?_
  subst h
  exact (end1 rfl ⟨_,rfl,F7,rfl⟩)
 ·replace h:=h.2 hc9
  refine ec_skip ?_
  refine sq_n ?_
  refine ec_sr ?_
  refine o_w (v:=.pointer (some ⟨b7,1,none⟩)) (r_fa fld_api_Entry_1 rfl rfl) ?_
  refine o_w (v:=.agg (cVal d0.val A1 c2 A4 c5).toArray) (r_lda agg_api_Value rfl (vs:=(cVal d0.val A1 c2 A4 c5)) rfl (S7.now.part (n:=8) rfl)) ?_
  obtain ⟨ha11,h⟩:=h
  refine o_call cf_value_Check rfl (value_Check_c d0.val (kVal_mk (d:=d0.val) (H3.fr G8 sI) (H6.fr G8 sI)) (hL.fr F7) (valCheck_ev d0.val ha11)) rfl rfl ?_
  rintro _ w10 ⟨F10,rfl⟩
  have E12:=F7.trans F10
  refine o_w (v:=.int .i64 (checkV d0.val)) (r_asg rfl) ?_
  refine eo_nil_sq ?_
  refine ec_ret ?_
  subst h
  exact (end1 rfl ⟨_,rfl,E12,rfl⟩)
def entry_Less_raw (d0:Ent) (d1:Ent) (y:Bool):Prop :=
 ((d0.val.kind != d1.val.kind)=true→(y=(decide (d0.val.kind<d1.val.kind))))∧((d0.val.kind != d1.val.kind)=false→(y=(Op.bytesLess d0.key d1.key)))
set_option maxRecDepth 20000 in
set_option maxHeartbeats 4000000 in
theorem entry_Less_c {L:List Nat} {w:World} {csP0:List Value} (d0:Ent) (HP0:Stb L w (fun w=>kEnt.r w csP0 d0)) {csP1:List Value} (d1:Ent) (HP1:Stb L w (fun w=>kEnt.r w csP1 d1)) (hL:Lt L w) {y:Bool} (h:entry_Less_raw d0 d1 y) :
  Calls Try.prog 37 [.agg csP0.toArray,.agg csP1.toArray].toArray w (Ret fun v w'=>Ext w w'∧v=.bool y):=by
 obtain ⟨A1,c2,A4,c5,rfl,H3,H6⟩:=kEnt_open HP0
 obtain ⟨A7,c8,A10,c11,rfl,H9,H12⟩:=kEnt_open HP1
 unfold entry_Less_raw at h
 refine calls_ec Try.func37 rfl rfl rfl ?_
 refine ec_sr ?_
 refine o_box (cs:=(cEnt d0 A1 c2 A4 c5)) rfl rfl rfl ?_
 intro b13 w13 e13 F13 B13
 have S13:=B13.stb (nin hL e13)
 refine o_box (cs:=(cEnt d1 A7 c8 A10 c11)) rfl rfl rfl ?_
 intro b15 w15 e15 F15 B15
 have S15:=B15.stb (nin (hL.fr F13) e15)
 have E16:=F13.trans F15
 have G18:Fr L w13 w15:=Fr.ext F15
 refine o_w (v:=.bool false) (r_asg rfl) ?_
 refine eo_nil_sq ?_
 refine ec_seq ?_
 refine ec_sr ?_
 refine o_w (v:=.pointer (some ⟨b13,1,none⟩)) (r_fa fld_api_Entry_1 rfl rfl) ?_
 refine o_w (v:=.pointer (some ⟨b13,1,none⟩)) (r_fa fld_api_Value_0 rfl rfl) ?_
 refine o_w (v:=.int .i64 d0.val.kind) (r_ld one_int rfl ((S13.fr G18 sI).now.cell rfl)) ?_
 refine o_w (v:=.pointer (some ⟨b15,1,none⟩)) (r_fa fld_api_Entry_1 rfl rfl) ?_
 refine o_w (v:=.pointer (some ⟨b15,1,none⟩)) (r_fa fld_api_Value_0 rfl rfl) ?_
 refine o_w (v:=.int .i64 d1.val.kind) (r_ld one_int rfl (S15.now.cell rfl)) ?_
 refine o_w (v:=.bool (d0.val.kind != d1.val.kind)) (r_int rfl rfl rfl) ?_
 refine eo_nil_sq ?_
 refine ec_cond rfl (fun hc19=>?_) (fun hc19=>?_)
 ·replace h:=h.1 hc19
  refine ec_sr ?_
  refine o_w (v:=.pointer (some ⟨b13,1,none⟩)) (r_fa fld_api_Entry_1 rfl rfl) ?_
  refine o_w (v:=.pointer (some ⟨b13,1,none⟩)) (r_fa fld_api_Value_0 rfl rfl) ?_
  refine o_w (v:=.int .i64 d0.val.kind) (r_ld one_int rfl ((S13.fr G18 sI).now.cell rfl)) ?_
  refine o_w (v:=.pointer (some ⟨b15,1,none⟩)) (r_fa fld_api_Entry_1 rfl rfl) ?_
  refine o_w (v:=.pointer (some ⟨b15,1,none⟩)) (r_fa fld_api_Value_0 rfl rfl) ?_
  refine o_w (v:=.int .i64 d1.val.kind) (r_ld one_int rfl (S15.now.cell rfl)) ?_
  refine o_w (v:=.bool (decide (d0.val.kind<d1.val.kind))) (r_int rfl rfl rfl) ?_
  refine o_w (v:=.bool (decide (d0.val.kind<d1.val.kind))) (r_asg rfl) ?_
  refine eo_nil_sq ?_
  refine ec_ret ?_
  refine sq_ret ?_
  subst h
  exact (end1 rfl ⟨_,rfl,E16,rfl⟩)
 ·replace h:=h.2 hc19
  refine ec_skip ?_
  refine sq_n ?_
  refine ec_sr ?_
  refine o_w (v:=.pointer (some ⟨b13,0,none⟩)) (r_fa fld_api_Entry_0 rfl rfl) ?_
  refine o_w (v:=str d0.key) (r_ld one_string rfl ((S13.fr G18 sI).now.cell rfl)) ?_
  refine o_w (v:=.pointer (some ⟨b15,0,none⟩)) (r_fa fld_api_Entry_0 rfl rfl) ?_
  refine o_w (v:=str d1.key) (r_ld one_string rfl (S15.now.cell rfl)) ?_
  refine o_w (v:=.bool (Op.bytesLess d0.key d1.key)) (r_str rfl rfl rfl) ?_
  refine o_w (v:=.bool (Op.bytesLess d0.key d1.key)) (r_asg rfl) ?_
  refine eo_nil_sq ?_
  refine ec_ret ?_
  subst h
  exact (end1 rfl ⟨_,rfl,E16,rfl⟩)
def entry_Same_raw (d0:Ent) (d1:Ent) (y:Bool):Prop :=
 ((d0.key==d1.key)=true→sm d0.val)∧(y=((d0.key==d1.key)&&(sameV d0.val d1.val)))
set_option maxRecDepth 20000 in
set_option maxHeartbeats 4000000 in
theorem entry_Same_c {L:List Nat} {w:World} {csP0:List Value} (d0:Ent) (HP0:Stb L w (fun w=>kEnt.r w csP0 d0)) {csP1:List Value} (d1:Ent) (HP1:Stb L w (fun w=>kEnt.r w csP1 d1)) (hL:Lt L w) {y:Bool} (h:entry_Same_raw d0 d1 y) :
  Calls Try.prog 36 [.agg csP0.toArray,.agg csP1.toArray].toArray w (Ret fun v w'=>Ext w w'∧v=.bool y):=by
 obtain ⟨A1,c2,A4,c5,rfl,H3,H6⟩:=kEnt_open HP0
 obtain ⟨A7,c8,A10,c11,rfl,H9,H12⟩:=kEnt_open HP1
 unfold entry_Same_raw at h
 refine calls_ec Try.func36 rfl rfl rfl ?_
 refine ec_sr ?_
 refine o_box (cs:=(cEnt d0 A1 c2 A4 c5)) rfl rfl rfl ?_
 intro b13 w13 e13 F13 B13
 have S13:=B13.stb (nin hL e13)
 have G14:Fr L w w13:=Fr.ext F13
 refine o_box (cs:=(cEnt d1 A7 c8 A10 c11)) rfl rfl rfl ?_
 intro b15 w15 e15 F15 B15
 have S15:=B15.stb (nin (hL.fr F13) e15)
 have E16:=F13.trans F15
 have G18:Fr L w13 w15:=Fr.ext F15
 refine o_w (v:=.bool false) (r_asg rfl) ?_
 refine eo_r ?_
 refine o_w (v:=.pointer (some ⟨b13,0,none⟩)) (r_fa fld_api_Entry_0 rfl rfl) ?_
 refine o_w (v:=str d0.key) (r_ld one_string rfl ((S13.fr G18 sI).now.cell rfl)) ?_
 refine o_w (v:=.pointer (some ⟨b15,0,none⟩)) (r_fa fld_api_Entry_0 rfl rfl) ?_
 refine o_w (v:=str d1.key) (r_ld one_string rfl (S15.now.cell rfl)) ?_
 refine o_w (v:=.bool (d0.key==d1.key)) (r_str rfl rfl rfl) ?_
 refine o_w (v:=.bool (d0.key==d1.key)) (r_mov rfl) ?_
 refine o_vg (v:=.pointer (some ⟨b13,1,none⟩)) (want_ct (t:=10) rfl rfl) (fun hk=>(r_fa fld_api_Entry_1 rfl rfl)) rfl rfl ?_
 refine o_vg (v:=.agg (cVal d0.val A1 c2 A4 c5).toArray) (want_ct (t:=10) rfl rfl) (fun hk=>(r_lda agg_api_Value (gdT hk) (vs:=(cVal d0.val A1 c2 A4 c5)) rfl ((S13.fr G18 sI).now.part (n:=8) rfl))) rfl rfl ?_
 refine o_vg (v:=.pointer (some ⟨b15,1,none⟩)) (want_ct (t:=10) rfl rfl) (fun hk=>(r_fa fld_api_Entry_1 rfl rfl)) rfl rfl ?_
 refine o_vg (v:=.agg (cVal d1.val A7 c8 A10 c11).toArray) (want_ct (t:=10) rfl rfl) (fun hk=>(r_lda agg_api_Value (gdT hk) (vs:=(cVal d1.val A7 c8 A10 c11)) rfl (S15.now.part (n:=8) rfl))) rfl rfl ?_
 obtain ⟨ha21,h⟩:=h
 refine o_callg (V:=.bool (sameV d0.val d1.val)) cf_value_Same (want_ct (t:=10) rfl rfl) (fun hk=>(mapv2 (gdT hk) (gdT hk))) (fun hk=>(value_Same_c d0.val (kVal_mk (d:=d0.val) (H3.fr (G14.trans (Fr.ext F15)) sI) (H6.fr (G14.trans (Fr.ext F15)) sI)) d1.val (kVal_mk (d:=d1.val) (H9.fr (G14.trans (Fr.ext F15)) sI) (H12.fr (G14.trans (Fr.ext F15)) sI)) (hL.fr E16) (valSame_ev d0.val d1.val (ha21 hk)))) rfl ?_
 intro w20 F20
 have E22:=E16.trans F20
 refine o_w (v:=.bool ((d0.key==d1.key)&&(sameV d0.val d1.val))) (r_pickAnd rfl (fun ht=>(gdT ht)) rfl) ?_
 refine o_w (v:=.bool ((d0.key==d1.key)&&(sameV d0.val d1.val))) (r_asg rfl) ?_
 refine eo_nil_sq ?_
 refine ec_ret ?_
 subst h
 exact (end1 rfl ⟨_,rfl,E22,rfl⟩)
def entry_Join_raw (d0:Ent) (d1:Ent) (y:Ent × Int):Prop :=
 ∃ x27,entry_Check_raw d0 x27∧(((x27 != (0:Int))=true→(y=((⟨([]:Str),(⟨(0:Int),(0:Int),(0:Int),false,([]:Str),([]:List Int),([]:List Int),(0:Int)⟩:Val)⟩:Ent),(2:Int))))∧((x27 != (0:Int))=false→(∃ x39,entry_Check_raw d1 x39∧(((x39 != (0:Int))=true→(y=((⟨([]:Str),(⟨(0:Int),(0:Int),(0:Int),false,([]:Str),([]:List Int),([]:List Int),(0:Int)⟩:Val)⟩:Ent),(2:Int))))∧((x39 != (0:Int))=false→((((!(d0.key==d1.key))||(d0.val.kind != d1.val.kind))=true→(y=((⟨([]:Str),(⟨(0:Int),(0:Int),(0:Int),false,([]:Str),([]:List Int),([]:List Int),(0:Int)⟩:Val)⟩:Ent),(3:Int))))∧(((!(d0.key==d1.key))||(d0.val.kind != d1.val.kind))=false→((sm d0.val)∧((sm d1.val)∧(∃ x57,x57=(joinV d0.val d1.val)∧(y=((⟨d0.key,x57.1⟩:Ent),(0:Int)))))))))))))
set_option maxRecDepth 20000 in
set_option maxHeartbeats 4000000 in
theorem entry_Join_c {L:List Nat} {w:World} {csP0:List Value} (d0:Ent) (HP0:Stb L w (fun w=>kEnt.r w csP0 d0)) {csP1:List Value} (d1:Ent) (HP1:Stb L w (fun w=>kEnt.r w csP1 d1)) (hL:Lt L w) {y:Ent × Int} (h:entry_Join_raw d0 d1 y) :
  Calls Try.prog 35 [.agg csP0.toArray,.agg csP1.toArray].toArray w (Ret fun v w'=>Ext w w'∧∃ (cs90:List Value),v=.tuple #[.agg cs90.toArray,.int .i64 y.2]∧Stb L w' (fun w=>kEnt.r w cs90 y.1)):=by
 obtain ⟨A1,c2,A4,c5,rfl,H3,H6⟩:=kEnt_open HP0
 obtain ⟨A7,c8,A10,c11,rfl,H9,H12⟩:=kEnt_open HP1
 unfold entry_Join_raw at h
 refine calls_ec Try.func35 rfl rfl rfl ?_
 refine ec_sr ?_
 refine o_box (cs:=(cEnt d0 A1 c2 A4 c5)) rfl rfl rfl ?_
 intro b13 w13 e13 F13 B13
 have S13:=B13.stb (nin hL e13)
 have G14:Fr L w w13:=Fr.ext F13
 refine o_box (cs:=(cEnt d1 A7 c8 A10 c11)) rfl rfl rfl ?_
 intro b15 w15 e15 F15 B15
 have S15:=B15.stb (nin (hL.fr F13) e15)
 have E16:=F13.trans F15
 have G18:Fr L w13 w15:=Fr.ext F15
 refine o_alloc zero_api_Entry rfl rfl rfl ?_
 intro b19 w19 e19 F19 B19
 have n19:w.heap.size≤b19:=by rw [e19]; exact E16.size
 have m20:w.heap.size≤b19:=by rw [e19]; exact (G14.trans (Fr.ext F15)).size
 have E23:=E16.trans F19
 have G26:Fr L w15 w19:=Fr.ext F19
 refine o_w (v:=.int .i64 0) (r_asg rfl) ?_
 refine eo_nil_sq ?_
 refine ec_seq ?_
 refine ec_block ?_
 refine ec_seq ?_
 refine ec_sr ?_
 refine o_w (v:=.agg (cEnt d0 A1 c2 A4 c5).toArray) (r_lda agg_api_Entry rfl (vs:=(cEnt d0 A1 c2 A4 c5)) rfl ((S13.fr (G18.trans (Fr.ext F19)) sI).now.part (n:=9) rfl)) ?_
 obtain ⟨x27,hx27,h⟩:=h
 refine o_call cf_entry_Check rfl (entry_Check_c d0 (kEnt_mk (d:=d0) (H3.up ((G14.trans (Fr.ext F15)).trans (Fr.ext F19)) sI (upc (.inr m20) (fun _ h=>.inl h))) (H6.up ((G14.trans (Fr.ext F15)).trans (Fr.ext F19)) sI (upc (.inr m20) (fun _ h=>.inl h)))) ((hL.fr E23).cons B19.lt) hx27) rfl rfl ?_
 rintro _ w27 ⟨F27,rfl⟩
 have E28:=E23.trans F27
 refine o_w (v:=.bool (x27 != (0:Int))) (r_int rfl rfl rfl) ?_
 refine o_w (v:=.bool (x27 != (0:Int))) (r_asg rfl) ?_
 refine eo_nil_sq ?_
 refine ec_cond rfl (fun hc33=>?_) (fun hc33=>?_)
 ·replace h:=h.1 hc33
  refine ec_skip ?_
  refine sq_n ?_
  refine ec_condT rfl hc33 ?_
  refine ec_sr ?_
  refine o_w (v:=.agg #[str [],.int .i64 0,.int .i64 0,.int .i64 0,.bool false,str [],.slice none ([]:List Int).length 0,.slice none ([]:List Int).length 0,.int .u64 0]) (r_build bld_api_Entry (vs:=[]) (cells:=[str [],.int .i64 0,.int .i64 0,.int .i64 0,.bool false,str [],.slice none ([]:List Int).length 0,.slice none ([]:List Int).length 0,.int .u64 0]) rfl rfl) ?_
  refine o_store rfl (B19.ex F27) (vs:=[str [],.int .i64 0,.int .i64 0,.int .i64 0,.bool false,str [],.slice none ([]:List Int).length 0,.slice none ([]:List Int).length 0,.int .u64 0]) rfl sz_api_Entry rfl rfl rfl ?_
  intro w34 F34 B34
  have E35:=Ext.st E28 F34 (by simp; omega)
  have B34':Blk w34 b19 _ [str [],.int .i64 0,.int .i64 0,.int .i64 0,.bool false,str [],.slice none ([]:List Int).length 0,.slice none ([]:List Int).length 0,.int .u64 0]:=B34
  refine o_w (v:=.int .i64 2) (r_asg rfl) ?_
  refine eo_nil_sq ?_
  refine ec_ret ?_
  refine blk_ret ?_
  refine sq_ret ?_
  subst h
  exact (endr2 (rv_a rfl (agg_api_Entry) B34' (vs:=[str [],.int .i64 0,.int .i64 0,.int .i64 0,.bool false,str [],.slice none ([]:List Int).length 0,.slice none ([]:List Int).length 0,.int .u64 0]) rfl rfl) (rv_t rfl) ⟨_,rfl,E35,_,rfl,(kEnt_mk (d:=(⟨([]:Str),(⟨(0:Int),(0:Int),(0:Int),false,([]:Str),([]:List Int),([]:List Int),(0:Int)⟩:Val)⟩:Ent)) stb_nil stb_nil)⟩)
 ·replace h:=h.2 hc33
  refine ec_region ?_
  refine o_w (v:=.agg (cEnt d1 A7 c8 A10 c11).toArray) (r_lda agg_api_Entry rfl (vs:=(cEnt d1 A7 c8 A10 c11)) rfl ((S15.fr (G26.trans (Fr.ext F27)) sI).now.part (n:=9) rfl)) ?_
  obtain ⟨x39,hx39,h⟩:=h
  refine o_call cf_entry_Check rfl (entry_Check_c d1 (kEnt_mk (d:=d1) (H9.up (((G14.trans (Fr.ext F15)).trans (Fr.ext F19)).trans (Fr.ext F27)) sI (upc (.inr m20) (fun _ h=>.inl h))) (H12.up (((G14.trans (Fr.ext F15)).trans (Fr.ext F19)).trans (Fr.ext F27)) sI (upc (.inr m20) (fun _ h=>.inl h)))) ((hL.fr E28).cons (B19.ex F27).lt) hx39) rfl rfl ?_
  rintro _ w39 ⟨F39,rfl⟩
  have E40:=E28.trans F39
  have G41:=(((G14.trans (Fr.ext F15)).trans (Fr.ext F19)).trans (Fr.ext F27)).trans (Fr.ext F39)
  refine o_w (v:=.bool (x39 != (0:Int))) (r_int rfl rfl rfl) ?_
  refine o_w (v:=.bool (x39 != (0:Int))) (r_asg rfl) ?_
  refine eo_nil_sq ?_
  refine ec_cond rfl (fun hc45=>?_) (fun hc45=>?_)
  ·replace h:=h.1 hc45
   refine ec_sr ?_
   refine o_w (v:=.agg #[str [],.int .i64 0,.int .i64 0,.int .i64 0,.bool false,str [],.slice none ([]:List Int).length 0,.slice none ([]:List Int).length 0,.int .u64 0]) (r_build bld_api_Entry (vs:=[]) (cells:=[str [],.int .i64 0,.int .i64 0,.int .i64 0,.bool false,str [],.slice none ([]:List Int).length 0,.slice none ([]:List Int).length 0,.int .u64 0]) rfl rfl) ?_
   refine o_store rfl ((B19.ex F27).ex F39) (vs:=[str [],.int .i64 0,.int .i64 0,.int .i64 0,.bool false,str [],.slice none ([]:List Int).length 0,.slice none ([]:List Int).length 0,.int .u64 0]) rfl sz_api_Entry rfl rfl rfl ?_
   intro w46 F46 B46
   have E47:=Ext.st E40 F46 (by simp; omega)
   have B46':Blk w46 b19 _ [str [],.int .i64 0,.int .i64 0,.int .i64 0,.bool false,str [],.slice none ([]:List Int).length 0,.slice none ([]:List Int).length 0,.int .u64 0]:=B46
   refine o_w (v:=.int .i64 2) (r_asg rfl) ?_
   refine eo_nil_sq ?_
   refine ec_ret ?_
   refine blk_ret ?_
   refine sq_ret ?_
   subst h
   exact (endr2 (rv_a rfl (agg_api_Entry) B46' (vs:=[str [],.int .i64 0,.int .i64 0,.int .i64 0,.bool false,str [],.slice none ([]:List Int).length 0,.slice none ([]:List Int).length 0,.int .u64 0]) rfl rfl) (rv_t rfl) ⟨_,rfl,E47,_,rfl,(kEnt_mk (d:=(⟨([]:Str),(⟨(0:Int),(0:Int),(0:Int),false,([]:Str),([]:List Int),([]:List Int),(0:Int)⟩:Val)⟩:Ent)) stb_nil stb_nil)⟩)
  ·replace h:=h.2 hc45
   refine ec_sr ?_
   refine o_w (v:=.pointer (some ⟨b13,0,none⟩)) (r_fa fld_api_Entry_0 rfl rfl) ?_
   refine o_w (v:=str d0.key) (r_ld one_string rfl ((S13.fr (((G18.trans (Fr.ext F19)).trans (Fr.ext F27)).trans (Fr.ext F39)) sI).now.cell rfl)) ?_
   refine o_w (v:=.pointer (some ⟨b15,0,none⟩)) (r_fa fld_api_Entry_0 rfl rfl) ?_
   refine o_w (v:=str d1.key) (r_ld one_string rfl ((S15.fr ((G26.trans (Fr.ext F27)).trans (Fr.ext F39)) sI).now.cell rfl)) ?_
   refine o_w (v:=.bool (!(d0.key==d1.key))) (r_str rfl rfl rfl) ?_
   refine o_w (v:=.bool (!(d0.key==d1.key))) (r_mov rfl) ?_
   refine o_vg (v:=.pointer (some ⟨b13,1,none⟩)) (want_cf (t:=22) rfl rfl) (fun hk=>(r_fa fld_api_Entry_1 rfl rfl)) rfl rfl ?_
   refine o_vg (v:=.pointer (some ⟨b13,1,none⟩)) (want_cf (t:=22) rfl rfl) (fun hk=>(r_fa fld_api_Value_0 rfl (gdT hk))) rfl rfl ?_
   refine o_vg (v:=.int .i64 d0.val.kind) (want_cf (t:=22) rfl rfl) (fun hk=>(r_ld one_int (gdT hk) ((S13.fr (((G18.trans (Fr.ext F19)).trans (Fr.ext F27)).trans (Fr.ext F39)) sI).now.cell rfl))) rfl rfl ?_
   refine o_vg (v:=.pointer (some ⟨b15,1,none⟩)) (want_cf (t:=22) rfl rfl) (fun hk=>(r_fa fld_api_Entry_1 rfl rfl)) rfl rfl ?_
   refine o_vg (v:=.pointer (some ⟨b15,1,none⟩)) (want_cf (t:=22) rfl rfl) (fun hk=>(r_fa fld_api_Value_0 rfl (gdT hk))) rfl rfl ?_
   refine o_vg (v:=.int .i64 d1.val.kind) (want_cf (t:=22) rfl rfl) (fun hk=>(r_ld one_int (gdT hk) ((S15.fr ((G26.trans (Fr.ext F27)).trans (Fr.ext F39)) sI).now.cell rfl))) rfl rfl ?_
   refine o_vg (v:=.bool (d0.val.kind != d1.val.kind)) (want_cf (t:=22) rfl rfl) (fun hk=>(r_int (gdT hk) (gdT hk) rfl)) rfl rfl ?_
   refine o_w (v:=.bool ((!(d0.key==d1.key))||(d0.val.kind != d1.val.kind))) (r_pickOr rfl rfl (fun hf=>(gdT (notT hf)))) ?_
   refine o_w (v:=.bool ((!(d0.key==d1.key))||(d0.val.kind != d1.val.kind))) (r_asg rfl) ?_
   refine eo_nil_sq ?_
   refine ec_cond rfl (fun hc51=>?_) (fun hc51=>?_)
   ·replace h:=h.1 hc51
    refine ec_sr ?_
    refine o_w (v:=.agg #[str [],.int .i64 0,.int .i64 0,.int .i64 0,.bool false,str [],.slice none ([]:List Int).length 0,.slice none ([]:List Int).length 0,.int .u64 0]) (r_build bld_api_Entry (vs:=[]) (cells:=[str [],.int .i64 0,.int .i64 0,.int .i64 0,.bool false,str [],.slice none ([]:List Int).length 0,.slice none ([]:List Int).length 0,.int .u64 0]) rfl rfl) ?_
    refine o_store rfl ((B19.ex F27).ex F39) (vs:=[str [],.int .i64 0,.int .i64 0,.int .i64 0,.bool false,str [],.slice none ([]:List Int).length 0,.slice none ([]:List Int).length 0,.int .u64 0]) rfl sz_api_Entry rfl rfl rfl ?_
    intro w52 F52 B52
    have E53:=Ext.st E40 F52 (by simp; omega)
    have B52':Blk w52 b19 _ [str [],.int .i64 0,.int .i64 0,.int .i64 0,.bool false,str [],.slice none ([]:List Int).length 0,.slice none ([]:List Int).length 0,.int .u64 0]:=B52
    refine o_w (v:=.int .i64 3) (r_asg rfl) ?_
    refine eo_nil_sq ?_
    refine ec_ret ?_
    refine blk_ret ?_
    refine sq_ret ?_
    subst h
    exact (endr2 (rv_a rfl (agg_api_Entry) B52' (vs:=[str [],.int .i64 0,.int .i64 0,.int .i64 0,.bool false,str [],.slice none ([]:List Int).length 0,.slice none ([]:List Int).length 0,.int .u64 0]) rfl rfl) (rv_t rfl) ⟨_,rfl,E53,_,rfl,(kEnt_mk (d:=(⟨([]:Str),(⟨(0:Int),(0:Int),(0:Int),false,([]:Str),([]:List Int),([]:List Int),(0:Int)⟩:Val)⟩:Ent)) stb_nil stb_nil)⟩)
   ·replace h:=h.2 hc51
    refine ec_skip ?_
    refine blk_n ?_
    refine sq_n ?_
    refine ec_sr ?_
    refine o_w (v:=.pointer (some ⟨b13,1,none⟩)) (r_fa fld_api_Entry_1 rfl rfl) ?_
    refine o_w (v:=.agg (cVal d0.val A1 c2 A4 c5).toArray) (r_lda agg_api_Value rfl (vs:=(cVal d0.val A1 c2 A4 c5)) rfl ((S13.fr (((G18.trans (Fr.ext F19)).trans (Fr.ext F27)).trans (Fr.ext F39)) sI).now.part (n:=8) rfl)) ?_
    refine o_w (v:=.pointer (some ⟨b15,1,none⟩)) (r_fa fld_api_Entry_1 rfl rfl) ?_
    refine o_w (v:=.agg (cVal d1.val A7 c8 A10 c11).toArray) (r_lda agg_api_Value rfl (vs:=(cVal d1.val A7 c8 A10 c11)) rfl ((S15.fr ((G26.trans (Fr.ext F27)).trans (Fr.ext F39)) sI).now.part (n:=8) rfl)) ?_
    obtain ⟨ha58,h⟩:=h
    obtain ⟨ha59,h⟩:=h
    obtain ⟨x57,hx57,h⟩:=h
    refine o_call cf_value_Join rfl (value_Join_c d0.val (kVal_mk (d:=d0.val) (H3.up G41 sI (upc (.inr m20) (fun _ h=>.inl h))) (H6.up G41 sI (upc (.inr m20) (fun _ h=>.inl h)))) d1.val (kVal_mk (d:=d1.val) (H9.up G41 sI (upc (.inr m20) (fun _ h=>.inl h))) (H12.up G41 sI (upc (.inr m20) (fun _ h=>.inl h)))) ((hL.fr E40).cons ((B19.ex F27).ex F39).lt) (eq_ev hx57 (valJoin_ev d0.val d1.val ha58 ha59))) rfl rfl ?_
    rintro _ w57 ⟨F57,cs60,rfl,H61⟩
    have E62:=E40.trans F57
    have G64:=(((G18.trans (Fr.ext F19)).trans (Fr.ext F27)).trans (Fr.ext F39)).trans (Fr.ext F57)
    obtain ⟨A67,c68,A70,c71,rfl,H69,H72⟩:=kVal_open H61
    refine o_w (v:=.tuple #[.agg (cVal x57.1 A67 c68 A70 c71).toArray,.int .i64 x57.2]) (r_mov rfl) ?_
    refine o_w (v:=.agg (cVal x57.1 A67 c68 A70 c71).toArray) (r_ext rfl rfl) ?_
    refine o_w (v:=.int .i64 x57.2) (r_ext rfl rfl) ?_
    refine o_alloc zero_api_Value rfl rfl rfl ?_
    intro b73 w73 e73 F73 B73
    have n73:w.heap.size≤b73:=by rw [e73]; exact E62.size
    have q74:b19<b73:=by rw [e73]; exact (((B19.ex F27).ex F39).ex F57).lt
    have m76:w13.heap.size≤b73:=by rw [e73]; exact G64.size
    have m78:w57.heap.size≤b73:=Nat.le_of_eq e73.symm
    have E79:=E62.trans F73
    have G83:Fr (b19::L) w57 w73:=Fr.ext F73
    refine o_store rfl B73 (vs:=(cVal x57.1 A67 c68 A70 c71)) rfl sz_api_Value rfl rfl rfl ?_
    intro w85 F85 B85
    have E86:=Ext.st E79 F85 (by simp; omega)
    have G88:Fr L w13 w85:=(G64.trans (Fr.ext F73)).stp F85 (upc (.inr m76) (fun m hm=>by cases hm))
    have G90:Fr (b19::L) w57 w85:=G83.stp F85 (upc (.inr m78) (fun m hm=>by cases hm))
    have B91:=((((B19.ex F27).ex F39).ex F57).ex F73).fr F85 (by simp; omega)
    have B85':Blk w85 b73 _ (cVal x57.1 A67 c68 A70 c71):=B85
    refine o_w (v:=.int .i64 x57.2) (r_asg rfl) ?_
    refine eo_r ?_
    refine o_w (v:=.pointer (some ⟨b13,0,none⟩)) (r_fa fld_api_Entry_0 rfl rfl) ?_
    refine o_w (v:=str d0.key) (r_ld one_string rfl ((S13.fr G88 sI).now.cell rfl)) ?_
    refine o_w (v:=.agg (cVal x57.1 A67 c68 A70 c71).toArray) (r_lda agg_api_Value rfl (vs:=(cVal x57.1 A67 c68 A70 c71)) rfl (B85'.part (n:=8) rfl)) ?_
    refine o_w (v:=.agg #[str d0.key,.int .i64 x57.1.kind,.int .i64 x57.1.time,.int .i64 x57.1.node,.bool x57.1.dead,str x57.1.text,.slice A67 x57.1.plus.length c68,.slice A70 x57.1.minus.length c71,.int .u64 x57.1.flags]) (r_build bld_api_Entry (vs:=[(0,str d0.key),(1,.agg (cVal x57.1 A67 c68 A70 c71).toArray)]) (cells:=[str d0.key,.int .i64 x57.1.kind,.int .i64 x57.1.time,.int .i64 x57.1.node,.bool x57.1.dead,str x57.1.text,.slice A67 x57.1.plus.length c68,.slice A70 x57.1.minus.length c71,.int .u64 x57.1.flags]) rfl rfl) ?_
    refine o_store rfl B91 (vs:=[str d0.key,.int .i64 x57.1.kind,.int .i64 x57.1.time,.int .i64 x57.1.node,.bool x57.1.dead,str x57.1.text,.slice A67 x57.1.plus.length c68,.slice A70 x57.1.minus.length c71,.int .u64 x57.1.flags]) rfl sz_api_Entry rfl rfl rfl ?_
    intro w92 F92 B92
    have E93:=Ext.st E86 F92 (by simp; omega)
    have G97:Fr (b19::L) w57 w92:=G90.stp F92 (upc (.inl mH) (fun m hm=>by cases hm))
    have B92':Blk w92 b19 _ [str d0.key,.int .i64 x57.1.kind,.int .i64 x57.1.time,.int .i64 x57.1.node,.bool x57.1.dead,str x57.1.text,.slice A67 x57.1.plus.length c68,.slice A70 x57.1.minus.length c71,.int .u64 x57.1.flags]:=B92
    refine o_w (v:=.int .i64 0) (r_asg rfl) ?_
    refine eo_nil_sq ?_
    refine ec_ret ?_
    subst h
    exact (endr2 (rv_a rfl (agg_api_Entry) B92' (vs:=[str d0.key,.int .i64 x57.1.kind,.int .i64 x57.1.time,.int .i64 x57.1.node,.bool x57.1.dead,str x57.1.text,.slice A67 x57.1.plus.length c68,.slice A70 x57.1.minus.length c71,.int .u64 x57.1.flags]) rfl rfl) (rv_t rfl) ⟨_,rfl,E93,_,rfl,(kEnt_mk (d:=(⟨d0.key,x57.1⟩:Ent)) (H69.up G97 sI (fun m hm=>Or.inl (mT hm))) (H72.up G97 sI (fun m hm=>Or.inl (mT hm))))⟩)
def law07_Few_raw (d0:Ent) (y:Bool):Prop :=
 y=((fewV d0.val)&&(decide ((d0.key.length:Int)≤100)))
set_option maxRecDepth 20000 in
set_option maxHeartbeats 4000000 in
theorem law07_Few_c {L:List Nat} {w:World} {csP0:List Value} (d0:Ent) (HP0:Stb L w (fun w=>kEnt.r w csP0 d0)) (hL:Lt L w) {y:Bool} (h:law07_Few_raw d0 y) :
  Calls Try.prog 29 [.agg csP0.toArray].toArray w (Ret fun v w'=>Ext w w'∧v=.bool y):=by
 obtain ⟨A1,c2,A4,c5,rfl,H3,H6⟩:=kEnt_open HP0
 unfold law07_Few_raw at h
 refine calls_ec Try.func29 rfl rfl rfl ?_
 refine ec_sr ?_
 refine o_box (cs:=(cEnt d0 A1 c2 A4 c5)) rfl rfl rfl ?_
 intro b7 w7 e7 F7 B7
 have S7:=B7.stb (nin hL e7)
 have G8:Fr L w w7:=Fr.ext F7
 refine o_w (v:=.bool false) (r_asg rfl) ?_
 refine eo_r ?_
 refine o_w (v:=.pointer (some ⟨b7,1,none⟩)) (r_fa fld_api_Entry_1 rfl rfl) ?_
 refine o_w (v:=.agg (cVal d0.val A1 c2 A4 c5).toArray) (r_lda agg_api_Value rfl (vs:=(cVal d0.val A1 c2 A4 c5)) rfl (S7.now.part (n:=8) rfl)) ?_
 refine o_call cf_law06_Few rfl (law06_Few_c d0.val (kVal_mk (d:=d0.val) (H3.fr G8 sI) (H6.fr G8 sI)) (hL.fr F7) (few_ev d0.val)) rfl rfl ?_
 rintro _ w9 ⟨F9,rfl⟩
 have E10:=F7.trans F9
 have G12:Fr L w7 w9:=Fr.ext F9
 refine o_w (v:=.bool (fewV d0.val)) (r_asg rfl) ?_
 refine eo_r ?_
 iterate 2 refine o_w (v:=.bool (fewV d0.val)) (r_mov rfl) ?_
 refine o_vg (v:=.pointer (some ⟨b7,0,none⟩)) (want_ct (t:=8) rfl rfl) (fun hk=>(r_fa fld_api_Entry_0 rfl rfl)) rfl rfl ?_
 refine o_vg (v:=str d0.key) (want_ct (t:=8) rfl rfl) (fun hk=>(r_ld one_string (gdT hk) ((S7.fr G12 sI).now.cell rfl))) rfl rfl ?_
 refine o_vg (v:=.int .i64 (d0.key.length:Int)) (want_ct (t:=8) rfl rfl) (fun hk=>(r_len_str un_string (gdT hk))) rfl rfl ?_
 refine o_vg (v:=.bool (decide ((d0.key.length:Int)≤100))) (want_ct (t:=8) rfl rfl) (fun hk=>(r_int (gdT hk) rfl rfl)) rfl rfl ?_
 refine o_w (v:=.bool ((fewV d0.val)&&(decide ((d0.key.length:Int)≤100)))) (r_pickAnd rfl (fun ht=>(gdT ht)) rfl) ?_
 refine o_w (v:=.bool ((fewV d0.val)&&(decide ((d0.key.length:Int)≤100)))) (r_asg rfl) ?_
 refine eo_nil_sq ?_
 refine ec_ret ?_
 subst h
 exact (end1 rfl ⟨_,rfl,E10,rfl⟩)
def law08_Entries_b1 (d0:(List Ent)) (d1:Int) (s1:Int) (z1:(Int) ⊕ ((Int) ⊕ (Bool))):Prop :=
 (((decide (s1<(d0.length:Int)))&&(decide (s1≤d1)))=true→((0≤s1∧s1<(d0.length:Int))∧(∃ x15,law07_Few_raw (nth d0 s1) x15∧(((!x15)=true→(z1=.inr (.inr false)))∧((!x15)=false→(z1=.inl (IntKind.i64.wrap (s1 + (1:Int)))))))))∧(((decide (s1<(d0.length:Int)))&&(decide (s1≤d1)))=false→(z1=.inr (.inl s1)))
def law08_Entries_raw (d0:(List Ent)) (d1:Int) (y:Bool):Prop :=
 ∃ x1,LoopR (law08_Entries_b1 d0 d1) (0:Int) x1∧(∀ sx1,x1=.inl sx1→(y=(decide ((d0.length:Int)≤d1))))∧(∀ y1,x1=.inr y1→(y=y1))
set_option maxRecDepth 20000 in
set_option maxHeartbeats 4000000 in
theorem law08_Entries_c {L:List Nat} {w:World} {AP0:Option Addr} {cP0:Nat} (d0:(List Ent)) (HP0:Stb L w (fun w=>SlC kEnt w AP0 cP0 d0)) (d1:Int) (hL:Lt L w) {y:Bool} (h:law08_Entries_raw d0 d1 y) :
  Calls Try.prog 30 [.slice AP0 d0.length cP0,.int .i64 d1].toArray w (Ret fun v w'=>Ext w w'∧v=.bool y):=by
 unfold law08_Entries_raw at h
 refine calls_ec Try.func30 rfl rfl rfl ?_
 refine ec_sr ?_
 refine o_w (v:=.bool false) (r_asg rfl) ?_
 refine eo_nil_sq ?_
 refine ec_seq ?_
 refine ec_sr ?_
 refine o_w (v:=.int .i64 0) (r_asg rfl) ?_
 refine eo_nil_sq ?_
 refine ec_block ?_
 obtain ⟨x1,hl1,h⟩:=h
 refine ec_loopER 0 (I:=(fun (s1:Int) ρ ds w'=>∃ (ρ':Env),ρ=envs ρ' [(5,.int .i64 s1),(0,.slice AP0 d0.length cP0),(1,.int .i64 d1)]∧ds=[]∧Fr L w w'∧Ext w w')) (J:=(fun (y':Bool) ρ ds wz=>bodyE Try.prog #[.tmp 4] (Ret fun v w'=>Ext w w'∧v=.bool y') .ret ρ ds wz)) ?_ hl1 ?_ ?_ ?_
 ·intro s1 z1 ρ1 ds1 w1r hI1 hb1
  obtain ⟨ρ1r,rfl,rfl,F1r,E1r⟩:=hI1
  have h:=hb1
  unfold law08_Entries_b1 at h
  have G2:Fr L w w1r:=(Fr.refl _ _).stp F1r (fun _ h=>.inl h)
  refine ec_seq ?_
  refine ec_sr ?_
  refine o_w (v:=.int .i64 s1) (r_mov rfl) ?_
  refine o_w (v:=.slice AP0 d0.length cP0) (r_mov rfl) ?_
  refine o_w (v:=.int .i64 (d0.length:Int)) (r_len_slc un_s_api_Entry rfl) ?_
  refine o_w (v:=.bool (decide (s1<(d0.length:Int)))) (r_int rfl rfl rfl) ?_
  refine o_w (v:=.bool (decide (s1<(d0.length:Int)))) (r_mov rfl) ?_
  refine o_vg (v:=.int .i64 s1) (want_ct (t:=11) rfl rfl) (fun hk=>(r_mov rfl)) rfl rfl ?_
  refine o_vg (v:=.int .i64 d1) (want_ct (t:=11) rfl rfl) (fun hk=>(r_mov rfl)) rfl rfl ?_
  refine o_vg (v:=.bool (decide (s1≤d1))) (want_ct (t:=11) rfl rfl) (fun hk=>(r_int (gdT hk) (gdT hk) rfl)) rfl rfl ?_
  refine o_w (v:=.bool ((decide (s1<(d0.length:Int)))&&(decide (s1≤d1)))) (r_pickAnd rfl (fun ht=>(gdT ht)) rfl) ?_
  refine eo_nil_sq ?_
  refine ec_cond rfl (fun hc3=>?_) (fun hc3=>?_)
  ·replace h:=h.1 hc3
   refine ec_skip ?_
   refine sq_n ?_
   refine ec_seq ?_
   refine ec_block ?_
   refine ec_sr ?_
   refine o_w (v:=.slice AP0 d0.length cP0) (r_mov rfl) ?_
   refine o_w (v:=.int .i64 s1) (r_mov rfl) ?_
   obtain ⟨ha4,h⟩:=h
   obtain ⟨cs5,l7,H6⟩:=Stb.elem (by decide) (HP0.fr G2 sI) s1 ha4.1 ha4.2
   obtain ⟨A9,c10,A12,c13,rfl,H8,H11,H14⟩:=kEnt_open2 H6
   refine o_w (v:=.pointer (some (elemA AP0 kEnt.n s1.toNat))) (r_ia slc_s_api_Entry rfl rfl ((HP0.fr G2 sI).now.2 _ (lt_toNat ha4.1 ha4.2)).1 ha4.1 ha4.2) ?_
   refine o_w (v:=.agg (cEnt (nth d0 s1) A9 c10 A12 c13).toArray) (r_lda' agg_api_Entry rfl (elemA_spot _ _ _) (vs:=(cEnt (nth d0 s1) A9 c10 A12 c13)) rfl (H8.now.1)) ?_
   obtain ⟨x15,hx15,h⟩:=h
   refine o_call cf_law07_Few rfl (law07_Few_c (nth d0 s1) (kEnt_mk (d:=(nth d0 s1)) H11 H14) (hL.fr E1r) hx15) rfl rfl ?_
   rintro _ w15 ⟨F15,rfl⟩
   have E16:=E1r.trans F15
   refine o_w (v:=.bool x15) (r_asg rfl) ?_
   refine eo_r ?_
   refine o_w (v:=.bool x15) (r_mov rfl) ?_
   refine o_w (v:=.bool (!x15)) (r_not rfl) ?_
   refine eo_nil_sq ?_
   refine ec_cond rfl (fun hc20=>?_) (fun hc20=>?_)
   ·replace h:=h.1 hc20
    refine ec_sr ?_
    refine o_w (v:=.bool false) (r_asg rfl) ?_
    refine eo_nil_sq ?_
    refine ec_ret ?_
    refine blk_ret ?_
    refine sq_ret ?_
    subst h
    exact lqR_r (end1 rfl ⟨_,rfl,E16,rfl⟩)
   ·replace h:=h.2 hc20
    refine ec_skip ?_
    refine blk_n ?_
    refine sq_n ?_
    refine ec_region ?_
    refine o_w (v:=.int .i64 s1) (r_mov rfl) ?_
    refine o_w (v:=.int .i64 (IntKind.i64.wrap (s1 + (1:Int)))) (r_int rfl rfl rfl) ?_
    refine o_w (v:=.int .i64 (IntKind.i64.wrap (s1 + (1:Int)))) (r_asg rfl) ?_
    refine eo_nil ?_
    subst h
    exact lqR_n ⟨_,envs_self ⟨rfl,rfl,rfl,trivial⟩,rfl,(F1r.trans (Fr.ext F15)),E16⟩
  ·replace h:=h.2 hc3
   refine ec_exit ?_
   refine sq_exit ?_
   subst h
   exact lqR_x ⟨_,envs_self ⟨rfl,rfl,rfl,trivial⟩,rfl,F1r,E1r⟩
 ·exact ⟨_,envs_self ⟨rfl,rfl,rfl,trivial⟩,rfl,(Fr.refl _ _),(Fr.refl _ _)⟩
 ·rintro sx1 rfl ρ1e ds1e w1e ⟨ρ1e,rfl,rfl,F1e,E1e⟩
  replace h:=h.1 _ rfl
  refine blk_hit ?_
  refine sq_n ?_
  refine ec_sr ?_
  refine o_w (v:=.slice AP0 d0.length cP0) (r_mov rfl) ?_
  refine o_w (v:=.int .i64 (d0.length:Int)) (r_len_slc un_s_api_Entry rfl) ?_
  refine o_w (v:=.int .i64 d1) (r_mov rfl) ?_
  refine o_w (v:=.bool (decide ((d0.length:Int)≤d1))) (r_int rfl rfl rfl) ?_
  refine o_w (v:=.bool (decide ((d0.length:Int)≤d1))) (r_asg rfl) ?_
  refine eo_nil_sq ?_
  refine ec_ret ?_
  subst h
  exact (end1 rfl ⟨_,rfl,E1e,rfl⟩)
 ·rintro y1 rfl ρ1q ds1q w1q hJ
  have hy:=h.2 _ rfl
  subst hy
  refine blk_ret ?_
  refine sq_ret ?_
  exact hJ
def law08_Few_raw (d0:Arena) (y:Bool):Prop :=
 ∃ x9,law08_Entries_raw d0.slots (12:Int) x9∧(y=(x9&&(decide ((d0.idx.length:Int)≤40))))
set_option maxRecDepth 20000 in
set_option maxHeartbeats 4000000 in
theorem law08_Few_c {L:List Nat} {w:World} {csP0:List Value} (d0:Arena) (HP0:Stb L w (fun w=>kArena.r w csP0 d0)) (hL:Lt L w) {y:Bool} (h:law08_Few_raw d0 y) :
  Calls Try.prog 11 [.agg csP0.toArray].toArray w (Ret fun v w'=>Ext w w'∧v=.bool y):=by
 obtain ⟨A1,c2,A4,c5,rfl,H3,H6⟩:=kArena_open HP0
 unfold law08_Few_raw at h
 refine calls_ec Try.func11 rfl rfl rfl ?_
 refine ec_sr ?_
 refine o_box (cs:=(cArena d0 A1 c2 A4 c5)) rfl rfl rfl ?_
 intro b7 w7 e7 F7 B7
 have S7:=B7.stb (nin hL e7)
 have G8:Fr L w w7:=Fr.ext F7
 refine o_w (v:=.bool false) (r_asg rfl) ?_
 refine eo_r ?_
 refine o_w (v:=.pointer (some ⟨b7,1,none⟩)) (r_fa fld_api_Arena_1 rfl rfl) ?_
 refine o_w (v:=.slice A1 d0.slots.length c2) (r_ld one_s_api_Entry rfl (S7.now.cell rfl)) ?_
 obtain ⟨x9,hx9,h⟩:=h
 refine o_call cf_law08_Entries rfl (law08_Entries_c d0.slots (H3.fr G8 sI) (12:Int) (hL.fr F7) hx9) rfl rfl ?_
 rintro _ w9 ⟨F9,rfl⟩
 have E10:=F7.trans F9
 have G12:Fr L w7 w9:=Fr.ext F9
 refine o_w (v:=.bool x9) (r_asg rfl) ?_
 refine eo_r ?_
 iterate 2 refine o_w (v:=.bool x9) (r_mov rfl) ?_
 refine o_vg (v:=.pointer (some ⟨b7,2,none⟩)) (want_ct (t:=8) rfl rfl) (fun hk=>(r_fa fld_api_Arena_2 rfl rfl)) rfl rfl ?_
 refine o_vg (v:=.slice A4 d0.idx.length c5) (want_ct (t:=8) rfl rfl) (fun hk=>(r_ld one_s_int (gdT hk) ((S7.fr G12 sI).now.cell rfl))) rfl rfl ?_
 refine o_vg (v:=.int .i64 (d0.idx.length:Int)) (want_ct (t:=8) rfl rfl) (fun hk=>(r_len_slc un_s_int (gdT hk))) rfl rfl ?_
 refine o_vg (v:=.bool (decide ((d0.idx.length:Int)≤40))) (want_ct (t:=8) rfl rfl) (fun hk=>(r_int (gdT hk) rfl rfl)) rfl rfl ?_
 refine o_w (v:=.bool (x9&&(decide ((d0.idx.length:Int)≤40)))) (r_pickAnd rfl (fun ht=>(gdT ht)) rfl) ?_
 refine o_w (v:=.bool (x9&&(decide ((d0.idx.length:Int)≤40)))) (r_asg rfl) ?_
 refine eo_nil_sq ?_
 refine ec_ret ?_
 subst h
 exact (end1 rfl ⟨_,rfl,E10,rfl⟩)
end Go.Proofs.Ythifkdgljapmeaa
