import Derived.Test.YtdfjbkoimpjkaaaGreatCt2
import Derived.Test.YtdfjbkoimpjkaaaGreatSl
namespace Go.Proofs.YtdfjbkoimpjkaaaGreat
open Go Go.RowKit
set_option linter.unusedVariables false
set_option linter.unusedSimpArgs false
def ref07_Check_raw (d0:Ent) (y:Bool):Prop :=
 (((decide (1≤(d0.key.length:Int)))&&(decide ((d0.key.length:Int)≤8)))=true→sm d0.val)∧(y=(((decide (1≤(d0.key.length:Int)))&&(decide ((d0.key.length:Int)≤8)))&&(okV d0.val)))
set_option maxRecDepth 20000 in
set_option maxHeartbeats 4000000 in
theorem ref07_Check_c {L:List Nat} {w:World} {csP0:List Value} (d0:Ent) (HP0:Stb L w (fun w=>kEnt.r w csP0 d0)) (hL:Lt L w) {y:Bool} (h:ref07_Check_raw d0 y) :
  Calls Tryz.prog 53 [.agg csP0.toArray].toArray w (Ret fun v w'=>Ext w w'∧v=.bool y):=by
 obtain ⟨A1,c2,A4,c5,rfl,H3,H6⟩:=kEnt_open HP0
 unfold ref07_Check_raw at h
 refine calls_ec Tryz.func53 rfl rfl rfl ?_
 refine ec_sr ?_
 refine o_box (cs:=(cEnt d0 A1 c2 A4 c5)) rfl rfl rfl ?_
 intro b7 w7 e7 F7 B7
 have S7:=B7.stb (nin hL e7)
 have G8:Fr L w w7:=Fr.ext F7
 refine o_w (v:=.bool false) (r_asg rfl) ?_
 refine eo_r ?_
 refine o_w (v:=.pointer (some ⟨b7,0,none⟩)) (r_fa fld_api_Entry_0 rfl rfl) ?_
 refine o_w (v:=str d0.key) (r_ld one_string rfl (S7.now.cell rfl)) ?_
 refine o_w (v:=.int .i64 (d0.key.length:Int)) (r_len_str un_string rfl) ?_
 refine o_w (v:=.bool (decide (1≤(d0.key.length:Int)))) (r_int rfl rfl rfl) ?_
 refine o_w (v:=.bool (decide (1≤(d0.key.length:Int)))) (r_mov rfl) ?_
 refine o_vg (v:=.pointer (some ⟨b7,0,none⟩)) (want_ct (t:=7) rfl rfl) (fun hk=>(r_fa fld_api_Entry_0 rfl rfl)) rfl rfl ?_
 refine o_vg (v:=str d0.key) (want_ct (t:=7) rfl rfl) (fun hk=>(r_ld one_string (gdT hk) (S7.now.cell rfl))) rfl rfl ?_
 refine o_vg (v:=.int .i64 (d0.key.length:Int)) (want_ct (t:=7) rfl rfl) (fun hk=>(r_len_str un_string (gdT hk))) rfl rfl ?_
 refine o_vg (v:=.bool (decide ((d0.key.length:Int)≤8))) (want_ct (t:=7) rfl rfl) (fun hk=>(r_int (gdT hk) rfl rfl)) rfl rfl ?_
 refine o_w (v:=.bool ((decide (1≤(d0.key.length:Int)))&&(decide ((d0.key.length:Int)≤8)))) (r_pickAnd rfl (fun ht=>(gdT ht)) rfl) ?_
 refine o_w (v:=.bool ((decide (1≤(d0.key.length:Int)))&&(decide ((d0.key.length:Int)≤8)))) (r_mov rfl) ?_
 refine o_vg (v:=.pointer (some ⟨b7,1,none⟩)) (want_ct (t:=13) rfl rfl) (fun hk=>(r_fa fld_api_Entry_1 rfl rfl)) rfl rfl ?_
 refine o_vg (v:=.agg (cVal d0.val A1 c2 A4 c5).toArray) (want_ct (t:=13) rfl rfl) (fun hk=>(r_lda agg_api_Value (gdT hk) (vs:=(cVal d0.val A1 c2 A4 c5)) rfl (S7.now.part (n:=8) rfl))) rfl rfl ?_
 obtain ⟨ha11,h⟩:=h
 refine o_callg (V:=.bool (okV d0.val)) cf_ref06_Check (want_ct (t:=13) rfl rfl) (fun hk=>(mapv1 (gdT hk))) (fun hk=>(ref06_Check_c d0.val (kVal_mk (d:=d0.val) (H3.fr G8 sI) (H6.fr G8 sI)) (hL.fr F7) (refCheck_ev d0.val (ha11 hk)))) rfl ?_
 intro w10 F10
 have E12:=F7.trans F10
 refine o_w (v:=.bool (((decide (1≤(d0.key.length:Int)))&&(decide ((d0.key.length:Int)≤8)))&&(okV d0.val))) (r_pickAnd rfl (fun ht=>(gdT ht)) rfl) ?_
 refine o_w (v:=.bool (((decide (1≤(d0.key.length:Int)))&&(decide ((d0.key.length:Int)≤8)))&&(okV d0.val))) (r_asg rfl) ?_
 refine eo_nil_sq ?_
 refine ec_ret ?_
 subst h
 exact (end1 rfl ⟨_,rfl,E12,rfl⟩)
def ref07_Same_raw (d0:Ent) (d1:Ent) (y:Bool):Prop :=
 ((d0.key==d1.key)=true→sm d0.val)∧(y=((d0.key==d1.key)&&(sameV d0.val d1.val)))
set_option maxRecDepth 20000 in
set_option maxHeartbeats 4000000 in
theorem ref07_Same_c {L:List Nat} {w:World} {csP0:List Value} (d0:Ent) (HP0:Stb L w (fun w=>kEnt.r w csP0 d0)) {csP1:List Value} (d1:Ent) (HP1:Stb L w (fun w=>kEnt.r w csP1 d1)) (hL:Lt L w) {y:Bool} (h:ref07_Same_raw d0 d1 y) :
  Calls Tryz.prog 68 [.agg csP0.toArray,.agg csP1.toArray].toArray w (Ret fun v w'=>Ext w w'∧v=.bool y):=by
 obtain ⟨A1,c2,A4,c5,rfl,H3,H6⟩:=kEnt_open HP0
 obtain ⟨A7,c8,A10,c11,rfl,H9,H12⟩:=kEnt_open HP1
 unfold ref07_Same_raw at h
 refine calls_ec Tryz.func68 rfl rfl rfl ?_
 refine ec_sr ?_
 refine o_box (cs:=(cEnt d0 A1 c2 A4 c5)) rfl rfl rfl ?_
 intro b13 w13 e13 F13 B13
 have S13:=B13.stb (nin hL e13)
 have G14:Fr L w w13:=Fr.ext F13
 refine o_box (cs:=(cEnt d1 A7 c8 A10 c11)) rfl rfl rfl ?_
 intro b15 w15 e15 F15 B15
 have S15:=B15.stb (nin (hL.fr F13) e15)
 have E16:=F13.trans F15
 have G18:Fr L w13 w15:=Fr.ext F15
 refine o_w (v:=.bool false) (r_asg rfl) ?_
 refine eo_r ?_
 refine o_w (v:=.pointer (some ⟨b13,0,none⟩)) (r_fa fld_api_Entry_0 rfl rfl) ?_
 refine o_w (v:=str d0.key) (r_ld one_string rfl ((S13.fr G18 sI).now.cell rfl)) ?_
 refine o_w (v:=.pointer (some ⟨b15,0,none⟩)) (r_fa fld_api_Entry_0 rfl rfl) ?_
 refine o_w (v:=str d1.key) (r_ld one_string rfl (S15.now.cell rfl)) ?_
 refine o_w (v:=.bool (d0.key==d1.key)) (r_str rfl rfl rfl) ?_
 refine o_w (v:=.bool (d0.key==d1.key)) (r_mov rfl) ?_
 refine o_vg (v:=.pointer (some ⟨b13,1,none⟩)) (want_ct (t:=10) rfl rfl) (fun hk=>(r_fa fld_api_Entry_1 rfl rfl)) rfl rfl ?_
 refine o_vg (v:=.agg (cVal d0.val A1 c2 A4 c5).toArray) (want_ct (t:=10) rfl rfl) (fun hk=>(r_lda agg_api_Value (gdT hk) (vs:=(cVal d0.val A1 c2 A4 c5)) rfl ((S13.fr G18 sI).now.part (n:=8) rfl))) rfl rfl ?_
 refine o_vg (v:=.pointer (some ⟨b15,1,none⟩)) (want_ct (t:=10) rfl rfl) (fun hk=>(r_fa fld_api_Entry_1 rfl rfl)) rfl rfl ?_
 refine o_vg (v:=.agg (cVal d1.val A7 c8 A10 c11).toArray) (want_ct (t:=10) rfl rfl) (fun hk=>(r_lda agg_api_Value (gdT hk) (vs:=(cVal d1.val A7 c8 A10 c11)) rfl (S15.now.part (n:=8) rfl))) rfl rfl ?_
 obtain ⟨ha21,h⟩:=h
 refine o_callg (V:=.bool (sameV d0.val d1.val)) cf_ref06_Same (want_ct (t:=10) rfl rfl) (fun hk=>(mapv2 (gdT hk) (gdT hk))) (fun hk=>(ref06_Same_c d0.val (kVal_mk (d:=d0.val) (H3.fr (G14.trans (Fr.ext F15)) sI) (H6.fr (G14.trans (Fr.ext F15)) sI)) d1.val (kVal_mk (d:=d1.val) (H9.fr (G14.trans (Fr.ext F15)) sI) (H12.fr (G14.trans (Fr.ext F15)) sI)) (hL.fr E16) (refSame_ev d0.val d1.val (ha21 hk)))) rfl ?_
 intro w20 F20
 have E22:=E16.trans F20
 refine o_w (v:=.bool ((d0.key==d1.key)&&(sameV d0.val d1.val))) (r_pickAnd rfl (fun ht=>(gdT ht)) rfl) ?_
 refine o_w (v:=.bool ((d0.key==d1.key)&&(sameV d0.val d1.val))) (r_asg rfl) ?_
 refine eo_nil_sq ?_
 refine ec_ret ?_
 subst h
 exact (end1 rfl ⟨_,rfl,E22,rfl⟩)
def ref07_All_b2 (d0:(List Ent)) (d1:(List Ent)) (s2:Int) (z2:(Int) ⊕ ((Int) ⊕ (Bool))):Prop :=
 ((decide (s2<(d0.length:Int)))=true→((0≤s2∧s2<(d0.length:Int))∧((0≤s2∧s2<(d1.length:Int))∧(∃ x50,ref07_Same_raw (nth d0 s2) (nth d1 s2) x50∧(((!x50)=true→(z2=.inr (.inr false)))∧((!x50)=false→(z2=.inl (IntKind.i64.wrap (s2 + (1:Int))))))))))∧((decide (s2<(d0.length:Int)))=false→(z2=.inr (.inl s2)))
def ref07_All_raw (d0:(List Ent)) (d1:(List Ent)) (y:Bool):Prop :=
 (((d0.length:Int) != (d1.length:Int))=true→(y=false))∧(((d0.length:Int) != (d1.length:Int))=false→(∃ x2,LoopR (ref07_All_b2 d0 d1) (0:Int) x2∧(∀ sx2,x2=.inl sx2→(y=true))∧(∀ y2,x2=.inr y2→(y=y2))))
set_option maxRecDepth 20000 in
set_option maxHeartbeats 4000000 in
theorem ref07_All_c {L:List Nat} {w:World} {AP0:Option Addr} {cP0:Nat} (d0:(List Ent)) (HP0:Stb L w (fun w=>SlC kEnt w AP0 cP0 d0)) {AP1:Option Addr} {cP1:Nat} (d1:(List Ent)) (HP1:Stb L w (fun w=>SlC kEnt w AP1 cP1 d1)) (hL:Lt L w) {y:Bool} (h:ref07_All_raw d0 d1 y) :
  Calls Tryz.prog 31 [.slice AP0 d0.length cP0,.slice AP1 d1.length cP1].toArray w (Ret fun v w'=>Ext w w'∧v=.bool y):=by
 unfold ref07_All_raw at h
 refine calls_ec Tryz.func31 rfl rfl rfl ?_
 refine ec_sr ?_
 refine o_w (v:=.bool false) (r_asg rfl) ?_
 refine eo_nil_sq ?_
 refine ec_seq ?_
 refine ec_sr ?_
 refine o_w (v:=.slice AP0 d0.length cP0) (r_mov rfl) ?_
 refine o_w (v:=.int .i64 (d0.length:Int)) (r_len_slc un_s_api_Entry rfl) ?_
 refine o_w (v:=.slice AP1 d1.length cP1) (r_mov rfl) ?_
 refine o_w (v:=.int .i64 (d1.length:Int)) (r_len_slc un_s_api_Entry rfl) ?_
 refine o_w (v:=.bool ((d0.length:Int) != (d1.length:Int))) (r_int rfl rfl rfl) ?_
 refine eo_nil_sq ?_
 refine ec_cond rfl (fun hc1=>?_) (fun hc1=>?_)
 ·replace h:=h.1 hc1
  refine ec_sr ?_
  refine o_w (v:=.bool false) (r_asg rfl) ?_
  refine eo_nil_sq ?_
  refine ec_ret ?_
  refine sq_ret ?_
  subst h
  exact (end1 rfl ⟨_,rfl,(Fr.refl _ _),rfl⟩)
 ·replace h:=h.2 hc1
  refine ec_skip ?_
  refine sq_n ?_
  refine ec_seq ?_
  refine ec_sr ?_
  refine o_w (v:=.int .i64 0) (r_asg rfl) ?_
  refine eo_nil_sq ?_
  refine ec_block ?_
  obtain ⟨x2,hl2,h⟩:=h
  refine ec_loopER 0 (I:=(fun (s2:Int) ρ ds w'=>∃ (ρ':Env),ρ=envs ρ' [(5,.int .i64 s2),(0,.slice AP0 d0.length cP0),(1,.slice AP1 d1.length cP1)]∧ds=[]∧Fr L w w'∧Ext w w')) (J:=(fun (y':Bool) ρ ds wz=>bodyE Tryz.prog #[.tmp 4] (Ret fun v w'=>Ext w w'∧v=.bool y') .ret ρ ds wz)) ?_ hl2 ?_ ?_ ?_
  ·intro s2 z2 ρ2 ds2 w2r hI2 hb2
   obtain ⟨ρ2r,rfl,rfl,F2r,E2r⟩:=hI2
   have h:=hb2
   unfold ref07_All_b2 at h
   have G3:Fr L w w2r:=(Fr.refl _ _).stp F2r (fun _ h=>.inl h)
   refine ec_seq ?_
   refine ec_sr ?_
   refine o_w (v:=.int .i64 s2) (r_mov rfl) ?_
   refine o_w (v:=.slice AP0 d0.length cP0) (r_mov rfl) ?_
   refine o_w (v:=.int .i64 (d0.length:Int)) (r_len_slc un_s_api_Entry rfl) ?_
   refine o_w (v:=.bool (decide (s2<(d0.length:Int)))) (r_int rfl rfl rfl) ?_
   refine eo_nil_sq ?_
   refine ec_cond rfl (fun hc4=>?_) (fun hc4=>?_)
   ·replace h:=h.1 hc4
    refine ec_skip ?_
    refine sq_n ?_
    refine ec_seq ?_
    refine ec_block ?_
    refine ec_seq ?_
    obtain ⟨ha28,h⟩:=h
    obtain ⟨cs29,l31,H30⟩:=Stb.elem (by decide) (HP0.fr G3 sI) s2 ha28.1 ha28.2
    obtain ⟨A33,c34,A36,c37,rfl,H32,H35,H38⟩:=kEnt_open2 H30
    obtain ⟨ha39,h⟩:=h
    obtain ⟨cs40,l42,H41⟩:=Stb.elem (by decide) (HP1.fr G3 sI) s2 ha39.1 ha39.2
    obtain ⟨A44,c45,A47,c48,rfl,H43,H46,H49⟩:=kEnt_open2 H41
    obtain ⟨x50,hx50,h⟩:=h
    refine ec_any0 (by kernel_rfl) [[],[],[0,1],[0,1,2],[],[],[4,5],[4,5,6],[0,1,2,3,4,5,6,7],[0,1,2,3,4,5,6,7,8]] [17,18,19,20,21,22,23,24,25,26] [fun v _=>v=(.slice AP0 d0.length cP0:Value),fun v _=>v=(.int .i64 s2:Value),fun v _=>v=(.pointer (some (elemA AP0 kEnt.n s2.toNat)):Value),fun v _=>v=(.agg (cEnt (nth d0 s2) A33 c34 A36 c37).toArray:Value),fun v _=>v=(.slice AP1 d1.length cP1:Value),fun v _=>v=(.int .i64 s2:Value),fun v _=>v=(.pointer (some (elemA AP1 kEnt.n s2.toNat)):Value),fun v _=>v=(.agg (cEnt (nth d1 s2) A44 c45 A47 c48).toArray:Value),fun v _=>v=(.bool x50:Value),fun v _=>v=(.bool (!x50):Value)] (by kernel_rfl) ⟨fun _ _ _ _ _ h=>h,fun _ _ _ _ _ h=>h,fun _ _ _ _ _ h=>h,fun _ _ _ _ _ h=>h,fun _ _ _ _ _ h=>h,fun _ _ _ _ _ h=>h,fun _ _ _ _ _ h=>h,fun _ _ _ _ _ h=>h,fun _ _ _ _ _ h=>h,fun _ _ _ _ _ h=>h,trivial⟩ ?_ ?_
    ·refine ⟨?_,?_,?_,?_,?_,?_,?_,?_,?_,?_,trivial⟩
     ·intro ρ w27o F27o hS hρ
      have q0:ρ 0=.slice AP0 d0.length cP0:=hρ 0 (by kernel_rfl)
      exact o_q (r_mov q0) ⟨Fr.refl _ _,rfl⟩
     ·intro ρ w27o F27o hS hρ
      have q5:ρ 5=.int .i64 s2:=hρ 5 (by kernel_rfl)
      exact o_q (r_mov q5) ⟨Fr.refl _ _,rfl⟩
     ·intro ρ w27o F27o hS hρ
      have q17:ρ 17=.slice AP0 d0.length cP0:=hS 0 (by decide) 17 rfl
      have q18:ρ 18=.int .i64 s2:=hS 1 (by decide) 18 rfl
      exact o_q (r_ia slc_s_api_Entry q17 q18 ((HP0.fr (G3.trans (Fr.ext F27o)) sI).now.2 _ (lt_toNat ha28.1 ha28.2)).1 ha28.1 ha28.2) ⟨Fr.refl _ _,rfl⟩
     ·intro ρ w27o F27o hS hρ
      have G58:Fr L w2r w27o:=Fr.ext F27o
      have q19:ρ 19=.pointer (some (elemA AP0 kEnt.n s2.toNat)):=hS 2 (by decide) 19 rfl
      exact o_q (r_lda' agg_api_Entry q19 (elemA_spot _ _ _) (vs:=(cEnt (nth d0 s2) A33 c34 A36 c37)) rfl ((H32.fr G58 sI).now.1)) ⟨Fr.refl _ _,rfl⟩
     ·intro ρ w27o F27o hS hρ
      have q1:ρ 1=.slice AP1 d1.length cP1:=hρ 1 (by kernel_rfl)
      exact o_q (r_mov q1) ⟨Fr.refl _ _,rfl⟩
     ·intro ρ w27o F27o hS hρ
      have q5:ρ 5=.int .i64 s2:=hρ 5 (by kernel_rfl)
      exact o_q (r_mov q5) ⟨Fr.refl _ _,rfl⟩
     ·intro ρ w27o F27o hS hρ
      have q21:ρ 21=.slice AP1 d1.length cP1:=hS 4 (by decide) 21 rfl
      have q22:ρ 22=.int .i64 s2:=hS 5 (by decide) 22 rfl
      exact o_q (r_ia slc_s_api_Entry q21 q22 ((HP1.fr (G3.trans (Fr.ext F27o)) sI).now.2 _ (lt_toNat ha39.1 ha39.2)).1 ha39.1 ha39.2) ⟨Fr.refl _ _,rfl⟩
     ·intro ρ w27o F27o hS hρ
      have G66:Fr L w2r w27o:=Fr.ext F27o
      have q23:ρ 23=.pointer (some (elemA AP1 kEnt.n s2.toNat)):=hS 6 (by decide) 23 rfl
      exact o_q (r_lda' agg_api_Entry q23 (elemA_spot _ _ _) (vs:=(cEnt (nth d1 s2) A44 c45 A47 c48)) rfl ((H43.fr G66 sI).now.1)) ⟨Fr.refl _ _,rfl⟩
     ·intro ρ w27o F27o hS hρ
      have E67:=E2r.trans F27o
      have G70:Fr L w2r w27o:=Fr.ext F27o
      have q20:ρ 20=.agg (cEnt (nth d0 s2) A33 c34 A36 c37).toArray:=hS 3 (by decide) 20 rfl
      have q24:ρ 24=.agg (cEnt (nth d1 s2) A44 c45 A47 c48).toArray:=hS 7 (by decide) 24 rfl
      refine o_call cf_ref07_Same (by simp only [List.map,ev,q20,q24] <;> rfl) (ref07_Same_c (nth d0 s2) (kEnt_mk (d:=(nth d0 s2)) (H35.fr G70 sI) (H38.fr G70 sI)) (nth d1 s2) (kEnt_mk (d:=(nth d1 s2)) (H46.fr G70 sI) (H49.fr G70 sI)) (hL.fr E67) hx50) rfl rfl ?_
      rintro _ w' ⟨F,rfl⟩
      exact eo_nil ⟨rfl,rfl,_,rfl,F,rfl⟩
     ·intro ρ w27o F27o hS hρ
      have q25:ρ 25=.bool x50:=hS 8 (by decide) 25 rfl
      exact o_q (r_not q25) ⟨Fr.refl _ _,rfl⟩
    ·intro ρ w27 F27 hS hρ
     have q26:ρ 26=.bool (!x50):=hS 9 26 rfl
     obtain ⟨ρ',rfl⟩:∃ ρ',ρ=envs (ovr [17,18,19,20,21,22,23,24,25,26] ρ' _) [(26,.bool (!x50))]:=⟨ρ,ovr_self hρ ⟨q26,trivial⟩⟩
     have E71:=E2r.trans F27
     refine sq_n ?_
     refine ec_cond rfl (fun hc75=>?_) (fun hc75=>?_)
     ·replace h:=h.1 hc75
      refine ec_sr ?_
      refine o_w (v:=.bool false) (r_asg rfl) ?_
      refine eo_nil_sq ?_
      refine ec_ret ?_
      refine blk_ret ?_
      refine sq_ret ?_
      subst h
      exact lqR_r (end1 rfl ⟨_,rfl,E71,rfl⟩)
     ·replace h:=h.2 hc75
      refine ec_skip ?_
      refine blk_n ?_
      refine sq_n ?_
      refine ec_region ?_
      refine o_w (v:=.int .i64 s2) (r_mov rfl) ?_
      refine o_w (v:=.int .i64 (IntKind.i64.wrap (s2 + (1:Int)))) (r_int rfl rfl rfl) ?_
      refine o_w (v:=.int .i64 (IntKind.i64.wrap (s2 + (1:Int)))) (r_asg rfl) ?_
      refine eo_nil ?_
      subst h
      exact lqR_n ⟨_,envs_self ⟨rfl,rfl,rfl,trivial⟩,rfl,(F2r.trans (Fr.ext F27)),E71⟩
   ·replace h:=h.2 hc4
    refine ec_exit ?_
    refine sq_exit ?_
    subst h
    exact lqR_x ⟨_,envs_self ⟨rfl,rfl,rfl,trivial⟩,rfl,F2r,E2r⟩
  ·exact ⟨_,envs_self ⟨rfl,rfl,rfl,trivial⟩,rfl,(Fr.refl _ _),(Fr.refl _ _)⟩
  ·rintro sx2 rfl ρ2e ds2e w2e ⟨ρ2e,rfl,rfl,F2e,E2e⟩
   replace h:=h.1 _ rfl
   refine blk_hit ?_
   refine sq_n ?_
   refine ec_sr ?_
   refine o_w (v:=.bool true) (r_asg rfl) ?_
   refine eo_nil_sq ?_
   refine ec_ret ?_
   subst h
   exact (end1 rfl ⟨_,rfl,E2e,rfl⟩)
  ·rintro y2 rfl ρ2q ds2q w2q hJ
   have hy:=h.2 _ rfl
   subst hy
   refine blk_ret ?_
   refine sq_ret ?_
   exact hJ
def entry_Check_raw (d0:Ent) (y:Int):Prop :=
 (((d0.key==([]:Str))||(decide (8<(d0.key.length:Int))))=true→(y=(2:Int)))∧(((d0.key==([]:Str))||(decide (8<(d0.key.length:Int))))=false→((sm d0.val)∧(y=(checkV d0.val))))
set_option maxRecDepth 20000 in
set_option maxHeartbeats 4000000 in
theorem entry_Check_c {L:List Nat} {w:World} {csP0:List Value} (d0:Ent) (HP0:Stb L w (fun w=>kEnt.r w csP0 d0)) (hL:Lt L w) {y:Int} (h:entry_Check_raw d0 y) :
  Calls Tryz.prog 34 [.agg csP0.toArray].toArray w (Ret fun v w'=>Ext w w'∧v=.int .i64 y):=by
 obtain ⟨A1,c2,A4,c5,rfl,H3,H6⟩:=kEnt_open HP0
 unfold entry_Check_raw at h
 refine calls_ec Tryz.func34 rfl rfl rfl ?_
 refine ec_sr ?_
 refine o_box (cs:=(cEnt d0 A1 c2 A4 c5)) rfl rfl rfl ?_
 intro b7 w7 e7 F7 B7
 have S7:=B7.stb (nin hL e7)
 have G8:Fr L w w7:=Fr.ext F7
 refine o_w (v:=.int .i64 0) (r_asg rfl) ?_
 refine eo_nil_sq ?_
 refine ec_seq ?_
 refine ec_sr ?_
 refine o_w (v:=.pointer (some ⟨b7,0,none⟩)) (r_fa fld_api_Entry_0 rfl rfl) ?_
 refine o_w (v:=str d0.key) (r_ld one_string rfl (S7.now.cell rfl)) ?_
 refine o_w (v:=.bool (d0.key==([]:Str))) (r_str rfl rfl rfl) ?_
 refine o_w (v:=.bool (d0.key==([]:Str))) (r_mov rfl) ?_
 refine o_vg (v:=.pointer (some ⟨b7,0,none⟩)) (want_cf (t:=6) rfl rfl) (fun hk=>(r_fa fld_api_Entry_0 rfl rfl)) rfl rfl ?_
 refine o_vg (v:=str d0.key) (want_cf (t:=6) rfl rfl) (fun hk=>(r_ld one_string (gdT hk) (S7.now.cell rfl))) rfl rfl ?_
 refine o_vg (v:=.int .i64 (d0.key.length:Int)) (want_cf (t:=6) rfl rfl) (fun hk=>(r_len_str un_string (gdT hk))) rfl rfl ?_
 refine o_vg (v:=.bool (decide (8<(d0.key.length:Int)))) (want_cf (t:=6) rfl rfl) (fun hk=>(r_int (gdT hk) rfl rfl)) rfl rfl ?_
 refine o_w (v:=.bool ((d0.key==([]:Str))||(decide (8<(d0.key.length:Int))))) (r_pickOr rfl rfl (fun hf=>(gdT (notT hf)))) ?_
 refine eo_nil_sq ?_
 refine ec_cond rfl (fun hc9=>?_) (fun hc9=>?_)
 ·replace h:=h.1 hc9
  refine ec_sr ?_
  refine o_w (v:=.int .i64 2) (r_asg rfl) ?_
  refine eo_nil_sq ?_
  refine ec_ret ?_
  refine sq_ret ?_
  subst h
  exact (end1 rfl ⟨_,rfl,F7,rfl⟩)
 ·replace h:=h.2 hc9
  refine ec_skip ?_
  refine sq_n ?_
  refine ec_sr ?_
  refine o_w (v:=.pointer (some ⟨b7,1,none⟩)) (r_fa fld_api_Entry_1 rfl rfl) ?_
  refine o_w (v:=.agg (cVal d0.val A1 c2 A4 c5).toArray) (r_lda agg_api_Value rfl (vs:=(cVal d0.val A1 c2 A4 c5)) rfl (S7.now.part (n:=8) rfl)) ?_
  obtain ⟨ha11,h⟩:=h
  refine o_call cf_value_Check rfl (value_Check_c d0.val (kVal_mk (d:=d0.val) (H3.fr G8 sI) (H6.fr G8 sI)) (hL.fr F7) (valCheck_ev d0.val ha11)) rfl rfl ?_
  rintro _ w10 ⟨F10,rfl⟩
  have E12:=F7.trans F10
  refine o_w (v:=.int .i64 (checkV d0.val)) (r_asg rfl) ?_
  refine eo_nil_sq ?_
  refine ec_ret ?_
  subst h
  exact (end1 rfl ⟨_,rfl,E12,rfl⟩)
def entry_Same_raw (d0:Ent) (d1:Ent) (y:Bool):Prop :=
 ((d0.key==d1.key)=true→sm d0.val)∧(y=((d0.key==d1.key)&&(sameV d0.val d1.val)))
set_option maxRecDepth 20000 in
set_option maxHeartbeats 4000000 in
theorem entry_Same_c {L:List Nat} {w:World} {csP0:List Value} (d0:Ent) (HP0:Stb L w (fun w=>kEnt.r w csP0 d0)) {csP1:List Value} (d1:Ent) (HP1:Stb L w (fun w=>kEnt.r w csP1 d1)) (hL:Lt L w) {y:Bool} (h:entry_Same_raw d0 d1 y) :
  Calls Tryz.prog 37 [.agg csP0.toArray,.agg csP1.toArray].toArray w (Ret fun v w'=>Ext w w'∧v=.bool y):=by
 obtain ⟨A1,c2,A4,c5,rfl,H3,H6⟩:=kEnt_open HP0
 obtain ⟨A7,c8,A10,c11,rfl,H9,H12⟩:=kEnt_open HP1
 unfold entry_Same_raw at h
 refine calls_ec Tryz.func37 rfl rfl rfl ?_
 refine ec_sr ?_
 refine o_box (cs:=(cEnt d0 A1 c2 A4 c5)) rfl rfl rfl ?_
 intro b13 w13 e13 F13 B13
 have S13:=B13.stb (nin hL e13)
 have G14:Fr L w w13:=Fr.ext F13
 refine o_box (cs:=(cEnt d1 A7 c8 A10 c11)) rfl rfl rfl ?_
 intro b15 w15 e15 F15 B15
 have S15:=B15.stb (nin (hL.fr F13) e15)
 have E16:=F13.trans F15
 have G18:Fr L w13 w15:=Fr.ext F15
 refine o_w (v:=.bool false) (r_asg rfl) ?_
 refine eo_r ?_
 refine o_w (v:=.pointer (some ⟨b13,0,none⟩)) (r_fa fld_api_Entry_0 rfl rfl) ?_
 refine o_w (v:=str d0.key) (r_ld one_string rfl ((S13.fr G18 sI).now.cell rfl)) ?_
 refine o_w (v:=.pointer (some ⟨b15,0,none⟩)) (r_fa fld_api_Entry_0 rfl rfl) ?_
 refine o_w (v:=str d1.key) (r_ld one_string rfl (S15.now.cell rfl)) ?_
 refine o_w (v:=.bool (d0.key==d1.key)) (r_str rfl rfl rfl) ?_
 refine o_w (v:=.bool (d0.key==d1.key)) (r_mov rfl) ?_
 refine o_vg (v:=.pointer (some ⟨b13,1,none⟩)) (want_ct (t:=10) rfl rfl) (fun hk=>(r_fa fld_api_Entry_1 rfl rfl)) rfl rfl ?_
 refine o_vg (v:=.agg (cVal d0.val A1 c2 A4 c5).toArray) (want_ct (t:=10) rfl rfl) (fun hk=>(r_lda agg_api_Value (gdT hk) (vs:=(cVal d0.val A1 c2 A4 c5)) rfl ((S13.fr G18 sI).now.part (n:=8) rfl))) rfl rfl ?_
 refine o_vg (v:=.pointer (some ⟨b15,1,none⟩)) (want_ct (t:=10) rfl rfl) (fun hk=>(r_fa fld_api_Entry_1 rfl rfl)) rfl rfl ?_
 refine o_vg (v:=.agg (cVal d1.val A7 c8 A10 c11).toArray) (want_ct (t:=10) rfl rfl) (fun hk=>(r_lda agg_api_Value (gdT hk) (vs:=(cVal d1.val A7 c8 A10 c11)) rfl (S15.now.part (n:=8) rfl))) rfl rfl ?_
 obtain ⟨ha21,h⟩:=h
 refine o_callg (V:=.bool (sameV d0.val d1.val)) cf_value_Same (want_ct (t:=10) rfl rfl) (fun hk=>(mapv2 (gdT hk) (gdT hk))) (fun hk=>(value_Same_c d0.val (kVal_mk (d:=d0.val) (H3.fr (G14.trans (Fr.ext F15)) sI) (H6.fr (G14.trans (Fr.ext F15)) sI)) d1.val (kVal_mk (d:=d1.val) (H9.fr (G14.trans (Fr.ext F15)) sI) (H12.fr (G14.trans (Fr.ext F15)) sI)) (hL.fr E16) (valSame_ev d0.val d1.val (ha21 hk)))) rfl ?_
 intro w20 F20
 have E22:=E16.trans F20
 refine o_w (v:=.bool ((d0.key==d1.key)&&(sameV d0.val d1.val))) (r_pickAnd rfl (fun ht=>(gdT ht)) rfl) ?_
 refine o_w (v:=.bool ((d0.key==d1.key)&&(sameV d0.val d1.val))) (r_asg rfl) ?_
 refine eo_nil_sq ?_
 refine ec_ret ?_
 subst h
 exact (end1 rfl ⟨_,rfl,E22,rfl⟩)
def law07_Few_raw (d0:Ent) (y:Bool):Prop :=
 y=((fewV d0.val)&&(decide ((d0.key.length:Int)≤100)))
set_option maxRecDepth 20000 in
set_option maxHeartbeats 4000000 in
theorem law07_Few_c {L:List Nat} {w:World} {csP0:List Value} (d0:Ent) (HP0:Stb L w (fun w=>kEnt.r w csP0 d0)) (hL:Lt L w) {y:Bool} (h:law07_Few_raw d0 y) :
  Calls Tryz.prog 21 [.agg csP0.toArray].toArray w (Ret fun v w'=>Ext w w'∧v=.bool y):=by
 obtain ⟨A1,c2,A4,c5,rfl,H3,H6⟩:=kEnt_open HP0
 unfold law07_Few_raw at h
 refine calls_ec Tryz.func21 rfl rfl rfl ?_
 refine ec_sr ?_
 refine o_box (cs:=(cEnt d0 A1 c2 A4 c5)) rfl rfl rfl ?_
 intro b7 w7 e7 F7 B7
 have S7:=B7.stb (nin hL e7)
 have G8:Fr L w w7:=Fr.ext F7
 refine o_w (v:=.bool false) (r_asg rfl) ?_
 refine eo_r ?_
 refine o_w (v:=.pointer (some ⟨b7,1,none⟩)) (r_fa fld_api_Entry_1 rfl rfl) ?_
 refine o_w (v:=.agg (cVal d0.val A1 c2 A4 c5).toArray) (r_lda agg_api_Value rfl (vs:=(cVal d0.val A1 c2 A4 c5)) rfl (S7.now.part (n:=8) rfl)) ?_
 refine o_call cf_law06_Few rfl (law06_Few_c d0.val (kVal_mk (d:=d0.val) (H3.fr G8 sI) (H6.fr G8 sI)) (hL.fr F7) (few_ev d0.val)) rfl rfl ?_
 rintro _ w9 ⟨F9,rfl⟩
 have E10:=F7.trans F9
 have G12:Fr L w7 w9:=Fr.ext F9
 refine o_w (v:=.bool (fewV d0.val)) (r_asg rfl) ?_
 refine eo_r ?_
 iterate 2 refine o_w (v:=.bool (fewV d0.val)) (r_mov rfl) ?_
 refine o_vg (v:=.pointer (some ⟨b7,0,none⟩)) (want_ct (t:=8) rfl rfl) (fun hk=>(r_fa fld_api_Entry_0 rfl rfl)) rfl rfl ?_
 refine o_vg (v:=str d0.key) (want_ct (t:=8) rfl rfl) (fun hk=>(r_ld one_string (gdT hk) ((S7.fr G12 sI).now.cell rfl))) rfl rfl ?_
 refine o_vg (v:=.int .i64 (d0.key.length:Int)) (want_ct (t:=8) rfl rfl) (fun hk=>(r_len_str un_string (gdT hk))) rfl rfl ?_
 refine o_vg (v:=.bool (decide ((d0.key.length:Int)≤100))) (want_ct (t:=8) rfl rfl) (fun hk=>(r_int (gdT hk) rfl rfl)) rfl rfl ?_
 refine o_w (v:=.bool ((fewV d0.val)&&(decide ((d0.key.length:Int)≤100)))) (r_pickAnd rfl (fun ht=>(gdT ht)) rfl) ?_
 refine o_w (v:=.bool ((fewV d0.val)&&(decide ((d0.key.length:Int)≤100)))) (r_asg rfl) ?_
 refine eo_nil_sq ?_
 refine ec_ret ?_
 subst h
 exact (end1 rfl ⟨_,rfl,E10,rfl⟩)
def law08_Entries_b1 (d0:(List Ent)) (d1:Int) (s1:Int) (z1:(Int) ⊕ ((Int) ⊕ (Bool))):Prop :=
 (((decide (s1<(d0.length:Int)))&&(decide (s1≤d1)))=true→((0≤s1∧s1<(d0.length:Int))∧(∃ x15,law07_Few_raw (nth d0 s1) x15∧(((!x15)=true→(z1=.inr (.inr false)))∧((!x15)=false→(z1=.inl (IntKind.i64.wrap (s1 + (1:Int)))))))))∧(((decide (s1<(d0.length:Int)))&&(decide (s1≤d1)))=false→(z1=.inr (.inl s1)))
def law08_Entries_raw (d0:(List Ent)) (d1:Int) (y:Bool):Prop :=
 ∃ x1,LoopR (law08_Entries_b1 d0 d1) (0:Int) x1∧(∀ sx1,x1=.inl sx1→(y=(decide ((d0.length:Int)≤d1))))∧(∀ y1,x1=.inr y1→(y=y1))
set_option maxRecDepth 20000 in
set_option maxHeartbeats 4000000 in
theorem law08_Entries_c {L:List Nat} {w:World} {AP0:Option Addr} {cP0:Nat} (d0:(List Ent)) (HP0:Stb L w (fun w=>SlC kEnt w AP0 cP0 d0)) (d1:Int) (hL:Lt L w) {y:Bool} (h:law08_Entries_raw d0 d1 y) :
  Calls Tryz.prog 10 [.slice AP0 d0.length cP0,.int .i64 d1].toArray w (Ret fun v w'=>Ext w w'∧v=.bool y):=by
 unfold law08_Entries_raw at h
 refine calls_ec Tryz.func10 rfl rfl rfl ?_
 refine ec_sr ?_
 refine o_w (v:=.bool false) (r_asg rfl) ?_
 refine eo_nil_sq ?_
 refine ec_seq ?_
 refine ec_sr ?_
 refine o_w (v:=.int .i64 0) (r_asg rfl) ?_
 refine eo_nil_sq ?_
 refine ec_block ?_
 obtain ⟨x1,hl1,h⟩:=h
 refine ec_loopER 0 (I:=(fun (s1:Int) ρ ds w'=>∃ (ρ':Env),ρ=envs ρ' [(5,.int .i64 s1),(0,.slice AP0 d0.length cP0),(1,.int .i64 d1)]∧ds=[]∧Fr L w w'∧Ext w w')) (J:=(fun (y':Bool) ρ ds wz=>bodyE Tryz.prog #[.tmp 4] (Ret fun v w'=>Ext w w'∧v=.bool y') .ret ρ ds wz)) ?_ hl1 ?_ ?_ ?_
 ·intro s1 z1 ρ1 ds1 w1r hI1 hb1
  obtain ⟨ρ1r,rfl,rfl,F1r,E1r⟩:=hI1
  have h:=hb1
  unfold law08_Entries_b1 at h
  have G2:Fr L w w1r:=(Fr.refl _ _).stp F1r (fun _ h=>.inl h)
  refine ec_seq ?_
  refine ec_sr ?_
  refine o_w (v:=.int .i64 s1) (r_mov rfl) ?_
  refine o_w (v:=.slice AP0 d0.length cP0) (r_mov rfl) ?_
  refine o_w (v:=.int .i64 (d0.length:Int)) (r_len_slc un_s_api_Entry rfl) ?_
  refine o_w (v:=.bool (decide (s1<(d0.length:Int)))) (r_int rfl rfl rfl) ?_
  refine o_w (v:=.bool (decide (s1<(d0.length:Int)))) (r_mov rfl) ?_
  refine o_vg (v:=.int .i64 s1) (want_ct (t:=11) rfl rfl) (fun hk=>(r_mov rfl)) rfl rfl ?_
  refine o_vg (v:=.int .i64 d1) (want_ct (t:=11) rfl rfl) (fun hk=>(r_mov rfl)) rfl rfl ?_
  refine o_vg (v:=.bool (decide (s1≤d1))) (want_ct (t:=11) rfl rfl) (fun hk=>(r_int (gdT hk) (gdT hk) rfl)) rfl rfl ?_
  refine o_w (v:=.bool ((decide (s1<(d0.length:Int)))&&(decide (s1≤d1)))) (r_pickAnd rfl (fun ht=>(gdT ht)) rfl) ?_
  refine eo_nil_sq ?_
  refine ec_cond rfl (fun hc3=>?_) (fun hc3=>?_)
  ·replace h:=h.1 hc3
   refine ec_skip ?_
   refine sq_n ?_
   refine ec_seq ?_
   refine ec_block ?_
   refine ec_sr ?_
   refine o_w (v:=.slice AP0 d0.length cP0) (r_mov rfl) ?_
   refine o_w (v:=.int .i64 s1) (r_mov rfl) ?_
   obtain ⟨ha4,h⟩:=h
   obtain ⟨cs5,l7,H6⟩:=Stb.elem (by decide) (HP0.fr G2 sI) s1 ha4.1 ha4.2
   obtain ⟨A9,c10,A12,c13,rfl,H8,H11,H14⟩:=kEnt_open2 H6
   refine o_w (v:=.pointer (some (elemA AP0 kEnt.n s1.toNat))) (r_ia slc_s_api_Entry rfl rfl ((HP0.fr G2 sI).now.2 _ (lt_toNat ha4.1 ha4.2)).1 ha4.1 ha4.2) ?_
   refine o_w (v:=.agg (cEnt (nth d0 s1) A9 c10 A12 c13).toArray) (r_lda' agg_api_Entry rfl (elemA_spot _ _ _) (vs:=(cEnt (nth d0 s1) A9 c10 A12 c13)) rfl (H8.now.1)) ?_
   obtain ⟨x15,hx15,h⟩:=h
   refine o_call cf_law07_Few rfl (law07_Few_c (nth d0 s1) (kEnt_mk (d:=(nth d0 s1)) H11 H14) (hL.fr E1r) hx15) rfl rfl ?_
   rintro _ w15 ⟨F15,rfl⟩
   have E16:=E1r.trans F15
   refine o_w (v:=.bool x15) (r_asg rfl) ?_
   refine eo_r ?_
   refine o_w (v:=.bool x15) (r_mov rfl) ?_
   refine o_w (v:=.bool (!x15)) (r_not rfl) ?_
   refine eo_nil_sq ?_
   refine ec_cond rfl (fun hc20=>?_) (fun hc20=>?_)
   ·replace h:=h.1 hc20
    refine ec_sr ?_
    refine o_w (v:=.bool false) (r_asg rfl) ?_
    refine eo_nil_sq ?_
    refine ec_ret ?_
    refine blk_ret ?_
    refine sq_ret ?_
    subst h
    exact lqR_r (end1 rfl ⟨_,rfl,E16,rfl⟩)
   ·replace h:=h.2 hc20
    refine ec_skip ?_
    refine blk_n ?_
    refine sq_n ?_
    refine ec_region ?_
    refine o_w (v:=.int .i64 s1) (r_mov rfl) ?_
    refine o_w (v:=.int .i64 (IntKind.i64.wrap (s1 + (1:Int)))) (r_int rfl rfl rfl) ?_
    refine o_w (v:=.int .i64 (IntKind.i64.wrap (s1 + (1:Int)))) (r_asg rfl) ?_
    refine eo_nil ?_
    subst h
    exact lqR_n ⟨_,envs_self ⟨rfl,rfl,rfl,trivial⟩,rfl,(F1r.trans (Fr.ext F15)),E16⟩
  ·replace h:=h.2 hc3
   refine ec_exit ?_
   refine sq_exit ?_
   subst h
   exact lqR_x ⟨_,envs_self ⟨rfl,rfl,rfl,trivial⟩,rfl,F1r,E1r⟩
 ·exact ⟨_,envs_self ⟨rfl,rfl,rfl,trivial⟩,rfl,(Fr.refl _ _),(Fr.refl _ _)⟩
 ·rintro sx1 rfl ρ1e ds1e w1e ⟨ρ1e,rfl,rfl,F1e,E1e⟩
  replace h:=h.1 _ rfl
  refine blk_hit ?_
  refine sq_n ?_
  refine ec_sr ?_
  refine o_w (v:=.slice AP0 d0.length cP0) (r_mov rfl) ?_
  refine o_w (v:=.int .i64 (d0.length:Int)) (r_len_slc un_s_api_Entry rfl) ?_
  refine o_w (v:=.int .i64 d1) (r_mov rfl) ?_
  refine o_w (v:=.bool (decide ((d0.length:Int)≤d1))) (r_int rfl rfl rfl) ?_
  refine o_w (v:=.bool (decide ((d0.length:Int)≤d1))) (r_asg rfl) ?_
  refine eo_nil_sq ?_
  refine ec_ret ?_
  subst h
  exact (end1 rfl ⟨_,rfl,E1e,rfl⟩)
 ·rintro y1 rfl ρ1q ds1q w1q hJ
  have hy:=h.2 _ rfl
  subst hy
  refine blk_ret ?_
  refine sq_ret ?_
  exact hJ

def okE (e:Ent):Bool:=decide (1≤e.key.length)&&(decide (e.key.length≤8)&&okV e.val)
def checkE (e:Ent):Int:=bif okE e then 0 else 2
def zeroE:Ent:=⟨[],zeroV⟩
def sameE (a b:Ent):Bool:=a.key==b.key&&sameV a.val b.val
def sml (l:List Ent):Prop:=l.length≤9223372036854775807∧∀ e∈l,sm e.val
theorem sameE_iff {a b:Ent}:sameE a b=true↔a=b:=by
 obtain ⟨_,_⟩:=a
 obtain ⟨_,_⟩:=b
 simp only [sameE,Bool.and_eq_true,beq_iff_eq,Ent.mk.injEq,sameV_iff]
theorem sameE_self (a:Ent):sameE a a=true:=sameE_iff.2 rfl
def allE:List Ent→List Ent→Bool
 | [],[]=>true
 | a::ar,b::bs=>sameE a b&&allE ar bs
 | _,_=>false
theorem allE_iff:∀ {a b:List Ent},allE a b=true↔a=b
 | [],[]=>by simp [allE]
 | [],b::bs=>by simp [allE]
 | a::ar,[]=>by simp [allE]
 | a::ar,b::bs=>by simp only [allE,Bool.and_eq_true,sameE_iff,allE_iff,List.cons.injEq]
def fewE (e:Ent):Bool:=fewV e.val&&decide (e.key.length≤100)
def entriesB (l:List Ent) (most:Int):Bool:=decide ((l.length:Int)≤most)&&l.all fewE
theorem dec_le8 {n:Nat}:decide ((n:Int)≤8)=decide (n≤8):=dec_cast (m:=8)
theorem dec_1le {n:Nat}:decide (1≤(n:Int))=decide (1≤n):=dec_cast (n:=1)
theorem refCheckE_ev (e:Ent) (h:sm e.val):ref07_Check_raw e (okE e):=by
 refine ⟨fun _=>h,?_⟩
 rw [dec_le8,dec_1le]; unfold okE; ac_rfl
theorem entCheck_ev (e:Ent) (h:sm e.val):entry_Check_raw e (checkE e):=by
 refine ⟨fun h1=>?_,fun h1=>⟨h,?_⟩⟩
 ·have:okE e=false:=by
   simp only [Bool.or_eq_true,beq_iff_eq,decide_eq_true_eq] at h1
   unfold okE
   rcases h1 with h1 | h1
   ·rw [h1]; rfl
   ·have:decide (e.key.length≤8)=false:=by simp; omega
    rw [this]; simp
  unfold checkE; rw [this]; rfl
 ·simp only [Bool.or_eq_false_iff,beq_eq_false_iff_ne,decide_eq_false_iff_not] at h1
  have l1:1≤e.key.length:=by
   have:=List.length_pos_iff.2 h1.1; omega
  have l2:e.key.length≤8:=by have:=h1.2; omega
  have:okE e=okV e.val:=by unfold okE; simp [l1,l2]
  unfold checkE checkV; rw [this]
theorem refSameE_ev (a b:Ent) (h:sm a.val):ref07_Same_raw a b (sameE a b):=⟨fun _=>h,rfl⟩
theorem entSame_ev (a b:Ent) (h:sm a.val):entry_Same_raw a b (sameE a b):=⟨fun _=>h,rfl⟩
theorem checkE_ne (e:Ent):(checkE e != 0)=!okE e:=by unfold checkE; cases okE e <;> rfl
theorem fewE_ev (e:Ent):law07_Few_raw e (fewE e):=by
 have e1:decide ((e.key.length:Int)≤100)=decide (e.key.length≤100):=dec_cast (m:=100)
 unfold law07_Few_raw fewE; rw [e1]
theorem getD_mem {T:Type} [Inhabited T] {l:List T} {i:Nat} (h:i<l.length):l.getD i default∈l:=by
 simp [h]
theorem allE_nth:∀ {a b:List Ent},a.length=b.length→(∀ i,i<a.length→sameE (a.getD i default) (b.getD i default)=true)→allE a b=true:=fun {a b} hl h=>by
 rw [allE_iff]
 apply List.ext_getElem hl
 intro i h1 h2
 have:=sameE_iff.1 (h i h1)
 simpa [h1,h2] using this
theorem allE_no {a b:List Ent} {i:Nat} (h:sameE (a.getD i default) (b.getD i default)=false):allE a b=false:=by
 cases hc:allE a b with
 | false=>rfl
 | true=>rw [allE_iff] at hc; subst hc; rw [sameE_self] at h; cases h
theorem allE_len {a b:List Ent} (h:a.length≠b.length):allE a b=false:=by
 cases hc:allE a b with
 | false=>rfl
 | true=>rw [allE_iff] at hc; subst hc; exact absurd rfl h
theorem refAll_ev (a b:List Ent) (ha:sml a):ref07_All_raw a b (allE a b):=by
 refine ⟨fun h=>?_,fun h=>?_⟩
 ·have h':¬ ((a.length:Int)=b.length):=by simpa using h
  exact allE_len (fun e=>h' (by rw [e]))
 ·have hl:a.length=b.length:=by
   have:¬ (a.length:Int)≠b.length:=by simpa using h
   omega
  have hla:=ha.1
  obtain ⟨x,hx,h2⟩:=loop_scan (body:=ref07_All_b2 a b) a.length (fun i=>sameE (a.getD i default) (b.getD i default)) (fun _=>false)
   (fun i hi hp=>⟨fun _=>⟨⟨by omega,by omega⟩,⟨by omega,by omega⟩,_,refSameE_ev _ _ (ha.2 _ (getD_mem hi)),fun h=>(by rw [nth_nat,nth_nat,hp] at h; cases h),fun _=>by rw [wrapS hi (by omega)]⟩,fun h=>by simp at h; omega⟩)
   (fun i hi hp=>⟨fun _=>⟨⟨by omega,by omega⟩,⟨by omega,by omega⟩,_,refSameE_ev _ _ (ha.2 _ (getD_mem hi)),fun _=>rfl,fun h=>(by rw [nth_nat,nth_nat,hp] at h; cases h)⟩,fun h=>by simp at h; omega⟩)
   ⟨fun h=>by simp at h,fun _=>rfl⟩
  refine ⟨x,hx,fun s e=>?_,fun y e=>?_⟩
  ·rcases h2 with ⟨_,h3⟩ | ⟨i,_,_,_,h6⟩
   ·exact allE_nth hl h3
   ·rw [e] at h6; cases h6
  ·rcases h2 with ⟨h3,_⟩ | ⟨i,_,h4,_,h6⟩
   ·rw [e] at h3; cases h3
   ·rw [e] at h6; cases h6; exact allE_no h4
theorem entries_ev (l:List Ent) (most:Int) (hm:most≤100):law08_Entries_raw l most (entriesB l most):=by
 -- the loop goes over the first most + 1
 obtain ⟨x,hx,h2⟩:=loop_scan (body:=law08_Entries_b1 l most) (min l.length (most + 1).toNat) (fun i=>fewE (l.getD i default)) (fun _=>false)
  (fun i hi hp=>by
   have e1:(decide ((i:Int)<(l.length:Int))&&decide ((i:Int)≤most))=true:=by simp; omega
   refine ⟨fun _=>⟨⟨by omega,by omega⟩,_,fewE_ev _,fun h=>(by rw [nth_nat,hp] at h; cases h),fun _=>by rw [wrapS (n:=102) (by omega) (by decide)]⟩,fun h=>by rw [e1] at h; cases h⟩)
  (fun i hi hp=>by
   have e1:(decide ((i:Int)<(l.length:Int))&&decide ((i:Int)≤most))=true:=by simp; omega
   refine ⟨fun _=>⟨⟨by omega,by omega⟩,_,fewE_ev _,fun h=>rfl,fun h=>(by rw [nth_nat,hp] at h; cases h)⟩,fun h=>by rw [e1] at h; cases h⟩)
  ⟨fun h=>by simp at h; omega,fun _=>rfl⟩
 refine ⟨x,hx,fun s e=>?_,fun y e=>?_⟩
 ·rcases h2 with ⟨_,h3⟩ | ⟨i,_,_,_,h6⟩
  ·unfold entriesB
   by_cases hle:(l.length:Int)≤most
   ·have:l.all fewE=true:=by
     rw [List.all_eq_true]
     intro n hn
     obtain ⟨i,hi,rfl⟩:=List.getElem_of_mem hn
     have:=h3 i (by omega)
     simpa [hi] using this
    rw [this,Bool.and_true]
   ·have:decide ((l.length:Int)≤most)=false:=by simpa using hle
    rw [this]; rfl
  ·rw [e] at h6; cases h6
 ·rcases h2 with ⟨h3,_⟩ | ⟨i,hi,h4,_,h6⟩
  ·rw [e] at h3; cases h3
  ·rw [e] at h6; cases h6
   have hil:i<l.length:=by omega
   have:l.all fewE=false:=by
    rw [List.all_eq_false]
    exact ⟨_,getD_mem hil,by simpa using h4⟩
   unfold entriesB; rw [this,Bool.and_false]
end Go.Proofs.YtdfjbkoimpjkaaaGreat