/- Buffers: what each function comes to. -/
import Derived.Test.YthfkbabgkacfnaaCt3
import Derived.Test.YthfkbabgkacfnaaEv
namespace Go.Proofs.Ythfkbabgkacfnaa
open Go Go.RowKit
set_option linter.unusedVariables false
set_option linter.unusedSimpArgs false
def law16_Few_b6 (d0:Buf) (s6:Int) (z6:(Int) ⊕ ((Int) ⊕ (Bool))):Prop :=
 (((decide (s6<(d0.names.length:Int)))&&(decide (s6≤(20:Int))))=true→((0≤s6∧s6<(d0.names.length:Int))∧(((decide ((100:Int)<(((nth d0.names s6).key).length:Int)))=true→(z6=.inr (.inr false)))∧((decide ((100:Int)<(((nth d0.names s6).key).length:Int)))=false→(z6=.inl (IntKind.i64.wrap (s6 + (1:Int))))))))∧(((decide (s6<(d0.names.length:Int)))&&(decide (s6≤(20:Int))))=false→(z6=.inr (.inl s6)))
def law16_Few_raw (d0:Buf) (y:Bool):Prop :=
 ∃ x6,LoopR (law16_Few_b6 d0) (0:Int) x6∧(∀ sx6,x6=.inl sx6→(y=(decide ((d0.names.length:Int)≤(20:Int)))))∧(∀ y6,x6=.inr y6→(y=y6))
set_option maxRecDepth 20000 in
set_option maxHeartbeats 4000000 in
theorem law16_Few_c {L:List Nat} {w:World} {csP0:List Value} (d0:Buf) (HP0:Stb L w (fun w=>kBuf.r w csP0 d0)) (hL:Lt L w) {y:Bool} (h:law16_Few_raw d0 y) :
  Calls Try.prog 9 [.agg csP0.toArray].toArray w (Ret fun v w'=>Ext w w'∧v=.bool y):=by
 obtain ⟨A1,c2,rfl,H3⟩:=kBuf_open HP0
 unfold law16_Few_raw at h
 refine calls_ec Try.func9 rfl rfl rfl ?_
 refine ec_seq ?_
 refine ec_region ?_
 refine o_box (cs:=(cBuf d0 A1 c2)) rfl rfl rfl ?_
 intro b4 w4 e4 F4 B4
 have S4:=B4.stb (nin hL e4)
 have G5:Fr L w w4:=Fr.ext F4
 refine o_w (v:=.bool false) (r_asg rfl) ?_
 refine eo_nil_sq ?_
 iterate 2 refine ec_seq ?_
 refine ec_region ?_
 refine o_w (v:=.int .i64 (0:Int)) (r_asg rfl) ?_
 refine eo_nil_sq ?_
 refine ec_block ?_
 obtain ⟨x6,hl6,h⟩:=h
 refine ec_loopER 0 (I:=(fun (s6:Int) ρ ds w'=>∃ (ρ':Env),ρ=envs ρ' [(3,.int .i64 s6),(1,.pointer (some ⟨b4,0,none⟩))]∧ds=[]∧Fr L w4 w'∧Ext w w')) (J:=(fun (y':Bool) ρ ds wz=>bodyE Try.prog #[.tmp 2] (Ret fun v w'=>Ext w w'∧v=.bool y') .ret ρ ds wz)) ?_ hl6 ?_ ?_ ?_
 ·intro s6 z6 ρ6 ds6 w6r hI6 hb6
  obtain ⟨ρ6r,rfl,rfl,F6r,E6r⟩:=hI6
  have h:=hb6
  unfold law16_Few_b6 at h
  have G7:Fr L w w6r:=G5.stp F6r (fun _ h=>.inl h)
  have G8:Fr L w4 w6r:=(Fr.refl _ _).stp F6r (fun _ h=>.inl h)
  iterate 2 refine ec_seq ?_
  refine ec_region ?_
  refine o_w (v:=.int .i64 s6) (r_mov rfl) ?_
  refine o_w (v:=.pointer (some ⟨b4,2,none⟩)) (r_fa fld_buffer_Buffer_2 rfl rfl) ?_
  refine o_w (v:=.slice A1 d0.names.length c2) (r_ld one_s_buffer_Name rfl ((S4.fr G8 (fun _ h=>h)).now.cell rfl)) ?_
  refine o_w (v:=.int .i64 (d0.names.length:Int)) (r_len_slc un_s_buffer_Name rfl) ?_
  refine o_w (v:=.bool (decide (s6<(d0.names.length:Int)))) (r_int rfl rfl rfl) ?_
  refine o_w (v:=.bool (decide (s6<(d0.names.length:Int)))) (r_mov rfl) ?_
  refine o_vg (v:=.int .i64 s6) (want_ct (t:=9) rfl rfl) (fun hk=>(r_mov rfl)) rfl rfl ?_
  refine o_vg (v:=.bool (decide (s6≤(20:Int)))) (want_ct (t:=9) rfl rfl) (fun hk=>(r_int (gdT hk) rfl rfl)) rfl rfl ?_
  refine o_w (v:=.bool ((decide (s6<(d0.names.length:Int)))&&(decide (s6≤(20:Int))))) (r_pickAnd rfl (fun ht=>(gdT ht)) rfl) ?_
  refine eo_nil_sq ?_
  refine ec_cond rfl (fun hc9=>?_) (fun hc9=>?_)
  ·replace h:=h.1 hc9
   refine ec_skip ?_
   refine sq_n ?_
   refine ec_seq ?_
   refine ec_block ?_
   refine ec_seq ?_
   refine ec_region ?_
   refine o_w (v:=.pointer (some ⟨b4,2,none⟩)) (r_fa fld_buffer_Buffer_2 rfl rfl) ?_
   refine o_w (v:=.slice A1 d0.names.length c2) (r_ld one_s_buffer_Name rfl ((S4.fr G8 (fun _ h=>h)).now.cell rfl)) ?_
   refine o_w (v:=.int .i64 s6) (r_mov rfl) ?_
   obtain ⟨ha10,h⟩:=h
   obtain ⟨cs11,l13,H12⟩:=Stb.elem (by decide) (H3.fr G7 (fun _ h=>h)) s6 ha10.1 ha10.2
   obtain ⟨rfl,H14⟩:=kNm_open2 H12
   refine o_w (v:=.pointer (some (elemA A1 kNm.n s6.toNat))) (r_ia slc_s_buffer_Name rfl rfl ((H3.fr G7 (fun _ h=>h)).now.2 _ (lt_toNat ha10.1 ha10.2)).1 ha10.1 ha10.2) ?_
   refine o_w (v:=.pointer (some (ad (elemA A1 kNm.n s6.toNat) 1))) (r_fad fld_buffer_Name_1 (elemA_spot _ _ _) rfl) ?_
   refine o_w (v:=str ((nth d0.names s6).key)) (r_ld' one_string rfl rfl (H14.now.1.at (j:=1) rfl)) ?_
   refine o_w (v:=.int .i64 (((nth d0.names s6).key).length:Int)) (r_len_str un_string rfl) ?_
   refine o_w (v:=.bool (decide ((100:Int)<(((nth d0.names s6).key).length:Int)))) (r_int rfl rfl rfl) ?_
   refine eo_nil_sq ?_
   refine ec_cond rfl (fun hc15=>?_) (fun hc15=>?_)
   ·replace h:=h.1 hc15
    refine ec_seq ?_
    refine ec_region ?_
    refine o_w (v:=.bool false) (r_asg rfl) ?_
    refine eo_nil_sq ?_
    refine ec_ret ?_
    refine blk_ret ?_
    refine sq_ret ?_
    subst h
    exact lqR_r (end1 rfl ⟨_,rfl,E6r,rfl⟩)
   ·replace h:=h.2 hc15
    refine ec_skip ?_
    refine blk_n ?_
    refine sq_n ?_
    refine ec_region ?_
    refine o_w (v:=.int .i64 s6) (r_mov rfl) ?_
    refine o_w (v:=.int .i64 (IntKind.i64.wrap (s6 + (1:Int)))) (r_int rfl rfl rfl) ?_
    refine o_w (v:=.int .i64 (IntKind.i64.wrap (s6 + (1:Int)))) (r_asg rfl) ?_
    refine eo_nil ?_
    subst h
    exact lqR_n ⟨_,envs_self ⟨rfl,rfl,trivial⟩,rfl,F6r,E6r⟩
  ·replace h:=h.2 hc9
   refine ec_exit ?_
   refine sq_exit ?_
   subst h
   exact lqR_x ⟨_,envs_self ⟨rfl,rfl,trivial⟩,rfl,F6r,E6r⟩
 ·exact ⟨_,envs_self ⟨rfl,rfl,trivial⟩,rfl,(Fr.refl _ _),F4⟩
 ·rintro sx6 rfl ρ6e ds6e w6e ⟨ρ6e,rfl,rfl,F6e,E6e⟩
  replace h:=h.1 _ rfl
  have G17:Fr L w4 w6e:=(Fr.refl _ _).stp F6e (fun _ h=>.inl h)
  refine blk_hit ?_
  refine sq_n ?_
  refine ec_seq ?_
  refine ec_region ?_
  refine o_w (v:=.pointer (some ⟨b4,2,none⟩)) (r_fa fld_buffer_Buffer_2 rfl rfl) ?_
  refine o_w (v:=.slice A1 d0.names.length c2) (r_ld one_s_buffer_Name rfl ((S4.fr G17 (fun _ h=>h)).now.cell rfl)) ?_
  refine o_w (v:=.int .i64 (d0.names.length:Int)) (r_len_slc un_s_buffer_Name rfl) ?_
  refine o_w (v:=.bool (decide ((d0.names.length:Int)≤(20:Int)))) (r_int rfl rfl rfl) ?_
  refine o_w (v:=.bool (decide ((d0.names.length:Int)≤(20:Int)))) (r_asg rfl) ?_
  refine eo_nil_sq ?_
  refine ec_ret ?_
  subst h
  exact (end1 rfl ⟨_,rfl,E6e,rfl⟩)
 ·rintro y6 rfl ρ6q ds6q w6q hJ
  have hy:=h.2 _ rfl
  subst hy
  refine blk_ret ?_
  refine sq_ret ?_
  exact hJ
def buffer_Check_1_raw (d0:Int) (d1:Int) (y:Bool):Prop :=
 y=((decide ((0:Int)≤d0))&&(decide (d0≤d1)))
set_option maxRecDepth 20000 in
set_option maxHeartbeats 4000000 in
theorem buffer_Check_1_c {L:List Nat} {w:World} (d0:Int) (d1:Int) (hL:Lt L w) {y:Bool} (h:buffer_Check_1_raw d0 d1 y) :
  Calls Try.prog 49 [.int .i64 d0,.int .i64 d1].toArray w (Ret fun v w'=>Ext w w'∧v=.bool y):=by
 unfold buffer_Check_1_raw at h
 refine calls_ec Try.func49 rfl rfl rfl ?_
 refine ec_seq ?_
 refine ec_region ?_
 refine o_w (v:=.bool false) (r_asg rfl) ?_
 refine eo_nil_sq ?_
 refine ec_seq ?_
 refine ec_region ?_
 refine o_w (v:=.int .i64 d0) (r_mov rfl) ?_
 refine o_w (v:=.bool (decide ((0:Int)≤d0))) (r_int rfl rfl rfl) ?_
 refine o_w (v:=.bool (decide ((0:Int)≤d0))) (r_mov rfl) ?_
 refine o_vg (v:=.int .i64 d0) (want_ct (t:=7) rfl rfl) (fun hk=>(r_mov rfl)) rfl rfl ?_
 refine o_vg (v:=.int .i64 d1) (want_ct (t:=7) rfl rfl) (fun hk=>(r_mov rfl)) rfl rfl ?_
 refine o_vg (v:=.bool (decide (d0≤d1))) (want_ct (t:=7) rfl rfl) (fun hk=>(r_int (gdT hk) (gdT hk) rfl)) rfl rfl ?_
 refine o_w (v:=.bool ((decide ((0:Int)≤d0))&&(decide (d0≤d1)))) (r_pickAnd rfl (fun ht=>(gdT ht)) rfl) ?_
 refine o_w (v:=.bool ((decide ((0:Int)≤d0))&&(decide (d0≤d1)))) (r_asg rfl) ?_
 refine eo_nil_sq ?_
 refine ec_ret ?_
 subst h
 exact (end1 rfl ⟨_,rfl,(Fr.refl _ _),rfl⟩)
def buffer_Check_2_raw (d0:Nm) (d1:Arena) (y:Bool):Prop :=
 (sma d1)∧(y=(decide ((findA d1 d0.kind d0.key)<(0:Int))))
set_option maxRecDepth 20000 in
set_option maxHeartbeats 4000000 in
theorem buffer_Check_2_c {L:List Nat} {w:World} {csP0:List Value} (d0:Nm) (HP0:Stb L w (fun w=>kNm.r w csP0 d0)) {bP1:Nat} {csP1:List Value} (d1:Arena) (HB1:Stb L w (fun w=>Blk w bP1 28 csP1)) (HP1:Stb L w (fun w=>kArena.r w csP1 d1)) (hL:Lt L w) {y:Bool} (h:buffer_Check_2_raw d0 d1 y) :
  Calls Try.prog 50 [.agg csP0.toArray,.pointer (some ⟨bP1,0,none⟩)].toArray w (Ret fun v w'=>Ext w w'∧v=.bool y):=by
 obtain ⟨rfl⟩:=kNm_open HP0
 obtain ⟨A1,c2,A4,c5,rfl,H3,H6⟩:=kArena_open HP1
 unfold buffer_Check_2_raw at h
 refine calls_ec Try.func50 rfl rfl rfl ?_
 refine ec_seq ?_
 refine ec_region ?_
 refine o_box (cs:=(cNm d0)) rfl rfl rfl ?_
 intro b7 w7 e7 F7 B7
 have S7:=B7.stb (nin hL e7)
 have G8:Fr L w w7:=Fr.ext F7
 refine o_w (v:=.bool false) (r_asg rfl) ?_
 refine eo_nil_sq ?_
 refine ec_seq ?_
 refine ec_region ?_
 refine o_w (v:=.agg (cArena d1 A1 c2 A4 c5).toArray) (r_lda agg_api_Arena rfl (vs:=(cArena d1 A1 c2 A4 c5)) rfl ((HB1.fr G8 (fun _ h=>h)).now.part (n:=3) rfl)) ?_
 refine o_w (v:=.pointer (some ⟨b7,0,none⟩)) (r_fa fld_buffer_Name_0 rfl rfl) ?_
 refine o_w (v:=.int .i64 d0.kind) (r_ld one_int rfl (S7.now.cell rfl)) ?_
 refine o_w (v:=.pointer (some ⟨b7,1,none⟩)) (r_fa fld_buffer_Name_1 rfl rfl) ?_
 refine o_w (v:=str d0.key) (r_ld one_string rfl (S7.now.cell rfl)) ?_
 obtain ⟨ha10,h⟩:=h
 refine o_call cf_arena_Find rfl (arena_Find_c d1 (kArena_mk (d:=d1) (H3.fr G8 (fun _ h=>h)) (H6.fr G8 (fun _ h=>h))) d0.kind d0.key (hL.fr F7) (arFind_ev d1 d0.kind d0.key ha10)) rfl rfl ?_
 rintro _ w9 ⟨F9,rfl⟩
 have E11:=F7.trans F9
 refine o_w (v:=.bool (decide ((findA d1 d0.kind d0.key)<(0:Int)))) (r_int rfl rfl rfl) ?_
 refine o_w (v:=.bool (decide ((findA d1 d0.kind d0.key)<(0:Int)))) (r_asg rfl) ?_
 refine eo_nil_sq ?_
 refine ec_ret ?_
 subst h
 exact (end1 rfl ⟨_,rfl,E11,rfl⟩)
def slices_IndexFunc_Name_Check_2_b7 (d0:(List Nm)) (d1s0:Arena) (s7:Int) (z7:(Int) ⊕ ((Int) ⊕ (Int))):Prop :=
 ((decide (s7<(d0.length:Int)))=true→((0≤s7∧s7<(d0.length:Int))∧(∃ x15,buffer_Check_2_raw (nth d0 s7) d1s0 x15∧((x15=true→(z7=.inr (.inr s7)))∧(x15=false→(z7=.inl (IntKind.i64.wrap (s7 + (1:Int)))))))))∧((decide (s7<(d0.length:Int)))=false→(z7=.inr (.inl s7)))
def slices_IndexFunc_Name_Check_2_raw (d0:(List Nm)) (d1s0:Arena) (y:Int):Prop :=
 ∃ x7,LoopR (slices_IndexFunc_Name_Check_2_b7 d0 d1s0) (0:Int) x7∧(∀ sx7,x7=.inl sx7→(y=(-1:Int)))∧(∀ y7,x7=.inr y7→(y=y7))
set_option maxRecDepth 20000 in
set_option maxHeartbeats 4000000 in
theorem slices_IndexFunc_Name_Check_2_c {L:List Nat} {w:World} {AP0:Option Addr} {cP0:Nat} (d0:(List Nm)) (HP0:Stb L w (fun w=>SlC kNm w AP0 cP0 d0)) {bP1s0:Nat} {csP1s0:List Value} (d1s0:Arena) (HB1s0:Stb L w (fun w=>Blk w bP1s0 28 csP1s0)) (HP1s0:Stb L w (fun w=>kArena.r w csP1s0 d1s0)) (hL:Lt L w) {y:Int} (h:slices_IndexFunc_Name_Check_2_raw d0 d1s0 y) :
  Calls Try.prog 60 [.slice AP0 d0.length cP0,.func (.func 50) #[] #[.pointer (some ⟨bP1s0,0,none⟩)]].toArray w (Ret fun v w'=>Ext w w'∧v=.int .i64 y):=by
 obtain ⟨A1,c2,A4,c5,rfl,H3,H6⟩:=kArena_open HP1s0
 unfold slices_IndexFunc_Name_Check_2_raw at h
 refine calls_ec Try.func60 rfl rfl rfl ?_
 refine ec_seq ?_
 refine ec_region ?_
 refine o_w (v:=.int .i64 (0:Int)) (r_asg rfl) ?_
 refine eo_nil_sq ?_
 iterate 2 refine ec_seq ?_
 refine ec_region ?_
 refine o_w (v:=.slice AP0 d0.length cP0) (r_mov rfl) ?_
 refine o_w (v:=.int .i64 (d0.length:Int)) (r_len_slc un_s_buffer_Name rfl) ?_
 refine o_w (v:=.int .i64 (0:Int)) (r_mov rfl) ?_
 refine eo_nil_sq ?_
 refine ec_block ?_
 obtain ⟨x7,hl7,h⟩:=h
 refine ec_loopER 0 (I:=(fun (s7:Int) ρ ds w'=>∃ (ρ':Env),ρ=envs ρ' [(8,.int .i64 s7),(0,.slice AP0 d0.length cP0),(1,.func (.func 50) #[] #[.pointer (some ⟨bP1s0,0,none⟩)]),(7,.int .i64 (d0.length:Int))]∧ds=[]∧Fr L w w'∧Ext w w')) (J:=(fun (y':Int) ρ ds wz=>bodyE Try.prog #[.tmp 4] (Ret fun v w'=>Ext w w'∧v=.int .i64 y') .ret ρ ds wz)) ?_ hl7 ?_ ?_ ?_
 ·intro s7 z7 ρ7 ds7 w7r hI7 hb7
  obtain ⟨ρ7r,rfl,rfl,F7r,E7r⟩:=hI7
  have h:=hb7
  unfold slices_IndexFunc_Name_Check_2_b7 at h
  have G8:Fr L w w7r:=(Fr.refl _ _).stp F7r (fun _ h=>.inl h)
  refine ec_seq ?_
  refine ec_region ?_
  refine o_w (v:=.bool (decide (s7<(d0.length:Int)))) (r_int rfl rfl rfl) ?_
  refine eo_nil_sq ?_
  refine ec_seq ?_
  refine ec_cond rfl (fun hc9=>?_) (fun hc9=>?_)
  ·replace h:=h.1 hc9
   refine ec_skip ?_
   refine sq_n ?_
   refine ec_seq ?_
   refine ec_block ?_
   refine ec_seq ?_
   refine ec_region ?_
   refine o_w (v:=.int .i64 s7) (r_mov rfl) ?_
   refine o_w (v:=.int .i64 s7) (r_asg rfl) ?_
   refine eo_nil_sq ?_
   refine ec_seq ?_
   refine ec_region ?_
   refine o_w (v:=.func (.func 50) #[] #[.pointer (some ⟨bP1s0,0,none⟩)]) (r_mov rfl) ?_
   refine o_w (v:=.slice AP0 d0.length cP0) (r_mov rfl) ?_
   refine o_w (v:=.int .i64 s7) (r_mov rfl) ?_
   obtain ⟨ha10,h⟩:=h
   obtain ⟨cs11,l13,H12⟩:=Stb.elem (by decide) (HP0.fr G8 (fun _ h=>h)) s7 ha10.1 ha10.2
   obtain ⟨rfl,H14⟩:=kNm_open2 H12
   refine o_w (v:=.pointer (some (elemA AP0 kNm.n s7.toNat))) (r_ia slc_s_buffer_Name rfl rfl ((HP0.fr G8 (fun _ h=>h)).now.2 _ (lt_toNat ha10.1 ha10.2)).1 ha10.1 ha10.2) ?_
   refine o_w (v:=.agg (cNm (nth d0 s7)).toArray) (r_lda' agg_buffer_Name rfl (elemA_spot _ _ _) (vs:=(cNm (nth d0 s7))) rfl (H14.now.1)) ?_
   obtain ⟨x15,hx15,h⟩:=h
   refine o_callc (vs:=[.agg (cNm (nth d0 s7)).toArray]) (caps:=[.pointer (some ⟨bP1s0,0,none⟩)]) cf_buffer_Check_2 rfl rfl (buffer_Check_2_c (nth d0 s7) (kNm_mk (d:=(nth d0 s7))) d1s0 (HB1s0.fr G8 (fun _ h=>h)) (kArena_mk (d:=d1s0) (H3.fr G8 (fun _ h=>h)) (H6.fr G8 (fun _ h=>h))) (hL.fr E7r) hx15) rfl rfl ?_
   rintro _ w15 ⟨F15,rfl⟩
   have E16:=E7r.trans F15
   refine eo_nil_sq ?_
   refine ec_cond rfl (fun hc20=>?_) (fun hc20=>?_)
   ·replace h:=h.1 hc20
    refine ec_seq ?_
    refine ec_region ?_
    refine o_w (v:=.int .i64 s7) (r_mov rfl) ?_
    refine o_w (v:=.int .i64 s7) (r_asg rfl) ?_
    refine eo_nil_sq ?_
    refine ec_ret ?_
    refine blk_ret ?_
    refine sq_ret ?_
    subst h
    exact lqR_r (end1 rfl ⟨_,rfl,E16,rfl⟩)
   ·replace h:=h.2 hc20
    refine ec_skip ?_
    refine blk_n ?_
    refine sq_n ?_
    refine ec_region ?_
    refine o_w (v:=.int .i64 (IntKind.i64.wrap (s7 + (1:Int)))) (r_int rfl rfl rfl) ?_
    refine o_w (v:=.int .i64 (IntKind.i64.wrap (s7 + (1:Int)))) (r_mov rfl) ?_
    refine eo_nil ?_
    subst h
    exact lqR_n ⟨_,envs_self ⟨rfl,rfl,rfl,rfl,trivial⟩,rfl,(F7r.trans (Fr.ext F15)),E16⟩
  ·replace h:=h.2 hc9
   refine ec_exit ?_
   refine sq_exit ?_
   subst h
   exact lqR_x ⟨_,envs_self ⟨rfl,rfl,rfl,rfl,trivial⟩,rfl,F7r,E7r⟩
 ·exact ⟨_,envs_self ⟨rfl,rfl,rfl,rfl,trivial⟩,rfl,(Fr.refl _ _),(Fr.refl _ _)⟩
 ·rintro sx7 rfl ρ7e ds7e w7e ⟨ρ7e,rfl,rfl,F7e,E7e⟩
  replace h:=h.1 _ rfl
  refine blk_hit ?_
  refine sq_n ?_
  refine ec_seq ?_
  refine ec_region ?_
  refine o_w (v:=.int .i64 (-1:Int)) (r_asg rfl) ?_
  refine eo_nil_sq ?_
  refine ec_ret ?_
  subst h
  exact (end1 rfl ⟨_,rfl,E7e,rfl⟩)
 ·rintro y7 rfl ρ7q ds7q w7q hJ
  have hy:=h.2 _ rfl
  subst hy
  refine blk_ret ?_
  refine sq_ret ?_
  exact hJ
def slices_ContainsFunc_Name_Check_2_raw (d0:(List Nm)) (d1s0:Arena) (y:Bool):Prop :=
 ∃ x7,slices_IndexFunc_Name_Check_2_raw d0 d1s0 x7∧(y=(decide ((0:Int)≤x7)))
set_option maxRecDepth 20000 in
set_option maxHeartbeats 4000000 in
theorem slices_ContainsFunc_Name_Check_2_c {L:List Nat} {w:World} {AP0:Option Addr} {cP0:Nat} (d0:(List Nm)) (HP0:Stb L w (fun w=>SlC kNm w AP0 cP0 d0)) {bP1s0:Nat} {csP1s0:List Value} (d1s0:Arena) (HB1s0:Stb L w (fun w=>Blk w bP1s0 28 csP1s0)) (HP1s0:Stb L w (fun w=>kArena.r w csP1s0 d1s0)) (hL:Lt L w) {y:Bool} (h:slices_ContainsFunc_Name_Check_2_raw d0 d1s0 y) :
  Calls Try.prog 51 [.slice AP0 d0.length cP0,.func (.func 50) #[] #[.pointer (some ⟨bP1s0,0,none⟩)]].toArray w (Ret fun v w'=>Ext w w'∧v=.bool y):=by
 obtain ⟨A1,c2,A4,c5,rfl,H3,H6⟩:=kArena_open HP1s0
 unfold slices_ContainsFunc_Name_Check_2_raw at h
 refine calls_ec Try.func51 rfl rfl rfl ?_
 refine ec_seq ?_
 refine ec_region ?_
 refine o_w (v:=.bool false) (r_asg rfl) ?_
 refine eo_nil_sq ?_
 refine ec_seq ?_
 refine ec_region ?_
 refine o_w (v:=.slice AP0 d0.length cP0) (r_mov rfl) ?_
 refine o_w (v:=.func (.func 50) #[] #[.pointer (some ⟨bP1s0,0,none⟩)]) (r_mov rfl) ?_
 obtain ⟨x7,hx7,h⟩:=h
 refine o_call cf_slices_IndexFunc_Name rfl (slices_IndexFunc_Name_Check_2_c d0 HP0 d1s0 HB1s0 (kArena_mk (d:=d1s0) H3 H6) hL hx7) rfl rfl ?_
 rintro _ w7 ⟨F7,rfl⟩
 refine o_w (v:=.bool (decide ((0:Int)≤x7))) (r_int rfl rfl rfl) ?_
 refine o_w (v:=.bool (decide ((0:Int)≤x7))) (r_asg rfl) ?_
 refine eo_nil_sq ?_
 refine ec_ret ?_
 subst h
 exact (end1 rfl ⟨_,rfl,F7,rfl⟩)
def buffer_Check_raw (d0:Buf) (d1:Arena) (d2:Int) (y:Int):Prop :=
 ∃ x17,buffer_Check_1_raw d0.epoch (2147483647:Int) x17∧(((!x17)=true→(y=(2:Int)))∧((!x17)=false→(∃ x23,buffer_Check_1_raw d0.first (IntKind.i64.wrap ((2147483647:Int) - (d0.names.length:Int))) x23∧(((!x23)=true→(y=(2:Int)))∧((!x23)=false→(((decide (d2<(d0.names.length:Int)))=true→(y=(2:Int)))∧((decide (d2<(d0.names.length:Int)))=false→((sma d1)∧((((checkA d1) != (0:Int))=true→(y=(2:Int)))∧(((checkA d1) != (0:Int))=false→(∃ x37,slices_ContainsFunc_Name_Check_2_raw d0.names d1 x37∧((x37=true→(y=(2:Int)))∧(x37=false→(y=(0:Int)))))))))))))))
set_option maxRecDepth 20000 in
set_option maxHeartbeats 4000000 in
theorem buffer_Check_c {L:List Nat} {w:World} {csP0:List Value} (d0:Buf) (HP0:Stb L w (fun w=>kBuf.r w csP0 d0)) {csP1:List Value} (d1:Arena) (HP1:Stb L w (fun w=>kArena.r w csP1 d1)) (d2:Int) (hL:Lt L w) {y:Int} (h:buffer_Check_raw d0 d1 d2 y) :
  Calls Try.prog 28 [.agg csP0.toArray,.agg csP1.toArray,.int .i64 d2].toArray w (Ret fun v w'=>Ext w w'∧v=.int .i64 y):=by
 obtain ⟨A1,c2,rfl,H3⟩:=kBuf_open HP0
 obtain ⟨A4,c5,A7,c8,rfl,H6,H9⟩:=kArena_open HP1
 unfold buffer_Check_raw at h
 refine calls_ec Try.func28 rfl rfl rfl ?_
 refine ec_seq ?_
 refine ec_region ?_
 refine o_box (cs:=(cBuf d0 A1 c2)) rfl rfl rfl ?_
 intro b10 w10 e10 F10 B10
 have S10:=B10.stb (nin hL e10)
 have G11:Fr L w w10:=Fr.ext F10
 refine o_box (cs:=(cArena d1 A4 c5 A7 c8)) rfl rfl rfl ?_
 intro b12 w12 e12 F12 B12
 have S12:=B12.stb (nin (hL.fr F10) e12)
 have E13:=F10.trans F12
 have G15:Fr L w10 w12:=Fr.ext F12
 refine o_w (v:=.int .i64 (0:Int)) (r_asg rfl) ?_
 refine eo_nil_sq ?_
 refine ec_seq ?_
 refine ec_region ?_
 refine o_w (v:=.func (.func 49) #[] #[]) (r_asg rfl) ?_
 refine eo_nil_sq ?_
 refine ec_seq ?_
 refine ec_region ?_
 refine o_w (r_mkfn' (vs:=[.pointer (some ⟨b12,0,none⟩)]) rfl) ?_
 refine o_w (v:=.func (.func 50) #[] #[.pointer (some ⟨b12,0,none⟩)]) (r_asg rfl) ?_
 refine eo_nil_sq ?_
 iterate 2 refine ec_seq ?_
 refine ec_region ?_
 refine o_w (v:=.func (.func 49) #[] #[]) (r_mov rfl) ?_
 refine o_w (v:=.pointer (some ⟨b10,0,none⟩)) (r_fa fld_buffer_Buffer_0 rfl rfl) ?_
 refine o_w (v:=.int .i64 d0.epoch) (r_ld one_int rfl ((S10.fr G15 (fun _ h=>h)).now.cell rfl)) ?_
 obtain ⟨x17,hx17,h⟩:=h
 refine o_callv cf_buffer_Check_1 rfl rfl (buffer_Check_1_c d0.epoch (2147483647:Int) (hL.fr E13) hx17) rfl rfl ?_
 rintro _ w17 ⟨F17,rfl⟩
 have E18:=E13.trans F17
 have G21:Fr L w12 w17:=Fr.ext F17
 refine o_w (v:=.bool (!x17)) (r_not rfl) ?_
 refine o_w (v:=.bool (!x17)) (r_mov rfl) ?_
 rcases Bool.eq_false_or_eq_true (!x17) with hc22 | hc22
 ·replace h:=h.1 hc22
  iterate 9 refine o_no (want_f (t:=15) rfl rfl hc22) rfl ?_
  refine o_w (v:=.bool true) (r_pickT rfl hc22 rfl) ?_
  refine o_w (v:=.bool true) (r_mov rfl) ?_
  iterate 5 refine o_no (want_f (t:=26) rfl rfl rfl) rfl ?_
  refine o_w (v:=.bool true) (r_pickT rfl rfl rfl) ?_
  refine o_w (v:=.bool true) (r_mov rfl) ?_
  iterate 3 refine o_no (want_f (t:=33) rfl rfl rfl) rfl ?_
  refine o_w (v:=.bool true) (r_pickT rfl rfl rfl) ?_
  refine o_w (v:=.bool true) (r_mov rfl) ?_
  iterate 4 refine o_no (want_f (t:=38) rfl rfl rfl) rfl ?_
  refine o_w (v:=.bool true) (r_pickT rfl rfl rfl) ?_
  refine eo_nil_sq ?_
  refine ec_condT rfl rfl ?_
  refine ec_seq ?_
  refine ec_region ?_
  refine o_w (v:=.int .i64 (2:Int)) (r_asg rfl) ?_
  refine eo_nil_sq ?_
  refine ec_ret ?_
  refine sq_ret ?_
  subst h
  exact (end1 rfl ⟨_,rfl,E18,rfl⟩)
 ·replace h:=h.2 hc22
  refine o_v (v:=.func (.func 49) #[] #[]) (r_mov rfl) (want_t (t:=15) rfl rfl hc22) rfl rfl ?_
  refine o_v (v:=.pointer (some ⟨b10,1,none⟩)) (r_fa fld_buffer_Buffer_1 rfl rfl) (want_t (t:=15) rfl rfl hc22) rfl rfl ?_
  refine o_v (v:=.int .i64 d0.first) (r_ld one_int rfl ((S10.fr (G15.trans (Fr.ext F17)) (fun _ h=>h)).now.cell rfl)) (want_t (t:=15) rfl rfl hc22) rfl rfl ?_
  refine o_v (v:=.pointer (some ⟨b10,2,none⟩)) (r_fa fld_buffer_Buffer_2 rfl rfl) (want_t (t:=15) rfl rfl hc22) rfl rfl ?_
  refine o_v (v:=.slice A1 d0.names.length c2) (r_ld one_s_buffer_Name rfl ((S10.fr (G15.trans (Fr.ext F17)) (fun _ h=>h)).now.cell rfl)) (want_t (t:=15) rfl rfl hc22) rfl rfl ?_
  refine o_v (v:=.int .i64 (d0.names.length:Int)) (r_len_slc un_s_buffer_Name rfl) (want_t (t:=15) rfl rfl hc22) rfl rfl ?_
  refine o_v (v:=.int .i64 (IntKind.i64.wrap ((2147483647:Int) - (d0.names.length:Int)))) (r_int rfl rfl rfl) (want_t (t:=15) rfl rfl hc22) rfl rfl ?_
  obtain ⟨x23,hx23,h⟩:=h
  refine o_callv cf_buffer_Check_1 rfl rfl (buffer_Check_1_c d0.first (IntKind.i64.wrap ((2147483647:Int) - (d0.names.length:Int))) (hL.fr E18) hx23) (want_t (t:=15) rfl rfl hc22) rfl ?_
  rintro _ w23 ⟨F23,rfl⟩
  have E24:=E18.trans F23
  refine o_v (v:=.bool (!x23)) (r_not rfl) (want_t (t:=15) rfl rfl hc22) rfl rfl ?_
  refine o_w (v:=.bool (!x23)) (r_pickF rfl hc22 rfl) ?_
  refine o_w (v:=.bool (!x23)) (r_mov rfl) ?_
  rcases Bool.eq_false_or_eq_true (!x23) with hc28 | hc28
  ·replace h:=h.1 hc28
   iterate 5 refine o_no (want_f (t:=26) rfl rfl hc28) rfl ?_
   refine o_w (v:=.bool true) (r_pickT rfl hc28 rfl) ?_
   refine o_w (v:=.bool true) (r_mov rfl) ?_
   iterate 3 refine o_no (want_f (t:=33) rfl rfl rfl) rfl ?_
   refine o_w (v:=.bool true) (r_pickT rfl rfl rfl) ?_
   refine o_w (v:=.bool true) (r_mov rfl) ?_
   iterate 4 refine o_no (want_f (t:=38) rfl rfl rfl) rfl ?_
   refine o_w (v:=.bool true) (r_pickT rfl rfl rfl) ?_
   refine eo_nil_sq ?_
   refine ec_condT rfl rfl ?_
   refine ec_seq ?_
   refine ec_region ?_
   refine o_w (v:=.int .i64 (2:Int)) (r_asg rfl) ?_
   refine eo_nil_sq ?_
   refine ec_ret ?_
   refine sq_ret ?_
   subst h
   exact (end1 rfl ⟨_,rfl,E24,rfl⟩)
  ·replace h:=h.2 hc28
   refine o_v (v:=.pointer (some ⟨b10,2,none⟩)) (r_fa fld_buffer_Buffer_2 rfl rfl) (want_t (t:=26) rfl rfl hc28) rfl rfl ?_
   refine o_v (v:=.slice A1 d0.names.length c2) (r_ld one_s_buffer_Name rfl ((S10.fr ((G15.trans (Fr.ext F17)).trans (Fr.ext F23)) (fun _ h=>h)).now.cell rfl)) (want_t (t:=26) rfl rfl hc28) rfl rfl ?_
   refine o_v (v:=.int .i64 (d0.names.length:Int)) (r_len_slc un_s_buffer_Name rfl) (want_t (t:=26) rfl rfl hc28) rfl rfl ?_
   refine o_v (v:=.int .i64 d2) (r_mov rfl) (want_t (t:=26) rfl rfl hc28) rfl rfl ?_
   refine o_v (v:=.bool (decide (d2<(d0.names.length:Int)))) (r_int rfl rfl rfl) (want_t (t:=26) rfl rfl hc28) rfl rfl ?_
   refine o_w (v:=.bool (decide (d2<(d0.names.length:Int)))) (r_pickF rfl hc28 rfl) ?_
   refine o_w (v:=.bool (decide (d2<(d0.names.length:Int)))) (r_mov rfl) ?_
   rcases Bool.eq_false_or_eq_true (decide (d2<(d0.names.length:Int))) with hc29 | hc29
   ·replace h:=h.1 hc29
    iterate 3 refine o_no (want_f (t:=33) rfl rfl hc29) rfl ?_
    refine o_w (v:=.bool true) (r_pickT rfl hc29 rfl) ?_
    refine o_w (v:=.bool true) (r_mov rfl) ?_
    iterate 4 refine o_no (want_f (t:=38) rfl rfl rfl) rfl ?_
    refine o_w (v:=.bool true) (r_pickT rfl rfl rfl) ?_
    refine eo_nil_sq ?_
    refine ec_condT rfl rfl ?_
    refine ec_seq ?_
    refine ec_region ?_
    refine o_w (v:=.int .i64 (2:Int)) (r_asg rfl) ?_
    refine eo_nil_sq ?_
    refine ec_ret ?_
    refine sq_ret ?_
    subst h
    exact (end1 rfl ⟨_,rfl,E24,rfl⟩)
   ·replace h:=h.2 hc29
    refine o_v (v:=.agg (cArena d1 A4 c5 A7 c8).toArray) (r_lda agg_api_Arena rfl (vs:=(cArena d1 A4 c5 A7 c8)) rfl ((S12.fr (G21.trans (Fr.ext F23)) (fun _ h=>h)).now.part (n:=3) rfl)) (want_t (t:=33) rfl rfl hc29) rfl rfl ?_
    obtain ⟨ha31,h⟩:=h
    refine o_call cf_arena_Check rfl (arena_Check_c d1 (kArena_mk (d:=d1) (H6.fr (((G11.trans (Fr.ext F12)).trans (Fr.ext F17)).trans (Fr.ext F23)) (fun _ h=>h)) (H9.fr (((G11.trans (Fr.ext F12)).trans (Fr.ext F17)).trans (Fr.ext F23)) (fun _ h=>h))) (hL.fr E24) (arCheck_ev d1 ha31)) (want_t (t:=33) rfl rfl hc29) rfl ?_
    rintro _ w30 ⟨F30,rfl⟩
    have E32:=E24.trans F30
    have G33:=(((G11.trans (Fr.ext F12)).trans (Fr.ext F17)).trans (Fr.ext F23)).trans (Fr.ext F30)
    refine o_v (v:=.bool ((checkA d1) != (0:Int))) (r_int rfl rfl rfl) (want_t (t:=33) rfl rfl hc29) rfl rfl ?_
    refine o_w (v:=.bool ((checkA d1) != (0:Int))) (r_pickF rfl hc29 rfl) ?_
    refine o_w (v:=.bool ((checkA d1) != (0:Int))) (r_mov rfl) ?_
    rcases Bool.eq_false_or_eq_true ((checkA d1) != (0:Int)) with hc36 | hc36
    ·replace h:=h.1 hc36
     iterate 4 refine o_no (want_f (t:=38) rfl rfl hc36) rfl ?_
     refine o_w (v:=.bool true) (r_pickT rfl hc36 rfl) ?_
     refine eo_nil_sq ?_
     refine ec_condT rfl rfl ?_
     refine ec_seq ?_
     refine ec_region ?_
     refine o_w (v:=.int .i64 (2:Int)) (r_asg rfl) ?_
     refine eo_nil_sq ?_
     refine ec_ret ?_
     refine sq_ret ?_
     subst h
     exact (end1 rfl ⟨_,rfl,E32,rfl⟩)
    ·replace h:=h.2 hc36
     refine o_v (v:=.pointer (some ⟨b10,2,none⟩)) (r_fa fld_buffer_Buffer_2 rfl rfl) (want_t (t:=38) rfl rfl hc36) rfl rfl ?_
     refine o_v (v:=.slice A1 d0.names.length c2) (r_ld one_s_buffer_Name rfl ((S10.fr (((G15.trans (Fr.ext F17)).trans (Fr.ext F23)).trans (Fr.ext F30)) (fun _ h=>h)).now.cell rfl)) (want_t (t:=38) rfl rfl hc36) rfl rfl ?_
     refine o_v (v:=.func (.func 50) #[] #[.pointer (some ⟨b12,0,none⟩)]) (r_mov rfl) (want_t (t:=38) rfl rfl hc36) rfl rfl ?_
     obtain ⟨x37,hx37,h⟩:=h
     refine o_call cf_slices_ContainsFunc_Name rfl (slices_ContainsFunc_Name_Check_2_c d0.names (H3.fr G33 (fun _ h=>h)) d1 (S12.fr ((G21.trans (Fr.ext F23)).trans (Fr.ext F30)) (fun _ h=>h)) (kArena_mk (d:=d1) (H6.fr G33 (fun _ h=>h)) (H9.fr G33 (fun _ h=>h))) (hL.fr E32) hx37) (want_t (t:=38) rfl rfl hc36) rfl ?_
     rintro _ w37 ⟨F37,rfl⟩
     have E38:=E32.trans F37
     refine o_w (v:=.bool x37) (r_pickF rfl hc36 rfl) ?_
     refine eo_nil_sq ?_
     refine ec_cond rfl (fun hc42=>?_) (fun hc42=>?_)
     ·replace h:=h.1 hc42
      refine ec_seq ?_
      refine ec_region ?_
      refine o_w (v:=.int .i64 (2:Int)) (r_asg rfl) ?_
      refine eo_nil_sq ?_
      refine ec_ret ?_
      refine sq_ret ?_
      subst h
      exact (end1 rfl ⟨_,rfl,E38,rfl⟩)
     ·replace h:=h.2 hc42
      refine ec_skip ?_
      refine sq_n ?_
      refine ec_seq ?_
      refine ec_region ?_
      refine o_w (v:=.int .i64 (0:Int)) (r_asg rfl) ?_
      refine eo_nil_sq ?_
      refine ec_ret ?_
      subst h
      exact (end1 rfl ⟨_,rfl,E38,rfl⟩)
def buffer_Reset_raw (d0:Buf) (y:Buf):Prop :=
 (((decide (d0.epoch<(0:Int)))||(decide ((2147483647:Int)≤d0.epoch)))=true→(y=(⟨(0:Int),(0:Int),([]:List Nm)⟩:Buf)))∧(((decide (d0.epoch<(0:Int)))||(decide ((2147483647:Int)≤d0.epoch)))=false→(y=(⟨(IntKind.i64.wrap (d0.epoch + (1:Int))),(0:Int),([]:List Nm)⟩:Buf)))
set_option maxRecDepth 20000 in
set_option maxHeartbeats 4000000 in
theorem buffer_Reset_c {L:List Nat} {w:World} {csP0:List Value} (d0:Buf) (HP0:Stb L w (fun w=>kBuf.r w csP0 d0)) (hL:Lt L w) {y:Buf} (h:buffer_Reset_raw d0 y) :
  Calls Try.prog 19 [.agg csP0.toArray].toArray w (Ret fun v w'=>Ext w w'∧∃ (cs90:List Value),v=.agg cs90.toArray∧Stb L w' (fun w=>kBuf.r w cs90 y)):=by
 obtain ⟨A1,c2,rfl,H3⟩:=kBuf_open HP0
 unfold buffer_Reset_raw at h
 refine calls_ec Try.func19 rfl rfl rfl ?_
 refine ec_seq ?_
 refine ec_region ?_
 refine o_box (cs:=(cBuf d0 A1 c2)) rfl rfl rfl ?_
 intro b4 w4 e4 F4 B4
 have S4:=B4.stb (nin hL e4)
 refine o_alloc zero_buffer_Buffer rfl rfl rfl ?_
 intro b6 w6 e6 F6 B6
 have n6:w.heap.size≤b6:=by rw [e6]; exact F4.size
 have E9:=F4.trans F6
 have G11:Fr L w4 w6:=Fr.ext F6
 refine eo_nil_sq ?_
 iterate 2 refine ec_seq ?_
 refine ec_region ?_
 refine o_w (v:=.pointer (some ⟨b4,0,none⟩)) (r_fa fld_buffer_Buffer_0 rfl rfl) ?_
 refine o_w (v:=.int .i64 d0.epoch) (r_ld one_int rfl ((S4.fr G11 (fun _ h=>h)).now.cell rfl)) ?_
 refine o_w (v:=.bool (decide (d0.epoch<(0:Int)))) (r_int rfl rfl rfl) ?_
 refine o_w (v:=.bool (decide (d0.epoch<(0:Int)))) (r_mov rfl) ?_
 refine o_vg (v:=.pointer (some ⟨b4,0,none⟩)) (want_cf (t:=6) rfl rfl) (fun hk=>(r_fa fld_buffer_Buffer_0 rfl rfl)) rfl rfl ?_
 refine o_vg (v:=.int .i64 d0.epoch) (want_cf (t:=6) rfl rfl) (fun hk=>(r_ld one_int (gdT hk) ((S4.fr G11 (fun _ h=>h)).now.cell rfl))) rfl rfl ?_
 refine o_vg (v:=.bool (decide ((2147483647:Int)≤d0.epoch))) (want_cf (t:=6) rfl rfl) (fun hk=>(r_int (gdT hk) rfl rfl)) rfl rfl ?_
 refine o_w (v:=.bool ((decide (d0.epoch<(0:Int)))||(decide ((2147483647:Int)≤d0.epoch)))) (r_pickOr rfl rfl (fun hf=>(gdT (notT hf)))) ?_
 refine eo_nil_sq ?_
 refine ec_cond rfl (fun hc12=>?_) (fun hc12=>?_)
 ·replace h:=h.1 hc12
  refine ec_seq ?_
  refine ec_region ?_
  refine o_w (v:=.agg #[.int .i64 (0:Int),.int .i64 (0:Int),.slice none ([]:List Nm).length 0]) (r_build bld_buffer_Buffer (vs:=[]) (cells:=[.int .i64 (0:Int),.int .i64 (0:Int),.slice none ([]:List Nm).length 0]) rfl rfl) ?_
  refine o_store rfl B6 (vs:=[.int .i64 (0:Int),.int .i64 (0:Int),.slice none ([]:List Nm).length 0]) rfl sz_buffer_Buffer rfl rfl rfl ?_
  intro w13 F13 B13
  have E14:=Ext.st E9 F13 (by simp; omega)
  have B13':Blk w13 b6 _ [.int .i64 (0:Int),.int .i64 (0:Int),.slice none ([]:List Nm).length 0]:=B13
  refine eo_nil_sq ?_
  refine ec_ret ?_
  refine sq_ret ?_
  subst h
  exact (endr1 (rv_a rfl (agg_buffer_Buffer) B13' (vs:=[.int .i64 (0:Int),.int .i64 (0:Int),.slice none ([]:List Nm).length 0]) rfl rfl) ⟨_,rfl,E14,_,rfl,(kBuf_mk (d:=(⟨(0:Int),(0:Int),([]:List Nm)⟩:Buf)) stb_nil)⟩)
 ·replace h:=h.2 hc12
  refine ec_skip ?_
  refine sq_n ?_
  refine ec_seq ?_
  refine ec_region ?_
  refine o_w (v:=.pointer (some ⟨b4,0,none⟩)) (r_fa fld_buffer_Buffer_0 rfl rfl) ?_
  refine o_w (v:=.int .i64 d0.epoch) (r_ld one_int rfl ((S4.fr G11 (fun _ h=>h)).now.cell rfl)) ?_
  refine o_w (v:=.int .i64 (IntKind.i64.wrap (d0.epoch + (1:Int)))) (r_int rfl rfl rfl) ?_
  refine o_w (v:=.agg #[.int .i64 (IntKind.i64.wrap (d0.epoch + (1:Int))),.int .i64 (0:Int),.slice none ([]:List Nm).length 0]) (r_build bld_buffer_Buffer (vs:=[(0,.int .i64 (IntKind.i64.wrap (d0.epoch + (1:Int))))]) (cells:=[.int .i64 (IntKind.i64.wrap (d0.epoch + (1:Int))),.int .i64 (0:Int),.slice none ([]:List Nm).length 0]) rfl rfl) ?_
  refine o_store rfl B6 (vs:=[.int .i64 (IntKind.i64.wrap (d0.epoch + (1:Int))),.int .i64 (0:Int),.slice none ([]:List Nm).length 0]) rfl sz_buffer_Buffer rfl rfl rfl ?_
  intro w17 F17 B17
  have E18:=Ext.st E9 F17 (by simp; omega)
  have B17':Blk w17 b6 _ [.int .i64 (IntKind.i64.wrap (d0.epoch + (1:Int))),.int .i64 (0:Int),.slice none ([]:List Nm).length 0]:=B17
  refine eo_nil_sq ?_
  refine ec_ret ?_
  subst h
  exact (endr1 (rv_a rfl (agg_buffer_Buffer) B17' (vs:=[.int .i64 (IntKind.i64.wrap (d0.epoch + (1:Int))),.int .i64 (0:Int),.slice none ([]:List Nm).length 0]) rfl rfl) ⟨_,rfl,E18,_,rfl,(kBuf_mk (d:=(⟨(IntKind.i64.wrap (d0.epoch + (1:Int))),(0:Int),([]:List Nm)⟩:Buf)) stb_nil)⟩)
def buffer_Mend_raw (d0:Buf) (d1:Arena) (d2:Int) (y:Buf):Prop :=
 ∃ x24,buffer_Check_raw d0 d1 d2 x24∧(((x24==(0:Int))=true→(y=d0))∧((x24==(0:Int))=false→(∃ x36,buffer_Reset_raw d0 x36∧(y=x36))))
set_option maxRecDepth 20000 in
set_option maxHeartbeats 4000000 in
theorem buffer_Mend_c {L:List Nat} {w:World} {csP0:List Value} (d0:Buf) (HP0:Stb L w (fun w=>kBuf.r w csP0 d0)) {csP1:List Value} (d1:Arena) (HP1:Stb L w (fun w=>kArena.r w csP1 d1)) (d2:Int) (hL:Lt L w) {y:Buf} (h:buffer_Mend_raw d0 d1 d2 y) :
  Calls Try.prog 12 [.agg csP0.toArray,.agg csP1.toArray,.int .i64 d2].toArray w (Ret fun v w'=>Ext w w'∧∃ (cs90:List Value),v=.agg cs90.toArray∧Stb L w' (fun w=>kBuf.r w cs90 y)):=by
 obtain ⟨A1,c2,rfl,H3⟩:=kBuf_open HP0
 obtain ⟨A4,c5,A7,c8,rfl,H6,H9⟩:=kArena_open HP1
 unfold buffer_Mend_raw at h
 refine calls_ec Try.func12 rfl rfl rfl ?_
 refine ec_seq ?_
 refine ec_region ?_
 refine o_box (cs:=(cBuf d0 A1 c2)) rfl rfl rfl ?_
 intro b10 w10 e10 F10 B10
 have S10:=B10.stb (nin hL e10)
 have G11:Fr L w w10:=Fr.ext F10
 refine o_box (cs:=(cArena d1 A4 c5 A7 c8)) rfl rfl rfl ?_
 intro b12 w12 e12 F12 B12
 have S12:=B12.stb (nin (hL.fr F10) e12)
 have E13:=F10.trans F12
 have G15:Fr L w10 w12:=Fr.ext F12
 refine o_alloc zero_buffer_Buffer rfl rfl rfl ?_
 intro b16 w16 e16 F16 B16
 have n16:w.heap.size≤b16:=by rw [e16]; exact E13.size
 have m17:w.heap.size≤b16:=by rw [e16]; exact (G11.trans (Fr.ext F12)).size
 have E20:=E13.trans F16
 have G23:Fr L w12 w16:=Fr.ext F16
 refine eo_nil_sq ?_
 iterate 2 refine ec_seq ?_
 refine ec_region ?_
 refine o_w (v:=.agg (cBuf d0 A1 c2).toArray) (r_lda agg_buffer_Buffer rfl (vs:=(cBuf d0 A1 c2)) rfl ((S10.fr (G15.trans (Fr.ext F16)) (fun _ h=>h)).now.part (n:=3) rfl)) ?_
 refine o_w (v:=.agg (cArena d1 A4 c5 A7 c8).toArray) (r_lda agg_api_Arena rfl (vs:=(cArena d1 A4 c5 A7 c8)) rfl ((S12.fr G23 (fun _ h=>h)).now.part (n:=3) rfl)) ?_
 refine o_w (v:=.int .i64 d2) (r_mov rfl) ?_
 obtain ⟨x24,hx24,h⟩:=h
 refine o_call cf_buffer_Check rfl (buffer_Check_c d0 (kBuf_mk (d:=d0) (H3.up ((G11.trans (Fr.ext F12)).trans (Fr.ext F16)) (fun _ h=>h) (upc (.inr m17) (fun _ h=>.inl h)))) d1 (kArena_mk (d:=d1) (H6.up ((G11.trans (Fr.ext F12)).trans (Fr.ext F16)) (fun _ h=>h) (upc (.inr m17) (fun _ h=>.inl h))) (H9.up ((G11.trans (Fr.ext F12)).trans (Fr.ext F16)) (fun _ h=>h) (upc (.inr m17) (fun _ h=>.inl h)))) d2 ((hL.fr E20).cons B16.lt) hx24) rfl rfl ?_
 rintro _ w24 ⟨F24,rfl⟩
 have E25:=E20.trans F24
 refine o_w (v:=.bool (x24==(0:Int))) (r_int rfl rfl rfl) ?_
 refine eo_nil_sq ?_
 refine ec_cond rfl (fun hc30=>?_) (fun hc30=>?_)
 ·replace h:=h.1 hc30
  refine ec_seq ?_
  refine ec_region ?_
  refine o_w (v:=.agg (cBuf d0 A1 c2).toArray) (r_lda agg_buffer_Buffer rfl (vs:=(cBuf d0 A1 c2)) rfl ((S10.fr ((G15.trans (Fr.ext F16)).trans (Fr.ext F24)) (fun _ h=>h)).now.part (n:=3) rfl)) ?_
  refine o_store rfl (B16.ex F24) (vs:=(cBuf d0 A1 c2)) rfl sz_buffer_Buffer rfl rfl rfl ?_
  intro w31 F31 B31
  have E32:=Ext.st E25 F31 (by simp; omega)
  have G33:Fr L w w31:=(((G11.trans (Fr.ext F12)).trans (Fr.ext F16)).trans (Fr.ext F24)).stp F31 (upc (.inr m17) (fun m hm=>by cases hm))
  have B31':Blk w31 b16 _ (cBuf d0 A1 c2):=B31
  refine eo_nil_sq ?_
  refine ec_ret ?_
  refine sq_ret ?_
  replace h:=h.symm
  subst h
  exact (endr1 (rv_a rfl (agg_buffer_Buffer) B31' (vs:=(cBuf d0 A1 c2)) rfl rfl) ⟨_,rfl,E32,_,rfl,(kBuf_mk (d:=d0) (H3.fr G33 (fun _ h=>h)))⟩)
 ·replace h:=h.2 hc30
  refine ec_skip ?_
  refine sq_n ?_
  refine ec_seq ?_
  refine ec_region ?_
  refine o_w (v:=.agg (cBuf d0 A1 c2).toArray) (r_lda agg_buffer_Buffer rfl (vs:=(cBuf d0 A1 c2)) rfl ((S10.fr ((G15.trans (Fr.ext F16)).trans (Fr.ext F24)) (fun _ h=>h)).now.part (n:=3) rfl)) ?_
  obtain ⟨x36,hx36,h⟩:=h
  refine o_call cf_buffer_Reset rfl (buffer_Reset_c d0 (kBuf_mk (d:=d0) (H3.up (((G11.trans (Fr.ext F12)).trans (Fr.ext F16)).trans (Fr.ext F24)) (fun _ h=>h) (upc (.inr m17) (fun _ h=>.inl h)))) ((hL.fr E25).cons (B16.ex F24).lt) hx36) rfl rfl ?_
  rintro _ w36 ⟨F36,cs37,rfl,H38⟩
  have E39:=E25.trans F36
  obtain ⟨A44,c45,rfl,H46⟩:=kBuf_open H38
  refine o_store rfl ((B16.ex F24).ex F36) (vs:=(cBuf x36 A44 c45)) rfl sz_buffer_Buffer rfl rfl rfl ?_
  intro w47 F47 B47
  have E48:=Ext.st E39 F47 (by simp; omega)
  have G52:Fr (b16::L) w36 w47:=(Fr.refl _ _).stp F47 (upc (.inl (List.Mem.head _)) (fun m hm=>by cases hm))
  have B47':Blk w47 b16 _ (cBuf x36 A44 c45):=B47
  refine eo_nil_sq ?_
  refine ec_ret ?_
  replace h:=h.symm
  subst h
  exact (endr1 (rv_a rfl (agg_buffer_Buffer) B47' (vs:=(cBuf x36 A44 c45)) rfl rfl) ⟨_,rfl,E48,_,rfl,(kBuf_mk (d:=x36) (H46.up G52 (fun _ h=>h) (fun m hm=>Or.inl (List.Mem.tail _ hm))))⟩)
def slices_Clone_Name_raw (d0:(List Nm)) (y:(List Nm)):Prop :=
 (d0=[]→(y=([]:List Nm)))∧((([]:List Nm).length + d0.length≤9223372036854775807∧(([]:List Nm).length + d0.length) * 24≤140737488355328)∧(y=(([]:List Nm)++d0)))
set_option maxRecDepth 20000 in
set_option maxHeartbeats 4000000 in
theorem slices_Clone_Name_c {L:List Nat} {w:World} {AP0:Option Addr} {cP0:Nat} (d0:(List Nm)) (HP0:Stb L w (fun w=>SlC kNm w AP0 cP0 d0)) (hL:Lt L w) {y:(List Nm)} (h:slices_Clone_Name_raw d0 y) :
  Calls Try.prog 39 [.slice AP0 d0.length cP0].toArray w (Ret fun v w'=>Ext w w'∧OwnS kNm w.heap.size 50 L w' v y∧(∀ q∈own v,w.heap.size≤q)):=by
 have hL0:=hL
 unfold slices_Clone_Name_raw at h
 refine calls_ec Try.func39 rfl rfl rfl ?_
 refine ec_seq ?_
 refine ec_region ?_
 refine o_w (v:=.slice none ([]:List Nm).length 0) (r_asg rfl) ?_
 refine eo_nil_sq ?_
 iterate 2 refine ec_seq ?_
 refine ec_region ?_
 refine o_w (v:=.slice AP0 d0.length cP0) (r_mov rfl) ?_
 refine o_w (v:=.bool (AP0.isNone)) (r_nilEq un_s_buffer_Name rfl rfl) ?_
 refine eo_nil_sq ?_
 refine ec_cond rfl (fun hc1=>?_) (fun hc1=>?_)
 ·replace h:=h.1 (slc_none HP0.now hc1)
  refine ec_seq ?_
  refine ec_region ?_
  refine o_w (v:=.slice none ([]:List Nm).length 0) (r_asg rfl) ?_
  refine eo_nil_sq ?_
  refine ec_ret ?_
  refine sq_ret ?_
  subst h
  exact (end1 rfl ⟨_,rfl,Fr.refl _ _,OwnS.nil (by decide) hL0,fun q hq=>by cases hq⟩)
 ·replace h:=h.2
  refine ec_skip ?_
  refine sq_n ?_
  refine ec_seq ?_
  refine ec_region ?_
  refine o_bslice slc_s_buffer_Name rfl (vs:=[]) rfl rfl rfl (cs:=[]) rfl rfl rfl rfl ?_
  intro b2 w2 e2 F2 B2
  have N2:=nin hL e2
  have S2:=B2.stb N2
  have G3:Fr L w w2:=Fr.ext F2
  refine o_w (v:=.slice AP0 d0.length cP0) (r_mov rfl) ?_
  have lo4:w.heap.size≤w.heap.size:=Nat.le_refl _
  have O4:OwnS kNm (w.heap.size) 50 L w2 (.slice (some ⟨b2,0,none⟩) 0 0) ([]:List Nm):=bs_own (by decide) hL (Nat.le_of_eq e2.symm) S2.now rfl rfl rowd0
  have P5:∀ m∈own (.slice (some ⟨b2,0,none⟩) 0 0),m∈L∨w.heap.size≤m:=fun m hm=>.inr (by have h1:m=b2:=(by simpa [own,Value.ownBlock] using hm); rw [h1,e2]; exact Nat.le_refl _)
  obtain ⟨ha7,h⟩:=h
  refine o_appsl slc_s_buffer_Name rfl rfl kNm_one rfl O4 rfl (HP0.up G3 (fun _ h=>h) (upo P5 (fun _ h=>.inl h))) ha7 rfl rfl ?_
  intro v6 w6 F6 O6 N6
  have E10:=Ext.st F2 F6 (fun m hm=>Nat.le_trans lo4 (O4.lo m hm))
  refine o_w (v:=v6) (r_asg rfl) ?_
  refine eo_nil_sq ?_
  refine ec_ret ?_
  subst h
  exact (end1 rfl ⟨_,rfl,E10,(O6.weak (by simp)).mono lo4 hL0,fun q hq=>Nat.le_trans lo4 (O6.lo q hq)⟩)
def buffer_Note_1_raw (d0:Buf) (d1:Arena) (d2:Ent) (d3:Int) (y:Buf):Prop :=
 (sma d1)∧((((decide ((findA d1 d2.val.kind d2.key)<(0:Int)))||(decide (d3<(1:Int))))=true→(y=d0))∧(((decide ((findA d1 d2.val.kind d2.key)<(0:Int)))||(decide (d3<(1:Int))))=false→(∃ x38,slices_Clone_Name_raw d0.names x38∧((x38.length + 1≤9223372036854775807∧(x38.length + 1) * 24≤140737488355328)∧(((decide (d3<((x38++([(⟨d2.val.kind,d2.key⟩:Nm)]:List Nm)).length:Int)))=true→((0≤(1:Int)∧(1:Int)≤((x38++([(⟨d2.val.kind,d2.key⟩:Nm)]:List Nm)).length:Int)∧((x38++([(⟨d2.val.kind,d2.key⟩:Nm)]:List Nm)).length:Int)≤((x38++([(⟨d2.val.kind,d2.key⟩:Nm)]:List Nm)).length:Int))∧(∃ x94,buffer_Mend_raw (⟨d0.epoch,(IntKind.i64.wrap (d0.first + (1:Int))),(cutL (x38++([(⟨d2.val.kind,d2.key⟩:Nm)]:List Nm)) (1:Int) ((x38++([(⟨d2.val.kind,d2.key⟩:Nm)]:List Nm)).length:Int))⟩:Buf) d1 d3 x94∧(y=x94))))∧((decide (d3<((x38++([(⟨d2.val.kind,d2.key⟩:Nm)]:List Nm)).length:Int)))=false→(∃ x113,buffer_Mend_raw (⟨d0.epoch,d0.first,(x38++([(⟨d2.val.kind,d2.key⟩:Nm)]:List Nm))⟩:Buf) d1 d3 x113∧(y=x113))))))))
set_option maxRecDepth 20000 in
set_option maxHeartbeats 4000000 in
theorem buffer_Note_1_c {L:List Nat} {w:World} {csP0:List Value} (d0:Buf) (HP0:Stb L w (fun w=>kBuf.r w csP0 d0)) {bP1:Nat} {csP1:List Value} (d1:Arena) (HB1:Stb L w (fun w=>Blk w bP1 28 csP1)) (HP1:Stb L w (fun w=>kArena.r w csP1 d1)) {bP2:Nat} {csP2:List Value} (d2:Ent) (HB2:Stb L w (fun w=>Blk w bP2 48 csP2)) (HP2:Stb L w (fun w=>kEnt.r w csP2 d2)) {bP3:Nat} (d3:Int) (HB3:Stb L w (fun w=>Blk w bP3 3 [.int .i64 d3])) (hL:Lt L w) {y:Buf} (h:buffer_Note_1_raw d0 d1 d2 d3 y) :
  Calls Try.prog 37 [.agg csP0.toArray,.pointer (some ⟨bP1,0,none⟩),.pointer (some ⟨bP2,0,none⟩),.pointer (some ⟨bP3,0,none⟩)].toArray w (Ret fun v w'=>Ext w w'∧∃ (cs90:List Value),v=.agg cs90.toArray∧Stb L w' (fun w=>kBuf.r w cs90 y)):=by
 obtain ⟨A1,c2,rfl,H3⟩:=kBuf_open HP0
 obtain ⟨A4,c5,A7,c8,rfl,H6,H9⟩:=kArena_open HP1
 obtain ⟨A10,c11,A13,c14,rfl,H12,H15⟩:=kEnt_open HP2
 unfold buffer_Note_1_raw at h
 refine calls_ec Try.func37 rfl rfl rfl ?_
 refine ec_seq ?_
 refine ec_region ?_
 refine o_box (cs:=(cBuf d0 A1 c2)) rfl rfl rfl ?_
 intro b16 w16 e16 F16 B16
 have n16:w.heap.size≤b16:=Nat.le_of_eq e16.symm
 have m17:w.heap.size≤b16:=Nat.le_of_eq e16.symm
 have G18:Fr L w w16:=Fr.ext F16
 refine o_alloc zero_buffer_Buffer rfl rfl rfl ?_
 intro b19 w19 e19 F19 B19
 have n19:w.heap.size≤b19:=by rw [e19]; exact F16.size
 have q20:b16<b19:=by rw [e19]; exact B16.lt
 have m21:w.heap.size≤b19:=by rw [e19]; exact G18.size
 have E22:=F16.trans F19
 refine eo_nil_sq ?_
 iterate 2 refine ec_seq ?_
 refine ec_region ?_
 refine o_w (v:=.agg (cArena d1 A4 c5 A7 c8).toArray) (r_lda agg_api_Arena rfl (vs:=(cArena d1 A4 c5 A7 c8)) rfl ((HB1.fr (G18.trans (Fr.ext F19)) (fun _ h=>h)).now.part (n:=3) rfl)) ?_
 refine o_w (v:=.pointer (some ⟨bP2,1,none⟩)) (r_fa fld_api_Entry_1 rfl rfl) ?_
 refine o_w (v:=.pointer (some ⟨bP2,1,none⟩)) (r_fa fld_api_Value_0 rfl rfl) ?_
 refine o_w (v:=.int .i64 d2.val.kind) (r_ld one_int rfl ((HB2.fr (G18.trans (Fr.ext F19)) (fun _ h=>h)).now.cell rfl)) ?_
 refine o_w (v:=.pointer (some ⟨bP2,0,none⟩)) (r_fa fld_api_Entry_0 rfl rfl) ?_
 refine o_w (v:=str d2.key) (r_ld one_string rfl ((HB2.fr (G18.trans (Fr.ext F19)) (fun _ h=>h)).now.cell rfl)) ?_
 obtain ⟨ha26,h⟩:=h
 refine o_call cf_arena_Find rfl (arena_Find_c d1 (kArena_mk (d:=d1) (H6.up (G18.trans (Fr.ext F19)) (fun _ h=>h) (upc (.inr m21) (upc (.inr m17) (fun _ h=>.inl h)))) (H9.up (G18.trans (Fr.ext F19)) (fun _ h=>h) (upc (.inr m21) (upc (.inr m17) (fun _ h=>.inl h))))) d2.val.kind d2.key (((hL.fr E22).cons (B16.ex F19).lt).cons B19.lt) (arFind_ev d1 d2.val.kind d2.key ha26)) rfl rfl ?_
 rintro _ w25 ⟨F25,rfl⟩
 have E27:=E22.trans F25
 refine o_w (v:=.bool (decide ((findA d1 d2.val.kind d2.key)<(0:Int)))) (r_int rfl rfl rfl) ?_
 refine o_w (v:=.bool (decide ((findA d1 d2.val.kind d2.key)<(0:Int)))) (r_mov rfl) ?_
 refine o_vg (v:=.int .i64 d3) (want_cf (t:=14) rfl rfl) (fun hk=>(r_ld one_int rfl ((HB3.fr ((G18.trans (Fr.ext F19)).trans (Fr.ext F25)) (fun _ h=>h)).now.cell rfl))) rfl rfl ?_
 refine o_vg (v:=.bool (decide (d3<(1:Int)))) (want_cf (t:=14) rfl rfl) (fun hk=>(r_int (gdT hk) rfl rfl)) rfl rfl ?_
 refine o_w (v:=.bool ((decide ((findA d1 d2.val.kind d2.key)<(0:Int)))||(decide (d3<(1:Int))))) (r_pickOr rfl rfl (fun hf=>(gdT (notT hf)))) ?_
 refine eo_nil_sq ?_
 refine ec_cond rfl (fun hc31=>?_) (fun hc31=>?_)
 ·replace h:=h.1 hc31
  refine ec_seq ?_
  refine ec_region ?_
  refine o_w (v:=.agg (cBuf d0 A1 c2).toArray) (r_lda agg_buffer_Buffer rfl (vs:=(cBuf d0 A1 c2)) rfl (((B16.ex F19).ex F25).part (n:=3) rfl)) ?_
  refine o_store rfl (B19.ex F25) (vs:=(cBuf d0 A1 c2)) rfl sz_buffer_Buffer rfl rfl rfl ?_
  intro w32 F32 B32
  have E33:=Ext.st E27 F32 (by simp; omega)
  have G34:Fr L w w32:=((G18.trans (Fr.ext F19)).trans (Fr.ext F25)).stp F32 (upc (.inr m21) (fun m hm=>by cases hm))
  have B32':Blk w32 b19 _ (cBuf d0 A1 c2):=B32
  refine eo_nil_sq ?_
  refine ec_ret ?_
  refine sq_ret ?_
  replace h:=h.symm
  subst h
  exact (endr1 (rv_a rfl (agg_buffer_Buffer) B32' (vs:=(cBuf d0 A1 c2)) rfl rfl) ⟨_,rfl,E33,_,rfl,(kBuf_mk (d:=d0) (H3.fr G34 (fun _ h=>h)))⟩)
 ·replace h:=h.2 hc31
  refine ec_skip ?_
  refine sq_n ?_
  refine ec_seq ?_
  obtain ⟨x38,hx38,h⟩:=h
  obtain ⟨ha42,h⟩:=h
  have hLd36:=(((hL.fr E27).cons ((B16.ex F19).ex F25).lt).cons (B19.ex F25).lt)
  have qb36_b16:b16<w25.heap.size:=((B16.ex F19).ex F25).lt
  refine ec_anyGN (by kernel_rfl) [[],[0],[0,1],[],[3],[3,4],[],[6],[3,4,5,6,7],[3,4,5,6,7,8],[0,1,2,3,4,5,6,7,8,9],[0,1,2,3,4,5,6,7,8,9,10],[0,1,2,3,4,5,6,7,8,9,10,11]] [19,20,21,22,23,24,25,26,27,28,29,30] (b16::[]) [10,12] 2 0 (fun g w=>g≠gNil→OwnS kNm (w25.heap.size) 50 (b19::(b16::L)) w g x38) (fun g36=>[own g36,[b16]]) [[10,11,12],[12]] (fun g36=>[fun w'=>(g36≠gNil→OwnS kNm (w25.heap.size) 50 (b19::(b16::L)) w' g36 x38)∧Blk w' b16 24 (cBuf d0 A1 c2),fun w'=>Blk w' b16 24 (cBuf d0 A1 c2),fun w'=>∃ v36_10,OwnS kNm (w25.heap.size) 50 (b19::(b16::L)) w' v36_10 (x38++([(⟨d2.val.kind,d2.key⟩:Nm)]:List Nm))∧(∀ q∈own v36_10,w25.heap.size≤q)∧Blk w' b16 24 [.int .i64 d0.epoch,.int .i64 d0.first,v36_10]]) (fun g36=>[fun v _=>v=(.pointer (some ⟨b16,2,none⟩):Value),fun v _=>v=(.slice A1 d0.names.length c2:Value),fun v _=>v=(g36:Value)∧g36≠gNil,fun v _=>v=(.pointer (some ⟨bP2,1,none⟩):Value),fun v _=>v=(.pointer (some ⟨bP2,1,none⟩):Value),fun v _=>v=(.int .i64 d2.val.kind:Value),fun v _=>v=(.pointer (some ⟨bP2,0,none⟩):Value),fun v _=>v=(str d2.key:Value),fun v _=>v=(.agg #[.int .i64 d2.val.kind,str d2.key]:Value),fun v w'=>∃ b36_9,v=(.slice (some ⟨b36_9,0,none⟩) 1 1:Value)∧Blk w' b36_9 50 [.int .i64 d2.val.kind,str d2.key]∧w25.heap.size≤b36_9∧b36_9∉own g36,fun v w'=>∃ v36_10,v=(v36_10:Value)∧OwnS kNm (w25.heap.size) 50 (b19::(b16::L)) w' v36_10 (x38++([(⟨d2.val.kind,d2.key⟩:Nm)]:List Nm))∧(∀ q∈own v36_10,w25.heap.size≤q),fun v _=>v=(.pointer (some ⟨b16,2,none⟩):Value),fun _ _=>True]) (by kernel_rfl) (fun _=>rfl) (fun _=>rfl) (fun g36=>(allM1 (φ:=fun M=>∀ m∈M,m∈(b16::[])∨m∈own g36) (fun m hm=>.inr hm) (allM1 (φ:=fun M=>∀ m∈M,m∈(b16::[])∨m∈own g36) (fun m hm=>.inl (by simp at hm; simp [hm])) (fun _ h=>by cases h)))) (fun g36=>⟨fun _ _ _ _ _ h=>h,fun _ _ _ _ _ h=>h,fun _ _ _ _ _ h=>h,fun _ _ _ _ _ h=>h,fun _ _ _ _ _ h=>h,fun _ _ _ _ _ h=>h,fun _ _ _ _ _ h=>h,fun _ _ _ _ _ h=>h,fun _ _ _ _ _ h=>h,fun _ v w' w'' F h=>by obtain ⟨b36_9,hv,B36_9,qB36_9,xB36_9⟩:=h; exact ⟨b36_9,hv,(B36_9.ex F),qB36_9,xB36_9⟩,fun _ v w' w'' F h=>by obtain ⟨v36_10,hv,O36_10,NO36_10⟩:=h; exact ⟨v36_10,hv,(O36_10.ex F),NO36_10⟩,fun _ _ _ _ _ h=>h,fun _ _ _ _ _ h=>h,trivial⟩) (fun g36=>⟨⟨fun _ _ _ _ _ _ h=>h,fun _ _ _ _ _ _ h=>h,fun _ _ _ _ _ _ h=>h,fun _ _ _ _ _ _ h=>h,fun _ _ _ _ _ _ h=>h,fun _ _ _ _ _ _ h=>h,fun _ _ _ _ _ _ h=>h,fun _ _ _ _ _ _ h=>h,fun _ _ _ _ _ _ h=>h,fun _ v w' w'' hg36 F h=>by obtain ⟨b36_9,hv,B36_9,qB36_9,xB36_9⟩:=h; exact ⟨b36_9,hv,(B36_9.fr F xB36_9),qB36_9,xB36_9⟩,(fun h=>absurd h (by decide)),(fun h=>absurd h (by decide)),(fun h=>absurd h (by decide)),trivial⟩,⟨fun _ _ _ _ _ _ h=>h,fun _ _ _ _ _ _ h=>h,fun _ _ _ _ _ _ h=>h,fun _ _ _ _ _ _ h=>h,fun _ _ _ _ _ _ h=>h,fun _ _ _ _ _ _ h=>h,fun _ _ _ _ _ _ h=>h,fun _ _ _ _ _ _ h=>h,fun _ _ _ _ _ _ h=>h,fun _ v w' w'' hg36 F h=>by obtain ⟨b36_9,hv,B36_9,qB36_9,xB36_9⟩:=h; exact ⟨b36_9,hv,(B36_9.fr F (fun hm=>by simp at hm; omega)),qB36_9,xB36_9⟩,fun _ v w' w'' hg36 F h=>by obtain ⟨v36_10,hv,O36_10,NO36_10⟩:=h; exact ⟨v36_10,hv,(O36_10.fr F (by simp)),NO36_10⟩,fun _ _ _ _ _ _ h=>h,(fun h=>absurd h (by decide)),trivial⟩,trivial⟩) (fun g w hw hg=>⟨fun _ _ _ _ h=>h,fun _ _ _ _ h=>h,(fun h=>absurd h (by decide)),fun _ _ _ _ h=>h,fun _ _ _ _ h=>h,fun _ _ _ _ h=>h,fun _ _ _ _ h=>h,fun _ _ _ _ h=>h,fun _ _ _ _ h=>h,fun _ v w' F h=>by obtain ⟨b36_9,hv,B36_9,qB36_9,xB36_9⟩:=h; exact ⟨b36_9,hv,(B36_9.ex F),qB36_9,(fun hm=>by have h1:=hg _ hm; have:=B36_9.lt; omega)⟩,fun _ v w' F h=>by obtain ⟨v36_10,hv,O36_10,NO36_10⟩:=h; exact ⟨v36_10,hv,(O36_10.ex F),NO36_10⟩,fun _ _ _ _ h=>h,fun _ _ _ _ h=>h,trivial⟩) (fun g36=>⟨fun w' w'' F h=>by obtain ⟨hG36,hB36_b16⟩:=h; exact ⟨(fun hn=>(hG36 hn).ex F),(hB36_b16.ex F)⟩,fun w' w'' F h=>by have hB36_b16:=h; exact (hB36_b16.ex F),fun w' w'' F h=>by obtain ⟨v36_10,O36_10,NO36_10,hB36_b16⟩:=h; exact ⟨v36_10,(O36_10.ex F),NO36_10,(hB36_b16.ex F)⟩,trivial⟩) ⟨(fun hn=>absurd rfl hn),((B16.ex F19).ex F25)⟩ (fun k hk g w w' hw hg F hX hI=>match k,hk,hI with | 0,_,hI=>by obtain ⟨hG36,hB36_b16⟩:=hI; exact ⟨hX,(hB36_b16.ex F)⟩ | k + 1,hk,_=>absurd hk (by omega)) ?_ ?_ ?_ ?_
  ·refine ⟨?_,?_,?_,?_,?_,?_,?_,?_,?_,?_,?_,?_,?_,trivial⟩
   ·intro _ _ g36 ρ w36o hg36 F36o hX hS hρ
    have F36o:=hX 10 rfl rfl
    have q4:ρ 4=.pointer (some ⟨b16,0,none⟩):=hρ 4 (by kernel_rfl)
    exact o_q (r_fa fld_buffer_Buffer_2 rfl q4) ⟨Fr.refl _ _,rfl⟩
   ·intro _ _ g36 ρ w36o hg36 F36o hX hS hρ
    have F36o:=hX 10 rfl rfl
    have q19:ρ 19=.pointer (some ⟨b16,2,none⟩):=hS 0 (by decide) 19 rfl
    exact o_q (r_ld one_s_buffer_Name q19 ((((B16.ex F19).ex F25).ex F36o).cell rfl)) ⟨Fr.refl _ _,rfl⟩
   ·intro _ hT; exact absurd hT (by decide)
   ·intro _ _ g36 ρ w36o hg36 F36o hX hS hρ
    have F36o:=hX 10 rfl rfl
    have q2:ρ 2=.pointer (some ⟨bP2,0,none⟩):=hρ 2 (by kernel_rfl)
    exact o_q (r_fa fld_api_Entry_1 rfl q2) ⟨Fr.refl _ _,rfl⟩
   ·intro _ _ g36 ρ w36o hg36 F36o hX hS hρ
    have F36o:=hX 10 rfl rfl
    have q22:ρ 22=.pointer (some ⟨bP2,1,none⟩):=hS 3 (by decide) 22 rfl
    exact o_q (r_fa fld_api_Value_0 rfl q22) ⟨Fr.refl _ _,rfl⟩
   ·intro _ _ g36 ρ w36o hg36 F36o hX hS hρ
    have F36o:=hX 10 rfl rfl
    have q23:ρ 23=.pointer (some ⟨bP2,1,none⟩):=hS 4 (by decide) 23 rfl
    exact o_q (r_ld one_int q23 ((HB2.fr (((G18.trans (Fr.ext F19)).trans (Fr.ext F25)).trans (Fr.ext F36o)) (fun _ h=>h)).now.cell rfl)) ⟨Fr.refl _ _,rfl⟩
   ·intro _ _ g36 ρ w36o hg36 F36o hX hS hρ
    have F36o:=hX 10 rfl rfl
    have q2:ρ 2=.pointer (some ⟨bP2,0,none⟩):=hρ 2 (by kernel_rfl)
    exact o_q (r_fa fld_api_Entry_0 rfl q2) ⟨Fr.refl _ _,rfl⟩
   ·intro _ _ g36 ρ w36o hg36 F36o hX hS hρ
    have F36o:=hX 10 rfl rfl
    have q25:ρ 25=.pointer (some ⟨bP2,0,none⟩):=hS 6 (by decide) 25 rfl
    exact o_q (r_ld one_string q25 ((HB2.fr (((G18.trans (Fr.ext F19)).trans (Fr.ext F25)).trans (Fr.ext F36o)) (fun _ h=>h)).now.cell rfl)) ⟨Fr.refl _ _,rfl⟩
   ·intro _ _ g36 ρ w36o hg36 F36o hX hS hρ
    have F36o:=hX 10 rfl rfl
    have q24:ρ 24=.int .i64 d2.val.kind:=hS 5 (by decide) 24 rfl
    have q26:ρ 26=str d2.key:=hS 7 (by decide) 26 rfl
    exact o_q (r_build bld_buffer_Name (vs:=[(0,.int .i64 d2.val.kind),(1,str d2.key)]) (cells:=[.int .i64 d2.val.kind,str d2.key]) (by simp only [List.map,ev,q24,q26]) rfl) ⟨Fr.refl _ _,rfl⟩
   ·intro _ _ g36 ρ w36o hg36 F36o hX hS hρ
    have F36o:=hX 10 rfl rfl
    have q27:ρ 27=.agg #[.int .i64 d2.val.kind,str d2.key]:=hS 8 (by decide) 27 rfl
    refine o_bslice slc_s_buffer_Name rfl (vs:=[.agg #[.int .i64 d2.val.kind,str d2.key]]) (by simp only [List.map,ev,idx,q27]) rfl rfl (cs:=[.int .i64 d2.val.kind,str d2.key]) rfl rfl rfl rfl ?_
    intro b w' e F B
    exact eo_nil ⟨rfl,rfl,_,rfl,F,b,rfl,B,by rw [e]; exact F36o.size,fun hm=>by have:=(hg36 _ hm).2; omega⟩
   ·intro hT; exact absurd hT (by decide)
   ·intro _ _ g36 ρ w36o hg36 F36o hX hS hρ
    have q4:ρ 4=.pointer (some ⟨b16,0,none⟩):=hρ 4 (by kernel_rfl)
    exact o_q (r_fa fld_buffer_Buffer_2 rfl q4) ⟨Fr.refl _ _,rfl⟩
   ·intro hT; exact absurd hT (by decide)
  ·intro o ho ρ w36o F36o hX hS hρ; cases Option.some.inj ho
   have F36o:=hX 10 rfl rfl
   have E55:=E27.trans F36o
   have q20:ρ 20=.slice A1 d0.names.length c2:=hS 1 (by decide) 20 rfl
   refine o_call cf_slices_Clone_Name (by simp only [List.map,ev,q20] <;> rfl) (slices_Clone_Name_c d0.names (H3.up (((G18.trans (Fr.ext F19)).trans (Fr.ext F25)).trans (Fr.ext F36o)) (fun _ h=>h) (upc (.inr m21) (upc (.inr m17) (fun _ h=>.inl h)))) (((hL.fr E55).cons (((B16.ex F19).ex F25).ex F36o).lt).cons ((B19.ex F25).ex F36o).lt) hx38) rfl rfl ?_
   rintro v' w' ⟨F,O,Nn⟩
   exact eo_nil ⟨rfl,rfl,_,rfl,F,v',(fun m hm=>⟨Nn m hm,O.ltw m hm⟩),(fun _=>O.mono F36o.size hLd36),rfl,(by obtain ⟨A,c,ev⟩:=O.shape; rw [ev]; intro h; cases h)⟩
  ·refine ⟨⟨_,rfl,?_⟩,⟨_,rfl,?_⟩,trivial⟩
   ·intro g36 ρ w36o hg36 F36o hX hI hS hρ
    have F36o:=hX rfl
    obtain ⟨hG36,hB36_b16⟩:=hI
    have hO36_37:=hG36 (hS 2 (by decide) 21 rfl).2
    obtain ⟨q21,gn21⟩:=hS 2 (by decide) 21 rfl
    obtain ⟨b36_9,q28,B36_9,qB36_9,xB36_9⟩:=hS 9 (by decide) 28 rfl
    refine o_app slc_s_buffer_Name rfl rfl (show ev ρ _=_ from q21) hO36_37 (show ev ρ _=_ from q28) B36_9 (ys:=([(⟨d2.val.kind,d2.key⟩:Nm)]:List Nm)) rfl rfl rfl (rowd1 (cs:=[.int .i64 d2.val.kind,str d2.key]) (kNm_mk (d:=(⟨d2.val.kind,d2.key⟩:Nm))) rfl) ha42 rfl rfl ?_
    intro v' w' F O Nn
    have N':∀ q∈own v',w25.heap.size≤q:=fun q hq=>(Nn q hq).elim (fun h=>(hg36 q h).1) (fun h=>Nat.le_trans F36o.size h)
    exact eo_nil ⟨rfl,rfl,_,rfl,F,(hB36_b16.fr F (fun hm=>by have h1:=(hg36 _ hm).1; omega)),v',rfl,O,N'⟩
   ·intro g36 ρ w36o hg36 F36o hX hI hS hρ
    have hB36_b16:=hI
    obtain ⟨v36_10,q29,O36_10,NO36_10⟩:=hS 10 (by decide) 29 rfl
    have q30:ρ 30=.pointer (some ⟨b16,2,none⟩):=hS 11 (by decide) 30 rfl
    obtain ⟨A66,c67,rfl⟩:=O36_10.shape
    refine o_store (show ev ρ _=_ from q30) hB36_b16 (vs:=[.slice A66 (x38++([(⟨d2.val.kind,d2.key⟩:Nm)]:List Nm)).length c67]) (congrArg Value.cells q29) sz_s_buffer_Name rfl rfl rfl ?_
    intro w' F B2
    exact eo_nil ⟨rfl,rfl,undef,rfl,F,⟨(.slice A66 _ c67),(O36_10.fr F (by simp)),NO36_10,B2⟩,trivial⟩
  ·intro g36 ρ w36 hg36 F36 hI hS hρ
   obtain ⟨v36_10,O36_10,NO36_10,hB36_b16⟩:=hI
   obtain ⟨ρ',rfl⟩:∃ ρ',ρ=envs (ovr [19,20,21,22,23,24,25,26,27,28,29,30] ρ' _) []:=⟨ρ,ovr_self hρ trivial⟩
   have lo37:w.heap.size≤w25.heap.size:=E27.size
   have E69:Ext w w36:=Ext.st E27 F36 (upc n16 (fun m hm=>by cases hm))
   have G70:Fr L w w36:=Fr.stp ((G18.trans (Fr.ext F19)).trans (Fr.ext F25)) F36 (upc (.inr m17) (fun m hm=>by cases hm))
   have B71:=(B19.ex F25).fr F36 (fun hm=>(show ∀ m∈_,m≠b19 from (upc (by omega) (fun m hm=>by cases hm))) _ hm rfl)
   refine sq_n ?_
   iterate 2 refine ec_seq ?_
   refine ec_region ?_
   refine o_w (v:=.pointer (some ⟨b16,2,none⟩)) (r_fa fld_buffer_Buffer_2 rfl rfl) ?_
   refine o_w (v:=v36_10) (r_ld one_s_buffer_Name rfl (hB36_b16.cell rfl)) ?_
   obtain ⟨A72,c73,rfl⟩:=O36_10.shape
   refine o_w (v:=.int .i64 ((x38++([(⟨d2.val.kind,d2.key⟩:Nm)]:List Nm)).length:Int)) (r_len_slc un_s_buffer_Name rfl) ?_
   refine o_w (v:=.int .i64 d3) (r_ld one_int rfl ((HB3.fr G70 (fun _ h=>h)).now.cell rfl)) ?_
   refine o_w (v:=.bool (decide (d3<((x38++([(⟨d2.val.kind,d2.key⟩:Nm)]:List Nm)).length:Int)))) (r_int rfl rfl rfl) ?_
   refine eo_nil_sq ?_
   refine ec_cond rfl (fun hc74=>?_) (fun hc74=>?_)
   ·replace h:=h.1 hc74
    refine ec_seq ?_
    refine ec_region ?_
    refine o_w (v:=.pointer (some ⟨b16,2,none⟩)) (r_fa fld_buffer_Buffer_2 rfl rfl) ?_
    refine o_w (v:=(.slice A72 (x38++([(⟨d2.val.kind,d2.key⟩:Nm)]:List Nm)).length c73)) (r_ld one_s_buffer_Name rfl (hB36_b16.cell rfl)) ?_
    obtain ⟨A75,c76,eA75,H77⟩:=O36_10.still
    cases eA75
    have Zw36_78:=Fr.refl (b19::(b16::L)) w36
    obtain ⟨ha80,h⟩:=h
    have H81:=Stb.cutL (H77.fr Zw36_78 (fun _ h=>h)) ha80.1 ha80.2.1 ha80.2.2
    refine o_w (v:=.slice (slA A72 c73 (1:Int).toNat kNm.n) (cutL (x38++([(⟨d2.val.kind,d2.key⟩:Nm)]:List Nm)) (1:Int) ((x38++([(⟨d2.val.kind,d2.key⟩:Nm)]:List Nm)).length:Int)).length (c73 - (1:Int).toNat)) (r_sl_slc slc_s_buffer_Name rfl rfl ⟨_,rfl⟩ rfl ha80.1 ha80.2.1 ha80.2.2 (H77.fr Zw36_78 (fun _ h=>h)).now.1) ?_
    refine o_w (v:=.pointer (some ⟨b16,2,none⟩)) (r_fa fld_buffer_Buffer_2 rfl rfl) ?_
    refine o_store rfl hB36_b16 (vs:=[.slice (slA A72 c73 (1:Int).toNat kNm.n) (cutL (x38++([(⟨d2.val.kind,d2.key⟩:Nm)]:List Nm)) (1:Int) ((x38++([(⟨d2.val.kind,d2.key⟩:Nm)]:List Nm)).length:Int)).length (c73 - (1:Int).toNat)]) rfl sz_s_buffer_Name rfl rfl rfl ?_
    intro w82 F82 B82
    have E83:=Ext.st E69 F82 (by simp; omega)
    have G84:Fr L w w82:=G70.stp F82 (upc (.inr m17) (fun m hm=>by cases hm))
    have G86:Fr (b19::(b16::L)) w36 w82:=(Fr.refl _ _).stp F82 (upc (.inl (List.Mem.tail _ (List.Mem.head _))) (fun m hm=>by cases hm))
    have B87:=B71.fr F82 (by simp; omega)
    have B82':Blk w82 b16 _ [.int .i64 d0.epoch,.int .i64 d0.first,.slice (slA A72 c73 (1:Int).toNat kNm.n) (cutL (x38++([(⟨d2.val.kind,d2.key⟩:Nm)]:List Nm)) (1:Int) ((x38++([(⟨d2.val.kind,d2.key⟩:Nm)]:List Nm)).length:Int)).length (c73 - (1:Int).toNat)]:=B82
    refine eo_nil_sq ?_
    refine ec_region ?_
    refine o_w (v:=.pointer (some ⟨b16,1,none⟩)) (r_fa fld_buffer_Buffer_1 rfl rfl) ?_
    refine o_w (v:=.int .i64 d0.first) (r_ld one_int rfl (B82'.cell rfl)) ?_
    refine o_w (v:=.int .i64 (IntKind.i64.wrap (d0.first + (1:Int)))) (r_int rfl rfl rfl) ?_
    refine o_w (v:=.pointer (some ⟨b16,1,none⟩)) (r_fa fld_buffer_Buffer_1 rfl rfl) ?_
    refine o_store rfl B82' (vs:=[.int .i64 (IntKind.i64.wrap (d0.first + (1:Int)))]) rfl sz_int rfl rfl rfl ?_
    intro w88 F88 B88
    have E89:=Ext.st E83 F88 (by simp; omega)
    have G90:Fr L w w88:=G84.stp F88 (upc (.inr m17) (fun m hm=>by cases hm))
    have G92:Fr (b19::(b16::L)) w36 w88:=G86.stp F88 (upc (.inl (List.Mem.tail _ (List.Mem.head _))) (fun m hm=>by cases hm))
    have B93:=B87.fr F88 (by simp; omega)
    have B88':Blk w88 b16 _ [.int .i64 d0.epoch,.int .i64 (IntKind.i64.wrap (d0.first + (1:Int))),.slice (slA A72 c73 (1:Int).toNat kNm.n) (cutL (x38++([(⟨d2.val.kind,d2.key⟩:Nm)]:List Nm)) (1:Int) ((x38++([(⟨d2.val.kind,d2.key⟩:Nm)]:List Nm)).length:Int)).length (c73 - (1:Int).toNat)]:=B88
    refine eo_nil_sq ?_
    refine ec_seq ?_
    refine ec_region ?_
    refine o_w (v:=.agg #[.int .i64 d0.epoch,.int .i64 (IntKind.i64.wrap (d0.first + (1:Int))),.slice (slA A72 c73 (1:Int).toNat kNm.n) (cutL (x38++([(⟨d2.val.kind,d2.key⟩:Nm)]:List Nm)) (1:Int) ((x38++([(⟨d2.val.kind,d2.key⟩:Nm)]:List Nm)).length:Int)).length (c73 - (1:Int).toNat)]) (r_lda agg_buffer_Buffer rfl (vs:=[.int .i64 d0.epoch,.int .i64 (IntKind.i64.wrap (d0.first + (1:Int))),.slice (slA A72 c73 (1:Int).toNat kNm.n) (cutL (x38++([(⟨d2.val.kind,d2.key⟩:Nm)]:List Nm)) (1:Int) ((x38++([(⟨d2.val.kind,d2.key⟩:Nm)]:List Nm)).length:Int)).length (c73 - (1:Int).toNat)]) rfl (B88'.part (n:=3) rfl)) ?_
    refine o_w (v:=.agg (cArena d1 A4 c5 A7 c8).toArray) (r_lda agg_api_Arena rfl (vs:=(cArena d1 A4 c5 A7 c8)) rfl ((HB1.fr G90 (fun _ h=>h)).now.part (n:=3) rfl)) ?_
    refine o_w (v:=.int .i64 d3) (r_ld one_int rfl ((HB3.fr G90 (fun _ h=>h)).now.cell rfl)) ?_
    obtain ⟨x94,hx94,h⟩:=h
    refine o_call cf_buffer_Mend rfl (buffer_Mend_c (⟨d0.epoch,(IntKind.i64.wrap (d0.first + (1:Int))),(cutL (x38++([(⟨d2.val.kind,d2.key⟩:Nm)]:List Nm)) (1:Int) ((x38++([(⟨d2.val.kind,d2.key⟩:Nm)]:List Nm)).length:Int))⟩:Buf) (kBuf_mk (d:=(⟨d0.epoch,(IntKind.i64.wrap (d0.first + (1:Int))),(cutL (x38++([(⟨d2.val.kind,d2.key⟩:Nm)]:List Nm)) (1:Int) ((x38++([(⟨d2.val.kind,d2.key⟩:Nm)]:List Nm)).length:Int))⟩:Buf)) (H81.fr G92 (fun _ h=>h))) d1 (kArena_mk (d:=d1) (H6.up G90 (fun _ h=>h) (upc (.inr m21) (upc (.inr m17) (fun _ h=>.inl h)))) (H9.up G90 (fun _ h=>h) (upc (.inr m21) (upc (.inr m17) (fun _ h=>.inl h))))) d3 (((hL.fr E89).cons B88'.lt).cons B93.lt) hx94) rfl rfl ?_
    rintro _ w94 ⟨F94,cs95,rfl,H96⟩
    have E97:=E89.trans F94
    obtain ⟨A103,c104,rfl,H105⟩:=kBuf_open H96
    refine o_store rfl (B93.ex F94) (vs:=(cBuf x94 A103 c104)) rfl sz_buffer_Buffer rfl rfl rfl ?_
    intro w106 F106 B106
    have E107:=Ext.st E97 F106 (by simp; omega)
    have G111:Fr (b19::(b16::L)) w94 w106:=(Fr.refl _ _).stp F106 (upc (.inl (List.Mem.head _)) (fun m hm=>by cases hm))
    have B106':Blk w106 b19 _ (cBuf x94 A103 c104):=B106
    refine eo_nil_sq ?_
    refine ec_ret ?_
    replace h:=h.symm
    subst h
    exact (endr1 (rv_a rfl (agg_buffer_Buffer) B106' (vs:=(cBuf x94 A103 c104)) rfl rfl) ⟨_,rfl,E107,_,rfl,(kBuf_mk (d:=x94) (H105.up G111 (fun _ h=>h) (fun m hm=>Or.inl (List.Mem.tail _ (List.Mem.tail _ hm)))))⟩)
   ·replace h:=h.2 hc74
    refine ec_skip ?_
    refine sq_n ?_
    refine ec_seq ?_
    refine ec_region ?_
    refine o_w (v:=.agg #[.int .i64 d0.epoch,.int .i64 d0.first,(.slice A72 (x38++([(⟨d2.val.kind,d2.key⟩:Nm)]:List Nm)).length c73)]) (r_lda agg_buffer_Buffer rfl (vs:=[.int .i64 d0.epoch,.int .i64 d0.first,(.slice A72 (x38++([(⟨d2.val.kind,d2.key⟩:Nm)]:List Nm)).length c73)]) rfl (hB36_b16.part (n:=3) rfl)) ?_
    refine o_w (v:=.agg (cArena d1 A4 c5 A7 c8).toArray) (r_lda agg_api_Arena rfl (vs:=(cArena d1 A4 c5 A7 c8)) rfl ((HB1.fr G70 (fun _ h=>h)).now.part (n:=3) rfl)) ?_
    refine o_w (v:=.int .i64 d3) (r_ld one_int rfl ((HB3.fr G70 (fun _ h=>h)).now.cell rfl)) ?_
    obtain ⟨A114,c115,eA114,H116⟩:=O36_10.still
    cases eA114
    have Zw36_117:=Fr.refl (b19::(b16::L)) w36
    obtain ⟨x113,hx113,h⟩:=h
    refine o_call cf_buffer_Mend rfl (buffer_Mend_c (⟨d0.epoch,d0.first,(x38++([(⟨d2.val.kind,d2.key⟩:Nm)]:List Nm))⟩:Buf) (kBuf_mk (d:=(⟨d0.epoch,d0.first,(x38++([(⟨d2.val.kind,d2.key⟩:Nm)]:List Nm))⟩:Buf)) (H116.fr Zw36_117 (fun _ h=>h))) d1 (kArena_mk (d:=d1) (H6.up G70 (fun _ h=>h) (upc (.inr m21) (upc (.inr m17) (fun _ h=>.inl h)))) (H9.up G70 (fun _ h=>h) (upc (.inr m21) (upc (.inr m17) (fun _ h=>.inl h))))) d3 (((hL.fr E69).cons hB36_b16.lt).cons B71.lt) hx113) rfl rfl ?_
    rintro _ w113 ⟨F113,cs119,rfl,H120⟩
    have E121:=E69.trans F113
    obtain ⟨A126,c127,rfl,H128⟩:=kBuf_open H120
    refine o_store rfl (B71.ex F113) (vs:=(cBuf x113 A126 c127)) rfl sz_buffer_Buffer rfl rfl rfl ?_
    intro w129 F129 B129
    have E130:=Ext.st E121 F129 (by simp; omega)
    have G133:Fr (b19::(b16::L)) w113 w129:=(Fr.refl _ _).stp F129 (upc (.inl (List.Mem.head _)) (fun m hm=>by cases hm))
    have B129':Blk w129 b19 _ (cBuf x113 A126 c127):=B129
    refine eo_nil_sq ?_
    refine ec_ret ?_
    replace h:=h.symm
    subst h
    exact (endr1 (rv_a rfl (agg_buffer_Buffer) B129' (vs:=(cBuf x113 A126 c127)) rfl rfl) ⟨_,rfl,E130,_,rfl,(kBuf_mk (d:=x113) (H128.up G133 (fun _ h=>h) (fun m hm=>Or.inl (List.Mem.tail _ (List.Mem.tail _ hm)))))⟩)
def buffer_Ack_1_raw (d0:Buf) (d1:Int) (d2:Int) (y:Buf):Prop :=
 ((((d0.epoch==d1)&&(decide (d0.first<d2)))&&(decide (d2≤(IntKind.i64.wrap (d0.first + (d0.names.length:Int))))))=true→((0≤(IntKind.i64.wrap (d2 - d0.first))∧(IntKind.i64.wrap (d2 - d0.first))≤(d0.names.length:Int)∧(d0.names.length:Int)≤(d0.names.length:Int))∧(∃ x16,slices_Clone_Name_raw (cutL d0.names (IntKind.i64.wrap (d2 - d0.first)) (d0.names.length:Int)) x16∧(y=(⟨d0.epoch,d2,x16⟩:Buf)))))∧((((d0.epoch==d1)&&(decide (d0.first<d2)))&&(decide (d2≤(IntKind.i64.wrap (d0.first + (d0.names.length:Int))))))=false→(y=d0))
set_option maxRecDepth 20000 in
set_option maxHeartbeats 4000000 in
theorem buffer_Ack_1_c {L:List Nat} {w:World} {csP0:List Value} (d0:Buf) (HP0:Stb L w (fun w=>kBuf.r w csP0 d0)) {bP1:Nat} (d1:Int) (HB1:Stb L w (fun w=>Blk w bP1 3 [.int .i64 d1])) {bP2:Nat} (d2:Int) (HB2:Stb L w (fun w=>Blk w bP2 3 [.int .i64 d2])) (hL:Lt L w) {y:Buf} (h:buffer_Ack_1_raw d0 d1 d2 y) :
  Calls Try.prog 54 [.agg csP0.toArray,.pointer (some ⟨bP1,0,none⟩),.pointer (some ⟨bP2,0,none⟩)].toArray w (Ret fun v w'=>Ext w w'∧∃ (cs90:List Value),v=.agg cs90.toArray∧Stb L w' (fun w=>kBuf.r w cs90 y)):=by
 obtain ⟨A1,c2,rfl,H3⟩:=kBuf_open HP0
 unfold buffer_Ack_1_raw at h
 refine calls_ec Try.func54 rfl rfl rfl ?_
 refine ec_seq ?_
 refine ec_region ?_
 refine o_box (cs:=(cBuf d0 A1 c2)) rfl rfl rfl ?_
 intro b4 w4 e4 F4 B4
 have n4:w.heap.size≤b4:=Nat.le_of_eq e4.symm
 have m5:w.heap.size≤b4:=Nat.le_of_eq e4.symm
 have G6:Fr L w w4:=Fr.ext F4
 refine o_alloc zero_buffer_Buffer rfl rfl rfl ?_
 intro b7 w7 e7 F7 B7
 have n7:w.heap.size≤b7:=by rw [e7]; exact F4.size
 have q8:b4<b7:=by rw [e7]; exact B4.lt
 have m9:w.heap.size≤b7:=by rw [e7]; exact G6.size
 have E10:=F4.trans F7
 refine eo_nil_sq ?_
 iterate 2 refine ec_seq ?_
 refine ec_region ?_
 refine o_w (v:=.pointer (some ⟨b4,0,none⟩)) (r_fa fld_buffer_Buffer_0 rfl rfl) ?_
 refine o_w (v:=.int .i64 d0.epoch) (r_ld one_int rfl ((B4.ex F7).cell rfl)) ?_
 refine o_w (v:=.int .i64 d1) (r_ld one_int rfl ((HB1.fr (G6.trans (Fr.ext F7)) (fun _ h=>h)).now.cell rfl)) ?_
 refine o_w (v:=.bool (d0.epoch==d1)) (r_int rfl rfl rfl) ?_
 refine o_w (v:=.bool (d0.epoch==d1)) (r_mov rfl) ?_
 refine o_vg (v:=.int .i64 d2) (want_ct (t:=9) rfl rfl) (fun hk=>(r_ld one_int rfl ((HB2.fr (G6.trans (Fr.ext F7)) (fun _ h=>h)).now.cell rfl))) rfl rfl ?_
 refine o_vg (v:=.pointer (some ⟨b4,1,none⟩)) (want_ct (t:=9) rfl rfl) (fun hk=>(r_fa fld_buffer_Buffer_1 rfl rfl)) rfl rfl ?_
 refine o_vg (v:=.int .i64 d0.first) (want_ct (t:=9) rfl rfl) (fun hk=>(r_ld one_int (gdT hk) ((B4.ex F7).cell rfl))) rfl rfl ?_
 refine o_vg (v:=.bool (decide (d0.first<d2))) (want_ct (t:=9) rfl rfl) (fun hk=>(r_int (gdT hk) (gdT hk) rfl)) rfl rfl ?_
 refine o_w (v:=.bool ((d0.epoch==d1)&&(decide (d0.first<d2)))) (r_pickAnd rfl (fun ht=>(gdT ht)) rfl) ?_
 refine o_w (v:=.bool ((d0.epoch==d1)&&(decide (d0.first<d2)))) (r_mov rfl) ?_
 refine o_vg (v:=.int .i64 d2) (want_ct (t:=15) rfl rfl) (fun hk=>(r_ld one_int rfl ((HB2.fr (G6.trans (Fr.ext F7)) (fun _ h=>h)).now.cell rfl))) rfl rfl ?_
 refine o_vg (v:=.pointer (some ⟨b4,1,none⟩)) (want_ct (t:=15) rfl rfl) (fun hk=>(r_fa fld_buffer_Buffer_1 rfl rfl)) rfl rfl ?_
 refine o_vg (v:=.int .i64 d0.first) (want_ct (t:=15) rfl rfl) (fun hk=>(r_ld one_int (gdT hk) ((B4.ex F7).cell rfl))) rfl rfl ?_
 refine o_vg (v:=.pointer (some ⟨b4,2,none⟩)) (want_ct (t:=15) rfl rfl) (fun hk=>(r_fa fld_buffer_Buffer_2 rfl rfl)) rfl rfl ?_
 refine o_vg (v:=.slice A1 d0.names.length c2) (want_ct (t:=15) rfl rfl) (fun hk=>(r_ld one_s_buffer_Name (gdT hk) ((B4.ex F7).cell rfl))) rfl rfl ?_
 refine o_vg (v:=.int .i64 (d0.names.length:Int)) (want_ct (t:=15) rfl rfl) (fun hk=>(r_len_slc un_s_buffer_Name (gdT hk))) rfl rfl ?_
 refine o_vg (v:=.int .i64 (IntKind.i64.wrap (d0.first + (d0.names.length:Int)))) (want_ct (t:=15) rfl rfl) (fun hk=>(r_int (gdT hk) (gdT hk) rfl)) rfl rfl ?_
 refine o_vg (v:=.bool (decide (d2≤(IntKind.i64.wrap (d0.first + (d0.names.length:Int)))))) (want_ct (t:=15) rfl rfl) (fun hk=>(r_int (gdT hk) (gdT hk) rfl)) rfl rfl ?_
 refine o_w (v:=.bool (((d0.epoch==d1)&&(decide (d0.first<d2)))&&(decide (d2≤(IntKind.i64.wrap (d0.first + (d0.names.length:Int))))))) (r_pickAnd rfl (fun ht=>(gdT ht)) rfl) ?_
 refine eo_nil_sq ?_
 refine ec_cond rfl (fun hc13=>?_) (fun hc13=>?_)
 ·replace h:=h.1 hc13
  refine ec_seq ?_
  refine ec_region ?_
  refine o_w (v:=.pointer (some ⟨b4,2,none⟩)) (r_fa fld_buffer_Buffer_2 rfl rfl) ?_
  refine o_w (v:=.slice A1 d0.names.length c2) (r_ld one_s_buffer_Name rfl ((B4.ex F7).cell rfl)) ?_
  refine o_w (v:=.int .i64 d2) (r_ld one_int rfl ((HB2.fr (G6.trans (Fr.ext F7)) (fun _ h=>h)).now.cell rfl)) ?_
  refine o_w (v:=.pointer (some ⟨b4,1,none⟩)) (r_fa fld_buffer_Buffer_1 rfl rfl) ?_
  refine o_w (v:=.int .i64 d0.first) (r_ld one_int rfl ((B4.ex F7).cell rfl)) ?_
  refine o_w (v:=.int .i64 (IntKind.i64.wrap (d2 - d0.first))) (r_int rfl rfl rfl) ?_
  obtain ⟨ha14,h⟩:=h
  have H15:=Stb.cutL (H3.up (G6.trans (Fr.ext F7)) (fun _ h=>h) (upc (.inr m9) (upc (.inr m5) (fun _ h=>.inl h)))) ha14.1 ha14.2.1 ha14.2.2
  refine o_w (v:=.slice (slA A1 c2 (IntKind.i64.wrap (d2 - d0.first)).toNat kNm.n) (cutL d0.names (IntKind.i64.wrap (d2 - d0.first)) (d0.names.length:Int)).length (c2 - (IntKind.i64.wrap (d2 - d0.first)).toNat)) (r_sl_slc slc_s_buffer_Name rfl rfl ⟨_,rfl⟩ rfl ha14.1 ha14.2.1 ha14.2.2 (H3.fr (G6.trans (Fr.ext F7)) (fun _ h=>h)).now.1) ?_
  obtain ⟨x16,hx16,h⟩:=h
  refine o_call cf_slices_Clone_Name rfl (slices_Clone_Name_c (cutL d0.names (IntKind.i64.wrap (d2 - d0.first)) (d0.names.length:Int)) H15 (((hL.fr E10).cons (B4.ex F7).lt).cons B7.lt) hx16) rfl rfl ?_
  have lo17:w.heap.size≤w7.heap.size:=E10.size
  rintro v17 w16 ⟨F16,O17,N17⟩
  have E20:=E10.trans F16
  refine o_w (v:=.pointer (some ⟨b4,2,none⟩)) (r_fa fld_buffer_Buffer_2 rfl rfl) ?_
  obtain ⟨A25,c26,rfl⟩:=O17.shape
  refine o_store rfl ((B4.ex F7).ex F16) (vs:=[(.slice A25 x16.length c26)]) rfl sz_s_buffer_Name rfl rfl rfl ?_
  intro w27 F27 B27
  have E28:=Ext.st E20 F27 (by simp; omega)
  have G29:Fr L w w27:=((G6.trans (Fr.ext F7)).trans (Fr.ext F16)).stp F27 (upc (.inr m5) (fun m hm=>by cases hm))
  have B31:=(B7.ex F16).fr F27 (by simp; omega)
  have O32:=O17.fr F27 (by simp)
  have B27':Blk w27 b4 _ [.int .i64 d0.epoch,.int .i64 d0.first,(.slice A25 x16.length c26)]:=B27
  refine eo_nil_sq ?_
  refine ec_region ?_
  refine o_w (v:=.int .i64 d2) (r_ld one_int rfl ((HB2.fr G29 (fun _ h=>h)).now.cell rfl)) ?_
  refine o_w (v:=.pointer (some ⟨b4,1,none⟩)) (r_fa fld_buffer_Buffer_1 rfl rfl) ?_
  refine o_store rfl B27' (vs:=[.int .i64 d2]) rfl sz_int rfl rfl rfl ?_
  intro w33 F33 B33
  have E34:=Ext.st E28 F33 (by simp; omega)
  have B37:=B31.fr F33 (by simp; omega)
  have O38:=O32.fr F33 (by simp)
  have B33':Blk w33 b4 _ [.int .i64 d0.epoch,.int .i64 d2,(.slice A25 x16.length c26)]:=B33
  refine eo_nil_sq ?_
  refine ec_seq ?_
  refine ec_region ?_
  refine o_w (v:=.agg #[.int .i64 d0.epoch,.int .i64 d2,(.slice A25 x16.length c26)]) (r_lda agg_buffer_Buffer rfl (vs:=[.int .i64 d0.epoch,.int .i64 d2,(.slice A25 x16.length c26)]) rfl (B33'.part (n:=3) rfl)) ?_
  refine o_store rfl B37 (vs:=[.int .i64 d0.epoch,.int .i64 d2,(.slice A25 x16.length c26)]) rfl sz_buffer_Buffer rfl rfl rfl ?_
  intro w39 F39 B39
  have E40:=Ext.st E34 F39 (by simp; omega)
  have O44:=O38.fr F39 (by simp)
  have B39':Blk w39 b7 _ [.int .i64 d0.epoch,.int .i64 d2,(.slice A25 x16.length c26)]:=B39
  refine eo_nil_sq ?_
  refine ec_ret ?_
  obtain ⟨A45,c46,eA45,H47⟩:=O44.still
  cases eA45
  have Zw39_48:=Fr.refl (b7::(b4::L)) w39
  subst h
  exact (endr1 (rv_a rfl (agg_buffer_Buffer) B39' (vs:=[.int .i64 d0.epoch,.int .i64 d2,.slice A25 x16.length c26]) rfl rfl) ⟨_,rfl,E40,_,rfl,(kBuf_mk (d:=(⟨d0.epoch,d2,x16⟩:Buf)) (H47.up Zw39_48 (fun _ h=>h) (fun m hm=>Or.inl (List.Mem.tail _ (List.Mem.tail _ hm)))))⟩)
 ·replace h:=h.2 hc13
  refine ec_skip ?_
  refine sq_n ?_
  refine ec_seq ?_
  refine ec_region ?_
  refine o_w (v:=.agg (cBuf d0 A1 c2).toArray) (r_lda agg_buffer_Buffer rfl (vs:=(cBuf d0 A1 c2)) rfl ((B4.ex F7).part (n:=3) rfl)) ?_
  refine o_store rfl B7 (vs:=(cBuf d0 A1 c2)) rfl sz_buffer_Buffer rfl rfl rfl ?_
  intro w50 F50 B50
  have E51:=Ext.st E10 F50 (by simp; omega)
  have G52:Fr L w w50:=(G6.trans (Fr.ext F7)).stp F50 (upc (.inr m9) (fun m hm=>by cases hm))
  have B50':Blk w50 b7 _ (cBuf d0 A1 c2):=B50
  refine eo_nil_sq ?_
  refine ec_ret ?_
  replace h:=h.symm
  subst h
  exact (endr1 (rv_a rfl (agg_buffer_Buffer) B50' (vs:=(cBuf d0 A1 c2)) rfl rfl) ⟨_,rfl,E51,_,rfl,(kBuf_mk (d:=d0) (H3.fr G52 (fun _ h=>h)))⟩)
def buffer_Note_raw (d0:Buf) (d1:Arena) (d2:Int) (d3:Ent) (y:Buf):Prop :=
 ∃ x80,buffer_Mend_raw d0 d1 d2 x80∧(∃ x96,buffer_Note_1_raw x80 d1 d3 d2 x96∧(y=x96))
set_option maxRecDepth 20000 in
set_option maxHeartbeats 4000000 in
theorem buffer_Note_c {L:List Nat} {w:World} {csP0:List Value} (d0:Buf) (HP0:Stb L w (fun w=>kBuf.r w csP0 d0)) {csP1:List Value} (d1:Arena) (HP1:Stb L w (fun w=>kArena.r w csP1 d1)) (d2:Int) {csP3:List Value} (d3:Ent) (HP3:Stb L w (fun w=>kEnt.r w csP3 d3)) (hL:Lt L w) {y:Buf} (h:buffer_Note_raw d0 d1 d2 d3 y) :
  Calls Try.prog 17 [.agg csP0.toArray,.agg csP1.toArray,.int .i64 d2,.agg csP3.toArray].toArray w (Ret fun v w'=>Ext w w'∧∃ (cs90:List Value),v=.agg cs90.toArray∧Stb L w' (fun w=>kBuf.r w cs90 y)):=by
 obtain ⟨A1,c2,rfl,H3⟩:=kBuf_open HP0
 obtain ⟨A4,c5,A7,c8,rfl,H6,H9⟩:=kArena_open HP1
 obtain ⟨A10,c11,A13,c14,rfl,H12,H15⟩:=kEnt_open HP3
 unfold buffer_Note_raw at h
 refine calls_ec Try.func17 rfl rfl rfl ?_
 refine ec_seq ?_
 refine ec_region ?_
 refine o_box (cs:=(cBuf d0 A1 c2)) rfl rfl rfl ?_
 intro b16 w16 e16 F16 B16
 have S16:=B16.stb (nin hL e16)
 have G17:Fr L w w16:=Fr.ext F16
 refine o_box (cs:=(cArena d1 A4 c5 A7 c8)) rfl rfl rfl ?_
 intro b18 w18 e18 F18 B18
 have S18:=B18.stb (nin (hL.fr F16) e18)
 have E19:=F16.trans F18
 have G21:Fr L w16 w18:=Fr.ext F18
 refine o_box (cs:=[.int .i64 d2]) rfl rfl rfl ?_
 intro b22 w22 e22 F22 B22
 have S22:=B22.stb (nin (hL.fr E19) e22)
 have E23:=E19.trans F22
 have G26:Fr L w18 w22:=Fr.ext F22
 refine o_box (cs:=(cEnt d3 A10 c11 A13 c14)) rfl rfl rfl ?_
 intro b27 w27 e27 F27 B27
 have S27:=B27.stb (nin (hL.fr E23) e27)
 have E28:=E23.trans F27
 have G32:Fr L w22 w27:=Fr.ext F27
 refine o_alloc zero_buffer_Buffer rfl rfl rfl ?_
 intro b33 w33 e33 F33 B33
 have n33:w.heap.size≤b33:=by rw [e33]; exact E28.size
 have m34:w.heap.size≤b33:=by rw [e33]; exact (((G17.trans (Fr.ext F18)).trans (Fr.ext F22)).trans (Fr.ext F27)).size
 have m36:w18.heap.size≤b33:=by rw [e33]; exact (G26.trans (Fr.ext F27)).size
 have m37:w22.heap.size≤b33:=by rw [e33]; exact G32.size
 have m38:w27.heap.size≤b33:=Nat.le_of_eq e33.symm
 have E39:=E28.trans F33
 have G40:=(((G17.trans (Fr.ext F18)).trans (Fr.ext F22)).trans (Fr.ext F27)).trans (Fr.ext F33)
 have G44:Fr L w27 w33:=Fr.ext F33
 refine eo_nil_sq ?_
 refine ec_seq ?_
 refine ec_region ?_
 refine o_w (v:=.agg (cBuf d0 A1 c2).toArray) (r_lda agg_buffer_Buffer rfl (vs:=(cBuf d0 A1 c2)) rfl ((S16.fr (((G21.trans (Fr.ext F22)).trans (Fr.ext F27)).trans (Fr.ext F33)) (fun _ h=>h)).now.part (n:=3) rfl)) ?_
 refine o_w (v:=.agg (cArena d1 A4 c5 A7 c8).toArray) (r_lda agg_api_Arena rfl (vs:=(cArena d1 A4 c5 A7 c8)) rfl ((S18.fr ((G26.trans (Fr.ext F27)).trans (Fr.ext F33)) (fun _ h=>h)).now.part (n:=3) rfl)) ?_
 refine o_w (v:=.int .i64 d2) (r_ld one_int rfl ((S22.fr (G32.trans (Fr.ext F33)) (fun _ h=>h)).now.cell rfl)) ?_
 refine o_w (r_mkfn' (vs:=[.pointer (some ⟨b18,0,none⟩),.pointer (some ⟨b27,0,none⟩),.pointer (some ⟨b22,0,none⟩)]) rfl) ?_
 refine o_inl (vs:=[.agg (cBuf d0 A1 c2).toArray,.agg (cArena d1 A4 c5 A7 c8).toArray,.int .i64 d2,.func (.func 37) #[] #[.pointer (some ⟨b18,0,none⟩),.pointer (some ⟨b27,0,none⟩),.pointer (some ⟨b22,0,none⟩)]]) (caps:=[]) cf_buffer_mended rfl rfl rfl rfl ?_
 refine calls_ec Try.func36 rfl rfl rfl ?_
 refine ec_seq ?_
 refine ec_region ?_
 refine o_box (cs:=(cBuf d0 A1 c2)) rfl rfl rfl ?_
 intro b45 w45 e45 F45 B45
 have S45:=B45.stb (nin ((hL.fr E39).cons B33.lt) e45)
 have E46:=E39.trans F45
 refine o_box (cs:=(cArena d1 A4 c5 A7 c8)) rfl rfl rfl ?_
 intro b53 w53 e53 F53 B53
 have S53:=B53.stb (nin ((hL.fr E46).cons (B33.ex F45).lt) e53)
 have E54:=E46.trans F53
 have G57:=(((G26.trans (Fr.ext F27)).trans (Fr.ext F33)).trans (Fr.ext F45)).trans (Fr.ext F53)
 have G60:Fr (b33::L) w45 w53:=Fr.ext F53
 refine o_alloc zero_buffer_Buffer rfl rfl rfl ?_
 intro b62 w62 e62 F62 B62
 have n62:w.heap.size≤b62:=by rw [e62]; exact E54.size
 have q63:b33<b62:=by rw [e62]; exact ((B33.ex F45).ex F53).lt
 have m64:w.heap.size≤b62:=by rw [e62]; exact ((G40.trans (Fr.ext F45)).trans (Fr.ext F53)).size
 have m66:w18.heap.size≤b62:=by rw [e62]; exact G57.size
 have m67:w22.heap.size≤b62:=by rw [e62]; exact (((G32.trans (Fr.ext F33)).trans (Fr.ext F45)).trans (Fr.ext F53)).size
 have m68:w27.heap.size≤b62:=by rw [e62]; exact ((G44.trans (Fr.ext F45)).trans (Fr.ext F53)).size
 have E71:=E54.trans F62
 have G75:=(((G32.trans (Fr.ext F33)).trans (Fr.ext F45)).trans (Fr.ext F53)).trans (Fr.ext F62)
 have G78:Fr (b33::L) w53 w62:=Fr.ext F62
 refine eo_nil_sq ?_
 refine ec_seq ?_
 refine ec_region ?_
 refine o_w (v:=.func (.func 37) #[] #[.pointer (some ⟨b18,0,none⟩),.pointer (some ⟨b27,0,none⟩),.pointer (some ⟨b22,0,none⟩)]) (r_mov rfl) ?_
 refine o_w (v:=.agg (cBuf d0 A1 c2).toArray) (r_lda agg_buffer_Buffer rfl (vs:=(cBuf d0 A1 c2)) rfl ((S45.fr (G60.trans (Fr.ext F62)) (fun _ h=>h)).now.part (n:=3) rfl)) ?_
 refine o_w (v:=.agg (cArena d1 A4 c5 A7 c8).toArray) (r_lda agg_api_Arena rfl (vs:=(cArena d1 A4 c5 A7 c8)) rfl ((S53.fr G78 (fun _ h=>h)).now.part (n:=3) rfl)) ?_
 refine o_w (v:=.int .i64 d2) (r_mov rfl) ?_
 obtain ⟨x80,hx80,h⟩:=h
 refine o_call cf_buffer_Mend rfl (buffer_Mend_c d0 (kBuf_mk (d:=d0) (H3.up (((G40.trans (Fr.ext F45)).trans (Fr.ext F53)).trans (Fr.ext F62)) (fun _ h=>h) (upc (.inr m64) (upc (.inr m34) (fun _ h=>.inl h))))) d1 (kArena_mk (d:=d1) (H6.up (((G40.trans (Fr.ext F45)).trans (Fr.ext F53)).trans (Fr.ext F62)) (fun _ h=>h) (upc (.inr m64) (upc (.inr m34) (fun _ h=>.inl h)))) (H9.up (((G40.trans (Fr.ext F45)).trans (Fr.ext F53)).trans (Fr.ext F62)) (fun _ h=>h) (upc (.inr m64) (upc (.inr m34) (fun _ h=>.inl h))))) d2 (((hL.fr E71).cons (((B33.ex F45).ex F53).ex F62).lt).cons B62.lt) hx80) rfl rfl ?_
 rintro _ w80 ⟨F80,cs81,rfl,H82⟩
 have E83:=E71.trans F80
 have G84:=(((G40.trans (Fr.ext F45)).trans (Fr.ext F53)).trans (Fr.ext F62)).trans (Fr.ext F80)
 have G88:=(((G44.trans (Fr.ext F45)).trans (Fr.ext F53)).trans (Fr.ext F62)).trans (Fr.ext F80)
 obtain ⟨A93,c94,rfl,H95⟩:=kBuf_open H82
 obtain ⟨x96,hx96,h⟩:=h
 refine o_callc (vs:=[.agg (cBuf x80 A93 c94).toArray]) (caps:=[.pointer (some ⟨b18,0,none⟩),.pointer (some ⟨b27,0,none⟩),.pointer (some ⟨b22,0,none⟩)]) cf_buffer_Note_1 rfl rfl (buffer_Note_1_c x80 (kBuf_mk (d:=x80) H95) d1 (S18.up ((G57.trans (Fr.ext F62)).trans (Fr.ext F80)) (fun _ h=>h) (upc (.inr m66) (upc (.inr m36) (fun _ h=>.inl h)))) (kArena_mk (d:=d1) (H6.up G84 (fun _ h=>h) (upc (.inr m64) (upc (.inr m34) (fun _ h=>.inl h)))) (H9.up G84 (fun _ h=>h) (upc (.inr m64) (upc (.inr m34) (fun _ h=>.inl h))))) d3 (S27.up G88 (fun _ h=>h) (upc (.inr m68) (upc (.inr m38) (fun _ h=>.inl h)))) (kEnt_mk (d:=d3) (H12.up G84 (fun _ h=>h) (upc (.inr m64) (upc (.inr m34) (fun _ h=>.inl h)))) (H15.up G84 (fun _ h=>h) (upc (.inr m64) (upc (.inr m34) (fun _ h=>.inl h))))) d2 (S22.up (G75.trans (Fr.ext F80)) (fun _ h=>h) (upc (.inr m67) (upc (.inr m37) (fun _ h=>.inl h)))) (((hL.fr E83).cons ((((B33.ex F45).ex F53).ex F62).ex F80).lt).cons (B62.ex F80).lt) hx96) rfl rfl ?_
 rintro _ w96 ⟨F96,cs97,rfl,H98⟩
 have E99:=E83.trans F96
 obtain ⟨A110,c111,rfl,H112⟩:=kBuf_open H98
 refine o_store rfl ((B62.ex F80).ex F96) (vs:=(cBuf x96 A110 c111)) rfl sz_buffer_Buffer rfl rfl rfl ?_
 intro w113 F113 B113
 have E114:=Ext.st E99 F113 (by simp; omega)
 have G123:Fr (b62::(b33::L)) w96 w113:=(Fr.refl _ _).stp F113 (upc (.inl (List.Mem.head _)) (fun m hm=>by cases hm))
 have B124:=(((((B33.ex F45).ex F53).ex F62).ex F80).ex F96).fr F113 (by simp; omega)
 have B113':Blk w113 b62 _ (cBuf x96 A110 c111):=B113
 refine eo_nil_sq ?_
 refine ec_ret ?_
 refine endr1 (v:=.agg (cBuf x96 A110 c111).toArray) (rv_a rfl (agg_buffer_Buffer) B113' (vs:=(cBuf x96 A110 c111)) rfl rfl) ⟨_,rfl,?_⟩
 refine o_store rfl B124 (vs:=(cBuf x96 A110 c111)) rfl sz_buffer_Buffer rfl rfl rfl ?_
 intro w125 F125 B125
 have E126:=Ext.st E114 F125 (by simp; omega)
 have G135:Fr (b62::(b33::L)) w96 w125:=G123.stp F125 (upc (.inl (List.Mem.tail _ (List.Mem.head _))) (fun m hm=>by cases hm))
 have B125':Blk w125 b33 _ (cBuf x96 A110 c111):=B125
 refine eo_nil_sq ?_
 refine ec_ret ?_
 replace h:=h.symm
 subst h
 exact (endr1 (rv_a rfl (agg_buffer_Buffer) B125' (vs:=(cBuf x96 A110 c111)) rfl rfl) ⟨_,rfl,E126,_,rfl,(kBuf_mk (d:=x96) (H112.up G135 (fun _ h=>h) (fun m hm=>Or.inl (List.Mem.tail _ (List.Mem.tail _ hm)))))⟩)
def buffer_Ack_raw (d0:Buf) (d1:Arena) (d2:Int) (d3:Int) (d4:Int) (y:Buf):Prop :=
 ∃ x74,buffer_Mend_raw d0 d1 d2 x74∧(∃ x90,buffer_Ack_1_raw x74 d3 d4 x90∧(y=x90))
set_option maxRecDepth 20000 in
set_option maxHeartbeats 4000000 in
theorem buffer_Ack_c {L:List Nat} {w:World} {csP0:List Value} (d0:Buf) (HP0:Stb L w (fun w=>kBuf.r w csP0 d0)) {csP1:List Value} (d1:Arena) (HP1:Stb L w (fun w=>kArena.r w csP1 d1)) (d2:Int) (d3:Int) (d4:Int) (hL:Lt L w) {y:Buf} (h:buffer_Ack_raw d0 d1 d2 d3 d4 y) :
  Calls Try.prog 35 [.agg csP0.toArray,.agg csP1.toArray,.int .i64 d2,.int .i64 d3,.int .i64 d4].toArray w (Ret fun v w'=>Ext w w'∧∃ (cs90:List Value),v=.agg cs90.toArray∧Stb L w' (fun w=>kBuf.r w cs90 y)):=by
 obtain ⟨A1,c2,rfl,H3⟩:=kBuf_open HP0
 obtain ⟨A4,c5,A7,c8,rfl,H6,H9⟩:=kArena_open HP1
 unfold buffer_Ack_raw at h
 refine calls_ec Try.func35 rfl rfl rfl ?_
 refine ec_seq ?_
 refine ec_region ?_
 refine o_box (cs:=(cBuf d0 A1 c2)) rfl rfl rfl ?_
 intro b10 w10 e10 F10 B10
 have S10:=B10.stb (nin hL e10)
 have G11:Fr L w w10:=Fr.ext F10
 refine o_box (cs:=(cArena d1 A4 c5 A7 c8)) rfl rfl rfl ?_
 intro b12 w12 e12 F12 B12
 have S12:=B12.stb (nin (hL.fr F10) e12)
 have E13:=F10.trans F12
 have G15:Fr L w10 w12:=Fr.ext F12
 refine o_box (cs:=[.int .i64 d3]) rfl rfl rfl ?_
 intro b16 w16 e16 F16 B16
 have S16:=B16.stb (nin (hL.fr E13) e16)
 have E17:=E13.trans F16
 have G20:Fr L w12 w16:=Fr.ext F16
 refine o_box (cs:=[.int .i64 d4]) rfl rfl rfl ?_
 intro b21 w21 e21 F21 B21
 have S21:=B21.stb (nin (hL.fr E17) e21)
 have E22:=E17.trans F21
 have G26:Fr L w16 w21:=Fr.ext F21
 refine o_alloc zero_buffer_Buffer rfl rfl rfl ?_
 intro b27 w27 e27 F27 B27
 have n27:w.heap.size≤b27:=by rw [e27]; exact E22.size
 have m28:w.heap.size≤b27:=by rw [e27]; exact (((G11.trans (Fr.ext F12)).trans (Fr.ext F16)).trans (Fr.ext F21)).size
 have m31:w16.heap.size≤b27:=by rw [e27]; exact G26.size
 have m32:w21.heap.size≤b27:=Nat.le_of_eq e27.symm
 have E33:=E22.trans F27
 have G34:=(((G11.trans (Fr.ext F12)).trans (Fr.ext F16)).trans (Fr.ext F21)).trans (Fr.ext F27)
 have G38:Fr L w21 w27:=Fr.ext F27
 refine eo_nil_sq ?_
 refine ec_seq ?_
 refine ec_region ?_
 refine o_w (v:=.agg (cBuf d0 A1 c2).toArray) (r_lda agg_buffer_Buffer rfl (vs:=(cBuf d0 A1 c2)) rfl ((S10.fr (((G15.trans (Fr.ext F16)).trans (Fr.ext F21)).trans (Fr.ext F27)) (fun _ h=>h)).now.part (n:=3) rfl)) ?_
 refine o_w (v:=.agg (cArena d1 A4 c5 A7 c8).toArray) (r_lda agg_api_Arena rfl (vs:=(cArena d1 A4 c5 A7 c8)) rfl ((S12.fr ((G20.trans (Fr.ext F21)).trans (Fr.ext F27)) (fun _ h=>h)).now.part (n:=3) rfl)) ?_
 refine o_w (v:=.int .i64 d2) (r_mov rfl) ?_
 refine o_w (r_mkfn' (vs:=[.pointer (some ⟨b16,0,none⟩),.pointer (some ⟨b21,0,none⟩)]) rfl) ?_
 refine o_inl (vs:=[.agg (cBuf d0 A1 c2).toArray,.agg (cArena d1 A4 c5 A7 c8).toArray,.int .i64 d2,.func (.func 54) #[] #[.pointer (some ⟨b16,0,none⟩),.pointer (some ⟨b21,0,none⟩)]]) (caps:=[]) cf_buffer_mended rfl rfl rfl rfl ?_
 refine calls_ec Try.func36 rfl rfl rfl ?_
 refine ec_seq ?_
 refine ec_region ?_
 refine o_box (cs:=(cBuf d0 A1 c2)) rfl rfl rfl ?_
 intro b39 w39 e39 F39 B39
 have S39:=B39.stb (nin ((hL.fr E33).cons B27.lt) e39)
 have E40:=E33.trans F39
 refine o_box (cs:=(cArena d1 A4 c5 A7 c8)) rfl rfl rfl ?_
 intro b47 w47 e47 F47 B47
 have S47:=B47.stb (nin ((hL.fr E40).cons (B27.ex F39).lt) e47)
 have E48:=E40.trans F47
 have G54:Fr (b27::L) w39 w47:=Fr.ext F47
 refine o_alloc zero_buffer_Buffer rfl rfl rfl ?_
 intro b56 w56 e56 F56 B56
 have n56:w.heap.size≤b56:=by rw [e56]; exact E48.size
 have q57:b27<b56:=by rw [e56]; exact ((B27.ex F39).ex F47).lt
 have m58:w.heap.size≤b56:=by rw [e56]; exact ((G34.trans (Fr.ext F39)).trans (Fr.ext F47)).size
 have m61:w16.heap.size≤b56:=by rw [e56]; exact (((G26.trans (Fr.ext F27)).trans (Fr.ext F39)).trans (Fr.ext F47)).size
 have m62:w21.heap.size≤b56:=by rw [e56]; exact ((G38.trans (Fr.ext F39)).trans (Fr.ext F47)).size
 have E65:=E48.trans F56
 have G69:=(((G26.trans (Fr.ext F27)).trans (Fr.ext F39)).trans (Fr.ext F47)).trans (Fr.ext F56)
 have G72:Fr (b27::L) w47 w56:=Fr.ext F56
 refine eo_nil_sq ?_
 refine ec_seq ?_
 refine ec_region ?_
 refine o_w (v:=.func (.func 54) #[] #[.pointer (some ⟨b16,0,none⟩),.pointer (some ⟨b21,0,none⟩)]) (r_mov rfl) ?_
 refine o_w (v:=.agg (cBuf d0 A1 c2).toArray) (r_lda agg_buffer_Buffer rfl (vs:=(cBuf d0 A1 c2)) rfl ((S39.fr (G54.trans (Fr.ext F56)) (fun _ h=>h)).now.part (n:=3) rfl)) ?_
 refine o_w (v:=.agg (cArena d1 A4 c5 A7 c8).toArray) (r_lda agg_api_Arena rfl (vs:=(cArena d1 A4 c5 A7 c8)) rfl ((S47.fr G72 (fun _ h=>h)).now.part (n:=3) rfl)) ?_
 refine o_w (v:=.int .i64 d2) (r_mov rfl) ?_
 obtain ⟨x74,hx74,h⟩:=h
 refine o_call cf_buffer_Mend rfl (buffer_Mend_c d0 (kBuf_mk (d:=d0) (H3.up (((G34.trans (Fr.ext F39)).trans (Fr.ext F47)).trans (Fr.ext F56)) (fun _ h=>h) (upc (.inr m58) (upc (.inr m28) (fun _ h=>.inl h))))) d1 (kArena_mk (d:=d1) (H6.up (((G34.trans (Fr.ext F39)).trans (Fr.ext F47)).trans (Fr.ext F56)) (fun _ h=>h) (upc (.inr m58) (upc (.inr m28) (fun _ h=>.inl h)))) (H9.up (((G34.trans (Fr.ext F39)).trans (Fr.ext F47)).trans (Fr.ext F56)) (fun _ h=>h) (upc (.inr m58) (upc (.inr m28) (fun _ h=>.inl h))))) d2 (((hL.fr E65).cons (((B27.ex F39).ex F47).ex F56).lt).cons B56.lt) hx74) rfl rfl ?_
 rintro _ w74 ⟨F74,cs75,rfl,H76⟩
 have E77:=E65.trans F74
 have G82:=(((G38.trans (Fr.ext F39)).trans (Fr.ext F47)).trans (Fr.ext F56)).trans (Fr.ext F74)
 obtain ⟨A87,c88,rfl,H89⟩:=kBuf_open H76
 obtain ⟨x90,hx90,h⟩:=h
 refine o_callc (vs:=[.agg (cBuf x74 A87 c88).toArray]) (caps:=[.pointer (some ⟨b16,0,none⟩),.pointer (some ⟨b21,0,none⟩)]) cf_buffer_Ack_1 rfl rfl (buffer_Ack_1_c x74 (kBuf_mk (d:=x74) H89) d3 (S16.up (G69.trans (Fr.ext F74)) (fun _ h=>h) (upc (.inr m61) (upc (.inr m31) (fun _ h=>.inl h)))) d4 (S21.up G82 (fun _ h=>h) (upc (.inr m62) (upc (.inr m32) (fun _ h=>.inl h)))) (((hL.fr E77).cons ((((B27.ex F39).ex F47).ex F56).ex F74).lt).cons (B56.ex F74).lt) hx90) rfl rfl ?_
 rintro _ w90 ⟨F90,cs91,rfl,H92⟩
 have E93:=E77.trans F90
 obtain ⟨A104,c105,rfl,H106⟩:=kBuf_open H92
 refine o_store rfl ((B56.ex F74).ex F90) (vs:=(cBuf x90 A104 c105)) rfl sz_buffer_Buffer rfl rfl rfl ?_
 intro w107 F107 B107
 have E108:=Ext.st E93 F107 (by simp; omega)
 have G117:Fr (b56::(b27::L)) w90 w107:=(Fr.refl _ _).stp F107 (upc (.inl (List.Mem.head _)) (fun m hm=>by cases hm))
 have B118:=(((((B27.ex F39).ex F47).ex F56).ex F74).ex F90).fr F107 (by simp; omega)
 have B107':Blk w107 b56 _ (cBuf x90 A104 c105):=B107
 refine eo_nil_sq ?_
 refine ec_ret ?_
 refine endr1 (v:=.agg (cBuf x90 A104 c105).toArray) (rv_a rfl (agg_buffer_Buffer) B107' (vs:=(cBuf x90 A104 c105)) rfl rfl) ⟨_,rfl,?_⟩
 refine o_store rfl B118 (vs:=(cBuf x90 A104 c105)) rfl sz_buffer_Buffer rfl rfl rfl ?_
 intro w119 F119 B119
 have E120:=Ext.st E108 F119 (by simp; omega)
 have G129:Fr (b56::(b27::L)) w90 w119:=G117.stp F119 (upc (.inl (List.Mem.tail _ (List.Mem.head _))) (fun m hm=>by cases hm))
 have B119':Blk w119 b27 _ (cBuf x90 A104 c105):=B119
 refine eo_nil_sq ?_
 refine ec_ret ?_
 replace h:=h.symm
 subst h
 exact (endr1 (rv_a rfl (agg_buffer_Buffer) B119' (vs:=(cBuf x90 A104 c105)) rfl rfl) ⟨_,rfl,E120,_,rfl,(kBuf_mk (d:=x90) (H106.up G129 (fun _ h=>h) (fun m hm=>Or.inl (List.Mem.tail _ (List.Mem.tail _ hm)))))⟩)
end Go.Proofs.Ythfkbabgkacfnaa
