/- The iterator of buffer. -/
import Derived.Test.YthfkbabgkacfnaaFa
namespace Go.Proofs.Ythfkbabgkacfnaa
open Go Go.RowKit
set_option linter.unusedVariables false
set_option linter.unusedSimpArgs false
def buffer_Buffer_first_1_b4 (d1:Buf) (d2:Int) (s4:Int × List (Nm)) (z4:(Int × List (Nm)) ⊕ ((Int × List (Nm)) ⊕ (Unit))):Prop :=
 ((decide (s4.1<(d1.names.length:Int)))=true→((0≤s4.1∧s4.1<(d1.names.length:Int))∧(((decide (d2≤s4.1))=true→(s4.2=[]∧z4=.inr (.inr ())))∧((decide (d2≤s4.1))=false→(∃ r32,s4.2=(nth d1.names s4.1)::r32∧(z4=.inl ((IntKind.i64.wrap (s4.1 + (1:Int))),r32))∧(True))))))∧((decide (s4.1<(d1.names.length:Int)))=false→(z4=.inr (.inl (s4.1,s4.2))))
def buffer_Buffer_first_1_X:(Nm)→List Nat→World→List Value→Prop:=fun x T W vs=>∃ cs0,vs=[.agg cs0.toArray]∧Stb T W (fun w=>kNm.r w cs0 x)
def buffer_Buffer_first_1_raw (d1:Buf) (d2:Int) (xs:List (Nm)):Prop :=
 ∃ x4,LoopR (buffer_Buffer_first_1_b4 d1 d2) ((0:Int),xs) x4∧(∀ sx4,x4=.inl sx4→(sx4.2=[]))∧(∀ y4,x4=.inr y4→True)
set_option maxRecDepth 20000 in
set_option maxHeartbeats 4000000 in
theorem buffer_Buffer_first_1_it1 {L:List Nat} {w:World} {bP1:Nat} {csP1:List Value} (d1:Buf) (HB1:Stb L w (fun w=>Blk w bP1 24 csP1)) (HP1:Stb L w (fun w=>kBuf.r w csP1 d1)) {bP2:Nat} (d2:Int) (HB2:Stb L w (fun w=>Blk w bP2 3 [.int .i64 d2])) (hL:Lt L w) {xs:List (Nm)} (h:buffer_Buffer_first_1_raw d1 d2 xs) (l:Nat) (J:Nat→List Nat→World→Prop) (Jx:World→Prop) (T0:List Nat) (hT0:∀ m∈T0,m∈L) (hJ0:J 0 T0 w)
  (hJe:∀ k T W W',J k T W→Ext W W'→J k T W') (hJxe:∀ W W',Jx W→Ext W W'→Jx W') (hJl:∀ k T W,J k T W→Lt T W)
  (hY:∀ k x T W vs,xs[k]?=some x→J k T W→buffer_Buffer_first_1_X x T W vs→YC Try.prog l vs W fun e W' =>
   (e=.returned (.bool true)∧∃ T',J (k + 1) T' W'∧Fr T W W'∧∀ q∈T',q∈T∨W.heap.size≤q)∨(e=.returned (.bool false)∧Jx W')) :
  Calls Try.prog 61 (.func (.yield l) #[] #[]::[.pointer (some ⟨bP1,0,none⟩),.pointer (some ⟨bP2,0,none⟩)]).toArray w fun e W'=>(∃ v,e=.returned v)∧((∃ T,J xs.length T W')∨Jx W'):=by
 obtain ⟨A1,c2,rfl,H3⟩:=kBuf_open HP1
 unfold buffer_Buffer_first_1_raw at h
 refine calls_ec Try.func61 rfl rfl rfl ?_
 refine ec_seq ?_
 refine ec_region ?_
 refine o_w (v:=.pointer (some ⟨bP1,2,none⟩)) (r_fa fld_buffer_Buffer_2 rfl rfl) ?_
 refine o_w (v:=.slice A1 d1.names.length c2) (r_ld one_s_buffer_Name rfl (HB1.now.cell rfl)) ?_
 refine o_w (v:=.int .i64 (d1.names.length:Int)) (r_len_slc un_s_buffer_Name rfl) ?_
 refine o_w (v:=.int .i64 (0:Int)) (r_mov rfl) ?_
 refine eo_nil_sq ?_
 refine ec_block ?_
 obtain ⟨x4,hl4,h⟩:=h
 refine ec_loopIt 0 (I:=(fun (s4:Int × List (Nm)) ρ ds w'=>∃ (ρ':Env) (dn4i2:List (Nm)) (T4i2:List Nat),ρ=envs ρ' [(9,.int .i64 s4.1),(0,.func (.yield l) #[] #[]),(2,.pointer (some ⟨bP2,0,none⟩)),(7,.slice A1 d1.names.length c2),(8,.int .i64 (d1.names.length:Int))]∧ds=[]∧Fr (T0++L) w w'∧Fr L w w'∧J dn4i2.length T4i2 w'∧(∀ q∈T4i2,q∈(T0++L)∨w.heap.size≤q)∧xs=dn4i2++s4.2∧(∀ q∈T4i2,q∈L∨w.heap.size≤q))) (J:=(fun (y':Unit) ρ ds wz=>bodyE Try.prog #[] (fun e W'=>(∃ v,e=.returned v)∧((∃ T,J xs.length T W')∨Jx W')) .ret ρ ds wz)) (K:=(fun ρ ds wz=>bodyE Try.prog #[] (fun e W'=>(∃ v,e=.returned v)∧((∃ T,J xs.length T W')∨Jx W')) .ret ρ ds wz)) ?_ hl4 ?_ ?_ ?_ ?_
 ·intro s4 z4 ρ4 ds4 w4r hI4 hb4
  obtain ⟨ρ4r,dn4r2,T4r2,rfl,rfl,F4r,E4r,j4r2,N4r2,D4r2,Ti4r2⟩:=hI4
  have h:=hb4
  unfold buffer_Buffer_first_1_b4 at h
  have G5:Fr L w w4r:=(Fr.refl _ _).stp F4r (upo (fun m hm=>.inl (hT0 m hm)) (fun _ h=>.inl h))
  have P6:∀ m∈T4r2,m∈L∨w.heap.size≤m:=fun m hm=>(N4r2 m hm).elim (fun h=>(show ∀ m∈(T0++L),m∈L∨w.heap.size≤m from (upo (fun m hm=>.inl (hT0 m hm)) (fun _ h=>.inl h))) m h) (fun h=>.inr (Nat.le_trans (Nat.le_refl _) h))
  refine ec_seq ?_
  refine ec_region ?_
  refine o_w (v:=.bool (decide (s4.1<(d1.names.length:Int)))) (r_int rfl rfl rfl) ?_
  refine eo_nil_sq ?_
  refine ec_seq ?_
  refine ec_cond rfl (fun hc7=>?_) (fun hc7=>?_)
  ·replace h:=h.1 hc7
   refine ec_skip ?_
   refine sq_n ?_
   refine ec_seq ?_
   refine ec_block ?_
   refine ec_seq ?_
   refine ec_region ?_
   refine o_w (v:=.int .i64 s4.1) (r_mov rfl) ?_
   obtain ⟨ha8,h⟩:=h
   obtain ⟨cs9,l11,H10⟩:=Stb.elem (by decide) (H3.up G5 (fun _ h=>h) (upo P6 (fun _ h=>.inl h))) s4.1 ha8.1 ha8.2
   obtain ⟨rfl,H12⟩:=kNm_open2 H10
   refine o_w (v:=.pointer (some (elemA A1 kNm.n s4.1.toNat))) (r_ia slc_s_buffer_Name rfl rfl ((H3.fr G5 (fun _ h=>h)).now.2 _ (lt_toNat ha8.1 ha8.2)).1 ha8.1 ha8.2) ?_
   refine o_w (v:=.agg (cNm (nth d1.names s4.1)).toArray) (r_lda' agg_buffer_Name rfl (elemA_spot _ _ _) (vs:=(cNm (nth d1.names s4.1))) rfl (H12.now.1)) ?_
   refine o_alloc zero_buffer_Name rfl rfl rfl ?_
   intro b13 w13 e13 F13 B13
   have n13:w.heap.size≤b13:=by rw [e13]; exact E4r.size
   have m14:w.heap.size≤b13:=by rw [e13]; exact G5.size
   have m15:w4r.heap.size≤b13:=Nat.le_of_eq e13.symm
   have m16:w.heap.size≤b13:=by rw [e13]; exact F4r.size
   have nTb13:b13∉T4r2:=fun hm=>by have:=(hJl _ _ _ j4r2) _ hm; omega
   have E18:=E4r.trans (Fr.ext F13)
   have G20:Fr ([]:List Nat) w4r w13:=Fr.ext F13
   refine o_w (v:=.int .i64 s4.1) (r_asg rfl) ?_
   refine o_store rfl B13 (vs:=(cNm (nth d1.names s4.1))) rfl sz_buffer_Name rfl rfl rfl ?_
   intro w24 F24 B24
   have E25:=Fr.stp E18 F24 (fun m hm=>.inr (by simp at hm; omega))
   have G26:Fr L w w24:=(G5.trans (Fr.ext F13)).stp F24 (upc (.inr m14) (fun m hm=>by cases hm))
   have G27:Fr ([]:List Nat) w4r w24:=G20.stp F24 (upc (.inr m15) (fun m hm=>by cases hm))
   have G28:Fr (T0++L) w w24:=(F4r.trans (Fr.ext F13)).stp F24 (upc (.inr m16) (fun m hm=>by cases hm))
   have B24':Blk w24 b13 _ (cNm (nth d1.names s4.1)):=B24
   refine eo_nil_sq ?_
   refine ec_seq ?_
   refine ec_region ?_
   refine o_w (v:=.int .i64 s4.1) (r_mov rfl) ?_
   refine o_w (v:=.int .i64 d2) (r_ld one_int rfl ((HB2.fr G26 (fun _ h=>h)).now.cell rfl)) ?_
   refine o_w (v:=.bool (decide (d2≤s4.1))) (r_int rfl rfl rfl) ?_
   refine o_w (v:=.bool (decide (d2≤s4.1))) (r_mov rfl) ?_
   rcases Bool.eq_false_or_eq_true (decide (d2≤s4.1)) with hc31 | hc31
   ·replace h:=h.1 hc31
    iterate 4 refine o_no (want_f (t:=17) rfl rfl hc31) rfl ?_
    refine o_w (v:=.bool true) (r_pickT rfl hc31 rfl) ?_
    refine eo_nil_sq ?_
    refine ec_condT rfl rfl ?_
    refine ec_ret ?_
    refine blk_ret ?_
    refine sq_ret ?_
    obtain ⟨hr,h⟩:=h
    subst h
    exact .inr (lqR_r (end0r ⟨⟨_,rfl⟩,.inl ⟨_,it_end D4r2 hr (hJe _ _ _ _ j4r2 G27)⟩⟩))
   ·replace h:=h.2 hc31
    refine o_v (v:=.func (.yield l) #[] #[]) (r_mov rfl) (want_t (t:=17) rfl rfl hc31) rfl rfl ?_
    refine o_v (v:=.agg (cNm (nth d1.names s4.1)).toArray) (r_lda agg_buffer_Name rfl (vs:=(cNm (nth d1.names s4.1))) rfl (B24'.part (n:=2) rfl)) (want_t (t:=17) rfl rfl hc31) rfl rfl ?_
    obtain ⟨r32,er32,h⟩:=h
    refine o_yield (vs:=[.agg (cNm (nth d1.names s4.1)).toArray]) rfl rfl (hY _ (nth d1.names s4.1) _ _ _ (it_at D4r2 er32) (hJe _ _ _ _ j4r2 G27) ⟨_,rfl,(kNm_mk (d:=(nth d1.names s4.1)))⟩) (want_t (t:=17) rfl rfl hc31) rfl ?_ (by rintro c w' (⟨h,_⟩ | ⟨h,_⟩) <;> cases h) (by rintro w' (⟨h,_⟩ | ⟨h,_⟩) <;> cases h)
    rintro v32 w32 (⟨ev32,T32,J32,F32,N32⟩ | ⟨ev32,X32⟩)
    ·cases ev32; replace h:=h.1
     have D32:=it_next D4r2 er32
     have j32:=it_len (x:=(nth d1.names s4.1)) J32
     have hl32:=hJl _ _ _ j32
     have Ti32:∀ m∈T32,m∈L∨w.heap.size≤m:=fun m hm=>(N32 m hm).elim (Ti4r2 m) (fun h=>.inr (Nat.le_trans (E25.size) h))
     have nT32b13:b13∉T32:=fun hm=>(N32 _ hm).elim nTb13 (fun h=>by have:=B24'.lt; omega)
     have P34:∀ m∈T32,m∈(T0++L)∨w.heap.size≤m:=fun m hm=>(N32 m hm).elim (fun h=>(show ∀ m∈T4r2,m∈(T0++L)∨w.heap.size≤m from N4r2) m h) (fun h=>.inr (Nat.le_trans (G28.size) h))
     have E36:=Fr.stp E25 F32 Ti4r2
     have G38:Fr (T0++L) w w32:=G28.stp F32 N4r2
     refine o_v (r_not rfl) (want_t (t:=17) rfl rfl hc31) rfl rfl ?_
     refine o_w (v:=.bool false) (r_pickF rfl hc31 rfl) ?_
     refine eo_nil_sq ?_
     refine ec_condF rfl rfl ?_
     refine ec_skip ?_
     refine blk_n ?_
     refine sq_n ?_
     refine ec_region ?_
     refine o_w (v:=.int .i64 (IntKind.i64.wrap (s4.1 + (1:Int)))) (r_int rfl rfl rfl) ?_
     refine o_w (v:=.int .i64 (IntKind.i64.wrap (s4.1 + (1:Int)))) (r_mov rfl) ?_
     refine eo_nil ?_
     subst h
     exact .inr <| lqR_n ⟨_,(dn4r2++[(nth d1.names s4.1)]),T32,envs_self ⟨rfl,rfl,rfl,rfl,rfl,trivial⟩,rfl,G38,E36,(hJe _ _ _ _ j32 (Fr.refl _ _)),P34,D32,Ti32⟩
    ·cases ev32; replace h:=h.2
     refine o_v (r_not rfl) (want_t (t:=17) rfl rfl hc31) rfl rfl ?_
     refine o_w (v:=.bool true) (r_pickF rfl hc31 rfl) ?_
     refine eo_nil_sq ?_
     refine ec_condT rfl rfl ?_
     refine ec_ret ?_
     refine blk_ret ?_
     refine sq_ret ?_
     exact .inl ⟨rfl,(end0r ⟨⟨_,rfl⟩,.inr (hJxe _ _ X32 (Fr.refl _ _))⟩)⟩
  ·replace h:=h.2 hc7
   refine ec_exit ?_
   refine sq_exit ?_
   subst h
   exact .inr <| lqR_x ⟨_,dn4r2,T4r2,envs_self ⟨rfl,rfl,rfl,rfl,rfl,trivial⟩,rfl,F4r,E4r,(hJe _ _ _ _ j4r2 (Fr.refl _ _)),N4r2,D4r2,Ti4r2⟩
 ·exact ⟨_,([]:List (Nm)),T0,envs_self ⟨rfl,rfl,rfl,rfl,rfl,trivial⟩,rfl,(Fr.refl _ _),(Fr.refl _ _),(hJe _ _ _ _ hJ0 (Fr.refl _ _)),(fun q hq=>.inl (by first | exact List.mem_append_left _ hq | simp [hq])),(it_nil (xs:=xs)),(fun m hm=>.inl (hT0 m hm))⟩
 ·rintro sx4 rfl ρ4e ds4e w4e ⟨ρ4e,dn4e2,T4e2,rfl,rfl,F4e,E4e,j4e2,N4e2,D4e2,Ti4e2⟩
  replace h:=h.1 _ rfl
  refine blk_hit ?_
  have hr:=h
  exact (end0 ⟨⟨_,rfl⟩,.inl ⟨_,it_end D4e2 hr (hJe _ _ _ _ j4e2 (Fr.refl _ _))⟩⟩)
 ·rintro y4 rfl ρ4q ds4q w4q hJ
  refine blk_ret ?_
  exact hJ
 ·intro ρ4q ds4q w4q hJ
  refine blk_ret ?_
  exact hJ
theorem buffer_Buffer_first_1_it {L:List Nat} {w:World} {bP1:Nat} {csP1:List Value} (d1:Buf) (HB1:Stb L w (fun w=>Blk w bP1 24 csP1)) (HP1:Stb L w (fun w=>kBuf.r w csP1 d1)) {bP2:Nat} (d2:Int) (HB2:Stb L w (fun w=>Blk w bP2 3 [.int .i64 d2])) (hL:Lt L w) {xs:List (Nm)} (h:buffer_Buffer_first_1_raw d1 d2 xs):IterCP Try.prog 61 [.pointer (some ⟨bP1,0,none⟩),.pointer (some ⟨bP2,0,none⟩)] xs buffer_Buffer_first_1_X L [] w :=
 fun l J Jx T0 hT0 hPv hJ0 h1 h2 h3 h4=>buffer_Buffer_first_1_it1 d1 HB1 HP1 d2 HB2 hL h l J Jx T0 hT0 hJ0 h1 h2 h3 h4
end Go.Proofs.Ythfkbabgkacfnaa
