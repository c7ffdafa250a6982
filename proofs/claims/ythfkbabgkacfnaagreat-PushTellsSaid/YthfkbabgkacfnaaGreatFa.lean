/- Buffers: what each function comes to. -/
import Derived.Test.YthfkbabgkacfnaaGreatCt3
import Derived.Test.YthfkbabgkacfnaaGreatEv
namespace Go.Proofs.YthfkbabgkacfnaaGreat
open Go Go.RowKit
set_option linter.unusedVariables false
set_option linter.unusedSimpArgs false
def ref16_Check_b24 (d0:Buf) (d1:Arena) (s24:Int) (z24:(Int) ⊕ ((Int) ⊕ (Bool))):Prop :=
 ((decide (s24<(d0.names.length:Int)))=true→((0≤s24∧s24<(d0.names.length:Int))∧((0≤s24∧s24<(d0.names.length:Int))∧(sma d1∧(∃ x50,x50=(findA d1 ((nth d0.names s24).kind) ((nth d0.names s24).key))∧(((decide (x50<(0:Int)))=true→(z24=.inr (.inr false)))∧((decide (x50<(0:Int)))=false→(z24=.inl (IntKind.i64.wrap (s24 + (1:Int)))))))))))∧((decide (s24<(d0.names.length:Int)))=false→(z24=.inr (.inl s24)))
def ref16_Check_raw (d0:Buf) (d1:Arena) (d2:Int) (y:Bool):Prop :=
 ((!(((((decide (d0.epoch<(0:Int)))||(decide ((2147483647:Int)<d0.epoch)))||(decide (d0.first<(0:Int))))||(decide ((IntKind.i64.wrap ((2147483647:Int) - (d0.names.length:Int)))<d0.first)))||(decide (d2<(d0.names.length:Int)))))=true→sma d1)∧((((((((decide (d0.epoch<(0:Int)))||(decide ((2147483647:Int)<d0.epoch)))||(decide (d0.first<(0:Int))))||(decide ((IntKind.i64.wrap ((2147483647:Int) - (d0.names.length:Int)))<d0.first)))||(decide (d2<(d0.names.length:Int))))||(!(arOk d1)))=true→(y=false))∧(((((((decide (d0.epoch<(0:Int)))||(decide ((2147483647:Int)<d0.epoch)))||(decide (d0.first<(0:Int))))||(decide ((IntKind.i64.wrap ((2147483647:Int) - (d0.names.length:Int)))<d0.first)))||(decide (d2<(d0.names.length:Int))))||(!(arOk d1)))=false→(∃ x24,LoopR (ref16_Check_b24 d0 d1) (0:Int) x24∧(∀ sx24,x24=.inl sx24→(y=true))∧(∀ y24,x24=.inr y24→(y=y24)))))
set_option maxRecDepth 20000 in
set_option maxHeartbeats 4000000 in
theorem ref16_Check_c {L:List Nat} {w:World} {csP0:List Value} (d0:Buf) (HP0:Stb L w (fun w=>kBuf.r w csP0 d0)) {csP1:List Value} (d1:Arena) (HP1:Stb L w (fun w=>kArena.r w csP1 d1)) (d2:Int) (hL:Lt L w) {y:Bool} (h:ref16_Check_raw d0 d1 d2 y) :
  Calls Tryz.prog 34 [.agg csP0.toArray,.agg csP1.toArray,.int .i64 d2].toArray w (Ret fun v w'=>Ext w w'∧v=.bool y):=by
 obtain ⟨A1,c2,rfl,H3⟩:=kBuf_open HP0
 obtain ⟨A4,c5,A7,c8,rfl,H6,H9⟩:=kArena_open HP1
 unfold ref16_Check_raw at h
 refine calls_ec Tryz.func34 rfl rfl rfl ?_
 refine ec_seq ?_
 refine ec_region ?_
 refine o_box (cs:=(cBuf d0 A1 c2)) rfl rfl rfl ?_
 intro b10 w10 e10 F10 B10
 have S10:=B10.stb (nin hL e10)
 have G11:Fr L w w10:=Fr.ext F10
 refine o_box (cs:=(cArena d1 A4 c5 A7 c8)) rfl rfl rfl ?_
 intro b12 w12 e12 F12 B12
 have S12:=B12.stb (nin (hL.fr F10) e12)
 have E13:=F10.trans F12
 have G15:Fr L w10 w12:=Fr.ext F12
 refine o_w (v:=.bool false) (r_asg rfl) ?_
 refine eo_nil_sq ?_
 iterate 2 refine ec_seq ?_
 refine ec_region ?_
 refine o_w (v:=.pointer (some ⟨b10,0,none⟩)) (r_fa fld_ouroborosref16_Buffer_0 rfl rfl) ?_
 refine o_w (v:=.int .i64 d0.epoch) (r_ld one_int rfl ((S10.fr G15 (fun _ h=>h)).now.cell rfl)) ?_
 refine o_w (v:=.bool (decide (d0.epoch<(0:Int)))) (r_int rfl rfl rfl) ?_
 refine o_w (v:=.bool (decide (d0.epoch<(0:Int)))) (r_mov rfl) ?_
 refine o_vg (v:=.pointer (some ⟨b10,0,none⟩)) (want_cf (t:=11) rfl rfl) (fun hk=>(r_fa fld_ouroborosref16_Buffer_0 rfl rfl)) rfl rfl ?_
 refine o_vg (v:=.int .i64 d0.epoch) (want_cf (t:=11) rfl rfl) (fun hk=>(r_ld one_int (gdT hk) ((S10.fr G15 (fun _ h=>h)).now.cell rfl))) rfl rfl ?_
 refine o_vg (v:=.bool (decide ((2147483647:Int)<d0.epoch))) (want_cf (t:=11) rfl rfl) (fun hk=>(r_int (gdT hk) rfl rfl)) rfl rfl ?_
 refine o_w (v:=.bool ((decide (d0.epoch<(0:Int)))||(decide ((2147483647:Int)<d0.epoch)))) (r_pickOr rfl rfl (fun hf=>(gdT (notT hf)))) ?_
 refine o_w (v:=.bool ((decide (d0.epoch<(0:Int)))||(decide ((2147483647:Int)<d0.epoch)))) (r_mov rfl) ?_
 refine o_vg (v:=.pointer (some ⟨b10,1,none⟩)) (want_cf (t:=16) rfl rfl) (fun hk=>(r_fa fld_ouroborosref16_Buffer_1 rfl rfl)) rfl rfl ?_
 refine o_vg (v:=.int .i64 d0.first) (want_cf (t:=16) rfl rfl) (fun hk=>(r_ld one_int (gdT hk) ((S10.fr G15 (fun _ h=>h)).now.cell rfl))) rfl rfl ?_
 refine o_vg (v:=.bool (decide (d0.first<(0:Int)))) (want_cf (t:=16) rfl rfl) (fun hk=>(r_int (gdT hk) rfl rfl)) rfl rfl ?_
 refine o_w (v:=.bool (((decide (d0.epoch<(0:Int)))||(decide ((2147483647:Int)<d0.epoch)))||(decide (d0.first<(0:Int))))) (r_pickOr rfl rfl (fun hf=>(gdT (notT hf)))) ?_
 refine o_w (v:=.bool (((decide (d0.epoch<(0:Int)))||(decide ((2147483647:Int)<d0.epoch)))||(decide (d0.first<(0:Int))))) (r_mov rfl) ?_
 refine o_vg (v:=.pointer (some ⟨b10,1,none⟩)) (want_cf (t:=21) rfl rfl) (fun hk=>(r_fa fld_ouroborosref16_Buffer_1 rfl rfl)) rfl rfl ?_
 refine o_vg (v:=.int .i64 d0.first) (want_cf (t:=21) rfl rfl) (fun hk=>(r_ld one_int (gdT hk) ((S10.fr G15 (fun _ h=>h)).now.cell rfl))) rfl rfl ?_
 refine o_vg (v:=.pointer (some ⟨b10,2,none⟩)) (want_cf (t:=21) rfl rfl) (fun hk=>(r_fa fld_ouroborosref16_Buffer_2 rfl rfl)) rfl rfl ?_
 refine o_vg (v:=.slice A1 d0.names.length c2) (want_cf (t:=21) rfl rfl) (fun hk=>(r_ld one_s_ouroborosref16_Name (gdT hk) ((S10.fr G15 (fun _ h=>h)).now.cell rfl))) rfl rfl ?_
 refine o_vg (v:=.int .i64 (d0.names.length:Int)) (want_cf (t:=21) rfl rfl) (fun hk=>(r_len_slc un_s_ouroborosref16_Name (gdT hk))) rfl rfl ?_
 refine o_vg (v:=.int .i64 (IntKind.i64.wrap ((2147483647:Int) - (d0.names.length:Int)))) (want_cf (t:=21) rfl rfl) (fun hk=>(r_int rfl (gdT hk) rfl)) rfl rfl ?_
 refine o_vg (v:=.bool (decide ((IntKind.i64.wrap ((2147483647:Int) - (d0.names.length:Int)))<d0.first))) (want_cf (t:=21) rfl rfl) (fun hk=>(r_int (gdT hk) (gdT hk) rfl)) rfl rfl ?_
 refine o_w (v:=.bool ((((decide (d0.epoch<(0:Int)))||(decide ((2147483647:Int)<d0.epoch)))||(decide (d0.first<(0:Int))))||(decide ((IntKind.i64.wrap ((2147483647:Int) - (d0.names.length:Int)))<d0.first)))) (r_pickOr rfl rfl (fun hf=>(gdT (notT hf)))) ?_
 refine o_w (v:=.bool ((((decide (d0.epoch<(0:Int)))||(decide ((2147483647:Int)<d0.epoch)))||(decide (d0.first<(0:Int))))||(decide ((IntKind.i64.wrap ((2147483647:Int) - (d0.names.length:Int)))<d0.first)))) (r_mov rfl) ?_
 refine o_vg (v:=.pointer (some ⟨b10,2,none⟩)) (want_cf (t:=30) rfl rfl) (fun hk=>(r_fa fld_ouroborosref16_Buffer_2 rfl rfl)) rfl rfl ?_
 refine o_vg (v:=.slice A1 d0.names.length c2) (want_cf (t:=30) rfl rfl) (fun hk=>(r_ld one_s_ouroborosref16_Name (gdT hk) ((S10.fr G15 (fun _ h=>h)).now.cell rfl))) rfl rfl ?_
 refine o_vg (v:=.int .i64 (d0.names.length:Int)) (want_cf (t:=30) rfl rfl) (fun hk=>(r_len_slc un_s_ouroborosref16_Name (gdT hk))) rfl rfl ?_
 refine o_vg (v:=.int .i64 d2) (want_cf (t:=30) rfl rfl) (fun hk=>(r_mov rfl)) rfl rfl ?_
 refine o_vg (v:=.bool (decide (d2<(d0.names.length:Int)))) (want_cf (t:=30) rfl rfl) (fun hk=>(r_int (gdT hk) (gdT hk) rfl)) rfl rfl ?_
 refine o_w (v:=.bool (((((decide (d0.epoch<(0:Int)))||(decide ((2147483647:Int)<d0.epoch)))||(decide (d0.first<(0:Int))))||(decide ((IntKind.i64.wrap ((2147483647:Int) - (d0.names.length:Int)))<d0.first)))||(decide (d2<(d0.names.length:Int))))) (r_pickOr rfl rfl (fun hf=>(gdT (notT hf)))) ?_
 refine o_w (v:=.bool (((((decide (d0.epoch<(0:Int)))||(decide ((2147483647:Int)<d0.epoch)))||(decide (d0.first<(0:Int))))||(decide ((IntKind.i64.wrap ((2147483647:Int) - (d0.names.length:Int)))<d0.first)))||(decide (d2<(d0.names.length:Int))))) (r_mov rfl) ?_
 refine o_vg (v:=.agg (cArena d1 A4 c5 A7 c8).toArray) (want_cf (t:=37) rfl rfl) (fun hk=>(r_lda agg_api_Arena rfl (vs:=(cArena d1 A4 c5 A7 c8)) rfl (S12.now.part (n:=3) rfl))) rfl rfl ?_
 obtain ⟨ha18,h⟩:=h
 refine o_callg (V:=.bool (arOk d1)) cf_ref08_Check (want_cf (t:=37) rfl rfl) (fun hk=>(mapv1 (gdT hk))) (fun hk=>(ref08_Check_c d1 (kArena_mk (d:=d1) (H6.fr (G11.trans (Fr.ext F12)) (fun _ h=>h)) (H9.fr (G11.trans (Fr.ext F12)) (fun _ h=>h))) (hL.fr E13) (refCheckA_ev d1 (ha18 hk)))) rfl ?_
 intro w17 F17
 have E19:=E13.trans F17
 have G22:Fr L w12 w17:=Fr.ext F17
 refine o_vg (v:=.bool (!(arOk d1))) (want_cf (t:=37) rfl rfl) (fun hk=>(r_not (gdT hk))) rfl rfl ?_
 refine o_w (v:=.bool ((((((decide (d0.epoch<(0:Int)))||(decide ((2147483647:Int)<d0.epoch)))||(decide (d0.first<(0:Int))))||(decide ((IntKind.i64.wrap ((2147483647:Int) - (d0.names.length:Int)))<d0.first)))||(decide (d2<(d0.names.length:Int))))||(!(arOk d1)))) (r_pickOr rfl rfl (fun hf=>(gdT (notT hf)))) ?_
 refine eo_nil_sq ?_
 refine ec_cond rfl (fun hc23=>?_) (fun hc23=>?_)
 ·replace h:=h.1 hc23
  refine ec_seq ?_
  refine ec_region ?_
  refine o_w (v:=.bool false) (r_asg rfl) ?_
  refine eo_nil_sq ?_
  refine ec_ret ?_
  refine sq_ret ?_
  subst h
  exact (end1 rfl ⟨_,rfl,E19,rfl⟩)
 ·replace h:=h.2 hc23
  refine ec_skip ?_
  refine sq_n ?_
  iterate 2 refine ec_seq ?_
  refine ec_region ?_
  refine o_w (v:=.int .i64 (0:Int)) (r_asg rfl) ?_
  refine eo_nil_sq ?_
  refine ec_block ?_
  obtain ⟨x24,hl24,h⟩:=h
  refine ec_loopER 0 (I:=(fun (s24:Int) ρ ds w'=>∃ (ρ':Env),ρ=envs ρ' [(7,.int .i64 s24),(3,.pointer (some ⟨b10,0,none⟩)),(4,.pointer (some ⟨b12,0,none⟩))]∧ds=[]∧Fr L w17 w'∧Ext w w')) (J:=(fun (y':Bool) ρ ds wz=>bodyE Tryz.prog #[.tmp 6] (Ret fun v w'=>Ext w w'∧v=.bool y') .ret ρ ds wz)) ?_ hl24 ?_ ?_ ?_
  ·intro s24 z24 ρ24 ds24 w24r hI24 hb24
   obtain ⟨ρ24r,rfl,rfl,F24r,E24r⟩:=hI24
   have h:=hb24
   unfold ref16_Check_b24 at h
   have G25:Fr L w w24r:=((G11.trans (Fr.ext F12)).trans (Fr.ext F17)).stp F24r (fun _ h=>.inl h)
   have G26:Fr L w10 w24r:=(G15.trans (Fr.ext F17)).stp F24r (fun _ h=>.inl h)
   have G27:Fr L w12 w24r:=G22.stp F24r (fun _ h=>.inl h)
   iterate 2 refine ec_seq ?_
   refine ec_region ?_
   refine o_w (v:=.int .i64 s24) (r_mov rfl) ?_
   refine o_w (v:=.pointer (some ⟨b10,2,none⟩)) (r_fa fld_ouroborosref16_Buffer_2 rfl rfl) ?_
   refine o_w (v:=.slice A1 d0.names.length c2) (r_ld one_s_ouroborosref16_Name rfl ((S10.fr G26 (fun _ h=>h)).now.cell rfl)) ?_
   refine o_w (v:=.int .i64 (d0.names.length:Int)) (r_len_slc un_s_ouroborosref16_Name rfl) ?_
   refine o_w (v:=.bool (decide (s24<(d0.names.length:Int)))) (r_int rfl rfl rfl) ?_
   refine eo_nil_sq ?_
   refine ec_cond rfl (fun hc28=>?_) (fun hc28=>?_)
   ·replace h:=h.1 hc28
    refine ec_skip ?_
    refine sq_n ?_
    refine ec_seq ?_
    refine ec_block ?_
    refine ec_seq ?_
    obtain ⟨ha40,h⟩:=h
    obtain ⟨cs41,l43,H42⟩:=Stb.elem (by decide) (H3.fr G25 (fun _ h=>h)) s24 ha40.1 ha40.2
    obtain ⟨rfl,H44⟩:=kNm_open2 H42
    obtain ⟨ha45,h⟩:=h
    obtain ⟨cs46,l48,H47⟩:=Stb.elem (by decide) (H3.fr G25 (fun _ h=>h)) s24 ha45.1 ha45.2
    obtain ⟨rfl,H49⟩:=kNm_open2 H47
    obtain ⟨ha51,h⟩:=h
    obtain ⟨x50,hx50,h⟩:=h
    refine ec_any0 (by kernel_rfl) [[],[],[1],[],[1,2,3],[1,2,3,4],[1,2,3,4,5],[],[7],[],[7,8,9],[7,8,9,10],[7,8,9,10,11],[0,1,2,3,4,5,6,7,8,9,10,11,12],[0,1,2,3,4,5,6,7,8,9,10,11,12,13]] [49,50,51,52,53,54,55,56,57,58,59,60,61,62,63] [fun v _=>v=(.agg (cArena d1 A4 c5 A7 c8).toArray:Value),fun v _=>v=(.pointer (some ⟨b10,2,none⟩):Value),fun v _=>v=(.slice A1 d0.names.length c2:Value),fun v _=>v=(.int .i64 s24:Value),fun v _=>v=(.pointer (some (elemA A1 kNm.n s24.toNat)):Value),fun v _=>v=(.pointer (some (ad (elemA A1 kNm.n s24.toNat) 0)):Value),fun v _=>v=(.int .i64 ((nth d0.names s24).kind):Value),fun v _=>v=(.pointer (some ⟨b10,2,none⟩):Value),fun v _=>v=(.slice A1 d0.names.length c2:Value),fun v _=>v=(.int .i64 s24:Value),fun v _=>v=(.pointer (some (elemA A1 kNm.n s24.toNat)):Value),fun v _=>v=(.pointer (some (ad (elemA A1 kNm.n s24.toNat) 1)):Value),fun v _=>v=(str ((nth d0.names s24).key):Value),fun v _=>v=(.int .i64 x50:Value),fun v _=>v=(.bool (decide (x50<(0:Int))):Value)] (by kernel_rfl) ⟨fun _ _ _ _ _ h=>h,fun _ _ _ _ _ h=>h,fun _ _ _ _ _ h=>h,fun _ _ _ _ _ h=>h,fun _ _ _ _ _ h=>h,fun _ _ _ _ _ h=>h,fun _ _ _ _ _ h=>h,fun _ _ _ _ _ h=>h,fun _ _ _ _ _ h=>h,fun _ _ _ _ _ h=>h,fun _ _ _ _ _ h=>h,fun _ _ _ _ _ h=>h,fun _ _ _ _ _ h=>h,fun _ _ _ _ _ h=>h,fun _ _ _ _ _ h=>h,trivial⟩ ?_ ?_
    ·refine ⟨?_,?_,?_,?_,?_,?_,?_,?_,?_,?_,?_,?_,?_,?_,?_,trivial⟩
     ·intro ρ w39o F39o hS hρ
      have q4:ρ 4=.pointer (some ⟨b12,0,none⟩):=hρ 4 (by kernel_rfl)
      exact o_q (r_lda agg_api_Arena q4 (vs:=(cArena d1 A4 c5 A7 c8)) rfl ((S12.fr (G27.trans (Fr.ext F39o)) (fun _ h=>h)).now.part (n:=3) rfl)) ⟨Fr.refl _ _,rfl⟩
     ·intro ρ w39o F39o hS hρ
      have q3:ρ 3=.pointer (some ⟨b10,0,none⟩):=hρ 3 (by kernel_rfl)
      exact o_q (r_fa fld_ouroborosref16_Buffer_2 rfl q3) ⟨Fr.refl _ _,rfl⟩
     ·intro ρ w39o F39o hS hρ
      have q50:ρ 50=.pointer (some ⟨b10,2,none⟩):=hS 1 (by decide) 50 rfl
      exact o_q (r_ld one_s_ouroborosref16_Name q50 ((S10.fr (G26.trans (Fr.ext F39o)) (fun _ h=>h)).now.cell rfl)) ⟨Fr.refl _ _,rfl⟩
     ·intro ρ w39o F39o hS hρ
      have q7:ρ 7=.int .i64 s24:=hρ 7 (by kernel_rfl)
      exact o_q (r_mov q7) ⟨Fr.refl _ _,rfl⟩
     ·intro ρ w39o F39o hS hρ
      have q51:ρ 51=.slice A1 d0.names.length c2:=hS 2 (by decide) 51 rfl
      have q52:ρ 52=.int .i64 s24:=hS 3 (by decide) 52 rfl
      exact o_q (r_ia slc_s_ouroborosref16_Name q51 q52 ((H3.fr (G25.trans (Fr.ext F39o)) (fun _ h=>h)).now.2 _ (lt_toNat ha40.1 ha40.2)).1 ha40.1 ha40.2) ⟨Fr.refl _ _,rfl⟩
     ·intro ρ w39o F39o hS hρ
      have q53:ρ 53=.pointer (some (elemA A1 kNm.n s24.toNat)):=hS 4 (by decide) 53 rfl
      exact o_q (r_fad fld_ouroborosref16_Name_0 (elemA_spot _ _ _) q53) ⟨Fr.refl _ _,rfl⟩
     ·intro ρ w39o F39o hS hρ
      have G75:Fr L w24r w39o:=Fr.ext F39o
      have q54:ρ 54=.pointer (some (ad (elemA A1 kNm.n s24.toNat) 0)):=hS 5 (by decide) 54 rfl
      exact o_q (r_ld' one_int q54 rfl ((H44.fr G75 (fun _ h=>h)).now.1.at (j:=0) rfl)) ⟨Fr.refl _ _,rfl⟩
     ·intro ρ w39o F39o hS hρ
      have q3:ρ 3=.pointer (some ⟨b10,0,none⟩):=hρ 3 (by kernel_rfl)
      exact o_q (r_fa fld_ouroborosref16_Buffer_2 rfl q3) ⟨Fr.refl _ _,rfl⟩
     ·intro ρ w39o F39o hS hρ
      have q56:ρ 56=.pointer (some ⟨b10,2,none⟩):=hS 7 (by decide) 56 rfl
      exact o_q (r_ld one_s_ouroborosref16_Name q56 ((S10.fr (G26.trans (Fr.ext F39o)) (fun _ h=>h)).now.cell rfl)) ⟨Fr.refl _ _,rfl⟩
     ·intro ρ w39o F39o hS hρ
      have q7:ρ 7=.int .i64 s24:=hρ 7 (by kernel_rfl)
      exact o_q (r_mov q7) ⟨Fr.refl _ _,rfl⟩
     ·intro ρ w39o F39o hS hρ
      have q57:ρ 57=.slice A1 d0.names.length c2:=hS 8 (by decide) 57 rfl
      have q58:ρ 58=.int .i64 s24:=hS 9 (by decide) 58 rfl
      exact o_q (r_ia slc_s_ouroborosref16_Name q57 q58 ((H3.fr (G25.trans (Fr.ext F39o)) (fun _ h=>h)).now.2 _ (lt_toNat ha45.1 ha45.2)).1 ha45.1 ha45.2) ⟨Fr.refl _ _,rfl⟩
     ·intro ρ w39o F39o hS hρ
      have q59:ρ 59=.pointer (some (elemA A1 kNm.n s24.toNat)):=hS 10 (by decide) 59 rfl
      exact o_q (r_fad fld_ouroborosref16_Name_1 (elemA_spot _ _ _) q59) ⟨Fr.refl _ _,rfl⟩
     ·intro ρ w39o F39o hS hρ
      have G93:Fr L w24r w39o:=Fr.ext F39o
      have q60:ρ 60=.pointer (some (ad (elemA A1 kNm.n s24.toNat) 1)):=hS 11 (by decide) 60 rfl
      exact o_q (r_ld' one_string q60 rfl ((H49.fr G93 (fun _ h=>h)).now.1.at (j:=1) rfl)) ⟨Fr.refl _ _,rfl⟩
     ·intro ρ w39o F39o hS hρ
      have E94:=E24r.trans F39o
      have q49:ρ 49=.agg (cArena d1 A4 c5 A7 c8).toArray:=hS 0 (by decide) 49 rfl
      have q55:ρ 55=.int .i64 ((nth d0.names s24).kind):=hS 6 (by decide) 55 rfl
      have q61:ρ 61=str ((nth d0.names s24).key):=hS 12 (by decide) 61 rfl
      refine o_call cf_ref08_Find (by simp only [List.map,ev,q49,q55,q61] <;> rfl) (ref08_Find_c d1 (kArena_mk (d:=d1) (H6.fr (G25.trans (Fr.ext F39o)) (fun _ h=>h)) (H9.fr (G25.trans (Fr.ext F39o)) (fun _ h=>h))) ((nth d0.names s24).kind) ((nth d0.names s24).key) (hL.fr E94) (eq_ev hx50 (refFind_ev d1 ((nth d0.names s24).kind) ((nth d0.names s24).key) ha51))) rfl rfl ?_
      rintro _ w' ⟨F,rfl⟩
      exact eo_nil ⟨rfl,rfl,_,rfl,F,rfl⟩
     ·intro ρ w39o F39o hS hρ
      have q62:ρ 62=.int .i64 x50:=hS 13 (by decide) 62 rfl
      exact o_q (r_int q62 rfl rfl) ⟨Fr.refl _ _,rfl⟩
    ·intro ρ w39 F39 hS hρ
     have q63:ρ 63=.bool (decide (x50<(0:Int))):=hS 14 63 rfl
     obtain ⟨ρ',rfl⟩:∃ ρ',ρ=envs (ovr [49,50,51,52,53,54,55,56,57,58,59,60,61,62,63] ρ' _) [(63,.bool (decide (x50<(0:Int))))]:=⟨ρ,ovr_self hρ ⟨q63,trivial⟩⟩
     have E100:=E24r.trans F39
     refine sq_n ?_
     refine ec_cond rfl (fun hc106=>?_) (fun hc106=>?_)
     ·replace h:=h.1 hc106
      refine ec_seq ?_
      refine ec_region ?_
      refine o_w (v:=.bool false) (r_asg rfl) ?_
      refine eo_nil_sq ?_
      refine ec_ret ?_
      refine blk_ret ?_
      refine sq_ret ?_
      subst h
      exact lqR_r (end1 rfl ⟨_,rfl,E100,rfl⟩)
     ·replace h:=h.2 hc106
      refine ec_skip ?_
      refine blk_n ?_
      refine sq_n ?_
      refine ec_region ?_
      refine o_w (v:=.int .i64 s24) (r_mov rfl) ?_
      refine o_w (v:=.int .i64 (IntKind.i64.wrap (s24 + (1:Int)))) (r_int rfl rfl rfl) ?_
      refine o_w (v:=.int .i64 (IntKind.i64.wrap (s24 + (1:Int)))) (r_asg rfl) ?_
      refine eo_nil ?_
      subst h
      exact lqR_n ⟨_,envs_self ⟨rfl,rfl,rfl,trivial⟩,rfl,(F24r.trans (Fr.ext F39)),E100⟩
   ·replace h:=h.2 hc28
    refine ec_exit ?_
    refine sq_exit ?_
    subst h
    exact lqR_x ⟨_,envs_self ⟨rfl,rfl,rfl,trivial⟩,rfl,F24r,E24r⟩
  ·exact ⟨_,envs_self ⟨rfl,rfl,rfl,trivial⟩,rfl,(Fr.refl _ _),E19⟩
  ·rintro sx24 rfl ρ24e ds24e w24e ⟨ρ24e,rfl,rfl,F24e,E24e⟩
   replace h:=h.1 _ rfl
   refine blk_hit ?_
   refine sq_n ?_
   refine ec_seq ?_
   refine ec_region ?_
   refine o_w (v:=.bool true) (r_asg rfl) ?_
   refine eo_nil_sq ?_
   refine ec_ret ?_
   subst h
   exact (end1 rfl ⟨_,rfl,E24e,rfl⟩)
  ·rintro y24 rfl ρ24q ds24q w24q hJ
   have hy:=h.2 _ rfl
   subst hy
   refine blk_ret ?_
   refine sq_ret ?_
   exact hJ
def ref16_Reset_raw (d0:Buf) (y:Buf):Prop :=
 (((decide (d0.epoch<(0:Int)))||(decide ((2147483647:Int)≤d0.epoch)))=true→(y=(⟨(0:Int),(0:Int),([]:List Nm)⟩:Buf)))∧(((decide (d0.epoch<(0:Int)))||(decide ((2147483647:Int)≤d0.epoch)))=false→(y=(⟨(IntKind.i64.wrap (d0.epoch + (1:Int))),(0:Int),([]:List Nm)⟩:Buf)))
set_option maxRecDepth 20000 in
set_option maxHeartbeats 4000000 in
theorem ref16_Reset_c {L:List Nat} {w:World} {csP0:List Value} (d0:Buf) (HP0:Stb L w (fun w=>kBuf.r w csP0 d0)) (hL:Lt L w) {y:Buf} (h:ref16_Reset_raw d0 y) :
  Calls Tryz.prog 35 [.agg csP0.toArray].toArray w (Ret fun v w'=>Ext w w'∧∃ (cs90:List Value),v=.agg cs90.toArray∧Stb L w' (fun w=>kBuf.r w cs90 y)):=by
 obtain ⟨A1,c2,rfl,H3⟩:=kBuf_open HP0
 unfold ref16_Reset_raw at h
 refine calls_ec Tryz.func35 rfl rfl rfl ?_
 refine ec_seq ?_
 refine ec_region ?_
 refine o_box (cs:=(cBuf d0 A1 c2)) rfl rfl rfl ?_
 intro b4 w4 e4 F4 B4
 have S4:=B4.stb (nin hL e4)
 refine o_alloc zero_ouroborosref16_Buffer rfl rfl rfl ?_
 intro b6 w6 e6 F6 B6
 have n6:w.heap.size≤b6:=by rw [e6]; exact F4.size
 have E9:=F4.trans F6
 have G11:Fr L w4 w6:=Fr.ext F6
 refine eo_nil_sq ?_
 iterate 2 refine ec_seq ?_
 refine ec_region ?_
 refine o_w (v:=.pointer (some ⟨b4,0,none⟩)) (r_fa fld_ouroborosref16_Buffer_0 rfl rfl) ?_
 refine o_w (v:=.int .i64 d0.epoch) (r_ld one_int rfl ((S4.fr G11 (fun _ h=>h)).now.cell rfl)) ?_
 refine o_w (v:=.bool (decide (d0.epoch<(0:Int)))) (r_int rfl rfl rfl) ?_
 refine o_w (v:=.bool (decide (d0.epoch<(0:Int)))) (r_mov rfl) ?_
 refine o_vg (v:=.pointer (some ⟨b4,0,none⟩)) (want_cf (t:=6) rfl rfl) (fun hk=>(r_fa fld_ouroborosref16_Buffer_0 rfl rfl)) rfl rfl ?_
 refine o_vg (v:=.int .i64 d0.epoch) (want_cf (t:=6) rfl rfl) (fun hk=>(r_ld one_int (gdT hk) ((S4.fr G11 (fun _ h=>h)).now.cell rfl))) rfl rfl ?_
 refine o_vg (v:=.bool (decide ((2147483647:Int)≤d0.epoch))) (want_cf (t:=6) rfl rfl) (fun hk=>(r_int (gdT hk) rfl rfl)) rfl rfl ?_
 refine o_w (v:=.bool ((decide (d0.epoch<(0:Int)))||(decide ((2147483647:Int)≤d0.epoch)))) (r_pickOr rfl rfl (fun hf=>(gdT (notT hf)))) ?_
 refine eo_nil_sq ?_
 refine ec_cond rfl (fun hc12=>?_) (fun hc12=>?_)
 ·replace h:=h.1 hc12
  refine ec_seq ?_
  refine ec_region ?_
  refine o_w (v:=.agg #[.int .i64 (0:Int),.int .i64 (0:Int),.slice none ([]:List Nm).length 0]) (r_build bld_ouroborosref16_Buffer (vs:=[]) (cells:=[.int .i64 (0:Int),.int .i64 (0:Int),.slice none ([]:List Nm).length 0]) rfl rfl) ?_
  refine o_store rfl B6 (vs:=[.int .i64 (0:Int),.int .i64 (0:Int),.slice none ([]:List Nm).length 0]) rfl sz_ouroborosref16_Buffer rfl rfl rfl ?_
  intro w13 F13 B13
  have E14:=Ext.st E9 F13 (by simp; omega)
  have B13':Blk w13 b6 _ [.int .i64 (0:Int),.int .i64 (0:Int),.slice none ([]:List Nm).length 0]:=B13
  refine eo_nil_sq ?_
  refine ec_ret ?_
  refine sq_ret ?_
  subst h
  exact (endr1 (rv_a rfl (agg_ouroborosref16_Buffer) B13' (vs:=[.int .i64 (0:Int),.int .i64 (0:Int),.slice none ([]:List Nm).length 0]) rfl rfl) ⟨_,rfl,E14,_,rfl,(kBuf_mk (d:=(⟨(0:Int),(0:Int),([]:List Nm)⟩:Buf)) stb_nil)⟩)
 ·replace h:=h.2 hc12
  refine ec_skip ?_
  refine sq_n ?_
  refine ec_seq ?_
  refine ec_region ?_
  refine o_w (v:=.pointer (some ⟨b4,0,none⟩)) (r_fa fld_ouroborosref16_Buffer_0 rfl rfl) ?_
  refine o_w (v:=.int .i64 d0.epoch) (r_ld one_int rfl ((S4.fr G11 (fun _ h=>h)).now.cell rfl)) ?_
  refine o_w (v:=.int .i64 (IntKind.i64.wrap (d0.epoch + (1:Int)))) (r_int rfl rfl rfl) ?_
  refine o_w (v:=.agg #[.int .i64 (IntKind.i64.wrap (d0.epoch + (1:Int))),.int .i64 (0:Int),.slice none ([]:List Nm).length 0]) (r_build bld_ouroborosref16_Buffer (vs:=[(0,.int .i64 (IntKind.i64.wrap (d0.epoch + (1:Int))))]) (cells:=[.int .i64 (IntKind.i64.wrap (d0.epoch + (1:Int))),.int .i64 (0:Int),.slice none ([]:List Nm).length 0]) rfl rfl) ?_
  refine o_store rfl B6 (vs:=[.int .i64 (IntKind.i64.wrap (d0.epoch + (1:Int))),.int .i64 (0:Int),.slice none ([]:List Nm).length 0]) rfl sz_ouroborosref16_Buffer rfl rfl rfl ?_
  intro w17 F17 B17
  have E18:=Ext.st E9 F17 (by simp; omega)
  have B17':Blk w17 b6 _ [.int .i64 (IntKind.i64.wrap (d0.epoch + (1:Int))),.int .i64 (0:Int),.slice none ([]:List Nm).length 0]:=B17
  refine eo_nil_sq ?_
  refine ec_ret ?_
  subst h
  exact (endr1 (rv_a rfl (agg_ouroborosref16_Buffer) B17' (vs:=[.int .i64 (IntKind.i64.wrap (d0.epoch + (1:Int))),.int .i64 (0:Int),.slice none ([]:List Nm).length 0]) rfl rfl) ⟨_,rfl,E18,_,rfl,(kBuf_mk (d:=(⟨(IntKind.i64.wrap (d0.epoch + (1:Int))),(0:Int),([]:List Nm)⟩:Buf)) stb_nil)⟩)
def ref16_Mend_raw (d0:Buf) (d1:Arena) (d2:Int) (y:Buf):Prop :=
 ∃ x24,ref16_Check_raw d0 d1 d2 x24∧((x24=true→(y=d0))∧(x24=false→(∃ x36,ref16_Reset_raw d0 x36∧(y=x36))))
set_option maxRecDepth 20000 in
set_option maxHeartbeats 4000000 in
theorem ref16_Mend_c {L:List Nat} {w:World} {csP0:List Value} (d0:Buf) (HP0:Stb L w (fun w=>kBuf.r w csP0 d0)) {csP1:List Value} (d1:Arena) (HP1:Stb L w (fun w=>kArena.r w csP1 d1)) (d2:Int) (hL:Lt L w) {y:Buf} (h:ref16_Mend_raw d0 d1 d2 y) :
  Calls Tryz.prog 21 [.agg csP0.toArray,.agg csP1.toArray,.int .i64 d2].toArray w (Ret fun v w'=>Ext w w'∧∃ (cs90:List Value),v=.agg cs90.toArray∧Stb L w' (fun w=>kBuf.r w cs90 y)):=by
 obtain ⟨A1,c2,rfl,H3⟩:=kBuf_open HP0
 obtain ⟨A4,c5,A7,c8,rfl,H6,H9⟩:=kArena_open HP1
 unfold ref16_Mend_raw at h
 refine calls_ec Tryz.func21 rfl rfl rfl ?_
 refine ec_seq ?_
 refine ec_region ?_
 refine o_box (cs:=(cBuf d0 A1 c2)) rfl rfl rfl ?_
 intro b10 w10 e10 F10 B10
 have S10:=B10.stb (nin hL e10)
 have G11:Fr L w w10:=Fr.ext F10
 refine o_box (cs:=(cArena d1 A4 c5 A7 c8)) rfl rfl rfl ?_
 intro b12 w12 e12 F12 B12
 have S12:=B12.stb (nin (hL.fr F10) e12)
 have E13:=F10.trans F12
 have G15:Fr L w10 w12:=Fr.ext F12
 refine o_alloc zero_ouroborosref16_Buffer rfl rfl rfl ?_
 intro b16 w16 e16 F16 B16
 have n16:w.heap.size≤b16:=by rw [e16]; exact E13.size
 have m17:w.heap.size≤b16:=by rw [e16]; exact (G11.trans (Fr.ext F12)).size
 have E20:=E13.trans F16
 have G23:Fr L w12 w16:=Fr.ext F16
 refine eo_nil_sq ?_
 iterate 2 refine ec_seq ?_
 refine ec_region ?_
 refine o_w (v:=.agg (cBuf d0 A1 c2).toArray) (r_lda agg_ouroborosref16_Buffer rfl (vs:=(cBuf d0 A1 c2)) rfl ((S10.fr (G15.trans (Fr.ext F16)) (fun _ h=>h)).now.part (n:=3) rfl)) ?_
 refine o_w (v:=.agg (cArena d1 A4 c5 A7 c8).toArray) (r_lda agg_api_Arena rfl (vs:=(cArena d1 A4 c5 A7 c8)) rfl ((S12.fr G23 (fun _ h=>h)).now.part (n:=3) rfl)) ?_
 refine o_w (v:=.int .i64 d2) (r_mov rfl) ?_
 obtain ⟨x24,hx24,h⟩:=h
 refine o_call cf_ref16_Check rfl (ref16_Check_c d0 (kBuf_mk (d:=d0) (H3.up ((G11.trans (Fr.ext F12)).trans (Fr.ext F16)) (fun _ h=>h) (upc (.inr m17) (fun _ h=>.inl h)))) d1 (kArena_mk (d:=d1) (H6.up ((G11.trans (Fr.ext F12)).trans (Fr.ext F16)) (fun _ h=>h) (upc (.inr m17) (fun _ h=>.inl h))) (H9.up ((G11.trans (Fr.ext F12)).trans (Fr.ext F16)) (fun _ h=>h) (upc (.inr m17) (fun _ h=>.inl h)))) d2 ((hL.fr E20).cons B16.lt) hx24) rfl rfl ?_
 rintro _ w24 ⟨F24,rfl⟩
 have E25:=E20.trans F24
 refine eo_nil_sq ?_
 refine ec_cond rfl (fun hc30=>?_) (fun hc30=>?_)
 ·replace h:=h.1 hc30
  refine ec_seq ?_
  refine ec_region ?_
  refine o_w (v:=.agg (cBuf d0 A1 c2).toArray) (r_lda agg_ouroborosref16_Buffer rfl (vs:=(cBuf d0 A1 c2)) rfl ((S10.fr ((G15.trans (Fr.ext F16)).trans (Fr.ext F24)) (fun _ h=>h)).now.part (n:=3) rfl)) ?_
  refine o_store rfl (B16.ex F24) (vs:=(cBuf d0 A1 c2)) rfl sz_ouroborosref16_Buffer rfl rfl rfl ?_
  intro w31 F31 B31
  have E32:=Ext.st E25 F31 (by simp; omega)
  have G33:Fr L w w31:=(((G11.trans (Fr.ext F12)).trans (Fr.ext F16)).trans (Fr.ext F24)).stp F31 (upc (.inr m17) (fun m hm=>by cases hm))
  have B31':Blk w31 b16 _ (cBuf d0 A1 c2):=B31
  refine eo_nil_sq ?_
  refine ec_ret ?_
  refine sq_ret ?_
  replace h:=h.symm
  subst h
  exact (endr1 (rv_a rfl (agg_ouroborosref16_Buffer) B31' (vs:=(cBuf d0 A1 c2)) rfl rfl) ⟨_,rfl,E32,_,rfl,(kBuf_mk (d:=d0) (H3.fr G33 (fun _ h=>h)))⟩)
 ·replace h:=h.2 hc30
  refine ec_skip ?_
  refine sq_n ?_
  refine ec_seq ?_
  refine ec_region ?_
  refine o_w (v:=.agg (cBuf d0 A1 c2).toArray) (r_lda agg_ouroborosref16_Buffer rfl (vs:=(cBuf d0 A1 c2)) rfl ((S10.fr ((G15.trans (Fr.ext F16)).trans (Fr.ext F24)) (fun _ h=>h)).now.part (n:=3) rfl)) ?_
  obtain ⟨x36,hx36,h⟩:=h
  refine o_call cf_ref16_Reset rfl (ref16_Reset_c d0 (kBuf_mk (d:=d0) (H3.up (((G11.trans (Fr.ext F12)).trans (Fr.ext F16)).trans (Fr.ext F24)) (fun _ h=>h) (upc (.inr m17) (fun _ h=>.inl h)))) ((hL.fr E25).cons (B16.ex F24).lt) hx36) rfl rfl ?_
  rintro _ w36 ⟨F36,cs37,rfl,H38⟩
  have E39:=E25.trans F36
  obtain ⟨A44,c45,rfl,H46⟩:=kBuf_open H38
  refine o_store rfl ((B16.ex F24).ex F36) (vs:=(cBuf x36 A44 c45)) rfl sz_ouroborosref16_Buffer rfl rfl rfl ?_
  intro w47 F47 B47
  have E48:=Ext.st E39 F47 (by simp; omega)
  have G52:Fr (b16::L) w36 w47:=(Fr.refl _ _).stp F47 (upc (.inl (List.Mem.head _)) (fun m hm=>by cases hm))
  have B47':Blk w47 b16 _ (cBuf x36 A44 c45):=B47
  refine eo_nil_sq ?_
  refine ec_ret ?_
  replace h:=h.symm
  subst h
  exact (endr1 (rv_a rfl (agg_ouroborosref16_Buffer) B47' (vs:=(cBuf x36 A44 c45)) rfl rfl) ⟨_,rfl,E48,_,rfl,(kBuf_mk (d:=x36) (H46.up G52 (fun _ h=>h) (fun m hm=>Or.inl (List.Mem.tail _ hm))))⟩)
def ref16_Same_b14 (d0:Buf) (d1:Buf) (s14:Int) (z14:(Int) ⊕ ((Int) ⊕ (Bool))):Prop :=
 ((decide (s14<(d0.names.length:Int)))=true→((0≤s14∧s14<(d0.names.length:Int))∧((0≤s14∧s14<(d1.names.length:Int))∧(((!((((nth d0.names s14).kind)==((nth d1.names s14).kind))&&((((nth d0.names s14).key)==((nth d1.names s14).key))&&true)))=true→(z14=.inr (.inr false)))∧((!((((nth d0.names s14).kind)==((nth d1.names s14).kind))&&((((nth d0.names s14).key)==((nth d1.names s14).key))&&true)))=false→(z14=.inl (IntKind.i64.wrap (s14 + (1:Int)))))))))∧((decide (s14<(d0.names.length:Int)))=false→(z14=.inr (.inl s14)))
def ref16_Same_raw (d0:Buf) (d1:Buf) (y:Bool):Prop :=
 ((((d0.epoch != d1.epoch)||(d0.first != d1.first))||((d0.names.length:Int) != (d1.names.length:Int)))=true→(y=false))∧((((d0.epoch != d1.epoch)||(d0.first != d1.first))||((d0.names.length:Int) != (d1.names.length:Int)))=false→(∃ x14,LoopR (ref16_Same_b14 d0 d1) (0:Int) x14∧(∀ sx14,x14=.inl sx14→(y=true))∧(∀ y14,x14=.inr y14→(y=y14))))
set_option maxRecDepth 20000 in
set_option maxHeartbeats 4000000 in
theorem ref16_Same_c {L:List Nat} {w:World} {csP0:List Value} (d0:Buf) (HP0:Stb L w (fun w=>kBuf.r w csP0 d0)) {csP1:List Value} (d1:Buf) (HP1:Stb L w (fun w=>kBuf.r w csP1 d1)) (hL:Lt L w) {y:Bool} (h:ref16_Same_raw d0 d1 y) :
  Calls Tryz.prog 14 [.agg csP0.toArray,.agg csP1.toArray].toArray w (Ret fun v w'=>Ext w w'∧v=.bool y):=by
 obtain ⟨A1,c2,rfl,H3⟩:=kBuf_open HP0
 obtain ⟨A4,c5,rfl,H6⟩:=kBuf_open HP1
 unfold ref16_Same_raw at h
 refine calls_ec Tryz.func14 rfl rfl rfl ?_
 refine ec_seq ?_
 refine ec_region ?_
 refine o_box (cs:=(cBuf d0 A1 c2)) rfl rfl rfl ?_
 intro b7 w7 e7 F7 B7
 have S7:=B7.stb (nin hL e7)
 have G8:Fr L w w7:=Fr.ext F7
 refine o_box (cs:=(cBuf d1 A4 c5)) rfl rfl rfl ?_
 intro b9 w9 e9 F9 B9
 have S9:=B9.stb (nin (hL.fr F7) e9)
 have E10:=F7.trans F9
 have G12:Fr L w7 w9:=Fr.ext F9
 refine o_w (v:=.bool false) (r_asg rfl) ?_
 refine eo_nil_sq ?_
 iterate 2 refine ec_seq ?_
 refine ec_region ?_
 refine o_w (v:=.pointer (some ⟨b7,0,none⟩)) (r_fa fld_ouroborosref16_Buffer_0 rfl rfl) ?_
 refine o_w (v:=.int .i64 d0.epoch) (r_ld one_int rfl ((S7.fr G12 (fun _ h=>h)).now.cell rfl)) ?_
 refine o_w (v:=.pointer (some ⟨b9,0,none⟩)) (r_fa fld_ouroborosref16_Buffer_0 rfl rfl) ?_
 refine o_w (v:=.int .i64 d1.epoch) (r_ld one_int rfl (S9.now.cell rfl)) ?_
 refine o_w (v:=.bool (d0.epoch != d1.epoch)) (r_int rfl rfl rfl) ?_
 refine o_w (v:=.bool (d0.epoch != d1.epoch)) (r_mov rfl) ?_
 refine o_vg (v:=.pointer (some ⟨b7,1,none⟩)) (want_cf (t:=11) rfl rfl) (fun hk=>(r_fa fld_ouroborosref16_Buffer_1 rfl rfl)) rfl rfl ?_
 refine o_vg (v:=.int .i64 d0.first) (want_cf (t:=11) rfl rfl) (fun hk=>(r_ld one_int (gdT hk) ((S7.fr G12 (fun _ h=>h)).now.cell rfl))) rfl rfl ?_
 refine o_vg (v:=.pointer (some ⟨b9,1,none⟩)) (want_cf (t:=11) rfl rfl) (fun hk=>(r_fa fld_ouroborosref16_Buffer_1 rfl rfl)) rfl rfl ?_
 refine o_vg (v:=.int .i64 d1.first) (want_cf (t:=11) rfl rfl) (fun hk=>(r_ld one_int (gdT hk) (S9.now.cell rfl))) rfl rfl ?_
 refine o_vg (v:=.bool (d0.first != d1.first)) (want_cf (t:=11) rfl rfl) (fun hk=>(r_int (gdT hk) (gdT hk) rfl)) rfl rfl ?_
 refine o_w (v:=.bool ((d0.epoch != d1.epoch)||(d0.first != d1.first))) (r_pickOr rfl rfl (fun hf=>(gdT (notT hf)))) ?_
 refine o_w (v:=.bool ((d0.epoch != d1.epoch)||(d0.first != d1.first))) (r_mov rfl) ?_
 refine o_vg (v:=.pointer (some ⟨b7,2,none⟩)) (want_cf (t:=18) rfl rfl) (fun hk=>(r_fa fld_ouroborosref16_Buffer_2 rfl rfl)) rfl rfl ?_
 refine o_vg (v:=.slice A1 d0.names.length c2) (want_cf (t:=18) rfl rfl) (fun hk=>(r_ld one_s_ouroborosref16_Name (gdT hk) ((S7.fr G12 (fun _ h=>h)).now.cell rfl))) rfl rfl ?_
 refine o_vg (v:=.int .i64 (d0.names.length:Int)) (want_cf (t:=18) rfl rfl) (fun hk=>(r_len_slc un_s_ouroborosref16_Name (gdT hk))) rfl rfl ?_
 refine o_vg (v:=.pointer (some ⟨b9,2,none⟩)) (want_cf (t:=18) rfl rfl) (fun hk=>(r_fa fld_ouroborosref16_Buffer_2 rfl rfl)) rfl rfl ?_
 refine o_vg (v:=.slice A4 d1.names.length c5) (want_cf (t:=18) rfl rfl) (fun hk=>(r_ld one_s_ouroborosref16_Name (gdT hk) (S9.now.cell rfl))) rfl rfl ?_
 refine o_vg (v:=.int .i64 (d1.names.length:Int)) (want_cf (t:=18) rfl rfl) (fun hk=>(r_len_slc un_s_ouroborosref16_Name (gdT hk))) rfl rfl ?_
 refine o_vg (v:=.bool ((d0.names.length:Int) != (d1.names.length:Int))) (want_cf (t:=18) rfl rfl) (fun hk=>(r_int (gdT hk) (gdT hk) rfl)) rfl rfl ?_
 refine o_w (v:=.bool (((d0.epoch != d1.epoch)||(d0.first != d1.first))||((d0.names.length:Int) != (d1.names.length:Int)))) (r_pickOr rfl rfl (fun hf=>(gdT (notT hf)))) ?_
 refine eo_nil_sq ?_
 refine ec_cond rfl (fun hc13=>?_) (fun hc13=>?_)
 ·replace h:=h.1 hc13
  refine ec_seq ?_
  refine ec_region ?_
  refine o_w (v:=.bool false) (r_asg rfl) ?_
  refine eo_nil_sq ?_
  refine ec_ret ?_
  refine sq_ret ?_
  subst h
  exact (end1 rfl ⟨_,rfl,E10,rfl⟩)
 ·replace h:=h.2 hc13
  refine ec_skip ?_
  refine sq_n ?_
  iterate 2 refine ec_seq ?_
  refine ec_region ?_
  refine o_w (v:=.int .i64 (0:Int)) (r_asg rfl) ?_
  refine eo_nil_sq ?_
  refine ec_block ?_
  obtain ⟨x14,hl14,h⟩:=h
  refine ec_loopER 0 (I:=(fun (s14:Int) ρ ds w'=>∃ (ρ':Env),ρ=envs ρ' [(5,.int .i64 s14),(2,.pointer (some ⟨b7,0,none⟩)),(3,.pointer (some ⟨b9,0,none⟩))]∧ds=[]∧Fr L w9 w'∧Ext w w')) (J:=(fun (y':Bool) ρ ds wz=>bodyE Tryz.prog #[.tmp 4] (Ret fun v w'=>Ext w w'∧v=.bool y') .ret ρ ds wz)) ?_ hl14 ?_ ?_ ?_
  ·intro s14 z14 ρ14 ds14 w14r hI14 hb14
   obtain ⟨ρ14r,rfl,rfl,F14r,E14r⟩:=hI14
   have h:=hb14
   unfold ref16_Same_b14 at h
   have G15:Fr L w w14r:=(G8.trans (Fr.ext F9)).stp F14r (fun _ h=>.inl h)
   have G16:Fr L w7 w14r:=G12.stp F14r (fun _ h=>.inl h)
   have G17:Fr L w9 w14r:=(Fr.refl _ _).stp F14r (fun _ h=>.inl h)
   iterate 2 refine ec_seq ?_
   refine ec_region ?_
   refine o_w (v:=.int .i64 s14) (r_mov rfl) ?_
   refine o_w (v:=.pointer (some ⟨b7,2,none⟩)) (r_fa fld_ouroborosref16_Buffer_2 rfl rfl) ?_
   refine o_w (v:=.slice A1 d0.names.length c2) (r_ld one_s_ouroborosref16_Name rfl ((S7.fr G16 (fun _ h=>h)).now.cell rfl)) ?_
   refine o_w (v:=.int .i64 (d0.names.length:Int)) (r_len_slc un_s_ouroborosref16_Name rfl) ?_
   refine o_w (v:=.bool (decide (s14<(d0.names.length:Int)))) (r_int rfl rfl rfl) ?_
   refine eo_nil_sq ?_
   refine ec_cond rfl (fun hc18=>?_) (fun hc18=>?_)
   ·replace h:=h.1 hc18
    refine ec_skip ?_
    refine sq_n ?_
    refine ec_seq ?_
    refine ec_block ?_
    refine ec_seq ?_
    obtain ⟨ha30,h⟩:=h
    obtain ⟨cs31,l33,H32⟩:=Stb.elem (by decide) (H3.fr G15 (fun _ h=>h)) s14 ha30.1 ha30.2
    obtain ⟨rfl,H34⟩:=kNm_open2 H32
    obtain ⟨ha35,h⟩:=h
    obtain ⟨cs36,l38,H37⟩:=Stb.elem (by decide) (H6.fr G15 (fun _ h=>h)) s14 ha35.1 ha35.2
    obtain ⟨rfl,H39⟩:=kNm_open2 H37
    refine ec_any0 (by kernel_rfl) [[],[0],[],[0,1,2],[0,1,2,3],[],[5],[],[5,6,7],[5,6,7,8],[0,1,2,3,4,5,6,7,8,9]] [34,35,36,37,38,39,40,41,42,43,44] [fun v _=>v=(.pointer (some ⟨b7,2,none⟩):Value),fun v _=>v=(.slice A1 d0.names.length c2:Value),fun v _=>v=(.int .i64 s14:Value),fun v _=>v=(.pointer (some (elemA A1 kNm.n s14.toNat)):Value),fun v _=>v=(.agg (cNm (nth d0.names s14)).toArray:Value),fun v _=>v=(.pointer (some ⟨b9,2,none⟩):Value),fun v _=>v=(.slice A4 d1.names.length c5:Value),fun v _=>v=(.int .i64 s14:Value),fun v _=>v=(.pointer (some (elemA A4 kNm.n s14.toNat)):Value),fun v _=>v=(.agg (cNm (nth d1.names s14)).toArray:Value),fun v _=>v=(.bool (!((((nth d0.names s14).kind)==((nth d1.names s14).kind))&&((((nth d0.names s14).key)==((nth d1.names s14).key))&&true))):Value)] (by kernel_rfl) ⟨fun _ _ _ _ _ h=>h,fun _ _ _ _ _ h=>h,fun _ _ _ _ _ h=>h,fun _ _ _ _ _ h=>h,fun _ _ _ _ _ h=>h,fun _ _ _ _ _ h=>h,fun _ _ _ _ _ h=>h,fun _ _ _ _ _ h=>h,fun _ _ _ _ _ h=>h,fun _ _ _ _ _ h=>h,fun _ _ _ _ _ h=>h,trivial⟩ ?_ ?_
    ·refine ⟨?_,?_,?_,?_,?_,?_,?_,?_,?_,?_,?_,trivial⟩
     ·intro ρ w29o F29o hS hρ
      have q2:ρ 2=.pointer (some ⟨b7,0,none⟩):=hρ 2 (by kernel_rfl)
      exact o_q (r_fa fld_ouroborosref16_Buffer_2 rfl q2) ⟨Fr.refl _ _,rfl⟩
     ·intro ρ w29o F29o hS hρ
      have q34:ρ 34=.pointer (some ⟨b7,2,none⟩):=hS 0 (by decide) 34 rfl
      exact o_q (r_ld one_s_ouroborosref16_Name q34 ((S7.fr (G16.trans (Fr.ext F29o)) (fun _ h=>h)).now.cell rfl)) ⟨Fr.refl _ _,rfl⟩
     ·intro ρ w29o F29o hS hρ
      have q5:ρ 5=.int .i64 s14:=hρ 5 (by kernel_rfl)
      exact o_q (r_mov q5) ⟨Fr.refl _ _,rfl⟩
     ·intro ρ w29o F29o hS hρ
      have q35:ρ 35=.slice A1 d0.names.length c2:=hS 1 (by decide) 35 rfl
      have q36:ρ 36=.int .i64 s14:=hS 2 (by decide) 36 rfl
      exact o_q (r_ia slc_s_ouroborosref16_Name q35 q36 ((H3.fr (G15.trans (Fr.ext F29o)) (fun _ h=>h)).now.2 _ (lt_toNat ha30.1 ha30.2)).1 ha30.1 ha30.2) ⟨Fr.refl _ _,rfl⟩
     ·intro ρ w29o F29o hS hρ
      have G57:Fr L w14r w29o:=Fr.ext F29o
      have q37:ρ 37=.pointer (some (elemA A1 kNm.n s14.toNat)):=hS 3 (by decide) 37 rfl
      exact o_q (r_lda' agg_ouroborosref16_Name q37 (elemA_spot _ _ _) (vs:=(cNm (nth d0.names s14))) rfl ((H34.fr G57 (fun _ h=>h)).now.1)) ⟨Fr.refl _ _,rfl⟩
     ·intro ρ w29o F29o hS hρ
      have q3:ρ 3=.pointer (some ⟨b9,0,none⟩):=hρ 3 (by kernel_rfl)
      exact o_q (r_fa fld_ouroborosref16_Buffer_2 rfl q3) ⟨Fr.refl _ _,rfl⟩
     ·intro ρ w29o F29o hS hρ
      have q39:ρ 39=.pointer (some ⟨b9,2,none⟩):=hS 5 (by decide) 39 rfl
      exact o_q (r_ld one_s_ouroborosref16_Name q39 ((S9.fr (G17.trans (Fr.ext F29o)) (fun _ h=>h)).now.cell rfl)) ⟨Fr.refl _ _,rfl⟩
     ·intro ρ w29o F29o hS hρ
      have q5:ρ 5=.int .i64 s14:=hρ 5 (by kernel_rfl)
      exact o_q (r_mov q5) ⟨Fr.refl _ _,rfl⟩
     ·intro ρ w29o F29o hS hρ
      have q40:ρ 40=.slice A4 d1.names.length c5:=hS 6 (by decide) 40 rfl
      have q41:ρ 41=.int .i64 s14:=hS 7 (by decide) 41 rfl
      exact o_q (r_ia slc_s_ouroborosref16_Name q40 q41 ((H6.fr (G15.trans (Fr.ext F29o)) (fun _ h=>h)).now.2 _ (lt_toNat ha35.1 ha35.2)).1 ha35.1 ha35.2) ⟨Fr.refl _ _,rfl⟩
     ·intro ρ w29o F29o hS hρ
      have G75:Fr L w14r w29o:=Fr.ext F29o
      have q42:ρ 42=.pointer (some (elemA A4 kNm.n s14.toNat)):=hS 8 (by decide) 42 rfl
      exact o_q (r_lda' agg_ouroborosref16_Name q42 (elemA_spot _ _ _) (vs:=(cNm (nth d1.names s14))) rfl ((H39.fr G75 (fun _ h=>h)).now.1)) ⟨Fr.refl _ _,rfl⟩
     ·intro ρ w29o F29o hS hρ
      have q38:ρ 38=.agg (cNm (nth d0.names s14)).toArray:=hS 4 (by decide) 38 rfl
      have q43:ρ 43=.agg (cNm (nth d1.names s14)).toArray:=hS 9 (by decide) 43 rfl
      exact o_q (r_neSt eqg_ouroborosref16_Name (eqs_ouroborosref16_Name ((nth d0.names s14).kind) ((nth d0.names s14).key) ((nth d1.names s14).kind) ((nth d1.names s14).key)) q38 q43) ⟨Fr.refl _ _,rfl⟩
    ·intro ρ w29 F29 hS hρ
     have q44:ρ 44=.bool (!((((nth d0.names s14).kind)==((nth d1.names s14).kind))&&((((nth d0.names s14).key)==((nth d1.names s14).key))&&true))):=hS 10 44 rfl
     obtain ⟨ρ',rfl⟩:∃ ρ',ρ=envs (ovr [34,35,36,37,38,39,40,41,42,43,44] ρ' _) [(44,.bool (!((((nth d0.names s14).kind)==((nth d1.names s14).kind))&&((((nth d0.names s14).key)==((nth d1.names s14).key))&&true))))]:=⟨ρ,ovr_self hρ ⟨q44,trivial⟩⟩
     have E76:=E14r.trans F29
     refine sq_n ?_
     refine ec_cond rfl (fun hc82=>?_) (fun hc82=>?_)
     ·replace h:=h.1 hc82
      refine ec_seq ?_
      refine ec_region ?_
      refine o_w (v:=.bool false) (r_asg rfl) ?_
      refine eo_nil_sq ?_
      refine ec_ret ?_
      refine blk_ret ?_
      refine sq_ret ?_
      subst h
      exact lqR_r (end1 rfl ⟨_,rfl,E76,rfl⟩)
     ·replace h:=h.2 hc82
      refine ec_skip ?_
      refine blk_n ?_
      refine sq_n ?_
      refine ec_region ?_
      refine o_w (v:=.int .i64 s14) (r_mov rfl) ?_
      refine o_w (v:=.int .i64 (IntKind.i64.wrap (s14 + (1:Int)))) (r_int rfl rfl rfl) ?_
      refine o_w (v:=.int .i64 (IntKind.i64.wrap (s14 + (1:Int)))) (r_asg rfl) ?_
      refine eo_nil ?_
      subst h
      exact lqR_n ⟨_,envs_self ⟨rfl,rfl,rfl,trivial⟩,rfl,(F14r.trans (Fr.ext F29)),E76⟩
   ·replace h:=h.2 hc18
    refine ec_exit ?_
    refine sq_exit ?_
    subst h
    exact lqR_x ⟨_,envs_self ⟨rfl,rfl,rfl,trivial⟩,rfl,F14r,E14r⟩
  ·exact ⟨_,envs_self ⟨rfl,rfl,rfl,trivial⟩,rfl,(Fr.refl _ _),E10⟩
  ·rintro sx14 rfl ρ14e ds14e w14e ⟨ρ14e,rfl,rfl,F14e,E14e⟩
   replace h:=h.1 _ rfl
   refine blk_hit ?_
   refine sq_n ?_
   refine ec_seq ?_
   refine ec_region ?_
   refine o_w (v:=.bool true) (r_asg rfl) ?_
   refine eo_nil_sq ?_
   refine ec_ret ?_
   subst h
   exact (end1 rfl ⟨_,rfl,E14e,rfl⟩)
  ·rintro y14 rfl ρ14q ds14q w14q hJ
   have hy:=h.2 _ rfl
   subst hy
   refine blk_ret ?_
   refine sq_ret ?_
   exact hJ
def law16_Few_b6 (d0:Buf) (s6:Int) (z6:(Int) ⊕ ((Int) ⊕ (Bool))):Prop :=
 (((decide (s6<(d0.names.length:Int)))&&(decide (s6≤(20:Int))))=true→((0≤s6∧s6<(d0.names.length:Int))∧(((decide ((100:Int)<(((nth d0.names s6).key).length:Int)))=true→(z6=.inr (.inr false)))∧((decide ((100:Int)<(((nth d0.names s6).key).length:Int)))=false→(z6=.inl (IntKind.i64.wrap (s6 + (1:Int))))))))∧(((decide (s6<(d0.names.length:Int)))&&(decide (s6≤(20:Int))))=false→(z6=.inr (.inl s6)))
def law16_Few_raw (d0:Buf) (y:Bool):Prop :=
 ∃ x6,LoopR (law16_Few_b6 d0) (0:Int) x6∧(∀ sx6,x6=.inl sx6→(y=(decide ((d0.names.length:Int)≤(20:Int)))))∧(∀ y6,x6=.inr y6→(y=y6))
set_option maxRecDepth 20000 in
set_option maxHeartbeats 4000000 in
theorem law16_Few_c {L:List Nat} {w:World} {csP0:List Value} (d0:Buf) (HP0:Stb L w (fun w=>kBuf.r w csP0 d0)) (hL:Lt L w) {y:Bool} (h:law16_Few_raw d0 y) :
  Calls Tryz.prog 5 [.agg csP0.toArray].toArray w (Ret fun v w'=>Ext w w'∧v=.bool y):=by
 obtain ⟨A1,c2,rfl,H3⟩:=kBuf_open HP0
 unfold law16_Few_raw at h
 refine calls_ec Tryz.func5 rfl rfl rfl ?_
 refine ec_seq ?_
 refine ec_region ?_
 refine o_box (cs:=(cBuf d0 A1 c2)) rfl rfl rfl ?_
 intro b4 w4 e4 F4 B4
 have S4:=B4.stb (nin hL e4)
 have G5:Fr L w w4:=Fr.ext F4
 refine o_w (v:=.bool false) (r_asg rfl) ?_
 refine eo_nil_sq ?_
 iterate 2 refine ec_seq ?_
 refine ec_region ?_
 refine o_w (v:=.int .i64 (0:Int)) (r_asg rfl) ?_
 refine eo_nil_sq ?_
 refine ec_block ?_
 obtain ⟨x6,hl6,h⟩:=h
 refine ec_loopER 0 (I:=(fun (s6:Int) ρ ds w'=>∃ (ρ':Env),ρ=envs ρ' [(3,.int .i64 s6),(1,.pointer (some ⟨b4,0,none⟩))]∧ds=[]∧Fr L w4 w'∧Ext w w')) (J:=(fun (y':Bool) ρ ds wz=>bodyE Tryz.prog #[.tmp 2] (Ret fun v w'=>Ext w w'∧v=.bool y') .ret ρ ds wz)) ?_ hl6 ?_ ?_ ?_
 ·intro s6 z6 ρ6 ds6 w6r hI6 hb6
  obtain ⟨ρ6r,rfl,rfl,F6r,E6r⟩:=hI6
  have h:=hb6
  unfold law16_Few_b6 at h
  have G7:Fr L w w6r:=G5.stp F6r (fun _ h=>.inl h)
  have G8:Fr L w4 w6r:=(Fr.refl _ _).stp F6r (fun _ h=>.inl h)
  iterate 2 refine ec_seq ?_
  refine ec_region ?_
  refine o_w (v:=.int .i64 s6) (r_mov rfl) ?_
  refine o_w (v:=.pointer (some ⟨b4,2,none⟩)) (r_fa fld_buffer_Buffer_2 rfl rfl) ?_
  refine o_w (v:=.slice A1 d0.names.length c2) (r_ld one_s_buffer_Name rfl ((S4.fr G8 (fun _ h=>h)).now.cell rfl)) ?_
  refine o_w (v:=.int .i64 (d0.names.length:Int)) (r_len_slc un_s_buffer_Name rfl) ?_
  refine o_w (v:=.bool (decide (s6<(d0.names.length:Int)))) (r_int rfl rfl rfl) ?_
  refine o_w (v:=.bool (decide (s6<(d0.names.length:Int)))) (r_mov rfl) ?_
  refine o_vg (v:=.int .i64 s6) (want_ct (t:=9) rfl rfl) (fun hk=>(r_mov rfl)) rfl rfl ?_
  refine o_vg (v:=.bool (decide (s6≤(20:Int)))) (want_ct (t:=9) rfl rfl) (fun hk=>(r_int (gdT hk) rfl rfl)) rfl rfl ?_
  refine o_w (v:=.bool ((decide (s6<(d0.names.length:Int)))&&(decide (s6≤(20:Int))))) (r_pickAnd rfl (fun ht=>(gdT ht)) rfl) ?_
  refine eo_nil_sq ?_
  refine ec_cond rfl (fun hc9=>?_) (fun hc9=>?_)
  ·replace h:=h.1 hc9
   refine ec_skip ?_
   refine sq_n ?_
   refine ec_seq ?_
   refine ec_block ?_
   refine ec_seq ?_
   refine ec_region ?_
   refine o_w (v:=.pointer (some ⟨b4,2,none⟩)) (r_fa fld_buffer_Buffer_2 rfl rfl) ?_
   refine o_w (v:=.slice A1 d0.names.length c2) (r_ld one_s_buffer_Name rfl ((S4.fr G8 (fun _ h=>h)).now.cell rfl)) ?_
   refine o_w (v:=.int .i64 s6) (r_mov rfl) ?_
   obtain ⟨ha10,h⟩:=h
   obtain ⟨cs11,l13,H12⟩:=Stb.elem (by decide) (H3.fr G7 (fun _ h=>h)) s6 ha10.1 ha10.2
   obtain ⟨rfl,H14⟩:=kNm_open2 H12
   refine o_w (v:=.pointer (some (elemA A1 kNm.n s6.toNat))) (r_ia slc_s_buffer_Name rfl rfl ((H3.fr G7 (fun _ h=>h)).now.2 _ (lt_toNat ha10.1 ha10.2)).1 ha10.1 ha10.2) ?_
   refine o_w (v:=.pointer (some (ad (elemA A1 kNm.n s6.toNat) 1))) (r_fad fld_buffer_Name_1 (elemA_spot _ _ _) rfl) ?_
   refine o_w (v:=str ((nth d0.names s6).key)) (r_ld' one_string rfl rfl (H14.now.1.at (j:=1) rfl)) ?_
   refine o_w (v:=.int .i64 (((nth d0.names s6).key).length:Int)) (r_len_str un_string rfl) ?_
   refine o_w (v:=.bool (decide ((100:Int)<(((nth d0.names s6).key).length:Int)))) (r_int rfl rfl rfl) ?_
   refine eo_nil_sq ?_
   refine ec_cond rfl (fun hc15=>?_) (fun hc15=>?_)
   ·replace h:=h.1 hc15
    refine ec_seq ?_
    refine ec_region ?_
    refine o_w (v:=.bool false) (r_asg rfl) ?_
    refine eo_nil_sq ?_
    refine ec_ret ?_
    refine blk_ret ?_
    refine sq_ret ?_
    subst h
    exact lqR_r (end1 rfl ⟨_,rfl,E6r,rfl⟩)
   ·replace h:=h.2 hc15
    refine ec_skip ?_
    refine blk_n ?_
    refine sq_n ?_
    refine ec_region ?_
    refine o_w (v:=.int .i64 s6) (r_mov rfl) ?_
    refine o_w (v:=.int .i64 (IntKind.i64.wrap (s6 + (1:Int)))) (r_int rfl rfl rfl) ?_
    refine o_w (v:=.int .i64 (IntKind.i64.wrap (s6 + (1:Int)))) (r_asg rfl) ?_
    refine eo_nil ?_
    subst h
    exact lqR_n ⟨_,envs_self ⟨rfl,rfl,trivial⟩,rfl,F6r,E6r⟩
  ·replace h:=h.2 hc9
   refine ec_exit ?_
   refine sq_exit ?_
   subst h
   exact lqR_x ⟨_,envs_self ⟨rfl,rfl,trivial⟩,rfl,F6r,E6r⟩
 ·exact ⟨_,envs_self ⟨rfl,rfl,trivial⟩,rfl,(Fr.refl _ _),F4⟩
 ·rintro sx6 rfl ρ6e ds6e w6e ⟨ρ6e,rfl,rfl,F6e,E6e⟩
  replace h:=h.1 _ rfl
  have G17:Fr L w4 w6e:=(Fr.refl _ _).stp F6e (fun _ h=>.inl h)
  refine blk_hit ?_
  refine sq_n ?_
  refine ec_seq ?_
  refine ec_region ?_
  refine o_w (v:=.pointer (some ⟨b4,2,none⟩)) (r_fa fld_buffer_Buffer_2 rfl rfl) ?_
  refine o_w (v:=.slice A1 d0.names.length c2) (r_ld one_s_buffer_Name rfl ((S4.fr G17 (fun _ h=>h)).now.cell rfl)) ?_
  refine o_w (v:=.int .i64 (d0.names.length:Int)) (r_len_slc un_s_buffer_Name rfl) ?_
  refine o_w (v:=.bool (decide ((d0.names.length:Int)≤(20:Int)))) (r_int rfl rfl rfl) ?_
  refine o_w (v:=.bool (decide ((d0.names.length:Int)≤(20:Int)))) (r_asg rfl) ?_
  refine eo_nil_sq ?_
  refine ec_ret ?_
  subst h
  exact (end1 rfl ⟨_,rfl,E6e,rfl⟩)
 ·rintro y6 rfl ρ6q ds6q w6q hJ
  have hy:=h.2 _ rfl
  subst hy
  refine blk_ret ?_
  refine sq_ret ?_
  exact hJ
def law16_Of_b25 (d0:Buf) (s25:Int × List Nm) (z25:(Int × List Nm) ⊕ (Int × List Nm)):Prop :=
 ((decide (s25.1<(d0.names.length:Int)))=true→((0≤s25.1∧s25.1<(d0.names.length:Int))∧((0≤s25.1∧s25.1<(d0.names.length:Int))∧((s25.2.length + 1≤9223372036854775807∧(s25.2.length + 1) * 24≤140737488355328)∧(z25=.inl ((IntKind.i64.wrap (s25.1 + (1:Int))),(s25.2++([(nth d0.names s25.1)]:List Nm))))))))∧((decide (s25.1<(d0.names.length:Int)))=false→(z25=.inr (s25.1,s25.2)))
def law16_Of_raw (d0:Buf) (y:Buf):Prop :=
 ∃ x25,LoopR (law16_Of_b25 d0) ((0:Int),([]:List Nm)) x25∧(y=(⟨d0.epoch,d0.first,x25.2⟩:Buf))
set_option maxRecDepth 20000 in
set_option maxHeartbeats 4000000 in
theorem law16_Of_c {L:List Nat} {w:World} {csP0:List Value} (d0:Buf) (HP0:Stb L w (fun w=>kBuf.r w csP0 d0)) (hL:Lt L w) {y:Buf} (h:law16_Of_raw d0 y) :
  Calls Tryz.prog 10 [.agg csP0.toArray].toArray w (Ret fun v w'=>Ext w w'∧∃ (cs90:List Value),v=.agg cs90.toArray∧Stb L w' (fun w=>kBuf.r w cs90 y)):=by
 obtain ⟨A1,c2,rfl,H3⟩:=kBuf_open HP0
 unfold law16_Of_raw at h
 refine calls_ec Tryz.func10 rfl rfl rfl ?_
 refine ec_seq ?_
 refine ec_region ?_
 refine o_box (cs:=(cBuf d0 A1 c2)) rfl rfl rfl ?_
 intro b4 w4 e4 F4 B4
 have S4:=B4.stb (nin hL e4)
 have G5:Fr L w w4:=Fr.ext F4
 refine o_alloc zero_ouroborosref16_Buffer rfl rfl rfl ?_
 intro b6 w6 e6 F6 B6
 have n6:w.heap.size≤b6:=by rw [e6]; exact F4.size
 have m7:w.heap.size≤b6:=by rw [e6]; exact G5.size
 have m8:w4.heap.size≤b6:=Nat.le_of_eq e6.symm
 have E9:=F4.trans F6
 have G11:Fr L w4 w6:=Fr.ext F6
 refine eo_nil_sq ?_
 refine ec_seq ?_
 refine ec_region ?_
 refine o_w (v:=.pointer (some ⟨b4,0,none⟩)) (r_fa fld_buffer_Buffer_0 rfl rfl) ?_
 refine o_w (v:=.int .i64 d0.epoch) (r_ld one_int rfl ((S4.fr G11 (fun _ h=>h)).now.cell rfl)) ?_
 refine o_w (v:=.pointer (some ⟨b4,1,none⟩)) (r_fa fld_buffer_Buffer_1 rfl rfl) ?_
 refine o_w (v:=.int .i64 d0.first) (r_ld one_int rfl ((S4.fr G11 (fun _ h=>h)).now.cell rfl)) ?_
 refine o_w (v:=.agg #[.int .i64 d0.epoch,.int .i64 d0.first,.slice none ([]:List Nm).length 0]) (r_build bld_ouroborosref16_Buffer (vs:=[(0,.int .i64 d0.epoch),(1,.int .i64 d0.first)]) (cells:=[.int .i64 d0.epoch,.int .i64 d0.first,.slice none ([]:List Nm).length 0]) rfl rfl) ?_
 refine o_alloc zero_ouroborosref16_Buffer rfl rfl rfl ?_
 intro b12 w12 e12 F12 B12
 have n12:w.heap.size≤b12:=by rw [e12]; exact E9.size
 have q13:b6<b12:=by rw [e12]; exact B6.lt
 have m14:w.heap.size≤b12:=by rw [e12]; exact (G5.trans (Fr.ext F6)).size
 have m15:w4.heap.size≤b12:=by rw [e12]; exact G11.size
 have E16:=E9.trans F12
 refine o_store rfl B12 (vs:=[.int .i64 d0.epoch,.int .i64 d0.first,.slice none ([]:List Nm).length 0]) rfl sz_ouroborosref16_Buffer rfl rfl rfl ?_
 intro w20 F20 B20
 have E21:=Ext.st E16 F20 (by simp; omega)
 have G22:Fr L w w20:=((G5.trans (Fr.ext F6)).trans (Fr.ext F12)).stp F20 (upc (.inr m14) (fun m hm=>by cases hm))
 have G23:Fr L w4 w20:=(G11.trans (Fr.ext F12)).stp F20 (upc (.inr m15) (fun m hm=>by cases hm))
 have B24:=(B6.ex F12).fr F20 (by simp; omega)
 have B20':Blk w20 b12 _ [.int .i64 d0.epoch,.int .i64 d0.first,.slice none ([]:List Nm).length 0]:=B20
 refine eo_nil_sq ?_
 iterate 2 refine ec_seq ?_
 refine ec_region ?_
 refine o_w (v:=.int .i64 (0:Int)) (r_asg rfl) ?_
 refine eo_nil_sq ?_
 refine ec_block ?_
 have lo26:w.heap.size≤w20.heap.size:=E21.size
 have O26:=OwnS.nil (k:=kNm) (e:=65) (by decide) (((hL.fr E21).cons B24.lt).cons B20'.lt)
 obtain ⟨x25,hl25,h⟩:=h
 refine ec_loopE 0 (I:=(fun (s25:Int × List Nm) ρ ds w'=>∃ (ρ':Env) (v25i2:Value),ρ=envs ρ' [(4,.int .i64 s25.1),(1,.pointer (some ⟨b4,0,none⟩)),(2,.pointer (some ⟨b6,0,none⟩)),(3,.pointer (some ⟨b12,0,none⟩))]∧ds=[]∧Fr (own (.slice none 0 0)++(b12::(b6::L))) w20 w'∧Ext w w'∧OwnS kNm (w20.heap.size) 65 (b12::(b6::L)) w' v25i2 s25.2∧(∀ q∈own v25i2,q∈(own (.slice none 0 0)++(b12::(b6::L)))∨w20.heap.size≤q)∧Blk w' b12 43 [.int .i64 d0.epoch,.int .i64 d0.first,v25i2]∧Blk w' b6 43 [.int .i64 (0:Int),.int .i64 (0:Int),.slice none ([]:List Nm).length 0])) ?_ hl25 ?_ ?_
 ·intro s25 z25 ρ25 ds25 w25r hI25 hb25
  obtain ⟨ρ25r,v25r2,rfl,rfl,F25r,E25r,O25r2,N25r2,B25rb12,B25rb6⟩:=hI25
  have h:=hb25
  unfold law16_Of_b25 at h
  have G27:Fr L w w25r:=G22.stp F25r (upo (fun m hm=>by cases hm) (upc (.inr m14) (upc (.inr m7) (fun _ h=>.inl h))))
  have G28:Fr L w4 w25r:=G23.stp F25r (upo (fun m hm=>by cases hm) (upc (.inr m15) (upc (.inr m8) (fun _ h=>.inl h))))
  have P29:∀ m∈own v25r2,m∈L∨w.heap.size≤m:=fun m hm=>(N25r2 m hm).elim (fun h=>(show ∀ m∈(own (.slice none 0 0)++(b12::(b6::L))),m∈L∨w.heap.size≤m from (upo (fun m hm=>by cases hm) (upc (.inr m14) (upc (.inr m7) (fun _ h=>.inl h))))) m h) (fun h=>.inr (Nat.le_trans (G22.size) h))
  iterate 2 refine ec_seq ?_
  refine ec_region ?_
  refine o_w (v:=.int .i64 s25.1) (r_mov rfl) ?_
  refine o_w (v:=.pointer (some ⟨b4,2,none⟩)) (r_fa fld_buffer_Buffer_2 rfl rfl) ?_
  refine o_w (v:=.slice A1 d0.names.length c2) (r_ld one_s_buffer_Name rfl ((S4.fr G28 (fun _ h=>h)).now.cell rfl)) ?_
  refine o_w (v:=.int .i64 (d0.names.length:Int)) (r_len_slc un_s_buffer_Name rfl) ?_
  refine o_w (v:=.bool (decide (s25.1<(d0.names.length:Int)))) (r_int rfl rfl rfl) ?_
  refine eo_nil_sq ?_
  refine ec_cond rfl (fun hc31=>?_) (fun hc31=>?_)
  ·replace h:=h.1 hc31
   refine ec_skip ?_
   refine sq_n ?_
   refine ec_seq ?_
   refine ec_block ?_
   obtain ⟨ha43,h⟩:=h
   obtain ⟨cs44,l46,H45⟩:=Stb.elem (by decide) (H3.up G27 (fun _ h=>h) (upo P29 (upc (.inr m14) (upc (.inr m7) (fun _ h=>.inl h))))) s25.1 ha43.1 ha43.2
   obtain ⟨rfl,H47⟩:=kNm_open2 H45
   obtain ⟨ha48,h⟩:=h
   obtain ⟨cs49,l51,H50⟩:=Stb.elem (by decide) (H3.up G27 (fun _ h=>h) (upo P29 (upc (.inr m14) (upc (.inr m7) (fun _ h=>.inl h))))) s25.1 ha48.1 ha48.2
   obtain ⟨rfl,H52⟩:=kNm_open2 H50
   obtain ⟨ha53,h⟩:=h
   have qb42_b12:b12<w25r.heap.size:=B25rb12.lt
   refine ec_anyN (by kernel_rfl) [[],[0],[],[2],[],[2,3,4],[2,3,4,5],[2,3,4,5,6],[],[8],[],[8,9,10],[8,9,10,11],[8,9,10,11,12],[2,3,4,5,6,7,8,9,10,11,12,13],[2,3,4,5,6,7,8,9,10,11,12,13,14],[0,1,2,3,4,5,6,7,8,9,10,11,12,13,14,15],[0,1,2,3,4,5,6,7,8,9,10,11,12,13,14,15,16],[0,1,2,3,4,5,6,7,8,9,10,11,12,13,14,15,16,17]] [17,18,19,20,21,22,23,24,25,26,27,28,29,30,31,32,33,34] (own v25r2++(b12::[])) [16,18] [own v25r2,[b12]] [[16,17,18],[18]] [fun w'=>OwnS kNm (w20.heap.size) 65 (b12::(b6::L)) w' v25r2 s25.2∧Blk w' b12 43 [.int .i64 d0.epoch,.int .i64 d0.first,v25r2],fun w'=>Blk w' b12 43 [.int .i64 d0.epoch,.int .i64 d0.first,v25r2],fun w'=>∃ v42_16,OwnS kNm (w20.heap.size) 65 (b12::(b6::L)) w' v42_16 (s25.2++([(nth d0.names s25.1)]:List Nm))∧(∀ q∈own v42_16,q∈own v25r2∨w25r.heap.size≤q)∧Blk w' b12 43 [.int .i64 d0.epoch,.int .i64 d0.first,v42_16]] [fun v _=>v=(.pointer (some ⟨b12,2,none⟩):Value),fun v _=>v=(v25r2:Value),fun v _=>v=(.pointer (some ⟨b4,2,none⟩):Value),fun v _=>v=(.slice A1 d0.names.length c2:Value),fun v _=>v=(.int .i64 s25.1:Value),fun v _=>v=(.pointer (some (elemA A1 kNm.n s25.1.toNat)):Value),fun v _=>v=(.pointer (some (ad (elemA A1 kNm.n s25.1.toNat) 0)):Value),fun v _=>v=(.int .i64 ((nth d0.names s25.1).kind):Value),fun v _=>v=(.pointer (some ⟨b4,2,none⟩):Value),fun v _=>v=(.slice A1 d0.names.length c2:Value),fun v _=>v=(.int .i64 s25.1:Value),fun v _=>v=(.pointer (some (elemA A1 kNm.n s25.1.toNat)):Value),fun v _=>v=(.pointer (some (ad (elemA A1 kNm.n s25.1.toNat) 1)):Value),fun v _=>v=(str ((nth d0.names s25.1).key):Value),fun v _=>v=(.agg (cNm (nth d0.names s25.1)).toArray:Value),fun v w'=>∃ b42_15,v=(.slice (some ⟨b42_15,0,none⟩) 1 1:Value)∧Blk w' b42_15 65 [.int .i64 ((nth d0.names s25.1).kind),str ((nth d0.names s25.1).key)]∧w25r.heap.size≤b42_15,fun v w'=>∃ v42_16,v=(v42_16:Value)∧OwnS kNm (w20.heap.size) 65 (b12::(b6::L)) w' v42_16 (s25.2++([(nth d0.names s25.1)]:List Nm))∧(∀ q∈own v42_16,q∈own v25r2∨w25r.heap.size≤q),fun v _=>v=(.pointer (some ⟨b12,2,none⟩):Value),fun _ _=>True] (by kernel_rfl) (allM1 (fun m hm=>by first | exact hm | (simp at hm ⊢; simp [hm]; done) | simp_all) (allM1 (fun m hm=>by first | exact hm | (simp at hm ⊢; simp [hm]; done) | simp_all) (fun _ h=>by cases h))) ⟨fun _ _ _ _ _ h=>h,fun _ _ _ _ _ h=>h,fun _ _ _ _ _ h=>h,fun _ _ _ _ _ h=>h,fun _ _ _ _ _ h=>h,fun _ _ _ _ _ h=>h,fun _ _ _ _ _ h=>h,fun _ _ _ _ _ h=>h,fun _ _ _ _ _ h=>h,fun _ _ _ _ _ h=>h,fun _ _ _ _ _ h=>h,fun _ _ _ _ _ h=>h,fun _ _ _ _ _ h=>h,fun _ _ _ _ _ h=>h,fun _ _ _ _ _ h=>h,fun _ v w' w'' F h=>by obtain ⟨b42_15,hv,B42_15,qB42_15⟩:=h; exact ⟨b42_15,hv,(B42_15.ex F),qB42_15⟩,fun _ v w' w'' F h=>by obtain ⟨v42_16,hv,O42_16,NO42_16⟩:=h; exact ⟨v42_16,hv,(O42_16.ex F),NO42_16⟩,fun _ _ _ _ _ h=>h,fun _ _ _ _ _ h=>h,trivial⟩ ⟨⟨fun _ _ _ _ _ h=>h,fun _ _ _ _ _ h=>h,fun _ _ _ _ _ h=>h,fun _ _ _ _ _ h=>h,fun _ _ _ _ _ h=>h,fun _ _ _ _ _ h=>h,fun _ _ _ _ _ h=>h,fun _ _ _ _ _ h=>h,fun _ _ _ _ _ h=>h,fun _ _ _ _ _ h=>h,fun _ _ _ _ _ h=>h,fun _ _ _ _ _ h=>h,fun _ _ _ _ _ h=>h,fun _ _ _ _ _ h=>h,fun _ _ _ _ _ h=>h,fun _ v w' w'' F h=>by obtain ⟨b42_15,hv,B42_15,qB42_15⟩:=h; exact ⟨b42_15,hv,(B42_15.fr F (fun hm=>by have h1:=O25r2.ltw _ hm; omega)),qB42_15⟩,(fun h=>absurd h (by decide)),(fun h=>absurd h (by decide)),(fun h=>absurd h (by decide)),trivial⟩,⟨fun _ _ _ _ _ h=>h,fun _ _ _ _ _ h=>h,fun _ _ _ _ _ h=>h,fun _ _ _ _ _ h=>h,fun _ _ _ _ _ h=>h,fun _ _ _ _ _ h=>h,fun _ _ _ _ _ h=>h,fun _ _ _ _ _ h=>h,fun _ _ _ _ _ h=>h,fun _ _ _ _ _ h=>h,fun _ _ _ _ _ h=>h,fun _ _ _ _ _ h=>h,fun _ _ _ _ _ h=>h,fun _ _ _ _ _ h=>h,fun _ _ _ _ _ h=>h,fun _ v w' w'' F h=>by obtain ⟨b42_15,hv,B42_15,qB42_15⟩:=h; exact ⟨b42_15,hv,(B42_15.fr F (fun hm=>by simp at hm; omega)),qB42_15⟩,fun _ v w' w'' F h=>by obtain ⟨v42_16,hv,O42_16,NO42_16⟩:=h; exact ⟨v42_16,hv,(O42_16.fr F (by simp)),NO42_16⟩,fun _ _ _ _ _ h=>h,(fun h=>absurd h (by decide)),trivial⟩,trivial⟩ ⟨fun w' w'' F h=>by obtain ⟨hO42_26,hB42_b12⟩:=h; exact ⟨(hO42_26.ex F),(hB42_b12.ex F)⟩,fun w' w'' F h=>by have hB42_b12:=h; exact (hB42_b12.ex F),fun w' w'' F h=>by obtain ⟨v42_16,O42_16,NO42_16,hB42_b12⟩:=h; exact ⟨v42_16,(O42_16.ex F),NO42_16,(hB42_b12.ex F)⟩,trivial⟩ ⟨O25r2,B25rb12⟩ ?_ ?_ ?_
   ·refine ⟨?_,?_,?_,?_,?_,?_,?_,?_,?_,?_,?_,?_,?_,?_,?_,?_,?_,?_,?_,trivial⟩
    ·intro _ ρ w42o F42o hX hS hρ
     have F42o:=hX 16 rfl rfl
     have q3:ρ 3=.pointer (some ⟨b12,0,none⟩):=hρ 3 (by kernel_rfl)
     exact o_q (r_fa fld_ouroborosref16_Buffer_2 rfl q3) ⟨Fr.refl _ _,rfl⟩
    ·intro _ ρ w42o F42o hX hS hρ
     have F42o:=hX 16 rfl rfl
     have q17:ρ 17=.pointer (some ⟨b12,2,none⟩):=hS 0 (by decide) 17 rfl
     exact o_q (r_ld one_s_ouroborosref16_Name q17 ((B25rb12.ex F42o).cell rfl)) ⟨Fr.refl _ _,rfl⟩
    ·intro _ ρ w42o F42o hX hS hρ
     have F42o:=hX 16 rfl rfl
     have q1:ρ 1=.pointer (some ⟨b4,0,none⟩):=hρ 1 (by kernel_rfl)
     exact o_q (r_fa fld_buffer_Buffer_2 rfl q1) ⟨Fr.refl _ _,rfl⟩
    ·intro _ ρ w42o F42o hX hS hρ
     have F42o:=hX 16 rfl rfl
     have q19:ρ 19=.pointer (some ⟨b4,2,none⟩):=hS 2 (by decide) 19 rfl
     exact o_q (r_ld one_s_buffer_Name q19 ((S4.fr (G28.trans (Fr.ext F42o)) (fun _ h=>h)).now.cell rfl)) ⟨Fr.refl _ _,rfl⟩
    ·intro _ ρ w42o F42o hX hS hρ
     have F42o:=hX 16 rfl rfl
     have q4:ρ 4=.int .i64 s25.1:=hρ 4 (by kernel_rfl)
     exact o_q (r_mov q4) ⟨Fr.refl _ _,rfl⟩
    ·intro _ ρ w42o F42o hX hS hρ
     have F42o:=hX 16 rfl rfl
     have q20:ρ 20=.slice A1 d0.names.length c2:=hS 3 (by decide) 20 rfl
     have q21:ρ 21=.int .i64 s25.1:=hS 4 (by decide) 21 rfl
     exact o_q (r_ia slc_s_buffer_Name q20 q21 ((H3.fr (G27.trans (Fr.ext F42o)) (fun _ h=>h)).now.2 _ (lt_toNat ha43.1 ha43.2)).1 ha43.1 ha43.2) ⟨Fr.refl _ _,rfl⟩
    ·intro _ ρ w42o F42o hX hS hρ
     have F42o:=hX 16 rfl rfl
     have q22:ρ 22=.pointer (some (elemA A1 kNm.n s25.1.toNat)):=hS 5 (by decide) 22 rfl
     exact o_q (r_fad fld_buffer_Name_0 (elemA_spot _ _ _) q22) ⟨Fr.refl _ _,rfl⟩
    ·intro _ ρ w42o F42o hX hS hρ
     have F42o:=hX 16 rfl rfl
     have G82:Fr (own v25r2++(b12::(b6::L))) w25r w42o:=Fr.ext F42o
     have q23:ρ 23=.pointer (some (ad (elemA A1 kNm.n s25.1.toNat) 0)):=hS 6 (by decide) 23 rfl
     exact o_q (r_ld' one_int q23 rfl ((H47.fr G82 (fun _ h=>h)).now.1.at (j:=0) rfl)) ⟨Fr.refl _ _,rfl⟩
    ·intro _ ρ w42o F42o hX hS hρ
     have F42o:=hX 16 rfl rfl
     have q1:ρ 1=.pointer (some ⟨b4,0,none⟩):=hρ 1 (by kernel_rfl)
     exact o_q (r_fa fld_buffer_Buffer_2 rfl q1) ⟨Fr.refl _ _,rfl⟩
    ·intro _ ρ w42o F42o hX hS hρ
     have F42o:=hX 16 rfl rfl
     have q25:ρ 25=.pointer (some ⟨b4,2,none⟩):=hS 8 (by decide) 25 rfl
     exact o_q (r_ld one_s_buffer_Name q25 ((S4.fr (G28.trans (Fr.ext F42o)) (fun _ h=>h)).now.cell rfl)) ⟨Fr.refl _ _,rfl⟩
    ·intro _ ρ w42o F42o hX hS hρ
     have F42o:=hX 16 rfl rfl
     have q4:ρ 4=.int .i64 s25.1:=hρ 4 (by kernel_rfl)
     exact o_q (r_mov q4) ⟨Fr.refl _ _,rfl⟩
    ·intro _ ρ w42o F42o hX hS hρ
     have F42o:=hX 16 rfl rfl
     have q26:ρ 26=.slice A1 d0.names.length c2:=hS 9 (by decide) 26 rfl
     have q27:ρ 27=.int .i64 s25.1:=hS 10 (by decide) 27 rfl
     exact o_q (r_ia slc_s_buffer_Name q26 q27 ((H3.fr (G27.trans (Fr.ext F42o)) (fun _ h=>h)).now.2 _ (lt_toNat ha48.1 ha48.2)).1 ha48.1 ha48.2) ⟨Fr.refl _ _,rfl⟩
    ·intro _ ρ w42o F42o hX hS hρ
     have F42o:=hX 16 rfl rfl
     have q28:ρ 28=.pointer (some (elemA A1 kNm.n s25.1.toNat)):=hS 11 (by decide) 28 rfl
     exact o_q (r_fad fld_buffer_Name_1 (elemA_spot _ _ _) q28) ⟨Fr.refl _ _,rfl⟩
    ·intro _ ρ w42o F42o hX hS hρ
     have F42o:=hX 16 rfl rfl
     have G106:Fr (own v25r2++(b12::(b6::L))) w25r w42o:=Fr.ext F42o
     have q29:ρ 29=.pointer (some (ad (elemA A1 kNm.n s25.1.toNat) 1)):=hS 12 (by decide) 29 rfl
     exact o_q (r_ld' one_string q29 rfl ((H52.fr G106 (fun _ h=>h)).now.1.at (j:=1) rfl)) ⟨Fr.refl _ _,rfl⟩
    ·intro _ ρ w42o F42o hX hS hρ
     have F42o:=hX 16 rfl rfl
     have q24:ρ 24=.int .i64 ((nth d0.names s25.1).kind):=hS 7 (by decide) 24 rfl
     have q30:ρ 30=str ((nth d0.names s25.1).key):=hS 13 (by decide) 30 rfl
     exact o_q (r_build bld_ouroborosref16_Name (vs:=[(0,.int .i64 ((nth d0.names s25.1).kind)),(1,str ((nth d0.names s25.1).key))]) (cells:=[.int .i64 ((nth d0.names s25.1).kind),str ((nth d0.names s25.1).key)]) (by simp only [List.map,ev,q24,q30]) rfl) ⟨Fr.refl _ _,rfl⟩
    ·intro _ ρ w42o F42o hX hS hρ
     have F42o:=hX 16 rfl rfl
     have q31:ρ 31=.agg (cNm (nth d0.names s25.1)).toArray:=hS 14 (by decide) 31 rfl
     refine o_bslice slc_s_ouroborosref16_Name rfl (vs:=[.agg (cNm (nth d0.names s25.1)).toArray]) (by simp only [List.map,ev,idx,q31]) rfl rfl (cs:=[.int .i64 ((nth d0.names s25.1).kind),str ((nth d0.names s25.1).key)]) rfl rfl rfl rfl ?_
     intro b w' e F B
     exact eo_nil ⟨rfl,rfl,_,rfl,F,b,rfl,B,by rw [e]; exact F42o.size⟩
    ·intro hT; exact absurd hT (by decide)
    ·intro _ ρ w42o F42o hX hS hρ
     have q3:ρ 3=.pointer (some ⟨b12,0,none⟩):=hρ 3 (by kernel_rfl)
     exact o_q (r_fa fld_ouroborosref16_Buffer_2 rfl q3) ⟨Fr.refl _ _,rfl⟩
    ·intro hT; exact absurd hT (by decide)
   ·refine ⟨⟨_,rfl,?_⟩,⟨_,rfl,?_⟩,trivial⟩
    ·intro ρ w42o F42o hX hI hS hρ
     have F42o:=hX rfl
     obtain ⟨hO42_26,hB42_b12⟩:=hI
     have q18:ρ 18=v25r2:=hS 1 (by decide) 18 rfl
     obtain ⟨b42_15,q32,B42_15,qB42_15⟩:=hS 15 (by decide) 32 rfl
     refine o_app slc_s_ouroborosref16_Name rfl rfl (show ev ρ _=_ from q18) hO42_26 (show ev ρ _=_ from q32) B42_15 (ys:=([(nth d0.names s25.1)]:List Nm)) rfl rfl rfl (rowd1 (cs:=(cNm (nth d0.names s25.1))) (kNm_mk (d:=(nth d0.names s25.1))) rfl) ha53 rfl rfl ?_
     intro v' w' F O Nn
     have N':∀ q∈own v',q∈own v25r2∨w25r.heap.size≤q:=fun q hq=>(Nn q hq).elim .inl (fun h=>.inr (Nat.le_trans F42o.size h))
     exact eo_nil ⟨rfl,rfl,_,rfl,F,(hB42_b12.fr F (fun hm=>(O25r2.below b12 (by simp)).2 hm)),v',rfl,O,N'⟩
    ·intro ρ w42o F42o hX hI hS hρ
     have hB42_b12:=hI
     obtain ⟨v42_16,q33,O42_16,NO42_16⟩:=hS 16 (by decide) 33 rfl
     have q34:ρ 34=.pointer (some ⟨b12,2,none⟩):=hS 17 (by decide) 34 rfl
     obtain ⟨A124,c125,rfl⟩:=O42_16.shape
     refine o_store (show ev ρ _=_ from q34) hB42_b12 (vs:=[.slice A124 (s25.2++([(nth d0.names s25.1)]:List Nm)).length c125]) (congrArg Value.cells q33) sz_s_ouroborosref16_Name rfl rfl rfl ?_
     intro w' F B2
     exact eo_nil ⟨rfl,rfl,undef,rfl,F,⟨(.slice A124 _ c125),(O42_16.fr F (by simp)),NO42_16,B2⟩,trivial⟩
   ·intro ρ w42 F42 hI hS hρ
    obtain ⟨v42_16,O42_16,NO42_16,hB42_b12⟩:=hI
    obtain ⟨ρ',rfl⟩:∃ ρ',ρ=envs (ovr [17,18,19,20,21,22,23,24,25,26,27,28,29,30,31,32,33,34] ρ' _) []:=⟨ρ,ovr_self hρ trivial⟩
    have E126:Ext w w42:=Ext.st E25r F42 (upo (fun m hm=>Nat.le_trans lo26 (O25r2.lo m hm)) (upc n12 (fun m hm=>by cases hm)))
    have G131:Fr (own (.slice none 0 0)++(b12::(b6::L))) w20 w42:=Fr.stp F25r F42 (upo N25r2 (upc (.inl (by simp)) (fun m hm=>by cases hm)))
    have P132:∀ m∈own v42_16,m∈(own (.slice none 0 0)++(b12::(b6::L)))∨w20.heap.size≤m:=fun m hm=>(NO42_16 m hm).elim (fun h=>(show ∀ m∈own v25r2,m∈(own (.slice none 0 0)++(b12::(b6::L)))∨w20.heap.size≤m from N25r2) m h) (fun h=>.inr (Nat.le_trans (F25r.size) h))
    have B135:=B25rb6.fr F42 (fun hm=>(show ∀ m∈_,m≠b6 from (upo (fun m hm e=>(O25r2.below b6 (by simp)).2 (e ▸ hm)) (upc (by omega) (fun m hm=>by cases hm)))) _ hm rfl)
    refine blk_n ?_
    refine sq_n ?_
    refine ec_region ?_
    refine o_w (v:=.int .i64 s25.1) (r_mov rfl) ?_
    refine o_w (v:=.int .i64 (IntKind.i64.wrap (s25.1 + (1:Int)))) (r_int rfl rfl rfl) ?_
    refine o_w (v:=.int .i64 (IntKind.i64.wrap (s25.1 + (1:Int)))) (r_asg rfl) ?_
    refine eo_nil ?_
    subst h
    exact lq_n ⟨_,v42_16,envs_self ⟨rfl,rfl,rfl,rfl,trivial⟩,rfl,G131,E126,O42_16,P132,hB42_b12,B135⟩
  ·replace h:=h.2 hc31
   refine ec_exit ?_
   refine sq_exit ?_
   subst h
   exact lq_x ⟨_,v25r2,envs_self ⟨rfl,rfl,rfl,rfl,trivial⟩,rfl,F25r,E25r,O25r2,N25r2,B25rb12,B25rb6⟩
 ·exact ⟨_,(.slice none 0 0),envs_self ⟨rfl,rfl,rfl,rfl,trivial⟩,rfl,(Fr.refl _ _),E21,O26,(fun q hq=>.inl (by first | exact List.mem_append_left _ hq | simp [hq])),B20',B24⟩
 ·rintro ρ25e ds25e w25e ⟨ρ25e,v25e2,rfl,rfl,F25e,E25e,O25e2,N25e2,B25eb12,B25eb6⟩
  refine blk_hit ?_
  refine sq_n ?_
  refine ec_seq ?_
  refine ec_region ?_
  refine o_w (v:=.agg #[.int .i64 d0.epoch,.int .i64 d0.first,v25e2]) (r_lda agg_ouroborosref16_Buffer rfl (vs:=[.int .i64 d0.epoch,.int .i64 d0.first,v25e2]) rfl (B25eb12.part (n:=3) rfl)) ?_
  obtain ⟨A140,c141,rfl⟩:=O25e2.shape
  refine o_store rfl B25eb6 (vs:=[.int .i64 d0.epoch,.int .i64 d0.first,(.slice A140 x25.2.length c141)]) rfl sz_ouroborosref16_Buffer rfl rfl rfl ?_
  intro w142 F142 B142
  have E143:=Ext.st E25e F142 (by simp; omega)
  have O147:=O25e2.fr F142 (by simp)
  have B142':Blk w142 b6 _ [.int .i64 d0.epoch,.int .i64 d0.first,(.slice A140 x25.2.length c141)]:=B142
  refine eo_nil_sq ?_
  refine ec_ret ?_
  obtain ⟨A148,c149,eA148,H150⟩:=O147.still
  cases eA148
  have Zw142_151:=Fr.refl (b12::(b6::L)) w142
  subst h
  exact (endr1 (rv_a rfl (agg_ouroborosref16_Buffer) B142' (vs:=[.int .i64 d0.epoch,.int .i64 d0.first,.slice A140 x25.2.length c141]) rfl rfl) ⟨_,rfl,E143,_,rfl,(kBuf_mk (d:=(⟨d0.epoch,d0.first,x25.2⟩:Buf)) (H150.up Zw142_151 (fun _ h=>h) (fun m hm=>Or.inl (List.Mem.tail _ (List.Mem.tail _ hm)))))⟩)
def buffer_Check_1_raw (d0:Int) (d1:Int) (y:Bool):Prop :=
 y=((decide ((0:Int)≤d0))&&(decide (d0≤d1)))
set_option maxRecDepth 20000 in
set_option maxHeartbeats 4000000 in
theorem buffer_Check_1_c {L:List Nat} {w:World} (d0:Int) (d1:Int) (hL:Lt L w) {y:Bool} (h:buffer_Check_1_raw d0 d1 y) :
  Calls Tryz.prog 44 [.int .i64 d0,.int .i64 d1].toArray w (Ret fun v w'=>Ext w w'∧v=.bool y):=by
 unfold buffer_Check_1_raw at h
 refine calls_ec Tryz.func44 rfl rfl rfl ?_
 refine ec_seq ?_
 refine ec_region ?_
 refine o_w (v:=.bool false) (r_asg rfl) ?_
 refine eo_nil_sq ?_
 refine ec_seq ?_
 refine ec_region ?_
 refine o_w (v:=.int .i64 d0) (r_mov rfl) ?_
 refine o_w (v:=.bool (decide ((0:Int)≤d0))) (r_int rfl rfl rfl) ?_
 refine o_w (v:=.bool (decide ((0:Int)≤d0))) (r_mov rfl) ?_
 refine o_vg (v:=.int .i64 d0) (want_ct (t:=7) rfl rfl) (fun hk=>(r_mov rfl)) rfl rfl ?_
 refine o_vg (v:=.int .i64 d1) (want_ct (t:=7) rfl rfl) (fun hk=>(r_mov rfl)) rfl rfl ?_
 refine o_vg (v:=.bool (decide (d0≤d1))) (want_ct (t:=7) rfl rfl) (fun hk=>(r_int (gdT hk) (gdT hk) rfl)) rfl rfl ?_
 refine o_w (v:=.bool ((decide ((0:Int)≤d0))&&(decide (d0≤d1)))) (r_pickAnd rfl (fun ht=>(gdT ht)) rfl) ?_
 refine o_w (v:=.bool ((decide ((0:Int)≤d0))&&(decide (d0≤d1)))) (r_asg rfl) ?_
 refine eo_nil_sq ?_
 refine ec_ret ?_
 subst h
 exact (end1 rfl ⟨_,rfl,(Fr.refl _ _),rfl⟩)
def buffer_Check_2_raw (d0:Nm) (d1:Arena) (y:Bool):Prop :=
 (sma d1)∧(y=(decide ((findA d1 d0.kind d0.key)<(0:Int))))
set_option maxRecDepth 20000 in
set_option maxHeartbeats 4000000 in
theorem buffer_Check_2_c {L:List Nat} {w:World} {csP0:List Value} (d0:Nm) (HP0:Stb L w (fun w=>kNm.r w csP0 d0)) {bP1:Nat} {csP1:List Value} (d1:Arena) (HB1:Stb L w (fun w=>Blk w bP1 28 csP1)) (HP1:Stb L w (fun w=>kArena.r w csP1 d1)) (hL:Lt L w) {y:Bool} (h:buffer_Check_2_raw d0 d1 y) :
  Calls Tryz.prog 45 [.agg csP0.toArray,.pointer (some ⟨bP1,0,none⟩)].toArray w (Ret fun v w'=>Ext w w'∧v=.bool y):=by
 obtain ⟨rfl⟩:=kNm_open HP0
 obtain ⟨A1,c2,A4,c5,rfl,H3,H6⟩:=kArena_open HP1
 unfold buffer_Check_2_raw at h
 refine calls_ec Tryz.func45 rfl rfl rfl ?_
 refine ec_seq ?_
 refine ec_region ?_
 refine o_box (cs:=(cNm d0)) rfl rfl rfl ?_
 intro b7 w7 e7 F7 B7
 have S7:=B7.stb (nin hL e7)
 have G8:Fr L w w7:=Fr.ext F7
 refine o_w (v:=.bool false) (r_asg rfl) ?_
 refine eo_nil_sq ?_
 refine ec_seq ?_
 refine ec_region ?_
 refine o_w (v:=.agg (cArena d1 A1 c2 A4 c5).toArray) (r_lda agg_api_Arena rfl (vs:=(cArena d1 A1 c2 A4 c5)) rfl ((HB1.fr G8 (fun _ h=>h)).now.part (n:=3) rfl)) ?_
 refine o_w (v:=.pointer (some ⟨b7,0,none⟩)) (r_fa fld_buffer_Name_0 rfl rfl) ?_
 refine o_w (v:=.int .i64 d0.kind) (r_ld one_int rfl (S7.now.cell rfl)) ?_
 refine o_w (v:=.pointer (some ⟨b7,1,none⟩)) (r_fa fld_buffer_Name_1 rfl rfl) ?_
 refine o_w (v:=str d0.key) (r_ld one_string rfl (S7.now.cell rfl)) ?_
 obtain ⟨ha10,h⟩:=h
 refine o_call cf_arena_Find rfl (arena_Find_c d1 (kArena_mk (d:=d1) (H3.fr G8 (fun _ h=>h)) (H6.fr G8 (fun _ h=>h))) d0.kind d0.key (hL.fr F7) (arFind_ev d1 d0.kind d0.key ha10)) rfl rfl ?_
 rintro _ w9 ⟨F9,rfl⟩
 have E11:=F7.trans F9
 refine o_w (v:=.bool (decide ((findA d1 d0.kind d0.key)<(0:Int)))) (r_int rfl rfl rfl) ?_
 refine o_w (v:=.bool (decide ((findA d1 d0.kind d0.key)<(0:Int)))) (r_asg rfl) ?_
 refine eo_nil_sq ?_
 refine ec_ret ?_
 subst h
 exact (end1 rfl ⟨_,rfl,E11,rfl⟩)
def slices_IndexFunc_Name_Check_2_b7 (d0:(List Nm)) (d1s0:Arena) (s7:Int) (z7:(Int) ⊕ ((Int) ⊕ (Int))):Prop :=
 ((decide (s7<(d0.length:Int)))=true→((0≤s7∧s7<(d0.length:Int))∧(∃ x15,buffer_Check_2_raw (nth d0 s7) d1s0 x15∧((x15=true→(z7=.inr (.inr s7)))∧(x15=false→(z7=.inl (IntKind.i64.wrap (s7 + (1:Int)))))))))∧((decide (s7<(d0.length:Int)))=false→(z7=.inr (.inl s7)))
def slices_IndexFunc_Name_Check_2_raw (d0:(List Nm)) (d1s0:Arena) (y:Int):Prop :=
 ∃ x7,LoopR (slices_IndexFunc_Name_Check_2_b7 d0 d1s0) (0:Int) x7∧(∀ sx7,x7=.inl sx7→(y=(-1:Int)))∧(∀ y7,x7=.inr y7→(y=y7))
set_option maxRecDepth 20000 in
set_option maxHeartbeats 4000000 in
theorem slices_IndexFunc_Name_Check_2_c {L:List Nat} {w:World} {AP0:Option Addr} {cP0:Nat} (d0:(List Nm)) (HP0:Stb L w (fun w=>SlC kNm w AP0 cP0 d0)) {bP1s0:Nat} {csP1s0:List Value} (d1s0:Arena) (HB1s0:Stb L w (fun w=>Blk w bP1s0 28 csP1s0)) (HP1s0:Stb L w (fun w=>kArena.r w csP1s0 d1s0)) (hL:Lt L w) {y:Int} (h:slices_IndexFunc_Name_Check_2_raw d0 d1s0 y) :
  Calls Tryz.prog 63 [.slice AP0 d0.length cP0,.func (.func 45) #[] #[.pointer (some ⟨bP1s0,0,none⟩)]].toArray w (Ret fun v w'=>Ext w w'∧v=.int .i64 y):=by
 obtain ⟨A1,c2,A4,c5,rfl,H3,H6⟩:=kArena_open HP1s0
 unfold slices_IndexFunc_Name_Check_2_raw at h
 refine calls_ec Tryz.func63 rfl rfl rfl ?_
 refine ec_seq ?_
 refine ec_region ?_
 refine o_w (v:=.int .i64 (0:Int)) (r_asg rfl) ?_
 refine eo_nil_sq ?_
 iterate 2 refine ec_seq ?_
 refine ec_region ?_
 refine o_w (v:=.slice AP0 d0.length cP0) (r_mov rfl) ?_
 refine o_w (v:=.int .i64 (d0.length:Int)) (r_len_slc un_s_buffer_Name rfl) ?_
 refine o_w (v:=.int .i64 (0:Int)) (r_mov rfl) ?_
 refine eo_nil_sq ?_
 refine ec_block ?_
 obtain ⟨x7,hl7,h⟩:=h
 refine ec_loopER 0 (I:=(fun (s7:Int) ρ ds w'=>∃ (ρ':Env),ρ=envs ρ' [(8,.int .i64 s7),(0,.slice AP0 d0.length cP0),(1,.func (.func 45) #[] #[.pointer (some ⟨bP1s0,0,none⟩)]),(7,.int .i64 (d0.length:Int))]∧ds=[]∧Fr L w w'∧Ext w w')) (J:=(fun (y':Int) ρ ds wz=>bodyE Tryz.prog #[.tmp 4] (Ret fun v w'=>Ext w w'∧v=.int .i64 y') .ret ρ ds wz)) ?_ hl7 ?_ ?_ ?_
 ·intro s7 z7 ρ7 ds7 w7r hI7 hb7
  obtain ⟨ρ7r,rfl,rfl,F7r,E7r⟩:=hI7
  have h:=hb7
  unfold slices_IndexFunc_Name_Check_2_b7 at h
  have G8:Fr L w w7r:=(Fr.refl _ _).stp F7r (fun _ h=>.inl h)
  refine ec_seq ?_
  refine ec_region ?_
  refine o_w (v:=.bool (decide (s7<(d0.length:Int)))) (r_int rfl rfl rfl) ?_
  refine eo_nil_sq ?_
  refine ec_seq ?_
  refine ec_cond rfl (fun hc9=>?_) (fun hc9=>?_)
  ·replace h:=h.1 hc9
   refine ec_skip ?_
   refine sq_n ?_
   refine ec_seq ?_
   refine ec_block ?_
   refine ec_seq ?_
   refine ec_region ?_
   refine o_w (v:=.int .i64 s7) (r_mov rfl) ?_
   refine o_w (v:=.int .i64 s7) (r_asg rfl) ?_
   refine eo_nil_sq ?_
   refine ec_seq ?_
   refine ec_region ?_
   refine o_w (v:=.func (.func 45) #[] #[.pointer (some ⟨bP1s0,0,none⟩)]) (r_mov rfl) ?_
   refine o_w (v:=.slice AP0 d0.length cP0) (r_mov rfl) ?_
   refine o_w (v:=.int .i64 s7) (r_mov rfl) ?_
   obtain ⟨ha10,h⟩:=h
   obtain ⟨cs11,l13,H12⟩:=Stb.elem (by decide) (HP0.fr G8 (fun _ h=>h)) s7 ha10.1 ha10.2
   obtain ⟨rfl,H14⟩:=kNm_open2 H12
   refine o_w (v:=.pointer (some (elemA AP0 kNm.n s7.toNat))) (r_ia slc_s_buffer_Name rfl rfl ((HP0.fr G8 (fun _ h=>h)).now.2 _ (lt_toNat ha10.1 ha10.2)).1 ha10.1 ha10.2) ?_
   refine o_w (v:=.agg (cNm (nth d0 s7)).toArray) (r_lda' agg_buffer_Name rfl (elemA_spot _ _ _) (vs:=(cNm (nth d0 s7))) rfl (H14.now.1)) ?_
   obtain ⟨x15,hx15,h⟩:=h
   refine o_callc (vs:=[.agg (cNm (nth d0 s7)).toArray]) (caps:=[.pointer (some ⟨bP1s0,0,none⟩)]) cf_buffer_Check_2 rfl rfl (buffer_Check_2_c (nth d0 s7) (kNm_mk (d:=(nth d0 s7))) d1s0 (HB1s0.fr G8 (fun _ h=>h)) (kArena_mk (d:=d1s0) (H3.fr G8 (fun _ h=>h)) (H6.fr G8 (fun _ h=>h))) (hL.fr E7r) hx15) rfl rfl ?_
   rintro _ w15 ⟨F15,rfl⟩
   have E16:=E7r.trans F15
   refine eo_nil_sq ?_
   refine ec_cond rfl (fun hc20=>?_) (fun hc20=>?_)
   ·replace h:=h.1 hc20
    refine ec_seq ?_
    refine ec_region ?_
    refine o_w (v:=.int .i64 s7) (r_mov rfl) ?_
    refine o_w (v:=.int .i64 s7) (r_asg rfl) ?_
    refine eo_nil_sq ?_
    refine ec_ret ?_
    refine blk_ret ?_
    refine sq_ret ?_
    subst h
    exact lqR_r (end1 rfl ⟨_,rfl,E16,rfl⟩)
   ·replace h:=h.2 hc20
    refine ec_skip ?_
    refine blk_n ?_
    refine sq_n ?_
    refine ec_region ?_
    refine o_w (v:=.int .i64 (IntKind.i64.wrap (s7 + (1:Int)))) (r_int rfl rfl rfl) ?_
    refine o_w (v:=.int .i64 (IntKind.i64.wrap (s7 + (1:Int)))) (r_mov rfl) ?_
    refine eo_nil ?_
    subst h
    exact lqR_n ⟨_,envs_self ⟨rfl,rfl,rfl,rfl,trivial⟩,rfl,(F7r.trans (Fr.ext F15)),E16⟩
  ·replace h:=h.2 hc9
   refine ec_exit ?_
   refine sq_exit ?_
   subst h
   exact lqR_x ⟨_,envs_self ⟨rfl,rfl,rfl,rfl,trivial⟩,rfl,F7r,E7r⟩
 ·exact ⟨_,envs_self ⟨rfl,rfl,rfl,rfl,trivial⟩,rfl,(Fr.refl _ _),(Fr.refl _ _)⟩
 ·rintro sx7 rfl ρ7e ds7e w7e ⟨ρ7e,rfl,rfl,F7e,E7e⟩
  replace h:=h.1 _ rfl
  refine blk_hit ?_
  refine sq_n ?_
  refine ec_seq ?_
  refine ec_region ?_
  refine o_w (v:=.int .i64 (-1:Int)) (r_asg rfl) ?_
  refine eo_nil_sq ?_
  refine ec_ret ?_
  subst h
  exact (end1 rfl ⟨_,rfl,E7e,rfl⟩)
 ·rintro y7 rfl ρ7q ds7q w7q hJ
  have hy:=h.2 _ rfl
  subst hy
  refine blk_ret ?_
  refine sq_ret ?_
  exact hJ
def slices_ContainsFunc_Name_Check_2_raw (d0:(List Nm)) (d1s0:Arena) (y:Bool):Prop :=
 ∃ x7,slices_IndexFunc_Name_Check_2_raw d0 d1s0 x7∧(y=(decide ((0:Int)≤x7)))
set_option maxRecDepth 20000 in
set_option maxHeartbeats 4000000 in
theorem slices_ContainsFunc_Name_Check_2_c {L:List Nat} {w:World} {AP0:Option Addr} {cP0:Nat} (d0:(List Nm)) (HP0:Stb L w (fun w=>SlC kNm w AP0 cP0 d0)) {bP1s0:Nat} {csP1s0:List Value} (d1s0:Arena) (HB1s0:Stb L w (fun w=>Blk w bP1s0 28 csP1s0)) (HP1s0:Stb L w (fun w=>kArena.r w csP1s0 d1s0)) (hL:Lt L w) {y:Bool} (h:slices_ContainsFunc_Name_Check_2_raw d0 d1s0 y) :
  Calls Tryz.prog 47 [.slice AP0 d0.length cP0,.func (.func 45) #[] #[.pointer (some ⟨bP1s0,0,none⟩)]].toArray w (Ret fun v w'=>Ext w w'∧v=.bool y):=by
 obtain ⟨A1,c2,A4,c5,rfl,H3,H6⟩:=kArena_open HP1s0
 unfold slices_ContainsFunc_Name_Check_2_raw at h
 refine calls_ec Tryz.func47 rfl rfl rfl ?_
 refine ec_seq ?_
 refine ec_region ?_
 refine o_w (v:=.bool false) (r_asg rfl) ?_
 refine eo_nil_sq ?_
 refine ec_seq ?_
 refine ec_region ?_
 refine o_w (v:=.slice AP0 d0.length cP0) (r_mov rfl) ?_
 refine o_w (v:=.func (.func 45) #[] #[.pointer (some ⟨bP1s0,0,none⟩)]) (r_mov rfl) ?_
 obtain ⟨x7,hx7,h⟩:=h
 refine o_call cf_slices_IndexFunc_Name rfl (slices_IndexFunc_Name_Check_2_c d0 HP0 d1s0 HB1s0 (kArena_mk (d:=d1s0) H3 H6) hL hx7) rfl rfl ?_
 rintro _ w7 ⟨F7,rfl⟩
 refine o_w (v:=.bool (decide ((0:Int)≤x7))) (r_int rfl rfl rfl) ?_
 refine o_w (v:=.bool (decide ((0:Int)≤x7))) (r_asg rfl) ?_
 refine eo_nil_sq ?_
 refine ec_ret ?_
 subst h
 exact (end1 rfl ⟨_,rfl,F7,rfl⟩)
def buffer_Check_raw (d0:Buf) (d1:Arena) (d2:Int) (y:Int):Prop :=
 ∃ x17,buffer_Check_1_raw d0.epoch (2147483647:Int) x17∧(((!x17)=true→(y=(2:Int)))∧((!x17)=false→(∃ x23,buffer_Check_1_raw d0.first (IntKind.i64.wrap ((2147483647:Int) - (d0.names.length:Int))) x23∧(((!x23)=true→(y=(2:Int)))∧((!x23)=false→(((decide (d2<(d0.names.length:Int)))=true→(y=(2:Int)))∧((decide (d2<(d0.names.length:Int)))=false→((sma d1)∧((((checkA d1) != (0:Int))=true→(y=(2:Int)))∧(((checkA d1) != (0:Int))=false→(∃ x37,slices_ContainsFunc_Name_Check_2_raw d0.names d1 x37∧((x37=true→(y=(2:Int)))∧(x37=false→(y=(0:Int)))))))))))))))
set_option maxRecDepth 20000 in
set_option maxHeartbeats 4000000 in
theorem buffer_Check_c {L:List Nat} {w:World} {csP0:List Value} (d0:Buf) (HP0:Stb L w (fun w=>kBuf.r w csP0 d0)) {csP1:List Value} (d1:Arena) (HP1:Stb L w (fun w=>kArena.r w csP1 d1)) (d2:Int) (hL:Lt L w) {y:Int} (h:buffer_Check_raw d0 d1 d2 y) :
  Calls Tryz.prog 30 [.agg csP0.toArray,.agg csP1.toArray,.int .i64 d2].toArray w (Ret fun v w'=>Ext w w'∧v=.int .i64 y):=by
 obtain ⟨A1,c2,rfl,H3⟩:=kBuf_open HP0
 obtain ⟨A4,c5,A7,c8,rfl,H6,H9⟩:=kArena_open HP1
 unfold buffer_Check_raw at h
 refine calls_ec Tryz.func30 rfl rfl rfl ?_
 refine ec_seq ?_
 refine ec_region ?_
 refine o_box (cs:=(cBuf d0 A1 c2)) rfl rfl rfl ?_
 intro b10 w10 e10 F10 B10
 have S10:=B10.stb (nin hL e10)
 have G11:Fr L w w10:=Fr.ext F10
 refine o_box (cs:=(cArena d1 A4 c5 A7 c8)) rfl rfl rfl ?_
 intro b12 w12 e12 F12 B12
 have S12:=B12.stb (nin (hL.fr F10) e12)
 have E13:=F10.trans F12
 have G15:Fr L w10 w12:=Fr.ext F12
 refine o_w (v:=.int .i64 (0:Int)) (r_asg rfl) ?_
 refine eo_nil_sq ?_
 refine ec_seq ?_
 refine ec_region ?_
 refine o_w (v:=.func (.func 44) #[] #[]) (r_asg rfl) ?_
 refine eo_nil_sq ?_
 refine ec_seq ?_
 refine ec_region ?_
 refine o_w (r_mkfn' (vs:=[.pointer (some ⟨b12,0,none⟩)]) rfl) ?_
 refine o_w (v:=.func (.func 45) #[] #[.pointer (some ⟨b12,0,none⟩)]) (r_asg rfl) ?_
 refine eo_nil_sq ?_
 iterate 2 refine ec_seq ?_
 refine ec_region ?_
 refine o_w (v:=.func (.func 44) #[] #[]) (r_mov rfl) ?_
 refine o_w (v:=.pointer (some ⟨b10,0,none⟩)) (r_fa fld_buffer_Buffer_0 rfl rfl) ?_
 refine o_w (v:=.int .i64 d0.epoch) (r_ld one_int rfl ((S10.fr G15 (fun _ h=>h)).now.cell rfl)) ?_
 obtain ⟨x17,hx17,h⟩:=h
 refine o_callv cf_buffer_Check_1 rfl rfl (buffer_Check_1_c d0.epoch (2147483647:Int) (hL.fr E13) hx17) rfl rfl ?_
 rintro _ w17 ⟨F17,rfl⟩
 have E18:=E13.trans F17
 have G21:Fr L w12 w17:=Fr.ext F17
 refine o_w (v:=.bool (!x17)) (r_not rfl) ?_
 refine o_w (v:=.bool (!x17)) (r_mov rfl) ?_
 rcases Bool.eq_false_or_eq_true (!x17) with hc22 | hc22
 ·replace h:=h.1 hc22
  iterate 9 refine o_no (want_f (t:=15) rfl rfl hc22) rfl ?_
  refine o_w (v:=.bool true) (r_pickT rfl hc22 rfl) ?_
  refine o_w (v:=.bool true) (r_mov rfl) ?_
  iterate 5 refine o_no (want_f (t:=26) rfl rfl rfl) rfl ?_
  refine o_w (v:=.bool true) (r_pickT rfl rfl rfl) ?_
  refine o_w (v:=.bool true) (r_mov rfl) ?_
  iterate 3 refine o_no (want_f (t:=33) rfl rfl rfl) rfl ?_
  refine o_w (v:=.bool true) (r_pickT rfl rfl rfl) ?_
  refine o_w (v:=.bool true) (r_mov rfl) ?_
  iterate 4 refine o_no (want_f (t:=38) rfl rfl rfl) rfl ?_
  refine o_w (v:=.bool true) (r_pickT rfl rfl rfl) ?_
  refine eo_nil_sq ?_
  refine ec_condT rfl rfl ?_
  refine ec_seq ?_
  refine ec_region ?_
  refine o_w (v:=.int .i64 (2:Int)) (r_asg rfl) ?_
  refine eo_nil_sq ?_
  refine ec_ret ?_
  refine sq_ret ?_
  subst h
  exact (end1 rfl ⟨_,rfl,E18,rfl⟩)
 ·replace h:=h.2 hc22
  refine o_v (v:=.func (.func 44) #[] #[]) (r_mov rfl) (want_t (t:=15) rfl rfl hc22) rfl rfl ?_
  refine o_v (v:=.pointer (some ⟨b10,1,none⟩)) (r_fa fld_buffer_Buffer_1 rfl rfl) (want_t (t:=15) rfl rfl hc22) rfl rfl ?_
  refine o_v (v:=.int .i64 d0.first) (r_ld one_int rfl ((S10.fr (G15.trans (Fr.ext F17)) (fun _ h=>h)).now.cell rfl)) (want_t (t:=15) rfl rfl hc22) rfl rfl ?_
  refine o_v (v:=.pointer (some ⟨b10,2,none⟩)) (r_fa fld_buffer_Buffer_2 rfl rfl) (want_t (t:=15) rfl rfl hc22) rfl rfl ?_
  refine o_v (v:=.slice A1 d0.names.length c2) (r_ld one_s_buffer_Name rfl ((S10.fr (G15.trans (Fr.ext F17)) (fun _ h=>h)).now.cell rfl)) (want_t (t:=15) rfl rfl hc22) rfl rfl ?_
  refine o_v (v:=.int .i64 (d0.names.length:Int)) (r_len_slc un_s_buffer_Name rfl) (want_t (t:=15) rfl rfl hc22) rfl rfl ?_
  refine o_v (v:=.int .i64 (IntKind.i64.wrap ((2147483647:Int) - (d0.names.length:Int)))) (r_int rfl rfl rfl) (want_t (t:=15) rfl rfl hc22) rfl rfl ?_
  obtain ⟨x23,hx23,h⟩:=h
  refine o_callv cf_buffer_Check_1 rfl rfl (buffer_Check_1_c d0.first (IntKind.i64.wrap ((2147483647:Int) - (d0.names.length:Int))) (hL.fr E18) hx23) (want_t (t:=15) rfl rfl hc22) rfl ?_
  rintro _ w23 ⟨F23,rfl⟩
  have E24:=E18.trans F23
  refine o_v (v:=.bool (!x23)) (r_not rfl) (want_t (t:=15) rfl rfl hc22) rfl rfl ?_
  refine o_w (v:=.bool (!x23)) (r_pickF rfl hc22 rfl) ?_
  refine o_w (v:=.bool (!x23)) (r_mov rfl) ?_
  rcases Bool.eq_false_or_eq_true (!x23) with hc28 | hc28
  ·replace h:=h.1 hc28
   iterate 5 refine o_no (want_f (t:=26) rfl rfl hc28) rfl ?_
   refine o_w (v:=.bool true) (r_pickT rfl hc28 rfl) ?_
   refine o_w (v:=.bool true) (r_mov rfl) ?_
   iterate 3 refine o_no (want_f (t:=33) rfl rfl rfl) rfl ?_
   refine o_w (v:=.bool true) (r_pickT rfl rfl rfl) ?_
   refine o_w (v:=.bool true) (r_mov rfl) ?_
   iterate 4 refine o_no (want_f (t:=38) rfl rfl rfl) rfl ?_
   refine o_w (v:=.bool true) (r_pickT rfl rfl rfl) ?_
   refine eo_nil_sq ?_
   refine ec_condT rfl rfl ?_
   refine ec_seq ?_
   refine ec_region ?_
   refine o_w (v:=.int .i64 (2:Int)) (r_asg rfl) ?_
   refine eo_nil_sq ?_
   refine ec_ret ?_
   refine sq_ret ?_
   subst h
   exact (end1 rfl ⟨_,rfl,E24,rfl⟩)
  ·replace h:=h.2 hc28
   refine o_v (v:=.pointer (some ⟨b10,2,none⟩)) (r_fa fld_buffer_Buffer_2 rfl rfl) (want_t (t:=26) rfl rfl hc28) rfl rfl ?_
   refine o_v (v:=.slice A1 d0.names.length c2) (r_ld one_s_buffer_Name rfl ((S10.fr ((G15.trans (Fr.ext F17)).trans (Fr.ext F23)) (fun _ h=>h)).now.cell rfl)) (want_t (t:=26) rfl rfl hc28) rfl rfl ?_
   refine o_v (v:=.int .i64 (d0.names.length:Int)) (r_len_slc un_s_buffer_Name rfl) (want_t (t:=26) rfl rfl hc28) rfl rfl ?_
   refine o_v (v:=.int .i64 d2) (r_mov rfl) (want_t (t:=26) rfl rfl hc28) rfl rfl ?_
   refine o_v (v:=.bool (decide (d2<(d0.names.length:Int)))) (r_int rfl rfl rfl) (want_t (t:=26) rfl rfl hc28) rfl rfl ?_
   refine o_w (v:=.bool (decide (d2<(d0.names.length:Int)))) (r_pickF rfl hc28 rfl) ?_
   refine o_w (v:=.bool (decide (d2<(d0.names.length:Int)))) (r_mov rfl) ?_
   rcases Bool.eq_false_or_eq_true (decide (d2<(d0.names.length:Int))) with hc29 | hc29
   ·replace h:=h.1 hc29
    iterate 3 refine o_no (want_f (t:=33) rfl rfl hc29) rfl ?_
    refine o_w (v:=.bool true) (r_pickT rfl hc29 rfl) ?_
    refine o_w (v:=.bool true) (r_mov rfl) ?_
    iterate 4 refine o_no (want_f (t:=38) rfl rfl rfl) rfl ?_
    refine o_w (v:=.bool true) (r_pickT rfl rfl rfl) ?_
    refine eo_nil_sq ?_
    refine ec_condT rfl rfl ?_
    refine ec_seq ?_
    refine ec_region ?_
    refine o_w (v:=.int .i64 (2:Int)) (r_asg rfl) ?_
    refine eo_nil_sq ?_
    refine ec_ret ?_
    refine sq_ret ?_
    subst h
    exact (end1 rfl ⟨_,rfl,E24,rfl⟩)
   ·replace h:=h.2 hc29
    refine o_v (v:=.agg (cArena d1 A4 c5 A7 c8).toArray) (r_lda agg_api_Arena rfl (vs:=(cArena d1 A4 c5 A7 c8)) rfl ((S12.fr (G21.trans (Fr.ext F23)) (fun _ h=>h)).now.part (n:=3) rfl)) (want_t (t:=33) rfl rfl hc29) rfl rfl ?_
    obtain ⟨ha31,h⟩:=h
    refine o_call cf_arena_Check rfl (arena_Check_c d1 (kArena_mk (d:=d1) (H6.fr (((G11.trans (Fr.ext F12)).trans (Fr.ext F17)).trans (Fr.ext F23)) (fun _ h=>h)) (H9.fr (((G11.trans (Fr.ext F12)).trans (Fr.ext F17)).trans (Fr.ext F23)) (fun _ h=>h))) (hL.fr E24) (arCheck_ev d1 ha31)) (want_t (t:=33) rfl rfl hc29) rfl ?_
    rintro _ w30 ⟨F30,rfl⟩
    have E32:=E24.trans F30
    have G33:=(((G11.trans (Fr.ext F12)).trans (Fr.ext F17)).trans (Fr.ext F23)).trans (Fr.ext F30)
    refine o_v (v:=.bool ((checkA d1) != (0:Int))) (r_int rfl rfl rfl) (want_t (t:=33) rfl rfl hc29) rfl rfl ?_
    refine o_w (v:=.bool ((checkA d1) != (0:Int))) (r_pickF rfl hc29 rfl) ?_
    refine o_w (v:=.bool ((checkA d1) != (0:Int))) (r_mov rfl) ?_
    rcases Bool.eq_false_or_eq_true ((checkA d1) != (0:Int)) with hc36 | hc36
    ·replace h:=h.1 hc36
     iterate 4 refine o_no (want_f (t:=38) rfl rfl hc36) rfl ?_
     refine o_w (v:=.bool true) (r_pickT rfl hc36 rfl) ?_
     refine eo_nil_sq ?_
     refine ec_condT rfl rfl ?_
     refine ec_seq ?_
     refine ec_region ?_
     refine o_w (v:=.int .i64 (2:Int)) (r_asg rfl) ?_
     refine eo_nil_sq ?_
     refine ec_ret ?_
     refine sq_ret ?_
     subst h
     exact (end1 rfl ⟨_,rfl,E32,rfl⟩)
    ·replace h:=h.2 hc36
     refine o_v (v:=.pointer (some ⟨b10,2,none⟩)) (r_fa fld_buffer_Buffer_2 rfl rfl) (want_t (t:=38) rfl rfl hc36) rfl rfl ?_
     refine o_v (v:=.slice A1 d0.names.length c2) (r_ld one_s_buffer_Name rfl ((S10.fr (((G15.trans (Fr.ext F17)).trans (Fr.ext F23)).trans (Fr.ext F30)) (fun _ h=>h)).now.cell rfl)) (want_t (t:=38) rfl rfl hc36) rfl rfl ?_
     refine o_v (v:=.func (.func 45) #[] #[.pointer (some ⟨b12,0,none⟩)]) (r_mov rfl) (want_t (t:=38) rfl rfl hc36) rfl rfl ?_
     obtain ⟨x37,hx37,h⟩:=h
     refine o_call cf_slices_ContainsFunc_Name rfl (slices_ContainsFunc_Name_Check_2_c d0.names (H3.fr G33 (fun _ h=>h)) d1 (S12.fr ((G21.trans (Fr.ext F23)).trans (Fr.ext F30)) (fun _ h=>h)) (kArena_mk (d:=d1) (H6.fr G33 (fun _ h=>h)) (H9.fr G33 (fun _ h=>h))) (hL.fr E32) hx37) (want_t (t:=38) rfl rfl hc36) rfl ?_
     rintro _ w37 ⟨F37,rfl⟩
     have E38:=E32.trans F37
     refine o_w (v:=.bool x37) (r_pickF rfl hc36 rfl) ?_
     refine eo_nil_sq ?_
     refine ec_cond rfl (fun hc42=>?_) (fun hc42=>?_)
     ·replace h:=h.1 hc42
      refine ec_seq ?_
      refine ec_region ?_
      refine o_w (v:=.int .i64 (2:Int)) (r_asg rfl) ?_
      refine eo_nil_sq ?_
      refine ec_ret ?_
      refine sq_ret ?_
      subst h
      exact (end1 rfl ⟨_,rfl,E38,rfl⟩)
     ·replace h:=h.2 hc42
      refine ec_skip ?_
      refine sq_n ?_
      refine ec_seq ?_
      refine ec_region ?_
      refine o_w (v:=.int .i64 (0:Int)) (r_asg rfl) ?_
      refine eo_nil_sq ?_
      refine ec_ret ?_
      subst h
      exact (end1 rfl ⟨_,rfl,E38,rfl⟩)
def buffer_Reset_raw (d0:Buf) (y:Buf):Prop :=
 (((decide (d0.epoch<(0:Int)))||(decide ((2147483647:Int)≤d0.epoch)))=true→(y=(⟨(0:Int),(0:Int),([]:List Nm)⟩:Buf)))∧(((decide (d0.epoch<(0:Int)))||(decide ((2147483647:Int)≤d0.epoch)))=false→(y=(⟨(IntKind.i64.wrap (d0.epoch + (1:Int))),(0:Int),([]:List Nm)⟩:Buf)))
set_option maxRecDepth 20000 in
set_option maxHeartbeats 4000000 in
theorem buffer_Reset_c {L:List Nat} {w:World} {csP0:List Value} (d0:Buf) (HP0:Stb L w (fun w=>kBuf.r w csP0 d0)) (hL:Lt L w) {y:Buf} (h:buffer_Reset_raw d0 y) :
  Calls Tryz.prog 31 [.agg csP0.toArray].toArray w (Ret fun v w'=>Ext w w'∧∃ (cs90:List Value),v=.agg cs90.toArray∧Stb L w' (fun w=>kBuf.r w cs90 y)):=by
 obtain ⟨A1,c2,rfl,H3⟩:=kBuf_open HP0
 unfold buffer_Reset_raw at h
 refine calls_ec Tryz.func31 rfl rfl rfl ?_
 refine ec_seq ?_
 refine ec_region ?_
 refine o_box (cs:=(cBuf d0 A1 c2)) rfl rfl rfl ?_
 intro b4 w4 e4 F4 B4
 have S4:=B4.stb (nin hL e4)
 refine o_alloc zero_buffer_Buffer rfl rfl rfl ?_
 intro b6 w6 e6 F6 B6
 have n6:w.heap.size≤b6:=by rw [e6]; exact F4.size
 have E9:=F4.trans F6
 have G11:Fr L w4 w6:=Fr.ext F6
 refine eo_nil_sq ?_
 iterate 2 refine ec_seq ?_
 refine ec_region ?_
 refine o_w (v:=.pointer (some ⟨b4,0,none⟩)) (r_fa fld_buffer_Buffer_0 rfl rfl) ?_
 refine o_w (v:=.int .i64 d0.epoch) (r_ld one_int rfl ((S4.fr G11 (fun _ h=>h)).now.cell rfl)) ?_
 refine o_w (v:=.bool (decide (d0.epoch<(0:Int)))) (r_int rfl rfl rfl) ?_
 refine o_w (v:=.bool (decide (d0.epoch<(0:Int)))) (r_mov rfl) ?_
 refine o_vg (v:=.pointer (some ⟨b4,0,none⟩)) (want_cf (t:=6) rfl rfl) (fun hk=>(r_fa fld_buffer_Buffer_0 rfl rfl)) rfl rfl ?_
 refine o_vg (v:=.int .i64 d0.epoch) (want_cf (t:=6) rfl rfl) (fun hk=>(r_ld one_int (gdT hk) ((S4.fr G11 (fun _ h=>h)).now.cell rfl))) rfl rfl ?_
 refine o_vg (v:=.bool (decide ((2147483647:Int)≤d0.epoch))) (want_cf (t:=6) rfl rfl) (fun hk=>(r_int (gdT hk) rfl rfl)) rfl rfl ?_
 refine o_w (v:=.bool ((decide (d0.epoch<(0:Int)))||(decide ((2147483647:Int)≤d0.epoch)))) (r_pickOr rfl rfl (fun hf=>(gdT (notT hf)))) ?_
 refine eo_nil_sq ?_
 refine ec_cond rfl (fun hc12=>?_) (fun hc12=>?_)
 ·replace h:=h.1 hc12
  refine ec_seq ?_
  refine ec_region ?_
  refine o_w (v:=.agg #[.int .i64 (0:Int),.int .i64 (0:Int),.slice none ([]:List Nm).length 0]) (r_build bld_buffer_Buffer (vs:=[]) (cells:=[.int .i64 (0:Int),.int .i64 (0:Int),.slice none ([]:List Nm).length 0]) rfl rfl) ?_
  refine o_store rfl B6 (vs:=[.int .i64 (0:Int),.int .i64 (0:Int),.slice none ([]:List Nm).length 0]) rfl sz_buffer_Buffer rfl rfl rfl ?_
  intro w13 F13 B13
  have E14:=Ext.st E9 F13 (by simp; omega)
  have B13':Blk w13 b6 _ [.int .i64 (0:Int),.int .i64 (0:Int),.slice none ([]:List Nm).length 0]:=B13
  refine eo_nil_sq ?_
  refine ec_ret ?_
  refine sq_ret ?_
  subst h
  exact (endr1 (rv_a rfl (agg_buffer_Buffer) B13' (vs:=[.int .i64 (0:Int),.int .i64 (0:Int),.slice none ([]:List Nm).length 0]) rfl rfl) ⟨_,rfl,E14,_,rfl,(kBuf_mk (d:=(⟨(0:Int),(0:Int),([]:List Nm)⟩:Buf)) stb_nil)⟩)
 ·replace h:=h.2 hc12
  refine ec_skip ?_
  refine sq_n ?_
  refine ec_seq ?_
  refine ec_region ?_
  refine o_w (v:=.pointer (some ⟨b4,0,none⟩)) (r_fa fld_buffer_Buffer_0 rfl rfl) ?_
  refine o_w (v:=.int .i64 d0.epoch) (r_ld one_int rfl ((S4.fr G11 (fun _ h=>h)).now.cell rfl)) ?_
  refine o_w (v:=.int .i64 (IntKind.i64.wrap (d0.epoch + (1:Int)))) (r_int rfl rfl rfl) ?_
  refine o_w (v:=.agg #[.int .i64 (IntKind.i64.wrap (d0.epoch + (1:Int))),.int .i64 (0:Int),.slice none ([]:List Nm).length 0]) (r_build bld_buffer_Buffer (vs:=[(0,.int .i64 (IntKind.i64.wrap (d0.epoch + (1:Int))))]) (cells:=[.int .i64 (IntKind.i64.wrap (d0.epoch + (1:Int))),.int .i64 (0:Int),.slice none ([]:List Nm).length 0]) rfl rfl) ?_
  refine o_store rfl B6 (vs:=[.int .i64 (IntKind.i64.wrap (d0.epoch + (1:Int))),.int .i64 (0:Int),.slice none ([]:List Nm).length 0]) rfl sz_buffer_Buffer rfl rfl rfl ?_
  intro w17 F17 B17
  have E18:=Ext.st E9 F17 (by simp; omega)
  have B17':Blk w17 b6 _ [.int .i64 (IntKind.i64.wrap (d0.epoch + (1:Int))),.int .i64 (0:Int),.slice none ([]:List Nm).length 0]:=B17
  refine eo_nil_sq ?_
  refine ec_ret ?_
  subst h
  exact (endr1 (rv_a rfl (agg_buffer_Buffer) B17' (vs:=[.int .i64 (IntKind.i64.wrap (d0.epoch + (1:Int))),.int .i64 (0:Int),.slice none ([]:List Nm).length 0]) rfl rfl) ⟨_,rfl,E18,_,rfl,(kBuf_mk (d:=(⟨(IntKind.i64.wrap (d0.epoch + (1:Int))),(0:Int),([]:List Nm)⟩:Buf)) stb_nil)⟩)
def buffer_Mend_raw (d0:Buf) (d1:Arena) (d2:Int) (y:Buf):Prop :=
 ∃ x24,buffer_Check_raw d0 d1 d2 x24∧(((x24==(0:Int))=true→(y=d0))∧((x24==(0:Int))=false→(∃ x36,buffer_Reset_raw d0 x36∧(y=x36))))
set_option maxRecDepth 20000 in
set_option maxHeartbeats 4000000 in
theorem buffer_Mend_c {L:List Nat} {w:World} {csP0:List Value} (d0:Buf) (HP0:Stb L w (fun w=>kBuf.r w csP0 d0)) {csP1:List Value} (d1:Arena) (HP1:Stb L w (fun w=>kArena.r w csP1 d1)) (d2:Int) (hL:Lt L w) {y:Buf} (h:buffer_Mend_raw d0 d1 d2 y) :
  Calls Tryz.prog 19 [.agg csP0.toArray,.agg csP1.toArray,.int .i64 d2].toArray w (Ret fun v w'=>Ext w w'∧∃ (cs90:List Value),v=.agg cs90.toArray∧Stb L w' (fun w=>kBuf.r w cs90 y)):=by
 obtain ⟨A1,c2,rfl,H3⟩:=kBuf_open HP0
 obtain ⟨A4,c5,A7,c8,rfl,H6,H9⟩:=kArena_open HP1
 unfold buffer_Mend_raw at h
 refine calls_ec Tryz.func19 rfl rfl rfl ?_
 refine ec_seq ?_
 refine ec_region ?_
 refine o_box (cs:=(cBuf d0 A1 c2)) rfl rfl rfl ?_
 intro b10 w10 e10 F10 B10
 have S10:=B10.stb (nin hL e10)
 have G11:Fr L w w10:=Fr.ext F10
 refine o_box (cs:=(cArena d1 A4 c5 A7 c8)) rfl rfl rfl ?_
 intro b12 w12 e12 F12 B12
 have S12:=B12.stb (nin (hL.fr F10) e12)
 have E13:=F10.trans F12
 have G15:Fr L w10 w12:=Fr.ext F12
 refine o_alloc zero_buffer_Buffer rfl rfl rfl ?_
 intro b16 w16 e16 F16 B16
 have n16:w.heap.size≤b16:=by rw [e16]; exact E13.size
 have m17:w.heap.size≤b16:=by rw [e16]; exact (G11.trans (Fr.ext F12)).size
 have E20:=E13.trans F16
 have G23:Fr L w12 w16:=Fr.ext F16
 refine eo_nil_sq ?_
 iterate 2 refine ec_seq ?_
 refine ec_region ?_
 refine o_w (v:=.agg (cBuf d0 A1 c2).toArray) (r_lda agg_buffer_Buffer rfl (vs:=(cBuf d0 A1 c2)) rfl ((S10.fr (G15.trans (Fr.ext F16)) (fun _ h=>h)).now.part (n:=3) rfl)) ?_
 refine o_w (v:=.agg (cArena d1 A4 c5 A7 c8).toArray) (r_lda agg_api_Arena rfl (vs:=(cArena d1 A4 c5 A7 c8)) rfl ((S12.fr G23 (fun _ h=>h)).now.part (n:=3) rfl)) ?_
 refine o_w (v:=.int .i64 d2) (r_mov rfl) ?_
 obtain ⟨x24,hx24,h⟩:=h
 refine o_call cf_buffer_Check rfl (buffer_Check_c d0 (kBuf_mk (d:=d0) (H3.up ((G11.trans (Fr.ext F12)).trans (Fr.ext F16)) (fun _ h=>h) (upc (.inr m17) (fun _ h=>.inl h)))) d1 (kArena_mk (d:=d1) (H6.up ((G11.trans (Fr.ext F12)).trans (Fr.ext F16)) (fun _ h=>h) (upc (.inr m17) (fun _ h=>.inl h))) (H9.up ((G11.trans (Fr.ext F12)).trans (Fr.ext F16)) (fun _ h=>h) (upc (.inr m17) (fun _ h=>.inl h)))) d2 ((hL.fr E20).cons B16.lt) hx24) rfl rfl ?_
 rintro _ w24 ⟨F24,rfl⟩
 have E25:=E20.trans F24
 refine o_w (v:=.bool (x24==(0:Int))) (r_int rfl rfl rfl) ?_
 refine eo_nil_sq ?_
 refine ec_cond rfl (fun hc30=>?_) (fun hc30=>?_)
 ·replace h:=h.1 hc30
  refine ec_seq ?_
  refine ec_region ?_
  refine o_w (v:=.agg (cBuf d0 A1 c2).toArray) (r_lda agg_buffer_Buffer rfl (vs:=(cBuf d0 A1 c2)) rfl ((S10.fr ((G15.trans (Fr.ext F16)).trans (Fr.ext F24)) (fun _ h=>h)).now.part (n:=3) rfl)) ?_
  refine o_store rfl (B16.ex F24) (vs:=(cBuf d0 A1 c2)) rfl sz_buffer_Buffer rfl rfl rfl ?_
  intro w31 F31 B31
  have E32:=Ext.st E25 F31 (by simp; omega)
  have G33:Fr L w w31:=(((G11.trans (Fr.ext F12)).trans (Fr.ext F16)).trans (Fr.ext F24)).stp F31 (upc (.inr m17) (fun m hm=>by cases hm))
  have B31':Blk w31 b16 _ (cBuf d0 A1 c2):=B31
  refine eo_nil_sq ?_
  refine ec_ret ?_
  refine sq_ret ?_
  replace h:=h.symm
  subst h
  exact (endr1 (rv_a rfl (agg_buffer_Buffer) B31' (vs:=(cBuf d0 A1 c2)) rfl rfl) ⟨_,rfl,E32,_,rfl,(kBuf_mk (d:=d0) (H3.fr G33 (fun _ h=>h)))⟩)
 ·replace h:=h.2 hc30
  refine ec_skip ?_
  refine sq_n ?_
  refine ec_seq ?_
  refine ec_region ?_
  refine o_w (v:=.agg (cBuf d0 A1 c2).toArray) (r_lda agg_buffer_Buffer rfl (vs:=(cBuf d0 A1 c2)) rfl ((S10.fr ((G15.trans (Fr.ext F16)).trans (Fr.ext F24)) (fun _ h=>h)).now.part (n:=3) rfl)) ?_
  obtain ⟨x36,hx36,h⟩:=h
  refine o_call cf_buffer_Reset rfl (buffer_Reset_c d0 (kBuf_mk (d:=d0) (H3.up (((G11.trans (Fr.ext F12)).trans (Fr.ext F16)).trans (Fr.ext F24)) (fun _ h=>h) (upc (.inr m17) (fun _ h=>.inl h)))) ((hL.fr E25).cons (B16.ex F24).lt) hx36) rfl rfl ?_
  rintro _ w36 ⟨F36,cs37,rfl,H38⟩
  have E39:=E25.trans F36
  obtain ⟨A44,c45,rfl,H46⟩:=kBuf_open H38
  refine o_store rfl ((B16.ex F24).ex F36) (vs:=(cBuf x36 A44 c45)) rfl sz_buffer_Buffer rfl rfl rfl ?_
  intro w47 F47 B47
  have E48:=Ext.st E39 F47 (by simp; omega)
  have G52:Fr (b16::L) w36 w47:=(Fr.refl _ _).stp F47 (upc (.inl (List.Mem.head _)) (fun m hm=>by cases hm))
  have B47':Blk w47 b16 _ (cBuf x36 A44 c45):=B47
  refine eo_nil_sq ?_
  refine ec_ret ?_
  replace h:=h.symm
  subst h
  exact (endr1 (rv_a rfl (agg_buffer_Buffer) B47' (vs:=(cBuf x36 A44 c45)) rfl rfl) ⟨_,rfl,E48,_,rfl,(kBuf_mk (d:=x36) (H46.up G52 (fun _ h=>h) (fun m hm=>Or.inl (List.Mem.tail _ hm))))⟩)
def slices_Clone_Name_raw (d0:(List Nm)) (y:(List Nm)):Prop :=
 (d0=[]→(y=([]:List Nm)))∧((([]:List Nm).length + d0.length≤9223372036854775807∧(([]:List Nm).length + d0.length) * 24≤140737488355328)∧(y=(([]:List Nm)++d0)))
set_option maxRecDepth 20000 in
set_option maxHeartbeats 4000000 in
theorem slices_Clone_Name_c {L:List Nat} {w:World} {AP0:Option Addr} {cP0:Nat} (d0:(List Nm)) (HP0:Stb L w (fun w=>SlC kNm w AP0 cP0 d0)) (hL:Lt L w) {y:(List Nm)} (h:slices_Clone_Name_raw d0 y) :
  Calls Tryz.prog 42 [.slice AP0 d0.length cP0].toArray w (Ret fun v w'=>Ext w w'∧OwnS kNm w.heap.size 59 L w' v y∧(∀ q∈own v,w.heap.size≤q)):=by
 have hL0:=hL
 unfold slices_Clone_Name_raw at h
 refine calls_ec Tryz.func42 rfl rfl rfl ?_
 refine ec_seq ?_
 refine ec_region ?_
 refine o_w (v:=.slice none ([]:List Nm).length 0) (r_asg rfl) ?_
 refine eo_nil_sq ?_
 iterate 2 refine ec_seq ?_
 refine ec_region ?_
 refine o_w (v:=.slice AP0 d0.length cP0) (r_mov rfl) ?_
 refine o_w (v:=.bool (AP0.isNone)) (r_nilEq un_s_buffer_Name rfl rfl) ?_
 refine eo_nil_sq ?_
 refine ec_cond rfl (fun hc1=>?_) (fun hc1=>?_)
 ·replace h:=h.1 (slc_none HP0.now hc1)
  refine ec_seq ?_
  refine ec_region ?_
  refine o_w (v:=.slice none ([]:List Nm).length 0) (r_asg rfl) ?_
  refine eo_nil_sq ?_
  refine ec_ret ?_
  refine sq_ret ?_
  subst h
  exact (end1 rfl ⟨_,rfl,Fr.refl _ _,OwnS.nil (by decide) hL0,fun q hq=>by cases hq⟩)
 ·replace h:=h.2
  refine ec_skip ?_
  refine sq_n ?_
  refine ec_seq ?_
  refine ec_region ?_
  refine o_bslice slc_s_buffer_Name rfl (vs:=[]) rfl rfl rfl (cs:=[]) rfl rfl rfl rfl ?_
  intro b2 w2 e2 F2 B2
  have N2:=nin hL e2
  have S2:=B2.stb N2
  have G3:Fr L w w2:=Fr.ext F2
  refine o_w (v:=.slice AP0 d0.length cP0) (r_mov rfl) ?_
  have lo4:w.heap.size≤w.heap.size:=Nat.le_refl _
  have O4:OwnS kNm (w.heap.size) 59 L w2 (.slice (some ⟨b2,0,none⟩) 0 0) ([]:List Nm):=bs_own (by decide) hL (Nat.le_of_eq e2.symm) S2.now rfl rfl rowd0
  have P5:∀ m∈own (.slice (some ⟨b2,0,none⟩) 0 0),m∈L∨w.heap.size≤m:=fun m hm=>.inr (by have h1:m=b2:=(by simpa [own,Value.ownBlock] using hm); rw [h1,e2]; exact Nat.le_refl _)
  obtain ⟨ha7,h⟩:=h
  refine o_appsl slc_s_buffer_Name rfl rfl kNm_one rfl O4 rfl (HP0.up G3 (fun _ h=>h) (upo P5 (fun _ h=>.inl h))) ha7 rfl rfl ?_
  intro v6 w6 F6 O6 N6
  have E10:=Ext.st F2 F6 (fun m hm=>Nat.le_trans lo4 (O4.lo m hm))
  refine o_w (v:=v6) (r_asg rfl) ?_
  refine eo_nil_sq ?_
  refine ec_ret ?_
  subst h
  exact (end1 rfl ⟨_,rfl,E10,(O6.weak (by simp)).mono lo4 hL0,fun q hq=>Nat.le_trans lo4 (O6.lo q hq)⟩)
def buffer_Ack_1_raw (d0:Buf) (d1:Int) (d2:Int) (y:Buf):Prop :=
 ((((d0.epoch==d1)&&(decide (d0.first<d2)))&&(decide (d2≤(IntKind.i64.wrap (d0.first + (d0.names.length:Int))))))=true→((0≤(IntKind.i64.wrap (d2 - d0.first))∧(IntKind.i64.wrap (d2 - d0.first))≤(d0.names.length:Int)∧(d0.names.length:Int)≤(d0.names.length:Int))∧(∃ x16,slices_Clone_Name_raw (cutL d0.names (IntKind.i64.wrap (d2 - d0.first)) (d0.names.length:Int)) x16∧(y=(⟨d0.epoch,d2,x16⟩:Buf)))))∧((((d0.epoch==d1)&&(decide (d0.first<d2)))&&(decide (d2≤(IntKind.i64.wrap (d0.first + (d0.names.length:Int))))))=false→(y=d0))
set_option maxRecDepth 20000 in
set_option maxHeartbeats 4000000 in
theorem buffer_Ack_1_c {L:List Nat} {w:World} {csP0:List Value} (d0:Buf) (HP0:Stb L w (fun w=>kBuf.r w csP0 d0)) {bP1:Nat} (d1:Int) (HB1:Stb L w (fun w=>Blk w bP1 3 [.int .i64 d1])) {bP2:Nat} (d2:Int) (HB2:Stb L w (fun w=>Blk w bP2 3 [.int .i64 d2])) (hL:Lt L w) {y:Buf} (h:buffer_Ack_1_raw d0 d1 d2 y) :
  Calls Tryz.prog 41 [.agg csP0.toArray,.pointer (some ⟨bP1,0,none⟩),.pointer (some ⟨bP2,0,none⟩)].toArray w (Ret fun v w'=>Ext w w'∧∃ (cs90:List Value),v=.agg cs90.toArray∧Stb L w' (fun w=>kBuf.r w cs90 y)):=by
 obtain ⟨A1,c2,rfl,H3⟩:=kBuf_open HP0
 unfold buffer_Ack_1_raw at h
 refine calls_ec Tryz.func41 rfl rfl rfl ?_
 refine ec_seq ?_
 refine ec_region ?_
 refine o_box (cs:=(cBuf d0 A1 c2)) rfl rfl rfl ?_
 intro b4 w4 e4 F4 B4
 have n4:w.heap.size≤b4:=Nat.le_of_eq e4.symm
 have m5:w.heap.size≤b4:=Nat.le_of_eq e4.symm
 have G6:Fr L w w4:=Fr.ext F4
 refine o_alloc zero_buffer_Buffer rfl rfl rfl ?_
 intro b7 w7 e7 F7 B7
 have n7:w.heap.size≤b7:=by rw [e7]; exact F4.size
 have q8:b4<b7:=by rw [e7]; exact B4.lt
 have m9:w.heap.size≤b7:=by rw [e7]; exact G6.size
 have E10:=F4.trans F7
 refine eo_nil_sq ?_
 iterate 2 refine ec_seq ?_
 refine ec_region ?_
 refine o_w (v:=.pointer (some ⟨b4,0,none⟩)) (r_fa fld_buffer_Buffer_0 rfl rfl) ?_
 refine o_w (v:=.int .i64 d0.epoch) (r_ld one_int rfl ((B4.ex F7).cell rfl)) ?_
 refine o_w (v:=.int .i64 d1) (r_ld one_int rfl ((HB1.fr (G6.trans (Fr.ext F7)) (fun _ h=>h)).now.cell rfl)) ?_
 refine o_w (v:=.bool (d0.epoch==d1)) (r_int rfl rfl rfl) ?_
 refine o_w (v:=.bool (d0.epoch==d1)) (r_mov rfl) ?_
 refine o_vg (v:=.int .i64 d2) (want_ct (t:=9) rfl rfl) (fun hk=>(r_ld one_int rfl ((HB2.fr (G6.trans (Fr.ext F7)) (fun _ h=>h)).now.cell rfl))) rfl rfl ?_
 refine o_vg (v:=.pointer (some ⟨b4,1,none⟩)) (want_ct (t:=9) rfl rfl) (fun hk=>(r_fa fld_buffer_Buffer_1 rfl rfl)) rfl rfl ?_
 refine o_vg (v:=.int .i64 d0.first) (want_ct (t:=9) rfl rfl) (fun hk=>(r_ld one_int (gdT hk) ((B4.ex F7).cell rfl))) rfl rfl ?_
 refine o_vg (v:=.bool (decide (d0.first<d2))) (want_ct (t:=9) rfl rfl) (fun hk=>(r_int (gdT hk) (gdT hk) rfl)) rfl rfl ?_
 refine o_w (v:=.bool ((d0.epoch==d1)&&(decide (d0.first<d2)))) (r_pickAnd rfl (fun ht=>(gdT ht)) rfl) ?_
 refine o_w (v:=.bool ((d0.epoch==d1)&&(decide (d0.first<d2)))) (r_mov rfl) ?_
 refine o_vg (v:=.int .i64 d2) (want_ct (t:=15) rfl rfl) (fun hk=>(r_ld one_int rfl ((HB2.fr (G6.trans (Fr.ext F7)) (fun _ h=>h)).now.cell rfl))) rfl rfl ?_
 refine o_vg (v:=.pointer (some ⟨b4,1,none⟩)) (want_ct (t:=15) rfl rfl) (fun hk=>(r_fa fld_buffer_Buffer_1 rfl rfl)) rfl rfl ?_
 refine o_vg (v:=.int .i64 d0.first) (want_ct (t:=15) rfl rfl) (fun hk=>(r_ld one_int (gdT hk) ((B4.ex F7).cell rfl))) rfl rfl ?_
 refine o_vg (v:=.pointer (some ⟨b4,2,none⟩)) (want_ct (t:=15) rfl rfl) (fun hk=>(r_fa fld_buffer_Buffer_2 rfl rfl)) rfl rfl ?_
 refine o_vg (v:=.slice A1 d0.names.length c2) (want_ct (t:=15) rfl rfl) (fun hk=>(r_ld one_s_buffer_Name (gdT hk) ((B4.ex F7).cell rfl))) rfl rfl ?_
 refine o_vg (v:=.int .i64 (d0.names.length:Int)) (want_ct (t:=15) rfl rfl) (fun hk=>(r_len_slc un_s_buffer_Name (gdT hk))) rfl rfl ?_
 refine o_vg (v:=.int .i64 (IntKind.i64.wrap (d0.first + (d0.names.length:Int)))) (want_ct (t:=15) rfl rfl) (fun hk=>(r_int (gdT hk) (gdT hk) rfl)) rfl rfl ?_
 refine o_vg (v:=.bool (decide (d2≤(IntKind.i64.wrap (d0.first + (d0.names.length:Int)))))) (want_ct (t:=15) rfl rfl) (fun hk=>(r_int (gdT hk) (gdT hk) rfl)) rfl rfl ?_
 refine o_w (v:=.bool (((d0.epoch==d1)&&(decide (d0.first<d2)))&&(decide (d2≤(IntKind.i64.wrap (d0.first + (d0.names.length:Int))))))) (r_pickAnd rfl (fun ht=>(gdT ht)) rfl) ?_
 refine eo_nil_sq ?_
 refine ec_cond rfl (fun hc13=>?_) (fun hc13=>?_)
 ·replace h:=h.1 hc13
  refine ec_seq ?_
  refine ec_region ?_
  refine o_w (v:=.pointer (some ⟨b4,2,none⟩)) (r_fa fld_buffer_Buffer_2 rfl rfl) ?_
  refine o_w (v:=.slice A1 d0.names.length c2) (r_ld one_s_buffer_Name rfl ((B4.ex F7).cell rfl)) ?_
  refine o_w (v:=.int .i64 d2) (r_ld one_int rfl ((HB2.fr (G6.trans (Fr.ext F7)) (fun _ h=>h)).now.cell rfl)) ?_
  refine o_w (v:=.pointer (some ⟨b4,1,none⟩)) (r_fa fld_buffer_Buffer_1 rfl rfl) ?_
  refine o_w (v:=.int .i64 d0.first) (r_ld one_int rfl ((B4.ex F7).cell rfl)) ?_
  refine o_w (v:=.int .i64 (IntKind.i64.wrap (d2 - d0.first))) (r_int rfl rfl rfl) ?_
  obtain ⟨ha14,h⟩:=h
  have H15:=Stb.cutL (H3.up (G6.trans (Fr.ext F7)) (fun _ h=>h) (upc (.inr m9) (upc (.inr m5) (fun _ h=>.inl h)))) ha14.1 ha14.2.1 ha14.2.2
  refine o_w (v:=.slice (slA A1 c2 (IntKind.i64.wrap (d2 - d0.first)).toNat kNm.n) (cutL d0.names (IntKind.i64.wrap (d2 - d0.first)) (d0.names.length:Int)).length (c2 - (IntKind.i64.wrap (d2 - d0.first)).toNat)) (r_sl_slc slc_s_buffer_Name rfl rfl ⟨_,rfl⟩ rfl ha14.1 ha14.2.1 ha14.2.2 (H3.fr (G6.trans (Fr.ext F7)) (fun _ h=>h)).now.1) ?_
  obtain ⟨x16,hx16,h⟩:=h
  refine o_call cf_slices_Clone_Name rfl (slices_Clone_Name_c (cutL d0.names (IntKind.i64.wrap (d2 - d0.first)) (d0.names.length:Int)) H15 (((hL.fr E10).cons (B4.ex F7).lt).cons B7.lt) hx16) rfl rfl ?_
  have lo17:w.heap.size≤w7.heap.size:=E10.size
  rintro v17 w16 ⟨F16,O17,N17⟩
  have E20:=E10.trans F16
  refine o_w (v:=.pointer (some ⟨b4,2,none⟩)) (r_fa fld_buffer_Buffer_2 rfl rfl) ?_
  obtain ⟨A25,c26,rfl⟩:=O17.shape
  refine o_store rfl ((B4.ex F7).ex F16) (vs:=[(.slice A25 x16.length c26)]) rfl sz_s_buffer_Name rfl rfl rfl ?_
  intro w27 F27 B27
  have E28:=Ext.st E20 F27 (by simp; omega)
  have G29:Fr L w w27:=((G6.trans (Fr.ext F7)).trans (Fr.ext F16)).stp F27 (upc (.inr m5) (fun m hm=>by cases hm))
  have B31:=(B7.ex F16).fr F27 (by simp; omega)
  have O32:=O17.fr F27 (by simp)
  have B27':Blk w27 b4 _ [.int .i64 d0.epoch,.int .i64 d0.first,(.slice A25 x16.length c26)]:=B27
  refine eo_nil_sq ?_
  refine ec_region ?_
  refine o_w (v:=.int .i64 d2) (r_ld one_int rfl ((HB2.fr G29 (fun _ h=>h)).now.cell rfl)) ?_
  refine o_w (v:=.pointer (some ⟨b4,1,none⟩)) (r_fa fld_buffer_Buffer_1 rfl rfl) ?_
  refine o_store rfl B27' (vs:=[.int .i64 d2]) rfl sz_int rfl rfl rfl ?_
  intro w33 F33 B33
  have E34:=Ext.st E28 F33 (by simp; omega)
  have B37:=B31.fr F33 (by simp; omega)
  have O38:=O32.fr F33 (by simp)
  have B33':Blk w33 b4 _ [.int .i64 d0.epoch,.int .i64 d2,(.slice A25 x16.length c26)]:=B33
  refine eo_nil_sq ?_
  refine ec_seq ?_
  refine ec_region ?_
  refine o_w (v:=.agg #[.int .i64 d0.epoch,.int .i64 d2,(.slice A25 x16.length c26)]) (r_lda agg_buffer_Buffer rfl (vs:=[.int .i64 d0.epoch,.int .i64 d2,(.slice A25 x16.length c26)]) rfl (B33'.part (n:=3) rfl)) ?_
  refine o_store rfl B37 (vs:=[.int .i64 d0.epoch,.int .i64 d2,(.slice A25 x16.length c26)]) rfl sz_buffer_Buffer rfl rfl rfl ?_
  intro w39 F39 B39
  have E40:=Ext.st E34 F39 (by simp; omega)
  have O44:=O38.fr F39 (by simp)
  have B39':Blk w39 b7 _ [.int .i64 d0.epoch,.int .i64 d2,(.slice A25 x16.length c26)]:=B39
  refine eo_nil_sq ?_
  refine ec_ret ?_
  obtain ⟨A45,c46,eA45,H47⟩:=O44.still
  cases eA45
  have Zw39_48:=Fr.refl (b7::(b4::L)) w39
  subst h
  exact (endr1 (rv_a rfl (agg_buffer_Buffer) B39' (vs:=[.int .i64 d0.epoch,.int .i64 d2,.slice A25 x16.length c26]) rfl rfl) ⟨_,rfl,E40,_,rfl,(kBuf_mk (d:=(⟨d0.epoch,d2,x16⟩:Buf)) (H47.up Zw39_48 (fun _ h=>h) (fun m hm=>Or.inl (List.Mem.tail _ (List.Mem.tail _ hm)))))⟩)
 ·replace h:=h.2 hc13
  refine ec_skip ?_
  refine sq_n ?_
  refine ec_seq ?_
  refine ec_region ?_
  refine o_w (v:=.agg (cBuf d0 A1 c2).toArray) (r_lda agg_buffer_Buffer rfl (vs:=(cBuf d0 A1 c2)) rfl ((B4.ex F7).part (n:=3) rfl)) ?_
  refine o_store rfl B7 (vs:=(cBuf d0 A1 c2)) rfl sz_buffer_Buffer rfl rfl rfl ?_
  intro w50 F50 B50
  have E51:=Ext.st E10 F50 (by simp; omega)
  have G52:Fr L w w50:=(G6.trans (Fr.ext F7)).stp F50 (upc (.inr m9) (fun m hm=>by cases hm))
  have B50':Blk w50 b7 _ (cBuf d0 A1 c2):=B50
  refine eo_nil_sq ?_
  refine ec_ret ?_
  replace h:=h.symm
  subst h
  exact (endr1 (rv_a rfl (agg_buffer_Buffer) B50' (vs:=(cBuf d0 A1 c2)) rfl rfl) ⟨_,rfl,E51,_,rfl,(kBuf_mk (d:=d0) (H3.fr G52 (fun _ h=>h)))⟩)
def buffer_Ack_raw (d0:Buf) (d1:Arena) (d2:Int) (d3:Int) (d4:Int) (y:Buf):Prop :=
 ∃ x74,buffer_Mend_raw d0 d1 d2 x74∧(∃ x90,buffer_Ack_1_raw x74 d3 d4 x90∧(y=x90))
set_option maxRecDepth 20000 in
set_option maxHeartbeats 4000000 in
theorem buffer_Ack_c {L:List Nat} {w:World} {csP0:List Value} (d0:Buf) (HP0:Stb L w (fun w=>kBuf.r w csP0 d0)) {csP1:List Value} (d1:Arena) (HP1:Stb L w (fun w=>kArena.r w csP1 d1)) (d2:Int) (d3:Int) (d4:Int) (hL:Lt L w) {y:Buf} (h:buffer_Ack_raw d0 d1 d2 d3 d4 y) :
  Calls Tryz.prog 26 [.agg csP0.toArray,.agg csP1.toArray,.int .i64 d2,.int .i64 d3,.int .i64 d4].toArray w (Ret fun v w'=>Ext w w'∧∃ (cs90:List Value),v=.agg cs90.toArray∧Stb L w' (fun w=>kBuf.r w cs90 y)):=by
 obtain ⟨A1,c2,rfl,H3⟩:=kBuf_open HP0
 obtain ⟨A4,c5,A7,c8,rfl,H6,H9⟩:=kArena_open HP1
 unfold buffer_Ack_raw at h
 refine calls_ec Tryz.func26 rfl rfl rfl ?_
 refine ec_seq ?_
 refine ec_region ?_
 refine o_box (cs:=(cBuf d0 A1 c2)) rfl rfl rfl ?_
 intro b10 w10 e10 F10 B10
 have S10:=B10.stb (nin hL e10)
 have G11:Fr L w w10:=Fr.ext F10
 refine o_box (cs:=(cArena d1 A4 c5 A7 c8)) rfl rfl rfl ?_
 intro b12 w12 e12 F12 B12
 have S12:=B12.stb (nin (hL.fr F10) e12)
 have E13:=F10.trans F12
 have G15:Fr L w10 w12:=Fr.ext F12
 refine o_box (cs:=[.int .i64 d3]) rfl rfl rfl ?_
 intro b16 w16 e16 F16 B16
 have S16:=B16.stb (nin (hL.fr E13) e16)
 have E17:=E13.trans F16
 have G20:Fr L w12 w16:=Fr.ext F16
 refine o_box (cs:=[.int .i64 d4]) rfl rfl rfl ?_
 intro b21 w21 e21 F21 B21
 have S21:=B21.stb (nin (hL.fr E17) e21)
 have E22:=E17.trans F21
 have G26:Fr L w16 w21:=Fr.ext F21
 refine o_alloc zero_buffer_Buffer rfl rfl rfl ?_
 intro b27 w27 e27 F27 B27
 have n27:w.heap.size≤b27:=by rw [e27]; exact E22.size
 have m28:w.heap.size≤b27:=by rw [e27]; exact (((G11.trans (Fr.ext F12)).trans (Fr.ext F16)).trans (Fr.ext F21)).size
 have m31:w16.heap.size≤b27:=by rw [e27]; exact G26.size
 have m32:w21.heap.size≤b27:=Nat.le_of_eq e27.symm
 have E33:=E22.trans F27
 have G34:=(((G11.trans (Fr.ext F12)).trans (Fr.ext F16)).trans (Fr.ext F21)).trans (Fr.ext F27)
 have G38:Fr L w21 w27:=Fr.ext F27
 refine eo_nil_sq ?_
 refine ec_seq ?_
 refine ec_region ?_
 refine o_w (v:=.agg (cBuf d0 A1 c2).toArray) (r_lda agg_buffer_Buffer rfl (vs:=(cBuf d0 A1 c2)) rfl ((S10.fr (((G15.trans (Fr.ext F16)).trans (Fr.ext F21)).trans (Fr.ext F27)) (fun _ h=>h)).now.part (n:=3) rfl)) ?_
 refine o_w (v:=.agg (cArena d1 A4 c5 A7 c8).toArray) (r_lda agg_api_Arena rfl (vs:=(cArena d1 A4 c5 A7 c8)) rfl ((S12.fr ((G20.trans (Fr.ext F21)).trans (Fr.ext F27)) (fun _ h=>h)).now.part (n:=3) rfl)) ?_
 refine o_w (v:=.int .i64 d2) (r_mov rfl) ?_
 refine o_w (r_mkfn' (vs:=[.pointer (some ⟨b16,0,none⟩),.pointer (some ⟨b21,0,none⟩)]) rfl) ?_
 refine o_inl (vs:=[.agg (cBuf d0 A1 c2).toArray,.agg (cArena d1 A4 c5 A7 c8).toArray,.int .i64 d2,.func (.func 41) #[] #[.pointer (some ⟨b16,0,none⟩),.pointer (some ⟨b21,0,none⟩)]]) (caps:=[]) cf_buffer_mended rfl rfl rfl rfl ?_
 refine calls_ec Tryz.func40 rfl rfl rfl ?_
 refine ec_seq ?_
 refine ec_region ?_
 refine o_box (cs:=(cBuf d0 A1 c2)) rfl rfl rfl ?_
 intro b39 w39 e39 F39 B39
 have S39:=B39.stb (nin ((hL.fr E33).cons B27.lt) e39)
 have E40:=E33.trans F39
 refine o_box (cs:=(cArena d1 A4 c5 A7 c8)) rfl rfl rfl ?_
 intro b47 w47 e47 F47 B47
 have S47:=B47.stb (nin ((hL.fr E40).cons (B27.ex F39).lt) e47)
 have E48:=E40.trans F47
 have G54:Fr (b27::L) w39 w47:=Fr.ext F47
 refine o_alloc zero_buffer_Buffer rfl rfl rfl ?_
 intro b56 w56 e56 F56 B56
 have n56:w.heap.size≤b56:=by rw [e56]; exact E48.size
 have q57:b27<b56:=by rw [e56]; exact ((B27.ex F39).ex F47).lt
 have m58:w.heap.size≤b56:=by rw [e56]; exact ((G34.trans (Fr.ext F39)).trans (Fr.ext F47)).size
 have m61:w16.heap.size≤b56:=by rw [e56]; exact (((G26.trans (Fr.ext F27)).trans (Fr.ext F39)).trans (Fr.ext F47)).size
 have m62:w21.heap.size≤b56:=by rw [e56]; exact ((G38.trans (Fr.ext F39)).trans (Fr.ext F47)).size
 have E65:=E48.trans F56
 have G69:=(((G26.trans (Fr.ext F27)).trans (Fr.ext F39)).trans (Fr.ext F47)).trans (Fr.ext F56)
 have G72:Fr (b27::L) w47 w56:=Fr.ext F56
 refine eo_nil_sq ?_
 refine ec_seq ?_
 refine ec_region ?_
 refine o_w (v:=.func (.func 41) #[] #[.pointer (some ⟨b16,0,none⟩),.pointer (some ⟨b21,0,none⟩)]) (r_mov rfl) ?_
 refine o_w (v:=.agg (cBuf d0 A1 c2).toArray) (r_lda agg_buffer_Buffer rfl (vs:=(cBuf d0 A1 c2)) rfl ((S39.fr (G54.trans (Fr.ext F56)) (fun _ h=>h)).now.part (n:=3) rfl)) ?_
 refine o_w (v:=.agg (cArena d1 A4 c5 A7 c8).toArray) (r_lda agg_api_Arena rfl (vs:=(cArena d1 A4 c5 A7 c8)) rfl ((S47.fr G72 (fun _ h=>h)).now.part (n:=3) rfl)) ?_
 refine o_w (v:=.int .i64 d2) (r_mov rfl) ?_
 obtain ⟨x74,hx74,h⟩:=h
 refine o_call cf_buffer_Mend rfl (buffer_Mend_c d0 (kBuf_mk (d:=d0) (H3.up (((G34.trans (Fr.ext F39)).trans (Fr.ext F47)).trans (Fr.ext F56)) (fun _ h=>h) (upc (.inr m58) (upc (.inr m28) (fun _ h=>.inl h))))) d1 (kArena_mk (d:=d1) (H6.up (((G34.trans (Fr.ext F39)).trans (Fr.ext F47)).trans (Fr.ext F56)) (fun _ h=>h) (upc (.inr m58) (upc (.inr m28) (fun _ h=>.inl h)))) (H9.up (((G34.trans (Fr.ext F39)).trans (Fr.ext F47)).trans (Fr.ext F56)) (fun _ h=>h) (upc (.inr m58) (upc (.inr m28) (fun _ h=>.inl h))))) d2 (((hL.fr E65).cons (((B27.ex F39).ex F47).ex F56).lt).cons B56.lt) hx74) rfl rfl ?_
 rintro _ w74 ⟨F74,cs75,rfl,H76⟩
 have E77:=E65.trans F74
 have G82:=(((G38.trans (Fr.ext F39)).trans (Fr.ext F47)).trans (Fr.ext F56)).trans (Fr.ext F74)
 obtain ⟨A87,c88,rfl,H89⟩:=kBuf_open H76
 obtain ⟨x90,hx90,h⟩:=h
 refine o_callc (vs:=[.agg (cBuf x74 A87 c88).toArray]) (caps:=[.pointer (some ⟨b16,0,none⟩),.pointer (some ⟨b21,0,none⟩)]) cf_buffer_Ack_1 rfl rfl (buffer_Ack_1_c x74 (kBuf_mk (d:=x74) H89) d3 (S16.up (G69.trans (Fr.ext F74)) (fun _ h=>h) (upc (.inr m61) (upc (.inr m31) (fun _ h=>.inl h)))) d4 (S21.up G82 (fun _ h=>h) (upc (.inr m62) (upc (.inr m32) (fun _ h=>.inl h)))) (((hL.fr E77).cons ((((B27.ex F39).ex F47).ex F56).ex F74).lt).cons (B56.ex F74).lt) hx90) rfl rfl ?_
 rintro _ w90 ⟨F90,cs91,rfl,H92⟩
 have E93:=E77.trans F90
 obtain ⟨A104,c105,rfl,H106⟩:=kBuf_open H92
 refine o_store rfl ((B56.ex F74).ex F90) (vs:=(cBuf x90 A104 c105)) rfl sz_buffer_Buffer rfl rfl rfl ?_
 intro w107 F107 B107
 have E108:=Ext.st E93 F107 (by simp; omega)
 have G117:Fr (b56::(b27::L)) w90 w107:=(Fr.refl _ _).stp F107 (upc (.inl (List.Mem.head _)) (fun m hm=>by cases hm))
 have B118:=(((((B27.ex F39).ex F47).ex F56).ex F74).ex F90).fr F107 (by simp; omega)
 have B107':Blk w107 b56 _ (cBuf x90 A104 c105):=B107
 refine eo_nil_sq ?_
 refine ec_ret ?_
 refine endr1 (v:=.agg (cBuf x90 A104 c105).toArray) (rv_a rfl (agg_buffer_Buffer) B107' (vs:=(cBuf x90 A104 c105)) rfl rfl) ⟨_,rfl,?_⟩
 refine o_store rfl B118 (vs:=(cBuf x90 A104 c105)) rfl sz_buffer_Buffer rfl rfl rfl ?_
 intro w119 F119 B119
 have E120:=Ext.st E108 F119 (by simp; omega)
 have G129:Fr (b56::(b27::L)) w90 w119:=G117.stp F119 (upc (.inl (List.Mem.tail _ (List.Mem.head _))) (fun m hm=>by cases hm))
 have B119':Blk w119 b27 _ (cBuf x90 A104 c105):=B119
 refine eo_nil_sq ?_
 refine ec_ret ?_
 replace h:=h.symm
 subst h
 exact (endr1 (rv_a rfl (agg_buffer_Buffer) B119' (vs:=(cBuf x90 A104 c105)) rfl rfl) ⟨_,rfl,E120,_,rfl,(kBuf_mk (d:=x90) (H106.up G129 (fun _ h=>h) (fun m hm=>Or.inl (List.Mem.tail _ (List.Mem.tail _ hm)))))⟩)
def ref16_Ack_raw (d0:Buf) (d1:Arena) (d2:Int) (d3:Int) (d4:Int) (y:Buf):Prop :=
 ∃ x25,ref16_Mend_raw d0 d1 d2 x25∧(((((x25.epoch != d3)||(decide (d4≤x25.first)))||(decide ((IntKind.i64.wrap (x25.first + (x25.names.length:Int)))<d4)))=true→(y=x25))∧((((x25.epoch != d3)||(decide (d4≤x25.first)))||(decide ((IntKind.i64.wrap (x25.first + (x25.names.length:Int)))<d4)))=false→((0≤(IntKind.i64.wrap (d4 - x25.first))∧(IntKind.i64.wrap (d4 - x25.first))≤(x25.names.length:Int)∧(x25.names.length:Int)≤(x25.names.length:Int))∧(y=(⟨x25.epoch,d4,(cutL x25.names (IntKind.i64.wrap (d4 - x25.first)) (x25.names.length:Int))⟩:Buf)))))
set_option maxRecDepth 20000 in
set_option maxHeartbeats 4000000 in
theorem ref16_Ack_c {L:List Nat} {w:World} {csP0:List Value} (d0:Buf) (HP0:Stb L w (fun w=>kBuf.r w csP0 d0)) {csP1:List Value} (d1:Arena) (HP1:Stb L w (fun w=>kArena.r w csP1 d1)) (d2:Int) (d3:Int) (d4:Int) (hL:Lt L w) {y:Buf} (h:ref16_Ack_raw d0 d1 d2 d3 d4 y) :
  Calls Tryz.prog 27 [.agg csP0.toArray,.agg csP1.toArray,.int .i64 d2,.int .i64 d3,.int .i64 d4].toArray w (Ret fun v w'=>Ext w w'∧∃ (cs90:List Value),v=.agg cs90.toArray∧Stb L w' (fun w=>kBuf.r w cs90 y)):=by
 obtain ⟨A1,c2,rfl,H3⟩:=kBuf_open HP0
 obtain ⟨A4,c5,A7,c8,rfl,H6,H9⟩:=kArena_open HP1
 unfold ref16_Ack_raw at h
 refine calls_ec Tryz.func27 rfl rfl rfl ?_
 refine ec_seq ?_
 refine ec_region ?_
 refine o_box (cs:=(cBuf d0 A1 c2)) rfl rfl rfl ?_
 intro b10 w10 e10 F10 B10
 have n10:w.heap.size≤b10:=Nat.le_of_eq e10.symm
 have m11:w.heap.size≤b10:=Nat.le_of_eq e10.symm
 have G12:Fr L w w10:=Fr.ext F10
 refine o_box (cs:=(cArena d1 A4 c5 A7 c8)) rfl rfl rfl ?_
 intro b13 w13 e13 F13 B13
 have S13:=B13.stb (nin ((hL.fr F10).cons B10.lt) e13)
 have E14:=F10.trans F13
 refine o_alloc zero_ouroborosref16_Buffer rfl rfl rfl ?_
 intro b17 w17 e17 F17 B17
 have n17:w.heap.size≤b17:=by rw [e17]; exact E14.size
 have q18:b10<b17:=by rw [e17]; exact (B10.ex F13).lt
 have m19:w.heap.size≤b17:=by rw [e17]; exact (G12.trans (Fr.ext F13)).size
 have E21:=E14.trans F17
 have G23:Fr (b10::L) w13 w17:=Fr.ext F17
 refine eo_nil_sq ?_
 refine ec_seq ?_
 refine ec_region ?_
 refine o_w (v:=.agg (cBuf d0 A1 c2).toArray) (r_lda agg_ouroborosref16_Buffer rfl (vs:=(cBuf d0 A1 c2)) rfl (((B10.ex F13).ex F17).part (n:=3) rfl)) ?_
 refine o_w (v:=.agg (cArena d1 A4 c5 A7 c8).toArray) (r_lda agg_api_Arena rfl (vs:=(cArena d1 A4 c5 A7 c8)) rfl ((S13.fr G23 (fun _ h=>h)).now.part (n:=3) rfl)) ?_
 refine o_w (v:=.int .i64 d2) (r_mov rfl) ?_
 obtain ⟨x25,hx25,h⟩:=h
 refine o_call cf_ref16_Mend rfl (ref16_Mend_c d0 (kBuf_mk (d:=d0) (H3.up ((G12.trans (Fr.ext F13)).trans (Fr.ext F17)) (fun _ h=>h) (upc (.inr m19) (upc (.inr m11) (fun _ h=>.inl h))))) d1 (kArena_mk (d:=d1) (H6.up ((G12.trans (Fr.ext F13)).trans (Fr.ext F17)) (fun _ h=>h) (upc (.inr m19) (upc (.inr m11) (fun _ h=>.inl h)))) (H9.up ((G12.trans (Fr.ext F13)).trans (Fr.ext F17)) (fun _ h=>h) (upc (.inr m19) (upc (.inr m11) (fun _ h=>.inl h))))) d2 (((hL.fr E21).cons ((B10.ex F13).ex F17).lt).cons B17.lt) hx25) rfl rfl ?_
 rintro _ w25 ⟨F25,cs26,rfl,H27⟩
 have E28:=E21.trans F25
 obtain ⟨A33,c34,rfl,H35⟩:=kBuf_open H27
 refine o_store rfl (((B10.ex F13).ex F17).ex F25) (vs:=(cBuf x25 A33 c34)) rfl sz_ouroborosref16_Buffer rfl rfl rfl ?_
 intro w36 F36 B36
 have E37:=Ext.st E28 F36 (by simp; omega)
 have G40:Fr (b17::(b10::L)) w25 w36:=(Fr.refl _ _).stp F36 (upc (.inl (List.Mem.tail _ (List.Mem.head _))) (fun m hm=>by cases hm))
 have B41:=(B17.ex F25).fr F36 (by simp; omega)
 have B36':Blk w36 b10 _ (cBuf x25 A33 c34):=B36
 refine eo_nil_sq ?_
 iterate 2 refine ec_seq ?_
 refine ec_region ?_
 refine o_w (v:=.pointer (some ⟨b10,0,none⟩)) (r_fa fld_ouroborosref16_Buffer_0 rfl rfl) ?_
 refine o_w (v:=.int .i64 x25.epoch) (r_ld one_int rfl (B36'.cell rfl)) ?_
 refine o_w (v:=.int .i64 d3) (r_mov rfl) ?_
 refine o_w (v:=.bool (x25.epoch != d3)) (r_int rfl rfl rfl) ?_
 refine o_w (v:=.bool (x25.epoch != d3)) (r_mov rfl) ?_
 refine o_vg (v:=.int .i64 d4) (want_cf (t:=19) rfl rfl) (fun hk=>(r_mov rfl)) rfl rfl ?_
 refine o_vg (v:=.pointer (some ⟨b10,1,none⟩)) (want_cf (t:=19) rfl rfl) (fun hk=>(r_fa fld_ouroborosref16_Buffer_1 rfl rfl)) rfl rfl ?_
 refine o_vg (v:=.int .i64 x25.first) (want_cf (t:=19) rfl rfl) (fun hk=>(r_ld one_int (gdT hk) (B36'.cell rfl))) rfl rfl ?_
 refine o_vg (v:=.bool (decide (d4≤x25.first))) (want_cf (t:=19) rfl rfl) (fun hk=>(r_int (gdT hk) (gdT hk) rfl)) rfl rfl ?_
 refine o_w (v:=.bool ((x25.epoch != d3)||(decide (d4≤x25.first)))) (r_pickOr rfl rfl (fun hf=>(gdT (notT hf)))) ?_
 refine o_w (v:=.bool ((x25.epoch != d3)||(decide (d4≤x25.first)))) (r_mov rfl) ?_
 refine o_vg (v:=.int .i64 d4) (want_cf (t:=25) rfl rfl) (fun hk=>(r_mov rfl)) rfl rfl ?_
 refine o_vg (v:=.pointer (some ⟨b10,1,none⟩)) (want_cf (t:=25) rfl rfl) (fun hk=>(r_fa fld_ouroborosref16_Buffer_1 rfl rfl)) rfl rfl ?_
 refine o_vg (v:=.int .i64 x25.first) (want_cf (t:=25) rfl rfl) (fun hk=>(r_ld one_int (gdT hk) (B36'.cell rfl))) rfl rfl ?_
 refine o_vg (v:=.pointer (some ⟨b10,2,none⟩)) (want_cf (t:=25) rfl rfl) (fun hk=>(r_fa fld_ouroborosref16_Buffer_2 rfl rfl)) rfl rfl ?_
 refine o_vg (v:=.slice A33 x25.names.length c34) (want_cf (t:=25) rfl rfl) (fun hk=>(r_ld one_s_ouroborosref16_Name (gdT hk) (B36'.cell rfl))) rfl rfl ?_
 refine o_vg (v:=.int .i64 (x25.names.length:Int)) (want_cf (t:=25) rfl rfl) (fun hk=>(r_len_slc un_s_ouroborosref16_Name (gdT hk))) rfl rfl ?_
 refine o_vg (v:=.int .i64 (IntKind.i64.wrap (x25.first + (x25.names.length:Int)))) (want_cf (t:=25) rfl rfl) (fun hk=>(r_int (gdT hk) (gdT hk) rfl)) rfl rfl ?_
 refine o_vg (v:=.bool (decide ((IntKind.i64.wrap (x25.first + (x25.names.length:Int)))<d4))) (want_cf (t:=25) rfl rfl) (fun hk=>(r_int (gdT hk) (gdT hk) rfl)) rfl rfl ?_
 refine o_w (v:=.bool (((x25.epoch != d3)||(decide (d4≤x25.first)))||(decide ((IntKind.i64.wrap (x25.first + (x25.names.length:Int)))<d4)))) (r_pickOr rfl rfl (fun hf=>(gdT (notT hf)))) ?_
 refine eo_nil_sq ?_
 refine ec_cond rfl (fun hc42=>?_) (fun hc42=>?_)
 ·replace h:=h.1 hc42
  refine ec_seq ?_
  refine ec_region ?_
  refine o_w (v:=.agg (cBuf x25 A33 c34).toArray) (r_lda agg_ouroborosref16_Buffer rfl (vs:=(cBuf x25 A33 c34)) rfl (B36'.part (n:=3) rfl)) ?_
  refine o_store rfl B41 (vs:=(cBuf x25 A33 c34)) rfl sz_ouroborosref16_Buffer rfl rfl rfl ?_
  intro w43 F43 B43
  have E44:=Ext.st E37 F43 (by simp; omega)
  have G47:Fr (b17::(b10::L)) w25 w43:=G40.stp F43 (upc (.inl (List.Mem.head _)) (fun m hm=>by cases hm))
  have B43':Blk w43 b17 _ (cBuf x25 A33 c34):=B43
  refine eo_nil_sq ?_
  refine ec_ret ?_
  refine sq_ret ?_
  replace h:=h.symm
  subst h
  exact (endr1 (rv_a rfl (agg_ouroborosref16_Buffer) B43' (vs:=(cBuf x25 A33 c34)) rfl rfl) ⟨_,rfl,E44,_,rfl,(kBuf_mk (d:=x25) (H35.up G47 (fun _ h=>h) (fun m hm=>Or.inl (List.Mem.tail _ (List.Mem.tail _ hm)))))⟩)
 ·replace h:=h.2 hc42
  refine ec_skip ?_
  refine sq_n ?_
  refine ec_seq ?_
  refine ec_region ?_
  refine o_w (v:=.pointer (some ⟨b10,2,none⟩)) (r_fa fld_ouroborosref16_Buffer_2 rfl rfl) ?_
  refine o_w (v:=.slice A33 x25.names.length c34) (r_ld one_s_ouroborosref16_Name rfl (B36'.cell rfl)) ?_
  refine o_w (v:=.int .i64 d4) (r_mov rfl) ?_
  refine o_w (v:=.pointer (some ⟨b10,1,none⟩)) (r_fa fld_ouroborosref16_Buffer_1 rfl rfl) ?_
  refine o_w (v:=.int .i64 x25.first) (r_ld one_int rfl (B36'.cell rfl)) ?_
  refine o_w (v:=.int .i64 (IntKind.i64.wrap (d4 - x25.first))) (r_int rfl rfl rfl) ?_
  obtain ⟨ha49,h⟩:=h
  have H50:=Stb.cutL (H35.fr G40 (fun _ h=>h)) ha49.1 ha49.2.1 ha49.2.2
  refine o_w (v:=.slice (slA A33 c34 (IntKind.i64.wrap (d4 - x25.first)).toNat kNm.n) (cutL x25.names (IntKind.i64.wrap (d4 - x25.first)) (x25.names.length:Int)).length (c34 - (IntKind.i64.wrap (d4 - x25.first)).toNat)) (r_sl_slc slc_s_ouroborosref16_Name rfl rfl ⟨_,rfl⟩ rfl ha49.1 ha49.2.1 ha49.2.2 (H35.fr G40 (fun _ h=>h)).now.1) ?_
  refine o_w (v:=.pointer (some ⟨b10,2,none⟩)) (r_fa fld_ouroborosref16_Buffer_2 rfl rfl) ?_
  refine o_store rfl B36' (vs:=[.slice (slA A33 c34 (IntKind.i64.wrap (d4 - x25.first)).toNat kNm.n) (cutL x25.names (IntKind.i64.wrap (d4 - x25.first)) (x25.names.length:Int)).length (c34 - (IntKind.i64.wrap (d4 - x25.first)).toNat)]) rfl sz_s_ouroborosref16_Name rfl rfl rfl ?_
  intro w51 F51 B51
  have E52:=Ext.st E37 F51 (by simp; omega)
  have G56:Fr (b17::(b10::L)) w36 w51:=(Fr.refl _ _).stp F51 (upc (.inl (List.Mem.tail _ (List.Mem.head _))) (fun m hm=>by cases hm))
  have B57:=B41.fr F51 (by simp; omega)
  have B51':Blk w51 b10 _ [.int .i64 x25.epoch,.int .i64 x25.first,.slice (slA A33 c34 (IntKind.i64.wrap (d4 - x25.first)).toNat kNm.n) (cutL x25.names (IntKind.i64.wrap (d4 - x25.first)) (x25.names.length:Int)).length (c34 - (IntKind.i64.wrap (d4 - x25.first)).toNat)]:=B51
  refine eo_nil_sq ?_
  refine ec_seq ?_
  refine ec_region ?_
  refine o_w (v:=.int .i64 d4) (r_mov rfl) ?_
  refine o_w (v:=.pointer (some ⟨b10,1,none⟩)) (r_fa fld_ouroborosref16_Buffer_1 rfl rfl) ?_
  refine o_store rfl B51' (vs:=[.int .i64 d4]) rfl sz_int rfl rfl rfl ?_
  intro w58 F58 B58
  have E59:=Ext.st E52 F58 (by simp; omega)
  have G63:Fr (b17::(b10::L)) w36 w58:=G56.stp F58 (upc (.inl (List.Mem.tail _ (List.Mem.head _))) (fun m hm=>by cases hm))
  have B64:=B57.fr F58 (by simp; omega)
  have B58':Blk w58 b10 _ [.int .i64 x25.epoch,.int .i64 d4,.slice (slA A33 c34 (IntKind.i64.wrap (d4 - x25.first)).toNat kNm.n) (cutL x25.names (IntKind.i64.wrap (d4 - x25.first)) (x25.names.length:Int)).length (c34 - (IntKind.i64.wrap (d4 - x25.first)).toNat)]:=B58
  refine eo_nil_sq ?_
  refine ec_seq ?_
  refine ec_region ?_
  refine o_w (v:=.agg #[.int .i64 x25.epoch,.int .i64 d4,.slice (slA A33 c34 (IntKind.i64.wrap (d4 - x25.first)).toNat kNm.n) (cutL x25.names (IntKind.i64.wrap (d4 - x25.first)) (x25.names.length:Int)).length (c34 - (IntKind.i64.wrap (d4 - x25.first)).toNat)]) (r_lda agg_ouroborosref16_Buffer rfl (vs:=[.int .i64 x25.epoch,.int .i64 d4,.slice (slA A33 c34 (IntKind.i64.wrap (d4 - x25.first)).toNat kNm.n) (cutL x25.names (IntKind.i64.wrap (d4 - x25.first)) (x25.names.length:Int)).length (c34 - (IntKind.i64.wrap (d4 - x25.first)).toNat)]) rfl (B58'.part (n:=3) rfl)) ?_
  refine o_store rfl B64 (vs:=[.int .i64 x25.epoch,.int .i64 d4,.slice (slA A33 c34 (IntKind.i64.wrap (d4 - x25.first)).toNat kNm.n) (cutL x25.names (IntKind.i64.wrap (d4 - x25.first)) (x25.names.length:Int)).length (c34 - (IntKind.i64.wrap (d4 - x25.first)).toNat)]) rfl sz_ouroborosref16_Buffer rfl rfl rfl ?_
  intro w65 F65 B65
  have E66:=Ext.st E59 F65 (by simp; omega)
  have G70:Fr (b17::(b10::L)) w36 w65:=G63.stp F65 (upc (.inl (List.Mem.head _)) (fun m hm=>by cases hm))
  have B65':Blk w65 b17 _ [.int .i64 x25.epoch,.int .i64 d4,.slice (slA A33 c34 (IntKind.i64.wrap (d4 - x25.first)).toNat kNm.n) (cutL x25.names (IntKind.i64.wrap (d4 - x25.first)) (x25.names.length:Int)).length (c34 - (IntKind.i64.wrap (d4 - x25.first)).toNat)]:=B65
  refine eo_nil_sq ?_
  refine ec_ret ?_
  subst h
  exact (endr1 (rv_a rfl (agg_ouroborosref16_Buffer) B65' (vs:=[.int .i64 x25.epoch,.int .i64 d4,.slice (slA A33 c34 (IntKind.i64.wrap (d4 - x25.first)).toNat kNm.n) (cutL x25.names (IntKind.i64.wrap (d4 - x25.first)) (x25.names.length:Int)).length (c34 - (IntKind.i64.wrap (d4 - x25.first)).toNat)]) rfl rfl) ⟨_,rfl,E66,_,rfl,(kBuf_mk (d:=(⟨x25.epoch,d4,(cutL x25.names (IntKind.i64.wrap (d4 - x25.first)) (x25.names.length:Int))⟩:Buf)) (H50.up G70 (fun _ h=>h) (fun m hm=>Or.inl (List.Mem.tail _ (List.Mem.tail _ hm)))))⟩)
def ref16_Some_b32 (d1:Arena) (d3:Int) (x17:Buf) (s32:List Ent × Int) (z32:(List Ent × Int) ⊕ (List Ent × Int)):Prop :=
 (((decide (s32.2<(x17.names.length:Int)))&&(decide (s32.2<d3)))=true→((0≤s32.2∧s32.2<(x17.names.length:Int))∧((0≤s32.2∧s32.2<(x17.names.length:Int))∧(sma d1∧(∃ x73,x73=(findA d1 ((nth x17.names s32.2).kind) ((nth x17.names s32.2).key))∧((0≤x73∧x73<(d1.slots.length:Int))∧((s32.1.length + 1≤9223372036854775807∧(s32.1.length + 1) * 120≤140737488355328)∧(z32=.inl ((s32.1++([(nth d1.slots x73)]:List Ent)),(IntKind.i64.wrap (s32.2 + (1:Int))))))))))))∧(((decide (s32.2<(x17.names.length:Int)))&&(decide (s32.2<d3)))=false→(z32=.inr (s32.1,s32.2)))
def ref16_Some_raw (d0:Buf) (d1:Arena) (d2:Int) (d3:Int) (y:(List Ent)):Prop :=
 ∃ x17,ref16_Mend_raw d0 d1 d2 x17∧(∃ x32,LoopR (ref16_Some_b32 d1 d3 x17) (([]:List Ent),(0:Int)) x32∧(y=x32.1))
set_option maxRecDepth 20000 in
set_option maxHeartbeats 4000000 in
theorem ref16_Some_c {L:List Nat} {w:World} {csP0:List Value} (d0:Buf) (HP0:Stb L w (fun w=>kBuf.r w csP0 d0)) {csP1:List Value} (d1:Arena) (HP1:Stb L w (fun w=>kArena.r w csP1 d1)) (d2:Int) (d3:Int) (hL:Lt L w) {y:(List Ent)} (h:ref16_Some_raw d0 d1 d2 d3 y) :
  Calls Tryz.prog 22 [.agg csP0.toArray,.agg csP1.toArray,.int .i64 d2,.int .i64 d3].toArray w (Ret fun v w'=>Ext w w'∧∃ (A90:Option Addr) (c90:Nat),v=.slice A90 (y).length c90∧Stb L w' (fun w=>SlC kEnt w A90 c90 y)):=by
 obtain ⟨A1,c2,rfl,H3⟩:=kBuf_open HP0
 obtain ⟨A4,c5,A7,c8,rfl,H6,H9⟩:=kArena_open HP1
 unfold ref16_Some_raw at h
 refine calls_ec Tryz.func22 rfl rfl rfl ?_
 refine ec_seq ?_
 refine ec_region ?_
 refine o_box (cs:=(cBuf d0 A1 c2)) rfl rfl rfl ?_
 intro b10 w10 e10 F10 B10
 have n10:w.heap.size≤b10:=Nat.le_of_eq e10.symm
 have m11:w.heap.size≤b10:=Nat.le_of_eq e10.symm
 have G12:Fr L w w10:=Fr.ext F10
 refine o_box (cs:=(cArena d1 A4 c5 A7 c8)) rfl rfl rfl ?_
 intro b13 w13 e13 F13 B13
 have S13:=B13.stb (nin ((hL.fr F10).cons B10.lt) e13)
 have E14:=F10.trans F13
 refine o_w (v:=.slice none ([]:List Ent).length 0) (r_asg rfl) ?_
 refine eo_nil_sq ?_
 refine ec_seq ?_
 refine ec_region ?_
 refine o_w (v:=.slice none ([]:List Ent).length 0) (r_asg rfl) ?_
 refine eo_nil_sq ?_
 refine ec_seq ?_
 refine ec_region ?_
 refine o_w (v:=.agg (cBuf d0 A1 c2).toArray) (r_lda agg_ouroborosref16_Buffer rfl (vs:=(cBuf d0 A1 c2)) rfl ((B10.ex F13).part (n:=3) rfl)) ?_
 refine o_w (v:=.agg (cArena d1 A4 c5 A7 c8).toArray) (r_lda agg_api_Arena rfl (vs:=(cArena d1 A4 c5 A7 c8)) rfl (S13.now.part (n:=3) rfl)) ?_
 refine o_w (v:=.int .i64 d2) (r_mov rfl) ?_
 obtain ⟨x17,hx17,h⟩:=h
 refine o_call cf_ref16_Mend rfl (ref16_Mend_c d0 (kBuf_mk (d:=d0) (H3.up (G12.trans (Fr.ext F13)) (fun _ h=>h) (upc (.inr m11) (fun _ h=>.inl h)))) d1 (kArena_mk (d:=d1) (H6.up (G12.trans (Fr.ext F13)) (fun _ h=>h) (upc (.inr m11) (fun _ h=>.inl h))) (H9.up (G12.trans (Fr.ext F13)) (fun _ h=>h) (upc (.inr m11) (fun _ h=>.inl h)))) d2 ((hL.fr E14).cons (B10.ex F13).lt) hx17) rfl rfl ?_
 rintro _ w17 ⟨F17,cs18,rfl,H19⟩
 have E20:=E14.trans F17
 have G22:Fr (b10::L) w13 w17:=Fr.ext F17
 obtain ⟨A24,c25,rfl,H26⟩:=kBuf_open H19
 refine o_store rfl ((B10.ex F13).ex F17) (vs:=(cBuf x17 A24 c25)) rfl sz_ouroborosref16_Buffer rfl rfl rfl ?_
 intro w27 F27 B27
 have E28:=Ext.st E20 F27 (by simp; omega)
 have G29:Fr L w w27:=((G12.trans (Fr.ext F13)).trans (Fr.ext F17)).stp F27 (upc (.inr m11) (fun m hm=>by cases hm))
 have G30:Fr (b10::L) w13 w27:=G22.stp F27 (upc (.inl (List.Mem.head _)) (fun m hm=>by cases hm))
 have G31:Fr (b10::L) w17 w27:=(Fr.refl _ _).stp F27 (upc (.inl (List.Mem.head _)) (fun m hm=>by cases hm))
 have B27':Blk w27 b10 _ (cBuf x17 A24 c25):=B27
 refine eo_nil_sq ?_
 iterate 2 refine ec_seq ?_
 refine ec_region ?_
 refine o_w (v:=.int .i64 (0:Int)) (r_asg rfl) ?_
 refine eo_nil_sq ?_
 refine ec_block ?_
 have lo33:w.heap.size≤w27.heap.size:=E28.size
 have O33:=OwnS.nil (k:=kEnt) (e:=57) (by decide) ((hL.fr E28).cons B27'.lt)
 obtain ⟨x32,hl32,h⟩:=h
 refine ec_loopE 0 (I:=(fun (s32:List Ent × Int) ρ ds w'=>∃ (ρ':Env) (v32i1:Value),ρ=envs ρ' [(9,v32i1),(10,.int .i64 s32.2),(3,.int .i64 d3),(4,.pointer (some ⟨b10,0,none⟩)),(5,.pointer (some ⟨b13,0,none⟩))]∧ds=[]∧Fr (own (.slice none 0 0)++(b10::L)) w27 w'∧Ext w w'∧OwnS kEnt (w27.heap.size) 57 (b10::L) w' v32i1 s32.1∧(∀ q∈own v32i1,q∈(own (.slice none 0 0)++(b10::L))∨w27.heap.size≤q)∧Blk w' b10 43 (cBuf x17 A24 c25))) ?_ hl32 ?_ ?_
 ·intro s32 z32 ρ32 ds32 w32r hI32 hb32
  obtain ⟨ρ32r,v32r1,rfl,rfl,F32r,E32r,O32r1,N32r1,B32rb10⟩:=hI32
  have h:=hb32
  unfold ref16_Some_b32 at h
  have G34:Fr L w w32r:=G29.stp F32r (upo (fun m hm=>by cases hm) (upc (.inr m11) (fun _ h=>.inl h)))
  have G35:Fr (b10::L) w13 w32r:=G30.stp F32r (upo (fun m hm=>by cases hm) (upc (.inl (List.Mem.head _)) (fun m hm=>Or.inl (List.Mem.tail _ hm))))
  have G36:Fr (b10::L) w17 w32r:=G31.stp F32r (upo (fun m hm=>by cases hm) (upc (.inl (List.Mem.head _)) (fun m hm=>Or.inl (List.Mem.tail _ hm))))
  have P37:∀ m∈own v32r1,m∈L∨w.heap.size≤m:=fun m hm=>(N32r1 m hm).elim (fun h=>(show ∀ m∈(own (.slice none 0 0)++(b10::L)),m∈L∨w.heap.size≤m from (upo (fun m hm=>by cases hm) (upc (.inr m11) (fun _ h=>.inl h)))) m h) (fun h=>.inr (Nat.le_trans (G29.size) h))
  have P39:∀ m∈own v32r1,m∈(b10::L)∨w17.heap.size≤m:=fun m hm=>(N32r1 m hm).elim (fun h=>(show ∀ m∈(own (.slice none 0 0)++(b10::L)),m∈(b10::L)∨w17.heap.size≤m from (upo (fun m hm=>by cases hm) (upc (.inl (List.Mem.head _)) (fun m hm=>Or.inl (List.Mem.tail _ hm))))) m h) (fun h=>.inr (Nat.le_trans (G31.size) h))
  iterate 2 refine ec_seq ?_
  refine ec_region ?_
  refine o_w (v:=.int .i64 s32.2) (r_mov rfl) ?_
  refine o_w (v:=.pointer (some ⟨b10,2,none⟩)) (r_fa fld_ouroborosref16_Buffer_2 rfl rfl) ?_
  refine o_w (v:=.slice A24 x17.names.length c25) (r_ld one_s_ouroborosref16_Name rfl (B32rb10.cell rfl)) ?_
  refine o_w (v:=.int .i64 (x17.names.length:Int)) (r_len_slc un_s_ouroborosref16_Name rfl) ?_
  refine o_w (v:=.bool (decide (s32.2<(x17.names.length:Int)))) (r_int rfl rfl rfl) ?_
  refine o_w (v:=.bool (decide (s32.2<(x17.names.length:Int)))) (r_mov rfl) ?_
  refine o_vg (v:=.int .i64 s32.2) (want_ct (t:=20) rfl rfl) (fun hk=>(r_mov rfl)) rfl rfl ?_
  refine o_vg (v:=.int .i64 d3) (want_ct (t:=20) rfl rfl) (fun hk=>(r_mov rfl)) rfl rfl ?_
  refine o_vg (v:=.bool (decide (s32.2<d3))) (want_ct (t:=20) rfl rfl) (fun hk=>(r_int (gdT hk) (gdT hk) rfl)) rfl rfl ?_
  refine o_w (v:=.bool ((decide (s32.2<(x17.names.length:Int)))&&(decide (s32.2<d3)))) (r_pickAnd rfl (fun ht=>(gdT ht)) rfl) ?_
  refine eo_nil_sq ?_
  refine ec_cond rfl (fun hc40=>?_) (fun hc40=>?_)
  ·replace h:=h.1 hc40
   refine ec_skip ?_
   refine sq_n ?_
   refine ec_seq ?_
   refine ec_block ?_
   obtain ⟨ha63,h⟩:=h
   obtain ⟨cs64,l66,H65⟩:=Stb.elem (by decide) (H26.up G36 (fun _ h=>h) (upo P39 (upc (.inl (List.Mem.head _)) (fun m hm=>Or.inl (List.Mem.tail _ hm))))) s32.2 ha63.1 ha63.2
   obtain ⟨rfl,H67⟩:=kNm_open2 H65
   obtain ⟨ha68,h⟩:=h
   obtain ⟨cs69,l71,H70⟩:=Stb.elem (by decide) (H26.up G36 (fun _ h=>h) (upo P39 (upc (.inl (List.Mem.head _)) (fun m hm=>Or.inl (List.Mem.tail _ hm))))) s32.2 ha68.1 ha68.2
   obtain ⟨rfl,H72⟩:=kNm_open2 H70
   obtain ⟨ha74,h⟩:=h
   obtain ⟨x73,hx73,h⟩:=h
   obtain ⟨ha75,h⟩:=h
   obtain ⟨cs76,l78,H77⟩:=Stb.elem (by decide) (H6.up G34 (fun _ h=>h) (upo P37 (upc (.inr m11) (fun _ h=>.inl h)))) x73 ha75.1 ha75.2
   obtain ⟨A80,c81,A83,c84,rfl,H79,H82,H85⟩:=kEnt_open2 H77
   obtain ⟨ha86,h⟩:=h
   refine ec_anyN (by kernel_rfl) [[],[],[1],[],[],[4],[],[4,5,6],[4,5,6,7],[4,5,6,7,8],[],[10],[],[10,11,12],[10,11,12,13],[10,11,12,13,14],[3,4,5,6,7,8,9,10,11,12,13,14,15],[1,2,3,4,5,6,7,8,9,10,11,12,13,14,15,16],[1,2,3,4,5,6,7,8,9,10,11,12,13,14,15,16,17],[1,2,3,4,5,6,7,8,9,10,11,12,13,14,15,16,17,18],[0,1,2,3,4,5,6,7,8,9,10,11,12,13,14,15,16,17,18,19],[0,1,2,3,4,5,6,7,8,9,10,11,12,13,14,15,16,17,18,19,20]] [9,27,28,29,30,31,32,33,34,35,36,37,38,39,40,41,42,43,44,45,46,47] (own v32r1++[]) [20] [own v32r1] [[20,21]] [fun w'=>OwnS kEnt (w27.heap.size) 57 (b10::L) w' v32r1 s32.1,fun _=>True] [fun v _=>v=(v32r1:Value),fun v _=>v=(.pointer (some ⟨b13,1,none⟩):Value),fun v _=>v=(.slice A4 d1.slots.length c5:Value),fun v _=>v=(.agg (cArena d1 A4 c5 A7 c8).toArray:Value),fun v _=>v=(.pointer (some ⟨b10,2,none⟩):Value),fun v _=>v=(.slice A24 x17.names.length c25:Value),fun v _=>v=(.int .i64 s32.2:Value),fun v _=>v=(.pointer (some (elemA A24 kNm.n s32.2.toNat)):Value),fun v _=>v=(.pointer (some (ad (elemA A24 kNm.n s32.2.toNat) 0)):Value),fun v _=>v=(.int .i64 ((nth x17.names s32.2).kind):Value),fun v _=>v=(.pointer (some ⟨b10,2,none⟩):Value),fun v _=>v=(.slice A24 x17.names.length c25:Value),fun v _=>v=(.int .i64 s32.2:Value),fun v _=>v=(.pointer (some (elemA A24 kNm.n s32.2.toNat)):Value),fun v _=>v=(.pointer (some (ad (elemA A24 kNm.n s32.2.toNat) 1)):Value),fun v _=>v=(str ((nth x17.names s32.2).key):Value),fun v _=>v=(.int .i64 x73:Value),fun v _=>v=(.pointer (some (elemA A4 kEnt.n x73.toNat)):Value),fun v _=>v=(.agg (cEnt (nth d1.slots x73) A80 c81 A83 c84).toArray:Value),fun v w'=>∃ b62_19,v=(.slice (some ⟨b62_19,0,none⟩) 1 1:Value)∧Blk w' b62_19 57 [str ((nth d1.slots x73).key),.int .i64 (((nth d1.slots x73).val).kind),.int .i64 (((nth d1.slots x73).val).time),.int .i64 (((nth d1.slots x73).val).node),.bool (((nth d1.slots x73).val).dead),str (((nth d1.slots x73).val).text),.slice A80 (((nth d1.slots x73).val).plus).length c81,.slice A83 (((nth d1.slots x73).val).minus).length c84,.int .u64 (((nth d1.slots x73).val).flags)]∧w32r.heap.size≤b62_19,fun v w'=>∃ v62_20,v=(v62_20:Value)∧OwnS kEnt (w27.heap.size) 57 (b10::L) w' v62_20 (s32.1++([(nth d1.slots x73)]:List Ent))∧(∀ q∈own v62_20,q∈own v32r1∨w32r.heap.size≤q),fun v w'=>∃ v62_20,v=(v62_20:Value)∧OwnS kEnt (w27.heap.size) 57 (b10::L) w' v62_20 (s32.1++([(nth d1.slots x73)]:List Ent))∧(∀ q∈own v62_20,q∈own v32r1∨w32r.heap.size≤q)] (by kernel_rfl) (allM1 (fun m hm=>by first | exact hm | (simp at hm ⊢; simp [hm]; done) | simp_all) (fun _ h=>by cases h)) ⟨fun _ _ _ _ _ h=>h,fun _ _ _ _ _ h=>h,fun _ _ _ _ _ h=>h,fun _ _ _ _ _ h=>h,fun _ _ _ _ _ h=>h,fun _ _ _ _ _ h=>h,fun _ _ _ _ _ h=>h,fun _ _ _ _ _ h=>h,fun _ _ _ _ _ h=>h,fun _ _ _ _ _ h=>h,fun _ _ _ _ _ h=>h,fun _ _ _ _ _ h=>h,fun _ _ _ _ _ h=>h,fun _ _ _ _ _ h=>h,fun _ _ _ _ _ h=>h,fun _ _ _ _ _ h=>h,fun _ _ _ _ _ h=>h,fun _ _ _ _ _ h=>h,fun _ _ _ _ _ h=>h,fun _ v w' w'' F h=>by obtain ⟨b62_19,hv,B62_19,qB62_19⟩:=h; exact ⟨b62_19,hv,(B62_19.ex F),qB62_19⟩,fun _ v w' w'' F h=>by obtain ⟨v62_20,hv,O62_20,NO62_20⟩:=h; exact ⟨v62_20,hv,(O62_20.ex F),NO62_20⟩,fun _ v w' w'' F h=>by obtain ⟨v62_20,hv,O62_20,NO62_20⟩:=h; exact ⟨v62_20,hv,(O62_20.ex F),NO62_20⟩,trivial⟩ ⟨⟨fun _ _ _ _ _ h=>h,fun _ _ _ _ _ h=>h,fun _ _ _ _ _ h=>h,fun _ _ _ _ _ h=>h,fun _ _ _ _ _ h=>h,fun _ _ _ _ _ h=>h,fun _ _ _ _ _ h=>h,fun _ _ _ _ _ h=>h,fun _ _ _ _ _ h=>h,fun _ _ _ _ _ h=>h,fun _ _ _ _ _ h=>h,fun _ _ _ _ _ h=>h,fun _ _ _ _ _ h=>h,fun _ _ _ _ _ h=>h,fun _ _ _ _ _ h=>h,fun _ _ _ _ _ h=>h,fun _ _ _ _ _ h=>h,fun _ _ _ _ _ h=>h,fun _ _ _ _ _ h=>h,fun _ v w' w'' F h=>by obtain ⟨b62_19,hv,B62_19,qB62_19⟩:=h; exact ⟨b62_19,hv,(B62_19.fr F (fun hm=>by have h1:=O32r1.ltw _ hm; omega)),qB62_19⟩,(fun h=>absurd h (by decide)),(fun h=>absurd h (by decide)),trivial⟩,trivial⟩ ⟨fun w' w'' F h=>by have hO62_33:=h; exact (hO62_33.ex F),fun _ _ _ h=>h,trivial⟩ O32r1 ?_ ?_ ?_
   ·refine ⟨?_,?_,?_,?_,?_,?_,?_,?_,?_,?_,?_,?_,?_,?_,?_,?_,?_,?_,?_,?_,?_,?_,trivial⟩
    ·intro _ ρ w62o F62o hX hS hρ
     have F62o:=hX 20 rfl rfl
     have q9:ρ 9=v32r1:=hρ 9 (by kernel_rfl)
     exact o_q (r_mov q9) ⟨Fr.refl _ _,rfl⟩
    ·intro _ ρ w62o F62o hX hS hρ
     have F62o:=hX 20 rfl rfl
     have q5:ρ 5=.pointer (some ⟨b13,0,none⟩):=hρ 5 (by kernel_rfl)
     exact o_q (r_fa fld_api_Arena_1 rfl q5) ⟨Fr.refl _ _,rfl⟩
    ·intro _ ρ w62o F62o hX hS hρ
     have F62o:=hX 20 rfl rfl
     have q28:ρ 28=.pointer (some ⟨b13,1,none⟩):=hS 1 (by decide) 28 rfl
     exact o_q (r_ld one_s_api_Entry q28 ((S13.fr (G35.trans (Fr.ext F62o)) (fun _ h=>h)).now.cell rfl)) ⟨Fr.refl _ _,rfl⟩
    ·intro _ ρ w62o F62o hX hS hρ
     have F62o:=hX 20 rfl rfl
     have q5:ρ 5=.pointer (some ⟨b13,0,none⟩):=hρ 5 (by kernel_rfl)
     exact o_q (r_lda agg_api_Arena q5 (vs:=(cArena d1 A4 c5 A7 c8)) rfl ((S13.fr (G35.trans (Fr.ext F62o)) (fun _ h=>h)).now.part (n:=3) rfl)) ⟨Fr.refl _ _,rfl⟩
    ·intro _ ρ w62o F62o hX hS hρ
     have F62o:=hX 20 rfl rfl
     have q4:ρ 4=.pointer (some ⟨b10,0,none⟩):=hρ 4 (by kernel_rfl)
     exact o_q (r_fa fld_ouroborosref16_Buffer_2 rfl q4) ⟨Fr.refl _ _,rfl⟩
    ·intro _ ρ w62o F62o hX hS hρ
     have F62o:=hX 20 rfl rfl
     have q31:ρ 31=.pointer (some ⟨b10,2,none⟩):=hS 4 (by decide) 31 rfl
     exact o_q (r_ld one_s_ouroborosref16_Name q31 ((B32rb10.ex F62o).cell rfl)) ⟨Fr.refl _ _,rfl⟩
    ·intro _ ρ w62o F62o hX hS hρ
     have F62o:=hX 20 rfl rfl
     have q10:ρ 10=.int .i64 s32.2:=hρ 10 (by kernel_rfl)
     exact o_q (r_mov q10) ⟨Fr.refl _ _,rfl⟩
    ·intro _ ρ w62o F62o hX hS hρ
     have F62o:=hX 20 rfl rfl
     have q32:ρ 32=.slice A24 x17.names.length c25:=hS 5 (by decide) 32 rfl
     have q33:ρ 33=.int .i64 s32.2:=hS 6 (by decide) 33 rfl
     exact o_q (r_ia slc_s_ouroborosref16_Name q32 q33 ((H26.fr (G36.trans (Fr.ext F62o)) (fun _ h=>h)).now.2 _ (lt_toNat ha63.1 ha63.2)).1 ha63.1 ha63.2) ⟨Fr.refl _ _,rfl⟩
    ·intro _ ρ w62o F62o hX hS hρ
     have F62o:=hX 20 rfl rfl
     have q34:ρ 34=.pointer (some (elemA A24 kNm.n s32.2.toNat)):=hS 7 (by decide) 34 rfl
     exact o_q (r_fad fld_ouroborosref16_Name_0 (elemA_spot _ _ _) q34) ⟨Fr.refl _ _,rfl⟩
    ·intro _ ρ w62o F62o hX hS hρ
     have F62o:=hX 20 rfl rfl
     have G124:Fr (own v32r1++(b10::L)) w32r w62o:=Fr.ext F62o
     have q35:ρ 35=.pointer (some (ad (elemA A24 kNm.n s32.2.toNat) 0)):=hS 8 (by decide) 35 rfl
     exact o_q (r_ld' one_int q35 rfl ((H67.fr G124 (fun _ h=>h)).now.1.at (j:=0) rfl)) ⟨Fr.refl _ _,rfl⟩
    ·intro _ ρ w62o F62o hX hS hρ
     have F62o:=hX 20 rfl rfl
     have q4:ρ 4=.pointer (some ⟨b10,0,none⟩):=hρ 4 (by kernel_rfl)
     exact o_q (r_fa fld_ouroborosref16_Buffer_2 rfl q4) ⟨Fr.refl _ _,rfl⟩
    ·intro _ ρ w62o F62o hX hS hρ
     have F62o:=hX 20 rfl rfl
     have q37:ρ 37=.pointer (some ⟨b10,2,none⟩):=hS 10 (by decide) 37 rfl
     exact o_q (r_ld one_s_ouroborosref16_Name q37 ((B32rb10.ex F62o).cell rfl)) ⟨Fr.refl _ _,rfl⟩
    ·intro _ ρ w62o F62o hX hS hρ
     have F62o:=hX 20 rfl rfl
     have q10:ρ 10=.int .i64 s32.2:=hρ 10 (by kernel_rfl)
     exact o_q (r_mov q10) ⟨Fr.refl _ _,rfl⟩
    ·intro _ ρ w62o F62o hX hS hρ
     have F62o:=hX 20 rfl rfl
     have q38:ρ 38=.slice A24 x17.names.length c25:=hS 11 (by decide) 38 rfl
     have q39:ρ 39=.int .i64 s32.2:=hS 12 (by decide) 39 rfl
     exact o_q (r_ia slc_s_ouroborosref16_Name q38 q39 ((H26.fr (G36.trans (Fr.ext F62o)) (fun _ h=>h)).now.2 _ (lt_toNat ha68.1 ha68.2)).1 ha68.1 ha68.2) ⟨Fr.refl _ _,rfl⟩
    ·intro _ ρ w62o F62o hX hS hρ
     have F62o:=hX 20 rfl rfl
     have q40:ρ 40=.pointer (some (elemA A24 kNm.n s32.2.toNat)):=hS 13 (by decide) 40 rfl
     exact o_q (r_fad fld_ouroborosref16_Name_1 (elemA_spot _ _ _) q40) ⟨Fr.refl _ _,rfl⟩
    ·intro _ ρ w62o F62o hX hS hρ
     have F62o:=hX 20 rfl rfl
     have G148:Fr (own v32r1++(b10::L)) w32r w62o:=Fr.ext F62o
     have q41:ρ 41=.pointer (some (ad (elemA A24 kNm.n s32.2.toNat) 1)):=hS 14 (by decide) 41 rfl
     exact o_q (r_ld' one_string q41 rfl ((H72.fr G148 (fun _ h=>h)).now.1.at (j:=1) rfl)) ⟨Fr.refl _ _,rfl⟩
    ·intro _ ρ w62o F62o hX hS hρ
     have F62o:=hX 20 rfl rfl
     have E151:=E32r.trans F62o
     have q30:ρ 30=.agg (cArena d1 A4 c5 A7 c8).toArray:=hS 3 (by decide) 30 rfl
     have q36:ρ 36=.int .i64 ((nth x17.names s32.2).kind):=hS 9 (by decide) 36 rfl
     have q42:ρ 42=str ((nth x17.names s32.2).key):=hS 15 (by decide) 42 rfl
     refine o_call cf_ref08_Find (by simp only [List.map,ev,q30,q36,q42] <;> rfl) (ref08_Find_c d1 (kArena_mk (d:=d1) (H6.up (G34.trans (Fr.ext F62o)) (fun _ h=>h) (upo P37 (upc (.inr m11) (fun _ h=>.inl h)))) (H9.up (G34.trans (Fr.ext F62o)) (fun _ h=>h) (upo P37 (upc (.inr m11) (fun _ h=>.inl h))))) ((nth x17.names s32.2).kind) ((nth x17.names s32.2).key) (((hL.fr E151).cons (B32rb10.ex F62o).lt).own (O32r1.ex F62o)) (eq_ev hx73 (refFind_ev d1 ((nth x17.names s32.2).kind) ((nth x17.names s32.2).key) ha74))) rfl rfl ?_
     rintro _ w' ⟨F,rfl⟩
     exact eo_nil ⟨rfl,rfl,_,rfl,F,rfl⟩
    ·intro _ ρ w62o F62o hX hS hρ
     have F62o:=hX 20 rfl rfl
     have q29:ρ 29=.slice A4 d1.slots.length c5:=hS 2 (by decide) 29 rfl
     have q43:ρ 43=.int .i64 x73:=hS 16 (by decide) 43 rfl
     exact o_q (r_ia slc_s_api_Entry q29 q43 ((H6.fr (G34.trans (Fr.ext F62o)) (fun _ h=>h)).now.2 _ (lt_toNat ha75.1 ha75.2)).1 ha75.1 ha75.2) ⟨Fr.refl _ _,rfl⟩
    ·intro _ ρ w62o F62o hX hS hρ
     have F62o:=hX 20 rfl rfl
     have G172:Fr (own v32r1++(b10::L)) w32r w62o:=Fr.ext F62o
     have q44:ρ 44=.pointer (some (elemA A4 kEnt.n x73.toNat)):=hS 17 (by decide) 44 rfl
     exact o_q (r_lda' agg_api_Entry q44 (elemA_spot _ _ _) (vs:=(cEnt (nth d1.slots x73) A80 c81 A83 c84)) rfl ((H79.fr G172 (fun _ h=>h)).now.1)) ⟨Fr.refl _ _,rfl⟩
    ·intro _ ρ w62o F62o hX hS hρ
     have F62o:=hX 20 rfl rfl
     have q45:ρ 45=.agg (cEnt (nth d1.slots x73) A80 c81 A83 c84).toArray:=hS 18 (by decide) 45 rfl
     refine o_bslice slc_s_api_Entry rfl (vs:=[.agg (cEnt (nth d1.slots x73) A80 c81 A83 c84).toArray]) (by simp only [List.map,ev,idx,q45]) rfl rfl (cs:=[str ((nth d1.slots x73).key),.int .i64 (((nth d1.slots x73).val).kind),.int .i64 (((nth d1.slots x73).val).time),.int .i64 (((nth d1.slots x73).val).node),.bool (((nth d1.slots x73).val).dead),str (((nth d1.slots x73).val).text),.slice A80 (((nth d1.slots x73).val).plus).length c81,.slice A83 (((nth d1.slots x73).val).minus).length c84,.int .u64 (((nth d1.slots x73).val).flags)]) rfl rfl rfl rfl ?_
     intro b w' e F B
     exact eo_nil ⟨rfl,rfl,_,rfl,F,b,rfl,B,by rw [e]; exact F62o.size⟩
    ·intro hT; exact absurd hT (by decide)
    ·intro _ ρ w62o F62o hX hS hρ
     obtain ⟨v62_20,q47,O62_20,NO62_20⟩:=hS 20 (by decide) 47 rfl
     exact o_q (r_asg q47) ⟨Fr.refl _ _,⟨v62_20,rfl,O62_20,NO62_20⟩⟩
   ·refine ⟨⟨_,rfl,?_⟩,trivial⟩
    ·intro ρ w62o F62o hX hI hS hρ
     have F62o:=hX rfl
     have hO62_33:=hI
     have G180:Fr (own v32r1++(b10::L)) w32r w62o:=Fr.ext F62o
     have q27:ρ 27=v32r1:=hS 0 (by decide) 27 rfl
     obtain ⟨b62_19,q46,B62_19,qB62_19⟩:=hS 19 (by decide) 46 rfl
     refine o_app slc_s_api_Entry rfl rfl (show ev ρ _=_ from q27) hO62_33 (show ev ρ _=_ from q46) B62_19 (ys:=([(nth d1.slots x73)]:List Ent)) rfl rfl rfl (rowd1 (cs:=(cEnt (nth d1.slots x73) A80 c81 A83 c84)) (kEnt_mk (d:=(nth d1.slots x73)) (H82.fr G180 (fun _ h=>h)) (H85.fr G180 (fun _ h=>h))) rfl) ha86 rfl rfl ?_
     intro v' w' F O Nn
     have N':∀ q∈own v',q∈own v32r1∨w32r.heap.size≤q:=fun q hq=>(Nn q hq).elim .inl (fun h=>.inr (Nat.le_trans F62o.size h))
     exact eo_nil ⟨rfl,rfl,_,rfl,F,trivial,v',rfl,O,N'⟩
   ·intro ρ w62 F62 hI hS hρ
    obtain ⟨v62_20,q9,O62_20,NO62_20⟩:=hS 21 9 rfl
    obtain ⟨ρ',rfl⟩:∃ ρ',ρ=envs (ovr [9,27,28,29,30,31,32,33,34,35,36,37,38,39,40,41,42,43,44,45,46,47] ρ' _) [(9,v62_20)]:=⟨ρ,ovr_self hρ ⟨q9,trivial⟩⟩
    have E183:Ext w w62:=Ext.st E32r F62 (upo (fun m hm=>Nat.le_trans lo33 (O32r1.lo m hm)) (fun m hm=>by cases hm))
    have G190:Fr (own (.slice none 0 0)++(b10::L)) w27 w62:=Fr.stp F32r F62 (upo N32r1 (fun m hm=>by cases hm))
    have P191:∀ m∈own v62_20,m∈(own (.slice none 0 0)++(b10::L))∨w27.heap.size≤m:=fun m hm=>(NO62_20 m hm).elim (fun h=>(show ∀ m∈own v32r1,m∈(own (.slice none 0 0)++(b10::L))∨w27.heap.size≤m from N32r1) m h) (fun h=>.inr (Nat.le_trans (F32r.size) h))
    have B194:=B32rb10.fr F62 (fun hm=>(show ∀ m∈_,m≠b10 from (upo (fun m hm e=>(O32r1.below b10 (by simp)).2 (e ▸ hm)) (fun m hm=>by cases hm))) _ hm rfl)
    refine blk_n ?_
    refine sq_n ?_
    refine ec_region ?_
    refine o_w (v:=.int .i64 s32.2) (r_mov rfl) ?_
    refine o_w (v:=.int .i64 (IntKind.i64.wrap (s32.2 + (1:Int)))) (r_int rfl rfl rfl) ?_
    refine o_w (v:=.int .i64 (IntKind.i64.wrap (s32.2 + (1:Int)))) (r_asg rfl) ?_
    refine eo_nil ?_
    subst h
    exact lq_n ⟨_,v62_20,envs_self ⟨rfl,rfl,rfl,rfl,rfl,trivial⟩,rfl,G190,E183,O62_20,P191,B194⟩
  ·replace h:=h.2 hc40
   refine ec_exit ?_
   refine sq_exit ?_
   subst h
   exact lq_x ⟨_,v32r1,envs_self ⟨rfl,rfl,rfl,rfl,rfl,trivial⟩,rfl,F32r,E32r,O32r1,N32r1,B32rb10⟩
 ·exact ⟨_,(.slice none 0 0),envs_self ⟨rfl,rfl,rfl,rfl,rfl,trivial⟩,rfl,(Fr.refl _ _),E28,O33,(fun q hq=>.inl (by first | exact List.mem_append_left _ hq | simp [hq])),B27'⟩
 ·rintro ρ32e ds32e w32e ⟨ρ32e,v32e1,rfl,rfl,F32e,E32e,O32e1,N32e1,B32eb10⟩
  refine blk_hit ?_
  refine sq_n ?_
  refine ec_seq ?_
  refine ec_region ?_
  refine o_w (v:=v32e1) (r_mov rfl) ?_
  refine o_w (v:=v32e1) (r_asg rfl) ?_
  refine eo_nil_sq ?_
  refine ec_ret ?_
  obtain ⟨A201,c202,eA201,H203⟩:=O32e1.still
  subst eA201
  have Zw32e_204:=Fr.refl (b10::L) w32e
  subst h
  exact (end1 rfl ⟨_,rfl,E32e,_,_,rfl,(H203.up Zw32e_204 (fun _ h=>h) (fun m hm=>Or.inl (List.Mem.tail _ hm)))⟩)
end Go.Proofs.YthfkbabgkacfnaaGreat
