/- The law DeltaScans: what it comes to. -/
import Derived.Test.YthhjcijhanacnaaLh
namespace Go.Proofs.Ythhjcijhanacnaa
open Go Go.RowKit
set_option linter.unusedVariables false
set_option linter.unusedSimpArgs false
def law09_DeltaScans_b27 (d0:Arena) (s27:Int × Int) (z27:(Int × Int) ⊕ (Int × Int)):Prop :=
 ((decide (s27.2<(d0.slots.length:Int)))=true→((0≤s27.2∧s27.2<(d0.slots.length:Int))∧(sma d0∧(∃ x55,x55=(textU d0 ((nth d0.slots s27.2).key))∧((0≤s27.2∧s27.2<(d0.slots.length:Int))∧(sma d0∧(∃ x116,x116=(sumU d0 ((nth d0.slots s27.2).key))∧((0≤s27.2∧s27.2<(d0.slots.length:Int))∧(sma d0∧(∃ x183,x183=(flagsU d0 ((nth d0.slots s27.2).key))∧((0≤s27.2∧s27.2<(d0.slots.length:Int))∧(((((((((nth d0.slots s27.2).val).kind)==(1:Int))&&x55.2)||(((((nth d0.slots s27.2).val).kind)==(2:Int))&&x116.2))||(((((nth d0.slots s27.2).val).kind)==(3:Int))&&x183.2))=true→(z27=.inl ((IntKind.i64.wrap (s27.1 + (1:Int))),(IntKind.i64.wrap (s27.2 + (1:Int))))))∧((((((((nth d0.slots s27.2).val).kind)==(1:Int))&&x55.2)||(((((nth d0.slots s27.2).val).kind)==(2:Int))&&x116.2))||(((((nth d0.slots s27.2).val).kind)==(3:Int))&&x183.2))=false→(z27=.inl (s27.1,(IntKind.i64.wrap (s27.2 + (1:Int))))))))))))))))))∧((decide (s27.2<(d0.slots.length:Int)))=false→(z27=.inr (s27.1,s27.2)))
def law09_DeltaScans_b248 (d0:Arena) (x19:(List Ent)) (s248:Int) (z248:(Int) ⊕ ((Int) ⊕ (Bool))):Prop :=
 ((decide (s248<(x19.length:Int)))=true→(((((nth x19 s248).val).dead)=true→((0≤s248∧s248<(x19.length:Int))∧(z248=.inr (.inr false))))∧((((nth x19 s248).val).dead)=false→((0≤s248∧s248<(x19.length:Int))∧((0≤s248∧s248<(x19.length:Int))∧((0≤s248∧s248<(x19.length:Int))∧(sma d0∧(∃ x461,x461=(findA d0 (((nth x19 s248).val).kind) ((nth x19 s248).key))∧(((decide (x461<(0:Int)))=true→(z248=.inr (.inr false)))∧((decide (x461<(0:Int)))=false→(z248=.inl (IntKind.i64.wrap (s248 + (1:Int))))))))))))))∧((decide (s248<(x19.length:Int)))=false→(z248=.inr (.inl s248)))
def law09_DeltaScans_raw (d0:Arena) (y:Bool):Prop :=
 ((!(worksV))=true→(y=false))∧((!(worksV))=false→(((!(fewA d0))=true→(y=(worksV)))∧((!(fewA d0))=false→((sma d0)∧(∃ x19,x19=(scanU d0)∧(∃ x27,LoopR (law09_DeltaScans_b27 d0) ((0:Int),(0:Int)) x27∧(∃ x248,LoopR (law09_DeltaScans_b248 d0 x19) (0:Int) x248∧(∀ sx248,x248=.inl sx248→(y=(x27.1==(x19.length:Int))))∧(∀ y248,x248=.inr y248→(y=y248)))))))))
set_option maxRecDepth 20000 in
set_option maxHeartbeats 4000000 in
theorem law09_DeltaScans_c {L:List Nat} {w:World} {csP0:List Value} (d0:Arena) (HP0:Stb L w (fun w=>kArena.r w csP0 d0)) (hL:Lt L w) {y:Bool} (h:law09_DeltaScans_raw d0 y) :
  Calls Try.prog 5 [.agg csP0.toArray].toArray w (Ret fun v w'=>Ext w w'∧v=.bool y):=by
 obtain ⟨A1,c2,A4,c5,rfl,H3,H6⟩:=kArena_open HP0
 unfold law09_DeltaScans_raw at h
 refine calls_ec Try.func5 rfl rfl rfl ?_
 refine ec_seq ?_
 refine ec_region ?_
 refine o_box (cs:=(cArena d0 A1 c2 A4 c5)) rfl rfl rfl ?_
 intro b7 w7 e7 F7 B7
 have S7:=B7.stb (nin hL e7)
 have G8:Fr L w w7:=Fr.ext F7
 refine o_w (v:=.bool false) (r_asg rfl) ?_
 refine eo_nil_sq ?_
 refine ec_seq ?_
 refine ec_region ?_
 refine o_call cf_law09_works rfl (law09_works_c (hL.fr F7) (works9_ev)) rfl rfl ?_
 rintro _ w9 ⟨F9,rfl⟩
 have E10:=F7.trans F9
 have G12:Fr L w7 w9:=Fr.ext F9
 refine o_w (v:=.bool (worksV)) (r_asg rfl) ?_
 refine eo_nil_sq ?_
 iterate 2 refine ec_seq ?_
 refine ec_region ?_
 refine o_w (v:=.bool (worksV)) (r_mov rfl) ?_
 refine o_w (v:=.bool (!(worksV))) (r_not rfl) ?_
 refine eo_nil_sq ?_
 refine ec_cond rfl (fun hc13=>?_) (fun hc13=>?_)
 ·replace h:=h.1 hc13
  refine ec_seq ?_
  refine ec_region ?_
  refine o_w (v:=.bool false) (r_asg rfl) ?_
  refine eo_nil_sq ?_
  refine ec_ret ?_
  refine sq_ret ?_
  subst h
  exact (end1 rfl ⟨_,rfl,E10,rfl⟩)
 ·replace h:=h.2 hc13
  refine ec_skip ?_
  refine sq_n ?_
  refine ec_seq ?_
  refine ec_region ?_
  refine o_w (v:=.agg (cArena d0 A1 c2 A4 c5).toArray) (r_lda agg_api_Arena rfl (vs:=(cArena d0 A1 c2 A4 c5)) rfl ((S7.fr G12 (fun _ h=>h)).now.part (n:=3) rfl)) ?_
  refine o_call cf_law08_Few rfl (law08_Few_c d0 (kArena_mk (d:=d0) (H3.fr (G8.trans (Fr.ext F9)) (fun _ h=>h)) (H6.fr (G8.trans (Fr.ext F9)) (fun _ h=>h))) (hL.fr E10) (fewA_ev d0)) rfl rfl ?_
  rintro _ w14 ⟨F14,rfl⟩
  have E15:=E10.trans F14
  refine o_w (v:=.bool (fewA d0)) (r_asg rfl) ?_
  refine eo_nil_sq ?_
  iterate 2 refine ec_seq ?_
  refine ec_region ?_
  refine o_w (v:=.bool (fewA d0)) (r_mov rfl) ?_
  refine o_w (v:=.bool (!(fewA d0))) (r_not rfl) ?_
  refine eo_nil_sq ?_
  refine ec_cond rfl (fun hc18=>?_) (fun hc18=>?_)
  ·replace h:=h.1 hc18
   refine ec_seq ?_
   refine ec_region ?_
   refine o_w (v:=.bool (worksV)) (r_mov rfl) ?_
   refine o_w (v:=.bool (worksV)) (r_asg rfl) ?_
   refine eo_nil_sq ?_
   refine ec_ret ?_
   refine sq_ret ?_
   subst h
   exact (end1 rfl ⟨_,rfl,E15,rfl⟩)
  ·replace h:=h.2 hc18
   refine ec_skip ?_
   refine sq_n ?_
   refine ec_seq ?_
   refine ec_region ?_
   refine o_w (v:=.agg (cArena d0 A1 c2 A4 c5).toArray) (r_lda agg_api_Arena rfl (vs:=(cArena d0 A1 c2 A4 c5)) rfl ((S7.fr (G12.trans (Fr.ext F14)) (fun _ h=>h)).now.part (n:=3) rfl)) ?_
   obtain ⟨ha20,h⟩:=h
   obtain ⟨x19,hx19,h⟩:=h
   refine o_call cf_delta_Scan rfl (delta_Scan_c d0 (kArena_mk (d:=d0) (H3.fr ((G8.trans (Fr.ext F9)).trans (Fr.ext F14)) (fun _ h=>h)) (H6.fr ((G8.trans (Fr.ext F9)).trans (Fr.ext F14)) (fun _ h=>h))) (hL.fr E15) (eq_ev hx19 (scan_ev d0 ha20))) rfl rfl ?_
   rintro _ w19 ⟨F19,A21,c22,rfl,H23⟩
   have E24:=E15.trans F19
   refine o_w (v:=.slice A21 x19.length c22) (r_asg rfl) ?_
   refine eo_nil_sq ?_
   refine ec_seq ?_
   refine ec_region ?_
   refine o_w (v:=.int .i64 (0:Int)) (r_asg rfl) ?_
   refine eo_nil_sq ?_
   iterate 2 refine ec_seq ?_
   refine ec_region ?_
   refine o_w (v:=.int .i64 (0:Int)) (r_asg rfl) ?_
   refine eo_nil_sq ?_
   refine ec_block ?_
   obtain ⟨x27,hl27,h⟩:=h
   refine ec_loopE 0 (I:=(fun (s27:Int × Int) ρ ds w'=>∃ (ρ':Env),ρ=envs ρ' [(6,.int .i64 s27.1),(7,.int .i64 s27.2),(1,.pointer (some ⟨b7,0,none⟩)),(3,.bool (worksV)),(5,.slice A21 x19.length c22)]∧ds=[]∧Fr L w19 w'∧Ext w w')) ?_ hl27 ?_ ?_
   ·intro s27 z27 ρ27 ds27 w27r hI27 hb27
    obtain ⟨ρ27r,rfl,rfl,F27r,E27r⟩:=hI27
    have h:=hb27
    unfold law09_DeltaScans_b27 at h
    have G28:Fr L w w27r:=(((G8.trans (Fr.ext F9)).trans (Fr.ext F14)).trans (Fr.ext F19)).stp F27r (fun _ h=>.inl h)
    have G29:Fr L w7 w27r:=((G12.trans (Fr.ext F14)).trans (Fr.ext F19)).stp F27r (fun _ h=>.inl h)
    iterate 2 refine ec_seq ?_
    refine ec_region ?_
    refine o_w (v:=.int .i64 s27.2) (r_mov rfl) ?_
    refine o_w (v:=.pointer (some ⟨b7,1,none⟩)) (r_fa fld_api_Arena_1 rfl rfl) ?_
    refine o_w (v:=.slice A1 d0.slots.length c2) (r_ld one_s_api_Entry rfl ((S7.fr G29 (fun _ h=>h)).now.cell rfl)) ?_
    refine o_w (v:=.int .i64 (d0.slots.length:Int)) (r_len_slc un_s_api_Entry rfl) ?_
    refine o_w (v:=.bool (decide (s27.2<(d0.slots.length:Int)))) (r_int rfl rfl rfl) ?_
    refine eo_nil_sq ?_
    refine ec_cond rfl (fun hc31=>?_) (fun hc31=>?_)
    ·replace h:=h.1 hc31
     refine ec_skip ?_
     refine sq_n ?_
     refine ec_seq ?_
     refine ec_block ?_
     refine ec_seq ?_
     obtain ⟨ha44,h⟩:=h
     obtain ⟨cs45,l47,H46⟩:=Stb.elem (by decide) (H3.fr G28 (fun _ h=>h)) s27.2 ha44.1 ha44.2
     obtain ⟨A49,c50,A52,c53,rfl,H48,H51,H54⟩:=kEnt_open2 H46
     obtain ⟨ha56,h⟩:=h
     obtain ⟨x55,hx55,h⟩:=h
     refine ec_any0 (by kernel_rfl) [[],[],[1],[],[1,2,3],[1,2,3,4],[1,2,3,4,5],[0,1,2,3,4,5,6],[0,1,2,3,4,5,6,7],[0,1,2,3,4,5,6,7,8],[0,1,2,3,4,5,6,7,8],[0,1,2,3,4,5,6,7,8,9],[0,1,2,3,4,5,6,7,8,9,10,11]] [8,9,33,34,35,36,37,38,39,40,41,42,43] [fun v _=>v=(.agg (cArena d0 A1 c2 A4 c5).toArray:Value),fun v _=>v=(.pointer (some ⟨b7,1,none⟩):Value),fun v _=>v=(.slice A1 d0.slots.length c2:Value),fun v _=>v=(.int .i64 s27.2:Value),fun v _=>v=(.pointer (some (elemA A1 kEnt.n s27.2.toNat)):Value),fun v _=>v=(.pointer (some (ad (elemA A1 kEnt.n s27.2.toNat) 0)):Value),fun v _=>v=(str ((nth d0.slots s27.2).key):Value),fun v _=>v=(.tuple #[str x55.1,.bool x55.2]:Value),fun v _=>v=(.tuple #[str x55.1,.bool x55.2]:Value),fun v _=>v=(str x55.1:Value),fun v _=>v=(.bool x55.2:Value),fun v _=>v=(str x55.1:Value),fun v _=>v=(.bool x55.2:Value)] (by kernel_rfl) ⟨fun _ _ _ _ _ h=>h,fun _ _ _ _ _ h=>h,fun _ _ _ _ _ h=>h,fun _ _ _ _ _ h=>h,fun _ _ _ _ _ h=>h,fun _ _ _ _ _ h=>h,fun _ _ _ _ _ h=>h,fun _ _ _ _ _ h=>h,fun _ _ _ _ _ h=>h,fun _ _ _ _ _ h=>h,fun _ _ _ _ _ h=>h,fun _ _ _ _ _ h=>h,fun _ _ _ _ _ h=>h,trivial⟩ ?_ ?_
     ·refine ⟨?_,?_,?_,?_,?_,?_,?_,?_,?_,?_,?_,?_,?_,trivial⟩
      ·intro ρ w43o F43o hS hρ
       have q1:ρ 1=.pointer (some ⟨b7,0,none⟩):=hρ 1 (by kernel_rfl)
       exact o_q (r_lda agg_api_Arena q1 (vs:=(cArena d0 A1 c2 A4 c5)) rfl ((S7.fr (G29.trans (Fr.ext F43o)) (fun _ h=>h)).now.part (n:=3) rfl)) ⟨Fr.refl _ _,rfl⟩
      ·intro ρ w43o F43o hS hρ
       have q1:ρ 1=.pointer (some ⟨b7,0,none⟩):=hρ 1 (by kernel_rfl)
       exact o_q (r_fa fld_api_Arena_1 rfl q1) ⟨Fr.refl _ _,rfl⟩
      ·intro ρ w43o F43o hS hρ
       have q35:ρ 35=.pointer (some ⟨b7,1,none⟩):=hS 1 (by decide) 35 rfl
       exact o_q (r_ld one_s_api_Entry q35 ((S7.fr (G29.trans (Fr.ext F43o)) (fun _ h=>h)).now.cell rfl)) ⟨Fr.refl _ _,rfl⟩
      ·intro ρ w43o F43o hS hρ
       have q7:ρ 7=.int .i64 s27.2:=hρ 7 (by kernel_rfl)
       exact o_q (r_mov q7) ⟨Fr.refl _ _,rfl⟩
      ·intro ρ w43o F43o hS hρ
       have q36:ρ 36=.slice A1 d0.slots.length c2:=hS 2 (by decide) 36 rfl
       have q37:ρ 37=.int .i64 s27.2:=hS 3 (by decide) 37 rfl
       exact o_q (r_ia slc_s_api_Entry q36 q37 ((H3.fr (G28.trans (Fr.ext F43o)) (fun _ h=>h)).now.2 _ (lt_toNat ha44.1 ha44.2)).1 ha44.1 ha44.2) ⟨Fr.refl _ _,rfl⟩
      ·intro ρ w43o F43o hS hρ
       have q38:ρ 38=.pointer (some (elemA A1 kEnt.n s27.2.toNat)):=hS 4 (by decide) 38 rfl
       exact o_q (r_fad fld_api_Entry_0 (elemA_spot _ _ _) q38) ⟨Fr.refl _ _,rfl⟩
      ·intro ρ w43o F43o hS hρ
       have G80:Fr L w27r w43o:=Fr.ext F43o
       have q39:ρ 39=.pointer (some (ad (elemA A1 kEnt.n s27.2.toNat) 0)):=hS 5 (by decide) 39 rfl
       exact o_q (r_ld' one_string q39 rfl ((H48.fr G80 (fun _ h=>h)).now.1.at (j:=0) rfl)) ⟨Fr.refl _ _,rfl⟩
      ·intro ρ w43o F43o hS hρ
       have E81:=E27r.trans F43o
       have q34:ρ 34=.agg (cArena d0 A1 c2 A4 c5).toArray:=hS 0 (by decide) 34 rfl
       have q40:ρ 40=str ((nth d0.slots s27.2).key):=hS 6 (by decide) 40 rfl
       refine o_call cf_delta_Text (by simp only [List.map,ev,q34,q40] <;> rfl) (delta_Text_c d0 (kArena_mk (d:=d0) (H3.fr (G28.trans (Fr.ext F43o)) (fun _ h=>h)) (H6.fr (G28.trans (Fr.ext F43o)) (fun _ h=>h))) ((nth d0.slots s27.2).key) (hL.fr E81) (eq_ev hx55 (text_ev d0 ((nth d0.slots s27.2).key) ha56))) rfl rfl ?_
       rintro _ w' ⟨F,rfl⟩
       exact eo_nil ⟨rfl,rfl,_,rfl,F,rfl⟩
      ·intro ρ w43o F43o hS hρ
       have q41:ρ 41=.tuple #[str x55.1,.bool x55.2]:=hS 7 (by decide) 41 rfl
       exact o_q (r_mov q41) ⟨Fr.refl _ _,rfl⟩
      ·intro ρ w43o F43o hS hρ
       have q33:ρ 33=.tuple #[str x55.1,.bool x55.2]:=hS 8 (by decide) 33 rfl
       exact o_q (r_ext q33 rfl) ⟨Fr.refl _ _,rfl⟩
      ·intro ρ w43o F43o hS hρ
       have q33:ρ 33=.tuple #[str x55.1,.bool x55.2]:=hS 8 (by decide) 33 rfl
       exact o_q (r_ext q33 rfl) ⟨Fr.refl _ _,rfl⟩
      ·intro ρ w43o F43o hS hρ
       have q42:ρ 42=str x55.1:=hS 9 (by decide) 42 rfl
       exact o_q (r_asg q42) ⟨Fr.refl _ _,rfl⟩
      ·intro ρ w43o F43o hS hρ
       have q43:ρ 43=.bool x55.2:=hS 10 (by decide) 43 rfl
       exact o_q (r_asg q43) ⟨Fr.refl _ _,rfl⟩
     ·intro ρ w43 F43 hS hρ
      have q9:ρ 9=.bool x55.2:=hS 12 9 rfl
      obtain ⟨ρ',rfl⟩:∃ ρ',ρ=envs (ovr [8,9,33,34,35,36,37,38,39,40,41,42,43] ρ' _) [(9,.bool x55.2)]:=⟨ρ,ovr_self hρ ⟨q9,trivial⟩⟩
      have E87:=E27r.trans F43
      refine sq_n ?_
      refine ec_seq ?_
      obtain ⟨ha105,h⟩:=h
      obtain ⟨cs106,l108,H107⟩:=Stb.elem (by decide) (H3.fr (G28.trans (Fr.ext F43)) (fun _ h=>h)) s27.2 ha105.1 ha105.2
      obtain ⟨A110,c111,A113,c114,rfl,H109,H112,H115⟩:=kEnt_open2 H107
      obtain ⟨ha117,h⟩:=h
      obtain ⟨x116,hx116,h⟩:=h
      refine ec_any0 (by kernel_rfl) [[],[],[1],[],[1,2,3],[1,2,3,4],[1,2,3,4,5],[0,1,2,3,4,5,6],[0,1,2,3,4,5,6,7],[0,1,2,3,4,5,6,7,8],[0,1,2,3,4,5,6,7,8],[0,1,2,3,4,5,6,7,8,9],[0,1,2,3,4,5,6,7,8,9,10,11]] [10,11,44,45,46,47,48,49,50,51,52,53,54] [fun v _=>v=(.agg (cArena d0 A1 c2 A4 c5).toArray:Value),fun v _=>v=(.pointer (some ⟨b7,1,none⟩):Value),fun v _=>v=(.slice A1 d0.slots.length c2:Value),fun v _=>v=(.int .i64 s27.2:Value),fun v _=>v=(.pointer (some (elemA A1 kEnt.n s27.2.toNat)):Value),fun v _=>v=(.pointer (some (ad (elemA A1 kEnt.n s27.2.toNat) 0)):Value),fun v _=>v=(str ((nth d0.slots s27.2).key):Value),fun v _=>v=(.tuple #[.int .i64 x116.1,.bool x116.2]:Value),fun v _=>v=(.tuple #[.int .i64 x116.1,.bool x116.2]:Value),fun v _=>v=(.int .i64 x116.1:Value),fun v _=>v=(.bool x116.2:Value),fun v _=>v=(.int .i64 x116.1:Value),fun v _=>v=(.bool x116.2:Value)] (by kernel_rfl) ⟨fun _ _ _ _ _ h=>h,fun _ _ _ _ _ h=>h,fun _ _ _ _ _ h=>h,fun _ _ _ _ _ h=>h,fun _ _ _ _ _ h=>h,fun _ _ _ _ _ h=>h,fun _ _ _ _ _ h=>h,fun _ _ _ _ _ h=>h,fun _ _ _ _ _ h=>h,fun _ _ _ _ _ h=>h,fun _ _ _ _ _ h=>h,fun _ _ _ _ _ h=>h,fun _ _ _ _ _ h=>h,trivial⟩ ?_ ?_
      ·refine ⟨?_,?_,?_,?_,?_,?_,?_,?_,?_,?_,?_,?_,?_,trivial⟩
       ·intro ρ w104o F104o hS hρ
        have q1:ρ 1=.pointer (some ⟨b7,0,none⟩):=hρ 1 (by kernel_rfl)
        exact o_q (r_lda agg_api_Arena q1 (vs:=(cArena d0 A1 c2 A4 c5)) rfl ((S7.fr ((G29.trans (Fr.ext F43)).trans (Fr.ext F104o)) (fun _ h=>h)).now.part (n:=3) rfl)) ⟨Fr.refl _ _,rfl⟩
       ·intro ρ w104o F104o hS hρ
        have q1:ρ 1=.pointer (some ⟨b7,0,none⟩):=hρ 1 (by kernel_rfl)
        exact o_q (r_fa fld_api_Arena_1 rfl q1) ⟨Fr.refl _ _,rfl⟩
       ·intro ρ w104o F104o hS hρ
        have q46:ρ 46=.pointer (some ⟨b7,1,none⟩):=hS 1 (by decide) 46 rfl
        exact o_q (r_ld one_s_api_Entry q46 ((S7.fr ((G29.trans (Fr.ext F43)).trans (Fr.ext F104o)) (fun _ h=>h)).now.cell rfl)) ⟨Fr.refl _ _,rfl⟩
       ·intro ρ w104o F104o hS hρ
        have q7:ρ 7=.int .i64 s27.2:=hρ 7 (by kernel_rfl)
        exact o_q (r_mov q7) ⟨Fr.refl _ _,rfl⟩
       ·intro ρ w104o F104o hS hρ
        have q47:ρ 47=.slice A1 d0.slots.length c2:=hS 2 (by decide) 47 rfl
        have q48:ρ 48=.int .i64 s27.2:=hS 3 (by decide) 48 rfl
        exact o_q (r_ia slc_s_api_Entry q47 q48 ((H3.fr ((G28.trans (Fr.ext F43)).trans (Fr.ext F104o)) (fun _ h=>h)).now.2 _ (lt_toNat ha105.1 ha105.2)).1 ha105.1 ha105.2) ⟨Fr.refl _ _,rfl⟩
       ·intro ρ w104o F104o hS hρ
        have q49:ρ 49=.pointer (some (elemA A1 kEnt.n s27.2.toNat)):=hS 4 (by decide) 49 rfl
        exact o_q (r_fad fld_api_Entry_0 (elemA_spot _ _ _) q49) ⟨Fr.refl _ _,rfl⟩
       ·intro ρ w104o F104o hS hρ
        have G145:Fr L w43 w104o:=Fr.ext F104o
        have q50:ρ 50=.pointer (some (ad (elemA A1 kEnt.n s27.2.toNat) 0)):=hS 5 (by decide) 50 rfl
        exact o_q (r_ld' one_string q50 rfl ((H109.fr G145 (fun _ h=>h)).now.1.at (j:=0) rfl)) ⟨Fr.refl _ _,rfl⟩
       ·intro ρ w104o F104o hS hρ
        have E146:=E87.trans F104o
        have q45:ρ 45=.agg (cArena d0 A1 c2 A4 c5).toArray:=hS 0 (by decide) 45 rfl
        have q51:ρ 51=str ((nth d0.slots s27.2).key):=hS 6 (by decide) 51 rfl
        refine o_call cf_delta_Sum (by simp only [List.map,ev,q45,q51] <;> rfl) (delta_Sum_c d0 (kArena_mk (d:=d0) (H3.fr ((G28.trans (Fr.ext F43)).trans (Fr.ext F104o)) (fun _ h=>h)) (H6.fr ((G28.trans (Fr.ext F43)).trans (Fr.ext F104o)) (fun _ h=>h))) ((nth d0.slots s27.2).key) (hL.fr E146) (eq_ev hx116 (sum_ev d0 ((nth d0.slots s27.2).key) ha117))) rfl rfl ?_
        rintro _ w' ⟨F,rfl⟩
        exact eo_nil ⟨rfl,rfl,_,rfl,F,rfl⟩
       ·intro ρ w104o F104o hS hρ
        have q52:ρ 52=.tuple #[.int .i64 x116.1,.bool x116.2]:=hS 7 (by decide) 52 rfl
        exact o_q (r_mov q52) ⟨Fr.refl _ _,rfl⟩
       ·intro ρ w104o F104o hS hρ
        have q44:ρ 44=.tuple #[.int .i64 x116.1,.bool x116.2]:=hS 8 (by decide) 44 rfl
        exact o_q (r_ext q44 rfl) ⟨Fr.refl _ _,rfl⟩
       ·intro ρ w104o F104o hS hρ
        have q44:ρ 44=.tuple #[.int .i64 x116.1,.bool x116.2]:=hS 8 (by decide) 44 rfl
        exact o_q (r_ext q44 rfl) ⟨Fr.refl _ _,rfl⟩
       ·intro ρ w104o F104o hS hρ
        have q53:ρ 53=.int .i64 x116.1:=hS 9 (by decide) 53 rfl
        exact o_q (r_asg q53) ⟨Fr.refl _ _,rfl⟩
       ·intro ρ w104o F104o hS hρ
        have q54:ρ 54=.bool x116.2:=hS 10 (by decide) 54 rfl
        exact o_q (r_asg q54) ⟨Fr.refl _ _,rfl⟩
      ·intro ρ w104 F104 hS hρ
       have q11:ρ 11=.bool x116.2:=hS 12 11 rfl
       obtain ⟨ρ',rfl⟩:∃ ρ',ρ=envs (ovr [10,11,44,45,46,47,48,49,50,51,52,53,54] ρ' _) [(11,.bool x116.2)]:=⟨ρ,ovr_self hρ ⟨q11,trivial⟩⟩
       have E153:=E87.trans F104
       refine sq_n ?_
       refine ec_seq ?_
       obtain ⟨ha172,h⟩:=h
       obtain ⟨cs173,l175,H174⟩:=Stb.elem (by decide) (H3.fr ((G28.trans (Fr.ext F43)).trans (Fr.ext F104)) (fun _ h=>h)) s27.2 ha172.1 ha172.2
       obtain ⟨A177,c178,A180,c181,rfl,H176,H179,H182⟩:=kEnt_open2 H174
       obtain ⟨ha184,h⟩:=h
       obtain ⟨x183,hx183,h⟩:=h
       refine ec_any0 (by kernel_rfl) [[],[],[1],[],[1,2,3],[1,2,3,4],[1,2,3,4,5],[0,1,2,3,4,5,6],[0,1,2,3,4,5,6,7],[0,1,2,3,4,5,6,7,8],[0,1,2,3,4,5,6,7,8],[0,1,2,3,4,5,6,7,8,9],[0,1,2,3,4,5,6,7,8,9,10,11]] [12,13,55,56,57,58,59,60,61,62,63,64,65] [fun v _=>v=(.agg (cArena d0 A1 c2 A4 c5).toArray:Value),fun v _=>v=(.pointer (some ⟨b7,1,none⟩):Value),fun v _=>v=(.slice A1 d0.slots.length c2:Value),fun v _=>v=(.int .i64 s27.2:Value),fun v _=>v=(.pointer (some (elemA A1 kEnt.n s27.2.toNat)):Value),fun v _=>v=(.pointer (some (ad (elemA A1 kEnt.n s27.2.toNat) 0)):Value),fun v _=>v=(str ((nth d0.slots s27.2).key):Value),fun v _=>v=(.tuple #[.int .u64 x183.1,.bool x183.2]:Value),fun v _=>v=(.tuple #[.int .u64 x183.1,.bool x183.2]:Value),fun v _=>v=(.int .u64 x183.1:Value),fun v _=>v=(.bool x183.2:Value),fun v _=>v=(.int .u64 x183.1:Value),fun v _=>v=(.bool x183.2:Value)] (by kernel_rfl) ⟨fun _ _ _ _ _ h=>h,fun _ _ _ _ _ h=>h,fun _ _ _ _ _ h=>h,fun _ _ _ _ _ h=>h,fun _ _ _ _ _ h=>h,fun _ _ _ _ _ h=>h,fun _ _ _ _ _ h=>h,fun _ _ _ _ _ h=>h,fun _ _ _ _ _ h=>h,fun _ _ _ _ _ h=>h,fun _ _ _ _ _ h=>h,fun _ _ _ _ _ h=>h,fun _ _ _ _ _ h=>h,trivial⟩ ?_ ?_
       ·refine ⟨?_,?_,?_,?_,?_,?_,?_,?_,?_,?_,?_,?_,?_,trivial⟩
        ·intro ρ w171o F171o hS hρ
         have q1:ρ 1=.pointer (some ⟨b7,0,none⟩):=hρ 1 (by kernel_rfl)
         exact o_q (r_lda agg_api_Arena q1 (vs:=(cArena d0 A1 c2 A4 c5)) rfl ((S7.fr (((G29.trans (Fr.ext F43)).trans (Fr.ext F104)).trans (Fr.ext F171o)) (fun _ h=>h)).now.part (n:=3) rfl)) ⟨Fr.refl _ _,rfl⟩
        ·intro ρ w171o F171o hS hρ
         have q1:ρ 1=.pointer (some ⟨b7,0,none⟩):=hρ 1 (by kernel_rfl)
         exact o_q (r_fa fld_api_Arena_1 rfl q1) ⟨Fr.refl _ _,rfl⟩
        ·intro ρ w171o F171o hS hρ
         have q57:ρ 57=.pointer (some ⟨b7,1,none⟩):=hS 1 (by decide) 57 rfl
         exact o_q (r_ld one_s_api_Entry q57 ((S7.fr (((G29.trans (Fr.ext F43)).trans (Fr.ext F104)).trans (Fr.ext F171o)) (fun _ h=>h)).now.cell rfl)) ⟨Fr.refl _ _,rfl⟩
        ·intro ρ w171o F171o hS hρ
         have q7:ρ 7=.int .i64 s27.2:=hρ 7 (by kernel_rfl)
         exact o_q (r_mov q7) ⟨Fr.refl _ _,rfl⟩
        ·intro ρ w171o F171o hS hρ
         have q58:ρ 58=.slice A1 d0.slots.length c2:=hS 2 (by decide) 58 rfl
         have q59:ρ 59=.int .i64 s27.2:=hS 3 (by decide) 59 rfl
         exact o_q (r_ia slc_s_api_Entry q58 q59 ((H3.fr (((G28.trans (Fr.ext F43)).trans (Fr.ext F104)).trans (Fr.ext F171o)) (fun _ h=>h)).now.2 _ (lt_toNat ha172.1 ha172.2)).1 ha172.1 ha172.2) ⟨Fr.refl _ _,rfl⟩
        ·intro ρ w171o F171o hS hρ
         have q60:ρ 60=.pointer (some (elemA A1 kEnt.n s27.2.toNat)):=hS 4 (by decide) 60 rfl
         exact o_q (r_fad fld_api_Entry_0 (elemA_spot _ _ _) q60) ⟨Fr.refl _ _,rfl⟩
        ·intro ρ w171o F171o hS hρ
         have G216:Fr L w104 w171o:=Fr.ext F171o
         have q61:ρ 61=.pointer (some (ad (elemA A1 kEnt.n s27.2.toNat) 0)):=hS 5 (by decide) 61 rfl
         exact o_q (r_ld' one_string q61 rfl ((H176.fr G216 (fun _ h=>h)).now.1.at (j:=0) rfl)) ⟨Fr.refl _ _,rfl⟩
        ·intro ρ w171o F171o hS hρ
         have E217:=E153.trans F171o
         have q56:ρ 56=.agg (cArena d0 A1 c2 A4 c5).toArray:=hS 0 (by decide) 56 rfl
         have q62:ρ 62=str ((nth d0.slots s27.2).key):=hS 6 (by decide) 62 rfl
         refine o_call cf_delta_Flags (by simp only [List.map,ev,q56,q62] <;> rfl) (delta_Flags_c d0 (kArena_mk (d:=d0) (H3.fr (((G28.trans (Fr.ext F43)).trans (Fr.ext F104)).trans (Fr.ext F171o)) (fun _ h=>h)) (H6.fr (((G28.trans (Fr.ext F43)).trans (Fr.ext F104)).trans (Fr.ext F171o)) (fun _ h=>h))) ((nth d0.slots s27.2).key) (hL.fr E217) (eq_ev hx183 (flags_ev d0 ((nth d0.slots s27.2).key) ha184))) rfl rfl ?_
         rintro _ w' ⟨F,rfl⟩
         exact eo_nil ⟨rfl,rfl,_,rfl,F,rfl⟩
        ·intro ρ w171o F171o hS hρ
         have q63:ρ 63=.tuple #[.int .u64 x183.1,.bool x183.2]:=hS 7 (by decide) 63 rfl
         exact o_q (r_mov q63) ⟨Fr.refl _ _,rfl⟩
        ·intro ρ w171o F171o hS hρ
         have q55:ρ 55=.tuple #[.int .u64 x183.1,.bool x183.2]:=hS 8 (by decide) 55 rfl
         exact o_q (r_ext q55 rfl) ⟨Fr.refl _ _,rfl⟩
        ·intro ρ w171o F171o hS hρ
         have q55:ρ 55=.tuple #[.int .u64 x183.1,.bool x183.2]:=hS 8 (by decide) 55 rfl
         exact o_q (r_ext q55 rfl) ⟨Fr.refl _ _,rfl⟩
        ·intro ρ w171o F171o hS hρ
         have q64:ρ 64=.int .u64 x183.1:=hS 9 (by decide) 64 rfl
         exact o_q (r_asg q64) ⟨Fr.refl _ _,rfl⟩
        ·intro ρ w171o F171o hS hρ
         have q65:ρ 65=.bool x183.2:=hS 10 (by decide) 65 rfl
         exact o_q (r_asg q65) ⟨Fr.refl _ _,rfl⟩
       ·intro ρ w171 F171 hS hρ
        have q13:ρ 13=.bool x183.2:=hS 12 13 rfl
        obtain ⟨ρ',rfl⟩:∃ ρ',ρ=envs (ovr [12,13,55,56,57,58,59,60,61,62,63,64,65] ρ' _) [(13,.bool x183.2)]:=⟨ρ,ovr_self hρ ⟨q13,trivial⟩⟩
        have E225:=E153.trans F171
        refine sq_n ?_
        refine ec_seq ?_
        refine ec_region ?_
        refine o_w (v:=.pointer (some ⟨b7,1,none⟩)) (r_fa fld_api_Arena_1 rfl rfl) ?_
        refine o_w (v:=.slice A1 d0.slots.length c2) (r_ld one_s_api_Entry rfl ((S7.fr (((G29.trans (Fr.ext F43)).trans (Fr.ext F104)).trans (Fr.ext F171)) (fun _ h=>h)).now.cell rfl)) ?_
        refine o_w (v:=.int .i64 s27.2) (r_mov rfl) ?_
        obtain ⟨ha233,h⟩:=h
        obtain ⟨cs234,l236,H235⟩:=Stb.elem (by decide) (H3.fr (((G28.trans (Fr.ext F43)).trans (Fr.ext F104)).trans (Fr.ext F171)) (fun _ h=>h)) s27.2 ha233.1 ha233.2
        obtain ⟨A238,c239,A241,c242,rfl,H237,H240,H243⟩:=kEnt_open2 H235
        refine o_w (v:=.pointer (some (elemA A1 kEnt.n s27.2.toNat))) (r_ia slc_s_api_Entry rfl rfl ((H3.fr (((G28.trans (Fr.ext F43)).trans (Fr.ext F104)).trans (Fr.ext F171)) (fun _ h=>h)).now.2 _ (lt_toNat ha233.1 ha233.2)).1 ha233.1 ha233.2) ?_
        refine o_w (v:=.pointer (some (ad (elemA A1 kEnt.n s27.2.toNat) 1))) (r_fad fld_api_Entry_1 (elemA_spot _ _ _) rfl) ?_
        refine o_w (v:=.pointer (some (ad (elemA A1 kEnt.n s27.2.toNat) 1))) (r_fad2 fld_api_Value_0 rfl rfl rfl) ?_
        refine o_w (v:=.int .i64 (((nth d0.slots s27.2).val).kind)) (r_ld' one_int rfl rfl (H237.now.1.at (j:=1) rfl)) ?_
        refine o_w (v:=.int .i64 (((nth d0.slots s27.2).val).kind)) (r_asg rfl) ?_
        refine eo_nil_sq ?_
        refine ec_seq ?_
        refine ec_region ?_
        refine o_w (v:=.int .i64 (((nth d0.slots s27.2).val).kind)) (r_mov rfl) ?_
        refine o_w (v:=.bool ((((nth d0.slots s27.2).val).kind)==(1:Int))) (r_int rfl rfl rfl) ?_
        refine o_w (v:=.bool ((((nth d0.slots s27.2).val).kind)==(1:Int))) (r_mov rfl) ?_
        refine o_vg (v:=.bool x55.2) (want_ct (t:=75) rfl rfl) (fun hk=>(r_mov rfl)) rfl rfl ?_
        refine o_w (v:=.bool (((((nth d0.slots s27.2).val).kind)==(1:Int))&&x55.2)) (r_pickAnd rfl (fun ht=>(gdT ht)) rfl) ?_
        refine o_w (v:=.bool (((((nth d0.slots s27.2).val).kind)==(1:Int))&&x55.2)) (r_mov rfl) ?_
        refine o_vg (v:=.int .i64 (((nth d0.slots s27.2).val).kind)) (want_cf (t:=78) rfl rfl) (fun hk=>(r_mov rfl)) rfl rfl ?_
        refine o_vg (v:=.bool ((((nth d0.slots s27.2).val).kind)==(2:Int))) (want_cf (t:=78) rfl rfl) (fun hk=>(r_int (gdT hk) rfl rfl)) rfl rfl ?_
        refine o_vg (v:=.bool ((((nth d0.slots s27.2).val).kind)==(2:Int))) (want_cf (t:=78) rfl rfl) (fun hk=>(r_mov (gdT hk))) rfl rfl ?_
        refine o_vg (v:=.bool x116.2) (want_gt (t:=81) rfl rfl) (fun hk=>(r_mov rfl)) rfl rfl ?_
        refine o_vg (v:=.bool (((((nth d0.slots s27.2).val).kind)==(2:Int))&&x116.2)) (want_cf (t:=78) rfl rfl) (fun hk=>(r_pickAnd (gdT hk) (fun ht=>(gdT (andM hk ht))) rfl)) rfl rfl ?_
        refine o_w (v:=.bool ((((((nth d0.slots s27.2).val).kind)==(1:Int))&&x55.2)||(((((nth d0.slots s27.2).val).kind)==(2:Int))&&x116.2))) (r_pickOr rfl rfl (fun hf=>(gdT (notT hf)))) ?_
        refine o_w (v:=.bool ((((((nth d0.slots s27.2).val).kind)==(1:Int))&&x55.2)||(((((nth d0.slots s27.2).val).kind)==(2:Int))&&x116.2))) (r_mov rfl) ?_
        refine o_vg (v:=.int .i64 (((nth d0.slots s27.2).val).kind)) (want_cf (t:=85) rfl rfl) (fun hk=>(r_mov rfl)) rfl rfl ?_
        refine o_vg (v:=.bool ((((nth d0.slots s27.2).val).kind)==(3:Int))) (want_cf (t:=85) rfl rfl) (fun hk=>(r_int (gdT hk) rfl rfl)) rfl rfl ?_
        refine o_vg (v:=.bool ((((nth d0.slots s27.2).val).kind)==(3:Int))) (want_cf (t:=85) rfl rfl) (fun hk=>(r_mov (gdT hk))) rfl rfl ?_
        refine o_vg (v:=.bool x183.2) (want_gt (t:=88) rfl rfl) (fun hk=>(r_mov rfl)) rfl rfl ?_
        refine o_vg (v:=.bool (((((nth d0.slots s27.2).val).kind)==(3:Int))&&x183.2)) (want_cf (t:=85) rfl rfl) (fun hk=>(r_pickAnd (gdT hk) (fun ht=>(gdT (andM hk ht))) rfl)) rfl rfl ?_
        refine o_w (v:=.bool (((((((nth d0.slots s27.2).val).kind)==(1:Int))&&x55.2)||(((((nth d0.slots s27.2).val).kind)==(2:Int))&&x116.2))||(((((nth d0.slots s27.2).val).kind)==(3:Int))&&x183.2))) (r_pickOr rfl rfl (fun hf=>(gdT (notT hf)))) ?_
        refine eo_nil_sq ?_
        refine ec_cond rfl (fun hc244=>?_) (fun hc244=>?_)
        ·replace h:=h.1 hc244
         refine ec_region ?_
         refine o_w (v:=.int .i64 s27.1) (r_mov rfl) ?_
         refine o_w (v:=.int .i64 (IntKind.i64.wrap (s27.1 + (1:Int)))) (r_int rfl rfl rfl) ?_
         refine o_w (v:=.int .i64 (IntKind.i64.wrap (s27.1 + (1:Int)))) (r_asg rfl) ?_
         refine eo_nil ?_
         refine blk_n ?_
         refine sq_n ?_
         refine ec_region ?_
         refine o_w (v:=.int .i64 s27.2) (r_mov rfl) ?_
         refine o_w (v:=.int .i64 (IntKind.i64.wrap (s27.2 + (1:Int)))) (r_int rfl rfl rfl) ?_
         refine o_w (v:=.int .i64 (IntKind.i64.wrap (s27.2 + (1:Int)))) (r_asg rfl) ?_
         refine eo_nil ?_
         subst h
         exact lq_n ⟨_,envs_self ⟨rfl,rfl,rfl,rfl,rfl,trivial⟩,rfl,(((F27r.trans (Fr.ext F43)).trans (Fr.ext F104)).trans (Fr.ext F171)),E225⟩
        ·replace h:=h.2 hc244
         refine ec_skip ?_
         refine blk_n ?_
         refine sq_n ?_
         refine ec_region ?_
         refine o_w (v:=.int .i64 s27.2) (r_mov rfl) ?_
         refine o_w (v:=.int .i64 (IntKind.i64.wrap (s27.2 + (1:Int)))) (r_int rfl rfl rfl) ?_
         refine o_w (v:=.int .i64 (IntKind.i64.wrap (s27.2 + (1:Int)))) (r_asg rfl) ?_
         refine eo_nil ?_
         subst h
         exact lq_n ⟨_,envs_self ⟨rfl,rfl,rfl,rfl,rfl,trivial⟩,rfl,(((F27r.trans (Fr.ext F43)).trans (Fr.ext F104)).trans (Fr.ext F171)),E225⟩
    ·replace h:=h.2 hc31
     refine ec_exit ?_
     refine sq_exit ?_
     subst h
     exact lq_x ⟨_,envs_self ⟨rfl,rfl,rfl,rfl,rfl,trivial⟩,rfl,F27r,E27r⟩
   ·exact ⟨_,envs_self ⟨rfl,rfl,rfl,rfl,rfl,trivial⟩,rfl,(Fr.refl _ _),E24⟩
   ·rintro ρ27e ds27e w27e ⟨ρ27e,rfl,rfl,F27e,E27e⟩
    have G245:Fr L w w27e:=(((G8.trans (Fr.ext F9)).trans (Fr.ext F14)).trans (Fr.ext F19)).stp F27e (fun _ h=>.inl h)
    have G246:Fr L w7 w27e:=((G12.trans (Fr.ext F14)).trans (Fr.ext F19)).stp F27e (fun _ h=>.inl h)
    have G247:Fr L w19 w27e:=(Fr.refl _ _).stp F27e (fun _ h=>.inl h)
    refine blk_hit ?_
    refine sq_n ?_
    iterate 2 refine ec_seq ?_
    refine ec_region ?_
    refine o_w (v:=.int .i64 (0:Int)) (r_asg rfl) ?_
    refine eo_nil_sq ?_
    refine ec_block ?_
    obtain ⟨x248,hl248,h⟩:=h
    refine ec_loopER 2 (I:=(fun (s248:Int) ρ ds w'=>∃ (ρ':Env),ρ=envs ρ' [(15,.int .i64 s248),(1,.pointer (some ⟨b7,0,none⟩)),(3,.bool (worksV)),(5,.slice A21 x19.length c22),(6,.int .i64 x27.1)]∧ds=[]∧Fr L w27e w'∧Ext w w')) (J:=(fun (y':Bool) ρ ds wz=>bodyE Try.prog #[.tmp 2] (Ret fun v w'=>Ext w w'∧v=.bool y') .ret ρ ds wz)) ?_ hl248 ?_ ?_ ?_
    ·intro s248 z248 ρ248 ds248 w248r hI248 hb248
     obtain ⟨ρ248r,rfl,rfl,F248r,E248r⟩:=hI248
     have h:=hb248
     unfold law09_DeltaScans_b248 at h
     have G249:Fr L w w248r:=G245.stp F248r (fun _ h=>.inl h)
     have G250:Fr L w7 w248r:=G246.stp F248r (fun _ h=>.inl h)
     have G251:Fr L w19 w248r:=G247.stp F248r (fun _ h=>.inl h)
     iterate 2 refine ec_seq ?_
     refine ec_region ?_
     refine o_w (v:=.int .i64 s248) (r_mov rfl) ?_
     refine o_w (v:=.slice A21 x19.length c22) (r_mov rfl) ?_
     refine o_w (v:=.int .i64 (x19.length:Int)) (r_len_slc un_s_api_Entry rfl) ?_
     refine o_w (v:=.bool (decide (s248<(x19.length:Int)))) (r_int rfl rfl rfl) ?_
     refine eo_nil_sq ?_
     refine ec_cond rfl (fun hc252=>?_) (fun hc252=>?_)
     ·replace h:=h.1 hc252
      refine ec_skip ?_
      refine sq_n ?_
      refine ec_seq ?_
      refine ec_block ?_
      refine ec_seq ?_
      rcases Bool.eq_false_or_eq_true (((nth x19 s248).val).dead) with hc308 | hc308
      ·replace h:=h.1 hc308
       obtain ⟨ha332,h⟩:=h
       obtain ⟨cs333,l335,H334⟩:=Stb.elem (by decide) (H23.fr G251 (fun _ h=>h)) s248 ha332.1 ha332.2
       obtain ⟨A337,c338,A340,c341,rfl,H336,H339,H342⟩:=kEnt_open2 H334
       refine ec_any0 (by kernel_rfl) [[],[],[0,1],[0,1,2],[0,1,2,3],[0,1,2,3,4],[0,1,2,3,4,5],[0,1,2,3,4,5,6],[0,1,2,3,4,5,6],[0,1,2,3,4,5,6],[0,1,2,3,4,5,6,8,9],[0,1,2,3,4,5,6,8,9,10],[0,1,2,3,4,5,6,8,9,10,11],[0,1,2,3,4,5,6,8,9,10,11,12],[0,1,2,3,4,5,6],[0,1,2,3,4,5,6],[0,1,2,3,4,5,6,14,15],[0,1,2,3,4,5,6,14,15,16],[0,1,2,3,4,5,6,14,15,16,17],[0,1,2,3,4,5,6,7,8,9,10,11,12,13,14,15,16,17,18],[0,1,2,3,4,5,6,7,8,9,10,11,12,13,14,15,16,17,18,19],[0,1,2,3,4,5,6,7,8,9,10,11,12,13,14,15,16,17,18,19,20]] [100,101,102,103,104,105,106,107,108,109,110,111,112,113,114,115,116,117,118,119,120,121] [fun v _=>v=(.slice A21 x19.length c22:Value),fun v _=>v=(.int .i64 s248:Value),fun v _=>v=(.pointer (some (elemA A21 kEnt.n s248.toNat)):Value),fun v _=>v=(.pointer (some (ad (elemA A21 kEnt.n s248.toNat) 1)):Value),fun v _=>v=(.pointer (some (ad (elemA A21 kEnt.n s248.toNat) 4)):Value),fun v _=>v=(.bool (((nth x19 s248).val).dead):Value),fun v _=>v=(.bool (((nth x19 s248).val).dead):Value),fun v _=>v=((undef:Value):Value),fun v _=>v=((undef:Value):Value),fun v _=>v=((undef:Value):Value),fun v _=>v=((undef:Value):Value),fun v _=>v=((undef:Value):Value),fun v _=>v=((undef:Value):Value),fun v _=>v=((undef:Value):Value),fun v _=>v=((undef:Value):Value),fun v _=>v=((undef:Value):Value),fun v _=>v=((undef:Value):Value),fun v _=>v=((undef:Value):Value),fun v _=>v=((undef:Value):Value),fun v _=>v=((undef:Value):Value),fun v _=>v=((undef:Value):Value),fun v _=>v=(.bool true:Value)] (by kernel_rfl) ⟨fun _ _ _ _ _ h=>h,fun _ _ _ _ _ h=>h,fun _ _ _ _ _ h=>h,fun _ _ _ _ _ h=>h,fun _ _ _ _ _ h=>h,fun _ _ _ _ _ h=>h,fun _ _ _ _ _ h=>h,fun _ _ _ _ _ h=>h,fun _ _ _ _ _ h=>h,fun _ _ _ _ _ h=>h,fun _ _ _ _ _ h=>h,fun _ _ _ _ _ h=>h,fun _ _ _ _ _ h=>h,fun _ _ _ _ _ h=>h,fun _ _ _ _ _ h=>h,fun _ _ _ _ _ h=>h,fun _ _ _ _ _ h=>h,fun _ _ _ _ _ h=>h,fun _ _ _ _ _ h=>h,fun _ _ _ _ _ h=>h,fun _ _ _ _ _ h=>h,fun _ _ _ _ _ h=>h,trivial⟩ ?_ ?_
       ·refine ⟨?_,?_,?_,?_,?_,?_,?_,?_,?_,?_,?_,?_,?_,?_,?_,?_,?_,?_,?_,?_,?_,?_,trivial⟩
        ·intro ρ w331o F331o hS hρ
         have q5:ρ 5=.slice A21 x19.length c22:=hρ 5 (by kernel_rfl)
         exact o_q (r_mov q5) ⟨Fr.refl _ _,rfl⟩
        ·intro ρ w331o F331o hS hρ
         have q15:ρ 15=.int .i64 s248:=hρ 15 (by kernel_rfl)
         exact o_q (r_mov q15) ⟨Fr.refl _ _,rfl⟩
        ·intro ρ w331o F331o hS hρ
         have q100:ρ 100=.slice A21 x19.length c22:=hS 0 (by decide) 100 rfl
         have q101:ρ 101=.int .i64 s248:=hS 1 (by decide) 101 rfl
         exact o_q (r_ia slc_s_api_Entry q100 q101 ((H23.fr (G251.trans (Fr.ext F331o)) (fun _ h=>h)).now.2 _ (lt_toNat ha332.1 ha332.2)).1 ha332.1 ha332.2) ⟨Fr.refl _ _,rfl⟩
        ·intro ρ w331o F331o hS hρ
         have q102:ρ 102=.pointer (some (elemA A21 kEnt.n s248.toNat)):=hS 2 (by decide) 102 rfl
         exact o_q (r_fad fld_api_Entry_1 (elemA_spot _ _ _) q102) ⟨Fr.refl _ _,rfl⟩
        ·intro ρ w331o F331o hS hρ
         have q103:ρ 103=.pointer (some (ad (elemA A21 kEnt.n s248.toNat) 1)):=hS 3 (by decide) 103 rfl
         exact o_q (r_fad2 fld_api_Value_3 rfl rfl q103) ⟨Fr.refl _ _,rfl⟩
        ·intro ρ w331o F331o hS hρ
         have G354:Fr L w248r w331o:=Fr.ext F331o
         have q104:ρ 104=.pointer (some (ad (elemA A21 kEnt.n s248.toNat) 4)):=hS 4 (by decide) 104 rfl
         exact o_q (r_ld' one_bool q104 rfl ((H336.fr G354 (fun _ h=>h)).now.1.at (j:=4) rfl)) ⟨Fr.refl _ _,rfl⟩
        ·intro ρ w331o F331o hS hρ
         have q105:ρ 105=.bool (((nth x19 s248).val).dead):=hS 5 (by decide) 105 rfl
         exact o_q (r_mov q105) ⟨Fr.refl _ _,rfl⟩
        ·intro ρ w331o F331o hS hρ
         have q1:ρ 1=.pointer (some ⟨b7,0,none⟩):=hρ 1 (by kernel_rfl)
         have q106:ρ 106=.bool (((nth x19 s248).val).dead):=hS 6 (by decide) 106 rfl
         exact o_no (want_f (t:=106) rfl q106 hc308) rfl (eo_nil ⟨rfl,rfl,undef,rfl,Fr.refl _ _,rfl⟩)
        ·intro ρ w331o F331o hS hρ
         have q5:ρ 5=.slice A21 x19.length c22:=hρ 5 (by kernel_rfl)
         have q106:ρ 106=.bool (((nth x19 s248).val).dead):=hS 6 (by decide) 106 rfl
         exact o_no (want_f (t:=106) rfl q106 hc308) rfl (eo_nil ⟨rfl,rfl,undef,rfl,Fr.refl _ _,rfl⟩)
        ·intro ρ w331o F331o hS hρ
         have q15:ρ 15=.int .i64 s248:=hρ 15 (by kernel_rfl)
         have q106:ρ 106=.bool (((nth x19 s248).val).dead):=hS 6 (by decide) 106 rfl
         exact o_no (want_f (t:=106) rfl q106 hc308) rfl (eo_nil ⟨rfl,rfl,undef,rfl,Fr.refl _ _,rfl⟩)
        ·intro ρ w331o F331o hS hρ
         have q106:ρ 106=.bool (((nth x19 s248).val).dead):=hS 6 (by decide) 106 rfl
         have q108:ρ 108=(undef:Value):=hS 8 (by decide) 108 rfl
         have q109:ρ 109=(undef:Value):=hS 9 (by decide) 109 rfl
         exact o_no (want_f (t:=106) rfl q106 hc308) rfl (eo_nil ⟨rfl,rfl,undef,rfl,Fr.refl _ _,rfl⟩)
        ·intro ρ w331o F331o hS hρ
         have q106:ρ 106=.bool (((nth x19 s248).val).dead):=hS 6 (by decide) 106 rfl
         have q110:ρ 110=(undef:Value):=hS 10 (by decide) 110 rfl
         exact o_no (want_f (t:=106) rfl q106 hc308) rfl (eo_nil ⟨rfl,rfl,undef,rfl,Fr.refl _ _,rfl⟩)
        ·intro ρ w331o F331o hS hρ
         have q106:ρ 106=.bool (((nth x19 s248).val).dead):=hS 6 (by decide) 106 rfl
         have q111:ρ 111=(undef:Value):=hS 11 (by decide) 111 rfl
         exact o_no (want_f (t:=106) rfl q106 hc308) rfl (eo_nil ⟨rfl,rfl,undef,rfl,Fr.refl _ _,rfl⟩)
        ·intro ρ w331o F331o hS hρ
         have q106:ρ 106=.bool (((nth x19 s248).val).dead):=hS 6 (by decide) 106 rfl
         have q112:ρ 112=(undef:Value):=hS 12 (by decide) 112 rfl
         exact o_no (want_f (t:=106) rfl q106 hc308) rfl (eo_nil ⟨rfl,rfl,undef,rfl,Fr.refl _ _,rfl⟩)
        ·intro ρ w331o F331o hS hρ
         have q5:ρ 5=.slice A21 x19.length c22:=hρ 5 (by kernel_rfl)
         have q106:ρ 106=.bool (((nth x19 s248).val).dead):=hS 6 (by decide) 106 rfl
         exact o_no (want_f (t:=106) rfl q106 hc308) rfl (eo_nil ⟨rfl,rfl,undef,rfl,Fr.refl _ _,rfl⟩)
        ·intro ρ w331o F331o hS hρ
         have q15:ρ 15=.int .i64 s248:=hρ 15 (by kernel_rfl)
         have q106:ρ 106=.bool (((nth x19 s248).val).dead):=hS 6 (by decide) 106 rfl
         exact o_no (want_f (t:=106) rfl q106 hc308) rfl (eo_nil ⟨rfl,rfl,undef,rfl,Fr.refl _ _,rfl⟩)
        ·intro ρ w331o F331o hS hρ
         have q106:ρ 106=.bool (((nth x19 s248).val).dead):=hS 6 (by decide) 106 rfl
         have q114:ρ 114=(undef:Value):=hS 14 (by decide) 114 rfl
         have q115:ρ 115=(undef:Value):=hS 15 (by decide) 115 rfl
         exact o_no (want_f (t:=106) rfl q106 hc308) rfl (eo_nil ⟨rfl,rfl,undef,rfl,Fr.refl _ _,rfl⟩)
        ·intro ρ w331o F331o hS hρ
         have q106:ρ 106=.bool (((nth x19 s248).val).dead):=hS 6 (by decide) 106 rfl
         have q116:ρ 116=(undef:Value):=hS 16 (by decide) 116 rfl
         exact o_no (want_f (t:=106) rfl q106 hc308) rfl (eo_nil ⟨rfl,rfl,undef,rfl,Fr.refl _ _,rfl⟩)
        ·intro ρ w331o F331o hS hρ
         have q106:ρ 106=.bool (((nth x19 s248).val).dead):=hS 6 (by decide) 106 rfl
         have q117:ρ 117=(undef:Value):=hS 17 (by decide) 117 rfl
         exact o_no (want_f (t:=106) rfl q106 hc308) rfl (eo_nil ⟨rfl,rfl,undef,rfl,Fr.refl _ _,rfl⟩)
        ·intro ρ w331o F331o hS hρ
         have q106:ρ 106=.bool (((nth x19 s248).val).dead):=hS 6 (by decide) 106 rfl
         have q107:ρ 107=(undef:Value):=hS 7 (by decide) 107 rfl
         have q113:ρ 113=(undef:Value):=hS 13 (by decide) 113 rfl
         have q118:ρ 118=(undef:Value):=hS 18 (by decide) 118 rfl
         exact o_no (want_f (t:=106) rfl q106 hc308) rfl (eo_nil ⟨rfl,rfl,undef,rfl,Fr.refl _ _,rfl⟩)
        ·intro ρ w331o F331o hS hρ
         have q106:ρ 106=.bool (((nth x19 s248).val).dead):=hS 6 (by decide) 106 rfl
         have q119:ρ 119=(undef:Value):=hS 19 (by decide) 119 rfl
         exact o_no (want_f (t:=106) rfl q106 hc308) rfl (eo_nil ⟨rfl,rfl,undef,rfl,Fr.refl _ _,rfl⟩)
        ·intro ρ w331o F331o hS hρ
         have q106:ρ 106=.bool (((nth x19 s248).val).dead):=hS 6 (by decide) 106 rfl
         have q120:ρ 120=(undef:Value):=hS 20 (by decide) 120 rfl
         exact o_q (r_pickT q106 hc308 rfl) ⟨Fr.refl _ _,rfl⟩
       ·intro ρ w331 F331 hS hρ
        have q121:ρ 121=.bool true:=hS 21 121 rfl
        obtain ⟨ρ',rfl⟩:∃ ρ',ρ=envs (ovr [100,101,102,103,104,105,106,107,108,109,110,111,112,113,114,115,116,117,118,119,120,121] ρ' _) [(121,.bool true)]:=⟨ρ,ovr_self hρ ⟨q121,trivial⟩⟩
        have E355:=E248r.trans F331
        refine sq_n ?_
        refine ec_condT rfl rfl ?_
        refine ec_seq ?_
        refine ec_region ?_
        refine o_w (v:=.bool false) (r_asg rfl) ?_
        refine eo_nil_sq ?_
        refine ec_ret ?_
        refine blk_ret ?_
        refine sq_ret ?_
        subst h
        exact lqR_r (end1 rfl ⟨_,rfl,E355,rfl⟩)
      ·replace h:=h.2 hc308
       obtain ⟨ha428,h⟩:=h
       obtain ⟨cs429,l431,H430⟩:=Stb.elem (by decide) (H23.fr G251 (fun _ h=>h)) s248 ha428.1 ha428.2
       obtain ⟨A433,c434,A436,c437,rfl,H432,H435,H438⟩:=kEnt_open2 H430
       obtain ⟨ha439,h⟩:=h
       obtain ⟨cs440,l442,H441⟩:=Stb.elem (by decide) (H23.fr G251 (fun _ h=>h)) s248 ha439.1 ha439.2
       obtain ⟨A444,c445,A447,c448,rfl,H443,H446,H449⟩:=kEnt_open2 H441
       obtain ⟨ha450,h⟩:=h
       obtain ⟨cs451,l453,H452⟩:=Stb.elem (by decide) (H23.fr G251 (fun _ h=>h)) s248 ha450.1 ha450.2
       obtain ⟨A455,c456,A458,c459,rfl,H454,H457,H460⟩:=kEnt_open2 H452
       obtain ⟨ha462,h⟩:=h
       obtain ⟨x461,hx461,h⟩:=h
       refine ec_any0 (by kernel_rfl) [[],[],[0,1],[0,1,2],[0,1,2,3],[0,1,2,3,4],[0,1,2,3,4,5],[0,1,2,3,4,5,6],[0,1,2,3,4,5,6],[0,1,2,3,4,5,6],[0,1,2,3,4,5,6,8,9],[0,1,2,3,4,5,6,8,9,10],[0,1,2,3,4,5,6,8,9,10,11],[0,1,2,3,4,5,6,8,9,10,11,12],[0,1,2,3,4,5,6],[0,1,2,3,4,5,6],[0,1,2,3,4,5,6,14,15],[0,1,2,3,4,5,6,14,15,16],[0,1,2,3,4,5,6,14,15,16,17],[0,1,2,3,4,5,6,7,8,9,10,11,12,13,14,15,16,17,18],[0,1,2,3,4,5,6,7,8,9,10,11,12,13,14,15,16,17,18,19],[0,1,2,3,4,5,6,7,8,9,10,11,12,13,14,15,16,17,18,19,20]] [100,101,102,103,104,105,106,107,108,109,110,111,112,113,114,115,116,117,118,119,120,121] [fun v _=>v=(.slice A21 x19.length c22:Value),fun v _=>v=(.int .i64 s248:Value),fun v _=>v=(.pointer (some (elemA A21 kEnt.n s248.toNat)):Value),fun v _=>v=(.pointer (some (ad (elemA A21 kEnt.n s248.toNat) 1)):Value),fun v _=>v=(.pointer (some (ad (elemA A21 kEnt.n s248.toNat) 4)):Value),fun v _=>v=(.bool (((nth x19 s248).val).dead):Value),fun v _=>v=(.bool (((nth x19 s248).val).dead):Value),fun v _=>v=(.agg (cArena d0 A1 c2 A4 c5).toArray:Value),fun v _=>v=(.slice A21 x19.length c22:Value),fun v _=>v=(.int .i64 s248:Value),fun v _=>v=(.pointer (some (elemA A21 kEnt.n s248.toNat)):Value),fun v _=>v=(.pointer (some (ad (elemA A21 kEnt.n s248.toNat) 1)):Value),fun v _=>v=(.pointer (some (ad (elemA A21 kEnt.n s248.toNat) 1)):Value),fun v _=>v=(.int .i64 (((nth x19 s248).val).kind):Value),fun v _=>v=(.slice A21 x19.length c22:Value),fun v _=>v=(.int .i64 s248:Value),fun v _=>v=(.pointer (some (elemA A21 kEnt.n s248.toNat)):Value),fun v _=>v=(.pointer (some (ad (elemA A21 kEnt.n s248.toNat) 0)):Value),fun v _=>v=(str ((nth x19 s248).key):Value),fun v _=>v=(.int .i64 x461:Value),fun v _=>v=(.bool (decide (x461<(0:Int))):Value),fun v _=>v=(.bool (decide (x461<(0:Int))):Value)] (by kernel_rfl) ⟨fun _ _ _ _ _ h=>h,fun _ _ _ _ _ h=>h,fun _ _ _ _ _ h=>h,fun _ _ _ _ _ h=>h,fun _ _ _ _ _ h=>h,fun _ _ _ _ _ h=>h,fun _ _ _ _ _ h=>h,fun _ _ _ _ _ h=>h,fun _ _ _ _ _ h=>h,fun _ _ _ _ _ h=>h,fun _ _ _ _ _ h=>h,fun _ _ _ _ _ h=>h,fun _ _ _ _ _ h=>h,fun _ _ _ _ _ h=>h,fun _ _ _ _ _ h=>h,fun _ _ _ _ _ h=>h,fun _ _ _ _ _ h=>h,fun _ _ _ _ _ h=>h,fun _ _ _ _ _ h=>h,fun _ _ _ _ _ h=>h,fun _ _ _ _ _ h=>h,fun _ _ _ _ _ h=>h,trivial⟩ ?_ ?_
       ·refine ⟨?_,?_,?_,?_,?_,?_,?_,?_,?_,?_,?_,?_,?_,?_,?_,?_,?_,?_,?_,?_,?_,?_,trivial⟩
        ·intro ρ w427o F427o hS hρ
         have q5:ρ 5=.slice A21 x19.length c22:=hρ 5 (by kernel_rfl)
         exact o_q (r_mov q5) ⟨Fr.refl _ _,rfl⟩
        ·intro ρ w427o F427o hS hρ
         have q15:ρ 15=.int .i64 s248:=hρ 15 (by kernel_rfl)
         exact o_q (r_mov q15) ⟨Fr.refl _ _,rfl⟩
        ·intro ρ w427o F427o hS hρ
         have q100:ρ 100=.slice A21 x19.length c22:=hS 0 (by decide) 100 rfl
         have q101:ρ 101=.int .i64 s248:=hS 1 (by decide) 101 rfl
         exact o_q (r_ia slc_s_api_Entry q100 q101 ((H23.fr (G251.trans (Fr.ext F427o)) (fun _ h=>h)).now.2 _ (lt_toNat ha428.1 ha428.2)).1 ha428.1 ha428.2) ⟨Fr.refl _ _,rfl⟩
        ·intro ρ w427o F427o hS hρ
         have q102:ρ 102=.pointer (some (elemA A21 kEnt.n s248.toNat)):=hS 2 (by decide) 102 rfl
         exact o_q (r_fad fld_api_Entry_1 (elemA_spot _ _ _) q102) ⟨Fr.refl _ _,rfl⟩
        ·intro ρ w427o F427o hS hρ
         have q103:ρ 103=.pointer (some (ad (elemA A21 kEnt.n s248.toNat) 1)):=hS 3 (by decide) 103 rfl
         exact o_q (r_fad2 fld_api_Value_3 rfl rfl q103) ⟨Fr.refl _ _,rfl⟩
        ·intro ρ w427o F427o hS hρ
         have G474:Fr L w248r w427o:=Fr.ext F427o
         have q104:ρ 104=.pointer (some (ad (elemA A21 kEnt.n s248.toNat) 4)):=hS 4 (by decide) 104 rfl
         exact o_q (r_ld' one_bool q104 rfl ((H432.fr G474 (fun _ h=>h)).now.1.at (j:=4) rfl)) ⟨Fr.refl _ _,rfl⟩
        ·intro ρ w427o F427o hS hρ
         have q105:ρ 105=.bool (((nth x19 s248).val).dead):=hS 5 (by decide) 105 rfl
         exact o_q (r_mov q105) ⟨Fr.refl _ _,rfl⟩
        ·intro ρ w427o F427o hS hρ
         have q1:ρ 1=.pointer (some ⟨b7,0,none⟩):=hρ 1 (by kernel_rfl)
         have q106:ρ 106=.bool (((nth x19 s248).val).dead):=hS 6 (by decide) 106 rfl
         exact o_v (r_lda agg_api_Arena q1 (vs:=(cArena d0 A1 c2 A4 c5)) rfl ((S7.fr (G250.trans (Fr.ext F427o)) (fun _ h=>h)).now.part (n:=3) rfl)) (want_t (t:=106) rfl q106 hc308) rfl rfl (eo_nil ⟨rfl,rfl,_,rfl,Fr.refl _ _,rfl⟩)
        ·intro ρ w427o F427o hS hρ
         have q5:ρ 5=.slice A21 x19.length c22:=hρ 5 (by kernel_rfl)
         have q106:ρ 106=.bool (((nth x19 s248).val).dead):=hS 6 (by decide) 106 rfl
         exact o_v (r_mov q5) (want_t (t:=106) rfl q106 hc308) rfl rfl (eo_nil ⟨rfl,rfl,_,rfl,Fr.refl _ _,rfl⟩)
        ·intro ρ w427o F427o hS hρ
         have q15:ρ 15=.int .i64 s248:=hρ 15 (by kernel_rfl)
         have q106:ρ 106=.bool (((nth x19 s248).val).dead):=hS 6 (by decide) 106 rfl
         exact o_v (r_mov q15) (want_t (t:=106) rfl q106 hc308) rfl rfl (eo_nil ⟨rfl,rfl,_,rfl,Fr.refl _ _,rfl⟩)
        ·intro ρ w427o F427o hS hρ
         have q106:ρ 106=.bool (((nth x19 s248).val).dead):=hS 6 (by decide) 106 rfl
         have q108:ρ 108=.slice A21 x19.length c22:=hS 8 (by decide) 108 rfl
         have q109:ρ 109=.int .i64 s248:=hS 9 (by decide) 109 rfl
         exact o_v (r_ia slc_s_api_Entry q108 q109 ((H23.fr (G251.trans (Fr.ext F427o)) (fun _ h=>h)).now.2 _ (lt_toNat ha439.1 ha439.2)).1 ha439.1 ha439.2) (want_t (t:=106) rfl q106 hc308) rfl rfl (eo_nil ⟨rfl,rfl,_,rfl,Fr.refl _ _,rfl⟩)
        ·intro ρ w427o F427o hS hρ
         have q106:ρ 106=.bool (((nth x19 s248).val).dead):=hS 6 (by decide) 106 rfl
         have q110:ρ 110=.pointer (some (elemA A21 kEnt.n s248.toNat)):=hS 10 (by decide) 110 rfl
         exact o_v (r_fad fld_api_Entry_1 (elemA_spot _ _ _) q110) (want_t (t:=106) rfl q106 hc308) rfl rfl (eo_nil ⟨rfl,rfl,_,rfl,Fr.refl _ _,rfl⟩)
        ·intro ρ w427o F427o hS hρ
         have q106:ρ 106=.bool (((nth x19 s248).val).dead):=hS 6 (by decide) 106 rfl
         have q111:ρ 111=.pointer (some (ad (elemA A21 kEnt.n s248.toNat) 1)):=hS 11 (by decide) 111 rfl
         exact o_v (r_fad2 fld_api_Value_0 rfl rfl q111) (want_t (t:=106) rfl q106 hc308) rfl rfl (eo_nil ⟨rfl,rfl,_,rfl,Fr.refl _ _,rfl⟩)
        ·intro ρ w427o F427o hS hρ
         have G492:Fr L w248r w427o:=Fr.ext F427o
         have q106:ρ 106=.bool (((nth x19 s248).val).dead):=hS 6 (by decide) 106 rfl
         have q112:ρ 112=.pointer (some (ad (elemA A21 kEnt.n s248.toNat) 1)):=hS 12 (by decide) 112 rfl
         exact o_v (r_ld' one_int q112 rfl ((H443.fr G492 (fun _ h=>h)).now.1.at (j:=1) rfl)) (want_t (t:=106) rfl q106 hc308) rfl rfl (eo_nil ⟨rfl,rfl,_,rfl,Fr.refl _ _,rfl⟩)
        ·intro ρ w427o F427o hS hρ
         have q5:ρ 5=.slice A21 x19.length c22:=hρ 5 (by kernel_rfl)
         have q106:ρ 106=.bool (((nth x19 s248).val).dead):=hS 6 (by decide) 106 rfl
         exact o_v (r_mov q5) (want_t (t:=106) rfl q106 hc308) rfl rfl (eo_nil ⟨rfl,rfl,_,rfl,Fr.refl _ _,rfl⟩)
        ·intro ρ w427o F427o hS hρ
         have q15:ρ 15=.int .i64 s248:=hρ 15 (by kernel_rfl)
         have q106:ρ 106=.bool (((nth x19 s248).val).dead):=hS 6 (by decide) 106 rfl
         exact o_v (r_mov q15) (want_t (t:=106) rfl q106 hc308) rfl rfl (eo_nil ⟨rfl,rfl,_,rfl,Fr.refl _ _,rfl⟩)
        ·intro ρ w427o F427o hS hρ
         have q106:ρ 106=.bool (((nth x19 s248).val).dead):=hS 6 (by decide) 106 rfl
         have q114:ρ 114=.slice A21 x19.length c22:=hS 14 (by decide) 114 rfl
         have q115:ρ 115=.int .i64 s248:=hS 15 (by decide) 115 rfl
         exact o_v (r_ia slc_s_api_Entry q114 q115 ((H23.fr (G251.trans (Fr.ext F427o)) (fun _ h=>h)).now.2 _ (lt_toNat ha450.1 ha450.2)).1 ha450.1 ha450.2) (want_t (t:=106) rfl q106 hc308) rfl rfl (eo_nil ⟨rfl,rfl,_,rfl,Fr.refl _ _,rfl⟩)
        ·intro ρ w427o F427o hS hρ
         have q106:ρ 106=.bool (((nth x19 s248).val).dead):=hS 6 (by decide) 106 rfl
         have q116:ρ 116=.pointer (some (elemA A21 kEnt.n s248.toNat)):=hS 16 (by decide) 116 rfl
         exact o_v (r_fad fld_api_Entry_0 (elemA_spot _ _ _) q116) (want_t (t:=106) rfl q106 hc308) rfl rfl (eo_nil ⟨rfl,rfl,_,rfl,Fr.refl _ _,rfl⟩)
        ·intro ρ w427o F427o hS hρ
         have G504:Fr L w248r w427o:=Fr.ext F427o
         have q106:ρ 106=.bool (((nth x19 s248).val).dead):=hS 6 (by decide) 106 rfl
         have q117:ρ 117=.pointer (some (ad (elemA A21 kEnt.n s248.toNat) 0)):=hS 17 (by decide) 117 rfl
         exact o_v (r_ld' one_string q117 rfl ((H454.fr G504 (fun _ h=>h)).now.1.at (j:=0) rfl)) (want_t (t:=106) rfl q106 hc308) rfl rfl (eo_nil ⟨rfl,rfl,_,rfl,Fr.refl _ _,rfl⟩)
        ·intro ρ w427o F427o hS hρ
         have E505:=E248r.trans F427o
         have q106:ρ 106=.bool (((nth x19 s248).val).dead):=hS 6 (by decide) 106 rfl
         have q107:ρ 107=.agg (cArena d0 A1 c2 A4 c5).toArray:=hS 7 (by decide) 107 rfl
         have q113:ρ 113=.int .i64 (((nth x19 s248).val).kind):=hS 13 (by decide) 113 rfl
         have q118:ρ 118=str ((nth x19 s248).key):=hS 18 (by decide) 118 rfl
         refine o_call cf_arena_Find (by simp only [List.map,ev,q107,q113,q118] <;> rfl) (arena_Find_c d0 (kArena_mk (d:=d0) (H3.fr (G249.trans (Fr.ext F427o)) (fun _ h=>h)) (H6.fr (G249.trans (Fr.ext F427o)) (fun _ h=>h))) (((nth x19 s248).val).kind) ((nth x19 s248).key) (hL.fr E505) (eq_ev hx461 (arFind_ev d0 (((nth x19 s248).val).kind) ((nth x19 s248).key) ha462))) (want_t (t:=106) rfl q106 hc308) rfl ?_
         rintro _ w' ⟨F,rfl⟩
         exact eo_nil ⟨rfl,rfl,_,rfl,F,rfl⟩
        ·intro ρ w427o F427o hS hρ
         have q106:ρ 106=.bool (((nth x19 s248).val).dead):=hS 6 (by decide) 106 rfl
         have q119:ρ 119=.int .i64 x461:=hS 19 (by decide) 119 rfl
         exact o_v (r_int q119 rfl rfl) (want_t (t:=106) rfl q106 hc308) rfl rfl (eo_nil ⟨rfl,rfl,_,rfl,Fr.refl _ _,rfl⟩)
        ·intro ρ w427o F427o hS hρ
         have q106:ρ 106=.bool (((nth x19 s248).val).dead):=hS 6 (by decide) 106 rfl
         have q120:ρ 120=.bool (decide (x461<(0:Int))):=hS 20 (by decide) 120 rfl
         exact o_q (r_pickF q106 hc308 q120) ⟨Fr.refl _ _,rfl⟩
       ·intro ρ w427 F427 hS hρ
        have q107:ρ 107=.agg (cArena d0 A1 c2 A4 c5).toArray:=hS 7 107 rfl
        have q108:ρ 108=.slice A21 x19.length c22:=hS 8 108 rfl
        have q109:ρ 109=.int .i64 s248:=hS 9 109 rfl
        have q110:ρ 110=.pointer (some (elemA A21 kEnt.n s248.toNat)):=hS 10 110 rfl
        have q111:ρ 111=.pointer (some (ad (elemA A21 kEnt.n s248.toNat) 1)):=hS 11 111 rfl
        have q112:ρ 112=.pointer (some (ad (elemA A21 kEnt.n s248.toNat) 1)):=hS 12 112 rfl
        have q113:ρ 113=.int .i64 (((nth x19 s248).val).kind):=hS 13 113 rfl
        have q114:ρ 114=.slice A21 x19.length c22:=hS 14 114 rfl
        have q115:ρ 115=.int .i64 s248:=hS 15 115 rfl
        have q116:ρ 116=.pointer (some (elemA A21 kEnt.n s248.toNat)):=hS 16 116 rfl
        have q117:ρ 117=.pointer (some (ad (elemA A21 kEnt.n s248.toNat) 0)):=hS 17 117 rfl
        have q118:ρ 118=str ((nth x19 s248).key):=hS 18 118 rfl
        have q119:ρ 119=.int .i64 x461:=hS 19 119 rfl
        have q120:ρ 120=.bool (decide (x461<(0:Int))):=hS 20 120 rfl
        have q121:ρ 121=.bool (decide (x461<(0:Int))):=hS 21 121 rfl
        obtain ⟨ρ',rfl⟩:∃ ρ',ρ=envs (ovr [100,101,102,103,104,105,106,107,108,109,110,111,112,113,114,115,116,117,118,119,120,121] ρ' _) [(107,.agg (cArena d0 A1 c2 A4 c5).toArray),(108,.slice A21 x19.length c22),(109,.int .i64 s248),(110,.pointer (some (elemA A21 kEnt.n s248.toNat))),(111,.pointer (some (ad (elemA A21 kEnt.n s248.toNat) 1))),(112,.pointer (some (ad (elemA A21 kEnt.n s248.toNat) 1))),(113,.int .i64 (((nth x19 s248).val).kind)),(114,.slice A21 x19.length c22),(115,.int .i64 s248),(116,.pointer (some (elemA A21 kEnt.n s248.toNat))),(117,.pointer (some (ad (elemA A21 kEnt.n s248.toNat) 0))),(118,str ((nth x19 s248).key)),(119,.int .i64 x461),(120,.bool (decide (x461<(0:Int)))),(121,.bool (decide (x461<(0:Int))))]:=⟨ρ,ovr_self hρ ⟨q107,q108,q109,q110,q111,q112,q113,q114,q115,q116,q117,q118,q119,q120,q121,trivial⟩⟩
        have E511:=E248r.trans F427
        refine sq_n ?_
        refine ec_cond rfl (fun hc517=>?_) (fun hc517=>?_)
        ·replace h:=h.1 hc517
         refine ec_seq ?_
         refine ec_region ?_
         refine o_w (v:=.bool false) (r_asg rfl) ?_
         refine eo_nil_sq ?_
         refine ec_ret ?_
         refine blk_ret ?_
         refine sq_ret ?_
         subst h
         exact lqR_r (end1 rfl ⟨_,rfl,E511,rfl⟩)
        ·replace h:=h.2 hc517
         refine ec_skip ?_
         refine blk_n ?_
         refine sq_n ?_
         refine ec_region ?_
         refine o_w (v:=.int .i64 s248) (r_mov rfl) ?_
         refine o_w (v:=.int .i64 (IntKind.i64.wrap (s248 + (1:Int)))) (r_int rfl rfl rfl) ?_
         refine o_w (v:=.int .i64 (IntKind.i64.wrap (s248 + (1:Int)))) (r_asg rfl) ?_
         refine eo_nil ?_
         subst h
         exact lqR_n ⟨_,envs_self ⟨rfl,rfl,rfl,rfl,rfl,trivial⟩,rfl,(F248r.trans (Fr.ext F427)),E511⟩
     ·replace h:=h.2 hc252
      refine ec_exit ?_
      refine sq_exit ?_
      subst h
      exact lqR_x ⟨_,envs_self ⟨rfl,rfl,rfl,rfl,rfl,trivial⟩,rfl,F248r,E248r⟩
    ·exact ⟨_,envs_self ⟨rfl,rfl,rfl,rfl,rfl,trivial⟩,rfl,(Fr.refl _ _),E27e⟩
    ·rintro sx248 rfl ρ248e ds248e w248e ⟨ρ248e,rfl,rfl,F248e,E248e⟩
     replace h:=h.1 _ rfl
     refine blk_hit ?_
     refine sq_n ?_
     refine ec_seq ?_
     refine ec_region ?_
     iterate 2 refine o_w (v:=.bool (worksV)) (r_mov rfl) ?_
     refine o_v (v:=.int .i64 x27.1) (r_mov rfl) (want_t (t:=123) rfl rfl (of_not hc13)) rfl rfl ?_
     refine o_v (v:=.slice A21 x19.length c22) (r_mov rfl) (want_t (t:=123) rfl rfl (of_not hc13)) rfl rfl ?_
     refine o_v (v:=.int .i64 (x19.length:Int)) (r_len_slc un_s_api_Entry rfl) (want_t (t:=123) rfl rfl (of_not hc13)) rfl rfl ?_
     refine o_v (v:=.bool (x27.1==(x19.length:Int))) (r_int rfl rfl rfl) (want_t (t:=123) rfl rfl (of_not hc13)) rfl rfl ?_
     refine o_w (v:=.bool (x27.1==(x19.length:Int))) (r_pickT rfl (of_not hc13) rfl) ?_
     refine o_w (v:=.bool (x27.1==(x19.length:Int))) (r_asg rfl) ?_
     refine eo_nil_sq ?_
     refine ec_ret ?_
     subst h
     exact (end1 rfl ⟨_,rfl,E248e,rfl⟩)
    ·rintro y248 rfl ρ248q ds248q w248q hJ
     have hy:=h.2 _ rfl
     subst hy
     refine blk_ret ?_
     refine sq_ret ?_
     exact hJ
end Go.Proofs.Ythhjcijhanacnaa
