/- The law DigestIn: what it comes to. -/
import Derived.Test.YthbfhgenkhkpfaaGreatMg
namespace Go.Proofs.YthbfhgenkhkpfaaGreat
open Go Go.RowKit
set_option linter.unusedVariables false
set_option linter.unusedSimpArgs false
def law10_DigestIn_b64 (s48:Int × Int) (x54:(List Ent)) (s64:Int) (z64:(Int) ⊕ ((Int) ⊕ (Bool))):Prop :=
 ((decide (s64<(x54.length:Int)))=true→((0≤s64∧s64<(x54.length:Int))∧((0≤s64∧s64<(x54.length:Int))∧(((nth x54 s64).key).length≤1000000∧(∃ x116,x116=(bucketD (((nth x54 s64).val).kind) ((nth x54 s64).key))∧(((x116 != s48.2)=true→(z64=.inr (.inr false)))∧((x116 != s48.2)=false→(z64=.inl (IntKind.i64.wrap (s64 + (1:Int)))))))))))∧((decide (s64<(x54.length:Int)))=false→(z64=.inr (.inl s64)))
def law10_DigestIn_b48 (d0:Arena) (s48:Int × Int) (z48:(Int × Int) ⊕ ((Int × Int) ⊕ (Bool))):Prop :=
 ((decide (s48.2<4))=true→(decide (0≤(IntKind.u64.wrap s48.2))=true∧((sma d0)∧(∃ x54,x54=(inD d0 (IntKind.i64.wrap ((1:Int) * 2 ^ min ((IntKind.u64.wrap s48.2)).toNat IntKind.i64.bits)) (100:Int))∧(∃ x64,LoopR (law10_DigestIn_b64 s48 x54) (0:Int) x64∧(∀ sx64,x64=.inl sx64→(z48=.inl ((IntKind.i64.wrap (s48.1 + (x54.length:Int))),(IntKind.i64.wrap (s48.2 + (1:Int))))))∧(∀ y64,x64=.inr y64→(z48=.inr (.inr y64))))))))∧((decide (s48.2<4))=false→(z48=.inr (.inl (s48.1,s48.2))))
def law10_DigestIn_raw (d0:Arena) (d1:Int) (d2:Int) (y:Bool):Prop :=
 ((!(worksV))=true→(y=false))∧((!(worksV))=false→(((!(!(fewA d0)))=true→sma d0)∧((((!(fewA d0))||((checkA d0) != (0:Int)))=true→(y=(worksV)))∧(((!(fewA d0))||((checkA d0) != (0:Int)))=false→(sma d0∧(∃ x26,x26=(inD d0 (15:Int) (100:Int))∧(sml x26∧(∃ x48,LoopR (law10_DigestIn_b48 d0) ((0:Int),(0:Int)) x48∧(∀ sx48,x48=.inl sx48→((sma d0)∧(∃ x175,x175=(inD d0 d1 d2)∧(((allE x26 d0.slots)=true→(((sx48.1==(d0.slots.length:Int))=true→((((x175.length:Int)==0)=true→((sma d0)∧(∃ x187,x187=(inD d0 (0:Int) (100:Int))∧(y=((x187.length:Int)==0)))))∧(((x175.length:Int)==0)=false→(((decide ((x175.length:Int)≤d2))=true→((sma d0)∧(∃ x198,x198=(inD d0 (0:Int) (100:Int))∧(y=((x198.length:Int)==0)))))∧((decide ((x175.length:Int)≤d2))=false→(y=false))))))∧((sx48.1==(d0.slots.length:Int))=false→(y=false))))∧((allE x26 d0.slots)=false→(y=false))))))∧(∀ y48,x48=.inr y48→(y=y48))))))))))
set_option maxRecDepth 20000 in
set_option maxHeartbeats 4000000 in
theorem law10_DigestIn_c {L:List Nat} {w:World} {csP0:List Value} (d0:Arena) (HP0:Stb L w (fun w=>kArena.r w csP0 d0)) (d1:Int) (d2:Int) (hL:Lt L w) {y:Bool} (h:law10_DigestIn_raw d0 d1 d2 y) :
  Calls Tryz.prog 6 [.agg csP0.toArray,.int .i64 d1,.int .i64 d2].toArray w (Ret fun v w'=>Ext w w'∧v=.bool y):=by
 obtain ⟨A1,c2,A4,c5,rfl,H3,H6⟩:=kArena_open HP0
 unfold law10_DigestIn_raw at h
 refine calls_ec Tryz.func6 rfl rfl rfl ?_
 refine ec_sr ?_
 refine o_box (cs:=(cArena d0 A1 c2 A4 c5)) rfl rfl rfl ?_
 intro b7 w7 e7 F7 B7
 have S7:=B7.stb (nin hL e7)
 have G8:Fr L w w7:=Fr.ext F7
 refine o_w (v:=.bool false) (r_asg rfl) ?_
 refine eo_r ?_
 refine o_call cf_law10_works rfl (law10_works_c (hL.fr F7) (works10_ev)) rfl rfl ?_
 rintro _ w9 ⟨F9,rfl⟩
 have E10:=F7.trans F9
 have G12:Fr L w7 w9:=Fr.ext F9
 refine o_w (v:=.bool (worksV)) (r_asg rfl) ?_
 refine eo_nil_sq ?_
 refine ec_seq ?_
 refine ec_sr ?_
 refine o_w (v:=.bool (worksV)) (r_mov rfl) ?_
 refine o_w (v:=.bool (!(worksV))) (r_not rfl) ?_
 refine eo_nil_sq ?_
 refine ec_cond rfl (fun hc13=>?_) (fun hc13=>?_)
 ·replace h:=h.1 hc13
  refine ec_sr ?_
  refine o_w (v:=.bool false) (r_asg rfl) ?_
  refine eo_nil_sq ?_
  refine ec_ret ?_
  refine sq_ret ?_
  subst h
  exact (end1 rfl ⟨_,rfl,E10,rfl⟩)
 ·replace h:=h.2 hc13
  refine ec_skip ?_
  refine sq_n ?_
  refine ec_sr ?_
  refine o_w (v:=.agg (cArena d0 A1 c2 A4 c5).toArray) (r_lda agg_api_Arena rfl (vs:=(cArena d0 A1 c2 A4 c5)) rfl ((S7.fr G12 sI).now.part (n:=3) rfl)) ?_
  refine o_call cf_law08_Few rfl (law08_Few_c d0 (kArena_mk (d:=d0) (H3.fr (G8.trans (Fr.ext F9)) sI) (H6.fr (G8.trans (Fr.ext F9)) sI)) (hL.fr E10) (fewA_ev d0)) rfl rfl ?_
  rintro _ w14 ⟨F14,rfl⟩
  have E15:=E10.trans F14
  refine o_w (v:=.bool (fewA d0)) (r_asg rfl) ?_
  refine eo_nil_sq ?_
  refine ec_seq ?_
  refine ec_sr ?_
  refine o_w (v:=.bool (fewA d0)) (r_mov rfl) ?_
  refine o_w (v:=.bool (!(fewA d0))) (r_not rfl) ?_
  refine o_w (v:=.bool (!(fewA d0))) (r_mov rfl) ?_
  refine o_vg (v:=.agg (cArena d0 A1 c2 A4 c5).toArray) (want_cf (t:=22) rfl rfl) (fun hk=>(r_lda agg_api_Arena rfl (vs:=(cArena d0 A1 c2 A4 c5)) rfl ((S7.fr (G12.trans (Fr.ext F14)) sI).now.part (n:=3) rfl))) rfl rfl ?_
  obtain ⟨ha20,h⟩:=h
  refine o_callg (V:=.int .i64 (checkA d0)) cf_arena_Check (want_cf (t:=22) rfl rfl) (fun hk=>(mapv1 (gdT (u:=undef) hk))) (fun hk=>(arena_Check_c d0 (kArena_mk (d:=d0) (H3.fr ((G8.trans (Fr.ext F9)).trans (Fr.ext F14)) sI) (H6.fr ((G8.trans (Fr.ext F9)).trans (Fr.ext F14)) sI)) (hL.fr E15) (arCheck_ev d0 (ha20 hk)))) rfl ?_
  intro w19 F19
  have E21:=E15.trans F19
  refine o_vg (v:=.bool ((checkA d0) != (0:Int))) (want_cf (t:=22) rfl rfl) (fun hk=>(r_int (gdT (u:=undef) hk) rfl rfl)) rfl rfl ?_
  refine o_w (v:=.bool ((!(fewA d0))||((checkA d0) != (0:Int)))) (r_pickOr rfl rfl (fun hf=>(gdT (u:=undef) (notT hf)))) ?_
  refine eo_nil_sq ?_
  refine ec_cond rfl (fun hc24=>?_) (fun hc24=>?_)
  ·replace h:=h.1 hc24
   refine ec_sr ?_
   refine o_w (v:=.bool (worksV)) (r_mov rfl) ?_
   refine o_w (v:=.bool (worksV)) (r_asg rfl) ?_
   refine eo_nil_sq ?_
   refine ec_ret ?_
   refine sq_ret ?_
   subst h
   exact (end1 rfl ⟨_,rfl,E21,rfl⟩)
  ·replace h:=h.2 hc24
   refine ec_skip ?_
   refine sq_n ?_
   refine ec_seq ?_
   obtain ⟨ha27,h⟩:=h
   obtain ⟨x26,hx26,h⟩:=h
   obtain ⟨ha32,h⟩:=h
   refine ec_any0 (by kernel_rfl) [[],[0],[],[2],[0,1,2,3],[0,1,2,3,4]] [9,28,29,30,31,32] [fun v _=>v=(.agg (cArena d0 A1 c2 A4 c5).toArray:Value),fun v w'=>∃ A28 c29,v=(.slice A28 x26.length c29:Value)∧Stb L w' (fun w=>SlC kEnt w A28 c29 x26),fun v _=>v=(.pointer (some ⟨b7,1,none⟩):Value),fun v _=>v=(.slice A1 d0.slots.length c2:Value),fun v _=>v=(.bool (allE x26 d0.slots):Value),fun v _=>v=(.bool (allE x26 d0.slots):Value)] (by kernel_rfl) ⟨fun _ _ _ _ _ h=>h,fun _ v w' w'' F h=>by obtain ⟨A28,c29,hv,H30⟩:=h; exact ⟨A28,c29,hv,(H30.ex F)⟩,fun _ _ _ _ _ h=>h,fun _ _ _ _ _ h=>h,fun _ _ _ _ _ h=>h,fun _ _ _ _ _ h=>h,trivial⟩ ?_ ?_
   ·refine ⟨?_,?_,?_,?_,?_,?_,trivial⟩
    ·intro ρ w25o F25o hS hρ
     have q3:ρ 3=.pointer (some ⟨b7,0,none⟩):=hρ 3 (by kernel_rfl)
     exact o_q (r_lda agg_api_Arena q3 (vs:=(cArena d0 A1 c2 A4 c5)) rfl ((S7.fr (((G12.trans (Fr.ext F14)).trans (Fr.ext F19)).trans (Fr.ext F25o)) sI).now.part (n:=3) rfl)) ⟨Fr.refl _ _,rfl⟩
    ·intro ρ w25o F25o hS hρ
     have E36:=E21.trans F25o
     have G37:=(((G8.trans (Fr.ext F9)).trans (Fr.ext F14)).trans (Fr.ext F19)).trans (Fr.ext F25o)
     have q28:ρ 28=.agg (cArena d0 A1 c2 A4 c5).toArray:=hS 0 (by decide) 28 rfl
     refine o_call cf_digest_In (by simp only [List.map,ev,q28] <;> rfl) (digest_In_c d0 (kArena_mk (d:=d0) (H3.fr G37 sI) (H6.fr G37 sI)) (15:Int) (100:Int) (hL.fr E36) (eq_ev hx26 (digIn_ev d0 (15:Int) (100:Int) ha27))) rfl rfl ?_
     rintro _ w' ⟨F,A28,c29,rfl,H30⟩
     exact eo_nil ⟨rfl,rfl,_,rfl,F,⟨A28,c29,rfl,H30⟩⟩
    ·intro ρ w25o F25o hS hρ
     have q3:ρ 3=.pointer (some ⟨b7,0,none⟩):=hρ 3 (by kernel_rfl)
     exact o_q (r_fa fld_api_Arena_1 rfl q3) ⟨Fr.refl _ _,rfl⟩
    ·intro ρ w25o F25o hS hρ
     have q30:ρ 30=.pointer (some ⟨b7,1,none⟩):=hS 2 (by decide) 30 rfl
     exact o_q (r_ld one_s_api_Entry q30 ((S7.fr (((G12.trans (Fr.ext F14)).trans (Fr.ext F19)).trans (Fr.ext F25o)) sI).now.cell rfl)) ⟨Fr.refl _ _,rfl⟩
    ·intro ρ w25o F25o hS hρ
     have E42:=E21.trans F25o
     have G43:=(((G8.trans (Fr.ext F9)).trans (Fr.ext F14)).trans (Fr.ext F19)).trans (Fr.ext F25o)
     obtain ⟨A28,c29,q29,H30⟩:=hS 1 (by decide) 29 rfl
     have q31:ρ 31=.slice A1 d0.slots.length c2:=hS 3 (by decide) 31 rfl
     refine o_call cf_ref07_All (by simp only [List.map,ev,q29,q31] <;> rfl) (ref07_All_c x26 H30 d0.slots (H3.fr G43 sI) (hL.fr E42) (refAll_ev x26 d0.slots ha32)) rfl rfl ?_
     rintro _ w' ⟨F,rfl⟩
     exact eo_nil ⟨rfl,rfl,_,rfl,F,rfl⟩
    ·intro ρ w25o F25o hS hρ
     have q32:ρ 32=.bool (allE x26 d0.slots):=hS 4 (by decide) 32 rfl
     exact o_q (r_asg q32) ⟨Fr.refl _ _,rfl⟩
   ·intro ρ w25 F25 hS hρ
    have q9:ρ 9=.bool (allE x26 d0.slots):=hS 5 9 rfl
    obtain ⟨ρ',rfl⟩:∃ ρ',ρ=envs (ovr [9,28,29,30,31,32] ρ' _) [(9,.bool (allE x26 d0.slots))]:=⟨ρ,ovr_self hρ ⟨q9,trivial⟩⟩
    have E45:=E21.trans F25
    have G46:=(((G8.trans (Fr.ext F9)).trans (Fr.ext F14)).trans (Fr.ext F19)).trans (Fr.ext F25)
    refine sq_n ?_
    refine ec_sr ?_
    refine o_w (v:=.int .i64 0) (r_asg rfl) ?_
    refine eo_nil_sq ?_
    refine ec_seq ?_
    refine ec_sr ?_
    refine o_w (v:=.int .i64 0) (r_asg rfl) ?_
    refine eo_nil_sq ?_
    refine ec_block ?_
    obtain ⟨x48,hl48,h⟩:=h
    refine ec_loopER 0 (I:=(fun (s48:Int × Int) ρ ds w'=>∃ (ρ':Env),ρ=envs ρ' [(10,.int .i64 s48.1),(11,.int .i64 s48.2),(1,.int .i64 d1),(2,.int .i64 d2),(3,.pointer (some ⟨b7,0,none⟩)),(7,.bool (worksV)),(9,.bool (allE x26 d0.slots))]∧ds=[]∧Fr L w25 w'∧Ext w w')) (J:=(fun (y':Bool) ρ ds wz=>bodyE Tryz.prog #[.tmp 6] (Ret fun v w'=>Ext w w'∧v=.bool y') .ret ρ ds wz)) ?_ hl48 ?_ ?_ ?_
    ·intro s48 z48 ρ48 ds48 w48r hI48 hb48
     obtain ⟨ρ48r,rfl,rfl,F48r,E48r⟩:=hI48
     have h:=hb48
     unfold law10_DigestIn_b48 at h
     have G49:Fr L w w48r:=G46.stp F48r (fun _ h=>.inl h)
     have G50:Fr L w7 w48r:=(((G12.trans (Fr.ext F14)).trans (Fr.ext F19)).trans (Fr.ext F25)).stp F48r (fun _ h=>.inl h)
     refine ec_seq ?_
     refine ec_sr ?_
     refine o_w (v:=.int .i64 s48.2) (r_mov rfl) ?_
     refine o_w (v:=.bool (decide (s48.2<4))) (r_int rfl rfl rfl) ?_
     refine eo_nil_sq ?_
     refine ec_cond rfl (fun hc52=>?_) (fun hc52=>?_)
     ·replace h:=h.1 hc52
      refine ec_skip ?_
      refine sq_n ?_
      refine ec_seq ?_
      refine ec_block ?_
      refine ec_sr ?_
      refine o_w (v:=.agg (cArena d0 A1 c2 A4 c5).toArray) (r_lda agg_api_Arena rfl (vs:=(cArena d0 A1 c2 A4 c5)) rfl ((S7.fr G50 sI).now.part (n:=3) rfl)) ?_
      refine o_w (v:=.int .i64 s48.2) (r_mov rfl) ?_
      refine o_w (v:=.int .u64 (IntKind.u64.wrap s48.2)) (r_conv un_int un_uint rfl) ?_
      obtain ⟨ha53,h⟩:=h
      refine o_w (v:=.int .i64 (IntKind.i64.wrap ((1:Int) * 2 ^ min ((IntKind.u64.wrap s48.2)).toNat IntKind.i64.bits))) (r_shl rfl rfl ha53) ?_
      obtain ⟨ha55,h⟩:=h
      obtain ⟨x54,hx54,h⟩:=h
      refine o_call cf_digest_In rfl (digest_In_c d0 (kArena_mk (d:=d0) (H3.fr G49 sI) (H6.fr G49 sI)) (IntKind.i64.wrap ((1:Int) * 2 ^ min ((IntKind.u64.wrap s48.2)).toNat IntKind.i64.bits)) (100:Int) (hL.fr E48r) (eq_ev hx54 (digIn_ev d0 (IntKind.i64.wrap ((1:Int) * 2 ^ min ((IntKind.u64.wrap s48.2)).toNat IntKind.i64.bits)) (100:Int) ha55))) rfl rfl ?_
      rintro _ w54 ⟨F54,A56,c57,rfl,H58⟩
      have E59:=E48r.trans F54
      refine o_w (v:=.slice A56 x54.length c57) (r_asg rfl) ?_
      refine eo_r ?_
      refine o_w (v:=.int .i64 s48.1) (r_mov rfl) ?_
      refine o_w (v:=.slice A56 x54.length c57) (r_mov rfl) ?_
      refine o_w (v:=.int .i64 (x54.length:Int)) (r_len_slc un_s_api_Entry rfl) ?_
      refine o_w (v:=.int .i64 (IntKind.i64.wrap (s48.1 + (x54.length:Int)))) (r_int rfl rfl rfl) ?_
      refine o_w (v:=.int .i64 (IntKind.i64.wrap (s48.1 + (x54.length:Int)))) (r_asg rfl) ?_
      refine eo_r ?_
      refine o_w (v:=.int .i64 0) (r_asg rfl) ?_
      refine eo_nil_sq ?_
      refine ec_block ?_
      obtain ⟨x64,hl64,h⟩:=h
      refine ec_loopER 2 (I:=(fun (s64:Int) ρ ds w'=>∃ (ρ':Env),ρ=envs ρ' [(13,.int .i64 s64),(1,.int .i64 d1),(2,.int .i64 d2),(3,.pointer (some ⟨b7,0,none⟩)),(7,.bool (worksV)),(9,.bool (allE x26 d0.slots)),(10,.int .i64 (IntKind.i64.wrap (s48.1 + (x54.length:Int)))),(11,.int .i64 s48.2),(12,.slice A56 x54.length c57)]∧ds=[]∧Fr L w54 w'∧Ext w w')) (J:=(fun (y':Bool) ρ ds wz=>bodyE Tryz.prog #[.tmp 6] (Ret fun v w'=>Ext w w'∧v=.bool y') .ret ρ ds wz)) ?_ hl64 ?_ ?_ ?_
      ·intro s64 z64 ρ64 ds64 w64r hI64 hb64
       obtain ⟨ρ64r,rfl,rfl,F64r,E64r⟩:=hI64
       have h:=hb64
       unfold law10_DigestIn_b64 at h
       have G69:Fr L w54 w64r:=(Fr.refl _ _).stp F64r (fun _ h=>.inl h)
       refine ec_seq ?_
       refine ec_sr ?_
       refine o_w (v:=.int .i64 s64) (r_mov rfl) ?_
       refine o_w (v:=.slice A56 x54.length c57) (r_mov rfl) ?_
       refine o_w (v:=.int .i64 (x54.length:Int)) (r_len_slc un_s_api_Entry rfl) ?_
       refine o_w (v:=.bool (decide (s64<(x54.length:Int)))) (r_int rfl rfl rfl) ?_
       refine eo_nil_sq ?_
       refine ec_cond rfl (fun hc70=>?_) (fun hc70=>?_)
       ·replace h:=h.1 hc70
        refine ec_skip ?_
        refine sq_n ?_
        refine ec_seq ?_
        refine ec_block ?_
        refine ec_seq ?_
        obtain ⟨ha94,h⟩:=h
        obtain ⟨cs95,l97,H96⟩:=Stb.elem (by decide) (H58.fr G69 sI) s64 ha94.1 ha94.2
        obtain ⟨A99,c100,A102,c103,rfl,H98,H101,H104⟩:=kEnt_open2 H96
        obtain ⟨ha105,h⟩:=h
        obtain ⟨cs106,l108,H107⟩:=Stb.elem (by decide) (H58.fr G69 sI) s64 ha105.1 ha105.2
        obtain ⟨A110,c111,A113,c114,rfl,H109,H112,H115⟩:=kEnt_open2 H107
        obtain ⟨ha117,h⟩:=h
        obtain ⟨x116,hx116,h⟩:=h
        refine ec_any0 (by kernel_rfl) [[],[],[0,1],[0,1,2],[0,1,2,3],[0,1,2,3,4],[],[],[6,7],[6,7,8],[6,7,8,9],[0,1,2,3,4,5,6,7,8,9,10],[],[0,1,2,3,4,5,6,7,8,9,10,11,12]] [52,53,54,55,56,57,58,59,60,61,62,63,64,65] [fun v _=>v=(.slice A56 x54.length c57:Value),fun v _=>v=(.int .i64 s64:Value),fun v _=>v=(.pointer (some (elemA A56 kEnt.n s64.toNat)):Value),fun v _=>v=(.pointer (some (ad (elemA A56 kEnt.n s64.toNat) 1)):Value),fun v _=>v=(.pointer (some (ad (elemA A56 kEnt.n s64.toNat) 1)):Value),fun v _=>v=(.int .i64 (((nth x54 s64).val).kind):Value),fun v _=>v=(.slice A56 x54.length c57:Value),fun v _=>v=(.int .i64 s64:Value),fun v _=>v=(.pointer (some (elemA A56 kEnt.n s64.toNat)):Value),fun v _=>v=(.pointer (some (ad (elemA A56 kEnt.n s64.toNat) 0)):Value),fun v _=>v=(str ((nth x54 s64).key):Value),fun v _=>v=(.int .i64 x116:Value),fun v _=>v=(.int .i64 s48.2:Value),fun v _=>v=(.bool (x116 != s48.2):Value)] (by kernel_rfl) ⟨fun _ _ _ _ _ h=>h,fun _ _ _ _ _ h=>h,fun _ _ _ _ _ h=>h,fun _ _ _ _ _ h=>h,fun _ _ _ _ _ h=>h,fun _ _ _ _ _ h=>h,fun _ _ _ _ _ h=>h,fun _ _ _ _ _ h=>h,fun _ _ _ _ _ h=>h,fun _ _ _ _ _ h=>h,fun _ _ _ _ _ h=>h,fun _ _ _ _ _ h=>h,fun _ _ _ _ _ h=>h,fun _ _ _ _ _ h=>h,trivial⟩ ?_ ?_
        ·refine ⟨?_,?_,?_,?_,?_,?_,?_,?_,?_,?_,?_,?_,?_,?_,trivial⟩
         ·intro ρ w93o F93o hS hρ
          have q12:ρ 12=.slice A56 x54.length c57:=hρ 12 (by kernel_rfl)
          exact o_q (r_mov q12) ⟨Fr.refl _ _,rfl⟩
         ·intro ρ w93o F93o hS hρ
          have q13:ρ 13=.int .i64 s64:=hρ 13 (by kernel_rfl)
          exact o_q (r_mov q13) ⟨Fr.refl _ _,rfl⟩
         ·intro ρ w93o F93o hS hρ
          have q52:ρ 52=.slice A56 x54.length c57:=hS 0 (by decide) 52 rfl
          have q53:ρ 53=.int .i64 s64:=hS 1 (by decide) 53 rfl
          exact o_q (r_ia slc_s_api_Entry q52 q53 ((H58.fr (G69.trans (Fr.ext F93o)) sI).now.2 _ (lt_toNat ha94.1 ha94.2)).1 ha94.1 ha94.2) ⟨Fr.refl _ _,rfl⟩
         ·intro ρ w93o F93o hS hρ
          have q54:ρ 54=.pointer (some (elemA A56 kEnt.n s64.toNat)):=hS 2 (by decide) 54 rfl
          exact o_q (r_fad fld_api_Entry_1 (elemA_spot _ _ _) q54) ⟨Fr.refl _ _,rfl⟩
         ·intro ρ w93o F93o hS hρ
          have q55:ρ 55=.pointer (some (ad (elemA A56 kEnt.n s64.toNat) 1)):=hS 3 (by decide) 55 rfl
          exact o_q (r_fad2 fld_api_Value_0 rfl rfl q55) ⟨Fr.refl _ _,rfl⟩
         ·intro ρ w93o F93o hS hρ
          have G133:Fr L w64r w93o:=Fr.ext F93o
          have q56:ρ 56=.pointer (some (ad (elemA A56 kEnt.n s64.toNat) 1)):=hS 4 (by decide) 56 rfl
          exact o_q (r_ld' one_int q56 rfl ((H98.fr G133 sI).now.1.at (j:=1) rfl)) ⟨Fr.refl _ _,rfl⟩
         ·intro ρ w93o F93o hS hρ
          have q12:ρ 12=.slice A56 x54.length c57:=hρ 12 (by kernel_rfl)
          exact o_q (r_mov q12) ⟨Fr.refl _ _,rfl⟩
         ·intro ρ w93o F93o hS hρ
          have q13:ρ 13=.int .i64 s64:=hρ 13 (by kernel_rfl)
          exact o_q (r_mov q13) ⟨Fr.refl _ _,rfl⟩
         ·intro ρ w93o F93o hS hρ
          have q58:ρ 58=.slice A56 x54.length c57:=hS 6 (by decide) 58 rfl
          have q59:ρ 59=.int .i64 s64:=hS 7 (by decide) 59 rfl
          exact o_q (r_ia slc_s_api_Entry q58 q59 ((H58.fr (G69.trans (Fr.ext F93o)) sI).now.2 _ (lt_toNat ha105.1 ha105.2)).1 ha105.1 ha105.2) ⟨Fr.refl _ _,rfl⟩
         ·intro ρ w93o F93o hS hρ
          have q60:ρ 60=.pointer (some (elemA A56 kEnt.n s64.toNat)):=hS 8 (by decide) 60 rfl
          exact o_q (r_fad fld_api_Entry_0 (elemA_spot _ _ _) q60) ⟨Fr.refl _ _,rfl⟩
         ·intro ρ w93o F93o hS hρ
          have G149:Fr L w64r w93o:=Fr.ext F93o
          have q61:ρ 61=.pointer (some (ad (elemA A56 kEnt.n s64.toNat) 0)):=hS 9 (by decide) 61 rfl
          exact o_q (r_ld' one_string q61 rfl ((H109.fr G149 sI).now.1.at (j:=0) rfl)) ⟨Fr.refl _ _,rfl⟩
         ·intro ρ w93o F93o hS hρ
          have E150:=E64r.trans F93o
          have q57:ρ 57=.int .i64 (((nth x54 s64).val).kind):=hS 5 (by decide) 57 rfl
          have q62:ρ 62=str ((nth x54 s64).key):=hS 10 (by decide) 62 rfl
          refine o_call cf_digest_Bucket (by simp only [List.map,ev,q57,q62] <;> rfl) (digest_Bucket_c (((nth x54 s64).val).kind) ((nth x54 s64).key) (hL.fr E150) (eq_ev hx116 (digBucket_ev (((nth x54 s64).val).kind) ((nth x54 s64).key) ha117))) rfl rfl ?_
          rintro _ w' ⟨F,rfl⟩
          exact eo_nil ⟨rfl,rfl,_,rfl,F,rfl⟩
         ·intro ρ w93o F93o hS hρ
          have q11:ρ 11=.int .i64 s48.2:=hρ 11 (by kernel_rfl)
          exact o_q (r_mov q11) ⟨Fr.refl _ _,rfl⟩
         ·intro ρ w93o F93o hS hρ
          have q63:ρ 63=.int .i64 x116:=hS 11 (by decide) 63 rfl
          have q64:ρ 64=.int .i64 s48.2:=hS 12 (by decide) 64 rfl
          exact o_q (r_int q63 q64 rfl) ⟨Fr.refl _ _,rfl⟩
        ·intro ρ w93 F93 hS hρ
         have q65:ρ 65=.bool (x116 != s48.2):=hS 13 65 rfl
         obtain ⟨ρ',rfl⟩:∃ ρ',ρ=envs (ovr [52,53,54,55,56,57,58,59,60,61,62,63,64,65] ρ' _) [(65,.bool (x116 != s48.2))]:=⟨ρ,ovr_self hρ ⟨q65,trivial⟩⟩
         have E158:=E64r.trans F93
         refine sq_n ?_
         refine ec_cond rfl (fun hc166=>?_) (fun hc166=>?_)
         ·replace h:=h.1 hc166
          refine ec_sr ?_
          refine o_w (v:=.bool false) (r_asg rfl) ?_
          refine eo_nil_sq ?_
          refine ec_ret ?_
          refine blk_ret ?_
          refine sq_ret ?_
          subst h
          exact lqR_r (end1 rfl ⟨_,rfl,E158,rfl⟩)
         ·replace h:=h.2 hc166
          refine ec_skip ?_
          refine blk_n ?_
          refine sq_n ?_
          refine ec_region ?_
          refine o_w (v:=.int .i64 s64) (r_mov rfl) ?_
          refine o_w (v:=.int .i64 (IntKind.i64.wrap (s64 + (1:Int)))) (r_int rfl rfl rfl) ?_
          refine o_w (v:=.int .i64 (IntKind.i64.wrap (s64 + (1:Int)))) (r_asg rfl) ?_
          refine eo_nil ?_
          subst h
          exact lqR_n ⟨_,envs_self ⟨rfl,rfl,rfl,rfl,rfl,rfl,rfl,rfl,rfl,trivial⟩,rfl,(F64r.trans (Fr.ext F93)),E158⟩
       ·replace h:=h.2 hc70
        refine ec_exit ?_
        refine sq_exit ?_
        subst h
        exact lqR_x ⟨_,envs_self ⟨rfl,rfl,rfl,rfl,rfl,rfl,rfl,rfl,rfl,trivial⟩,rfl,F64r,E64r⟩
      ·exact ⟨_,envs_self ⟨rfl,rfl,rfl,rfl,rfl,rfl,rfl,rfl,rfl,trivial⟩,rfl,(Fr.refl _ _),E59⟩
      ·rintro sx64 rfl ρ64e ds64e w64e ⟨ρ64e,rfl,rfl,F64e,E64e⟩
       replace h:=h.1 _ rfl
       have G170:Fr L w25 w64e:=(F48r.trans (Fr.ext F54)).stp F64e (fun _ h=>.inl h)
       refine blk_hit ?_
       refine blk_n ?_
       refine sq_n ?_
       refine ec_region ?_
       refine o_w (v:=.int .i64 s48.2) (r_mov rfl) ?_
       refine o_w (v:=.int .i64 (IntKind.i64.wrap (s48.2 + (1:Int)))) (r_int rfl rfl rfl) ?_
       refine o_w (v:=.int .i64 (IntKind.i64.wrap (s48.2 + (1:Int)))) (r_asg rfl) ?_
       refine eo_nil ?_
       subst h
       exact lqR_n ⟨_,envs_self ⟨rfl,rfl,rfl,rfl,rfl,rfl,rfl,trivial⟩,rfl,G170,E64e⟩
      ·rintro y64 rfl ρ64q ds64q w64q hJ
       have hy:=h.2 _ rfl
       subst hy
       iterate 2 refine blk_ret ?_
       refine sq_ret ?_
       exact lqR_r hJ
     ·replace h:=h.2 hc52
      refine ec_exit ?_
      refine sq_exit ?_
      subst h
      exact lqR_x ⟨_,envs_self ⟨rfl,rfl,rfl,rfl,rfl,rfl,rfl,trivial⟩,rfl,F48r,E48r⟩
    ·exact ⟨_,envs_self ⟨rfl,rfl,rfl,rfl,rfl,rfl,rfl,trivial⟩,rfl,(Fr.refl _ _),E45⟩
    ·rintro sx48 rfl ρ48e ds48e w48e ⟨ρ48e,rfl,rfl,F48e,E48e⟩
     replace h:=h.1 _ rfl
     have G172:Fr L w w48e:=G46.stp F48e (fun _ h=>.inl h)
     have G173:Fr L w7 w48e:=(((G12.trans (Fr.ext F14)).trans (Fr.ext F19)).trans (Fr.ext F25)).stp F48e (fun _ h=>.inl h)
     refine blk_hit ?_
     refine sq_n ?_
     refine ec_sr ?_
     refine o_w (v:=.agg (cArena d0 A1 c2 A4 c5).toArray) (r_lda agg_api_Arena rfl (vs:=(cArena d0 A1 c2 A4 c5)) rfl ((S7.fr G173 sI).now.part (n:=3) rfl)) ?_
     refine o_w (v:=.int .i64 d1) (r_mov rfl) ?_
     refine o_w (v:=.int .i64 d2) (r_mov rfl) ?_
     obtain ⟨ha176,h⟩:=h
     obtain ⟨x175,hx175,h⟩:=h
     refine o_call cf_digest_In rfl (digest_In_c d0 (kArena_mk (d:=d0) (H3.fr G172 sI) (H6.fr G172 sI)) d1 d2 (hL.fr E48e) (eq_ev hx175 (digIn_ev d0 d1 d2 ha176))) rfl rfl ?_
     rintro _ w175 ⟨F175,A177,c178,rfl,H179⟩
     have E180:=E48e.trans F175
     refine o_w (v:=.int .i64 (x175.length:Int)) (r_len_slc un_s_api_Entry rfl) ?_
     refine o_w (v:=.int .i64 (x175.length:Int)) (r_asg rfl) ?_
     refine eo_r ?_
     iterate 2 refine o_w (v:=.bool (worksV)) (r_mov rfl) ?_
     refine o_v (v:=.bool (allE x26 d0.slots)) (r_mov rfl) (want_t (t:=72) rfl rfl (of_not hc13)) rfl rfl ?_
     refine o_w (v:=.bool (allE x26 d0.slots)) (r_pickT rfl (of_not hc13) rfl) ?_
     refine o_w (v:=.bool (allE x26 d0.slots)) (r_mov rfl) ?_
     rcases Bool.eq_false_or_eq_true (allE x26 d0.slots) with hc184 | hc184
     ·replace h:=h.1 hc184
      refine o_v (v:=.int .i64 sx48.1) (r_mov rfl) (want_t (t:=75) rfl rfl hc184) rfl rfl ?_
      refine o_v (v:=.pointer (some ⟨b7,1,none⟩)) (r_fa fld_api_Arena_1 rfl rfl) (want_t (t:=75) rfl rfl hc184) rfl rfl ?_
      refine o_v (v:=.slice A1 d0.slots.length c2) (r_ld one_s_api_Entry rfl ((S7.fr (G173.trans (Fr.ext F175)) sI).now.cell rfl)) (want_t (t:=75) rfl rfl hc184) rfl rfl ?_
      refine o_v (v:=.int .i64 (d0.slots.length:Int)) (r_len_slc un_s_api_Entry rfl) (want_t (t:=75) rfl rfl hc184) rfl rfl ?_
      refine o_v (v:=.bool (sx48.1==(d0.slots.length:Int))) (r_int rfl rfl rfl) (want_t (t:=75) rfl rfl hc184) rfl rfl ?_
      refine o_w (v:=.bool (sx48.1==(d0.slots.length:Int))) (r_pickT rfl hc184 rfl) ?_
      refine o_w (v:=.bool (sx48.1==(d0.slots.length:Int))) (r_mov rfl) ?_
      rcases Bool.eq_false_or_eq_true (sx48.1==(d0.slots.length:Int)) with hc185 | hc185
      ·replace h:=h.1 hc185
       refine o_v (v:=.int .i64 (x175.length:Int)) (r_mov rfl) (want_t (t:=82) rfl rfl hc185) rfl rfl ?_
       refine o_v (v:=.bool ((x175.length:Int)==0)) (r_int rfl rfl rfl) (want_t (t:=82) rfl rfl hc185) rfl rfl ?_
       refine o_v (v:=.bool ((x175.length:Int)==0)) (r_mov rfl) (want_t (t:=82) rfl rfl hc185) rfl rfl ?_
       rcases Bool.eq_false_or_eq_true ((x175.length:Int)==0) with hc186 | hc186
       ·replace h:=h.1 hc186
        iterate 3 refine o_no (want_f (t:=85) rfl rfl hc186) rfl ?_
        refine o_v (v:=.bool true) (r_pickT rfl hc186 rfl) (want_t (t:=82) rfl rfl hc185) rfl rfl ?_
        refine o_w (v:=.bool true) (r_pickT rfl hc185 rfl) ?_
        refine o_w (v:=.bool true) (r_mov rfl) ?_
        refine o_v (v:=.agg (cArena d0 A1 c2 A4 c5).toArray) (r_lda agg_api_Arena rfl (vs:=(cArena d0 A1 c2 A4 c5)) rfl ((S7.fr (G173.trans (Fr.ext F175)) sI).now.part (n:=3) rfl)) (want_t (t:=91) rfl rfl rfl) rfl rfl ?_
        obtain ⟨ha188,h⟩:=h
        obtain ⟨x187,hx187,h⟩:=h
        refine o_call cf_digest_In rfl (digest_In_c d0 (kArena_mk (d:=d0) (H3.fr (G172.trans (Fr.ext F175)) sI) (H6.fr (G172.trans (Fr.ext F175)) sI)) (0:Int) (100:Int) (hL.fr E180) (eq_ev hx187 (digIn_ev d0 (0:Int) (100:Int) ha188))) (want_t (t:=91) rfl rfl rfl) rfl ?_
        rintro _ w187 ⟨F187,A189,c190,rfl,H191⟩
        have E192:=E180.trans F187
        refine o_v (v:=.int .i64 (x187.length:Int)) (r_len_slc un_s_api_Entry rfl) (want_t (t:=91) rfl rfl rfl) rfl rfl ?_
        refine o_v (v:=.bool ((x187.length:Int)==0)) (r_int rfl rfl rfl) (want_t (t:=91) rfl rfl rfl) rfl rfl ?_
        refine o_w (v:=.bool ((x187.length:Int)==0)) (r_pickT rfl rfl rfl) ?_
        refine o_w (v:=.bool ((x187.length:Int)==0)) (r_asg rfl) ?_
        refine eo_nil_sq ?_
        refine ec_ret ?_
        subst h
        exact (end1 rfl ⟨_,rfl,E192,rfl⟩)
       ·replace h:=h.2 hc186
        refine o_v (v:=.int .i64 (x175.length:Int)) (r_mov rfl) (want_t (t:=85) rfl rfl hc186) rfl rfl ?_
        refine o_v (v:=.int .i64 d2) (r_mov rfl) (want_t (t:=85) rfl rfl hc186) rfl rfl ?_
        refine o_v (v:=.bool (decide ((x175.length:Int)≤d2))) (r_int rfl rfl rfl) (want_t (t:=85) rfl rfl hc186) rfl rfl ?_
        refine o_v (v:=.bool (decide ((x175.length:Int)≤d2))) (r_pickF rfl hc186 rfl) (want_t (t:=82) rfl rfl hc185) rfl rfl ?_
        refine o_w (v:=.bool (decide ((x175.length:Int)≤d2))) (r_pickT rfl hc185 rfl) ?_
        refine o_w (v:=.bool (decide ((x175.length:Int)≤d2))) (r_mov rfl) ?_
        rcases Bool.eq_false_or_eq_true (decide ((x175.length:Int)≤d2)) with hc197 | hc197
        ·replace h:=h.1 hc197
         refine o_v (v:=.agg (cArena d0 A1 c2 A4 c5).toArray) (r_lda agg_api_Arena rfl (vs:=(cArena d0 A1 c2 A4 c5)) rfl ((S7.fr (G173.trans (Fr.ext F175)) sI).now.part (n:=3) rfl)) (want_t (t:=91) rfl rfl hc197) rfl rfl ?_
         obtain ⟨ha199,h⟩:=h
         obtain ⟨x198,hx198,h⟩:=h
         refine o_call cf_digest_In rfl (digest_In_c d0 (kArena_mk (d:=d0) (H3.fr (G172.trans (Fr.ext F175)) sI) (H6.fr (G172.trans (Fr.ext F175)) sI)) (0:Int) (100:Int) (hL.fr E180) (eq_ev hx198 (digIn_ev d0 (0:Int) (100:Int) ha199))) (want_t (t:=91) rfl rfl hc197) rfl ?_
         rintro _ w198 ⟨F198,A200,c201,rfl,H202⟩
         have E203:=E180.trans F198
         refine o_v (v:=.int .i64 (x198.length:Int)) (r_len_slc un_s_api_Entry rfl) (want_t (t:=91) rfl rfl hc197) rfl rfl ?_
         refine o_v (v:=.bool ((x198.length:Int)==0)) (r_int rfl rfl rfl) (want_t (t:=91) rfl rfl hc197) rfl rfl ?_
         refine o_w (v:=.bool ((x198.length:Int)==0)) (r_pickT rfl hc197 rfl) ?_
         refine o_w (v:=.bool ((x198.length:Int)==0)) (r_asg rfl) ?_
         refine eo_nil_sq ?_
         refine ec_ret ?_
         subst h
         exact (end1 rfl ⟨_,rfl,E203,rfl⟩)
        ·replace h:=h.2 hc197
         iterate 4 refine o_no (want_f (t:=91) rfl rfl hc197) rfl ?_
         refine o_w (v:=.bool false) (r_pickF rfl hc197 rfl) ?_
         refine o_w (v:=.bool false) (r_asg rfl) ?_
         refine eo_nil_sq ?_
         refine ec_ret ?_
         subst h
         exact (end1 rfl ⟨_,rfl,E180,rfl⟩)
      ·replace h:=h.2 hc185
       iterate 3 refine o_no (want_f (t:=82) rfl rfl hc185) rfl ?_
       iterate 3 refine o_no (want_u (t:=85) rfl rfl rfl) rfl ?_
       refine o_no (want_f (t:=82) rfl rfl hc185) rfl ?_
       refine o_w (v:=.bool false) (r_pickF rfl hc185 rfl) ?_
       refine o_w (v:=.bool false) (r_mov rfl) ?_
       iterate 4 refine o_no (want_f (t:=91) rfl rfl rfl) rfl ?_
       refine o_w (v:=.bool false) (r_pickF rfl rfl rfl) ?_
       refine o_w (v:=.bool false) (r_asg rfl) ?_
       refine eo_nil_sq ?_
       refine ec_ret ?_
       subst h
       exact (end1 rfl ⟨_,rfl,E180,rfl⟩)
     ·replace h:=h.2 hc184
      iterate 5 refine o_no (want_f (t:=75) rfl rfl hc184) rfl ?_
      refine o_w (v:=.bool false) (r_pickF rfl hc184 rfl) ?_
      refine o_w (v:=.bool false) (r_mov rfl) ?_
      iterate 3 refine o_no (want_f (t:=82) rfl rfl rfl) rfl ?_
      iterate 3 refine o_no (want_u (t:=85) rfl rfl rfl) rfl ?_
      refine o_no (want_f (t:=82) rfl rfl rfl) rfl ?_
      refine o_w (v:=.bool false) (r_pickF rfl rfl rfl) ?_
      refine o_w (v:=.bool false) (r_mov rfl) ?_
      iterate 4 refine o_no (want_f (t:=91) rfl rfl rfl) rfl ?_
      refine o_w (v:=.bool false) (r_pickF rfl rfl rfl) ?_
      refine o_w (v:=.bool false) (r_asg rfl) ?_
      refine eo_nil_sq ?_
      refine ec_ret ?_
      subst h
      exact (end1 rfl ⟨_,rfl,E180,rfl⟩)
    ·rintro y48 rfl ρ48q ds48q w48q hJ
     have hy:=h.2 _ rfl
     subst hy
     refine blk_ret ?_
     refine sq_ret ?_
     exact hJ
end Go.Proofs.YthbfhgenkhkpfaaGreat
