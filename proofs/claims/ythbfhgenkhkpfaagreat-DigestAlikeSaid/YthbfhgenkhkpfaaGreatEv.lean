import Derived.Test.YthbfhgenkhkpfaaGreatEt
namespace Go.Proofs.YthbfhgenkhkpfaaGreat
open Go Go.RowKit
set_option linter.unusedVariables false
set_option linter.unusedSimpArgs false
def arena_Check_b24 (d0:Arena) (x17:(List Int)) (s24:Int) (z24:(Int) ⊕ ((Int) ⊕ (Int))):Prop :=
 ((decide (s24<(x17.length:Int)))=true→((0≤(IntKind.i64.wrap (s24 - (1:Int)))∧(IntKind.i64.wrap (s24 - (1:Int)))<(x17.length:Int))∧((0≤(nth x17 (IntKind.i64.wrap (s24 - (1:Int))))∧(nth x17 (IntKind.i64.wrap (s24 - (1:Int))))<(d0.slots.length:Int))∧((0≤s24∧s24<(x17.length:Int))∧((0≤(nth x17 s24)∧(nth x17 s24)<(d0.slots.length:Int))∧(∃ x90,x90=(lessE (nth d0.slots (nth x17 (IntKind.i64.wrap (s24 - (1:Int))))) (nth d0.slots (nth x17 s24)))∧(((!x90)=true→(z24=.inr (.inr (2:Int))))∧((!x90)=false→(z24=.inl (IntKind.i64.wrap (s24 + (1:Int))))))))))))∧((decide (s24<(x17.length:Int)))=false→(z24=.inr (.inl s24)))
def arena_Check_raw (d0:Arena) (y:Int):Prop :=
 ((!(((decide (d0.cap<1))||(decide (8<d0.cap)))||(decide (d0.cap<(d0.slots.length:Int)))))=true→sml d0.slots)∧(((!(((decide (d0.cap<1))||(decide (8<d0.cap)))||(decide (d0.cap<(d0.slots.length:Int)))))=true→d0.slots.length≤100)∧((((((decide (d0.cap<1))||(decide (8<d0.cap)))||(decide (d0.cap<(d0.slots.length:Int))))||(oddE d0.slots))=true→(y=(2:Int)))∧(((((decide (d0.cap<1))||(decide (8<d0.cap)))||(decide (d0.cap<(d0.slots.length:Int))))||(oddE d0.slots))=false→(∃ x17,arena_index_raw d0.slots x17∧(∃ x24,LoopR (arena_Check_b24 d0 x17) (1:Int) x24∧(∀ sx24,x24=.inl sx24→((x17.length≤9223372036854775807)∧(((!(eqInts x17 d0.idx))=true→(y=(2:Int)))∧((!(eqInts x17 d0.idx))=false→(y=(0:Int))))))∧(∀ y24,x24=.inr y24→(y=y24)))))))
set_option maxRecDepth 20000 in
set_option maxHeartbeats 4000000 in
theorem arena_Check_c {L:List Nat} {w:World} {csP0:List Value} (d0:Arena) (HP0:Stb L w (fun w=>kArena.r w csP0 d0)) (hL:Lt L w) {y:Int} (h:arena_Check_raw d0 y) :
  Calls Tryz.prog 29 [.agg csP0.toArray].toArray w (Ret fun v w'=>Ext w w'∧v=.int .i64 y):=by
 obtain ⟨A1,c2,A4,c5,rfl,H3,H6⟩:=kArena_open HP0
 unfold arena_Check_raw at h
 refine calls_ec Tryz.func29 rfl rfl rfl ?_
 refine ec_sr ?_
 refine o_box (cs:=(cArena d0 A1 c2 A4 c5)) rfl rfl rfl ?_
 intro b7 w7 e7 F7 B7
 have S7:=B7.stb (nin hL e7)
 have G8:Fr L w w7:=Fr.ext F7
 refine o_w (v:=.int .i64 0) (r_asg rfl) ?_
 refine eo_r ?_
 refine o_w (v:=.func (.func 57) #[] #[]) (r_asg rfl) ?_
 refine eo_nil_sq ?_
 refine ec_seq ?_
 refine ec_sr ?_
 refine o_w (v:=.pointer (some ⟨b7,0,none⟩)) (r_fa fld_api_Arena_0 rfl rfl) ?_
 refine o_w (v:=.int .i64 d0.cap) (r_ld one_int rfl (S7.now.cell rfl)) ?_
 refine o_w (v:=.bool (decide (d0.cap<1))) (r_int rfl rfl rfl) ?_
 refine o_w (v:=.bool (decide (d0.cap<1))) (r_mov rfl) ?_
 refine o_vg (v:=.pointer (some ⟨b7,0,none⟩)) (want_cf (t:=9) rfl rfl) (fun hk=>(r_fa fld_api_Arena_0 rfl rfl)) rfl rfl ?_
 refine o_vg (v:=.int .i64 d0.cap) (want_cf (t:=9) rfl rfl) (fun hk=>(r_ld one_int (gdT hk) (S7.now.cell rfl))) rfl rfl ?_
 refine o_vg (v:=.bool (decide (8<d0.cap))) (want_cf (t:=9) rfl rfl) (fun hk=>(r_int (gdT hk) rfl rfl)) rfl rfl ?_
 refine o_w (v:=.bool ((decide (d0.cap<1))||(decide (8<d0.cap)))) (r_pickOr rfl rfl (fun hf=>(gdT (notT hf)))) ?_
 refine o_w (v:=.bool ((decide (d0.cap<1))||(decide (8<d0.cap)))) (r_mov rfl) ?_
 refine o_vg (v:=.pointer (some ⟨b7,1,none⟩)) (want_cf (t:=14) rfl rfl) (fun hk=>(r_fa fld_api_Arena_1 rfl rfl)) rfl rfl ?_
 refine o_vg (v:=.slice A1 d0.slots.length c2) (want_cf (t:=14) rfl rfl) (fun hk=>(r_ld one_s_api_Entry (gdT hk) (S7.now.cell rfl))) rfl rfl ?_
 refine o_vg (v:=.int .i64 (d0.slots.length:Int)) (want_cf (t:=14) rfl rfl) (fun hk=>(r_len_slc un_s_api_Entry (gdT hk))) rfl rfl ?_
 refine o_vg (v:=.pointer (some ⟨b7,0,none⟩)) (want_cf (t:=14) rfl rfl) (fun hk=>(r_fa fld_api_Arena_0 rfl rfl)) rfl rfl ?_
 refine o_vg (v:=.int .i64 d0.cap) (want_cf (t:=14) rfl rfl) (fun hk=>(r_ld one_int (gdT hk) (S7.now.cell rfl))) rfl rfl ?_
 refine o_vg (v:=.bool (decide (d0.cap<(d0.slots.length:Int)))) (want_cf (t:=14) rfl rfl) (fun hk=>(r_int (gdT hk) (gdT hk) rfl)) rfl rfl ?_
 refine o_w (v:=.bool (((decide (d0.cap<1))||(decide (8<d0.cap)))||(decide (d0.cap<(d0.slots.length:Int))))) (r_pickOr rfl rfl (fun hf=>(gdT (notT hf)))) ?_
 refine o_w (v:=.bool (((decide (d0.cap<1))||(decide (8<d0.cap)))||(decide (d0.cap<(d0.slots.length:Int))))) (r_mov rfl) ?_
 refine o_vg (v:=.pointer (some ⟨b7,1,none⟩)) (want_cf (t:=22) rfl rfl) (fun hk=>(r_fa fld_api_Arena_1 rfl rfl)) rfl rfl ?_
 refine o_vg (v:=.slice A1 d0.slots.length c2) (want_cf (t:=22) rfl rfl) (fun hk=>(r_ld one_s_api_Entry (gdT hk) (S7.now.cell rfl))) rfl rfl ?_
 refine o_vg (v:=.func (.func 57) #[] #[]) (want_cf (t:=22) rfl rfl) (fun hk=>(r_mov rfl)) rfl rfl ?_
 obtain ⟨ha11,h⟩:=h
 obtain ⟨ha12,h⟩:=h
 refine o_callg (V:=.bool (oddE d0.slots)) cf_slices_ContainsFunc_Entry (want_cf (t:=22) rfl rfl) (fun hk=>(mapv2 (gdT hk) (gdT hk))) (fun hk=>(slices_ContainsFunc_Entry_Check_1_c d0.slots (H3.fr G8 sI) (hL.fr F7) (odd_ev d0.slots (ha11 hk) (ha12 hk)))) rfl ?_
 intro w10 F10
 have E13:=F7.trans F10
 have G15:Fr L w7 w10:=Fr.ext F10
 refine o_w (v:=.bool ((((decide (d0.cap<1))||(decide (8<d0.cap)))||(decide (d0.cap<(d0.slots.length:Int))))||(oddE d0.slots))) (r_pickOr rfl rfl (fun hf=>(gdT (notT hf)))) ?_
 refine eo_nil_sq ?_
 refine ec_cond rfl (fun hc16=>?_) (fun hc16=>?_)
 ·replace h:=h.1 hc16
  refine ec_sr ?_
  refine o_w (v:=.int .i64 2) (r_asg rfl) ?_
  refine eo_nil_sq ?_
  refine ec_ret ?_
  refine sq_ret ?_
  subst h
  exact (end1 rfl ⟨_,rfl,E13,rfl⟩)
 ·replace h:=h.2 hc16
  refine ec_skip ?_
  refine sq_n ?_
  refine ec_sr ?_
  refine o_w (v:=.pointer (some ⟨b7,1,none⟩)) (r_fa fld_api_Arena_1 rfl rfl) ?_
  refine o_w (v:=.slice A1 d0.slots.length c2) (r_ld one_s_api_Entry rfl ((S7.fr G15 sI).now.cell rfl)) ?_
  obtain ⟨x17,hx17,h⟩:=h
  refine o_call cf_arena_index rfl (arena_index_c d0.slots (H3.fr (G8.trans (Fr.ext F10)) sI) (hL.fr E13) hx17) rfl rfl ?_
  rintro _ w17 ⟨F17,A18,c19,rfl,H20⟩
  have E21:=E13.trans F17
  refine o_w (v:=.slice A18 x17.length c19) (r_asg rfl) ?_
  refine eo_nil_sq ?_
  refine ec_seq ?_
  refine ec_sr ?_
  refine o_w (v:=.int .i64 1) (r_asg rfl) ?_
  refine eo_nil_sq ?_
  refine ec_block ?_
  obtain ⟨x24,hl24,h⟩:=h
  refine ec_loopER 0 (I:=(fun (s24:Int) ρ ds w'=>∃ (ρ':Env),ρ=envs ρ' [(5,.int .i64 s24),(1,.pointer (some ⟨b7,0,none⟩)),(4,.slice A18 x17.length c19)]∧ds=[]∧Fr L w17 w'∧Ext w w')) (J:=(fun (y':Int) ρ ds wz=>bodyE Tryz.prog #[.tmp 2] (Ret fun v w'=>Ext w w'∧v=.int .i64 y') .ret ρ ds wz)) ?_ hl24 ?_ ?_ ?_
  ·intro s24 z24 ρ24 ds24 w24r hI24 hb24
   obtain ⟨ρ24r,rfl,rfl,F24r,E24r⟩:=hI24
   have h:=hb24
   unfold arena_Check_b24 at h
   have G25:Fr L w w24r:=((G8.trans (Fr.ext F10)).trans (Fr.ext F17)).stp F24r (fun _ h=>.inl h)
   have G26:Fr L w7 w24r:=(G15.trans (Fr.ext F17)).stp F24r (fun _ h=>.inl h)
   have G27:Fr L w17 w24r:=(Fr.refl _ _).stp F24r (fun _ h=>.inl h)
   refine ec_seq ?_
   refine ec_sr ?_
   refine o_w (v:=.int .i64 s24) (r_mov rfl) ?_
   refine o_w (v:=.slice A18 x17.length c19) (r_mov rfl) ?_
   refine o_w (v:=.int .i64 (x17.length:Int)) (r_len_slc un_s_int rfl) ?_
   refine o_w (v:=.bool (decide (s24<(x17.length:Int)))) (r_int rfl rfl rfl) ?_
   refine eo_nil_sq ?_
   refine ec_cond rfl (fun hc28=>?_) (fun hc28=>?_)
   ·replace h:=h.1 hc28
    refine ec_skip ?_
    refine sq_n ?_
    refine ec_seq ?_
    refine ec_block ?_
    refine ec_seq ?_
    obtain ⟨ha60,h⟩:=h
    obtain ⟨cs61,l63,H62⟩:=Stb.elem (by decide) (H20.fr G27 sI) (IntKind.i64.wrap (s24 - (1:Int))) ha60.1 ha60.2
    obtain ⟨rfl,H62'⟩:=kI_open2 H62
    obtain ⟨ha64,h⟩:=h
    obtain ⟨cs65,l67,H66⟩:=Stb.elem (by decide) (H3.fr G25 sI) (nth x17 (IntKind.i64.wrap (s24 - (1:Int)))) ha64.1 ha64.2
    obtain ⟨A69,c70,A72,c73,rfl,H68,H71,H74⟩:=kEnt_open2 H66
    obtain ⟨ha75,h⟩:=h
    obtain ⟨cs76,l78,H77⟩:=Stb.elem (by decide) (H20.fr G27 sI) s24 ha75.1 ha75.2
    obtain ⟨rfl,H77'⟩:=kI_open2 H77
    obtain ⟨ha79,h⟩:=h
    obtain ⟨cs80,l82,H81⟩:=Stb.elem (by decide) (H3.fr G25 sI) (nth x17 s24) ha79.1 ha79.2
    obtain ⟨A84,c85,A87,c88,rfl,H83,H86,H89⟩:=kEnt_open2 H81
    obtain ⟨x90,hx90,h⟩:=h
    refine ec_any0 (by kernel_rfl) [[],[0],[],[],[3],[2,3,4],[2,3,4,5],[0,1,2,3,4,5,6],[0,1,2,3,4,5,6,7],[],[9],[],[],[11,12],[11,12,13],[9,10,11,12,13,14],[9,10,11,12,13,14,15],[0,1,2,3,4,5,6,7,8,9,10,11,12,13,14,15,16],[0,1,2,3,4,5,6,7,8,9,10,11,12,13,14,15,16,17]] [37,38,39,40,41,42,43,44,45,46,47,48,49,50,51,52,53,54,55] [fun v _=>v=(.pointer (some ⟨b7,1,none⟩):Value),fun v _=>v=(.slice A1 d0.slots.length c2:Value),fun v _=>v=(.slice A18 x17.length c19:Value),fun v _=>v=(.int .i64 s24:Value),fun v _=>v=(.int .i64 (IntKind.i64.wrap (s24 - (1:Int))):Value),fun v _=>v=(.pointer (some (elemA A18 (kI .i64).n (IntKind.i64.wrap (s24 - (1:Int))).toNat)):Value),fun v _=>v=(.int .i64 (nth x17 (IntKind.i64.wrap (s24 - (1:Int)))):Value),fun v _=>v=(.pointer (some (elemA A1 kEnt.n (nth x17 (IntKind.i64.wrap (s24 - (1:Int)))).toNat)):Value),fun v _=>v=(.agg (cEnt (nth d0.slots (nth x17 (IntKind.i64.wrap (s24 - (1:Int))))) A69 c70 A72 c73).toArray:Value),fun v _=>v=(.pointer (some ⟨b7,1,none⟩):Value),fun v _=>v=(.slice A1 d0.slots.length c2:Value),fun v _=>v=(.slice A18 x17.length c19:Value),fun v _=>v=(.int .i64 s24:Value),fun v _=>v=(.pointer (some (elemA A18 (kI .i64).n s24.toNat)):Value),fun v _=>v=(.int .i64 (nth x17 s24):Value),fun v _=>v=(.pointer (some (elemA A1 kEnt.n (nth x17 s24).toNat)):Value),fun v _=>v=(.agg (cEnt (nth d0.slots (nth x17 s24)) A84 c85 A87 c88).toArray:Value),fun v _=>v=(.bool x90:Value),fun v _=>v=(.bool (!x90):Value)] (by kernel_rfl) ⟨fun _ _ _ _ _ h=>h,fun _ _ _ _ _ h=>h,fun _ _ _ _ _ h=>h,fun _ _ _ _ _ h=>h,fun _ _ _ _ _ h=>h,fun _ _ _ _ _ h=>h,fun _ _ _ _ _ h=>h,fun _ _ _ _ _ h=>h,fun _ _ _ _ _ h=>h,fun _ _ _ _ _ h=>h,fun _ _ _ _ _ h=>h,fun _ _ _ _ _ h=>h,fun _ _ _ _ _ h=>h,fun _ _ _ _ _ h=>h,fun _ _ _ _ _ h=>h,fun _ _ _ _ _ h=>h,fun _ _ _ _ _ h=>h,fun _ _ _ _ _ h=>h,fun _ _ _ _ _ h=>h,trivial⟩ ?_ ?_
    ·refine ⟨?_,?_,?_,?_,?_,?_,?_,?_,?_,?_,?_,?_,?_,?_,?_,?_,?_,?_,?_,trivial⟩
     ·intro ρ w59o F59o hS hρ
      have q1:ρ 1=.pointer (some ⟨b7,0,none⟩):=hρ 1 (by kernel_rfl)
      exact o_q (r_fa fld_api_Arena_1 rfl q1) ⟨Fr.refl _ _,rfl⟩
     ·intro ρ w59o F59o hS hρ
      have q37:ρ 37=.pointer (some ⟨b7,1,none⟩):=hS 0 (by decide) 37 rfl
      exact o_q (r_ld one_s_api_Entry q37 ((S7.fr (G26.trans (Fr.ext F59o)) sI).now.cell rfl)) ⟨Fr.refl _ _,rfl⟩
     ·intro ρ w59o F59o hS hρ
      have q4:ρ 4=.slice A18 x17.length c19:=hρ 4 (by kernel_rfl)
      exact o_q (r_mov q4) ⟨Fr.refl _ _,rfl⟩
     ·intro ρ w59o F59o hS hρ
      have q5:ρ 5=.int .i64 s24:=hρ 5 (by kernel_rfl)
      exact o_q (r_mov q5) ⟨Fr.refl _ _,rfl⟩
     ·intro ρ w59o F59o hS hρ
      have q40:ρ 40=.int .i64 s24:=hS 3 (by decide) 40 rfl
      exact o_q (r_int q40 rfl rfl) ⟨Fr.refl _ _,rfl⟩
     ·intro ρ w59o F59o hS hρ
      have q39:ρ 39=.slice A18 x17.length c19:=hS 2 (by decide) 39 rfl
      have q41:ρ 41=.int .i64 (IntKind.i64.wrap (s24 - (1:Int))):=hS 4 (by decide) 41 rfl
      exact o_q (r_ia slc_s_int q39 q41 ((H20.fr (G27.trans (Fr.ext F59o)) sI).now.2 _ (lt_toNat ha60.1 ha60.2)).1 ha60.1 ha60.2) ⟨Fr.refl _ _,rfl⟩
     ·intro ρ w59o F59o hS hρ
      have G108:Fr L w24r w59o:=Fr.ext F59o
      have q42:ρ 42=.pointer (some (elemA A18 (kI .i64).n (IntKind.i64.wrap (s24 - (1:Int))).toNat)):=hS 5 (by decide) 42 rfl
      exact o_q (r_ld' one_int q42 (elemA_spot _ _ _) ((H62'.fr G108 sI).now.1.at0 (elemA_spot _ _ _))) ⟨Fr.refl _ _,rfl⟩
     ·intro ρ w59o F59o hS hρ
      have q38:ρ 38=.slice A1 d0.slots.length c2:=hS 1 (by decide) 38 rfl
      have q43:ρ 43=.int .i64 (nth x17 (IntKind.i64.wrap (s24 - (1:Int)))):=hS 6 (by decide) 43 rfl
      exact o_q (r_ia slc_s_api_Entry q38 q43 ((H3.fr (G25.trans (Fr.ext F59o)) sI).now.2 _ (lt_toNat ha64.1 ha64.2)).1 ha64.1 ha64.2) ⟨Fr.refl _ _,rfl⟩
     ·intro ρ w59o F59o hS hρ
      have G120:Fr L w24r w59o:=Fr.ext F59o
      have q44:ρ 44=.pointer (some (elemA A1 kEnt.n (nth x17 (IntKind.i64.wrap (s24 - (1:Int)))).toNat)):=hS 7 (by decide) 44 rfl
      exact o_q (r_lda' agg_api_Entry q44 (elemA_spot _ _ _) (vs:=(cEnt (nth d0.slots (nth x17 (IntKind.i64.wrap (s24 - (1:Int))))) A69 c70 A72 c73)) rfl ((H68.fr G120 sI).now.1)) ⟨Fr.refl _ _,rfl⟩
     ·intro ρ w59o F59o hS hρ
      have q1:ρ 1=.pointer (some ⟨b7,0,none⟩):=hρ 1 (by kernel_rfl)
      exact o_q (r_fa fld_api_Arena_1 rfl q1) ⟨Fr.refl _ _,rfl⟩
     ·intro ρ w59o F59o hS hρ
      have q46:ρ 46=.pointer (some ⟨b7,1,none⟩):=hS 9 (by decide) 46 rfl
      exact o_q (r_ld one_s_api_Entry q46 ((S7.fr (G26.trans (Fr.ext F59o)) sI).now.cell rfl)) ⟨Fr.refl _ _,rfl⟩
     ·intro ρ w59o F59o hS hρ
      have q4:ρ 4=.slice A18 x17.length c19:=hρ 4 (by kernel_rfl)
      exact o_q (r_mov q4) ⟨Fr.refl _ _,rfl⟩
     ·intro ρ w59o F59o hS hρ
      have q5:ρ 5=.int .i64 s24:=hρ 5 (by kernel_rfl)
      exact o_q (r_mov q5) ⟨Fr.refl _ _,rfl⟩
     ·intro ρ w59o F59o hS hρ
      have q48:ρ 48=.slice A18 x17.length c19:=hS 11 (by decide) 48 rfl
      have q49:ρ 49=.int .i64 s24:=hS 12 (by decide) 49 rfl
      exact o_q (r_ia slc_s_int q48 q49 ((H20.fr (G27.trans (Fr.ext F59o)) sI).now.2 _ (lt_toNat ha75.1 ha75.2)).1 ha75.1 ha75.2) ⟨Fr.refl _ _,rfl⟩
     ·intro ρ w59o F59o hS hρ
      have G138:Fr L w24r w59o:=Fr.ext F59o
      have q50:ρ 50=.pointer (some (elemA A18 (kI .i64).n s24.toNat)):=hS 13 (by decide) 50 rfl
      exact o_q (r_ld' one_int q50 (elemA_spot _ _ _) ((H77'.fr G138 sI).now.1.at0 (elemA_spot _ _ _))) ⟨Fr.refl _ _,rfl⟩
     ·intro ρ w59o F59o hS hρ
      have q47:ρ 47=.slice A1 d0.slots.length c2:=hS 10 (by decide) 47 rfl
      have q51:ρ 51=.int .i64 (nth x17 s24):=hS 14 (by decide) 51 rfl
      exact o_q (r_ia slc_s_api_Entry q47 q51 ((H3.fr (G25.trans (Fr.ext F59o)) sI).now.2 _ (lt_toNat ha79.1 ha79.2)).1 ha79.1 ha79.2) ⟨Fr.refl _ _,rfl⟩
     ·intro ρ w59o F59o hS hρ
      have G150:Fr L w24r w59o:=Fr.ext F59o
      have q52:ρ 52=.pointer (some (elemA A1 kEnt.n (nth x17 s24).toNat)):=hS 15 (by decide) 52 rfl
      exact o_q (r_lda' agg_api_Entry q52 (elemA_spot _ _ _) (vs:=(cEnt (nth d0.slots (nth x17 s24)) A84 c85 A87 c88)) rfl ((H83.fr G150 sI).now.1)) ⟨Fr.refl _ _,rfl⟩
     ·intro ρ w59o F59o hS hρ
      have E151:=E24r.trans F59o
      have G156:Fr L w24r w59o:=Fr.ext F59o
      have q45:ρ 45=.agg (cEnt (nth d0.slots (nth x17 (IntKind.i64.wrap (s24 - (1:Int))))) A69 c70 A72 c73).toArray:=hS 8 (by decide) 45 rfl
      have q53:ρ 53=.agg (cEnt (nth d0.slots (nth x17 s24)) A84 c85 A87 c88).toArray:=hS 16 (by decide) 53 rfl
      refine o_call cf_entry_Less (by simp only [List.map,ev,q45,q53] <;> rfl) (entry_Less_c (nth d0.slots (nth x17 (IntKind.i64.wrap (s24 - (1:Int))))) (kEnt_mk (d:=(nth d0.slots (nth x17 (IntKind.i64.wrap (s24 - (1:Int)))))) (H71.fr G156 sI) (H74.fr G156 sI)) (nth d0.slots (nth x17 s24)) (kEnt_mk (d:=(nth d0.slots (nth x17 s24))) (H86.fr G156 sI) (H89.fr G156 sI)) (hL.fr E151) (eq_ev hx90 (entLess_ev (nth d0.slots (nth x17 (IntKind.i64.wrap (s24 - (1:Int))))) (nth d0.slots (nth x17 s24))))) rfl rfl ?_
      rintro _ w' ⟨F,rfl⟩
      exact eo_nil ⟨rfl,rfl,_,rfl,F,rfl⟩
     ·intro ρ w59o F59o hS hρ
      have q54:ρ 54=.bool x90:=hS 17 (by decide) 54 rfl
      exact o_q (r_not q54) ⟨Fr.refl _ _,rfl⟩
    ·intro ρ w59 F59 hS hρ
     have q55:ρ 55=.bool (!x90):=hS 18 55 rfl
     obtain ⟨ρ',rfl⟩:∃ ρ',ρ=envs (ovr [37,38,39,40,41,42,43,44,45,46,47,48,49,50,51,52,53,54,55] ρ' _) [(55,.bool (!x90))]:=⟨ρ,ovr_self hρ ⟨q55,trivial⟩⟩
     have E157:=E24r.trans F59
     refine sq_n ?_
     refine ec_cond rfl (fun hc163=>?_) (fun hc163=>?_)
     ·replace h:=h.1 hc163
      refine ec_sr ?_
      refine o_w (v:=.int .i64 2) (r_asg rfl) ?_
      refine eo_nil_sq ?_
      refine ec_ret ?_
      refine blk_ret ?_
      refine sq_ret ?_
      subst h
      exact lqR_r (end1 rfl ⟨_,rfl,E157,rfl⟩)
     ·replace h:=h.2 hc163
      refine ec_skip ?_
      refine blk_n ?_
      refine sq_n ?_
      refine ec_region ?_
      refine o_w (v:=.int .i64 s24) (r_mov rfl) ?_
      refine o_w (v:=.int .i64 (IntKind.i64.wrap (s24 + (1:Int)))) (r_int rfl rfl rfl) ?_
      refine o_w (v:=.int .i64 (IntKind.i64.wrap (s24 + (1:Int)))) (r_asg rfl) ?_
      refine eo_nil ?_
      subst h
      exact lqR_n ⟨_,envs_self ⟨rfl,rfl,rfl,trivial⟩,rfl,(F24r.trans (Fr.ext F59)),E157⟩
   ·replace h:=h.2 hc28
    refine ec_exit ?_
    refine sq_exit ?_
    subst h
    exact lqR_x ⟨_,envs_self ⟨rfl,rfl,rfl,trivial⟩,rfl,F24r,E24r⟩
  ·exact ⟨_,envs_self ⟨rfl,rfl,rfl,trivial⟩,rfl,(Fr.refl _ _),E21⟩
  ·rintro sx24 rfl ρ24e ds24e w24e ⟨ρ24e,rfl,rfl,F24e,E24e⟩
   replace h:=h.1 _ rfl
   have G164:Fr L w w24e:=((G8.trans (Fr.ext F10)).trans (Fr.ext F17)).stp F24e (fun _ h=>.inl h)
   have G165:Fr L w7 w24e:=(G15.trans (Fr.ext F17)).stp F24e (fun _ h=>.inl h)
   have G166:Fr L w17 w24e:=(Fr.refl _ _).stp F24e (fun _ h=>.inl h)
   refine blk_hit ?_
   refine sq_n ?_
   refine ec_seq ?_
   refine ec_sr ?_
   refine o_w (v:=.slice A18 x17.length c19) (r_mov rfl) ?_
   refine o_w (v:=.pointer (some ⟨b7,2,none⟩)) (r_fa fld_api_Arena_2 rfl rfl) ?_
   refine o_w (v:=.slice A4 d0.idx.length c5) (r_ld one_s_int rfl ((S7.fr G165 sI).now.cell rfl)) ?_
   obtain ⟨ha168,h⟩:=h
   refine o_call cf_slices_Equal_int rfl (slices_Equal_int_c x17 (H20.fr G166 sI) d0.idx (H6.fr G164 sI) (hL.fr E24e) (slEqual_ev x17 d0.idx ha168)) rfl rfl ?_
   rintro _ w167 ⟨F167,rfl⟩
   have E169:=E24e.trans F167
   refine o_w (v:=.bool (!(eqInts x17 d0.idx))) (r_not rfl) ?_
   refine eo_nil_sq ?_
   refine ec_cond rfl (fun hc173=>?_) (fun hc173=>?_)
   ·replace h:=h.1 hc173
    refine ec_sr ?_
    refine o_w (v:=.int .i64 2) (r_asg rfl) ?_
    refine eo_nil_sq ?_
    refine ec_ret ?_
    refine sq_ret ?_
    subst h
    exact (end1 rfl ⟨_,rfl,E169,rfl⟩)
   ·replace h:=h.2 hc173
    refine ec_skip ?_
    refine sq_n ?_
    refine ec_sr ?_
    refine o_w (v:=.int .i64 0) (r_asg rfl) ?_
    refine eo_nil_sq ?_
    refine ec_ret ?_
    subst h
    exact (end1 rfl ⟨_,rfl,E169,rfl⟩)
  ·rintro y24 rfl ρ24q ds24q w24q hJ
   have hy:=h.2 _ rfl
   subst hy
   refine blk_ret ?_
   refine sq_ret ?_
   exact hJ

def sma (a:Arena):Prop:=sml a.slots∧a.slots.length≤9223372036854775807∧a.idx.length≤9223372036854775807
def arOk (a:Arena):Bool:=decide (1≤a.cap)&&(decide (a.cap≤8)&&(decide ((a.slots.length:Int)≤a.cap)&&(slotsB a.slots&&eqInts a.idx (idxR a.slots))))
def checkA (a:Arena):Int:=bif arOk a then 0 else 2
theorem checkA_ne (a:Arena):(checkA a != 0)=!arOk a:=by unfold checkA; cases arOk a <;> rfl
theorem arOk_iff {a:Arena}:arOk a=true↔(1≤a.cap∧a.cap≤8∧(a.slots.length:Int)≤a.cap)∧(∀ e∈a.slots,okE e=true)∧Dist a.slots∧a.idx=idxR a.slots:=by
 unfold arOk eqInts
 simp only [Bool.and_eq_true,decide_eq_true_eq,slotsB_iff,beq_iff_eq]
 constructor
 ·rintro ⟨h1,h2,h3,⟨h4,h5⟩,h6⟩; exact ⟨⟨h1,h2,h3⟩,h4,h5,h6⟩
 ·rintro ⟨⟨h1,h2,h3⟩,h4,h5,h6⟩; exact ⟨h1,h2,h3,⟨h4,h5⟩,h6⟩
theorem chain_pair {d:List Ent} {p:List Int} (h:∀ i,1≤i→i<p.length→ltN (nth d (p.getD (i - 1) default)) (nth d (p.getD i default))):∀ i j,i<j→j<p.length→ltN (nth d (p.getD i default)) (nth d (p.getD j default)):=by
 intro i j hij
 induction j with
 | zero=>omega
 | succ j ih =>
  intro hj
  have h1:=h (j + 1) (by omega) hj
  rw [Nat.add_sub_cancel] at h1
  by_cases e:i=j
  ·subst e; exact h1
  ·exact ltN_trans (ih (by omega) (by omega)) h1
theorem chain_dist {d:List Ent} {p:List Int} (hp:p.Perm (idR d.length)) (h:∀ i,1≤i→i<p.length→ltN (nth d (p.getD (i - 1) default)) (nth d (p.getD i default))):Dist d:=by
 intro i k hki hi
 rw [nameE_no]
 intro hn
 have hI:(i:Int)∈p:=hp.mem_iff.2 (idR_mem.2 ⟨by omega,by omega⟩)
 have hK:(k:Int)∈p:=hp.mem_iff.2 (idR_mem.2 ⟨by omega,by omega⟩)
 obtain ⟨x,hx,ex⟩:=List.getElem_of_mem hI
 obtain ⟨y,hy,ey⟩:=List.getElem_of_mem hK
 have gx:p.getD x default=(i:Int):=by simp [hx,ex]
 have gy:p.getD y default=(k:Int):=by simp [hy,ey]
 have nx:nth d (i:Int)=d.getD i default:=nth_nat d i
 have ny:nth d (k:Int)=d.getD k default:=nth_nat d k
 rcases Nat.lt_trichotomy x y with hl | hl | hl
 ·have:=chain_pair h x y hl hy
  rw [gx,gy,nx,ny] at this
  exact ltN_irr _ ((ltN_name hn).1.1 this)
 ·subst hl; rw [ex] at ey; omega
 ·have:=chain_pair h y x hl hx
  rw [gx,gy,nx,ny] at this
  exact ltN_irr _ ((ltN_name hn).2.1 this)
theorem idR_nodup (n:Nat):(idR n).Nodup:=by
 unfold idR
 rw [List.nodup_iff_pairwise_ne,List.pairwise_map]
 exact (List.nodup_iff_pairwise_ne.1 (List.nodup_range (n:=n))).imp fun h e=>h (by omega)
theorem arCheck_ev (a:Arena) (h:sma a):arena_Check_raw a (checkA a):=by
 have h1:=h.1
 have h2:=h.2.1
 have h3:=h.2.2
 refine ⟨fun _=>h1,fun c=>(by simp only [Bool.not_eq_true',Bool.or_eq_false_iff,decide_eq_false_iff_not] at c; omega),fun c=>?_,fun c=>?_⟩
 ·have:arOk a=false:=by
   cases ho:arOk a with
   | false=>rfl
   | true =>
    obtain ⟨⟨k1,k2,k3⟩,k4,_⟩:=arOk_iff.1 ho
    exfalso
    simp only [Bool.or_eq_true,decide_eq_true_eq] at c
    rcases c with ((c | c) | c) | c
    ·omega
    ·omega
    ·omega
    ·unfold oddE at c
     have:a.slots.all okE=true:=List.all_eq_true.2 k4
     rw [this] at c; cases c
  unfold checkA; rw [this]; rfl
 ·simp only [Bool.or_eq_false_iff,decide_eq_false_iff_not] at c
  obtain ⟨⟨⟨c1,c2⟩,c3⟩,c4⟩:=c
  have hall:∀ e∈a.slots,okE e=true:=by
   unfold oddE at c4; simp only [Bool.not_eq_false'] at c4; exact List.all_eq_true.1 c4
  obtain ⟨p,hraw,hp,hs⟩:=arIndex_ex a.slots (by omega)
  have hpl:p.length=a.slots.length:=by rw [hp.length_eq,idR_length]
  have hm:∀ i,i<p.length→0≤p.getD i default∧p.getD i default<(a.slots.length:Int):=fun i hi=>idR_mem.1 (hp.mem_iff.1 (getD_mem' hi))
  refine ⟨p,hraw,?_⟩
  have run:∃ x,LoopR (arena_Check_b24 a p) (1:Int) x∧((∃ s,x=.inl s∧∀ i,1≤i→i<p.length→ltN (nth a.slots (p.getD (i - 1) default)) (nth a.slots (p.getD i default)))∨(x=.inr 2∧∃ i,1≤i∧i<p.length∧¬ ltN (nth a.slots (p.getD (i - 1) default)) (nth a.slots (p.getD i default)))):=by
   refine loop_run (fun s=>p.length + 1 - s.toNat) (fun s=>∃ i:Nat,s=(i:Int)∧1≤i∧∀ j,1≤j→j<i→j<p.length→ltN (nth a.slots (p.getD (j - 1) default)) (nth a.slots (p.getD j default))) _ ?_ _ ⟨1,rfl,by omega,fun j h1 h2=>by omega⟩
   rintro s ⟨i,rfl,hi1,hall⟩
   by_cases hlt:i<p.length
   ·have e1:IntKind.i64.wrap ((i:Int) - 1)=((i - 1:Nat):Int):=by rw [wrap64 (by omega) (by omega)]; omega
    have hm1:=hm (i - 1) (by omega)
    have hm2:=hm i hlt
    cases hl:lessE (nth a.slots (p.getD (i - 1) default)) (nth a.slots (p.getD i default)) with
    | true =>
     refine .inl ⟨((i + 1:Nat):Int),⟨fun _=>?_,fun h=>by simp at h; omega⟩,⟨i + 1,rfl,by omega,fun j j1 j2 j3=>?_⟩,by simp; omega⟩
     ·simp only [e1,nth_nat p,hl]
      exact ⟨⟨by omega,by omega⟩,hm1,⟨by omega,by omega⟩,hm2,_,rfl,fun h=>by simp at h,fun _=>by rw [wrapS hlt (by omega)]⟩
     ·by_cases e:j=i
      ·subst e; exact lessE_iff.1 hl
      ·exact hall j j1 (by omega) j3
    | false =>
     refine .inr ⟨_,⟨fun _=>?_,fun h=>by simp at h; omega⟩,.inr ⟨rfl,i,hi1,hlt,lessE_no.1 hl⟩⟩
     simp only [e1,nth_nat p,hl]
     exact ⟨⟨by omega,by omega⟩,hm1,⟨by omega,by omega⟩,hm2,_,rfl,fun _=>by simp,fun h=>by simp at h⟩
   ·exact .inr ⟨_,⟨fun h=>by simp at h; omega,fun _=>rfl⟩,.inl ⟨_,rfl,fun j j1 j2=>hall j j1 (by omega) j2⟩⟩
  obtain ⟨x,hx,hcase⟩:=run
  refine ⟨x,hx,fun s e=>⟨by omega,fun c=>?_,fun c=>?_⟩,fun y e=>?_⟩
  ·rcases hcase with ⟨s',e',hch⟩ | ⟨e',_⟩
   ·have hD:=chain_dist hp hch
    have hpe:=idxR_eq hD hp hs
    have:arOk a=false:=by
     cases ho:arOk a with
     | false=>rfl
     | true =>
      have:=(arOk_iff.1 ho).2.2.2
      rw [this,hpe] at c; simp [eqInts] at c
    unfold checkA; rw [this]; rfl
   ·rw [e] at e'; cases e'
  ·rcases hcase with ⟨s',e',hch⟩ | ⟨e',_⟩
   ·have hD:=chain_dist hp hch
    have hpe:=idxR_eq hD hp hs
    have:arOk a=true:=arOk_iff.2 ⟨⟨by omega,by omega,by omega⟩,hall,hD,by
     rw [← hpe]; simp only [eqInts,Bool.not_eq_false',beq_iff_eq] at c; exact c.symm⟩
    unfold checkA; rw [this]; rfl
   ·rw [e] at e'; cases e'
  ·rcases hcase with ⟨s',e',_⟩ | ⟨e',i,hi1,hi2,hno⟩
   ·rw [e] at e'; cases e'
   ·rw [e] at e'; cases e'
    have:arOk a=false:=by
     cases ho:arOk a with
     | false=>rfl
     | true =>
      exfalso
      have hD:=(arOk_iff.1 ho).2.2.1
      have hle:=List.pairwise_iff_getElem.1 hs (i - 1) i (by omega) hi2 (by omega)
      have e1:p.getD (i - 1) default=p[i - 1]:=by simp [show i - 1<p.length by omega]
      have e2:p.getD i default=p[i]:=by simp [hi2]
      rw [e1,e2] at hno
      have heq:=dist_ne hD (hp.mem_iff.1 (List.getElem_mem (show i - 1<p.length by omega))) (hp.mem_iff.1 (List.getElem_mem hi2)) (ltN_tri hno hle)
      have hnd:p.Nodup:=hp.symm.nodup (idR_nodup _)
      have:=(List.getElem_inj hnd).1 heq
      omega
    unfold checkA; rw [this]; rfl
def arena_each_1_b13 (d1:Arena) (s13:Int × List (Int × Ent)) (z13:(Int × List (Int × Ent)) ⊕ ((Int × List (Int × Ent)) ⊕ (Unit))):Prop :=
 ((decide (s13.1<(d1.slots.length:Int)))=true→((0≤s13.1∧s13.1<(d1.slots.length:Int))∧(∃ r46,s13.2=(s13.1,(nth d1.slots s13.1))::r46∧(z13=.inl ((IntKind.i64.wrap (s13.1 + (1:Int))),r46))∧(True))))∧((decide (s13.1<(d1.slots.length:Int)))=false→(z13=.inr (.inl (s13.1,s13.2))))
def arena_each_1_X:(Int × Ent)→List Nat→World→List Value→Prop:=fun x T W vs=>∃ cs1,vs=[.int .i64 x.1,.agg cs1.toArray]∧Stb T W (fun w=>kEnt.r w cs1 x.2)
def arena_each_1_raw (d1:Arena) (xs:List (Int × Ent)):Prop :=
 (sma d1)∧((((checkA d1) != (0:Int))=true→(xs=[]))∧(((checkA d1) != (0:Int))=false→(∃ x13,LoopR (arena_each_1_b13 d1) ((0:Int),xs) x13∧(∀ sx13,x13=.inl sx13→(sx13.2=[]))∧(∀ y13,x13=.inr y13→True))))
set_option maxRecDepth 20000 in
set_option maxHeartbeats 4000000 in
theorem arena_each_1_it1 {L:List Nat} {w:World} {bP1:Nat} {csP1:List Value} (d1:Arena) (HB1:Stb L w (fun w=>Blk w bP1 25 csP1)) (HP1:Stb L w (fun w=>kArena.r w csP1 d1)) (hL:Lt L w) {xs:List (Int × Ent)} (h:arena_each_1_raw d1 xs) (l:Nat) (J:Nat→List Nat→World→Prop) (Jx:World→Prop) (T0:List Nat) (hT0:∀ m∈T0,m∈L) (hJ0:J 0 T0 w)
  (hJe:∀ k T W W',J k T W→Ext W W'→J k T W') (hJxe:∀ W W',Jx W→Ext W W'→Jx W') (hJl:∀ k T W,J k T W→Lt T W)
  (hY:∀ k x T W vs,xs[k]?=some x→J k T W→arena_each_1_X x T W vs→YC Tryz.prog l vs W fun e W' =>
   (e=.returned (.bool true)∧∃ T',J (k + 1) T' W'∧Fr T W W'∧∀ q∈T',q∈T∨W.heap.size≤q)∨(e=.returned (.bool false)∧Jx W')) :
  Calls Tryz.prog 78 (.func (.yield l) #[] #[]::[.pointer (some ⟨bP1,0,none⟩)]).toArray w fun e W'=>(∃ v,e=.returned v)∧((∃ T,J xs.length T W')∨Jx W'):=by
 obtain ⟨A1,c2,A4,c5,rfl,H3,H6⟩:=kArena_open HP1
 unfold arena_each_1_raw at h
 refine calls_ec Tryz.func78 rfl rfl rfl ?_
 refine ec_seq ?_
 refine ec_sr ?_
 refine o_w (v:=.agg (cArena d1 A1 c2 A4 c5).toArray) (r_lda agg_api_Arena rfl (vs:=(cArena d1 A1 c2 A4 c5)) rfl (HB1.now.part (n:=3) rfl)) ?_
 obtain ⟨ha8,h⟩:=h
 refine o_call cf_arena_Check rfl (arena_Check_c d1 (kArena_mk (d:=d1) (H3.up (Fr.refl L _) sI (upo (fun m hm=>.inl (hT0 m hm)) (fun _ h=>.inl h))) (H6.up (Fr.refl L _) sI (upo (fun m hm=>.inl (hT0 m hm)) (fun _ h=>.inl h)))) (lt_app (hJl _ _ _ hJ0) hL) (arCheck_ev d1 ha8)) rfl rfl ?_
 rintro _ w7 ⟨F7,rfl⟩
 have G9:Fr L w w7:=Fr.ext F7
 have G10:Fr ([]:List Nat) w w7:=Fr.ext F7
 refine o_w (v:=.bool ((checkA d1) != (0:Int))) (r_int rfl rfl rfl) ?_
 refine eo_nil_sq ?_
 refine ec_cond rfl (fun hc12=>?_) (fun hc12=>?_)
 ·replace h:=h.1 hc12
  refine ec_ret ?_
  refine sq_ret ?_
  have hr:=h
  exact (end0r ⟨⟨_,rfl⟩,.inl ⟨_,it_end (it_nil (xs:=xs)) hr (hJe _ _ _ _ hJ0 G10)⟩⟩)
 ·replace h:=h.2 hc12
  refine ec_skip ?_
  refine sq_n ?_
  refine ec_sr ?_
  refine o_w (v:=.pointer (some ⟨bP1,1,none⟩)) (r_fa fld_api_Arena_1 rfl rfl) ?_
  refine o_w (v:=.slice A1 d1.slots.length c2) (r_ld one_s_api_Entry rfl ((HB1.fr G9 sI).now.cell rfl)) ?_
  refine o_w (v:=.int .i64 (d1.slots.length:Int)) (r_len_slc un_s_api_Entry rfl) ?_
  refine o_w (v:=.int .i64 0) (r_mov rfl) ?_
  refine eo_nil_sq ?_
  refine ec_block ?_
  obtain ⟨x13,hl13,h⟩:=h
  refine ec_loopIt 0 (I:=(fun (s13:Int × List (Int × Ent)) ρ ds w'=>∃ (ρ':Env) (dn13i2:List (Int × Ent)) (T13i2:List Nat),ρ=envs ρ' [(11,.int .i64 s13.1),(0,.func (.yield l) #[] #[]),(9,.slice A1 d1.slots.length c2),(10,.int .i64 (d1.slots.length:Int))]∧ds=[]∧Fr (T0++L) w7 w'∧Fr L w w'∧J dn13i2.length T13i2 w'∧(∀ q∈T13i2,q∈(T0++L)∨w7.heap.size≤q)∧xs=dn13i2++s13.2∧(∀ q∈T13i2,q∈L∨w.heap.size≤q))) (J:=(fun (y':Unit) ρ ds wz=>bodyE Tryz.prog #[] (fun e W'=>(∃ v,e=.returned v)∧((∃ T,J xs.length T W')∨Jx W')) .ret ρ ds wz)) (K:=(fun ρ ds wz=>bodyE Tryz.prog #[] (fun e W'=>(∃ v,e=.returned v)∧((∃ T,J xs.length T W')∨Jx W')) .ret ρ ds wz)) ?_ hl13 ?_ ?_ ?_ ?_
  ·intro s13 z13 ρ13 ds13 w13r hI13 hb13
   obtain ⟨ρ13r,dn13r2,T13r2,rfl,rfl,F13r,E13r,j13r2,N13r2,D13r2,Ti13r2⟩:=hI13
   have h:=hb13
   unfold arena_each_1_b13 at h
   have G14:Fr L w w13r:=G9.stp F13r (upo (fun m hm=>.inl (hT0 m hm)) (fun _ h=>.inl h))
   have P15:∀ m∈T13r2,m∈L∨w.heap.size≤m:=fun m hm=>(N13r2 m hm).elim (fun h=>(show ∀ m∈(T0++L),m∈L∨w.heap.size≤m from (upo (fun m hm=>.inl (hT0 m hm)) (fun _ h=>.inl h))) m h) (fun h=>.inr (Nat.le_trans (G9.size) h))
   refine ec_sr ?_
   refine o_w (v:=.bool (decide (s13.1<(d1.slots.length:Int)))) (r_int rfl rfl rfl) ?_
   refine eo_nil_sq ?_
   refine ec_seq ?_
   refine ec_cond rfl (fun hc16=>?_) (fun hc16=>?_)
   ·replace h:=h.1 hc16
    refine ec_skip ?_
    refine sq_n ?_
    refine ec_seq ?_
    refine ec_block ?_
    refine ec_sr ?_
    refine o_w (v:=.int .i64 s13.1) (r_mov rfl) ?_
    obtain ⟨ha17,h⟩:=h
    obtain ⟨cs18,l20,H19⟩:=Stb.elem (by decide) (H3.up G14 sI (upo P15 (fun _ h=>.inl h))) s13.1 ha17.1 ha17.2
    obtain ⟨A22,c23,A25,c26,rfl,H21,H24,H27⟩:=kEnt_open2 H19
    refine o_w (v:=.pointer (some (elemA A1 kEnt.n s13.1.toNat))) (r_ia slc_s_api_Entry rfl rfl ((H3.fr G14 sI).now.2 _ (lt_toNat ha17.1 ha17.2)).1 ha17.1 ha17.2) ?_
    refine o_w (v:=.agg (cEnt (nth d1.slots s13.1) A22 c23 A25 c26).toArray) (r_lda' agg_api_Entry rfl (elemA_spot _ _ _) (vs:=(cEnt (nth d1.slots s13.1) A22 c23 A25 c26)) rfl (H21.now.1)) ?_
    refine o_alloc zero_api_Entry rfl rfl rfl ?_
    intro b28 w28 e28 F28 B28
    have n28:w.heap.size≤b28:=by rw [e28]; exact E13r.size
    have m30:w13r.heap.size≤b28:=Nat.le_of_eq e28.symm
    have m31:w7.heap.size≤b28:=by rw [e28]; exact F13r.size
    have m32:w13r.heap.size≤b28:=Nat.le_of_eq e28.symm
    have nTb28:b28∉T13r2:=fun hm=>by have:=(hJl _ _ _ j13r2) _ hm; omega
    have E33:=E13r.trans (Fr.ext F28)
    have G35:Fr ([]:List Nat) w13r w28:=Fr.ext F28
    have G37:Fr (T13r2++L) w13r w28:=Fr.ext F28
    refine o_w (v:=.int .i64 s13.1) (r_asg rfl) ?_
    refine o_store rfl B28 (vs:=(cEnt (nth d1.slots s13.1) A22 c23 A25 c26)) rfl sz_api_Entry rfl rfl rfl ?_
    intro w39 F39 B39
    have E40:=Fr.stp E33 F39 (fun m hm=>.inr (by simp at hm; omega))
    have G42:Fr ([]:List Nat) w13r w39:=G35.stp F39 (upc (.inr m30) (fun m hm=>by cases hm))
    have G43:Fr (T0++L) w7 w39:=(F13r.trans (Fr.ext F28)).stp F39 (upc (.inr m31) (fun m hm=>by cases hm))
    have G44:Fr (T13r2++L) w13r w39:=G37.stp F39 (upc (.inr m32) (fun m hm=>by cases hm))
    have B39':Blk w39 b28 _ (cEnt (nth d1.slots s13.1) A22 c23 A25 c26):=B39
    refine eo_r ?_
    refine o_w (v:=.func (.yield l) #[] #[]) (r_mov rfl) ?_
    refine o_w (v:=.int .i64 s13.1) (r_mov rfl) ?_
    refine o_w (v:=.agg (cEnt (nth d1.slots s13.1) A22 c23 A25 c26).toArray) (r_lda agg_api_Entry rfl (vs:=(cEnt (nth d1.slots s13.1) A22 c23 A25 c26)) rfl (B39'.part (n:=9) rfl)) ?_
    obtain ⟨r46,er46,h⟩:=h
    refine o_yield (vs:=[.int .i64 s13.1,.agg (cEnt (nth d1.slots s13.1) A22 c23 A25 c26).toArray]) rfl rfl (hY _ (s13.1,(nth d1.slots s13.1)) _ _ _ (it_at D13r2 er46) (hJe _ _ _ _ j13r2 G42) ⟨_,rfl,((kEnt_mk (d:=(nth d1.slots s13.1)) (H24.up G44 sI (upc (.inr m32) (upo (fun m hm=>Or.inl (List.mem_append_left _ hm)) (fun m hm=>Or.inl (List.mem_append_right _ hm))))) (H27.up G44 sI (upc (.inr m32) (upo (fun m hm=>Or.inl (List.mem_append_left _ hm)) (fun m hm=>Or.inl (List.mem_append_right _ hm)))))).weak (fun m hm=>(mT (List.mem_append_left _ hm))))⟩) rfl rfl ?_ (by rintro c w' (⟨h,_⟩ | ⟨h,_⟩) <;> cases h) (by rintro w' (⟨h,_⟩ | ⟨h,_⟩) <;> cases h)
    rintro v46 w46 (⟨ev46,T46,J46,F46,N46⟩ | ⟨ev46,X46⟩)
    ·cases ev46; replace h:=h.1
     have D46:=it_next D13r2 er46
     have j46:=it_len (x:=(s13.1,(nth d1.slots s13.1))) J46
     have hl46:=hJl _ _ _ j46
     have Ti46:∀ m∈T46,m∈L∨w.heap.size≤m:=fun m hm=>(N46 m hm).elim (Ti13r2 m) (fun h=>.inr (Nat.le_trans (E40.size) h))
     have nT46b28:b28∉T46:=fun hm=>(N46 _ hm).elim nTb28 (fun h=>by have:=B39'.lt; omega)
     have P48:∀ m∈T46,m∈(T0++L)∨w7.heap.size≤m:=fun m hm=>(N46 m hm).elim (fun h=>(show ∀ m∈T13r2,m∈(T0++L)∨w7.heap.size≤m from N13r2) m h) (fun h=>.inr (Nat.le_trans (G43.size) h))
     have E50:=Fr.stp E40 F46 Ti13r2
     have G52:Fr (T0++L) w7 w46:=G43.stp F46 N13r2
     refine o_w (r_not rfl) ?_
     refine eo_nil_sq ?_
     refine ec_condF rfl rfl ?_
     refine ec_skip ?_
     refine blk_n ?_
     refine sq_n ?_
     refine ec_region ?_
     refine o_w (v:=.int .i64 (IntKind.i64.wrap (s13.1 + (1:Int)))) (r_int rfl rfl rfl) ?_
     refine o_w (v:=.int .i64 (IntKind.i64.wrap (s13.1 + (1:Int)))) (r_mov rfl) ?_
     refine eo_nil ?_
     subst h
     exact .inr <| lqR_n ⟨_,(dn13r2++[(s13.1,(nth d1.slots s13.1))]),T46,envs_self ⟨rfl,rfl,rfl,rfl,trivial⟩,rfl,G52,E50,(hJe _ _ _ _ j46 (Fr.refl _ _)),P48,D46,Ti46⟩
    ·cases ev46; replace h:=h.2
     refine o_w (r_not rfl) ?_
     refine eo_nil_sq ?_
     refine ec_condT rfl rfl ?_
     refine ec_ret ?_
     refine blk_ret ?_
     refine sq_ret ?_
     exact .inl ⟨rfl,(end0r ⟨⟨_,rfl⟩,.inr (hJxe _ _ X46 (Fr.refl _ _))⟩)⟩
   ·replace h:=h.2 hc16
    refine ec_exit ?_
    refine sq_exit ?_
    subst h
    exact .inr <| lqR_x ⟨_,dn13r2,T13r2,envs_self ⟨rfl,rfl,rfl,rfl,trivial⟩,rfl,F13r,E13r,(hJe _ _ _ _ j13r2 (Fr.refl _ _)),N13r2,D13r2,Ti13r2⟩
  ·exact ⟨_,([]:List (Int × Ent)),T0,envs_self ⟨rfl,rfl,rfl,rfl,trivial⟩,rfl,(Fr.refl _ _),(Fr.ext F7),(hJe _ _ _ _ hJ0 G10),(fun q hq=>.inl (by first | exact List.mem_append_left _ hq | simp [hq])),(it_nil (xs:=xs)),(fun m hm=>.inl (hT0 m hm))⟩
  ·rintro sx13 rfl ρ13e ds13e w13e ⟨ρ13e,dn13e2,T13e2,rfl,rfl,F13e,E13e,j13e2,N13e2,D13e2,Ti13e2⟩
   replace h:=h.1 _ rfl
   refine blk_hit ?_
   have hr:=h
   exact (end0 ⟨⟨_,rfl⟩,.inl ⟨_,it_end D13e2 hr (hJe _ _ _ _ j13e2 (Fr.refl _ _))⟩⟩)
  ·rintro y13 rfl ρ13q ds13q w13q hJ
   refine blk_ret ?_
   exact hJ
  ·intro ρ13q ds13q w13q hJ
   refine blk_ret ?_
   exact hJ
theorem arena_each_1_it {L:List Nat} {w:World} {bP1:Nat} {csP1:List Value} (d1:Arena) (HB1:Stb L w (fun w=>Blk w bP1 25 csP1)) (HP1:Stb L w (fun w=>kArena.r w csP1 d1)) (hL:Lt L w) {xs:List (Int × Ent)} (h:arena_each_1_raw d1 xs):IterCP Tryz.prog 78 [.pointer (some ⟨bP1,0,none⟩)] xs arena_each_1_X L [] w :=
 fun l J Jx T0 hT0 hPv hJ0 h1 h2 h3 h4=>arena_each_1_it1 d1 HB1 HP1 hL h l J Jx T0 hT0 hJ0 h1 h2 h3 h4

def eachL (l:List Ent):List (Int × Ent):=(List.range l.length).map fun i:Nat=>((i:Int),l.getD i default)
def eachA (a:Arena):List (Int × Ent):=bif arOk a then eachL a.slots else []
theorem eachL_length (l:List Ent):(eachL l).length=l.length:=by simp [eachL]
theorem eachL_drop {l:List Ent} {i:Nat} (h:i<l.length):(eachL l).drop i=((i:Int),l.getD i default)::(eachL l).drop (i + 1):=by
 rw [List.drop_eq_getElem_cons (by rw [eachL_length]; exact h)]
 congr 1
 simp [eachL]
theorem each_ev (a:Arena) (h:sma a):arena_each_1_raw a (eachA a):=by
 have h2:=h.2.1
 refine ⟨h,fun c=>?_,fun c=>?_⟩ <;> rw [checkA_ne] at c
 ·have:arOk a=false:=by simpa using c
  unfold eachA; rw [this]; rfl
 ·have:arOk a=true:=by simpa using c
  have e:eachA a=eachL a.slots:=by unfold eachA; rw [this]; rfl
  rw [e]
  obtain ⟨x,hx,hp⟩:=loop_run (body:=arena_each_1_b13 a) (fun s=>a.slots.length - s.1.toNat) (fun s=>∃ i:Nat,i≤a.slots.length∧s=((i:Int),(eachL a.slots).drop i)) (fun x=>x=.inl ((a.slots.length:Int),[])) (by
   rintro s ⟨i,hi,rfl⟩
   by_cases hlt:i<a.slots.length
   ·refine .inl ⟨(((i + 1:Nat):Int),(eachL a.slots).drop (i + 1)),⟨fun _=>⟨⟨by simp,by simpa using hlt⟩,(eachL a.slots).drop (i + 1),?_,?_,trivial⟩,fun h=>by simp at h; omega⟩,⟨i + 1,by omega,rfl⟩,by simp; omega⟩
    ·exact eachL_drop hlt
    ·rw [wrapS hlt (by omega)]
   ·obtain rfl:i=a.slots.length:=by omega
    refine .inr ⟨_,⟨fun h=>by simp at h,fun _=>rfl⟩,?_⟩
    have:(eachL a.slots).drop a.slots.length=[]:=List.drop_eq_nil_of_le (by rw [eachL_length]; exact Nat.le_refl _)
    simp [this]) ((0:Int),eachL a.slots) ⟨0,by omega,by simp⟩
  refine ⟨x,hx,fun s e=>?_,fun _ _=>trivial⟩
  rw [e] at hp; cases hp; rfl
theorem arena_each_it {L:List Nat} {w:World} {bP1:Nat} {csP1:List Value} (d1:Arena) (HB1:Stb L w (fun w=>Blk w bP1 25 csP1)) (HP1:Stb L w (fun w=>kArena.r w csP1 d1)) (hL:Lt L w) (h:sma d1) :
  IterC Tryz.prog 78 [.pointer (some ⟨bP1,0,none⟩)] (eachA d1) arena_each_1_X L w:=arena_each_1_it d1 HB1 HP1 hL (each_ev d1 h)
def arena_Find_b35 (d1:Int) (d2:Str) (s35:Int) (y35:(Int × Ent)) (z35:(Int) ⊕ (Int)):Prop :=
 (((y35.2.val.kind==d1)&&(y35.2.key==d2))=true→(z35=.inr y35.1))∧(((y35.2.val.kind==d1)&&(y35.2.key==d2))=false→(z35=.inl s35))
def arena_Find_raw (d0:Arena) (d1:Int) (d2:Str) (y:Int):Prop :=
 (sma d0)∧(∃ x35,ItR (arena_Find_b35 d1 d2) (0:Int) (eachA d0) x35∧(∀ sx35,x35=.inl sx35→(y=(-1:Int)))∧(∀ yx35,x35=.inr yx35→(y=yx35)))
set_option maxRecDepth 20000 in
set_option maxHeartbeats 4000000 in
theorem arena_Find_c {L:List Nat} {w:World} {csP0:List Value} (d0:Arena) (HP0:Stb L w (fun w=>kArena.r w csP0 d0)) (d1:Int) (d2:Str) (hL:Lt L w) {y:Int} (h:arena_Find_raw d0 d1 d2 y) :
  Calls Tryz.prog 26 [.agg csP0.toArray,.int .i64 d1,str d2].toArray w (Ret fun v w'=>Ext w w'∧v=.int .i64 y):=by
 obtain ⟨A1,c2,A4,c5,rfl,H3,H6⟩:=kArena_open HP0
 unfold arena_Find_raw at h
 refine calls_ecM Tryz.func26 rfl rfl rfl ?_
 refine ec_sr ?_
 refine o_box (cs:=(cArena d0 A1 c2 A4 c5)) rfl rfl rfl ?_
 intro b7 w7 e7 F7 B7
 have S7:=B7.stb (nin hL e7)
 have G8:Fr L w w7:=Fr.ext F7
 refine o_box (cs:=[.int .i64 d1]) rfl rfl rfl ?_
 intro b9 w9 e9 F9 B9
 have S9:=B9.stb (nin (hL.fr F7) e9)
 have E10:=F7.trans F9
 have G12:Fr L w7 w9:=Fr.ext F9
 refine o_box (cs:=[str d2]) rfl rfl rfl ?_
 intro b13 w13 e13 F13 B13
 have S13:=B13.stb (nin (hL.fr E10) e13)
 have E14:=E10.trans F13
 have G17:Fr L w9 w13:=Fr.ext F13
 refine o_alloc zero_int rfl rfl rfl ?_
 intro b18 w18 e18 F18 B18
 have n18:w.heap.size≤b18:=by rw [e18]; exact E14.size
 have m19:w.heap.size≤b18:=by rw [e18]; exact ((G8.trans (Fr.ext F9)).trans (Fr.ext F13)).size
 have m21:w9.heap.size≤b18:=by rw [e18]; exact G17.size
 have m22:w13.heap.size≤b18:=Nat.le_of_eq e18.symm
 have E23:=E14.trans F18
 have G27:Fr L w13 w18:=Fr.ext F18
 refine eo_nil_sq ?_
 refine ec_seq ?_
 refine ec_sr ?_
 refine o_w (v:=.agg (cArena d0 A1 c2 A4 c5).toArray) (r_lda agg_api_Arena rfl (vs:=(cArena d0 A1 c2 A4 c5)) rfl ((S7.fr ((G12.trans (Fr.ext F13)).trans (Fr.ext F18)) sI).now.part (n:=3) rfl)) ?_
 refine o_inl (vs:=[.agg (cArena d0 A1 c2 A4 c5).toArray]) (caps:=[]) cf_arena_each rfl rfl rfl rfl ?_
 refine calls_ec Tryz.func47 rfl rfl rfl ?_
 refine ec_sr ?_
 refine o_box (cs:=(cArena d0 A1 c2 A4 c5)) rfl rfl rfl ?_
 intro b28 w28 e28 F28 B28
 have S28:=B28.stb (nin ((hL.fr E23).cons B18.lt) e28)
 have E29:=E23.trans F28
 have G30:=(((G8.trans (Fr.ext F9)).trans (Fr.ext F13)).trans (Fr.ext F18)).trans (Fr.ext F28)
 refine o_w (v:=.nilFunc) (r_asg rfl) ?_
 refine eo_r ?_
 refine o_w (r_mkfn' (vs:=[.pointer (some ⟨b28,0,none⟩)]) rfl) ?_
 refine o_w (v:=.func (.func 78) #[] #[.pointer (some ⟨b28,0,none⟩)]) (r_asg rfl) ?_
 refine eo_nil_sq ?_
 refine ec_ret ?_
 refine end1 (v:=.func (.func 78) #[] #[.pointer (some ⟨b28,0,none⟩)]) rfl ⟨_,rfl,?_⟩
 refine eo_nil_sq ?_
 refine ec_block ?_
 obtain ⟨ha36,h⟩:=h
 refine ec_range (ps:=[11,12]) (gf:=78) (lb:=[.pointer (some ⟨b28,0,none⟩)]) rfl cf_arena_each_1 ?_
 intro D35 l35 rec35 w35 eD35 e35 hr35 F35 BD35 BL35
 have n35:w.heap.size≤D35:=by rw [eD35]; exact E29.size
 have nl35:w.heap.size≤l35:=by omega
 have nd35:D35<l35:=by omega
 have q37:b18<D35:=by rw [eD35]; exact (B18.ex F28).lt
 have m38:w.heap.size≤D35:=by rw [eD35]; exact G30.size
 have m39:w.heap.size≤l35:=by omega
 have m42:w9.heap.size≤D35:=by rw [eD35]; exact ((G17.trans (Fr.ext F18)).trans (Fr.ext F28)).size
 have m43:w9.heap.size≤l35:=by omega
 have m44:w13.heap.size≤D35:=by rw [eD35]; exact (G27.trans (Fr.ext F28)).size
 have m45:w13.heap.size≤l35:=by omega
 have m46:w28.heap.size≤D35:=Nat.le_of_eq eD35.symm
 have m47:w28.heap.size≤l35:=by omega
 have E48:=E29.trans F35
 have G53:Fr (b18::L) w28 w35:=Fr.ext F35
 obtain ⟨x35,hl35,h⟩:=h
 refine range_run (S:=Int) (R:=Int) (arena_each_it d0 (S28.up G53 sI (upc (.inr m47) (upc (.inr m46) (upc (.inl mH) (fun m hm=>Or.inl (mT hm)))))) (kArena_mk (d:=d0) (H3.up (G30.trans (Fr.ext F35)) sI (upc (.inr m39) (upc (.inr m38) (upc (.inr m19) (fun _ h=>.inl h))))) (H6.up (G30.trans (Fr.ext F35)) sI (upc (.inr m39) (upc (.inr m38) (upc (.inr m19) (fun _ h=>.inl h)))))) ((((hL.fr E48).cons ((B18.ex F28).ex F35).lt).cons BD35.lt).cons BL35.lt) ha36) (fun (s35:Int) T w'=>T=(l35::(D35::(b18::L)))∧Fr (l35::(D35::(b18::L))) w35 w'∧Ext w w'∧Blk w' b18 3 [.int .i64 s35]∧Lp w' D35 (.deferred (some []))∧Lp w' l35 (.loop (rec35 .ready none))) (fun (s35:Int) w'=>Fr (l35::(D35::(b18::L))) w35 w'∧Ext w w'∧Blk w' b18 3 [.int .i64 s35]∧Lp w' D35 (.deferred (some []))∧Lp w' l35 (.loop (rec35 .done (some .ret)))) hl35 ((l35::(D35::(b18::L)))) sI (fun _ h=>by cases h) ⟨rfl,(Fr.refl _ _),E48,((B18.ex F28).ex F35),BD35,BL35⟩ (fun _ _ w' w'' h f=>by obtain ⟨rfl,F,E,B35ib18,B35iD35,B35il35⟩:=h; exact ⟨rfl,F.trans (Fr.ext f),E.trans f,B35ib18.ex f,B35iD35.ex f,B35il35.ex f⟩) (fun _ w' w'' h f=>by obtain ⟨F,E,B35ib18,B35iD35,B35il35⟩:=h; exact ⟨F.trans (Fr.ext f),E.trans f,B35ib18.ex f,B35iD35.ex f,B35il35.ex f⟩) (fun _ _ w' h=>by obtain ⟨rfl,F,E,B35ib18,B35iD35,B35il35⟩:=h; exact ((((hL.fr E).cons B35ib18.lt).cons B35iD35.lt).cons B35il35.lt)) ?_ ?_ ?_
 ·intro s35 y35 z35 T35 w35r vs35 hI35 hX35 hb35
  obtain ⟨rfl,F35r,E35r,B35rb18,B35rD35,B35rl35⟩:=hI35
  have h:=hb35
  unfold arena_Find_b35 at h
  have G57:Fr L w9 w35r:=(((G17.trans (Fr.ext F18)).trans (Fr.ext F28)).trans (Fr.ext F35)).stp F35r (upc (.inr m43) (upc (.inr m42) (upc (.inr m21) (fun _ h=>.inl h))))
  have G58:Fr L w13 w35r:=((G27.trans (Fr.ext F28)).trans (Fr.ext F35)).stp F35r (upc (.inr m45) (upc (.inr m44) (upc (.inr m22) (fun _ h=>.inl h))))
  obtain ⟨cs61,rfl,HX60⟩:=hX35
  obtain ⟨A62,c63,A65,c66,rfl,H64,H67⟩:=kEnt_open HX60
  refine range_round (ps:=[11,12]) hr35 B35rl35 rfl rfl ?_
  refine ec_sr ?_
  refine o_w (v:=.int .i64 y35.1) (r_asg rfl) ?_
  refine eo_q ?_
  refine o_alloc zero_api_Entry rfl rfl rfl ?_
  intro b68 w68 e68 F68 B68
  have n68:w.heap.size≤b68:=by rw [e68]; exact E35r.size
  have q69:b18<b68:=by rw [e68]; exact B35rb18.lt
  have q70:l35<b68:=by rw [e68]; exact B35rl35.lt
  have q71:D35<b68:=by rw [e68]; exact B35rD35.lt
  have m74:w9.heap.size≤b68:=by rw [e68]; exact G57.size
  have m75:w13.heap.size≤b68:=by rw [e68]; exact G58.size
  have m77:w35.heap.size≤b68:=by rw [e68]; exact F35r.size
  have m78:w35r.heap.size≤b68:=Nat.le_of_eq e68.symm
  have E80:=E35r.trans F68
  have G87:Fr (l35::(D35::(b18::L))) w35r w68:=Fr.ext F68
  refine o_store rfl B68 (vs:=(cEnt y35.2 A62 c63 A65 c66)) rfl sz_api_Entry rfl rfl rfl ?_
  intro w92 F92 B92
  have E93:=Ext.st E80 F92 (by simp; omega)
  have G96:Fr L w9 w92:=(G57.trans (Fr.ext F68)).stp F92 (upc (.inr m74) (fun m hm=>by cases hm))
  have G97:Fr L w13 w92:=(G58.trans (Fr.ext F68)).stp F92 (upc (.inr m75) (fun m hm=>by cases hm))
  have G99:Fr (l35::(D35::(b18::L))) w35 w92:=(F35r.trans (Fr.ext F68)).stp F92 (upc (.inr m77) (fun m hm=>by cases hm))
  have G100:Fr (l35::(D35::(b18::L))) w35r w92:=G87.stp F92 (upc (.inr m78) (fun m hm=>by cases hm))
  have B102:=(B35rb18.ex F68).fr F92 (by simp; omega)
  have B103:=(B35rl35.ex F68).fr F92 (by simp; omega)
  have B104:=(B35rD35.ex F68).fr F92 (by simp; omega)
  have B92':Blk w92 b68 _ (cEnt y35.2 A62 c63 A65 c66):=B92
  refine eo_nil ?_
  refine ⟨rfl,rfl,B103,fun w105 F106 BL107=>?_⟩
  have E108:=Ext.st E93 F106 (by simp; omega)
  have G111:Fr L w9 w105:=G96.stp F106 (upc (.inr m43) (fun m hm=>by cases hm))
  have G112:Fr L w13 w105:=G97.stp F106 (upc (.inr m45) (fun m hm=>by cases hm))
  have G114:Fr (l35::(D35::(b18::L))) w35 w105:=G99.stp F106 (upc (.inl mH) (fun m hm=>by cases hm))
  have G115:Fr (l35::(D35::(b18::L))) w35r w105:=G100.stp F106 (upc (.inl mH) (fun m hm=>by cases hm))
  have B117:=B102.fr F106 (by simp; omega)
  have B118:=B104.fr F106 (by simp; omega)
  have B119:=B92'.fr F106 (by simp; omega)
  refine ec_block ?_
  refine ec_sr ?_
  refine o_w (v:=.pointer (some ⟨b68,1,none⟩)) (r_fa fld_api_Entry_1 rfl rfl) ?_
  refine o_w (v:=.pointer (some ⟨b68,1,none⟩)) (r_fa fld_api_Value_0 rfl rfl) ?_
  refine o_w (v:=.int .i64 y35.2.val.kind) (r_ld one_int rfl (B119.cell rfl)) ?_
  refine o_w (v:=.int .i64 d1) (r_ld one_int rfl ((S9.fr G111 sI).now.cell rfl)) ?_
  refine o_w (v:=.bool (y35.2.val.kind==d1)) (r_int rfl rfl rfl) ?_
  refine o_w (v:=.bool (y35.2.val.kind==d1)) (r_mov rfl) ?_
  refine o_vg (v:=.pointer (some ⟨b68,0,none⟩)) (want_ct (t:=18) rfl rfl) (fun hk=>(r_fa fld_api_Entry_0 rfl rfl)) rfl rfl ?_
  refine o_vg (v:=str y35.2.key) (want_ct (t:=18) rfl rfl) (fun hk=>(r_ld one_string (gdT hk) (B119.cell rfl))) rfl rfl ?_
  refine o_vg (v:=str d2) (want_ct (t:=18) rfl rfl) (fun hk=>(r_ld one_string rfl ((S13.fr G112 sI).now.cell rfl))) rfl rfl ?_
  refine o_vg (v:=.bool (y35.2.key==d2)) (want_ct (t:=18) rfl rfl) (fun hk=>(r_str (gdT hk) (gdT hk) rfl)) rfl rfl ?_
  refine o_w (v:=.bool ((y35.2.val.kind==d1)&&(y35.2.key==d2))) (r_pickAnd rfl (fun ht=>(gdT ht)) rfl) ?_
  refine eo_nil_sq ?_
  refine ec_cond rfl (fun hc120=>?_) (fun hc120=>?_)
  ·replace h:=h.1 hc120
   refine ec_sr ?_
   refine o_w (v:=.int .i64 y35.1) (r_mov rfl) ?_
   refine o_store rfl B117 (vs:=[.int .i64 y35.1]) rfl sz_int rfl rfl rfl ?_
   intro w121 F121 B121
   have E122:=Ext.st E108 F121 (by simp; omega)
   have G128:Fr (l35::(D35::(b18::L))) w35 w121:=G114.stp F121 (upc (.inl (mT (mT mH))) (fun m hm=>by cases hm))
   have B131:=BL107.fr F121 (by simp; omega)
   have B132:=B118.fr F121 (by simp; omega)
   have B121':Blk w121 b18 _ [.int .i64 y35.1]:=B121
   refine eo_nil_sq ?_
   refine ec_ret ?_
   refine blk_ret ?_
   subst h
   refine ⟨some .ret,rfl,B131,fun w134 F135 BL136=>?_⟩
   have E137:=Ext.st E122 F135 (by simp; omega)
   have G143:Fr (l35::(D35::(b18::L))) w35 w134:=G128.stp F135 (upc (.inl mH) (fun m hm=>by cases hm))
   have B146:=B121'.fr F135 (by simp; omega)
   have B147:=B132.fr F135 (by simp; omega)
   exact ⟨rfl,⟨G143,E137,B146,B147,BL136⟩⟩
  ·replace h:=h.2 hc120
   refine ec_skip ?_
   refine blk_n ?_
   subst h
   refine ⟨none,rfl,BL107,fun w149 F150 BL151=>?_⟩
   have E152:=Ext.st E108 F150 (by simp; omega)
   have G158:Fr (l35::(D35::(b18::L))) w35 w149:=G114.stp F150 (upc (.inl mH) (fun m hm=>by cases hm))
   have G159:Fr (l35::(D35::(b18::L))) w35r w149:=G115.stp F150 (upc (.inl mH) (fun m hm=>by cases hm))
   have B161:=B117.fr F150 (by simp; omega)
   have B162:=B118.fr F150 (by simp; omega)
   exact ⟨rfl,_,⟨rfl,G158,E152,B161,B162,BL151⟩,G159,(upc (.inl mH) (upc (.inl (mT mH)) (upc (.inl (mT (mT mH))) (fun m hm=>Or.inl (mT (mT (mT hm)))))))⟩
 ·rintro sx35 rfl T35 w35e v35 hI35
  replace h:=h.1 _ rfl
  obtain ⟨rfl,F35e,E35e,B35eb18,B35eD35,B35el35⟩:=hI35
  refine ⟨⟨_,rfl⟩,none,B35el35,fun w169 F170=>?_⟩
  have E171:=Ext.st E35e F170 (by simp; omega)
  have B177:=B35eb18.fr F170 (by simp; omega)
  have B178:=B35eD35.fr F170 (by simp; omega)
  refine blk_n ?_
  refine sq_n ?_
  refine ec_sr ?_
  refine o_store rfl B177 (vs:=[.int .i64 (-1:Int)]) rfl sz_int rfl rfl rfl ?_
  intro w179 F179 B179
  have E180:=Ext.st E171 F179 (by simp; omega)
  have B186:=B178.fr F179 (by simp; omega)
  have B179':Blk w179 b18 _ [.int .i64 (-1:Int)]:=B179
  refine eo_nil_sq ?_
  refine ec_ret ?_
  refine marksS B186 (fun w187 F187=>?_)
  have E188:=Ext.st E180 F187 (by simp; omega)
  have B194:=B179'.fr F187 (by simp; omega)
  subst h
  exact marks0 ((endr1 (rv_c rfl (one_int) B194 rfl) ⟨_,rfl,E188,rfl⟩))
 ·rintro yx35 rfl w35q v35 hI35
  replace h:=h.2 _ rfl
  obtain ⟨F35q,E35q,B35qb18,B35qD35,B35ql35⟩:=hI35
  refine ⟨⟨_,rfl⟩,(some .ret),B35ql35,fun w200 F201=>?_⟩
  have E202:=Ext.st E35q F201 (by simp; omega)
  have B208:=B35qb18.fr F201 (by simp; omega)
  have B209:=B35qD35.fr F201 (by simp; omega)
  refine blk_ret ?_
  refine sq_ret ?_
  refine marksS B209 (fun w210 F210=>?_)
  have E211:=Ext.st E202 F210 (by simp; omega)
  have B217:=B208.fr F210 (by simp; omega)
  replace h:=h.symm
  subst h
  exact marks0 ((endr1 (rv_c rfl (one_int) B217 rfl) ⟨_,rfl,E211,rfl⟩))
def arena_Chunk_b36 (d1:Int) (d2:Int) (s36:List Ent) (y36:(Int × Ent)) (z36:(List Ent) ⊕ (List Ent)):Prop :=
 (((decide (d1≤y36.1))&&(decide ((IntKind.i64.wrap (y36.1 - d1))<d2)))=true→((s36.length + 1≤9223372036854775807∧(s36.length + 1) * 120≤140737488355328)∧(z36=.inl (s36++([y36.2]:List Ent)))))∧(((decide (d1≤y36.1))&&(decide ((IntKind.i64.wrap (y36.1 - d1))<d2)))=false→(z36=.inl s36))
def arena_Chunk_raw (d0:Arena) (d1:Int) (d2:Int) (y:(List Ent)):Prop :=
 ((decide (d1<0))=true→(y=([]:List Ent)))∧((decide (d1<0))=false→((sma d0)∧(∃ x36,ItR (arena_Chunk_b36 d1 d2) ([]:List Ent) (eachA d0) x36∧(∀ sx36,x36=.inl sx36→(y=sx36))∧(∀ yx36,x36=.inr yx36→False))))
set_option maxRecDepth 20000 in
set_option maxHeartbeats 4000000 in
theorem arena_Chunk_c {L:List Nat} {w:World} {csP0:List Value} (d0:Arena) (HP0:Stb L w (fun w=>kArena.r w csP0 d0)) (d1:Int) (d2:Int) (hL:Lt L w) {y:(List Ent)} (h:arena_Chunk_raw d0 d1 d2 y) :
  Calls Tryz.prog 73 [.agg csP0.toArray,.int .i64 d1,.int .i64 d2].toArray w (Ret fun v w'=>Ext w w'∧∃ (A90:Option Addr) (c90:Nat),v=.slice A90 (y).length c90∧Stb L w' (fun w=>SlC kEnt w A90 c90 y)):=by
 obtain ⟨A1,c2,A4,c5,rfl,H3,H6⟩:=kArena_open HP0
 unfold arena_Chunk_raw at h
 refine calls_ecM Tryz.func73 rfl rfl rfl ?_
 refine ec_sr ?_
 refine o_box (cs:=(cArena d0 A1 c2 A4 c5)) rfl rfl rfl ?_
 intro b7 w7 e7 F7 B7
 have S7:=B7.stb (nin hL e7)
 have G8:Fr L w w7:=Fr.ext F7
 refine o_box (cs:=[.int .i64 d1]) rfl rfl rfl ?_
 intro b9 w9 e9 F9 B9
 have S9:=B9.stb (nin (hL.fr F7) e9)
 have E10:=F7.trans F9
 have G12:Fr L w7 w9:=Fr.ext F9
 refine o_box (cs:=[.int .i64 d2]) rfl rfl rfl ?_
 intro b13 w13 e13 F13 B13
 have S13:=B13.stb (nin (hL.fr E10) e13)
 have E14:=E10.trans F13
 have G17:Fr L w9 w13:=Fr.ext F13
 refine o_w (v:=.slice none ([]:List Ent).length 0) (r_asg rfl) ?_
 refine eo_r ?_
 refine o_alloc zero_s_api_Entry rfl rfl rfl ?_
 intro b18 w18 e18 F18 B18
 have n18:w.heap.size≤b18:=by rw [e18]; exact E14.size
 have m19:w.heap.size≤b18:=by rw [e18]; exact ((G8.trans (Fr.ext F9)).trans (Fr.ext F13)).size
 have m21:w9.heap.size≤b18:=by rw [e18]; exact G17.size
 have m22:w13.heap.size≤b18:=Nat.le_of_eq e18.symm
 have E23:=E14.trans F18
 have G27:Fr L w13 w18:=Fr.ext F18
 refine eo_nil_sq ?_
 refine ec_seq ?_
 refine ec_sr ?_
 refine o_w (v:=.int .i64 d1) (r_ld one_int rfl ((S9.fr (G17.trans (Fr.ext F18)) sI).now.cell rfl)) ?_
 refine o_w (v:=.bool (decide (d1<0))) (r_int rfl rfl rfl) ?_
 refine eo_nil_sq ?_
 refine ec_cond rfl (fun hc28=>?_) (fun hc28=>?_)
 ·replace h:=h.1 hc28
  refine ec_sr ?_
  refine o_w (v:=.slice none ([]:List Ent).length 0) (r_asg rfl) ?_
  refine eo_nil_sq ?_
  refine ec_ret ?_
  refine sq_ret ?_
  subst h
  exact marks0 ((end1 rfl ⟨_,rfl,E23,_,_,rfl,stb_nil⟩))
 ·replace h:=h.2 hc28
  refine ec_skip ?_
  refine sq_n ?_
  refine ec_seq ?_
  refine ec_sr ?_
  refine o_w (v:=.agg (cArena d0 A1 c2 A4 c5).toArray) (r_lda agg_api_Arena rfl (vs:=(cArena d0 A1 c2 A4 c5)) rfl ((S7.fr ((G12.trans (Fr.ext F13)).trans (Fr.ext F18)) sI).now.part (n:=3) rfl)) ?_
  refine o_inl (vs:=[.agg (cArena d0 A1 c2 A4 c5).toArray]) (caps:=[]) cf_arena_each rfl rfl rfl rfl ?_
  refine calls_ec Tryz.func47 rfl rfl rfl ?_
  refine ec_sr ?_
  refine o_box (cs:=(cArena d0 A1 c2 A4 c5)) rfl rfl rfl ?_
  intro b29 w29 e29 F29 B29
  have S29:=B29.stb (nin ((hL.fr E23).cons B18.lt) e29)
  have E30:=E23.trans F29
  have G31:=(((G8.trans (Fr.ext F9)).trans (Fr.ext F13)).trans (Fr.ext F18)).trans (Fr.ext F29)
  refine o_w (v:=.nilFunc) (r_asg rfl) ?_
  refine eo_r ?_
  refine o_w (r_mkfn' (vs:=[.pointer (some ⟨b29,0,none⟩)]) rfl) ?_
  refine o_w (v:=.func (.func 78) #[] #[.pointer (some ⟨b29,0,none⟩)]) (r_asg rfl) ?_
  refine eo_nil_sq ?_
  refine ec_ret ?_
  refine end1 (v:=.func (.func 78) #[] #[.pointer (some ⟨b29,0,none⟩)]) rfl ⟨_,rfl,?_⟩
  refine eo_nil_sq ?_
  refine ec_block ?_
  obtain ⟨ha37,h⟩:=h
  refine ec_range (ps:=[14,15]) (gf:=78) (lb:=[.pointer (some ⟨b29,0,none⟩)]) rfl cf_arena_each_1 ?_
  intro D36 l36 rec36 w36 eD36 e36 hr36 F36 BD36 BL36
  have n36:w.heap.size≤D36:=by rw [eD36]; exact E30.size
  have nl36:w.heap.size≤l36:=by omega
  have nd36:D36<l36:=by omega
  have q38:b18<D36:=by rw [eD36]; exact (B18.ex F29).lt
  have m39:w.heap.size≤D36:=by rw [eD36]; exact G31.size
  have m40:w.heap.size≤l36:=by omega
  have m43:w9.heap.size≤D36:=by rw [eD36]; exact ((G17.trans (Fr.ext F18)).trans (Fr.ext F29)).size
  have m44:w9.heap.size≤l36:=by omega
  have m45:w13.heap.size≤D36:=by rw [eD36]; exact (G27.trans (Fr.ext F29)).size
  have m46:w13.heap.size≤l36:=by omega
  have m47:w29.heap.size≤D36:=Nat.le_of_eq eD36.symm
  have m48:w29.heap.size≤l36:=by omega
  have E49:=E30.trans F36
  have G54:Fr (b18::L) w29 w36:=Fr.ext F36
  have lo56:w.heap.size≤w36.heap.size:=E49.size
  have O56:=OwnS.nil (k:=kEnt) (e:=45) (by decide) ((((hL.fr E49).cons ((B18.ex F29).ex F36).lt).cons BD36.lt).cons BL36.lt)
  obtain ⟨x36,hl36,h⟩:=h
  refine range_run (S:=List Ent) (R:=List Ent) (arena_each_it d0 (S29.up G54 sI (upo (fun m hm=>by cases hm) (upc (.inr m48) (upc (.inr m47) (upc (.inl mH) (fun m hm=>Or.inl (mT hm))))))) (kArena_mk (d:=d0) (H3.up (G31.trans (Fr.ext F36)) sI (upo (fun m hm=>by cases hm) (upc (.inr m40) (upc (.inr m39) (upc (.inr m19) (fun _ h=>.inl h)))))) (H6.up (G31.trans (Fr.ext F36)) sI (upo (fun m hm=>by cases hm) (upc (.inr m40) (upc (.inr m39) (upc (.inr m19) (fun _ h=>.inl h))))))) (((((hL.fr E49).cons ((B18.ex F29).ex F36).lt).cons BD36.lt).cons BL36.lt).own O56) ha37) (fun (s36:List Ent) T w'=>∃ (v36i1:Value),T=(own v36i1++(l36::(D36::(b18::L))))∧Fr (own (.slice none 0 0)++(l36::(D36::(b18::L)))) w36 w'∧Ext w w'∧OwnS kEnt (w36.heap.size) 45 (l36::(D36::(b18::L))) w' v36i1 s36∧(∀ q∈own v36i1,q∈(own (.slice none 0 0)++(l36::(D36::(b18::L))))∨w36.heap.size≤q)∧Blk w' b18 22 [v36i1]∧Lp w' D36 (.deferred (some []))∧Lp w' l36 (.loop (rec36 .ready none))) (fun (s36:List Ent) w'=>∃ (v36i1:Value),Fr (own (.slice none 0 0)++(l36::(D36::(b18::L)))) w36 w'∧Ext w w'∧OwnS kEnt (w36.heap.size) 45 (l36::(D36::(b18::L))) w' v36i1 s36∧(∀ q∈own v36i1,q∈(own (.slice none 0 0)++(l36::(D36::(b18::L))))∨w36.heap.size≤q)∧Blk w' b18 22 [v36i1]∧Lp w' D36 (.deferred (some []))∧Lp w' l36 (.loop (rec36 .done (some .ret)))) hl36 ((own (.slice none 0 0)++(l36::(D36::(b18::L))))) sI (fun _ h=>by cases h) ⟨(.slice none 0 0),rfl,(Fr.refl _ _),E49,O56,(fun q hq=>.inl (by first | exact List.mem_append_left _ hq | simp [hq])),((B18.ex F29).ex F36),BD36,BL36⟩ (fun _ _ w' w'' h f=>by obtain ⟨v36i1,rfl,F,E,O36i1,N36i1,B36ib18,B36iD36,B36il36⟩:=h; exact ⟨v36i1,rfl,F.trans (Fr.ext f),E.trans f,O36i1.ex f,N36i1,B36ib18.ex f,B36iD36.ex f,B36il36.ex f⟩) (fun _ w' w'' h f=>by obtain ⟨v36i1,F,E,O36i1,N36i1,B36ib18,B36iD36,B36il36⟩:=h; exact ⟨v36i1,F.trans (Fr.ext f),E.trans f,O36i1.ex f,N36i1,B36ib18.ex f,B36iD36.ex f,B36il36.ex f⟩) (fun _ _ w' h=>by obtain ⟨v36i1,rfl,F,E,O36i1,N36i1,B36ib18,B36iD36,B36il36⟩:=h; exact (((((hL.fr E).cons B36ib18.lt).cons B36iD36.lt).cons B36il36.lt).own O36i1)) ?_ ?_ ?_
  ·intro s36 y36 z36 T36 w36r vs36 hI36 hX36 hb36
   obtain ⟨v36r1,rfl,F36r,E36r,O36r1,N36r1,B36rb18,B36rD36,B36rl36⟩:=hI36
   have h:=hb36
   unfold arena_Chunk_b36 at h
   have G59:Fr L w9 w36r:=(((G17.trans (Fr.ext F18)).trans (Fr.ext F29)).trans (Fr.ext F36)).stp F36r (upo (fun m hm=>by cases hm) (upc (.inr m44) (upc (.inr m43) (upc (.inr m21) (fun _ h=>.inl h)))))
   have G60:Fr L w13 w36r:=((G27.trans (Fr.ext F29)).trans (Fr.ext F36)).stp F36r (upo (fun m hm=>by cases hm) (upc (.inr m46) (upc (.inr m45) (upc (.inr m22) (fun _ h=>.inl h)))))
   obtain ⟨cs68,rfl,HX67⟩:=hX36
   obtain ⟨A69,c70,A72,c73,rfl,H71,H74⟩:=kEnt_open HX67
   refine range_round (ps:=[14,15]) hr36 B36rl36 rfl rfl ?_
   refine ec_sr ?_
   refine o_w (v:=.int .i64 y36.1) (r_asg rfl) ?_
   refine eo_q ?_
   refine o_alloc zero_api_Entry rfl rfl rfl ?_
   intro b75 w75 e75 F75 B75
   have n75:w.heap.size≤b75:=by rw [e75]; exact E36r.size
   have q76:b18<b75:=by rw [e75]; exact B36rb18.lt
   have q77:l36<b75:=by rw [e75]; exact B36rl36.lt
   have q78:D36<b75:=by rw [e75]; exact B36rD36.lt
   have m81:w9.heap.size≤b75:=by rw [e75]; exact G59.size
   have m82:w13.heap.size≤b75:=by rw [e75]; exact G60.size
   have m84:w36.heap.size≤b75:=by rw [e75]; exact F36r.size
   have m85:w36r.heap.size≤b75:=Nat.le_of_eq e75.symm
   have m86:w36r.heap.size≤b75:=Nat.le_of_eq e75.symm
   have Ob87:=O36r1.born F75 (Nat.le_of_eq e75.symm) B75.lt
   have E88:=E36r.trans F75
   have G95:Fr (own v36r1++(l36::(D36::(b18::L)))) w36r w75:=Fr.ext F75
   have G96:Fr (own v36r1++(l36::(D36::(b18::L)))) w36r w75:=Fr.ext F75
   refine o_store rfl B75 (vs:=(cEnt y36.2 A69 c70 A72 c73)) rfl sz_api_Entry rfl rfl rfl ?_
   intro w101 F101 B101
   have E102:=Ext.st E88 F101 (by simp; omega)
   have G105:Fr L w9 w101:=(G59.trans (Fr.ext F75)).stp F101 (upc (.inr m81) (fun m hm=>by cases hm))
   have G106:Fr L w13 w101:=(G60.trans (Fr.ext F75)).stp F101 (upc (.inr m82) (fun m hm=>by cases hm))
   have G108:Fr (own (.slice none 0 0)++(l36::(D36::(b18::L)))) w36 w101:=(F36r.trans (Fr.ext F75)).stp F101 (upc (.inr m84) (fun m hm=>by cases hm))
   have G109:Fr (own v36r1++(l36::(D36::(b18::L)))) w36r w101:=G95.stp F101 (upc (.inr m85) (fun m hm=>by cases hm))
   have G110:Fr (own v36r1++(l36::(D36::(b18::L)))) w36r w101:=G96.stp F101 (upc (.inr m86) (fun m hm=>by cases hm))
   have B111:=(B36rb18.ex F75).fr F101 (by simp; omega)
   have B112:=(B36rl36.ex F75).fr F101 (by simp; omega)
   have B113:=(B36rD36.ex F75).fr F101 (by simp; omega)
   have O114:=Ob87.fr F101 (by simp)
   have B101':Blk w101 b75 _ (cEnt y36.2 A69 c70 A72 c73):=B101
   refine eo_nil ?_
   refine ⟨rfl,rfl,B112,fun w115 F116 BL117=>?_⟩
   have E118:=Ext.st E102 F116 (by simp; omega)
   have G121:Fr L w9 w115:=G105.stp F116 (upc (.inr m44) (fun m hm=>by cases hm))
   have G122:Fr L w13 w115:=G106.stp F116 (upc (.inr m46) (fun m hm=>by cases hm))
   have G124:Fr (own (.slice none 0 0)++(l36::(D36::(b18::L)))) w36 w115:=G108.stp F116 (upc (.inl (List.mem_append_right _ mH)) (fun m hm=>by cases hm))
   have G125:Fr (own v36r1++(l36::(D36::(b18::L)))) w36r w115:=G109.stp F116 (upc (.inl (List.mem_append_right _ mH)) (fun m hm=>by cases hm))
   have G126:Fr (own v36r1++(l36::(D36::(b18::L)))) w36r w115:=G110.stp F116 (upc (.inl (List.mem_append_right _ mH)) (fun m hm=>by cases hm))
   have B127:=B111.fr F116 (by simp; omega)
   have B128:=B113.fr F116 (by simp; omega)
   have B129:=B101'.fr F116 (by simp; omega)
   have O130:=O114.fr F116 (by simp)
   refine ec_block ?_
   refine ec_sr ?_
   refine o_w (v:=.int .i64 y36.1) (r_mov rfl) ?_
   refine o_w (v:=.int .i64 d1) (r_ld one_int rfl ((S9.fr G121 sI).now.cell rfl)) ?_
   refine o_w (v:=.bool (decide (d1≤y36.1))) (r_int rfl rfl rfl) ?_
   refine o_w (v:=.bool (decide (d1≤y36.1))) (r_mov rfl) ?_
   refine o_vg (v:=.int .i64 y36.1) (want_ct (t:=19) rfl rfl) (fun hk=>(r_mov rfl)) rfl rfl ?_
   refine o_vg (v:=.int .i64 d1) (want_ct (t:=19) rfl rfl) (fun hk=>(r_ld one_int rfl ((S9.fr G121 sI).now.cell rfl))) rfl rfl ?_
   refine o_vg (v:=.int .i64 (IntKind.i64.wrap (y36.1 - d1))) (want_ct (t:=19) rfl rfl) (fun hk=>(r_int (gdT hk) (gdT hk) rfl)) rfl rfl ?_
   refine o_vg (v:=.int .i64 d2) (want_ct (t:=19) rfl rfl) (fun hk=>(r_ld one_int rfl ((S13.fr G122 sI).now.cell rfl))) rfl rfl ?_
   refine o_vg (v:=.bool (decide ((IntKind.i64.wrap (y36.1 - d1))<d2))) (want_ct (t:=19) rfl rfl) (fun hk=>(r_int (gdT hk) (gdT hk) rfl)) rfl rfl ?_
   refine o_w (v:=.bool ((decide (d1≤y36.1))&&(decide ((IntKind.i64.wrap (y36.1 - d1))<d2)))) (r_pickAnd rfl (fun ht=>(gdT ht)) rfl) ?_
   refine eo_nil_sq ?_
   refine ec_cond rfl (fun hc131=>?_) (fun hc131=>?_)
   ·replace h:=h.1 hc131
    refine ec_region ?_
    refine o_w (v:=v36r1) (r_ld one_s_api_Entry rfl (B127.cell rfl)) ?_
    refine o_w (v:=.agg (cEnt y36.2 A69 c70 A72 c73).toArray) (r_lda agg_api_Entry rfl (vs:=(cEnt y36.2 A69 c70 A72 c73)) rfl (B129.part (n:=9) rfl)) ?_
    refine o_bslice slc_s_api_Entry rfl (vs:=[.agg (cEnt y36.2 A69 c70 A72 c73).toArray]) rfl rfl rfl (cs:=[str y36.2.key,.int .i64 y36.2.val.kind,.int .i64 y36.2.val.time,.int .i64 y36.2.val.node,.bool y36.2.val.dead,str y36.2.val.text,.slice A69 y36.2.val.plus.length c70,.slice A72 y36.2.val.minus.length c73,.int .u64 y36.2.val.flags]) rfl rfl rfl rfl ?_
    intro b132 w132 e132 F132 B132
    have N132:=nin ((((((hL.fr E118).cons B127.lt).cons B128.lt).cons BL117.lt).own O130).cons B129.lt) e132
    have S132:=B132.stb N132
    have E133:=E118.trans F132
    obtain ⟨ha148,h⟩:=h
    refine o_app slc_s_api_Entry rfl rfl rfl (O130.ex F132) rfl S132.now (ys:=([y36.2]:List Ent)) rfl rfl rfl (rowd1 (cs:=(cEnt y36.2 A69 c70 A72 c73)) (kEnt_mk (d:=y36.2) (H71.up (G126.trans (Fr.ext F132)) sI (upo (fun m hm=>Or.inl (List.mem_append_left _ hm)) (upc (.inr m86) (upc (.inl (List.mem_append_right _ mH)) (upc (.inl (List.mem_append_right _ (mT mH))) (upc (.inl (List.mem_append_right _ (mT (mT mH)))) (fun m hm=>Or.inl (List.mem_append_right _ (mT (mT (mT hm))))))))))) (H74.up (G126.trans (Fr.ext F132)) sI (upo (fun m hm=>Or.inl (List.mem_append_left _ hm)) (upc (.inr m86) (upc (.inl (List.mem_append_right _ mH)) (upc (.inl (List.mem_append_right _ (mT mH))) (upc (.inl (List.mem_append_right _ (mT (mT mH)))) (fun m hm=>Or.inl (List.mem_append_right _ (mT (mT (mT hm)))))))))))) rfl) ha148 rfl rfl ?_
    intro v147 w147 F147 O147 N147
    have P154:∀ m∈own v147,m∈(own (.slice none 0 0)++(l36::(D36::(b18::L))))∨w36.heap.size≤m:=fun m hm=>(N147 m hm).elim (fun h=>(show ∀ m∈own v36r1,m∈(own (.slice none 0 0)++(l36::(D36::(b18::L))))∨w36.heap.size≤m from N36r1) m h) (fun h=>.inr (Nat.le_trans ((G124.trans (Fr.ext F132)).size) h))
    have P155:∀ m∈own v147,m∈(own v36r1++(l36::(D36::(b18::L))))∨w36r.heap.size≤m:=fun m hm=>(N147 m hm).elim (fun h=>(show ∀ m∈own v36r1,m∈(own v36r1++(l36::(D36::(b18::L))))∨w36r.heap.size≤m from (fun m hm=>.inl (List.mem_append_left _ hm))) m h) (fun h=>.inr (Nat.le_trans ((G125.trans (Fr.ext F132)).size) h))
    have E158:=Ext.st E133 F147 (fun m hm=>Nat.le_trans lo56 ((O130.ex F132).lo m hm))
    have G164:Fr (own (.slice none 0 0)++(l36::(D36::(b18::L)))) w36 w147:=(G124.trans (Fr.ext F132)).stp F147 N36r1
    have G165:Fr (own v36r1++(l36::(D36::(b18::L)))) w36r w147:=(G125.trans (Fr.ext F132)).stp F147 (fun m hm=>.inl (List.mem_append_left _ hm))
    have B168:=(B127.ex F132).fr F147 (fun hm=>((O130.ex F132).below b18 (by simp)).2 hm)
    have B169:=(BL117.ex F132).fr F147 (fun hm=>((O130.ex F132).below l36 (by simp)).2 hm)
    have B170:=(B128.ex F132).fr F147 (fun hm=>((O130.ex F132).below D36 (by simp)).2 hm)
    obtain ⟨A172,c173,rfl⟩:=O147.shape
    refine o_store rfl B168 (vs:=[(.slice A172 (s36++([y36.2]:List Ent)).length c173)]) rfl sz_s_api_Entry rfl rfl rfl ?_
    intro w174 F174 B174
    have E175:=Ext.st E158 F174 (by simp; omega)
    have G181:Fr (own (.slice none 0 0)++(l36::(D36::(b18::L)))) w36 w174:=G164.stp F174 (upc (.inl (List.mem_append_right _ (mT (mT mH)))) (fun m hm=>by cases hm))
    have G182:Fr (own v36r1++(l36::(D36::(b18::L)))) w36r w174:=G165.stp F174 (upc (.inl (List.mem_append_right _ (mT (mT mH)))) (fun m hm=>by cases hm))
    have B185:=B169.fr F174 (by simp; omega)
    have B186:=B170.fr F174 (by simp; omega)
    have O188:=O147.fr F174 (by simp)
    have B174':Blk w174 b18 _ [(.slice A172 (s36++([y36.2]:List Ent)).length c173)]:=B174
    refine eo_nil ?_
    refine blk_n ?_
    subst h
    refine ⟨none,rfl,B185,fun w189 F190 BL191=>?_⟩
    have E192:=Ext.st E175 F190 (by simp; omega)
    have G198:Fr (own (.slice none 0 0)++(l36::(D36::(b18::L)))) w36 w189:=G181.stp F190 (upc (.inl (List.mem_append_right _ mH)) (fun m hm=>by cases hm))
    have G199:Fr (own v36r1++(l36::(D36::(b18::L)))) w36r w189:=G182.stp F190 (upc (.inl (List.mem_append_right _ mH)) (fun m hm=>by cases hm))
    have B202:=B174'.fr F190 (by simp; omega)
    have B203:=B186.fr F190 (by simp; omega)
    have O205:=O188.fr F190 (by simp)
    exact ⟨rfl,_,⟨(.slice A172 (s36++([y36.2]:List Ent)).length c173),rfl,G198,E192,(O205.weak (fun m hm=>by simp at hm ⊢; first | exact hm | exact .inr hm | simp [hm] | (rcases hm with h | h <;> simp [h]) | simp_all)),P154,B202,B203,BL191⟩,G199,(upo P155 (upc (.inl (List.mem_append_right _ mH)) (upc (.inl (List.mem_append_right _ (mT mH))) (upc (.inl (List.mem_append_right _ (mT (mT mH)))) (fun m hm=>Or.inl (List.mem_append_right _ (mT (mT (mT hm)))))))))⟩
   ·replace h:=h.2 hc131
    refine ec_skip ?_
    refine blk_n ?_
    subst h
    refine ⟨none,rfl,BL117,fun w206 F207 BL208=>?_⟩
    have E209:=Ext.st E118 F207 (by simp; omega)
    have G215:Fr (own (.slice none 0 0)++(l36::(D36::(b18::L)))) w36 w206:=G124.stp F207 (upc (.inl (List.mem_append_right _ mH)) (fun m hm=>by cases hm))
    have G216:Fr (own v36r1++(l36::(D36::(b18::L)))) w36r w206:=G125.stp F207 (upc (.inl (List.mem_append_right _ mH)) (fun m hm=>by cases hm))
    have B218:=B127.fr F207 (by simp; omega)
    have B219:=B128.fr F207 (by simp; omega)
    have O221:=O130.fr F207 (by simp)
    exact ⟨rfl,_,⟨v36r1,rfl,G215,E209,(O221.weak (fun m hm=>by simp at hm ⊢; first | exact hm | exact .inr hm | simp [hm] | (rcases hm with h | h <;> simp [h]) | simp_all)),N36r1,B218,B219,BL208⟩,G216,(upo (fun m hm=>Or.inl (List.mem_append_left _ hm)) (upc (.inl (List.mem_append_right _ mH)) (upc (.inl (List.mem_append_right _ (mT mH))) (upc (.inl (List.mem_append_right _ (mT (mT mH)))) (fun m hm=>Or.inl (List.mem_append_right _ (mT (mT (mT hm)))))))))⟩
  ·rintro sx36 rfl T36 w36e v36 hI36
   replace h:=h.1 _ rfl
   obtain ⟨v36e1,rfl,F36e,E36e,O36e1,N36e1,B36eb18,B36eD36,B36el36⟩:=hI36
   refine ⟨⟨_,rfl⟩,none,B36el36,fun w232 F233=>?_⟩
   have E234:=Ext.st E36e F233 (by simp; omega)
   have B240:=B36eb18.fr F233 (by simp; omega)
   have B241:=B36eD36.fr F233 (by simp; omega)
   have O242:=O36e1.fr F233 (by simp)
   refine blk_n ?_
   refine sq_n ?_
   refine ec_sr ?_
   refine o_w (v:=v36e1) (r_ld one_s_api_Entry rfl (B240.cell rfl)) ?_
   refine o_w (v:=v36e1) (r_asg rfl) ?_
   refine eo_nil_sq ?_
   refine ec_ret ?_
   refine marksS B241 (fun w243 F243=>?_)
   have E244:=Ext.st E234 F243 (by simp; omega)
   have O251:=O242.fr F243 (by simp)
   obtain ⟨A252,c253,eA252,H254⟩:=O251.still
   subst eA252
   have Zw243_255:=Fr.refl (l36::(D36::(b18::L))) w243
   replace h:=h.symm
   subst h
   exact marks0 ((end1 rfl ⟨_,rfl,E244,_,_,rfl,(H254.up Zw243_255 sI (fun m hm=>Or.inl (mT (mT (mT hm)))))⟩))
  ·rintro yx36 rfl; exact (h.2 _ rfl).elim

def isN (k:Int) (key:Str) (e:Ent):Bool:=e.val.kind==k&&e.key==key
def findL (l:List Ent) (k:Int) (key:Str):Int:=bif decide (l.findIdx (isN k key)<l.length) then ((l.findIdx (isN k key):Nat):Int) else -1
def findA (a:Arena) (k:Int) (key:Str):Int:=bif arOk a then findL a.slots k key else -1
def allA (a:Arena):List Ent:=bif arOk a then a.idx.map (nth a.slots) else []
def chunkA (a:Arena) (at_ n:Int):List Ent:=bif arOk a&&decide (0≤at_) then (a.slots.drop at_.toNat).take n.toNat else []
theorem findL_none {l:List Ent} {k:Int} {key:Str} (h:∀ i,i<l.length→isN k key (l.getD i default)=false):findL l k key=-1:=by
 have:l.findIdx (isN k key)=l.length:=by
  rw [List.findIdx_eq_length]
  intro e he
  obtain ⟨i,hi,rfl⟩:=List.getElem_of_mem he
  have:=h i hi; simpa [hi] using this
 unfold findL; rw [this]; simp
theorem findL_some {l:List Ent} {k:Int} {key:Str} {i:Nat} (hi:i<l.length) (h:isN k key (l.getD i default)=true) (hb:∀ j,j<i→isN k key (l.getD j default)=false):findL l k key=(i:Int):=by
 have:l.findIdx (isN k key)=i:=by
  rw [List.findIdx_eq hi]
  refine ⟨by simpa [hi] using h,fun j hj=>?_⟩
  have:=hb j hj; simpa [show j<l.length by omega] using this
 unfold findL; rw [this]; simp [hi]
/-! ### loops over the slots -/
theorem itr_scan {S R:Type} {body:S→Int × Ent→S ⊕ R→Prop} (s:S) (l:List Ent) (q:Nat→Bool) (r:Nat→R) (hn:∀ i,i<l.length→q i=false→body s ((i:Int),l.getD i default) (.inl s))
  (hy:∀ i,i<l.length→q i=true→body s ((i:Int),l.getD i default) (.inr (r i))) :
  ∃ x,ItR body s (eachL l) x∧((x=.inl s∧∀ i,i<l.length→q i=false)∨∃ i,i<l.length∧q i=true∧(∀ j,j<i→q j=false)∧x=.inr (r i)):=by
 have key:∀ d i:Nat,i + d=l.length→(∀ j,j<i→q j=false)→∃ x,ItR body s ((eachL l).drop i) x∧((x=.inl s∧∀ i,i<l.length→q i=false)∨∃ i,i<l.length∧q i=true∧(∀ j,j<i→q j=false)∧x=.inr (r i)):=by
  intro d
  induction d with
  | zero =>
   intro i hi hq
   obtain rfl:i=l.length:=by omega
   refine ⟨.inl s,?_,.inl ⟨rfl,hq⟩⟩
   rw [List.drop_eq_nil_of_le (by rw [eachL_length]; exact Nat.le_refl _)]
   exact .nil
  | succ d ih =>
   intro i hi hq
   rw [eachL_drop (by omega)]
   cases hqi:q i with
   | true=>exact ⟨_,.stop (hy i (by omega) hqi),.inr ⟨i,by omega,hqi,hq,rfl⟩⟩
   | false =>
    obtain ⟨x,hx,hc⟩:=ih (i + 1) (by omega) (fun j hj=>by
     by_cases e:j=i
     ·subst e; exact hqi
     ·exact hq j (by omega))
    exact ⟨x,.step (hn i (by omega) hqi) hx,hc⟩
 obtain ⟨x,hx,hc⟩:=key l.length 0 (by omega) (fun j hj=>by omega)
 exact ⟨x,by simpa using hx,hc⟩
theorem itr_fold {S R:Type} {body:S→Int × Ent→S ⊕ R→Prop} (l:List Ent) (st:Nat→S) (h:∀ i,i<l.length→body (st i) ((i:Int),l.getD i default) (.inl (st (i + 1)))):ItR body (st 0) (eachL l) (.inl (st l.length)):=by
 have key:∀ d i:Nat,i + d=l.length→ItR body (st i) ((eachL l).drop i) (.inl (st l.length)):=by
  intro d
  induction d with
  | zero =>
   intro i hi
   obtain rfl:i=l.length:=by omega
   rw [List.drop_eq_nil_of_le (by rw [eachL_length]; exact Nat.le_refl _)]
   exact .nil
  | succ d ih=>intro i hi; rw [eachL_drop (by omega)]; exact .step (h i (by omega)) (ih (i + 1) (by omega))
 simpa using key l.length 0 (by omega)
theorem eachA_ok {a:Arena} (h:arOk a=true):eachA a=eachL a.slots:=by unfold eachA; rw [h]; rfl
theorem eachA_no {a:Arena} (h:arOk a=false):eachA a=[]:=by unfold eachA; rw [h]; rfl
theorem arFind_ev (a:Arena) (k:Int) (key:Str) (h:sma a):arena_Find_raw a k key (findA a k key):=by
 refine ⟨h,?_⟩
 cases ho:arOk a with
 | false =>
  refine ⟨.inl 0,by rw [eachA_no ho]; exact .nil,fun _ _=>?_,fun _ e=>by cases e⟩
  unfold findA; rw [ho]; rfl
 | true =>
  have e0:findA a k key=findL a.slots k key:=by unfold findA; rw [ho]; rfl
  rw [e0,eachA_ok ho]
  obtain ⟨x,hx,hc⟩:=itr_scan (body:=arena_Find_b35 k key) (0:Int) a.slots (fun i=>isN k key (a.slots.getD i default)) (fun i=>(i:Int))
   (fun i hi hq=>⟨fun c=>(by unfold isN at hq; simp only [hq] at c; cases c),fun _=>rfl⟩)
   (fun i hi hq=>⟨fun _=>rfl,fun c=>(by unfold isN at hq; simp only [hq] at c; cases c)⟩)
  refine ⟨x,hx,fun s e=>?_,fun y e=>?_⟩
  ·rcases hc with ⟨_,h3⟩ | ⟨i,_,_,_,h6⟩
   ·exact findL_none h3
   ·rw [e] at h6; cases h6
  ·rcases hc with ⟨h3,_⟩ | ⟨i,hi,h4,h5,h6⟩
   ·rw [e] at h3; cases h3
   ·rw [e] at h6; cases h6; exact findL_some hi h4 h5
theorem ok_small {a:Arena} (ho:arOk a=true):a.slots.length≤8∧a.idx.length≤8:=by
 obtain ⟨⟨h1,h2,h3⟩,_,_,h4⟩:=arOk_iff.1 ho
 have h5:a.slots.length≤8:=by omega
 refine ⟨h5,?_⟩
 rw [h4,(idxR_perm _).length_eq,idR_length]; exact h5
theorem arChunk_ev (a:Arena) (t n:Int) (h:sma a):arena_Chunk_raw a t n (chunkA a t n):=by
 have h2:=h.2.1
 refine ⟨fun c=>?_,fun c=>⟨h,?_⟩⟩
 ·have:decide (0≤t)=false:=by simp at c ⊢; omega
  unfold chunkA; rw [this]; simp
 ·simp only [decide_eq_false_iff_not] at c
  obtain ⟨m,rfl⟩:=Int.eq_ofNat_of_zero_le (show 0≤t by omega)
  cases ho:arOk a with
  | false =>
   refine ⟨.inl [],by rw [eachA_no ho]; exact .nil,fun s e=>?_,fun _ e=>by cases e⟩
   cases e; unfold chunkA; rw [ho]; rfl
  | true =>
   have h2:=(ok_small ho).1
   have e0:chunkA a (m:Int) n=(a.slots.drop m).take n.toNat:=by unfold chunkA; rw [ho]; simp
   rw [e0,eachA_ok ho]
   have hf:=itr_fold (body:=arena_Chunk_b36 (m:Int) n) a.slots (fun i=>((a.slots.take i).drop m).take n.toNat) (fun i hi=>?_)
   ·refine ⟨_,by simpa using hf,fun s e=>?_,fun _ e=>by cases e⟩
    cases e; rfl
   ·have hlen:(((a.slots.take i).drop m).take n.toNat).length=min n.toNat (i - m):=by simp; omega
    by_cases hmi:m≤i
    ·have e1:IntKind.i64.wrap ((i:Int) - (m:Int))=((i - m:Nat):Int):=by rw [wrap64 (by omega) (by omega)]; omega
     have e3:(a.slots.take (i + 1)).drop m=(a.slots.take i).drop m++[a.slots.getD i default]:=by
      rw [List.take_add_one,List.drop_append_of_le_length (by simp; omega)]; simp [hi]
     have hle:((a.slots.take i).drop m).length=i - m:=by simp; omega
     by_cases hn:((i - m:Nat):Int)<n
     ·refine ⟨fun _=>⟨by rw [hlen]; omega,?_⟩,fun c=>?_⟩
      ·congr 1
       show ((a.slots.take (i + 1)).drop m).take n.toNat=((a.slots.take i).drop m).take n.toNat++[a.slots.getD i default]
       rw [e3,List.take_of_length_le (l:=(a.slots.take i).drop m++[a.slots.getD i default]) (by rw [List.length_append,hle,List.length_singleton]; omega),List.take_of_length_le (l:=(a.slots.take i).drop m) (by rw [hle]; omega)]
      ·exfalso
       simp only [e1] at c
       simp at c; omega
     ·refine ⟨fun c=>?_,fun _=>?_⟩
      ·exfalso
       simp only [e1,Bool.and_eq_true,decide_eq_true_eq] at c
       exact hn c.2
      ·congr 1
       show ((a.slots.take (i + 1)).drop m).take n.toNat=((a.slots.take i).drop m).take n.toNat
       rw [e3,List.take_append_of_le_length (by omega)]
    ·have e3:((a.slots.take (i + 1)).drop m)=[]:=List.drop_eq_nil_of_le (by simp; omega)
     have e4:((a.slots.take i).drop m)=[]:=List.drop_eq_nil_of_le (by simp; omega)
     refine ⟨fun c=>?_,fun _=>by simp only [e3,e4]⟩
     exfalso
     simp only [Bool.and_eq_true,decide_eq_true_eq] at c
     omega
end Go.Proofs.YthbfhgenkhkpfaaGreat