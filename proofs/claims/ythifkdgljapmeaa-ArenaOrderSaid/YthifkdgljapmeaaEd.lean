/- Arenas: what may be. -/
import Derived.Test.YthifkdgljapmeaaEt
namespace Go.Proofs.Ythifkdgljapmeaa
open Go Go.RowKit
set_option linter.unusedVariables false
set_option linter.unusedSimpArgs false
def arena_Check_b24 (d0:Arena) (x17:(List Int)) (s24:Int) (z24:(Int) ⊕ ((Int) ⊕ (Int))):Prop :=
 ((decide (s24<(x17.length:Int)))=true→((0≤(IntKind.i64.wrap (s24 - (1:Int)))∧(IntKind.i64.wrap (s24 - (1:Int)))<(x17.length:Int))∧((0≤(nth x17 (IntKind.i64.wrap (s24 - (1:Int))))∧(nth x17 (IntKind.i64.wrap (s24 - (1:Int))))<(d0.slots.length:Int))∧((0≤s24∧s24<(x17.length:Int))∧((0≤(nth x17 s24)∧(nth x17 s24)<(d0.slots.length:Int))∧(∃ x90,x90=(lessE (nth d0.slots (nth x17 (IntKind.i64.wrap (s24 - (1:Int))))) (nth d0.slots (nth x17 s24)))∧(((!x90)=true→(z24=.inr (.inr (2:Int))))∧((!x90)=false→(z24=.inl (IntKind.i64.wrap (s24 + (1:Int))))))))))))∧((decide (s24<(x17.length:Int)))=false→(z24=.inr (.inl s24)))
def arena_Check_raw (d0:Arena) (y:Int):Prop :=
 ((!(((decide (d0.cap<1))||(decide (8<d0.cap)))||(decide (d0.cap<(d0.slots.length:Int)))))=true→sml d0.slots)∧(((!(((decide (d0.cap<1))||(decide (8<d0.cap)))||(decide (d0.cap<(d0.slots.length:Int)))))=true→d0.slots.length≤100)∧((((((decide (d0.cap<1))||(decide (8<d0.cap)))||(decide (d0.cap<(d0.slots.length:Int))))||(oddE d0.slots))=true→(y=(2:Int)))∧(((((decide (d0.cap<1))||(decide (8<d0.cap)))||(decide (d0.cap<(d0.slots.length:Int))))||(oddE d0.slots))=false→(∃ x17,arena_index_raw d0.slots x17∧(∃ x24,LoopR (arena_Check_b24 d0 x17) (1:Int) x24∧(∀ sx24,x24=.inl sx24→((x17.length≤9223372036854775807)∧(((!(eqInts x17 d0.idx))=true→(y=(2:Int)))∧((!(eqInts x17 d0.idx))=false→(y=(0:Int))))))∧(∀ y24,x24=.inr y24→(y=y24)))))))
set_option maxRecDepth 20000 in
set_option maxHeartbeats 4000000 in
theorem arena_Check_c {L:List Nat} {w:World} {csP0:List Value} (d0:Arena) (HP0:Stb L w (fun w=>kArena.r w csP0 d0)) (hL:Lt L w) {y:Int} (h:arena_Check_raw d0 y) :
  Calls Try.prog 24 [.agg csP0.toArray].toArray w (Ret fun v w'=>Ext w w'∧v=.int .i64 y):=by
 obtain ⟨A1,c2,A4,c5,rfl,H3,H6⟩:=kArena_open HP0
 unfold arena_Check_raw at h
 refine calls_ec Try.func24 rfl rfl rfl ?_
 refine ec_sr ?_
 refine o_box (cs:=(cArena d0 A1 c2 A4 c5)) rfl rfl rfl ?_
 intro b7 w7 e7 F7 B7
 have S7:=B7.stb (nin hL e7)
 have G8:Fr L w w7:=Fr.ext F7
 refine o_w (v:=.int .i64 0) (r_asg rfl) ?_
 refine eo_r ?_
 refine o_w (v:=.func (.func 45) #[] #[]) (r_asg rfl) ?_
 refine eo_nil_sq ?_
 refine ec_seq ?_
 refine ec_sr ?_
 refine o_w (v:=.pointer (some ⟨b7,0,none⟩)) (r_fa fld_api_Arena_0 rfl rfl) ?_
 refine o_w (v:=.int .i64 d0.cap) (r_ld one_int rfl (S7.now.cell rfl)) ?_
 refine o_w (v:=.bool (decide (d0.cap<1))) (r_int rfl rfl rfl) ?_
 refine o_w (v:=.bool (decide (d0.cap<1))) (r_mov rfl) ?_
 refine o_vg (v:=.pointer (some ⟨b7,0,none⟩)) (want_cf (t:=9) rfl rfl) (fun hk=>(r_fa fld_api_Arena_0 rfl rfl)) rfl rfl ?_
 refine o_vg (v:=.int .i64 d0.cap) (want_cf (t:=9) rfl rfl) (fun hk=>(r_ld one_int (gdT hk) (S7.now.cell rfl))) rfl rfl ?_
 refine o_vg (v:=.bool (decide (8<d0.cap))) (want_cf (t:=9) rfl rfl) (fun hk=>(r_int (gdT hk) rfl rfl)) rfl rfl ?_
 refine o_w (v:=.bool ((decide (d0.cap<1))||(decide (8<d0.cap)))) (r_pickOr rfl rfl (fun hf=>(gdT (notT hf)))) ?_
 refine o_w (v:=.bool ((decide (d0.cap<1))||(decide (8<d0.cap)))) (r_mov rfl) ?_
 refine o_vg (v:=.pointer (some ⟨b7,1,none⟩)) (want_cf (t:=14) rfl rfl) (fun hk=>(r_fa fld_api_Arena_1 rfl rfl)) rfl rfl ?_
 refine o_vg (v:=.slice A1 d0.slots.length c2) (want_cf (t:=14) rfl rfl) (fun hk=>(r_ld one_s_api_Entry (gdT hk) (S7.now.cell rfl))) rfl rfl ?_
 refine o_vg (v:=.int .i64 (d0.slots.length:Int)) (want_cf (t:=14) rfl rfl) (fun hk=>(r_len_slc un_s_api_Entry (gdT hk))) rfl rfl ?_
 refine o_vg (v:=.pointer (some ⟨b7,0,none⟩)) (want_cf (t:=14) rfl rfl) (fun hk=>(r_fa fld_api_Arena_0 rfl rfl)) rfl rfl ?_
 refine o_vg (v:=.int .i64 d0.cap) (want_cf (t:=14) rfl rfl) (fun hk=>(r_ld one_int (gdT hk) (S7.now.cell rfl))) rfl rfl ?_
 refine o_vg (v:=.bool (decide (d0.cap<(d0.slots.length:Int)))) (want_cf (t:=14) rfl rfl) (fun hk=>(r_int (gdT hk) (gdT hk) rfl)) rfl rfl ?_
 refine o_w (v:=.bool (((decide (d0.cap<1))||(decide (8<d0.cap)))||(decide (d0.cap<(d0.slots.length:Int))))) (r_pickOr rfl rfl (fun hf=>(gdT (notT hf)))) ?_
 refine o_w (v:=.bool (((decide (d0.cap<1))||(decide (8<d0.cap)))||(decide (d0.cap<(d0.slots.length:Int))))) (r_mov rfl) ?_
 refine o_vg (v:=.pointer (some ⟨b7,1,none⟩)) (want_cf (t:=22) rfl rfl) (fun hk=>(r_fa fld_api_Arena_1 rfl rfl)) rfl rfl ?_
 refine o_vg (v:=.slice A1 d0.slots.length c2) (want_cf (t:=22) rfl rfl) (fun hk=>(r_ld one_s_api_Entry (gdT hk) (S7.now.cell rfl))) rfl rfl ?_
 refine o_vg (v:=.func (.func 45) #[] #[]) (want_cf (t:=22) rfl rfl) (fun hk=>(r_mov rfl)) rfl rfl ?_
 obtain ⟨ha11,h⟩:=h
 obtain ⟨ha12,h⟩:=h
 refine o_callg (V:=.bool (oddE d0.slots)) cf_slices_ContainsFunc_Entry (want_cf (t:=22) rfl rfl) (fun hk=>(mapv2 (gdT hk) (gdT hk))) (fun hk=>(slices_ContainsFunc_Entry_Check_1_c d0.slots (H3.fr G8 sI) (hL.fr F7) (odd_ev d0.slots (ha11 hk) (ha12 hk)))) rfl ?_
 intro w10 F10
 have E13:=F7.trans F10
 have G15:Fr L w7 w10:=Fr.ext F10
 refine o_w (v:=.bool ((((decide (d0.cap<1))||(decide (8<d0.cap)))||(decide (d0.cap<(d0.slots.length:Int))))||(oddE d0.slots))) (r_pickOr rfl rfl (fun hf=>(gdT (notT hf)))) ?_
 refine eo_nil_sq ?_
 refine ec_cond rfl (fun hc16=>?_) (fun hc16=>?_)
 ·replace h:=h.1 hc16
  refine ec_sr ?_
  refine o_w (v:=.int .i64 2) (r_asg rfl) ?_
  refine eo_nil_sq ?_
  refine ec_ret ?_
  refine sq_ret ?_
  subst h
  exact (end1 rfl ⟨_,rfl,E13,rfl⟩)
 ·replace h:=h.2 hc16
  refine ec_skip ?_
  refine sq_n ?_
  refine ec_sr ?_
  refine o_w (v:=.pointer (some ⟨b7,1,none⟩)) (r_fa fld_api_Arena_1 rfl rfl) ?_
  refine o_w (v:=.slice A1 d0.slots.length c2) (r_ld one_s_api_Entry rfl ((S7.fr G15 sI).now.cell rfl)) ?_
  obtain ⟨x17,hx17,h⟩:=h
  refine o_call cf_arena_index rfl (arena_index_c d0.slots (H3.fr (G8.trans (Fr.ext F10)) sI) (hL.fr E13) hx17) rfl rfl ?_
  rintro _ w17 ⟨F17,A18,c19,rfl,H20⟩
  have E21:=E13.trans F17
  refine o_w (v:=.slice A18 x17.length c19) (r_asg rfl) ?_
  refine eo_nil_sq ?_
  refine ec_seq ?_
  refine ec_sr ?_
  refine o_w (v:=.int .i64 1) (r_asg rfl) ?_
  refine eo_nil_sq ?_
  refine ec_block ?_
  obtain ⟨x24,hl24,h⟩:=h
  refine ec_loopER 0 (I:=(fun (s24:Int) ρ ds w'=>∃ (ρ':Env),ρ=envs ρ' [(5,.int .i64 s24),(1,.pointer (some ⟨b7,0,none⟩)),(4,.slice A18 x17.length c19)]∧ds=[]∧Fr L w17 w'∧Ext w w')) (J:=(fun (y':Int) ρ ds wz=>bodyE Try.prog #[.tmp 2] (Ret fun v w'=>Ext w w'∧v=.int .i64 y') .ret ρ ds wz)) ?_ hl24 ?_ ?_ ?_
  ·intro s24 z24 ρ24 ds24 w24r hI24 hb24
   obtain ⟨ρ24r,rfl,rfl,F24r,E24r⟩:=hI24
   have h:=hb24
   unfold arena_Check_b24 at h
   have G25:Fr L w w24r:=((G8.trans (Fr.ext F10)).trans (Fr.ext F17)).stp F24r (fun _ h=>.inl h)
   have G26:Fr L w7 w24r:=(G15.trans (Fr.ext F17)).stp F24r (fun _ h=>.inl h)
   have G27:Fr L w17 w24r:=(Fr.refl _ _).stp F24r (fun _ h=>.inl h)
   refine ec_seq ?_
   refine ec_sr ?_
   refine o_w (v:=.int .i64 s24) (r_mov rfl) ?_
   refine o_w (v:=.slice A18 x17.length c19) (r_mov rfl) ?_
   refine o_w (v:=.int .i64 (x17.length:Int)) (r_len_slc un_s_int rfl) ?_
   refine o_w (v:=.bool (decide (s24<(x17.length:Int)))) (r_int rfl rfl rfl) ?_
   refine eo_nil_sq ?_
   refine ec_cond rfl (fun hc28=>?_) (fun hc28=>?_)
   ·replace h:=h.1 hc28
    refine ec_skip ?_
    refine sq_n ?_
    refine ec_seq ?_
    refine ec_block ?_
    refine ec_seq ?_
    obtain ⟨ha60,h⟩:=h
    obtain ⟨cs61,l63,H62⟩:=Stb.elem (by decide) (H20.fr G27 sI) (IntKind.i64.wrap (s24 - (1:Int))) ha60.1 ha60.2
    obtain ⟨rfl,H62'⟩:=kI_open2 H62
    obtain ⟨ha64,h⟩:=h
    obtain ⟨cs65,l67,H66⟩:=Stb.elem (by decide) (H3.fr G25 sI) (nth x17 (IntKind.i64.wrap (s24 - (1:Int)))) ha64.1 ha64.2
    obtain ⟨A69,c70,A72,c73,rfl,H68,H71,H74⟩:=kEnt_open2 H66
    obtain ⟨ha75,h⟩:=h
    obtain ⟨cs76,l78,H77⟩:=Stb.elem (by decide) (H20.fr G27 sI) s24 ha75.1 ha75.2
    obtain ⟨rfl,H77'⟩:=kI_open2 H77
    obtain ⟨ha79,h⟩:=h
    obtain ⟨cs80,l82,H81⟩:=Stb.elem (by decide) (H3.fr G25 sI) (nth x17 s24) ha79.1 ha79.2
    obtain ⟨A84,c85,A87,c88,rfl,H83,H86,H89⟩:=kEnt_open2 H81
    obtain ⟨x90,hx90,h⟩:=h
    refine ec_any0 (by kernel_rfl) [[],[0],[],[],[3],[2,3,4],[2,3,4,5],[0,1,2,3,4,5,6],[0,1,2,3,4,5,6,7],[],[9],[],[],[11,12],[11,12,13],[9,10,11,12,13,14],[9,10,11,12,13,14,15],[0,1,2,3,4,5,6,7,8,9,10,11,12,13,14,15,16],[0,1,2,3,4,5,6,7,8,9,10,11,12,13,14,15,16,17]] [37,38,39,40,41,42,43,44,45,46,47,48,49,50,51,52,53,54,55] [fun v _=>v=(.pointer (some ⟨b7,1,none⟩):Value),fun v _=>v=(.slice A1 d0.slots.length c2:Value),fun v _=>v=(.slice A18 x17.length c19:Value),fun v _=>v=(.int .i64 s24:Value),fun v _=>v=(.int .i64 (IntKind.i64.wrap (s24 - (1:Int))):Value),fun v _=>v=(.pointer (some (elemA A18 (kI .i64).n (IntKind.i64.wrap (s24 - (1:Int))).toNat)):Value),fun v _=>v=(.int .i64 (nth x17 (IntKind.i64.wrap (s24 - (1:Int)))):Value),fun v _=>v=(.pointer (some (elemA A1 kEnt.n (nth x17 (IntKind.i64.wrap (s24 - (1:Int)))).toNat)):Value),fun v _=>v=(.agg (cEnt (nth d0.slots (nth x17 (IntKind.i64.wrap (s24 - (1:Int))))) A69 c70 A72 c73).toArray:Value),fun v _=>v=(.pointer (some ⟨b7,1,none⟩):Value),fun v _=>v=(.slice A1 d0.slots.length c2:Value),fun v _=>v=(.slice A18 x17.length c19:Value),fun v _=>v=(.int .i64 s24:Value),fun v _=>v=(.pointer (some (elemA A18 (kI .i64).n s24.toNat)):Value),fun v _=>v=(.int .i64 (nth x17 s24):Value),fun v _=>v=(.pointer (some (elemA A1 kEnt.n (nth x17 s24).toNat)):Value),fun v _=>v=(.agg (cEnt (nth d0.slots (nth x17 s24)) A84 c85 A87 c88).toArray:Value),fun v _=>v=(.bool x90:Value),fun v _=>v=(.bool (!x90):Value)] (by kernel_rfl) ⟨fun _ _ _ _ _ h=>h,fun _ _ _ _ _ h=>h,fun _ _ _ _ _ h=>h,fun _ _ _ _ _ h=>h,fun _ _ _ _ _ h=>h,fun _ _ _ _ _ h=>h,fun _ _ _ _ _ h=>h,fun _ _ _ _ _ h=>h,fun _ _ _ _ _ h=>h,fun _ _ _ _ _ h=>h,fun _ _ _ _ _ h=>h,fun _ _ _ _ _ h=>h,fun _ _ _ _ _ h=>h,fun _ _ _ _ _ h=>h,fun _ _ _ _ _ h=>h,fun _ _ _ _ _ h=>h,fun _ _ _ _ _ h=>h,fun _ _ _ _ _ h=>h,fun _ _ _ _ _ h=>h,trivial⟩ ?_ ?_
    ·refine ⟨?_,?_,?_,?_,?_,?_,?_,?_,?_,?_,?_,?_,?_,?_,?_,?_,?_,?_,?_,trivial⟩
     ·intro ρ w59o F59o hS hρ
      have q1:ρ 1=.pointer (some ⟨b7,0,none⟩):=hρ 1 (by kernel_rfl)
      exact o_q (r_fa fld_api_Arena_1 rfl q1) ⟨Fr.refl _ _,rfl⟩
     ·intro ρ w59o F59o hS hρ
      have q37:ρ 37=.pointer (some ⟨b7,1,none⟩):=hS 0 (by decide) 37 rfl
      exact o_q (r_ld one_s_api_Entry q37 ((S7.fr (G26.trans (Fr.ext F59o)) sI).now.cell rfl)) ⟨Fr.refl _ _,rfl⟩
     ·intro ρ w59o F59o hS hρ
      have q4:ρ 4=.slice A18 x17.length c19:=hρ 4 (by kernel_rfl)
      exact o_q (r_mov q4) ⟨Fr.refl _ _,rfl⟩
     ·intro ρ w59o F59o hS hρ
      have q5:ρ 5=.int .i64 s24:=hρ 5 (by kernel_rfl)
      exact o_q (r_mov q5) ⟨Fr.refl _ _,rfl⟩
     ·intro ρ w59o F59o hS hρ
      have q40:ρ 40=.int .i64 s24:=hS 3 (by decide) 40 rfl
      exact o_q (r_int q40 rfl rfl) ⟨Fr.refl _ _,rfl⟩
     ·intro ρ w59o F59o hS hρ
      have q39:ρ 39=.slice A18 x17.length c19:=hS 2 (by decide) 39 rfl
      have q41:ρ 41=.int .i64 (IntKind.i64.wrap (s24 - (1:Int))):=hS 4 (by decide) 41 rfl
      exact o_q (r_ia slc_s_int q39 q41 ((H20.fr (G27.trans (Fr.ext F59o)) sI).now.2 _ (lt_toNat ha60.1 ha60.2)).1 ha60.1 ha60.2) ⟨Fr.refl _ _,rfl⟩
     ·intro ρ w59o F59o hS hρ
      have G108:Fr L w24r w59o:=Fr.ext F59o
      have q42:ρ 42=.pointer (some (elemA A18 (kI .i64).n (IntKind.i64.wrap (s24 - (1:Int))).toNat)):=hS 5 (by decide) 42 rfl
      exact o_q (r_ld' one_int q42 (elemA_spot _ _ _) ((H62'.fr G108 sI).now.1.at0 (elemA_spot _ _ _))) ⟨Fr.refl _ _,rfl⟩
     ·intro ρ w59o F59o hS hρ
      have q38:ρ 38=.slice A1 d0.slots.length c2:=hS 1 (by decide) 38 rfl
      have q43:ρ 43=.int .i64 (nth x17 (IntKind.i64.wrap (s24 - (1:Int)))):=hS 6 (by decide) 43 rfl
      exact o_q (r_ia slc_s_api_Entry q38 q43 ((H3.fr (G25.trans (Fr.ext F59o)) sI).now.2 _ (lt_toNat ha64.1 ha64.2)).1 ha64.1 ha64.2) ⟨Fr.refl _ _,rfl⟩
     ·intro ρ w59o F59o hS hρ
      have G120:Fr L w24r w59o:=Fr.ext F59o
      have q44:ρ 44=.pointer (some (elemA A1 kEnt.n (nth x17 (IntKind.i64.wrap (s24 - (1:Int)))).toNat)):=hS 7 (by decide) 44 rfl
      exact o_q (r_lda' agg_api_Entry q44 (elemA_spot _ _ _) (vs:=(cEnt (nth d0.slots (nth x17 (IntKind.i64.wrap (s24 - (1:Int))))) A69 c70 A72 c73)) rfl ((H68.fr G120 sI).now.1)) ⟨Fr.refl _ _,rfl⟩
     ·intro ρ w59o F59o hS hρ
      have q1:ρ 1=.pointer (some ⟨b7,0,none⟩):=hρ 1 (by kernel_rfl)
      exact o_q (r_fa fld_api_Arena_1 rfl q1) ⟨Fr.refl _ _,rfl⟩
     ·intro ρ w59o F59o hS hρ
      have q46:ρ 46=.pointer (some ⟨b7,1,none⟩):=hS 9 (by decide) 46 rfl
      exact o_q (r_ld one_s_api_Entry q46 ((S7.fr (G26.trans (Fr.ext F59o)) sI).now.cell rfl)) ⟨Fr.refl _ _,rfl⟩
     ·intro ρ w59o F59o hS hρ
      have q4:ρ 4=.slice A18 x17.length c19:=hρ 4 (by kernel_rfl)
      exact o_q (r_mov q4) ⟨Fr.refl _ _,rfl⟩
     ·intro ρ w59o F59o hS hρ
      have q5:ρ 5=.int .i64 s24:=hρ 5 (by kernel_rfl)
      exact o_q (r_mov q5) ⟨Fr.refl _ _,rfl⟩
     ·intro ρ w59o F59o hS hρ
      have q48:ρ 48=.slice A18 x17.length c19:=hS 11 (by decide) 48 rfl
      have q49:ρ 49=.int .i64 s24:=hS 12 (by decide) 49 rfl
      exact o_q (r_ia slc_s_int q48 q49 ((H20.fr (G27.trans (Fr.ext F59o)) sI).now.2 _ (lt_toNat ha75.1 ha75.2)).1 ha75.1 ha75.2) ⟨Fr.refl _ _,rfl⟩
     ·intro ρ w59o F59o hS hρ
      have G138:Fr L w24r w59o:=Fr.ext F59o
      have q50:ρ 50=.pointer (some (elemA A18 (kI .i64).n s24.toNat)):=hS 13 (by decide) 50 rfl
      exact o_q (r_ld' one_int q50 (elemA_spot _ _ _) ((H77'.fr G138 sI).now.1.at0 (elemA_spot _ _ _))) ⟨Fr.refl _ _,rfl⟩
     ·intro ρ w59o F59o hS hρ
      have q47:ρ 47=.slice A1 d0.slots.length c2:=hS 10 (by decide) 47 rfl
      have q51:ρ 51=.int .i64 (nth x17 s24):=hS 14 (by decide) 51 rfl
      exact o_q (r_ia slc_s_api_Entry q47 q51 ((H3.fr (G25.trans (Fr.ext F59o)) sI).now.2 _ (lt_toNat ha79.1 ha79.2)).1 ha79.1 ha79.2) ⟨Fr.refl _ _,rfl⟩
     ·intro ρ w59o F59o hS hρ
      have G150:Fr L w24r w59o:=Fr.ext F59o
      have q52:ρ 52=.pointer (some (elemA A1 kEnt.n (nth x17 s24).toNat)):=hS 15 (by decide) 52 rfl
      exact o_q (r_lda' agg_api_Entry q52 (elemA_spot _ _ _) (vs:=(cEnt (nth d0.slots (nth x17 s24)) A84 c85 A87 c88)) rfl ((H83.fr G150 sI).now.1)) ⟨Fr.refl _ _,rfl⟩
     ·intro ρ w59o F59o hS hρ
      have E151:=E24r.trans F59o
      have G156:Fr L w24r w59o:=Fr.ext F59o
      have q45:ρ 45=.agg (cEnt (nth d0.slots (nth x17 (IntKind.i64.wrap (s24 - (1:Int))))) A69 c70 A72 c73).toArray:=hS 8 (by decide) 45 rfl
      have q53:ρ 53=.agg (cEnt (nth d0.slots (nth x17 s24)) A84 c85 A87 c88).toArray:=hS 16 (by decide) 53 rfl
      refine o_call cf_entry_Less (by simp only [List.map,ev,q45,q53] <;> rfl) (entry_Less_c (nth d0.slots (nth x17 (IntKind.i64.wrap (s24 - (1:Int))))) (kEnt_mk (d:=(nth d0.slots (nth x17 (IntKind.i64.wrap (s24 - (1:Int)))))) (H71.fr G156 sI) (H74.fr G156 sI)) (nth d0.slots (nth x17 s24)) (kEnt_mk (d:=(nth d0.slots (nth x17 s24))) (H86.fr G156 sI) (H89.fr G156 sI)) (hL.fr E151) (eq_ev hx90 (entLess_ev (nth d0.slots (nth x17 (IntKind.i64.wrap (s24 - (1:Int))))) (nth d0.slots (nth x17 s24))))) rfl rfl ?_
      rintro _ w' ⟨F,rfl⟩
      exact eo_nil ⟨rfl,rfl,_,rfl,F,rfl⟩
     ·intro ρ w59o F59o hS hρ
      have q54:ρ 54=.bool x90:=hS 17 (by decide) 54 rfl
      exact o_q (r_not q54) ⟨Fr.refl _ _,rfl⟩
    ·intro ρ w59 F59 hS hρ
     have q55:ρ 55=.bool (!x90):=hS 18 55 rfl
     obtain ⟨ρ',rfl⟩:∃ ρ',ρ=envs (ovr [37,38,39,40,41,42,43,44,45,46,47,48,49,50,51,52,53,54,55] ρ' _) [(55,.bool (!x90))]:=⟨ρ,ovr_self hρ ⟨q55,trivial⟩⟩
     have E157:=E24r.trans F59
     refine sq_n ?_
     refine ec_cond rfl (fun hc163=>?_) (fun hc163=>?_)
     ·replace h:=h.1 hc163
      refine ec_sr ?_
      refine o_w (v:=.int .i64 2) (r_asg rfl) ?_
      refine eo_nil_sq ?_
      refine ec_ret ?_
      refine blk_ret ?_
      refine sq_ret ?_
      subst h
      exact lqR_r (end1 rfl ⟨_,rfl,E157,rfl⟩)
     ·replace h:=h.2 hc163
      refine ec_skip ?_
      refine blk_n ?_
      refine sq_n ?_
      refine ec_region ?_
      refine o_w (v:=.int .i64 s24) (r_mov rfl) ?_
      refine o_w (v:=.int .i64 (IntKind.i64.wrap (s24 + (1:Int)))) (r_int rfl rfl rfl) ?_
      refine o_w (v:=.int .i64 (IntKind.i64.wrap (s24 + (1:Int)))) (r_asg rfl) ?_
      refine eo_nil ?_
      subst h
      exact lqR_n ⟨_,envs_self ⟨rfl,rfl,rfl,trivial⟩,rfl,(F24r.trans (Fr.ext F59)),E157⟩
   ·replace h:=h.2 hc28
    refine ec_exit ?_
    refine sq_exit ?_
    subst h
    exact lqR_x ⟨_,envs_self ⟨rfl,rfl,rfl,trivial⟩,rfl,F24r,E24r⟩
  ·exact ⟨_,envs_self ⟨rfl,rfl,rfl,trivial⟩,rfl,(Fr.refl _ _),E21⟩
  ·rintro sx24 rfl ρ24e ds24e w24e ⟨ρ24e,rfl,rfl,F24e,E24e⟩
   replace h:=h.1 _ rfl
   have G164:Fr L w w24e:=((G8.trans (Fr.ext F10)).trans (Fr.ext F17)).stp F24e (fun _ h=>.inl h)
   have G165:Fr L w7 w24e:=(G15.trans (Fr.ext F17)).stp F24e (fun _ h=>.inl h)
   have G166:Fr L w17 w24e:=(Fr.refl _ _).stp F24e (fun _ h=>.inl h)
   refine blk_hit ?_
   refine sq_n ?_
   refine ec_seq ?_
   refine ec_sr ?_
   refine o_w (v:=.slice A18 x17.length c19) (r_mov rfl) ?_
   refine o_w (v:=.pointer (some ⟨b7,2,none⟩)) (r_fa fld_api_Arena_2 rfl rfl) ?_
   refine o_w (v:=.slice A4 d0.idx.length c5) (r_ld one_s_int rfl ((S7.fr G165 sI).now.cell rfl)) ?_
   obtain ⟨ha168,h⟩:=h
   refine o_call cf_slices_Equal_int rfl (slices_Equal_int_c x17 (H20.fr G166 sI) d0.idx (H6.fr G164 sI) (hL.fr E24e) (slEqual_ev x17 d0.idx ha168)) rfl rfl ?_
   rintro _ w167 ⟨F167,rfl⟩
   have E169:=E24e.trans F167
   refine o_w (v:=.bool (!(eqInts x17 d0.idx))) (r_not rfl) ?_
   refine eo_nil_sq ?_
   refine ec_cond rfl (fun hc173=>?_) (fun hc173=>?_)
   ·replace h:=h.1 hc173
    refine ec_sr ?_
    refine o_w (v:=.int .i64 2) (r_asg rfl) ?_
    refine eo_nil_sq ?_
    refine ec_ret ?_
    refine sq_ret ?_
    subst h
    exact (end1 rfl ⟨_,rfl,E169,rfl⟩)
   ·replace h:=h.2 hc173
    refine ec_skip ?_
    refine sq_n ?_
    refine ec_sr ?_
    refine o_w (v:=.int .i64 0) (r_asg rfl) ?_
    refine eo_nil_sq ?_
    refine ec_ret ?_
    subst h
    exact (end1 rfl ⟨_,rfl,E169,rfl⟩)
  ·rintro y24 rfl ρ24q ds24q w24q hJ
   have hy:=h.2 _ rfl
   subst hy
   refine blk_ret ?_
   refine sq_ret ?_
   exact hJ
end Go.Proofs.Ythifkdgljapmeaa
