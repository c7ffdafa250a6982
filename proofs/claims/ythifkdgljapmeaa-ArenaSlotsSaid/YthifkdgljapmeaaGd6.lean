/- The law ArenaSlots: what it comes to. -/
import Derived.Test.YthifkdgljapmeaaEy
namespace Go.Proofs.Ythifkdgljapmeaa
open Go Go.RowKit
set_option linter.unusedVariables false
set_option linter.unusedSimpArgs false
def law08_ArenaSlots_b60 (d0:Arena) (x31:Arena × Int × Int) (s60:Int) (z60:(Int) ⊕ ((Int) ⊕ (Bool))):Prop :=
 ((decide (s60<(d0.slots.length:Int)))=true→(((!(((nth d0.slots s60).key)==((nth x31.1.slots s60).key)))=true→((0≤s60∧s60<(d0.slots.length:Int))∧((0≤s60∧s60<(x31.1.slots.length:Int))∧(z60=.inr (.inr false)))))∧((!(((nth d0.slots s60).key)==((nth x31.1.slots s60).key)))=false→((0≤s60∧s60<(d0.slots.length:Int))∧((0≤s60∧s60<(x31.1.slots.length:Int))∧((0≤s60∧s60<(d0.slots.length:Int))∧((0≤s60∧s60<(x31.1.slots.length:Int))∧((((((nth d0.slots s60).val).kind) != (((nth x31.1.slots s60).val).kind))=true→(z60=.inr (.inr false)))∧(((((nth d0.slots s60).val).kind) != (((nth x31.1.slots s60).val).kind))=false→(z60=.inl (IntKind.i64.wrap (s60 + (1:Int)))))))))))))∧((decide (s60<(d0.slots.length:Int)))=false→(z60=.inr (.inl s60)))
def law08_ArenaSlots_b508 (x498:(List Ent)) (s508:Int) (z508:(Int) ⊕ ((Int) ⊕ (Bool))):Prop :=
 ((decide (s508<(x498.length:Int)))=true→((0≤(IntKind.i64.wrap (s508 - (1:Int)))∧(IntKind.i64.wrap (s508 - (1:Int)))<(x498.length:Int))∧((0≤s508∧s508<(x498.length:Int))∧(∃ x559,x559=(lessE (nth x498 (IntKind.i64.wrap (s508 - (1:Int)))) (nth x498 s508))∧(((!x559)=true→(z508=.inr (.inr false)))∧((!x559)=false→(z508=.inl (IntKind.i64.wrap (s508 + (1:Int))))))))))∧((decide (s508<(x498.length:Int)))=false→(z508=.inr (.inl s508)))
def law08_ArenaSlots_b613 (d2:Int) (x31:Arena × Int × Int) (s613:List Ent × Int) (z613:(List Ent × Int) ⊕ (List Ent × Int)):Prop :=
 ((decide (s613.2<(x31.1.slots.length:Int)))=true→((sma x31.1)∧(∃ x624,x624=(chunkA x31.1 s613.2 (IntKind.i64.wrap ((Int.tmod (IntKind.i64.wrap d2) (4:Int)) + (1:Int))))∧((s613.1.length + x624.length≤9223372036854775807∧(s613.1.length + x624.length) * 120≤140737488355328)∧(z613=.inl ((s613.1++x624),(IntKind.i64.wrap (s613.2 + (IntKind.i64.wrap ((Int.tmod (IntKind.i64.wrap d2) (4:Int)) + (1:Int)))))))))))∧((decide (s613.2<(x31.1.slots.length:Int)))=false→(z613=.inr (s613.1,s613.2)))
def law08_ArenaSlots_raw (d0:Arena) (d1:(List Ent)) (d2:Int) (y:Bool):Prop :=
 ((!(worksV))=true→(y=false))∧((!(worksV))=false→(((fewA d0)=true→((10:Int):Int)≤100)∧(((!(!((fewA d0)&&(entriesB d1 (10:Int)))))=true→sma d0)∧((((!((fewA d0)&&(entriesB d1 (10:Int))))||((checkA d0) != (0:Int)))=true→(y=(worksV)))∧(((!((fewA d0)&&(entriesB d1 (10:Int))))||((checkA d0) != (0:Int)))=false→((sma d0)∧((sml d1)∧((wfl d1)∧(∃ x31,x31=(mergeA d0 d1)∧(((((decide ((x31.1.slots.length:Int)<(d0.slots.length:Int)))||(decide (x31.1.cap<(x31.1.slots.length:Int))))||(x31.1.cap != d0.cap))=true→(y=false))∧((((decide ((x31.1.slots.length:Int)<(d0.slots.length:Int)))||(decide (x31.1.cap<(x31.1.slots.length:Int))))||(x31.1.cap != d0.cap))=false→(∃ x60,LoopR (law08_ArenaSlots_b60 d0 x31) (0:Int) x60∧(∀ sx60,x60=.inl sx60→((sma x31.1)∧(∃ x498,x498=(allA x31.1)∧(∃ x508,LoopR (law08_ArenaSlots_b508 x498) (1:Int) x508∧(∀ sx508,x508=.inl sx508→(∃ x613,LoopR (law08_ArenaSlots_b613 d2 x31) (([]:List Ent),(0:Int)) x613∧((sml x613.1)∧(y=((allE x613.1 x31.1.slots)&&((x498.length:Int)==(x31.1.slots.length:Int)))))))∧(∀ y508,x508=.inr y508→(y=y508))))))∧(∀ y60,x60=.inr y60→(y=y60))))))))))))))
set_option maxRecDepth 20000 in
set_option maxHeartbeats 4000000 in
theorem law08_ArenaSlots_c {L:List Nat} {w:World} {csP0:List Value} (d0:Arena) (HP0:Stb L w (fun w=>kArena.r w csP0 d0)) {AP1:Option Addr} {cP1:Nat} (d1:(List Ent)) (HP1:Stb L w (fun w=>SlC kEnt w AP1 cP1 d1)) (d2:Int) (hL:Lt L w) {y:Bool} (h:law08_ArenaSlots_raw d0 d1 d2 y) :
  Calls Try.prog 7 [.agg csP0.toArray,.slice AP1 d1.length cP1,.int .u8 d2].toArray w (Ret fun v w'=>Ext w w'∧v=.bool y):=by
 obtain ⟨A1,c2,A4,c5,rfl,H3,H6⟩:=kArena_open HP0
 unfold law08_ArenaSlots_raw at h
 refine calls_ec Try.func7 rfl rfl rfl ?_
 refine ec_seq ?_
 refine ec_region ?_
 refine o_box (cs:=(cArena d0 A1 c2 A4 c5)) rfl rfl rfl ?_
 intro b7 w7 e7 F7 B7
 have S7:=B7.stb (nin hL e7)
 have G8:Fr L w w7:=Fr.ext F7
 refine o_w (v:=.bool false) (r_asg rfl) ?_
 refine eo_nil_sq ?_
 refine ec_seq ?_
 refine ec_region ?_
 refine o_call cf_law08_works rfl (law08_works_c (hL.fr F7) (works8_ev)) rfl rfl ?_
 rintro _ w9 ⟨F9,rfl⟩
 have E10:=F7.trans F9
 have G12:Fr L w7 w9:=Fr.ext F9
 refine o_w (v:=.bool (worksV)) (r_asg rfl) ?_
 refine eo_nil_sq ?_
 iterate 2 refine ec_seq ?_
 refine ec_region ?_
 refine o_w (v:=.bool (worksV)) (r_mov rfl) ?_
 refine o_w (v:=.bool (!(worksV))) (r_not rfl) ?_
 refine eo_nil_sq ?_
 refine ec_cond rfl (fun hc13=>?_) (fun hc13=>?_)
 ·replace h:=h.1 hc13
  refine ec_seq ?_
  refine ec_region ?_
  refine o_w (v:=.bool false) (r_asg rfl) ?_
  refine eo_nil_sq ?_
  refine ec_ret ?_
  refine sq_ret ?_
  subst h
  exact (end1 rfl ⟨_,rfl,E10,rfl⟩)
 ·replace h:=h.2 hc13
  refine ec_skip ?_
  refine sq_n ?_
  refine ec_seq ?_
  refine ec_region ?_
  refine o_w (v:=.agg (cArena d0 A1 c2 A4 c5).toArray) (r_lda agg_api_Arena rfl (vs:=(cArena d0 A1 c2 A4 c5)) rfl ((S7.fr G12 (fun _ h=>h)).now.part (n:=3) rfl)) ?_
  refine o_call cf_law08_Few rfl (law08_Few_c d0 (kArena_mk (d:=d0) (H3.fr (G8.trans (Fr.ext F9)) (fun _ h=>h)) (H6.fr (G8.trans (Fr.ext F9)) (fun _ h=>h))) (hL.fr E10) (fewA_ev d0)) rfl rfl ?_
  rintro _ w15 ⟨F15,rfl⟩
  have E16:=E10.trans F15
  refine o_w (v:=.bool (fewA d0)) (r_mov rfl) ?_
  refine o_vg (v:=.slice AP1 d1.length cP1) (want_ct (t:=24) rfl rfl) (fun hk=>(r_mov rfl)) rfl rfl ?_
  obtain ⟨ha20,h⟩:=h
  refine o_callg (V:=.bool (entriesB d1 (10:Int))) cf_law08_Entries (want_ct (t:=24) rfl rfl) (fun hk=>(mapv2 (gdT hk) rfl)) (fun hk=>(law08_Entries_c d1 (HP1.fr ((G8.trans (Fr.ext F9)).trans (Fr.ext F15)) (fun _ h=>h)) (10:Int) (hL.fr E16) (entries_ev d1 (10:Int) (ha20 hk)))) rfl ?_
  intro w19 F19
  have E21:=E16.trans F19
  refine o_w (v:=.bool ((fewA d0)&&(entriesB d1 (10:Int)))) (r_pickAnd rfl (fun ht=>(gdT ht)) rfl) ?_
  refine o_w (v:=.bool ((fewA d0)&&(entriesB d1 (10:Int)))) (r_asg rfl) ?_
  refine eo_nil_sq ?_
  iterate 2 refine ec_seq ?_
  refine ec_region ?_
  refine o_w (v:=.bool ((fewA d0)&&(entriesB d1 (10:Int)))) (r_mov rfl) ?_
  refine o_w (v:=.bool (!((fewA d0)&&(entriesB d1 (10:Int))))) (r_not rfl) ?_
  refine o_w (v:=.bool (!((fewA d0)&&(entriesB d1 (10:Int))))) (r_mov rfl) ?_
  refine o_vg (v:=.agg (cArena d0 A1 c2 A4 c5).toArray) (want_cf (t:=30) rfl rfl) (fun hk=>(r_lda agg_api_Arena rfl (vs:=(cArena d0 A1 c2 A4 c5)) rfl ((S7.fr ((G12.trans (Fr.ext F15)).trans (Fr.ext F19)) (fun _ h=>h)).now.part (n:=3) rfl))) rfl rfl ?_
  obtain ⟨ha26,h⟩:=h
  refine o_callg (V:=.int .i64 (checkA d0)) cf_arena_Check (want_cf (t:=30) rfl rfl) (fun hk=>(mapv1 (gdT hk))) (fun hk=>(arena_Check_c d0 (kArena_mk (d:=d0) (H3.fr (((G8.trans (Fr.ext F9)).trans (Fr.ext F15)).trans (Fr.ext F19)) (fun _ h=>h)) (H6.fr (((G8.trans (Fr.ext F9)).trans (Fr.ext F15)).trans (Fr.ext F19)) (fun _ h=>h))) (hL.fr E21) (arCheck_ev d0 (ha26 hk)))) rfl ?_
  intro w25 F25
  have E27:=E21.trans F25
  have G28:=(((G8.trans (Fr.ext F9)).trans (Fr.ext F15)).trans (Fr.ext F19)).trans (Fr.ext F25)
  refine o_vg (v:=.bool ((checkA d0) != (0:Int))) (want_cf (t:=30) rfl rfl) (fun hk=>(r_int (gdT hk) rfl rfl)) rfl rfl ?_
  refine o_w (v:=.bool ((!((fewA d0)&&(entriesB d1 (10:Int))))||((checkA d0) != (0:Int)))) (r_pickOr rfl rfl (fun hf=>(gdT (notT hf)))) ?_
  refine eo_nil_sq ?_
  refine ec_cond rfl (fun hc30=>?_) (fun hc30=>?_)
  ·replace h:=h.1 hc30
   refine ec_seq ?_
   refine ec_region ?_
   refine o_w (v:=.bool (worksV)) (r_mov rfl) ?_
   refine o_w (v:=.bool (worksV)) (r_asg rfl) ?_
   refine eo_nil_sq ?_
   refine ec_ret ?_
   refine sq_ret ?_
   subst h
   exact (end1 rfl ⟨_,rfl,E27,rfl⟩)
  ·replace h:=h.2 hc30
   refine ec_skip ?_
   refine sq_n ?_
   refine ec_seq ?_
   refine ec_region ?_
   refine o_w (v:=.agg (cArena d0 A1 c2 A4 c5).toArray) (r_lda agg_api_Arena rfl (vs:=(cArena d0 A1 c2 A4 c5)) rfl ((S7.fr (((G12.trans (Fr.ext F15)).trans (Fr.ext F19)).trans (Fr.ext F25)) (fun _ h=>h)).now.part (n:=3) rfl)) ?_
   refine o_w (v:=.slice AP1 d1.length cP1) (r_mov rfl) ?_
   obtain ⟨ha32,h⟩:=h
   obtain ⟨ha33,h⟩:=h
   obtain ⟨ha34,h⟩:=h
   obtain ⟨x31,hx31,h⟩:=h
   refine o_call cf_arena_Merge rfl (arena_Merge_c d0 (kArena_mk (d:=d0) (H3.fr G28 (fun _ h=>h)) (H6.fr G28 (fun _ h=>h))) d1 (HP1.fr G28 (fun _ h=>h)) (hL.fr E27) (eq_ev hx31 (arMerge_ev d0 d1 ha32 ha33 ha34))) rfl rfl ?_
   rintro _ w31 ⟨F31,cs35,rfl,H36⟩
   have E37:=E27.trans F31
   have G39:=(((G12.trans (Fr.ext F15)).trans (Fr.ext F19)).trans (Fr.ext F25)).trans (Fr.ext F31)
   obtain ⟨A40,c41,A43,c44,rfl,H42,H45⟩:=kArena_open H36
   refine o_w (v:=.tuple #[.agg (cArena x31.1 A40 c41 A43 c44).toArray,.int .i64 x31.2.1,.int .i64 x31.2.2]) (r_mov rfl) ?_
   refine o_w (v:=.agg (cArena x31.1 A40 c41 A43 c44).toArray) (r_ext rfl rfl) ?_
   refine o_w (v:=.int .i64 x31.2.1) (r_ext rfl rfl) ?_
   refine o_w (v:=.int .i64 x31.2.2) (r_ext rfl rfl) ?_
   refine o_alloc zero_api_Arena rfl rfl rfl ?_
   intro b46 w46 e46 F46 B46
   have n46:w.heap.size≤b46:=by rw [e46]; exact E37.size
   have m47:w.heap.size≤b46:=by rw [e46]; exact (G28.trans (Fr.ext F31)).size
   have m48:w7.heap.size≤b46:=by rw [e46]; exact G39.size
   have m49:w31.heap.size≤b46:=Nat.le_of_eq e46.symm
   have E50:=E37.trans F46
   have G53:Fr L w31 w46:=Fr.ext F46
   refine o_store rfl B46 (vs:=(cArena x31.1 A40 c41 A43 c44)) rfl sz_api_Arena rfl rfl rfl ?_
   intro w54 F54 B54
   have E55:=Ext.st E50 F54 (by simp; omega)
   have G56:Fr L w w54:=((G28.trans (Fr.ext F31)).trans (Fr.ext F46)).stp F54 (upc (.inr m47) (fun m hm=>by cases hm))
   have G57:Fr L w7 w54:=(G39.trans (Fr.ext F46)).stp F54 (upc (.inr m48) (fun m hm=>by cases hm))
   have G58:Fr L w31 w54:=G53.stp F54 (upc (.inr m49) (fun m hm=>by cases hm))
   have B54':Blk w54 b46 _ (cArena x31.1 A40 c41 A43 c44):=B54
   refine o_w (v:=.int .i64 x31.2.1) (r_asg rfl) ?_
   refine o_w (v:=.int .i64 x31.2.2) (r_asg rfl) ?_
   refine eo_nil_sq ?_
   iterate 2 refine ec_seq ?_
   refine ec_region ?_
   refine o_w (v:=.pointer (some ⟨b46,1,none⟩)) (r_fa fld_api_Arena_1 rfl rfl) ?_
   refine o_w (v:=.slice A40 x31.1.slots.length c41) (r_ld one_s_api_Entry rfl (B54'.cell rfl)) ?_
   refine o_w (v:=.int .i64 (x31.1.slots.length:Int)) (r_len_slc un_s_api_Entry rfl) ?_
   refine o_w (v:=.pointer (some ⟨b7,1,none⟩)) (r_fa fld_api_Arena_1 rfl rfl) ?_
   refine o_w (v:=.slice A1 d0.slots.length c2) (r_ld one_s_api_Entry rfl ((S7.fr G57 (fun _ h=>h)).now.cell rfl)) ?_
   refine o_w (v:=.int .i64 (d0.slots.length:Int)) (r_len_slc un_s_api_Entry rfl) ?_
   refine o_w (v:=.bool (decide ((x31.1.slots.length:Int)<(d0.slots.length:Int)))) (r_int rfl rfl rfl) ?_
   refine o_w (v:=.bool (decide ((x31.1.slots.length:Int)<(d0.slots.length:Int)))) (r_mov rfl) ?_
   refine o_vg (v:=.pointer (some ⟨b46,1,none⟩)) (want_cf (t:=50) rfl rfl) (fun hk=>(r_fa fld_api_Arena_1 rfl rfl)) rfl rfl ?_
   refine o_vg (v:=.slice A40 x31.1.slots.length c41) (want_cf (t:=50) rfl rfl) (fun hk=>(r_ld one_s_api_Entry (gdT hk) (B54'.cell rfl))) rfl rfl ?_
   refine o_vg (v:=.int .i64 (x31.1.slots.length:Int)) (want_cf (t:=50) rfl rfl) (fun hk=>(r_len_slc un_s_api_Entry (gdT hk))) rfl rfl ?_
   refine o_vg (v:=.pointer (some ⟨b46,0,none⟩)) (want_cf (t:=50) rfl rfl) (fun hk=>(r_fa fld_api_Arena_0 rfl rfl)) rfl rfl ?_
   refine o_vg (v:=.int .i64 x31.1.cap) (want_cf (t:=50) rfl rfl) (fun hk=>(r_ld one_int (gdT hk) (B54'.cell rfl))) rfl rfl ?_
   refine o_vg (v:=.bool (decide (x31.1.cap<(x31.1.slots.length:Int)))) (want_cf (t:=50) rfl rfl) (fun hk=>(r_int (gdT hk) (gdT hk) rfl)) rfl rfl ?_
   refine o_w (v:=.bool ((decide ((x31.1.slots.length:Int)<(d0.slots.length:Int)))||(decide (x31.1.cap<(x31.1.slots.length:Int))))) (r_pickOr rfl rfl (fun hf=>(gdT (notT hf)))) ?_
   refine o_w (v:=.bool ((decide ((x31.1.slots.length:Int)<(d0.slots.length:Int)))||(decide (x31.1.cap<(x31.1.slots.length:Int))))) (r_mov rfl) ?_
   refine o_vg (v:=.pointer (some ⟨b46,0,none⟩)) (want_cf (t:=58) rfl rfl) (fun hk=>(r_fa fld_api_Arena_0 rfl rfl)) rfl rfl ?_
   refine o_vg (v:=.int .i64 x31.1.cap) (want_cf (t:=58) rfl rfl) (fun hk=>(r_ld one_int (gdT hk) (B54'.cell rfl))) rfl rfl ?_
   refine o_vg (v:=.pointer (some ⟨b7,0,none⟩)) (want_cf (t:=58) rfl rfl) (fun hk=>(r_fa fld_api_Arena_0 rfl rfl)) rfl rfl ?_
   refine o_vg (v:=.int .i64 d0.cap) (want_cf (t:=58) rfl rfl) (fun hk=>(r_ld one_int (gdT hk) ((S7.fr G57 (fun _ h=>h)).now.cell rfl))) rfl rfl ?_
   refine o_vg (v:=.bool (x31.1.cap != d0.cap)) (want_cf (t:=58) rfl rfl) (fun hk=>(r_int (gdT hk) (gdT hk) rfl)) rfl rfl ?_
   refine o_w (v:=.bool (((decide ((x31.1.slots.length:Int)<(d0.slots.length:Int)))||(decide (x31.1.cap<(x31.1.slots.length:Int))))||(x31.1.cap != d0.cap))) (r_pickOr rfl rfl (fun hf=>(gdT (notT hf)))) ?_
   refine eo_nil_sq ?_
   refine ec_cond rfl (fun hc59=>?_) (fun hc59=>?_)
   ·replace h:=h.1 hc59
    refine ec_seq ?_
    refine ec_region ?_
    refine o_w (v:=.bool false) (r_asg rfl) ?_
    refine eo_nil_sq ?_
    refine ec_ret ?_
    refine sq_ret ?_
    subst h
    exact (end1 rfl ⟨_,rfl,E55,rfl⟩)
   ·replace h:=h.2 hc59
    refine ec_skip ?_
    refine sq_n ?_
    iterate 2 refine ec_seq ?_
    refine ec_region ?_
    refine o_w (v:=.int .i64 (0:Int)) (r_asg rfl) ?_
    refine eo_nil_sq ?_
    refine ec_block ?_
    obtain ⟨x60,hl60,h⟩:=h
    refine ec_loopER 0 (I:=(fun (s60:Int) ρ ds w'=>∃ (ρ':Env),ρ=envs ρ' [(12,.int .i64 s60),(2,.int .u8 d2),(3,.pointer (some ⟨b7,0,none⟩)),(7,.bool (worksV)),(9,.pointer (some ⟨b46,0,none⟩))]∧ds=[]∧Fr (b46::L) w54 w'∧Ext w w'∧Blk w' b46 25 (cArena x31.1 A40 c41 A43 c44))) (J:=(fun (y':Bool) ρ ds wz=>bodyE Try.prog #[.tmp 6] (Ret fun v w'=>Ext w w'∧v=.bool y') .ret ρ ds wz)) ?_ hl60 ?_ ?_ ?_
    ·intro s60 z60 ρ60 ds60 w60r hI60 hb60
     obtain ⟨ρ60r,rfl,rfl,F60r,E60r,B60rb46⟩:=hI60
     have h:=hb60
     unfold law08_ArenaSlots_b60 at h
     have G61:Fr L w w60r:=G56.stp F60r (upc (.inr m47) (fun _ h=>.inl h))
     have G62:Fr L w7 w60r:=G57.stp F60r (upc (.inr m48) (fun _ h=>.inl h))
     have G63:Fr L w31 w60r:=G58.stp F60r (upc (.inr m49) (fun _ h=>.inl h))
     iterate 2 refine ec_seq ?_
     refine ec_region ?_
     refine o_w (v:=.int .i64 s60) (r_mov rfl) ?_
     refine o_w (v:=.pointer (some ⟨b7,1,none⟩)) (r_fa fld_api_Arena_1 rfl rfl) ?_
     refine o_w (v:=.slice A1 d0.slots.length c2) (r_ld one_s_api_Entry rfl ((S7.fr G62 (fun _ h=>h)).now.cell rfl)) ?_
     refine o_w (v:=.int .i64 (d0.slots.length:Int)) (r_len_slc un_s_api_Entry rfl) ?_
     refine o_w (v:=.bool (decide (s60<(d0.slots.length:Int)))) (r_int rfl rfl rfl) ?_
     refine eo_nil_sq ?_
     refine ec_cond rfl (fun hc64=>?_) (fun hc64=>?_)
     ·replace h:=h.1 hc64
      refine ec_skip ?_
      refine sq_n ?_
      refine ec_seq ?_
      refine ec_block ?_
      refine ec_seq ?_
      rcases Bool.eq_false_or_eq_true (!(((nth d0.slots s60).key)==((nth x31.1.slots s60).key))) with hc153 | hc153
      ·replace h:=h.1 hc153
       obtain ⟨ha199,h⟩:=h
       obtain ⟨cs200,l202,H201⟩:=Stb.elem (by decide) (H3.up G61 (fun _ h=>h) (upc (.inr m47) (fun _ h=>.inl h))) s60 ha199.1 ha199.2
       obtain ⟨A204,c205,A207,c208,rfl,H203,H206,H209⟩:=kEnt_open2 H201
       obtain ⟨ha210,h⟩:=h
       obtain ⟨cs211,l213,H212⟩:=Stb.elem (by decide) (H42.up G63 (fun _ h=>h) (upc (.inr m49) (fun _ h=>.inl h))) s60 ha210.1 ha210.2
       obtain ⟨A215,c216,A218,c219,rfl,H214,H217,H220⟩:=kEnt_open2 H212
       refine ec_any0 (by kernel_rfl) [[],[0],[],[0,1,2],[0,1,2,3],[0,1,2,3,4],[],[6],[],[6,7,8],[6,7,8,9],[6,7,8,9,10],[0,1,2,3,4,5,6,7,8,9,10,11],[0,1,2,3,4,5,6,7,8,9,10,11,12],[0,1,2,3,4,5,6,7,8,9,10,11,12,13],[0,1,2,3,4,5,6,7,8,9,10,11,12,13,14],[0,1,2,3,4,5,6,7,8,9,10,11,12,13],[0,1,2,3,4,5,6,7,8,9,10,11,12,13,14,15,16],[0,1,2,3,4,5,6,7,8,9,10,11,12,13,14,15,16,17],[0,1,2,3,4,5,6,7,8,9,10,11,12,13,14,15,16,17,18],[0,1,2,3,4,5,6,7,8,9,10,11,12,13,14,15,16,17,18,19],[0,1,2,3,4,5,6,7,8,9,10,11,12,13],[0,1,2,3,4,5,6,7,8,9,10,11,12,13,21],[0,1,2,3,4,5,6,7,8,9,10,11,12,13],[0,1,2,3,4,5,6,7,8,9,10,11,12,13,21,22,23],[0,1,2,3,4,5,6,7,8,9,10,11,12,13,21,22,23,24],[0,1,2,3,4,5,6,7,8,9,10,11,12,13,21,22,23,24,25],[0,1,2,3,4,5,6,7,8,9,10,11,12,13,21,22,23,24,25,26],[0,1,2,3,4,5,6,7,8,9,10,11,12,13,14,15,16,17,18,19,20,21,22,23,24,25,26,27],[0,1,2,3,4,5,6,7,8,9,10,11,12,13,14,15,16,17,18,19,20,21,22,23,24,25,26,27,28]] [72,73,74,75,76,77,78,79,80,81,82,83,84,85,86,87,88,89,90,91,92,93,94,95,96,97,98,99,100,101] [fun v _=>v=(.pointer (some ⟨b7,1,none⟩):Value),fun v _=>v=(.slice A1 d0.slots.length c2:Value),fun v _=>v=(.int .i64 s60:Value),fun v _=>v=(.pointer (some (elemA A1 kEnt.n s60.toNat)):Value),fun v _=>v=(.pointer (some (ad (elemA A1 kEnt.n s60.toNat) 0)):Value),fun v _=>v=(str ((nth d0.slots s60).key):Value),fun v _=>v=(.pointer (some ⟨b46,1,none⟩):Value),fun v _=>v=(.slice A40 x31.1.slots.length c41:Value),fun v _=>v=(.int .i64 s60:Value),fun v _=>v=(.pointer (some (elemA A40 kEnt.n s60.toNat)):Value),fun v _=>v=(.pointer (some (ad (elemA A40 kEnt.n s60.toNat) 0)):Value),fun v _=>v=(str ((nth x31.1.slots s60).key):Value),fun v _=>v=(.bool (!(((nth d0.slots s60).key)==((nth x31.1.slots s60).key))):Value),fun v _=>v=(.bool (!(((nth d0.slots s60).key)==((nth x31.1.slots s60).key))):Value),fun v _=>v=((undef:Value):Value),fun v _=>v=((undef:Value):Value),fun v _=>v=((undef:Value):Value),fun v _=>v=((undef:Value):Value),fun v _=>v=((undef:Value):Value),fun v _=>v=((undef:Value):Value),fun v _=>v=((undef:Value):Value),fun v _=>v=((undef:Value):Value),fun v _=>v=((undef:Value):Value),fun v _=>v=((undef:Value):Value),fun v _=>v=((undef:Value):Value),fun v _=>v=((undef:Value):Value),fun v _=>v=((undef:Value):Value),fun v _=>v=((undef:Value):Value),fun v _=>v=((undef:Value):Value),fun v _=>v=(.bool true:Value)] (by kernel_rfl) ⟨fun _ _ _ _ _ h=>h,fun _ _ _ _ _ h=>h,fun _ _ _ _ _ h=>h,fun _ _ _ _ _ h=>h,fun _ _ _ _ _ h=>h,fun _ _ _ _ _ h=>h,fun _ _ _ _ _ h=>h,fun _ _ _ _ _ h=>h,fun _ _ _ _ _ h=>h,fun _ _ _ _ _ h=>h,fun _ _ _ _ _ h=>h,fun _ _ _ _ _ h=>h,fun _ _ _ _ _ h=>h,fun _ _ _ _ _ h=>h,fun _ _ _ _ _ h=>h,fun _ _ _ _ _ h=>h,fun _ _ _ _ _ h=>h,fun _ _ _ _ _ h=>h,fun _ _ _ _ _ h=>h,fun _ _ _ _ _ h=>h,fun _ _ _ _ _ h=>h,fun _ _ _ _ _ h=>h,fun _ _ _ _ _ h=>h,fun _ _ _ _ _ h=>h,fun _ _ _ _ _ h=>h,fun _ _ _ _ _ h=>h,fun _ _ _ _ _ h=>h,fun _ _ _ _ _ h=>h,fun _ _ _ _ _ h=>h,fun _ _ _ _ _ h=>h,trivial⟩ ?_ ?_
       ·refine ⟨?_,?_,?_,?_,?_,?_,?_,?_,?_,?_,?_,?_,?_,?_,?_,?_,?_,?_,?_,?_,?_,?_,?_,?_,?_,?_,?_,?_,?_,?_,trivial⟩
        ·intro ρ w198o F198o hS hρ
         have q3:ρ 3=.pointer (some ⟨b7,0,none⟩):=hρ 3 (by kernel_rfl)
         exact o_q (r_fa fld_api_Arena_1 rfl q3) ⟨Fr.refl _ _,rfl⟩
        ·intro ρ w198o F198o hS hρ
         have q72:ρ 72=.pointer (some ⟨b7,1,none⟩):=hS 0 (by decide) 72 rfl
         exact o_q (r_ld one_s_api_Entry q72 ((S7.fr (G62.trans (Fr.ext F198o)) (fun _ h=>h)).now.cell rfl)) ⟨Fr.refl _ _,rfl⟩
        ·intro ρ w198o F198o hS hρ
         have q12:ρ 12=.int .i64 s60:=hρ 12 (by kernel_rfl)
         exact o_q (r_mov q12) ⟨Fr.refl _ _,rfl⟩
        ·intro ρ w198o F198o hS hρ
         have q73:ρ 73=.slice A1 d0.slots.length c2:=hS 1 (by decide) 73 rfl
         have q74:ρ 74=.int .i64 s60:=hS 2 (by decide) 74 rfl
         exact o_q (r_ia slc_s_api_Entry q73 q74 ((H3.fr (G61.trans (Fr.ext F198o)) (fun _ h=>h)).now.2 _ (lt_toNat ha199.1 ha199.2)).1 ha199.1 ha199.2) ⟨Fr.refl _ _,rfl⟩
        ·intro ρ w198o F198o hS hρ
         have q75:ρ 75=.pointer (some (elemA A1 kEnt.n s60.toNat)):=hS 3 (by decide) 75 rfl
         exact o_q (r_fad fld_api_Entry_0 (elemA_spot _ _ _) q75) ⟨Fr.refl _ _,rfl⟩
        ·intro ρ w198o F198o hS hρ
         have G240:Fr (b46::L) w60r w198o:=Fr.ext F198o
         have q76:ρ 76=.pointer (some (ad (elemA A1 kEnt.n s60.toNat) 0)):=hS 4 (by decide) 76 rfl
         exact o_q (r_ld' one_string q76 rfl ((H203.fr G240 (fun _ h=>h)).now.1.at (j:=0) rfl)) ⟨Fr.refl _ _,rfl⟩
        ·intro ρ w198o F198o hS hρ
         have q9:ρ 9=.pointer (some ⟨b46,0,none⟩):=hρ 9 (by kernel_rfl)
         exact o_q (r_fa fld_api_Arena_1 rfl q9) ⟨Fr.refl _ _,rfl⟩
        ·intro ρ w198o F198o hS hρ
         have q78:ρ 78=.pointer (some ⟨b46,1,none⟩):=hS 6 (by decide) 78 rfl
         exact o_q (r_ld one_s_api_Entry q78 ((B60rb46.ex F198o).cell rfl)) ⟨Fr.refl _ _,rfl⟩
        ·intro ρ w198o F198o hS hρ
         have q12:ρ 12=.int .i64 s60:=hρ 12 (by kernel_rfl)
         exact o_q (r_mov q12) ⟨Fr.refl _ _,rfl⟩
        ·intro ρ w198o F198o hS hρ
         have q79:ρ 79=.slice A40 x31.1.slots.length c41:=hS 7 (by decide) 79 rfl
         have q80:ρ 80=.int .i64 s60:=hS 8 (by decide) 80 rfl
         exact o_q (r_ia slc_s_api_Entry q79 q80 ((H42.fr (G63.trans (Fr.ext F198o)) (fun _ h=>h)).now.2 _ (lt_toNat ha210.1 ha210.2)).1 ha210.1 ha210.2) ⟨Fr.refl _ _,rfl⟩
        ·intro ρ w198o F198o hS hρ
         have q81:ρ 81=.pointer (some (elemA A40 kEnt.n s60.toNat)):=hS 9 (by decide) 81 rfl
         exact o_q (r_fad fld_api_Entry_0 (elemA_spot _ _ _) q81) ⟨Fr.refl _ _,rfl⟩
        ·intro ρ w198o F198o hS hρ
         have G261:Fr (b46::L) w60r w198o:=Fr.ext F198o
         have q82:ρ 82=.pointer (some (ad (elemA A40 kEnt.n s60.toNat) 0)):=hS 10 (by decide) 82 rfl
         exact o_q (r_ld' one_string q82 rfl ((H214.fr G261 (fun _ h=>h)).now.1.at (j:=0) rfl)) ⟨Fr.refl _ _,rfl⟩
        ·intro ρ w198o F198o hS hρ
         have q77:ρ 77=str ((nth d0.slots s60).key):=hS 5 (by decide) 77 rfl
         have q83:ρ 83=str ((nth x31.1.slots s60).key):=hS 11 (by decide) 83 rfl
         exact o_q (r_str q77 q83 rfl) ⟨Fr.refl _ _,rfl⟩
        ·intro ρ w198o F198o hS hρ
         have q84:ρ 84=.bool (!(((nth d0.slots s60).key)==((nth x31.1.slots s60).key))):=hS 12 (by decide) 84 rfl
         exact o_q (r_mov q84) ⟨Fr.refl _ _,rfl⟩
        ·intro ρ w198o F198o hS hρ
         have q3:ρ 3=.pointer (some ⟨b7,0,none⟩):=hρ 3 (by kernel_rfl)
         have q85:ρ 85=.bool (!(((nth d0.slots s60).key)==((nth x31.1.slots s60).key))):=hS 13 (by decide) 85 rfl
         exact o_no (want_f (t:=85) rfl q85 hc153) rfl (eo_nil ⟨rfl,rfl,undef,rfl,Fr.refl _ _,rfl⟩)
        ·intro ρ w198o F198o hS hρ
         have q85:ρ 85=.bool (!(((nth d0.slots s60).key)==((nth x31.1.slots s60).key))):=hS 13 (by decide) 85 rfl
         have q86:ρ 86=(undef:Value):=hS 14 (by decide) 86 rfl
         exact o_no (want_f (t:=85) rfl q85 hc153) rfl (eo_nil ⟨rfl,rfl,undef,rfl,Fr.refl _ _,rfl⟩)
        ·intro ρ w198o F198o hS hρ
         have q12:ρ 12=.int .i64 s60:=hρ 12 (by kernel_rfl)
         have q85:ρ 85=.bool (!(((nth d0.slots s60).key)==((nth x31.1.slots s60).key))):=hS 13 (by decide) 85 rfl
         exact o_no (want_f (t:=85) rfl q85 hc153) rfl (eo_nil ⟨rfl,rfl,undef,rfl,Fr.refl _ _,rfl⟩)
        ·intro ρ w198o F198o hS hρ
         have q85:ρ 85=.bool (!(((nth d0.slots s60).key)==((nth x31.1.slots s60).key))):=hS 13 (by decide) 85 rfl
         have q87:ρ 87=(undef:Value):=hS 15 (by decide) 87 rfl
         have q88:ρ 88=(undef:Value):=hS 16 (by decide) 88 rfl
         exact o_no (want_f (t:=85) rfl q85 hc153) rfl (eo_nil ⟨rfl,rfl,undef,rfl,Fr.refl _ _,rfl⟩)
        ·intro ρ w198o F198o hS hρ
         have q85:ρ 85=.bool (!(((nth d0.slots s60).key)==((nth x31.1.slots s60).key))):=hS 13 (by decide) 85 rfl
         have q89:ρ 89=(undef:Value):=hS 17 (by decide) 89 rfl
         exact o_no (want_f (t:=85) rfl q85 hc153) rfl (eo_nil ⟨rfl,rfl,undef,rfl,Fr.refl _ _,rfl⟩)
        ·intro ρ w198o F198o hS hρ
         have q85:ρ 85=.bool (!(((nth d0.slots s60).key)==((nth x31.1.slots s60).key))):=hS 13 (by decide) 85 rfl
         have q90:ρ 90=(undef:Value):=hS 18 (by decide) 90 rfl
         exact o_no (want_f (t:=85) rfl q85 hc153) rfl (eo_nil ⟨rfl,rfl,undef,rfl,Fr.refl _ _,rfl⟩)
        ·intro ρ w198o F198o hS hρ
         have q85:ρ 85=.bool (!(((nth d0.slots s60).key)==((nth x31.1.slots s60).key))):=hS 13 (by decide) 85 rfl
         have q91:ρ 91=(undef:Value):=hS 19 (by decide) 91 rfl
         exact o_no (want_f (t:=85) rfl q85 hc153) rfl (eo_nil ⟨rfl,rfl,undef,rfl,Fr.refl _ _,rfl⟩)
        ·intro ρ w198o F198o hS hρ
         have q9:ρ 9=.pointer (some ⟨b46,0,none⟩):=hρ 9 (by kernel_rfl)
         have q85:ρ 85=.bool (!(((nth d0.slots s60).key)==((nth x31.1.slots s60).key))):=hS 13 (by decide) 85 rfl
         exact o_no (want_f (t:=85) rfl q85 hc153) rfl (eo_nil ⟨rfl,rfl,undef,rfl,Fr.refl _ _,rfl⟩)
        ·intro ρ w198o F198o hS hρ
         have q85:ρ 85=.bool (!(((nth d0.slots s60).key)==((nth x31.1.slots s60).key))):=hS 13 (by decide) 85 rfl
         have q93:ρ 93=(undef:Value):=hS 21 (by decide) 93 rfl
         exact o_no (want_f (t:=85) rfl q85 hc153) rfl (eo_nil ⟨rfl,rfl,undef,rfl,Fr.refl _ _,rfl⟩)
        ·intro ρ w198o F198o hS hρ
         have q12:ρ 12=.int .i64 s60:=hρ 12 (by kernel_rfl)
         have q85:ρ 85=.bool (!(((nth d0.slots s60).key)==((nth x31.1.slots s60).key))):=hS 13 (by decide) 85 rfl
         exact o_no (want_f (t:=85) rfl q85 hc153) rfl (eo_nil ⟨rfl,rfl,undef,rfl,Fr.refl _ _,rfl⟩)
        ·intro ρ w198o F198o hS hρ
         have q85:ρ 85=.bool (!(((nth d0.slots s60).key)==((nth x31.1.slots s60).key))):=hS 13 (by decide) 85 rfl
         have q94:ρ 94=(undef:Value):=hS 22 (by decide) 94 rfl
         have q95:ρ 95=(undef:Value):=hS 23 (by decide) 95 rfl
         exact o_no (want_f (t:=85) rfl q85 hc153) rfl (eo_nil ⟨rfl,rfl,undef,rfl,Fr.refl _ _,rfl⟩)
        ·intro ρ w198o F198o hS hρ
         have q85:ρ 85=.bool (!(((nth d0.slots s60).key)==((nth x31.1.slots s60).key))):=hS 13 (by decide) 85 rfl
         have q96:ρ 96=(undef:Value):=hS 24 (by decide) 96 rfl
         exact o_no (want_f (t:=85) rfl q85 hc153) rfl (eo_nil ⟨rfl,rfl,undef,rfl,Fr.refl _ _,rfl⟩)
        ·intro ρ w198o F198o hS hρ
         have q85:ρ 85=.bool (!(((nth d0.slots s60).key)==((nth x31.1.slots s60).key))):=hS 13 (by decide) 85 rfl
         have q97:ρ 97=(undef:Value):=hS 25 (by decide) 97 rfl
         exact o_no (want_f (t:=85) rfl q85 hc153) rfl (eo_nil ⟨rfl,rfl,undef,rfl,Fr.refl _ _,rfl⟩)
        ·intro ρ w198o F198o hS hρ
         have q85:ρ 85=.bool (!(((nth d0.slots s60).key)==((nth x31.1.slots s60).key))):=hS 13 (by decide) 85 rfl
         have q98:ρ 98=(undef:Value):=hS 26 (by decide) 98 rfl
         exact o_no (want_f (t:=85) rfl q85 hc153) rfl (eo_nil ⟨rfl,rfl,undef,rfl,Fr.refl _ _,rfl⟩)
        ·intro ρ w198o F198o hS hρ
         have q85:ρ 85=.bool (!(((nth d0.slots s60).key)==((nth x31.1.slots s60).key))):=hS 13 (by decide) 85 rfl
         have q92:ρ 92=(undef:Value):=hS 20 (by decide) 92 rfl
         have q99:ρ 99=(undef:Value):=hS 27 (by decide) 99 rfl
         exact o_no (want_f (t:=85) rfl q85 hc153) rfl (eo_nil ⟨rfl,rfl,undef,rfl,Fr.refl _ _,rfl⟩)
        ·intro ρ w198o F198o hS hρ
         have q85:ρ 85=.bool (!(((nth d0.slots s60).key)==((nth x31.1.slots s60).key))):=hS 13 (by decide) 85 rfl
         have q100:ρ 100=(undef:Value):=hS 28 (by decide) 100 rfl
         exact o_q (r_pickT q85 hc153 rfl) ⟨Fr.refl _ _,rfl⟩
       ·intro ρ w198 F198 hS hρ
        have q101:ρ 101=.bool true:=hS 29 101 rfl
        obtain ⟨ρ',rfl⟩:∃ ρ',ρ=envs (ovr [72,73,74,75,76,77,78,79,80,81,82,83,84,85,86,87,88,89,90,91,92,93,94,95,96,97,98,99,100,101] ρ' _) [(101,.bool true)]:=⟨ρ,ovr_self hρ ⟨q101,trivial⟩⟩
        have E263:=E60r.trans F198
        refine sq_n ?_
        refine ec_condT rfl rfl ?_
        refine ec_seq ?_
        refine ec_region ?_
        refine o_w (v:=.bool false) (r_asg rfl) ?_
        refine eo_nil_sq ?_
        refine ec_ret ?_
        refine blk_ret ?_
        refine sq_ret ?_
        subst h
        exact lqR_r (end1 rfl ⟨_,rfl,E263,rfl⟩)
      ·replace h:=h.2 hc153
       obtain ⟨ha359,h⟩:=h
       obtain ⟨cs360,l362,H361⟩:=Stb.elem (by decide) (H3.up G61 (fun _ h=>h) (upc (.inr m47) (fun _ h=>.inl h))) s60 ha359.1 ha359.2
       obtain ⟨A364,c365,A367,c368,rfl,H363,H366,H369⟩:=kEnt_open2 H361
       obtain ⟨ha370,h⟩:=h
       obtain ⟨cs371,l373,H372⟩:=Stb.elem (by decide) (H42.up G63 (fun _ h=>h) (upc (.inr m49) (fun _ h=>.inl h))) s60 ha370.1 ha370.2
       obtain ⟨A375,c376,A378,c379,rfl,H374,H377,H380⟩:=kEnt_open2 H372
       obtain ⟨ha381,h⟩:=h
       obtain ⟨cs382,l384,H383⟩:=Stb.elem (by decide) (H3.up G61 (fun _ h=>h) (upc (.inr m47) (fun _ h=>.inl h))) s60 ha381.1 ha381.2
       obtain ⟨A386,c387,A389,c390,rfl,H385,H388,H391⟩:=kEnt_open2 H383
       obtain ⟨ha392,h⟩:=h
       obtain ⟨cs393,l395,H394⟩:=Stb.elem (by decide) (H42.up G63 (fun _ h=>h) (upc (.inr m49) (fun _ h=>.inl h))) s60 ha392.1 ha392.2
       obtain ⟨A397,c398,A400,c401,rfl,H396,H399,H402⟩:=kEnt_open2 H394
       refine ec_any0 (by kernel_rfl) [[],[0],[],[0,1,2],[0,1,2,3],[0,1,2,3,4],[],[6],[],[6,7,8],[6,7,8,9],[6,7,8,9,10],[0,1,2,3,4,5,6,7,8,9,10,11],[0,1,2,3,4,5,6,7,8,9,10,11,12],[0,1,2,3,4,5,6,7,8,9,10,11,12,13],[0,1,2,3,4,5,6,7,8,9,10,11,12,13,14],[0,1,2,3,4,5,6,7,8,9,10,11,12,13],[0,1,2,3,4,5,6,7,8,9,10,11,12,13,14,15,16],[0,1,2,3,4,5,6,7,8,9,10,11,12,13,14,15,16,17],[0,1,2,3,4,5,6,7,8,9,10,11,12,13,14,15,16,17,18],[0,1,2,3,4,5,6,7,8,9,10,11,12,13,14,15,16,17,18,19],[0,1,2,3,4,5,6,7,8,9,10,11,12,13],[0,1,2,3,4,5,6,7,8,9,10,11,12,13,21],[0,1,2,3,4,5,6,7,8,9,10,11,12,13],[0,1,2,3,4,5,6,7,8,9,10,11,12,13,21,22,23],[0,1,2,3,4,5,6,7,8,9,10,11,12,13,21,22,23,24],[0,1,2,3,4,5,6,7,8,9,10,11,12,13,21,22,23,24,25],[0,1,2,3,4,5,6,7,8,9,10,11,12,13,21,22,23,24,25,26],[0,1,2,3,4,5,6,7,8,9,10,11,12,13,14,15,16,17,18,19,20,21,22,23,24,25,26,27],[0,1,2,3,4,5,6,7,8,9,10,11,12,13,14,15,16,17,18,19,20,21,22,23,24,25,26,27,28]] [72,73,74,75,76,77,78,79,80,81,82,83,84,85,86,87,88,89,90,91,92,93,94,95,96,97,98,99,100,101] [fun v _=>v=(.pointer (some ⟨b7,1,none⟩):Value),fun v _=>v=(.slice A1 d0.slots.length c2:Value),fun v _=>v=(.int .i64 s60:Value),fun v _=>v=(.pointer (some (elemA A1 kEnt.n s60.toNat)):Value),fun v _=>v=(.pointer (some (ad (elemA A1 kEnt.n s60.toNat) 0)):Value),fun v _=>v=(str ((nth d0.slots s60).key):Value),fun v _=>v=(.pointer (some ⟨b46,1,none⟩):Value),fun v _=>v=(.slice A40 x31.1.slots.length c41:Value),fun v _=>v=(.int .i64 s60:Value),fun v _=>v=(.pointer (some (elemA A40 kEnt.n s60.toNat)):Value),fun v _=>v=(.pointer (some (ad (elemA A40 kEnt.n s60.toNat) 0)):Value),fun v _=>v=(str ((nth x31.1.slots s60).key):Value),fun v _=>v=(.bool (!(((nth d0.slots s60).key)==((nth x31.1.slots s60).key))):Value),fun v _=>v=(.bool (!(((nth d0.slots s60).key)==((nth x31.1.slots s60).key))):Value),fun v _=>v=(.pointer (some ⟨b7,1,none⟩):Value),fun v _=>v=(.slice A1 d0.slots.length c2:Value),fun v _=>v=(.int .i64 s60:Value),fun v _=>v=(.pointer (some (elemA A1 kEnt.n s60.toNat)):Value),fun v _=>v=(.pointer (some (ad (elemA A1 kEnt.n s60.toNat) 1)):Value),fun v _=>v=(.pointer (some (ad (elemA A1 kEnt.n s60.toNat) 1)):Value),fun v _=>v=(.int .i64 (((nth d0.slots s60).val).kind):Value),fun v _=>v=(.pointer (some ⟨b46,1,none⟩):Value),fun v _=>v=(.slice A40 x31.1.slots.length c41:Value),fun v _=>v=(.int .i64 s60:Value),fun v _=>v=(.pointer (some (elemA A40 kEnt.n s60.toNat)):Value),fun v _=>v=(.pointer (some (ad (elemA A40 kEnt.n s60.toNat) 1)):Value),fun v _=>v=(.pointer (some (ad (elemA A40 kEnt.n s60.toNat) 1)):Value),fun v _=>v=(.int .i64 (((nth x31.1.slots s60).val).kind):Value),fun v _=>v=(.bool ((((nth d0.slots s60).val).kind) != (((nth x31.1.slots s60).val).kind)):Value),fun v _=>v=(.bool ((((nth d0.slots s60).val).kind) != (((nth x31.1.slots s60).val).kind)):Value)] (by kernel_rfl) ⟨fun _ _ _ _ _ h=>h,fun _ _ _ _ _ h=>h,fun _ _ _ _ _ h=>h,fun _ _ _ _ _ h=>h,fun _ _ _ _ _ h=>h,fun _ _ _ _ _ h=>h,fun _ _ _ _ _ h=>h,fun _ _ _ _ _ h=>h,fun _ _ _ _ _ h=>h,fun _ _ _ _ _ h=>h,fun _ _ _ _ _ h=>h,fun _ _ _ _ _ h=>h,fun _ _ _ _ _ h=>h,fun _ _ _ _ _ h=>h,fun _ _ _ _ _ h=>h,fun _ _ _ _ _ h=>h,fun _ _ _ _ _ h=>h,fun _ _ _ _ _ h=>h,fun _ _ _ _ _ h=>h,fun _ _ _ _ _ h=>h,fun _ _ _ _ _ h=>h,fun _ _ _ _ _ h=>h,fun _ _ _ _ _ h=>h,fun _ _ _ _ _ h=>h,fun _ _ _ _ _ h=>h,fun _ _ _ _ _ h=>h,fun _ _ _ _ _ h=>h,fun _ _ _ _ _ h=>h,fun _ _ _ _ _ h=>h,fun _ _ _ _ _ h=>h,trivial⟩ ?_ ?_
       ·refine ⟨?_,?_,?_,?_,?_,?_,?_,?_,?_,?_,?_,?_,?_,?_,?_,?_,?_,?_,?_,?_,?_,?_,?_,?_,?_,?_,?_,?_,?_,?_,trivial⟩
        ·intro ρ w358o F358o hS hρ
         have q3:ρ 3=.pointer (some ⟨b7,0,none⟩):=hρ 3 (by kernel_rfl)
         exact o_q (r_fa fld_api_Arena_1 rfl q3) ⟨Fr.refl _ _,rfl⟩
        ·intro ρ w358o F358o hS hρ
         have q72:ρ 72=.pointer (some ⟨b7,1,none⟩):=hS 0 (by decide) 72 rfl
         exact o_q (r_ld one_s_api_Entry q72 ((S7.fr (G62.trans (Fr.ext F358o)) (fun _ h=>h)).now.cell rfl)) ⟨Fr.refl _ _,rfl⟩
        ·intro ρ w358o F358o hS hρ
         have q12:ρ 12=.int .i64 s60:=hρ 12 (by kernel_rfl)
         exact o_q (r_mov q12) ⟨Fr.refl _ _,rfl⟩
        ·intro ρ w358o F358o hS hρ
         have q73:ρ 73=.slice A1 d0.slots.length c2:=hS 1 (by decide) 73 rfl
         have q74:ρ 74=.int .i64 s60:=hS 2 (by decide) 74 rfl
         exact o_q (r_ia slc_s_api_Entry q73 q74 ((H3.fr (G61.trans (Fr.ext F358o)) (fun _ h=>h)).now.2 _ (lt_toNat ha359.1 ha359.2)).1 ha359.1 ha359.2) ⟨Fr.refl _ _,rfl⟩
        ·intro ρ w358o F358o hS hρ
         have q75:ρ 75=.pointer (some (elemA A1 kEnt.n s60.toNat)):=hS 3 (by decide) 75 rfl
         exact o_q (r_fad fld_api_Entry_0 (elemA_spot _ _ _) q75) ⟨Fr.refl _ _,rfl⟩
        ·intro ρ w358o F358o hS hρ
         have G422:Fr (b46::L) w60r w358o:=Fr.ext F358o
         have q76:ρ 76=.pointer (some (ad (elemA A1 kEnt.n s60.toNat) 0)):=hS 4 (by decide) 76 rfl
         exact o_q (r_ld' one_string q76 rfl ((H363.fr G422 (fun _ h=>h)).now.1.at (j:=0) rfl)) ⟨Fr.refl _ _,rfl⟩
        ·intro ρ w358o F358o hS hρ
         have q9:ρ 9=.pointer (some ⟨b46,0,none⟩):=hρ 9 (by kernel_rfl)
         exact o_q (r_fa fld_api_Arena_1 rfl q9) ⟨Fr.refl _ _,rfl⟩
        ·intro ρ w358o F358o hS hρ
         have q78:ρ 78=.pointer (some ⟨b46,1,none⟩):=hS 6 (by decide) 78 rfl
         exact o_q (r_ld one_s_api_Entry q78 ((B60rb46.ex F358o).cell rfl)) ⟨Fr.refl _ _,rfl⟩
        ·intro ρ w358o F358o hS hρ
         have q12:ρ 12=.int .i64 s60:=hρ 12 (by kernel_rfl)
         exact o_q (r_mov q12) ⟨Fr.refl _ _,rfl⟩
        ·intro ρ w358o F358o hS hρ
         have q79:ρ 79=.slice A40 x31.1.slots.length c41:=hS 7 (by decide) 79 rfl
         have q80:ρ 80=.int .i64 s60:=hS 8 (by decide) 80 rfl
         exact o_q (r_ia slc_s_api_Entry q79 q80 ((H42.fr (G63.trans (Fr.ext F358o)) (fun _ h=>h)).now.2 _ (lt_toNat ha370.1 ha370.2)).1 ha370.1 ha370.2) ⟨Fr.refl _ _,rfl⟩
        ·intro ρ w358o F358o hS hρ
         have q81:ρ 81=.pointer (some (elemA A40 kEnt.n s60.toNat)):=hS 9 (by decide) 81 rfl
         exact o_q (r_fad fld_api_Entry_0 (elemA_spot _ _ _) q81) ⟨Fr.refl _ _,rfl⟩
        ·intro ρ w358o F358o hS hρ
         have G443:Fr (b46::L) w60r w358o:=Fr.ext F358o
         have q82:ρ 82=.pointer (some (ad (elemA A40 kEnt.n s60.toNat) 0)):=hS 10 (by decide) 82 rfl
         exact o_q (r_ld' one_string q82 rfl ((H374.fr G443 (fun _ h=>h)).now.1.at (j:=0) rfl)) ⟨Fr.refl _ _,rfl⟩
        ·intro ρ w358o F358o hS hρ
         have q77:ρ 77=str ((nth d0.slots s60).key):=hS 5 (by decide) 77 rfl
         have q83:ρ 83=str ((nth x31.1.slots s60).key):=hS 11 (by decide) 83 rfl
         exact o_q (r_str q77 q83 rfl) ⟨Fr.refl _ _,rfl⟩
        ·intro ρ w358o F358o hS hρ
         have q84:ρ 84=.bool (!(((nth d0.slots s60).key)==((nth x31.1.slots s60).key))):=hS 12 (by decide) 84 rfl
         exact o_q (r_mov q84) ⟨Fr.refl _ _,rfl⟩
        ·intro ρ w358o F358o hS hρ
         have q3:ρ 3=.pointer (some ⟨b7,0,none⟩):=hρ 3 (by kernel_rfl)
         have q85:ρ 85=.bool (!(((nth d0.slots s60).key)==((nth x31.1.slots s60).key))):=hS 13 (by decide) 85 rfl
         exact o_v (r_fa fld_api_Arena_1 rfl q3) (want_t (t:=85) rfl q85 hc153) rfl rfl (eo_nil ⟨rfl,rfl,_,rfl,Fr.refl _ _,rfl⟩)
        ·intro ρ w358o F358o hS hρ
         have q85:ρ 85=.bool (!(((nth d0.slots s60).key)==((nth x31.1.slots s60).key))):=hS 13 (by decide) 85 rfl
         have q86:ρ 86=.pointer (some ⟨b7,1,none⟩):=hS 14 (by decide) 86 rfl
         exact o_v (r_ld one_s_api_Entry q86 ((S7.fr (G62.trans (Fr.ext F358o)) (fun _ h=>h)).now.cell rfl)) (want_t (t:=85) rfl q85 hc153) rfl rfl (eo_nil ⟨rfl,rfl,_,rfl,Fr.refl _ _,rfl⟩)
        ·intro ρ w358o F358o hS hρ
         have q12:ρ 12=.int .i64 s60:=hρ 12 (by kernel_rfl)
         have q85:ρ 85=.bool (!(((nth d0.slots s60).key)==((nth x31.1.slots s60).key))):=hS 13 (by decide) 85 rfl
         exact o_v (r_mov q12) (want_t (t:=85) rfl q85 hc153) rfl rfl (eo_nil ⟨rfl,rfl,_,rfl,Fr.refl _ _,rfl⟩)
        ·intro ρ w358o F358o hS hρ
         have q85:ρ 85=.bool (!(((nth d0.slots s60).key)==((nth x31.1.slots s60).key))):=hS 13 (by decide) 85 rfl
         have q87:ρ 87=.slice A1 d0.slots.length c2:=hS 15 (by decide) 87 rfl
         have q88:ρ 88=.int .i64 s60:=hS 16 (by decide) 88 rfl
         exact o_v (r_ia slc_s_api_Entry q87 q88 ((H3.fr (G61.trans (Fr.ext F358o)) (fun _ h=>h)).now.2 _ (lt_toNat ha381.1 ha381.2)).1 ha381.1 ha381.2) (want_t (t:=85) rfl q85 hc153) rfl rfl (eo_nil ⟨rfl,rfl,_,rfl,Fr.refl _ _,rfl⟩)
        ·intro ρ w358o F358o hS hρ
         have q85:ρ 85=.bool (!(((nth d0.slots s60).key)==((nth x31.1.slots s60).key))):=hS 13 (by decide) 85 rfl
         have q89:ρ 89=.pointer (some (elemA A1 kEnt.n s60.toNat)):=hS 17 (by decide) 89 rfl
         exact o_v (r_fad fld_api_Entry_1 (elemA_spot _ _ _) q89) (want_t (t:=85) rfl q85 hc153) rfl rfl (eo_nil ⟨rfl,rfl,_,rfl,Fr.refl _ _,rfl⟩)
        ·intro ρ w358o F358o hS hρ
         have q85:ρ 85=.bool (!(((nth d0.slots s60).key)==((nth x31.1.slots s60).key))):=hS 13 (by decide) 85 rfl
         have q90:ρ 90=.pointer (some (ad (elemA A1 kEnt.n s60.toNat) 1)):=hS 18 (by decide) 90 rfl
         exact o_v (r_fad2 fld_api_Value_0 rfl rfl q90) (want_t (t:=85) rfl q85 hc153) rfl rfl (eo_nil ⟨rfl,rfl,_,rfl,Fr.refl _ _,rfl⟩)
        ·intro ρ w358o F358o hS hρ
         have G464:Fr (b46::L) w60r w358o:=Fr.ext F358o
         have q85:ρ 85=.bool (!(((nth d0.slots s60).key)==((nth x31.1.slots s60).key))):=hS 13 (by decide) 85 rfl
         have q91:ρ 91=.pointer (some (ad (elemA A1 kEnt.n s60.toNat) 1)):=hS 19 (by decide) 91 rfl
         exact o_v (r_ld' one_int q91 rfl ((H385.fr G464 (fun _ h=>h)).now.1.at (j:=1) rfl)) (want_t (t:=85) rfl q85 hc153) rfl rfl (eo_nil ⟨rfl,rfl,_,rfl,Fr.refl _ _,rfl⟩)
        ·intro ρ w358o F358o hS hρ
         have q9:ρ 9=.pointer (some ⟨b46,0,none⟩):=hρ 9 (by kernel_rfl)
         have q85:ρ 85=.bool (!(((nth d0.slots s60).key)==((nth x31.1.slots s60).key))):=hS 13 (by decide) 85 rfl
         exact o_v (r_fa fld_api_Arena_1 rfl q9) (want_t (t:=85) rfl q85 hc153) rfl rfl (eo_nil ⟨rfl,rfl,_,rfl,Fr.refl _ _,rfl⟩)
        ·intro ρ w358o F358o hS hρ
         have q85:ρ 85=.bool (!(((nth d0.slots s60).key)==((nth x31.1.slots s60).key))):=hS 13 (by decide) 85 rfl
         have q93:ρ 93=.pointer (some ⟨b46,1,none⟩):=hS 21 (by decide) 93 rfl
         exact o_v (r_ld one_s_api_Entry q93 ((B60rb46.ex F358o).cell rfl)) (want_t (t:=85) rfl q85 hc153) rfl rfl (eo_nil ⟨rfl,rfl,_,rfl,Fr.refl _ _,rfl⟩)
        ·intro ρ w358o F358o hS hρ
         have q12:ρ 12=.int .i64 s60:=hρ 12 (by kernel_rfl)
         have q85:ρ 85=.bool (!(((nth d0.slots s60).key)==((nth x31.1.slots s60).key))):=hS 13 (by decide) 85 rfl
         exact o_v (r_mov q12) (want_t (t:=85) rfl q85 hc153) rfl rfl (eo_nil ⟨rfl,rfl,_,rfl,Fr.refl _ _,rfl⟩)
        ·intro ρ w358o F358o hS hρ
         have q85:ρ 85=.bool (!(((nth d0.slots s60).key)==((nth x31.1.slots s60).key))):=hS 13 (by decide) 85 rfl
         have q94:ρ 94=.slice A40 x31.1.slots.length c41:=hS 22 (by decide) 94 rfl
         have q95:ρ 95=.int .i64 s60:=hS 23 (by decide) 95 rfl
         exact o_v (r_ia slc_s_api_Entry q94 q95 ((H42.fr (G63.trans (Fr.ext F358o)) (fun _ h=>h)).now.2 _ (lt_toNat ha392.1 ha392.2)).1 ha392.1 ha392.2) (want_t (t:=85) rfl q85 hc153) rfl rfl (eo_nil ⟨rfl,rfl,_,rfl,Fr.refl _ _,rfl⟩)
        ·intro ρ w358o F358o hS hρ
         have q85:ρ 85=.bool (!(((nth d0.slots s60).key)==((nth x31.1.slots s60).key))):=hS 13 (by decide) 85 rfl
         have q96:ρ 96=.pointer (some (elemA A40 kEnt.n s60.toNat)):=hS 24 (by decide) 96 rfl
         exact o_v (r_fad fld_api_Entry_1 (elemA_spot _ _ _) q96) (want_t (t:=85) rfl q85 hc153) rfl rfl (eo_nil ⟨rfl,rfl,_,rfl,Fr.refl _ _,rfl⟩)
        ·intro ρ w358o F358o hS hρ
         have q85:ρ 85=.bool (!(((nth d0.slots s60).key)==((nth x31.1.slots s60).key))):=hS 13 (by decide) 85 rfl
         have q97:ρ 97=.pointer (some (ad (elemA A40 kEnt.n s60.toNat) 1)):=hS 25 (by decide) 97 rfl
         exact o_v (r_fad2 fld_api_Value_0 rfl rfl q97) (want_t (t:=85) rfl q85 hc153) rfl rfl (eo_nil ⟨rfl,rfl,_,rfl,Fr.refl _ _,rfl⟩)
        ·intro ρ w358o F358o hS hρ
         have G485:Fr (b46::L) w60r w358o:=Fr.ext F358o
         have q85:ρ 85=.bool (!(((nth d0.slots s60).key)==((nth x31.1.slots s60).key))):=hS 13 (by decide) 85 rfl
         have q98:ρ 98=.pointer (some (ad (elemA A40 kEnt.n s60.toNat) 1)):=hS 26 (by decide) 98 rfl
         exact o_v (r_ld' one_int q98 rfl ((H396.fr G485 (fun _ h=>h)).now.1.at (j:=1) rfl)) (want_t (t:=85) rfl q85 hc153) rfl rfl (eo_nil ⟨rfl,rfl,_,rfl,Fr.refl _ _,rfl⟩)
        ·intro ρ w358o F358o hS hρ
         have q85:ρ 85=.bool (!(((nth d0.slots s60).key)==((nth x31.1.slots s60).key))):=hS 13 (by decide) 85 rfl
         have q92:ρ 92=.int .i64 (((nth d0.slots s60).val).kind):=hS 20 (by decide) 92 rfl
         have q99:ρ 99=.int .i64 (((nth x31.1.slots s60).val).kind):=hS 27 (by decide) 99 rfl
         exact o_v (r_int q92 q99 rfl) (want_t (t:=85) rfl q85 hc153) rfl rfl (eo_nil ⟨rfl,rfl,_,rfl,Fr.refl _ _,rfl⟩)
        ·intro ρ w358o F358o hS hρ
         have q85:ρ 85=.bool (!(((nth d0.slots s60).key)==((nth x31.1.slots s60).key))):=hS 13 (by decide) 85 rfl
         have q100:ρ 100=.bool ((((nth d0.slots s60).val).kind) != (((nth x31.1.slots s60).val).kind)):=hS 28 (by decide) 100 rfl
         exact o_q (r_pickF q85 hc153 q100) ⟨Fr.refl _ _,rfl⟩
       ·intro ρ w358 F358 hS hρ
        have q86:ρ 86=.pointer (some ⟨b7,1,none⟩):=hS 14 86 rfl
        have q87:ρ 87=.slice A1 d0.slots.length c2:=hS 15 87 rfl
        have q88:ρ 88=.int .i64 s60:=hS 16 88 rfl
        have q89:ρ 89=.pointer (some (elemA A1 kEnt.n s60.toNat)):=hS 17 89 rfl
        have q90:ρ 90=.pointer (some (ad (elemA A1 kEnt.n s60.toNat) 1)):=hS 18 90 rfl
        have q91:ρ 91=.pointer (some (ad (elemA A1 kEnt.n s60.toNat) 1)):=hS 19 91 rfl
        have q92:ρ 92=.int .i64 (((nth d0.slots s60).val).kind):=hS 20 92 rfl
        have q93:ρ 93=.pointer (some ⟨b46,1,none⟩):=hS 21 93 rfl
        have q94:ρ 94=.slice A40 x31.1.slots.length c41:=hS 22 94 rfl
        have q95:ρ 95=.int .i64 s60:=hS 23 95 rfl
        have q96:ρ 96=.pointer (some (elemA A40 kEnt.n s60.toNat)):=hS 24 96 rfl
        have q97:ρ 97=.pointer (some (ad (elemA A40 kEnt.n s60.toNat) 1)):=hS 25 97 rfl
        have q98:ρ 98=.pointer (some (ad (elemA A40 kEnt.n s60.toNat) 1)):=hS 26 98 rfl
        have q99:ρ 99=.int .i64 (((nth x31.1.slots s60).val).kind):=hS 27 99 rfl
        have q100:ρ 100=.bool ((((nth d0.slots s60).val).kind) != (((nth x31.1.slots s60).val).kind)):=hS 28 100 rfl
        have q101:ρ 101=.bool ((((nth d0.slots s60).val).kind) != (((nth x31.1.slots s60).val).kind)):=hS 29 101 rfl
        obtain ⟨ρ',rfl⟩:∃ ρ',ρ=envs (ovr [72,73,74,75,76,77,78,79,80,81,82,83,84,85,86,87,88,89,90,91,92,93,94,95,96,97,98,99,100,101] ρ' _) [(86,.pointer (some ⟨b7,1,none⟩)),(87,.slice A1 d0.slots.length c2),(88,.int .i64 s60),(89,.pointer (some (elemA A1 kEnt.n s60.toNat))),(90,.pointer (some (ad (elemA A1 kEnt.n s60.toNat) 1))),(91,.pointer (some (ad (elemA A1 kEnt.n s60.toNat) 1))),(92,.int .i64 (((nth d0.slots s60).val).kind)),(93,.pointer (some ⟨b46,1,none⟩)),(94,.slice A40 x31.1.slots.length c41),(95,.int .i64 s60),(96,.pointer (some (elemA A40 kEnt.n s60.toNat))),(97,.pointer (some (ad (elemA A40 kEnt.n s60.toNat) 1))),(98,.pointer (some (ad (elemA A40 kEnt.n s60.toNat) 1))),(99,.int .i64 (((nth x31.1.slots s60).val).kind)),(100,.bool ((((nth d0.slots s60).val).kind) != (((nth x31.1.slots s60).val).kind))),(101,.bool ((((nth d0.slots s60).val).kind) != (((nth x31.1.slots s60).val).kind)))]:=⟨ρ,ovr_self hρ ⟨q86,q87,q88,q89,q90,q91,q92,q93,q94,q95,q96,q97,q98,q99,q100,q101,trivial⟩⟩
        have E487:=E60r.trans F358
        refine sq_n ?_
        refine ec_cond rfl (fun hc494=>?_) (fun hc494=>?_)
        ·replace h:=h.1 hc494
         refine ec_seq ?_
         refine ec_region ?_
         refine o_w (v:=.bool false) (r_asg rfl) ?_
         refine eo_nil_sq ?_
         refine ec_ret ?_
         refine blk_ret ?_
         refine sq_ret ?_
         subst h
         exact lqR_r (end1 rfl ⟨_,rfl,E487,rfl⟩)
        ·replace h:=h.2 hc494
         refine ec_skip ?_
         refine blk_n ?_
         refine sq_n ?_
         refine ec_region ?_
         refine o_w (v:=.int .i64 s60) (r_mov rfl) ?_
         refine o_w (v:=.int .i64 (IntKind.i64.wrap (s60 + (1:Int)))) (r_int rfl rfl rfl) ?_
         refine o_w (v:=.int .i64 (IntKind.i64.wrap (s60 + (1:Int)))) (r_asg rfl) ?_
         refine eo_nil ?_
         subst h
         exact lqR_n ⟨_,envs_self ⟨rfl,rfl,rfl,rfl,rfl,trivial⟩,rfl,(F60r.trans (Fr.ext F358)),E487,(B60rb46.ex F358)⟩
     ·replace h:=h.2 hc64
      refine ec_exit ?_
      refine sq_exit ?_
      subst h
      exact lqR_x ⟨_,envs_self ⟨rfl,rfl,rfl,rfl,rfl,trivial⟩,rfl,F60r,E60r,B60rb46⟩
    ·exact ⟨_,envs_self ⟨rfl,rfl,rfl,rfl,rfl,trivial⟩,rfl,(Fr.refl _ _),E55,B54'⟩
    ·rintro sx60 rfl ρ60e ds60e w60e ⟨ρ60e,rfl,rfl,F60e,E60e,B60eb46⟩
     replace h:=h.1 _ rfl
     have G497:Fr L w31 w60e:=G58.stp F60e (upc (.inr m49) (fun _ h=>.inl h))
     refine blk_hit ?_
     refine sq_n ?_
     refine ec_seq ?_
     refine ec_region ?_
     refine o_w (v:=.agg (cArena x31.1 A40 c41 A43 c44).toArray) (r_lda agg_api_Arena rfl (vs:=(cArena x31.1 A40 c41 A43 c44)) rfl (B60eb46.part (n:=3) rfl)) ?_
     obtain ⟨ha499,h⟩:=h
     obtain ⟨x498,hx498,h⟩:=h
     refine o_call cf_arena_All rfl (arena_All_c x31.1 (kArena_mk (d:=x31.1) (H42.up G497 (fun _ h=>h) (upc (.inr m49) (fun _ h=>.inl h))) (H45.up G497 (fun _ h=>h) (upc (.inr m49) (fun _ h=>.inl h)))) ((hL.fr E60e).cons B60eb46.lt) (eq_ev hx498 (arAll_ev x31.1 ha499))) rfl rfl ?_
     rintro _ w498 ⟨F498,A500,c501,rfl,H502⟩
     have E503:=E60e.trans F498
     refine o_w (v:=.slice A500 x498.length c501) (r_asg rfl) ?_
     refine eo_nil_sq ?_
     iterate 2 refine ec_seq ?_
     refine ec_region ?_
     refine o_w (v:=.int .i64 (1:Int)) (r_asg rfl) ?_
     refine eo_nil_sq ?_
     refine ec_block ?_
     obtain ⟨x508,hl508,h⟩:=h
     refine ec_loopER 2 (I:=(fun (s508:Int) ρ ds w'=>∃ (ρ':Env),ρ=envs ρ' [(14,.int .i64 s508),(2,.int .u8 d2),(7,.bool (worksV)),(9,.pointer (some ⟨b46,0,none⟩)),(13,.slice A500 x498.length c501)]∧ds=[]∧Fr (b46::L) w498 w'∧Ext w w'∧Blk w' b46 25 (cArena x31.1 A40 c41 A43 c44))) (J:=(fun (y':Bool) ρ ds wz=>bodyE Try.prog #[.tmp 6] (Ret fun v w'=>Ext w w'∧v=.bool y') .ret ρ ds wz)) ?_ hl508 ?_ ?_ ?_
     ·intro s508 z508 ρ508 ds508 w508r hI508 hb508
      obtain ⟨ρ508r,rfl,rfl,F508r,E508r,B508rb46⟩:=hI508
      have h:=hb508
      unfold law08_ArenaSlots_b508 at h
      have G512:Fr (b46::L) w498 w508r:=(Fr.refl _ _).stp F508r (upc (.inl (List.Mem.head _)) (fun m hm=>Or.inl (List.Mem.tail _ hm)))
      iterate 2 refine ec_seq ?_
      refine ec_region ?_
      refine o_w (v:=.int .i64 s508) (r_mov rfl) ?_
      refine o_w (v:=.slice A500 x498.length c501) (r_mov rfl) ?_
      refine o_w (v:=.int .i64 (x498.length:Int)) (r_len_slc un_s_api_Entry rfl) ?_
      refine o_w (v:=.bool (decide (s508<(x498.length:Int)))) (r_int rfl rfl rfl) ?_
      refine eo_nil_sq ?_
      refine ec_cond rfl (fun hc513=>?_) (fun hc513=>?_)
      ·replace h:=h.1 hc513
       refine ec_skip ?_
       refine sq_n ?_
       refine ec_seq ?_
       refine ec_block ?_
       refine ec_seq ?_
       obtain ⟨ha537,h⟩:=h
       obtain ⟨cs538,l540,H539⟩:=Stb.elem (by decide) (H502.fr G512 (fun _ h=>h)) (IntKind.i64.wrap (s508 - (1:Int))) ha537.1 ha537.2
       obtain ⟨A542,c543,A545,c546,rfl,H541,H544,H547⟩:=kEnt_open2 H539
       obtain ⟨ha548,h⟩:=h
       obtain ⟨cs549,l551,H550⟩:=Stb.elem (by decide) (H502.fr G512 (fun _ h=>h)) s508 ha548.1 ha548.2
       obtain ⟨A553,c554,A556,c557,rfl,H552,H555,H558⟩:=kEnt_open2 H550
       obtain ⟨x559,hx559,h⟩:=h
       refine ec_any0 (by kernel_rfl) [[],[],[1],[0,1,2],[0,1,2,3],[],[],[5,6],[5,6,7],[0,1,2,3,4,5,6,7,8],[0,1,2,3,4,5,6,7,8,9]] [110,111,112,113,114,115,116,117,118,119,120] [fun v _=>v=(.slice A500 x498.length c501:Value),fun v _=>v=(.int .i64 s508:Value),fun v _=>v=(.int .i64 (IntKind.i64.wrap (s508 - (1:Int))):Value),fun v _=>v=(.pointer (some (elemA A500 kEnt.n (IntKind.i64.wrap (s508 - (1:Int))).toNat)):Value),fun v _=>v=(.agg (cEnt (nth x498 (IntKind.i64.wrap (s508 - (1:Int)))) A542 c543 A545 c546).toArray:Value),fun v _=>v=(.slice A500 x498.length c501:Value),fun v _=>v=(.int .i64 s508:Value),fun v _=>v=(.pointer (some (elemA A500 kEnt.n s508.toNat)):Value),fun v _=>v=(.agg (cEnt (nth x498 s508) A553 c554 A556 c557).toArray:Value),fun v _=>v=(.bool x559:Value),fun v _=>v=(.bool (!x559):Value)] (by kernel_rfl) ⟨fun _ _ _ _ _ h=>h,fun _ _ _ _ _ h=>h,fun _ _ _ _ _ h=>h,fun _ _ _ _ _ h=>h,fun _ _ _ _ _ h=>h,fun _ _ _ _ _ h=>h,fun _ _ _ _ _ h=>h,fun _ _ _ _ _ h=>h,fun _ _ _ _ _ h=>h,fun _ _ _ _ _ h=>h,fun _ _ _ _ _ h=>h,trivial⟩ ?_ ?_
       ·refine ⟨?_,?_,?_,?_,?_,?_,?_,?_,?_,?_,?_,trivial⟩
        ·intro ρ w536o F536o hS hρ
         have q13:ρ 13=.slice A500 x498.length c501:=hρ 13 (by kernel_rfl)
         exact o_q (r_mov q13) ⟨Fr.refl _ _,rfl⟩
        ·intro ρ w536o F536o hS hρ
         have q14:ρ 14=.int .i64 s508:=hρ 14 (by kernel_rfl)
         exact o_q (r_mov q14) ⟨Fr.refl _ _,rfl⟩
        ·intro ρ w536o F536o hS hρ
         have q111:ρ 111=.int .i64 s508:=hS 1 (by decide) 111 rfl
         exact o_q (r_int q111 rfl rfl) ⟨Fr.refl _ _,rfl⟩
        ·intro ρ w536o F536o hS hρ
         have q110:ρ 110=.slice A500 x498.length c501:=hS 0 (by decide) 110 rfl
         have q112:ρ 112=.int .i64 (IntKind.i64.wrap (s508 - (1:Int))):=hS 2 (by decide) 112 rfl
         exact o_q (r_ia slc_s_api_Entry q110 q112 ((H502.fr (G512.trans (Fr.ext F536o)) (fun _ h=>h)).now.2 _ (lt_toNat ha537.1 ha537.2)).1 ha537.1 ha537.2) ⟨Fr.refl _ _,rfl⟩
        ·intro ρ w536o F536o hS hρ
         have G574:Fr (b46::L) w508r w536o:=Fr.ext F536o
         have q113:ρ 113=.pointer (some (elemA A500 kEnt.n (IntKind.i64.wrap (s508 - (1:Int))).toNat)):=hS 3 (by decide) 113 rfl
         exact o_q (r_lda' agg_api_Entry q113 (elemA_spot _ _ _) (vs:=(cEnt (nth x498 (IntKind.i64.wrap (s508 - (1:Int)))) A542 c543 A545 c546)) rfl ((H541.fr G574 (fun _ h=>h)).now.1)) ⟨Fr.refl _ _,rfl⟩
        ·intro ρ w536o F536o hS hρ
         have q13:ρ 13=.slice A500 x498.length c501:=hρ 13 (by kernel_rfl)
         exact o_q (r_mov q13) ⟨Fr.refl _ _,rfl⟩
        ·intro ρ w536o F536o hS hρ
         have q14:ρ 14=.int .i64 s508:=hρ 14 (by kernel_rfl)
         exact o_q (r_mov q14) ⟨Fr.refl _ _,rfl⟩
        ·intro ρ w536o F536o hS hρ
         have q115:ρ 115=.slice A500 x498.length c501:=hS 5 (by decide) 115 rfl
         have q116:ρ 116=.int .i64 s508:=hS 6 (by decide) 116 rfl
         exact o_q (r_ia slc_s_api_Entry q115 q116 ((H502.fr (G512.trans (Fr.ext F536o)) (fun _ h=>h)).now.2 _ (lt_toNat ha548.1 ha548.2)).1 ha548.1 ha548.2) ⟨Fr.refl _ _,rfl⟩
        ·intro ρ w536o F536o hS hρ
         have G590:Fr (b46::L) w508r w536o:=Fr.ext F536o
         have q117:ρ 117=.pointer (some (elemA A500 kEnt.n s508.toNat)):=hS 7 (by decide) 117 rfl
         exact o_q (r_lda' agg_api_Entry q117 (elemA_spot _ _ _) (vs:=(cEnt (nth x498 s508) A553 c554 A556 c557)) rfl ((H552.fr G590 (fun _ h=>h)).now.1)) ⟨Fr.refl _ _,rfl⟩
        ·intro ρ w536o F536o hS hρ
         have E592:=E508r.trans F536o
         have G598:Fr (b46::L) w508r w536o:=Fr.ext F536o
         have q114:ρ 114=.agg (cEnt (nth x498 (IntKind.i64.wrap (s508 - (1:Int)))) A542 c543 A545 c546).toArray:=hS 4 (by decide) 114 rfl
         have q118:ρ 118=.agg (cEnt (nth x498 s508) A553 c554 A556 c557).toArray:=hS 8 (by decide) 118 rfl
         refine o_call cf_entry_Less (by simp only [List.map,ev,q114,q118] <;> rfl) (entry_Less_c (nth x498 (IntKind.i64.wrap (s508 - (1:Int)))) (kEnt_mk (d:=(nth x498 (IntKind.i64.wrap (s508 - (1:Int))))) (H544.fr G598 (fun _ h=>h)) (H547.fr G598 (fun _ h=>h))) (nth x498 s508) (kEnt_mk (d:=(nth x498 s508)) (H555.fr G598 (fun _ h=>h)) (H558.fr G598 (fun _ h=>h))) ((hL.fr E592).cons (B508rb46.ex F536o).lt) (eq_ev hx559 (entLess_ev (nth x498 (IntKind.i64.wrap (s508 - (1:Int)))) (nth x498 s508)))) rfl rfl ?_
         rintro _ w' ⟨F,rfl⟩
         exact eo_nil ⟨rfl,rfl,_,rfl,F,rfl⟩
        ·intro ρ w536o F536o hS hρ
         have q119:ρ 119=.bool x559:=hS 9 (by decide) 119 rfl
         exact o_q (r_not q119) ⟨Fr.refl _ _,rfl⟩
       ·intro ρ w536 F536 hS hρ
        have q120:ρ 120=.bool (!x559):=hS 10 120 rfl
        obtain ⟨ρ',rfl⟩:∃ ρ',ρ=envs (ovr [110,111,112,113,114,115,116,117,118,119,120] ρ' _) [(120,.bool (!x559))]:=⟨ρ,ovr_self hρ ⟨q120,trivial⟩⟩
        have E600:=E508r.trans F536
        refine sq_n ?_
        refine ec_cond rfl (fun hc608=>?_) (fun hc608=>?_)
        ·replace h:=h.1 hc608
         refine ec_seq ?_
         refine ec_region ?_
         refine o_w (v:=.bool false) (r_asg rfl) ?_
         refine eo_nil_sq ?_
         refine ec_ret ?_
         refine blk_ret ?_
         refine sq_ret ?_
         subst h
         exact lqR_r (end1 rfl ⟨_,rfl,E600,rfl⟩)
        ·replace h:=h.2 hc608
         refine ec_skip ?_
         refine blk_n ?_
         refine sq_n ?_
         refine ec_region ?_
         refine o_w (v:=.int .i64 s508) (r_mov rfl) ?_
         refine o_w (v:=.int .i64 (IntKind.i64.wrap (s508 + (1:Int)))) (r_int rfl rfl rfl) ?_
         refine o_w (v:=.int .i64 (IntKind.i64.wrap (s508 + (1:Int)))) (r_asg rfl) ?_
         refine eo_nil ?_
         subst h
         exact lqR_n ⟨_,envs_self ⟨rfl,rfl,rfl,rfl,rfl,trivial⟩,rfl,(F508r.trans (Fr.ext F536)),E600,(B508rb46.ex F536)⟩
      ·replace h:=h.2 hc513
       refine ec_exit ?_
       refine sq_exit ?_
       subst h
       exact lqR_x ⟨_,envs_self ⟨rfl,rfl,rfl,rfl,rfl,trivial⟩,rfl,F508r,E508r,B508rb46⟩
     ·exact ⟨_,envs_self ⟨rfl,rfl,rfl,rfl,rfl,trivial⟩,rfl,(Fr.refl _ _),E503,(B60eb46.ex F498)⟩
     ·rintro sx508 rfl ρ508e ds508e w508e ⟨ρ508e,rfl,rfl,F508e,E508e,B508eb46⟩
      replace h:=h.1 _ rfl
      have G611:Fr L w31 w508e:=(G497.trans (Fr.ext F498)).stp F508e (upc (.inr m49) (fun _ h=>.inl h))
      refine blk_hit ?_
      refine sq_n ?_
      refine ec_seq ?_
      refine ec_region ?_
      refine o_w (v:=.int .u8 d2) (r_mov rfl) ?_
      refine o_w (v:=.int .i64 (IntKind.i64.wrap d2)) (r_conv un_uint8 un_int rfl) ?_
      refine o_w (v:=.int .i64 (Int.tmod (IntKind.i64.wrap d2) (4:Int))) (r_rem rfl rfl rfl) ?_
      refine o_w (v:=.int .i64 (IntKind.i64.wrap ((Int.tmod (IntKind.i64.wrap d2) (4:Int)) + (1:Int)))) (r_int rfl rfl rfl) ?_
      refine o_w (v:=.int .i64 (IntKind.i64.wrap ((Int.tmod (IntKind.i64.wrap d2) (4:Int)) + (1:Int)))) (r_asg rfl) ?_
      refine eo_nil_sq ?_
      refine ec_seq ?_
      refine ec_region ?_
      refine o_w (v:=.slice none ([]:List Ent).length 0) (r_asg rfl) ?_
      refine eo_nil_sq ?_
      iterate 2 refine ec_seq ?_
      refine ec_region ?_
      refine o_w (v:=.int .i64 (0:Int)) (r_asg rfl) ?_
      refine eo_nil_sq ?_
      refine ec_block ?_
      have lo614:w.heap.size≤w508e.heap.size:=E508e.size
      have O614:=OwnS.nil (k:=kEnt) (e:=42) (by decide) ((hL.fr E508e).cons B508eb46.lt)
      obtain ⟨x613,hl613,h⟩:=h
      refine ec_loopE 4 (I:=(fun (s613:List Ent × Int) ρ ds w'=>∃ (ρ':Env) (v613i1:Value),ρ=envs ρ' [(16,v613i1),(17,.int .i64 s613.2),(7,.bool (worksV)),(9,.pointer (some ⟨b46,0,none⟩)),(13,.slice A500 x498.length c501),(15,.int .i64 (IntKind.i64.wrap ((Int.tmod (IntKind.i64.wrap d2) (4:Int)) + (1:Int))))]∧ds=[]∧Fr (own (.slice none 0 0)++(b46::L)) w508e w'∧Ext w w'∧OwnS kEnt (w508e.heap.size) 42 (b46::L) w' v613i1 s613.1∧(∀ q∈own v613i1,q∈(own (.slice none 0 0)++(b46::L))∨w508e.heap.size≤q)∧Blk w' b46 25 (cArena x31.1 A40 c41 A43 c44))) ?_ hl613 ?_ ?_
      ·intro s613 z613 ρ613 ds613 w613r hI613 hb613
       obtain ⟨ρ613r,v613r1,rfl,rfl,F613r,E613r,O613r1,N613r1,B613rb46⟩:=hI613
       have h:=hb613
       unfold law08_ArenaSlots_b613 at h
       have G617:Fr L w31 w613r:=G611.stp F613r (upo (fun m hm=>by cases hm) (upc (.inr m49) (fun _ h=>.inl h)))
       have P621:∀ m∈own v613r1,m∈L∨w31.heap.size≤m:=fun m hm=>(N613r1 m hm).elim (fun h=>(show ∀ m∈(own (.slice none 0 0)++(b46::L)),m∈L∨w31.heap.size≤m from (upo (fun m hm=>by cases hm) (upc (.inr m49) (fun _ h=>.inl h)))) m h) (fun h=>.inr (Nat.le_trans (G611.size) h))
       iterate 2 refine ec_seq ?_
       refine ec_region ?_
       refine o_w (v:=.int .i64 s613.2) (r_mov rfl) ?_
       refine o_w (v:=.pointer (some ⟨b46,1,none⟩)) (r_fa fld_api_Arena_1 rfl rfl) ?_
       refine o_w (v:=.slice A40 x31.1.slots.length c41) (r_ld one_s_api_Entry rfl (B613rb46.cell rfl)) ?_
       refine o_w (v:=.int .i64 (x31.1.slots.length:Int)) (r_len_slc un_s_api_Entry rfl) ?_
       refine o_w (v:=.bool (decide (s613.2<(x31.1.slots.length:Int)))) (r_int rfl rfl rfl) ?_
       refine eo_nil_sq ?_
       refine ec_cond rfl (fun hc623=>?_) (fun hc623=>?_)
       ·replace h:=h.1 hc623
        refine ec_skip ?_
        refine sq_n ?_
        refine ec_seq ?_
        refine ec_block ?_
        refine ec_region ?_
        refine o_w (v:=v613r1) (r_mov rfl) ?_
        refine o_w (v:=.agg (cArena x31.1 A40 c41 A43 c44).toArray) (r_lda agg_api_Arena rfl (vs:=(cArena x31.1 A40 c41 A43 c44)) rfl (B613rb46.part (n:=3) rfl)) ?_
        refine o_w (v:=.int .i64 s613.2) (r_mov rfl) ?_
        refine o_w (v:=.int .i64 (IntKind.i64.wrap ((Int.tmod (IntKind.i64.wrap d2) (4:Int)) + (1:Int)))) (r_mov rfl) ?_
        obtain ⟨ha625,h⟩:=h
        obtain ⟨x624,hx624,h⟩:=h
        refine o_call cf_arena_Chunk rfl (arena_Chunk_c x31.1 (kArena_mk (d:=x31.1) (H42.up G617 (fun _ h=>h) (upo P621 (upc (.inr m49) (fun _ h=>.inl h)))) (H45.up G617 (fun _ h=>h) (upo P621 (upc (.inr m49) (fun _ h=>.inl h))))) s613.2 (IntKind.i64.wrap ((Int.tmod (IntKind.i64.wrap d2) (4:Int)) + (1:Int))) (((hL.fr E613r).cons B613rb46.lt).own O613r1) (eq_ev hx624 (arChunk_ev x31.1 s613.2 (IntKind.i64.wrap ((Int.tmod (IntKind.i64.wrap d2) (4:Int)) + (1:Int))) ha625))) rfl rfl ?_
        rintro _ w624 ⟨F624,A626,c627,rfl,H628⟩
        have E629:=E613r.trans F624
        obtain ⟨ha638,h⟩:=h
        refine o_appsl slc_s_api_Entry rfl rfl kEnt_one rfl (O613r1.ex F624) rfl H628 ha638 rfl rfl ?_
        intro v637 w637 F637 O637 N637
        have P643:∀ m∈own v637,m∈(own (.slice none 0 0)++(b46::L))∨w508e.heap.size≤m:=fun m hm=>(N637 m hm).elim (fun h=>(show ∀ m∈own v613r1,m∈(own (.slice none 0 0)++(b46::L))∨w508e.heap.size≤m from N613r1) m h) (fun h=>.inr (Nat.le_trans ((F613r.trans (Fr.ext F624)).size) h))
        have E645:=Ext.st E629 F637 (fun m hm=>Nat.le_trans lo614 ((O613r1.ex F624).lo m hm))
        have G650:Fr (own (.slice none 0 0)++(b46::L)) w508e w637:=(F613r.trans (Fr.ext F624)).stp F637 N613r1
        have B652:=(B613rb46.ex F624).fr F637 (fun hm=>((O613r1.ex F624).below b46 (by simp)).2 hm)
        refine o_w (v:=v637) (r_asg rfl) ?_
        refine eo_nil ?_
        refine blk_n ?_
        refine sq_n ?_
        refine ec_region ?_
        refine o_w (v:=.int .i64 s613.2) (r_mov rfl) ?_
        refine o_w (v:=.int .i64 (IntKind.i64.wrap ((Int.tmod (IntKind.i64.wrap d2) (4:Int)) + (1:Int)))) (r_mov rfl) ?_
        refine o_w (v:=.int .i64 (IntKind.i64.wrap (s613.2 + (IntKind.i64.wrap ((Int.tmod (IntKind.i64.wrap d2) (4:Int)) + (1:Int)))))) (r_int rfl rfl rfl) ?_
        refine o_w (v:=.int .i64 (IntKind.i64.wrap (s613.2 + (IntKind.i64.wrap ((Int.tmod (IntKind.i64.wrap d2) (4:Int)) + (1:Int)))))) (r_asg rfl) ?_
        refine eo_nil ?_
        subst h
        exact lq_n ⟨_,v637,envs_self ⟨rfl,rfl,rfl,rfl,rfl,rfl,trivial⟩,rfl,G650,E645,O637,P643,B652⟩
       ·replace h:=h.2 hc623
        refine ec_exit ?_
        refine sq_exit ?_
        subst h
        exact lq_x ⟨_,v613r1,envs_self ⟨rfl,rfl,rfl,rfl,rfl,rfl,trivial⟩,rfl,F613r,E613r,O613r1,N613r1,B613rb46⟩
      ·exact ⟨_,(.slice none 0 0),envs_self ⟨rfl,rfl,rfl,rfl,rfl,rfl,trivial⟩,rfl,(Fr.refl _ _),E508e,O614,(fun q hq=>.inl (by first | exact List.mem_append_left _ hq | simp [hq])),B508eb46⟩
      ·rintro ρ613e ds613e w613e ⟨ρ613e,v613e1,rfl,rfl,F613e,E613e,O613e1,N613e1,B613eb46⟩
       have G655:Fr L w31 w613e:=G611.stp F613e (upo (fun m hm=>by cases hm) (upc (.inr m49) (fun _ h=>.inl h)))
       refine blk_hit ?_
       refine sq_n ?_
       refine ec_seq ?_
       refine ec_region ?_
       refine o_w (v:=v613e1) (r_mov rfl) ?_
       refine o_w (v:=.pointer (some ⟨b46,1,none⟩)) (r_fa fld_api_Arena_1 rfl rfl) ?_
       refine o_w (v:=.slice A40 x31.1.slots.length c41) (r_ld one_s_api_Entry rfl (B613eb46.cell rfl)) ?_
       obtain ⟨A662,c663,eA662,H664⟩:=O613e1.still
       subst eA662
       have Zw613e_665:=Fr.refl (b46::L) w613e
       obtain ⟨ha667,h⟩:=h
       refine o_call cf_ref07_All rfl (ref07_All_c x613.1 (H664.fr Zw613e_665 (fun _ h=>h)) x31.1.slots (H42.up G655 (fun _ h=>h) (upc (.inr m49) (fun _ h=>.inl h))) ((hL.fr E613e).cons B613eb46.lt) (refAll_ev x613.1 x31.1.slots ha667)) rfl rfl ?_
       rintro _ w661 ⟨F661,rfl⟩
       have E668:=E613e.trans F661
       refine o_w (v:=.bool (allE x613.1 x31.1.slots)) (r_asg rfl) ?_
       refine eo_nil_sq ?_
       refine ec_seq ?_
       refine ec_region ?_
       iterate 2 refine o_w (v:=.bool (worksV)) (r_mov rfl) ?_
       refine o_v (v:=.bool (allE x613.1 x31.1.slots)) (r_mov rfl) (want_t (t:=144) rfl rfl (of_not hc13)) rfl rfl ?_
       refine o_w (v:=.bool (allE x613.1 x31.1.slots)) (r_pickT rfl (of_not hc13) rfl) ?_
       refine o_w (v:=.bool (allE x613.1 x31.1.slots)) (r_mov rfl) ?_
       refine o_vg (v:=.slice A500 x498.length c501) (want_ct (t:=147) rfl rfl) (fun hk=>(r_mov rfl)) rfl rfl ?_
       refine o_vg (v:=.int .i64 (x498.length:Int)) (want_ct (t:=147) rfl rfl) (fun hk=>(r_len_slc un_s_api_Entry (gdT hk))) rfl rfl ?_
       refine o_vg (v:=.pointer (some ⟨b46,1,none⟩)) (want_ct (t:=147) rfl rfl) (fun hk=>(r_fa fld_api_Arena_1 rfl rfl)) rfl rfl ?_
       refine o_vg (v:=.slice A40 x31.1.slots.length c41) (want_ct (t:=147) rfl rfl) (fun hk=>(r_ld one_s_api_Entry (gdT hk) ((B613eb46.ex F661).cell rfl))) rfl rfl ?_
       refine o_vg (v:=.int .i64 (x31.1.slots.length:Int)) (want_ct (t:=147) rfl rfl) (fun hk=>(r_len_slc un_s_api_Entry (gdT hk))) rfl rfl ?_
       refine o_vg (v:=.bool ((x498.length:Int)==(x31.1.slots.length:Int))) (want_ct (t:=147) rfl rfl) (fun hk=>(r_int (gdT hk) (gdT hk) rfl)) rfl rfl ?_
       refine o_w (v:=.bool ((allE x613.1 x31.1.slots)&&((x498.length:Int)==(x31.1.slots.length:Int)))) (r_pickAnd rfl (fun ht=>(gdT ht)) rfl) ?_
       refine o_w (v:=.bool ((allE x613.1 x31.1.slots)&&((x498.length:Int)==(x31.1.slots.length:Int)))) (r_asg rfl) ?_
       refine eo_nil_sq ?_
       refine ec_ret ?_
       subst h
       exact (end1 rfl ⟨_,rfl,E668,rfl⟩)
     ·rintro y508 rfl ρ508q ds508q w508q hJ
      have hy:=h.2 _ rfl
      subst hy
      refine blk_ret ?_
      refine sq_ret ?_
      exact hJ
    ·rintro y60 rfl ρ60q ds60q w60q hJ
     have hy:=h.2 _ rfl
     subst hy
     refine blk_ret ?_
     refine sq_ret ?_
     exact hJ
end Go.Proofs.Ythifkdgljapmeaa
