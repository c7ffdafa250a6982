/- The law ArenaHolds: what it comes to. -/
import Derived.Test.YthifkdgljapmeaaEy
namespace Go.Proofs.Ythifkdgljapmeaa
open Go Go.RowKit
set_option linter.unusedVariables false
set_option linter.unusedSimpArgs false
def law08_ArenaHolds_raw (d0:Arena) (d1:Ent) (y:Bool):Prop :=
 ((!(worksV))=true→(y=false))∧((!(worksV))=false→(((!((fewA d0)&&(fewE d1)))=true→(y=(worksV)))∧((!((fewA d0)&&(fewE d1)))=false→((sma d0)∧((sm d1.val)∧((WfV d1.val)∧(∃ x37,x37=(joinA d0 d1)∧(((x37.2.2 != (0:Int))=true→(((!x37.2.1)=true→sma d0)∧(y=((!x37.2.1)&&(sameA d0 x37.1)))))∧((x37.2.2 != (0:Int))=false→((sma x37.1)∧(((!((decide ((findA x37.1 d1.val.kind d1.key)<(0:Int)))||(decide ((x37.1.slots.length:Int)≤(findA x37.1 d1.val.kind d1.key)))))=true→sma d0)∧(((!((decide ((findA x37.1 d1.val.kind d1.key)<(0:Int)))||(decide ((x37.1.slots.length:Int)≤(findA x37.1 d1.val.kind d1.key)))))=true→sma x37.1)∧(((!(((decide ((findA x37.1 d1.val.kind d1.key)<(0:Int)))||(decide ((x37.1.slots.length:Int)≤(findA x37.1 d1.val.kind d1.key))))||(!(belowA d0 x37.1))))=true→sma x37.1)∧((((((decide ((findA x37.1 d1.val.kind d1.key)<(0:Int)))||(decide ((x37.1.slots.length:Int)≤(findA x37.1 d1.val.kind d1.key))))||(!(belowA d0 x37.1)))||((checkA x37.1) != (0:Int)))=true→(y=false))∧(((((decide ((findA x37.1 d1.val.kind d1.key)<(0:Int)))||(decide ((x37.1.slots.length:Int)≤(findA x37.1 d1.val.kind d1.key))))||(!(belowA d0 x37.1)))||((checkA x37.1) != (0:Int)))=false→((0≤(findA x37.1 d1.val.kind d1.key)∧(findA x37.1 d1.val.kind d1.key)<(x37.1.slots.length:Int))∧(sm (nth x37.1.slots (findA x37.1 d1.val.kind d1.key)).val∧(sm d1.val∧(∃ x130,x130=(joinE (nth x37.1.slots (findA x37.1 d1.val.kind d1.key)) d1)∧((sma x37.1)∧((sm d1.val)∧((WfV d1.val)∧(∃ x195,x195=(joinA x37.1 d1)∧(((x130.2==(0:Int))=true→((0≤(findA x37.1 d1.val.kind d1.key)∧(findA x37.1 d1.val.kind d1.key)<(x37.1.slots.length:Int))∧(sm x130.1.val∧(∃ x308,x308=(sameE x130.1 (nth x37.1.slots (findA x37.1 d1.val.kind d1.key)))∧((((x308&&(!x195.2.1))&&(x195.2.2==(0:Int)))=true→sma x37.1)∧(((((x308&&(!x195.2.1))&&(x195.2.2==(0:Int)))&&(sameA x37.1 x195.1))=true→sma d0)∧(((((x308&&(!x195.2.1))&&(x195.2.2==(0:Int)))&&(sameA x37.1 x195.1))=true→sma x37.1)∧(y=((((x308&&(!x195.2.1))&&(x195.2.2==(0:Int)))&&(sameA x37.1 x195.1))&&(x37.2.1==(!(alikeA d0 x37.1))))))))))))∧((x130.2==(0:Int))=false→(y=false))))))))))))))))))))))))))
set_option maxRecDepth 20000 in
set_option maxHeartbeats 4000000 in
theorem law08_ArenaHolds_c {L:List Nat} {w:World} {csP0:List Value} (d0:Arena) (HP0:Stb L w (fun w=>kArena.r w csP0 d0)) {csP1:List Value} (d1:Ent) (HP1:Stb L w (fun w=>kEnt.r w csP1 d1)) (hL:Lt L w) {y:Bool} (h:law08_ArenaHolds_raw d0 d1 y) :
  Calls Try.prog 5 [.agg csP0.toArray,.agg csP1.toArray].toArray w (Ret fun v w'=>Ext w w'∧v=.bool y):=by
 obtain ⟨A1,c2,A4,c5,rfl,H3,H6⟩:=kArena_open HP0
 obtain ⟨A7,c8,A10,c11,rfl,H9,H12⟩:=kEnt_open HP1
 unfold law08_ArenaHolds_raw at h
 refine calls_ec Try.func5 rfl rfl rfl ?_
 refine ec_seq ?_
 refine ec_region ?_
 refine o_box (cs:=(cArena d0 A1 c2 A4 c5)) rfl rfl rfl ?_
 intro b13 w13 e13 F13 B13
 have S13:=B13.stb (nin hL e13)
 have G14:Fr L w w13:=Fr.ext F13
 refine o_box (cs:=(cEnt d1 A7 c8 A10 c11)) rfl rfl rfl ?_
 intro b15 w15 e15 F15 B15
 have S15:=B15.stb (nin (hL.fr F13) e15)
 have E16:=F13.trans F15
 have G18:Fr L w13 w15:=Fr.ext F15
 refine o_w (v:=.bool false) (r_asg rfl) ?_
 refine eo_nil_sq ?_
 refine ec_seq ?_
 refine ec_region ?_
 refine o_call cf_law08_works rfl (law08_works_c (hL.fr E16) (works8_ev)) rfl rfl ?_
 rintro _ w19 ⟨F19,rfl⟩
 have E20:=E16.trans F19
 have G23:Fr L w15 w19:=Fr.ext F19
 refine o_w (v:=.bool (worksV)) (r_asg rfl) ?_
 refine eo_nil_sq ?_
 iterate 2 refine ec_seq ?_
 refine ec_region ?_
 refine o_w (v:=.bool (worksV)) (r_mov rfl) ?_
 refine o_w (v:=.bool (!(worksV))) (r_not rfl) ?_
 refine eo_nil_sq ?_
 refine ec_cond rfl (fun hc24=>?_) (fun hc24=>?_)
 ·replace h:=h.1 hc24
  refine ec_seq ?_
  refine ec_region ?_
  refine o_w (v:=.bool false) (r_asg rfl) ?_
  refine eo_nil_sq ?_
  refine ec_ret ?_
  refine sq_ret ?_
  subst h
  exact (end1 rfl ⟨_,rfl,E20,rfl⟩)
 ·replace h:=h.2 hc24
  refine ec_skip ?_
  refine sq_n ?_
  refine ec_seq ?_
  refine ec_region ?_
  refine o_w (v:=.agg (cArena d0 A1 c2 A4 c5).toArray) (r_lda agg_api_Arena rfl (vs:=(cArena d0 A1 c2 A4 c5)) rfl ((S13.fr (G18.trans (Fr.ext F19)) (fun _ h=>h)).now.part (n:=3) rfl)) ?_
  refine o_call cf_law08_Few rfl (law08_Few_c d0 (kArena_mk (d:=d0) (H3.fr ((G14.trans (Fr.ext F15)).trans (Fr.ext F19)) (fun _ h=>h)) (H6.fr ((G14.trans (Fr.ext F15)).trans (Fr.ext F19)) (fun _ h=>h))) (hL.fr E20) (fewA_ev d0)) rfl rfl ?_
  rintro _ w26 ⟨F26,rfl⟩
  have E27:=E20.trans F26
  refine o_w (v:=.bool (fewA d0)) (r_mov rfl) ?_
  refine o_vg (v:=.agg (cEnt d1 A7 c8 A10 c11).toArray) (want_ct (t:=21) rfl rfl) (fun hk=>(r_lda agg_api_Entry rfl (vs:=(cEnt d1 A7 c8 A10 c11)) rfl ((S15.fr (G23.trans (Fr.ext F26)) (fun _ h=>h)).now.part (n:=9) rfl))) rfl rfl ?_
  refine o_callg (V:=.bool (fewE d1)) cf_law07_Few (want_ct (t:=21) rfl rfl) (fun hk=>(mapv1 (gdT hk))) (fun hk=>(law07_Few_c d1 (kEnt_mk (d:=d1) (H9.fr (((G14.trans (Fr.ext F15)).trans (Fr.ext F19)).trans (Fr.ext F26)) (fun _ h=>h)) (H12.fr (((G14.trans (Fr.ext F15)).trans (Fr.ext F19)).trans (Fr.ext F26)) (fun _ h=>h))) (hL.fr E27) (fewE_ev d1))) rfl ?_
  intro w31 F31
  have E32:=E27.trans F31
  have G33:=(((G14.trans (Fr.ext F15)).trans (Fr.ext F19)).trans (Fr.ext F26)).trans (Fr.ext F31)
  refine o_w (v:=.bool ((fewA d0)&&(fewE d1))) (r_pickAnd rfl (fun ht=>(gdT ht)) rfl) ?_
  refine o_w (v:=.bool ((fewA d0)&&(fewE d1))) (r_asg rfl) ?_
  refine eo_nil_sq ?_
  iterate 2 refine ec_seq ?_
  refine ec_region ?_
  refine o_w (v:=.bool ((fewA d0)&&(fewE d1))) (r_mov rfl) ?_
  refine o_w (v:=.bool (!((fewA d0)&&(fewE d1)))) (r_not rfl) ?_
  refine eo_nil_sq ?_
  refine ec_cond rfl (fun hc36=>?_) (fun hc36=>?_)
  ·replace h:=h.1 hc36
   refine ec_seq ?_
   refine ec_region ?_
   refine o_w (v:=.bool (worksV)) (r_mov rfl) ?_
   refine o_w (v:=.bool (worksV)) (r_asg rfl) ?_
   refine eo_nil_sq ?_
   refine ec_ret ?_
   refine sq_ret ?_
   subst h
   exact (end1 rfl ⟨_,rfl,E32,rfl⟩)
  ·replace h:=h.2 hc36
   refine ec_skip ?_
   refine sq_n ?_
   refine ec_seq ?_
   refine ec_region ?_
   refine o_w (v:=.agg (cArena d0 A1 c2 A4 c5).toArray) (r_lda agg_api_Arena rfl (vs:=(cArena d0 A1 c2 A4 c5)) rfl ((S13.fr (((G18.trans (Fr.ext F19)).trans (Fr.ext F26)).trans (Fr.ext F31)) (fun _ h=>h)).now.part (n:=3) rfl)) ?_
   refine o_w (v:=.agg (cEnt d1 A7 c8 A10 c11).toArray) (r_lda agg_api_Entry rfl (vs:=(cEnt d1 A7 c8 A10 c11)) rfl ((S15.fr ((G23.trans (Fr.ext F26)).trans (Fr.ext F31)) (fun _ h=>h)).now.part (n:=9) rfl)) ?_
   obtain ⟨ha38,h⟩:=h
   obtain ⟨ha39,h⟩:=h
   obtain ⟨ha40,h⟩:=h
   obtain ⟨x37,hx37,h⟩:=h
   refine o_call cf_arena_Join rfl (arena_Join_c d0 (kArena_mk (d:=d0) (H3.fr G33 (fun _ h=>h)) (H6.fr G33 (fun _ h=>h))) d1 (kEnt_mk (d:=d1) (H9.fr G33 (fun _ h=>h)) (H12.fr G33 (fun _ h=>h))) (hL.fr E32) (eq_ev hx37 (arJoin_ev d0 d1 ha38 ha39 ha40))) rfl rfl ?_
   rintro _ w37 ⟨F37,cs41,rfl,H42⟩
   have E43:=E32.trans F37
   have G45:=(((G18.trans (Fr.ext F19)).trans (Fr.ext F26)).trans (Fr.ext F31)).trans (Fr.ext F37)
   obtain ⟨A47,c48,A50,c51,rfl,H49,H52⟩:=kArena_open H42
   refine o_w (v:=.tuple #[.agg (cArena x37.1 A47 c48 A50 c51).toArray,.bool x37.2.1,.int .i64 x37.2.2]) (r_mov rfl) ?_
   refine o_w (v:=.agg (cArena x37.1 A47 c48 A50 c51).toArray) (r_ext rfl rfl) ?_
   refine o_w (v:=.bool x37.2.1) (r_ext rfl rfl) ?_
   refine o_w (v:=.int .i64 x37.2.2) (r_ext rfl rfl) ?_
   refine o_alloc zero_api_Arena rfl rfl rfl ?_
   intro b53 w53 e53 F53 B53
   have n53:w.heap.size≤b53:=by rw [e53]; exact E43.size
   have m54:w.heap.size≤b53:=by rw [e53]; exact (G33.trans (Fr.ext F37)).size
   have m55:w13.heap.size≤b53:=by rw [e53]; exact G45.size
   have m56:w15.heap.size≤b53:=by rw [e53]; exact (((G23.trans (Fr.ext F26)).trans (Fr.ext F31)).trans (Fr.ext F37)).size
   have m57:w37.heap.size≤b53:=Nat.le_of_eq e53.symm
   have E58:=E43.trans F53
   have G61:=(((G23.trans (Fr.ext F26)).trans (Fr.ext F31)).trans (Fr.ext F37)).trans (Fr.ext F53)
   have G62:Fr L w37 w53:=Fr.ext F53
   refine o_store rfl B53 (vs:=(cArena x37.1 A47 c48 A50 c51)) rfl sz_api_Arena rfl rfl rfl ?_
   intro w63 F63 B63
   have E64:=Ext.st E58 F63 (by simp; omega)
   have G65:Fr L w w63:=((G33.trans (Fr.ext F37)).trans (Fr.ext F53)).stp F63 (upc (.inr m54) (fun m hm=>by cases hm))
   have G66:Fr L w13 w63:=(G45.trans (Fr.ext F53)).stp F63 (upc (.inr m55) (fun m hm=>by cases hm))
   have G67:Fr L w15 w63:=G61.stp F63 (upc (.inr m56) (fun m hm=>by cases hm))
   have G68:Fr L w37 w63:=G62.stp F63 (upc (.inr m57) (fun m hm=>by cases hm))
   have B63':Blk w63 b53 _ (cArena x37.1 A47 c48 A50 c51):=B63
   refine o_w (v:=.bool x37.2.1) (r_asg rfl) ?_
   refine o_w (v:=.int .i64 x37.2.2) (r_asg rfl) ?_
   refine eo_nil_sq ?_
   iterate 2 refine ec_seq ?_
   refine ec_region ?_
   refine o_w (v:=.int .i64 x37.2.2) (r_mov rfl) ?_
   refine o_w (v:=.bool (x37.2.2 != (0:Int))) (r_int rfl rfl rfl) ?_
   refine eo_nil_sq ?_
   refine ec_cond rfl (fun hc69=>?_) (fun hc69=>?_)
   ·replace h:=h.1 hc69
    refine ec_seq ?_
    refine ec_region ?_
    iterate 2 refine o_w (v:=.bool (worksV)) (r_mov rfl) ?_
    refine o_v (v:=.bool x37.2.1) (r_mov rfl) (want_t (t:=38) rfl rfl (of_not hc24)) rfl rfl ?_
    refine o_v (v:=.bool (!x37.2.1)) (r_not rfl) (want_t (t:=38) rfl rfl (of_not hc24)) rfl rfl ?_
    refine o_w (v:=.bool (!x37.2.1)) (r_pickT rfl (of_not hc24) rfl) ?_
    refine o_w (v:=.bool (!x37.2.1)) (r_mov rfl) ?_
    refine o_vg (v:=.agg (cArena d0 A1 c2 A4 c5).toArray) (want_ct (t:=42) rfl rfl) (fun hk=>(r_lda agg_api_Arena rfl (vs:=(cArena d0 A1 c2 A4 c5)) rfl ((S13.fr G66 (fun _ h=>h)).now.part (n:=3) rfl))) rfl rfl ?_
    refine o_vg (v:=.agg (cArena x37.1 A47 c48 A50 c51).toArray) (want_ct (t:=42) rfl rfl) (fun hk=>(r_lda agg_api_Arena rfl (vs:=(cArena x37.1 A47 c48 A50 c51)) rfl (B63'.part (n:=3) rfl))) rfl rfl ?_
    obtain ⟨ha72,h⟩:=h
    refine o_callg (V:=.bool (sameA d0 x37.1)) cf_arena_Same (want_ct (t:=42) rfl rfl) (fun hk=>(mapv2 (gdT hk) (gdT hk))) (fun hk=>(arena_Same_c d0 (kArena_mk (d:=d0) (H3.up G65 (fun _ h=>h) (upc (.inr m54) (fun _ h=>.inl h))) (H6.up G65 (fun _ h=>h) (upc (.inr m54) (fun _ h=>.inl h)))) x37.1 (kArena_mk (d:=x37.1) (H49.up G68 (fun _ h=>h) (upc (.inr m57) (fun _ h=>.inl h))) (H52.up G68 (fun _ h=>h) (upc (.inr m57) (fun _ h=>.inl h)))) ((hL.fr E64).cons B63'.lt) (arSame_ev d0 x37.1 (ha72 hk)))) rfl ?_
    intro w71 F71
    have E73:=E64.trans F71
    refine o_w (v:=.bool ((!x37.2.1)&&(sameA d0 x37.1))) (r_pickAnd rfl (fun ht=>(gdT ht)) rfl) ?_
    refine o_w (v:=.bool ((!x37.2.1)&&(sameA d0 x37.1))) (r_asg rfl) ?_
    refine eo_nil_sq ?_
    refine ec_ret ?_
    refine sq_ret ?_
    subst h
    exact (end1 rfl ⟨_,rfl,E73,rfl⟩)
   ·replace h:=h.2 hc69
    refine ec_skip ?_
    refine sq_n ?_
    refine ec_seq ?_
    refine ec_region ?_
    refine o_w (v:=.agg (cArena x37.1 A47 c48 A50 c51).toArray) (r_lda agg_api_Arena rfl (vs:=(cArena x37.1 A47 c48 A50 c51)) rfl (B63'.part (n:=3) rfl)) ?_
    refine o_w (v:=.pointer (some ⟨b15,1,none⟩)) (r_fa fld_api_Entry_1 rfl rfl) ?_
    refine o_w (v:=.pointer (some ⟨b15,1,none⟩)) (r_fa fld_api_Value_0 rfl rfl) ?_
    refine o_w (v:=.int .i64 d1.val.kind) (r_ld one_int rfl ((S15.fr G67 (fun _ h=>h)).now.cell rfl)) ?_
    refine o_w (v:=.pointer (some ⟨b15,0,none⟩)) (r_fa fld_api_Entry_0 rfl rfl) ?_
    refine o_w (v:=str d1.key) (r_ld one_string rfl ((S15.fr G67 (fun _ h=>h)).now.cell rfl)) ?_
    obtain ⟨ha80,h⟩:=h
    refine o_call cf_arena_Find rfl (arena_Find_c x37.1 (kArena_mk (d:=x37.1) (H49.up G68 (fun _ h=>h) (upc (.inr m57) (fun _ h=>.inl h))) (H52.up G68 (fun _ h=>h) (upc (.inr m57) (fun _ h=>.inl h)))) d1.val.kind d1.key ((hL.fr E64).cons B63'.lt) (arFind_ev x37.1 d1.val.kind d1.key ha80)) rfl rfl ?_
    rintro _ w79 ⟨F79,rfl⟩
    have E81:=E64.trans F79
    refine o_w (v:=.int .i64 (findA x37.1 d1.val.kind d1.key)) (r_asg rfl) ?_
    refine eo_nil_sq ?_
    iterate 2 refine ec_seq ?_
    refine ec_region ?_
    refine o_w (v:=.int .i64 (findA x37.1 d1.val.kind d1.key)) (r_mov rfl) ?_
    refine o_w (v:=.bool (decide ((findA x37.1 d1.val.kind d1.key)<(0:Int)))) (r_int rfl rfl rfl) ?_
    refine o_w (v:=.bool (decide ((findA x37.1 d1.val.kind d1.key)<(0:Int)))) (r_mov rfl) ?_
    refine o_vg (v:=.int .i64 (findA x37.1 d1.val.kind d1.key)) (want_cf (t:=56) rfl rfl) (fun hk=>(r_mov rfl)) rfl rfl ?_
    refine o_vg (v:=.pointer (some ⟨b53,1,none⟩)) (want_cf (t:=56) rfl rfl) (fun hk=>(r_fa fld_api_Arena_1 rfl rfl)) rfl rfl ?_
    refine o_vg (v:=.slice A47 x37.1.slots.length c48) (want_cf (t:=56) rfl rfl) (fun hk=>(r_ld one_s_api_Entry (gdT hk) ((B63'.ex F79).cell rfl))) rfl rfl ?_
    refine o_vg (v:=.int .i64 (x37.1.slots.length:Int)) (want_cf (t:=56) rfl rfl) (fun hk=>(r_len_slc un_s_api_Entry (gdT hk))) rfl rfl ?_
    refine o_vg (v:=.bool (decide ((x37.1.slots.length:Int)≤(findA x37.1 d1.val.kind d1.key)))) (want_cf (t:=56) rfl rfl) (fun hk=>(r_int (gdT hk) (gdT hk) rfl)) rfl rfl ?_
    refine o_w (v:=.bool ((decide ((findA x37.1 d1.val.kind d1.key)<(0:Int)))||(decide ((x37.1.slots.length:Int)≤(findA x37.1 d1.val.kind d1.key))))) (r_pickOr rfl rfl (fun hf=>(gdT (notT hf)))) ?_
    refine o_w (v:=.bool ((decide ((findA x37.1 d1.val.kind d1.key)<(0:Int)))||(decide ((x37.1.slots.length:Int)≤(findA x37.1 d1.val.kind d1.key))))) (r_mov rfl) ?_
    refine o_vg (v:=.agg (cArena d0 A1 c2 A4 c5).toArray) (want_cf (t:=63) rfl rfl) (fun hk=>(r_lda agg_api_Arena rfl (vs:=(cArena d0 A1 c2 A4 c5)) rfl ((S13.fr (G66.trans (Fr.ext F79)) (fun _ h=>h)).now.part (n:=3) rfl))) rfl rfl ?_
    refine o_vg (v:=.agg (cArena x37.1 A47 c48 A50 c51).toArray) (want_cf (t:=63) rfl rfl) (fun hk=>(r_lda agg_api_Arena rfl (vs:=(cArena x37.1 A47 c48 A50 c51)) rfl ((B63'.ex F79).part (n:=3) rfl))) rfl rfl ?_
    obtain ⟨ha90,h⟩:=h
    obtain ⟨ha91,h⟩:=h
    refine o_callg (V:=.bool (belowA d0 x37.1)) cf_arena_Below (want_cf (t:=63) rfl rfl) (fun hk=>(mapv2 (gdT hk) (gdT hk))) (fun hk=>(arena_Below_c d0 (kArena_mk (d:=d0) (H3.up (G65.trans (Fr.ext F79)) (fun _ h=>h) (upc (.inr m54) (fun _ h=>.inl h))) (H6.up (G65.trans (Fr.ext F79)) (fun _ h=>h) (upc (.inr m54) (fun _ h=>.inl h)))) x37.1 (kArena_mk (d:=x37.1) (H49.up (G68.trans (Fr.ext F79)) (fun _ h=>h) (upc (.inr m57) (fun _ h=>.inl h))) (H52.up (G68.trans (Fr.ext F79)) (fun _ h=>h) (upc (.inr m57) (fun _ h=>.inl h)))) ((hL.fr E81).cons (B63'.ex F79).lt) (arBelow_ev d0 x37.1 (ha90 hk) (ha91 hk)))) rfl ?_
    intro w89 F89
    have E92:=E81.trans F89
    refine o_vg (v:=.bool (!(belowA d0 x37.1))) (want_cf (t:=63) rfl rfl) (fun hk=>(r_not (gdT hk))) rfl rfl ?_
    refine o_w (v:=.bool (((decide ((findA x37.1 d1.val.kind d1.key)<(0:Int)))||(decide ((x37.1.slots.length:Int)≤(findA x37.1 d1.val.kind d1.key))))||(!(belowA d0 x37.1)))) (r_pickOr rfl rfl (fun hf=>(gdT (notT hf)))) ?_
    refine o_w (v:=.bool (((decide ((findA x37.1 d1.val.kind d1.key)<(0:Int)))||(decide ((x37.1.slots.length:Int)≤(findA x37.1 d1.val.kind d1.key))))||(!(belowA d0 x37.1)))) (r_mov rfl) ?_
    refine o_vg (v:=.agg (cArena x37.1 A47 c48 A50 c51).toArray) (want_cf (t:=69) rfl rfl) (fun hk=>(r_lda agg_api_Arena rfl (vs:=(cArena x37.1 A47 c48 A50 c51)) rfl (((B63'.ex F79).ex F89).part (n:=3) rfl))) rfl rfl ?_
    obtain ⟨ha99,h⟩:=h
    refine o_callg (V:=.int .i64 (checkA x37.1)) cf_arena_Check (want_cf (t:=69) rfl rfl) (fun hk=>(mapv1 (gdT hk))) (fun hk=>(arena_Check_c x37.1 (kArena_mk (d:=x37.1) (H49.up ((G68.trans (Fr.ext F79)).trans (Fr.ext F89)) (fun _ h=>h) (upc (.inr m57) (fun _ h=>.inl h))) (H52.up ((G68.trans (Fr.ext F79)).trans (Fr.ext F89)) (fun _ h=>h) (upc (.inr m57) (fun _ h=>.inl h)))) ((hL.fr E92).cons ((B63'.ex F79).ex F89).lt) (arCheck_ev x37.1 (ha99 hk)))) rfl ?_
    intro w98 F98
    have E100:=E92.trans F98
    refine o_vg (v:=.bool ((checkA x37.1) != (0:Int))) (want_cf (t:=69) rfl rfl) (fun hk=>(r_int (gdT hk) rfl rfl)) rfl rfl ?_
    refine o_w (v:=.bool ((((decide ((findA x37.1 d1.val.kind d1.key)<(0:Int)))||(decide ((x37.1.slots.length:Int)≤(findA x37.1 d1.val.kind d1.key))))||(!(belowA d0 x37.1)))||((checkA x37.1) != (0:Int)))) (r_pickOr rfl rfl (fun hf=>(gdT (notT hf)))) ?_
    refine eo_nil_sq ?_
    refine ec_cond rfl (fun hc106=>?_) (fun hc106=>?_)
    ·replace h:=h.1 hc106
     refine ec_seq ?_
     refine ec_region ?_
     refine o_w (v:=.bool false) (r_asg rfl) ?_
     refine eo_nil_sq ?_
     refine ec_ret ?_
     refine sq_ret ?_
     subst h
     exact (end1 rfl ⟨_,rfl,E100,rfl⟩)
    ·replace h:=h.2 hc106
     refine ec_skip ?_
     refine sq_n ?_
     refine ec_seq ?_
     obtain ⟨ha119,h⟩:=h
     obtain ⟨cs120,l122,H121⟩:=Stb.elem (by decide) (H49.up (((G68.trans (Fr.ext F79)).trans (Fr.ext F89)).trans (Fr.ext F98)) (fun _ h=>h) (upc (.inr m57) (fun _ h=>.inl h))) (findA x37.1 d1.val.kind d1.key) ha119.1 ha119.2
     obtain ⟨A124,c125,A127,c128,rfl,H123,H126,H129⟩:=kEnt_open2 H121
     obtain ⟨ha131,h⟩:=h
     obtain ⟨ha132,h⟩:=h
     obtain ⟨x130,hx130,h⟩:=h
     refine ec_anyGN (by kernel_rfl) [[],[0],[],[0,1,2],[0,1,2,3],[],[0,1,2,3,4,5],[0,1,2,3,4,5,6],[0,1,2,3,4,5,6,7],[0,1,2,3,4,5,6,7],[],[0,1,2,3,4,5,6,7,8,10],[0,1,2,3,4,5,6,7,8,9,10,11]] [11,12,74,75,76,77,78,79,80,81,82,83] [] [11] 10 0 (fun b w=>Blk w b 42 [str ([]:Str),.int .i64 (0:Int),.int .i64 (0:Int),.int .i64 (0:Int),.bool false,str ([]:Str),.slice none ([]:List Int).length 0,.slice none ([]:List Int).length 0,.int .u64 (0:Int)]) (fun g118=>[own g118]) [[11,12]] (fun g118=>[fun w'=>(∀ b,g118=gOf b→Blk w' b 42 [str ([]:Str),.int .i64 (0:Int),.int .i64 (0:Int),.int .i64 (0:Int),.bool false,str ([]:Str),.slice none ([]:List Int).length 0,.slice none ([]:List Int).length 0,.int .u64 (0:Int)]),fun w'=>∃ A133 c134 A136 c137,Stb (own g118++(b53::L)) w' (fun w=>SlC (kI .i64) w A133 c134 x130.1.val.plus)∧Stb (own g118++(b53::L)) w' (fun w=>SlC (kI .i64) w A136 c137 x130.1.val.minus)∧(∀ b,g118=gOf b→Blk w' b 42 (cEnt x130.1 A133 c134 A136 c137))]) (fun g118=>[fun v _=>v=(.pointer (some ⟨b53,1,none⟩):Value),fun v _=>v=(.slice A47 x37.1.slots.length c48:Value),fun v _=>v=(.int .i64 (findA x37.1 d1.val.kind d1.key):Value),fun v _=>v=(.pointer (some (elemA A47 kEnt.n (findA x37.1 d1.val.kind d1.key).toNat)):Value),fun v _=>v=(.agg (cEnt (nth x37.1.slots (findA x37.1 d1.val.kind d1.key)) A124 c125 A127 c128).toArray:Value),fun v _=>v=(.agg (cEnt d1 A7 c8 A10 c11).toArray:Value),fun v w'=>∃ A133 c134 A136 c137,v=(.tuple #[.agg (cEnt x130.1 A133 c134 A136 c137).toArray,.int .i64 x130.2]:Value)∧Stb (own g118++(b53::L)) w' (fun w=>SlC (kI .i64) w A133 c134 x130.1.val.plus)∧Stb (own g118++(b53::L)) w' (fun w=>SlC (kI .i64) w A136 c137 x130.1.val.minus),fun v w'=>∃ A133 c134 A136 c137,v=(.tuple #[.agg (cEnt x130.1 A133 c134 A136 c137).toArray,.int .i64 x130.2]:Value)∧Stb (own g118++(b53::L)) w' (fun w=>SlC (kI .i64) w A133 c134 x130.1.val.plus)∧Stb (own g118++(b53::L)) w' (fun w=>SlC (kI .i64) w A136 c137 x130.1.val.minus),fun v w'=>∃ A133 c134 A136 c137,v=(.agg (cEnt x130.1 A133 c134 A136 c137).toArray:Value)∧Stb (own g118++(b53::L)) w' (fun w=>SlC (kI .i64) w A133 c134 x130.1.val.plus)∧Stb (own g118++(b53::L)) w' (fun w=>SlC (kI .i64) w A136 c137 x130.1.val.minus),fun v _=>v=(.int .i64 x130.2:Value),fun v w'=>∃ b118_10,v=(.pointer (some ⟨b118_10,0,none⟩):Value)∧g118=gOf b118_10∧w98.heap.size≤b118_10,fun _ _=>True,fun v _=>v=(.int .i64 x130.2:Value)]) (by kernel_rfl) (fun _=>rfl) (fun _=>rfl) (fun g118=>(allM1 (φ:=fun M=>∀ m∈M,m∈[]∨m∈own g118) (fun m hm=>.inr hm) (fun _ h=>by cases h))) (fun g118=>⟨fun _ _ _ _ _ h=>h,fun _ _ _ _ _ h=>h,fun _ _ _ _ _ h=>h,fun _ _ _ _ _ h=>h,fun _ _ _ _ _ h=>h,fun _ _ _ _ _ h=>h,fun _ v w' w'' F h=>by obtain ⟨A133,c134,A136,c137,hv,H135,H138⟩:=h; exact ⟨A133,c134,A136,c137,hv,(H135.ex F),(H138.ex F)⟩,fun _ v w' w'' F h=>by obtain ⟨A133,c134,A136,c137,hv,H135,H138⟩:=h; exact ⟨A133,c134,A136,c137,hv,(H135.ex F),(H138.ex F)⟩,fun _ v w' w'' F h=>by obtain ⟨A133,c134,A136,c137,hv,H135,H138⟩:=h; exact ⟨A133,c134,A136,c137,hv,(H135.ex F),(H138.ex F)⟩,fun _ _ _ _ _ h=>h,fun _ v w' w'' F h=>by obtain ⟨b118_10,hv,heb118_10,lob118_10⟩:=h; exact ⟨b118_10,hv,heb118_10,lob118_10⟩,fun _ _ _ _ _ h=>h,fun _ _ _ _ _ h=>h,trivial⟩) (fun g118=>⟨⟨fun _ _ _ _ _ _ h=>h,fun _ _ _ _ _ _ h=>h,fun _ _ _ _ _ _ h=>h,fun _ _ _ _ _ _ h=>h,fun _ _ _ _ _ _ h=>h,fun _ _ _ _ _ _ h=>h,fun _ v w' w'' hg118 F h=>by obtain ⟨A133,c134,A136,c137,hv,H135,H138⟩:=h; exact ⟨A133,c134,A136,c137,hv,(H135.fr F (fun m hm=>List.mem_append_left _ hm)),(H138.fr F (fun m hm=>List.mem_append_left _ hm))⟩,fun _ v w' w'' hg118 F h=>by obtain ⟨A133,c134,A136,c137,hv,H135,H138⟩:=h; exact ⟨A133,c134,A136,c137,hv,(H135.fr F (fun m hm=>List.mem_append_left _ hm)),(H138.fr F (fun m hm=>List.mem_append_left _ hm))⟩,fun _ v w' w'' hg118 F h=>by obtain ⟨A133,c134,A136,c137,hv,H135,H138⟩:=h; exact ⟨A133,c134,A136,c137,hv,(H135.fr F (fun m hm=>List.mem_append_left _ hm)),(H138.fr F (fun m hm=>List.mem_append_left _ hm))⟩,fun _ _ _ _ _ _ h=>h,fun _ v w' w'' hg118 F h=>by obtain ⟨b118_10,hv,heb118_10,lob118_10⟩:=h; exact ⟨b118_10,hv,heb118_10,lob118_10⟩,(fun h=>absurd h (by decide)),(fun h=>absurd h (by decide)),trivial⟩,trivial⟩) (fun w hw=>⟨fun _ _ _ _ h=>h,fun _ _ _ _ h=>h,fun _ _ _ _ h=>h,fun _ _ _ _ h=>h,fun _ _ _ _ h=>h,fun _ _ _ _ h=>h,fun _ v w' F h=>by obtain ⟨A133,c134,A136,c137,hv,H135,H138⟩:=h; exact ⟨A133,c134,A136,c137,hv,(stb_born H135 F),(stb_born H138 F)⟩,fun _ v w' F h=>by obtain ⟨A133,c134,A136,c137,hv,H135,H138⟩:=h; exact ⟨A133,c134,A136,c137,hv,(stb_born H135 F),(stb_born H138 F)⟩,fun _ v w' F h=>by obtain ⟨A133,c134,A136,c137,hv,H135,H138⟩:=h; exact ⟨A133,c134,A136,c137,hv,(stb_born H135 F),(stb_born H138 F)⟩,fun _ _ _ _ h=>h,(fun h=>absurd h (by decide)),fun _ _ _ _ h=>h,fun _ _ _ _ h=>h,trivial⟩) (fun g118=>⟨fun w' w'' F h=>by have hG118:=h; exact (fun b e=>(hG118 b e).ex F),fun w' w'' F h=>by obtain ⟨A133,c134,A136,c137,H135,H138,hG118⟩:=h; exact ⟨A133,c134,A136,c137,(H135.ex F),(H138.ex F),(fun b e=>(hG118 b e).ex F)⟩,trivial⟩) (fun b e=>absurd e gNil_ne) (fun k hk w w' hw F hX hI=>match k,hk,hI with | 0,_,hI=>by have hG118:=hI; exact (fun b e=>by obtain rfl:=gOf_inj e; exact hX) | k + 1,hk,_=>absurd hk (by omega)) ?_ ?_ ?_ ?_
     ·refine ⟨?_,?_,?_,?_,?_,?_,?_,?_,?_,?_,?_,?_,?_,trivial⟩
      ·intro _ _ g118 ρ w118o hg118 F118o hX hS hρ
       have F118o:=hX 11 rfl rfl
       have q7:ρ 7=.pointer (some ⟨b53,0,none⟩):=hρ 7 (by kernel_rfl)
       exact o_q (r_fa fld_api_Arena_1 rfl q7) ⟨Fr.refl _ _,rfl⟩
      ·intro _ _ g118 ρ w118o hg118 F118o hX hS hρ
       have F118o:=hX 11 rfl rfl
       have q75:ρ 75=.pointer (some ⟨b53,1,none⟩):=hS 0 (by decide) 75 rfl
       exact o_q (r_ld one_s_api_Entry q75 (((((B63'.ex F79).ex F89).ex F98).ex F118o).cell rfl)) ⟨Fr.refl _ _,rfl⟩
      ·intro _ _ g118 ρ w118o hg118 F118o hX hS hρ
       have F118o:=hX 11 rfl rfl
       have q10:ρ 10=.int .i64 (findA x37.1 d1.val.kind d1.key):=hρ 10 (by kernel_rfl)
       exact o_q (r_mov q10) ⟨Fr.refl _ _,rfl⟩
      ·intro _ _ g118 ρ w118o hg118 F118o hX hS hρ
       have F118o:=hX 11 rfl rfl
       have G150:=(((G68.trans (Fr.ext F79)).trans (Fr.ext F89)).trans (Fr.ext F98)).trans (Fr.ext F118o)
       have q76:ρ 76=.slice A47 x37.1.slots.length c48:=hS 1 (by decide) 76 rfl
       have q77:ρ 77=.int .i64 (findA x37.1 d1.val.kind d1.key):=hS 2 (by decide) 77 rfl
       exact o_q (r_ia slc_s_api_Entry q76 q77 ((H49.fr G150 (fun _ h=>h)).now.2 _ (lt_toNat ha119.1 ha119.2)).1 ha119.1 ha119.2) ⟨Fr.refl _ _,rfl⟩
      ·intro _ _ g118 ρ w118o hg118 F118o hX hS hρ
       have F118o:=hX 11 rfl rfl
       have G158:Fr (b53::L) w98 w118o:=Fr.ext F118o
       have q78:ρ 78=.pointer (some (elemA A47 kEnt.n (findA x37.1 d1.val.kind d1.key).toNat)):=hS 3 (by decide) 78 rfl
       exact o_q (r_lda' agg_api_Entry q78 (elemA_spot _ _ _) (vs:=(cEnt (nth x37.1.slots (findA x37.1 d1.val.kind d1.key)) A124 c125 A127 c128)) rfl ((H123.fr G158 (fun _ h=>h)).now.1)) ⟨Fr.refl _ _,rfl⟩
      ·intro _ _ g118 ρ w118o hg118 F118o hX hS hρ
       have F118o:=hX 11 rfl rfl
       have G163:=(((G67.trans (Fr.ext F79)).trans (Fr.ext F89)).trans (Fr.ext F98)).trans (Fr.ext F118o)
       have q3:ρ 3=.pointer (some ⟨b15,0,none⟩):=hρ 3 (by kernel_rfl)
       exact o_q (r_lda agg_api_Entry q3 (vs:=(cEnt d1 A7 c8 A10 c11)) rfl ((S15.fr G163 (fun _ h=>h)).now.part (n:=9) rfl)) ⟨Fr.refl _ _,rfl⟩
      ·intro _ _ g118 ρ w118o hg118 F118o hX hS hρ
       have F118o:=hX 11 rfl rfl
       have E167:=E100.trans F118o
       have G168:=(((G65.trans (Fr.ext F79)).trans (Fr.ext F89)).trans (Fr.ext F98)).trans (Fr.ext F118o)
       have G172:Fr (b53::L) w98 w118o:=Fr.ext F118o
       have q79:ρ 79=.agg (cEnt (nth x37.1.slots (findA x37.1 d1.val.kind d1.key)) A124 c125 A127 c128).toArray:=hS 4 (by decide) 79 rfl
       have q80:ρ 80=.agg (cEnt d1 A7 c8 A10 c11).toArray:=hS 5 (by decide) 80 rfl
       refine o_call cf_entry_Join (by simp only [List.map,ev,q79,q80] <;> rfl) (entry_Join_c (nth x37.1.slots (findA x37.1 d1.val.kind d1.key)) (kEnt_mk (d:=(nth x37.1.slots (findA x37.1 d1.val.kind d1.key))) (H126.up G172 (fun _ h=>h) (upo (fun m hm=>.inr (Nat.le_trans (Nat.le_refl _) (hg118 m hm).1)) (upc (.inl (List.Mem.head _)) (fun m hm=>Or.inl (List.Mem.tail _ hm))))) (H129.up G172 (fun _ h=>h) (upo (fun m hm=>.inr (Nat.le_trans (Nat.le_refl _) (hg118 m hm).1)) (upc (.inl (List.Mem.head _)) (fun m hm=>Or.inl (List.Mem.tail _ hm)))))) d1 (kEnt_mk (d:=d1) (H9.up G168 (fun _ h=>h) (upo (fun m hm=>.inr (Nat.le_trans ((((G65.trans (Fr.ext F79)).trans (Fr.ext F89)).trans (Fr.ext F98)).size) (hg118 m hm).1)) (upc (.inr m54) (fun _ h=>.inl h)))) (H12.up G168 (fun _ h=>h) (upo (fun m hm=>.inr (Nat.le_trans ((((G65.trans (Fr.ext F79)).trans (Fr.ext F89)).trans (Fr.ext F98)).size) (hg118 m hm).1)) (upc (.inr m54) (fun _ h=>.inl h))))) (lt_ghost ((hL.fr E167).cons ((((B63'.ex F79).ex F89).ex F98).ex F118o).lt) hg118) (eq_ev hx130 (entJoin_ev (nth x37.1.slots (findA x37.1 d1.val.kind d1.key)) d1 ha131 ha132))) rfl rfl ?_
       rintro _ w' ⟨F,cs174,rfl,H175⟩
       obtain ⟨A133,c134,A136,c137,rfl,H135,H138⟩:=kEnt_open H175
       exact eo_nil ⟨rfl,rfl,_,rfl,F,⟨A133,c134,A136,c137,rfl,H135,H138⟩⟩
      ·intro _ _ g118 ρ w118o hg118 F118o hX hS hρ
       have F118o:=hX 11 rfl rfl
       obtain ⟨A133,c134,A136,c137,q81,H135,H138⟩:=hS 6 (by decide) 81 rfl
       exact o_q (r_mov q81) ⟨Fr.refl _ _,⟨A133,c134,A136,c137,rfl,H135,H138⟩⟩
      ·intro _ _ g118 ρ w118o hg118 F118o hX hS hρ
       have F118o:=hX 11 rfl rfl
       obtain ⟨A133,c134,A136,c137,q74,H135,H138⟩:=hS 7 (by decide) 74 rfl
       exact o_q (r_ext q74 rfl) ⟨Fr.refl _ _,⟨A133,c134,A136,c137,rfl,H135,H138⟩⟩
      ·intro _ _ g118 ρ w118o hg118 F118o hX hS hρ
       obtain ⟨A133,c134,A136,c137,q74,H135,H138⟩:=hS 7 (by decide) 74 rfl
       exact o_q (r_ext q74 rfl) ⟨Fr.refl _ _,rfl⟩
      ·intro _ hT; exact absurd hT (by decide)
      ·intro hT; exact absurd hT (by decide)
      ·intro _ _ g118 ρ w118o hg118 F118o hX hS hρ
       have q83:ρ 83=.int .i64 x130.2:=hS 9 (by decide) 83 rfl
       exact o_q (r_asg q83) ⟨Fr.refl _ _,rfl⟩
     ·intro o ho ρ w118o F118o; cases Option.some.inj ho; refine o_alloc zero_api_Entry rfl rfl rfl ?_; intro b w' e F B; subst e
      exact eo_nil ⟨rfl,rfl,_,rfl,F,B.lt,B,_,rfl,rfl,F118o.size⟩
     ·refine ⟨⟨_,rfl,?_⟩,trivial⟩
      ·intro g118 ρ w118o hg118 F118o hX hI hS hρ
       have hG118:=hI
       obtain ⟨b118_10,q11,heb118_10,lob118_10⟩:=hS 10 (by decide) 11 rfl
       obtain ⟨A133,c134,A136,c137,q82,H135,H138⟩:=hS 8 (by decide) 82 rfl
       subst heb118_10
       have hB118_b118_10:=hG118 _ rfl
       refine o_store (show ev ρ _=_ from q11) hB118_b118_10 (vs:=[str x130.1.key,.int .i64 x130.1.val.kind,.int .i64 x130.1.val.time,.int .i64 x130.1.val.node,.bool x130.1.val.dead,str x130.1.val.text,.slice A133 x130.1.val.plus.length c134,.slice A136 x130.1.val.minus.length c137,.int .u64 x130.1.val.flags]) (congrArg Value.cells q82) sz_api_Entry rfl rfl rfl ?_
       intro w' F B2
       exact eo_nil ⟨rfl,rfl,undef,rfl,F,⟨A133,c134,A136,c137,(H135.fr F (fun m hm=>List.mem_append_left _ hm)),(H138.fr F (fun m hm=>List.mem_append_left _ hm)),(fun b e=>by obtain rfl:=gOf_inj e; exact B2)⟩,trivial⟩
     ·intro g118 ρ w118 hg118 F118 hI hS hρ
      obtain ⟨A133,c134,A136,c137,H135,H138,hG118⟩:=hI
      obtain ⟨b118_10,q11,heb118_10,lob118_10⟩:=hS 10 11 rfl
      subst heb118_10
      have hB118_b118_10:=hG118 _ rfl
      have q12:ρ 12=.int .i64 x130.2:=hS 12 12 rfl
      have H135:Stb (b118_10::(b53::L)) w118 (fun w=>SlC (kI .i64) w A133 c134 x130.1.val.plus):=H135
      have H138:Stb (b118_10::(b53::L)) w118 (fun w=>SlC (kI .i64) w A136 c137 x130.1.val.minus):=H138
      obtain ⟨ρ',rfl⟩:∃ ρ',ρ=envs (ovr [11,12,74,75,76,77,78,79,80,81,82,83] ρ' _) [(11,.pointer (some ⟨b118_10,0,none⟩)),(12,.int .i64 x130.2)]:=⟨ρ,ovr_self hρ ⟨q11,q12,trivial⟩⟩
      have n118_10:w.heap.size≤b118_10:=Nat.le_trans E100.size lob118_10
      have q183:b53<b118_10:=Nat.lt_of_lt_of_le (((B63'.ex F79).ex F89).ex F98).lt lob118_10
      have m184:w.heap.size≤b118_10:=Nat.le_trans (((G65.trans (Fr.ext F79)).trans (Fr.ext F89)).trans (Fr.ext F98)).size lob118_10
      have m187:w37.heap.size≤b118_10:=Nat.le_trans (((G68.trans (Fr.ext F79)).trans (Fr.ext F89)).trans (Fr.ext F98)).size lob118_10
      have E188:=E100.trans F118
      have G189:=(((G65.trans (Fr.ext F79)).trans (Fr.ext F89)).trans (Fr.ext F98)).trans (Fr.ext F118)
      have G190:=(((G66.trans (Fr.ext F79)).trans (Fr.ext F89)).trans (Fr.ext F98)).trans (Fr.ext F118)
      have G191:=(((G67.trans (Fr.ext F79)).trans (Fr.ext F89)).trans (Fr.ext F98)).trans (Fr.ext F118)
      have G192:=(((G68.trans (Fr.ext F79)).trans (Fr.ext F89)).trans (Fr.ext F98)).trans (Fr.ext F118)
      have Z118:=Fr.refl (b118_10::(b53::L)) w118
      refine sq_n ?_
      refine ec_seq ?_
      refine ec_region ?_
      refine o_w (v:=.agg (cArena x37.1 A47 c48 A50 c51).toArray) (r_lda agg_api_Arena rfl (vs:=(cArena x37.1 A47 c48 A50 c51)) rfl (((((B63'.ex F79).ex F89).ex F98).ex F118).part (n:=3) rfl)) ?_
      refine o_w (v:=.agg (cEnt d1 A7 c8 A10 c11).toArray) (r_lda agg_api_Entry rfl (vs:=(cEnt d1 A7 c8 A10 c11)) rfl ((S15.fr G191 (fun _ h=>h)).now.part (n:=9) rfl)) ?_
      obtain ⟨ha196,h⟩:=h
      obtain ⟨ha197,h⟩:=h
      obtain ⟨ha198,h⟩:=h
      obtain ⟨x195,hx195,h⟩:=h
      refine o_call cf_arena_Join rfl (arena_Join_c x37.1 (kArena_mk (d:=x37.1) (H49.up G192 (fun _ h=>h) (upc (.inr m187) (upc (.inr m57) (fun _ h=>.inl h)))) (H52.up G192 (fun _ h=>h) (upc (.inr m187) (upc (.inr m57) (fun _ h=>.inl h))))) d1 (kEnt_mk (d:=d1) (H9.up G189 (fun _ h=>h) (upc (.inr m184) (upc (.inr m54) (fun _ h=>.inl h)))) (H12.up G189 (fun _ h=>h) (upc (.inr m184) (upc (.inr m54) (fun _ h=>.inl h))))) (((hL.fr E188).cons ((((B63'.ex F79).ex F89).ex F98).ex F118).lt).cons hB118_b118_10.lt) (eq_ev hx195 (arJoin_ev x37.1 d1 ha196 ha197 ha198))) rfl rfl ?_
      rintro _ w195 ⟨F195,cs199,rfl,H200⟩
      have E201:=E188.trans F195
      obtain ⟨A210,c211,A213,c214,rfl,H212,H215⟩:=kArena_open H200
      refine o_w (v:=.tuple #[.agg (cArena x195.1 A210 c211 A213 c214).toArray,.bool x195.2.1,.int .i64 x195.2.2]) (r_mov rfl) ?_
      refine o_w (v:=.agg (cArena x195.1 A210 c211 A213 c214).toArray) (r_ext rfl rfl) ?_
      refine o_w (v:=.bool x195.2.1) (r_ext rfl rfl) ?_
      refine o_w (v:=.int .i64 x195.2.2) (r_ext rfl rfl) ?_
      refine o_alloc zero_api_Arena rfl rfl rfl ?_
      intro b216 w216 e216 F216 B216
      have n216:w.heap.size≤b216:=by rw [e216]; exact E201.size
      have q217:b53<b216:=by rw [e216]; exact (((((B63'.ex F79).ex F89).ex F98).ex F118).ex F195).lt
      have q218:b118_10<b216:=by rw [e216]; exact (hB118_b118_10.ex F195).lt
      have m219:w.heap.size≤b216:=by rw [e216]; exact (G189.trans (Fr.ext F195)).size
      have m220:w13.heap.size≤b216:=by rw [e216]; exact (G190.trans (Fr.ext F195)).size
      have m222:w37.heap.size≤b216:=by rw [e216]; exact (G192.trans (Fr.ext F195)).size
      have m224:w118.heap.size≤b216:=by rw [e216]; exact (Z118.trans (Fr.ext F195)).size
      have m225:w195.heap.size≤b216:=Nat.le_of_eq e216.symm
      have E226:=E201.trans F216
      have G233:Fr (b118_10::(b53::L)) w195 w216:=Fr.ext F216
      refine o_store rfl B216 (vs:=(cArena x195.1 A210 c211 A213 c214)) rfl sz_api_Arena rfl rfl rfl ?_
      intro w236 F236 B236
      have E237:=Ext.st E226 F236 (by simp; omega)
      have G238:Fr L w w236:=((G189.trans (Fr.ext F195)).trans (Fr.ext F216)).stp F236 (upc (.inr m219) (fun m hm=>by cases hm))
      have G239:Fr L w13 w236:=((G190.trans (Fr.ext F195)).trans (Fr.ext F216)).stp F236 (upc (.inr m220) (fun m hm=>by cases hm))
      have G241:Fr L w37 w236:=((G192.trans (Fr.ext F195)).trans (Fr.ext F216)).stp F236 (upc (.inr m222) (fun m hm=>by cases hm))
      have G243:Fr (b118_10::(b53::L)) w118 w236:=((Z118.trans (Fr.ext F195)).trans (Fr.ext F216)).stp F236 (upc (.inr m224) (fun m hm=>by cases hm))
      have G244:Fr (b118_10::(b53::L)) w195 w236:=G233.stp F236 (upc (.inr m225) (fun m hm=>by cases hm))
      have B245:=((((((B63'.ex F79).ex F89).ex F98).ex F118).ex F195).ex F216).fr F236 (by simp; omega)
      have B246:=((hB118_b118_10.ex F195).ex F216).fr F236 (by simp; omega)
      have B236':Blk w236 b216 _ (cArena x195.1 A210 c211 A213 c214):=B236
      refine o_w (v:=.bool x195.2.1) (r_asg rfl) ?_
      refine o_w (v:=.int .i64 x195.2.2) (r_asg rfl) ?_
      refine eo_nil_sq ?_
      refine ec_seq ?_
      rcases Bool.eq_false_or_eq_true (x130.2==(0:Int)) with hc269 | hc269
      ·replace h:=h.1 hc269
       obtain ⟨ha297,h⟩:=h
       obtain ⟨cs298,l300,H299⟩:=Stb.elem (by decide) (H49.up G241 (fun _ h=>h) (upc (.inr m222) (upc (.inr m187) (upc (.inr m57) (fun _ h=>.inl h))))) (findA x37.1 d1.val.kind d1.key) ha297.1 ha297.2
       obtain ⟨A302,c303,A305,c306,rfl,H301,H304,H307⟩:=kEnt_open2 H299
       obtain ⟨ha309,h⟩:=h
       obtain ⟨x308,hx308,h⟩:=h
       obtain ⟨ha311,h⟩:=h
       obtain ⟨ha313,h⟩:=h
       obtain ⟨ha314,h⟩:=h
       refine ec_any0 (by kernel_rfl) [[],[0],[0,1],[0,1,2],[0,1,2,3],[0,1,2,3,4],[0,1,2,3,4,5],[0,1,2,3,4,5],[0,1,2,3,4,5,7],[0,1,2,3,4,5],[0,1,2,3,4,5,7,8,9],[0,1,2,3,4,5,7,8,9,10],[0,1,2,3,4,5,6,7,8,9,10,11],[0,1,2,3,4,5,6,7,8,9,10,11,12],[0,1,2,3,4,5,6,7,8,9,10,11,12,13],[0,1,2,3,4,5,6,7,8,9,10,11,12,13,14],[0,1,2,3,4,5,6,7,8,9,10,11,12,13,14,15],[0,1,2,3,4,5,6,7,8,9,10,11,12,13,14,15,16],[0,1,2,3,4,5,6,7,8,9,10,11,12,13,14,15,16,17],[0,1,2,3,4,5,6,7,8,9,10,11,12,13,14,15,16,17,18],[0,1,2,3,4,5,6,7,8,9,10,11,12,13,14,15,16,17,18,19],[0,1,2,3,4,5,6,7,8,9,10,11,12,13,14,15,16,17,18,19,20],[0,1,2,3,4,5,6,7,8,9,10,11,12,13,14,15,16,17,18,19,20,21],[0,1,2,3,4,5,6,7,8,9,10,11,12,13,14,15,16,17,18,19,20,21,22],[0,1,2,3,4,5,6,7,8,9,10,11,12,13,14,15,16,17,18,19,20,21,22],[0,1,2,3,4,5,6,7,8,9,10,11,12,13,14,15,16,17,18,19,20,21,22,23,24],[0,1,2,3,4,5,6,7,8,9,10,11,12,13,14,15,16,17,18,19,20,21,22,23,24,25],[0,1,2,3,4,5,6,7,8,9,10,11,12,13,14,15,16,17,18,19,20,21,22,23,24,25,26],[0,1,2,3,4,5,6,7,8,9,10,11,12,13,14,15,16,17,18,19,20,21,22,23,24,25,26,27],[0,1,2,3,4,5,6,7,8,9,10,11,12,13,14,15,16,17,18,19,20,21,22,23,24,25,26,27],[0,1,2,3,4,5,6,7,8,9,10,11,12,13,14,15,16,17,18,19,20,21,22,23,24,25,26,27],[0,1,2,3,4,5,6,7,8,9,10,11,12,13,14,15,16,17,18,19,20,21,22,23,24,25,26,27,29,30],[0,1,2,3,4,5,6,7,8,9,10,11,12,13,14,15,16,17,18,19,20,21,22,23,24,25,26,27,29,30,31],[0,1,2,3,4,5,6,7,8,9,10,11,12,13,14,15,16,17,18,19,20,21,22,23,24,25,26,27,28,29,30,31,32],[0,1,2,3,4,5,6,7,8,9,10,11,12,13,14,15,16,17,18,19,20,21,22,23,24,25,26,27,28,29,30,31,32,33],[0,1,2,3,4,5,6,7,8,9,10,11,12,13,14,15,16,17,18,19,20,21,22,23,24,25,26,27,28,29,30,31,32,33,34]] [4,91,92,93,94,95,96,97,98,99,100,101,102,103,104,105,106,107,108,109,110,111,112,113,114,115,116,117,118,119,120,121,122,123,124,125] [fun v _=>v=(.bool (worksV):Value),fun v _=>v=(.bool (worksV):Value),fun v _=>v=(.int .i64 x130.2:Value),fun v _=>v=(.bool (x130.2==(0:Int)):Value),fun v _=>v=(.bool (x130.2==(0:Int)):Value),fun v _=>v=(.bool (x130.2==(0:Int)):Value),fun v _=>v=(.agg (cEnt x130.1 A133 c134 A136 c137).toArray:Value),fun v _=>v=(.pointer (some ⟨b53,1,none⟩):Value),fun v _=>v=(.slice A47 x37.1.slots.length c48:Value),fun v _=>v=(.int .i64 (findA x37.1 d1.val.kind d1.key):Value),fun v _=>v=(.pointer (some (elemA A47 kEnt.n (findA x37.1 d1.val.kind d1.key).toNat)):Value),fun v _=>v=(.agg (cEnt (nth x37.1.slots (findA x37.1 d1.val.kind d1.key)) A302 c303 A305 c306).toArray:Value),fun v _=>v=(.bool x308:Value),fun v _=>v=(.bool x308:Value),fun v _=>v=(.bool x308:Value),fun v _=>v=((bif x308 then (.bool x195.2.1:Value) else undef):Value),fun v _=>v=((bif x308 then (.bool (!x195.2.1):Value) else undef):Value),fun v _=>v=(.bool (x308&&(!x195.2.1)):Value),fun v _=>v=(.bool (x308&&(!x195.2.1)):Value),fun v _=>v=((bif (x308&&(!x195.2.1)) then (.int .i64 x195.2.2:Value) else undef):Value),fun v _=>v=((bif (x308&&(!x195.2.1)) then (.bool (x195.2.2==(0:Int)):Value) else undef):Value),fun v _=>v=(.bool ((x308&&(!x195.2.1))&&(x195.2.2==(0:Int))):Value),fun v _=>v=(.bool ((x308&&(!x195.2.1))&&(x195.2.2==(0:Int))):Value),fun v _=>v=((bif ((x308&&(!x195.2.1))&&(x195.2.2==(0:Int))) then (.agg (cArena x37.1 A47 c48 A50 c51).toArray:Value) else undef):Value),fun v _=>v=((bif ((x308&&(!x195.2.1))&&(x195.2.2==(0:Int))) then (.agg (cArena x195.1 A210 c211 A213 c214).toArray:Value) else undef):Value),fun v _=>v=((bif ((x308&&(!x195.2.1))&&(x195.2.2==(0:Int))) then (.bool (sameA x37.1 x195.1):Value) else undef):Value),fun v _=>v=(.bool (((x308&&(!x195.2.1))&&(x195.2.2==(0:Int)))&&(sameA x37.1 x195.1)):Value),fun v _=>v=(.bool (((x308&&(!x195.2.1))&&(x195.2.2==(0:Int)))&&(sameA x37.1 x195.1)):Value),fun v _=>v=((bif (((x308&&(!x195.2.1))&&(x195.2.2==(0:Int)))&&(sameA x37.1 x195.1)) then (.bool x37.2.1:Value) else undef):Value),fun v _=>v=((bif (((x308&&(!x195.2.1))&&(x195.2.2==(0:Int)))&&(sameA x37.1 x195.1)) then (.agg (cArena d0 A1 c2 A4 c5).toArray:Value) else undef):Value),fun v _=>v=((bif (((x308&&(!x195.2.1))&&(x195.2.2==(0:Int)))&&(sameA x37.1 x195.1)) then (.agg (cArena x37.1 A47 c48 A50 c51).toArray:Value) else undef):Value),fun v _=>v=((bif (((x308&&(!x195.2.1))&&(x195.2.2==(0:Int)))&&(sameA x37.1 x195.1)) then (.bool (alikeA d0 x37.1):Value) else undef):Value),fun v _=>v=((bif (((x308&&(!x195.2.1))&&(x195.2.2==(0:Int)))&&(sameA x37.1 x195.1)) then (.bool (!(alikeA d0 x37.1)):Value) else undef):Value),fun v _=>v=((bif (((x308&&(!x195.2.1))&&(x195.2.2==(0:Int)))&&(sameA x37.1 x195.1)) then (.bool (x37.2.1==(!(alikeA d0 x37.1))):Value) else undef):Value),fun v _=>v=(.bool ((((x308&&(!x195.2.1))&&(x195.2.2==(0:Int)))&&(sameA x37.1 x195.1))&&(x37.2.1==(!(alikeA d0 x37.1)))):Value),fun v _=>v=(.bool ((((x308&&(!x195.2.1))&&(x195.2.2==(0:Int)))&&(sameA x37.1 x195.1))&&(x37.2.1==(!(alikeA d0 x37.1)))):Value)] (by kernel_rfl) ⟨fun _ _ _ _ _ h=>h,fun _ _ _ _ _ h=>h,fun _ _ _ _ _ h=>h,fun _ _ _ _ _ h=>h,fun _ _ _ _ _ h=>h,fun _ _ _ _ _ h=>h,fun _ _ _ _ _ h=>h,fun _ _ _ _ _ h=>h,fun _ _ _ _ _ h=>h,fun _ _ _ _ _ h=>h,fun _ _ _ _ _ h=>h,fun _ _ _ _ _ h=>h,fun _ _ _ _ _ h=>h,fun _ _ _ _ _ h=>h,fun _ _ _ _ _ h=>h,fun _ _ _ _ _ h=>h,fun _ _ _ _ _ h=>h,fun _ _ _ _ _ h=>h,fun _ _ _ _ _ h=>h,fun _ _ _ _ _ h=>h,fun _ _ _ _ _ h=>h,fun _ _ _ _ _ h=>h,fun _ _ _ _ _ h=>h,fun _ _ _ _ _ h=>h,fun _ _ _ _ _ h=>h,fun _ _ _ _ _ h=>h,fun _ _ _ _ _ h=>h,fun _ _ _ _ _ h=>h,fun _ _ _ _ _ h=>h,fun _ _ _ _ _ h=>h,fun _ _ _ _ _ h=>h,fun _ _ _ _ _ h=>h,fun _ _ _ _ _ h=>h,fun _ _ _ _ _ h=>h,fun _ _ _ _ _ h=>h,fun _ _ _ _ _ h=>h,trivial⟩ ?_ ?_
       ·refine ⟨?_,?_,?_,?_,?_,?_,?_,?_,?_,?_,?_,?_,?_,?_,?_,?_,?_,?_,?_,?_,?_,?_,?_,?_,?_,?_,?_,?_,?_,?_,?_,?_,?_,?_,?_,?_,trivial⟩
        ·intro ρ w296o F296o hS hρ
         have q5:ρ 5=.bool (worksV):=hρ 5 (by kernel_rfl)
         exact o_q (r_mov q5) ⟨Fr.refl _ _,rfl⟩
        ·intro ρ w296o F296o hS hρ
         have q91:ρ 91=.bool (worksV):=hS 0 (by decide) 91 rfl
         exact o_q (r_mov q91) ⟨Fr.refl _ _,rfl⟩
        ·intro ρ w296o F296o hS hρ
         have q12:ρ 12=.int .i64 x130.2:=hρ 12 (by kernel_rfl)
         have q92:ρ 92=.bool (worksV):=hS 1 (by decide) 92 rfl
         exact o_v (r_mov q12) (want_t (t:=92) rfl q92 (of_not hc24)) rfl rfl (eo_nil ⟨rfl,rfl,_,rfl,Fr.refl _ _,rfl⟩)
        ·intro ρ w296o F296o hS hρ
         have q92:ρ 92=.bool (worksV):=hS 1 (by decide) 92 rfl
         have q93:ρ 93=.int .i64 x130.2:=hS 2 (by decide) 93 rfl
         exact o_v (r_int q93 rfl rfl) (want_t (t:=92) rfl q92 (of_not hc24)) rfl rfl (eo_nil ⟨rfl,rfl,_,rfl,Fr.refl _ _,rfl⟩)
        ·intro ρ w296o F296o hS hρ
         have q92:ρ 92=.bool (worksV):=hS 1 (by decide) 92 rfl
         have q94:ρ 94=.bool (x130.2==(0:Int)):=hS 3 (by decide) 94 rfl
         exact o_q (r_pickT q92 (of_not hc24) q94) ⟨Fr.refl _ _,rfl⟩
        ·intro ρ w296o F296o hS hρ
         have q95:ρ 95=.bool (x130.2==(0:Int)):=hS 4 (by decide) 95 rfl
         exact o_q (r_mov q95) ⟨Fr.refl _ _,rfl⟩
        ·intro ρ w296o F296o hS hρ
         have q11:ρ 11=.pointer (some ⟨b118_10,0,none⟩):=hρ 11 (by kernel_rfl)
         have q96:ρ 96=.bool (x130.2==(0:Int)):=hS 5 (by decide) 96 rfl
         exact o_v (r_lda agg_api_Entry q11 (vs:=(cEnt x130.1 A133 c134 A136 c137)) rfl ((B246.ex F296o).part (n:=9) rfl)) (want_t (t:=96) rfl q96 hc269) rfl rfl (eo_nil ⟨rfl,rfl,_,rfl,Fr.refl _ _,rfl⟩)
        ·intro ρ w296o F296o hS hρ
         have q7:ρ 7=.pointer (some ⟨b53,0,none⟩):=hρ 7 (by kernel_rfl)
         have q96:ρ 96=.bool (x130.2==(0:Int)):=hS 5 (by decide) 96 rfl
         exact o_v (r_fa fld_api_Arena_1 rfl q7) (want_t (t:=96) rfl q96 hc269) rfl rfl (eo_nil ⟨rfl,rfl,_,rfl,Fr.refl _ _,rfl⟩)
        ·intro ρ w296o F296o hS hρ
         have q96:ρ 96=.bool (x130.2==(0:Int)):=hS 5 (by decide) 96 rfl
         have q98:ρ 98=.pointer (some ⟨b53,1,none⟩):=hS 7 (by decide) 98 rfl
         exact o_v (r_ld one_s_api_Entry q98 ((B245.ex F296o).cell rfl)) (want_t (t:=96) rfl q96 hc269) rfl rfl (eo_nil ⟨rfl,rfl,_,rfl,Fr.refl _ _,rfl⟩)
        ·intro ρ w296o F296o hS hρ
         have q10:ρ 10=.int .i64 (findA x37.1 d1.val.kind d1.key):=hρ 10 (by kernel_rfl)
         have q96:ρ 96=.bool (x130.2==(0:Int)):=hS 5 (by decide) 96 rfl
         exact o_v (r_mov q10) (want_t (t:=96) rfl q96 hc269) rfl rfl (eo_nil ⟨rfl,rfl,_,rfl,Fr.refl _ _,rfl⟩)
        ·intro ρ w296o F296o hS hρ
         have q96:ρ 96=.bool (x130.2==(0:Int)):=hS 5 (by decide) 96 rfl
         have q99:ρ 99=.slice A47 x37.1.slots.length c48:=hS 8 (by decide) 99 rfl
         have q100:ρ 100=.int .i64 (findA x37.1 d1.val.kind d1.key):=hS 9 (by decide) 100 rfl
         exact o_v (r_ia slc_s_api_Entry q99 q100 ((H49.fr (G241.trans (Fr.ext F296o)) (fun _ h=>h)).now.2 _ (lt_toNat ha297.1 ha297.2)).1 ha297.1 ha297.2) (want_t (t:=96) rfl q96 hc269) rfl rfl (eo_nil ⟨rfl,rfl,_,rfl,Fr.refl _ _,rfl⟩)
        ·intro ρ w296o F296o hS hρ
         have G359:Fr (b216::(b118_10::(b53::L))) w236 w296o:=Fr.ext F296o
         have q96:ρ 96=.bool (x130.2==(0:Int)):=hS 5 (by decide) 96 rfl
         have q101:ρ 101=.pointer (some (elemA A47 kEnt.n (findA x37.1 d1.val.kind d1.key).toNat)):=hS 10 (by decide) 101 rfl
         exact o_v (r_lda' agg_api_Entry q101 (elemA_spot _ _ _) (vs:=(cEnt (nth x37.1.slots (findA x37.1 d1.val.kind d1.key)) A302 c303 A305 c306)) rfl ((H301.fr G359 (fun _ h=>h)).now.1)) (want_t (t:=96) rfl q96 hc269) rfl rfl (eo_nil ⟨rfl,rfl,_,rfl,Fr.refl _ _,rfl⟩)
        ·intro ρ w296o F296o hS hρ
         have E363:=E237.trans F296o
         have G371:Fr (b216::(b118_10::(b53::L))) w236 w296o:=Fr.ext F296o
         have q96:ρ 96=.bool (x130.2==(0:Int)):=hS 5 (by decide) 96 rfl
         have q97:ρ 97=.agg (cEnt x130.1 A133 c134 A136 c137).toArray:=hS 6 (by decide) 97 rfl
         have q102:ρ 102=.agg (cEnt (nth x37.1.slots (findA x37.1 d1.val.kind d1.key)) A302 c303 A305 c306).toArray:=hS 11 (by decide) 102 rfl
         refine o_call cf_entry_Same (by simp only [List.map,ev,q97,q102] <;> rfl) (entry_Same_c x130.1 (kEnt_mk (d:=x130.1) (H135.up (G243.trans (Fr.ext F296o)) (fun _ h=>h) (upc (.inr m224) (upc (.inl (List.Mem.head _)) (upc (.inl (List.Mem.tail _ (List.Mem.head _))) (fun m hm=>Or.inl (List.Mem.tail _ (List.Mem.tail _ hm))))))) (H138.up (G243.trans (Fr.ext F296o)) (fun _ h=>h) (upc (.inr m224) (upc (.inl (List.Mem.head _)) (upc (.inl (List.Mem.tail _ (List.Mem.head _))) (fun m hm=>Or.inl (List.Mem.tail _ (List.Mem.tail _ hm)))))))) (nth x37.1.slots (findA x37.1 d1.val.kind d1.key)) (kEnt_mk (d:=(nth x37.1.slots (findA x37.1 d1.val.kind d1.key))) (H304.fr G371 (fun _ h=>h)) (H307.fr G371 (fun _ h=>h))) ((((hL.fr E363).cons (B245.ex F296o).lt).cons (B246.ex F296o).lt).cons (B236'.ex F296o).lt) (eq_ev hx308 (entSame_ev x130.1 (nth x37.1.slots (findA x37.1 d1.val.kind d1.key)) ha309))) (want_t (t:=96) rfl q96 hc269) rfl ?_
         rintro _ w' ⟨F,rfl⟩
         exact eo_nil ⟨rfl,rfl,_,rfl,F,rfl⟩
        ·intro ρ w296o F296o hS hρ
         have q96:ρ 96=.bool (x130.2==(0:Int)):=hS 5 (by decide) 96 rfl
         have q103:ρ 103=.bool x308:=hS 12 (by decide) 103 rfl
         exact o_q (r_pickT q96 hc269 q103) ⟨Fr.refl _ _,rfl⟩
        ·intro ρ w296o F296o hS hρ
         have q104:ρ 104=.bool x308:=hS 13 (by decide) 104 rfl
         exact o_q (r_mov q104) ⟨Fr.refl _ _,rfl⟩
        ·intro ρ w296o F296o hS hρ
         have q14:ρ 14=.bool x195.2.1:=hρ 14 (by kernel_rfl)
         have q105:ρ 105=.bool x308:=hS 14 (by decide) 105 rfl
         exact o_vg (want_ct (t:=105) rfl q105) (fun hk=>(r_mov q14)) rfl rfl (eo_nil ⟨rfl,rfl,_,rfl,Fr.refl _ _,rfl⟩)
        ·intro ρ w296o F296o hS hρ
         have q105:ρ 105=.bool x308:=hS 14 (by decide) 105 rfl
         have q106:ρ 106=(bif x308 then (.bool x195.2.1:Value) else undef):=hS 15 (by decide) 106 rfl
         exact o_vg (want_ct (t:=105) rfl q105) (fun hk=>(r_not (q106.trans (gdT hk)))) rfl rfl (eo_nil ⟨rfl,rfl,_,rfl,Fr.refl _ _,rfl⟩)
        ·intro ρ w296o F296o hS hρ
         have q105:ρ 105=.bool x308:=hS 14 (by decide) 105 rfl
         have q107:ρ 107=(bif x308 then (.bool (!x195.2.1):Value) else undef):=hS 16 (by decide) 107 rfl
         exact o_q (r_pickAnd q105 (fun ht=>(q107.trans (gdT ht))) rfl) ⟨Fr.refl _ _,rfl⟩
        ·intro ρ w296o F296o hS hρ
         have q108:ρ 108=.bool (x308&&(!x195.2.1)):=hS 17 (by decide) 108 rfl
         exact o_q (r_mov q108) ⟨Fr.refl _ _,rfl⟩
        ·intro ρ w296o F296o hS hρ
         have q15:ρ 15=.int .i64 x195.2.2:=hρ 15 (by kernel_rfl)
         have q109:ρ 109=.bool (x308&&(!x195.2.1)):=hS 18 (by decide) 109 rfl
         exact o_vg (want_ct (t:=109) rfl q109) (fun hk=>(r_mov q15)) rfl rfl (eo_nil ⟨rfl,rfl,_,rfl,Fr.refl _ _,rfl⟩)
        ·intro ρ w296o F296o hS hρ
         have q109:ρ 109=.bool (x308&&(!x195.2.1)):=hS 18 (by decide) 109 rfl
         have q110:ρ 110=(bif (x308&&(!x195.2.1)) then (.int .i64 x195.2.2:Value) else undef):=hS 19 (by decide) 110 rfl
         exact o_vg (want_ct (t:=109) rfl q109) (fun hk=>(r_int (q110.trans (gdT hk)) rfl rfl)) rfl rfl (eo_nil ⟨rfl,rfl,_,rfl,Fr.refl _ _,rfl⟩)
        ·intro ρ w296o F296o hS hρ
         have q109:ρ 109=.bool (x308&&(!x195.2.1)):=hS 18 (by decide) 109 rfl
         have q111:ρ 111=(bif (x308&&(!x195.2.1)) then (.bool (x195.2.2==(0:Int)):Value) else undef):=hS 20 (by decide) 111 rfl
         exact o_q (r_pickAnd q109 (fun ht=>(q111.trans (gdT ht))) rfl) ⟨Fr.refl _ _,rfl⟩
        ·intro ρ w296o F296o hS hρ
         have q112:ρ 112=.bool ((x308&&(!x195.2.1))&&(x195.2.2==(0:Int))):=hS 21 (by decide) 112 rfl
         exact o_q (r_mov q112) ⟨Fr.refl _ _,rfl⟩
        ·intro ρ w296o F296o hS hρ
         have q7:ρ 7=.pointer (some ⟨b53,0,none⟩):=hρ 7 (by kernel_rfl)
         have q113:ρ 113=.bool ((x308&&(!x195.2.1))&&(x195.2.2==(0:Int))):=hS 22 (by decide) 113 rfl
         exact o_vg (want_ct (t:=113) rfl q113) (fun hk=>(r_lda agg_api_Arena q7 (vs:=(cArena x37.1 A47 c48 A50 c51)) rfl ((B245.ex F296o).part (n:=3) rfl))) rfl rfl (eo_nil ⟨rfl,rfl,_,rfl,Fr.refl _ _,rfl⟩)
        ·intro ρ w296o F296o hS hρ
         have q13:ρ 13=.pointer (some ⟨b216,0,none⟩):=hρ 13 (by kernel_rfl)
         have q113:ρ 113=.bool ((x308&&(!x195.2.1))&&(x195.2.2==(0:Int))):=hS 22 (by decide) 113 rfl
         exact o_vg (want_ct (t:=113) rfl q113) (fun hk=>(r_lda agg_api_Arena q13 (vs:=(cArena x195.1 A210 c211 A213 c214)) rfl ((B236'.ex F296o).part (n:=3) rfl))) rfl rfl (eo_nil ⟨rfl,rfl,_,rfl,Fr.refl _ _,rfl⟩)
        ·intro ρ w296o F296o hS hρ
         have E399:=E237.trans F296o
         have q113:ρ 113=.bool ((x308&&(!x195.2.1))&&(x195.2.2==(0:Int))):=hS 22 (by decide) 113 rfl
         have q114:ρ 114=(bif ((x308&&(!x195.2.1))&&(x195.2.2==(0:Int))) then (.agg (cArena x37.1 A47 c48 A50 c51).toArray:Value) else undef):=hS 23 (by decide) 114 rfl
         have q115:ρ 115=(bif ((x308&&(!x195.2.1))&&(x195.2.2==(0:Int))) then (.agg (cArena x195.1 A210 c211 A213 c214).toArray:Value) else undef):=hS 24 (by decide) 115 rfl
         refine o_callg (V:=.bool (sameA x37.1 x195.1)) cf_arena_Same (want_ct (t:=113) rfl q113) (fun hk=>(mapv2 (q114.trans (gdT hk)) (q115.trans (gdT hk)))) (fun hk=>(arena_Same_c x37.1 (kArena_mk (d:=x37.1) (H49.up (G241.trans (Fr.ext F296o)) (fun _ h=>h) (upc (.inr m222) (upc (.inr m187) (upc (.inr m57) (fun _ h=>.inl h))))) (H52.up (G241.trans (Fr.ext F296o)) (fun _ h=>h) (upc (.inr m222) (upc (.inr m187) (upc (.inr m57) (fun _ h=>.inl h)))))) x195.1 (kArena_mk (d:=x195.1) (H212.up (G244.trans (Fr.ext F296o)) (fun _ h=>h) (upc (.inr m225) (upc (.inl (List.Mem.head _)) (upc (.inl (List.Mem.tail _ (List.Mem.head _))) (fun m hm=>Or.inl (List.Mem.tail _ (List.Mem.tail _ hm))))))) (H215.up (G244.trans (Fr.ext F296o)) (fun _ h=>h) (upc (.inr m225) (upc (.inl (List.Mem.head _)) (upc (.inl (List.Mem.tail _ (List.Mem.head _))) (fun m hm=>Or.inl (List.Mem.tail _ (List.Mem.tail _ hm)))))))) ((((hL.fr E399).cons (B245.ex F296o).lt).cons (B246.ex F296o).lt).cons (B236'.ex F296o).lt) (arSame_ev x37.1 x195.1 (ha311 hk)))) rfl ?_
         intro w' F
         exact eo_nil ⟨rfl,rfl,_,rfl,F,rfl⟩
        ·intro ρ w296o F296o hS hρ
         have q113:ρ 113=.bool ((x308&&(!x195.2.1))&&(x195.2.2==(0:Int))):=hS 22 (by decide) 113 rfl
         have q116:ρ 116=(bif ((x308&&(!x195.2.1))&&(x195.2.2==(0:Int))) then (.bool (sameA x37.1 x195.1):Value) else undef):=hS 25 (by decide) 116 rfl
         exact o_q (r_pickAnd q113 (fun ht=>(q116.trans (gdT ht))) rfl) ⟨Fr.refl _ _,rfl⟩
        ·intro ρ w296o F296o hS hρ
         have q117:ρ 117=.bool (((x308&&(!x195.2.1))&&(x195.2.2==(0:Int)))&&(sameA x37.1 x195.1)):=hS 26 (by decide) 117 rfl
         exact o_q (r_mov q117) ⟨Fr.refl _ _,rfl⟩
        ·intro ρ w296o F296o hS hρ
         have q8:ρ 8=.bool x37.2.1:=hρ 8 (by kernel_rfl)
         have q118:ρ 118=.bool (((x308&&(!x195.2.1))&&(x195.2.2==(0:Int)))&&(sameA x37.1 x195.1)):=hS 27 (by decide) 118 rfl
         exact o_vg (want_ct (t:=118) rfl q118) (fun hk=>(r_mov q8)) rfl rfl (eo_nil ⟨rfl,rfl,_,rfl,Fr.refl _ _,rfl⟩)
        ·intro ρ w296o F296o hS hρ
         have q2:ρ 2=.pointer (some ⟨b13,0,none⟩):=hρ 2 (by kernel_rfl)
         have q118:ρ 118=.bool (((x308&&(!x195.2.1))&&(x195.2.2==(0:Int)))&&(sameA x37.1 x195.1)):=hS 27 (by decide) 118 rfl
         exact o_vg (want_ct (t:=118) rfl q118) (fun hk=>(r_lda agg_api_Arena q2 (vs:=(cArena d0 A1 c2 A4 c5)) rfl ((S13.fr (G239.trans (Fr.ext F296o)) (fun _ h=>h)).now.part (n:=3) rfl))) rfl rfl (eo_nil ⟨rfl,rfl,_,rfl,Fr.refl _ _,rfl⟩)
        ·intro ρ w296o F296o hS hρ
         have q7:ρ 7=.pointer (some ⟨b53,0,none⟩):=hρ 7 (by kernel_rfl)
         have q118:ρ 118=.bool (((x308&&(!x195.2.1))&&(x195.2.2==(0:Int)))&&(sameA x37.1 x195.1)):=hS 27 (by decide) 118 rfl
         exact o_vg (want_ct (t:=118) rfl q118) (fun hk=>(r_lda agg_api_Arena q7 (vs:=(cArena x37.1 A47 c48 A50 c51)) rfl ((B245.ex F296o).part (n:=3) rfl))) rfl rfl (eo_nil ⟨rfl,rfl,_,rfl,Fr.refl _ _,rfl⟩)
        ·intro ρ w296o F296o hS hρ
         have E435:=E237.trans F296o
         have q118:ρ 118=.bool (((x308&&(!x195.2.1))&&(x195.2.2==(0:Int)))&&(sameA x37.1 x195.1)):=hS 27 (by decide) 118 rfl
         have q120:ρ 120=(bif (((x308&&(!x195.2.1))&&(x195.2.2==(0:Int)))&&(sameA x37.1 x195.1)) then (.agg (cArena d0 A1 c2 A4 c5).toArray:Value) else undef):=hS 29 (by decide) 120 rfl
         have q121:ρ 121=(bif (((x308&&(!x195.2.1))&&(x195.2.2==(0:Int)))&&(sameA x37.1 x195.1)) then (.agg (cArena x37.1 A47 c48 A50 c51).toArray:Value) else undef):=hS 30 (by decide) 121 rfl
         refine o_callg (V:=.bool (alikeA d0 x37.1)) cf_arena_Alike (want_ct (t:=118) rfl q118) (fun hk=>(mapv2 (q120.trans (gdT hk)) (q121.trans (gdT hk)))) (fun hk=>(arena_Alike_c d0 (kArena_mk (d:=d0) (H3.up (G238.trans (Fr.ext F296o)) (fun _ h=>h) (upc (.inr m219) (upc (.inr m184) (upc (.inr m54) (fun _ h=>.inl h))))) (H6.up (G238.trans (Fr.ext F296o)) (fun _ h=>h) (upc (.inr m219) (upc (.inr m184) (upc (.inr m54) (fun _ h=>.inl h)))))) x37.1 (kArena_mk (d:=x37.1) (H49.up (G241.trans (Fr.ext F296o)) (fun _ h=>h) (upc (.inr m222) (upc (.inr m187) (upc (.inr m57) (fun _ h=>.inl h))))) (H52.up (G241.trans (Fr.ext F296o)) (fun _ h=>h) (upc (.inr m222) (upc (.inr m187) (upc (.inr m57) (fun _ h=>.inl h)))))) ((((hL.fr E435).cons (B245.ex F296o).lt).cons (B246.ex F296o).lt).cons (B236'.ex F296o).lt) (arAlike_ev d0 x37.1 (ha313 hk) (ha314 hk)))) rfl ?_
         intro w' F
         exact eo_nil ⟨rfl,rfl,_,rfl,F,rfl⟩
        ·intro ρ w296o F296o hS hρ
         have q118:ρ 118=.bool (((x308&&(!x195.2.1))&&(x195.2.2==(0:Int)))&&(sameA x37.1 x195.1)):=hS 27 (by decide) 118 rfl
         have q122:ρ 122=(bif (((x308&&(!x195.2.1))&&(x195.2.2==(0:Int)))&&(sameA x37.1 x195.1)) then (.bool (alikeA d0 x37.1):Value) else undef):=hS 31 (by decide) 122 rfl
         exact o_vg (want_ct (t:=118) rfl q118) (fun hk=>(r_not (q122.trans (gdT hk)))) rfl rfl (eo_nil ⟨rfl,rfl,_,rfl,Fr.refl _ _,rfl⟩)
        ·intro ρ w296o F296o hS hρ
         have q118:ρ 118=.bool (((x308&&(!x195.2.1))&&(x195.2.2==(0:Int)))&&(sameA x37.1 x195.1)):=hS 27 (by decide) 118 rfl
         have q119:ρ 119=(bif (((x308&&(!x195.2.1))&&(x195.2.2==(0:Int)))&&(sameA x37.1 x195.1)) then (.bool x37.2.1:Value) else undef):=hS 28 (by decide) 119 rfl
         have q123:ρ 123=(bif (((x308&&(!x195.2.1))&&(x195.2.2==(0:Int)))&&(sameA x37.1 x195.1)) then (.bool (!(alikeA d0 x37.1)):Value) else undef):=hS 32 (by decide) 123 rfl
         exact o_vg (want_ct (t:=118) rfl q118) (fun hk=>(r_boolEq un_bool (q119.trans (gdT hk)) (q123.trans (gdT hk)))) rfl rfl (eo_nil ⟨rfl,rfl,_,rfl,Fr.refl _ _,rfl⟩)
        ·intro ρ w296o F296o hS hρ
         have q118:ρ 118=.bool (((x308&&(!x195.2.1))&&(x195.2.2==(0:Int)))&&(sameA x37.1 x195.1)):=hS 27 (by decide) 118 rfl
         have q124:ρ 124=(bif (((x308&&(!x195.2.1))&&(x195.2.2==(0:Int)))&&(sameA x37.1 x195.1)) then (.bool (x37.2.1==(!(alikeA d0 x37.1))):Value) else undef):=hS 33 (by decide) 124 rfl
         exact o_q (r_pickAnd q118 (fun ht=>(q124.trans (gdT ht))) rfl) ⟨Fr.refl _ _,rfl⟩
        ·intro ρ w296o F296o hS hρ
         have q125:ρ 125=.bool ((((x308&&(!x195.2.1))&&(x195.2.2==(0:Int)))&&(sameA x37.1 x195.1))&&(x37.2.1==(!(alikeA d0 x37.1)))):=hS 34 (by decide) 125 rfl
         exact o_q (r_asg q125) ⟨Fr.refl _ _,rfl⟩
       ·intro ρ w296 F296 hS hρ
        have q4:ρ 4=.bool ((((x308&&(!x195.2.1))&&(x195.2.2==(0:Int)))&&(sameA x37.1 x195.1))&&(x37.2.1==(!(alikeA d0 x37.1)))):=hS 35 4 rfl
        obtain ⟨ρ',rfl⟩:∃ ρ',ρ=envs (ovr [4,91,92,93,94,95,96,97,98,99,100,101,102,103,104,105,106,107,108,109,110,111,112,113,114,115,116,117,118,119,120,121,122,123,124,125] ρ' _) [(4,.bool ((((x308&&(!x195.2.1))&&(x195.2.2==(0:Int)))&&(sameA x37.1 x195.1))&&(x37.2.1==(!(alikeA d0 x37.1)))))]:=⟨ρ,ovr_self hρ ⟨q4,trivial⟩⟩
        have E447:=E237.trans F296
        refine sq_n ?_
        refine ec_ret ?_
        subst h
        exact (end1 rfl ⟨_,rfl,E447,rfl⟩)
      ·replace h:=h.2 hc269
       refine ec_any0 (by kernel_rfl) [[],[0],[0,1],[0,1,2],[0,1,2,3],[0,1,2,3,4],[0,1,2,3,4,5],[0,1,2,3,4,5],[0,1,2,3,4,5,7],[0,1,2,3,4,5],[0,1,2,3,4,5,7,8,9],[0,1,2,3,4,5,7,8,9,10],[0,1,2,3,4,5,6,7,8,9,10,11],[0,1,2,3,4,5,6,7,8,9,10,11,12],[0,1,2,3,4,5,6,7,8,9,10,11,12,13],[0,1,2,3,4,5,6,7,8,9,10,11,12,13,14],[0,1,2,3,4,5,6,7,8,9,10,11,12,13,14,15],[0,1,2,3,4,5,6,7,8,9,10,11,12,13,14,15,16],[0,1,2,3,4,5,6,7,8,9,10,11,12,13,14,15,16,17],[0,1,2,3,4,5,6,7,8,9,10,11,12,13,14,15,16,17,18],[0,1,2,3,4,5,6,7,8,9,10,11,12,13,14,15,16,17,18,19],[0,1,2,3,4,5,6,7,8,9,10,11,12,13,14,15,16,17,18,19,20],[0,1,2,3,4,5,6,7,8,9,10,11,12,13,14,15,16,17,18,19,20,21],[0,1,2,3,4,5,6,7,8,9,10,11,12,13,14,15,16,17,18,19,20,21,22],[0,1,2,3,4,5,6,7,8,9,10,11,12,13,14,15,16,17,18,19,20,21,22],[0,1,2,3,4,5,6,7,8,9,10,11,12,13,14,15,16,17,18,19,20,21,22,23,24],[0,1,2,3,4,5,6,7,8,9,10,11,12,13,14,15,16,17,18,19,20,21,22,23,24,25],[0,1,2,3,4,5,6,7,8,9,10,11,12,13,14,15,16,17,18,19,20,21,22,23,24,25,26],[0,1,2,3,4,5,6,7,8,9,10,11,12,13,14,15,16,17,18,19,20,21,22,23,24,25,26,27],[0,1,2,3,4,5,6,7,8,9,10,11,12,13,14,15,16,17,18,19,20,21,22,23,24,25,26,27],[0,1,2,3,4,5,6,7,8,9,10,11,12,13,14,15,16,17,18,19,20,21,22,23,24,25,26,27],[0,1,2,3,4,5,6,7,8,9,10,11,12,13,14,15,16,17,18,19,20,21,22,23,24,25,26,27,29,30],[0,1,2,3,4,5,6,7,8,9,10,11,12,13,14,15,16,17,18,19,20,21,22,23,24,25,26,27,29,30,31],[0,1,2,3,4,5,6,7,8,9,10,11,12,13,14,15,16,17,18,19,20,21,22,23,24,25,26,27,28,29,30,31,32],[0,1,2,3,4,5,6,7,8,9,10,11,12,13,14,15,16,17,18,19,20,21,22,23,24,25,26,27,28,29,30,31,32,33],[0,1,2,3,4,5,6,7,8,9,10,11,12,13,14,15,16,17,18,19,20,21,22,23,24,25,26,27,28,29,30,31,32,33,34]] [4,91,92,93,94,95,96,97,98,99,100,101,102,103,104,105,106,107,108,109,110,111,112,113,114,115,116,117,118,119,120,121,122,123,124,125] [fun v _=>v=(.bool (worksV):Value),fun v _=>v=(.bool (worksV):Value),fun v _=>v=(.int .i64 x130.2:Value),fun v _=>v=(.bool (x130.2==(0:Int)):Value),fun v _=>v=(.bool (x130.2==(0:Int)):Value),fun v _=>v=(.bool (x130.2==(0:Int)):Value),fun v _=>v=((undef:Value):Value),fun v _=>v=((undef:Value):Value),fun v _=>v=((undef:Value):Value),fun v _=>v=((undef:Value):Value),fun v _=>v=((undef:Value):Value),fun v _=>v=((undef:Value):Value),fun v _=>v=((undef:Value):Value),fun v _=>v=(.bool false:Value),fun v _=>v=(.bool false:Value),fun v _=>v=((undef:Value):Value),fun v _=>v=((undef:Value):Value),fun v _=>v=(.bool false:Value),fun v _=>v=(.bool false:Value),fun v _=>v=((undef:Value):Value),fun v _=>v=((undef:Value):Value),fun v _=>v=(.bool false:Value),fun v _=>v=(.bool false:Value),fun v _=>v=((undef:Value):Value),fun v _=>v=((undef:Value):Value),fun v _=>v=((undef:Value):Value),fun v _=>v=(.bool false:Value),fun v _=>v=(.bool false:Value),fun v _=>v=((undef:Value):Value),fun v _=>v=((undef:Value):Value),fun v _=>v=((undef:Value):Value),fun v _=>v=((undef:Value):Value),fun v _=>v=((undef:Value):Value),fun v _=>v=((undef:Value):Value),fun v _=>v=(.bool false:Value),fun v _=>v=(.bool false:Value)] (by kernel_rfl) ⟨fun _ _ _ _ _ h=>h,fun _ _ _ _ _ h=>h,fun _ _ _ _ _ h=>h,fun _ _ _ _ _ h=>h,fun _ _ _ _ _ h=>h,fun _ _ _ _ _ h=>h,fun _ _ _ _ _ h=>h,fun _ _ _ _ _ h=>h,fun _ _ _ _ _ h=>h,fun _ _ _ _ _ h=>h,fun _ _ _ _ _ h=>h,fun _ _ _ _ _ h=>h,fun _ _ _ _ _ h=>h,fun _ _ _ _ _ h=>h,fun _ _ _ _ _ h=>h,fun _ _ _ _ _ h=>h,fun _ _ _ _ _ h=>h,fun _ _ _ _ _ h=>h,fun _ _ _ _ _ h=>h,fun _ _ _ _ _ h=>h,fun _ _ _ _ _ h=>h,fun _ _ _ _ _ h=>h,fun _ _ _ _ _ h=>h,fun _ _ _ _ _ h=>h,fun _ _ _ _ _ h=>h,fun _ _ _ _ _ h=>h,fun _ _ _ _ _ h=>h,fun _ _ _ _ _ h=>h,fun _ _ _ _ _ h=>h,fun _ _ _ _ _ h=>h,fun _ _ _ _ _ h=>h,fun _ _ _ _ _ h=>h,fun _ _ _ _ _ h=>h,fun _ _ _ _ _ h=>h,fun _ _ _ _ _ h=>h,fun _ _ _ _ _ h=>h,trivial⟩ ?_ ?_
       ·refine ⟨?_,?_,?_,?_,?_,?_,?_,?_,?_,?_,?_,?_,?_,?_,?_,?_,?_,?_,?_,?_,?_,?_,?_,?_,?_,?_,?_,?_,?_,?_,?_,?_,?_,?_,?_,?_,trivial⟩
        ·intro ρ w459o F459o hS hρ
         have q5:ρ 5=.bool (worksV):=hρ 5 (by kernel_rfl)
         exact o_q (r_mov q5) ⟨Fr.refl _ _,rfl⟩
        ·intro ρ w459o F459o hS hρ
         have q91:ρ 91=.bool (worksV):=hS 0 (by decide) 91 rfl
         exact o_q (r_mov q91) ⟨Fr.refl _ _,rfl⟩
        ·intro ρ w459o F459o hS hρ
         have q12:ρ 12=.int .i64 x130.2:=hρ 12 (by kernel_rfl)
         have q92:ρ 92=.bool (worksV):=hS 1 (by decide) 92 rfl
         exact o_v (r_mov q12) (want_t (t:=92) rfl q92 (of_not hc24)) rfl rfl (eo_nil ⟨rfl,rfl,_,rfl,Fr.refl _ _,rfl⟩)
        ·intro ρ w459o F459o hS hρ
         have q92:ρ 92=.bool (worksV):=hS 1 (by decide) 92 rfl
         have q93:ρ 93=.int .i64 x130.2:=hS 2 (by decide) 93 rfl
         exact o_v (r_int q93 rfl rfl) (want_t (t:=92) rfl q92 (of_not hc24)) rfl rfl (eo_nil ⟨rfl,rfl,_,rfl,Fr.refl _ _,rfl⟩)
        ·intro ρ w459o F459o hS hρ
         have q92:ρ 92=.bool (worksV):=hS 1 (by decide) 92 rfl
         have q94:ρ 94=.bool (x130.2==(0:Int)):=hS 3 (by decide) 94 rfl
         exact o_q (r_pickT q92 (of_not hc24) q94) ⟨Fr.refl _ _,rfl⟩
        ·intro ρ w459o F459o hS hρ
         have q95:ρ 95=.bool (x130.2==(0:Int)):=hS 4 (by decide) 95 rfl
         exact o_q (r_mov q95) ⟨Fr.refl _ _,rfl⟩
        ·intro ρ w459o F459o hS hρ
         have q96:ρ 96=.bool (x130.2==(0:Int)):=hS 5 (by decide) 96 rfl
         exact o_no (want_f (t:=96) rfl q96 hc269) rfl (eo_nil ⟨rfl,rfl,undef,rfl,Fr.refl _ _,rfl⟩)
        ·intro ρ w459o F459o hS hρ
         have q96:ρ 96=.bool (x130.2==(0:Int)):=hS 5 (by decide) 96 rfl
         exact o_no (want_f (t:=96) rfl q96 hc269) rfl (eo_nil ⟨rfl,rfl,undef,rfl,Fr.refl _ _,rfl⟩)
        ·intro ρ w459o F459o hS hρ
         have q96:ρ 96=.bool (x130.2==(0:Int)):=hS 5 (by decide) 96 rfl
         exact o_no (want_f (t:=96) rfl q96 hc269) rfl (eo_nil ⟨rfl,rfl,undef,rfl,Fr.refl _ _,rfl⟩)
        ·intro ρ w459o F459o hS hρ
         have q96:ρ 96=.bool (x130.2==(0:Int)):=hS 5 (by decide) 96 rfl
         exact o_no (want_f (t:=96) rfl q96 hc269) rfl (eo_nil ⟨rfl,rfl,undef,rfl,Fr.refl _ _,rfl⟩)
        ·intro ρ w459o F459o hS hρ
         have q96:ρ 96=.bool (x130.2==(0:Int)):=hS 5 (by decide) 96 rfl
         exact o_no (want_f (t:=96) rfl q96 hc269) rfl (eo_nil ⟨rfl,rfl,undef,rfl,Fr.refl _ _,rfl⟩)
        ·intro ρ w459o F459o hS hρ
         have q96:ρ 96=.bool (x130.2==(0:Int)):=hS 5 (by decide) 96 rfl
         exact o_no (want_f (t:=96) rfl q96 hc269) rfl (eo_nil ⟨rfl,rfl,undef,rfl,Fr.refl _ _,rfl⟩)
        ·intro ρ w459o F459o hS hρ
         have q96:ρ 96=.bool (x130.2==(0:Int)):=hS 5 (by decide) 96 rfl
         exact o_no (want_f (t:=96) rfl q96 hc269) rfl (eo_nil ⟨rfl,rfl,undef,rfl,Fr.refl _ _,rfl⟩)
        ·intro ρ w459o F459o hS hρ
         have q96:ρ 96=.bool (x130.2==(0:Int)):=hS 5 (by decide) 96 rfl
         exact o_q (r_pickF q96 hc269 rfl) ⟨Fr.refl _ _,rfl⟩
        ·intro ρ w459o F459o hS hρ
         have q104:ρ 104=.bool false:=hS 13 (by decide) 104 rfl
         exact o_q (r_mov q104) ⟨Fr.refl _ _,rfl⟩
        ·intro ρ w459o F459o hS hρ
         have q105:ρ 105=.bool false:=hS 14 (by decide) 105 rfl
         exact o_no (want_f (t:=105) rfl q105 rfl) rfl (eo_nil ⟨rfl,rfl,undef,rfl,Fr.refl _ _,rfl⟩)
        ·intro ρ w459o F459o hS hρ
         have q105:ρ 105=.bool false:=hS 14 (by decide) 105 rfl
         exact o_no (want_f (t:=105) rfl q105 rfl) rfl (eo_nil ⟨rfl,rfl,undef,rfl,Fr.refl _ _,rfl⟩)
        ·intro ρ w459o F459o hS hρ
         have q105:ρ 105=.bool false:=hS 14 (by decide) 105 rfl
         exact o_q (r_pickF q105 rfl rfl) ⟨Fr.refl _ _,rfl⟩
        ·intro ρ w459o F459o hS hρ
         have q108:ρ 108=.bool false:=hS 17 (by decide) 108 rfl
         exact o_q (r_mov q108) ⟨Fr.refl _ _,rfl⟩
        ·intro ρ w459o F459o hS hρ
         have q109:ρ 109=.bool false:=hS 18 (by decide) 109 rfl
         exact o_no (want_f (t:=109) rfl q109 rfl) rfl (eo_nil ⟨rfl,rfl,undef,rfl,Fr.refl _ _,rfl⟩)
        ·intro ρ w459o F459o hS hρ
         have q109:ρ 109=.bool false:=hS 18 (by decide) 109 rfl
         exact o_no (want_f (t:=109) rfl q109 rfl) rfl (eo_nil ⟨rfl,rfl,undef,rfl,Fr.refl _ _,rfl⟩)
        ·intro ρ w459o F459o hS hρ
         have q109:ρ 109=.bool false:=hS 18 (by decide) 109 rfl
         exact o_q (r_pickF q109 rfl rfl) ⟨Fr.refl _ _,rfl⟩
        ·intro ρ w459o F459o hS hρ
         have q112:ρ 112=.bool false:=hS 21 (by decide) 112 rfl
         exact o_q (r_mov q112) ⟨Fr.refl _ _,rfl⟩
        ·intro ρ w459o F459o hS hρ
         have q113:ρ 113=.bool false:=hS 22 (by decide) 113 rfl
         exact o_no (want_f (t:=113) rfl q113 rfl) rfl (eo_nil ⟨rfl,rfl,undef,rfl,Fr.refl _ _,rfl⟩)
        ·intro ρ w459o F459o hS hρ
         have q113:ρ 113=.bool false:=hS 22 (by decide) 113 rfl
         exact o_no (want_f (t:=113) rfl q113 rfl) rfl (eo_nil ⟨rfl,rfl,undef,rfl,Fr.refl _ _,rfl⟩)
        ·intro ρ w459o F459o hS hρ
         have q113:ρ 113=.bool false:=hS 22 (by decide) 113 rfl
         exact o_no (want_f (t:=113) rfl q113 rfl) rfl (eo_nil ⟨rfl,rfl,undef,rfl,Fr.refl _ _,rfl⟩)
        ·intro ρ w459o F459o hS hρ
         have q113:ρ 113=.bool false:=hS 22 (by decide) 113 rfl
         exact o_q (r_pickF q113 rfl rfl) ⟨Fr.refl _ _,rfl⟩
        ·intro ρ w459o F459o hS hρ
         have q117:ρ 117=.bool false:=hS 26 (by decide) 117 rfl
         exact o_q (r_mov q117) ⟨Fr.refl _ _,rfl⟩
        ·intro ρ w459o F459o hS hρ
         have q118:ρ 118=.bool false:=hS 27 (by decide) 118 rfl
         exact o_no (want_f (t:=118) rfl q118 rfl) rfl (eo_nil ⟨rfl,rfl,undef,rfl,Fr.refl _ _,rfl⟩)
        ·intro ρ w459o F459o hS hρ
         have q118:ρ 118=.bool false:=hS 27 (by decide) 118 rfl
         exact o_no (want_f (t:=118) rfl q118 rfl) rfl (eo_nil ⟨rfl,rfl,undef,rfl,Fr.refl _ _,rfl⟩)
        ·intro ρ w459o F459o hS hρ
         have q118:ρ 118=.bool false:=hS 27 (by decide) 118 rfl
         exact o_no (want_f (t:=118) rfl q118 rfl) rfl (eo_nil ⟨rfl,rfl,undef,rfl,Fr.refl _ _,rfl⟩)
        ·intro ρ w459o F459o hS hρ
         have q118:ρ 118=.bool false:=hS 27 (by decide) 118 rfl
         exact o_no (want_f (t:=118) rfl q118 rfl) rfl (eo_nil ⟨rfl,rfl,undef,rfl,Fr.refl _ _,rfl⟩)
        ·intro ρ w459o F459o hS hρ
         have q118:ρ 118=.bool false:=hS 27 (by decide) 118 rfl
         exact o_no (want_f (t:=118) rfl q118 rfl) rfl (eo_nil ⟨rfl,rfl,undef,rfl,Fr.refl _ _,rfl⟩)
        ·intro ρ w459o F459o hS hρ
         have q118:ρ 118=.bool false:=hS 27 (by decide) 118 rfl
         exact o_no (want_f (t:=118) rfl q118 rfl) rfl (eo_nil ⟨rfl,rfl,undef,rfl,Fr.refl _ _,rfl⟩)
        ·intro ρ w459o F459o hS hρ
         have q118:ρ 118=.bool false:=hS 27 (by decide) 118 rfl
         exact o_q (r_pickF q118 rfl rfl) ⟨Fr.refl _ _,rfl⟩
        ·intro ρ w459o F459o hS hρ
         have q125:ρ 125=.bool false:=hS 34 (by decide) 125 rfl
         exact o_q (r_asg q125) ⟨Fr.refl _ _,rfl⟩
       ·intro ρ w459 F459 hS hρ
        have q4:ρ 4=.bool false:=hS 35 4 rfl
        obtain ⟨ρ',rfl⟩:∃ ρ',ρ=envs (ovr [4,91,92,93,94,95,96,97,98,99,100,101,102,103,104,105,106,107,108,109,110,111,112,113,114,115,116,117,118,119,120,121,122,123,124,125] ρ' _) [(4,.bool false)]:=⟨ρ,ovr_self hρ ⟨q4,trivial⟩⟩
        have E460:=E237.trans F459
        refine sq_n ?_
        refine ec_ret ?_
        subst h
        exact (end1 rfl ⟨_,rfl,E460,rfl⟩)
end Go.Proofs.Ythifkdgljapmeaa
