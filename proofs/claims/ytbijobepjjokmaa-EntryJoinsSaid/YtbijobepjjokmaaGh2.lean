/- The law EntryJoins: what it comes to. -/
import Derived.Test.YtbijobepjjokmaaHj
namespace Go.Proofs.Ytbijobepjjokmaa
open Go Go.RowKit
set_option linter.unusedVariables false
set_option linter.unusedSimpArgs false
def law07_EntryJoins_raw (d0:Ent) (d1:Ent) (y:Bool):Prop :=
 ((!(worksV))=true→(y=false))∧((!(worksV))=false→(((!((fewE d0)&&(fewE d1)))=true→(y=(worksV)))∧((!((fewE d0)&&(fewE d1)))=false→((sm d0.val)∧((sm d1.val)∧(∃ x37,x37=(joinE d0 d1)∧((sm d0.val)∧((sm d1.val)∧(∃ x68,x68=(joinV d0.val d1.val)∧(((x37.2 != (0:Int))=true→((sm x37.1.val)∧(∃ x108,x108=(sameE x37.1 (⟨([]:Str),(⟨(0:Int),(0:Int),(0:Int),false,([]:Str),([]:List Int),([]:List Int),(0:Int)⟩:Val)⟩:Ent))∧(y=x108))))∧((x37.2 != (0:Int))=false→((sm d1.val)∧((sm d0.val)∧(∃ x118,x118=(joinE d1 d0)∧(((x68.2==(0:Int))=true→sm x37.1.val)∧(((((((x68.2==(0:Int))&&(sameV x37.1.val x68.1))&&(x37.1.key==d0.key))&&(x37.1.key==d1.key))&&(x118.2==(0:Int)))=true→sm x37.1.val)∧((((((((x68.2==(0:Int))&&(sameV x37.1.val x68.1))&&(x37.1.key==d0.key))&&(x37.1.key==d1.key))&&(x118.2==(0:Int)))&&(sameE x37.1 x118.1))=true→sm x37.1.val)∧(y=(((((((x68.2==(0:Int))&&(sameV x37.1.val x68.1))&&(x37.1.key==d0.key))&&(x37.1.key==d1.key))&&(x118.2==(0:Int)))&&(sameE x37.1 x118.1))&&((checkE x37.1)==(0:Int)))))))))))))))))))))
set_option maxRecDepth 20000 in
set_option maxHeartbeats 4000000 in
theorem law07_EntryJoins_c {L:List Nat} {w:World} {csP0:List Value} (d0:Ent) (HP0:Stb L w (fun w=>kEnt.r w csP0 d0)) {csP1:List Value} (d1:Ent) (HP1:Stb L w (fun w=>kEnt.r w csP1 d1)) (hL:Lt L w) {y:Bool} (h:law07_EntryJoins_raw d0 d1 y) :
  Calls Try.prog 7 [.agg csP0.toArray,.agg csP1.toArray].toArray w (Ret fun v w'=>Ext w w'∧v=.bool y):=by
 obtain ⟨A1,c2,A4,c5,rfl,H3,H6⟩:=kEnt_open HP0
 obtain ⟨A7,c8,A10,c11,rfl,H9,H12⟩:=kEnt_open HP1
 unfold law07_EntryJoins_raw at h
 refine calls_ec Try.func7 rfl rfl rfl ?_
 refine ec_seq ?_
 refine ec_region ?_
 refine o_box (cs:=(cEnt d0 A1 c2 A4 c5)) rfl rfl rfl ?_
 intro b13 w13 e13 F13 B13
 have S13:=B13.stb (nin hL e13)
 have G14:Fr L w w13:=Fr.ext F13
 refine o_box (cs:=(cEnt d1 A7 c8 A10 c11)) rfl rfl rfl ?_
 intro b15 w15 e15 F15 B15
 have S15:=B15.stb (nin (hL.fr F13) e15)
 have E16:=F13.trans F15
 have G18:Fr L w13 w15:=Fr.ext F15
 refine o_w (v:=.bool false) (r_asg rfl) ?_
 refine eo_nil_sq ?_
 refine ec_seq ?_
 refine ec_region ?_
 refine o_call cf_law07_works rfl (law07_works_c (hL.fr E16) (works7_ev)) rfl rfl ?_
 rintro _ w19 ⟨F19,rfl⟩
 have E20:=E16.trans F19
 have G23:Fr L w15 w19:=Fr.ext F19
 refine o_w (v:=.bool (worksV)) (r_asg rfl) ?_
 refine eo_nil_sq ?_
 iterate 2 refine ec_seq ?_
 refine ec_region ?_
 refine o_w (v:=.bool (worksV)) (r_mov rfl) ?_
 refine o_w (v:=.bool (!(worksV))) (r_not rfl) ?_
 refine eo_nil_sq ?_
 refine ec_cond rfl (fun hc24=>?_) (fun hc24=>?_)
 ·replace h:=h.1 hc24
  refine ec_seq ?_
  refine ec_region ?_
  refine o_w (v:=.bool false) (r_asg rfl) ?_
  refine eo_nil_sq ?_
  refine ec_ret ?_
  refine sq_ret ?_
  subst h
  exact (end1 rfl ⟨_,rfl,E20,rfl⟩)
 ·replace h:=h.2 hc24
  refine ec_skip ?_
  refine sq_n ?_
  refine ec_seq ?_
  refine ec_region ?_
  refine o_w (v:=.agg (cEnt d0 A1 c2 A4 c5).toArray) (r_lda agg_api_Entry rfl (vs:=(cEnt d0 A1 c2 A4 c5)) rfl ((S13.fr (G18.trans (Fr.ext F19)) (fun _ h=>h)).now.part (n:=9) rfl)) ?_
  refine o_call cf_law07_Few rfl (law07_Few_c d0 (kEnt_mk (d:=d0) (H3.fr ((G14.trans (Fr.ext F15)).trans (Fr.ext F19)) (fun _ h=>h)) (H6.fr ((G14.trans (Fr.ext F15)).trans (Fr.ext F19)) (fun _ h=>h))) (hL.fr E20) (fewE_ev d0)) rfl rfl ?_
  rintro _ w26 ⟨F26,rfl⟩
  have E27:=E20.trans F26
  refine o_w (v:=.bool (fewE d0)) (r_mov rfl) ?_
  refine o_vg (v:=.agg (cEnt d1 A7 c8 A10 c11).toArray) (want_ct (t:=18) rfl rfl) (fun hk=>(r_lda agg_api_Entry rfl (vs:=(cEnt d1 A7 c8 A10 c11)) rfl ((S15.fr (G23.trans (Fr.ext F26)) (fun _ h=>h)).now.part (n:=9) rfl))) rfl rfl ?_
  refine o_callg (V:=.bool (fewE d1)) cf_law07_Few (want_ct (t:=18) rfl rfl) (fun hk=>(mapv1 (gdT hk))) (fun hk=>(law07_Few_c d1 (kEnt_mk (d:=d1) (H9.fr (((G14.trans (Fr.ext F15)).trans (Fr.ext F19)).trans (Fr.ext F26)) (fun _ h=>h)) (H12.fr (((G14.trans (Fr.ext F15)).trans (Fr.ext F19)).trans (Fr.ext F26)) (fun _ h=>h))) (hL.fr E27) (fewE_ev d1))) rfl ?_
  intro w31 F31
  have E32:=E27.trans F31
  have G33:=(((G14.trans (Fr.ext F15)).trans (Fr.ext F19)).trans (Fr.ext F26)).trans (Fr.ext F31)
  refine o_w (v:=.bool ((fewE d0)&&(fewE d1))) (r_pickAnd rfl (fun ht=>(gdT ht)) rfl) ?_
  refine o_w (v:=.bool ((fewE d0)&&(fewE d1))) (r_asg rfl) ?_
  refine eo_nil_sq ?_
  iterate 2 refine ec_seq ?_
  refine ec_region ?_
  refine o_w (v:=.bool ((fewE d0)&&(fewE d1))) (r_mov rfl) ?_
  refine o_w (v:=.bool (!((fewE d0)&&(fewE d1)))) (r_not rfl) ?_
  refine eo_nil_sq ?_
  refine ec_cond rfl (fun hc36=>?_) (fun hc36=>?_)
  ·replace h:=h.1 hc36
   refine ec_seq ?_
   refine ec_region ?_
   refine o_w (v:=.bool (worksV)) (r_mov rfl) ?_
   refine o_w (v:=.bool (worksV)) (r_asg rfl) ?_
   refine eo_nil_sq ?_
   refine ec_ret ?_
   refine sq_ret ?_
   subst h
   exact (end1 rfl ⟨_,rfl,E32,rfl⟩)
  ·replace h:=h.2 hc36
   refine ec_skip ?_
   refine sq_n ?_
   refine ec_seq ?_
   refine ec_region ?_
   refine o_w (v:=.agg (cEnt d0 A1 c2 A4 c5).toArray) (r_lda agg_api_Entry rfl (vs:=(cEnt d0 A1 c2 A4 c5)) rfl ((S13.fr (((G18.trans (Fr.ext F19)).trans (Fr.ext F26)).trans (Fr.ext F31)) (fun _ h=>h)).now.part (n:=9) rfl)) ?_
   refine o_w (v:=.agg (cEnt d1 A7 c8 A10 c11).toArray) (r_lda agg_api_Entry rfl (vs:=(cEnt d1 A7 c8 A10 c11)) rfl ((S15.fr ((G23.trans (Fr.ext F26)).trans (Fr.ext F31)) (fun _ h=>h)).now.part (n:=9) rfl)) ?_
   obtain ⟨ha38,h⟩:=h
   obtain ⟨ha39,h⟩:=h
   obtain ⟨x37,hx37,h⟩:=h
   refine o_call cf_entry_Join rfl (entry_Join_c d0 (kEnt_mk (d:=d0) (H3.fr G33 (fun _ h=>h)) (H6.fr G33 (fun _ h=>h))) d1 (kEnt_mk (d:=d1) (H9.fr G33 (fun _ h=>h)) (H12.fr G33 (fun _ h=>h))) (hL.fr E32) (eq_ev hx37 (entJoin_ev d0 d1 ha38 ha39))) rfl rfl ?_
   rintro _ w37 ⟨F37,cs40,rfl,H41⟩
   have E42:=E32.trans F37
   have G44:=(((G18.trans (Fr.ext F19)).trans (Fr.ext F26)).trans (Fr.ext F31)).trans (Fr.ext F37)
   obtain ⟨A46,c47,A49,c50,rfl,H48,H51⟩:=kEnt_open H41
   refine o_w (v:=.tuple #[.agg (cEnt x37.1 A46 c47 A49 c50).toArray,.int .i64 x37.2]) (r_mov rfl) ?_
   refine o_w (v:=.agg (cEnt x37.1 A46 c47 A49 c50).toArray) (r_ext rfl rfl) ?_
   refine o_w (v:=.int .i64 x37.2) (r_ext rfl rfl) ?_
   refine o_alloc zero_api_Entry rfl rfl rfl ?_
   intro b52 w52 e52 F52 B52
   have n52:w.heap.size≤b52:=by rw [e52]; exact E42.size
   have m53:w.heap.size≤b52:=by rw [e52]; exact (G33.trans (Fr.ext F37)).size
   have m54:w13.heap.size≤b52:=by rw [e52]; exact G44.size
   have m55:w15.heap.size≤b52:=by rw [e52]; exact (((G23.trans (Fr.ext F26)).trans (Fr.ext F31)).trans (Fr.ext F37)).size
   have m56:w37.heap.size≤b52:=Nat.le_of_eq e52.symm
   have E57:=E42.trans F52
   have G60:=(((G23.trans (Fr.ext F26)).trans (Fr.ext F31)).trans (Fr.ext F37)).trans (Fr.ext F52)
   have G61:Fr L w37 w52:=Fr.ext F52
   refine o_store rfl B52 (vs:=(cEnt x37.1 A46 c47 A49 c50)) rfl sz_api_Entry rfl rfl rfl ?_
   intro w62 F62 B62
   have E63:=Ext.st E57 F62 (by simp; omega)
   have G64:Fr L w w62:=((G33.trans (Fr.ext F37)).trans (Fr.ext F52)).stp F62 (upc (.inr m53) (fun m hm=>by cases hm))
   have G65:Fr L w13 w62:=(G44.trans (Fr.ext F52)).stp F62 (upc (.inr m54) (fun m hm=>by cases hm))
   have G66:Fr L w15 w62:=G60.stp F62 (upc (.inr m55) (fun m hm=>by cases hm))
   have G67:Fr L w37 w62:=G61.stp F62 (upc (.inr m56) (fun m hm=>by cases hm))
   have B62':Blk w62 b52 _ (cEnt x37.1 A46 c47 A49 c50):=B62
   refine o_w (v:=.int .i64 x37.2) (r_asg rfl) ?_
   refine eo_nil_sq ?_
   refine ec_seq ?_
   refine ec_region ?_
   refine o_w (v:=.pointer (some ⟨b13,1,none⟩)) (r_fa fld_api_Entry_1 rfl rfl) ?_
   refine o_w (v:=.agg (cVal d0.val A1 c2 A4 c5).toArray) (r_lda agg_api_Value rfl (vs:=(cVal d0.val A1 c2 A4 c5)) rfl ((S13.fr G65 (fun _ h=>h)).now.part (n:=8) rfl)) ?_
   refine o_w (v:=.pointer (some ⟨b15,1,none⟩)) (r_fa fld_api_Entry_1 rfl rfl) ?_
   refine o_w (v:=.agg (cVal d1.val A7 c8 A10 c11).toArray) (r_lda agg_api_Value rfl (vs:=(cVal d1.val A7 c8 A10 c11)) rfl ((S15.fr G66 (fun _ h=>h)).now.part (n:=8) rfl)) ?_
   obtain ⟨ha69,h⟩:=h
   obtain ⟨ha70,h⟩:=h
   obtain ⟨x68,hx68,h⟩:=h
   refine o_call cf_value_Join rfl (value_Join_c d0.val (kVal_mk (d:=d0.val) (H3.up G64 (fun _ h=>h) (upc (.inr m53) (fun _ h=>.inl h))) (H6.up G64 (fun _ h=>h) (upc (.inr m53) (fun _ h=>.inl h)))) d1.val (kVal_mk (d:=d1.val) (H9.up G64 (fun _ h=>h) (upc (.inr m53) (fun _ h=>.inl h))) (H12.up G64 (fun _ h=>h) (upc (.inr m53) (fun _ h=>.inl h)))) ((hL.fr E63).cons B62'.lt) (eq_ev hx68 (valJoin_ev d0.val d1.val ha69 ha70))) rfl rfl ?_
   rintro _ w68 ⟨F68,cs71,rfl,H72⟩
   have E73:=E63.trans F68
   obtain ⟨A79,c80,A82,c83,rfl,H81,H84⟩:=kVal_open H72
   refine o_w (v:=.tuple #[.agg (cVal x68.1 A79 c80 A82 c83).toArray,.int .i64 x68.2]) (r_mov rfl) ?_
   refine o_w (v:=.agg (cVal x68.1 A79 c80 A82 c83).toArray) (r_ext rfl rfl) ?_
   refine o_w (v:=.int .i64 x68.2) (r_ext rfl rfl) ?_
   refine o_alloc zero_api_Value rfl rfl rfl ?_
   intro b85 w85 e85 F85 B85
   have n85:w.heap.size≤b85:=by rw [e85]; exact E73.size
   have q86:b52<b85:=by rw [e85]; exact (B62'.ex F68).lt
   have m87:w.heap.size≤b85:=by rw [e85]; exact (G64.trans (Fr.ext F68)).size
   have m88:w13.heap.size≤b85:=by rw [e85]; exact (G65.trans (Fr.ext F68)).size
   have m89:w15.heap.size≤b85:=by rw [e85]; exact (G66.trans (Fr.ext F68)).size
   have m90:w37.heap.size≤b85:=by rw [e85]; exact (G67.trans (Fr.ext F68)).size
   have m91:w68.heap.size≤b85:=Nat.le_of_eq e85.symm
   have E92:=E73.trans F85
   have G97:Fr (b52::L) w68 w85:=Fr.ext F85
   refine o_store rfl B85 (vs:=(cVal x68.1 A79 c80 A82 c83)) rfl sz_api_Value rfl rfl rfl ?_
   intro w99 F99 B99
   have E100:=Ext.st E92 F99 (by simp; omega)
   have G101:Fr L w w99:=((G64.trans (Fr.ext F68)).trans (Fr.ext F85)).stp F99 (upc (.inr m87) (fun m hm=>by cases hm))
   have G102:Fr L w13 w99:=((G65.trans (Fr.ext F68)).trans (Fr.ext F85)).stp F99 (upc (.inr m88) (fun m hm=>by cases hm))
   have G103:Fr L w15 w99:=((G66.trans (Fr.ext F68)).trans (Fr.ext F85)).stp F99 (upc (.inr m89) (fun m hm=>by cases hm))
   have G104:Fr L w37 w99:=((G67.trans (Fr.ext F68)).trans (Fr.ext F85)).stp F99 (upc (.inr m90) (fun m hm=>by cases hm))
   have G105:Fr (b52::L) w68 w99:=G97.stp F99 (upc (.inr m91) (fun m hm=>by cases hm))
   have B106:=((B62'.ex F68).ex F85).fr F99 (by simp; omega)
   have B99':Blk w99 b85 _ (cVal x68.1 A79 c80 A82 c83):=B99
   refine o_w (v:=.int .i64 x68.2) (r_asg rfl) ?_
   refine eo_nil_sq ?_
   iterate 2 refine ec_seq ?_
   refine ec_region ?_
   refine o_w (v:=.int .i64 x37.2) (r_mov rfl) ?_
   refine o_w (v:=.bool (x37.2 != (0:Int))) (r_int rfl rfl rfl) ?_
   refine eo_nil_sq ?_
   refine ec_cond rfl (fun hc107=>?_) (fun hc107=>?_)
   ·replace h:=h.1 hc107
    refine ec_seq ?_
    refine ec_region ?_
    iterate 2 refine o_w (v:=.bool (worksV)) (r_mov rfl) ?_
    refine o_v (v:=.agg (cEnt x37.1 A46 c47 A49 c50).toArray) (r_lda agg_api_Entry rfl (vs:=(cEnt x37.1 A46 c47 A49 c50)) rfl (B106.part (n:=9) rfl)) (want_t (t:=42) rfl rfl (of_not hc24)) rfl rfl ?_
    refine o_v (v:=.agg #[str ([]:Str),.int .i64 (0:Int),.int .i64 (0:Int),.int .i64 (0:Int),.bool false,str ([]:Str),.slice none ([]:List Int).length 0,.slice none ([]:List Int).length 0,.int .u64 (0:Int)]) (r_build bld_api_Entry (vs:=[]) (cells:=[str ([]:Str),.int .i64 (0:Int),.int .i64 (0:Int),.int .i64 (0:Int),.bool false,str ([]:Str),.slice none ([]:List Int).length 0,.slice none ([]:List Int).length 0,.int .u64 (0:Int)]) rfl rfl) (want_t (t:=42) rfl rfl (of_not hc24)) rfl rfl ?_
    obtain ⟨ha109,h⟩:=h
    obtain ⟨x108,hx108,h⟩:=h
    refine o_call cf_entry_Same rfl (entry_Same_c x37.1 (kEnt_mk (d:=x37.1) (H48.up G104 (fun _ h=>h) (upc (.inr m90) (upc (.inr m56) (fun _ h=>.inl h)))) (H51.up G104 (fun _ h=>h) (upc (.inr m90) (upc (.inr m56) (fun _ h=>.inl h))))) (⟨([]:Str),(⟨(0:Int),(0:Int),(0:Int),false,([]:Str),([]:List Int),([]:List Int),(0:Int)⟩:Val)⟩:Ent) (kEnt_mk (d:=(⟨([]:Str),(⟨(0:Int),(0:Int),(0:Int),false,([]:Str),([]:List Int),([]:List Int),(0:Int)⟩:Val)⟩:Ent)) stb_nil stb_nil) (((hL.fr E100).cons B106.lt).cons B99'.lt) (eq_ev hx108 (entSame_ev x37.1 (⟨([]:Str),(⟨(0:Int),(0:Int),(0:Int),false,([]:Str),([]:List Int),([]:List Int),(0:Int)⟩:Val)⟩:Ent) ha109))) (want_t (t:=42) rfl rfl (of_not hc24)) rfl ?_
    rintro _ w108 ⟨F108,rfl⟩
    have E110:=E100.trans F108
    refine o_w (v:=.bool x108) (r_pickT rfl (of_not hc24) rfl) ?_
    refine o_w (v:=.bool x108) (r_asg rfl) ?_
    refine eo_nil_sq ?_
    refine ec_ret ?_
    refine sq_ret ?_
    replace h:=h.symm
    subst h
    exact (end1 rfl ⟨_,rfl,E110,rfl⟩)
   ·replace h:=h.2 hc107
    refine ec_skip ?_
    refine sq_n ?_
    refine ec_seq ?_
    refine ec_region ?_
    refine o_w (v:=.agg (cEnt d1 A7 c8 A10 c11).toArray) (r_lda agg_api_Entry rfl (vs:=(cEnt d1 A7 c8 A10 c11)) rfl ((S15.fr G103 (fun _ h=>h)).now.part (n:=9) rfl)) ?_
    refine o_w (v:=.agg (cEnt d0 A1 c2 A4 c5).toArray) (r_lda agg_api_Entry rfl (vs:=(cEnt d0 A1 c2 A4 c5)) rfl ((S13.fr G102 (fun _ h=>h)).now.part (n:=9) rfl)) ?_
    obtain ⟨ha119,h⟩:=h
    obtain ⟨ha120,h⟩:=h
    obtain ⟨x118,hx118,h⟩:=h
    refine o_call cf_entry_Join rfl (entry_Join_c d1 (kEnt_mk (d:=d1) (H9.up G101 (fun _ h=>h) (upc (.inr m87) (upc (.inr m53) (fun _ h=>.inl h)))) (H12.up G101 (fun _ h=>h) (upc (.inr m87) (upc (.inr m53) (fun _ h=>.inl h))))) d0 (kEnt_mk (d:=d0) (H3.up G101 (fun _ h=>h) (upc (.inr m87) (upc (.inr m53) (fun _ h=>.inl h)))) (H6.up G101 (fun _ h=>h) (upc (.inr m87) (upc (.inr m53) (fun _ h=>.inl h))))) (((hL.fr E100).cons B106.lt).cons B99'.lt) (eq_ev hx118 (entJoin_ev d1 d0 ha119 ha120))) rfl rfl ?_
    rintro _ w118 ⟨F118,cs121,rfl,H122⟩
    have E123:=E100.trans F118
    obtain ⟨A131,c132,A134,c135,rfl,H133,H136⟩:=kEnt_open H122
    refine o_w (v:=.tuple #[.agg (cEnt x118.1 A131 c132 A134 c135).toArray,.int .i64 x118.2]) (r_mov rfl) ?_
    refine o_w (v:=.agg (cEnt x118.1 A131 c132 A134 c135).toArray) (r_ext rfl rfl) ?_
    refine o_w (v:=.int .i64 x118.2) (r_ext rfl rfl) ?_
    refine o_alloc zero_api_Entry rfl rfl rfl ?_
    intro b137 w137 e137 F137 B137
    have n137:w.heap.size≤b137:=by rw [e137]; exact E123.size
    have q138:b52<b137:=by rw [e137]; exact (B106.ex F118).lt
    have q139:b85<b137:=by rw [e137]; exact (B99'.ex F118).lt
    have m141:w13.heap.size≤b137:=by rw [e137]; exact (G102.trans (Fr.ext F118)).size
    have m142:w15.heap.size≤b137:=by rw [e137]; exact (G103.trans (Fr.ext F118)).size
    have m143:w37.heap.size≤b137:=by rw [e137]; exact (G104.trans (Fr.ext F118)).size
    have m144:w68.heap.size≤b137:=by rw [e137]; exact (G105.trans (Fr.ext F118)).size
    have m145:w118.heap.size≤b137:=Nat.le_of_eq e137.symm
    have E146:=E123.trans F137
    have G152:Fr (b85::(b52::L)) w118 w137:=Fr.ext F137
    refine o_store rfl B137 (vs:=(cEnt x118.1 A131 c132 A134 c135)) rfl sz_api_Entry rfl rfl rfl ?_
    intro w155 F155 B155
    have E156:=Ext.st E146 F155 (by simp; omega)
    have G158:Fr L w13 w155:=((G102.trans (Fr.ext F118)).trans (Fr.ext F137)).stp F155 (upc (.inr m141) (fun m hm=>by cases hm))
    have G159:Fr L w15 w155:=((G103.trans (Fr.ext F118)).trans (Fr.ext F137)).stp F155 (upc (.inr m142) (fun m hm=>by cases hm))
    have G160:Fr L w37 w155:=((G104.trans (Fr.ext F118)).trans (Fr.ext F137)).stp F155 (upc (.inr m143) (fun m hm=>by cases hm))
    have G161:Fr (b52::L) w68 w155:=((G105.trans (Fr.ext F118)).trans (Fr.ext F137)).stp F155 (upc (.inr m144) (fun m hm=>by cases hm))
    have G162:Fr (b85::(b52::L)) w118 w155:=G152.stp F155 (upc (.inr m145) (fun m hm=>by cases hm))
    have B163:=((B106.ex F118).ex F137).fr F155 (by simp; omega)
    have B164:=((B99'.ex F118).ex F137).fr F155 (by simp; omega)
    have B155':Blk w155 b137 _ (cEnt x118.1 A131 c132 A134 c135):=B155
    refine o_w (v:=.int .i64 x118.2) (r_asg rfl) ?_
    refine eo_nil_sq ?_
    refine ec_seq ?_
    refine ec_region ?_
    iterate 2 refine o_w (v:=.bool (worksV)) (r_mov rfl) ?_
    refine o_v (v:=.int .i64 x68.2) (r_mov rfl) (want_t (t:=54) rfl rfl (of_not hc24)) rfl rfl ?_
    refine o_v (v:=.bool (x68.2==(0:Int))) (r_int rfl rfl rfl) (want_t (t:=54) rfl rfl (of_not hc24)) rfl rfl ?_
    refine o_w (v:=.bool (x68.2==(0:Int))) (r_pickT rfl (of_not hc24) rfl) ?_
    refine o_w (v:=.bool (x68.2==(0:Int))) (r_mov rfl) ?_
    refine o_vg (v:=.pointer (some ⟨b52,1,none⟩)) (want_ct (t:=58) rfl rfl) (fun hk=>(r_fa fld_api_Entry_1 rfl rfl)) rfl rfl ?_
    refine o_vg (v:=.agg (cVal x37.1.val A46 c47 A49 c50).toArray) (want_ct (t:=58) rfl rfl) (fun hk=>(r_lda agg_api_Value (gdT hk) (vs:=(cVal x37.1.val A46 c47 A49 c50)) rfl (B163.part (n:=8) rfl))) rfl rfl ?_
    refine o_vg (v:=.agg (cVal x68.1 A79 c80 A82 c83).toArray) (want_ct (t:=58) rfl rfl) (fun hk=>(r_lda agg_api_Value rfl (vs:=(cVal x68.1 A79 c80 A82 c83)) rfl (B164.part (n:=8) rfl))) rfl rfl ?_
    obtain ⟨ha169,h⟩:=h
    refine o_callg (V:=.bool (sameV x37.1.val x68.1)) cf_value_Same (want_ct (t:=58) rfl rfl) (fun hk=>(mapv2 (gdT hk) (gdT hk))) (fun hk=>(value_Same_c x37.1.val (kVal_mk (d:=x37.1.val) (H48.up G160 (fun _ h=>h) (upc (.inr m143) (upc (.inr m90) (upc (.inr m56) (fun _ h=>.inl h))))) (H51.up G160 (fun _ h=>h) (upc (.inr m143) (upc (.inr m90) (upc (.inr m56) (fun _ h=>.inl h)))))) x68.1 (kVal_mk (d:=x68.1) (H81.up G161 (fun _ h=>h) (upc (.inr m144) (upc (.inr m91) (upc (.inl (List.Mem.head _)) (fun m hm=>Or.inl (List.Mem.tail _ hm)))))) (H84.up G161 (fun _ h=>h) (upc (.inr m144) (upc (.inr m91) (upc (.inl (List.Mem.head _)) (fun m hm=>Or.inl (List.Mem.tail _ hm))))))) ((((hL.fr E156).cons B163.lt).cons B164.lt).cons B155'.lt) (valSame_ev x37.1.val x68.1 (ha169 hk)))) rfl ?_
    intro w168 F168
    have E170:=E156.trans F168
    refine o_w (v:=.bool ((x68.2==(0:Int))&&(sameV x37.1.val x68.1))) (r_pickAnd rfl (fun ht=>(gdT ht)) rfl) ?_
    refine o_w (v:=.bool ((x68.2==(0:Int))&&(sameV x37.1.val x68.1))) (r_mov rfl) ?_
    refine o_vg (v:=.pointer (some ⟨b52,0,none⟩)) (want_ct (t:=64) rfl rfl) (fun hk=>(r_fa fld_api_Entry_0 rfl rfl)) rfl rfl ?_
    refine o_vg (v:=str x37.1.key) (want_ct (t:=64) rfl rfl) (fun hk=>(r_ld one_string (gdT hk) ((B163.ex F168).cell rfl))) rfl rfl ?_
    refine o_vg (v:=.pointer (some ⟨b13,0,none⟩)) (want_ct (t:=64) rfl rfl) (fun hk=>(r_fa fld_api_Entry_0 rfl rfl)) rfl rfl ?_
    refine o_vg (v:=str d0.key) (want_ct (t:=64) rfl rfl) (fun hk=>(r_ld one_string (gdT hk) ((S13.fr (G158.trans (Fr.ext F168)) (fun _ h=>h)).now.cell rfl))) rfl rfl ?_
    refine o_vg (v:=.bool (x37.1.key==d0.key)) (want_ct (t:=64) rfl rfl) (fun hk=>(r_str (gdT hk) (gdT hk) rfl)) rfl rfl ?_
    refine o_w (v:=.bool (((x68.2==(0:Int))&&(sameV x37.1.val x68.1))&&(x37.1.key==d0.key))) (r_pickAnd rfl (fun ht=>(gdT ht)) rfl) ?_
    refine o_w (v:=.bool (((x68.2==(0:Int))&&(sameV x37.1.val x68.1))&&(x37.1.key==d0.key))) (r_mov rfl) ?_
    refine o_vg (v:=.pointer (some ⟨b52,0,none⟩)) (want_ct (t:=71) rfl rfl) (fun hk=>(r_fa fld_api_Entry_0 rfl rfl)) rfl rfl ?_
    refine o_vg (v:=str x37.1.key) (want_ct (t:=71) rfl rfl) (fun hk=>(r_ld one_string (gdT hk) ((B163.ex F168).cell rfl))) rfl rfl ?_
    refine o_vg (v:=.pointer (some ⟨b15,0,none⟩)) (want_ct (t:=71) rfl rfl) (fun hk=>(r_fa fld_api_Entry_0 rfl rfl)) rfl rfl ?_
    refine o_vg (v:=str d1.key) (want_ct (t:=71) rfl rfl) (fun hk=>(r_ld one_string (gdT hk) ((S15.fr (G159.trans (Fr.ext F168)) (fun _ h=>h)).now.cell rfl))) rfl rfl ?_
    refine o_vg (v:=.bool (x37.1.key==d1.key)) (want_ct (t:=71) rfl rfl) (fun hk=>(r_str (gdT hk) (gdT hk) rfl)) rfl rfl ?_
    refine o_w (v:=.bool ((((x68.2==(0:Int))&&(sameV x37.1.val x68.1))&&(x37.1.key==d0.key))&&(x37.1.key==d1.key))) (r_pickAnd rfl (fun ht=>(gdT ht)) rfl) ?_
    refine o_w (v:=.bool ((((x68.2==(0:Int))&&(sameV x37.1.val x68.1))&&(x37.1.key==d0.key))&&(x37.1.key==d1.key))) (r_mov rfl) ?_
    refine o_vg (v:=.int .i64 x118.2) (want_ct (t:=78) rfl rfl) (fun hk=>(r_mov rfl)) rfl rfl ?_
    refine o_vg (v:=.bool (x118.2==(0:Int))) (want_ct (t:=78) rfl rfl) (fun hk=>(r_int (gdT hk) rfl rfl)) rfl rfl ?_
    refine o_w (v:=.bool (((((x68.2==(0:Int))&&(sameV x37.1.val x68.1))&&(x37.1.key==d0.key))&&(x37.1.key==d1.key))&&(x118.2==(0:Int)))) (r_pickAnd rfl (fun ht=>(gdT ht)) rfl) ?_
    refine o_w (v:=.bool (((((x68.2==(0:Int))&&(sameV x37.1.val x68.1))&&(x37.1.key==d0.key))&&(x37.1.key==d1.key))&&(x118.2==(0:Int)))) (r_mov rfl) ?_
    refine o_vg (v:=.agg (cEnt x37.1 A46 c47 A49 c50).toArray) (want_ct (t:=82) rfl rfl) (fun hk=>(r_lda agg_api_Entry rfl (vs:=(cEnt x37.1 A46 c47 A49 c50)) rfl ((B163.ex F168).part (n:=9) rfl))) rfl rfl ?_
    refine o_vg (v:=.agg (cEnt x118.1 A131 c132 A134 c135).toArray) (want_ct (t:=82) rfl rfl) (fun hk=>(r_lda agg_api_Entry rfl (vs:=(cEnt x118.1 A131 c132 A134 c135)) rfl ((B155'.ex F168).part (n:=9) rfl))) rfl rfl ?_
    obtain ⟨ha181,h⟩:=h
    refine o_callg (V:=.bool (sameE x37.1 x118.1)) cf_entry_Same (want_ct (t:=82) rfl rfl) (fun hk=>(mapv2 (gdT hk) (gdT hk))) (fun hk=>(entry_Same_c x37.1 (kEnt_mk (d:=x37.1) (H48.up (G160.trans (Fr.ext F168)) (fun _ h=>h) (upc (.inr m143) (upc (.inr m90) (upc (.inr m56) (fun _ h=>.inl h))))) (H51.up (G160.trans (Fr.ext F168)) (fun _ h=>h) (upc (.inr m143) (upc (.inr m90) (upc (.inr m56) (fun _ h=>.inl h)))))) x118.1 (kEnt_mk (d:=x118.1) (H133.up (G162.trans (Fr.ext F168)) (fun _ h=>h) (upc (.inr m145) (upc (.inl (List.Mem.head _)) (upc (.inl (List.Mem.tail _ (List.Mem.head _))) (fun m hm=>Or.inl (List.Mem.tail _ (List.Mem.tail _ hm))))))) (H136.up (G162.trans (Fr.ext F168)) (fun _ h=>h) (upc (.inr m145) (upc (.inl (List.Mem.head _)) (upc (.inl (List.Mem.tail _ (List.Mem.head _))) (fun m hm=>Or.inl (List.Mem.tail _ (List.Mem.tail _ hm)))))))) ((((hL.fr E170).cons (B163.ex F168).lt).cons (B164.ex F168).lt).cons (B155'.ex F168).lt) (entSame_ev x37.1 x118.1 (ha181 hk)))) rfl ?_
    intro w180 F180
    have E182:=E170.trans F180
    refine o_w (v:=.bool ((((((x68.2==(0:Int))&&(sameV x37.1.val x68.1))&&(x37.1.key==d0.key))&&(x37.1.key==d1.key))&&(x118.2==(0:Int)))&&(sameE x37.1 x118.1))) (r_pickAnd rfl (fun ht=>(gdT ht)) rfl) ?_
    refine o_w (v:=.bool ((((((x68.2==(0:Int))&&(sameV x37.1.val x68.1))&&(x37.1.key==d0.key))&&(x37.1.key==d1.key))&&(x118.2==(0:Int)))&&(sameE x37.1 x118.1))) (r_mov rfl) ?_
    refine o_vg (v:=.agg (cEnt x37.1 A46 c47 A49 c50).toArray) (want_ct (t:=87) rfl rfl) (fun hk=>(r_lda agg_api_Entry rfl (vs:=(cEnt x37.1 A46 c47 A49 c50)) rfl (((B163.ex F168).ex F180).part (n:=9) rfl))) rfl rfl ?_
    obtain ⟨ha193,h⟩:=h
    refine o_callg (V:=.int .i64 (checkE x37.1)) cf_entry_Check (want_ct (t:=87) rfl rfl) (fun hk=>(mapv1 (gdT hk))) (fun hk=>(entry_Check_c x37.1 (kEnt_mk (d:=x37.1) (H48.up ((G160.trans (Fr.ext F168)).trans (Fr.ext F180)) (fun _ h=>h) (upc (.inr m143) (upc (.inr m90) (upc (.inr m56) (fun _ h=>.inl h))))) (H51.up ((G160.trans (Fr.ext F168)).trans (Fr.ext F180)) (fun _ h=>h) (upc (.inr m143) (upc (.inr m90) (upc (.inr m56) (fun _ h=>.inl h)))))) ((((hL.fr E182).cons ((B163.ex F168).ex F180).lt).cons ((B164.ex F168).ex F180).lt).cons ((B155'.ex F168).ex F180).lt) (entCheck_ev x37.1 (ha193 hk)))) rfl ?_
    intro w192 F192
    have E194:=E182.trans F192
    refine o_vg (v:=.bool ((checkE x37.1)==(0:Int))) (want_ct (t:=87) rfl rfl) (fun hk=>(r_int (gdT hk) rfl rfl)) rfl rfl ?_
    refine o_w (v:=.bool (((((((x68.2==(0:Int))&&(sameV x37.1.val x68.1))&&(x37.1.key==d0.key))&&(x37.1.key==d1.key))&&(x118.2==(0:Int)))&&(sameE x37.1 x118.1))&&((checkE x37.1)==(0:Int)))) (r_pickAnd rfl (fun ht=>(gdT ht)) rfl) ?_
    refine o_w (v:=.bool (((((((x68.2==(0:Int))&&(sameV x37.1.val x68.1))&&(x37.1.key==d0.key))&&(x37.1.key==d1.key))&&(x118.2==(0:Int)))&&(sameE x37.1 x118.1))&&((checkE x37.1)==(0:Int)))) (r_asg rfl) ?_
    refine eo_nil_sq ?_
    refine ec_ret ?_
    subst h
    exact (end1 rfl ⟨_,rfl,E194,rfl⟩)
end Go.Proofs.Ytbijobepjjokmaa
