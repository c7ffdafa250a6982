/- The law ArenaJoins: what it comes to. -/
import Derived.Test.YthifkdgljapmeaaEy
namespace Go.Proofs.Ythifkdgljapmeaa
open Go Go.RowKit
set_option linter.unusedVariables false
set_option linter.unusedSimpArgs false
def law08_ArenaJoins_raw (d0:Arena) (d1:Ent) (d2:(List Ent)) (y:Bool):Prop :=
 ((!(worksV))=true→(y=false))∧((!(worksV))=false→((((fewA d0)&&(fewE d1))=true→((12:Int):Int)≤100)∧(((!(((fewA d0)&&(fewE d1))&&(entriesB d2 (12:Int))))=true→(y=(worksV)))∧((!(((fewA d0)&&(fewE d1))&&(entriesB d2 (12:Int))))=false→((sma d0)∧((sm d1.val)∧((WfV d1.val)∧(∃ x44,x44=(joinA d0 d1)∧((sma d0)∧((sm d1.val)∧(∃ x76,x76=(joinA d0 d1)∧((sma d0)∧((sml d2)∧((wfl d2)∧(∃ x115,x115=(mergeA d0 d2)∧((sma d0)∧((sml d2)∧(∃ x163,x163=(mergeA d0 d2)∧((sma x44.1)∧((sma x115.1)∧(y=((((((sameA x44.1 x76.1)&&(x44.2.1==x76.2.1))&&(x44.2.2==x76.2.2))&&(sameA x115.1 x163.1))&&(x115.2.1==x163.2.1))&&(x115.2.2==x163.2.2)))))))))))))))))))))))
set_option maxRecDepth 20000 in
set_option maxHeartbeats 4000000 in
theorem law08_ArenaJoins_c {L:List Nat} {w:World} {csP0:List Value} (d0:Arena) (HP0:Stb L w (fun w=>kArena.r w csP0 d0)) {csP1:List Value} (d1:Ent) (HP1:Stb L w (fun w=>kEnt.r w csP1 d1)) {AP2:Option Addr} {cP2:Nat} (d2:(List Ent)) (HP2:Stb L w (fun w=>SlC kEnt w AP2 cP2 d2)) (hL:Lt L w) {y:Bool} (h:law08_ArenaJoins_raw d0 d1 d2 y) :
  Calls Try.prog 4 [.agg csP0.toArray,.agg csP1.toArray,.slice AP2 d2.length cP2].toArray w (Ret fun v w'=>Ext w w'∧v=.bool y):=by
 obtain ⟨A1,c2,A4,c5,rfl,H3,H6⟩:=kArena_open HP0
 obtain ⟨A7,c8,A10,c11,rfl,H9,H12⟩:=kEnt_open HP1
 unfold law08_ArenaJoins_raw at h
 refine calls_ec Try.func4 rfl rfl rfl ?_
 refine ec_seq ?_
 refine ec_region ?_
 refine o_box (cs:=(cArena d0 A1 c2 A4 c5)) rfl rfl rfl ?_
 intro b13 w13 e13 F13 B13
 have S13:=B13.stb (nin hL e13)
 have G14:Fr L w w13:=Fr.ext F13
 refine o_box (cs:=(cEnt d1 A7 c8 A10 c11)) rfl rfl rfl ?_
 intro b15 w15 e15 F15 B15
 have S15:=B15.stb (nin (hL.fr F13) e15)
 have E16:=F13.trans F15
 have G18:Fr L w13 w15:=Fr.ext F15
 refine o_w (v:=.bool false) (r_asg rfl) ?_
 refine eo_nil_sq ?_
 refine ec_seq ?_
 refine ec_region ?_
 refine o_call cf_law08_works rfl (law08_works_c (hL.fr E16) (works8_ev)) rfl rfl ?_
 rintro _ w19 ⟨F19,rfl⟩
 have E20:=E16.trans F19
 have G23:Fr L w15 w19:=Fr.ext F19
 refine o_w (v:=.bool (worksV)) (r_asg rfl) ?_
 refine eo_nil_sq ?_
 iterate 2 refine ec_seq ?_
 refine ec_region ?_
 refine o_w (v:=.bool (worksV)) (r_mov rfl) ?_
 refine o_w (v:=.bool (!(worksV))) (r_not rfl) ?_
 refine eo_nil_sq ?_
 refine ec_cond rfl (fun hc24=>?_) (fun hc24=>?_)
 ·replace h:=h.1 hc24
  refine ec_seq ?_
  refine ec_region ?_
  refine o_w (v:=.bool false) (r_asg rfl) ?_
  refine eo_nil_sq ?_
  refine ec_ret ?_
  refine sq_ret ?_
  subst h
  exact (end1 rfl ⟨_,rfl,E20,rfl⟩)
 ·replace h:=h.2 hc24
  refine ec_skip ?_
  refine sq_n ?_
  refine ec_seq ?_
  refine ec_region ?_
  refine o_w (v:=.agg (cArena d0 A1 c2 A4 c5).toArray) (r_lda agg_api_Arena rfl (vs:=(cArena d0 A1 c2 A4 c5)) rfl ((S13.fr (G18.trans (Fr.ext F19)) (fun _ h=>h)).now.part (n:=3) rfl)) ?_
  refine o_call cf_law08_Few rfl (law08_Few_c d0 (kArena_mk (d:=d0) (H3.fr ((G14.trans (Fr.ext F15)).trans (Fr.ext F19)) (fun _ h=>h)) (H6.fr ((G14.trans (Fr.ext F15)).trans (Fr.ext F19)) (fun _ h=>h))) (hL.fr E20) (fewA_ev d0)) rfl rfl ?_
  rintro _ w27 ⟨F27,rfl⟩
  have E28:=E20.trans F27
  refine o_w (v:=.bool (fewA d0)) (r_mov rfl) ?_
  refine o_vg (v:=.agg (cEnt d1 A7 c8 A10 c11).toArray) (want_ct (t:=28) rfl rfl) (fun hk=>(r_lda agg_api_Entry rfl (vs:=(cEnt d1 A7 c8 A10 c11)) rfl ((S15.fr (G23.trans (Fr.ext F27)) (fun _ h=>h)).now.part (n:=9) rfl))) rfl rfl ?_
  refine o_callg (V:=.bool (fewE d1)) cf_law07_Few (want_ct (t:=28) rfl rfl) (fun hk=>(mapv1 (gdT hk))) (fun hk=>(law07_Few_c d1 (kEnt_mk (d:=d1) (H9.fr (((G14.trans (Fr.ext F15)).trans (Fr.ext F19)).trans (Fr.ext F27)) (fun _ h=>h)) (H12.fr (((G14.trans (Fr.ext F15)).trans (Fr.ext F19)).trans (Fr.ext F27)) (fun _ h=>h))) (hL.fr E28) (fewE_ev d1))) rfl ?_
  intro w32 F32
  have E33:=E28.trans F32
  have G34:=(((G14.trans (Fr.ext F15)).trans (Fr.ext F19)).trans (Fr.ext F27)).trans (Fr.ext F32)
  refine o_w (v:=.bool ((fewA d0)&&(fewE d1))) (r_pickAnd rfl (fun ht=>(gdT ht)) rfl) ?_
  refine o_w (v:=.bool ((fewA d0)&&(fewE d1))) (r_mov rfl) ?_
  refine o_vg (v:=.slice AP2 d2.length cP2) (want_ct (t:=32) rfl rfl) (fun hk=>(r_mov rfl)) rfl rfl ?_
  obtain ⟨ha38,h⟩:=h
  refine o_callg (V:=.bool (entriesB d2 (12:Int))) cf_law08_Entries (want_ct (t:=32) rfl rfl) (fun hk=>(mapv2 (gdT hk) rfl)) (fun hk=>(law08_Entries_c d2 (HP2.fr G34 (fun _ h=>h)) (12:Int) (hL.fr E33) (entries_ev d2 (12:Int) (ha38 hk)))) rfl ?_
  intro w37 F37
  have E39:=E33.trans F37
  have G41:=(((G18.trans (Fr.ext F19)).trans (Fr.ext F27)).trans (Fr.ext F32)).trans (Fr.ext F37)
  refine o_w (v:=.bool (((fewA d0)&&(fewE d1))&&(entriesB d2 (12:Int)))) (r_pickAnd rfl (fun ht=>(gdT ht)) rfl) ?_
  refine o_w (v:=.bool (((fewA d0)&&(fewE d1))&&(entriesB d2 (12:Int)))) (r_asg rfl) ?_
  refine eo_nil_sq ?_
  iterate 2 refine ec_seq ?_
  refine ec_region ?_
  refine o_w (v:=.bool (((fewA d0)&&(fewE d1))&&(entriesB d2 (12:Int)))) (r_mov rfl) ?_
  refine o_w (v:=.bool (!(((fewA d0)&&(fewE d1))&&(entriesB d2 (12:Int))))) (r_not rfl) ?_
  refine eo_nil_sq ?_
  refine ec_cond rfl (fun hc43=>?_) (fun hc43=>?_)
  ·replace h:=h.1 hc43
   refine ec_seq ?_
   refine ec_region ?_
   refine o_w (v:=.bool (worksV)) (r_mov rfl) ?_
   refine o_w (v:=.bool (worksV)) (r_asg rfl) ?_
   refine eo_nil_sq ?_
   refine ec_ret ?_
   refine sq_ret ?_
   subst h
   exact (end1 rfl ⟨_,rfl,E39,rfl⟩)
  ·replace h:=h.2 hc43
   refine ec_skip ?_
   refine sq_n ?_
   refine ec_seq ?_
   refine ec_region ?_
   refine o_w (v:=.agg (cArena d0 A1 c2 A4 c5).toArray) (r_lda agg_api_Arena rfl (vs:=(cArena d0 A1 c2 A4 c5)) rfl ((S13.fr G41 (fun _ h=>h)).now.part (n:=3) rfl)) ?_
   refine o_w (v:=.agg (cEnt d1 A7 c8 A10 c11).toArray) (r_lda agg_api_Entry rfl (vs:=(cEnt d1 A7 c8 A10 c11)) rfl ((S15.fr (((G23.trans (Fr.ext F27)).trans (Fr.ext F32)).trans (Fr.ext F37)) (fun _ h=>h)).now.part (n:=9) rfl)) ?_
   obtain ⟨ha45,h⟩:=h
   obtain ⟨ha46,h⟩:=h
   obtain ⟨ha47,h⟩:=h
   obtain ⟨x44,hx44,h⟩:=h
   refine o_call cf_arena_Join rfl (arena_Join_c d0 (kArena_mk (d:=d0) (H3.fr (G34.trans (Fr.ext F37)) (fun _ h=>h)) (H6.fr (G34.trans (Fr.ext F37)) (fun _ h=>h))) d1 (kEnt_mk (d:=d1) (H9.fr (G34.trans (Fr.ext F37)) (fun _ h=>h)) (H12.fr (G34.trans (Fr.ext F37)) (fun _ h=>h))) (hL.fr E39) (eq_ev hx44 (arJoin_ev d0 d1 ha45 ha46 ha47))) rfl rfl ?_
   rintro _ w44 ⟨F44,cs48,rfl,H49⟩
   have E50:=E39.trans F44
   have G53:=(((G23.trans (Fr.ext F27)).trans (Fr.ext F32)).trans (Fr.ext F37)).trans (Fr.ext F44)
   obtain ⟨A54,c55,A57,c58,rfl,H56,H59⟩:=kArena_open H49
   refine o_w (v:=.tuple #[.agg (cArena x44.1 A54 c55 A57 c58).toArray,.bool x44.2.1,.int .i64 x44.2.2]) (r_mov rfl) ?_
   refine o_w (v:=.agg (cArena x44.1 A54 c55 A57 c58).toArray) (r_ext rfl rfl) ?_
   refine o_w (v:=.bool x44.2.1) (r_ext rfl rfl) ?_
   refine o_w (v:=.int .i64 x44.2.2) (r_ext rfl rfl) ?_
   refine o_alloc zero_api_Arena rfl rfl rfl ?_
   intro b60 w60 e60 F60 B60
   have n60:w.heap.size≤b60:=by rw [e60]; exact E50.size
   have m61:w.heap.size≤b60:=by rw [e60]; exact ((G34.trans (Fr.ext F37)).trans (Fr.ext F44)).size
   have m62:w13.heap.size≤b60:=by rw [e60]; exact (G41.trans (Fr.ext F44)).size
   have m63:w15.heap.size≤b60:=by rw [e60]; exact G53.size
   have m64:w44.heap.size≤b60:=Nat.le_of_eq e60.symm
   have E65:=E50.trans F60
   have G69:Fr L w44 w60:=Fr.ext F60
   refine o_store rfl B60 (vs:=(cArena x44.1 A54 c55 A57 c58)) rfl sz_api_Arena rfl rfl rfl ?_
   intro w70 F70 B70
   have E71:=Ext.st E65 F70 (by simp; omega)
   have G72:Fr L w w70:=(((G34.trans (Fr.ext F37)).trans (Fr.ext F44)).trans (Fr.ext F60)).stp F70 (upc (.inr m61) (fun m hm=>by cases hm))
   have G73:Fr L w13 w70:=((G41.trans (Fr.ext F44)).trans (Fr.ext F60)).stp F70 (upc (.inr m62) (fun m hm=>by cases hm))
   have G74:Fr L w15 w70:=(G53.trans (Fr.ext F60)).stp F70 (upc (.inr m63) (fun m hm=>by cases hm))
   have G75:Fr L w44 w70:=G69.stp F70 (upc (.inr m64) (fun m hm=>by cases hm))
   have B70':Blk w70 b60 _ (cArena x44.1 A54 c55 A57 c58):=B70
   refine o_w (v:=.bool x44.2.1) (r_asg rfl) ?_
   refine o_w (v:=.int .i64 x44.2.2) (r_asg rfl) ?_
   refine eo_nil_sq ?_
   refine ec_seq ?_
   refine ec_region ?_
   refine o_w (v:=.agg (cArena d0 A1 c2 A4 c5).toArray) (r_lda agg_api_Arena rfl (vs:=(cArena d0 A1 c2 A4 c5)) rfl ((S13.fr G73 (fun _ h=>h)).now.part (n:=3) rfl)) ?_
   refine o_w (v:=.agg (cEnt d1 A7 c8 A10 c11).toArray) (r_lda agg_api_Entry rfl (vs:=(cEnt d1 A7 c8 A10 c11)) rfl ((S15.fr G74 (fun _ h=>h)).now.part (n:=9) rfl)) ?_
   obtain ⟨ha77,h⟩:=h
   obtain ⟨ha78,h⟩:=h
   obtain ⟨x76,hx76,h⟩:=h
   refine o_call cf_ref08_Join rfl (ref08_Join_c d0 (kArena_mk (d:=d0) (H3.up G72 (fun _ h=>h) (upc (.inr m61) (fun _ h=>.inl h))) (H6.up G72 (fun _ h=>h) (upc (.inr m61) (fun _ h=>.inl h)))) d1 (kEnt_mk (d:=d1) (H9.up G72 (fun _ h=>h) (upc (.inr m61) (fun _ h=>.inl h))) (H12.up G72 (fun _ h=>h) (upc (.inr m61) (fun _ h=>.inl h)))) ((hL.fr E71).cons B70'.lt) (eq_ev hx76 (refJoinA_ev d0 d1 ha77 ha78))) rfl rfl ?_
   rintro _ w76 ⟨F76,cs79,rfl,H80⟩
   have E81:=E71.trans F76
   obtain ⟨A87,c88,A90,c91,rfl,H89,H92⟩:=kArena_open H80
   refine o_w (v:=.tuple #[.agg (cArena x76.1 A87 c88 A90 c91).toArray,.bool x76.2.1,.int .i64 x76.2.2]) (r_mov rfl) ?_
   refine o_w (v:=.agg (cArena x76.1 A87 c88 A90 c91).toArray) (r_ext rfl rfl) ?_
   refine o_w (v:=.bool x76.2.1) (r_ext rfl rfl) ?_
   refine o_w (v:=.int .i64 x76.2.2) (r_ext rfl rfl) ?_
   refine o_alloc zero_api_Arena rfl rfl rfl ?_
   intro b93 w93 e93 F93 B93
   have n93:w.heap.size≤b93:=by rw [e93]; exact E81.size
   have q94:b60<b93:=by rw [e93]; exact (B70'.ex F76).lt
   have m95:w.heap.size≤b93:=by rw [e93]; exact (G72.trans (Fr.ext F76)).size
   have m96:w13.heap.size≤b93:=by rw [e93]; exact (G73.trans (Fr.ext F76)).size
   have m98:w44.heap.size≤b93:=by rw [e93]; exact (G75.trans (Fr.ext F76)).size
   have m99:w76.heap.size≤b93:=Nat.le_of_eq e93.symm
   have E100:=E81.trans F93
   have G105:Fr (b60::L) w76 w93:=Fr.ext F93
   refine o_store rfl B93 (vs:=(cArena x76.1 A87 c88 A90 c91)) rfl sz_api_Arena rfl rfl rfl ?_
   intro w107 F107 B107
   have E108:=Ext.st E100 F107 (by simp; omega)
   have G109:Fr L w w107:=((G72.trans (Fr.ext F76)).trans (Fr.ext F93)).stp F107 (upc (.inr m95) (fun m hm=>by cases hm))
   have G110:Fr L w13 w107:=((G73.trans (Fr.ext F76)).trans (Fr.ext F93)).stp F107 (upc (.inr m96) (fun m hm=>by cases hm))
   have G112:Fr L w44 w107:=((G75.trans (Fr.ext F76)).trans (Fr.ext F93)).stp F107 (upc (.inr m98) (fun m hm=>by cases hm))
   have G113:Fr (b60::L) w76 w107:=G105.stp F107 (upc (.inr m99) (fun m hm=>by cases hm))
   have B114:=((B70'.ex F76).ex F93).fr F107 (by simp; omega)
   have B107':Blk w107 b93 _ (cArena x76.1 A87 c88 A90 c91):=B107
   refine o_w (v:=.bool x76.2.1) (r_asg rfl) ?_
   refine o_w (v:=.int .i64 x76.2.2) (r_asg rfl) ?_
   refine eo_nil_sq ?_
   refine ec_seq ?_
   refine ec_region ?_
   refine o_w (v:=.agg (cArena d0 A1 c2 A4 c5).toArray) (r_lda agg_api_Arena rfl (vs:=(cArena d0 A1 c2 A4 c5)) rfl ((S13.fr G110 (fun _ h=>h)).now.part (n:=3) rfl)) ?_
   refine o_w (v:=.slice AP2 d2.length cP2) (r_mov rfl) ?_
   obtain ⟨ha116,h⟩:=h
   obtain ⟨ha117,h⟩:=h
   obtain ⟨ha118,h⟩:=h
   obtain ⟨x115,hx115,h⟩:=h
   refine o_call cf_arena_Merge rfl (arena_Merge_c d0 (kArena_mk (d:=d0) (H3.up G109 (fun _ h=>h) (upc (.inr m95) (upc (.inr m61) (fun _ h=>.inl h)))) (H6.up G109 (fun _ h=>h) (upc (.inr m95) (upc (.inr m61) (fun _ h=>.inl h))))) d2 (HP2.up G109 (fun _ h=>h) (upc (.inr m95) (upc (.inr m61) (fun _ h=>.inl h)))) (((hL.fr E108).cons B114.lt).cons B107'.lt) (eq_ev hx115 (arMerge_ev d0 d2 ha116 ha117 ha118))) rfl rfl ?_
   rintro _ w115 ⟨F115,cs119,rfl,H120⟩
   have E121:=E108.trans F115
   obtain ⟨A129,c130,A132,c133,rfl,H131,H134⟩:=kArena_open H120
   refine o_w (v:=.tuple #[.agg (cArena x115.1 A129 c130 A132 c133).toArray,.int .i64 x115.2.1,.int .i64 x115.2.2]) (r_mov rfl) ?_
   refine o_w (v:=.agg (cArena x115.1 A129 c130 A132 c133).toArray) (r_ext rfl rfl) ?_
   refine o_w (v:=.int .i64 x115.2.1) (r_ext rfl rfl) ?_
   refine o_w (v:=.int .i64 x115.2.2) (r_ext rfl rfl) ?_
   refine o_alloc zero_api_Arena rfl rfl rfl ?_
   intro b135 w135 e135 F135 B135
   have n135:w.heap.size≤b135:=by rw [e135]; exact E121.size
   have q136:b60<b135:=by rw [e135]; exact (B114.ex F115).lt
   have q137:b93<b135:=by rw [e135]; exact (B107'.ex F115).lt
   have m138:w.heap.size≤b135:=by rw [e135]; exact (G109.trans (Fr.ext F115)).size
   have m139:w13.heap.size≤b135:=by rw [e135]; exact (G110.trans (Fr.ext F115)).size
   have m141:w44.heap.size≤b135:=by rw [e135]; exact (G112.trans (Fr.ext F115)).size
   have m142:w76.heap.size≤b135:=by rw [e135]; exact (G113.trans (Fr.ext F115)).size
   have m143:w115.heap.size≤b135:=Nat.le_of_eq e135.symm
   have E144:=E121.trans F135
   have G150:Fr (b93::(b60::L)) w115 w135:=Fr.ext F135
   refine o_store rfl B135 (vs:=(cArena x115.1 A129 c130 A132 c133)) rfl sz_api_Arena rfl rfl rfl ?_
   intro w153 F153 B153
   have E154:=Ext.st E144 F153 (by simp; omega)
   have G155:Fr L w w153:=((G109.trans (Fr.ext F115)).trans (Fr.ext F135)).stp F153 (upc (.inr m138) (fun m hm=>by cases hm))
   have G156:Fr L w13 w153:=((G110.trans (Fr.ext F115)).trans (Fr.ext F135)).stp F153 (upc (.inr m139) (fun m hm=>by cases hm))
   have G158:Fr L w44 w153:=((G112.trans (Fr.ext F115)).trans (Fr.ext F135)).stp F153 (upc (.inr m141) (fun m hm=>by cases hm))
   have G159:Fr (b60::L) w76 w153:=((G113.trans (Fr.ext F115)).trans (Fr.ext F135)).stp F153 (upc (.inr m142) (fun m hm=>by cases hm))
   have G160:Fr (b93::(b60::L)) w115 w153:=G150.stp F153 (upc (.inr m143) (fun m hm=>by cases hm))
   have B161:=((B114.ex F115).ex F135).fr F153 (by simp; omega)
   have B162:=((B107'.ex F115).ex F135).fr F153 (by simp; omega)
   have B153':Blk w153 b135 _ (cArena x115.1 A129 c130 A132 c133):=B153
   refine o_w (v:=.int .i64 x115.2.1) (r_asg rfl) ?_
   refine o_w (v:=.int .i64 x115.2.2) (r_asg rfl) ?_
   refine eo_nil_sq ?_
   refine ec_seq ?_
   refine ec_region ?_
   refine o_w (v:=.agg (cArena d0 A1 c2 A4 c5).toArray) (r_lda agg_api_Arena rfl (vs:=(cArena d0 A1 c2 A4 c5)) rfl ((S13.fr G156 (fun _ h=>h)).now.part (n:=3) rfl)) ?_
   refine o_w (v:=.slice AP2 d2.length cP2) (r_mov rfl) ?_
   obtain ⟨ha164,h⟩:=h
   obtain ⟨ha165,h⟩:=h
   obtain ⟨x163,hx163,h⟩:=h
   refine o_call cf_ref08_Merge rfl (ref08_Merge_c d0 (kArena_mk (d:=d0) (H3.up G155 (fun _ h=>h) (upc (.inr m138) (upc (.inr m95) (upc (.inr m61) (fun _ h=>.inl h))))) (H6.up G155 (fun _ h=>h) (upc (.inr m138) (upc (.inr m95) (upc (.inr m61) (fun _ h=>.inl h)))))) d2 (HP2.up G155 (fun _ h=>h) (upc (.inr m138) (upc (.inr m95) (upc (.inr m61) (fun _ h=>.inl h))))) ((((hL.fr E154).cons B161.lt).cons B162.lt).cons B153'.lt) (eq_ev hx163 (refMerge_ev d0 d2 ha164 ha165))) rfl rfl ?_
   rintro _ w163 ⟨F163,cs166,rfl,H167⟩
   have E168:=E154.trans F163
   obtain ⟨A178,c179,A181,c182,rfl,H180,H183⟩:=kArena_open H167
   refine o_w (v:=.tuple #[.agg (cArena x163.1 A178 c179 A181 c182).toArray,.int .i64 x163.2.1,.int .i64 x163.2.2]) (r_mov rfl) ?_
   refine o_w (v:=.agg (cArena x163.1 A178 c179 A181 c182).toArray) (r_ext rfl rfl) ?_
   refine o_w (v:=.int .i64 x163.2.1) (r_ext rfl rfl) ?_
   refine o_w (v:=.int .i64 x163.2.2) (r_ext rfl rfl) ?_
   refine o_alloc zero_api_Arena rfl rfl rfl ?_
   intro b184 w184 e184 F184 B184
   have n184:w.heap.size≤b184:=by rw [e184]; exact E168.size
   have q185:b60<b184:=by rw [e184]; exact (B161.ex F163).lt
   have q186:b93<b184:=by rw [e184]; exact (B162.ex F163).lt
   have q187:b135<b184:=by rw [e184]; exact (B153'.ex F163).lt
   have m191:w44.heap.size≤b184:=by rw [e184]; exact (G158.trans (Fr.ext F163)).size
   have m192:w76.heap.size≤b184:=by rw [e184]; exact (G159.trans (Fr.ext F163)).size
   have m193:w115.heap.size≤b184:=by rw [e184]; exact (G160.trans (Fr.ext F163)).size
   have m194:w163.heap.size≤b184:=Nat.le_of_eq e184.symm
   have E195:=E168.trans F184
   have G202:Fr (b135::(b93::(b60::L))) w163 w184:=Fr.ext F184
   refine o_store rfl B184 (vs:=(cArena x163.1 A178 c179 A181 c182)) rfl sz_api_Arena rfl rfl rfl ?_
   intro w206 F206 B206
   have E207:=Ext.st E195 F206 (by simp; omega)
   have G211:Fr L w44 w206:=((G158.trans (Fr.ext F163)).trans (Fr.ext F184)).stp F206 (upc (.inr m191) (fun m hm=>by cases hm))
   have G212:Fr (b60::L) w76 w206:=((G159.trans (Fr.ext F163)).trans (Fr.ext F184)).stp F206 (upc (.inr m192) (fun m hm=>by cases hm))
   have G213:Fr (b93::(b60::L)) w115 w206:=((G160.trans (Fr.ext F163)).trans (Fr.ext F184)).stp F206 (upc (.inr m193) (fun m hm=>by cases hm))
   have G214:Fr (b135::(b93::(b60::L))) w163 w206:=G202.stp F206 (upc (.inr m194) (fun m hm=>by cases hm))
   have B215:=((B161.ex F163).ex F184).fr F206 (by simp; omega)
   have B216:=((B162.ex F163).ex F184).fr F206 (by simp; omega)
   have B217:=((B153'.ex F163).ex F184).fr F206 (by simp; omega)
   have B206':Blk w206 b184 _ (cArena x163.1 A178 c179 A181 c182):=B206
   refine o_w (v:=.int .i64 x163.2.1) (r_asg rfl) ?_
   refine o_w (v:=.int .i64 x163.2.2) (r_asg rfl) ?_
   refine eo_nil_sq ?_
   refine ec_seq ?_
   refine ec_region ?_
   refine o_w (v:=.agg (cArena x44.1 A54 c55 A57 c58).toArray) (r_lda agg_api_Arena rfl (vs:=(cArena x44.1 A54 c55 A57 c58)) rfl (B215.part (n:=3) rfl)) ?_
   refine o_w (v:=.agg (cArena x76.1 A87 c88 A90 c91).toArray) (r_lda agg_api_Arena rfl (vs:=(cArena x76.1 A87 c88 A90 c91)) rfl (B216.part (n:=3) rfl)) ?_
   obtain ⟨ha219,h⟩:=h
   refine o_call cf_ref08_Same rfl (ref08_Same_c x44.1 (kArena_mk (d:=x44.1) (H56.up G211 (fun _ h=>h) (upc (.inr m191) (upc (.inr m141) (upc (.inr m98) (upc (.inr m64) (fun _ h=>.inl h)))))) (H59.up G211 (fun _ h=>h) (upc (.inr m191) (upc (.inr m141) (upc (.inr m98) (upc (.inr m64) (fun _ h=>.inl h))))))) x76.1 (kArena_mk (d:=x76.1) (H89.up G212 (fun _ h=>h) (upc (.inr m192) (upc (.inr m142) (upc (.inr m99) (upc (.inl (List.Mem.head _)) (fun m hm=>Or.inl (List.Mem.tail _ hm))))))) (H92.up G212 (fun _ h=>h) (upc (.inr m192) (upc (.inr m142) (upc (.inr m99) (upc (.inl (List.Mem.head _)) (fun m hm=>Or.inl (List.Mem.tail _ hm)))))))) (((((hL.fr E207).cons B215.lt).cons B216.lt).cons B217.lt).cons B206'.lt) (refSameA_ev x44.1 x76.1 ha219)) rfl rfl ?_
   rintro _ w218 ⟨F218,rfl⟩
   have E220:=E207.trans F218
   refine o_w (v:=.bool (sameA x44.1 x76.1)) (r_asg rfl) ?_
   refine eo_nil_sq ?_
   refine ec_seq ?_
   refine ec_region ?_
   refine o_w (v:=.agg (cArena x115.1 A129 c130 A132 c133).toArray) (r_lda agg_api_Arena rfl (vs:=(cArena x115.1 A129 c130 A132 c133)) rfl ((B217.ex F218).part (n:=3) rfl)) ?_
   refine o_w (v:=.agg (cArena x163.1 A178 c179 A181 c182).toArray) (r_lda agg_api_Arena rfl (vs:=(cArena x163.1 A178 c179 A181 c182)) rfl ((B206'.ex F218).part (n:=3) rfl)) ?_
   obtain ⟨ha233,h⟩:=h
   refine o_call cf_ref08_Same rfl (ref08_Same_c x115.1 (kArena_mk (d:=x115.1) (H131.up (G213.trans (Fr.ext F218)) (fun _ h=>h) (upc (.inr m193) (upc (.inr m143) (upc (.inl (List.Mem.head _)) (upc (.inl (List.Mem.tail _ (List.Mem.head _))) (fun m hm=>Or.inl (List.Mem.tail _ (List.Mem.tail _ hm)))))))) (H134.up (G213.trans (Fr.ext F218)) (fun _ h=>h) (upc (.inr m193) (upc (.inr m143) (upc (.inl (List.Mem.head _)) (upc (.inl (List.Mem.tail _ (List.Mem.head _))) (fun m hm=>Or.inl (List.Mem.tail _ (List.Mem.tail _ hm))))))))) x163.1 (kArena_mk (d:=x163.1) (H180.up (G214.trans (Fr.ext F218)) (fun _ h=>h) (upc (.inr m194) (upc (.inl (List.Mem.head _)) (upc (.inl (List.Mem.tail _ (List.Mem.head _))) (upc (.inl (List.Mem.tail _ (List.Mem.tail _ (List.Mem.head _)))) (fun m hm=>Or.inl (List.Mem.tail _ (List.Mem.tail _ (List.Mem.tail _ hm))))))))) (H183.up (G214.trans (Fr.ext F218)) (fun _ h=>h) (upc (.inr m194) (upc (.inl (List.Mem.head _)) (upc (.inl (List.Mem.tail _ (List.Mem.head _))) (upc (.inl (List.Mem.tail _ (List.Mem.tail _ (List.Mem.head _)))) (fun m hm=>Or.inl (List.Mem.tail _ (List.Mem.tail _ (List.Mem.tail _ hm)))))))))) (((((hL.fr E220).cons (B215.ex F218).lt).cons (B216.ex F218).lt).cons (B217.ex F218).lt).cons (B206'.ex F218).lt) (refSameA_ev x115.1 x163.1 ha233)) rfl rfl ?_
   rintro _ w232 ⟨F232,rfl⟩
   have E234:=E220.trans F232
   refine o_w (v:=.bool (sameA x115.1 x163.1)) (r_asg rfl) ?_
   refine eo_nil_sq ?_
   refine ec_seq ?_
   refine ec_region ?_
   iterate 2 refine o_w (v:=.bool (worksV)) (r_mov rfl) ?_
   refine o_v (v:=.bool (sameA x44.1 x76.1)) (r_mov rfl) (want_t (t:=74) rfl rfl (of_not hc24)) rfl rfl ?_
   refine o_w (v:=.bool (sameA x44.1 x76.1)) (r_pickT rfl (of_not hc24) rfl) ?_
   refine o_w (v:=.bool (sameA x44.1 x76.1)) (r_mov rfl) ?_
   refine o_vg (v:=.bool x44.2.1) (want_ct (t:=77) rfl rfl) (fun hk=>(r_mov rfl)) rfl rfl ?_
   refine o_vg (v:=.bool x76.2.1) (want_ct (t:=77) rfl rfl) (fun hk=>(r_mov rfl)) rfl rfl ?_
   refine o_vg (v:=.bool (x44.2.1==x76.2.1)) (want_ct (t:=77) rfl rfl) (fun hk=>(r_boolEq un_bool (gdT hk) (gdT hk))) rfl rfl ?_
   refine o_w (v:=.bool ((sameA x44.1 x76.1)&&(x44.2.1==x76.2.1))) (r_pickAnd rfl (fun ht=>(gdT ht)) rfl) ?_
   refine o_w (v:=.bool ((sameA x44.1 x76.1)&&(x44.2.1==x76.2.1))) (r_mov rfl) ?_
   refine o_vg (v:=.int .i64 x44.2.2) (want_ct (t:=82) rfl rfl) (fun hk=>(r_mov rfl)) rfl rfl ?_
   refine o_vg (v:=.int .i64 x76.2.2) (want_ct (t:=82) rfl rfl) (fun hk=>(r_mov rfl)) rfl rfl ?_
   refine o_vg (v:=.bool (x44.2.2==x76.2.2)) (want_ct (t:=82) rfl rfl) (fun hk=>(r_int (gdT hk) (gdT hk) rfl)) rfl rfl ?_
   refine o_w (v:=.bool (((sameA x44.1 x76.1)&&(x44.2.1==x76.2.1))&&(x44.2.2==x76.2.2))) (r_pickAnd rfl (fun ht=>(gdT ht)) rfl) ?_
   refine o_w (v:=.bool (((sameA x44.1 x76.1)&&(x44.2.1==x76.2.1))&&(x44.2.2==x76.2.2))) (r_mov rfl) ?_
   refine o_vg (v:=.bool (sameA x115.1 x163.1)) (want_ct (t:=87) rfl rfl) (fun hk=>(r_mov rfl)) rfl rfl ?_
   refine o_w (v:=.bool ((((sameA x44.1 x76.1)&&(x44.2.1==x76.2.1))&&(x44.2.2==x76.2.2))&&(sameA x115.1 x163.1))) (r_pickAnd rfl (fun ht=>(gdT ht)) rfl) ?_
   refine o_w (v:=.bool ((((sameA x44.1 x76.1)&&(x44.2.1==x76.2.1))&&(x44.2.2==x76.2.2))&&(sameA x115.1 x163.1))) (r_mov rfl) ?_
   refine o_vg (v:=.int .i64 x115.2.1) (want_ct (t:=90) rfl rfl) (fun hk=>(r_mov rfl)) rfl rfl ?_
   refine o_vg (v:=.int .i64 x163.2.1) (want_ct (t:=90) rfl rfl) (fun hk=>(r_mov rfl)) rfl rfl ?_
   refine o_vg (v:=.bool (x115.2.1==x163.2.1)) (want_ct (t:=90) rfl rfl) (fun hk=>(r_int (gdT hk) (gdT hk) rfl)) rfl rfl ?_
   refine o_w (v:=.bool (((((sameA x44.1 x76.1)&&(x44.2.1==x76.2.1))&&(x44.2.2==x76.2.2))&&(sameA x115.1 x163.1))&&(x115.2.1==x163.2.1))) (r_pickAnd rfl (fun ht=>(gdT ht)) rfl) ?_
   refine o_w (v:=.bool (((((sameA x44.1 x76.1)&&(x44.2.1==x76.2.1))&&(x44.2.2==x76.2.2))&&(sameA x115.1 x163.1))&&(x115.2.1==x163.2.1))) (r_mov rfl) ?_
   refine o_vg (v:=.int .i64 x115.2.2) (want_ct (t:=95) rfl rfl) (fun hk=>(r_mov rfl)) rfl rfl ?_
   refine o_vg (v:=.int .i64 x163.2.2) (want_ct (t:=95) rfl rfl) (fun hk=>(r_mov rfl)) rfl rfl ?_
   refine o_vg (v:=.bool (x115.2.2==x163.2.2)) (want_ct (t:=95) rfl rfl) (fun hk=>(r_int (gdT hk) (gdT hk) rfl)) rfl rfl ?_
   refine o_w (v:=.bool ((((((sameA x44.1 x76.1)&&(x44.2.1==x76.2.1))&&(x44.2.2==x76.2.2))&&(sameA x115.1 x163.1))&&(x115.2.1==x163.2.1))&&(x115.2.2==x163.2.2))) (r_pickAnd rfl (fun ht=>(gdT ht)) rfl) ?_
   refine o_w (v:=.bool ((((((sameA x44.1 x76.1)&&(x44.2.1==x76.2.1))&&(x44.2.2==x76.2.2))&&(sameA x115.1 x163.1))&&(x115.2.1==x163.2.1))&&(x115.2.2==x163.2.2))) (r_asg rfl) ?_
   refine eo_nil_sq ?_
   refine ec_ret ?_
   subst h
   exact (end1 rfl ⟨_,rfl,E234,rfl⟩)
end Go.Proofs.Ythifkdgljapmeaa
