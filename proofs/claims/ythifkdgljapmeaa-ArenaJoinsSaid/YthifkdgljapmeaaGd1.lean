/- The law ArenaTells: what it comes to. -/
import Derived.Test.YthifkdgljapmeaaEy
namespace Go.Proofs.Ythifkdgljapmeaa
open Go Go.RowKit
set_option linter.unusedVariables false
set_option linter.unusedSimpArgs false
def law08_ArenaTells_raw (d0:Arena) (d1:Arena) (d2:Int) (d3:Int) (d4:Str) (y:Bool):Prop :=
 ((!(worksV))=true→(y=false))∧((!(worksV))=false→((((!((fewA d0)&&(fewA d1)))||(decide ((100:Int)<(d4.length:Int))))=true→(y=(worksV)))∧(((!((fewA d0)&&(fewA d1)))||(decide ((100:Int)<(d4.length:Int))))=false→(∃ x37,x37=(newA d2)∧(∃ x66,x66=(newA d2)∧((sma d0)∧((sma d0)∧(sma d0∧(∃ x124,x124=(allA d0)∧(sma d0∧(∃ x129,x129=(allA d0)∧(sml x124∧(sma d0∧(∃ x185,x185=(chunkA d0 d2 d3)∧(sma d0∧(∃ x190,x190=(chunkA d0 d2 d3)∧(sml x185∧((sma x37.1)∧((sma d0)∧((sma d1)∧((sma d0)∧((sma d1)∧((sma d0)∧((((sameA x37.1 x66.1)&&(x37.2==x66.2))=true→sma d0)∧(((((sameA x37.1 x66.1)&&(x37.2==x66.2))&&(((checkA d0)==(0:Int))==(arOk d0)))=true→sma d0)∧((((((((sameA x37.1 x66.1)&&(x37.2==x66.2))&&(((checkA d0)==(0:Int))==(arOk d0)))&&((findA d0 d2 d4)==(findA d0 d2 d4)))&&(allE x124 x129))&&(allE x185 x190))=true→sma d0)∧((((((((sameA x37.1 x66.1)&&(x37.2==x66.2))&&(((checkA d0)==(0:Int))==(arOk d0)))&&((findA d0 d2 d4)==(findA d0 d2 d4)))&&(allE x124 x129))&&(allE x185 x190))=true→sma d1)∧(((((((((sameA x37.1 x66.1)&&(x37.2==x66.2))&&(((checkA d0)==(0:Int))==(arOk d0)))&&((findA d0 d2 d4)==(findA d0 d2 d4)))&&(allE x124 x129))&&(allE x185 x190))&&((belowA d0 d1)==(belowA d0 d1)))=true→sma d0)∧(((((((((sameA x37.1 x66.1)&&(x37.2==x66.2))&&(((checkA d0)==(0:Int))==(arOk d0)))&&((findA d0 d2 d4)==(findA d0 d2 d4)))&&(allE x124 x129))&&(allE x185 x190))&&((belowA d0 d1)==(belowA d0 d1)))=true→sma d1)∧((((((((((sameA x37.1 x66.1)&&(x37.2==x66.2))&&(((checkA d0)==(0:Int))==(arOk d0)))&&((findA d0 d2 d4)==(findA d0 d2 d4)))&&(allE x124 x129))&&(allE x185 x190))&&((belowA d0 d1)==(belowA d0 d1)))&&((alikeA d0 d1)==(alikeA d0 d1)))=true→sma d0)∧(y=(((((((((sameA x37.1 x66.1)&&(x37.2==x66.2))&&(((checkA d0)==(0:Int))==(arOk d0)))&&((findA d0 d2 d4)==(findA d0 d2 d4)))&&(allE x124 x129))&&(allE x185 x190))&&((belowA d0 d1)==(belowA d0 d1)))&&((alikeA d0 d1)==(alikeA d0 d1)))&&((sameA d0 d1)==(sameA d0 d1))))))))))))))))))))))))))))))))))
set_option maxRecDepth 20000 in
set_option maxHeartbeats 4000000 in
theorem law08_ArenaTells_c {L:List Nat} {w:World} {csP0:List Value} (d0:Arena) (HP0:Stb L w (fun w=>kArena.r w csP0 d0)) {csP1:List Value} (d1:Arena) (HP1:Stb L w (fun w=>kArena.r w csP1 d1)) (d2:Int) (d3:Int) (d4:Str) (hL:Lt L w) {y:Bool} (h:law08_ArenaTells_raw d0 d1 d2 d3 d4 y) :
  Calls Try.prog 3 [.agg csP0.toArray,.agg csP1.toArray,.int .i64 d2,.int .i64 d3,str d4].toArray w (Ret fun v w'=>Ext w w'∧v=.bool y):=by
 obtain ⟨A1,c2,A4,c5,rfl,H3,H6⟩:=kArena_open HP0
 obtain ⟨A7,c8,A10,c11,rfl,H9,H12⟩:=kArena_open HP1
 unfold law08_ArenaTells_raw at h
 refine calls_ec Try.func3 rfl rfl rfl ?_
 refine ec_seq ?_
 refine ec_region ?_
 refine o_box (cs:=(cArena d0 A1 c2 A4 c5)) rfl rfl rfl ?_
 intro b13 w13 e13 F13 B13
 have S13:=B13.stb (nin hL e13)
 have G14:Fr L w w13:=Fr.ext F13
 refine o_box (cs:=(cArena d1 A7 c8 A10 c11)) rfl rfl rfl ?_
 intro b15 w15 e15 F15 B15
 have S15:=B15.stb (nin (hL.fr F13) e15)
 have E16:=F13.trans F15
 have G18:Fr L w13 w15:=Fr.ext F15
 refine o_w (v:=.bool false) (r_asg rfl) ?_
 refine eo_nil_sq ?_
 refine ec_seq ?_
 refine ec_region ?_
 refine o_call cf_law08_works rfl (law08_works_c (hL.fr E16) (works8_ev)) rfl rfl ?_
 rintro _ w19 ⟨F19,rfl⟩
 have E20:=E16.trans F19
 have G23:Fr L w15 w19:=Fr.ext F19
 refine o_w (v:=.bool (worksV)) (r_asg rfl) ?_
 refine eo_nil_sq ?_
 iterate 2 refine ec_seq ?_
 refine ec_region ?_
 refine o_w (v:=.bool (worksV)) (r_mov rfl) ?_
 refine o_w (v:=.bool (!(worksV))) (r_not rfl) ?_
 refine eo_nil_sq ?_
 refine ec_cond rfl (fun hc24=>?_) (fun hc24=>?_)
 ·replace h:=h.1 hc24
  refine ec_seq ?_
  refine ec_region ?_
  refine o_w (v:=.bool false) (r_asg rfl) ?_
  refine eo_nil_sq ?_
  refine ec_ret ?_
  refine sq_ret ?_
  subst h
  exact (end1 rfl ⟨_,rfl,E20,rfl⟩)
 ·replace h:=h.2 hc24
  refine ec_skip ?_
  refine sq_n ?_
  refine ec_seq ?_
  refine ec_region ?_
  refine o_w (v:=.agg (cArena d0 A1 c2 A4 c5).toArray) (r_lda agg_api_Arena rfl (vs:=(cArena d0 A1 c2 A4 c5)) rfl ((S13.fr (G18.trans (Fr.ext F19)) (fun _ h=>h)).now.part (n:=3) rfl)) ?_
  refine o_call cf_law08_Few rfl (law08_Few_c d0 (kArena_mk (d:=d0) (H3.fr ((G14.trans (Fr.ext F15)).trans (Fr.ext F19)) (fun _ h=>h)) (H6.fr ((G14.trans (Fr.ext F15)).trans (Fr.ext F19)) (fun _ h=>h))) (hL.fr E20) (fewA_ev d0)) rfl rfl ?_
  rintro _ w26 ⟨F26,rfl⟩
  have E27:=E20.trans F26
  refine o_w (v:=.bool (fewA d0)) (r_mov rfl) ?_
  refine o_vg (v:=.agg (cArena d1 A7 c8 A10 c11).toArray) (want_ct (t:=30) rfl rfl) (fun hk=>(r_lda agg_api_Arena rfl (vs:=(cArena d1 A7 c8 A10 c11)) rfl ((S15.fr (G23.trans (Fr.ext F26)) (fun _ h=>h)).now.part (n:=3) rfl))) rfl rfl ?_
  refine o_callg (V:=.bool (fewA d1)) cf_law08_Few (want_ct (t:=30) rfl rfl) (fun hk=>(mapv1 (gdT hk))) (fun hk=>(law08_Few_c d1 (kArena_mk (d:=d1) (H9.fr (((G14.trans (Fr.ext F15)).trans (Fr.ext F19)).trans (Fr.ext F26)) (fun _ h=>h)) (H12.fr (((G14.trans (Fr.ext F15)).trans (Fr.ext F19)).trans (Fr.ext F26)) (fun _ h=>h))) (hL.fr E27) (fewA_ev d1))) rfl ?_
  intro w31 F31
  have E32:=E27.trans F31
  have G33:=(((G14.trans (Fr.ext F15)).trans (Fr.ext F19)).trans (Fr.ext F26)).trans (Fr.ext F31)
  refine o_w (v:=.bool ((fewA d0)&&(fewA d1))) (r_pickAnd rfl (fun ht=>(gdT ht)) rfl) ?_
  refine o_w (v:=.bool ((fewA d0)&&(fewA d1))) (r_asg rfl) ?_
  refine eo_nil_sq ?_
  iterate 2 refine ec_seq ?_
  refine ec_region ?_
  refine o_w (v:=.bool ((fewA d0)&&(fewA d1))) (r_mov rfl) ?_
  refine o_w (v:=.bool (!((fewA d0)&&(fewA d1)))) (r_not rfl) ?_
  refine o_w (v:=.bool (!((fewA d0)&&(fewA d1)))) (r_mov rfl) ?_
  refine o_vg (v:=str d4) (want_cf (t:=36) rfl rfl) (fun hk=>(r_mov rfl)) rfl rfl ?_
  refine o_vg (v:=.int .i64 (d4.length:Int)) (want_cf (t:=36) rfl rfl) (fun hk=>(r_len_str un_string (gdT hk))) rfl rfl ?_
  refine o_vg (v:=.bool (decide ((100:Int)<(d4.length:Int)))) (want_cf (t:=36) rfl rfl) (fun hk=>(r_int (gdT hk) rfl rfl)) rfl rfl ?_
  refine o_w (v:=.bool ((!((fewA d0)&&(fewA d1)))||(decide ((100:Int)<(d4.length:Int))))) (r_pickOr rfl rfl (fun hf=>(gdT (notT hf)))) ?_
  refine eo_nil_sq ?_
  refine ec_cond rfl (fun hc36=>?_) (fun hc36=>?_)
  ·replace h:=h.1 hc36
   refine ec_seq ?_
   refine ec_region ?_
   refine o_w (v:=.bool (worksV)) (r_mov rfl) ?_
   refine o_w (v:=.bool (worksV)) (r_asg rfl) ?_
   refine eo_nil_sq ?_
   refine ec_ret ?_
   refine sq_ret ?_
   subst h
   exact (end1 rfl ⟨_,rfl,E32,rfl⟩)
  ·replace h:=h.2 hc36
   refine ec_skip ?_
   refine sq_n ?_
   refine ec_seq ?_
   refine ec_region ?_
   refine o_w (v:=.int .i64 d2) (r_mov rfl) ?_
   obtain ⟨x37,hx37,h⟩:=h
   refine o_call cf_arena_New rfl (arena_New_c d2 (hL.fr E32) (eq_ev hx37 (arNew_ev d2))) rfl rfl ?_
   rintro _ w37 ⟨F37,cs38,rfl,H39⟩
   have E40:=E32.trans F37
   have G42:=(((G18.trans (Fr.ext F19)).trans (Fr.ext F26)).trans (Fr.ext F31)).trans (Fr.ext F37)
   obtain ⟨A44,c45,A47,c48,rfl,H46,H49⟩:=kArena_open H39
   refine o_w (v:=.tuple #[.agg (cArena x37.1 A44 c45 A47 c48).toArray,.int .i64 x37.2]) (r_mov rfl) ?_
   refine o_w (v:=.agg (cArena x37.1 A44 c45 A47 c48).toArray) (r_ext rfl rfl) ?_
   refine o_w (v:=.int .i64 x37.2) (r_ext rfl rfl) ?_
   refine o_alloc zero_api_Arena rfl rfl rfl ?_
   intro b50 w50 e50 F50 B50
   have n50:w.heap.size≤b50:=by rw [e50]; exact E40.size
   have m51:w.heap.size≤b50:=by rw [e50]; exact (G33.trans (Fr.ext F37)).size
   have m52:w13.heap.size≤b50:=by rw [e50]; exact G42.size
   have m53:w15.heap.size≤b50:=by rw [e50]; exact (((G23.trans (Fr.ext F26)).trans (Fr.ext F31)).trans (Fr.ext F37)).size
   have m54:w37.heap.size≤b50:=Nat.le_of_eq e50.symm
   have E55:=E40.trans F50
   have G58:=(((G23.trans (Fr.ext F26)).trans (Fr.ext F31)).trans (Fr.ext F37)).trans (Fr.ext F50)
   have G59:Fr L w37 w50:=Fr.ext F50
   refine o_store rfl B50 (vs:=(cArena x37.1 A44 c45 A47 c48)) rfl sz_api_Arena rfl rfl rfl ?_
   intro w60 F60 B60
   have E61:=Ext.st E55 F60 (by simp; omega)
   have G62:Fr L w w60:=((G33.trans (Fr.ext F37)).trans (Fr.ext F50)).stp F60 (upc (.inr m51) (fun m hm=>by cases hm))
   have G63:Fr L w13 w60:=(G42.trans (Fr.ext F50)).stp F60 (upc (.inr m52) (fun m hm=>by cases hm))
   have G64:Fr L w15 w60:=G58.stp F60 (upc (.inr m53) (fun m hm=>by cases hm))
   have G65:Fr L w37 w60:=G59.stp F60 (upc (.inr m54) (fun m hm=>by cases hm))
   have B60':Blk w60 b50 _ (cArena x37.1 A44 c45 A47 c48):=B60
   refine o_w (v:=.int .i64 x37.2) (r_asg rfl) ?_
   refine eo_nil_sq ?_
   refine ec_seq ?_
   refine ec_region ?_
   refine o_w (v:=.int .i64 d2) (r_mov rfl) ?_
   obtain ⟨x66,hx66,h⟩:=h
   refine o_call cf_ref08_New rfl (ref08_New_c d2 ((hL.fr E61).cons B60'.lt) (eq_ev hx66 (refNewA_ev d2))) rfl rfl ?_
   rintro _ w66 ⟨F66,cs67,rfl,H68⟩
   have E69:=E61.trans F66
   obtain ⟨A75,c76,A78,c79,rfl,H77,H80⟩:=kArena_open H68
   refine o_w (v:=.tuple #[.agg (cArena x66.1 A75 c76 A78 c79).toArray,.int .i64 x66.2]) (r_mov rfl) ?_
   refine o_w (v:=.agg (cArena x66.1 A75 c76 A78 c79).toArray) (r_ext rfl rfl) ?_
   refine o_w (v:=.int .i64 x66.2) (r_ext rfl rfl) ?_
   refine o_alloc zero_api_Arena rfl rfl rfl ?_
   intro b81 w81 e81 F81 B81
   have n81:w.heap.size≤b81:=by rw [e81]; exact E69.size
   have q82:b50<b81:=by rw [e81]; exact (B60'.ex F66).lt
   have m83:w.heap.size≤b81:=by rw [e81]; exact (G62.trans (Fr.ext F66)).size
   have m84:w13.heap.size≤b81:=by rw [e81]; exact (G63.trans (Fr.ext F66)).size
   have m85:w15.heap.size≤b81:=by rw [e81]; exact (G64.trans (Fr.ext F66)).size
   have m86:w37.heap.size≤b81:=by rw [e81]; exact (G65.trans (Fr.ext F66)).size
   have m87:w66.heap.size≤b81:=Nat.le_of_eq e81.symm
   have E88:=E69.trans F81
   have G93:Fr (b50::L) w66 w81:=Fr.ext F81
   refine o_store rfl B81 (vs:=(cArena x66.1 A75 c76 A78 c79)) rfl sz_api_Arena rfl rfl rfl ?_
   intro w95 F95 B95
   have E96:=Ext.st E88 F95 (by simp; omega)
   have G97:Fr L w w95:=((G62.trans (Fr.ext F66)).trans (Fr.ext F81)).stp F95 (upc (.inr m83) (fun m hm=>by cases hm))
   have G98:Fr L w13 w95:=((G63.trans (Fr.ext F66)).trans (Fr.ext F81)).stp F95 (upc (.inr m84) (fun m hm=>by cases hm))
   have G99:Fr L w15 w95:=((G64.trans (Fr.ext F66)).trans (Fr.ext F81)).stp F95 (upc (.inr m85) (fun m hm=>by cases hm))
   have G100:Fr L w37 w95:=((G65.trans (Fr.ext F66)).trans (Fr.ext F81)).stp F95 (upc (.inr m86) (fun m hm=>by cases hm))
   have G101:Fr (b50::L) w66 w95:=G93.stp F95 (upc (.inr m87) (fun m hm=>by cases hm))
   have B102:=((B60'.ex F66).ex F81).fr F95 (by simp; omega)
   have B95':Blk w95 b81 _ (cArena x66.1 A75 c76 A78 c79):=B95
   refine o_w (v:=.int .i64 x66.2) (r_asg rfl) ?_
   refine eo_nil_sq ?_
   refine ec_seq ?_
   refine ec_region ?_
   refine o_w (v:=.agg (cArena d0 A1 c2 A4 c5).toArray) (r_lda agg_api_Arena rfl (vs:=(cArena d0 A1 c2 A4 c5)) rfl ((S13.fr G98 (fun _ h=>h)).now.part (n:=3) rfl)) ?_
   obtain ⟨ha104,h⟩:=h
   refine o_call cf_ref08_Check rfl (ref08_Check_c d0 (kArena_mk (d:=d0) (H3.up G97 (fun _ h=>h) (upc (.inr m83) (upc (.inr m51) (fun _ h=>.inl h)))) (H6.up G97 (fun _ h=>h) (upc (.inr m83) (upc (.inr m51) (fun _ h=>.inl h))))) (((hL.fr E96).cons B102.lt).cons B95'.lt) (refCheckA_ev d0 ha104)) rfl rfl ?_
   rintro _ w103 ⟨F103,rfl⟩
   have E105:=E96.trans F103
   refine o_w (v:=.bool (arOk d0)) (r_asg rfl) ?_
   refine eo_nil_sq ?_
   refine ec_seq ?_
   refine ec_region ?_
   refine o_w (v:=.agg (cArena d0 A1 c2 A4 c5).toArray) (r_lda agg_api_Arena rfl (vs:=(cArena d0 A1 c2 A4 c5)) rfl ((S13.fr (G98.trans (Fr.ext F103)) (fun _ h=>h)).now.part (n:=3) rfl)) ?_
   refine o_w (v:=.int .i64 d2) (r_mov rfl) ?_
   refine o_w (v:=str d4) (r_mov rfl) ?_
   obtain ⟨ha114,h⟩:=h
   refine o_call cf_ref08_Find rfl (ref08_Find_c d0 (kArena_mk (d:=d0) (H3.up (G97.trans (Fr.ext F103)) (fun _ h=>h) (upc (.inr m83) (upc (.inr m51) (fun _ h=>.inl h)))) (H6.up (G97.trans (Fr.ext F103)) (fun _ h=>h) (upc (.inr m83) (upc (.inr m51) (fun _ h=>.inl h))))) d2 d4 (((hL.fr E105).cons (B102.ex F103).lt).cons (B95'.ex F103).lt) (refFind_ev d0 d2 d4 ha114)) rfl rfl ?_
   rintro _ w113 ⟨F113,rfl⟩
   have E115:=E105.trans F113
   refine o_w (v:=.int .i64 (findA d0 d2 d4)) (r_asg rfl) ?_
   refine eo_nil_sq ?_
   refine ec_seq ?_
   obtain ⟨ha125,h⟩:=h
   obtain ⟨x124,hx124,h⟩:=h
   obtain ⟨ha130,h⟩:=h
   obtain ⟨x129,hx129,h⟩:=h
   obtain ⟨ha135,h⟩:=h
   refine ec_any0 (by kernel_rfl) [[],[0],[],[0,1,2],[0,1,2,3],[0,1,2,3,4]] [19,58,59,60,61,62] [fun v _=>v=(.agg (cArena d0 A1 c2 A4 c5).toArray:Value),fun v w'=>∃ A126 c127,v=(.slice A126 x124.length c127:Value)∧Stb (b81::(b50::L)) w' (fun w=>SlC kEnt w A126 c127 x124),fun v _=>v=(.agg (cArena d0 A1 c2 A4 c5).toArray:Value),fun v w'=>∃ A131 c132,v=(.slice A131 x129.length c132:Value)∧Stb (b81::(b50::L)) w' (fun w=>SlC kEnt w A131 c132 x129),fun v _=>v=(.bool (allE x124 x129):Value),fun v _=>v=(.bool (allE x124 x129):Value)] (by kernel_rfl) ⟨fun _ _ _ _ _ h=>h,fun _ v w' w'' F h=>by obtain ⟨A126,c127,hv,H128⟩:=h; exact ⟨A126,c127,hv,(H128.ex F)⟩,fun _ _ _ _ _ h=>h,fun _ v w' w'' F h=>by obtain ⟨A131,c132,hv,H133⟩:=h; exact ⟨A131,c132,hv,(H133.ex F)⟩,fun _ _ _ _ _ h=>h,fun _ _ _ _ _ h=>h,trivial⟩ ?_ ?_
   ·refine ⟨?_,?_,?_,?_,?_,?_,trivial⟩
    ·intro ρ w123o F123o hS hρ
     have G138:=((G98.trans (Fr.ext F103)).trans (Fr.ext F113)).trans (Fr.ext F123o)
     have q5:ρ 5=.pointer (some ⟨b13,0,none⟩):=hρ 5 (by kernel_rfl)
     exact o_q (r_lda agg_api_Arena q5 (vs:=(cArena d0 A1 c2 A4 c5)) rfl ((S13.fr G138 (fun _ h=>h)).now.part (n:=3) rfl)) ⟨Fr.refl _ _,rfl⟩
    ·intro ρ w123o F123o hS hρ
     have E144:=E115.trans F123o
     have G145:=((G97.trans (Fr.ext F103)).trans (Fr.ext F113)).trans (Fr.ext F123o)
     have q58:ρ 58=.agg (cArena d0 A1 c2 A4 c5).toArray:=hS 0 (by decide) 58 rfl
     refine o_call cf_arena_All (by simp only [List.map,ev,q58] <;> rfl) (arena_All_c d0 (kArena_mk (d:=d0) (H3.up G145 (fun _ h=>h) (upc (.inr m83) (upc (.inr m51) (fun _ h=>.inl h)))) (H6.up G145 (fun _ h=>h) (upc (.inr m83) (upc (.inr m51) (fun _ h=>.inl h))))) (((hL.fr E144).cons (((B102.ex F103).ex F113).ex F123o).lt).cons (((B95'.ex F103).ex F113).ex F123o).lt) (eq_ev hx124 (arAll_ev d0 ha125))) rfl rfl ?_
     rintro _ w' ⟨F,A126,c127,rfl,H128⟩
     exact eo_nil ⟨rfl,rfl,_,rfl,F,⟨A126,c127,rfl,H128⟩⟩
    ·intro ρ w123o F123o hS hρ
     have G154:=((G98.trans (Fr.ext F103)).trans (Fr.ext F113)).trans (Fr.ext F123o)
     have q5:ρ 5=.pointer (some ⟨b13,0,none⟩):=hρ 5 (by kernel_rfl)
     exact o_q (r_lda agg_api_Arena q5 (vs:=(cArena d0 A1 c2 A4 c5)) rfl ((S13.fr G154 (fun _ h=>h)).now.part (n:=3) rfl)) ⟨Fr.refl _ _,rfl⟩
    ·intro ρ w123o F123o hS hρ
     have E160:=E115.trans F123o
     have G161:=((G97.trans (Fr.ext F103)).trans (Fr.ext F113)).trans (Fr.ext F123o)
     have q60:ρ 60=.agg (cArena d0 A1 c2 A4 c5).toArray:=hS 2 (by decide) 60 rfl
     refine o_call cf_ref08_All (by simp only [List.map,ev,q60] <;> rfl) (ref08_All_c d0 (kArena_mk (d:=d0) (H3.up G161 (fun _ h=>h) (upc (.inr m83) (upc (.inr m51) (fun _ h=>.inl h)))) (H6.up G161 (fun _ h=>h) (upc (.inr m83) (upc (.inr m51) (fun _ h=>.inl h))))) (((hL.fr E160).cons (((B102.ex F103).ex F113).ex F123o).lt).cons (((B95'.ex F103).ex F113).ex F123o).lt) (eq_ev hx129 (refAllA_ev d0 ha130))) rfl rfl ?_
     rintro _ w' ⟨F,A131,c132,rfl,H133⟩
     exact eo_nil ⟨rfl,rfl,_,rfl,F,⟨A131,c132,rfl,H133⟩⟩
    ·intro ρ w123o F123o hS hρ
     have E168:=E115.trans F123o
     obtain ⟨A126,c127,q59,H128⟩:=hS 1 (by decide) 59 rfl
     obtain ⟨A131,c132,q61,H133⟩:=hS 3 (by decide) 61 rfl
     refine o_call cf_ref07_All (by simp only [List.map,ev,q59,q61] <;> rfl) (ref07_All_c x124 H128 x129 H133 (((hL.fr E168).cons (((B102.ex F103).ex F113).ex F123o).lt).cons (((B95'.ex F103).ex F113).ex F123o).lt) (refAll_ev x124 x129 ha135)) rfl rfl ?_
     rintro _ w' ⟨F,rfl⟩
     exact eo_nil ⟨rfl,rfl,_,rfl,F,rfl⟩
    ·intro ρ w123o F123o hS hρ
     have q62:ρ 62=.bool (allE x124 x129):=hS 4 (by decide) 62 rfl
     exact o_q (r_asg q62) ⟨Fr.refl _ _,rfl⟩
   ·intro ρ w123 F123 hS hρ
    have q19:ρ 19=.bool (allE x124 x129):=hS 5 19 rfl
    obtain ⟨ρ',rfl⟩:∃ ρ',ρ=envs (ovr [19,58,59,60,61,62] ρ' _) [(19,.bool (allE x124 x129))]:=⟨ρ,ovr_self hρ ⟨q19,trivial⟩⟩
    have E176:=E115.trans F123
    have G180:=((G100.trans (Fr.ext F103)).trans (Fr.ext F113)).trans (Fr.ext F123)
    have G181:=((G101.trans (Fr.ext F103)).trans (Fr.ext F113)).trans (Fr.ext F123)
    refine sq_n ?_
    refine ec_seq ?_
    obtain ⟨ha186,h⟩:=h
    obtain ⟨x185,hx185,h⟩:=h
    obtain ⟨ha191,h⟩:=h
    obtain ⟨x190,hx190,h⟩:=h
    obtain ⟨ha196,h⟩:=h
    refine ec_any0 (by kernel_rfl) [[],[],[],[0,1,2],[],[],[],[0,1,2,3,4,5,6],[0,1,2,3,4,5,6,7],[0,1,2,3,4,5,6,7,8]] [20,63,64,65,66,67,68,69,70,71] [fun v _=>v=(.agg (cArena d0 A1 c2 A4 c5).toArray:Value),fun v _=>v=(.int .i64 d2:Value),fun v _=>v=(.int .i64 d3:Value),fun v w'=>∃ A187 c188,v=(.slice A187 x185.length c188:Value)∧Stb (b81::(b50::L)) w' (fun w=>SlC kEnt w A187 c188 x185),fun v _=>v=(.agg (cArena d0 A1 c2 A4 c5).toArray:Value),fun v _=>v=(.int .i64 d2:Value),fun v _=>v=(.int .i64 d3:Value),fun v w'=>∃ A192 c193,v=(.slice A192 x190.length c193:Value)∧Stb (b81::(b50::L)) w' (fun w=>SlC kEnt w A192 c193 x190),fun v _=>v=(.bool (allE x185 x190):Value),fun v _=>v=(.bool (allE x185 x190):Value)] (by kernel_rfl) ⟨fun _ _ _ _ _ h=>h,fun _ _ _ _ _ h=>h,fun _ _ _ _ _ h=>h,fun _ v w' w'' F h=>by obtain ⟨A187,c188,hv,H189⟩:=h; exact ⟨A187,c188,hv,(H189.ex F)⟩,fun _ _ _ _ _ h=>h,fun _ _ _ _ _ h=>h,fun _ _ _ _ _ h=>h,fun _ v w' w'' F h=>by obtain ⟨A192,c193,hv,H194⟩:=h; exact ⟨A192,c193,hv,(H194.ex F)⟩,fun _ _ _ _ _ h=>h,fun _ _ _ _ _ h=>h,trivial⟩ ?_ ?_
    ·refine ⟨?_,?_,?_,?_,?_,?_,?_,?_,?_,?_,trivial⟩
     ·intro ρ w184o F184o hS hρ
      have G199:=(((G98.trans (Fr.ext F103)).trans (Fr.ext F113)).trans (Fr.ext F123)).trans (Fr.ext F184o)
      have q5:ρ 5=.pointer (some ⟨b13,0,none⟩):=hρ 5 (by kernel_rfl)
      exact o_q (r_lda agg_api_Arena q5 (vs:=(cArena d0 A1 c2 A4 c5)) rfl ((S13.fr G199 (fun _ h=>h)).now.part (n:=3) rfl)) ⟨Fr.refl _ _,rfl⟩
     ·intro ρ w184o F184o hS hρ
      have q2:ρ 2=.int .i64 d2:=hρ 2 (by kernel_rfl)
      exact o_q (r_mov q2) ⟨Fr.refl _ _,rfl⟩
     ·intro ρ w184o F184o hS hρ
      have q3:ρ 3=.int .i64 d3:=hρ 3 (by kernel_rfl)
      exact o_q (r_mov q3) ⟨Fr.refl _ _,rfl⟩
     ·intro ρ w184o F184o hS hρ
      have E206:=E176.trans F184o
      have G207:=(((G97.trans (Fr.ext F103)).trans (Fr.ext F113)).trans (Fr.ext F123)).trans (Fr.ext F184o)
      have q63:ρ 63=.agg (cArena d0 A1 c2 A4 c5).toArray:=hS 0 (by decide) 63 rfl
      have q64:ρ 64=.int .i64 d2:=hS 1 (by decide) 64 rfl
      have q65:ρ 65=.int .i64 d3:=hS 2 (by decide) 65 rfl
      refine o_call cf_arena_Chunk (by simp only [List.map,ev,q63,q64,q65] <;> rfl) (arena_Chunk_c d0 (kArena_mk (d:=d0) (H3.up G207 (fun _ h=>h) (upc (.inr m83) (upc (.inr m51) (fun _ h=>.inl h)))) (H6.up G207 (fun _ h=>h) (upc (.inr m83) (upc (.inr m51) (fun _ h=>.inl h))))) d2 d3 (((hL.fr E206).cons ((((B102.ex F103).ex F113).ex F123).ex F184o).lt).cons ((((B95'.ex F103).ex F113).ex F123).ex F184o).lt) (eq_ev hx185 (arChunk_ev d0 d2 d3 ha186))) rfl rfl ?_
      rintro _ w' ⟨F,A187,c188,rfl,H189⟩
      exact eo_nil ⟨rfl,rfl,_,rfl,F,⟨A187,c188,rfl,H189⟩⟩
     ·intro ρ w184o F184o hS hρ
      have G217:=(((G98.trans (Fr.ext F103)).trans (Fr.ext F113)).trans (Fr.ext F123)).trans (Fr.ext F184o)
      have q5:ρ 5=.pointer (some ⟨b13,0,none⟩):=hρ 5 (by kernel_rfl)
      exact o_q (r_lda agg_api_Arena q5 (vs:=(cArena d0 A1 c2 A4 c5)) rfl ((S13.fr G217 (fun _ h=>h)).now.part (n:=3) rfl)) ⟨Fr.refl _ _,rfl⟩
     ·intro ρ w184o F184o hS hρ
      have q2:ρ 2=.int .i64 d2:=hρ 2 (by kernel_rfl)
      exact o_q (r_mov q2) ⟨Fr.refl _ _,rfl⟩
     ·intro ρ w184o F184o hS hρ
      have q3:ρ 3=.int .i64 d3:=hρ 3 (by kernel_rfl)
      exact o_q (r_mov q3) ⟨Fr.refl _ _,rfl⟩
     ·intro ρ w184o F184o hS hρ
      have E224:=E176.trans F184o
      have G225:=(((G97.trans (Fr.ext F103)).trans (Fr.ext F113)).trans (Fr.ext F123)).trans (Fr.ext F184o)
      have q67:ρ 67=.agg (cArena d0 A1 c2 A4 c5).toArray:=hS 4 (by decide) 67 rfl
      have q68:ρ 68=.int .i64 d2:=hS 5 (by decide) 68 rfl
      have q69:ρ 69=.int .i64 d3:=hS 6 (by decide) 69 rfl
      refine o_call cf_ref08_Chunk (by simp only [List.map,ev,q67,q68,q69] <;> rfl) (ref08_Chunk_c d0 (kArena_mk (d:=d0) (H3.up G225 (fun _ h=>h) (upc (.inr m83) (upc (.inr m51) (fun _ h=>.inl h)))) (H6.up G225 (fun _ h=>h) (upc (.inr m83) (upc (.inr m51) (fun _ h=>.inl h))))) d2 d3 (((hL.fr E224).cons ((((B102.ex F103).ex F113).ex F123).ex F184o).lt).cons ((((B95'.ex F103).ex F113).ex F123).ex F184o).lt) (eq_ev hx190 (refChunk_ev d0 d2 d3 ha191))) rfl rfl ?_
      rintro _ w' ⟨F,A192,c193,rfl,H194⟩
      exact eo_nil ⟨rfl,rfl,_,rfl,F,⟨A192,c193,rfl,H194⟩⟩
     ·intro ρ w184o F184o hS hρ
      have E233:=E176.trans F184o
      obtain ⟨A187,c188,q66,H189⟩:=hS 3 (by decide) 66 rfl
      obtain ⟨A192,c193,q70,H194⟩:=hS 7 (by decide) 70 rfl
      refine o_call cf_ref07_All (by simp only [List.map,ev,q66,q70] <;> rfl) (ref07_All_c x185 H189 x190 H194 (((hL.fr E233).cons ((((B102.ex F103).ex F113).ex F123).ex F184o).lt).cons ((((B95'.ex F103).ex F113).ex F123).ex F184o).lt) (refAll_ev x185 x190 ha196)) rfl rfl ?_
      rintro _ w' ⟨F,rfl⟩
      exact eo_nil ⟨rfl,rfl,_,rfl,F,rfl⟩
     ·intro ρ w184o F184o hS hρ
      have q71:ρ 71=.bool (allE x185 x190):=hS 8 (by decide) 71 rfl
      exact o_q (r_asg q71) ⟨Fr.refl _ _,rfl⟩
    ·intro ρ w184 F184 hS hρ
     have q20:ρ 20=.bool (allE x185 x190):=hS 9 20 rfl
     obtain ⟨ρ',rfl⟩:∃ ρ',ρ=envs (ovr [20,63,64,65,66,67,68,69,70,71] ρ' _) [(20,.bool (allE x185 x190))]:=⟨ρ,ovr_self hρ ⟨q20,trivial⟩⟩
     have E242:=E176.trans F184
     have G243:=(((G97.trans (Fr.ext F103)).trans (Fr.ext F113)).trans (Fr.ext F123)).trans (Fr.ext F184)
     have G244:=(((G98.trans (Fr.ext F103)).trans (Fr.ext F113)).trans (Fr.ext F123)).trans (Fr.ext F184)
     have G245:=(((G99.trans (Fr.ext F103)).trans (Fr.ext F113)).trans (Fr.ext F123)).trans (Fr.ext F184)
     refine sq_n ?_
     refine ec_seq ?_
     refine ec_region ?_
     refine o_w (v:=.agg (cArena x37.1 A44 c45 A47 c48).toArray) (r_lda agg_api_Arena rfl (vs:=(cArena x37.1 A44 c45 A47 c48)) rfl (((((B102.ex F103).ex F113).ex F123).ex F184).part (n:=3) rfl)) ?_
     refine o_w (v:=.agg (cArena x66.1 A75 c76 A78 c79).toArray) (r_lda agg_api_Arena rfl (vs:=(cArena x66.1 A75 c76 A78 c79)) rfl (((((B95'.ex F103).ex F113).ex F123).ex F184).part (n:=3) rfl)) ?_
     obtain ⟨ha252,h⟩:=h
     refine o_call cf_ref08_Same rfl (ref08_Same_c x37.1 (kArena_mk (d:=x37.1) (H46.up (G180.trans (Fr.ext F184)) (fun _ h=>h) (upc (.inr m86) (upc (.inr m54) (fun _ h=>.inl h)))) (H49.up (G180.trans (Fr.ext F184)) (fun _ h=>h) (upc (.inr m86) (upc (.inr m54) (fun _ h=>.inl h))))) x66.1 (kArena_mk (d:=x66.1) (H77.up (G181.trans (Fr.ext F184)) (fun _ h=>h) (upc (.inr m87) (upc (.inl (List.Mem.head _)) (fun m hm=>Or.inl (List.Mem.tail _ hm))))) (H80.up (G181.trans (Fr.ext F184)) (fun _ h=>h) (upc (.inr m87) (upc (.inl (List.Mem.head _)) (fun m hm=>Or.inl (List.Mem.tail _ hm)))))) (((hL.fr E242).cons ((((B102.ex F103).ex F113).ex F123).ex F184).lt).cons ((((B95'.ex F103).ex F113).ex F123).ex F184).lt) (refSameA_ev x37.1 x66.1 ha252)) rfl rfl ?_
     rintro _ w251 ⟨F251,rfl⟩
     have E253:=E242.trans F251
     refine o_w (v:=.bool (sameA x37.1 x66.1)) (r_asg rfl) ?_
     refine eo_nil_sq ?_
     refine ec_seq ?_
     refine ec_region ?_
     refine o_w (v:=.agg (cArena d0 A1 c2 A4 c5).toArray) (r_lda agg_api_Arena rfl (vs:=(cArena d0 A1 c2 A4 c5)) rfl ((S13.fr (G244.trans (Fr.ext F251)) (fun _ h=>h)).now.part (n:=3) rfl)) ?_
     refine o_w (v:=.agg (cArena d1 A7 c8 A10 c11).toArray) (r_lda agg_api_Arena rfl (vs:=(cArena d1 A7 c8 A10 c11)) rfl ((S15.fr (G245.trans (Fr.ext F251)) (fun _ h=>h)).now.part (n:=3) rfl)) ?_
     obtain ⟨ha264,h⟩:=h
     obtain ⟨ha265,h⟩:=h
     refine o_call cf_ref08_Below rfl (ref08_Below_c d0 (kArena_mk (d:=d0) (H3.up (G243.trans (Fr.ext F251)) (fun _ h=>h) (upc (.inr m83) (upc (.inr m51) (fun _ h=>.inl h)))) (H6.up (G243.trans (Fr.ext F251)) (fun _ h=>h) (upc (.inr m83) (upc (.inr m51) (fun _ h=>.inl h))))) d1 (kArena_mk (d:=d1) (H9.up (G243.trans (Fr.ext F251)) (fun _ h=>h) (upc (.inr m83) (upc (.inr m51) (fun _ h=>.inl h)))) (H12.up (G243.trans (Fr.ext F251)) (fun _ h=>h) (upc (.inr m83) (upc (.inr m51) (fun _ h=>.inl h))))) (((hL.fr E253).cons (((((B102.ex F103).ex F113).ex F123).ex F184).ex F251).lt).cons (((((B95'.ex F103).ex F113).ex F123).ex F184).ex F251).lt) (refBelowA_ev d0 d1 ha264 ha265)) rfl rfl ?_
     rintro _ w263 ⟨F263,rfl⟩
     have E266:=E253.trans F263
     refine o_w (v:=.bool (belowA d0 d1)) (r_asg rfl) ?_
     refine eo_nil_sq ?_
     refine ec_seq ?_
     refine ec_region ?_
     refine o_w (v:=.agg (cArena d0 A1 c2 A4 c5).toArray) (r_lda agg_api_Arena rfl (vs:=(cArena d0 A1 c2 A4 c5)) rfl ((S13.fr ((G244.trans (Fr.ext F251)).trans (Fr.ext F263)) (fun _ h=>h)).now.part (n:=3) rfl)) ?_
     refine o_w (v:=.agg (cArena d1 A7 c8 A10 c11).toArray) (r_lda agg_api_Arena rfl (vs:=(cArena d1 A7 c8 A10 c11)) rfl ((S15.fr ((G245.trans (Fr.ext F251)).trans (Fr.ext F263)) (fun _ h=>h)).now.part (n:=3) rfl)) ?_
     obtain ⟨ha277,h⟩:=h
     obtain ⟨ha278,h⟩:=h
     refine o_call cf_ref08_Alike rfl (ref08_Alike_c d0 (kArena_mk (d:=d0) (H3.up ((G243.trans (Fr.ext F251)).trans (Fr.ext F263)) (fun _ h=>h) (upc (.inr m83) (upc (.inr m51) (fun _ h=>.inl h)))) (H6.up ((G243.trans (Fr.ext F251)).trans (Fr.ext F263)) (fun _ h=>h) (upc (.inr m83) (upc (.inr m51) (fun _ h=>.inl h))))) d1 (kArena_mk (d:=d1) (H9.up ((G243.trans (Fr.ext F251)).trans (Fr.ext F263)) (fun _ h=>h) (upc (.inr m83) (upc (.inr m51) (fun _ h=>.inl h)))) (H12.up ((G243.trans (Fr.ext F251)).trans (Fr.ext F263)) (fun _ h=>h) (upc (.inr m83) (upc (.inr m51) (fun _ h=>.inl h))))) (((hL.fr E266).cons ((((((B102.ex F103).ex F113).ex F123).ex F184).ex F251).ex F263).lt).cons ((((((B95'.ex F103).ex F113).ex F123).ex F184).ex F251).ex F263).lt) (refAlike_ev d0 d1 ha277 ha278)) rfl rfl ?_
     rintro _ w276 ⟨F276,rfl⟩
     have E279:=E266.trans F276
     have G280:=((G243.trans (Fr.ext F251)).trans (Fr.ext F263)).trans (Fr.ext F276)
     have G281:=((G244.trans (Fr.ext F251)).trans (Fr.ext F263)).trans (Fr.ext F276)
     have G282:=((G245.trans (Fr.ext F251)).trans (Fr.ext F263)).trans (Fr.ext F276)
     have B287:=((((((B102.ex F103).ex F113).ex F123).ex F184).ex F251).ex F263).ex F276
     have B288:=((((((B95'.ex F103).ex F113).ex F123).ex F184).ex F251).ex F263).ex F276
     refine o_w (v:=.bool (alikeA d0 d1)) (r_asg rfl) ?_
     refine eo_nil_sq ?_
     refine ec_seq ?_
     refine ec_region ?_
     refine o_w (v:=.agg (cArena d0 A1 c2 A4 c5).toArray) (r_lda agg_api_Arena rfl (vs:=(cArena d0 A1 c2 A4 c5)) rfl ((S13.fr G281 (fun _ h=>h)).now.part (n:=3) rfl)) ?_
     refine o_w (v:=.agg (cArena d1 A7 c8 A10 c11).toArray) (r_lda agg_api_Arena rfl (vs:=(cArena d1 A7 c8 A10 c11)) rfl ((S15.fr G282 (fun _ h=>h)).now.part (n:=3) rfl)) ?_
     obtain ⟨ha290,h⟩:=h
     refine o_call cf_ref08_Same rfl (ref08_Same_c d0 (kArena_mk (d:=d0) (H3.up G280 (fun _ h=>h) (upc (.inr m83) (upc (.inr m51) (fun _ h=>.inl h)))) (H6.up G280 (fun _ h=>h) (upc (.inr m83) (upc (.inr m51) (fun _ h=>.inl h))))) d1 (kArena_mk (d:=d1) (H9.up G280 (fun _ h=>h) (upc (.inr m83) (upc (.inr m51) (fun _ h=>.inl h)))) (H12.up G280 (fun _ h=>h) (upc (.inr m83) (upc (.inr m51) (fun _ h=>.inl h))))) (((hL.fr E279).cons B287.lt).cons B288.lt) (refSameA_ev d0 d1 ha290)) rfl rfl ?_
     rintro _ w289 ⟨F289,rfl⟩
     have E291:=E279.trans F289
     refine o_w (v:=.bool (sameA d0 d1)) (r_asg rfl) ?_
     refine eo_nil_sq ?_
     refine ec_seq ?_
     refine ec_region ?_
     iterate 2 refine o_w (v:=.bool (worksV)) (r_mov rfl) ?_
     refine o_v (v:=.bool (sameA x37.1 x66.1)) (r_mov rfl) (want_t (t:=85) rfl rfl (of_not hc24)) rfl rfl ?_
     refine o_w (v:=.bool (sameA x37.1 x66.1)) (r_pickT rfl (of_not hc24) rfl) ?_
     refine o_w (v:=.bool (sameA x37.1 x66.1)) (r_mov rfl) ?_
     refine o_vg (v:=.int .i64 x37.2) (want_ct (t:=88) rfl rfl) (fun hk=>(r_mov rfl)) rfl rfl ?_
     refine o_vg (v:=.int .i64 x66.2) (want_ct (t:=88) rfl rfl) (fun hk=>(r_mov rfl)) rfl rfl ?_
     refine o_vg (v:=.bool (x37.2==x66.2)) (want_ct (t:=88) rfl rfl) (fun hk=>(r_int (gdT hk) (gdT hk) rfl)) rfl rfl ?_
     refine o_w (v:=.bool ((sameA x37.1 x66.1)&&(x37.2==x66.2))) (r_pickAnd rfl (fun ht=>(gdT ht)) rfl) ?_
     refine o_w (v:=.bool ((sameA x37.1 x66.1)&&(x37.2==x66.2))) (r_mov rfl) ?_
     refine o_vg (v:=.agg (cArena d0 A1 c2 A4 c5).toArray) (want_ct (t:=93) rfl rfl) (fun hk=>(r_lda agg_api_Arena rfl (vs:=(cArena d0 A1 c2 A4 c5)) rfl ((S13.fr (G281.trans (Fr.ext F289)) (fun _ h=>h)).now.part (n:=3) rfl))) rfl rfl ?_
     obtain ⟨ha307,h⟩:=h
     refine o_callg (V:=.int .i64 (checkA d0)) cf_arena_Check (want_ct (t:=93) rfl rfl) (fun hk=>(mapv1 (gdT hk))) (fun hk=>(arena_Check_c d0 (kArena_mk (d:=d0) (H3.up (G280.trans (Fr.ext F289)) (fun _ h=>h) (upc (.inr m83) (upc (.inr m51) (fun _ h=>.inl h)))) (H6.up (G280.trans (Fr.ext F289)) (fun _ h=>h) (upc (.inr m83) (upc (.inr m51) (fun _ h=>.inl h))))) (((hL.fr E291).cons (B287.ex F289).lt).cons (B288.ex F289).lt) (arCheck_ev d0 (ha307 hk)))) rfl ?_
     intro w306 F306
     have E308:=E291.trans F306
     refine o_vg (v:=.bool ((checkA d0)==(0:Int))) (want_ct (t:=93) rfl rfl) (fun hk=>(r_int (gdT hk) rfl rfl)) rfl rfl ?_
     refine o_vg (v:=.bool (arOk d0)) (want_ct (t:=93) rfl rfl) (fun hk=>(r_mov rfl)) rfl rfl ?_
     refine o_vg (v:=.bool (((checkA d0)==(0:Int))==(arOk d0))) (want_ct (t:=93) rfl rfl) (fun hk=>(r_boolEq un_bool (gdT hk) (gdT hk))) rfl rfl ?_
     refine o_w (v:=.bool (((sameA x37.1 x66.1)&&(x37.2==x66.2))&&(((checkA d0)==(0:Int))==(arOk d0)))) (r_pickAnd rfl (fun ht=>(gdT ht)) rfl) ?_
     refine o_w (v:=.bool (((sameA x37.1 x66.1)&&(x37.2==x66.2))&&(((checkA d0)==(0:Int))==(arOk d0)))) (r_mov rfl) ?_
     refine o_vg (v:=.agg (cArena d0 A1 c2 A4 c5).toArray) (want_ct (t:=100) rfl rfl) (fun hk=>(r_lda agg_api_Arena rfl (vs:=(cArena d0 A1 c2 A4 c5)) rfl ((S13.fr ((G281.trans (Fr.ext F289)).trans (Fr.ext F306)) (fun _ h=>h)).now.part (n:=3) rfl))) rfl rfl ?_
     refine o_vg (v:=.int .i64 d2) (want_ct (t:=100) rfl rfl) (fun hk=>(r_mov rfl)) rfl rfl ?_
     refine o_vg (v:=str d4) (want_ct (t:=100) rfl rfl) (fun hk=>(r_mov rfl)) rfl rfl ?_
     obtain ⟨ha319,h⟩:=h
     refine o_callg (V:=.int .i64 (findA d0 d2 d4)) cf_arena_Find (want_ct (t:=100) rfl rfl) (fun hk=>(mapv3 (gdT hk) (gdT hk) (gdT hk))) (fun hk=>(arena_Find_c d0 (kArena_mk (d:=d0) (H3.up ((G280.trans (Fr.ext F289)).trans (Fr.ext F306)) (fun _ h=>h) (upc (.inr m83) (upc (.inr m51) (fun _ h=>.inl h)))) (H6.up ((G280.trans (Fr.ext F289)).trans (Fr.ext F306)) (fun _ h=>h) (upc (.inr m83) (upc (.inr m51) (fun _ h=>.inl h))))) d2 d4 (((hL.fr E308).cons ((B287.ex F289).ex F306).lt).cons ((B288.ex F289).ex F306).lt) (arFind_ev d0 d2 d4 (ha319 hk)))) rfl ?_
     intro w318 F318
     have E320:=E308.trans F318
     have G321:=((G280.trans (Fr.ext F289)).trans (Fr.ext F306)).trans (Fr.ext F318)
     have G322:=((G281.trans (Fr.ext F289)).trans (Fr.ext F306)).trans (Fr.ext F318)
     have G323:=((G282.trans (Fr.ext F289)).trans (Fr.ext F306)).trans (Fr.ext F318)
     refine o_vg (v:=.int .i64 (findA d0 d2 d4)) (want_ct (t:=100) rfl rfl) (fun hk=>(r_mov rfl)) rfl rfl ?_
     refine o_vg (v:=.bool ((findA d0 d2 d4)==(findA d0 d2 d4))) (want_ct (t:=100) rfl rfl) (fun hk=>(r_int (gdT hk) (gdT hk) rfl)) rfl rfl ?_
     refine o_w (v:=.bool ((((sameA x37.1 x66.1)&&(x37.2==x66.2))&&(((checkA d0)==(0:Int))==(arOk d0)))&&((findA d0 d2 d4)==(findA d0 d2 d4)))) (r_pickAnd rfl (fun ht=>(gdT ht)) rfl) ?_
     refine o_w (v:=.bool ((((sameA x37.1 x66.1)&&(x37.2==x66.2))&&(((checkA d0)==(0:Int))==(arOk d0)))&&((findA d0 d2 d4)==(findA d0 d2 d4)))) (r_mov rfl) ?_
     refine o_vg (v:=.bool (allE x124 x129)) (want_ct (t:=108) rfl rfl) (fun hk=>(r_mov rfl)) rfl rfl ?_
     refine o_w (v:=.bool (((((sameA x37.1 x66.1)&&(x37.2==x66.2))&&(((checkA d0)==(0:Int))==(arOk d0)))&&((findA d0 d2 d4)==(findA d0 d2 d4)))&&(allE x124 x129))) (r_pickAnd rfl (fun ht=>(gdT ht)) rfl) ?_
     refine o_w (v:=.bool (((((sameA x37.1 x66.1)&&(x37.2==x66.2))&&(((checkA d0)==(0:Int))==(arOk d0)))&&((findA d0 d2 d4)==(findA d0 d2 d4)))&&(allE x124 x129))) (r_mov rfl) ?_
     refine o_vg (v:=.bool (allE x185 x190)) (want_ct (t:=111) rfl rfl) (fun hk=>(r_mov rfl)) rfl rfl ?_
     refine o_w (v:=.bool ((((((sameA x37.1 x66.1)&&(x37.2==x66.2))&&(((checkA d0)==(0:Int))==(arOk d0)))&&((findA d0 d2 d4)==(findA d0 d2 d4)))&&(allE x124 x129))&&(allE x185 x190))) (r_pickAnd rfl (fun ht=>(gdT ht)) rfl) ?_
     refine o_w (v:=.bool ((((((sameA x37.1 x66.1)&&(x37.2==x66.2))&&(((checkA d0)==(0:Int))==(arOk d0)))&&((findA d0 d2 d4)==(findA d0 d2 d4)))&&(allE x124 x129))&&(allE x185 x190))) (r_mov rfl) ?_
     refine o_vg (v:=.agg (cArena d0 A1 c2 A4 c5).toArray) (want_ct (t:=114) rfl rfl) (fun hk=>(r_lda agg_api_Arena rfl (vs:=(cArena d0 A1 c2 A4 c5)) rfl ((S13.fr G322 (fun _ h=>h)).now.part (n:=3) rfl))) rfl rfl ?_
     refine o_vg (v:=.agg (cArena d1 A7 c8 A10 c11).toArray) (want_ct (t:=114) rfl rfl) (fun hk=>(r_lda agg_api_Arena rfl (vs:=(cArena d1 A7 c8 A10 c11)) rfl ((S15.fr G323 (fun _ h=>h)).now.part (n:=3) rfl))) rfl rfl ?_
     obtain ⟨ha331,h⟩:=h
     obtain ⟨ha332,h⟩:=h
     refine o_callg (V:=.bool (belowA d0 d1)) cf_arena_Below (want_ct (t:=114) rfl rfl) (fun hk=>(mapv2 (gdT hk) (gdT hk))) (fun hk=>(arena_Below_c d0 (kArena_mk (d:=d0) (H3.up G321 (fun _ h=>h) (upc (.inr m83) (upc (.inr m51) (fun _ h=>.inl h)))) (H6.up G321 (fun _ h=>h) (upc (.inr m83) (upc (.inr m51) (fun _ h=>.inl h))))) d1 (kArena_mk (d:=d1) (H9.up G321 (fun _ h=>h) (upc (.inr m83) (upc (.inr m51) (fun _ h=>.inl h)))) (H12.up G321 (fun _ h=>h) (upc (.inr m83) (upc (.inr m51) (fun _ h=>.inl h))))) (((hL.fr E320).cons (((B287.ex F289).ex F306).ex F318).lt).cons (((B288.ex F289).ex F306).ex F318).lt) (arBelow_ev d0 d1 (ha331 hk) (ha332 hk)))) rfl ?_
     intro w330 F330
     have E333:=E320.trans F330
     refine o_vg (v:=.bool (belowA d0 d1)) (want_ct (t:=114) rfl rfl) (fun hk=>(r_mov rfl)) rfl rfl ?_
     refine o_vg (v:=.bool ((belowA d0 d1)==(belowA d0 d1))) (want_ct (t:=114) rfl rfl) (fun hk=>(r_boolEq un_bool (gdT hk) (gdT hk))) rfl rfl ?_
     refine o_w (v:=.bool (((((((sameA x37.1 x66.1)&&(x37.2==x66.2))&&(((checkA d0)==(0:Int))==(arOk d0)))&&((findA d0 d2 d4)==(findA d0 d2 d4)))&&(allE x124 x129))&&(allE x185 x190))&&((belowA d0 d1)==(belowA d0 d1)))) (r_pickAnd rfl (fun ht=>(gdT ht)) rfl) ?_
     refine o_w (v:=.bool (((((((sameA x37.1 x66.1)&&(x37.2==x66.2))&&(((checkA d0)==(0:Int))==(arOk d0)))&&((findA d0 d2 d4)==(findA d0 d2 d4)))&&(allE x124 x129))&&(allE x185 x190))&&((belowA d0 d1)==(belowA d0 d1)))) (r_mov rfl) ?_
     refine o_vg (v:=.agg (cArena d0 A1 c2 A4 c5).toArray) (want_ct (t:=121) rfl rfl) (fun hk=>(r_lda agg_api_Arena rfl (vs:=(cArena d0 A1 c2 A4 c5)) rfl ((S13.fr (G322.trans (Fr.ext F330)) (fun _ h=>h)).now.part (n:=3) rfl))) rfl rfl ?_
     refine o_vg (v:=.agg (cArena d1 A7 c8 A10 c11).toArray) (want_ct (t:=121) rfl rfl) (fun hk=>(r_lda agg_api_Arena rfl (vs:=(cArena d1 A7 c8 A10 c11)) rfl ((S15.fr (G323.trans (Fr.ext F330)) (fun _ h=>h)).now.part (n:=3) rfl))) rfl rfl ?_
     obtain ⟨ha344,h⟩:=h
     obtain ⟨ha345,h⟩:=h
     refine o_callg (V:=.bool (alikeA d0 d1)) cf_arena_Alike (want_ct (t:=121) rfl rfl) (fun hk=>(mapv2 (gdT hk) (gdT hk))) (fun hk=>(arena_Alike_c d0 (kArena_mk (d:=d0) (H3.up (G321.trans (Fr.ext F330)) (fun _ h=>h) (upc (.inr m83) (upc (.inr m51) (fun _ h=>.inl h)))) (H6.up (G321.trans (Fr.ext F330)) (fun _ h=>h) (upc (.inr m83) (upc (.inr m51) (fun _ h=>.inl h))))) d1 (kArena_mk (d:=d1) (H9.up (G321.trans (Fr.ext F330)) (fun _ h=>h) (upc (.inr m83) (upc (.inr m51) (fun _ h=>.inl h)))) (H12.up (G321.trans (Fr.ext F330)) (fun _ h=>h) (upc (.inr m83) (upc (.inr m51) (fun _ h=>.inl h))))) (((hL.fr E333).cons ((((B287.ex F289).ex F306).ex F318).ex F330).lt).cons ((((B288.ex F289).ex F306).ex F318).ex F330).lt) (arAlike_ev d0 d1 (ha344 hk) (ha345 hk)))) rfl ?_
     intro w343 F343
     have E346:=E333.trans F343
     refine o_vg (v:=.bool (alikeA d0 d1)) (want_ct (t:=121) rfl rfl) (fun hk=>(r_mov rfl)) rfl rfl ?_
     refine o_vg (v:=.bool ((alikeA d0 d1)==(alikeA d0 d1))) (want_ct (t:=121) rfl rfl) (fun hk=>(r_boolEq un_bool (gdT hk) (gdT hk))) rfl rfl ?_
     refine o_w (v:=.bool ((((((((sameA x37.1 x66.1)&&(x37.2==x66.2))&&(((checkA d0)==(0:Int))==(arOk d0)))&&((findA d0 d2 d4)==(findA d0 d2 d4)))&&(allE x124 x129))&&(allE x185 x190))&&((belowA d0 d1)==(belowA d0 d1)))&&((alikeA d0 d1)==(alikeA d0 d1)))) (r_pickAnd rfl (fun ht=>(gdT ht)) rfl) ?_
     refine o_w (v:=.bool ((((((((sameA x37.1 x66.1)&&(x37.2==x66.2))&&(((checkA d0)==(0:Int))==(arOk d0)))&&((findA d0 d2 d4)==(findA d0 d2 d4)))&&(allE x124 x129))&&(allE x185 x190))&&((belowA d0 d1)==(belowA d0 d1)))&&((alikeA d0 d1)==(alikeA d0 d1)))) (r_mov rfl) ?_
     refine o_vg (v:=.agg (cArena d0 A1 c2 A4 c5).toArray) (want_ct (t:=128) rfl rfl) (fun hk=>(r_lda agg_api_Arena rfl (vs:=(cArena d0 A1 c2 A4 c5)) rfl ((S13.fr ((G322.trans (Fr.ext F330)).trans (Fr.ext F343)) (fun _ h=>h)).now.part (n:=3) rfl))) rfl rfl ?_
     refine o_vg (v:=.agg (cArena d1 A7 c8 A10 c11).toArray) (want_ct (t:=128) rfl rfl) (fun hk=>(r_lda agg_api_Arena rfl (vs:=(cArena d1 A7 c8 A10 c11)) rfl ((S15.fr ((G323.trans (Fr.ext F330)).trans (Fr.ext F343)) (fun _ h=>h)).now.part (n:=3) rfl))) rfl rfl ?_
     obtain ⟨ha357,h⟩:=h
     refine o_callg (V:=.bool (sameA d0 d1)) cf_arena_Same (want_ct (t:=128) rfl rfl) (fun hk=>(mapv2 (gdT hk) (gdT hk))) (fun hk=>(arena_Same_c d0 (kArena_mk (d:=d0) (H3.up ((G321.trans (Fr.ext F330)).trans (Fr.ext F343)) (fun _ h=>h) (upc (.inr m83) (upc (.inr m51) (fun _ h=>.inl h)))) (H6.up ((G321.trans (Fr.ext F330)).trans (Fr.ext F343)) (fun _ h=>h) (upc (.inr m83) (upc (.inr m51) (fun _ h=>.inl h))))) d1 (kArena_mk (d:=d1) (H9.up ((G321.trans (Fr.ext F330)).trans (Fr.ext F343)) (fun _ h=>h) (upc (.inr m83) (upc (.inr m51) (fun _ h=>.inl h)))) (H12.up ((G321.trans (Fr.ext F330)).trans (Fr.ext F343)) (fun _ h=>h) (upc (.inr m83) (upc (.inr m51) (fun _ h=>.inl h))))) (((hL.fr E346).cons (((((B287.ex F289).ex F306).ex F318).ex F330).ex F343).lt).cons (((((B288.ex F289).ex F306).ex F318).ex F330).ex F343).lt) (arSame_ev d0 d1 (ha357 hk)))) rfl ?_
     intro w356 F356
     have E358:=E346.trans F356
     refine o_vg (v:=.bool (sameA d0 d1)) (want_ct (t:=128) rfl rfl) (fun hk=>(r_mov rfl)) rfl rfl ?_
     refine o_vg (v:=.bool ((sameA d0 d1)==(sameA d0 d1))) (want_ct (t:=128) rfl rfl) (fun hk=>(r_boolEq un_bool (gdT hk) (gdT hk))) rfl rfl ?_
     refine o_w (v:=.bool (((((((((sameA x37.1 x66.1)&&(x37.2==x66.2))&&(((checkA d0)==(0:Int))==(arOk d0)))&&((findA d0 d2 d4)==(findA d0 d2 d4)))&&(allE x124 x129))&&(allE x185 x190))&&((belowA d0 d1)==(belowA d0 d1)))&&((alikeA d0 d1)==(alikeA d0 d1)))&&((sameA d0 d1)==(sameA d0 d1)))) (r_pickAnd rfl (fun ht=>(gdT ht)) rfl) ?_
     refine o_w (v:=.bool (((((((((sameA x37.1 x66.1)&&(x37.2==x66.2))&&(((checkA d0)==(0:Int))==(arOk d0)))&&((findA d0 d2 d4)==(findA d0 d2 d4)))&&(allE x124 x129))&&(allE x185 x190))&&((belowA d0 d1)==(belowA d0 d1)))&&((alikeA d0 d1)==(alikeA d0 d1)))&&((sameA d0 d1)==(sameA d0 d1)))) (r_asg rfl) ?_
     refine eo_nil_sq ?_
     refine ec_ret ?_
     subst h
     exact (end1 rfl ⟨_,rfl,E358,rfl⟩)
end Go.Proofs.Ythifkdgljapmeaa
