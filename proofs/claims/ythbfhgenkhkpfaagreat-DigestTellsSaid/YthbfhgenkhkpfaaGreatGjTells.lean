/- The law DigestTells: what it comes to. -/
import Derived.Test.YthbfhgenkhkpfaaGreatMg
namespace Go.Proofs.YthbfhgenkhkpfaaGreat
open Go Go.RowKit
set_option linter.unusedVariables false
set_option linter.unusedSimpArgs false
def law10_DigestTells_raw (d0:Arena) (d1:Int) (d2:Str) (d3:(List Int)) (d4:(List Int)) (d5:Int) (d6:Int) (y:Bool):Prop :=
 ((!(worksV))=true→(y=false))∧((!(worksV))=false→((((!(fewA d0))||(decide (100<(d2.length:Int))))=true→(y=(worksV)))∧(((!(fewA d0))||(decide (100<(d2.length:Int))))=false→((d2.length≤1000000)∧((sma d0)∧((wfl d0.slots)∧(∃ x39,x39=(sumsD d0)∧(sma d0∧(∃ x72,x72=(inD d0 d5 d6)∧(sma d0∧(∃ x77,x77=(inD d0 d5 d6)∧(sml x72∧((((bucketD d1 d2)==(bucketD d1 d2))=true→(d2.length≤1000000∧(sma d0∧(∃ x126,x126=(sumsD d0)∧(x126.length=4∧(y=(((((nth x126 0)==(nth x39 0))&&(((nth x126 1)==(nth x39 1))&&(((nth x126 2)==(nth x39 2))&&(((nth x126 3)==(nth x39 3))&&true))))&&((differD d3 d4)==(differD d3 d4)))&&(allE x72 x77))))))))∧(((bucketD d1 d2)==(bucketD d1 d2))=false→(d2.length≤1000000∧(y=false))))))))))))))))
set_option maxRecDepth 20000 in
set_option maxHeartbeats 4000000 in
theorem law10_DigestTells_c {L:List Nat} {w:World} {csP0:List Value} (d0:Arena) (HP0:Stb L w (fun w=>kArena.r w csP0 d0)) (d1:Int) (d2:Str) (d3:(List Int)) (hlP3:d3.length=4) (d4:(List Int)) (hlP4:d4.length=4) (d5:Int) (d6:Int) (hL:Lt L w) {y:Bool} (h:law10_DigestTells_raw d0 d1 d2 d3 d4 d5 d6 y) :
  Calls Tryz.prog 3 [.agg csP0.toArray,.int .i64 d1,str d2,(.agg #[.int .i64 (nth d3 0),.int .i64 (nth d3 1),.int .i64 (nth d3 2),.int .i64 (nth d3 3)]:Value),(.agg #[.int .i64 (nth d4 0),.int .i64 (nth d4 1),.int .i64 (nth d4 2),.int .i64 (nth d4 3)]:Value),.int .i64 d5,.int .i64 d6].toArray w (Ret fun v w'=>Ext w w'∧v=.bool y):=by
 obtain ⟨A1,c2,A4,c5,rfl,H3,H6⟩:=kArena_open HP0
 unfold law10_DigestTells_raw at h
 refine calls_ec Tryz.func3 rfl rfl rfl ?_
 refine ec_sr ?_
 refine o_box (cs:=(cArena d0 A1 c2 A4 c5)) rfl rfl rfl ?_
 intro b7 w7 e7 F7 B7
 have S7:=B7.stb (nin hL e7)
 have G8:Fr L w w7:=Fr.ext F7
 refine o_box (cs:=[.int .i64 (nth d3 0),.int .i64 (nth d3 1),.int .i64 (nth d3 2),.int .i64 (nth d3 3)]) rfl rfl rfl ?_
 intro b9 w9 e9 F9 B9
 have S9:=B9.stb (nin (hL.fr F7) e9)
 have E10:=F7.trans F9
 have G12:Fr L w7 w9:=Fr.ext F9
 refine o_box (cs:=[.int .i64 (nth d4 0),.int .i64 (nth d4 1),.int .i64 (nth d4 2),.int .i64 (nth d4 3)]) rfl rfl rfl ?_
 intro b13 w13 e13 F13 B13
 have S13:=B13.stb (nin (hL.fr E10) e13)
 have E14:=E10.trans F13
 have G17:Fr L w9 w13:=Fr.ext F13
 refine o_w (v:=.bool false) (r_asg rfl) ?_
 refine eo_r ?_
 refine o_call cf_law10_works rfl (law10_works_c (hL.fr E14) (works10_ev)) rfl rfl ?_
 rintro _ w18 ⟨F18,rfl⟩
 have E19:=E14.trans F18
 have G23:Fr L w13 w18:=Fr.ext F18
 refine o_w (v:=.bool (worksV)) (r_asg rfl) ?_
 refine eo_nil_sq ?_
 refine ec_seq ?_
 refine ec_sr ?_
 refine o_w (v:=.bool (worksV)) (r_mov rfl) ?_
 refine o_w (v:=.bool (!(worksV))) (r_not rfl) ?_
 refine eo_nil_sq ?_
 refine ec_cond rfl (fun hc24=>?_) (fun hc24=>?_)
 ·replace h:=h.1 hc24
  refine ec_sr ?_
  refine o_w (v:=.bool false) (r_asg rfl) ?_
  refine eo_nil_sq ?_
  refine ec_ret ?_
  refine sq_ret ?_
  subst h
  exact (end1 rfl ⟨_,rfl,E19,rfl⟩)
 ·replace h:=h.2 hc24
  refine ec_skip ?_
  refine sq_n ?_
  refine ec_sr ?_
  refine o_w (v:=.agg (cArena d0 A1 c2 A4 c5).toArray) (r_lda agg_api_Arena rfl (vs:=(cArena d0 A1 c2 A4 c5)) rfl ((S7.fr ((G12.trans (Fr.ext F13)).trans (Fr.ext F18)) sI).now.part (n:=3) rfl)) ?_
  refine o_call cf_law08_Few rfl (law08_Few_c d0 (kArena_mk (d:=d0) (H3.fr (((G8.trans (Fr.ext F9)).trans (Fr.ext F13)).trans (Fr.ext F18)) sI) (H6.fr (((G8.trans (Fr.ext F9)).trans (Fr.ext F13)).trans (Fr.ext F18)) sI)) (hL.fr E19) (fewA_ev d0)) rfl rfl ?_
  rintro _ w25 ⟨F25,rfl⟩
  have E26:=E19.trans F25
  have G27:=(((G8.trans (Fr.ext F9)).trans (Fr.ext F13)).trans (Fr.ext F18)).trans (Fr.ext F25)
  refine o_w (v:=.bool (fewA d0)) (r_asg rfl) ?_
  refine eo_nil_sq ?_
  refine ec_seq ?_
  refine ec_sr ?_
  refine o_w (v:=.bool (fewA d0)) (r_mov rfl) ?_
  refine o_w (v:=.bool (!(fewA d0))) (r_not rfl) ?_
  refine o_w (v:=.bool (!(fewA d0))) (r_mov rfl) ?_
  refine o_vg (v:=str d2) (want_cf (t:=28) rfl rfl) (fun hk=>(r_mov rfl)) rfl rfl ?_
  refine o_vg (v:=.int .i64 (d2.length:Int)) (want_cf (t:=28) rfl rfl) (fun hk=>(r_len_str un_string (gdT (u:=undef) hk))) rfl rfl ?_
  refine o_vg (v:=.bool (decide (100<(d2.length:Int)))) (want_cf (t:=28) rfl rfl) (fun hk=>(r_int (gdT (u:=undef) hk) rfl rfl)) rfl rfl ?_
  refine o_w (v:=.bool ((!(fewA d0))||(decide (100<(d2.length:Int))))) (r_pickOr rfl rfl (fun hf=>(gdT (u:=undef) (notT hf)))) ?_
  refine eo_nil_sq ?_
  refine ec_cond rfl (fun hc31=>?_) (fun hc31=>?_)
  ·replace h:=h.1 hc31
   refine ec_sr ?_
   refine o_w (v:=.bool (worksV)) (r_mov rfl) ?_
   refine o_w (v:=.bool (worksV)) (r_asg rfl) ?_
   refine eo_nil_sq ?_
   refine ec_ret ?_
   refine sq_ret ?_
   subst h
   exact (end1 rfl ⟨_,rfl,E26,rfl⟩)
  ·replace h:=h.2 hc31
   refine ec_skip ?_
   refine sq_n ?_
   refine ec_sr ?_
   refine o_w (v:=.int .i64 d1) (r_mov rfl) ?_
   refine o_w (v:=str d2) (r_mov rfl) ?_
   obtain ⟨ha33,h⟩:=h
   refine o_call cf_ref10_Bucket rfl (ref10_Bucket_c d1 d2 (hL.fr E26) (refBucket_ev d1 d2 ha33)) rfl rfl ?_
   rintro _ w32 ⟨F32,rfl⟩
   have E34:=E26.trans F32
   have G36:=(((G12.trans (Fr.ext F13)).trans (Fr.ext F18)).trans (Fr.ext F25)).trans (Fr.ext F32)
   refine o_w (v:=.int .i64 (bucketD d1 d2)) (r_asg rfl) ?_
   refine eo_r ?_
   refine o_w (v:=.agg (cArena d0 A1 c2 A4 c5).toArray) (r_lda agg_api_Arena rfl (vs:=(cArena d0 A1 c2 A4 c5)) rfl ((S7.fr G36 sI).now.part (n:=3) rfl)) ?_
   obtain ⟨ha40,h⟩:=h
   obtain ⟨ha41,h⟩:=h
   obtain ⟨x39,hx39,h⟩:=h
   refine o_call cf_ref10_Sums rfl (ref10_Sums_c d0 (kArena_mk (d:=d0) (H3.fr (G27.trans (Fr.ext F32)) sI) (H6.fr (G27.trans (Fr.ext F32)) sI)) (hL.fr E34) (eq_ev hx39 (refSums_ev d0 ha40 ha41))) rfl rfl ?_
   rintro _ w39 ⟨F39,rfl,hl42⟩
   have E43:=E34.trans F39
   have G46:=(((G17.trans (Fr.ext F18)).trans (Fr.ext F25)).trans (Fr.ext F32)).trans (Fr.ext F39)
   refine o_alloc zero_4_int rfl rfl rfl ?_
   intro b48 w48 e48 F48 B48
   have n48:w.heap.size≤b48:=by rw [e48]; exact E43.size
   have m49:w.heap.size≤b48:=by rw [e48]; exact ((G27.trans (Fr.ext F32)).trans (Fr.ext F39)).size
   have m50:w7.heap.size≤b48:=by rw [e48]; exact (G36.trans (Fr.ext F39)).size
   have m51:w9.heap.size≤b48:=by rw [e48]; exact G46.size
   have m52:w13.heap.size≤b48:=by rw [e48]; exact (((G23.trans (Fr.ext F25)).trans (Fr.ext F32)).trans (Fr.ext F39)).size
   have E53:=E43.trans F48
   have G57:=(((G23.trans (Fr.ext F25)).trans (Fr.ext F32)).trans (Fr.ext F39)).trans (Fr.ext F48)
   refine o_store rfl B48 (vs:=[.int .i64 (nth x39 0),.int .i64 (nth x39 1),.int .i64 (nth x39 2),.int .i64 (nth x39 3)]) rfl sz_4_int rfl rfl rfl ?_
   intro w58 F58 B58
   have E59:=Ext.st E53 F58 (by simp; omega)
   have G60:Fr L w w58:=(((G27.trans (Fr.ext F32)).trans (Fr.ext F39)).trans (Fr.ext F48)).stp F58 (upc (.inr m49) (fun m hm=>by cases hm))
   have G61:Fr L w7 w58:=((G36.trans (Fr.ext F39)).trans (Fr.ext F48)).stp F58 (upc (.inr m50) (fun m hm=>by cases hm))
   have G62:Fr L w9 w58:=(G46.trans (Fr.ext F48)).stp F58 (upc (.inr m51) (fun m hm=>by cases hm))
   have G63:Fr L w13 w58:=G57.stp F58 (upc (.inr m52) (fun m hm=>by cases hm))
   have B58':Blk w58 b48 _ [.int .i64 (nth x39 0),.int .i64 (nth x39 1),.int .i64 (nth x39 2),.int .i64 (nth x39 3)]:=B58
   refine eo_r ?_
   refine o_w (v:=.agg #[.int .i64 (nth d3 0),.int .i64 (nth d3 1),.int .i64 (nth d3 2),.int .i64 (nth d3 3)]) (r_lda agg_4_int rfl (vs:=[.int .i64 (nth d3 0),.int .i64 (nth d3 1),.int .i64 (nth d3 2),.int .i64 (nth d3 3)]) rfl ((S9.fr G62 sI).now.part (n:=4) rfl)) ?_
   refine o_w (v:=.agg #[.int .i64 (nth d4 0),.int .i64 (nth d4 1),.int .i64 (nth d4 2),.int .i64 (nth d4 3)]) (r_lda agg_4_int rfl (vs:=[.int .i64 (nth d4 0),.int .i64 (nth d4 1),.int .i64 (nth d4 2),.int .i64 (nth d4 3)]) rfl ((S13.fr G63 sI).now.part (n:=4) rfl)) ?_
   refine o_call cf_ref10_Differ rfl (ref10_Differ_c d3 hlP3 d4 hlP4 ((hL.fr E59).cons B58'.lt) (refDiffer_ev d3 d4)) rfl rfl ?_
   rintro _ w64 ⟨F64,rfl⟩
   have E65:=E59.trans F64
   refine o_w (v:=.int .i64 (differD d3 d4)) (r_asg rfl) ?_
   refine eo_nil_sq ?_
   refine ec_seq ?_
   obtain ⟨ha73,h⟩:=h
   obtain ⟨x72,hx72,h⟩:=h
   obtain ⟨ha78,h⟩:=h
   obtain ⟨x77,hx77,h⟩:=h
   obtain ⟨ha83,h⟩:=h
   refine ec_any0 (by kernel_rfl) [[],[],[],[0,1,2],[],[],[],[0,1,2,3,4,5,6],[0,1,2,3,4,5,6,7],[0,1,2,3,4,5,6,7,8]] [20,42,43,44,45,46,47,48,49,50] [fun v _=>v=(.agg (cArena d0 A1 c2 A4 c5).toArray:Value),fun v _=>v=(.int .i64 d5:Value),fun v _=>v=(.int .i64 d6:Value),fun v w'=>∃ A74 c75,v=(.slice A74 x72.length c75:Value)∧Stb (b48::L) w' (fun w=>SlC kEnt w A74 c75 x72),fun v _=>v=(.agg (cArena d0 A1 c2 A4 c5).toArray:Value),fun v _=>v=(.int .i64 d5:Value),fun v _=>v=(.int .i64 d6:Value),fun v w'=>∃ A79 c80,v=(.slice A79 x77.length c80:Value)∧Stb (b48::L) w' (fun w=>SlC kEnt w A79 c80 x77),fun v _=>v=(.bool (allE x72 x77):Value),fun v _=>v=(.bool (allE x72 x77):Value)] (by kernel_rfl) ⟨fun _ _ _ _ _ h=>h,fun _ _ _ _ _ h=>h,fun _ _ _ _ _ h=>h,fun _ v w' w'' F h=>by obtain ⟨A74,c75,hv,H76⟩:=h; exact ⟨A74,c75,hv,(H76.ex F)⟩,fun _ _ _ _ _ h=>h,fun _ _ _ _ _ h=>h,fun _ _ _ _ _ h=>h,fun _ v w' w'' F h=>by obtain ⟨A79,c80,hv,H81⟩:=h; exact ⟨A79,c80,hv,(H81.ex F)⟩,fun _ _ _ _ _ h=>h,fun _ _ _ _ _ h=>h,trivial⟩ ?_ ?_
   ·refine ⟨?_,?_,?_,?_,?_,?_,?_,?_,?_,?_,trivial⟩
    ·intro ρ w71o F71o hS hρ
     have q7:ρ 7=.pointer (some ⟨b7,0,none⟩):=hρ 7 (by kernel_rfl)
     exact o_q (r_lda agg_api_Arena q7 (vs:=(cArena d0 A1 c2 A4 c5)) rfl ((S7.fr ((G61.trans (Fr.ext F64)).trans (Fr.ext F71o)) sI).now.part (n:=3) rfl)) ⟨Fr.refl _ _,rfl⟩
    ·intro ρ w71o F71o hS hρ
     have q5:ρ 5=.int .i64 d5:=hρ 5 (by kernel_rfl)
     exact o_q (r_mov q5) ⟨Fr.refl _ _,rfl⟩
    ·intro ρ w71o F71o hS hρ
     have q6:ρ 6=.int .i64 d6:=hρ 6 (by kernel_rfl)
     exact o_q (r_mov q6) ⟨Fr.refl _ _,rfl⟩
    ·intro ρ w71o F71o hS hρ
     have E90:=E65.trans F71o
     have q42:ρ 42=.agg (cArena d0 A1 c2 A4 c5).toArray:=hS 0 (by decide) 42 rfl
     have q43:ρ 43=.int .i64 d5:=hS 1 (by decide) 43 rfl
     have q44:ρ 44=.int .i64 d6:=hS 2 (by decide) 44 rfl
     refine o_call cf_digest_In (by simp only [List.map,ev,q42,q43,q44] <;> rfl) (digest_In_c d0 (kArena_mk (d:=d0) (H3.up ((G60.trans (Fr.ext F64)).trans (Fr.ext F71o)) sI (upc (.inr m49) (fun _ h=>.inl h))) (H6.up ((G60.trans (Fr.ext F64)).trans (Fr.ext F71o)) sI (upc (.inr m49) (fun _ h=>.inl h)))) d5 d6 ((hL.fr E90).cons ((B58'.ex F64).ex F71o).lt) (eq_ev hx72 (digIn_ev d0 d5 d6 ha73))) rfl rfl ?_
     rintro _ w' ⟨F,A74,c75,rfl,H76⟩
     exact eo_nil ⟨rfl,rfl,_,rfl,F,⟨A74,c75,rfl,H76⟩⟩
    ·intro ρ w71o F71o hS hρ
     have q7:ρ 7=.pointer (some ⟨b7,0,none⟩):=hρ 7 (by kernel_rfl)
     exact o_q (r_lda agg_api_Arena q7 (vs:=(cArena d0 A1 c2 A4 c5)) rfl ((S7.fr ((G61.trans (Fr.ext F64)).trans (Fr.ext F71o)) sI).now.part (n:=3) rfl)) ⟨Fr.refl _ _,rfl⟩
    ·intro ρ w71o F71o hS hρ
     have q5:ρ 5=.int .i64 d5:=hρ 5 (by kernel_rfl)
     exact o_q (r_mov q5) ⟨Fr.refl _ _,rfl⟩
    ·intro ρ w71o F71o hS hρ
     have q6:ρ 6=.int .i64 d6:=hρ 6 (by kernel_rfl)
     exact o_q (r_mov q6) ⟨Fr.refl _ _,rfl⟩
    ·intro ρ w71o F71o hS hρ
     have E102:=E65.trans F71o
     have q46:ρ 46=.agg (cArena d0 A1 c2 A4 c5).toArray:=hS 4 (by decide) 46 rfl
     have q47:ρ 47=.int .i64 d5:=hS 5 (by decide) 47 rfl
     have q48:ρ 48=.int .i64 d6:=hS 6 (by decide) 48 rfl
     refine o_call cf_ref10_In (by simp only [List.map,ev,q46,q47,q48] <;> rfl) (ref10_In_c d0 (kArena_mk (d:=d0) (H3.up ((G60.trans (Fr.ext F64)).trans (Fr.ext F71o)) sI (upc (.inr m49) (fun _ h=>.inl h))) (H6.up ((G60.trans (Fr.ext F64)).trans (Fr.ext F71o)) sI (upc (.inr m49) (fun _ h=>.inl h)))) d5 d6 ((hL.fr E102).cons ((B58'.ex F64).ex F71o).lt) (eq_ev hx77 (refIn_ev d0 d5 d6 ha78))) rfl rfl ?_
     rintro _ w' ⟨F,A79,c80,rfl,H81⟩
     exact eo_nil ⟨rfl,rfl,_,rfl,F,⟨A79,c80,rfl,H81⟩⟩
    ·intro ρ w71o F71o hS hρ
     have E108:=E65.trans F71o
     obtain ⟨A74,c75,q45,H76⟩:=hS 3 (by decide) 45 rfl
     obtain ⟨A79,c80,q49,H81⟩:=hS 7 (by decide) 49 rfl
     refine o_call cf_ref07_All (by simp only [List.map,ev,q45,q49] <;> rfl) (ref07_All_c x72 H76 x77 H81 ((hL.fr E108).cons ((B58'.ex F64).ex F71o).lt) (refAll_ev x72 x77 ha83)) rfl rfl ?_
     rintro _ w' ⟨F,rfl⟩
     exact eo_nil ⟨rfl,rfl,_,rfl,F,rfl⟩
    ·intro ρ w71o F71o hS hρ
     have q50:ρ 50=.bool (allE x72 x77):=hS 8 (by decide) 50 rfl
     exact o_q (r_asg q50) ⟨Fr.refl _ _,rfl⟩
   ·intro ρ w71 F71 hS hρ
    have q20:ρ 20=.bool (allE x72 x77):=hS 9 20 rfl
    obtain ⟨ρ',rfl⟩:∃ ρ',ρ=envs (ovr [20,42,43,44,45,46,47,48,49,50] ρ' _) [(20,.bool (allE x72 x77))]:=⟨ρ,ovr_self hρ ⟨q20,trivial⟩⟩
    have E114:=E65.trans F71
    refine sq_n ?_
    refine ec_seq ?_
    rcases Bool.eq_false_or_eq_true ((bucketD d1 d2)==(bucketD d1 d2)) with hc120 | hc120
    ·replace h:=h.1 hc120
     obtain ⟨ha125,h⟩:=h
     obtain ⟨ha127,h⟩:=h
     obtain ⟨x126,hx126,h⟩:=h
     obtain ⟨ha128,h⟩:=h
     refine ec_any0 (by kernel_rfl) [[],[0],[0,1],[0,1],[0,1,2,3],[0,1],[0,1,2,3,4,5],[0,1,2,3,4,5,6],[0,1,2,3,4,5,6,7],[0,1,2,3,4,5,6,7,8],[0,1,2,3,4,5,6,7,8,9],[0,1,2,3,4,5,6,7,8],[0,1,2,3,4,5,6,7,8,9,10,11],[0,1,2,3,4,5,6,7,8,9,10,11,12],[0,1,2,3,4,5,6,7,8,9,10,11,12,13],[0,1,2,3,4,5,6,7,8,9,10,11,12,13,14],[0,1,2,3,4,5,6,7,8,9,10,11,12,13,14],[0,1,2,3,4,5,6,7,8,9,10,11,12,13,14,15,16],[0,1,2,3,4,5,6,7,8,9,10,11,12,13,14],[0,1,2,3,4,5,6,7,8,9,10,11,12,13,14,15,16,17,18],[0,1,2,3,4,5,6,7,8,9,10,11,12,13,14,15,16,17,18,19],[0,1,2,3,4,5,6,7,8,9,10,11,12,13,14,15,16,17,18,19,20],[0,1,2,3,4,5,6,7,8,9,10,11,12,13,14,15,16,17,18,19,20,21],[0,1,2,3,4,5,6,7,8,9,10,11,12,13,14,15,16,17,18,19,20,21,22],[0,1,2,3,4,5,6,7,8,9,10,11,12,13,14,15,16,17,18,19,20,21,22,23]] [14,51,52,53,54,55,56,57,58,59,60,61,62,63,64,65,66,67,68,69,70,71,72,73,74] [fun v _=>v=(.bool (worksV):Value),fun v _=>v=(.bool (worksV):Value),fun v _=>v=(.int .i64 d1:Value),fun v _=>v=(str d2:Value),fun v _=>v=(.int .i64 (bucketD d1 d2):Value),fun v _=>v=(.int .i64 (bucketD d1 d2):Value),fun v _=>v=(.bool ((bucketD d1 d2)==(bucketD d1 d2)):Value),fun v _=>v=(.bool ((bucketD d1 d2)==(bucketD d1 d2)):Value),fun v _=>v=(.bool ((bucketD d1 d2)==(bucketD d1 d2)):Value),fun v _=>v=(.agg (cArena d0 A1 c2 A4 c5).toArray:Value),fun v _=>v=(.agg #[.int .i64 (nth x126 0),.int .i64 (nth x126 1),.int .i64 (nth x126 2),.int .i64 (nth x126 3)]:Value),fun v _=>v=(.agg #[.int .i64 (nth x39 0),.int .i64 (nth x39 1),.int .i64 (nth x39 2),.int .i64 (nth x39 3)]:Value),fun v _=>v=(.bool (((nth x126 0)==(nth x39 0))&&(((nth x126 1)==(nth x39 1))&&(((nth x126 2)==(nth x39 2))&&(((nth x126 3)==(nth x39 3))&&true)))):Value),fun v _=>v=(.bool (((nth x126 0)==(nth x39 0))&&(((nth x126 1)==(nth x39 1))&&(((nth x126 2)==(nth x39 2))&&(((nth x126 3)==(nth x39 3))&&true)))):Value),fun v _=>v=(.bool (((nth x126 0)==(nth x39 0))&&(((nth x126 1)==(nth x39 1))&&(((nth x126 2)==(nth x39 2))&&(((nth x126 3)==(nth x39 3))&&true)))):Value),fun v _=>v=((bif (((nth x126 0)==(nth x39 0))&&(((nth x126 1)==(nth x39 1))&&(((nth x126 2)==(nth x39 2))&&(((nth x126 3)==(nth x39 3))&&true)))) then (.agg #[.int .i64 (nth d3 0),.int .i64 (nth d3 1),.int .i64 (nth d3 2),.int .i64 (nth d3 3)]:Value) else undef):Value),fun v _=>v=((bif (((nth x126 0)==(nth x39 0))&&(((nth x126 1)==(nth x39 1))&&(((nth x126 2)==(nth x39 2))&&(((nth x126 3)==(nth x39 3))&&true)))) then (.agg #[.int .i64 (nth d4 0),.int .i64 (nth d4 1),.int .i64 (nth d4 2),.int .i64 (nth d4 3)]:Value) else undef):Value),fun v _=>v=((bif (((nth x126 0)==(nth x39 0))&&(((nth x126 1)==(nth x39 1))&&(((nth x126 2)==(nth x39 2))&&(((nth x126 3)==(nth x39 3))&&true)))) then (.int .i64 (differD d3 d4):Value) else undef):Value),fun v _=>v=((bif (((nth x126 0)==(nth x39 0))&&(((nth x126 1)==(nth x39 1))&&(((nth x126 2)==(nth x39 2))&&(((nth x126 3)==(nth x39 3))&&true)))) then (.int .i64 (differD d3 d4):Value) else undef):Value),fun v _=>v=((bif (((nth x126 0)==(nth x39 0))&&(((nth x126 1)==(nth x39 1))&&(((nth x126 2)==(nth x39 2))&&(((nth x126 3)==(nth x39 3))&&true)))) then (.bool ((differD d3 d4)==(differD d3 d4)):Value) else undef):Value),fun v _=>v=(.bool ((((nth x126 0)==(nth x39 0))&&(((nth x126 1)==(nth x39 1))&&(((nth x126 2)==(nth x39 2))&&(((nth x126 3)==(nth x39 3))&&true))))&&((differD d3 d4)==(differD d3 d4))):Value),fun v _=>v=(.bool ((((nth x126 0)==(nth x39 0))&&(((nth x126 1)==(nth x39 1))&&(((nth x126 2)==(nth x39 2))&&(((nth x126 3)==(nth x39 3))&&true))))&&((differD d3 d4)==(differD d3 d4))):Value),fun v _=>v=((bif ((((nth x126 0)==(nth x39 0))&&(((nth x126 1)==(nth x39 1))&&(((nth x126 2)==(nth x39 2))&&(((nth x126 3)==(nth x39 3))&&true))))&&((differD d3 d4)==(differD d3 d4))) then (.bool (allE x72 x77):Value) else undef):Value),fun v _=>v=(.bool (((((nth x126 0)==(nth x39 0))&&(((nth x126 1)==(nth x39 1))&&(((nth x126 2)==(nth x39 2))&&(((nth x126 3)==(nth x39 3))&&true))))&&((differD d3 d4)==(differD d3 d4)))&&(allE x72 x77)):Value),fun v _=>v=(.bool (((((nth x126 0)==(nth x39 0))&&(((nth x126 1)==(nth x39 1))&&(((nth x126 2)==(nth x39 2))&&(((nth x126 3)==(nth x39 3))&&true))))&&((differD d3 d4)==(differD d3 d4)))&&(allE x72 x77)):Value)] (by kernel_rfl) ⟨fun _ _ _ _ _ h=>h,fun _ _ _ _ _ h=>h,fun _ _ _ _ _ h=>h,fun _ _ _ _ _ h=>h,fun _ _ _ _ _ h=>h,fun _ _ _ _ _ h=>h,fun _ _ _ _ _ h=>h,fun _ _ _ _ _ h=>h,fun _ _ _ _ _ h=>h,fun _ _ _ _ _ h=>h,fun _ _ _ _ _ h=>h,fun _ _ _ _ _ h=>h,fun _ _ _ _ _ h=>h,fun _ _ _ _ _ h=>h,fun _ _ _ _ _ h=>h,fun _ _ _ _ _ h=>h,fun _ _ _ _ _ h=>h,fun _ _ _ _ _ h=>h,fun _ _ _ _ _ h=>h,fun _ _ _ _ _ h=>h,fun _ _ _ _ _ h=>h,fun _ _ _ _ _ h=>h,fun _ _ _ _ _ h=>h,fun _ _ _ _ _ h=>h,fun _ _ _ _ _ h=>h,trivial⟩ ?_ ?_
     ·refine ⟨?_,?_,?_,?_,?_,?_,?_,?_,?_,?_,?_,?_,?_,?_,?_,?_,?_,?_,?_,?_,?_,?_,?_,?_,?_,trivial⟩
      ·intro ρ w123o F123o hS hρ
       have q15:ρ 15=.bool (worksV):=hρ 15 (by kernel_rfl)
       exact o_q (r_mov q15) ⟨Fr.refl _ _,rfl⟩
      ·intro ρ w123o F123o hS hρ
       have q51:ρ 51=.bool (worksV):=hS 0 (by decide) 51 rfl
       exact o_q (r_mov q51) ⟨Fr.refl _ _,rfl⟩
      ·intro ρ w123o F123o hS hρ
       have q1:ρ 1=.int .i64 d1:=hρ 1 (by kernel_rfl)
       have q52:ρ 52=.bool (worksV):=hS 1 (by decide) 52 rfl
       exact o_v (r_mov q1) (want_t (t:=52) rfl q52 (of_not hc24)) rfl rfl (eo_nil ⟨rfl,rfl,_,rfl,Fr.refl _ _,rfl⟩)
      ·intro ρ w123o F123o hS hρ
       have q2:ρ 2=str d2:=hρ 2 (by kernel_rfl)
       have q52:ρ 52=.bool (worksV):=hS 1 (by decide) 52 rfl
       exact o_v (r_mov q2) (want_t (t:=52) rfl q52 (of_not hc24)) rfl rfl (eo_nil ⟨rfl,rfl,_,rfl,Fr.refl _ _,rfl⟩)
      ·intro ρ w123o F123o hS hρ
       have E130:=E114.trans F123o
       have q52:ρ 52=.bool (worksV):=hS 1 (by decide) 52 rfl
       have q53:ρ 53=.int .i64 d1:=hS 2 (by decide) 53 rfl
       have q54:ρ 54=str d2:=hS 3 (by decide) 54 rfl
       refine o_call cf_digest_Bucket (by simp only [List.map,ev,q53,q54] <;> rfl) (digest_Bucket_c d1 d2 ((hL.fr E130).cons (((B58'.ex F64).ex F71).ex F123o).lt) (digBucket_ev d1 d2 ha125)) (want_t (t:=52) rfl q52 (of_not hc24)) rfl ?_
       rintro _ w' ⟨F,rfl⟩
       exact eo_nil ⟨rfl,rfl,_,rfl,F,rfl⟩
      ·intro ρ w123o F123o hS hρ
       have q17:ρ 17=.int .i64 (bucketD d1 d2):=hρ 17 (by kernel_rfl)
       have q52:ρ 52=.bool (worksV):=hS 1 (by decide) 52 rfl
       exact o_v (r_mov q17) (want_t (t:=52) rfl q52 (of_not hc24)) rfl rfl (eo_nil ⟨rfl,rfl,_,rfl,Fr.refl _ _,rfl⟩)
      ·intro ρ w123o F123o hS hρ
       have q52:ρ 52=.bool (worksV):=hS 1 (by decide) 52 rfl
       have q55:ρ 55=.int .i64 (bucketD d1 d2):=hS 4 (by decide) 55 rfl
       have q56:ρ 56=.int .i64 (bucketD d1 d2):=hS 5 (by decide) 56 rfl
       exact o_v (r_int q55 q56 rfl) (want_t (t:=52) rfl q52 (of_not hc24)) rfl rfl (eo_nil ⟨rfl,rfl,_,rfl,Fr.refl _ _,rfl⟩)
      ·intro ρ w123o F123o hS hρ
       have q52:ρ 52=.bool (worksV):=hS 1 (by decide) 52 rfl
       have q57:ρ 57=.bool ((bucketD d1 d2)==(bucketD d1 d2)):=hS 6 (by decide) 57 rfl
       exact o_q (r_pickT q52 (of_not hc24) q57) ⟨Fr.refl _ _,rfl⟩
      ·intro ρ w123o F123o hS hρ
       have q58:ρ 58=.bool ((bucketD d1 d2)==(bucketD d1 d2)):=hS 7 (by decide) 58 rfl
       exact o_q (r_mov q58) ⟨Fr.refl _ _,rfl⟩
      ·intro ρ w123o F123o hS hρ
       have q7:ρ 7=.pointer (some ⟨b7,0,none⟩):=hρ 7 (by kernel_rfl)
       have q59:ρ 59=.bool ((bucketD d1 d2)==(bucketD d1 d2)):=hS 8 (by decide) 59 rfl
       exact o_v (r_lda agg_api_Arena q7 (vs:=(cArena d0 A1 c2 A4 c5)) rfl ((S7.fr (((G61.trans (Fr.ext F64)).trans (Fr.ext F71)).trans (Fr.ext F123o)) sI).now.part (n:=3) rfl)) (want_t (t:=59) rfl q59 hc120) rfl rfl (eo_nil ⟨rfl,rfl,_,rfl,Fr.refl _ _,rfl⟩)
      ·intro ρ w123o F123o hS hρ
       have E144:=E114.trans F123o
       have q59:ρ 59=.bool ((bucketD d1 d2)==(bucketD d1 d2)):=hS 8 (by decide) 59 rfl
       have q60:ρ 60=.agg (cArena d0 A1 c2 A4 c5).toArray:=hS 9 (by decide) 60 rfl
       refine o_call cf_digest_Sums (by simp only [List.map,ev,q60] <;> rfl) (digest_Sums_c d0 (kArena_mk (d:=d0) (H3.up (((G60.trans (Fr.ext F64)).trans (Fr.ext F71)).trans (Fr.ext F123o)) sI (upc (.inr m49) (fun _ h=>.inl h))) (H6.up (((G60.trans (Fr.ext F64)).trans (Fr.ext F71)).trans (Fr.ext F123o)) sI (upc (.inr m49) (fun _ h=>.inl h)))) ((hL.fr E144).cons (((B58'.ex F64).ex F71).ex F123o).lt) (eq_ev hx126 (digSums_ev d0 ha127))) (want_t (t:=59) rfl q59 hc120) rfl ?_
       rintro _ w' ⟨F,rfl,_⟩
       exact eo_nil ⟨rfl,rfl,_,rfl,F,rfl⟩
      ·intro ρ w123o F123o hS hρ
       have q18:ρ 18=.pointer (some ⟨b48,0,none⟩):=hρ 18 (by kernel_rfl)
       have q59:ρ 59=.bool ((bucketD d1 d2)==(bucketD d1 d2)):=hS 8 (by decide) 59 rfl
       exact o_v (r_lda agg_4_int q18 (vs:=[.int .i64 (nth x39 0),.int .i64 (nth x39 1),.int .i64 (nth x39 2),.int .i64 (nth x39 3)]) rfl ((((B58'.ex F64).ex F71).ex F123o).part (n:=4) rfl)) (want_t (t:=59) rfl q59 hc120) rfl rfl (eo_nil ⟨rfl,rfl,_,rfl,Fr.refl _ _,rfl⟩)
      ·intro ρ w123o F123o hS hρ
       have q59:ρ 59=.bool ((bucketD d1 d2)==(bucketD d1 d2)):=hS 8 (by decide) 59 rfl
       have q61:ρ 61=.agg #[.int .i64 (nth x126 0),.int .i64 (nth x126 1),.int .i64 (nth x126 2),.int .i64 (nth x126 3)]:=hS 10 (by decide) 61 rfl
       have q62:ρ 62=.agg #[.int .i64 (nth x39 0),.int .i64 (nth x39 1),.int .i64 (nth x39 2),.int .i64 (nth x39 3)]:=hS 11 (by decide) 62 rfl
       exact o_v (r_eqSt eqg_4_int (eqs_4_int (nth x126 0) (nth x126 1) (nth x126 2) (nth x126 3) (nth x39 0) (nth x39 1) (nth x39 2) (nth x39 3)) q61 q62) (want_t (t:=59) rfl q59 hc120) rfl rfl (eo_nil ⟨rfl,rfl,_,rfl,Fr.refl _ _,rfl⟩)
      ·intro ρ w123o F123o hS hρ
       have q59:ρ 59=.bool ((bucketD d1 d2)==(bucketD d1 d2)):=hS 8 (by decide) 59 rfl
       have q63:ρ 63=.bool (((nth x126 0)==(nth x39 0))&&(((nth x126 1)==(nth x39 1))&&(((nth x126 2)==(nth x39 2))&&(((nth x126 3)==(nth x39 3))&&true)))):=hS 12 (by decide) 63 rfl
       exact o_q (r_pickT q59 hc120 q63) ⟨Fr.refl _ _,rfl⟩
      ·intro ρ w123o F123o hS hρ
       have q64:ρ 64=.bool (((nth x126 0)==(nth x39 0))&&(((nth x126 1)==(nth x39 1))&&(((nth x126 2)==(nth x39 2))&&(((nth x126 3)==(nth x39 3))&&true)))):=hS 13 (by decide) 64 rfl
       exact o_q (r_mov q64) ⟨Fr.refl _ _,rfl⟩
      ·intro ρ w123o F123o hS hρ
       have q10:ρ 10=.pointer (some ⟨b9,0,none⟩):=hρ 10 (by kernel_rfl)
       have q65:ρ 65=.bool (((nth x126 0)==(nth x39 0))&&(((nth x126 1)==(nth x39 1))&&(((nth x126 2)==(nth x39 2))&&(((nth x126 3)==(nth x39 3))&&true)))):=hS 14 (by decide) 65 rfl
       exact o_vg (want_ct (t:=65) rfl q65) (fun hk=>(r_lda agg_4_int q10 (vs:=[.int .i64 (nth d3 0),.int .i64 (nth d3 1),.int .i64 (nth d3 2),.int .i64 (nth d3 3)]) rfl ((S9.fr (((G62.trans (Fr.ext F64)).trans (Fr.ext F71)).trans (Fr.ext F123o)) sI).now.part (n:=4) rfl))) rfl rfl (eo_nil ⟨rfl,rfl,_,rfl,Fr.refl _ _,rfl⟩)
      ·intro ρ w123o F123o hS hρ
       have q11:ρ 11=.pointer (some ⟨b13,0,none⟩):=hρ 11 (by kernel_rfl)
       have q65:ρ 65=.bool (((nth x126 0)==(nth x39 0))&&(((nth x126 1)==(nth x39 1))&&(((nth x126 2)==(nth x39 2))&&(((nth x126 3)==(nth x39 3))&&true)))):=hS 14 (by decide) 65 rfl
       exact o_vg (want_ct (t:=65) rfl q65) (fun hk=>(r_lda agg_4_int q11 (vs:=[.int .i64 (nth d4 0),.int .i64 (nth d4 1),.int .i64 (nth d4 2),.int .i64 (nth d4 3)]) rfl ((S13.fr (((G63.trans (Fr.ext F64)).trans (Fr.ext F71)).trans (Fr.ext F123o)) sI).now.part (n:=4) rfl))) rfl rfl (eo_nil ⟨rfl,rfl,_,rfl,Fr.refl _ _,rfl⟩)
      ·intro ρ w123o F123o hS hρ
       have E172:=E114.trans F123o
       have q65:ρ 65=.bool (((nth x126 0)==(nth x39 0))&&(((nth x126 1)==(nth x39 1))&&(((nth x126 2)==(nth x39 2))&&(((nth x126 3)==(nth x39 3))&&true)))):=hS 14 (by decide) 65 rfl
       have q66:ρ 66=(bif (((nth x126 0)==(nth x39 0))&&(((nth x126 1)==(nth x39 1))&&(((nth x126 2)==(nth x39 2))&&(((nth x126 3)==(nth x39 3))&&true)))) then (.agg #[.int .i64 (nth d3 0),.int .i64 (nth d3 1),.int .i64 (nth d3 2),.int .i64 (nth d3 3)]:Value) else undef):=hS 15 (by decide) 66 rfl
       have q67:ρ 67=(bif (((nth x126 0)==(nth x39 0))&&(((nth x126 1)==(nth x39 1))&&(((nth x126 2)==(nth x39 2))&&(((nth x126 3)==(nth x39 3))&&true)))) then (.agg #[.int .i64 (nth d4 0),.int .i64 (nth d4 1),.int .i64 (nth d4 2),.int .i64 (nth d4 3)]:Value) else undef):=hS 16 (by decide) 67 rfl
       refine o_callg (V:=.int .i64 (differD d3 d4)) cf_digest_Differ (want_ct (t:=65) rfl q65) (fun hk=>(mapv2 (q66.trans (gdT (u:=undef) hk)) (q67.trans (gdT (u:=undef) hk)))) (fun hk=>(digest_Differ_c d3 hlP3 d4 hlP4 ((hL.fr E172).cons (((B58'.ex F64).ex F71).ex F123o).lt) (digDiffer_ev d3 d4))) rfl ?_
       intro w' F
       exact eo_nil ⟨rfl,rfl,_,rfl,F,rfl⟩
      ·intro ρ w123o F123o hS hρ
       have q19:ρ 19=.int .i64 (differD d3 d4):=hρ 19 (by kernel_rfl)
       have q65:ρ 65=.bool (((nth x126 0)==(nth x39 0))&&(((nth x126 1)==(nth x39 1))&&(((nth x126 2)==(nth x39 2))&&(((nth x126 3)==(nth x39 3))&&true)))):=hS 14 (by decide) 65 rfl
       exact o_vg (want_ct (t:=65) rfl q65) (fun hk=>(r_mov q19)) rfl rfl (eo_nil ⟨rfl,rfl,_,rfl,Fr.refl _ _,rfl⟩)
      ·intro ρ w123o F123o hS hρ
       have q65:ρ 65=.bool (((nth x126 0)==(nth x39 0))&&(((nth x126 1)==(nth x39 1))&&(((nth x126 2)==(nth x39 2))&&(((nth x126 3)==(nth x39 3))&&true)))):=hS 14 (by decide) 65 rfl
       have q68:ρ 68=(bif (((nth x126 0)==(nth x39 0))&&(((nth x126 1)==(nth x39 1))&&(((nth x126 2)==(nth x39 2))&&(((nth x126 3)==(nth x39 3))&&true)))) then (.int .i64 (differD d3 d4):Value) else undef):=hS 17 (by decide) 68 rfl
       have q69:ρ 69=(bif (((nth x126 0)==(nth x39 0))&&(((nth x126 1)==(nth x39 1))&&(((nth x126 2)==(nth x39 2))&&(((nth x126 3)==(nth x39 3))&&true)))) then (.int .i64 (differD d3 d4):Value) else undef):=hS 18 (by decide) 69 rfl
       exact o_vg (want_ct (t:=65) rfl q65) (fun hk=>(r_int (q68.trans (gdT (u:=undef) hk)) (q69.trans (gdT (u:=undef) hk)) rfl)) rfl rfl (eo_nil ⟨rfl,rfl,_,rfl,Fr.refl _ _,rfl⟩)
      ·intro ρ w123o F123o hS hρ
       have q65:ρ 65=.bool (((nth x126 0)==(nth x39 0))&&(((nth x126 1)==(nth x39 1))&&(((nth x126 2)==(nth x39 2))&&(((nth x126 3)==(nth x39 3))&&true)))):=hS 14 (by decide) 65 rfl
       have q70:ρ 70=(bif (((nth x126 0)==(nth x39 0))&&(((nth x126 1)==(nth x39 1))&&(((nth x126 2)==(nth x39 2))&&(((nth x126 3)==(nth x39 3))&&true)))) then (.bool ((differD d3 d4)==(differD d3 d4)):Value) else undef):=hS 19 (by decide) 70 rfl
       exact o_q (r_pickAnd q65 (fun ht=>(q70.trans (gdT (u:=undef) ht))) rfl) ⟨Fr.refl _ _,rfl⟩
      ·intro ρ w123o F123o hS hρ
       have q71:ρ 71=.bool ((((nth x126 0)==(nth x39 0))&&(((nth x126 1)==(nth x39 1))&&(((nth x126 2)==(nth x39 2))&&(((nth x126 3)==(nth x39 3))&&true))))&&((differD d3 d4)==(differD d3 d4))):=hS 20 (by decide) 71 rfl
       exact o_q (r_mov q71) ⟨Fr.refl _ _,rfl⟩
      ·intro ρ w123o F123o hS hρ
       have q20:ρ 20=.bool (allE x72 x77):=hρ 20 (by kernel_rfl)
       have q72:ρ 72=.bool ((((nth x126 0)==(nth x39 0))&&(((nth x126 1)==(nth x39 1))&&(((nth x126 2)==(nth x39 2))&&(((nth x126 3)==(nth x39 3))&&true))))&&((differD d3 d4)==(differD d3 d4))):=hS 21 (by decide) 72 rfl
       exact o_vg (want_ct (t:=72) rfl q72) (fun hk=>(r_mov q20)) rfl rfl (eo_nil ⟨rfl,rfl,_,rfl,Fr.refl _ _,rfl⟩)
      ·intro ρ w123o F123o hS hρ
       have q72:ρ 72=.bool ((((nth x126 0)==(nth x39 0))&&(((nth x126 1)==(nth x39 1))&&(((nth x126 2)==(nth x39 2))&&(((nth x126 3)==(nth x39 3))&&true))))&&((differD d3 d4)==(differD d3 d4))):=hS 21 (by decide) 72 rfl
       have q73:ρ 73=(bif ((((nth x126 0)==(nth x39 0))&&(((nth x126 1)==(nth x39 1))&&(((nth x126 2)==(nth x39 2))&&(((nth x126 3)==(nth x39 3))&&true))))&&((differD d3 d4)==(differD d3 d4))) then (.bool (allE x72 x77):Value) else undef):=hS 22 (by decide) 73 rfl
       exact o_q (r_pickAnd q72 (fun ht=>(q73.trans (gdT (u:=undef) ht))) rfl) ⟨Fr.refl _ _,rfl⟩
      ·intro ρ w123o F123o hS hρ
       have q74:ρ 74=.bool (((((nth x126 0)==(nth x39 0))&&(((nth x126 1)==(nth x39 1))&&(((nth x126 2)==(nth x39 2))&&(((nth x126 3)==(nth x39 3))&&true))))&&((differD d3 d4)==(differD d3 d4)))&&(allE x72 x77)):=hS 23 (by decide) 74 rfl
       exact o_q (r_asg q74) ⟨Fr.refl _ _,rfl⟩
     ·intro ρ w123 F123 hS hρ
      have q14:ρ 14=.bool (((((nth x126 0)==(nth x39 0))&&(((nth x126 1)==(nth x39 1))&&(((nth x126 2)==(nth x39 2))&&(((nth x126 3)==(nth x39 3))&&true))))&&((differD d3 d4)==(differD d3 d4)))&&(allE x72 x77)):=hS 24 14 rfl
      obtain ⟨ρ',rfl⟩:∃ ρ',ρ=envs (ovr [14,51,52,53,54,55,56,57,58,59,60,61,62,63,64,65,66,67,68,69,70,71,72,73,74] ρ' _) [(14,.bool (((((nth x126 0)==(nth x39 0))&&(((nth x126 1)==(nth x39 1))&&(((nth x126 2)==(nth x39 2))&&(((nth x126 3)==(nth x39 3))&&true))))&&((differD d3 d4)==(differD d3 d4)))&&(allE x72 x77)))]:=⟨ρ,ovr_self hρ ⟨q14,trivial⟩⟩
      have E179:=E114.trans F123
      refine sq_n ?_
      refine ec_ret ?_
      subst h
      exact (end1 rfl ⟨_,rfl,E179,rfl⟩)
    ·replace h:=h.2 hc120
     obtain ⟨ha188,h⟩:=h
     refine ec_any0 (by kernel_rfl) [[],[0],[0,1],[0,1],[0,1,2,3],[0,1],[0,1,2,3,4,5],[0,1,2,3,4,5,6],[0,1,2,3,4,5,6,7],[0,1,2,3,4,5,6,7,8],[0,1,2,3,4,5,6,7,8,9],[0,1,2,3,4,5,6,7,8],[0,1,2,3,4,5,6,7,8,9,10,11],[0,1,2,3,4,5,6,7,8,9,10,11,12],[0,1,2,3,4,5,6,7,8,9,10,11,12,13],[0,1,2,3,4,5,6,7,8,9,10,11,12,13,14],[0,1,2,3,4,5,6,7,8,9,10,11,12,13,14],[0,1,2,3,4,5,6,7,8,9,10,11,12,13,14,15,16],[0,1,2,3,4,5,6,7,8,9,10,11,12,13,14],[0,1,2,3,4,5,6,7,8,9,10,11,12,13,14,15,16,17,18],[0,1,2,3,4,5,6,7,8,9,10,11,12,13,14,15,16,17,18,19],[0,1,2,3,4,5,6,7,8,9,10,11,12,13,14,15,16,17,18,19,20],[0,1,2,3,4,5,6,7,8,9,10,11,12,13,14,15,16,17,18,19,20,21],[0,1,2,3,4,5,6,7,8,9,10,11,12,13,14,15,16,17,18,19,20,21,22],[0,1,2,3,4,5,6,7,8,9,10,11,12,13,14,15,16,17,18,19,20,21,22,23]] [14,51,52,53,54,55,56,57,58,59,60,61,62,63,64,65,66,67,68,69,70,71,72,73,74] [fun v _=>v=(.bool (worksV):Value),fun v _=>v=(.bool (worksV):Value),fun v _=>v=(.int .i64 d1:Value),fun v _=>v=(str d2:Value),fun v _=>v=(.int .i64 (bucketD d1 d2):Value),fun v _=>v=(.int .i64 (bucketD d1 d2):Value),fun v _=>v=(.bool ((bucketD d1 d2)==(bucketD d1 d2)):Value),fun v _=>v=(.bool ((bucketD d1 d2)==(bucketD d1 d2)):Value),fun v _=>v=(.bool ((bucketD d1 d2)==(bucketD d1 d2)):Value),fun v _=>v=((undef:Value):Value),fun v _=>v=((undef:Value):Value),fun v _=>v=((undef:Value):Value),fun v _=>v=((undef:Value):Value),fun v _=>v=(.bool false:Value),fun v _=>v=(.bool false:Value),fun v _=>v=((undef:Value):Value),fun v _=>v=((undef:Value):Value),fun v _=>v=((undef:Value):Value),fun v _=>v=((undef:Value):Value),fun v _=>v=((undef:Value):Value),fun v _=>v=(.bool false:Value),fun v _=>v=(.bool false:Value),fun v _=>v=((undef:Value):Value),fun v _=>v=(.bool false:Value),fun v _=>v=(.bool false:Value)] (by kernel_rfl) ⟨fun _ _ _ _ _ h=>h,fun _ _ _ _ _ h=>h,fun _ _ _ _ _ h=>h,fun _ _ _ _ _ h=>h,fun _ _ _ _ _ h=>h,fun _ _ _ _ _ h=>h,fun _ _ _ _ _ h=>h,fun _ _ _ _ _ h=>h,fun _ _ _ _ _ h=>h,fun _ _ _ _ _ h=>h,fun _ _ _ _ _ h=>h,fun _ _ _ _ _ h=>h,fun _ _ _ _ _ h=>h,fun _ _ _ _ _ h=>h,fun _ _ _ _ _ h=>h,fun _ _ _ _ _ h=>h,fun _ _ _ _ _ h=>h,fun _ _ _ _ _ h=>h,fun _ _ _ _ _ h=>h,fun _ _ _ _ _ h=>h,fun _ _ _ _ _ h=>h,fun _ _ _ _ _ h=>h,fun _ _ _ _ _ h=>h,fun _ _ _ _ _ h=>h,fun _ _ _ _ _ h=>h,trivial⟩ ?_ ?_
     ·refine ⟨?_,?_,?_,?_,?_,?_,?_,?_,?_,?_,?_,?_,?_,?_,?_,?_,?_,?_,?_,?_,?_,?_,?_,?_,?_,trivial⟩
      ·intro ρ w186o F186o hS hρ
       have q15:ρ 15=.bool (worksV):=hρ 15 (by kernel_rfl)
       exact o_q (r_mov q15) ⟨Fr.refl _ _,rfl⟩
      ·intro ρ w186o F186o hS hρ
       have q51:ρ 51=.bool (worksV):=hS 0 (by decide) 51 rfl
       exact o_q (r_mov q51) ⟨Fr.refl _ _,rfl⟩
      ·intro ρ w186o F186o hS hρ
       have q1:ρ 1=.int .i64 d1:=hρ 1 (by kernel_rfl)
       have q52:ρ 52=.bool (worksV):=hS 1 (by decide) 52 rfl
       exact o_v (r_mov q1) (want_t (t:=52) rfl q52 (of_not hc24)) rfl rfl (eo_nil ⟨rfl,rfl,_,rfl,Fr.refl _ _,rfl⟩)
      ·intro ρ w186o F186o hS hρ
       have q2:ρ 2=str d2:=hρ 2 (by kernel_rfl)
       have q52:ρ 52=.bool (worksV):=hS 1 (by decide) 52 rfl
       exact o_v (r_mov q2) (want_t (t:=52) rfl q52 (of_not hc24)) rfl rfl (eo_nil ⟨rfl,rfl,_,rfl,Fr.refl _ _,rfl⟩)
      ·intro ρ w186o F186o hS hρ
       have E189:=E114.trans F186o
       have q52:ρ 52=.bool (worksV):=hS 1 (by decide) 52 rfl
       have q53:ρ 53=.int .i64 d1:=hS 2 (by decide) 53 rfl
       have q54:ρ 54=str d2:=hS 3 (by decide) 54 rfl
       refine o_call cf_digest_Bucket (by simp only [List.map,ev,q53,q54] <;> rfl) (digest_Bucket_c d1 d2 ((hL.fr E189).cons (((B58'.ex F64).ex F71).ex F186o).lt) (digBucket_ev d1 d2 ha188)) (want_t (t:=52) rfl q52 (of_not hc24)) rfl ?_
       rintro _ w' ⟨F,rfl⟩
       exact eo_nil ⟨rfl,rfl,_,rfl,F,rfl⟩
      ·intro ρ w186o F186o hS hρ
       have q17:ρ 17=.int .i64 (bucketD d1 d2):=hρ 17 (by kernel_rfl)
       have q52:ρ 52=.bool (worksV):=hS 1 (by decide) 52 rfl
       exact o_v (r_mov q17) (want_t (t:=52) rfl q52 (of_not hc24)) rfl rfl (eo_nil ⟨rfl,rfl,_,rfl,Fr.refl _ _,rfl⟩)
      ·intro ρ w186o F186o hS hρ
       have q52:ρ 52=.bool (worksV):=hS 1 (by decide) 52 rfl
       have q55:ρ 55=.int .i64 (bucketD d1 d2):=hS 4 (by decide) 55 rfl
       have q56:ρ 56=.int .i64 (bucketD d1 d2):=hS 5 (by decide) 56 rfl
       exact o_v (r_int q55 q56 rfl) (want_t (t:=52) rfl q52 (of_not hc24)) rfl rfl (eo_nil ⟨rfl,rfl,_,rfl,Fr.refl _ _,rfl⟩)
      ·intro ρ w186o F186o hS hρ
       have q52:ρ 52=.bool (worksV):=hS 1 (by decide) 52 rfl
       have q57:ρ 57=.bool ((bucketD d1 d2)==(bucketD d1 d2)):=hS 6 (by decide) 57 rfl
       exact o_q (r_pickT q52 (of_not hc24) q57) ⟨Fr.refl _ _,rfl⟩
      ·intro ρ w186o F186o hS hρ
       have q58:ρ 58=.bool ((bucketD d1 d2)==(bucketD d1 d2)):=hS 7 (by decide) 58 rfl
       exact o_q (r_mov q58) ⟨Fr.refl _ _,rfl⟩
      ·intro ρ w186o F186o hS hρ
       have q59:ρ 59=.bool ((bucketD d1 d2)==(bucketD d1 d2)):=hS 8 (by decide) 59 rfl
       exact o_no (want_f (t:=59) rfl q59 hc120) rfl (eo_nil ⟨rfl,rfl,undef,rfl,Fr.refl _ _,rfl⟩)
      ·intro ρ w186o F186o hS hρ
       have q59:ρ 59=.bool ((bucketD d1 d2)==(bucketD d1 d2)):=hS 8 (by decide) 59 rfl
       exact o_no (want_f (t:=59) rfl q59 hc120) rfl (eo_nil ⟨rfl,rfl,undef,rfl,Fr.refl _ _,rfl⟩)
      ·intro ρ w186o F186o hS hρ
       have q59:ρ 59=.bool ((bucketD d1 d2)==(bucketD d1 d2)):=hS 8 (by decide) 59 rfl
       exact o_no (want_f (t:=59) rfl q59 hc120) rfl (eo_nil ⟨rfl,rfl,undef,rfl,Fr.refl _ _,rfl⟩)
      ·intro ρ w186o F186o hS hρ
       have q59:ρ 59=.bool ((bucketD d1 d2)==(bucketD d1 d2)):=hS 8 (by decide) 59 rfl
       exact o_no (want_f (t:=59) rfl q59 hc120) rfl (eo_nil ⟨rfl,rfl,undef,rfl,Fr.refl _ _,rfl⟩)
      ·intro ρ w186o F186o hS hρ
       have q59:ρ 59=.bool ((bucketD d1 d2)==(bucketD d1 d2)):=hS 8 (by decide) 59 rfl
       exact o_q (r_pickF q59 hc120 rfl) ⟨Fr.refl _ _,rfl⟩
      ·intro ρ w186o F186o hS hρ
       have q64:ρ 64=.bool false:=hS 13 (by decide) 64 rfl
       exact o_q (r_mov q64) ⟨Fr.refl _ _,rfl⟩
      ·intro ρ w186o F186o hS hρ
       have q65:ρ 65=.bool false:=hS 14 (by decide) 65 rfl
       exact o_no (want_f (t:=65) rfl q65 rfl) rfl (eo_nil ⟨rfl,rfl,undef,rfl,Fr.refl _ _,rfl⟩)
      ·intro ρ w186o F186o hS hρ
       have q65:ρ 65=.bool false:=hS 14 (by decide) 65 rfl
       exact o_no (want_f (t:=65) rfl q65 rfl) rfl (eo_nil ⟨rfl,rfl,undef,rfl,Fr.refl _ _,rfl⟩)
      ·intro ρ w186o F186o hS hρ
       have q65:ρ 65=.bool false:=hS 14 (by decide) 65 rfl
       exact o_no (want_f (t:=65) rfl q65 rfl) rfl (eo_nil ⟨rfl,rfl,undef,rfl,Fr.refl _ _,rfl⟩)
      ·intro ρ w186o F186o hS hρ
       have q65:ρ 65=.bool false:=hS 14 (by decide) 65 rfl
       exact o_no (want_f (t:=65) rfl q65 rfl) rfl (eo_nil ⟨rfl,rfl,undef,rfl,Fr.refl _ _,rfl⟩)
      ·intro ρ w186o F186o hS hρ
       have q65:ρ 65=.bool false:=hS 14 (by decide) 65 rfl
       exact o_no (want_f (t:=65) rfl q65 rfl) rfl (eo_nil ⟨rfl,rfl,undef,rfl,Fr.refl _ _,rfl⟩)
      ·intro ρ w186o F186o hS hρ
       have q65:ρ 65=.bool false:=hS 14 (by decide) 65 rfl
       exact o_q (r_pickF q65 rfl rfl) ⟨Fr.refl _ _,rfl⟩
      ·intro ρ w186o F186o hS hρ
       have q71:ρ 71=.bool false:=hS 20 (by decide) 71 rfl
       exact o_q (r_mov q71) ⟨Fr.refl _ _,rfl⟩
      ·intro ρ w186o F186o hS hρ
       have q72:ρ 72=.bool false:=hS 21 (by decide) 72 rfl
       exact o_no (want_f (t:=72) rfl q72 rfl) rfl (eo_nil ⟨rfl,rfl,undef,rfl,Fr.refl _ _,rfl⟩)
      ·intro ρ w186o F186o hS hρ
       have q72:ρ 72=.bool false:=hS 21 (by decide) 72 rfl
       exact o_q (r_pickF q72 rfl rfl) ⟨Fr.refl _ _,rfl⟩
      ·intro ρ w186o F186o hS hρ
       have q74:ρ 74=.bool false:=hS 23 (by decide) 74 rfl
       exact o_q (r_asg q74) ⟨Fr.refl _ _,rfl⟩
     ·intro ρ w186 F186 hS hρ
      have q14:ρ 14=.bool false:=hS 24 14 rfl
      obtain ⟨ρ',rfl⟩:∃ ρ',ρ=envs (ovr [14,51,52,53,54,55,56,57,58,59,60,61,62,63,64,65,66,67,68,69,70,71,72,73,74] ρ' _) [(14,.bool false)]:=⟨ρ,ovr_self hρ ⟨q14,trivial⟩⟩
      have E196:=E114.trans F186
      refine sq_n ?_
      refine ec_ret ?_
      subst h
      exact (end1 rfl ⟨_,rfl,E196,rfl⟩)
end Go.Proofs.YthbfhgenkhkpfaaGreat
