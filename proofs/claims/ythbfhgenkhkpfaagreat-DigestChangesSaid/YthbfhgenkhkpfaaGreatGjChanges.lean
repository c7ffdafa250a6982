/- The law DigestChanges: what it comes to. -/
import Derived.Test.YthbfhgenkhkpfaaGreatMg
namespace Go.Proofs.YthbfhgenkhkpfaaGreat
open Go Go.RowKit
set_option linter.unusedVariables false
set_option linter.unusedSimpArgs false
def law10_DigestChanges_raw (d0:Arena) (d1:Ent) (y:Bool):Prop :=
 ((!(worksV))=true→(y=false))∧((!(worksV))=false→(((!((fewA d0)&&(fewE d1)))=true→(y=(worksV)))∧((!((fewA d0)&&(fewE d1)))=false→((sma d0)∧((sm d1.val)∧((WfV d1.val)∧(∃ x37,x37=(joinA d0 d1)∧(((x37.2.2 != (0:Int))=true→(y=(worksV)))∧((x37.2.2 != (0:Int))=false→(sma d0∧(∃ x71,x71=(sumsD d0)∧(x71.length=4∧(sma x37.1∧(∃ x74,x74=(sumsD x37.1)∧(x74.length=4∧((d1.key.length≤1000000)∧((((decide ((bucketD d1.val.kind d1.key)<0))||(decide (3<(bucketD d1.val.kind d1.key))))=true→(y=false))∧(((decide ((bucketD d1.val.kind d1.key)<0))||(decide (3<(bucketD d1.val.kind d1.key))))=false→(decide (0≤(IntKind.u64.wrap (bucketD d1.val.kind d1.key)))=true∧((sma d0)∧(((!x37.2.1)=true→(y=((differD x71 x74)==0)))∧((!x37.2.1)=false→(((((differD x71 x74) != (0:Int))&&((differD x71 x74) != (IntKind.i64.wrap ((1:Int) * 2 ^ min ((IntKind.u64.wrap (bucketD d1.val.kind d1.key))).toNat IntKind.i64.bits))))=true→(y=false))∧((((differD x71 x74) != (0:Int))&&((differD x71 x74) != (IntKind.i64.wrap ((1:Int) * 2 ^ min ((IntKind.u64.wrap (bucketD d1.val.kind d1.key))).toNat IntKind.i64.bits))))=false→(((decide (0≤(findA d0 d1.val.kind d1.key)))=true→(y=(worksV)))∧((decide (0≤(findA d0 d1.val.kind d1.key)))=false→((sm d1.val)∧(∃ x135,x135=(putE d1)∧(((x135.2==0)=true→x135.1.length≤9223372036854775807)∧(y=((x135.2==0)&&(((differD x71 x74)==(IntKind.i64.wrap ((1:Int) * 2 ^ min ((IntKind.u64.wrap (bucketD d1.val.kind d1.key))).toNat IntKind.i64.bits)))==((sumC x135.1) != (0:Int))))))))))))))))))))))))))))))))))
set_option maxRecDepth 20000 in
set_option maxHeartbeats 4000000 in
theorem law10_DigestChanges_c {L:List Nat} {w:World} {csP0:List Value} (d0:Arena) (HP0:Stb L w (fun w=>kArena.r w csP0 d0)) {csP1:List Value} (d1:Ent) (HP1:Stb L w (fun w=>kEnt.r w csP1 d1)) (hL:Lt L w) {y:Bool} (h:law10_DigestChanges_raw d0 d1 y) :
  Calls Tryz.prog 5 [.agg csP0.toArray,.agg csP1.toArray].toArray w (Ret fun v w'=>Ext w w'∧v=.bool y):=by
 obtain ⟨A1,c2,A4,c5,rfl,H3,H6⟩:=kArena_open HP0
 obtain ⟨A7,c8,A10,c11,rfl,H9,H12⟩:=kEnt_open HP1
 unfold law10_DigestChanges_raw at h
 refine calls_ec Tryz.func5 rfl rfl rfl ?_
 refine ec_sr ?_
 refine o_box (cs:=(cArena d0 A1 c2 A4 c5)) rfl rfl rfl ?_
 intro b13 w13 e13 F13 B13
 have S13:=B13.stb (nin hL e13)
 have G14:Fr L w w13:=Fr.ext F13
 refine o_box (cs:=(cEnt d1 A7 c8 A10 c11)) rfl rfl rfl ?_
 intro b15 w15 e15 F15 B15
 have S15:=B15.stb (nin (hL.fr F13) e15)
 have E16:=F13.trans F15
 have G18:Fr L w13 w15:=Fr.ext F15
 refine o_w (v:=.bool false) (r_asg rfl) ?_
 refine eo_r ?_
 refine o_call cf_law10_works rfl (law10_works_c (hL.fr E16) (works10_ev)) rfl rfl ?_
 rintro _ w19 ⟨F19,rfl⟩
 have E20:=E16.trans F19
 have G23:Fr L w15 w19:=Fr.ext F19
 refine o_w (v:=.bool (worksV)) (r_asg rfl) ?_
 refine eo_nil_sq ?_
 refine ec_seq ?_
 refine ec_sr ?_
 refine o_w (v:=.bool (worksV)) (r_mov rfl) ?_
 refine o_w (v:=.bool (!(worksV))) (r_not rfl) ?_
 refine eo_nil_sq ?_
 refine ec_cond rfl (fun hc24=>?_) (fun hc24=>?_)
 ·replace h:=h.1 hc24
  refine ec_sr ?_
  refine o_w (v:=.bool false) (r_asg rfl) ?_
  refine eo_nil_sq ?_
  refine ec_ret ?_
  refine sq_ret ?_
  subst h
  exact (end1 rfl ⟨_,rfl,E20,rfl⟩)
 ·replace h:=h.2 hc24
  refine ec_skip ?_
  refine sq_n ?_
  refine ec_sr ?_
  refine o_w (v:=.agg (cArena d0 A1 c2 A4 c5).toArray) (r_lda agg_api_Arena rfl (vs:=(cArena d0 A1 c2 A4 c5)) rfl ((S13.fr (G18.trans (Fr.ext F19)) sI).now.part (n:=3) rfl)) ?_
  refine o_call cf_law08_Few rfl (law08_Few_c d0 (kArena_mk (d:=d0) (H3.fr ((G14.trans (Fr.ext F15)).trans (Fr.ext F19)) sI) (H6.fr ((G14.trans (Fr.ext F15)).trans (Fr.ext F19)) sI)) (hL.fr E20) (fewA_ev d0)) rfl rfl ?_
  rintro _ w26 ⟨F26,rfl⟩
  have E27:=E20.trans F26
  refine o_w (v:=.bool (fewA d0)) (r_mov rfl) ?_
  refine o_vg (v:=.agg (cEnt d1 A7 c8 A10 c11).toArray) (want_ct (t:=21) rfl rfl) (fun hk=>(r_lda agg_api_Entry rfl (vs:=(cEnt d1 A7 c8 A10 c11)) rfl ((S15.fr (G23.trans (Fr.ext F26)) sI).now.part (n:=9) rfl))) rfl rfl ?_
  refine o_callg (V:=.bool (fewE d1)) cf_law07_Few (want_ct (t:=21) rfl rfl) (fun hk=>(mapv1 (gdT (u:=undef) hk))) (fun hk=>(law07_Few_c d1 (kEnt_mk (d:=d1) (H9.fr (((G14.trans (Fr.ext F15)).trans (Fr.ext F19)).trans (Fr.ext F26)) sI) (H12.fr (((G14.trans (Fr.ext F15)).trans (Fr.ext F19)).trans (Fr.ext F26)) sI)) (hL.fr E27) (fewE_ev d1))) rfl ?_
  intro w31 F31
  have E32:=E27.trans F31
  have G33:=(((G14.trans (Fr.ext F15)).trans (Fr.ext F19)).trans (Fr.ext F26)).trans (Fr.ext F31)
  refine o_w (v:=.bool ((fewA d0)&&(fewE d1))) (r_pickAnd rfl (fun ht=>(gdT (u:=undef) ht)) rfl) ?_
  refine o_w (v:=.bool ((fewA d0)&&(fewE d1))) (r_asg rfl) ?_
  refine eo_nil_sq ?_
  refine ec_seq ?_
  refine ec_sr ?_
  refine o_w (v:=.bool ((fewA d0)&&(fewE d1))) (r_mov rfl) ?_
  refine o_w (v:=.bool (!((fewA d0)&&(fewE d1)))) (r_not rfl) ?_
  refine eo_nil_sq ?_
  refine ec_cond rfl (fun hc36=>?_) (fun hc36=>?_)
  ·replace h:=h.1 hc36
   refine ec_sr ?_
   refine o_w (v:=.bool (worksV)) (r_mov rfl) ?_
   refine o_w (v:=.bool (worksV)) (r_asg rfl) ?_
   refine eo_nil_sq ?_
   refine ec_ret ?_
   refine sq_ret ?_
   subst h
   exact (end1 rfl ⟨_,rfl,E32,rfl⟩)
  ·replace h:=h.2 hc36
   refine ec_skip ?_
   refine sq_n ?_
   refine ec_sr ?_
   refine o_w (v:=.agg (cArena d0 A1 c2 A4 c5).toArray) (r_lda agg_api_Arena rfl (vs:=(cArena d0 A1 c2 A4 c5)) rfl ((S13.fr (((G18.trans (Fr.ext F19)).trans (Fr.ext F26)).trans (Fr.ext F31)) sI).now.part (n:=3) rfl)) ?_
   refine o_w (v:=.agg (cEnt d1 A7 c8 A10 c11).toArray) (r_lda agg_api_Entry rfl (vs:=(cEnt d1 A7 c8 A10 c11)) rfl ((S15.fr ((G23.trans (Fr.ext F26)).trans (Fr.ext F31)) sI).now.part (n:=9) rfl)) ?_
   obtain ⟨ha38,h⟩:=h
   obtain ⟨ha39,h⟩:=h
   obtain ⟨ha40,h⟩:=h
   obtain ⟨x37,hx37,h⟩:=h
   refine o_call cf_arena_Join rfl (arena_Join_c d0 (kArena_mk (d:=d0) (H3.fr G33 sI) (H6.fr G33 sI)) d1 (kEnt_mk (d:=d1) (H9.fr G33 sI) (H12.fr G33 sI)) (hL.fr E32) (eq_ev hx37 (arJoin_ev d0 d1 ha38 ha39 ha40))) rfl rfl ?_
   rintro _ w37 ⟨F37,cs41,rfl,H42⟩
   have E43:=E32.trans F37
   have G45:=(((G18.trans (Fr.ext F19)).trans (Fr.ext F26)).trans (Fr.ext F31)).trans (Fr.ext F37)
   obtain ⟨A47,c48,A50,c51,rfl,H49,H52⟩:=kArena_open H42
   refine o_w (v:=.tuple #[.agg (cArena x37.1 A47 c48 A50 c51).toArray,.bool x37.2.1,.int .i64 x37.2.2]) (r_mov rfl) ?_
   refine o_w (v:=.agg (cArena x37.1 A47 c48 A50 c51).toArray) (r_ext rfl rfl) ?_
   refine o_w (v:=.bool x37.2.1) (r_ext rfl rfl) ?_
   refine o_w (v:=.int .i64 x37.2.2) (r_ext rfl rfl) ?_
   refine o_alloc zero_api_Arena rfl rfl rfl ?_
   intro b53 w53 e53 F53 B53
   have n53:w.heap.size≤b53:=by rw [e53]; exact E43.size
   have m54:w.heap.size≤b53:=by rw [e53]; exact (G33.trans (Fr.ext F37)).size
   have m55:w13.heap.size≤b53:=by rw [e53]; exact G45.size
   have m56:w15.heap.size≤b53:=by rw [e53]; exact (((G23.trans (Fr.ext F26)).trans (Fr.ext F31)).trans (Fr.ext F37)).size
   have m57:w37.heap.size≤b53:=Nat.le_of_eq e53.symm
   have E58:=E43.trans F53
   have G61:=(((G23.trans (Fr.ext F26)).trans (Fr.ext F31)).trans (Fr.ext F37)).trans (Fr.ext F53)
   have G62:Fr L w37 w53:=Fr.ext F53
   refine o_store rfl B53 (vs:=(cArena x37.1 A47 c48 A50 c51)) rfl sz_api_Arena rfl rfl rfl ?_
   intro w63 F63 B63
   have E64:=Ext.st E58 F63 (by simp; omega)
   have G65:Fr L w w63:=((G33.trans (Fr.ext F37)).trans (Fr.ext F53)).stp F63 (upc (.inr m54) (fun m hm=>by cases hm))
   have G66:Fr L w13 w63:=(G45.trans (Fr.ext F53)).stp F63 (upc (.inr m55) (fun m hm=>by cases hm))
   have G67:Fr L w15 w63:=G61.stp F63 (upc (.inr m56) (fun m hm=>by cases hm))
   have G68:Fr L w37 w63:=G62.stp F63 (upc (.inr m57) (fun m hm=>by cases hm))
   have B63':Blk w63 b53 _ (cArena x37.1 A47 c48 A50 c51):=B63
   refine o_w (v:=.bool x37.2.1) (r_asg rfl) ?_
   refine o_w (v:=.int .i64 x37.2.2) (r_asg rfl) ?_
   refine eo_nil_sq ?_
   refine ec_seq ?_
   refine ec_sr ?_
   refine o_w (v:=.int .i64 x37.2.2) (r_mov rfl) ?_
   refine o_w (v:=.bool (x37.2.2 != (0:Int))) (r_int rfl rfl rfl) ?_
   refine eo_nil_sq ?_
   refine ec_cond rfl (fun hc69=>?_) (fun hc69=>?_)
   ·replace h:=h.1 hc69
    refine ec_sr ?_
    refine o_w (v:=.bool (worksV)) (r_mov rfl) ?_
    refine o_w (v:=.bool (worksV)) (r_asg rfl) ?_
    refine eo_nil_sq ?_
    refine ec_ret ?_
    refine sq_ret ?_
    subst h
    exact (end1 rfl ⟨_,rfl,E64,rfl⟩)
   ·replace h:=h.2 hc69
    refine ec_skip ?_
    refine sq_n ?_
    refine ec_seq ?_
    obtain ⟨ha72,h⟩:=h
    obtain ⟨x71,hx71,h⟩:=h
    obtain ⟨ha73,h⟩:=h
    obtain ⟨ha75,h⟩:=h
    obtain ⟨x74,hx74,h⟩:=h
    obtain ⟨ha76,h⟩:=h
    refine ec_any0 (by kernel_rfl) [[],[0],[],[0,1,2],[0,1,2,3],[0,1,2,3,4]] [10,38,39,40,41,42] [fun v _=>v=(.agg (cArena d0 A1 c2 A4 c5).toArray:Value),fun v _=>v=(.agg #[.int .i64 (nth x71 0),.int .i64 (nth x71 1),.int .i64 (nth x71 2),.int .i64 (nth x71 3)]:Value),fun v _=>v=(.agg (cArena x37.1 A47 c48 A50 c51).toArray:Value),fun v _=>v=(.agg #[.int .i64 (nth x74 0),.int .i64 (nth x74 1),.int .i64 (nth x74 2),.int .i64 (nth x74 3)]:Value),fun v _=>v=(.int .i64 (differD x71 x74):Value),fun v _=>v=(.int .i64 (differD x71 x74):Value)] (by kernel_rfl) ⟨fun _ _ _ _ _ h=>h,fun _ _ _ _ _ h=>h,fun _ _ _ _ _ h=>h,fun _ _ _ _ _ h=>h,fun _ _ _ _ _ h=>h,fun _ _ _ _ _ h=>h,trivial⟩ ?_ ?_
    ·refine ⟨?_,?_,?_,?_,?_,?_,trivial⟩
     ·intro ρ w70o F70o hS hρ
      have q2:ρ 2=.pointer (some ⟨b13,0,none⟩):=hρ 2 (by kernel_rfl)
      exact o_q (r_lda agg_api_Arena q2 (vs:=(cArena d0 A1 c2 A4 c5)) rfl ((S13.fr (G66.trans (Fr.ext F70o)) sI).now.part (n:=3) rfl)) ⟨Fr.refl _ _,rfl⟩
     ·intro ρ w70o F70o hS hρ
      have E84:=E64.trans F70o
      have q38:ρ 38=.agg (cArena d0 A1 c2 A4 c5).toArray:=hS 0 (by decide) 38 rfl
      refine o_call cf_digest_Sums (by simp only [List.map,ev,q38] <;> rfl) (digest_Sums_c d0 (kArena_mk (d:=d0) (H3.up (G65.trans (Fr.ext F70o)) sI (upc (.inr m54) (fun _ h=>.inl h))) (H6.up (G65.trans (Fr.ext F70o)) sI (upc (.inr m54) (fun _ h=>.inl h)))) ((hL.fr E84).cons (B63'.ex F70o).lt) (eq_ev hx71 (digSums_ev d0 ha72))) rfl rfl ?_
      rintro _ w' ⟨F,rfl,_⟩
      exact eo_nil ⟨rfl,rfl,_,rfl,F,rfl⟩
     ·intro ρ w70o F70o hS hρ
      have q7:ρ 7=.pointer (some ⟨b53,0,none⟩):=hρ 7 (by kernel_rfl)
      exact o_q (r_lda agg_api_Arena q7 (vs:=(cArena x37.1 A47 c48 A50 c51)) rfl ((B63'.ex F70o).part (n:=3) rfl)) ⟨Fr.refl _ _,rfl⟩
     ·intro ρ w70o F70o hS hρ
      have E96:=E64.trans F70o
      have q40:ρ 40=.agg (cArena x37.1 A47 c48 A50 c51).toArray:=hS 2 (by decide) 40 rfl
      refine o_call cf_digest_Sums (by simp only [List.map,ev,q40] <;> rfl) (digest_Sums_c x37.1 (kArena_mk (d:=x37.1) (H49.up (G68.trans (Fr.ext F70o)) sI (upc (.inr m57) (fun _ h=>.inl h))) (H52.up (G68.trans (Fr.ext F70o)) sI (upc (.inr m57) (fun _ h=>.inl h)))) ((hL.fr E96).cons (B63'.ex F70o).lt) (eq_ev hx74 (digSums_ev x37.1 ha75))) rfl rfl ?_
      rintro _ w' ⟨F,rfl,_⟩
      exact eo_nil ⟨rfl,rfl,_,rfl,F,rfl⟩
     ·intro ρ w70o F70o hS hρ
      have E102:=E64.trans F70o
      have q39:ρ 39=.agg #[.int .i64 (nth x71 0),.int .i64 (nth x71 1),.int .i64 (nth x71 2),.int .i64 (nth x71 3)]:=hS 1 (by decide) 39 rfl
      have q41:ρ 41=.agg #[.int .i64 (nth x74 0),.int .i64 (nth x74 1),.int .i64 (nth x74 2),.int .i64 (nth x74 3)]:=hS 3 (by decide) 41 rfl
      refine o_call cf_digest_Differ (by simp only [List.map,ev,q39,q41] <;> rfl) (digest_Differ_c x71 ha73 x74 ha76 ((hL.fr E102).cons (B63'.ex F70o).lt) (digDiffer_ev x71 x74)) rfl rfl ?_
      rintro _ w' ⟨F,rfl⟩
      exact eo_nil ⟨rfl,rfl,_,rfl,F,rfl⟩
     ·intro ρ w70o F70o hS hρ
      have q42:ρ 42=.int .i64 (differD x71 x74):=hS 4 (by decide) 42 rfl
      exact o_q (r_asg q42) ⟨Fr.refl _ _,rfl⟩
    ·intro ρ w70 F70 hS hρ
     have q10:ρ 10=.int .i64 (differD x71 x74):=hS 5 10 rfl
     obtain ⟨ρ',rfl⟩:∃ ρ',ρ=envs (ovr [10,38,39,40,41,42] ρ' _) [(10,.int .i64 (differD x71 x74))]:=⟨ρ,ovr_self hρ ⟨q10,trivial⟩⟩
     have E108:=E64.trans F70
     refine sq_n ?_
     refine ec_sr ?_
     refine o_w (v:=.pointer (some ⟨b15,1,none⟩)) (r_fa fld_api_Entry_1 rfl rfl) ?_
     refine o_w (v:=.pointer (some ⟨b15,1,none⟩)) (r_fa fld_api_Value_0 rfl rfl) ?_
     refine o_w (v:=.int .i64 d1.val.kind) (r_ld one_int rfl ((S15.fr (G67.trans (Fr.ext F70)) sI).now.cell rfl)) ?_
     refine o_w (v:=.pointer (some ⟨b15,0,none⟩)) (r_fa fld_api_Entry_0 rfl rfl) ?_
     refine o_w (v:=str d1.key) (r_ld one_string rfl ((S15.fr (G67.trans (Fr.ext F70)) sI).now.cell rfl)) ?_
     obtain ⟨ha115,h⟩:=h
     refine o_call cf_digest_Bucket rfl (digest_Bucket_c d1.val.kind d1.key ((hL.fr E108).cons (B63'.ex F70).lt) (digBucket_ev d1.val.kind d1.key ha115)) rfl rfl ?_
     rintro _ w114 ⟨F114,rfl⟩
     have E116:=E108.trans F114
     refine o_w (v:=.int .i64 (bucketD d1.val.kind d1.key)) (r_asg rfl) ?_
     refine eo_nil_sq ?_
     refine ec_seq ?_
     refine ec_sr ?_
     refine o_w (v:=.int .i64 (bucketD d1.val.kind d1.key)) (r_mov rfl) ?_
     refine o_w (v:=.bool (decide ((bucketD d1.val.kind d1.key)<0))) (r_int rfl rfl rfl) ?_
     refine o_w (v:=.bool (decide ((bucketD d1.val.kind d1.key)<0))) (r_mov rfl) ?_
     refine o_vg (v:=.int .i64 (bucketD d1.val.kind d1.key)) (want_cf (t:=51) rfl rfl) (fun hk=>(r_mov rfl)) rfl rfl ?_
     refine o_vg (v:=.bool (decide (3<(bucketD d1.val.kind d1.key)))) (want_cf (t:=51) rfl rfl) (fun hk=>(r_int (gdT (u:=undef) hk) rfl rfl)) rfl rfl ?_
     refine o_w (v:=.bool ((decide ((bucketD d1.val.kind d1.key)<0))||(decide (3<(bucketD d1.val.kind d1.key))))) (r_pickOr rfl rfl (fun hf=>(gdT (u:=undef) (notT hf)))) ?_
     refine eo_nil_sq ?_
     refine ec_cond rfl (fun hc122=>?_) (fun hc122=>?_)
     ·replace h:=h.1 hc122
      refine ec_sr ?_
      refine o_w (v:=.bool false) (r_asg rfl) ?_
      refine eo_nil_sq ?_
      refine ec_ret ?_
      refine sq_ret ?_
      subst h
      exact (end1 rfl ⟨_,rfl,E116,rfl⟩)
     ·replace h:=h.2 hc122
      refine ec_skip ?_
      refine sq_n ?_
      refine ec_sr ?_
      refine o_w (v:=.int .i64 (bucketD d1.val.kind d1.key)) (r_mov rfl) ?_
      refine o_w (v:=.int .u64 (IntKind.u64.wrap (bucketD d1.val.kind d1.key))) (r_conv un_int un_uint rfl) ?_
      obtain ⟨ha123,h⟩:=h
      refine o_w (v:=.int .i64 (IntKind.i64.wrap ((1:Int) * 2 ^ min ((IntKind.u64.wrap (bucketD d1.val.kind d1.key))).toNat IntKind.i64.bits))) (r_shl rfl rfl ha123) ?_
      refine o_w (v:=.int .i64 (IntKind.i64.wrap ((1:Int) * 2 ^ min ((IntKind.u64.wrap (bucketD d1.val.kind d1.key))).toNat IntKind.i64.bits))) (r_asg rfl) ?_
      refine eo_r ?_
      refine o_w (v:=.agg (cArena d0 A1 c2 A4 c5).toArray) (r_lda agg_api_Arena rfl (vs:=(cArena d0 A1 c2 A4 c5)) rfl ((S13.fr ((G66.trans (Fr.ext F70)).trans (Fr.ext F114)) sI).now.part (n:=3) rfl)) ?_
      refine o_w (v:=.pointer (some ⟨b15,1,none⟩)) (r_fa fld_api_Entry_1 rfl rfl) ?_
      refine o_w (v:=.pointer (some ⟨b15,1,none⟩)) (r_fa fld_api_Value_0 rfl rfl) ?_
      refine o_w (v:=.int .i64 d1.val.kind) (r_ld one_int rfl ((S15.fr ((G67.trans (Fr.ext F70)).trans (Fr.ext F114)) sI).now.cell rfl)) ?_
      refine o_w (v:=.pointer (some ⟨b15,0,none⟩)) (r_fa fld_api_Entry_0 rfl rfl) ?_
      refine o_w (v:=str d1.key) (r_ld one_string rfl ((S15.fr ((G67.trans (Fr.ext F70)).trans (Fr.ext F114)) sI).now.cell rfl)) ?_
      obtain ⟨ha125,h⟩:=h
      refine o_call cf_arena_Find rfl (arena_Find_c d0 (kArena_mk (d:=d0) (H3.up ((G65.trans (Fr.ext F70)).trans (Fr.ext F114)) sI (upc (.inr m54) (fun _ h=>.inl h))) (H6.up ((G65.trans (Fr.ext F70)).trans (Fr.ext F114)) sI (upc (.inr m54) (fun _ h=>.inl h)))) d1.val.kind d1.key ((hL.fr E116).cons ((B63'.ex F70).ex F114).lt) (arFind_ev d0 d1.val.kind d1.key ha125)) rfl rfl ?_
      rintro _ w124 ⟨F124,rfl⟩
      have E126:=E116.trans F124
      refine o_w (v:=.int .i64 (findA d0 d1.val.kind d1.key)) (r_asg rfl) ?_
      refine eo_nil_sq ?_
      refine ec_seq ?_
      refine ec_sr ?_
      refine o_w (v:=.bool x37.2.1) (r_mov rfl) ?_
      refine o_w (v:=.bool (!x37.2.1)) (r_not rfl) ?_
      refine eo_nil_sq ?_
      refine ec_cond rfl (fun hc132=>?_) (fun hc132=>?_)
      ·replace h:=h.1 hc132
       refine ec_sr ?_
       iterate 2 refine o_w (v:=.bool (worksV)) (r_mov rfl) ?_
       refine o_v (v:=.int .i64 (differD x71 x74)) (r_mov rfl) (want_t (t:=68) rfl rfl (of_not hc24)) rfl rfl ?_
       refine o_v (v:=.bool ((differD x71 x74)==0)) (r_int rfl rfl rfl) (want_t (t:=68) rfl rfl (of_not hc24)) rfl rfl ?_
       refine o_w (v:=.bool ((differD x71 x74)==0)) (r_pickT rfl (of_not hc24) rfl) ?_
       refine o_w (v:=.bool ((differD x71 x74)==0)) (r_asg rfl) ?_
       refine eo_nil_sq ?_
       refine ec_ret ?_
       refine sq_ret ?_
       subst h
       exact (end1 rfl ⟨_,rfl,E126,rfl⟩)
      ·replace h:=h.2 hc132
       refine ec_skip ?_
       refine sq_n ?_
       refine ec_seq ?_
       refine ec_sr ?_
       refine o_w (v:=.int .i64 (differD x71 x74)) (r_mov rfl) ?_
       refine o_w (v:=.bool ((differD x71 x74) != (0:Int))) (r_int rfl rfl rfl) ?_
       refine o_w (v:=.bool ((differD x71 x74) != (0:Int))) (r_mov rfl) ?_
       refine o_vg (v:=.int .i64 (differD x71 x74)) (want_ct (t:=74) rfl rfl) (fun hk=>(r_mov rfl)) rfl rfl ?_
       refine o_vg (v:=.int .i64 (IntKind.i64.wrap ((1:Int) * 2 ^ min ((IntKind.u64.wrap (bucketD d1.val.kind d1.key))).toNat IntKind.i64.bits))) (want_ct (t:=74) rfl rfl) (fun hk=>(r_mov rfl)) rfl rfl ?_
       refine o_vg (v:=.bool ((differD x71 x74) != (IntKind.i64.wrap ((1:Int) * 2 ^ min ((IntKind.u64.wrap (bucketD d1.val.kind d1.key))).toNat IntKind.i64.bits)))) (want_ct (t:=74) rfl rfl) (fun hk=>(r_int (gdT (u:=undef) hk) (gdT (u:=undef) hk) rfl)) rfl rfl ?_
       refine o_w (v:=.bool (((differD x71 x74) != (0:Int))&&((differD x71 x74) != (IntKind.i64.wrap ((1:Int) * 2 ^ min ((IntKind.u64.wrap (bucketD d1.val.kind d1.key))).toNat IntKind.i64.bits))))) (r_pickAnd rfl (fun ht=>(gdT (u:=undef) ht)) rfl) ?_
       refine eo_nil_sq ?_
       refine ec_cond rfl (fun hc133=>?_) (fun hc133=>?_)
       ·replace h:=h.1 hc133
        refine ec_sr ?_
        refine o_w (v:=.bool false) (r_asg rfl) ?_
        refine eo_nil_sq ?_
        refine ec_ret ?_
        refine sq_ret ?_
        subst h
        exact (end1 rfl ⟨_,rfl,E126,rfl⟩)
       ·replace h:=h.2 hc133
        refine ec_skip ?_
        refine sq_n ?_
        refine ec_seq ?_
        refine ec_sr ?_
        refine o_w (v:=.int .i64 (findA d0 d1.val.kind d1.key)) (r_mov rfl) ?_
        refine o_w (v:=.bool (decide (0≤(findA d0 d1.val.kind d1.key)))) (r_int rfl rfl rfl) ?_
        refine eo_nil_sq ?_
        refine ec_cond rfl (fun hc134=>?_) (fun hc134=>?_)
        ·replace h:=h.1 hc134
         refine ec_sr ?_
         refine o_w (v:=.bool (worksV)) (r_mov rfl) ?_
         refine o_w (v:=.bool (worksV)) (r_asg rfl) ?_
         refine eo_nil_sq ?_
         refine ec_ret ?_
         refine sq_ret ?_
         subst h
         exact (end1 rfl ⟨_,rfl,E126,rfl⟩)
        ·replace h:=h.2 hc134
         refine ec_skip ?_
         refine sq_n ?_
         refine ec_sr ?_
         refine o_w (v:=.agg (cEnt d1 A7 c8 A10 c11).toArray) (r_lda agg_api_Entry rfl (vs:=(cEnt d1 A7 c8 A10 c11)) rfl ((S15.fr (((G67.trans (Fr.ext F70)).trans (Fr.ext F114)).trans (Fr.ext F124)) sI).now.part (n:=9) rfl)) ?_
         obtain ⟨ha136,h⟩:=h
         obtain ⟨x135,hx135,h⟩:=h
         refine o_call cf_entry_Put rfl (entry_Put_c d1 (kEnt_mk (d:=d1) (H9.up (((G65.trans (Fr.ext F70)).trans (Fr.ext F114)).trans (Fr.ext F124)) sI (upc (.inr m54) (fun _ h=>.inl h))) (H12.up (((G65.trans (Fr.ext F70)).trans (Fr.ext F114)).trans (Fr.ext F124)) sI (upc (.inr m54) (fun _ h=>.inl h)))) ((hL.fr E126).cons (((B63'.ex F70).ex F114).ex F124).lt) (eq_ev hx135 (entPut_ev d1 ha136))) rfl rfl ?_
         rintro _ w135 ⟨F135,rfl⟩
         have E137:=E126.trans F135
         refine o_w (v:=.tuple #[str x135.1,.int .i64 x135.2]) (r_mov rfl) ?_
         refine o_w (v:=str x135.1) (r_ext rfl rfl) ?_
         refine o_w (v:=.int .i64 x135.2) (r_ext rfl rfl) ?_
         refine o_w (v:=str x135.1) (r_asg rfl) ?_
         refine o_w (v:=.int .i64 x135.2) (r_asg rfl) ?_
         refine eo_r ?_
         iterate 2 refine o_w (v:=.bool (worksV)) (r_mov rfl) ?_
         refine o_v (v:=.int .i64 x135.2) (r_mov rfl) (want_t (t:=88) rfl rfl (of_not hc24)) rfl rfl ?_
         refine o_v (v:=.bool (x135.2==0)) (r_int rfl rfl rfl) (want_t (t:=88) rfl rfl (of_not hc24)) rfl rfl ?_
         refine o_w (v:=.bool (x135.2==0)) (r_pickT rfl (of_not hc24) rfl) ?_
         refine o_w (v:=.bool (x135.2==0)) (r_mov rfl) ?_
         refine o_vg (v:=.int .i64 (differD x71 x74)) (want_ct (t:=92) rfl rfl) (fun hk=>(r_mov rfl)) rfl rfl ?_
         refine o_vg (v:=.int .i64 (IntKind.i64.wrap ((1:Int) * 2 ^ min ((IntKind.u64.wrap (bucketD d1.val.kind d1.key))).toNat IntKind.i64.bits))) (want_ct (t:=92) rfl rfl) (fun hk=>(r_mov rfl)) rfl rfl ?_
         refine o_vg (v:=.bool ((differD x71 x74)==(IntKind.i64.wrap ((1:Int) * 2 ^ min ((IntKind.u64.wrap (bucketD d1.val.kind d1.key))).toNat IntKind.i64.bits)))) (want_ct (t:=92) rfl rfl) (fun hk=>(r_int (gdT (u:=undef) hk) (gdT (u:=undef) hk) rfl)) rfl rfl ?_
         refine o_vg (v:=str x135.1) (want_ct (t:=92) rfl rfl) (fun hk=>(r_mov rfl)) rfl rfl ?_
         obtain ⟨ha145,h⟩:=h
         refine o_callg (V:=.int .i64 (sumC x135.1)) cf_crc_Sum (want_ct (t:=92) rfl rfl) (fun hk=>(mapv1 (gdT (u:=undef) hk))) (fun hk=>(crc_Sum_c x135.1 ((hL.fr E137).cons ((((B63'.ex F70).ex F114).ex F124).ex F135).lt) (crcSum_ev x135.1 (ha145 hk)))) rfl ?_
         intro w144 F144
         have E146:=E137.trans F144
         refine o_vg (v:=.bool ((sumC x135.1) != (0:Int))) (want_ct (t:=92) rfl rfl) (fun hk=>(r_int (gdT (u:=undef) hk) rfl rfl)) rfl rfl ?_
         refine o_vg (v:=.bool (((differD x71 x74)==(IntKind.i64.wrap ((1:Int) * 2 ^ min ((IntKind.u64.wrap (bucketD d1.val.kind d1.key))).toNat IntKind.i64.bits)))==((sumC x135.1) != (0:Int)))) (want_ct (t:=92) rfl rfl) (fun hk=>(r_boolEq un_bool (gdT (u:=undef) hk) (gdT (u:=undef) hk))) rfl rfl ?_
         refine o_w (v:=.bool ((x135.2==0)&&(((differD x71 x74)==(IntKind.i64.wrap ((1:Int) * 2 ^ min ((IntKind.u64.wrap (bucketD d1.val.kind d1.key))).toNat IntKind.i64.bits)))==((sumC x135.1) != (0:Int))))) (r_pickAnd rfl (fun ht=>(gdT (u:=undef) ht)) rfl) ?_
         refine o_w (v:=.bool ((x135.2==0)&&(((differD x71 x74)==(IntKind.i64.wrap ((1:Int) * 2 ^ min ((IntKind.u64.wrap (bucketD d1.val.kind d1.key))).toNat IntKind.i64.bits)))==((sumC x135.1) != (0:Int))))) (r_asg rfl) ?_
         refine eo_nil_sq ?_
         refine ec_ret ?_
         subst h
         exact (end1 rfl ⟨_,rfl,E146,rfl⟩)
end Go.Proofs.YthbfhgenkhkpfaaGreat
