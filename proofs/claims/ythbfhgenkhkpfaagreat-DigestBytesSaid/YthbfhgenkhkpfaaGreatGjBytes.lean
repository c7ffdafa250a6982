/- The law DigestBytes: what it comes to. -/
import Derived.Test.YthbfhgenkhkpfaaGreatMg
namespace Go.Proofs.YthbfhgenkhkpfaaGreat
open Go Go.RowKit
set_option linter.unusedVariables false
set_option linter.unusedSimpArgs false
def law10_DigestBytes_raw (d0:(List Int)) (d1:Str) (y:Bool):Prop :=
 ((!(worksV))=true→(y=false))∧((!(worksV))=false→(((decide (100<(d1.length:Int)))=true→(y=(worksV)))∧((decide (100<(d1.length:Int)))=false→(∃ x7,x7=(putD d0)∧((maxS d0)∧(∃ x10,x10=(putD d0)∧(∃ x14,x14=(getD d1)∧(∃ x25,x25=(getD d1)∧(∃ x40,x40=(getD x7.1)∧(∃ x59,x59=(putD x14.1)∧(y=((((((x7.1==x10.1)&&(x7.2==x10.2))&&(((nth x14.1 0)==(nth x25.1 0))&&(((nth x14.1 1)==(nth x25.1 1))&&(((nth x14.1 2)==(nth x25.1 2))&&(((nth x14.1 3)==(nth x25.1 3))&&true)))))&&(x14.2==x25.2))&&((x7.2 != (0:Int))||((x40.2==0)&&(((nth x40.1 0)==(nth d0 0))&&(((nth x40.1 1)==(nth d0 1))&&(((nth x40.1 2)==(nth d0 2))&&(((nth x40.1 3)==(nth d0 3))&&true)))))))&&((x14.2 != (0:Int))||((x59.2==0)&&(x59.1==d1)))))))))))))))
set_option maxRecDepth 20000 in
set_option maxHeartbeats 4000000 in
theorem law10_DigestBytes_c {L:List Nat} {w:World} (d0:(List Int)) (hlP0:d0.length=4) (d1:Str) (hL:Lt L w) {y:Bool} (h:law10_DigestBytes_raw d0 d1 y) :
  Calls Tryz.prog 4 [(.agg #[.int .i64 (nth d0 0),.int .i64 (nth d0 1),.int .i64 (nth d0 2),.int .i64 (nth d0 3)]:Value),str d1].toArray w (Ret fun v w'=>Ext w w'∧v=.bool y):=by
 unfold law10_DigestBytes_raw at h
 refine calls_ec Tryz.func4 rfl rfl rfl ?_
 refine ec_sr ?_
 refine o_box (cs:=[.int .i64 (nth d0 0),.int .i64 (nth d0 1),.int .i64 (nth d0 2),.int .i64 (nth d0 3)]) rfl rfl rfl ?_
 intro b1 w1 e1 F1 B1
 have S1:=B1.stb (nin hL e1)
 refine o_w (v:=.bool false) (r_asg rfl) ?_
 refine eo_r ?_
 refine o_call cf_law10_works rfl (law10_works_c (hL.fr F1) (works10_ev)) rfl rfl ?_
 rintro _ w2 ⟨F2,rfl⟩
 have E3:=F1.trans F2
 have G4:Fr L w1 w2:=Fr.ext F2
 refine o_w (v:=.bool (worksV)) (r_asg rfl) ?_
 refine eo_nil_sq ?_
 refine ec_seq ?_
 refine ec_sr ?_
 refine o_w (v:=.bool (worksV)) (r_mov rfl) ?_
 refine o_w (v:=.bool (!(worksV))) (r_not rfl) ?_
 refine eo_nil_sq ?_
 refine ec_cond rfl (fun hc5=>?_) (fun hc5=>?_)
 ·replace h:=h.1 hc5
  refine ec_sr ?_
  refine o_w (v:=.bool false) (r_asg rfl) ?_
  refine eo_nil_sq ?_
  refine ec_ret ?_
  refine sq_ret ?_
  subst h
  exact (end1 rfl ⟨_,rfl,E3,rfl⟩)
 ·replace h:=h.2 hc5
  refine ec_skip ?_
  refine sq_n ?_
  refine ec_seq ?_
  refine ec_sr ?_
  refine o_w (v:=str d1) (r_mov rfl) ?_
  refine o_w (v:=.int .i64 (d1.length:Int)) (r_len_str un_string rfl) ?_
  refine o_w (v:=.bool (decide (100<(d1.length:Int)))) (r_int rfl rfl rfl) ?_
  refine eo_nil_sq ?_
  refine ec_cond rfl (fun hc6=>?_) (fun hc6=>?_)
  ·replace h:=h.1 hc6
   refine ec_sr ?_
   refine o_w (v:=.bool (worksV)) (r_mov rfl) ?_
   refine o_w (v:=.bool (worksV)) (r_asg rfl) ?_
   refine eo_nil_sq ?_
   refine ec_ret ?_
   refine sq_ret ?_
   subst h
   exact (end1 rfl ⟨_,rfl,E3,rfl⟩)
  ·replace h:=h.2 hc6
   refine ec_skip ?_
   refine sq_n ?_
   refine ec_sr ?_
   refine o_w (v:=.agg #[.int .i64 (nth d0 0),.int .i64 (nth d0 1),.int .i64 (nth d0 2),.int .i64 (nth d0 3)]) (r_lda agg_4_int rfl (vs:=[.int .i64 (nth d0 0),.int .i64 (nth d0 1),.int .i64 (nth d0 2),.int .i64 (nth d0 3)]) rfl ((S1.fr G4 sI).now.part (n:=4) rfl)) ?_
   obtain ⟨x7,hx7,h⟩:=h
   refine o_call cf_digest_Put rfl (digest_Put_c d0 hlP0 (hL.fr E3) (eq_ev hx7 (digPut_ev d0))) rfl rfl ?_
   rintro _ w7 ⟨F7,rfl⟩
   have E8:=E3.trans F7
   refine o_w (v:=.tuple #[str x7.1,.int .i64 x7.2]) (r_mov rfl) ?_
   refine o_w (v:=str x7.1) (r_ext rfl rfl) ?_
   refine o_w (v:=.int .i64 x7.2) (r_ext rfl rfl) ?_
   refine o_w (v:=str x7.1) (r_asg rfl) ?_
   refine o_w (v:=.int .i64 x7.2) (r_asg rfl) ?_
   refine eo_r ?_
   refine o_w (v:=.agg #[.int .i64 (nth d0 0),.int .i64 (nth d0 1),.int .i64 (nth d0 2),.int .i64 (nth d0 3)]) (r_lda agg_4_int rfl (vs:=[.int .i64 (nth d0 0),.int .i64 (nth d0 1),.int .i64 (nth d0 2),.int .i64 (nth d0 3)]) rfl ((S1.fr (G4.trans (Fr.ext F7)) sI).now.part (n:=4) rfl)) ?_
   obtain ⟨ha11,h⟩:=h
   obtain ⟨x10,hx10,h⟩:=h
   refine o_call cf_ref10_Put rfl (ref10_Put_c d0 hlP0 (hL.fr E8) (eq_ev hx10 (refPutD_ev d0 ha11))) rfl rfl ?_
   rintro _ w10 ⟨F10,rfl⟩
   have E12:=E8.trans F10
   refine o_w (v:=.tuple #[str x10.1,.int .i64 x10.2]) (r_mov rfl) ?_
   refine o_w (v:=str x10.1) (r_ext rfl rfl) ?_
   refine o_w (v:=.int .i64 x10.2) (r_ext rfl rfl) ?_
   refine o_w (v:=str x10.1) (r_asg rfl) ?_
   refine o_w (v:=.int .i64 x10.2) (r_asg rfl) ?_
   refine eo_r ?_
   refine o_w (v:=str d1) (r_mov rfl) ?_
   obtain ⟨x14,hx14,h⟩:=h
   refine o_call cf_digest_Get rfl (digest_Get_c d1 (hL.fr E12) (eq_ev hx14 (digGet_ev d1))) rfl rfl ?_
   rintro _ w14 ⟨F14,rfl,hl15⟩
   have E16:=E12.trans F14
   refine o_w (v:=.tuple #[.agg #[.int .i64 (nth x14.1 0),.int .i64 (nth x14.1 1),.int .i64 (nth x14.1 2),.int .i64 (nth x14.1 3)],.int .i64 x14.2]) (r_mov rfl) ?_
   refine o_w (v:=.agg #[.int .i64 (nth x14.1 0),.int .i64 (nth x14.1 1),.int .i64 (nth x14.1 2),.int .i64 (nth x14.1 3)]) (r_ext rfl rfl) ?_
   refine o_w (v:=.int .i64 x14.2) (r_ext rfl rfl) ?_
   refine o_alloc zero_4_int rfl rfl rfl ?_
   intro b18 w18 e18 F18 B18
   have n18:w.heap.size≤b18:=by rw [e18]; exact E16.size
   have m19:w1.heap.size≤b18:=by rw [e18]; exact (((G4.trans (Fr.ext F7)).trans (Fr.ext F10)).trans (Fr.ext F14)).size
   have E20:=E16.trans F18
   have G21:=(((G4.trans (Fr.ext F7)).trans (Fr.ext F10)).trans (Fr.ext F14)).trans (Fr.ext F18)
   refine o_store rfl B18 (vs:=[.int .i64 (nth x14.1 0),.int .i64 (nth x14.1 1),.int .i64 (nth x14.1 2),.int .i64 (nth x14.1 3)]) rfl sz_4_int rfl rfl rfl ?_
   intro w22 F22 B22
   have E23:=Ext.st E20 F22 (by simp; omega)
   have G24:Fr L w1 w22:=G21.stp F22 (upc (.inr m19) (fun m hm=>by cases hm))
   have B22':Blk w22 b18 _ [.int .i64 (nth x14.1 0),.int .i64 (nth x14.1 1),.int .i64 (nth x14.1 2),.int .i64 (nth x14.1 3)]:=B22
   refine o_w (v:=.int .i64 x14.2) (r_asg rfl) ?_
   refine eo_r ?_
   refine o_w (v:=str d1) (r_mov rfl) ?_
   obtain ⟨x25,hx25,h⟩:=h
   refine o_call cf_ref10_Get rfl (ref10_Get_c d1 ((hL.fr E23).cons B22'.lt) (eq_ev hx25 (refGetD_ev d1))) rfl rfl ?_
   rintro _ w25 ⟨F25,rfl,hl26⟩
   have E27:=E23.trans F25
   refine o_w (v:=.tuple #[.agg #[.int .i64 (nth x25.1 0),.int .i64 (nth x25.1 1),.int .i64 (nth x25.1 2),.int .i64 (nth x25.1 3)],.int .i64 x25.2]) (r_mov rfl) ?_
   refine o_w (v:=.agg #[.int .i64 (nth x25.1 0),.int .i64 (nth x25.1 1),.int .i64 (nth x25.1 2),.int .i64 (nth x25.1 3)]) (r_ext rfl rfl) ?_
   refine o_w (v:=.int .i64 x25.2) (r_ext rfl rfl) ?_
   refine o_alloc zero_4_int rfl rfl rfl ?_
   intro b30 w30 e30 F30 B30
   have n30:w.heap.size≤b30:=by rw [e30]; exact E27.size
   have q31:b18<b30:=by rw [e30]; exact (B22'.ex F25).lt
   have m32:w1.heap.size≤b30:=by rw [e30]; exact (G24.trans (Fr.ext F25)).size
   have E33:=E27.trans F30
   refine o_store rfl B30 (vs:=[.int .i64 (nth x25.1 0),.int .i64 (nth x25.1 1),.int .i64 (nth x25.1 2),.int .i64 (nth x25.1 3)]) rfl sz_4_int rfl rfl rfl ?_
   intro w36 F36 B36
   have E37:=Ext.st E33 F36 (by simp; omega)
   have G38:Fr L w1 w36:=((G24.trans (Fr.ext F25)).trans (Fr.ext F30)).stp F36 (upc (.inr m32) (fun m hm=>by cases hm))
   have B39:=((B22'.ex F25).ex F30).fr F36 (by simp; omega)
   have B36':Blk w36 b30 _ [.int .i64 (nth x25.1 0),.int .i64 (nth x25.1 1),.int .i64 (nth x25.1 2),.int .i64 (nth x25.1 3)]:=B36
   refine o_w (v:=.int .i64 x25.2) (r_asg rfl) ?_
   refine eo_r ?_
   refine o_w (v:=str x7.1) (r_mov rfl) ?_
   obtain ⟨x40,hx40,h⟩:=h
   refine o_call cf_digest_Get rfl (digest_Get_c x7.1 (((hL.fr E37).cons B39.lt).cons B36'.lt) (eq_ev hx40 (digGet_ev x7.1))) rfl rfl ?_
   rintro _ w40 ⟨F40,rfl,hl41⟩
   have E42:=E37.trans F40
   refine o_w (v:=.tuple #[.agg #[.int .i64 (nth x40.1 0),.int .i64 (nth x40.1 1),.int .i64 (nth x40.1 2),.int .i64 (nth x40.1 3)],.int .i64 x40.2]) (r_mov rfl) ?_
   refine o_w (v:=.agg #[.int .i64 (nth x40.1 0),.int .i64 (nth x40.1 1),.int .i64 (nth x40.1 2),.int .i64 (nth x40.1 3)]) (r_ext rfl rfl) ?_
   refine o_w (v:=.int .i64 x40.2) (r_ext rfl rfl) ?_
   refine o_alloc zero_4_int rfl rfl rfl ?_
   intro b46 w46 e46 F46 B46
   have n46:w.heap.size≤b46:=by rw [e46]; exact E42.size
   have q47:b18<b46:=by rw [e46]; exact (B39.ex F40).lt
   have q48:b30<b46:=by rw [e46]; exact (B36'.ex F40).lt
   have m49:w1.heap.size≤b46:=by rw [e46]; exact (G38.trans (Fr.ext F40)).size
   have E50:=E42.trans F46
   refine o_store rfl B46 (vs:=[.int .i64 (nth x40.1 0),.int .i64 (nth x40.1 1),.int .i64 (nth x40.1 2),.int .i64 (nth x40.1 3)]) rfl sz_4_int rfl rfl rfl ?_
   intro w54 F54 B54
   have E55:=Ext.st E50 F54 (by simp; omega)
   have G56:Fr L w1 w54:=((G38.trans (Fr.ext F40)).trans (Fr.ext F46)).stp F54 (upc (.inr m49) (fun m hm=>by cases hm))
   have B57:=((B39.ex F40).ex F46).fr F54 (by simp; omega)
   have B58:=((B36'.ex F40).ex F46).fr F54 (by simp; omega)
   have B54':Blk w54 b46 _ [.int .i64 (nth x40.1 0),.int .i64 (nth x40.1 1),.int .i64 (nth x40.1 2),.int .i64 (nth x40.1 3)]:=B54
   refine o_w (v:=.int .i64 x40.2) (r_asg rfl) ?_
   refine eo_r ?_
   refine o_w (v:=.agg #[.int .i64 (nth x14.1 0),.int .i64 (nth x14.1 1),.int .i64 (nth x14.1 2),.int .i64 (nth x14.1 3)]) (r_lda agg_4_int rfl (vs:=[.int .i64 (nth x14.1 0),.int .i64 (nth x14.1 1),.int .i64 (nth x14.1 2),.int .i64 (nth x14.1 3)]) rfl (B57.part (n:=4) rfl)) ?_
   obtain ⟨x59,hx59,h⟩:=h
   refine o_call cf_digest_Put rfl (digest_Put_c x14.1 hl15 ((((hL.fr E55).cons B57.lt).cons B58.lt).cons B54'.lt) (eq_ev hx59 (digPut_ev x14.1))) rfl rfl ?_
   rintro _ w59 ⟨F59,rfl⟩
   have E60:=E55.trans F59
   refine o_w (v:=.tuple #[str x59.1,.int .i64 x59.2]) (r_mov rfl) ?_
   refine o_w (v:=str x59.1) (r_ext rfl rfl) ?_
   refine o_w (v:=.int .i64 x59.2) (r_ext rfl rfl) ?_
   refine o_w (v:=str x59.1) (r_asg rfl) ?_
   refine o_w (v:=.int .i64 x59.2) (r_asg rfl) ?_
   refine eo_r ?_
   iterate 2 refine o_w (v:=.bool (worksV)) (r_mov rfl) ?_
   refine o_v (v:=str x7.1) (r_mov rfl) (want_t (t:=56) rfl rfl (of_not hc5)) rfl rfl ?_
   refine o_v (v:=str x10.1) (r_mov rfl) (want_t (t:=56) rfl rfl (of_not hc5)) rfl rfl ?_
   refine o_v (v:=.bool (x7.1==x10.1)) (r_str rfl rfl rfl) (want_t (t:=56) rfl rfl (of_not hc5)) rfl rfl ?_
   refine o_w (v:=.bool (x7.1==x10.1)) (r_pickT rfl (of_not hc5) rfl) ?_
   refine o_w (v:=.bool (x7.1==x10.1)) (r_mov rfl) ?_
   refine o_vg (v:=.int .i64 x7.2) (want_ct (t:=61) rfl rfl) (fun hk=>(r_mov rfl)) rfl rfl ?_
   refine o_vg (v:=.int .i64 x10.2) (want_ct (t:=61) rfl rfl) (fun hk=>(r_mov rfl)) rfl rfl ?_
   refine o_vg (v:=.bool (x7.2==x10.2)) (want_ct (t:=61) rfl rfl) (fun hk=>(r_int (gdT (u:=undef) hk) (gdT (u:=undef) hk) rfl)) rfl rfl ?_
   refine o_w (v:=.bool ((x7.1==x10.1)&&(x7.2==x10.2))) (r_pickAnd rfl (fun ht=>(gdT (u:=undef) ht)) rfl) ?_
   refine o_w (v:=.bool ((x7.1==x10.1)&&(x7.2==x10.2))) (r_mov rfl) ?_
   refine o_vg (v:=.agg #[.int .i64 (nth x14.1 0),.int .i64 (nth x14.1 1),.int .i64 (nth x14.1 2),.int .i64 (nth x14.1 3)]) (want_ct (t:=66) rfl rfl) (fun hk=>(r_lda agg_4_int rfl (vs:=[.int .i64 (nth x14.1 0),.int .i64 (nth x14.1 1),.int .i64 (nth x14.1 2),.int .i64 (nth x14.1 3)]) rfl ((B57.ex F59).part (n:=4) rfl))) rfl rfl ?_
   refine o_vg (v:=.agg #[.int .i64 (nth x25.1 0),.int .i64 (nth x25.1 1),.int .i64 (nth x25.1 2),.int .i64 (nth x25.1 3)]) (want_ct (t:=66) rfl rfl) (fun hk=>(r_lda agg_4_int rfl (vs:=[.int .i64 (nth x25.1 0),.int .i64 (nth x25.1 1),.int .i64 (nth x25.1 2),.int .i64 (nth x25.1 3)]) rfl ((B58.ex F59).part (n:=4) rfl))) rfl rfl ?_
   refine o_vg (v:=.bool (((nth x14.1 0)==(nth x25.1 0))&&(((nth x14.1 1)==(nth x25.1 1))&&(((nth x14.1 2)==(nth x25.1 2))&&(((nth x14.1 3)==(nth x25.1 3))&&true))))) (want_ct (t:=66) rfl rfl) (fun hk=>(r_eqSt eqg_4_int (eqs_4_int (nth x14.1 0) (nth x14.1 1) (nth x14.1 2) (nth x14.1 3) (nth x25.1 0) (nth x25.1 1) (nth x25.1 2) (nth x25.1 3)) (gdT (u:=undef) hk) (gdT (u:=undef) hk))) rfl rfl ?_
   refine o_w (v:=.bool (((x7.1==x10.1)&&(x7.2==x10.2))&&(((nth x14.1 0)==(nth x25.1 0))&&(((nth x14.1 1)==(nth x25.1 1))&&(((nth x14.1 2)==(nth x25.1 2))&&(((nth x14.1 3)==(nth x25.1 3))&&true)))))) (r_pickAnd rfl (fun ht=>(gdT (u:=undef) ht)) rfl) ?_
   refine o_w (v:=.bool (((x7.1==x10.1)&&(x7.2==x10.2))&&(((nth x14.1 0)==(nth x25.1 0))&&(((nth x14.1 1)==(nth x25.1 1))&&(((nth x14.1 2)==(nth x25.1 2))&&(((nth x14.1 3)==(nth x25.1 3))&&true)))))) (r_mov rfl) ?_
   refine o_vg (v:=.int .i64 x14.2) (want_ct (t:=71) rfl rfl) (fun hk=>(r_mov rfl)) rfl rfl ?_
   refine o_vg (v:=.int .i64 x25.2) (want_ct (t:=71) rfl rfl) (fun hk=>(r_mov rfl)) rfl rfl ?_
   refine o_vg (v:=.bool (x14.2==x25.2)) (want_ct (t:=71) rfl rfl) (fun hk=>(r_int (gdT (u:=undef) hk) (gdT (u:=undef) hk) rfl)) rfl rfl ?_
   refine o_w (v:=.bool ((((x7.1==x10.1)&&(x7.2==x10.2))&&(((nth x14.1 0)==(nth x25.1 0))&&(((nth x14.1 1)==(nth x25.1 1))&&(((nth x14.1 2)==(nth x25.1 2))&&(((nth x14.1 3)==(nth x25.1 3))&&true)))))&&(x14.2==x25.2))) (r_pickAnd rfl (fun ht=>(gdT (u:=undef) ht)) rfl) ?_
   refine o_w (v:=.bool ((((x7.1==x10.1)&&(x7.2==x10.2))&&(((nth x14.1 0)==(nth x25.1 0))&&(((nth x14.1 1)==(nth x25.1 1))&&(((nth x14.1 2)==(nth x25.1 2))&&(((nth x14.1 3)==(nth x25.1 3))&&true)))))&&(x14.2==x25.2))) (r_mov rfl) ?_
   refine o_vg (v:=.int .i64 x7.2) (want_ct (t:=76) rfl rfl) (fun hk=>(r_mov rfl)) rfl rfl ?_
   refine o_vg (v:=.bool (x7.2 != (0:Int))) (want_ct (t:=76) rfl rfl) (fun hk=>(r_int (gdT (u:=undef) hk) rfl rfl)) rfl rfl ?_
   refine o_vg (v:=.bool (x7.2 != (0:Int))) (want_ct (t:=76) rfl rfl) (fun hk=>(r_mov (gdT (u:=undef) hk))) rfl rfl ?_
   refine o_vg (v:=.int .i64 x40.2) (want_gf (t:=79) rfl rfl) (fun hk=>(r_mov rfl)) rfl rfl ?_
   refine o_vg (v:=.bool (x40.2==0)) (want_gf (t:=79) rfl rfl) (fun hk=>(r_int (gdT (u:=undef) hk) rfl rfl)) rfl rfl ?_
   refine o_vg (v:=.bool (x40.2==0)) (want_gf (t:=79) rfl rfl) (fun hk=>(r_mov (gdT (u:=undef) hk))) rfl rfl ?_
   refine o_vg (v:=.agg #[.int .i64 (nth x40.1 0),.int .i64 (nth x40.1 1),.int .i64 (nth x40.1 2),.int .i64 (nth x40.1 3)]) (want_gt (t:=82) rfl rfl) (fun hk=>(r_lda agg_4_int rfl (vs:=[.int .i64 (nth x40.1 0),.int .i64 (nth x40.1 1),.int .i64 (nth x40.1 2),.int .i64 (nth x40.1 3)]) rfl ((B54'.ex F59).part (n:=4) rfl))) rfl rfl ?_
   refine o_vg (v:=.agg #[.int .i64 (nth d0 0),.int .i64 (nth d0 1),.int .i64 (nth d0 2),.int .i64 (nth d0 3)]) (want_gt (t:=82) rfl rfl) (fun hk=>(r_lda agg_4_int rfl (vs:=[.int .i64 (nth d0 0),.int .i64 (nth d0 1),.int .i64 (nth d0 2),.int .i64 (nth d0 3)]) rfl ((S1.fr (G56.trans (Fr.ext F59)) sI).now.part (n:=4) rfl))) rfl rfl ?_
   refine o_vg (v:=.bool (((nth x40.1 0)==(nth d0 0))&&(((nth x40.1 1)==(nth d0 1))&&(((nth x40.1 2)==(nth d0 2))&&(((nth x40.1 3)==(nth d0 3))&&true))))) (want_gt (t:=82) rfl rfl) (fun hk=>(r_eqSt eqg_4_int (eqs_4_int (nth x40.1 0) (nth x40.1 1) (nth x40.1 2) (nth x40.1 3) (nth d0 0) (nth d0 1) (nth d0 2) (nth d0 3)) (gdT (u:=undef) hk) (gdT (u:=undef) hk))) rfl rfl ?_
   refine o_vg (v:=.bool ((x40.2==0)&&(((nth x40.1 0)==(nth d0 0))&&(((nth x40.1 1)==(nth d0 1))&&(((nth x40.1 2)==(nth d0 2))&&(((nth x40.1 3)==(nth d0 3))&&true)))))) (want_gf (t:=79) rfl rfl) (fun hk=>(r_pickAnd (gdT (u:=undef) hk) (fun ht=>(gdT (u:=undef) (andM hk ht))) rfl)) rfl rfl ?_
   refine o_vg (v:=.bool ((x7.2 != (0:Int))||((x40.2==0)&&(((nth x40.1 0)==(nth d0 0))&&(((nth x40.1 1)==(nth d0 1))&&(((nth x40.1 2)==(nth d0 2))&&(((nth x40.1 3)==(nth d0 3))&&true))))))) (want_ct (t:=76) rfl rfl) (fun hk=>(r_pickOr (gdT (u:=undef) hk) rfl (fun hf=>(gdT (u:=undef) (andM hk (notT hf)))))) rfl rfl ?_
   refine o_w (v:=.bool (((((x7.1==x10.1)&&(x7.2==x10.2))&&(((nth x14.1 0)==(nth x25.1 0))&&(((nth x14.1 1)==(nth x25.1 1))&&(((nth x14.1 2)==(nth x25.1 2))&&(((nth x14.1 3)==(nth x25.1 3))&&true)))))&&(x14.2==x25.2))&&((x7.2 != (0:Int))||((x40.2==0)&&(((nth x40.1 0)==(nth d0 0))&&(((nth x40.1 1)==(nth d0 1))&&(((nth x40.1 2)==(nth d0 2))&&(((nth x40.1 3)==(nth d0 3))&&true)))))))) (r_pickAnd rfl (fun ht=>(gdT (u:=undef) ht)) rfl) ?_
   refine o_w (v:=.bool (((((x7.1==x10.1)&&(x7.2==x10.2))&&(((nth x14.1 0)==(nth x25.1 0))&&(((nth x14.1 1)==(nth x25.1 1))&&(((nth x14.1 2)==(nth x25.1 2))&&(((nth x14.1 3)==(nth x25.1 3))&&true)))))&&(x14.2==x25.2))&&((x7.2 != (0:Int))||((x40.2==0)&&(((nth x40.1 0)==(nth d0 0))&&(((nth x40.1 1)==(nth d0 1))&&(((nth x40.1 2)==(nth d0 2))&&(((nth x40.1 3)==(nth d0 3))&&true)))))))) (r_mov rfl) ?_
   refine o_vg (v:=.int .i64 x14.2) (want_ct (t:=89) rfl rfl) (fun hk=>(r_mov rfl)) rfl rfl ?_
   refine o_vg (v:=.bool (x14.2 != (0:Int))) (want_ct (t:=89) rfl rfl) (fun hk=>(r_int (gdT (u:=undef) hk) rfl rfl)) rfl rfl ?_
   refine o_vg (v:=.bool (x14.2 != (0:Int))) (want_ct (t:=89) rfl rfl) (fun hk=>(r_mov (gdT (u:=undef) hk))) rfl rfl ?_
   refine o_vg (v:=.int .i64 x59.2) (want_gf (t:=92) rfl rfl) (fun hk=>(r_mov rfl)) rfl rfl ?_
   refine o_vg (v:=.bool (x59.2==0)) (want_gf (t:=92) rfl rfl) (fun hk=>(r_int (gdT (u:=undef) hk) rfl rfl)) rfl rfl ?_
   refine o_vg (v:=.bool (x59.2==0)) (want_gf (t:=92) rfl rfl) (fun hk=>(r_mov (gdT (u:=undef) hk))) rfl rfl ?_
   refine o_vg (v:=str x59.1) (want_gt (t:=95) rfl rfl) (fun hk=>(r_mov rfl)) rfl rfl ?_
   refine o_vg (v:=str d1) (want_gt (t:=95) rfl rfl) (fun hk=>(r_mov rfl)) rfl rfl ?_
   refine o_vg (v:=.bool (x59.1==d1)) (want_gt (t:=95) rfl rfl) (fun hk=>(r_str (gdT (u:=undef) hk) (gdT (u:=undef) hk) rfl)) rfl rfl ?_
   refine o_vg (v:=.bool ((x59.2==0)&&(x59.1==d1))) (want_gf (t:=92) rfl rfl) (fun hk=>(r_pickAnd (gdT (u:=undef) hk) (fun ht=>(gdT (u:=undef) (andM hk ht))) rfl)) rfl rfl ?_
   refine o_vg (v:=.bool ((x14.2 != (0:Int))||((x59.2==0)&&(x59.1==d1)))) (want_ct (t:=89) rfl rfl) (fun hk=>(r_pickOr (gdT (u:=undef) hk) rfl (fun hf=>(gdT (u:=undef) (andM hk (notT hf)))))) rfl rfl ?_
   refine o_w (v:=.bool ((((((x7.1==x10.1)&&(x7.2==x10.2))&&(((nth x14.1 0)==(nth x25.1 0))&&(((nth x14.1 1)==(nth x25.1 1))&&(((nth x14.1 2)==(nth x25.1 2))&&(((nth x14.1 3)==(nth x25.1 3))&&true)))))&&(x14.2==x25.2))&&((x7.2 != (0:Int))||((x40.2==0)&&(((nth x40.1 0)==(nth d0 0))&&(((nth x40.1 1)==(nth d0 1))&&(((nth x40.1 2)==(nth d0 2))&&(((nth x40.1 3)==(nth d0 3))&&true)))))))&&((x14.2 != (0:Int))||((x59.2==0)&&(x59.1==d1))))) (r_pickAnd rfl (fun ht=>(gdT (u:=undef) ht)) rfl) ?_
   refine o_w (v:=.bool ((((((x7.1==x10.1)&&(x7.2==x10.2))&&(((nth x14.1 0)==(nth x25.1 0))&&(((nth x14.1 1)==(nth x25.1 1))&&(((nth x14.1 2)==(nth x25.1 2))&&(((nth x14.1 3)==(nth x25.1 3))&&true)))))&&(x14.2==x25.2))&&((x7.2 != (0:Int))||((x40.2==0)&&(((nth x40.1 0)==(nth d0 0))&&(((nth x40.1 1)==(nth d0 1))&&(((nth x40.1 2)==(nth d0 2))&&(((nth x40.1 3)==(nth d0 3))&&true)))))))&&((x14.2 != (0:Int))||((x59.2==0)&&(x59.1==d1))))) (r_asg rfl) ?_
   refine eo_nil_sq ?_
   refine ec_ret ?_
   subst h
   exact (end1 rfl ⟨_,rfl,E60,rfl⟩)
end Go.Proofs.YthbfhgenkhkpfaaGreat
