/- The law FrameBack: what it comes to. -/
import Derived.Test.YtdfjbkoimpjkaaaGreatVn
namespace Go.Proofs.YtdfjbkoimpjkaaaGreat
open Go Go.RowKit
set_option linter.unusedVariables false
set_option linter.unusedSimpArgs false
def law14_FrameBack_raw (d0:Frm) (d1:Str) (y:Bool):Prop :=
 ((!(worksV))=true→(y=false))∧((!(worksV))=false→((((12:Int):Int)≤100)∧((((!(entriesB d0.entries (12:Int)))||(decide (450<(d1.length:Int))))=true→(y=(worksV)))∧(((!(entriesB d0.entries (12:Int)))||(decide (450<(d1.length:Int))))=false→((sml d0.entries)∧(∃ x18,x18=(putFr d0)∧((x18.1.length≤1000000000)∧(∃ x23,x23=(getFr x18.1)∧((((x18.2==0)&&(!(x23.2 != (0:Int))))=true→sml d0.entries)∧(((((x18.2==0)&&((x23.2 != (0:Int))||(!(sameF d0 x23.1))))||((x18.2 != (0:Int))&&(!(x18.1==([]:Str)))))=true→(y=false))∧((((x18.2==0)&&((x23.2 != (0:Int))||(!(sameF d0 x23.1))))||((x18.2 != (0:Int))&&(!(x18.1==([]:Str)))))=false→((d1.length≤1000000000)∧(∃ x56,x56=(getFr d1)∧((sml x56.1.entries)∧(∃ x88,x88=(putFr x56.1)∧(((((x56.2==0)&&(x88.2==0))&&(x88.1==d1))=true→sml x56.1.entries)∧((((!((((x56.2==0)&&(x88.2==0))&&(x88.1==d1))&&((checkF x56.1)==0)))&&(x56.2==2))=true→sml x56.1.entries)∧(y=(((((x56.2==0)&&(x88.2==0))&&(x88.1==d1))&&((checkF x56.1)==0))||((x56.2==2)&&(sameF x56.1 (⟨(0:Int),(0:Int),(0:Int),[(0:Int),(0:Int),(0:Int),(0:Int)],([]:List Ent)⟩:Frm))))))))))))))))))))))
set_option maxRecDepth 20000 in
set_option maxHeartbeats 4000000 in
theorem law14_FrameBack_c {L:List Nat} {w:World} {csP0:List Value} (d0:Frm) (HP0:Stb L w (fun w=>kFrm.r w csP0 d0)) (d1:Str) (hL:Lt L w) {y:Bool} (h:law14_FrameBack_raw d0 d1 y) :
  Calls Tryz.prog 5 [.agg csP0.toArray,str d1].toArray w (Ret fun v w'=>Ext w w'∧v=.bool y):=by
 obtain ⟨A2,c3,rfl,H4,hl1⟩:=kFrm_open HP0
 unfold law14_FrameBack_raw at h
 refine calls_ec Tryz.func5 rfl rfl rfl ?_
 refine ec_sr ?_
 refine o_box (cs:=(cFrm d0 A2 c3)) rfl rfl rfl ?_
 intro b5 w5 e5 F5 B5
 have S5:=B5.stb (nin hL e5)
 have G6:Fr L w w5:=Fr.ext F5
 refine o_w (v:=.bool false) (r_asg rfl) ?_
 refine eo_r ?_
 refine o_call cf_law14_works rfl (law14_works_c (hL.fr F5) (works14_ev)) rfl rfl ?_
 rintro _ w7 ⟨F7,rfl⟩
 have E8:=F5.trans F7
 have G10:Fr L w5 w7:=Fr.ext F7
 refine o_w (v:=.bool (worksV)) (r_asg rfl) ?_
 refine eo_nil_sq ?_
 refine ec_seq ?_
 refine ec_sr ?_
 refine o_w (v:=.bool (worksV)) (r_mov rfl) ?_
 refine o_w (v:=.bool (!(worksV))) (r_not rfl) ?_
 refine eo_nil_sq ?_
 refine ec_cond rfl (fun hc11=>?_) (fun hc11=>?_)
 ·replace h:=h.1 hc11
  refine ec_sr ?_
  refine o_w (v:=.bool false) (r_asg rfl) ?_
  refine eo_nil_sq ?_
  refine ec_ret ?_
  refine sq_ret ?_
  subst h
  exact (end1 rfl ⟨_,rfl,E8,rfl⟩)
 ·replace h:=h.2 hc11
  refine ec_skip ?_
  refine sq_n ?_
  refine ec_sr ?_
  refine o_w (v:=.pointer (some ⟨b5,7,none⟩)) (r_fa fld_frame_Frame_4 rfl rfl) ?_
  refine o_w (v:=.slice A2 d0.entries.length c3) (r_ld one_s_api_Entry rfl ((S5.fr G10 sI).now.cell rfl)) ?_
  obtain ⟨ha13,h⟩:=h
  refine o_call cf_law08_Entries rfl (law08_Entries_c d0.entries (H4.fr (G6.trans (Fr.ext F7)) sI) (12:Int) (hL.fr E8) (entries_ev d0.entries (12:Int) ha13)) rfl rfl ?_
  rintro _ w12 ⟨F12,rfl⟩
  have E14:=E8.trans F12
  refine o_w (v:=.bool (entriesB d0.entries (12:Int))) (r_asg rfl) ?_
  refine eo_nil_sq ?_
  refine ec_seq ?_
  refine ec_sr ?_
  refine o_w (v:=.bool (entriesB d0.entries (12:Int))) (r_mov rfl) ?_
  refine o_w (v:=.bool (!(entriesB d0.entries (12:Int)))) (r_not rfl) ?_
  refine o_w (v:=.bool (!(entriesB d0.entries (12:Int)))) (r_mov rfl) ?_
  refine o_vg (v:=str d1) (want_cf (t:=23) rfl rfl) (fun hk=>(r_mov rfl)) rfl rfl ?_
  refine o_vg (v:=.int .i64 (d1.length:Int)) (want_cf (t:=23) rfl rfl) (fun hk=>(r_len_str un_string (gdT (u:=undef) hk))) rfl rfl ?_
  refine o_vg (v:=.bool (decide (450<(d1.length:Int)))) (want_cf (t:=23) rfl rfl) (fun hk=>(r_int (gdT (u:=undef) hk) rfl rfl)) rfl rfl ?_
  refine o_w (v:=.bool ((!(entriesB d0.entries (12:Int)))||(decide (450<(d1.length:Int))))) (r_pickOr rfl rfl (fun hf=>(gdT (u:=undef) (notT hf)))) ?_
  refine eo_nil_sq ?_
  refine ec_cond rfl (fun hc17=>?_) (fun hc17=>?_)
  ·replace h:=h.1 hc17
   refine ec_sr ?_
   refine o_w (v:=.bool (worksV)) (r_mov rfl) ?_
   refine o_w (v:=.bool (worksV)) (r_asg rfl) ?_
   refine eo_nil_sq ?_
   refine ec_ret ?_
   refine sq_ret ?_
   subst h
   exact (end1 rfl ⟨_,rfl,E14,rfl⟩)
  ·replace h:=h.2 hc17
   refine ec_skip ?_
   refine sq_n ?_
   refine ec_sr ?_
   refine o_w (v:=.agg (cFrm d0 A2 c3).toArray) (r_lda agg_frame_Frame rfl (vs:=(cFrm d0 A2 c3)) rfl ((S5.fr (G10.trans (Fr.ext F12)) sI).now.part (n:=8) rfl)) ?_
   obtain ⟨ha19,h⟩:=h
   obtain ⟨x18,hx18,h⟩:=h
   refine o_call cf_frame_Put rfl (frame_Put_c d0 (kFrm_mk (d:=d0) (H4.fr ((G6.trans (Fr.ext F7)).trans (Fr.ext F12)) sI) hl1) (hL.fr E14) (eq_ev hx18 (frPut_ev d0 ha19))) rfl rfl ?_
   rintro _ w18 ⟨F18,rfl⟩
   have E20:=E14.trans F18
   refine o_w (v:=.tuple #[str x18.1,.int .i64 x18.2]) (r_mov rfl) ?_
   refine o_w (v:=str x18.1) (r_ext rfl rfl) ?_
   refine o_w (v:=.int .i64 x18.2) (r_ext rfl rfl) ?_
   refine o_w (v:=str x18.1) (r_asg rfl) ?_
   refine o_w (v:=.int .i64 x18.2) (r_asg rfl) ?_
   refine eo_r ?_
   refine o_w (v:=str x18.1) (r_mov rfl) ?_
   obtain ⟨ha24,h⟩:=h
   obtain ⟨x23,hx23,h⟩:=h
   refine o_call cf_frame_Get rfl (frame_Get_c x18.1 (hL.fr E20) (eq_ev hx23 (frGet_ev x18.1 ha24))) rfl rfl ?_
   rintro _ w23 ⟨F23,cs25,rfl,H26⟩
   have E27:=E20.trans F23
   have G28:=(((G6.trans (Fr.ext F7)).trans (Fr.ext F12)).trans (Fr.ext F18)).trans (Fr.ext F23)
   obtain ⟨A31,c32,rfl,H33,hl30⟩:=kFrm_open H26
   refine o_w (v:=.tuple #[.agg (cFrm x23.1 A31 c32).toArray,.int .i64 x23.2]) (r_mov rfl) ?_
   refine o_w (v:=.agg (cFrm x23.1 A31 c32).toArray) (r_ext rfl rfl) ?_
   refine o_w (v:=.int .i64 x23.2) (r_ext rfl rfl) ?_
   refine o_alloc zero_frame_Frame rfl rfl rfl ?_
   intro b34 w34 e34 F34 B34
   have n34:w.heap.size≤b34:=by rw [e34]; exact E27.size
   have m35:w.heap.size≤b34:=by rw [e34]; exact G28.size
   have m36:w5.heap.size≤b34:=by rw [e34]; exact (((G10.trans (Fr.ext F12)).trans (Fr.ext F18)).trans (Fr.ext F23)).size
   have m37:w23.heap.size≤b34:=Nat.le_of_eq e34.symm
   have E38:=E27.trans F34
   have G40:=(((G10.trans (Fr.ext F12)).trans (Fr.ext F18)).trans (Fr.ext F23)).trans (Fr.ext F34)
   have G41:Fr L w23 w34:=Fr.ext F34
   refine o_store rfl B34 (vs:=(cFrm x23.1 A31 c32)) rfl sz_frame_Frame rfl rfl rfl ?_
   intro w42 F42 B42
   have E43:=Ext.st E38 F42 (by simp; omega)
   have G44:Fr L w w42:=(G28.trans (Fr.ext F34)).stp F42 (upc (.inr m35) (fun m hm=>by cases hm))
   have G45:Fr L w5 w42:=G40.stp F42 (upc (.inr m36) (fun m hm=>by cases hm))
   have G46:Fr L w23 w42:=G41.stp F42 (upc (.inr m37) (fun m hm=>by cases hm))
   have B42':Blk w42 b34 _ (cFrm x23.1 A31 c32):=B42
   refine o_w (v:=.int .i64 x23.2) (r_asg rfl) ?_
   refine eo_nil_sq ?_
   refine ec_seq ?_
   refine ec_sr ?_
   refine o_w (v:=.int .i64 x18.2) (r_mov rfl) ?_
   refine o_w (v:=.bool (x18.2==0)) (r_int rfl rfl rfl) ?_
   refine o_w (v:=.bool (x18.2==0)) (r_mov rfl) ?_
   refine o_vg (v:=.int .i64 x23.2) (want_ct (t:=41) rfl rfl) (fun hk=>(r_mov rfl)) rfl rfl ?_
   refine o_vg (v:=.bool (x23.2 != (0:Int))) (want_ct (t:=41) rfl rfl) (fun hk=>(r_int (gdT (u:=undef) hk) rfl rfl)) rfl rfl ?_
   refine o_vg (v:=.bool (x23.2 != (0:Int))) (want_ct (t:=41) rfl rfl) (fun hk=>(r_mov (gdT (u:=undef) hk))) rfl rfl ?_
   refine o_vg (v:=.agg (cFrm d0 A2 c3).toArray) (want_gf (t:=44) rfl rfl) (fun hk=>(r_lda agg_frame_Frame rfl (vs:=(cFrm d0 A2 c3)) rfl ((S5.fr G45 sI).now.part (n:=8) rfl))) rfl rfl ?_
   refine o_vg (v:=.agg (cFrm x23.1 A31 c32).toArray) (want_gf (t:=44) rfl rfl) (fun hk=>(r_lda agg_frame_Frame rfl (vs:=(cFrm x23.1 A31 c32)) rfl (B42'.part (n:=8) rfl))) rfl rfl ?_
   obtain ⟨ha49,h⟩:=h
   refine o_callg (V:=.bool (sameF d0 x23.1)) cf_frame_Same (want_gf (t:=44) rfl rfl) (fun hk=>(mapv2 (gdT (u:=undef) hk) (gdT (u:=undef) hk))) (fun hk=>(frame_Same_c d0 (kFrm_mk (d:=d0) (H4.up G44 sI (upc (.inr m35) (fun _ h=>.inl h))) hl1) x23.1 (kFrm_mk (d:=x23.1) (H33.up G46 sI (upc (.inr m37) (fun _ h=>.inl h))) hl30) ((hL.fr E43).cons B42'.lt) (frSame_ev d0 x23.1 (ha49 hk)))) rfl ?_
   intro w48 F48
   have E50:=E43.trans F48
   refine o_vg (v:=.bool (!(sameF d0 x23.1))) (want_gf (t:=44) rfl rfl) (fun hk=>(r_not (gdT (u:=undef) hk))) rfl rfl ?_
   refine o_vg (v:=.bool ((x23.2 != (0:Int))||(!(sameF d0 x23.1)))) (want_ct (t:=41) rfl rfl) (fun hk=>(r_pickOr (gdT (u:=undef) hk) rfl (fun hf=>(gdT (u:=undef) (andM hk (notT hf)))))) rfl rfl ?_
   refine o_w (v:=.bool ((x18.2==0)&&((x23.2 != (0:Int))||(!(sameF d0 x23.1))))) (r_pickAnd rfl (fun ht=>(gdT (u:=undef) ht)) rfl) ?_
   refine o_w (v:=.bool ((x18.2==0)&&((x23.2 != (0:Int))||(!(sameF d0 x23.1))))) (r_mov rfl) ?_
   refine o_vg (v:=.int .i64 x18.2) (want_cf (t:=51) rfl rfl) (fun hk=>(r_mov rfl)) rfl rfl ?_
   refine o_vg (v:=.bool (x18.2 != (0:Int))) (want_cf (t:=51) rfl rfl) (fun hk=>(r_int (gdT (u:=undef) hk) rfl rfl)) rfl rfl ?_
   refine o_vg (v:=.bool (x18.2 != (0:Int))) (want_cf (t:=51) rfl rfl) (fun hk=>(r_mov (gdT (u:=undef) hk))) rfl rfl ?_
   refine o_vg (v:=str x18.1) (want_gt (t:=54) rfl rfl) (fun hk=>(r_mov rfl)) rfl rfl ?_
   refine o_vg (v:=.bool (!(x18.1==([]:Str)))) (want_gt (t:=54) rfl rfl) (fun hk=>(r_str (gdT (u:=undef) hk) rfl rfl)) rfl rfl ?_
   refine o_vg (v:=.bool ((x18.2 != (0:Int))&&(!(x18.1==([]:Str))))) (want_cf (t:=51) rfl rfl) (fun hk=>(r_pickAnd (gdT (u:=undef) hk) (fun ht=>(gdT (u:=undef) (andM hk ht))) rfl)) rfl rfl ?_
   refine o_w (v:=.bool (((x18.2==0)&&((x23.2 != (0:Int))||(!(sameF d0 x23.1))))||((x18.2 != (0:Int))&&(!(x18.1==([]:Str)))))) (r_pickOr rfl rfl (fun hf=>(gdT (u:=undef) (notT hf)))) ?_
   refine eo_nil_sq ?_
   refine ec_cond rfl (fun hc55=>?_) (fun hc55=>?_)
   ·replace h:=h.1 hc55
    refine ec_sr ?_
    refine o_w (v:=.bool false) (r_asg rfl) ?_
    refine eo_nil_sq ?_
    refine ec_ret ?_
    refine sq_ret ?_
    subst h
    exact (end1 rfl ⟨_,rfl,E50,rfl⟩)
   ·replace h:=h.2 hc55
    refine ec_skip ?_
    refine sq_n ?_
    refine ec_sr ?_
    refine o_w (v:=str d1) (r_mov rfl) ?_
    obtain ⟨ha57,h⟩:=h
    obtain ⟨x56,hx56,h⟩:=h
    refine o_call cf_frame_Get rfl (frame_Get_c d1 ((hL.fr E50).cons (B42'.ex F48).lt) (eq_ev hx56 (frGet_ev d1 ha57))) rfl rfl ?_
    rintro _ w56 ⟨F56,cs58,rfl,H59⟩
    have E60:=E50.trans F56
    obtain ⟨A66,c67,rfl,H68,hl65⟩:=kFrm_open H59
    refine o_w (v:=.tuple #[.agg (cFrm x56.1 A66 c67).toArray,.int .i64 x56.2]) (r_mov rfl) ?_
    refine o_w (v:=.agg (cFrm x56.1 A66 c67).toArray) (r_ext rfl rfl) ?_
    refine o_w (v:=.int .i64 x56.2) (r_ext rfl rfl) ?_
    refine o_alloc zero_frame_Frame rfl rfl rfl ?_
    intro b69 w69 e69 F69 B69
    have n69:w.heap.size≤b69:=by rw [e69]; exact E60.size
    have q70:b34<b69:=by rw [e69]; exact ((B42'.ex F48).ex F56).lt
    have m74:w56.heap.size≤b69:=Nat.le_of_eq e69.symm
    have E75:=E60.trans F69
    have G79:Fr (b34::L) w56 w69:=Fr.ext F69
    refine o_store rfl B69 (vs:=(cFrm x56.1 A66 c67)) rfl sz_frame_Frame rfl rfl rfl ?_
    intro w81 F81 B81
    have E82:=Ext.st E75 F81 (by simp; omega)
    have G86:Fr (b34::L) w56 w81:=G79.stp F81 (upc (.inr m74) (fun m hm=>by cases hm))
    have B87:=(((B42'.ex F48).ex F56).ex F69).fr F81 (by simp; omega)
    have B81':Blk w81 b69 _ (cFrm x56.1 A66 c67):=B81
    refine o_w (v:=.int .i64 x56.2) (r_asg rfl) ?_
    refine eo_r ?_
    refine o_w (v:=.agg (cFrm x56.1 A66 c67).toArray) (r_lda agg_frame_Frame rfl (vs:=(cFrm x56.1 A66 c67)) rfl (B81'.part (n:=8) rfl)) ?_
    obtain ⟨ha89,h⟩:=h
    obtain ⟨x88,hx88,h⟩:=h
    refine o_call cf_frame_Put rfl (frame_Put_c x56.1 (kFrm_mk (d:=x56.1) (H68.up G86 sI (upc (.inr m74) (upc (.inl mH) (fun m hm=>Or.inl (mT hm))))) hl65) (((hL.fr E82).cons B87.lt).cons B81'.lt) (eq_ev hx88 (frPut_ev x56.1 ha89))) rfl rfl ?_
    rintro _ w88 ⟨F88,rfl⟩
    have E90:=E82.trans F88
    refine o_w (v:=.tuple #[str x88.1,.int .i64 x88.2]) (r_mov rfl) ?_
    refine o_w (v:=str x88.1) (r_ext rfl rfl) ?_
    refine o_w (v:=.int .i64 x88.2) (r_ext rfl rfl) ?_
    refine o_w (v:=str x88.1) (r_asg rfl) ?_
    refine o_w (v:=.int .i64 x88.2) (r_asg rfl) ?_
    refine eo_r ?_
    iterate 2 refine o_w (v:=.bool (worksV)) (r_mov rfl) ?_
    refine o_v (v:=.int .i64 x56.2) (r_mov rfl) (want_t (t:=70) rfl rfl (of_not hc11)) rfl rfl ?_
    refine o_v (v:=.bool (x56.2==0)) (r_int rfl rfl rfl) (want_t (t:=70) rfl rfl (of_not hc11)) rfl rfl ?_
    refine o_v (v:=.bool (x56.2==0)) (r_mov rfl) (want_t (t:=70) rfl rfl (of_not hc11)) rfl rfl ?_
    refine o_vg (v:=.int .i64 x88.2) (want_ct (t:=73) rfl rfl) (fun hk=>(r_mov rfl)) rfl rfl ?_
    refine o_vg (v:=.bool (x88.2==0)) (want_ct (t:=73) rfl rfl) (fun hk=>(r_int (gdT (u:=undef) hk) rfl rfl)) rfl rfl ?_
    refine o_v (v:=.bool ((x56.2==0)&&(x88.2==0))) (r_pickAnd rfl (fun ht=>(gdT (u:=undef) ht)) rfl) (want_t (t:=70) rfl rfl (of_not hc11)) rfl rfl ?_
    refine o_v (v:=.bool ((x56.2==0)&&(x88.2==0))) (r_mov rfl) (want_t (t:=70) rfl rfl (of_not hc11)) rfl rfl ?_
    refine o_vg (v:=str x88.1) (want_ct (t:=77) rfl rfl) (fun hk=>(r_mov rfl)) rfl rfl ?_
    refine o_vg (v:=str d1) (want_ct (t:=77) rfl rfl) (fun hk=>(r_mov rfl)) rfl rfl ?_
    refine o_vg (v:=.bool (x88.1==d1)) (want_ct (t:=77) rfl rfl) (fun hk=>(r_str (gdT (u:=undef) hk) (gdT (u:=undef) hk) rfl)) rfl rfl ?_
    refine o_v (v:=.bool (((x56.2==0)&&(x88.2==0))&&(x88.1==d1))) (r_pickAnd rfl (fun ht=>(gdT (u:=undef) ht)) rfl) (want_t (t:=70) rfl rfl (of_not hc11)) rfl rfl ?_
    refine o_v (v:=.bool (((x56.2==0)&&(x88.2==0))&&(x88.1==d1))) (r_mov rfl) (want_t (t:=70) rfl rfl (of_not hc11)) rfl rfl ?_
    refine o_vg (v:=.agg (cFrm x56.1 A66 c67).toArray) (want_ct (t:=82) rfl rfl) (fun hk=>(r_lda agg_frame_Frame rfl (vs:=(cFrm x56.1 A66 c67)) rfl ((B81'.ex F88).part (n:=8) rfl))) rfl rfl ?_
    obtain ⟨ha100,h⟩:=h
    refine o_callg (V:=.int .i64 (checkF x56.1)) cf_frame_Check (want_ct (t:=82) rfl rfl) (fun hk=>(mapv1 (gdT (u:=undef) hk))) (fun hk=>(frame_Check_c x56.1 (kFrm_mk (d:=x56.1) (H68.up (G86.trans (Fr.ext F88)) sI (upc (.inr m74) (upc (.inl mH) (fun m hm=>Or.inl (mT hm))))) hl65) (((hL.fr E90).cons (B87.ex F88).lt).cons (B81'.ex F88).lt) (frCheckA_ev x56.1 (ha100 hk)))) rfl ?_
    intro w99 F99
    have E101:=E90.trans F99
    refine o_vg (v:=.bool ((checkF x56.1)==0)) (want_ct (t:=82) rfl rfl) (fun hk=>(r_int (gdT (u:=undef) hk) rfl rfl)) rfl rfl ?_
    refine o_v (v:=.bool ((((x56.2==0)&&(x88.2==0))&&(x88.1==d1))&&((checkF x56.1)==0))) (r_pickAnd rfl (fun ht=>(gdT (u:=undef) ht)) rfl) (want_t (t:=70) rfl rfl (of_not hc11)) rfl rfl ?_
    refine o_v (v:=.bool ((((x56.2==0)&&(x88.2==0))&&(x88.1==d1))&&((checkF x56.1)==0))) (r_mov rfl) (want_t (t:=70) rfl rfl (of_not hc11)) rfl rfl ?_
    refine o_vg (v:=.int .i64 x56.2) (want_cf (t:=87) rfl rfl) (fun hk=>(r_mov rfl)) rfl rfl ?_
    refine o_vg (v:=.bool (x56.2==2)) (want_cf (t:=87) rfl rfl) (fun hk=>(r_int (gdT (u:=undef) hk) rfl rfl)) rfl rfl ?_
    refine o_vg (v:=.bool (x56.2==2)) (want_cf (t:=87) rfl rfl) (fun hk=>(r_mov (gdT (u:=undef) hk))) rfl rfl ?_
    refine o_vg (v:=.agg (cFrm x56.1 A66 c67).toArray) (want_gt (t:=90) rfl rfl) (fun hk=>(r_lda agg_frame_Frame rfl (vs:=(cFrm x56.1 A66 c67)) rfl (((B81'.ex F88).ex F99).part (n:=8) rfl))) rfl rfl ?_
    refine o_vg (v:=.agg #[.int .i64 0,.int .i64 0,.int .i64 0,.int .i64 0,.int .i64 0,.int .i64 0,.int .i64 0,.slice none ([]:List Ent).length 0]) (want_gt (t:=90) rfl rfl) (fun hk=>(r_build bld_frame_Frame (vs:=[]) (cells:=[.int .i64 0,.int .i64 0,.int .i64 0,.int .i64 0,.int .i64 0,.int .i64 0,.int .i64 0,.slice none ([]:List Ent).length 0]) rfl rfl)) rfl rfl ?_
    obtain ⟨ha109,h⟩:=h
    refine o_callg (V:=.bool (sameF x56.1 (⟨(0:Int),(0:Int),(0:Int),[(0:Int),(0:Int),(0:Int),(0:Int)],([]:List Ent)⟩:Frm))) cf_frame_Same (want_gt (t:=90) rfl rfl) (fun hk=>(mapv2 (gdT (u:=undef) hk) (gdT (u:=undef) hk))) (fun hk=>(frame_Same_c x56.1 (kFrm_mk (d:=x56.1) (H68.up ((G86.trans (Fr.ext F88)).trans (Fr.ext F99)) sI (upc (.inr m74) (upc (.inl mH) (fun m hm=>Or.inl (mT hm))))) hl65) (⟨(0:Int),(0:Int),(0:Int),[(0:Int),(0:Int),(0:Int),(0:Int)],([]:List Ent)⟩:Frm) (kFrm_mk (d:=(⟨(0:Int),(0:Int),(0:Int),[(0:Int),(0:Int),(0:Int),(0:Int)],([]:List Ent)⟩:Frm)) stb_nil rfl) (((hL.fr E101).cons ((B87.ex F88).ex F99).lt).cons ((B81'.ex F88).ex F99).lt) (frSame_ev x56.1 (⟨(0:Int),(0:Int),(0:Int),[(0:Int),(0:Int),(0:Int),(0:Int)],([]:List Ent)⟩:Frm) (ha109 hk)))) rfl ?_
    intro w108 F108
    have E110:=E101.trans F108
    refine o_vg (v:=.bool ((x56.2==2)&&(sameF x56.1 (⟨(0:Int),(0:Int),(0:Int),[(0:Int),(0:Int),(0:Int),(0:Int)],([]:List Ent)⟩:Frm)))) (want_cf (t:=87) rfl rfl) (fun hk=>(r_pickAnd (gdT (u:=undef) hk) (fun ht=>(gdT (u:=undef) (andM hk ht))) rfl)) rfl rfl ?_
    refine o_v (v:=.bool (((((x56.2==0)&&(x88.2==0))&&(x88.1==d1))&&((checkF x56.1)==0))||((x56.2==2)&&(sameF x56.1 (⟨(0:Int),(0:Int),(0:Int),[(0:Int),(0:Int),(0:Int),(0:Int)],([]:List Ent)⟩:Frm))))) (r_pickOr rfl rfl (fun hf=>(gdT (u:=undef) (notT hf)))) (want_t (t:=70) rfl rfl (of_not hc11)) rfl rfl ?_
    refine o_w (v:=.bool (((((x56.2==0)&&(x88.2==0))&&(x88.1==d1))&&((checkF x56.1)==0))||((x56.2==2)&&(sameF x56.1 (⟨(0:Int),(0:Int),(0:Int),[(0:Int),(0:Int),(0:Int),(0:Int)],([]:List Ent)⟩:Frm))))) (r_pickT rfl (of_not hc11) rfl) ?_
    refine o_w (v:=.bool (((((x56.2==0)&&(x88.2==0))&&(x88.1==d1))&&((checkF x56.1)==0))||((x56.2==2)&&(sameF x56.1 (⟨(0:Int),(0:Int),(0:Int),[(0:Int),(0:Int),(0:Int),(0:Int)],([]:List Ent)⟩:Frm))))) (r_asg rfl) ?_
    refine eo_nil_sq ?_
    refine ec_ret ?_
    subst h
    exact (end1 rfl ⟨_,rfl,E110,rfl⟩)
end Go.Proofs.YtdfjbkoimpjkaaaGreat
