/- References of updates. -/
import Derived.Test.YthhjcijhanacnaaGreatCw
import Derived.Test.YthhjcijhanacnaaGreatLf
namespace Go.Proofs.YthhjcijhanacnaaGreat
open Go Go.RowKit
set_option linter.unusedVariables false
set_option linter.unusedSimpArgs false
def ref09_val_raw (d0:Arena) (d1:Int) (d2:Str) (y:Val):Prop :=
 (sma d0)∧(((decide ((findA d0 d1 d2)<0))=true→(∃ x22,x22=(leastV d1)∧(y=x22.1)))∧((decide ((findA d0 d1 d2)<0))=false→((0≤(findA d0 d1 d2)∧(findA d0 d1 d2)<(d0.slots.length:Int))∧(y=((nth d0.slots (findA d0 d1 d2)).val)))))
set_option maxRecDepth 20000 in
set_option maxHeartbeats 4000000 in
theorem ref09_val_c {L:List Nat} {w:World} {csP0:List Value} (d0:Arena) (HP0:Stb L w (fun w=>kArena.r w csP0 d0)) (d1:Int) (d2:Str) (hL:Lt L w) {y:Val} (h:ref09_val_raw d0 d1 d2 y) :
  Calls Tryz.prog 39 [.agg csP0.toArray,.int .i64 d1,str d2].toArray w (Ret fun v w'=>Ext w w'∧∃ (cs90:List Value),v=.agg cs90.toArray∧Stb L w' (fun w=>kVal.r w cs90 y)):=by
 obtain ⟨A1,c2,A4,c5,rfl,H3,H6⟩:=kArena_open HP0
 unfold ref09_val_raw at h
 refine calls_ec Tryz.func39 rfl rfl rfl ?_
 refine ec_seq ?_
 refine ec_region ?_
 refine o_box (cs:=(cArena d0 A1 c2 A4 c5)) rfl rfl rfl ?_
 intro b7 w7 e7 F7 B7
 have S7:=B7.stb (nin hL e7)
 have G8:Fr L w w7:=Fr.ext F7
 refine o_alloc zero_api_Value rfl rfl rfl ?_
 intro b9 w9 e9 F9 B9
 have n9:w.heap.size≤b9:=by rw [e9]; exact F7.size
 have m10:w.heap.size≤b9:=by rw [e9]; exact G8.size
 have E12:=F7.trans F9
 have G14:Fr L w7 w9:=Fr.ext F9
 refine eo_nil_sq ?_
 refine ec_seq ?_
 refine ec_region ?_
 refine o_w (v:=.agg (cArena d0 A1 c2 A4 c5).toArray) (r_lda agg_api_Arena rfl (vs:=(cArena d0 A1 c2 A4 c5)) rfl ((S7.fr G14 sI).now.part (n:=3) rfl)) ?_
 refine o_w (v:=.int .i64 d1) (r_mov rfl) ?_
 refine o_w (v:=str d2) (r_mov rfl) ?_
 obtain ⟨ha16,h⟩:=h
 refine o_call cf_ref08_Find rfl (ref08_Find_c d0 (kArena_mk (d:=d0) (H3.up (G8.trans (Fr.ext F9)) sI (upc (.inr m10) (fun _ h=>.inl h))) (H6.up (G8.trans (Fr.ext F9)) sI (upc (.inr m10) (fun _ h=>.inl h)))) d1 d2 ((hL.fr E12).cons B9.lt) (refFind_ev d0 d1 d2 ha16)) rfl rfl ?_
 rintro _ w15 ⟨F15,rfl⟩
 have E17:=E12.trans F15
 refine o_w (v:=.int .i64 (findA d0 d1 d2)) (r_asg rfl) ?_
 refine eo_nil_sq ?_
 iterate 2 refine ec_seq ?_
 refine ec_region ?_
 refine o_w (v:=.int .i64 (findA d0 d1 d2)) (r_mov rfl) ?_
 refine o_w (v:=.bool (decide ((findA d0 d1 d2)<0))) (r_int rfl rfl rfl) ?_
 refine eo_nil_sq ?_
 refine ec_cond rfl (fun hc21=>?_) (fun hc21=>?_)
 ·replace h:=h.1 hc21
  refine ec_seq ?_
  refine ec_region ?_
  refine o_w (v:=.int .i64 d1) (r_mov rfl) ?_
  obtain ⟨x22,hx22,h⟩:=h
  refine o_call cf_ref06_Least rfl (ref06_Least_c d1 ((hL.fr E17).cons (B9.ex F15).lt) (eq_ev hx22 (refLeast_ev d1))) rfl rfl ?_
  rintro _ w22 ⟨F22,cs23,rfl,H24⟩
  have E25:=E17.trans F22
  obtain ⟨A29,c30,A32,c33,rfl,H31,H34⟩:=kVal_open H24
  refine o_w (v:=.tuple #[.agg (cVal x22.1 A29 c30 A32 c33).toArray,.int .i64 x22.2]) (r_mov rfl) ?_
  refine o_w (v:=.agg (cVal x22.1 A29 c30 A32 c33).toArray) (r_ext rfl rfl) ?_
  refine o_w (v:=.int .i64 x22.2) (r_ext rfl rfl) ?_
  refine o_alloc zero_api_Value rfl rfl rfl ?_
  intro b35 w35 e35 F35 B35
  have n35:w.heap.size≤b35:=by rw [e35]; exact E25.size
  have q36:b9<b35:=by rw [e35]; exact ((B9.ex F15).ex F22).lt
  have m39:w22.heap.size≤b35:=Nat.le_of_eq e35.symm
  have E40:=E25.trans F35
  have G43:Fr (b9::L) w22 w35:=Fr.ext F35
  refine o_store rfl B35 (vs:=(cVal x22.1 A29 c30 A32 c33)) rfl sz_api_Value rfl rfl rfl ?_
  intro w45 F45 B45
  have E46:=Ext.st E40 F45 (by simp; omega)
  have G49:Fr (b9::L) w22 w45:=G43.stp F45 (upc (.inr m39) (fun m hm=>by cases hm))
  have B50:=(((B9.ex F15).ex F22).ex F35).fr F45 (by simp; omega)
  have B45':Blk w45 b35 _ (cVal x22.1 A29 c30 A32 c33):=B45
  refine o_w (v:=.int .i64 x22.2) (r_asg rfl) ?_
  refine eo_nil_sq ?_
  refine ec_seq ?_
  refine ec_region ?_
  refine o_w (v:=.agg (cVal x22.1 A29 c30 A32 c33).toArray) (r_lda agg_api_Value rfl (vs:=(cVal x22.1 A29 c30 A32 c33)) rfl (B45'.part (n:=8) rfl)) ?_
  refine o_store rfl B50 (vs:=(cVal x22.1 A29 c30 A32 c33)) rfl sz_api_Value rfl rfl rfl ?_
  intro w51 F51 B51
  have E52:=Ext.st E46 F51 (by simp; omega)
  have G55:Fr (b9::L) w22 w51:=G49.stp F51 (upc (.inl mH) (fun m hm=>by cases hm))
  have B51':Blk w51 b9 _ (cVal x22.1 A29 c30 A32 c33):=B51
  refine eo_nil_sq ?_
  refine ec_ret ?_
  refine sq_ret ?_
  subst h
  exact (endr1 (rv_a rfl (agg_api_Value) B51' (vs:=(cVal x22.1 A29 c30 A32 c33)) rfl rfl) ⟨_,rfl,E52,_,rfl,(kVal_mk (d:=x22.1) (H31.up G55 sI (fun m hm=>Or.inl (mT hm))) (H34.up G55 sI (fun m hm=>Or.inl (mT hm))))⟩)
 ·replace h:=h.2 hc21
  refine ec_skip ?_
  refine sq_n ?_
  refine ec_seq ?_
  refine ec_region ?_
  refine o_w (v:=.pointer (some ⟨b7,1,none⟩)) (r_fa fld_api_Arena_1 rfl rfl) ?_
  refine o_w (v:=.slice A1 d0.slots.length c2) (r_ld one_s_api_Entry rfl ((S7.fr (G14.trans (Fr.ext F15)) sI).now.cell rfl)) ?_
  refine o_w (v:=.int .i64 (findA d0 d1 d2)) (r_mov rfl) ?_
  obtain ⟨ha57,h⟩:=h
  obtain ⟨cs58,l60,H59⟩:=Stb.elem (by decide) (H3.up ((G8.trans (Fr.ext F9)).trans (Fr.ext F15)) sI (upc (.inr m10) (fun _ h=>.inl h))) (findA d0 d1 d2) ha57.1 ha57.2
  obtain ⟨A62,c63,A65,c66,rfl,H61,H64,H67⟩:=kEnt_open2 H59
  refine o_w (v:=.pointer (some (elemA A1 kEnt.n (findA d0 d1 d2).toNat))) (r_ia slc_s_api_Entry rfl rfl ((H3.fr ((G8.trans (Fr.ext F9)).trans (Fr.ext F15)) sI).now.2 _ (lt_toNat ha57.1 ha57.2)).1 ha57.1 ha57.2) ?_
  refine o_w (v:=.pointer (some (ad (elemA A1 kEnt.n (findA d0 d1 d2).toNat) 1))) (r_fad fld_api_Entry_1 (elemA_spot _ _ _) rfl) ?_
  refine o_w (v:=.agg (cVal ((nth d0.slots (findA d0 d1 d2)).val) A62 c63 A65 c66).toArray) (r_lda' agg_api_Value rfl rfl (vs:=(cVal ((nth d0.slots (findA d0 d1 d2)).val) A62 c63 A65 c66)) rfl (H61.now.1.sub (j:=1) (n:=8) rfl)) ?_
  refine o_store rfl (B9.ex F15) (vs:=(cVal ((nth d0.slots (findA d0 d1 d2)).val) A62 c63 A65 c66)) rfl sz_api_Value rfl rfl rfl ?_
  intro w68 F68 B68
  have E69:=Ext.st E17 F68 (by simp; omega)
  have G72:Fr (b9::L) w15 w68:=(Fr.refl _ _).stp F68 (upc (.inl mH) (fun m hm=>by cases hm))
  have B68':Blk w68 b9 _ (cVal ((nth d0.slots (findA d0 d1 d2)).val) A62 c63 A65 c66):=B68
  refine eo_nil_sq ?_
  refine ec_ret ?_
  subst h
  exact (endr1 (rv_a rfl (agg_api_Value) B68' (vs:=(cVal ((nth d0.slots (findA d0 d1 d2)).val) A62 c63 A65 c66)) rfl rfl) ⟨_,rfl,E69,_,rfl,(kVal_mk (d:=((nth d0.slots (findA d0 d1 d2)).val)) (H64.up G72 sI (fun m hm=>Or.inl (mT hm))) (H67.up G72 sI (fun m hm=>Or.inl (mT hm))))⟩)
def ref09_Text_raw (d0:Arena) (d1:Str) (y:Str × Bool):Prop :=
 (sma d0)∧(((decide ((findA d0 (1:Int) d1)<0))=true→(y=(([]:Str),false)))∧((decide ((findA d0 (1:Int) d1)<0))=false→(∃ x15,ref09_val_raw d0 (1:Int) d1 x15∧((x15.dead=true→(y=(([]:Str),false)))∧(x15.dead=false→(∃ x28,ref09_val_raw d0 (1:Int) d1 x28∧(y=(x28.text,true))))))))
set_option maxRecDepth 20000 in
set_option maxHeartbeats 4000000 in
theorem ref09_Text_c {L:List Nat} {w:World} {csP0:List Value} (d0:Arena) (HP0:Stb L w (fun w=>kArena.r w csP0 d0)) (d1:Str) (hL:Lt L w) {y:Str × Bool} (h:ref09_Text_raw d0 d1 y) :
  Calls Tryz.prog 17 [.agg csP0.toArray,str d1].toArray w (Ret fun v w'=>Ext w w'∧v=.tuple #[str y.1,.bool y.2]):=by
 obtain ⟨A1,c2,A4,c5,rfl,H3,H6⟩:=kArena_open HP0
 unfold ref09_Text_raw at h
 refine calls_ec Tryz.func17 rfl rfl rfl ?_
 refine ec_seq ?_
 refine ec_region ?_
 refine o_box (cs:=(cArena d0 A1 c2 A4 c5)) rfl rfl rfl ?_
 intro b7 w7 e7 F7 B7
 have S7:=B7.stb (nin hL e7)
 have G8:Fr L w w7:=Fr.ext F7
 refine o_w (v:=str []) (r_asg rfl) ?_
 refine o_w (v:=.bool false) (r_asg rfl) ?_
 refine eo_nil_sq ?_
 iterate 2 refine ec_seq ?_
 refine ec_region ?_
 refine o_w (v:=.agg (cArena d0 A1 c2 A4 c5).toArray) (r_lda agg_api_Arena rfl (vs:=(cArena d0 A1 c2 A4 c5)) rfl (S7.now.part (n:=3) rfl)) ?_
 refine o_w (v:=str d1) (r_mov rfl) ?_
 obtain ⟨ha10,h⟩:=h
 refine o_call cf_ref08_Find rfl (ref08_Find_c d0 (kArena_mk (d:=d0) (H3.fr G8 sI) (H6.fr G8 sI)) (1:Int) d1 (hL.fr F7) (refFind_ev d0 (1:Int) d1 ha10)) rfl rfl ?_
 rintro _ w9 ⟨F9,rfl⟩
 have E11:=F7.trans F9
 have G13:Fr L w7 w9:=Fr.ext F9
 refine o_w (v:=.bool (decide ((findA d0 (1:Int) d1)<0))) (r_int rfl rfl rfl) ?_
 refine o_w (v:=.bool (decide ((findA d0 (1:Int) d1)<0))) (r_mov rfl) ?_
 rcases Bool.eq_false_or_eq_true (decide ((findA d0 (1:Int) d1)<0)) with hc14 | hc14
 ·replace h:=h.1 hc14
  iterate 4 refine o_no (want_f (t:=10) rfl rfl hc14) rfl ?_
  refine o_w (v:=.bool true) (r_pickT rfl hc14 rfl) ?_
  refine eo_nil_sq ?_
  refine ec_condT rfl rfl ?_
  refine ec_seq ?_
  refine ec_region ?_
  refine o_w (v:=str []) (r_asg rfl) ?_
  refine o_w (v:=.bool false) (r_asg rfl) ?_
  refine eo_nil_sq ?_
  refine ec_ret ?_
  refine sq_ret ?_
  subst h
  exact (end2 rfl rfl ⟨_,rfl,E11,rfl⟩)
 ·replace h:=h.2 hc14
  refine o_v (v:=.agg (cArena d0 A1 c2 A4 c5).toArray) (r_lda agg_api_Arena rfl (vs:=(cArena d0 A1 c2 A4 c5)) rfl ((S7.fr G13 sI).now.part (n:=3) rfl)) (want_t (t:=10) rfl rfl hc14) rfl rfl ?_
  refine o_v (v:=str d1) (r_mov rfl) (want_t (t:=10) rfl rfl hc14) rfl rfl ?_
  obtain ⟨x15,hx15,h⟩:=h
  refine o_call cf_ref09_val rfl (ref09_val_c d0 (kArena_mk (d:=d0) (H3.fr (G8.trans (Fr.ext F9)) sI) (H6.fr (G8.trans (Fr.ext F9)) sI)) (1:Int) d1 (hL.fr E11) hx15) (want_t (t:=10) rfl rfl hc14) rfl ?_
  rintro _ w15 ⟨F15,cs16,rfl,H17⟩
  have E18:=E11.trans F15
  obtain ⟨A21,c22,A24,c25,rfl,H23,H26⟩:=kVal_open H17
  refine o_v (v:=.bool x15.dead) (r_fld fldv_api_Value_3 one_bool rfl rfl) (want_t (t:=10) rfl rfl hc14) rfl rfl ?_
  refine o_w (v:=.bool x15.dead) (r_pickF rfl hc14 rfl) ?_
  refine eo_nil_sq ?_
  refine ec_cond rfl (fun hc27=>?_) (fun hc27=>?_)
  ·replace h:=h.1 hc27
   refine ec_seq ?_
   refine ec_region ?_
   refine o_w (v:=str []) (r_asg rfl) ?_
   refine o_w (v:=.bool false) (r_asg rfl) ?_
   refine eo_nil_sq ?_
   refine ec_ret ?_
   refine sq_ret ?_
   subst h
   exact (end2 rfl rfl ⟨_,rfl,E18,rfl⟩)
  ·replace h:=h.2 hc27
   refine ec_skip ?_
   refine sq_n ?_
   refine ec_seq ?_
   refine ec_region ?_
   refine o_w (v:=.agg (cArena d0 A1 c2 A4 c5).toArray) (r_lda agg_api_Arena rfl (vs:=(cArena d0 A1 c2 A4 c5)) rfl ((S7.fr (G13.trans (Fr.ext F15)) sI).now.part (n:=3) rfl)) ?_
   refine o_w (v:=str d1) (r_mov rfl) ?_
   obtain ⟨x28,hx28,h⟩:=h
   refine o_call cf_ref09_val rfl (ref09_val_c d0 (kArena_mk (d:=d0) (H3.fr ((G8.trans (Fr.ext F9)).trans (Fr.ext F15)) sI) (H6.fr ((G8.trans (Fr.ext F9)).trans (Fr.ext F15)) sI)) (1:Int) d1 (hL.fr E18) hx28) rfl rfl ?_
   rintro _ w28 ⟨F28,cs29,rfl,H30⟩
   have E31:=E18.trans F28
   obtain ⟨A35,c36,A38,c39,rfl,H37,H40⟩:=kVal_open H30
   refine o_w (v:=str x28.text) (r_fld fldv_api_Value_4 one_string rfl rfl) ?_
   refine o_w (v:=str x28.text) (r_asg rfl) ?_
   refine o_w (v:=.bool true) (r_asg rfl) ?_
   refine eo_nil_sq ?_
   refine ec_ret ?_
   subst h
   exact (end2 rfl rfl ⟨_,rfl,E31,rfl⟩)
def ref09_Sum_raw (d0:Arena) (d1:Str) (y:Int × Bool):Prop :=
 (sma d0)∧(((decide ((findA d0 (2:Int) d1)<0))=true→(y=((0:Int),false)))∧((decide ((findA d0 (2:Int) d1)<0))=false→(∃ x15,ref09_val_raw d0 (2:Int) d1 x15∧((sm x15)∧(y=((sumV x15),true))))))
set_option maxRecDepth 20000 in
set_option maxHeartbeats 4000000 in
theorem ref09_Sum_c {L:List Nat} {w:World} {csP0:List Value} (d0:Arena) (HP0:Stb L w (fun w=>kArena.r w csP0 d0)) (d1:Str) (hL:Lt L w) {y:Int × Bool} (h:ref09_Sum_raw d0 d1 y) :
  Calls Tryz.prog 19 [.agg csP0.toArray,str d1].toArray w (Ret fun v w'=>Ext w w'∧v=.tuple #[.int .i64 y.1,.bool y.2]):=by
 obtain ⟨A1,c2,A4,c5,rfl,H3,H6⟩:=kArena_open HP0
 unfold ref09_Sum_raw at h
 refine calls_ec Tryz.func19 rfl rfl rfl ?_
 refine ec_seq ?_
 refine ec_region ?_
 refine o_box (cs:=(cArena d0 A1 c2 A4 c5)) rfl rfl rfl ?_
 intro b7 w7 e7 F7 B7
 have S7:=B7.stb (nin hL e7)
 have G8:Fr L w w7:=Fr.ext F7
 refine o_w (v:=.int .i64 0) (r_asg rfl) ?_
 refine o_w (v:=.bool false) (r_asg rfl) ?_
 refine eo_nil_sq ?_
 iterate 2 refine ec_seq ?_
 refine ec_region ?_
 refine o_w (v:=.agg (cArena d0 A1 c2 A4 c5).toArray) (r_lda agg_api_Arena rfl (vs:=(cArena d0 A1 c2 A4 c5)) rfl (S7.now.part (n:=3) rfl)) ?_
 refine o_w (v:=str d1) (r_mov rfl) ?_
 obtain ⟨ha10,h⟩:=h
 refine o_call cf_ref08_Find rfl (ref08_Find_c d0 (kArena_mk (d:=d0) (H3.fr G8 sI) (H6.fr G8 sI)) (2:Int) d1 (hL.fr F7) (refFind_ev d0 (2:Int) d1 ha10)) rfl rfl ?_
 rintro _ w9 ⟨F9,rfl⟩
 have E11:=F7.trans F9
 have G13:Fr L w7 w9:=Fr.ext F9
 refine o_w (v:=.bool (decide ((findA d0 (2:Int) d1)<0))) (r_int rfl rfl rfl) ?_
 refine eo_nil_sq ?_
 refine ec_cond rfl (fun hc14=>?_) (fun hc14=>?_)
 ·replace h:=h.1 hc14
  refine ec_seq ?_
  refine ec_region ?_
  refine o_w (v:=.int .i64 0) (r_asg rfl) ?_
  refine o_w (v:=.bool false) (r_asg rfl) ?_
  refine eo_nil_sq ?_
  refine ec_ret ?_
  refine sq_ret ?_
  subst h
  exact (end2 rfl rfl ⟨_,rfl,E11,rfl⟩)
 ·replace h:=h.2 hc14
  refine ec_skip ?_
  refine sq_n ?_
  refine ec_seq ?_
  refine ec_region ?_
  refine o_w (v:=.agg (cArena d0 A1 c2 A4 c5).toArray) (r_lda agg_api_Arena rfl (vs:=(cArena d0 A1 c2 A4 c5)) rfl ((S7.fr G13 sI).now.part (n:=3) rfl)) ?_
  refine o_w (v:=str d1) (r_mov rfl) ?_
  obtain ⟨x15,hx15,h⟩:=h
  refine o_call cf_ref09_val rfl (ref09_val_c d0 (kArena_mk (d:=d0) (H3.fr (G8.trans (Fr.ext F9)) sI) (H6.fr (G8.trans (Fr.ext F9)) sI)) (2:Int) d1 (hL.fr E11) hx15) rfl rfl ?_
  rintro _ w15 ⟨F15,cs16,rfl,H17⟩
  have E18:=E11.trans F15
  obtain ⟨A21,c22,A24,c25,rfl,H23,H26⟩:=kVal_open H17
  obtain ⟨ha28,h⟩:=h
  refine o_call cf_ref06_Sum rfl (ref06_Sum_c x15 (kVal_mk (d:=x15) H23 H26) (hL.fr E18) (refSum_ev x15 ha28)) rfl rfl ?_
  rintro _ w27 ⟨F27,rfl⟩
  have E29:=E18.trans F27
  refine o_w (v:=.int .i64 (sumV x15)) (r_asg rfl) ?_
  refine o_w (v:=.bool true) (r_asg rfl) ?_
  refine eo_nil_sq ?_
  refine ec_ret ?_
  subst h
  exact (end2 rfl rfl ⟨_,rfl,E29,rfl⟩)
def ref09_Flags_raw (d0:Arena) (d1:Str) (y:Int × Bool):Prop :=
 (sma d0)∧(((decide ((findA d0 (3:Int) d1)<0))=true→(y=((0:Int),false)))∧((decide ((findA d0 (3:Int) d1)<0))=false→(∃ x15,ref09_val_raw d0 (3:Int) d1 x15∧(y=(x15.flags,true)))))
set_option maxRecDepth 20000 in
set_option maxHeartbeats 4000000 in
theorem ref09_Flags_c {L:List Nat} {w:World} {csP0:List Value} (d0:Arena) (HP0:Stb L w (fun w=>kArena.r w csP0 d0)) (d1:Str) (hL:Lt L w) {y:Int × Bool} (h:ref09_Flags_raw d0 d1 y) :
  Calls Tryz.prog 21 [.agg csP0.toArray,str d1].toArray w (Ret fun v w'=>Ext w w'∧v=.tuple #[.int .u64 y.1,.bool y.2]):=by
 obtain ⟨A1,c2,A4,c5,rfl,H3,H6⟩:=kArena_open HP0
 unfold ref09_Flags_raw at h
 refine calls_ec Tryz.func21 rfl rfl rfl ?_
 refine ec_seq ?_
 refine ec_region ?_
 refine o_box (cs:=(cArena d0 A1 c2 A4 c5)) rfl rfl rfl ?_
 intro b7 w7 e7 F7 B7
 have S7:=B7.stb (nin hL e7)
 have G8:Fr L w w7:=Fr.ext F7
 refine o_w (v:=.int .u64 0) (r_asg rfl) ?_
 refine o_w (v:=.bool false) (r_asg rfl) ?_
 refine eo_nil_sq ?_
 iterate 2 refine ec_seq ?_
 refine ec_region ?_
 refine o_w (v:=.agg (cArena d0 A1 c2 A4 c5).toArray) (r_lda agg_api_Arena rfl (vs:=(cArena d0 A1 c2 A4 c5)) rfl (S7.now.part (n:=3) rfl)) ?_
 refine o_w (v:=str d1) (r_mov rfl) ?_
 obtain ⟨ha10,h⟩:=h
 refine o_call cf_ref08_Find rfl (ref08_Find_c d0 (kArena_mk (d:=d0) (H3.fr G8 sI) (H6.fr G8 sI)) (3:Int) d1 (hL.fr F7) (refFind_ev d0 (3:Int) d1 ha10)) rfl rfl ?_
 rintro _ w9 ⟨F9,rfl⟩
 have E11:=F7.trans F9
 have G13:Fr L w7 w9:=Fr.ext F9
 refine o_w (v:=.bool (decide ((findA d0 (3:Int) d1)<0))) (r_int rfl rfl rfl) ?_
 refine eo_nil_sq ?_
 refine ec_cond rfl (fun hc14=>?_) (fun hc14=>?_)
 ·replace h:=h.1 hc14
  refine ec_seq ?_
  refine ec_region ?_
  refine o_w (v:=.int .u64 0) (r_asg rfl) ?_
  refine o_w (v:=.bool false) (r_asg rfl) ?_
  refine eo_nil_sq ?_
  refine ec_ret ?_
  refine sq_ret ?_
  subst h
  exact (end2 rfl rfl ⟨_,rfl,E11,rfl⟩)
 ·replace h:=h.2 hc14
  refine ec_skip ?_
  refine sq_n ?_
  refine ec_seq ?_
  refine ec_region ?_
  refine o_w (v:=.agg (cArena d0 A1 c2 A4 c5).toArray) (r_lda agg_api_Arena rfl (vs:=(cArena d0 A1 c2 A4 c5)) rfl ((S7.fr G13 sI).now.part (n:=3) rfl)) ?_
  refine o_w (v:=str d1) (r_mov rfl) ?_
  obtain ⟨x15,hx15,h⟩:=h
  refine o_call cf_ref09_val rfl (ref09_val_c d0 (kArena_mk (d:=d0) (H3.fr (G8.trans (Fr.ext F9)) sI) (H6.fr (G8.trans (Fr.ext F9)) sI)) (3:Int) d1 (hL.fr E11) hx15) rfl rfl ?_
  rintro _ w15 ⟨F15,cs16,rfl,H17⟩
  have E18:=E11.trans F15
  obtain ⟨A21,c22,A24,c25,rfl,H23,H26⟩:=kVal_open H17
  refine o_w (v:=.int .u64 x15.flags) (r_fld fldv_api_Value_7 one_uint64 rfl rfl) ?_
  refine o_w (v:=.int .u64 x15.flags) (r_asg rfl) ?_
  refine o_w (v:=.bool true) (r_asg rfl) ?_
  refine eo_nil_sq ?_
  refine ec_ret ?_
  subst h
  exact (end2 rfl rfl ⟨_,rfl,E18,rfl⟩)
def ref09_Scan_b17 (x9:(List Ent)) (s17:List Ent × Int) (z17:(List Ent × Int) ⊕ (List Ent × Int)):Prop :=
 ((decide (s17.2<(x9.length:Int)))=true→((0≤s17.2∧s17.2<(x9.length:Int))∧(((!(((nth x9 s17.2).val).dead))=true→((0≤s17.2∧s17.2<(x9.length:Int))∧((s17.1.length + 1≤9223372036854775807∧(s17.1.length + 1) * 120≤140737488355328)∧(z17=.inl ((s17.1++([(nth x9 s17.2)]:List Ent)),(IntKind.i64.wrap (s17.2 + (1:Int))))))))∧((!(((nth x9 s17.2).val).dead))=false→(z17=.inl (s17.1,(IntKind.i64.wrap (s17.2 + (1:Int)))))))))∧((decide (s17.2<(x9.length:Int)))=false→(z17=.inr (s17.1,s17.2)))
def ref09_Scan_raw (d0:Arena) (y:(List Ent)):Prop :=
 (sma d0)∧(∃ x9,x9=(allA d0)∧(∃ x17,LoopR (ref09_Scan_b17 x9) (([]:List Ent),(0:Int)) x17∧(y=x17.1)))
set_option maxRecDepth 20000 in
set_option maxHeartbeats 4000000 in
theorem ref09_Scan_c {L:List Nat} {w:World} {csP0:List Value} (d0:Arena) (HP0:Stb L w (fun w=>kArena.r w csP0 d0)) (hL:Lt L w) {y:(List Ent)} (h:ref09_Scan_raw d0 y) :
  Calls Tryz.prog 24 [.agg csP0.toArray].toArray w (Ret fun v w'=>Ext w w'∧∃ (A90:Option Addr) (c90:Nat),v=.slice A90 (y).length c90∧Stb L w' (fun w=>SlC kEnt w A90 c90 y)):=by
 obtain ⟨A1,c2,A4,c5,rfl,H3,H6⟩:=kArena_open HP0
 unfold ref09_Scan_raw at h
 refine calls_ec Tryz.func24 rfl rfl rfl ?_
 refine ec_seq ?_
 refine ec_region ?_
 refine o_box (cs:=(cArena d0 A1 c2 A4 c5)) rfl rfl rfl ?_
 intro b7 w7 e7 F7 B7
 have S7:=B7.stb (nin hL e7)
 have G8:Fr L w w7:=Fr.ext F7
 refine o_w (v:=.slice none ([]:List Ent).length 0) (r_asg rfl) ?_
 refine eo_nil_sq ?_
 refine ec_seq ?_
 refine ec_region ?_
 refine o_w (v:=.slice none ([]:List Ent).length 0) (r_asg rfl) ?_
 refine eo_nil_sq ?_
 refine ec_seq ?_
 refine ec_region ?_
 refine o_w (v:=.agg (cArena d0 A1 c2 A4 c5).toArray) (r_lda agg_api_Arena rfl (vs:=(cArena d0 A1 c2 A4 c5)) rfl (S7.now.part (n:=3) rfl)) ?_
 obtain ⟨ha10,h⟩:=h
 obtain ⟨x9,hx9,h⟩:=h
 refine o_call cf_ref08_All rfl (ref08_All_c d0 (kArena_mk (d:=d0) (H3.fr G8 sI) (H6.fr G8 sI)) (hL.fr F7) (eq_ev hx9 (refAllA_ev d0 ha10))) rfl rfl ?_
 rintro _ w9 ⟨F9,A11,c12,rfl,H13⟩
 have E14:=F7.trans F9
 refine o_w (v:=.slice A11 x9.length c12) (r_asg rfl) ?_
 refine eo_nil_sq ?_
 iterate 2 refine ec_seq ?_
 refine ec_region ?_
 refine o_w (v:=.int .i64 0) (r_asg rfl) ?_
 refine eo_nil_sq ?_
 refine ec_block ?_
 have lo18:w.heap.size≤w9.heap.size:=E14.size
 have O18:=OwnS.nil (k:=kEnt) (e:=32) (by decide) (hL.fr E14)
 obtain ⟨x17,hl17,h⟩:=h
 refine ec_loopE 0 (I:=(fun (s17:List Ent × Int) ρ ds w'=>∃ (ρ':Env) (v17i1:Value),ρ=envs ρ' [(3,v17i1),(5,.int .i64 s17.2),(4,.slice A11 x9.length c12)]∧ds=[]∧Fr (own (.slice none 0 0)++L) w9 w'∧Ext w w'∧OwnS kEnt (w9.heap.size) 32 L w' v17i1 s17.1∧(∀ q∈own v17i1,q∈(own (.slice none 0 0)++L)∨w9.heap.size≤q))) ?_ hl17 ?_ ?_
 ·intro s17 z17 ρ17 ds17 w17r hI17 hb17
  obtain ⟨ρ17r,v17r1,rfl,rfl,F17r,E17r,O17r1,N17r1⟩:=hI17
  have h:=hb17
  unfold ref09_Scan_b17 at h
  have G21:Fr L w9 w17r:=(Fr.refl _ _).stp F17r (upo (fun m hm=>by cases hm) (fun _ h=>.inl h))
  have P24:∀ m∈own v17r1,m∈L∨w9.heap.size≤m:=fun m hm=>(N17r1 m hm).elim (fun h=>(show ∀ m∈(own (.slice none 0 0)++L),m∈L∨w9.heap.size≤m from (upo (fun m hm=>by cases hm) (fun _ h=>.inl h))) m h) (fun h=>.inr (Nat.le_trans (Nat.le_refl _) h))
  iterate 2 refine ec_seq ?_
  refine ec_region ?_
  refine o_w (v:=.int .i64 s17.2) (r_mov rfl) ?_
  refine o_w (v:=.slice A11 x9.length c12) (r_mov rfl) ?_
  refine o_w (v:=.int .i64 (x9.length:Int)) (r_len_slc un_s_api_Entry rfl) ?_
  refine o_w (v:=.bool (decide (s17.2<(x9.length:Int)))) (r_int rfl rfl rfl) ?_
  refine eo_nil_sq ?_
  refine ec_cond rfl (fun hc25=>?_) (fun hc25=>?_)
  ·replace h:=h.1 hc25
   refine ec_skip ?_
   refine sq_n ?_
   refine ec_seq ?_
   refine ec_block ?_
   refine ec_seq ?_
   refine ec_region ?_
   refine o_w (v:=.slice A11 x9.length c12) (r_mov rfl) ?_
   refine o_w (v:=.int .i64 s17.2) (r_mov rfl) ?_
   obtain ⟨ha26,h⟩:=h
   obtain ⟨cs27,l29,H28⟩:=Stb.elem (by decide) (H13.up G21 sI (upo P24 (fun _ h=>.inl h))) s17.2 ha26.1 ha26.2
   obtain ⟨A31,c32,A34,c35,rfl,H30,H33,H36⟩:=kEnt_open2 H28
   refine o_w (v:=.pointer (some (elemA A11 kEnt.n s17.2.toNat))) (r_ia slc_s_api_Entry rfl rfl ((H13.fr G21 sI).now.2 _ (lt_toNat ha26.1 ha26.2)).1 ha26.1 ha26.2) ?_
   refine o_w (v:=.pointer (some (ad (elemA A11 kEnt.n s17.2.toNat) 1))) (r_fad fld_api_Entry_1 (elemA_spot _ _ _) rfl) ?_
   refine o_w (v:=.pointer (some (ad (elemA A11 kEnt.n s17.2.toNat) 4))) (r_fad2 fld_api_Value_3 rfl rfl rfl) ?_
   refine o_w (v:=.bool (((nth x9 s17.2).val).dead)) (r_ld' one_bool rfl rfl (H30.now.1.at (j:=4) rfl)) ?_
   refine o_w (v:=.bool (!(((nth x9 s17.2).val).dead))) (r_not rfl) ?_
   refine eo_nil_sq ?_
   refine ec_cond rfl (fun hc37=>?_) (fun hc37=>?_)
   ·replace h:=h.1 hc37
    refine ec_region ?_
    refine o_w (v:=v17r1) (r_mov rfl) ?_
    refine o_w (v:=.slice A11 x9.length c12) (r_mov rfl) ?_
    refine o_w (v:=.int .i64 s17.2) (r_mov rfl) ?_
    obtain ⟨ha38,h⟩:=h
    obtain ⟨cs39,l41,H40⟩:=Stb.elem (by decide) (H13.up G21 sI (upo P24 (fun _ h=>.inl h))) s17.2 ha38.1 ha38.2
    obtain ⟨A43,c44,A46,c47,rfl,H42,H45,H48⟩:=kEnt_open2 H40
    refine o_w (v:=.pointer (some (elemA A11 kEnt.n s17.2.toNat))) (r_ia slc_s_api_Entry rfl rfl ((H13.fr G21 sI).now.2 _ (lt_toNat ha38.1 ha38.2)).1 ha38.1 ha38.2) ?_
    refine o_w (v:=.agg (cEnt (nth x9 s17.2) A43 c44 A46 c47).toArray) (r_lda' agg_api_Entry rfl (elemA_spot _ _ _) (vs:=(cEnt (nth x9 s17.2) A43 c44 A46 c47)) rfl (H42.now.1)) ?_
    refine o_bslice slc_s_api_Entry rfl (vs:=[.agg (cEnt (nth x9 s17.2) A43 c44 A46 c47).toArray]) rfl rfl rfl (cs:=[str ((nth x9 s17.2).key),.int .i64 (((nth x9 s17.2).val).kind),.int .i64 (((nth x9 s17.2).val).time),.int .i64 (((nth x9 s17.2).val).node),.bool (((nth x9 s17.2).val).dead),str (((nth x9 s17.2).val).text),.slice A43 (((nth x9 s17.2).val).plus).length c44,.slice A46 (((nth x9 s17.2).val).minus).length c47,.int .u64 (((nth x9 s17.2).val).flags)]) rfl rfl rfl rfl ?_
    intro b49 w49 e49 F49 B49
    have N49:=nin ((hL.fr E17r).own O17r1) e49
    have S49:=B49.stb N49
    have E50:=E17r.trans F49
    have G55:Fr (own v17r1++L) w17r w49:=Fr.ext F49
    obtain ⟨ha58,h⟩:=h
    refine o_app slc_s_api_Entry rfl rfl rfl (O17r1.ex F49) rfl S49.now (ys:=([(nth x9 s17.2)]:List Ent)) rfl rfl rfl (rowd1 (cs:=(cEnt (nth x9 s17.2) A43 c44 A46 c47)) (kEnt_mk (d:=(nth x9 s17.2)) (H45.fr G55 sI) (H48.fr G55 sI)) rfl) ha58 rfl rfl ?_
    intro v57 w57 F57 O57 N57
    have P62:∀ m∈own v57,m∈(own (.slice none 0 0)++L)∨w9.heap.size≤m:=fun m hm=>(N57 m hm).elim (fun h=>(show ∀ m∈own v17r1,m∈(own (.slice none 0 0)++L)∨w9.heap.size≤m from N17r1) m h) (fun h=>.inr (Nat.le_trans ((F17r.trans (Fr.ext F49)).size) h))
    have E65:=Ext.st E50 F57 (fun m hm=>Nat.le_trans lo18 ((O17r1.ex F49).lo m hm))
    have G69:Fr (own (.slice none 0 0)++L) w9 w57:=(F17r.trans (Fr.ext F49)).stp F57 N17r1
    refine o_w (v:=v57) (r_asg rfl) ?_
    refine eo_nil ?_
    refine blk_n ?_
    refine sq_n ?_
    refine ec_region ?_
    refine o_w (v:=.int .i64 s17.2) (r_mov rfl) ?_
    refine o_w (v:=.int .i64 (IntKind.i64.wrap (s17.2 + (1:Int)))) (r_int rfl rfl rfl) ?_
    refine o_w (v:=.int .i64 (IntKind.i64.wrap (s17.2 + (1:Int)))) (r_asg rfl) ?_
    refine eo_nil ?_
    subst h
    exact lq_n ⟨_,v57,envs_self ⟨rfl,rfl,rfl,trivial⟩,rfl,G69,E65,O57,P62⟩
   ·replace h:=h.2 hc37
    refine ec_skip ?_
    refine blk_n ?_
    refine sq_n ?_
    refine ec_region ?_
    refine o_w (v:=.int .i64 s17.2) (r_mov rfl) ?_
    refine o_w (v:=.int .i64 (IntKind.i64.wrap (s17.2 + (1:Int)))) (r_int rfl rfl rfl) ?_
    refine o_w (v:=.int .i64 (IntKind.i64.wrap (s17.2 + (1:Int)))) (r_asg rfl) ?_
    refine eo_nil ?_
    subst h
    exact lq_n ⟨_,v17r1,envs_self ⟨rfl,rfl,rfl,trivial⟩,rfl,F17r,E17r,O17r1,N17r1⟩
  ·replace h:=h.2 hc25
   refine ec_exit ?_
   refine sq_exit ?_
   subst h
   exact lq_x ⟨_,v17r1,envs_self ⟨rfl,rfl,rfl,trivial⟩,rfl,F17r,E17r,O17r1,N17r1⟩
 ·exact ⟨_,(.slice none 0 0),envs_self ⟨rfl,rfl,rfl,trivial⟩,rfl,(Fr.refl _ _),E14,O18,(fun q hq=>.inl (by first | exact List.mem_append_left _ hq | simp [hq]))⟩
 ·rintro ρ17e ds17e w17e ⟨ρ17e,v17e1,rfl,rfl,F17e,E17e,O17e1,N17e1⟩
  refine blk_hit ?_
  refine sq_n ?_
  refine ec_seq ?_
  refine ec_region ?_
  refine o_w (v:=v17e1) (r_mov rfl) ?_
  refine o_w (v:=v17e1) (r_asg rfl) ?_
  refine eo_nil_sq ?_
  refine ec_ret ?_
  obtain ⟨A78,c79,eA78,H80⟩:=O17e1.still
  subst eA78
  have Zw17e_81:=Fr.refl L w17e
  subst h
  exact (end1 rfl ⟨_,rfl,E17e,_,_,rfl,(H80.fr Zw17e_81 sI)⟩)
end Go.Proofs.YthhjcijhanacnaaGreat
