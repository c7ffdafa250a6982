/- Updates: what each function comes to. -/
import Derived.Test.YthhjcijhanacnaaGreatCv
import Derived.Test.YthhjcijhanacnaaGreatEv
import Derived.Test.YthhjcijhanacnaaGreatLc
namespace Go.Proofs.YthhjcijhanacnaaGreat
open Go Go.RowKit
set_option linter.unusedVariables false
set_option linter.unusedSimpArgs false
def delta_unless_raw (d0:Bool) (d1:Int) (y:Int):Prop :=
 (d0=true→(y=(0:Int)))∧(d0=false→(y=d1))
set_option maxRecDepth 20000 in
set_option maxHeartbeats 4000000 in
theorem delta_unless_c {L:List Nat} {w:World} (d0:Bool) (d1:Int) (hL:Lt L w) {y:Int} (h:delta_unless_raw d0 d1 y) :
  Calls Tryz.prog 28 [.bool d0,.int .i64 d1].toArray w (Ret fun v w'=>Ext w w'∧v=.int .i64 y):=by
 unfold delta_unless_raw at h
 refine calls_ec Tryz.func28 rfl rfl rfl ?_
 refine ec_seq ?_
 refine ec_region ?_
 refine o_w (v:=.int .i64 0) (r_asg rfl) ?_
 refine eo_nil_sq ?_
 iterate 2 refine ec_seq ?_
 refine ec_region ?_
 refine o_w (v:=.bool d0) (r_mov rfl) ?_
 refine eo_nil_sq ?_
 refine ec_cond rfl (fun hc1=>?_) (fun hc1=>?_)
 ·replace h:=h.1 hc1
  refine ec_seq ?_
  refine ec_region ?_
  refine o_w (v:=.int .i64 0) (r_asg rfl) ?_
  refine eo_nil_sq ?_
  refine ec_ret ?_
  refine sq_ret ?_
  subst h
  exact (end1 rfl ⟨_,rfl,(Fr.refl _ _),rfl⟩)
 ·replace h:=h.2 hc1
  refine ec_skip ?_
  refine sq_n ?_
  refine ec_seq ?_
  refine ec_region ?_
  refine o_w (v:=.int .i64 d1) (r_mov rfl) ?_
  refine o_w (v:=.int .i64 d1) (r_asg rfl) ?_
  refine eo_nil_sq ?_
  refine ec_ret ?_
  replace h:=h.symm
  subst h
  exact (end1 rfl ⟨_,rfl,(Fr.refl _ _),rfl⟩)
def delta_update_may_raw (d0:Upd) (y:Int):Prop :=
 (sma d0.a)∧((((checkA d0.a) != (0:Int))=true→(y=(2:Int)))∧(((checkA d0.a) != (0:Int))=false→((((decide (d0.node<0))||(decide (8≤d0.node)))=true→(y=(10:Int)))∧(((decide (d0.node<0))||(decide (8≤d0.node)))=false→(∃ x17,delta_unless_raw ((!(d0.key==([]:Str)))&&(decide ((d0.key.length:Int)≤8))) (6:Int) x17∧(y=x17))))))
set_option maxRecDepth 20000 in
set_option maxHeartbeats 4000000 in
theorem delta_update_may_c {L:List Nat} {w:World} {csP0:List Value} (d0:Upd) (HP0:Stb L w (fun w=>kUpd.r w csP0 d0)) (hL:Lt L w) {y:Int} (h:delta_update_may_raw d0 y) :
  Calls Tryz.prog 30 [.agg csP0.toArray].toArray w (Ret fun v w'=>Ext w w'∧v=.int .i64 y):=by
 obtain ⟨A1,c2,A4,c5,rfl,H3,H6⟩:=kUpd_open HP0
 unfold delta_update_may_raw at h
 refine calls_ec Tryz.func30 rfl rfl rfl ?_
 refine ec_seq ?_
 refine ec_region ?_
 refine o_box (cs:=(cUpd d0 A1 c2 A4 c5)) rfl rfl rfl ?_
 intro b7 w7 e7 F7 B7
 have S7:=B7.stb (nin hL e7)
 have G8:Fr L w w7:=Fr.ext F7
 refine o_w (v:=.int .i64 0) (r_asg rfl) ?_
 refine eo_nil_sq ?_
 refine ec_seq ?_
 refine ec_block ?_
 refine ec_seq ?_
 refine ec_region ?_
 refine o_w (v:=.pointer (some ⟨b7,0,none⟩)) (r_fa fld_delta_update_0 rfl rfl) ?_
 refine o_w (v:=.agg (cArena d0.a A1 c2 A4 c5).toArray) (r_lda agg_api_Arena rfl (vs:=(cArena d0.a A1 c2 A4 c5)) rfl (S7.now.part (n:=3) rfl)) ?_
 obtain ⟨ha10,h⟩:=h
 refine o_call cf_arena_Check rfl (arena_Check_c d0.a (kArena_mk (d:=d0.a) (H3.fr G8 sI) (H6.fr G8 sI)) (hL.fr F7) (arCheck_ev d0.a ha10)) rfl rfl ?_
 rintro _ w9 ⟨F9,rfl⟩
 have E11:=F7.trans F9
 have G13:Fr L w7 w9:=Fr.ext F9
 refine o_w (v:=.bool ((checkA d0.a) != (0:Int))) (r_int rfl rfl rfl) ?_
 refine o_w (v:=.bool ((checkA d0.a) != (0:Int))) (r_asg rfl) ?_
 refine eo_nil_sq ?_
 refine ec_cond rfl (fun hc14=>?_) (fun hc14=>?_)
 ·replace h:=h.1 hc14
  refine ec_seq ?_
  refine ec_region ?_
  refine o_w (v:=.int .i64 2) (r_asg rfl) ?_
  refine eo_nil_sq ?_
  refine ec_ret ?_
  refine blk_ret ?_
  refine sq_ret ?_
  subst h
  exact (end1 rfl ⟨_,rfl,E11,rfl⟩)
 ·replace h:=h.2 hc14
  refine ec_seq ?_
  refine ec_region ?_
  refine o_w (v:=.pointer (some ⟨b7,3,none⟩)) (r_fa fld_delta_update_1 rfl rfl) ?_
  refine o_w (v:=.int .i64 d0.node) (r_ld one_int rfl ((S7.fr G13 sI).now.cell rfl)) ?_
  refine o_w (v:=.bool (decide (d0.node<0))) (r_int rfl rfl rfl) ?_
  refine o_w (v:=.bool (decide (d0.node<0))) (r_mov rfl) ?_
  refine o_vg (v:=.pointer (some ⟨b7,3,none⟩)) (want_cf (t:=12) rfl rfl) (fun hk=>(r_fa fld_delta_update_1 rfl rfl)) rfl rfl ?_
  refine o_vg (v:=.int .i64 d0.node) (want_cf (t:=12) rfl rfl) (fun hk=>(r_ld one_int (gdT hk) ((S7.fr G13 sI).now.cell rfl))) rfl rfl ?_
  refine o_vg (v:=.bool (decide (8≤d0.node))) (want_cf (t:=12) rfl rfl) (fun hk=>(r_int (gdT hk) rfl rfl)) rfl rfl ?_
  refine o_w (v:=.bool ((decide (d0.node<0))||(decide (8≤d0.node)))) (r_pickOr rfl rfl (fun hf=>(gdT (notT hf)))) ?_
  refine o_w (v:=.bool ((decide (d0.node<0))||(decide (8≤d0.node)))) (r_asg rfl) ?_
  refine eo_nil_sq ?_
  refine ec_cond rfl (fun hc15=>?_) (fun hc15=>?_)
  ·replace h:=h.1 hc15
   refine ec_seq ?_
   refine ec_region ?_
   refine o_w (v:=.int .i64 10) (r_asg rfl) ?_
   refine eo_nil_sq ?_
   refine ec_ret ?_
   refine blk_ret ?_
   refine sq_ret ?_
   subst h
   exact (end1 rfl ⟨_,rfl,E11,rfl⟩)
  ·replace h:=h.2 hc15
   refine ec_skip ?_
   refine blk_n ?_
   refine sq_n ?_
   refine ec_seq ?_
   refine ec_region ?_
   refine o_w (v:=.pointer (some ⟨b7,5,none⟩)) (r_fa fld_delta_update_3 rfl rfl) ?_
   refine o_w (v:=str d0.key) (r_ld one_string rfl ((S7.fr G13 sI).now.cell rfl)) ?_
   refine o_w (v:=.bool (!(d0.key==([]:Str)))) (r_str rfl rfl rfl) ?_
   refine o_w (v:=.bool (!(d0.key==([]:Str)))) (r_mov rfl) ?_
   refine o_vg (v:=.pointer (some ⟨b7,5,none⟩)) (want_ct (t:=20) rfl rfl) (fun hk=>(r_fa fld_delta_update_3 rfl rfl)) rfl rfl ?_
   refine o_vg (v:=str d0.key) (want_ct (t:=20) rfl rfl) (fun hk=>(r_ld one_string (gdT hk) ((S7.fr G13 sI).now.cell rfl))) rfl rfl ?_
   refine o_vg (v:=.int .i64 (d0.key.length:Int)) (want_ct (t:=20) rfl rfl) (fun hk=>(r_len_str un_string (gdT hk))) rfl rfl ?_
   refine o_vg (v:=.bool (decide ((d0.key.length:Int)≤8))) (want_ct (t:=20) rfl rfl) (fun hk=>(r_int (gdT hk) rfl rfl)) rfl rfl ?_
   refine o_w (v:=.bool ((!(d0.key==([]:Str)))&&(decide ((d0.key.length:Int)≤8)))) (r_pickAnd rfl (fun ht=>(gdT ht)) rfl) ?_
   obtain ⟨x17,hx17,h⟩:=h
   refine o_call cf_delta_unless rfl (delta_unless_c ((!(d0.key==([]:Str)))&&(decide ((d0.key.length:Int)≤8))) (6:Int) (hL.fr E11) hx17) rfl rfl ?_
   rintro _ w17 ⟨F17,rfl⟩
   have E18:=E11.trans F17
   refine o_w (v:=.int .i64 x17) (r_asg rfl) ?_
   refine eo_nil_sq ?_
   refine ec_ret ?_
   replace h:=h.symm
   subst h
   exact (end1 rfl ⟨_,rfl,E18,rfl⟩)
def delta_update_old_raw (d0:Upd) (y:Val × Bool):Prop :=
 (sma d0.a)∧(((decide (0≤(findA d0.a d0.kind d0.key)))=true→((0≤(findA d0.a d0.kind d0.key)∧(findA d0.a d0.kind d0.key)<(d0.a.slots.length:Int))∧(y=(((nth d0.a.slots (findA d0.a d0.kind d0.key)).val),true))))∧((decide (0≤(findA d0.a d0.kind d0.key)))=false→(∃ x38,x38=(leastV d0.kind)∧(y=(x38.1,false)))))
set_option maxRecDepth 20000 in
set_option maxHeartbeats 4000000 in
theorem delta_update_old_c {L:List Nat} {w:World} {csP0:List Value} (d0:Upd) (HP0:Stb L w (fun w=>kUpd.r w csP0 d0)) (hL:Lt L w) {y:Val × Bool} (h:delta_update_old_raw d0 y) :
  Calls Tryz.prog 37 [.agg csP0.toArray].toArray w (Ret fun v w'=>Ext w w'∧∃ (cs90:List Value),v=.tuple #[.agg cs90.toArray,.bool y.2]∧Stb L w' (fun w=>kVal.r w cs90 y.1)):=by
 obtain ⟨A1,c2,A4,c5,rfl,H3,H6⟩:=kUpd_open HP0
 have hL0:=hL
 unfold delta_update_old_raw at h
 refine calls_ec Tryz.func37 rfl rfl rfl ?_
 refine ec_seq ?_
 refine ec_region ?_
 refine o_box (cs:=(cUpd d0 A1 c2 A4 c5)) rfl rfl rfl ?_
 intro b7 w7 e7 F7 B7
 have S7:=B7.stb (nin hL e7)
 have G8:Fr L w w7:=Fr.ext F7
 refine o_alloc zero_api_Value rfl rfl rfl ?_
 intro b9 w9 e9 F9 B9
 have n9:w.heap.size≤b9:=by rw [e9]; exact F7.size
 have m10:w.heap.size≤b9:=by rw [e9]; exact G8.size
 have E12:=F7.trans F9
 have G14:Fr L w7 w9:=Fr.ext F9
 refine o_w (v:=.bool false) (r_asg rfl) ?_
 refine eo_nil_sq ?_
 iterate 2 refine ec_seq ?_
 refine ec_region ?_
 refine o_w (v:=.pointer (some ⟨b7,0,none⟩)) (r_fa fld_delta_update_0 rfl rfl) ?_
 refine o_w (v:=.agg (cArena d0.a A1 c2 A4 c5).toArray) (r_lda agg_api_Arena rfl (vs:=(cArena d0.a A1 c2 A4 c5)) rfl ((S7.fr G14 sI).now.part (n:=3) rfl)) ?_
 refine o_w (v:=.pointer (some ⟨b7,4,none⟩)) (r_fa fld_delta_update_2 rfl rfl) ?_
 refine o_w (v:=.int .i64 d0.kind) (r_ld one_int rfl ((S7.fr G14 sI).now.cell rfl)) ?_
 refine o_w (v:=.pointer (some ⟨b7,5,none⟩)) (r_fa fld_delta_update_3 rfl rfl) ?_
 refine o_w (v:=str d0.key) (r_ld one_string rfl ((S7.fr G14 sI).now.cell rfl)) ?_
 obtain ⟨ha16,h⟩:=h
 refine o_call cf_arena_Find rfl (arena_Find_c d0.a (kArena_mk (d:=d0.a) (H3.up (G8.trans (Fr.ext F9)) sI (upc (.inr m10) (fun _ h=>.inl h))) (H6.up (G8.trans (Fr.ext F9)) sI (upc (.inr m10) (fun _ h=>.inl h)))) d0.kind d0.key ((hL.fr E12).cons B9.lt) (arFind_ev d0.a d0.kind d0.key ha16)) rfl rfl ?_
 rintro _ w15 ⟨F15,rfl⟩
 have E17:=E12.trans F15
 refine o_w (v:=.int .i64 (findA d0.a d0.kind d0.key)) (r_asg rfl) ?_
 refine eo_nil_sq ?_
 refine ec_seq ?_
 refine ec_region ?_
 refine o_w (v:=.int .i64 (findA d0.a d0.kind d0.key)) (r_mov rfl) ?_
 refine o_w (v:=.bool (decide (0≤(findA d0.a d0.kind d0.key)))) (r_int rfl rfl rfl) ?_
 refine eo_nil_sq ?_
 refine ec_cond rfl (fun hc21=>?_) (fun hc21=>?_)
 ·replace h:=h.1 hc21
  refine ec_seq ?_
  refine ec_region ?_
  refine o_w (v:=.pointer (some ⟨b7,0,none⟩)) (r_fa fld_delta_update_0 rfl rfl) ?_
  refine o_w (v:=.pointer (some ⟨b7,1,none⟩)) (r_fa fld_api_Arena_1 rfl rfl) ?_
  refine o_w (v:=.slice A1 d0.a.slots.length c2) (r_ld one_s_api_Entry rfl ((S7.fr (G14.trans (Fr.ext F15)) sI).now.cell rfl)) ?_
  refine o_w (v:=.int .i64 (findA d0.a d0.kind d0.key)) (r_mov rfl) ?_
  obtain ⟨ha22,h⟩:=h
  obtain ⟨cs23,l25,H24⟩:=Stb.elem (by decide) (H3.up ((G8.trans (Fr.ext F9)).trans (Fr.ext F15)) sI (upc (.inr m10) (fun _ h=>.inl h))) (findA d0.a d0.kind d0.key) ha22.1 ha22.2
  obtain ⟨A27,c28,A30,c31,rfl,H26,H29,H32⟩:=kEnt_open2 H24
  refine o_w (v:=.pointer (some (elemA A1 kEnt.n (findA d0.a d0.kind d0.key).toNat))) (r_ia slc_s_api_Entry rfl rfl ((H3.fr ((G8.trans (Fr.ext F9)).trans (Fr.ext F15)) sI).now.2 _ (lt_toNat ha22.1 ha22.2)).1 ha22.1 ha22.2) ?_
  refine o_w (v:=.pointer (some (ad (elemA A1 kEnt.n (findA d0.a d0.kind d0.key).toNat) 1))) (r_fad fld_api_Entry_1 (elemA_spot _ _ _) rfl) ?_
  refine o_w (v:=.agg (cVal ((nth d0.a.slots (findA d0.a d0.kind d0.key)).val) A27 c28 A30 c31).toArray) (r_lda' agg_api_Value rfl rfl (vs:=(cVal ((nth d0.a.slots (findA d0.a d0.kind d0.key)).val) A27 c28 A30 c31)) rfl (H26.now.1.sub (j:=1) (n:=8) rfl)) ?_
  refine o_store rfl (B9.ex F15) (vs:=(cVal ((nth d0.a.slots (findA d0.a d0.kind d0.key)).val) A27 c28 A30 c31)) rfl sz_api_Value rfl rfl rfl ?_
  intro w33 F33 B33
  have E34:=Ext.st E17 F33 (by simp; omega)
  have G37:Fr (b9::L) w15 w33:=(Fr.refl _ _).stp F33 (upc (.inl mH) (fun m hm=>by cases hm))
  have B33':Blk w33 b9 _ (cVal ((nth d0.a.slots (findA d0.a d0.kind d0.key)).val) A27 c28 A30 c31):=B33
  refine o_w (v:=.bool true) (r_asg rfl) ?_
  refine eo_nil_sq ?_
  refine ec_ret ?_
  refine sq_ret ?_
  subst h
  exact (endr2 (rv_a rfl (agg_api_Value) B33' (vs:=(cVal ((nth d0.a.slots (findA d0.a d0.kind d0.key)).val) A27 c28 A30 c31)) rfl rfl) (rv_t rfl) ⟨_,rfl,E34,_,rfl,(kVal_mk (d:=((nth d0.a.slots (findA d0.a d0.kind d0.key)).val)) (H29.up G37 sI (fun m hm=>Or.inl (mT hm))) (H32.up G37 sI (fun m hm=>Or.inl (mT hm))))⟩)
 ·replace h:=h.2 hc21
  refine ec_skip ?_
  refine sq_n ?_
  refine ec_seq ?_
  refine ec_region ?_
  refine o_w (v:=.pointer (some ⟨b7,4,none⟩)) (r_fa fld_delta_update_2 rfl rfl) ?_
  refine o_w (v:=.int .i64 d0.kind) (r_ld one_int rfl ((S7.fr (G14.trans (Fr.ext F15)) sI).now.cell rfl)) ?_
  obtain ⟨x38,hx38,h⟩:=h
  refine o_call cf_value_Least rfl (value_Least_c d0.kind ((hL.fr E17).cons (B9.ex F15).lt) (eq_ev hx38 (valLeast_ev d0.kind))) rfl rfl ?_
  rintro _ w38 ⟨F38,cs39,rfl,H40⟩
  have E41:=E17.trans F38
  obtain ⟨A45,c46,A48,c49,rfl,H47,H50⟩:=kVal_open H40
  refine o_w (v:=.tuple #[.agg (cVal x38.1 A45 c46 A48 c49).toArray,.int .i64 x38.2]) (r_mov rfl) ?_
  refine o_w (v:=.agg (cVal x38.1 A45 c46 A48 c49).toArray) (r_ext rfl rfl) ?_
  refine o_w (v:=.int .i64 x38.2) (r_ext rfl rfl) ?_
  refine o_alloc zero_api_Value rfl rfl rfl ?_
  intro b51 w51 e51 F51 B51
  have n51:w.heap.size≤b51:=by rw [e51]; exact E41.size
  have q52:b9<b51:=by rw [e51]; exact ((B9.ex F15).ex F38).lt
  have m55:w38.heap.size≤b51:=Nat.le_of_eq e51.symm
  have NLb51:b51∉L:=fun hm=>by have h1:=hL0 _ hm; omega
  have E56:=E41.trans F51
  have G59:Fr (b9::L) w38 w51:=Fr.ext F51
  refine o_store rfl B51 (vs:=(cVal x38.1 A45 c46 A48 c49)) rfl sz_api_Value rfl rfl rfl ?_
  intro w61 F61 B61
  have E62:=Ext.st E56 F61 (by simp; omega)
  have G65:Fr (b9::L) w38 w61:=G59.stp F61 (upc (.inr m55) (fun m hm=>by cases hm))
  have B66:=(((B9.ex F15).ex F38).ex F51).fr F61 (by simp; omega)
  have B61':Blk w61 b51 _ (cVal x38.1 A45 c46 A48 c49):=B61
  have N68:b51∉(b9::L):=(notin_cons (by omega) NLb51)
  have S67:=Blk.stb B61' N68
  refine o_w (v:=.int .i64 x38.2) (r_asg rfl) ?_
  refine eo_nil_sq ?_
  refine ec_seq ?_
  refine ec_region ?_
  refine o_w (v:=.agg (cVal x38.1 A45 c46 A48 c49).toArray) (r_lda agg_api_Value rfl (vs:=(cVal x38.1 A45 c46 A48 c49)) rfl (S67.now.part (n:=8) rfl)) ?_
  refine o_store rfl B66 (vs:=(cVal x38.1 A45 c46 A48 c49)) rfl sz_api_Value rfl rfl rfl ?_
  intro w70 F70 B70
  have E71:=Ext.st E62 F70 (by simp; omega)
  have G74:Fr (b9::L) w38 w70:=G65.stp F70 (upc (.inl mH) (fun m hm=>by cases hm))
  have B70':Blk w70 b9 _ (cVal x38.1 A45 c46 A48 c49):=B70
  refine o_w (v:=.bool false) (r_asg rfl) ?_
  refine eo_nil_sq ?_
  refine ec_ret ?_
  subst h
  exact (endr2 (rv_a rfl (agg_api_Value) B70' (vs:=(cVal x38.1 A45 c46 A48 c49)) rfl rfl) (rv_t rfl) ⟨_,rfl,E71,_,rfl,(kVal_mk (d:=x38.1) (H47.up G74 sI (fun m hm=>Or.inl (mT hm))) (H50.up G74 sI (fun m hm=>Or.inl (mT hm))))⟩)
def delta_update_room_raw (d0:Upd) (y:Int):Prop :=
 ∃ x9,delta_update_old_raw d0 x9∧(∃ x38,delta_unless_raw (x9.2||(decide ((d0.a.slots.length:Int)<d0.a.cap))) (4:Int) x38∧(y=x38))
set_option maxRecDepth 20000 in
set_option maxHeartbeats 4000000 in
theorem delta_update_room_c {L:List Nat} {w:World} {csP0:List Value} (d0:Upd) (HP0:Stb L w (fun w=>kUpd.r w csP0 d0)) (hL:Lt L w) {y:Int} (h:delta_update_room_raw d0 y) :
  Calls Tryz.prog 31 [.agg csP0.toArray].toArray w (Ret fun v w'=>Ext w w'∧v=.int .i64 y):=by
 obtain ⟨A1,c2,A4,c5,rfl,H3,H6⟩:=kUpd_open HP0
 have hL0:=hL
 unfold delta_update_room_raw at h
 refine calls_ec Tryz.func31 rfl rfl rfl ?_
 refine ec_seq ?_
 refine ec_region ?_
 refine o_box (cs:=(cUpd d0 A1 c2 A4 c5)) rfl rfl rfl ?_
 intro b7 w7 e7 F7 B7
 have S7:=B7.stb (nin hL e7)
 have G8:Fr L w w7:=Fr.ext F7
 refine o_w (v:=.int .i64 0) (r_asg rfl) ?_
 refine eo_nil_sq ?_
 refine ec_seq ?_
 refine ec_region ?_
 refine o_w (v:=.agg (cUpd d0 A1 c2 A4 c5).toArray) (r_lda agg_delta_update rfl (vs:=(cUpd d0 A1 c2 A4 c5)) rfl (S7.now.part (n:=6) rfl)) ?_
 obtain ⟨x9,hx9,h⟩:=h
 refine o_call cf_delta_update_old rfl (delta_update_old_c d0 (kUpd_mk (d:=d0) (H3.fr G8 sI) (H6.fr G8 sI)) (hL.fr F7) hx9) rfl rfl ?_
 rintro _ w9 ⟨F9,cs10,rfl,H11⟩
 have E12:=F7.trans F9
 have G14:Fr L w7 w9:=Fr.ext F9
 obtain ⟨A15,c16,A18,c19,rfl,H17,H20⟩:=kVal_open H11
 refine o_w (v:=.tuple #[.agg (cVal x9.1 A15 c16 A18 c19).toArray,.bool x9.2]) (r_mov rfl) ?_
 refine o_w (v:=.agg (cVal x9.1 A15 c16 A18 c19).toArray) (r_ext rfl rfl) ?_
 refine o_w (v:=.bool x9.2) (r_ext rfl rfl) ?_
 refine o_alloc zero_api_Value rfl rfl rfl ?_
 intro b21 w21 e21 F21 B21
 have n21:w.heap.size≤b21:=by rw [e21]; exact E12.size
 have m23:w7.heap.size≤b21:=by rw [e21]; exact G14.size
 have NLb21:b21∉L:=fun hm=>by have h1:=hL0 _ hm; omega
 have E25:=E12.trans F21
 refine o_store rfl B21 (vs:=(cVal x9.1 A15 c16 A18 c19)) rfl sz_api_Value rfl rfl rfl ?_
 intro w29 F29 B29
 have E30:=Ext.st E25 F29 (by simp; omega)
 have G32:Fr L w7 w29:=(G14.trans (Fr.ext F21)).stp F29 (upc (.inr m23) (fun m hm=>by cases hm))
 have N35:b21∉L:=NLb21
 refine o_w (v:=.bool x9.2) (r_asg rfl) ?_
 refine eo_nil_sq ?_
 refine ec_seq ?_
 refine ec_region ?_
 iterate 2 refine o_w (v:=.bool x9.2) (r_mov rfl) ?_
 refine o_vg (v:=.pointer (some ⟨b7,0,none⟩)) (want_cf (t:=11) rfl rfl) (fun hk=>(r_fa fld_delta_update_0 rfl rfl)) rfl rfl ?_
 refine o_vg (v:=.pointer (some ⟨b7,1,none⟩)) (want_cf (t:=11) rfl rfl) (fun hk=>(r_fa fld_api_Arena_1 rfl (gdT hk))) rfl rfl ?_
 refine o_vg (v:=.slice A1 d0.a.slots.length c2) (want_cf (t:=11) rfl rfl) (fun hk=>(r_ld one_s_api_Entry (gdT hk) ((S7.fr G32 sI).now.cell rfl))) rfl rfl ?_
 refine o_vg (v:=.int .i64 (d0.a.slots.length:Int)) (want_cf (t:=11) rfl rfl) (fun hk=>(r_len_slc un_s_api_Entry (gdT hk))) rfl rfl ?_
 refine o_vg (v:=.pointer (some ⟨b7,0,none⟩)) (want_cf (t:=11) rfl rfl) (fun hk=>(r_fa fld_delta_update_0 rfl rfl)) rfl rfl ?_
 refine o_vg (v:=.pointer (some ⟨b7,0,none⟩)) (want_cf (t:=11) rfl rfl) (fun hk=>(r_fa fld_api_Arena_0 rfl (gdT hk))) rfl rfl ?_
 refine o_vg (v:=.int .i64 d0.a.cap) (want_cf (t:=11) rfl rfl) (fun hk=>(r_ld one_int (gdT hk) ((S7.fr G32 sI).now.cell rfl))) rfl rfl ?_
 refine o_vg (v:=.bool (decide ((d0.a.slots.length:Int)<d0.a.cap))) (want_cf (t:=11) rfl rfl) (fun hk=>(r_int (gdT hk) (gdT hk) rfl)) rfl rfl ?_
 refine o_w (v:=.bool (x9.2||(decide ((d0.a.slots.length:Int)<d0.a.cap)))) (r_pickOr rfl rfl (fun hf=>(gdT (notT hf)))) ?_
 obtain ⟨x38,hx38,h⟩:=h
 refine o_call cf_delta_unless rfl (delta_unless_c (x9.2||(decide ((d0.a.slots.length:Int)<d0.a.cap))) (4:Int) (hL.fr E30) hx38) rfl rfl ?_
 rintro _ w38 ⟨F38,rfl⟩
 have E39:=E30.trans F38
 refine o_w (v:=.int .i64 x38) (r_asg rfl) ?_
 refine eo_nil_sq ?_
 refine ec_ret ?_
 replace h:=h.symm
 subst h
 exact (end1 rfl ⟨_,rfl,E39,rfl⟩)
def delta_update_entry_raw (d0:Upd) (d1:Val) (y:Ent):Prop :=
 y=(⟨d0.key,(⟨d0.kind,d1.time,d1.node,d1.dead,d1.text,d1.plus,d1.minus,d1.flags⟩:Val)⟩:Ent)
set_option maxRecDepth 20000 in
set_option maxHeartbeats 4000000 in
theorem delta_update_entry_c {L:List Nat} {w:World} {csP0:List Value} (d0:Upd) (HP0:Stb L w (fun w=>kUpd.r w csP0 d0)) {csP1:List Value} (d1:Val) (HP1:Stb L w (fun w=>kVal.r w csP1 d1)) (hL:Lt L w) {y:Ent} (h:delta_update_entry_raw d0 d1 y) :
  Calls Tryz.prog 42 [.agg csP0.toArray,.agg csP1.toArray].toArray w (Ret fun v w'=>Ext w w'∧∃ (cs90:List Value),v=.agg cs90.toArray∧Stb L w' (fun w=>kEnt.r w cs90 y)):=by
 obtain ⟨A1,c2,A4,c5,rfl,H3,H6⟩:=kUpd_open HP0
 obtain ⟨A7,c8,A10,c11,rfl,H9,H12⟩:=kVal_open HP1
 unfold delta_update_entry_raw at h
 refine calls_ec Tryz.func42 rfl rfl rfl ?_
 refine ec_seq ?_
 refine ec_region ?_
 refine o_box (cs:=(cUpd d0 A1 c2 A4 c5)) rfl rfl rfl ?_
 intro b13 w13 e13 F13 B13
 have S13:=B13.stb (nin hL e13)
 have G14:Fr L w w13:=Fr.ext F13
 refine o_box (cs:=(cVal d1 A7 c8 A10 c11)) rfl rfl rfl ?_
 intro b15 w15 e15 F15 B15
 have n15:w.heap.size≤b15:=by rw [e15]; exact F13.size
 have m16:w.heap.size≤b15:=by rw [e15]; exact G14.size
 have m17:w13.heap.size≤b15:=Nat.le_of_eq e15.symm
 have E18:=F13.trans F15
 have G20:Fr L w13 w15:=Fr.ext F15
 refine o_alloc zero_api_Entry rfl rfl rfl ?_
 intro b21 w21 e21 F21 B21
 have n21:w.heap.size≤b21:=by rw [e21]; exact E18.size
 have q22:b15<b21:=by rw [e21]; exact B15.lt
 have m23:w.heap.size≤b21:=by rw [e21]; exact (G14.trans (Fr.ext F15)).size
 have E25:=E18.trans F21
 refine eo_nil_sq ?_
 refine ec_seq ?_
 refine ec_region ?_
 refine o_w (v:=.pointer (some ⟨b13,4,none⟩)) (r_fa fld_delta_update_2 rfl rfl) ?_
 refine o_w (v:=.int .i64 d0.kind) (r_ld one_int rfl ((S13.fr (G20.trans (Fr.ext F21)) sI).now.cell rfl)) ?_
 refine o_w (v:=.pointer (some ⟨b15,0,none⟩)) (r_fa fld_api_Value_0 rfl rfl) ?_
 refine o_store rfl (B15.ex F21) (vs:=[.int .i64 d0.kind]) rfl sz_int rfl rfl rfl ?_
 intro w29 F29 B29
 have E30:=Ext.st E25 F29 (by simp; omega)
 have G31:Fr L w w29:=((G14.trans (Fr.ext F15)).trans (Fr.ext F21)).stp F29 (upc (.inr m16) (fun m hm=>by cases hm))
 have G32:Fr L w13 w29:=(G20.trans (Fr.ext F21)).stp F29 (upc (.inr m17) (fun m hm=>by cases hm))
 have B33:=B21.fr F29 (by simp; omega)
 have B29':Blk w29 b15 _ [.int .i64 d0.kind,.int .i64 d1.time,.int .i64 d1.node,.bool d1.dead,str d1.text,.slice A7 d1.plus.length c8,.slice A10 d1.minus.length c11,.int .u64 d1.flags]:=B29
 refine eo_nil_sq ?_
 refine ec_seq ?_
 refine ec_region ?_
 refine o_w (v:=.pointer (some ⟨b13,5,none⟩)) (r_fa fld_delta_update_3 rfl rfl) ?_
 refine o_w (v:=str d0.key) (r_ld one_string rfl ((S13.fr G32 sI).now.cell rfl)) ?_
 refine o_w (v:=.agg #[.int .i64 d0.kind,.int .i64 d1.time,.int .i64 d1.node,.bool d1.dead,str d1.text,.slice A7 d1.plus.length c8,.slice A10 d1.minus.length c11,.int .u64 d1.flags]) (r_lda agg_api_Value rfl (vs:=[.int .i64 d0.kind,.int .i64 d1.time,.int .i64 d1.node,.bool d1.dead,str d1.text,.slice A7 d1.plus.length c8,.slice A10 d1.minus.length c11,.int .u64 d1.flags]) rfl (B29'.part (n:=8) rfl)) ?_
 refine o_w (v:=.agg #[str d0.key,.int .i64 d0.kind,.int .i64 d1.time,.int .i64 d1.node,.bool d1.dead,str d1.text,.slice A7 d1.plus.length c8,.slice A10 d1.minus.length c11,.int .u64 d1.flags]) (r_build bld_api_Entry (vs:=[(0,str d0.key),(1,.agg #[.int .i64 d0.kind,.int .i64 d1.time,.int .i64 d1.node,.bool d1.dead,str d1.text,.slice A7 d1.plus.length c8,.slice A10 d1.minus.length c11,.int .u64 d1.flags])]) (cells:=[str d0.key,.int .i64 d0.kind,.int .i64 d1.time,.int .i64 d1.node,.bool d1.dead,str d1.text,.slice A7 d1.plus.length c8,.slice A10 d1.minus.length c11,.int .u64 d1.flags]) rfl rfl) ?_
 refine o_store rfl B33 (vs:=[str d0.key,.int .i64 d0.kind,.int .i64 d1.time,.int .i64 d1.node,.bool d1.dead,str d1.text,.slice A7 d1.plus.length c8,.slice A10 d1.minus.length c11,.int .u64 d1.flags]) rfl sz_api_Entry rfl rfl rfl ?_
 intro w34 F34 B34
 have E35:=Ext.st E30 F34 (by simp; omega)
 have G36:Fr L w w34:=G31.stp F34 (upc (.inr m23) (fun m hm=>by cases hm))
 have B34':Blk w34 b21 _ [str d0.key,.int .i64 d0.kind,.int .i64 d1.time,.int .i64 d1.node,.bool d1.dead,str d1.text,.slice A7 d1.plus.length c8,.slice A10 d1.minus.length c11,.int .u64 d1.flags]:=B34
 refine eo_nil_sq ?_
 refine ec_ret ?_
 subst h
 exact (endr1 (rv_a rfl (agg_api_Entry) B34' (vs:=[str d0.key,.int .i64 d0.kind,.int .i64 d1.time,.int .i64 d1.node,.bool d1.dead,str d1.text,.slice A7 d1.plus.length c8,.slice A10 d1.minus.length c11,.int .u64 d1.flags]) rfl rfl) ⟨_,rfl,E35,_,rfl,(kEnt_mk (d:=(⟨d0.key,(⟨d0.kind,d1.time,d1.node,d1.dead,d1.text,d1.plus,d1.minus,d1.flags⟩:Val)⟩:Ent)) (H9.fr G36 sI) (H12.fr G36 sI))⟩)
def delta_update_later_raw (d0:Upd) (d1:Bool) (d2:Str) (y:Ent × Int):Prop :=
 ∃ x15,delta_update_old_raw d0 x15∧(((x15.1.time==2147483647)=true→(y=((⟨([]:Str),(⟨(0:Int),(0:Int),(0:Int),false,([]:Str),([]:List Int),([]:List Int),(0:Int)⟩:Val)⟩:Ent),(5:Int))))∧((x15.1.time==2147483647)=false→(∃ x54,delta_update_entry_raw d0 (⟨(0:Int),(IntKind.i64.wrap (x15.1.time + (1:Int))),d0.node,d1,d2,([]:List Int),([]:List Int),(0:Int)⟩:Val) x54∧(y=(x54,(0:Int))))))
set_option maxRecDepth 20000 in
set_option maxHeartbeats 4000000 in
theorem delta_update_later_c {L:List Nat} {w:World} {csP0:List Value} (d0:Upd) (HP0:Stb L w (fun w=>kUpd.r w csP0 d0)) (d1:Bool) (d2:Str) (hL:Lt L w) {y:Ent × Int} (h:delta_update_later_raw d0 d1 d2 y) :
  Calls Tryz.prog 32 [.agg csP0.toArray,.bool d1,str d2].toArray w (Ret fun v w'=>Ext w w'∧∃ (cs90:List Value),v=.tuple #[.agg cs90.toArray,.int .i64 y.2]∧Stb L w' (fun w=>kEnt.r w cs90 y.1)):=by
 obtain ⟨A1,c2,A4,c5,rfl,H3,H6⟩:=kUpd_open HP0
 have hL0:=hL
 unfold delta_update_later_raw at h
 refine calls_ec Tryz.func32 rfl rfl rfl ?_
 refine ec_seq ?_
 refine ec_region ?_
 refine o_box (cs:=(cUpd d0 A1 c2 A4 c5)) rfl rfl rfl ?_
 intro b7 w7 e7 F7 B7
 have S7:=B7.stb (nin hL e7)
 have G8:Fr L w w7:=Fr.ext F7
 refine o_alloc zero_api_Entry rfl rfl rfl ?_
 intro b9 w9 e9 F9 B9
 have n9:w.heap.size≤b9:=by rw [e9]; exact F7.size
 have m10:w.heap.size≤b9:=by rw [e9]; exact G8.size
 have E12:=F7.trans F9
 have G14:Fr L w7 w9:=Fr.ext F9
 refine o_w (v:=.int .i64 0) (r_asg rfl) ?_
 refine eo_nil_sq ?_
 refine ec_seq ?_
 refine ec_region ?_
 refine o_w (v:=.agg (cUpd d0 A1 c2 A4 c5).toArray) (r_lda agg_delta_update rfl (vs:=(cUpd d0 A1 c2 A4 c5)) rfl ((S7.fr G14 sI).now.part (n:=6) rfl)) ?_
 obtain ⟨x15,hx15,h⟩:=h
 refine o_call cf_delta_update_old rfl (delta_update_old_c d0 (kUpd_mk (d:=d0) (H3.up (G8.trans (Fr.ext F9)) sI (upc (.inr m10) (fun _ h=>.inl h))) (H6.up (G8.trans (Fr.ext F9)) sI (upc (.inr m10) (fun _ h=>.inl h)))) ((hL.fr E12).cons B9.lt) hx15) rfl rfl ?_
 rintro _ w15 ⟨F15,cs16,rfl,H17⟩
 have E18:=E12.trans F15
 obtain ⟨A22,c23,A25,c26,rfl,H24,H27⟩:=kVal_open H17
 refine o_w (v:=.tuple #[.agg (cVal x15.1 A22 c23 A25 c26).toArray,.bool x15.2]) (r_mov rfl) ?_
 refine o_w (v:=.agg (cVal x15.1 A22 c23 A25 c26).toArray) (r_ext rfl rfl) ?_
 refine o_w (v:=.bool x15.2) (r_ext rfl rfl) ?_
 refine o_alloc zero_api_Value rfl rfl rfl ?_
 intro b28 w28 e28 F28 B28
 have n28:w.heap.size≤b28:=by rw [e28]; exact E18.size
 have q29:b9<b28:=by rw [e28]; exact (B9.ex F15).lt
 have m30:w.heap.size≤b28:=by rw [e28]; exact ((G8.trans (Fr.ext F9)).trans (Fr.ext F15)).size
 have m31:w7.heap.size≤b28:=by rw [e28]; exact (G14.trans (Fr.ext F15)).size
 have NLb28:b28∉L:=fun hm=>by have h1:=hL0 _ hm; omega
 have E33:=E18.trans F28
 refine o_store rfl B28 (vs:=(cVal x15.1 A22 c23 A25 c26)) rfl sz_api_Value rfl rfl rfl ?_
 intro w38 F38 B38
 have E39:=Ext.st E33 F38 (by simp; omega)
 have G40:Fr L w w38:=(((G8.trans (Fr.ext F9)).trans (Fr.ext F15)).trans (Fr.ext F28)).stp F38 (upc (.inr m30) (fun m hm=>by cases hm))
 have G41:Fr L w7 w38:=((G14.trans (Fr.ext F15)).trans (Fr.ext F28)).stp F38 (upc (.inr m31) (fun m hm=>by cases hm))
 have B43:=((B9.ex F15).ex F28).fr F38 (by simp; omega)
 have B38':Blk w38 b28 _ (cVal x15.1 A22 c23 A25 c26):=B38
 have N45:b28∉(b9::L):=(notin_cons (by omega) NLb28)
 have S44:=Blk.stb B38' N45
 refine o_w (v:=.bool x15.2) (r_asg rfl) ?_
 refine eo_nil_sq ?_
 iterate 2 refine ec_seq ?_
 refine ec_region ?_
 refine o_w (v:=.pointer (some ⟨b28,1,none⟩)) (r_fa fld_api_Value_1 rfl rfl) ?_
 refine o_w (v:=.int .i64 x15.1.time) (r_ld one_int rfl (S44.now.cell rfl)) ?_
 refine o_w (v:=.bool (x15.1.time==2147483647)) (r_int rfl rfl rfl) ?_
 refine eo_nil_sq ?_
 refine ec_cond rfl (fun hc47=>?_) (fun hc47=>?_)
 ·replace h:=h.1 hc47
  refine ec_seq ?_
  refine ec_region ?_
  refine o_w (v:=.agg #[str [],.int .i64 0,.int .i64 0,.int .i64 0,.bool false,str [],.slice none ([]:List Int).length 0,.slice none ([]:List Int).length 0,.int .u64 0]) (r_build bld_api_Entry (vs:=[]) (cells:=[str [],.int .i64 0,.int .i64 0,.int .i64 0,.bool false,str [],.slice none ([]:List Int).length 0,.slice none ([]:List Int).length 0,.int .u64 0]) rfl rfl) ?_
  refine o_store rfl B43 (vs:=[str [],.int .i64 0,.int .i64 0,.int .i64 0,.bool false,str [],.slice none ([]:List Int).length 0,.slice none ([]:List Int).length 0,.int .u64 0]) rfl sz_api_Entry rfl rfl rfl ?_
  intro w48 F48 B48
  have E49:=Ext.st E39 F48 (by simp; omega)
  have B48':Blk w48 b9 _ [str [],.int .i64 0,.int .i64 0,.int .i64 0,.bool false,str [],.slice none ([]:List Int).length 0,.slice none ([]:List Int).length 0,.int .u64 0]:=B48
  refine o_w (v:=.int .i64 5) (r_asg rfl) ?_
  refine eo_nil_sq ?_
  refine ec_ret ?_
  refine sq_ret ?_
  subst h
  exact (endr2 (rv_a rfl (agg_api_Entry) B48' (vs:=[str [],.int .i64 0,.int .i64 0,.int .i64 0,.bool false,str [],.slice none ([]:List Int).length 0,.slice none ([]:List Int).length 0,.int .u64 0]) rfl rfl) (rv_t rfl) ⟨_,rfl,E49,_,rfl,(kEnt_mk (d:=(⟨([]:Str),(⟨(0:Int),(0:Int),(0:Int),false,([]:Str),([]:List Int),([]:List Int),(0:Int)⟩:Val)⟩:Ent)) stb_nil stb_nil)⟩)
 ·replace h:=h.2 hc47
  refine ec_skip ?_
  refine sq_n ?_
  refine ec_seq ?_
  refine ec_region ?_
  refine o_w (v:=.agg (cUpd d0 A1 c2 A4 c5).toArray) (r_lda agg_delta_update rfl (vs:=(cUpd d0 A1 c2 A4 c5)) rfl ((S7.fr G41 sI).now.part (n:=6) rfl)) ?_
  refine o_w (v:=.pointer (some ⟨b28,1,none⟩)) (r_fa fld_api_Value_1 rfl rfl) ?_
  refine o_w (v:=.int .i64 x15.1.time) (r_ld one_int rfl (S44.now.cell rfl)) ?_
  refine o_w (v:=.int .i64 (IntKind.i64.wrap (x15.1.time + (1:Int)))) (r_int rfl rfl rfl) ?_
  refine o_w (v:=.pointer (some ⟨b7,3,none⟩)) (r_fa fld_delta_update_1 rfl rfl) ?_
  refine o_w (v:=.int .i64 d0.node) (r_ld one_int rfl ((S7.fr G41 sI).now.cell rfl)) ?_
  refine o_w (v:=.bool d1) (r_mov rfl) ?_
  refine o_w (v:=str d2) (r_mov rfl) ?_
  refine o_w (v:=.agg #[.int .i64 0,.int .i64 (IntKind.i64.wrap (x15.1.time + (1:Int))),.int .i64 d0.node,.bool d1,str d2,.slice none ([]:List Int).length 0,.slice none ([]:List Int).length 0,.int .u64 0]) (r_build bld_api_Value (vs:=[(1,.int .i64 (IntKind.i64.wrap (x15.1.time + (1:Int)))),(2,.int .i64 d0.node),(3,.bool d1),(4,str d2)]) (cells:=[.int .i64 0,.int .i64 (IntKind.i64.wrap (x15.1.time + (1:Int))),.int .i64 d0.node,.bool d1,str d2,.slice none ([]:List Int).length 0,.slice none ([]:List Int).length 0,.int .u64 0]) rfl rfl) ?_
  obtain ⟨x54,hx54,h⟩:=h
  refine o_call cf_delta_update_entry rfl (delta_update_entry_c d0 (kUpd_mk (d:=d0) (H3.up G40 sI (upc (.inr m10) (fun _ h=>.inl h))) (H6.up G40 sI (upc (.inr m10) (fun _ h=>.inl h)))) (⟨(0:Int),(IntKind.i64.wrap (x15.1.time + (1:Int))),d0.node,d1,d2,([]:List Int),([]:List Int),(0:Int)⟩:Val) (kVal_mk (d:=(⟨(0:Int),(IntKind.i64.wrap (x15.1.time + (1:Int))),d0.node,d1,d2,([]:List Int),([]:List Int),(0:Int)⟩:Val)) stb_nil stb_nil) ((hL.fr E39).cons B43.lt) hx54) rfl rfl ?_
  rintro _ w54 ⟨F54,cs55,rfl,H56⟩
  have E57:=E39.trans F54
  obtain ⟨A63,c64,A66,c67,rfl,H65,H68⟩:=kEnt_open H56
  refine o_store rfl (B43.ex F54) (vs:=(cEnt x54 A63 c64 A66 c67)) rfl sz_api_Entry rfl rfl rfl ?_
  intro w69 F69 B69
  have E70:=Ext.st E57 F69 (by simp; omega)
  have G75:Fr (b9::L) w54 w69:=(Fr.refl _ _).stp F69 (upc (.inl mH) (fun m hm=>by cases hm))
  have B69':Blk w69 b9 _ (cEnt x54 A63 c64 A66 c67):=B69
  refine o_w (v:=.int .i64 0) (r_asg rfl) ?_
  refine eo_nil_sq ?_
  refine ec_ret ?_
  subst h
  exact (endr2 (rv_a rfl (agg_api_Entry) B69' (vs:=(cEnt x54 A63 c64 A66 c67)) rfl rfl) (rv_t rfl) ⟨_,rfl,E70,_,rfl,(kEnt_mk (d:=x54) (H65.up G75 sI (fun m hm=>Or.inl (mT hm))) (H68.up G75 sI (fun m hm=>Or.inl (mT hm))))⟩)
def delta_Put_1_raw (d0:Str) (y:Int):Prop :=
 ∃ x1,delta_unless_raw (decide ((d0.length:Int)≤8)) (6:Int) x1∧(y=x1)
set_option maxRecDepth 20000 in
set_option maxHeartbeats 4000000 in
theorem delta_Put_1_c {L:List Nat} {w:World} {bP0:Nat} (d0:Str) (HB0:Stb L w (fun w=>Blk w bP0 9 [str d0])) (hL:Lt L w) {y:Int} (h:delta_Put_1_raw d0 y) :
  Calls Tryz.prog 27 [.pointer (some ⟨bP0,0,none⟩)].toArray w (Ret fun v w'=>Ext w w'∧v=.int .i64 y):=by
 unfold delta_Put_1_raw at h
 refine calls_ec Tryz.func27 rfl rfl rfl ?_
 refine ec_seq ?_
 refine ec_region ?_
 refine o_w (v:=.int .i64 0) (r_asg rfl) ?_
 refine eo_nil_sq ?_
 refine ec_seq ?_
 refine ec_region ?_
 refine o_w (v:=str d0) (r_ld one_string rfl (HB0.now.cell rfl)) ?_
 refine o_w (v:=.int .i64 (d0.length:Int)) (r_len_str un_string rfl) ?_
 refine o_w (v:=.bool (decide ((d0.length:Int)≤8))) (r_int rfl rfl rfl) ?_
 obtain ⟨x1,hx1,h⟩:=h
 refine o_call cf_delta_unless rfl (delta_unless_c (decide ((d0.length:Int)≤8)) (6:Int) hL hx1) rfl rfl ?_
 rintro _ w1 ⟨F1,rfl⟩
 refine o_w (v:=.int .i64 x1) (r_asg rfl) ?_
 refine eo_nil_sq ?_
 refine ec_ret ?_
 replace h:=h.symm
 subst h
 exact (end1 rfl ⟨_,rfl,F1,rfl⟩)
def delta_Add_1_raw (d0:Int) (y:Int):Prop :=
 ∃ x2,delta_unless_raw (((d0 != (0:Int))&&(decide (d0≤65535)))&&(decide ((-65535:Int)≤d0))) (1:Int) x2∧(y=x2)
set_option maxRecDepth 20000 in
set_option maxHeartbeats 4000000 in
theorem delta_Add_1_c {L:List Nat} {w:World} {bP0:Nat} (d0:Int) (HB0:Stb L w (fun w=>Blk w bP0 3 [.int .i64 d0])) (hL:Lt L w) {y:Int} (h:delta_Add_1_raw d0 y) :
  Calls Tryz.prog 40 [.pointer (some ⟨bP0,0,none⟩)].toArray w (Ret fun v w'=>Ext w w'∧v=.int .i64 y):=by
 unfold delta_Add_1_raw at h
 refine calls_ec Tryz.func40 rfl rfl rfl ?_
 refine ec_seq ?_
 refine ec_region ?_
 refine o_w (v:=.int .i64 0) (r_asg rfl) ?_
 refine eo_nil_sq ?_
 refine ec_seq ?_
 refine ec_region ?_
 refine o_w (v:=.int .i64 d0) (r_ld one_int rfl (HB0.now.cell rfl)) ?_
 refine o_w (v:=.bool (d0 != (0:Int))) (r_int rfl rfl rfl) ?_
 refine o_w (v:=.bool (d0 != (0:Int))) (r_mov rfl) ?_
 refine o_vg (v:=.int .i64 d0) (want_ct (t:=4) rfl rfl) (fun hk=>(r_ld one_int rfl (HB0.now.cell rfl))) rfl rfl ?_
 refine o_vg (v:=.bool (decide (d0≤65535))) (want_ct (t:=4) rfl rfl) (fun hk=>(r_int (gdT hk) rfl rfl)) rfl rfl ?_
 refine o_w (v:=.bool ((d0 != (0:Int))&&(decide (d0≤65535)))) (r_pickAnd rfl (fun ht=>(gdT ht)) rfl) ?_
 refine o_w (v:=.bool ((d0 != (0:Int))&&(decide (d0≤65535)))) (r_mov rfl) ?_
 refine o_vg (v:=.int .i64 d0) (want_ct (t:=8) rfl rfl) (fun hk=>(r_ld one_int rfl (HB0.now.cell rfl))) rfl rfl ?_
 refine o_vg (v:=.bool (decide ((-65535:Int)≤d0))) (want_ct (t:=8) rfl rfl) (fun hk=>(r_int (gdT hk) rfl rfl)) rfl rfl ?_
 refine o_w (v:=.bool (((d0 != (0:Int))&&(decide (d0≤65535)))&&(decide ((-65535:Int)≤d0)))) (r_pickAnd rfl (fun ht=>(gdT ht)) rfl) ?_
 obtain ⟨x2,hx2,h⟩:=h
 refine o_call cf_delta_unless rfl (delta_unless_c (((d0 != (0:Int))&&(decide (d0≤65535)))&&(decide ((-65535:Int)≤d0))) (1:Int) hL hx2) rfl rfl ?_
 rintro _ w2 ⟨F2,rfl⟩
 refine o_w (v:=.int .i64 x2) (r_asg rfl) ?_
 refine eo_nil_sq ?_
 refine ec_ret ?_
 replace h:=h.symm
 subst h
 exact (end1 rfl ⟨_,rfl,F2,rfl⟩)
def delta_Delete_1_raw (d0:Upd) (y:Int):Prop :=
 ∃ x7,delta_update_old_raw d0 x7∧(∃ x31,delta_unless_raw (x7.2&&(!x7.1.dead)) (9:Int) x31∧(y=x31))
set_option maxRecDepth 20000 in
set_option maxHeartbeats 4000000 in
theorem delta_Delete_1_c {L:List Nat} {w:World} {bP0:Nat} {csP0:List Value} (d0:Upd) (HB0:Stb L w (fun w=>Blk w bP0 54 csP0)) (HP0:Stb L w (fun w=>kUpd.r w csP0 d0)) (hL:Lt L w) {y:Int} (h:delta_Delete_1_raw d0 y) :
  Calls Tryz.prog 36 [.pointer (some ⟨bP0,0,none⟩)].toArray w (Ret fun v w'=>Ext w w'∧v=.int .i64 y):=by
 obtain ⟨A1,c2,A4,c5,rfl,H3,H6⟩:=kUpd_open HP0
 have hL0:=hL
 unfold delta_Delete_1_raw at h
 refine calls_ec Tryz.func36 rfl rfl rfl ?_
 refine ec_seq ?_
 refine ec_region ?_
 refine o_w (v:=.int .i64 0) (r_asg rfl) ?_
 refine eo_nil_sq ?_
 refine ec_seq ?_
 refine ec_region ?_
 refine o_w (v:=.agg (cUpd d0 A1 c2 A4 c5).toArray) (r_lda agg_delta_update rfl (vs:=(cUpd d0 A1 c2 A4 c5)) rfl (HB0.now.part (n:=6) rfl)) ?_
 obtain ⟨x7,hx7,h⟩:=h
 refine o_call cf_delta_update_old rfl (delta_update_old_c d0 (kUpd_mk (d:=d0) H3 H6) hL hx7) rfl rfl ?_
 rintro _ w7 ⟨F7,cs8,rfl,H9⟩
 obtain ⟨A11,c12,A14,c15,rfl,H13,H16⟩:=kVal_open H9
 refine o_w (v:=.tuple #[.agg (cVal x7.1 A11 c12 A14 c15).toArray,.bool x7.2]) (r_mov rfl) ?_
 refine o_w (v:=.agg (cVal x7.1 A11 c12 A14 c15).toArray) (r_ext rfl rfl) ?_
 refine o_w (v:=.bool x7.2) (r_ext rfl rfl) ?_
 refine o_alloc zero_api_Value rfl rfl rfl ?_
 intro b17 w17 e17 F17 B17
 have n17:w.heap.size≤b17:=by rw [e17]; exact F7.size
 have NLb17:b17∉L:=fun hm=>by have h1:=hL0 _ hm; omega
 have E20:=F7.trans F17
 refine o_store rfl B17 (vs:=(cVal x7.1 A11 c12 A14 c15)) rfl sz_api_Value rfl rfl rfl ?_
 intro w23 F23 B23
 have E24:=Ext.st E20 F23 (by simp; omega)
 have B23':Blk w23 b17 _ (cVal x7.1 A11 c12 A14 c15):=B23
 have N28:b17∉L:=NLb17
 have S27:=Blk.stb B23' N28
 refine o_w (v:=.bool x7.2) (r_asg rfl) ?_
 refine eo_nil_sq ?_
 refine ec_seq ?_
 refine ec_region ?_
 iterate 2 refine o_w (v:=.bool x7.2) (r_mov rfl) ?_
 refine o_vg (v:=.pointer (some ⟨b17,3,none⟩)) (want_ct (t:=10) rfl rfl) (fun hk=>(r_fa fld_api_Value_3 rfl rfl)) rfl rfl ?_
 refine o_vg (v:=.bool x7.1.dead) (want_ct (t:=10) rfl rfl) (fun hk=>(r_ld one_bool (gdT hk) (S27.now.cell rfl))) rfl rfl ?_
 refine o_vg (v:=.bool (!x7.1.dead)) (want_ct (t:=10) rfl rfl) (fun hk=>(r_not (gdT hk))) rfl rfl ?_
 refine o_w (v:=.bool (x7.2&&(!x7.1.dead))) (r_pickAnd rfl (fun ht=>(gdT ht)) rfl) ?_
 obtain ⟨x31,hx31,h⟩:=h
 refine o_call cf_delta_unless rfl (delta_unless_c (x7.2&&(!x7.1.dead)) (9:Int) (hL.fr E24) hx31) rfl rfl ?_
 rintro _ w31 ⟨F31,rfl⟩
 have E32:=E24.trans F31
 refine o_w (v:=.int .i64 x31) (r_asg rfl) ?_
 refine eo_nil_sq ?_
 refine ec_ret ?_
 replace h:=h.symm
 subst h
 exact (end1 rfl ⟨_,rfl,E32,rfl⟩)
def delta_Text_1_raw (d0:Val) (y:Str × Bool):Prop :=
 y=(d0.text,(!d0.dead))
set_option maxRecDepth 20000 in
set_option maxHeartbeats 4000000 in
theorem delta_Text_1_c {L:List Nat} {w:World} {csP0:List Value} (d0:Val) (HP0:Stb L w (fun w=>kVal.r w csP0 d0)) (hL:Lt L w) {y:Str × Bool} (h:delta_Text_1_raw d0 y) :
  Calls Tryz.prog 46 [.agg csP0.toArray].toArray w (Ret fun v w'=>Ext w w'∧v=.tuple #[str y.1,.bool y.2]):=by
 obtain ⟨A1,c2,A4,c5,rfl,H3,H6⟩:=kVal_open HP0
 unfold delta_Text_1_raw at h
 refine calls_ec Tryz.func46 rfl rfl rfl ?_
 refine ec_seq ?_
 refine ec_region ?_
 refine o_box (cs:=(cVal d0 A1 c2 A4 c5)) rfl rfl rfl ?_
 intro b7 w7 e7 F7 B7
 have S7:=B7.stb (nin hL e7)
 refine o_w (v:=str []) (r_asg rfl) ?_
 refine o_w (v:=.bool false) (r_asg rfl) ?_
 refine eo_nil_sq ?_
 refine ec_seq ?_
 refine ec_any0 (by kernel_rfl) [[],[0],[],[2],[2,3],[0,1],[0,1,2,3,4,5]] [2,3,4,5,6,7,8] [fun v _=>v=(.pointer (some ⟨b7,4,none⟩):Value),fun v _=>v=(str d0.text:Value),fun v _=>v=(.pointer (some ⟨b7,3,none⟩):Value),fun v _=>v=(.bool d0.dead:Value),fun v _=>v=(.bool (!d0.dead):Value),fun v _=>v=(str d0.text:Value),fun v _=>v=(.bool (!d0.dead):Value)] (by kernel_rfl) ⟨fun _ _ _ _ _ h=>h,fun _ _ _ _ _ h=>h,fun _ _ _ _ _ h=>h,fun _ _ _ _ _ h=>h,fun _ _ _ _ _ h=>h,fun _ _ _ _ _ h=>h,fun _ _ _ _ _ h=>h,trivial⟩ ?_ ?_
 ·refine ⟨?_,?_,?_,?_,?_,?_,?_,trivial⟩
  ·intro ρ w9o F9o hS hρ
   have q1:ρ 1=.pointer (some ⟨b7,0,none⟩):=hρ 1 (by kernel_rfl)
   exact o_q (r_fa fld_api_Value_4 rfl q1) ⟨Fr.refl _ _,rfl⟩
  ·intro ρ w9o F9o hS hρ
   have G12:Fr L w7 w9o:=Fr.ext F9o
   have q4:ρ 4=.pointer (some ⟨b7,4,none⟩):=hS 0 (by decide) 4 rfl
   exact o_q (r_ld one_string q4 ((S7.fr G12 sI).now.cell rfl)) ⟨Fr.refl _ _,rfl⟩
  ·intro ρ w9o F9o hS hρ
   have q1:ρ 1=.pointer (some ⟨b7,0,none⟩):=hρ 1 (by kernel_rfl)
   exact o_q (r_fa fld_api_Value_3 rfl q1) ⟨Fr.refl _ _,rfl⟩
  ·intro ρ w9o F9o hS hρ
   have G15:Fr L w7 w9o:=Fr.ext F9o
   have q6:ρ 6=.pointer (some ⟨b7,3,none⟩):=hS 2 (by decide) 6 rfl
   exact o_q (r_ld one_bool q6 ((S7.fr G15 sI).now.cell rfl)) ⟨Fr.refl _ _,rfl⟩
  ·intro ρ w9o F9o hS hρ
   have q7:ρ 7=.bool d0.dead:=hS 3 (by decide) 7 rfl
   exact o_q (r_not q7) ⟨Fr.refl _ _,rfl⟩
  ·intro ρ w9o F9o hS hρ
   have q5:ρ 5=str d0.text:=hS 1 (by decide) 5 rfl
   exact o_q (r_asg q5) ⟨Fr.refl _ _,rfl⟩
  ·intro ρ w9o F9o hS hρ
   have q8:ρ 8=.bool (!d0.dead):=hS 4 (by decide) 8 rfl
   exact o_q (r_asg q8) ⟨Fr.refl _ _,rfl⟩
 ·intro ρ w9 F9 hS hρ
  have q2:ρ 2=str d0.text:=hS 5 2 rfl
  have q3:ρ 3=.bool (!d0.dead):=hS 6 3 rfl
  obtain ⟨ρ',rfl⟩:∃ ρ',ρ=envs (ovr [2,3,4,5,6,7,8] ρ' _) [(2,str d0.text),(3,.bool (!d0.dead))]:=⟨ρ,ovr_self hρ ⟨q2,q3,trivial⟩⟩
  have E16:=F7.trans F9
  refine sq_n ?_
  refine ec_ret ?_
  subst h
  exact (end2 rfl rfl ⟨_,rfl,E16,rfl⟩)
def delta_Sum_1_raw (d0:Val) (y:Int × Bool):Prop :=
 (sm d0)∧(y=((sumV d0),true))
set_option maxRecDepth 20000 in
set_option maxHeartbeats 4000000 in
theorem delta_Sum_1_c {L:List Nat} {w:World} {csP0:List Value} (d0:Val) (HP0:Stb L w (fun w=>kVal.r w csP0 d0)) (hL:Lt L w) {y:Int × Bool} (h:delta_Sum_1_raw d0 y) :
  Calls Tryz.prog 48 [.agg csP0.toArray].toArray w (Ret fun v w'=>Ext w w'∧v=.tuple #[.int .i64 y.1,.bool y.2]):=by
 obtain ⟨A1,c2,A4,c5,rfl,H3,H6⟩:=kVal_open HP0
 unfold delta_Sum_1_raw at h
 refine calls_ec Tryz.func48 rfl rfl rfl ?_
 refine ec_seq ?_
 refine ec_region ?_
 refine o_box (cs:=(cVal d0 A1 c2 A4 c5)) rfl rfl rfl ?_
 intro b7 w7 e7 F7 B7
 have S7:=B7.stb (nin hL e7)
 have G8:Fr L w w7:=Fr.ext F7
 refine o_w (v:=.int .i64 0) (r_asg rfl) ?_
 refine o_w (v:=.bool false) (r_asg rfl) ?_
 refine eo_nil_sq ?_
 refine ec_seq ?_
 refine ec_region ?_
 refine o_w (v:=.agg (cVal d0 A1 c2 A4 c5).toArray) (r_lda agg_api_Value rfl (vs:=(cVal d0 A1 c2 A4 c5)) rfl (S7.now.part (n:=8) rfl)) ?_
 obtain ⟨ha10,h⟩:=h
 refine o_call cf_value_Sum rfl (value_Sum_c d0 (kVal_mk (d:=d0) (H3.fr G8 sI) (H6.fr G8 sI)) (hL.fr F7) (valSum_ev d0 ha10)) rfl rfl ?_
 rintro _ w9 ⟨F9,rfl⟩
 have E11:=F7.trans F9
 refine o_w (v:=.int .i64 (sumV d0)) (r_asg rfl) ?_
 refine o_w (v:=.bool true) (r_asg rfl) ?_
 refine eo_nil_sq ?_
 refine ec_ret ?_
 subst h
 exact (end2 rfl rfl ⟨_,rfl,E11,rfl⟩)
def delta_Flags_1_raw (d0:Val) (y:Int × Bool):Prop :=
 y=(d0.flags,true)
set_option maxRecDepth 20000 in
set_option maxHeartbeats 4000000 in
theorem delta_Flags_1_c {L:List Nat} {w:World} {csP0:List Value} (d0:Val) (HP0:Stb L w (fun w=>kVal.r w csP0 d0)) (hL:Lt L w) {y:Int × Bool} (h:delta_Flags_1_raw d0 y) :
  Calls Tryz.prog 52 [.agg csP0.toArray].toArray w (Ret fun v w'=>Ext w w'∧v=.tuple #[.int .u64 y.1,.bool y.2]):=by
 obtain ⟨A1,c2,A4,c5,rfl,H3,H6⟩:=kVal_open HP0
 unfold delta_Flags_1_raw at h
 refine calls_ec Tryz.func52 rfl rfl rfl ?_
 refine ec_seq ?_
 refine ec_region ?_
 refine o_box (cs:=(cVal d0 A1 c2 A4 c5)) rfl rfl rfl ?_
 intro b7 w7 e7 F7 B7
 have S7:=B7.stb (nin hL e7)
 refine o_w (v:=.int .u64 0) (r_asg rfl) ?_
 refine o_w (v:=.bool false) (r_asg rfl) ?_
 refine eo_nil_sq ?_
 refine ec_seq ?_
 refine ec_region ?_
 refine o_w (v:=.pointer (some ⟨b7,7,none⟩)) (r_fa fld_api_Value_7 rfl rfl) ?_
 refine o_w (v:=.int .u64 d0.flags) (r_ld one_uint64 rfl (S7.now.cell rfl)) ?_
 refine o_w (v:=.int .u64 d0.flags) (r_asg rfl) ?_
 refine o_w (v:=.bool true) (r_asg rfl) ?_
 refine eo_nil_sq ?_
 refine ec_ret ?_
 subst h
 exact (end2 rfl rfl ⟨_,rfl,F7,rfl⟩)
def delta_Scan_1_raw (d0:Ent) (y:Bool):Prop :=
 y=d0.val.dead
set_option maxRecDepth 20000 in
set_option maxHeartbeats 4000000 in
theorem delta_Scan_1_c {L:List Nat} {w:World} {csP0:List Value} (d0:Ent) (HP0:Stb L w (fun w=>kEnt.r w csP0 d0)) (hL:Lt L w) {y:Bool} (h:delta_Scan_1_raw d0 y) :
  Calls Tryz.prog 55 [.agg csP0.toArray].toArray w (Ret fun v w'=>Ext w w'∧v=.bool y):=by
 obtain ⟨A1,c2,A4,c5,rfl,H3,H6⟩:=kEnt_open HP0
 unfold delta_Scan_1_raw at h
 refine calls_ec Tryz.func55 rfl rfl rfl ?_
 refine ec_seq ?_
 refine ec_region ?_
 refine o_box (cs:=(cEnt d0 A1 c2 A4 c5)) rfl rfl rfl ?_
 intro b7 w7 e7 F7 B7
 have S7:=B7.stb (nin hL e7)
 refine o_w (v:=.bool false) (r_asg rfl) ?_
 refine eo_nil_sq ?_
 refine ec_seq ?_
 refine ec_region ?_
 refine o_w (v:=.pointer (some ⟨b7,1,none⟩)) (r_fa fld_api_Entry_1 rfl rfl) ?_
 refine o_w (v:=.pointer (some ⟨b7,4,none⟩)) (r_fa fld_api_Value_3 rfl rfl) ?_
 refine o_w (v:=.bool d0.val.dead) (r_ld one_bool rfl (S7.now.cell rfl)) ?_
 refine o_w (v:=.bool d0.val.dead) (r_asg rfl) ?_
 refine eo_nil_sq ?_
 refine ec_ret ?_
 subst h
 exact (end1 rfl ⟨_,rfl,F7,rfl⟩)
def delta_read_string_Text_1_raw (d0:Arena) (d1:Int) (d2:Str) (y:Str × Bool):Prop :=
 ∃ x9,delta_update_old_raw (⟨d0,(0:Int),d1,d2⟩:Upd) x9∧(((!x9.2)=true→(y=(([]:Str),false)))∧((!x9.2)=false→(∃ x38,delta_Text_1_raw x9.1 x38∧(y=(x38.1,x38.2)))))
set_option maxRecDepth 20000 in
set_option maxHeartbeats 4000000 in
theorem delta_read_string_Text_1_c {L:List Nat} {w:World} {csP0:List Value} (d0:Arena) (HP0:Stb L w (fun w=>kArena.r w csP0 d0)) (d1:Int) (d2:Str) (hL:Lt L w) {y:Str × Bool} (h:delta_read_string_Text_1_raw d0 d1 d2 y) :
  Calls Tryz.prog 45 [.agg csP0.toArray,.int .i64 d1,str d2,.func (.func 46) #[] #[]].toArray w (Ret fun v w'=>Ext w w'∧v=.tuple #[str y.1,.bool y.2]):=by
 obtain ⟨A1,c2,A4,c5,rfl,H3,H6⟩:=kArena_open HP0
 have hL0:=hL
 unfold delta_read_string_Text_1_raw at h
 refine calls_ec Tryz.func45 rfl rfl rfl ?_
 refine ec_seq ?_
 refine ec_region ?_
 refine o_box (cs:=(cArena d0 A1 c2 A4 c5)) rfl rfl rfl ?_
 intro b7 w7 e7 F7 B7
 have S7:=B7.stb (nin hL e7)
 have G8:Fr L w w7:=Fr.ext F7
 refine o_w (v:=str []) (r_asg rfl) ?_
 refine o_w (v:=.bool false) (r_asg rfl) ?_
 refine eo_nil_sq ?_
 refine ec_seq ?_
 refine ec_region ?_
 refine o_w (v:=str []) (r_asg rfl) ?_
 refine eo_nil_sq ?_
 refine ec_seq ?_
 refine ec_region ?_
 refine o_w (v:=.agg (cArena d0 A1 c2 A4 c5).toArray) (r_lda agg_api_Arena rfl (vs:=(cArena d0 A1 c2 A4 c5)) rfl (S7.now.part (n:=3) rfl)) ?_
 refine o_w (v:=.int .i64 d1) (r_mov rfl) ?_
 refine o_w (v:=str d2) (r_mov rfl) ?_
 refine o_w (v:=.agg #[.int .i64 d0.cap,.slice A1 d0.slots.length c2,.slice A4 d0.idx.length c5,.int .i64 0,.int .i64 d1,str d2]) (r_build bld_delta_update (vs:=[(0,.agg (cArena d0 A1 c2 A4 c5).toArray),(1,.int .i64 0),(2,.int .i64 d1),(3,str d2)]) (cells:=[.int .i64 d0.cap,.slice A1 d0.slots.length c2,.slice A4 d0.idx.length c5,.int .i64 0,.int .i64 d1,str d2]) rfl rfl) ?_
 obtain ⟨x9,hx9,h⟩:=h
 refine o_call cf_delta_update_old rfl (delta_update_old_c (⟨d0,(0:Int),d1,d2⟩:Upd) (kUpd_mk (d:=(⟨d0,(0:Int),d1,d2⟩:Upd)) (H3.fr G8 sI) (H6.fr G8 sI)) (hL.fr F7) hx9) rfl rfl ?_
 rintro _ w9 ⟨F9,cs10,rfl,H11⟩
 have E12:=F7.trans F9
 obtain ⟨A15,c16,A18,c19,rfl,H17,H20⟩:=kVal_open H11
 refine o_w (v:=.tuple #[.agg (cVal x9.1 A15 c16 A18 c19).toArray,.bool x9.2]) (r_mov rfl) ?_
 refine o_w (v:=.agg (cVal x9.1 A15 c16 A18 c19).toArray) (r_ext rfl rfl) ?_
 refine o_w (v:=.bool x9.2) (r_ext rfl rfl) ?_
 refine o_alloc zero_api_Value rfl rfl rfl ?_
 intro b21 w21 e21 F21 B21
 have n21:w.heap.size≤b21:=by rw [e21]; exact E12.size
 have m24:w9.heap.size≤b21:=Nat.le_of_eq e21.symm
 have NLb21:b21∉L:=fun hm=>by have h1:=hL0 _ hm; omega
 have E25:=E12.trans F21
 have G28:Fr L w9 w21:=Fr.ext F21
 refine o_store rfl B21 (vs:=(cVal x9.1 A15 c16 A18 c19)) rfl sz_api_Value rfl rfl rfl ?_
 intro w29 F29 B29
 have E30:=Ext.st E25 F29 (by simp; omega)
 have G33:Fr L w9 w29:=G28.stp F29 (upc (.inr m24) (fun m hm=>by cases hm))
 have B29':Blk w29 b21 _ (cVal x9.1 A15 c16 A18 c19):=B29
 have N35:b21∉L:=NLb21
 have S34:=Blk.stb B29' N35
 refine o_w (v:=.bool x9.2) (r_asg rfl) ?_
 refine eo_nil_sq ?_
 iterate 2 refine ec_seq ?_
 refine ec_region ?_
 refine o_w (v:=.bool x9.2) (r_mov rfl) ?_
 refine o_w (v:=.bool (!x9.2)) (r_not rfl) ?_
 refine eo_nil_sq ?_
 refine ec_cond rfl (fun hc37=>?_) (fun hc37=>?_)
 ·replace h:=h.1 hc37
  refine ec_seq ?_
  refine ec_region ?_
  refine o_w (v:=str []) (r_mov rfl) ?_
  refine o_w (v:=str []) (r_asg rfl) ?_
  refine o_w (v:=.bool false) (r_asg rfl) ?_
  refine eo_nil_sq ?_
  refine ec_ret ?_
  refine sq_ret ?_
  subst h
  exact (end2 rfl rfl ⟨_,rfl,E30,rfl⟩)
 ·replace h:=h.2 hc37
  refine ec_skip ?_
  refine sq_n ?_
  refine ec_seq ?_
  refine ec_region ?_
  refine o_w (v:=.func (.func 46) #[] #[]) (r_mov rfl) ?_
  refine o_w (v:=.agg (cVal x9.1 A15 c16 A18 c19).toArray) (r_lda agg_api_Value rfl (vs:=(cVal x9.1 A15 c16 A18 c19)) rfl (S34.now.part (n:=8) rfl)) ?_
  obtain ⟨x38,hx38,h⟩:=h
  refine o_callv cf_delta_Text_1 rfl rfl (delta_Text_1_c x9.1 (kVal_mk (d:=x9.1) (H17.fr G33 sI) (H20.fr G33 sI)) (hL.fr E30) hx38) rfl rfl ?_
  rintro _ w38 ⟨F38,rfl⟩
  have E39:=E30.trans F38
  refine o_w (v:=str x38.1) (r_ext rfl rfl) ?_
  refine o_w (v:=.bool x38.2) (r_ext rfl rfl) ?_
  refine o_w (v:=str x38.1) (r_asg rfl) ?_
  refine o_w (v:=.bool x38.2) (r_asg rfl) ?_
  refine eo_nil_sq ?_
  refine ec_ret ?_
  subst h
  exact (end2 rfl rfl ⟨_,rfl,E39,rfl⟩)
def delta_read_int_Sum_1_raw (d0:Arena) (d1:Int) (d2:Str) (y:Int × Bool):Prop :=
 ∃ x9,delta_update_old_raw (⟨d0,(0:Int),d1,d2⟩:Upd) x9∧(((!x9.2)=true→(y=((0:Int),false)))∧((!x9.2)=false→(∃ x38,delta_Sum_1_raw x9.1 x38∧(y=(x38.1,x38.2)))))
set_option maxRecDepth 20000 in
set_option maxHeartbeats 4000000 in
theorem delta_read_int_Sum_1_c {L:List Nat} {w:World} {csP0:List Value} (d0:Arena) (HP0:Stb L w (fun w=>kArena.r w csP0 d0)) (d1:Int) (d2:Str) (hL:Lt L w) {y:Int × Bool} (h:delta_read_int_Sum_1_raw d0 d1 d2 y) :
  Calls Tryz.prog 47 [.agg csP0.toArray,.int .i64 d1,str d2,.func (.func 48) #[] #[]].toArray w (Ret fun v w'=>Ext w w'∧v=.tuple #[.int .i64 y.1,.bool y.2]):=by
 obtain ⟨A1,c2,A4,c5,rfl,H3,H6⟩:=kArena_open HP0
 have hL0:=hL
 unfold delta_read_int_Sum_1_raw at h
 refine calls_ec Tryz.func47 rfl rfl rfl ?_
 refine ec_seq ?_
 refine ec_region ?_
 refine o_box (cs:=(cArena d0 A1 c2 A4 c5)) rfl rfl rfl ?_
 intro b7 w7 e7 F7 B7
 have S7:=B7.stb (nin hL e7)
 have G8:Fr L w w7:=Fr.ext F7
 refine o_w (v:=.int .i64 0) (r_asg rfl) ?_
 refine o_w (v:=.bool false) (r_asg rfl) ?_
 refine eo_nil_sq ?_
 refine ec_seq ?_
 refine ec_region ?_
 refine o_w (v:=.int .i64 0) (r_asg rfl) ?_
 refine eo_nil_sq ?_
 refine ec_seq ?_
 refine ec_region ?_
 refine o_w (v:=.agg (cArena d0 A1 c2 A4 c5).toArray) (r_lda agg_api_Arena rfl (vs:=(cArena d0 A1 c2 A4 c5)) rfl (S7.now.part (n:=3) rfl)) ?_
 refine o_w (v:=.int .i64 d1) (r_mov rfl) ?_
 refine o_w (v:=str d2) (r_mov rfl) ?_
 refine o_w (v:=.agg #[.int .i64 d0.cap,.slice A1 d0.slots.length c2,.slice A4 d0.idx.length c5,.int .i64 0,.int .i64 d1,str d2]) (r_build bld_delta_update (vs:=[(0,.agg (cArena d0 A1 c2 A4 c5).toArray),(1,.int .i64 0),(2,.int .i64 d1),(3,str d2)]) (cells:=[.int .i64 d0.cap,.slice A1 d0.slots.length c2,.slice A4 d0.idx.length c5,.int .i64 0,.int .i64 d1,str d2]) rfl rfl) ?_
 obtain ⟨x9,hx9,h⟩:=h
 refine o_call cf_delta_update_old rfl (delta_update_old_c (⟨d0,(0:Int),d1,d2⟩:Upd) (kUpd_mk (d:=(⟨d0,(0:Int),d1,d2⟩:Upd)) (H3.fr G8 sI) (H6.fr G8 sI)) (hL.fr F7) hx9) rfl rfl ?_
 rintro _ w9 ⟨F9,cs10,rfl,H11⟩
 have E12:=F7.trans F9
 obtain ⟨A15,c16,A18,c19,rfl,H17,H20⟩:=kVal_open H11
 refine o_w (v:=.tuple #[.agg (cVal x9.1 A15 c16 A18 c19).toArray,.bool x9.2]) (r_mov rfl) ?_
 refine o_w (v:=.agg (cVal x9.1 A15 c16 A18 c19).toArray) (r_ext rfl rfl) ?_
 refine o_w (v:=.bool x9.2) (r_ext rfl rfl) ?_
 refine o_alloc zero_api_Value rfl rfl rfl ?_
 intro b21 w21 e21 F21 B21
 have n21:w.heap.size≤b21:=by rw [e21]; exact E12.size
 have m24:w9.heap.size≤b21:=Nat.le_of_eq e21.symm
 have NLb21:b21∉L:=fun hm=>by have h1:=hL0 _ hm; omega
 have E25:=E12.trans F21
 have G28:Fr L w9 w21:=Fr.ext F21
 refine o_store rfl B21 (vs:=(cVal x9.1 A15 c16 A18 c19)) rfl sz_api_Value rfl rfl rfl ?_
 intro w29 F29 B29
 have E30:=Ext.st E25 F29 (by simp; omega)
 have G33:Fr L w9 w29:=G28.stp F29 (upc (.inr m24) (fun m hm=>by cases hm))
 have B29':Blk w29 b21 _ (cVal x9.1 A15 c16 A18 c19):=B29
 have N35:b21∉L:=NLb21
 have S34:=Blk.stb B29' N35
 refine o_w (v:=.bool x9.2) (r_asg rfl) ?_
 refine eo_nil_sq ?_
 iterate 2 refine ec_seq ?_
 refine ec_region ?_
 refine o_w (v:=.bool x9.2) (r_mov rfl) ?_
 refine o_w (v:=.bool (!x9.2)) (r_not rfl) ?_
 refine eo_nil_sq ?_
 refine ec_cond rfl (fun hc37=>?_) (fun hc37=>?_)
 ·replace h:=h.1 hc37
  refine ec_seq ?_
  refine ec_region ?_
  refine o_w (v:=.int .i64 0) (r_mov rfl) ?_
  refine o_w (v:=.int .i64 0) (r_asg rfl) ?_
  refine o_w (v:=.bool false) (r_asg rfl) ?_
  refine eo_nil_sq ?_
  refine ec_ret ?_
  refine sq_ret ?_
  subst h
  exact (end2 rfl rfl ⟨_,rfl,E30,rfl⟩)
 ·replace h:=h.2 hc37
  refine ec_skip ?_
  refine sq_n ?_
  refine ec_seq ?_
  refine ec_region ?_
  refine o_w (v:=.func (.func 48) #[] #[]) (r_mov rfl) ?_
  refine o_w (v:=.agg (cVal x9.1 A15 c16 A18 c19).toArray) (r_lda agg_api_Value rfl (vs:=(cVal x9.1 A15 c16 A18 c19)) rfl (S34.now.part (n:=8) rfl)) ?_
  obtain ⟨x38,hx38,h⟩:=h
  refine o_callv cf_delta_Sum_1 rfl rfl (delta_Sum_1_c x9.1 (kVal_mk (d:=x9.1) (H17.fr G33 sI) (H20.fr G33 sI)) (hL.fr E30) hx38) rfl rfl ?_
  rintro _ w38 ⟨F38,rfl⟩
  have E39:=E30.trans F38
  refine o_w (v:=.int .i64 x38.1) (r_ext rfl rfl) ?_
  refine o_w (v:=.bool x38.2) (r_ext rfl rfl) ?_
  refine o_w (v:=.int .i64 x38.1) (r_asg rfl) ?_
  refine o_w (v:=.bool x38.2) (r_asg rfl) ?_
  refine eo_nil_sq ?_
  refine ec_ret ?_
  subst h
  exact (end2 rfl rfl ⟨_,rfl,E39,rfl⟩)
def delta_read_uint64_Flags_1_raw (d0:Arena) (d1:Int) (d2:Str) (y:Int × Bool):Prop :=
 ∃ x9,delta_update_old_raw (⟨d0,(0:Int),d1,d2⟩:Upd) x9∧(((!x9.2)=true→(y=((0:Int),false)))∧((!x9.2)=false→(∃ x38,delta_Flags_1_raw x9.1 x38∧(y=(x38.1,x38.2)))))
set_option maxRecDepth 20000 in
set_option maxHeartbeats 4000000 in
theorem delta_read_uint64_Flags_1_c {L:List Nat} {w:World} {csP0:List Value} (d0:Arena) (HP0:Stb L w (fun w=>kArena.r w csP0 d0)) (d1:Int) (d2:Str) (hL:Lt L w) {y:Int × Bool} (h:delta_read_uint64_Flags_1_raw d0 d1 d2 y) :
  Calls Tryz.prog 51 [.agg csP0.toArray,.int .i64 d1,str d2,.func (.func 52) #[] #[]].toArray w (Ret fun v w'=>Ext w w'∧v=.tuple #[.int .u64 y.1,.bool y.2]):=by
 obtain ⟨A1,c2,A4,c5,rfl,H3,H6⟩:=kArena_open HP0
 have hL0:=hL
 unfold delta_read_uint64_Flags_1_raw at h
 refine calls_ec Tryz.func51 rfl rfl rfl ?_
 refine ec_seq ?_
 refine ec_region ?_
 refine o_box (cs:=(cArena d0 A1 c2 A4 c5)) rfl rfl rfl ?_
 intro b7 w7 e7 F7 B7
 have S7:=B7.stb (nin hL e7)
 have G8:Fr L w w7:=Fr.ext F7
 refine o_w (v:=.int .u64 0) (r_asg rfl) ?_
 refine o_w (v:=.bool false) (r_asg rfl) ?_
 refine eo_nil_sq ?_
 refine ec_seq ?_
 refine ec_region ?_
 refine o_w (v:=.int .u64 0) (r_asg rfl) ?_
 refine eo_nil_sq ?_
 refine ec_seq ?_
 refine ec_region ?_
 refine o_w (v:=.agg (cArena d0 A1 c2 A4 c5).toArray) (r_lda agg_api_Arena rfl (vs:=(cArena d0 A1 c2 A4 c5)) rfl (S7.now.part (n:=3) rfl)) ?_
 refine o_w (v:=.int .i64 d1) (r_mov rfl) ?_
 refine o_w (v:=str d2) (r_mov rfl) ?_
 refine o_w (v:=.agg #[.int .i64 d0.cap,.slice A1 d0.slots.length c2,.slice A4 d0.idx.length c5,.int .i64 0,.int .i64 d1,str d2]) (r_build bld_delta_update (vs:=[(0,.agg (cArena d0 A1 c2 A4 c5).toArray),(1,.int .i64 0),(2,.int .i64 d1),(3,str d2)]) (cells:=[.int .i64 d0.cap,.slice A1 d0.slots.length c2,.slice A4 d0.idx.length c5,.int .i64 0,.int .i64 d1,str d2]) rfl rfl) ?_
 obtain ⟨x9,hx9,h⟩:=h
 refine o_call cf_delta_update_old rfl (delta_update_old_c (⟨d0,(0:Int),d1,d2⟩:Upd) (kUpd_mk (d:=(⟨d0,(0:Int),d1,d2⟩:Upd)) (H3.fr G8 sI) (H6.fr G8 sI)) (hL.fr F7) hx9) rfl rfl ?_
 rintro _ w9 ⟨F9,cs10,rfl,H11⟩
 have E12:=F7.trans F9
 obtain ⟨A15,c16,A18,c19,rfl,H17,H20⟩:=kVal_open H11
 refine o_w (v:=.tuple #[.agg (cVal x9.1 A15 c16 A18 c19).toArray,.bool x9.2]) (r_mov rfl) ?_
 refine o_w (v:=.agg (cVal x9.1 A15 c16 A18 c19).toArray) (r_ext rfl rfl) ?_
 refine o_w (v:=.bool x9.2) (r_ext rfl rfl) ?_
 refine o_alloc zero_api_Value rfl rfl rfl ?_
 intro b21 w21 e21 F21 B21
 have n21:w.heap.size≤b21:=by rw [e21]; exact E12.size
 have m24:w9.heap.size≤b21:=Nat.le_of_eq e21.symm
 have NLb21:b21∉L:=fun hm=>by have h1:=hL0 _ hm; omega
 have E25:=E12.trans F21
 have G28:Fr L w9 w21:=Fr.ext F21
 refine o_store rfl B21 (vs:=(cVal x9.1 A15 c16 A18 c19)) rfl sz_api_Value rfl rfl rfl ?_
 intro w29 F29 B29
 have E30:=Ext.st E25 F29 (by simp; omega)
 have G33:Fr L w9 w29:=G28.stp F29 (upc (.inr m24) (fun m hm=>by cases hm))
 have B29':Blk w29 b21 _ (cVal x9.1 A15 c16 A18 c19):=B29
 have N35:b21∉L:=NLb21
 have S34:=Blk.stb B29' N35
 refine o_w (v:=.bool x9.2) (r_asg rfl) ?_
 refine eo_nil_sq ?_
 iterate 2 refine ec_seq ?_
 refine ec_region ?_
 refine o_w (v:=.bool x9.2) (r_mov rfl) ?_
 refine o_w (v:=.bool (!x9.2)) (r_not rfl) ?_
 refine eo_nil_sq ?_
 refine ec_cond rfl (fun hc37=>?_) (fun hc37=>?_)
 ·replace h:=h.1 hc37
  refine ec_seq ?_
  refine ec_region ?_
  refine o_w (v:=.int .u64 0) (r_mov rfl) ?_
  refine o_w (v:=.int .u64 0) (r_asg rfl) ?_
  refine o_w (v:=.bool false) (r_asg rfl) ?_
  refine eo_nil_sq ?_
  refine ec_ret ?_
  refine sq_ret ?_
  subst h
  exact (end2 rfl rfl ⟨_,rfl,E30,rfl⟩)
 ·replace h:=h.2 hc37
  refine ec_skip ?_
  refine sq_n ?_
  refine ec_seq ?_
  refine ec_region ?_
  refine o_w (v:=.func (.func 52) #[] #[]) (r_mov rfl) ?_
  refine o_w (v:=.agg (cVal x9.1 A15 c16 A18 c19).toArray) (r_lda agg_api_Value rfl (vs:=(cVal x9.1 A15 c16 A18 c19)) rfl (S34.now.part (n:=8) rfl)) ?_
  obtain ⟨x38,hx38,h⟩:=h
  refine o_callv cf_delta_Flags_1 rfl rfl (delta_Flags_1_c x9.1 (kVal_mk (d:=x9.1) (H17.fr G33 sI) (H20.fr G33 sI)) (hL.fr E30) hx38) rfl rfl ?_
  rintro _ w38 ⟨F38,rfl⟩
  have E39:=E30.trans F38
  refine o_w (v:=.int .u64 x38.1) (r_ext rfl rfl) ?_
  refine o_w (v:=.bool x38.2) (r_ext rfl rfl) ?_
  refine o_w (v:=.int .u64 x38.1) (r_asg rfl) ?_
  refine o_w (v:=.bool x38.2) (r_asg rfl) ?_
  refine eo_nil_sq ?_
  refine ec_ret ?_
  subst h
  exact (end2 rfl rfl ⟨_,rfl,E39,rfl⟩)
def delta_Text_raw (d0:Arena) (d1:Str) (y:Str × Bool):Prop :=
 ∃ x9,delta_read_string_Text_1_raw d0 (1:Int) d1 x9∧(y=(x9.1,x9.2))
set_option maxRecDepth 20000 in
set_option maxHeartbeats 4000000 in
theorem delta_Text_c {L:List Nat} {w:World} {csP0:List Value} (d0:Arena) (HP0:Stb L w (fun w=>kArena.r w csP0 d0)) (d1:Str) (hL:Lt L w) {y:Str × Bool} (h:delta_Text_raw d0 d1 y) :
  Calls Tryz.prog 16 [.agg csP0.toArray,str d1].toArray w (Ret fun v w'=>Ext w w'∧v=.tuple #[str y.1,.bool y.2]):=by
 obtain ⟨A1,c2,A4,c5,rfl,H3,H6⟩:=kArena_open HP0
 unfold delta_Text_raw at h
 refine calls_ec Tryz.func16 rfl rfl rfl ?_
 refine ec_seq ?_
 refine ec_region ?_
 refine o_box (cs:=(cArena d0 A1 c2 A4 c5)) rfl rfl rfl ?_
 intro b7 w7 e7 F7 B7
 have S7:=B7.stb (nin hL e7)
 have G8:Fr L w w7:=Fr.ext F7
 refine o_w (v:=str []) (r_asg rfl) ?_
 refine o_w (v:=.bool false) (r_asg rfl) ?_
 refine eo_nil_sq ?_
 refine ec_seq ?_
 refine ec_region ?_
 refine o_w (v:=.agg (cArena d0 A1 c2 A4 c5).toArray) (r_lda agg_api_Arena rfl (vs:=(cArena d0 A1 c2 A4 c5)) rfl (S7.now.part (n:=3) rfl)) ?_
 refine o_w (v:=str d1) (r_mov rfl) ?_
 obtain ⟨x9,hx9,h⟩:=h
 refine o_call cf_delta_read_string rfl (delta_read_string_Text_1_c d0 (kArena_mk (d:=d0) (H3.fr G8 sI) (H6.fr G8 sI)) (1:Int) d1 (hL.fr F7) hx9) rfl rfl ?_
 rintro _ w9 ⟨F9,rfl⟩
 have E10:=F7.trans F9
 refine o_w (v:=str x9.1) (r_ext rfl rfl) ?_
 refine o_w (v:=.bool x9.2) (r_ext rfl rfl) ?_
 refine o_w (v:=str x9.1) (r_asg rfl) ?_
 refine o_w (v:=.bool x9.2) (r_asg rfl) ?_
 refine eo_nil_sq ?_
 refine ec_ret ?_
 subst h
 exact (end2 rfl rfl ⟨_,rfl,E10,rfl⟩)
def delta_Sum_raw (d0:Arena) (d1:Str) (y:Int × Bool):Prop :=
 ∃ x9,delta_read_int_Sum_1_raw d0 (2:Int) d1 x9∧(y=(x9.1,x9.2))
set_option maxRecDepth 20000 in
set_option maxHeartbeats 4000000 in
theorem delta_Sum_c {L:List Nat} {w:World} {csP0:List Value} (d0:Arena) (HP0:Stb L w (fun w=>kArena.r w csP0 d0)) (d1:Str) (hL:Lt L w) {y:Int × Bool} (h:delta_Sum_raw d0 d1 y) :
  Calls Tryz.prog 18 [.agg csP0.toArray,str d1].toArray w (Ret fun v w'=>Ext w w'∧v=.tuple #[.int .i64 y.1,.bool y.2]):=by
 obtain ⟨A1,c2,A4,c5,rfl,H3,H6⟩:=kArena_open HP0
 unfold delta_Sum_raw at h
 refine calls_ec Tryz.func18 rfl rfl rfl ?_
 refine ec_seq ?_
 refine ec_region ?_
 refine o_box (cs:=(cArena d0 A1 c2 A4 c5)) rfl rfl rfl ?_
 intro b7 w7 e7 F7 B7
 have S7:=B7.stb (nin hL e7)
 have G8:Fr L w w7:=Fr.ext F7
 refine o_w (v:=.int .i64 0) (r_asg rfl) ?_
 refine o_w (v:=.bool false) (r_asg rfl) ?_
 refine eo_nil_sq ?_
 refine ec_seq ?_
 refine ec_region ?_
 refine o_w (v:=.agg (cArena d0 A1 c2 A4 c5).toArray) (r_lda agg_api_Arena rfl (vs:=(cArena d0 A1 c2 A4 c5)) rfl (S7.now.part (n:=3) rfl)) ?_
 refine o_w (v:=str d1) (r_mov rfl) ?_
 obtain ⟨x9,hx9,h⟩:=h
 refine o_call cf_delta_read_int rfl (delta_read_int_Sum_1_c d0 (kArena_mk (d:=d0) (H3.fr G8 sI) (H6.fr G8 sI)) (2:Int) d1 (hL.fr F7) hx9) rfl rfl ?_
 rintro _ w9 ⟨F9,rfl⟩
 have E10:=F7.trans F9
 refine o_w (v:=.int .i64 x9.1) (r_ext rfl rfl) ?_
 refine o_w (v:=.bool x9.2) (r_ext rfl rfl) ?_
 refine o_w (v:=.int .i64 x9.1) (r_asg rfl) ?_
 refine o_w (v:=.bool x9.2) (r_asg rfl) ?_
 refine eo_nil_sq ?_
 refine ec_ret ?_
 subst h
 exact (end2 rfl rfl ⟨_,rfl,E10,rfl⟩)
def delta_Flags_raw (d0:Arena) (d1:Str) (y:Int × Bool):Prop :=
 ∃ x9,delta_read_uint64_Flags_1_raw d0 (3:Int) d1 x9∧(y=(x9.1,x9.2))
set_option maxRecDepth 20000 in
set_option maxHeartbeats 4000000 in
theorem delta_Flags_c {L:List Nat} {w:World} {csP0:List Value} (d0:Arena) (HP0:Stb L w (fun w=>kArena.r w csP0 d0)) (d1:Str) (hL:Lt L w) {y:Int × Bool} (h:delta_Flags_raw d0 d1 y) :
  Calls Tryz.prog 20 [.agg csP0.toArray,str d1].toArray w (Ret fun v w'=>Ext w w'∧v=.tuple #[.int .u64 y.1,.bool y.2]):=by
 obtain ⟨A1,c2,A4,c5,rfl,H3,H6⟩:=kArena_open HP0
 unfold delta_Flags_raw at h
 refine calls_ec Tryz.func20 rfl rfl rfl ?_
 refine ec_seq ?_
 refine ec_region ?_
 refine o_box (cs:=(cArena d0 A1 c2 A4 c5)) rfl rfl rfl ?_
 intro b7 w7 e7 F7 B7
 have S7:=B7.stb (nin hL e7)
 have G8:Fr L w w7:=Fr.ext F7
 refine o_w (v:=.int .u64 0) (r_asg rfl) ?_
 refine o_w (v:=.bool false) (r_asg rfl) ?_
 refine eo_nil_sq ?_
 refine ec_seq ?_
 refine ec_region ?_
 refine o_w (v:=.agg (cArena d0 A1 c2 A4 c5).toArray) (r_lda agg_api_Arena rfl (vs:=(cArena d0 A1 c2 A4 c5)) rfl (S7.now.part (n:=3) rfl)) ?_
 refine o_w (v:=str d1) (r_mov rfl) ?_
 obtain ⟨x9,hx9,h⟩:=h
 refine o_call cf_delta_read_uint64 rfl (delta_read_uint64_Flags_1_c d0 (kArena_mk (d:=d0) (H3.fr G8 sI) (H6.fr G8 sI)) (3:Int) d1 (hL.fr F7) hx9) rfl rfl ?_
 rintro _ w9 ⟨F9,rfl⟩
 have E10:=F7.trans F9
 refine o_w (v:=.int .u64 x9.1) (r_ext rfl rfl) ?_
 refine o_w (v:=.bool x9.2) (r_ext rfl rfl) ?_
 refine o_w (v:=.int .u64 x9.1) (r_asg rfl) ?_
 refine o_w (v:=.bool x9.2) (r_asg rfl) ?_
 refine eo_nil_sq ?_
 refine ec_ret ?_
 subst h
 exact (end2 rfl rfl ⟨_,rfl,E10,rfl⟩)
def delta_Set_raw (d0:Arena) (d1:Str) (d2:Int) (y:Ent × Int):Prop :=
 ∃ x37,delta_update_may_raw (⟨d0,(0:Int),(3:Int),d1⟩:Upd) x37∧(((x37 != (0:Int))=true→(y=((⟨([]:Str),(⟨(0:Int),(0:Int),(0:Int),false,([]:Str),([]:List Int),([]:List Int),(0:Int)⟩:Val)⟩:Ent),x37)))∧((x37 != (0:Int))=false→(∃ x51,delta_update_room_raw (⟨d0,(0:Int),(3:Int),d1⟩:Upd) x51∧(((x51 != (0:Int))=true→(y=((⟨([]:Str),(⟨(0:Int),(0:Int),(0:Int),false,([]:Str),([]:List Int),([]:List Int),(0:Int)⟩:Val)⟩:Ent),x51)))∧((x51 != (0:Int))=false→(∃ x65,delta_update_entry_raw (⟨d0,(0:Int),(3:Int),d1⟩:Upd) (⟨(0:Int),(0:Int),(0:Int),false,([]:Str),([]:List Int),([]:List Int),d2⟩:Val) x65∧(y=(x65,(0:Int)))))))))
set_option maxRecDepth 20000 in
set_option maxHeartbeats 4000000 in
theorem delta_Set_c {L:List Nat} {w:World} {csP0:List Value} (d0:Arena) (HP0:Stb L w (fun w=>kArena.r w csP0 d0)) (d1:Str) (d2:Int) (hL:Lt L w) {y:Ent × Int} (h:delta_Set_raw d0 d1 d2 y) :
  Calls Tryz.prog 13 [.agg csP0.toArray,str d1,.int .u64 d2].toArray w (Ret fun v w'=>Ext w w'∧∃ (cs90:List Value),v=.tuple #[.agg cs90.toArray,.int .i64 y.2]∧Stb L w' (fun w=>kEnt.r w cs90 y.1)):=by
 obtain ⟨A1,c2,A4,c5,rfl,H3,H6⟩:=kArena_open HP0
 have hL0:=hL
 unfold delta_Set_raw at h
 refine calls_ec Tryz.func13 rfl rfl rfl ?_
 refine ec_seq ?_
 refine ec_region ?_
 refine o_box (cs:=(cArena d0 A1 c2 A4 c5)) rfl rfl rfl ?_
 intro b7 w7 e7 F7 B7
 have S7:=B7.stb (nin hL e7)
 have G8:Fr L w w7:=Fr.ext F7
 refine o_alloc zero_api_Entry rfl rfl rfl ?_
 intro b9 w9 e9 F9 B9
 have n9:w.heap.size≤b9:=by rw [e9]; exact F7.size
 have m10:w.heap.size≤b9:=by rw [e9]; exact G8.size
 have E12:=F7.trans F9
 have G14:Fr L w7 w9:=Fr.ext F9
 refine o_w (v:=.int .i64 0) (r_asg rfl) ?_
 refine eo_nil_sq ?_
 refine ec_seq ?_
 refine ec_region ?_
 refine o_w (v:=.agg (cArena d0 A1 c2 A4 c5).toArray) (r_lda agg_api_Arena rfl (vs:=(cArena d0 A1 c2 A4 c5)) rfl ((S7.fr G14 sI).now.part (n:=3) rfl)) ?_
 refine o_w (v:=str d1) (r_mov rfl) ?_
 refine o_w (v:=.agg #[.int .i64 d0.cap,.slice A1 d0.slots.length c2,.slice A4 d0.idx.length c5,.int .i64 0,.int .i64 3,str d1]) (r_build bld_delta_update (vs:=[(0,.agg (cArena d0 A1 c2 A4 c5).toArray),(1,.int .i64 0),(2,.int .i64 3),(3,str d1)]) (cells:=[.int .i64 d0.cap,.slice A1 d0.slots.length c2,.slice A4 d0.idx.length c5,.int .i64 0,.int .i64 3,str d1]) rfl rfl) ?_
 refine o_alloc zero_delta_update rfl rfl rfl ?_
 intro b15 w15 e15 F15 B15
 have n15:w.heap.size≤b15:=by rw [e15]; exact E12.size
 have q16:b9<b15:=by rw [e15]; exact B9.lt
 have m17:w.heap.size≤b15:=by rw [e15]; exact (G8.trans (Fr.ext F9)).size
 have NLb15:b15∉L:=fun hm=>by have h1:=hL0 _ hm; omega
 have E19:=E12.trans F15
 refine o_store rfl B15 (vs:=[.int .i64 d0.cap,.slice A1 d0.slots.length c2,.slice A4 d0.idx.length c5,.int .i64 0,.int .i64 3,str d1]) rfl sz_delta_update rfl rfl rfl ?_
 intro w23 F23 B23
 have E24:=Ext.st E19 F23 (by simp; omega)
 have G25:Fr L w w23:=((G8.trans (Fr.ext F9)).trans (Fr.ext F15)).stp F23 (upc (.inr m17) (fun m hm=>by cases hm))
 have B27:=(B9.ex F15).fr F23 (by simp; omega)
 have B23':Blk w23 b15 _ [.int .i64 d0.cap,.slice A1 d0.slots.length c2,.slice A4 d0.idx.length c5,.int .i64 0,.int .i64 3,str d1]:=B23
 have N29:b15∉(b9::L):=(notin_cons (by omega) NLb15)
 have S28:=Blk.stb B23' N29
 refine eo_nil_sq ?_
 iterate 2 refine ec_seq ?_
 refine ec_region ?_
 refine o_w (v:=.agg #[.int .i64 d0.cap,.slice A1 d0.slots.length c2,.slice A4 d0.idx.length c5,.int .i64 0,.int .i64 3,str d1]) (r_lda agg_delta_update rfl (vs:=[.int .i64 d0.cap,.slice A1 d0.slots.length c2,.slice A4 d0.idx.length c5,.int .i64 0,.int .i64 3,str d1]) rfl (S28.now.part (n:=6) rfl)) ?_
 refine o_w (r_mkfb (us:=[.agg #[.int .i64 d0.cap,.slice A1 d0.slots.length c2,.slice A4 d0.idx.length c5,.int .i64 0,.int .i64 3,str d1]]) (vs:=[]) rfl rfl) ?_
 refine o_w (v:=.agg #[.int .i64 d0.cap,.slice A1 d0.slots.length c2,.slice A4 d0.idx.length c5,.int .i64 0,.int .i64 3,str d1]) (r_lda agg_delta_update rfl (vs:=[.int .i64 d0.cap,.slice A1 d0.slots.length c2,.slice A4 d0.idx.length c5,.int .i64 0,.int .i64 3,str d1]) rfl (S28.now.part (n:=6) rfl)) ?_
 refine o_w (r_mkfb (us:=[.agg #[.int .i64 d0.cap,.slice A1 d0.slots.length c2,.slice A4 d0.idx.length c5,.int .i64 0,.int .i64 3,str d1]]) (vs:=[]) rfl rfl) ?_
 refine o_bslice slc_s_delta_need rfl (vs:=[.func (.func 30) #[.agg #[.int .i64 d0.cap,.slice A1 d0.slots.length c2,.slice A4 d0.idx.length c5,.int .i64 0,.int .i64 3,str d1]] #[],.func (.func 31) #[.agg #[.int .i64 d0.cap,.slice A1 d0.slots.length c2,.slice A4 d0.idx.length c5,.int .i64 0,.int .i64 3,str d1]] #[]]) rfl rfl rfl (cs:=[.func (.func 30) #[.agg #[.int .i64 d0.cap,.slice A1 d0.slots.length c2,.slice A4 d0.idx.length c5,.int .i64 0,.int .i64 3,str d1]] #[],.func (.func 31) #[.agg #[.int .i64 d0.cap,.slice A1 d0.slots.length c2,.slice A4 d0.idx.length c5,.int .i64 0,.int .i64 3,str d1]] #[]]) rfl rfl rfl rfl ?_
 intro b31 w31 e31 F31 B31
 have N31:=nin ((hL.fr E24).cons B27.lt) e31
 have S31:=B31.stb N31
 have E32:=E24.trans F31
 have G35:Fr (b9::L) w23 w31:=Fr.ext F31
 refine o_inl (vs:=[.slice (some ⟨b31,0,none⟩) 2 2]) (caps:=[]) cf_delta_first rfl rfl rfl rfl ?_
 refine calls_ec Tryz.func29 rfl rfl rfl ?_
 refine ec_seq ?_
 refine ec_region ?_
 refine o_w (v:=.int .i64 0) (r_asg rfl) ?_
 refine eo_nil_sq ?_
 iterate 2 refine ec_seq ?_
 refine ec_region ?_
 refine o_w (v:=.slice (some ⟨b31,0,none⟩) 2 2) (r_mov rfl) ?_
 refine o_w (v:=.int .i64 2) (r_len_slc un_s_delta_need rfl) ?_
 refine o_w (v:=.int .i64 0) (r_mov rfl) ?_
 refine eo_nil_sq ?_
 refine ec_block ?_
 refine ec_unroll ?_
 refine el_round ?_
 refine ec_seq ?_
 refine ec_region ?_
 refine o_w (v:=.bool true) (r_int (v:=.bool true) rfl rfl rfl) ?_
 refine eo_nil_sq ?_
 refine ec_seq ?_
 refine ec_condT rfl rfl ?_
 refine ec_skip ?_
 refine sq_n ?_
 refine ec_seq ?_
 refine ec_block ?_
 refine ec_seq ?_
 refine ec_region ?_
 refine o_w (v:=.pointer (some ⟨b31,0,none⟩)) (r_iaB (b:=b31) (len:=2) 0 slc_s_delta_need rfl rfl (by decide)) ?_
 refine o_w (v:=.func (.func 30) #[.agg #[.int .i64 d0.cap,.slice A1 d0.slots.length c2,.slice A4 d0.idx.length c5,.int .i64 0,.int .i64 3,str d1]] #[]) (r_ld one_delta_need rfl (S31.now.cell rfl)) ?_
 refine o_w (v:=.func (.func 30) #[.agg #[.int .i64 d0.cap,.slice A1 d0.slots.length c2,.slice A4 d0.idx.length c5,.int .i64 0,.int .i64 3,str d1]] #[]) (r_asg rfl) ?_
 refine eo_nil_sq ?_
 refine ec_seq ?_
 refine ec_region ?_
 refine o_w (v:=.func (.func 30) #[.agg #[.int .i64 d0.cap,.slice A1 d0.slots.length c2,.slice A4 d0.idx.length c5,.int .i64 0,.int .i64 3,str d1]] #[]) (r_mov rfl) ?_
 obtain ⟨x37,hx37,h⟩:=h
 refine o_callb (us:=[.agg #[.int .i64 d0.cap,.slice A1 d0.slots.length c2,.slice A4 d0.idx.length c5,.int .i64 0,.int .i64 3,str d1]]) (vs:=[]) (caps:=[]) cf_delta_update_may rfl rfl (delta_update_may_c (⟨d0,(0:Int),(3:Int),d1⟩:Upd) (kUpd_mk (d:=(⟨d0,(0:Int),(3:Int),d1⟩:Upd)) (H3.up (G25.trans (Fr.ext F31)) sI (upc (.inr m10) (fun _ h=>.inl h))) (H6.up (G25.trans (Fr.ext F31)) sI (upc (.inr m10) (fun _ h=>.inl h)))) ((hL.fr E32).cons (B27.ex F31).lt) hx37) rfl rfl ?_
 rintro _ w37 ⟨F37,rfl⟩
 have E38:=E32.trans F37
 have G42:Fr (b9::L) w31 w37:=Fr.ext F37
 refine o_w (v:=.int .i64 x37) (r_asg rfl) ?_
 refine eo_nil_sq ?_
 refine ec_seq ?_
 refine ec_region ?_
 refine o_w (v:=.int .i64 x37) (r_mov rfl) ?_
 refine o_w (v:=.bool (x37 != (0:Int))) (r_int rfl rfl rfl) ?_
 refine eo_nil_sq ?_
 refine ec_cond rfl (fun hc44=>?_) (fun hc44=>?_)
 ·replace h:=h.1 hc44
  refine ec_seq ?_
  refine ec_region ?_
  refine o_w (v:=.int .i64 x37) (r_mov rfl) ?_
  refine o_w (v:=.int .i64 x37) (r_asg rfl) ?_
  refine eo_nil_sq ?_
  refine ec_ret ?_
  refine blk_ret ?_
  refine sq_ret ?_
  refine unr_r ?_
  refine blk_ret ?_
  refine sq_ret ?_
  refine end1 (v:=.int .i64 x37) rfl ⟨_,rfl,?_⟩
  refine o_w (v:=.int .i64 x37) (r_asg rfl) ?_
  refine eo_nil_sq ?_
  refine ec_seq ?_
  refine ec_region ?_
  refine o_w (v:=.int .i64 x37) (r_mov rfl) ?_
  refine o_w (v:=.bool (x37 != (0:Int))) (r_int rfl rfl rfl) ?_
  refine eo_nil_sq ?_
  refine ec_condT rfl hc44 ?_
  refine ec_seq ?_
  refine ec_region ?_
  refine o_w (v:=.agg #[str [],.int .i64 0,.int .i64 0,.int .i64 0,.bool false,str [],.slice none ([]:List Int).length 0,.slice none ([]:List Int).length 0,.int .u64 0]) (r_build bld_api_Entry (vs:=[]) (cells:=[str [],.int .i64 0,.int .i64 0,.int .i64 0,.bool false,str [],.slice none ([]:List Int).length 0,.slice none ([]:List Int).length 0,.int .u64 0]) rfl rfl) ?_
  refine o_w (v:=.int .i64 x37) (r_mov rfl) ?_
  refine o_store rfl ((B27.ex F31).ex F37) (vs:=[str [],.int .i64 0,.int .i64 0,.int .i64 0,.bool false,str [],.slice none ([]:List Int).length 0,.slice none ([]:List Int).length 0,.int .u64 0]) rfl sz_api_Entry rfl rfl rfl ?_
  intro w45 F45 B45
  have E46:=Ext.st E38 F45 (by simp; omega)
  have B45':Blk w45 b9 _ [str [],.int .i64 0,.int .i64 0,.int .i64 0,.bool false,str [],.slice none ([]:List Int).length 0,.slice none ([]:List Int).length 0,.int .u64 0]:=B45
  refine o_w (v:=.int .i64 x37) (r_asg rfl) ?_
  refine eo_nil_sq ?_
  refine ec_ret ?_
  refine sq_ret ?_
  subst h
  exact (endr2 (rv_a rfl (agg_api_Entry) B45' (vs:=[str [],.int .i64 0,.int .i64 0,.int .i64 0,.bool false,str [],.slice none ([]:List Int).length 0,.slice none ([]:List Int).length 0,.int .u64 0]) rfl rfl) (rv_t rfl) ⟨_,rfl,E46,_,rfl,(kEnt_mk (d:=(⟨([]:Str),(⟨(0:Int),(0:Int),(0:Int),false,([]:Str),([]:List Int),([]:List Int),(0:Int)⟩:Val)⟩:Ent)) stb_nil stb_nil)⟩)
 ·replace h:=h.2 hc44
  refine ec_skip ?_
  refine blk_n ?_
  refine sq_n ?_
  refine ec_region ?_
  refine o_w (v:=.int .i64 1) (r_int (v:=.int .i64 (1)) rfl rfl rfl) ?_
  refine o_w (v:=.int .i64 1) (r_mov rfl) ?_
  refine eo_nil ?_
  refine unr_n ?_
  refine ec_seq ?_
  refine ec_region ?_
  refine o_w (v:=.bool true) (r_int (v:=.bool true) rfl rfl rfl) ?_
  refine eo_nil_sq ?_
  refine ec_seq ?_
  refine ec_condT rfl rfl ?_
  refine ec_skip ?_
  refine sq_n ?_
  refine ec_seq ?_
  refine ec_block ?_
  refine ec_seq ?_
  refine ec_region ?_
  refine o_w (v:=.pointer (some ⟨b31,1,none⟩)) (r_iaB (b:=b31) (len:=2) 1 slc_s_delta_need rfl rfl (by decide)) ?_
  refine o_w (v:=.func (.func 31) #[.agg #[.int .i64 d0.cap,.slice A1 d0.slots.length c2,.slice A4 d0.idx.length c5,.int .i64 0,.int .i64 3,str d1]] #[]) (r_ld one_delta_need rfl ((S31.fr G42 sI).now.cell rfl)) ?_
  refine o_w (v:=.func (.func 31) #[.agg #[.int .i64 d0.cap,.slice A1 d0.slots.length c2,.slice A4 d0.idx.length c5,.int .i64 0,.int .i64 3,str d1]] #[]) (r_asg rfl) ?_
  refine eo_nil_sq ?_
  refine ec_seq ?_
  refine ec_region ?_
  refine o_w (v:=.func (.func 31) #[.agg #[.int .i64 d0.cap,.slice A1 d0.slots.length c2,.slice A4 d0.idx.length c5,.int .i64 0,.int .i64 3,str d1]] #[]) (r_mov rfl) ?_
  obtain ⟨x51,hx51,h⟩:=h
  refine o_callb (us:=[.agg #[.int .i64 d0.cap,.slice A1 d0.slots.length c2,.slice A4 d0.idx.length c5,.int .i64 0,.int .i64 3,str d1]]) (vs:=[]) (caps:=[]) cf_delta_update_room rfl rfl (delta_update_room_c (⟨d0,(0:Int),(3:Int),d1⟩:Upd) (kUpd_mk (d:=(⟨d0,(0:Int),(3:Int),d1⟩:Upd)) (H3.up ((G25.trans (Fr.ext F31)).trans (Fr.ext F37)) sI (upc (.inr m10) (fun _ h=>.inl h))) (H6.up ((G25.trans (Fr.ext F31)).trans (Fr.ext F37)) sI (upc (.inr m10) (fun _ h=>.inl h)))) ((hL.fr E38).cons ((B27.ex F31).ex F37).lt) hx51) rfl rfl ?_
  rintro _ w51 ⟨F51,rfl⟩
  have E52:=E38.trans F51
  refine o_w (v:=.int .i64 x51) (r_asg rfl) ?_
  refine eo_nil_sq ?_
  refine ec_seq ?_
  refine ec_region ?_
  refine o_w (v:=.int .i64 x51) (r_mov rfl) ?_
  refine o_w (v:=.bool (x51 != (0:Int))) (r_int rfl rfl rfl) ?_
  refine eo_nil_sq ?_
  refine ec_cond rfl (fun hc58=>?_) (fun hc58=>?_)
  ·replace h:=h.1 hc58
   refine ec_seq ?_
   refine ec_region ?_
   refine o_w (v:=.int .i64 x51) (r_mov rfl) ?_
   refine o_w (v:=.int .i64 x51) (r_asg rfl) ?_
   refine eo_nil_sq ?_
   refine ec_ret ?_
   refine blk_ret ?_
   refine sq_ret ?_
   refine unr_r ?_
   refine blk_ret ?_
   refine sq_ret ?_
   refine end1 (v:=.int .i64 x51) rfl ⟨_,rfl,?_⟩
   refine o_w (v:=.int .i64 x51) (r_asg rfl) ?_
   refine eo_nil_sq ?_
   refine ec_seq ?_
   refine ec_region ?_
   refine o_w (v:=.int .i64 x51) (r_mov rfl) ?_
   refine o_w (v:=.bool (x51 != (0:Int))) (r_int rfl rfl rfl) ?_
   refine eo_nil_sq ?_
   refine ec_condT rfl hc58 ?_
   refine ec_seq ?_
   refine ec_region ?_
   refine o_w (v:=.agg #[str [],.int .i64 0,.int .i64 0,.int .i64 0,.bool false,str [],.slice none ([]:List Int).length 0,.slice none ([]:List Int).length 0,.int .u64 0]) (r_build bld_api_Entry (vs:=[]) (cells:=[str [],.int .i64 0,.int .i64 0,.int .i64 0,.bool false,str [],.slice none ([]:List Int).length 0,.slice none ([]:List Int).length 0,.int .u64 0]) rfl rfl) ?_
   refine o_w (v:=.int .i64 x51) (r_mov rfl) ?_
   refine o_store rfl (((B27.ex F31).ex F37).ex F51) (vs:=[str [],.int .i64 0,.int .i64 0,.int .i64 0,.bool false,str [],.slice none ([]:List Int).length 0,.slice none ([]:List Int).length 0,.int .u64 0]) rfl sz_api_Entry rfl rfl rfl ?_
   intro w59 F59 B59
   have E60:=Ext.st E52 F59 (by simp; omega)
   have B59':Blk w59 b9 _ [str [],.int .i64 0,.int .i64 0,.int .i64 0,.bool false,str [],.slice none ([]:List Int).length 0,.slice none ([]:List Int).length 0,.int .u64 0]:=B59
   refine o_w (v:=.int .i64 x51) (r_asg rfl) ?_
   refine eo_nil_sq ?_
   refine ec_ret ?_
   refine sq_ret ?_
   subst h
   exact (endr2 (rv_a rfl (agg_api_Entry) B59' (vs:=[str [],.int .i64 0,.int .i64 0,.int .i64 0,.bool false,str [],.slice none ([]:List Int).length 0,.slice none ([]:List Int).length 0,.int .u64 0]) rfl rfl) (rv_t rfl) ⟨_,rfl,E60,_,rfl,(kEnt_mk (d:=(⟨([]:Str),(⟨(0:Int),(0:Int),(0:Int),false,([]:Str),([]:List Int),([]:List Int),(0:Int)⟩:Val)⟩:Ent)) stb_nil stb_nil)⟩)
  ·replace h:=h.2 hc58
   refine ec_skip ?_
   refine blk_n ?_
   refine sq_n ?_
   refine ec_region ?_
   refine o_w (v:=.int .i64 2) (r_int (v:=.int .i64 (2)) rfl rfl rfl) ?_
   refine o_w (v:=.int .i64 2) (r_mov rfl) ?_
   refine eo_nil ?_
   refine unr_n ?_
   refine ec_seq ?_
   refine ec_region ?_
   refine o_w (v:=.bool false) (r_int (v:=.bool false) rfl rfl rfl) ?_
   refine eo_nil_sq ?_
   refine ec_seq ?_
   refine ec_condF rfl rfl ?_
   refine ec_exit ?_
   refine sq_exit ?_
   refine unr_x ?_
   refine blk_hit ?_
   refine sq_n ?_
   refine ec_seq ?_
   refine ec_region ?_
   refine o_w (v:=.int .i64 0) (r_asg rfl) ?_
   refine eo_nil_sq ?_
   refine ec_ret ?_
   refine end1 (v:=.int .i64 0) rfl ⟨_,rfl,?_⟩
   refine o_w (v:=.int .i64 0) (r_asg rfl) ?_
   refine eo_nil_sq ?_
   refine ec_seq ?_
   refine ec_region ?_
   refine o_w (v:=.int .i64 0) (r_mov rfl) ?_
   refine o_w (v:=.bool false) (r_int (v:=.bool false) rfl rfl rfl) ?_
   refine eo_nil_sq ?_
   refine ec_condF rfl rfl ?_
   refine ec_skip ?_
   refine sq_n ?_
   refine ec_seq ?_
   refine ec_region ?_
   refine o_w (v:=.agg #[.int .i64 d0.cap,.slice A1 d0.slots.length c2,.slice A4 d0.idx.length c5,.int .i64 0,.int .i64 3,str d1]) (r_lda agg_delta_update rfl (vs:=[.int .i64 d0.cap,.slice A1 d0.slots.length c2,.slice A4 d0.idx.length c5,.int .i64 0,.int .i64 3,str d1]) rfl ((S28.fr ((G35.trans (Fr.ext F37)).trans (Fr.ext F51)) sI).now.part (n:=6) rfl)) ?_
   refine o_w (v:=.int .u64 d2) (r_mov rfl) ?_
   refine o_w (v:=.agg #[.int .i64 0,.int .i64 0,.int .i64 0,.bool false,str [],.slice none ([]:List Int).length 0,.slice none ([]:List Int).length 0,.int .u64 d2]) (r_build bld_api_Value (vs:=[(7,.int .u64 d2)]) (cells:=[.int .i64 0,.int .i64 0,.int .i64 0,.bool false,str [],.slice none ([]:List Int).length 0,.slice none ([]:List Int).length 0,.int .u64 d2]) rfl rfl) ?_
   obtain ⟨x65,hx65,h⟩:=h
   refine o_call cf_delta_update_entry rfl (delta_update_entry_c (⟨d0,(0:Int),(3:Int),d1⟩:Upd) (kUpd_mk (d:=(⟨d0,(0:Int),(3:Int),d1⟩:Upd)) (H3.up (((G25.trans (Fr.ext F31)).trans (Fr.ext F37)).trans (Fr.ext F51)) sI (upc (.inr m10) (fun _ h=>.inl h))) (H6.up (((G25.trans (Fr.ext F31)).trans (Fr.ext F37)).trans (Fr.ext F51)) sI (upc (.inr m10) (fun _ h=>.inl h)))) (⟨(0:Int),(0:Int),(0:Int),false,([]:Str),([]:List Int),([]:List Int),d2⟩:Val) (kVal_mk (d:=(⟨(0:Int),(0:Int),(0:Int),false,([]:Str),([]:List Int),([]:List Int),d2⟩:Val)) stb_nil stb_nil) ((hL.fr E52).cons (((B27.ex F31).ex F37).ex F51).lt) hx65) rfl rfl ?_
   rintro _ w65 ⟨F65,cs66,rfl,H67⟩
   have E68:=E52.trans F65
   obtain ⟨A74,c75,A77,c78,rfl,H76,H79⟩:=kEnt_open H67
   refine o_store rfl ((((B27.ex F31).ex F37).ex F51).ex F65) (vs:=(cEnt x65 A74 c75 A77 c78)) rfl sz_api_Entry rfl rfl rfl ?_
   intro w80 F80 B80
   have E81:=Ext.st E68 F80 (by simp; omega)
   have G86:Fr (b9::L) w65 w80:=(Fr.refl _ _).stp F80 (upc (.inl mH) (fun m hm=>by cases hm))
   have B80':Blk w80 b9 _ (cEnt x65 A74 c75 A77 c78):=B80
   refine o_w (v:=.int .i64 0) (r_asg rfl) ?_
   refine eo_nil_sq ?_
   refine ec_ret ?_
   subst h
   exact (endr2 (rv_a rfl (agg_api_Entry) B80' (vs:=(cEnt x65 A74 c75 A77 c78)) rfl rfl) (rv_t rfl) ⟨_,rfl,E81,_,rfl,(kEnt_mk (d:=x65) (H76.up G86 sI (fun m hm=>Or.inl (mT hm))) (H79.up G86 sI (fun m hm=>Or.inl (mT hm))))⟩)
def delta_Put_raw (d0:Arena) (d1:Int) (d2:Str) (d3:Str) (y:Ent × Int):Prop :=
 ∃ x47,delta_update_may_raw (⟨d0,d1,(1:Int),d2⟩:Upd) x47∧(((x47 != (0:Int))=true→(y=((⟨([]:Str),(⟨(0:Int),(0:Int),(0:Int),false,([]:Str),([]:List Int),([]:List Int),(0:Int)⟩:Val)⟩:Ent),x47)))∧((x47 != (0:Int))=false→(∃ x63,delta_Put_1_raw d3 x63∧(((x63 != (0:Int))=true→(y=((⟨([]:Str),(⟨(0:Int),(0:Int),(0:Int),false,([]:Str),([]:List Int),([]:List Int),(0:Int)⟩:Val)⟩:Ent),x63)))∧((x63 != (0:Int))=false→(∃ x79,delta_update_room_raw (⟨d0,d1,(1:Int),d2⟩:Upd) x79∧(((x79 != (0:Int))=true→(y=((⟨([]:Str),(⟨(0:Int),(0:Int),(0:Int),false,([]:Str),([]:List Int),([]:List Int),(0:Int)⟩:Val)⟩:Ent),x79)))∧((x79 != (0:Int))=false→(∃ x95,delta_update_later_raw (⟨d0,d1,(1:Int),d2⟩:Upd) false d3 x95∧(y=(x95.1,x95.2)))))))))))
set_option maxRecDepth 20000 in
set_option maxHeartbeats 4000000 in
theorem delta_Put_c {L:List Nat} {w:World} {csP0:List Value} (d0:Arena) (HP0:Stb L w (fun w=>kArena.r w csP0 d0)) (d1:Int) (d2:Str) (d3:Str) (hL:Lt L w) {y:Ent × Int} (h:delta_Put_raw d0 d1 d2 d3 y) :
  Calls Tryz.prog 7 [.agg csP0.toArray,.int .i64 d1,str d2,str d3].toArray w (Ret fun v w'=>Ext w w'∧∃ (cs90:List Value),v=.tuple #[.agg cs90.toArray,.int .i64 y.2]∧Stb L w' (fun w=>kEnt.r w cs90 y.1)):=by
 obtain ⟨A1,c2,A4,c5,rfl,H3,H6⟩:=kArena_open HP0
 have hL0:=hL
 unfold delta_Put_raw at h
 refine calls_ec Tryz.func7 rfl rfl rfl ?_
 refine ec_seq ?_
 refine ec_region ?_
 refine o_box (cs:=(cArena d0 A1 c2 A4 c5)) rfl rfl rfl ?_
 intro b7 w7 e7 F7 B7
 have S7:=B7.stb (nin hL e7)
 have G8:Fr L w w7:=Fr.ext F7
 refine o_box (cs:=[str d3]) rfl rfl rfl ?_
 intro b9 w9 e9 F9 B9
 have S9:=B9.stb (nin (hL.fr F7) e9)
 have E10:=F7.trans F9
 have G12:Fr L w7 w9:=Fr.ext F9
 refine o_alloc zero_api_Entry rfl rfl rfl ?_
 intro b13 w13 e13 F13 B13
 have n13:w.heap.size≤b13:=by rw [e13]; exact E10.size
 have m14:w.heap.size≤b13:=by rw [e13]; exact (G8.trans (Fr.ext F9)).size
 have m16:w9.heap.size≤b13:=Nat.le_of_eq e13.symm
 have E17:=E10.trans F13
 have G20:Fr L w9 w13:=Fr.ext F13
 refine o_w (v:=.int .i64 0) (r_asg rfl) ?_
 refine eo_nil_sq ?_
 refine ec_seq ?_
 refine ec_region ?_
 refine o_w (v:=.agg (cArena d0 A1 c2 A4 c5).toArray) (r_lda agg_api_Arena rfl (vs:=(cArena d0 A1 c2 A4 c5)) rfl ((S7.fr (G12.trans (Fr.ext F13)) sI).now.part (n:=3) rfl)) ?_
 refine o_w (v:=.int .i64 d1) (r_mov rfl) ?_
 refine o_w (v:=str d2) (r_mov rfl) ?_
 refine o_w (v:=.agg #[.int .i64 d0.cap,.slice A1 d0.slots.length c2,.slice A4 d0.idx.length c5,.int .i64 d1,.int .i64 1,str d2]) (r_build bld_delta_update (vs:=[(0,.agg (cArena d0 A1 c2 A4 c5).toArray),(1,.int .i64 d1),(2,.int .i64 1),(3,str d2)]) (cells:=[.int .i64 d0.cap,.slice A1 d0.slots.length c2,.slice A4 d0.idx.length c5,.int .i64 d1,.int .i64 1,str d2]) rfl rfl) ?_
 refine o_alloc zero_delta_update rfl rfl rfl ?_
 intro b21 w21 e21 F21 B21
 have n21:w.heap.size≤b21:=by rw [e21]; exact E17.size
 have q22:b13<b21:=by rw [e21]; exact B13.lt
 have m23:w.heap.size≤b21:=by rw [e21]; exact ((G8.trans (Fr.ext F9)).trans (Fr.ext F13)).size
 have m25:w9.heap.size≤b21:=by rw [e21]; exact G20.size
 have NLb21:b21∉L:=fun hm=>by have h1:=hL0 _ hm; omega
 have E26:=E17.trans F21
 refine o_store rfl B21 (vs:=[.int .i64 d0.cap,.slice A1 d0.slots.length c2,.slice A4 d0.idx.length c5,.int .i64 d1,.int .i64 1,str d2]) rfl sz_delta_update rfl rfl rfl ?_
 intro w31 F31 B31
 have E32:=Ext.st E26 F31 (by simp; omega)
 have G33:Fr L w w31:=(((G8.trans (Fr.ext F9)).trans (Fr.ext F13)).trans (Fr.ext F21)).stp F31 (upc (.inr m23) (fun m hm=>by cases hm))
 have G35:Fr L w9 w31:=(G20.trans (Fr.ext F21)).stp F31 (upc (.inr m25) (fun m hm=>by cases hm))
 have B36:=(B13.ex F21).fr F31 (by simp; omega)
 have B31':Blk w31 b21 _ [.int .i64 d0.cap,.slice A1 d0.slots.length c2,.slice A4 d0.idx.length c5,.int .i64 d1,.int .i64 1,str d2]:=B31
 have N38:b21∉(b13::L):=(notin_cons (by omega) NLb21)
 have S37:=Blk.stb B31' N38
 refine eo_nil_sq ?_
 refine ec_seq ?_
 refine ec_region ?_
 refine o_w (r_mkfn' (vs:=[.pointer (some ⟨b9,0,none⟩)]) rfl) ?_
 refine o_w (v:=.func (.func 27) #[] #[.pointer (some ⟨b9,0,none⟩)]) (r_asg rfl) ?_
 refine eo_nil_sq ?_
 iterate 2 refine ec_seq ?_
 refine ec_region ?_
 refine o_w (v:=.agg #[.int .i64 d0.cap,.slice A1 d0.slots.length c2,.slice A4 d0.idx.length c5,.int .i64 d1,.int .i64 1,str d2]) (r_lda agg_delta_update rfl (vs:=[.int .i64 d0.cap,.slice A1 d0.slots.length c2,.slice A4 d0.idx.length c5,.int .i64 d1,.int .i64 1,str d2]) rfl (S37.now.part (n:=6) rfl)) ?_
 refine o_w (r_mkfb (us:=[.agg #[.int .i64 d0.cap,.slice A1 d0.slots.length c2,.slice A4 d0.idx.length c5,.int .i64 d1,.int .i64 1,str d2]]) (vs:=[]) rfl rfl) ?_
 refine o_w (v:=.func (.func 27) #[] #[.pointer (some ⟨b9,0,none⟩)]) (r_mov rfl) ?_
 refine o_w (v:=.agg #[.int .i64 d0.cap,.slice A1 d0.slots.length c2,.slice A4 d0.idx.length c5,.int .i64 d1,.int .i64 1,str d2]) (r_lda agg_delta_update rfl (vs:=[.int .i64 d0.cap,.slice A1 d0.slots.length c2,.slice A4 d0.idx.length c5,.int .i64 d1,.int .i64 1,str d2]) rfl (S37.now.part (n:=6) rfl)) ?_
 refine o_w (r_mkfb (us:=[.agg #[.int .i64 d0.cap,.slice A1 d0.slots.length c2,.slice A4 d0.idx.length c5,.int .i64 d1,.int .i64 1,str d2]]) (vs:=[]) rfl rfl) ?_
 refine o_bslice slc_s_delta_need rfl (vs:=[.func (.func 30) #[.agg #[.int .i64 d0.cap,.slice A1 d0.slots.length c2,.slice A4 d0.idx.length c5,.int .i64 d1,.int .i64 1,str d2]] #[],.func (.func 27) #[] #[.pointer (some ⟨b9,0,none⟩)],.func (.func 31) #[.agg #[.int .i64 d0.cap,.slice A1 d0.slots.length c2,.slice A4 d0.idx.length c5,.int .i64 d1,.int .i64 1,str d2]] #[]]) rfl rfl rfl (cs:=[.func (.func 30) #[.agg #[.int .i64 d0.cap,.slice A1 d0.slots.length c2,.slice A4 d0.idx.length c5,.int .i64 d1,.int .i64 1,str d2]] #[],.func (.func 27) #[] #[.pointer (some ⟨b9,0,none⟩)],.func (.func 31) #[.agg #[.int .i64 d0.cap,.slice A1 d0.slots.length c2,.slice A4 d0.idx.length c5,.int .i64 d1,.int .i64 1,str d2]] #[]]) rfl rfl rfl rfl ?_
 intro b40 w40 e40 F40 B40
 have N40:=nin ((hL.fr E32).cons B36.lt) e40
 have S40:=B40.stb N40
 have E41:=E32.trans F40
 have G45:Fr (b13::L) w31 w40:=Fr.ext F40
 refine o_inl (vs:=[.slice (some ⟨b40,0,none⟩) 3 3]) (caps:=[]) cf_delta_first rfl rfl rfl rfl ?_
 refine calls_ec Tryz.func29 rfl rfl rfl ?_
 refine ec_seq ?_
 refine ec_region ?_
 refine o_w (v:=.int .i64 0) (r_asg rfl) ?_
 refine eo_nil_sq ?_
 iterate 2 refine ec_seq ?_
 refine ec_region ?_
 refine o_w (v:=.slice (some ⟨b40,0,none⟩) 3 3) (r_mov rfl) ?_
 refine o_w (v:=.int .i64 3) (r_len_slc un_s_delta_need rfl) ?_
 refine o_w (v:=.int .i64 0) (r_mov rfl) ?_
 refine eo_nil_sq ?_
 refine ec_block ?_
 refine ec_unroll ?_
 refine el_round ?_
 refine ec_seq ?_
 refine ec_region ?_
 refine o_w (v:=.bool true) (r_int (v:=.bool true) rfl rfl rfl) ?_
 refine eo_nil_sq ?_
 refine ec_seq ?_
 refine ec_condT rfl rfl ?_
 refine ec_skip ?_
 refine sq_n ?_
 refine ec_seq ?_
 refine ec_block ?_
 refine ec_seq ?_
 refine ec_region ?_
 refine o_w (v:=.pointer (some ⟨b40,0,none⟩)) (r_iaB (b:=b40) (len:=3) 0 slc_s_delta_need rfl rfl (by decide)) ?_
 refine o_w (v:=.func (.func 30) #[.agg #[.int .i64 d0.cap,.slice A1 d0.slots.length c2,.slice A4 d0.idx.length c5,.int .i64 d1,.int .i64 1,str d2]] #[]) (r_ld one_delta_need rfl (S40.now.cell rfl)) ?_
 refine o_w (v:=.func (.func 30) #[.agg #[.int .i64 d0.cap,.slice A1 d0.slots.length c2,.slice A4 d0.idx.length c5,.int .i64 d1,.int .i64 1,str d2]] #[]) (r_asg rfl) ?_
 refine eo_nil_sq ?_
 refine ec_seq ?_
 refine ec_region ?_
 refine o_w (v:=.func (.func 30) #[.agg #[.int .i64 d0.cap,.slice A1 d0.slots.length c2,.slice A4 d0.idx.length c5,.int .i64 d1,.int .i64 1,str d2]] #[]) (r_mov rfl) ?_
 obtain ⟨x47,hx47,h⟩:=h
 refine o_callb (us:=[.agg #[.int .i64 d0.cap,.slice A1 d0.slots.length c2,.slice A4 d0.idx.length c5,.int .i64 d1,.int .i64 1,str d2]]) (vs:=[]) (caps:=[]) cf_delta_update_may rfl rfl (delta_update_may_c (⟨d0,d1,(1:Int),d2⟩:Upd) (kUpd_mk (d:=(⟨d0,d1,(1:Int),d2⟩:Upd)) (H3.up (G33.trans (Fr.ext F40)) sI (upc (.inr m14) (fun _ h=>.inl h))) (H6.up (G33.trans (Fr.ext F40)) sI (upc (.inr m14) (fun _ h=>.inl h)))) ((hL.fr E41).cons (B36.ex F40).lt) hx47) rfl rfl ?_
 rintro _ w47 ⟨F47,rfl⟩
 have E48:=E41.trans F47
 have G53:Fr (b13::L) w40 w47:=Fr.ext F47
 refine o_w (v:=.int .i64 x47) (r_asg rfl) ?_
 refine eo_nil_sq ?_
 refine ec_seq ?_
 refine ec_region ?_
 refine o_w (v:=.int .i64 x47) (r_mov rfl) ?_
 refine o_w (v:=.bool (x47 != (0:Int))) (r_int rfl rfl rfl) ?_
 refine eo_nil_sq ?_
 refine ec_cond rfl (fun hc55=>?_) (fun hc55=>?_)
 ·replace h:=h.1 hc55
  refine ec_seq ?_
  refine ec_region ?_
  refine o_w (v:=.int .i64 x47) (r_mov rfl) ?_
  refine o_w (v:=.int .i64 x47) (r_asg rfl) ?_
  refine eo_nil_sq ?_
  refine ec_ret ?_
  refine blk_ret ?_
  refine sq_ret ?_
  refine unr_r ?_
  refine blk_ret ?_
  refine sq_ret ?_
  refine end1 (v:=.int .i64 x47) rfl ⟨_,rfl,?_⟩
  refine o_w (v:=.int .i64 x47) (r_asg rfl) ?_
  refine eo_nil_sq ?_
  refine ec_seq ?_
  refine ec_region ?_
  refine o_w (v:=.int .i64 x47) (r_mov rfl) ?_
  refine o_w (v:=.bool (x47 != (0:Int))) (r_int rfl rfl rfl) ?_
  refine eo_nil_sq ?_
  refine ec_condT rfl hc55 ?_
  refine ec_seq ?_
  refine ec_region ?_
  refine o_w (v:=.agg #[str [],.int .i64 0,.int .i64 0,.int .i64 0,.bool false,str [],.slice none ([]:List Int).length 0,.slice none ([]:List Int).length 0,.int .u64 0]) (r_build bld_api_Entry (vs:=[]) (cells:=[str [],.int .i64 0,.int .i64 0,.int .i64 0,.bool false,str [],.slice none ([]:List Int).length 0,.slice none ([]:List Int).length 0,.int .u64 0]) rfl rfl) ?_
  refine o_w (v:=.int .i64 x47) (r_mov rfl) ?_
  refine o_store rfl ((B36.ex F40).ex F47) (vs:=[str [],.int .i64 0,.int .i64 0,.int .i64 0,.bool false,str [],.slice none ([]:List Int).length 0,.slice none ([]:List Int).length 0,.int .u64 0]) rfl sz_api_Entry rfl rfl rfl ?_
  intro w56 F56 B56
  have E57:=Ext.st E48 F56 (by simp; omega)
  have B56':Blk w56 b13 _ [str [],.int .i64 0,.int .i64 0,.int .i64 0,.bool false,str [],.slice none ([]:List Int).length 0,.slice none ([]:List Int).length 0,.int .u64 0]:=B56
  refine o_w (v:=.int .i64 x47) (r_asg rfl) ?_
  refine eo_nil_sq ?_
  refine ec_ret ?_
  refine sq_ret ?_
  subst h
  exact (endr2 (rv_a rfl (agg_api_Entry) B56' (vs:=[str [],.int .i64 0,.int .i64 0,.int .i64 0,.bool false,str [],.slice none ([]:List Int).length 0,.slice none ([]:List Int).length 0,.int .u64 0]) rfl rfl) (rv_t rfl) ⟨_,rfl,E57,_,rfl,(kEnt_mk (d:=(⟨([]:Str),(⟨(0:Int),(0:Int),(0:Int),false,([]:Str),([]:List Int),([]:List Int),(0:Int)⟩:Val)⟩:Ent)) stb_nil stb_nil)⟩)
 ·replace h:=h.2 hc55
  refine ec_skip ?_
  refine blk_n ?_
  refine sq_n ?_
  refine ec_region ?_
  refine o_w (v:=.int .i64 1) (r_int (v:=.int .i64 (1)) rfl rfl rfl) ?_
  refine o_w (v:=.int .i64 1) (r_mov rfl) ?_
  refine eo_nil ?_
  refine unr_n ?_
  refine ec_seq ?_
  refine ec_region ?_
  refine o_w (v:=.bool true) (r_int (v:=.bool true) rfl rfl rfl) ?_
  refine eo_nil_sq ?_
  refine ec_seq ?_
  refine ec_condT rfl rfl ?_
  refine ec_skip ?_
  refine sq_n ?_
  refine ec_seq ?_
  refine ec_block ?_
  refine ec_seq ?_
  refine ec_region ?_
  refine o_w (v:=.pointer (some ⟨b40,1,none⟩)) (r_iaB (b:=b40) (len:=3) 1 slc_s_delta_need rfl rfl (by decide)) ?_
  refine o_w (v:=.func (.func 27) #[] #[.pointer (some ⟨b9,0,none⟩)]) (r_ld one_delta_need rfl ((S40.fr G53 sI).now.cell rfl)) ?_
  refine o_w (v:=.func (.func 27) #[] #[.pointer (some ⟨b9,0,none⟩)]) (r_asg rfl) ?_
  refine eo_nil_sq ?_
  refine ec_seq ?_
  refine ec_region ?_
  refine o_w (v:=.func (.func 27) #[] #[.pointer (some ⟨b9,0,none⟩)]) (r_mov rfl) ?_
  obtain ⟨x63,hx63,h⟩:=h
  refine o_callc (vs:=[]) (caps:=[.pointer (some ⟨b9,0,none⟩)]) cf_delta_Put_1 rfl rfl (delta_Put_1_c d3 (S9.up ((G35.trans (Fr.ext F40)).trans (Fr.ext F47)) sI (upc (.inr m16) (fun _ h=>.inl h))) ((hL.fr E48).cons ((B36.ex F40).ex F47).lt) hx63) rfl rfl ?_
  rintro _ w63 ⟨F63,rfl⟩
  have E64:=E48.trans F63
  refine o_w (v:=.int .i64 x63) (r_asg rfl) ?_
  refine eo_nil_sq ?_
  refine ec_seq ?_
  refine ec_region ?_
  refine o_w (v:=.int .i64 x63) (r_mov rfl) ?_
  refine o_w (v:=.bool (x63 != (0:Int))) (r_int rfl rfl rfl) ?_
  refine eo_nil_sq ?_
  refine ec_cond rfl (fun hc71=>?_) (fun hc71=>?_)
  ·replace h:=h.1 hc71
   refine ec_seq ?_
   refine ec_region ?_
   refine o_w (v:=.int .i64 x63) (r_mov rfl) ?_
   refine o_w (v:=.int .i64 x63) (r_asg rfl) ?_
   refine eo_nil_sq ?_
   refine ec_ret ?_
   refine blk_ret ?_
   refine sq_ret ?_
   refine unr_r ?_
   refine blk_ret ?_
   refine sq_ret ?_
   refine end1 (v:=.int .i64 x63) rfl ⟨_,rfl,?_⟩
   refine o_w (v:=.int .i64 x63) (r_asg rfl) ?_
   refine eo_nil_sq ?_
   refine ec_seq ?_
   refine ec_region ?_
   refine o_w (v:=.int .i64 x63) (r_mov rfl) ?_
   refine o_w (v:=.bool (x63 != (0:Int))) (r_int rfl rfl rfl) ?_
   refine eo_nil_sq ?_
   refine ec_condT rfl hc71 ?_
   refine ec_seq ?_
   refine ec_region ?_
   refine o_w (v:=.agg #[str [],.int .i64 0,.int .i64 0,.int .i64 0,.bool false,str [],.slice none ([]:List Int).length 0,.slice none ([]:List Int).length 0,.int .u64 0]) (r_build bld_api_Entry (vs:=[]) (cells:=[str [],.int .i64 0,.int .i64 0,.int .i64 0,.bool false,str [],.slice none ([]:List Int).length 0,.slice none ([]:List Int).length 0,.int .u64 0]) rfl rfl) ?_
   refine o_w (v:=.int .i64 x63) (r_mov rfl) ?_
   refine o_store rfl (((B36.ex F40).ex F47).ex F63) (vs:=[str [],.int .i64 0,.int .i64 0,.int .i64 0,.bool false,str [],.slice none ([]:List Int).length 0,.slice none ([]:List Int).length 0,.int .u64 0]) rfl sz_api_Entry rfl rfl rfl ?_
   intro w72 F72 B72
   have E73:=Ext.st E64 F72 (by simp; omega)
   have B72':Blk w72 b13 _ [str [],.int .i64 0,.int .i64 0,.int .i64 0,.bool false,str [],.slice none ([]:List Int).length 0,.slice none ([]:List Int).length 0,.int .u64 0]:=B72
   refine o_w (v:=.int .i64 x63) (r_asg rfl) ?_
   refine eo_nil_sq ?_
   refine ec_ret ?_
   refine sq_ret ?_
   subst h
   exact (endr2 (rv_a rfl (agg_api_Entry) B72' (vs:=[str [],.int .i64 0,.int .i64 0,.int .i64 0,.bool false,str [],.slice none ([]:List Int).length 0,.slice none ([]:List Int).length 0,.int .u64 0]) rfl rfl) (rv_t rfl) ⟨_,rfl,E73,_,rfl,(kEnt_mk (d:=(⟨([]:Str),(⟨(0:Int),(0:Int),(0:Int),false,([]:Str),([]:List Int),([]:List Int),(0:Int)⟩:Val)⟩:Ent)) stb_nil stb_nil)⟩)
  ·replace h:=h.2 hc71
   refine ec_skip ?_
   refine blk_n ?_
   refine sq_n ?_
   refine ec_region ?_
   refine o_w (v:=.int .i64 2) (r_int (v:=.int .i64 (2)) rfl rfl rfl) ?_
   refine o_w (v:=.int .i64 2) (r_mov rfl) ?_
   refine eo_nil ?_
   refine unr_n ?_
   refine ec_seq ?_
   refine ec_region ?_
   refine o_w (v:=.bool true) (r_int (v:=.bool true) rfl rfl rfl) ?_
   refine eo_nil_sq ?_
   refine ec_seq ?_
   refine ec_condT rfl rfl ?_
   refine ec_skip ?_
   refine sq_n ?_
   refine ec_seq ?_
   refine ec_block ?_
   refine ec_seq ?_
   refine ec_region ?_
   refine o_w (v:=.pointer (some ⟨b40,2,none⟩)) (r_iaB (b:=b40) (len:=3) 2 slc_s_delta_need rfl rfl (by decide)) ?_
   refine o_w (v:=.func (.func 31) #[.agg #[.int .i64 d0.cap,.slice A1 d0.slots.length c2,.slice A4 d0.idx.length c5,.int .i64 d1,.int .i64 1,str d2]] #[]) (r_ld one_delta_need rfl ((S40.fr (G53.trans (Fr.ext F63)) sI).now.cell rfl)) ?_
   refine o_w (v:=.func (.func 31) #[.agg #[.int .i64 d0.cap,.slice A1 d0.slots.length c2,.slice A4 d0.idx.length c5,.int .i64 d1,.int .i64 1,str d2]] #[]) (r_asg rfl) ?_
   refine eo_nil_sq ?_
   refine ec_seq ?_
   refine ec_region ?_
   refine o_w (v:=.func (.func 31) #[.agg #[.int .i64 d0.cap,.slice A1 d0.slots.length c2,.slice A4 d0.idx.length c5,.int .i64 d1,.int .i64 1,str d2]] #[]) (r_mov rfl) ?_
   obtain ⟨x79,hx79,h⟩:=h
   refine o_callb (us:=[.agg #[.int .i64 d0.cap,.slice A1 d0.slots.length c2,.slice A4 d0.idx.length c5,.int .i64 d1,.int .i64 1,str d2]]) (vs:=[]) (caps:=[]) cf_delta_update_room rfl rfl (delta_update_room_c (⟨d0,d1,(1:Int),d2⟩:Upd) (kUpd_mk (d:=(⟨d0,d1,(1:Int),d2⟩:Upd)) (H3.up (((G33.trans (Fr.ext F40)).trans (Fr.ext F47)).trans (Fr.ext F63)) sI (upc (.inr m14) (fun _ h=>.inl h))) (H6.up (((G33.trans (Fr.ext F40)).trans (Fr.ext F47)).trans (Fr.ext F63)) sI (upc (.inr m14) (fun _ h=>.inl h)))) ((hL.fr E64).cons (((B36.ex F40).ex F47).ex F63).lt) hx79) rfl rfl ?_
   rintro _ w79 ⟨F79,rfl⟩
   have E80:=E64.trans F79
   have G81:=(((G33.trans (Fr.ext F40)).trans (Fr.ext F47)).trans (Fr.ext F63)).trans (Fr.ext F79)
   have G83:=(((G35.trans (Fr.ext F40)).trans (Fr.ext F47)).trans (Fr.ext F63)).trans (Fr.ext F79)
   refine o_w (v:=.int .i64 x79) (r_asg rfl) ?_
   refine eo_nil_sq ?_
   refine ec_seq ?_
   refine ec_region ?_
   refine o_w (v:=.int .i64 x79) (r_mov rfl) ?_
   refine o_w (v:=.bool (x79 != (0:Int))) (r_int rfl rfl rfl) ?_
   refine eo_nil_sq ?_
   refine ec_cond rfl (fun hc87=>?_) (fun hc87=>?_)
   ·replace h:=h.1 hc87
    refine ec_seq ?_
    refine ec_region ?_
    refine o_w (v:=.int .i64 x79) (r_mov rfl) ?_
    refine o_w (v:=.int .i64 x79) (r_asg rfl) ?_
    refine eo_nil_sq ?_
    refine ec_ret ?_
    refine blk_ret ?_
    refine sq_ret ?_
    refine unr_r ?_
    refine blk_ret ?_
    refine sq_ret ?_
    refine end1 (v:=.int .i64 x79) rfl ⟨_,rfl,?_⟩
    refine o_w (v:=.int .i64 x79) (r_asg rfl) ?_
    refine eo_nil_sq ?_
    refine ec_seq ?_
    refine ec_region ?_
    refine o_w (v:=.int .i64 x79) (r_mov rfl) ?_
    refine o_w (v:=.bool (x79 != (0:Int))) (r_int rfl rfl rfl) ?_
    refine eo_nil_sq ?_
    refine ec_condT rfl hc87 ?_
    refine ec_seq ?_
    refine ec_region ?_
    refine o_w (v:=.agg #[str [],.int .i64 0,.int .i64 0,.int .i64 0,.bool false,str [],.slice none ([]:List Int).length 0,.slice none ([]:List Int).length 0,.int .u64 0]) (r_build bld_api_Entry (vs:=[]) (cells:=[str [],.int .i64 0,.int .i64 0,.int .i64 0,.bool false,str [],.slice none ([]:List Int).length 0,.slice none ([]:List Int).length 0,.int .u64 0]) rfl rfl) ?_
    refine o_w (v:=.int .i64 x79) (r_mov rfl) ?_
    refine o_store rfl ((((B36.ex F40).ex F47).ex F63).ex F79) (vs:=[str [],.int .i64 0,.int .i64 0,.int .i64 0,.bool false,str [],.slice none ([]:List Int).length 0,.slice none ([]:List Int).length 0,.int .u64 0]) rfl sz_api_Entry rfl rfl rfl ?_
    intro w88 F88 B88
    have E89:=Ext.st E80 F88 (by simp; omega)
    have B88':Blk w88 b13 _ [str [],.int .i64 0,.int .i64 0,.int .i64 0,.bool false,str [],.slice none ([]:List Int).length 0,.slice none ([]:List Int).length 0,.int .u64 0]:=B88
    refine o_w (v:=.int .i64 x79) (r_asg rfl) ?_
    refine eo_nil_sq ?_
    refine ec_ret ?_
    refine sq_ret ?_
    subst h
    exact (endr2 (rv_a rfl (agg_api_Entry) B88' (vs:=[str [],.int .i64 0,.int .i64 0,.int .i64 0,.bool false,str [],.slice none ([]:List Int).length 0,.slice none ([]:List Int).length 0,.int .u64 0]) rfl rfl) (rv_t rfl) ⟨_,rfl,E89,_,rfl,(kEnt_mk (d:=(⟨([]:Str),(⟨(0:Int),(0:Int),(0:Int),false,([]:Str),([]:List Int),([]:List Int),(0:Int)⟩:Val)⟩:Ent)) stb_nil stb_nil)⟩)
   ·replace h:=h.2 hc87
    refine ec_skip ?_
    refine blk_n ?_
    refine sq_n ?_
    refine ec_region ?_
    refine o_w (v:=.int .i64 3) (r_int (v:=.int .i64 (3)) rfl rfl rfl) ?_
    refine o_w (v:=.int .i64 3) (r_mov rfl) ?_
    refine eo_nil ?_
    refine unr_n ?_
    refine ec_seq ?_
    refine ec_region ?_
    refine o_w (v:=.bool false) (r_int (v:=.bool false) rfl rfl rfl) ?_
    refine eo_nil_sq ?_
    refine ec_seq ?_
    refine ec_condF rfl rfl ?_
    refine ec_exit ?_
    refine sq_exit ?_
    refine unr_x ?_
    refine blk_hit ?_
    refine sq_n ?_
    refine ec_seq ?_
    refine ec_region ?_
    refine o_w (v:=.int .i64 0) (r_asg rfl) ?_
    refine eo_nil_sq ?_
    refine ec_ret ?_
    refine end1 (v:=.int .i64 0) rfl ⟨_,rfl,?_⟩
    refine o_w (v:=.int .i64 0) (r_asg rfl) ?_
    refine eo_nil_sq ?_
    refine ec_seq ?_
    refine ec_region ?_
    refine o_w (v:=.int .i64 0) (r_mov rfl) ?_
    refine o_w (v:=.bool false) (r_int (v:=.bool false) rfl rfl rfl) ?_
    refine eo_nil_sq ?_
    refine ec_condF rfl rfl ?_
    refine ec_skip ?_
    refine sq_n ?_
    refine ec_seq ?_
    refine ec_region ?_
    refine o_w (v:=.agg #[.int .i64 d0.cap,.slice A1 d0.slots.length c2,.slice A4 d0.idx.length c5,.int .i64 d1,.int .i64 1,str d2]) (r_lda agg_delta_update rfl (vs:=[.int .i64 d0.cap,.slice A1 d0.slots.length c2,.slice A4 d0.idx.length c5,.int .i64 d1,.int .i64 1,str d2]) rfl ((S37.fr (((G45.trans (Fr.ext F47)).trans (Fr.ext F63)).trans (Fr.ext F79)) sI).now.part (n:=6) rfl)) ?_
    refine o_w (v:=str d3) (r_ld one_string rfl ((S9.fr G83 sI).now.cell rfl)) ?_
    obtain ⟨x95,hx95,h⟩:=h
    refine o_call cf_delta_update_later rfl (delta_update_later_c (⟨d0,d1,(1:Int),d2⟩:Upd) (kUpd_mk (d:=(⟨d0,d1,(1:Int),d2⟩:Upd)) (H3.up G81 sI (upc (.inr m14) (fun _ h=>.inl h))) (H6.up G81 sI (upc (.inr m14) (fun _ h=>.inl h)))) false d3 ((hL.fr E80).cons ((((B36.ex F40).ex F47).ex F63).ex F79).lt) hx95) rfl rfl ?_
    rintro _ w95 ⟨F95,cs96,rfl,H97⟩
    have E98:=E80.trans F95
    obtain ⟨A105,c106,A108,c109,rfl,H107,H110⟩:=kEnt_open H97
    refine o_w (v:=.agg (cEnt x95.1 A105 c106 A108 c109).toArray) (r_ext rfl rfl) ?_
    refine o_w (v:=.int .i64 x95.2) (r_ext rfl rfl) ?_
    refine o_store rfl (((((B36.ex F40).ex F47).ex F63).ex F79).ex F95) (vs:=(cEnt x95.1 A105 c106 A108 c109)) rfl sz_api_Entry rfl rfl rfl ?_
    intro w111 F111 B111
    have E112:=Ext.st E98 F111 (by simp; omega)
    have G118:Fr (b13::L) w95 w111:=(Fr.refl _ _).stp F111 (upc (.inl mH) (fun m hm=>by cases hm))
    have B111':Blk w111 b13 _ (cEnt x95.1 A105 c106 A108 c109):=B111
    refine o_w (v:=.int .i64 x95.2) (r_asg rfl) ?_
    refine eo_nil_sq ?_
    refine ec_ret ?_
    subst h
    exact (endr2 (rv_a rfl (agg_api_Entry) B111' (vs:=(cEnt x95.1 A105 c106 A108 c109)) rfl rfl) (rv_t rfl) ⟨_,rfl,E112,_,rfl,(kEnt_mk (d:=x95.1) (H107.up G118 sI (fun m hm=>Or.inl (mT hm))) (H110.up G118 sI (fun m hm=>Or.inl (mT hm))))⟩)
def delta_Delete_raw (d0:Arena) (d1:Int) (d2:Str) (y:Ent × Int):Prop :=
 ∃ x37,delta_update_may_raw (⟨d0,d1,(1:Int),d2⟩:Upd) x37∧(((x37 != (0:Int))=true→(y=((⟨([]:Str),(⟨(0:Int),(0:Int),(0:Int),false,([]:Str),([]:List Int),([]:List Int),(0:Int)⟩:Val)⟩:Ent),x37)))∧((x37 != (0:Int))=false→(∃ x51,delta_Delete_1_raw (⟨d0,d1,(1:Int),d2⟩:Upd) x51∧(((x51 != (0:Int))=true→(y=((⟨([]:Str),(⟨(0:Int),(0:Int),(0:Int),false,([]:Str),([]:List Int),([]:List Int),(0:Int)⟩:Val)⟩:Ent),x51)))∧((x51 != (0:Int))=false→(∃ x65,delta_update_later_raw (⟨d0,d1,(1:Int),d2⟩:Upd) true ([]:Str) x65∧(y=(x65.1,x65.2))))))))
set_option maxRecDepth 20000 in
set_option maxHeartbeats 4000000 in
theorem delta_Delete_c {L:List Nat} {w:World} {csP0:List Value} (d0:Arena) (HP0:Stb L w (fun w=>kArena.r w csP0 d0)) (d1:Int) (d2:Str) (hL:Lt L w) {y:Ent × Int} (h:delta_Delete_raw d0 d1 d2 y) :
  Calls Tryz.prog 9 [.agg csP0.toArray,.int .i64 d1,str d2].toArray w (Ret fun v w'=>Ext w w'∧∃ (cs90:List Value),v=.tuple #[.agg cs90.toArray,.int .i64 y.2]∧Stb L w' (fun w=>kEnt.r w cs90 y.1)):=by
 obtain ⟨A1,c2,A4,c5,rfl,H3,H6⟩:=kArena_open HP0
 have hL0:=hL
 unfold delta_Delete_raw at h
 refine calls_ec Tryz.func9 rfl rfl rfl ?_
 refine ec_seq ?_
 refine ec_region ?_
 refine o_box (cs:=(cArena d0 A1 c2 A4 c5)) rfl rfl rfl ?_
 intro b7 w7 e7 F7 B7
 have S7:=B7.stb (nin hL e7)
 have G8:Fr L w w7:=Fr.ext F7
 refine o_alloc zero_api_Entry rfl rfl rfl ?_
 intro b9 w9 e9 F9 B9
 have n9:w.heap.size≤b9:=by rw [e9]; exact F7.size
 have m10:w.heap.size≤b9:=by rw [e9]; exact G8.size
 have E12:=F7.trans F9
 have G14:Fr L w7 w9:=Fr.ext F9
 refine o_w (v:=.int .i64 0) (r_asg rfl) ?_
 refine eo_nil_sq ?_
 refine ec_seq ?_
 refine ec_region ?_
 refine o_w (v:=.agg (cArena d0 A1 c2 A4 c5).toArray) (r_lda agg_api_Arena rfl (vs:=(cArena d0 A1 c2 A4 c5)) rfl ((S7.fr G14 sI).now.part (n:=3) rfl)) ?_
 refine o_w (v:=.int .i64 d1) (r_mov rfl) ?_
 refine o_w (v:=str d2) (r_mov rfl) ?_
 refine o_w (v:=.agg #[.int .i64 d0.cap,.slice A1 d0.slots.length c2,.slice A4 d0.idx.length c5,.int .i64 d1,.int .i64 1,str d2]) (r_build bld_delta_update (vs:=[(0,.agg (cArena d0 A1 c2 A4 c5).toArray),(1,.int .i64 d1),(2,.int .i64 1),(3,str d2)]) (cells:=[.int .i64 d0.cap,.slice A1 d0.slots.length c2,.slice A4 d0.idx.length c5,.int .i64 d1,.int .i64 1,str d2]) rfl rfl) ?_
 refine o_alloc zero_delta_update rfl rfl rfl ?_
 intro b15 w15 e15 F15 B15
 have n15:w.heap.size≤b15:=by rw [e15]; exact E12.size
 have q16:b9<b15:=by rw [e15]; exact B9.lt
 have m17:w.heap.size≤b15:=by rw [e15]; exact (G8.trans (Fr.ext F9)).size
 have NLb15:b15∉L:=fun hm=>by have h1:=hL0 _ hm; omega
 have E19:=E12.trans F15
 refine o_store rfl B15 (vs:=[.int .i64 d0.cap,.slice A1 d0.slots.length c2,.slice A4 d0.idx.length c5,.int .i64 d1,.int .i64 1,str d2]) rfl sz_delta_update rfl rfl rfl ?_
 intro w23 F23 B23
 have E24:=Ext.st E19 F23 (by simp; omega)
 have G25:Fr L w w23:=((G8.trans (Fr.ext F9)).trans (Fr.ext F15)).stp F23 (upc (.inr m17) (fun m hm=>by cases hm))
 have B27:=(B9.ex F15).fr F23 (by simp; omega)
 have B23':Blk w23 b15 _ [.int .i64 d0.cap,.slice A1 d0.slots.length c2,.slice A4 d0.idx.length c5,.int .i64 d1,.int .i64 1,str d2]:=B23
 have N29:b15∉(b9::L):=(notin_cons (by omega) NLb15)
 have S28:=Blk.stb B23' N29
 refine eo_nil_sq ?_
 refine ec_seq ?_
 refine ec_region ?_
 refine o_w (r_mkfn' (vs:=[.pointer (some ⟨b15,0,none⟩)]) rfl) ?_
 refine o_w (v:=.func (.func 36) #[] #[.pointer (some ⟨b15,0,none⟩)]) (r_asg rfl) ?_
 refine eo_nil_sq ?_
 iterate 2 refine ec_seq ?_
 refine ec_region ?_
 refine o_w (v:=.agg #[.int .i64 d0.cap,.slice A1 d0.slots.length c2,.slice A4 d0.idx.length c5,.int .i64 d1,.int .i64 1,str d2]) (r_lda agg_delta_update rfl (vs:=[.int .i64 d0.cap,.slice A1 d0.slots.length c2,.slice A4 d0.idx.length c5,.int .i64 d1,.int .i64 1,str d2]) rfl (S28.now.part (n:=6) rfl)) ?_
 refine o_w (r_mkfb (us:=[.agg #[.int .i64 d0.cap,.slice A1 d0.slots.length c2,.slice A4 d0.idx.length c5,.int .i64 d1,.int .i64 1,str d2]]) (vs:=[]) rfl rfl) ?_
 refine o_w (v:=.func (.func 36) #[] #[.pointer (some ⟨b15,0,none⟩)]) (r_mov rfl) ?_
 refine o_bslice slc_s_delta_need rfl (vs:=[.func (.func 30) #[.agg #[.int .i64 d0.cap,.slice A1 d0.slots.length c2,.slice A4 d0.idx.length c5,.int .i64 d1,.int .i64 1,str d2]] #[],.func (.func 36) #[] #[.pointer (some ⟨b15,0,none⟩)]]) rfl rfl rfl (cs:=[.func (.func 30) #[.agg #[.int .i64 d0.cap,.slice A1 d0.slots.length c2,.slice A4 d0.idx.length c5,.int .i64 d1,.int .i64 1,str d2]] #[],.func (.func 36) #[] #[.pointer (some ⟨b15,0,none⟩)]]) rfl rfl rfl rfl ?_
 intro b31 w31 e31 F31 B31
 have N31:=nin ((hL.fr E24).cons B27.lt) e31
 have S31:=B31.stb N31
 have E32:=E24.trans F31
 have G35:Fr (b9::L) w23 w31:=Fr.ext F31
 refine o_inl (vs:=[.slice (some ⟨b31,0,none⟩) 2 2]) (caps:=[]) cf_delta_first rfl rfl rfl rfl ?_
 refine calls_ec Tryz.func29 rfl rfl rfl ?_
 refine ec_seq ?_
 refine ec_region ?_
 refine o_w (v:=.int .i64 0) (r_asg rfl) ?_
 refine eo_nil_sq ?_
 iterate 2 refine ec_seq ?_
 refine ec_region ?_
 refine o_w (v:=.slice (some ⟨b31,0,none⟩) 2 2) (r_mov rfl) ?_
 refine o_w (v:=.int .i64 2) (r_len_slc un_s_delta_need rfl) ?_
 refine o_w (v:=.int .i64 0) (r_mov rfl) ?_
 refine eo_nil_sq ?_
 refine ec_block ?_
 refine ec_unroll ?_
 refine el_round ?_
 refine ec_seq ?_
 refine ec_region ?_
 refine o_w (v:=.bool true) (r_int (v:=.bool true) rfl rfl rfl) ?_
 refine eo_nil_sq ?_
 refine ec_seq ?_
 refine ec_condT rfl rfl ?_
 refine ec_skip ?_
 refine sq_n ?_
 refine ec_seq ?_
 refine ec_block ?_
 refine ec_seq ?_
 refine ec_region ?_
 refine o_w (v:=.pointer (some ⟨b31,0,none⟩)) (r_iaB (b:=b31) (len:=2) 0 slc_s_delta_need rfl rfl (by decide)) ?_
 refine o_w (v:=.func (.func 30) #[.agg #[.int .i64 d0.cap,.slice A1 d0.slots.length c2,.slice A4 d0.idx.length c5,.int .i64 d1,.int .i64 1,str d2]] #[]) (r_ld one_delta_need rfl (S31.now.cell rfl)) ?_
 refine o_w (v:=.func (.func 30) #[.agg #[.int .i64 d0.cap,.slice A1 d0.slots.length c2,.slice A4 d0.idx.length c5,.int .i64 d1,.int .i64 1,str d2]] #[]) (r_asg rfl) ?_
 refine eo_nil_sq ?_
 refine ec_seq ?_
 refine ec_region ?_
 refine o_w (v:=.func (.func 30) #[.agg #[.int .i64 d0.cap,.slice A1 d0.slots.length c2,.slice A4 d0.idx.length c5,.int .i64 d1,.int .i64 1,str d2]] #[]) (r_mov rfl) ?_
 obtain ⟨x37,hx37,h⟩:=h
 refine o_callb (us:=[.agg #[.int .i64 d0.cap,.slice A1 d0.slots.length c2,.slice A4 d0.idx.length c5,.int .i64 d1,.int .i64 1,str d2]]) (vs:=[]) (caps:=[]) cf_delta_update_may rfl rfl (delta_update_may_c (⟨d0,d1,(1:Int),d2⟩:Upd) (kUpd_mk (d:=(⟨d0,d1,(1:Int),d2⟩:Upd)) (H3.up (G25.trans (Fr.ext F31)) sI (upc (.inr m10) (fun _ h=>.inl h))) (H6.up (G25.trans (Fr.ext F31)) sI (upc (.inr m10) (fun _ h=>.inl h)))) ((hL.fr E32).cons (B27.ex F31).lt) hx37) rfl rfl ?_
 rintro _ w37 ⟨F37,rfl⟩
 have E38:=E32.trans F37
 have G42:Fr (b9::L) w31 w37:=Fr.ext F37
 refine o_w (v:=.int .i64 x37) (r_asg rfl) ?_
 refine eo_nil_sq ?_
 refine ec_seq ?_
 refine ec_region ?_
 refine o_w (v:=.int .i64 x37) (r_mov rfl) ?_
 refine o_w (v:=.bool (x37 != (0:Int))) (r_int rfl rfl rfl) ?_
 refine eo_nil_sq ?_
 refine ec_cond rfl (fun hc44=>?_) (fun hc44=>?_)
 ·replace h:=h.1 hc44
  refine ec_seq ?_
  refine ec_region ?_
  refine o_w (v:=.int .i64 x37) (r_mov rfl) ?_
  refine o_w (v:=.int .i64 x37) (r_asg rfl) ?_
  refine eo_nil_sq ?_
  refine ec_ret ?_
  refine blk_ret ?_
  refine sq_ret ?_
  refine unr_r ?_
  refine blk_ret ?_
  refine sq_ret ?_
  refine end1 (v:=.int .i64 x37) rfl ⟨_,rfl,?_⟩
  refine o_w (v:=.int .i64 x37) (r_asg rfl) ?_
  refine eo_nil_sq ?_
  refine ec_seq ?_
  refine ec_region ?_
  refine o_w (v:=.int .i64 x37) (r_mov rfl) ?_
  refine o_w (v:=.bool (x37 != (0:Int))) (r_int rfl rfl rfl) ?_
  refine eo_nil_sq ?_
  refine ec_condT rfl hc44 ?_
  refine ec_seq ?_
  refine ec_region ?_
  refine o_w (v:=.agg #[str [],.int .i64 0,.int .i64 0,.int .i64 0,.bool false,str [],.slice none ([]:List Int).length 0,.slice none ([]:List Int).length 0,.int .u64 0]) (r_build bld_api_Entry (vs:=[]) (cells:=[str [],.int .i64 0,.int .i64 0,.int .i64 0,.bool false,str [],.slice none ([]:List Int).length 0,.slice none ([]:List Int).length 0,.int .u64 0]) rfl rfl) ?_
  refine o_w (v:=.int .i64 x37) (r_mov rfl) ?_
  refine o_store rfl ((B27.ex F31).ex F37) (vs:=[str [],.int .i64 0,.int .i64 0,.int .i64 0,.bool false,str [],.slice none ([]:List Int).length 0,.slice none ([]:List Int).length 0,.int .u64 0]) rfl sz_api_Entry rfl rfl rfl ?_
  intro w45 F45 B45
  have E46:=Ext.st E38 F45 (by simp; omega)
  have B45':Blk w45 b9 _ [str [],.int .i64 0,.int .i64 0,.int .i64 0,.bool false,str [],.slice none ([]:List Int).length 0,.slice none ([]:List Int).length 0,.int .u64 0]:=B45
  refine o_w (v:=.int .i64 x37) (r_asg rfl) ?_
  refine eo_nil_sq ?_
  refine ec_ret ?_
  refine sq_ret ?_
  subst h
  exact (endr2 (rv_a rfl (agg_api_Entry) B45' (vs:=[str [],.int .i64 0,.int .i64 0,.int .i64 0,.bool false,str [],.slice none ([]:List Int).length 0,.slice none ([]:List Int).length 0,.int .u64 0]) rfl rfl) (rv_t rfl) ⟨_,rfl,E46,_,rfl,(kEnt_mk (d:=(⟨([]:Str),(⟨(0:Int),(0:Int),(0:Int),false,([]:Str),([]:List Int),([]:List Int),(0:Int)⟩:Val)⟩:Ent)) stb_nil stb_nil)⟩)
 ·replace h:=h.2 hc44
  refine ec_skip ?_
  refine blk_n ?_
  refine sq_n ?_
  refine ec_region ?_
  refine o_w (v:=.int .i64 1) (r_int (v:=.int .i64 (1)) rfl rfl rfl) ?_
  refine o_w (v:=.int .i64 1) (r_mov rfl) ?_
  refine eo_nil ?_
  refine unr_n ?_
  refine ec_seq ?_
  refine ec_region ?_
  refine o_w (v:=.bool true) (r_int (v:=.bool true) rfl rfl rfl) ?_
  refine eo_nil_sq ?_
  refine ec_seq ?_
  refine ec_condT rfl rfl ?_
  refine ec_skip ?_
  refine sq_n ?_
  refine ec_seq ?_
  refine ec_block ?_
  refine ec_seq ?_
  refine ec_region ?_
  refine o_w (v:=.pointer (some ⟨b31,1,none⟩)) (r_iaB (b:=b31) (len:=2) 1 slc_s_delta_need rfl rfl (by decide)) ?_
  refine o_w (v:=.func (.func 36) #[] #[.pointer (some ⟨b15,0,none⟩)]) (r_ld one_delta_need rfl ((S31.fr G42 sI).now.cell rfl)) ?_
  refine o_w (v:=.func (.func 36) #[] #[.pointer (some ⟨b15,0,none⟩)]) (r_asg rfl) ?_
  refine eo_nil_sq ?_
  refine ec_seq ?_
  refine ec_region ?_
  refine o_w (v:=.func (.func 36) #[] #[.pointer (some ⟨b15,0,none⟩)]) (r_mov rfl) ?_
  obtain ⟨x51,hx51,h⟩:=h
  refine o_callc (vs:=[]) (caps:=[.pointer (some ⟨b15,0,none⟩)]) cf_delta_Delete_1 rfl rfl (delta_Delete_1_c (⟨d0,d1,(1:Int),d2⟩:Upd) (S28.fr (G35.trans (Fr.ext F37)) sI) (kUpd_mk (d:=(⟨d0,d1,(1:Int),d2⟩:Upd)) (H3.up ((G25.trans (Fr.ext F31)).trans (Fr.ext F37)) sI (upc (.inr m10) (fun _ h=>.inl h))) (H6.up ((G25.trans (Fr.ext F31)).trans (Fr.ext F37)) sI (upc (.inr m10) (fun _ h=>.inl h)))) ((hL.fr E38).cons ((B27.ex F31).ex F37).lt) hx51) rfl rfl ?_
  rintro _ w51 ⟨F51,rfl⟩
  have E52:=E38.trans F51
  refine o_w (v:=.int .i64 x51) (r_asg rfl) ?_
  refine eo_nil_sq ?_
  refine ec_seq ?_
  refine ec_region ?_
  refine o_w (v:=.int .i64 x51) (r_mov rfl) ?_
  refine o_w (v:=.bool (x51 != (0:Int))) (r_int rfl rfl rfl) ?_
  refine eo_nil_sq ?_
  refine ec_cond rfl (fun hc58=>?_) (fun hc58=>?_)
  ·replace h:=h.1 hc58
   refine ec_seq ?_
   refine ec_region ?_
   refine o_w (v:=.int .i64 x51) (r_mov rfl) ?_
   refine o_w (v:=.int .i64 x51) (r_asg rfl) ?_
   refine eo_nil_sq ?_
   refine ec_ret ?_
   refine blk_ret ?_
   refine sq_ret ?_
   refine unr_r ?_
   refine blk_ret ?_
   refine sq_ret ?_
   refine end1 (v:=.int .i64 x51) rfl ⟨_,rfl,?_⟩
   refine o_w (v:=.int .i64 x51) (r_asg rfl) ?_
   refine eo_nil_sq ?_
   refine ec_seq ?_
   refine ec_region ?_
   refine o_w (v:=.int .i64 x51) (r_mov rfl) ?_
   refine o_w (v:=.bool (x51 != (0:Int))) (r_int rfl rfl rfl) ?_
   refine eo_nil_sq ?_
   refine ec_condT rfl hc58 ?_
   refine ec_seq ?_
   refine ec_region ?_
   refine o_w (v:=.agg #[str [],.int .i64 0,.int .i64 0,.int .i64 0,.bool false,str [],.slice none ([]:List Int).length 0,.slice none ([]:List Int).length 0,.int .u64 0]) (r_build bld_api_Entry (vs:=[]) (cells:=[str [],.int .i64 0,.int .i64 0,.int .i64 0,.bool false,str [],.slice none ([]:List Int).length 0,.slice none ([]:List Int).length 0,.int .u64 0]) rfl rfl) ?_
   refine o_w (v:=.int .i64 x51) (r_mov rfl) ?_
   refine o_store rfl (((B27.ex F31).ex F37).ex F51) (vs:=[str [],.int .i64 0,.int .i64 0,.int .i64 0,.bool false,str [],.slice none ([]:List Int).length 0,.slice none ([]:List Int).length 0,.int .u64 0]) rfl sz_api_Entry rfl rfl rfl ?_
   intro w59 F59 B59
   have E60:=Ext.st E52 F59 (by simp; omega)
   have B59':Blk w59 b9 _ [str [],.int .i64 0,.int .i64 0,.int .i64 0,.bool false,str [],.slice none ([]:List Int).length 0,.slice none ([]:List Int).length 0,.int .u64 0]:=B59
   refine o_w (v:=.int .i64 x51) (r_asg rfl) ?_
   refine eo_nil_sq ?_
   refine ec_ret ?_
   refine sq_ret ?_
   subst h
   exact (endr2 (rv_a rfl (agg_api_Entry) B59' (vs:=[str [],.int .i64 0,.int .i64 0,.int .i64 0,.bool false,str [],.slice none ([]:List Int).length 0,.slice none ([]:List Int).length 0,.int .u64 0]) rfl rfl) (rv_t rfl) ⟨_,rfl,E60,_,rfl,(kEnt_mk (d:=(⟨([]:Str),(⟨(0:Int),(0:Int),(0:Int),false,([]:Str),([]:List Int),([]:List Int),(0:Int)⟩:Val)⟩:Ent)) stb_nil stb_nil)⟩)
  ·replace h:=h.2 hc58
   refine ec_skip ?_
   refine blk_n ?_
   refine sq_n ?_
   refine ec_region ?_
   refine o_w (v:=.int .i64 2) (r_int (v:=.int .i64 (2)) rfl rfl rfl) ?_
   refine o_w (v:=.int .i64 2) (r_mov rfl) ?_
   refine eo_nil ?_
   refine unr_n ?_
   refine ec_seq ?_
   refine ec_region ?_
   refine o_w (v:=.bool false) (r_int (v:=.bool false) rfl rfl rfl) ?_
   refine eo_nil_sq ?_
   refine ec_seq ?_
   refine ec_condF rfl rfl ?_
   refine ec_exit ?_
   refine sq_exit ?_
   refine unr_x ?_
   refine blk_hit ?_
   refine sq_n ?_
   refine ec_seq ?_
   refine ec_region ?_
   refine o_w (v:=.int .i64 0) (r_asg rfl) ?_
   refine eo_nil_sq ?_
   refine ec_ret ?_
   refine end1 (v:=.int .i64 0) rfl ⟨_,rfl,?_⟩
   refine o_w (v:=.int .i64 0) (r_asg rfl) ?_
   refine eo_nil_sq ?_
   refine ec_seq ?_
   refine ec_region ?_
   refine o_w (v:=.int .i64 0) (r_mov rfl) ?_
   refine o_w (v:=.bool false) (r_int (v:=.bool false) rfl rfl rfl) ?_
   refine eo_nil_sq ?_
   refine ec_condF rfl rfl ?_
   refine ec_skip ?_
   refine sq_n ?_
   refine ec_seq ?_
   refine ec_region ?_
   refine o_w (v:=.agg #[.int .i64 d0.cap,.slice A1 d0.slots.length c2,.slice A4 d0.idx.length c5,.int .i64 d1,.int .i64 1,str d2]) (r_lda agg_delta_update rfl (vs:=[.int .i64 d0.cap,.slice A1 d0.slots.length c2,.slice A4 d0.idx.length c5,.int .i64 d1,.int .i64 1,str d2]) rfl ((S28.fr ((G35.trans (Fr.ext F37)).trans (Fr.ext F51)) sI).now.part (n:=6) rfl)) ?_
   obtain ⟨x65,hx65,h⟩:=h
   refine o_call cf_delta_update_later rfl (delta_update_later_c (⟨d0,d1,(1:Int),d2⟩:Upd) (kUpd_mk (d:=(⟨d0,d1,(1:Int),d2⟩:Upd)) (H3.up (((G25.trans (Fr.ext F31)).trans (Fr.ext F37)).trans (Fr.ext F51)) sI (upc (.inr m10) (fun _ h=>.inl h))) (H6.up (((G25.trans (Fr.ext F31)).trans (Fr.ext F37)).trans (Fr.ext F51)) sI (upc (.inr m10) (fun _ h=>.inl h)))) true ([]:Str) ((hL.fr E52).cons (((B27.ex F31).ex F37).ex F51).lt) hx65) rfl rfl ?_
   rintro _ w65 ⟨F65,cs66,rfl,H67⟩
   have E68:=E52.trans F65
   obtain ⟨A74,c75,A77,c78,rfl,H76,H79⟩:=kEnt_open H67
   refine o_w (v:=.agg (cEnt x65.1 A74 c75 A77 c78).toArray) (r_ext rfl rfl) ?_
   refine o_w (v:=.int .i64 x65.2) (r_ext rfl rfl) ?_
   refine o_store rfl ((((B27.ex F31).ex F37).ex F51).ex F65) (vs:=(cEnt x65.1 A74 c75 A77 c78)) rfl sz_api_Entry rfl rfl rfl ?_
   intro w80 F80 B80
   have E81:=Ext.st E68 F80 (by simp; omega)
   have G86:Fr (b9::L) w65 w80:=(Fr.refl _ _).stp F80 (upc (.inl mH) (fun m hm=>by cases hm))
   have B80':Blk w80 b9 _ (cEnt x65.1 A74 c75 A77 c78):=B80
   refine o_w (v:=.int .i64 x65.2) (r_asg rfl) ?_
   refine eo_nil_sq ?_
   refine ec_ret ?_
   subst h
   exact (endr2 (rv_a rfl (agg_api_Entry) B80' (vs:=(cEnt x65.1 A74 c75 A77 c78)) rfl rfl) (rv_t rfl) ⟨_,rfl,E81,_,rfl,(kEnt_mk (d:=x65.1) (H76.up G86 sI (fun m hm=>Or.inl (mT hm))) (H79.up G86 sI (fun m hm=>Or.inl (mT hm))))⟩)
def delta_Add_raw (d0:Arena) (d1:Int) (d2:Str) (d3:Int) (y:Ent × Int):Prop :=
 ∃ x47,delta_update_may_raw (⟨d0,d1,(2:Int),d2⟩:Upd) x47∧(((x47 != (0:Int))=true→(y=((⟨([]:Str),(⟨(0:Int),(0:Int),(0:Int),false,([]:Str),([]:List Int),([]:List Int),(0:Int)⟩:Val)⟩:Ent),x47)))∧((x47 != (0:Int))=false→(∃ x63,delta_Add_1_raw d3 x63∧(((x63 != (0:Int))=true→(y=((⟨([]:Str),(⟨(0:Int),(0:Int),(0:Int),false,([]:Str),([]:List Int),([]:List Int),(0:Int)⟩:Val)⟩:Ent),x63)))∧((x63 != (0:Int))=false→(∃ x79,delta_update_room_raw (⟨d0,d1,(2:Int),d2⟩:Upd) x79∧(((x79 != (0:Int))=true→(y=((⟨([]:Str),(⟨(0:Int),(0:Int),(0:Int),false,([]:Str),([]:List Int),([]:List Int),(0:Int)⟩:Val)⟩:Ent),x79)))∧((x79 != (0:Int))=false→(∃ x146,delta_update_old_raw (⟨d0,d1,(2:Int),d2⟩:Upd) x146∧(((decide (d3<0))=true→((0≤d1∧d1<(x146.1.minus.length:Int))∧((0≤d1∧d1<((8:Nat):Int))∧((0≤d1∧d1<((8:Nat):Int))∧(((decide (65535<(nth (Z8.set d1.toNat (IntKind.i64.wrap ((nth x146.1.minus d1) + (IntKind.i64.wrap (0 - d3))))) d1)))=true→(y=((⟨([]:Str),(⟨(0:Int),(0:Int),(0:Int),false,([]:Str),([]:List Int),([]:List Int),(0:Int)⟩:Val)⟩:Ent),(5:Int))))∧((decide (65535<(nth (Z8.set d1.toNat (IntKind.i64.wrap ((nth x146.1.minus d1) + (IntKind.i64.wrap (0 - d3))))) d1)))=false→(∃ x336,delta_update_entry_raw (⟨d0,d1,(2:Int),d2⟩:Upd) (⟨(2:Int),(0:Int),(0:Int),false,([]:Str),Z8,(Z8.set d1.toNat (IntKind.i64.wrap ((nth x146.1.minus d1) + (IntKind.i64.wrap (0 - d3))))),(0:Int)⟩:Val) x336∧(y=(x336,(0:Int))))))))))∧((decide (d3<0))=false→((0≤d1∧d1<(x146.1.plus.length:Int))∧((0≤d1∧d1<((8:Nat):Int))∧((0≤d1∧d1<((8:Nat):Int))∧(((decide (65535<(nth (Z8.set d1.toNat (IntKind.i64.wrap ((nth x146.1.plus d1) + d3))) d1)))=true→(y=((⟨([]:Str),(⟨(0:Int),(0:Int),(0:Int),false,([]:Str),([]:List Int),([]:List Int),(0:Int)⟩:Val)⟩:Ent),(5:Int))))∧((decide (65535<(nth (Z8.set d1.toNat (IntKind.i64.wrap ((nth x146.1.plus d1) + d3))) d1)))=false→(∃ x415,delta_update_entry_raw (⟨d0,d1,(2:Int),d2⟩:Upd) (⟨(2:Int),(0:Int),(0:Int),false,([]:Str),(Z8.set d1.toNat (IntKind.i64.wrap ((nth x146.1.plus d1) + d3))),Z8,(0:Int)⟩:Val) x415∧(y=(x415,(0:Int))))))))))))))))))))
set_option maxRecDepth 20000 in
set_option maxHeartbeats 4000000 in
theorem delta_Add_c {L:List Nat} {w:World} {csP0:List Value} (d0:Arena) (HP0:Stb L w (fun w=>kArena.r w csP0 d0)) (d1:Int) (d2:Str) (d3:Int) (hL:Lt L w) {y:Ent × Int} (h:delta_Add_raw d0 d1 d2 d3 y) :
  Calls Tryz.prog 11 [.agg csP0.toArray,.int .i64 d1,str d2,.int .i64 d3].toArray w (Ret fun v w'=>Ext w w'∧∃ (cs90:List Value),v=.tuple #[.agg cs90.toArray,.int .i64 y.2]∧Stb L w' (fun w=>kEnt.r w cs90 y.1)):=by
 obtain ⟨A1,c2,A4,c5,rfl,H3,H6⟩:=kArena_open HP0
 have hL0:=hL
 unfold delta_Add_raw at h
 refine calls_ec Tryz.func11 rfl rfl rfl ?_
 refine ec_seq ?_
 refine ec_region ?_
 refine o_box (cs:=(cArena d0 A1 c2 A4 c5)) rfl rfl rfl ?_
 intro b7 w7 e7 F7 B7
 have S7:=B7.stb (nin hL e7)
 have G8:Fr L w w7:=Fr.ext F7
 refine o_box (cs:=[.int .i64 d3]) rfl rfl rfl ?_
 intro b9 w9 e9 F9 B9
 have S9:=B9.stb (nin (hL.fr F7) e9)
 have E10:=F7.trans F9
 have G12:Fr L w7 w9:=Fr.ext F9
 refine o_alloc zero_api_Entry rfl rfl rfl ?_
 intro b13 w13 e13 F13 B13
 have n13:w.heap.size≤b13:=by rw [e13]; exact E10.size
 have m14:w.heap.size≤b13:=by rw [e13]; exact (G8.trans (Fr.ext F9)).size
 have m16:w9.heap.size≤b13:=Nat.le_of_eq e13.symm
 have E17:=E10.trans F13
 have G20:Fr L w9 w13:=Fr.ext F13
 refine o_w (v:=.int .i64 0) (r_asg rfl) ?_
 refine eo_nil_sq ?_
 refine ec_seq ?_
 refine ec_region ?_
 refine o_w (v:=.agg (cArena d0 A1 c2 A4 c5).toArray) (r_lda agg_api_Arena rfl (vs:=(cArena d0 A1 c2 A4 c5)) rfl ((S7.fr (G12.trans (Fr.ext F13)) sI).now.part (n:=3) rfl)) ?_
 refine o_w (v:=.int .i64 d1) (r_mov rfl) ?_
 refine o_w (v:=str d2) (r_mov rfl) ?_
 refine o_w (v:=.agg #[.int .i64 d0.cap,.slice A1 d0.slots.length c2,.slice A4 d0.idx.length c5,.int .i64 d1,.int .i64 2,str d2]) (r_build bld_delta_update (vs:=[(0,.agg (cArena d0 A1 c2 A4 c5).toArray),(1,.int .i64 d1),(2,.int .i64 2),(3,str d2)]) (cells:=[.int .i64 d0.cap,.slice A1 d0.slots.length c2,.slice A4 d0.idx.length c5,.int .i64 d1,.int .i64 2,str d2]) rfl rfl) ?_
 refine o_alloc zero_delta_update rfl rfl rfl ?_
 intro b21 w21 e21 F21 B21
 have n21:w.heap.size≤b21:=by rw [e21]; exact E17.size
 have q22:b13<b21:=by rw [e21]; exact B13.lt
 have m23:w.heap.size≤b21:=by rw [e21]; exact ((G8.trans (Fr.ext F9)).trans (Fr.ext F13)).size
 have m25:w9.heap.size≤b21:=by rw [e21]; exact G20.size
 have NLb21:b21∉L:=fun hm=>by have h1:=hL0 _ hm; omega
 have E26:=E17.trans F21
 refine o_store rfl B21 (vs:=[.int .i64 d0.cap,.slice A1 d0.slots.length c2,.slice A4 d0.idx.length c5,.int .i64 d1,.int .i64 2,str d2]) rfl sz_delta_update rfl rfl rfl ?_
 intro w31 F31 B31
 have E32:=Ext.st E26 F31 (by simp; omega)
 have G33:Fr L w w31:=(((G8.trans (Fr.ext F9)).trans (Fr.ext F13)).trans (Fr.ext F21)).stp F31 (upc (.inr m23) (fun m hm=>by cases hm))
 have G35:Fr L w9 w31:=(G20.trans (Fr.ext F21)).stp F31 (upc (.inr m25) (fun m hm=>by cases hm))
 have B36:=(B13.ex F21).fr F31 (by simp; omega)
 have B31':Blk w31 b21 _ [.int .i64 d0.cap,.slice A1 d0.slots.length c2,.slice A4 d0.idx.length c5,.int .i64 d1,.int .i64 2,str d2]:=B31
 have N38:b21∉(b13::L):=(notin_cons (by omega) NLb21)
 have S37:=Blk.stb B31' N38
 refine eo_nil_sq ?_
 refine ec_seq ?_
 refine ec_region ?_
 refine o_w (r_mkfn' (vs:=[.pointer (some ⟨b9,0,none⟩)]) rfl) ?_
 refine o_w (v:=.func (.func 40) #[] #[.pointer (some ⟨b9,0,none⟩)]) (r_asg rfl) ?_
 refine eo_nil_sq ?_
 iterate 2 refine ec_seq ?_
 refine ec_region ?_
 refine o_w (v:=.agg #[.int .i64 d0.cap,.slice A1 d0.slots.length c2,.slice A4 d0.idx.length c5,.int .i64 d1,.int .i64 2,str d2]) (r_lda agg_delta_update rfl (vs:=[.int .i64 d0.cap,.slice A1 d0.slots.length c2,.slice A4 d0.idx.length c5,.int .i64 d1,.int .i64 2,str d2]) rfl (S37.now.part (n:=6) rfl)) ?_
 refine o_w (r_mkfb (us:=[.agg #[.int .i64 d0.cap,.slice A1 d0.slots.length c2,.slice A4 d0.idx.length c5,.int .i64 d1,.int .i64 2,str d2]]) (vs:=[]) rfl rfl) ?_
 refine o_w (v:=.func (.func 40) #[] #[.pointer (some ⟨b9,0,none⟩)]) (r_mov rfl) ?_
 refine o_w (v:=.agg #[.int .i64 d0.cap,.slice A1 d0.slots.length c2,.slice A4 d0.idx.length c5,.int .i64 d1,.int .i64 2,str d2]) (r_lda agg_delta_update rfl (vs:=[.int .i64 d0.cap,.slice A1 d0.slots.length c2,.slice A4 d0.idx.length c5,.int .i64 d1,.int .i64 2,str d2]) rfl (S37.now.part (n:=6) rfl)) ?_
 refine o_w (r_mkfb (us:=[.agg #[.int .i64 d0.cap,.slice A1 d0.slots.length c2,.slice A4 d0.idx.length c5,.int .i64 d1,.int .i64 2,str d2]]) (vs:=[]) rfl rfl) ?_
 refine o_bslice slc_s_delta_need rfl (vs:=[.func (.func 30) #[.agg #[.int .i64 d0.cap,.slice A1 d0.slots.length c2,.slice A4 d0.idx.length c5,.int .i64 d1,.int .i64 2,str d2]] #[],.func (.func 40) #[] #[.pointer (some ⟨b9,0,none⟩)],.func (.func 31) #[.agg #[.int .i64 d0.cap,.slice A1 d0.slots.length c2,.slice A4 d0.idx.length c5,.int .i64 d1,.int .i64 2,str d2]] #[]]) rfl rfl rfl (cs:=[.func (.func 30) #[.agg #[.int .i64 d0.cap,.slice A1 d0.slots.length c2,.slice A4 d0.idx.length c5,.int .i64 d1,.int .i64 2,str d2]] #[],.func (.func 40) #[] #[.pointer (some ⟨b9,0,none⟩)],.func (.func 31) #[.agg #[.int .i64 d0.cap,.slice A1 d0.slots.length c2,.slice A4 d0.idx.length c5,.int .i64 d1,.int .i64 2,str d2]] #[]]) rfl rfl rfl rfl ?_
 intro b40 w40 e40 F40 B40
 have N40:=nin ((hL.fr E32).cons B36.lt) e40
 have S40:=B40.stb N40
 have E41:=E32.trans F40
 have G45:Fr (b13::L) w31 w40:=Fr.ext F40
 refine o_inl (vs:=[.slice (some ⟨b40,0,none⟩) 3 3]) (caps:=[]) cf_delta_first rfl rfl rfl rfl ?_
 refine calls_ec Tryz.func29 rfl rfl rfl ?_
 refine ec_seq ?_
 refine ec_region ?_
 refine o_w (v:=.int .i64 0) (r_asg rfl) ?_
 refine eo_nil_sq ?_
 iterate 2 refine ec_seq ?_
 refine ec_region ?_
 refine o_w (v:=.slice (some ⟨b40,0,none⟩) 3 3) (r_mov rfl) ?_
 refine o_w (v:=.int .i64 3) (r_len_slc un_s_delta_need rfl) ?_
 refine o_w (v:=.int .i64 0) (r_mov rfl) ?_
 refine eo_nil_sq ?_
 refine ec_block ?_
 refine ec_unroll ?_
 refine el_round ?_
 refine ec_seq ?_
 refine ec_region ?_
 refine o_w (v:=.bool true) (r_int (v:=.bool true) rfl rfl rfl) ?_
 refine eo_nil_sq ?_
 refine ec_seq ?_
 refine ec_condT rfl rfl ?_
 refine ec_skip ?_
 refine sq_n ?_
 refine ec_seq ?_
 refine ec_block ?_
 refine ec_seq ?_
 refine ec_region ?_
 refine o_w (v:=.pointer (some ⟨b40,0,none⟩)) (r_iaB (b:=b40) (len:=3) 0 slc_s_delta_need rfl rfl (by decide)) ?_
 refine o_w (v:=.func (.func 30) #[.agg #[.int .i64 d0.cap,.slice A1 d0.slots.length c2,.slice A4 d0.idx.length c5,.int .i64 d1,.int .i64 2,str d2]] #[]) (r_ld one_delta_need rfl (S40.now.cell rfl)) ?_
 refine o_w (v:=.func (.func 30) #[.agg #[.int .i64 d0.cap,.slice A1 d0.slots.length c2,.slice A4 d0.idx.length c5,.int .i64 d1,.int .i64 2,str d2]] #[]) (r_asg rfl) ?_
 refine eo_nil_sq ?_
 refine ec_seq ?_
 refine ec_region ?_
 refine o_w (v:=.func (.func 30) #[.agg #[.int .i64 d0.cap,.slice A1 d0.slots.length c2,.slice A4 d0.idx.length c5,.int .i64 d1,.int .i64 2,str d2]] #[]) (r_mov rfl) ?_
 obtain ⟨x47,hx47,h⟩:=h
 refine o_callb (us:=[.agg #[.int .i64 d0.cap,.slice A1 d0.slots.length c2,.slice A4 d0.idx.length c5,.int .i64 d1,.int .i64 2,str d2]]) (vs:=[]) (caps:=[]) cf_delta_update_may rfl rfl (delta_update_may_c (⟨d0,d1,(2:Int),d2⟩:Upd) (kUpd_mk (d:=(⟨d0,d1,(2:Int),d2⟩:Upd)) (H3.up (G33.trans (Fr.ext F40)) sI (upc (.inr m14) (fun _ h=>.inl h))) (H6.up (G33.trans (Fr.ext F40)) sI (upc (.inr m14) (fun _ h=>.inl h)))) ((hL.fr E41).cons (B36.ex F40).lt) hx47) rfl rfl ?_
 rintro _ w47 ⟨F47,rfl⟩
 have E48:=E41.trans F47
 have G53:Fr (b13::L) w40 w47:=Fr.ext F47
 refine o_w (v:=.int .i64 x47) (r_asg rfl) ?_
 refine eo_nil_sq ?_
 refine ec_seq ?_
 refine ec_region ?_
 refine o_w (v:=.int .i64 x47) (r_mov rfl) ?_
 refine o_w (v:=.bool (x47 != (0:Int))) (r_int rfl rfl rfl) ?_
 refine eo_nil_sq ?_
 refine ec_cond rfl (fun hc55=>?_) (fun hc55=>?_)
 ·replace h:=h.1 hc55
  refine ec_seq ?_
  refine ec_region ?_
  refine o_w (v:=.int .i64 x47) (r_mov rfl) ?_
  refine o_w (v:=.int .i64 x47) (r_asg rfl) ?_
  refine eo_nil_sq ?_
  refine ec_ret ?_
  refine blk_ret ?_
  refine sq_ret ?_
  refine unr_r ?_
  refine blk_ret ?_
  refine sq_ret ?_
  refine end1 (v:=.int .i64 x47) rfl ⟨_,rfl,?_⟩
  refine o_w (v:=.int .i64 x47) (r_asg rfl) ?_
  refine eo_nil_sq ?_
  refine ec_seq ?_
  refine ec_region ?_
  refine o_w (v:=.int .i64 x47) (r_mov rfl) ?_
  refine o_w (v:=.bool (x47 != (0:Int))) (r_int rfl rfl rfl) ?_
  refine eo_nil_sq ?_
  refine ec_condT rfl hc55 ?_
  refine ec_seq ?_
  refine ec_region ?_
  refine o_w (v:=.agg #[str [],.int .i64 0,.int .i64 0,.int .i64 0,.bool false,str [],.slice none ([]:List Int).length 0,.slice none ([]:List Int).length 0,.int .u64 0]) (r_build bld_api_Entry (vs:=[]) (cells:=[str [],.int .i64 0,.int .i64 0,.int .i64 0,.bool false,str [],.slice none ([]:List Int).length 0,.slice none ([]:List Int).length 0,.int .u64 0]) rfl rfl) ?_
  refine o_w (v:=.int .i64 x47) (r_mov rfl) ?_
  refine o_store rfl ((B36.ex F40).ex F47) (vs:=[str [],.int .i64 0,.int .i64 0,.int .i64 0,.bool false,str [],.slice none ([]:List Int).length 0,.slice none ([]:List Int).length 0,.int .u64 0]) rfl sz_api_Entry rfl rfl rfl ?_
  intro w56 F56 B56
  have E57:=Ext.st E48 F56 (by simp; omega)
  have B56':Blk w56 b13 _ [str [],.int .i64 0,.int .i64 0,.int .i64 0,.bool false,str [],.slice none ([]:List Int).length 0,.slice none ([]:List Int).length 0,.int .u64 0]:=B56
  refine o_w (v:=.int .i64 x47) (r_asg rfl) ?_
  refine eo_nil_sq ?_
  refine ec_ret ?_
  refine sq_ret ?_
  subst h
  exact (endr2 (rv_a rfl (agg_api_Entry) B56' (vs:=[str [],.int .i64 0,.int .i64 0,.int .i64 0,.bool false,str [],.slice none ([]:List Int).length 0,.slice none ([]:List Int).length 0,.int .u64 0]) rfl rfl) (rv_t rfl) ⟨_,rfl,E57,_,rfl,(kEnt_mk (d:=(⟨([]:Str),(⟨(0:Int),(0:Int),(0:Int),false,([]:Str),([]:List Int),([]:List Int),(0:Int)⟩:Val)⟩:Ent)) stb_nil stb_nil)⟩)
 ·replace h:=h.2 hc55
  refine ec_skip ?_
  refine blk_n ?_
  refine sq_n ?_
  refine ec_region ?_
  refine o_w (v:=.int .i64 1) (r_int (v:=.int .i64 (1)) rfl rfl rfl) ?_
  refine o_w (v:=.int .i64 1) (r_mov rfl) ?_
  refine eo_nil ?_
  refine unr_n ?_
  refine ec_seq ?_
  refine ec_region ?_
  refine o_w (v:=.bool true) (r_int (v:=.bool true) rfl rfl rfl) ?_
  refine eo_nil_sq ?_
  refine ec_seq ?_
  refine ec_condT rfl rfl ?_
  refine ec_skip ?_
  refine sq_n ?_
  refine ec_seq ?_
  refine ec_block ?_
  refine ec_seq ?_
  refine ec_region ?_
  refine o_w (v:=.pointer (some ⟨b40,1,none⟩)) (r_iaB (b:=b40) (len:=3) 1 slc_s_delta_need rfl rfl (by decide)) ?_
  refine o_w (v:=.func (.func 40) #[] #[.pointer (some ⟨b9,0,none⟩)]) (r_ld one_delta_need rfl ((S40.fr G53 sI).now.cell rfl)) ?_
  refine o_w (v:=.func (.func 40) #[] #[.pointer (some ⟨b9,0,none⟩)]) (r_asg rfl) ?_
  refine eo_nil_sq ?_
  refine ec_seq ?_
  refine ec_region ?_
  refine o_w (v:=.func (.func 40) #[] #[.pointer (some ⟨b9,0,none⟩)]) (r_mov rfl) ?_
  obtain ⟨x63,hx63,h⟩:=h
  refine o_callc (vs:=[]) (caps:=[.pointer (some ⟨b9,0,none⟩)]) cf_delta_Add_1 rfl rfl (delta_Add_1_c d3 (S9.up ((G35.trans (Fr.ext F40)).trans (Fr.ext F47)) sI (upc (.inr m16) (fun _ h=>.inl h))) ((hL.fr E48).cons ((B36.ex F40).ex F47).lt) hx63) rfl rfl ?_
  rintro _ w63 ⟨F63,rfl⟩
  have E64:=E48.trans F63
  refine o_w (v:=.int .i64 x63) (r_asg rfl) ?_
  refine eo_nil_sq ?_
  refine ec_seq ?_
  refine ec_region ?_
  refine o_w (v:=.int .i64 x63) (r_mov rfl) ?_
  refine o_w (v:=.bool (x63 != (0:Int))) (r_int rfl rfl rfl) ?_
  refine eo_nil_sq ?_
  refine ec_cond rfl (fun hc71=>?_) (fun hc71=>?_)
  ·replace h:=h.1 hc71
   refine ec_seq ?_
   refine ec_region ?_
   refine o_w (v:=.int .i64 x63) (r_mov rfl) ?_
   refine o_w (v:=.int .i64 x63) (r_asg rfl) ?_
   refine eo_nil_sq ?_
   refine ec_ret ?_
   refine blk_ret ?_
   refine sq_ret ?_
   refine unr_r ?_
   refine blk_ret ?_
   refine sq_ret ?_
   refine end1 (v:=.int .i64 x63) rfl ⟨_,rfl,?_⟩
   refine o_w (v:=.int .i64 x63) (r_asg rfl) ?_
   refine eo_nil_sq ?_
   refine ec_seq ?_
   refine ec_region ?_
   refine o_w (v:=.int .i64 x63) (r_mov rfl) ?_
   refine o_w (v:=.bool (x63 != (0:Int))) (r_int rfl rfl rfl) ?_
   refine eo_nil_sq ?_
   refine ec_condT rfl hc71 ?_
   refine ec_seq ?_
   refine ec_region ?_
   refine o_w (v:=.agg #[str [],.int .i64 0,.int .i64 0,.int .i64 0,.bool false,str [],.slice none ([]:List Int).length 0,.slice none ([]:List Int).length 0,.int .u64 0]) (r_build bld_api_Entry (vs:=[]) (cells:=[str [],.int .i64 0,.int .i64 0,.int .i64 0,.bool false,str [],.slice none ([]:List Int).length 0,.slice none ([]:List Int).length 0,.int .u64 0]) rfl rfl) ?_
   refine o_w (v:=.int .i64 x63) (r_mov rfl) ?_
   refine o_store rfl (((B36.ex F40).ex F47).ex F63) (vs:=[str [],.int .i64 0,.int .i64 0,.int .i64 0,.bool false,str [],.slice none ([]:List Int).length 0,.slice none ([]:List Int).length 0,.int .u64 0]) rfl sz_api_Entry rfl rfl rfl ?_
   intro w72 F72 B72
   have E73:=Ext.st E64 F72 (by simp; omega)
   have B72':Blk w72 b13 _ [str [],.int .i64 0,.int .i64 0,.int .i64 0,.bool false,str [],.slice none ([]:List Int).length 0,.slice none ([]:List Int).length 0,.int .u64 0]:=B72
   refine o_w (v:=.int .i64 x63) (r_asg rfl) ?_
   refine eo_nil_sq ?_
   refine ec_ret ?_
   refine sq_ret ?_
   subst h
   exact (endr2 (rv_a rfl (agg_api_Entry) B72' (vs:=[str [],.int .i64 0,.int .i64 0,.int .i64 0,.bool false,str [],.slice none ([]:List Int).length 0,.slice none ([]:List Int).length 0,.int .u64 0]) rfl rfl) (rv_t rfl) ⟨_,rfl,E73,_,rfl,(kEnt_mk (d:=(⟨([]:Str),(⟨(0:Int),(0:Int),(0:Int),false,([]:Str),([]:List Int),([]:List Int),(0:Int)⟩:Val)⟩:Ent)) stb_nil stb_nil)⟩)
  ·replace h:=h.2 hc71
   refine ec_skip ?_
   refine blk_n ?_
   refine sq_n ?_
   refine ec_region ?_
   refine o_w (v:=.int .i64 2) (r_int (v:=.int .i64 (2)) rfl rfl rfl) ?_
   refine o_w (v:=.int .i64 2) (r_mov rfl) ?_
   refine eo_nil ?_
   refine unr_n ?_
   refine ec_seq ?_
   refine ec_region ?_
   refine o_w (v:=.bool true) (r_int (v:=.bool true) rfl rfl rfl) ?_
   refine eo_nil_sq ?_
   refine ec_seq ?_
   refine ec_condT rfl rfl ?_
   refine ec_skip ?_
   refine sq_n ?_
   refine ec_seq ?_
   refine ec_block ?_
   refine ec_seq ?_
   refine ec_region ?_
   refine o_w (v:=.pointer (some ⟨b40,2,none⟩)) (r_iaB (b:=b40) (len:=3) 2 slc_s_delta_need rfl rfl (by decide)) ?_
   refine o_w (v:=.func (.func 31) #[.agg #[.int .i64 d0.cap,.slice A1 d0.slots.length c2,.slice A4 d0.idx.length c5,.int .i64 d1,.int .i64 2,str d2]] #[]) (r_ld one_delta_need rfl ((S40.fr (G53.trans (Fr.ext F63)) sI).now.cell rfl)) ?_
   refine o_w (v:=.func (.func 31) #[.agg #[.int .i64 d0.cap,.slice A1 d0.slots.length c2,.slice A4 d0.idx.length c5,.int .i64 d1,.int .i64 2,str d2]] #[]) (r_asg rfl) ?_
   refine eo_nil_sq ?_
   refine ec_seq ?_
   refine ec_region ?_
   refine o_w (v:=.func (.func 31) #[.agg #[.int .i64 d0.cap,.slice A1 d0.slots.length c2,.slice A4 d0.idx.length c5,.int .i64 d1,.int .i64 2,str d2]] #[]) (r_mov rfl) ?_
   obtain ⟨x79,hx79,h⟩:=h
   refine o_callb (us:=[.agg #[.int .i64 d0.cap,.slice A1 d0.slots.length c2,.slice A4 d0.idx.length c5,.int .i64 d1,.int .i64 2,str d2]]) (vs:=[]) (caps:=[]) cf_delta_update_room rfl rfl (delta_update_room_c (⟨d0,d1,(2:Int),d2⟩:Upd) (kUpd_mk (d:=(⟨d0,d1,(2:Int),d2⟩:Upd)) (H3.up (((G33.trans (Fr.ext F40)).trans (Fr.ext F47)).trans (Fr.ext F63)) sI (upc (.inr m14) (fun _ h=>.inl h))) (H6.up (((G33.trans (Fr.ext F40)).trans (Fr.ext F47)).trans (Fr.ext F63)) sI (upc (.inr m14) (fun _ h=>.inl h)))) ((hL.fr E64).cons (((B36.ex F40).ex F47).ex F63).lt) hx79) rfl rfl ?_
   rintro _ w79 ⟨F79,rfl⟩
   have E80:=E64.trans F79
   have G81:=(((G33.trans (Fr.ext F40)).trans (Fr.ext F47)).trans (Fr.ext F63)).trans (Fr.ext F79)
   have G83:=(((G35.trans (Fr.ext F40)).trans (Fr.ext F47)).trans (Fr.ext F63)).trans (Fr.ext F79)
   refine o_w (v:=.int .i64 x79) (r_asg rfl) ?_
   refine eo_nil_sq ?_
   refine ec_seq ?_
   refine ec_region ?_
   refine o_w (v:=.int .i64 x79) (r_mov rfl) ?_
   refine o_w (v:=.bool (x79 != (0:Int))) (r_int rfl rfl rfl) ?_
   refine eo_nil_sq ?_
   refine ec_cond rfl (fun hc87=>?_) (fun hc87=>?_)
   ·replace h:=h.1 hc87
    refine ec_seq ?_
    refine ec_region ?_
    refine o_w (v:=.int .i64 x79) (r_mov rfl) ?_
    refine o_w (v:=.int .i64 x79) (r_asg rfl) ?_
    refine eo_nil_sq ?_
    refine ec_ret ?_
    refine blk_ret ?_
    refine sq_ret ?_
    refine unr_r ?_
    refine blk_ret ?_
    refine sq_ret ?_
    refine end1 (v:=.int .i64 x79) rfl ⟨_,rfl,?_⟩
    refine o_w (v:=.int .i64 x79) (r_asg rfl) ?_
    refine eo_nil_sq ?_
    refine ec_seq ?_
    refine ec_region ?_
    refine o_w (v:=.int .i64 x79) (r_mov rfl) ?_
    refine o_w (v:=.bool (x79 != (0:Int))) (r_int rfl rfl rfl) ?_
    refine eo_nil_sq ?_
    refine ec_condT rfl hc87 ?_
    refine ec_seq ?_
    refine ec_region ?_
    refine o_w (v:=.agg #[str [],.int .i64 0,.int .i64 0,.int .i64 0,.bool false,str [],.slice none ([]:List Int).length 0,.slice none ([]:List Int).length 0,.int .u64 0]) (r_build bld_api_Entry (vs:=[]) (cells:=[str [],.int .i64 0,.int .i64 0,.int .i64 0,.bool false,str [],.slice none ([]:List Int).length 0,.slice none ([]:List Int).length 0,.int .u64 0]) rfl rfl) ?_
    refine o_w (v:=.int .i64 x79) (r_mov rfl) ?_
    refine o_store rfl ((((B36.ex F40).ex F47).ex F63).ex F79) (vs:=[str [],.int .i64 0,.int .i64 0,.int .i64 0,.bool false,str [],.slice none ([]:List Int).length 0,.slice none ([]:List Int).length 0,.int .u64 0]) rfl sz_api_Entry rfl rfl rfl ?_
    intro w88 F88 B88
    have E89:=Ext.st E80 F88 (by simp; omega)
    have B88':Blk w88 b13 _ [str [],.int .i64 0,.int .i64 0,.int .i64 0,.bool false,str [],.slice none ([]:List Int).length 0,.slice none ([]:List Int).length 0,.int .u64 0]:=B88
    refine o_w (v:=.int .i64 x79) (r_asg rfl) ?_
    refine eo_nil_sq ?_
    refine ec_ret ?_
    refine sq_ret ?_
    subst h
    exact (endr2 (rv_a rfl (agg_api_Entry) B88' (vs:=[str [],.int .i64 0,.int .i64 0,.int .i64 0,.bool false,str [],.slice none ([]:List Int).length 0,.slice none ([]:List Int).length 0,.int .u64 0]) rfl rfl) (rv_t rfl) ⟨_,rfl,E89,_,rfl,(kEnt_mk (d:=(⟨([]:Str),(⟨(0:Int),(0:Int),(0:Int),false,([]:Str),([]:List Int),([]:List Int),(0:Int)⟩:Val)⟩:Ent)) stb_nil stb_nil)⟩)
   ·replace h:=h.2 hc87
    refine ec_skip ?_
    refine blk_n ?_
    refine sq_n ?_
    refine ec_region ?_
    refine o_w (v:=.int .i64 3) (r_int (v:=.int .i64 (3)) rfl rfl rfl) ?_
    refine o_w (v:=.int .i64 3) (r_mov rfl) ?_
    refine eo_nil ?_
    refine unr_n ?_
    refine ec_seq ?_
    refine ec_region ?_
    refine o_w (v:=.bool false) (r_int (v:=.bool false) rfl rfl rfl) ?_
    refine eo_nil_sq ?_
    refine ec_seq ?_
    refine ec_condF rfl rfl ?_
    refine ec_exit ?_
    refine sq_exit ?_
    refine unr_x ?_
    refine blk_hit ?_
    refine sq_n ?_
    refine ec_seq ?_
    refine ec_region ?_
    refine o_w (v:=.int .i64 0) (r_asg rfl) ?_
    refine eo_nil_sq ?_
    refine ec_ret ?_
    refine end1 (v:=.int .i64 0) rfl ⟨_,rfl,?_⟩
    refine o_w (v:=.int .i64 0) (r_asg rfl) ?_
    refine eo_nil_sq ?_
    refine ec_seq ?_
    refine ec_region ?_
    refine o_w (v:=.int .i64 0) (r_mov rfl) ?_
    refine o_w (v:=.bool false) (r_int (v:=.bool false) rfl rfl rfl) ?_
    refine eo_nil_sq ?_
    refine ec_condF rfl rfl ?_
    refine ec_skip ?_
    refine sq_n ?_
    refine ec_seq ?_
    refine ec_region ?_
    refine o_call cf_value_Least rfl value_LeastN_c rfl rfl ?_
    rintro _ w95 ⟨b95a,b95b,n95a,n95b,hn95a,hn95b,rfl,F95,B95a,B95b,l95a,l95b,ne95⟩
    have n95a':w.heap.size≤b95a:=Nat.le_trans E80.size l95a
    have q96:b13<b95a:=Nat.lt_of_lt_of_le ((((B36.ex F40).ex F47).ex F63).ex F79).lt l95a
    have m97:w.heap.size≤b95a:=Nat.le_trans G81.size l95a
    have m100:w31.heap.size≤b95a:=Nat.le_trans (((G45.trans (Fr.ext F47)).trans (Fr.ext F63)).trans (Fr.ext F79)).size l95a
    have NLb95a:b95a∉L:=fun hm=>by have h1:=hL0 _ hm; omega
    have n95b':w.heap.size≤b95b:=Nat.le_trans E80.size l95b
    have q102:b13<b95b:=Nat.lt_of_lt_of_le ((((B36.ex F40).ex F47).ex F63).ex F79).lt l95b
    have m103:w.heap.size≤b95b:=Nat.le_trans G81.size l95b
    have m106:w31.heap.size≤b95b:=Nat.le_trans (((G45.trans (Fr.ext F47)).trans (Fr.ext F63)).trans (Fr.ext F79)).size l95b
    have NLb95b:b95b∉L:=fun hm=>by have h1:=hL0 _ hm; omega
    have E108:=E80.trans F95
    have G112:=(((G45.trans (Fr.ext F47)).trans (Fr.ext F63)).trans (Fr.ext F79)).trans (Fr.ext F95)
    refine o_w (v:=.tuple #[.agg #[.int .i64 2,.int .i64 0,.int .i64 0,.bool false,str [],.slice (some ⟨b95a,0,none⟩) n95a n95a,.slice (some ⟨b95b,0,none⟩) n95b n95b,.int .u64 0],.int .i64 0]) (r_mov rfl) ?_
    refine o_w (v:=.agg #[.int .i64 2,.int .i64 0,.int .i64 0,.bool false,str [],.slice (some ⟨b95a,0,none⟩) n95a n95a,.slice (some ⟨b95b,0,none⟩) n95b n95b,.int .u64 0]) (r_ext rfl rfl) ?_
    refine o_w (v:=.int .i64 0) (r_ext rfl rfl) ?_
    refine o_alloc zero_api_Value rfl rfl rfl ?_
    intro b115 w115 e115 F115 B115
    have n115:w.heap.size≤b115:=by rw [e115]; exact E108.size
    have q116:b13<b115:=by rw [e115]; exact (((((B36.ex F40).ex F47).ex F63).ex F79).ex F95).lt
    have q117:b95b<b115:=by rw [e115]; exact B95b.lt
    have q118:b95a<b115:=by rw [e115]; exact B95a.lt
    have m119:w.heap.size≤b115:=by rw [e115]; exact (G81.trans (Fr.ext F95)).size
    have m121:w9.heap.size≤b115:=by rw [e115]; exact (G83.trans (Fr.ext F95)).size
    have m122:w31.heap.size≤b115:=by rw [e115]; exact G112.size
    have NLb115:b115∉L:=fun hm=>by have h1:=hL0 _ hm; omega
    have E124:=E108.trans F115
    refine o_store rfl B115 (vs:=[.int .i64 2,.int .i64 0,.int .i64 0,.bool false,str [],.slice (some ⟨b95a,0,none⟩) n95a n95a,.slice (some ⟨b95b,0,none⟩) n95b n95b,.int .u64 0]) rfl sz_api_Value rfl rfl rfl ?_
    intro w133 F133 B133
    have E134:=Ext.st E124 F133 (by simp; omega)
    have G135:Fr L w w133:=((G81.trans (Fr.ext F95)).trans (Fr.ext F115)).stp F133 (upc (.inr m119) (fun m hm=>by cases hm))
    have G137:Fr L w9 w133:=((G83.trans (Fr.ext F95)).trans (Fr.ext F115)).stp F133 (upc (.inr m121) (fun m hm=>by cases hm))
    have G138:Fr (b13::L) w31 w133:=(G112.trans (Fr.ext F115)).stp F133 (upc (.inr m122) (fun m hm=>by cases hm))
    have B140:=((((((B36.ex F40).ex F47).ex F63).ex F79).ex F95).ex F115).fr F133 (by simp; omega)
    have B141:=(B95b.ex F115).fr F133 (by simp; omega)
    have B142:=(B95a.ex F115).fr F133 (by simp; omega)
    have B133':Blk w133 b115 _ [.int .i64 2,.int .i64 0,.int .i64 0,.bool false,str [],.slice (some ⟨b95a,0,none⟩) n95a n95a,.slice (some ⟨b95b,0,none⟩) n95b n95b,.int .u64 0]:=B133
    have N144:b115∉(b95a::(b95b::(b13::L))):=(notin_cons (by omega) (notin_cons (by omega) (notin_cons (by omega) NLb115)))
    have S143:=Blk.stb B133' N144
    refine o_w (v:=.int .i64 0) (r_asg rfl) ?_
    refine eo_nil_sq ?_
    refine ec_seq ?_
    refine ec_region ?_
    refine o_w (v:=.agg #[.int .i64 d0.cap,.slice A1 d0.slots.length c2,.slice A4 d0.idx.length c5,.int .i64 d1,.int .i64 2,str d2]) (r_lda agg_delta_update rfl (vs:=[.int .i64 d0.cap,.slice A1 d0.slots.length c2,.slice A4 d0.idx.length c5,.int .i64 d1,.int .i64 2,str d2]) rfl ((S37.fr G138 sI).now.part (n:=6) rfl)) ?_
    obtain ⟨x146,hx146,h⟩:=h
    refine o_call cf_delta_update_old rfl (delta_update_old_c (⟨d0,d1,(2:Int),d2⟩:Upd) (kUpd_mk (d:=(⟨d0,d1,(2:Int),d2⟩:Upd)) (H3.up G135 sI (upc (.inr m97) (upc (.inr m103) (upc (.inr m14) (fun _ h=>.inl h))))) (H6.up G135 sI (upc (.inr m97) (upc (.inr m103) (upc (.inr m14) (fun _ h=>.inl h)))))) ((((hL.fr E134).cons B140.lt).cons B141.lt).cons B142.lt) hx146) rfl rfl ?_
    rintro _ w146 ⟨F146,cs147,rfl,H148⟩
    have E149:=E134.trans F146
    have G155:Fr (b95a::(b95b::(b13::L))) w133 w146:=Fr.ext F146
    obtain ⟨A159,c160,A162,c163,rfl,H161,H164⟩:=kVal_open H148
    refine o_w (v:=.tuple #[.agg (cVal x146.1 A159 c160 A162 c163).toArray,.bool x146.2]) (r_mov rfl) ?_
    refine o_w (v:=.agg (cVal x146.1 A159 c160 A162 c163).toArray) (r_ext rfl rfl) ?_
    refine o_w (v:=.bool x146.2) (r_ext rfl rfl) ?_
    refine o_alloc zero_api_Value rfl rfl rfl ?_
    intro b165 w165 e165 F165 B165
    have n165:w.heap.size≤b165:=by rw [e165]; exact E149.size
    have q166:b13<b165:=by rw [e165]; exact (B140.ex F146).lt
    have q167:b95b<b165:=by rw [e165]; exact (B141.ex F146).lt
    have q168:b95a<b165:=by rw [e165]; exact (B142.ex F146).lt
    have m169:w.heap.size≤b165:=by rw [e165]; exact (G135.trans (Fr.ext F146)).size
    have m171:w9.heap.size≤b165:=by rw [e165]; exact (G137.trans (Fr.ext F146)).size
    have m172:w31.heap.size≤b165:=by rw [e165]; exact (G138.trans (Fr.ext F146)).size
    have m174:w133.heap.size≤b165:=by rw [e165]; exact G155.size
    have m175:w146.heap.size≤b165:=Nat.le_of_eq e165.symm
    have NLb165:b165∉L:=fun hm=>by have h1:=hL0 _ hm; omega
    have E176:=E149.trans F165
    have G183:Fr (b95a::(b95b::(b13::L))) w146 w165:=Fr.ext F165
    refine o_store rfl B165 (vs:=(cVal x146.1 A159 c160 A162 c163)) rfl sz_api_Value rfl rfl rfl ?_
    intro w187 F187 B187
    have E188:=Ext.st E176 F187 (by simp; omega)
    have G189:Fr L w w187:=((G135.trans (Fr.ext F146)).trans (Fr.ext F165)).stp F187 (upc (.inr m169) (fun m hm=>by cases hm))
    have G191:Fr L w9 w187:=((G137.trans (Fr.ext F146)).trans (Fr.ext F165)).stp F187 (upc (.inr m171) (fun m hm=>by cases hm))
    have G192:Fr (b13::L) w31 w187:=((G138.trans (Fr.ext F146)).trans (Fr.ext F165)).stp F187 (upc (.inr m172) (fun m hm=>by cases hm))
    have G194:Fr (b95a::(b95b::(b13::L))) w133 w187:=(G155.trans (Fr.ext F165)).stp F187 (upc (.inr m174) (fun m hm=>by cases hm))
    have G195:Fr (b95a::(b95b::(b13::L))) w146 w187:=G183.stp F187 (upc (.inr m175) (fun m hm=>by cases hm))
    have B196:=((B140.ex F146).ex F165).fr F187 (by simp; omega)
    have B197:=((B141.ex F146).ex F165).fr F187 (by simp; omega)
    have B198:=((B142.ex F146).ex F165).fr F187 (by simp; omega)
    have B187':Blk w187 b165 _ (cVal x146.1 A159 c160 A162 c163):=B187
    have N200:b165∉(b95a::(b95b::(b13::L))):=(notin_cons (by omega) (notin_cons (by omega) (notin_cons (by omega) NLb165)))
    have S199:=Blk.stb B187' N200
    refine o_w (v:=.bool x146.2) (r_asg rfl) ?_
    refine eo_nil_sq ?_
    refine ec_seq ?_
    refine ec_any0 (by kernel_rfl) [[],[0],[],[2],[],[0,1],[0,1,2,3,5],[0,1,2,3,4,5,6]] [17,18,19,45,46,47,48,49] [fun v _=>v=(.pointer (some ⟨b115,5,none⟩):Value),fun v _=>v=(.slice (some ⟨b95a,0,none⟩) n95a n95a:Value),fun v _=>v=(.pointer (some ⟨b165,5,none⟩):Value),fun v _=>v=(.slice A159 x146.1.plus.length c160:Value),fun v _=>v=(.int .i64 d3:Value),fun v _=>v=(.slice (some ⟨b95a,0,none⟩) n95a n95a:Value),fun v _=>v=(.slice A159 x146.1.plus.length c160:Value),fun v _=>v=(.int .i64 d3:Value)] (by kernel_rfl) ⟨fun _ _ _ _ _ h=>h,fun _ _ _ _ _ h=>h,fun _ _ _ _ _ h=>h,fun _ _ _ _ _ h=>h,fun _ _ _ _ _ h=>h,fun _ _ _ _ _ h=>h,fun _ _ _ _ _ h=>h,fun _ _ _ _ _ h=>h,trivial⟩ ?_ ?_
    ·refine ⟨?_,?_,?_,?_,?_,?_,?_,?_,trivial⟩
     ·intro ρ w202o F202o hS hρ
      have q13:ρ 13=.pointer (some ⟨b115,0,none⟩):=hρ 13 (by kernel_rfl)
      exact o_q (r_fa fld_api_Value_5 rfl q13) ⟨Fr.refl _ _,rfl⟩
     ·intro ρ w202o F202o hS hρ
      have q45:ρ 45=.pointer (some ⟨b115,5,none⟩):=hS 0 (by decide) 45 rfl
      exact o_q (r_ld one_s_int q45 ((S143.fr (G194.trans (Fr.ext F202o)) sI).now.cell rfl)) ⟨Fr.refl _ _,rfl⟩
     ·intro ρ w202o F202o hS hρ
      have q15:ρ 15=.pointer (some ⟨b165,0,none⟩):=hρ 15 (by kernel_rfl)
      exact o_q (r_fa fld_api_Value_5 rfl q15) ⟨Fr.refl _ _,rfl⟩
     ·intro ρ w202o F202o hS hρ
      have G223:Fr (b95a::(b95b::(b13::L))) w187 w202o:=Fr.ext F202o
      have q47:ρ 47=.pointer (some ⟨b165,5,none⟩):=hS 2 (by decide) 47 rfl
      exact o_q (r_ld one_s_int q47 ((S199.fr G223 sI).now.cell rfl)) ⟨Fr.refl _ _,rfl⟩
     ·intro ρ w202o F202o hS hρ
      have q7:ρ 7=.pointer (some ⟨b9,0,none⟩):=hρ 7 (by kernel_rfl)
      exact o_q (r_ld one_int q7 ((S9.fr (G191.trans (Fr.ext F202o)) sI).now.cell rfl)) ⟨Fr.refl _ _,rfl⟩
     ·intro ρ w202o F202o hS hρ
      have q46:ρ 46=.slice (some ⟨b95a,0,none⟩) n95a n95a:=hS 1 (by decide) 46 rfl
      exact o_q (r_asg q46) ⟨Fr.refl _ _,rfl⟩
     ·intro ρ w202o F202o hS hρ
      have q48:ρ 48=.slice A159 x146.1.plus.length c160:=hS 3 (by decide) 48 rfl
      exact o_q (r_asg q48) ⟨Fr.refl _ _,rfl⟩
     ·intro ρ w202o F202o hS hρ
      have q49:ρ 49=.int .i64 d3:=hS 4 (by decide) 49 rfl
      exact o_q (r_asg q49) ⟨Fr.refl _ _,rfl⟩
    ·intro ρ w202 F202 hS hρ
     have q17:ρ 17=.slice (some ⟨b95a,0,none⟩) n95a n95a:=hS 5 17 rfl
     have q18:ρ 18=.slice A159 x146.1.plus.length c160:=hS 6 18 rfl
     have q19:ρ 19=.int .i64 d3:=hS 7 19 rfl
     obtain ⟨ρ',rfl⟩:∃ ρ',ρ=envs (ovr [17,18,19,45,46,47,48,49] ρ' _) [(17,.slice (some ⟨b95a,0,none⟩) n95a n95a),(18,.slice A159 x146.1.plus.length c160),(19,.int .i64 d3)]:=⟨ρ,ovr_self hρ ⟨q17,q18,q19,trivial⟩⟩
     have E239:=E188.trans F202
     have G247:Fr (b95a::(b95b::(b13::L))) w187 w202:=Fr.ext F202
     refine sq_n ?_
     iterate 2 refine ec_seq ?_
     refine ec_region ?_
     refine o_w (v:=.int .i64 d3) (r_ld one_int rfl ((S9.fr (G191.trans (Fr.ext F202)) sI).now.cell rfl)) ?_
     refine o_w (v:=.bool (decide (d3<0))) (r_int rfl rfl rfl) ?_
     refine eo_nil_sq ?_
     refine ec_cond rfl (fun hc251=>?_) (fun hc251=>?_)
     ·replace h:=h.1 hc251
      refine ec_any0 (by kernel_rfl) [[],[0],[],[2],[],[4],[0,1],[0,1,2,3,6],[0,1,2,3,4,5,6,7]] [17,18,19,52,53,54,55,56,57] [fun v _=>v=(.pointer (some ⟨b115,6,none⟩):Value),fun v _=>v=(.slice (some ⟨b95b,0,none⟩) n95b n95b:Value),fun v _=>v=(.pointer (some ⟨b165,6,none⟩):Value),fun v _=>v=(.slice A162 x146.1.minus.length c163:Value),fun v _=>v=(.int .i64 d3:Value),fun v _=>v=(.int .i64 (IntKind.i64.wrap (0 - d3)):Value),fun v _=>v=(.slice (some ⟨b95b,0,none⟩) n95b n95b:Value),fun v _=>v=(.slice A162 x146.1.minus.length c163:Value),fun v _=>v=(.int .i64 (IntKind.i64.wrap (0 - d3)):Value)] (by kernel_rfl) ⟨fun _ _ _ _ _ h=>h,fun _ _ _ _ _ h=>h,fun _ _ _ _ _ h=>h,fun _ _ _ _ _ h=>h,fun _ _ _ _ _ h=>h,fun _ _ _ _ _ h=>h,fun _ _ _ _ _ h=>h,fun _ _ _ _ _ h=>h,fun _ _ _ _ _ h=>h,trivial⟩ ?_ ?_
      ·refine ⟨?_,?_,?_,?_,?_,?_,?_,?_,?_,trivial⟩
       ·intro ρ w252o F252o hS hρ
        have q13:ρ 13=.pointer (some ⟨b115,0,none⟩):=hρ 13 (by kernel_rfl)
        exact o_q (r_fa fld_api_Value_6 rfl q13) ⟨Fr.refl _ _,rfl⟩
       ·intro ρ w252o F252o hS hρ
        have q52:ρ 52=.pointer (some ⟨b115,6,none⟩):=hS 0 (by decide) 52 rfl
        exact o_q (r_ld one_s_int q52 ((S143.fr ((G194.trans (Fr.ext F202)).trans (Fr.ext F252o)) sI).now.cell rfl)) ⟨Fr.refl _ _,rfl⟩
       ·intro ρ w252o F252o hS hρ
        have q15:ρ 15=.pointer (some ⟨b165,0,none⟩):=hρ 15 (by kernel_rfl)
        exact o_q (r_fa fld_api_Value_6 rfl q15) ⟨Fr.refl _ _,rfl⟩
       ·intro ρ w252o F252o hS hρ
        have q54:ρ 54=.pointer (some ⟨b165,6,none⟩):=hS 2 (by decide) 54 rfl
        exact o_q (r_ld one_s_int q54 ((S199.fr (G247.trans (Fr.ext F252o)) sI).now.cell rfl)) ⟨Fr.refl _ _,rfl⟩
       ·intro ρ w252o F252o hS hρ
        have q7:ρ 7=.pointer (some ⟨b9,0,none⟩):=hρ 7 (by kernel_rfl)
        exact o_q (r_ld one_int q7 ((S9.fr ((G191.trans (Fr.ext F202)).trans (Fr.ext F252o)) sI).now.cell rfl)) ⟨Fr.refl _ _,rfl⟩
       ·intro ρ w252o F252o hS hρ
        have q56:ρ 56=.int .i64 d3:=hS 4 (by decide) 56 rfl
        exact o_q (r_neg q56) ⟨Fr.refl _ _,rfl⟩
       ·intro ρ w252o F252o hS hρ
        have q53:ρ 53=.slice (some ⟨b95b,0,none⟩) n95b n95b:=hS 1 (by decide) 53 rfl
        exact o_q (r_asg q53) ⟨Fr.refl _ _,rfl⟩
       ·intro ρ w252o F252o hS hρ
        have q55:ρ 55=.slice A162 x146.1.minus.length c163:=hS 3 (by decide) 55 rfl
        exact o_q (r_asg q55) ⟨Fr.refl _ _,rfl⟩
       ·intro ρ w252o F252o hS hρ
        have q57:ρ 57=.int .i64 (IntKind.i64.wrap (0 - d3)):=hS 5 (by decide) 57 rfl
        exact o_q (r_asg q57) ⟨Fr.refl _ _,rfl⟩
      ·intro ρ w252 F252 hS hρ
       have q17:ρ 17=.slice (some ⟨b95b,0,none⟩) n95b n95b:=hS 6 17 rfl
       have q18:ρ 18=.slice A162 x146.1.minus.length c163:=hS 7 18 rfl
       have q19:ρ 19=.int .i64 (IntKind.i64.wrap (0 - d3)):=hS 8 19 rfl
       obtain ⟨ρ',rfl⟩:∃ ρ',ρ=envs (ovr [17,18,19,52,53,54,55,56,57] ρ' _) [(17,.slice (some ⟨b95b,0,none⟩) n95b n95b),(18,.slice A162 x146.1.minus.length c163),(19,.int .i64 (IntKind.i64.wrap (0 - d3)))]:=⟨ρ,ovr_self hρ ⟨q17,q18,q19,trivial⟩⟩
       have E289:=E239.trans F252
       refine sq_n ?_
       refine ec_seq ?_
       refine ec_region ?_
       refine o_w (v:=.slice (some ⟨b95b,0,none⟩) n95b n95b) (r_mov rfl) ?_
       refine o_w (v:=.int .i64 d1) (r_mov rfl) ?_
       refine o_w (v:=.slice A162 x146.1.minus.length c163) (r_mov rfl) ?_
       refine o_w (v:=.int .i64 d1) (r_mov rfl) ?_
       obtain ⟨ha301,h⟩:=h
       obtain ⟨cs302,l304,H303⟩:=Stb.elem (by decide) (H164.fr ((G195.trans (Fr.ext F202)).trans (Fr.ext F252)) sI) d1 ha301.1 ha301.2
       obtain ⟨rfl,H303'⟩:=kI_open2 H303
       refine o_w (v:=.pointer (some (elemA A162 (kI .i64).n d1.toNat))) (r_ia slc_s_int rfl rfl ((H164.fr ((G195.trans (Fr.ext F202)).trans (Fr.ext F252)) sI).now.2 _ (lt_toNat ha301.1 ha301.2)).1 ha301.1 ha301.2) ?_
       refine o_w (v:=.int .i64 (nth x146.1.minus d1)) (r_ld' one_int rfl (elemA_spot _ _ _) (H303'.now.1.at0 (elemA_spot _ _ _))) ?_
       refine o_w (v:=.int .i64 (IntKind.i64.wrap (0 - d3))) (r_mov rfl) ?_
       refine o_w (v:=.int .i64 (IntKind.i64.wrap ((nth x146.1.minus d1) + (IntKind.i64.wrap (0 - d3))))) (r_int rfl rfl rfl) ?_
       obtain ⟨ha305,h⟩:=h
       have hb306:0≤d1∧d1<((n95b:Nat):Int):=by rw [hn95b]; exact ha305
       refine o_w (v:=.pointer (some ⟨b95b,d1.toNat,none⟩)) (r_iaM slc_s_int rfl rfl hb306) ?_
       refine o_storeV (f:=(Value.int .i64)) (m:=n95b) (e:=Z8) (v:=(IntKind.i64.wrap ((nth x146.1.minus d1) + (IntKind.i64.wrap (0 - d3))))) rfl ((B197.ex F202).ex F252) hb306 (by rw [hn95b]; simp) rfl int_one sz_int rfl ?_
       intro w307 F307 B307
       have E308:=Ext.st E289 F307 (by simp; omega)
       have G309:Fr L w w307:=((G189.trans (Fr.ext F202)).trans (Fr.ext F252)).stp F307 (upc (.inr m103) (fun m hm=>by cases hm))
       have G312:Fr (b13::L) w31 w307:=((G192.trans (Fr.ext F202)).trans (Fr.ext F252)).stp F307 (upc (.inr m106) (fun m hm=>by cases hm))
       have G314:Fr (b95a::(b95b::(b13::L))) w133 w307:=((G194.trans (Fr.ext F202)).trans (Fr.ext F252)).stp F307 (upc (.inl (mT mH)) (fun m hm=>by cases hm))
       have B318:=((B196.ex F202).ex F252).fr F307 (by simp; omega)
       have B319:=((B198.ex F202).ex F252).fr F307 (by simp; omega)
       refine eo_nil_sq ?_
       iterate 2 refine ec_seq ?_
       refine ec_region ?_
       refine o_w (v:=.slice (some ⟨b95b,0,none⟩) n95b n95b) (r_mov rfl) ?_
       refine o_w (v:=.int .i64 d1) (r_mov rfl) ?_
       obtain ⟨ha320,h⟩:=h
       have hb321:0≤d1∧d1<((n95b:Nat):Int):=by rw [hn95b]; exact ha320
       refine o_w (v:=.pointer (some ⟨b95b,d1.toNat,none⟩)) (r_iaM slc_s_int rfl rfl hb321) ?_
       refine o_w (v:=.int .i64 (nth (Z8.set d1.toNat (IntKind.i64.wrap ((nth x146.1.minus d1) + (IntKind.i64.wrap (0 - d3))))) d1)) (r_ld one_int rfl (Blk.cellV (f:=(Value.int .i64)) (m:=n95b) (e:=(Z8.set d1.toNat (IntKind.i64.wrap ((nth x146.1.minus d1) + (IntKind.i64.wrap (0 - d3)))))) B307 hb321)) ?_
       refine o_w (v:=.bool (decide (65535<(nth (Z8.set d1.toNat (IntKind.i64.wrap ((nth x146.1.minus d1) + (IntKind.i64.wrap (0 - d3))))) d1)))) (r_int rfl rfl rfl) ?_
       refine eo_nil_sq ?_
       refine ec_cond rfl (fun hc322=>?_) (fun hc322=>?_)
       ·replace h:=h.1 hc322
        refine ec_seq ?_
        refine ec_region ?_
        refine o_w (v:=.agg #[str [],.int .i64 0,.int .i64 0,.int .i64 0,.bool false,str [],.slice none ([]:List Int).length 0,.slice none ([]:List Int).length 0,.int .u64 0]) (r_build bld_api_Entry (vs:=[]) (cells:=[str [],.int .i64 0,.int .i64 0,.int .i64 0,.bool false,str [],.slice none ([]:List Int).length 0,.slice none ([]:List Int).length 0,.int .u64 0]) rfl rfl) ?_
        refine o_store rfl B318 (vs:=[str [],.int .i64 0,.int .i64 0,.int .i64 0,.bool false,str [],.slice none ([]:List Int).length 0,.slice none ([]:List Int).length 0,.int .u64 0]) rfl sz_api_Entry rfl rfl rfl ?_
        intro w323 F323 B323
        have E324:=Ext.st E308 F323 (by simp; omega)
        have B323':Blk w323 b13 _ [str [],.int .i64 0,.int .i64 0,.int .i64 0,.bool false,str [],.slice none ([]:List Int).length 0,.slice none ([]:List Int).length 0,.int .u64 0]:=B323
        refine o_w (v:=.int .i64 5) (r_asg rfl) ?_
        refine eo_nil_sq ?_
        refine ec_ret ?_
        refine sq_ret ?_
        subst h
        exact (endr2 (rv_a rfl (agg_api_Entry) B323' (vs:=[str [],.int .i64 0,.int .i64 0,.int .i64 0,.bool false,str [],.slice none ([]:List Int).length 0,.slice none ([]:List Int).length 0,.int .u64 0]) rfl rfl) (rv_t rfl) ⟨_,rfl,E324,_,rfl,(kEnt_mk (d:=(⟨([]:Str),(⟨(0:Int),(0:Int),(0:Int),false,([]:Str),([]:List Int),([]:List Int),(0:Int)⟩:Val)⟩:Ent)) stb_nil stb_nil)⟩)
       ·replace h:=h.2 hc322
        refine ec_skip ?_
        refine sq_n ?_
        refine ec_seq ?_
        refine ec_region ?_
        refine o_w (v:=.agg #[.int .i64 d0.cap,.slice A1 d0.slots.length c2,.slice A4 d0.idx.length c5,.int .i64 d1,.int .i64 2,str d2]) (r_lda agg_delta_update rfl (vs:=[.int .i64 d0.cap,.slice A1 d0.slots.length c2,.slice A4 d0.idx.length c5,.int .i64 d1,.int .i64 2,str d2]) rfl ((S37.fr G312 sI).now.part (n:=6) rfl)) ?_
        refine o_w (v:=.agg #[.int .i64 2,.int .i64 0,.int .i64 0,.bool false,str [],.slice (some ⟨b95a,0,none⟩) n95a n95a,.slice (some ⟨b95b,0,none⟩) n95b n95b,.int .u64 0]) (r_lda agg_api_Value rfl (vs:=[.int .i64 2,.int .i64 0,.int .i64 0,.bool false,str [],.slice (some ⟨b95a,0,none⟩) n95a n95a,.slice (some ⟨b95b,0,none⟩) n95b n95b,.int .u64 0]) rfl ((S143.fr G314 sI).now.part (n:=8) rfl)) ?_
        have N337:b95a∉(b95b::(b13::L)):=(notin_cons (by omega) (notin_cons (by omega) NLb95a))
        have hl338:Z8.length=n95a:=by rw [hn95a]; simp
        have H339:=seal_arC B319 N337 hl338
        subst hl338
        have Zanc340:=Fr.refl (b95b::(b13::L)) w307
        have N341:b95b∉(b13::L):=(notin_cons (by omega) NLb95b)
        have hl342:(Z8.set d1.toNat (IntKind.i64.wrap ((nth x146.1.minus d1) + (IntKind.i64.wrap (0 - d3))))).length=n95b:=by rw [hn95b]; simp
        have H343:=seal_arC B307 N341 hl342
        subst hl342
        have Zanc344:=Fr.refl (b13::L) w307
        obtain ⟨x336,hx336,h⟩:=h
        refine o_call cf_delta_update_entry rfl (delta_update_entry_c (⟨d0,d1,(2:Int),d2⟩:Upd) (kUpd_mk (d:=(⟨d0,d1,(2:Int),d2⟩:Upd)) (H3.up G309 sI (upc (.inr m14) (fun _ h=>.inl h))) (H6.up G309 sI (upc (.inr m14) (fun _ h=>.inl h)))) (⟨(2:Int),(0:Int),(0:Int),false,([]:Str),Z8,(Z8.set d1.toNat (IntKind.i64.wrap ((nth x146.1.minus d1) + (IntKind.i64.wrap (0 - d3))))),(0:Int)⟩:Val) (kVal_mk (d:=(⟨(2:Int),(0:Int),(0:Int),false,([]:Str),Z8,(Z8.set d1.toNat (IntKind.i64.wrap ((nth x146.1.minus d1) + (IntKind.i64.wrap (0 - d3))))),(0:Int)⟩:Val)) (H339.up Zanc340 sI (upc (.inl (mT mH)) (fun m hm=>Or.inl (mT (mT hm))))) (H343.fr Zanc344 sI)) ((hL.fr E308).cons B318.lt) hx336) rfl rfl ?_
        rintro _ w336 ⟨F336,cs345,rfl,H346⟩
        have E347:=E308.trans F336
        obtain ⟨A360,c361,A363,c364,rfl,H362,H365⟩:=kEnt_open H346
        refine o_store rfl (B318.ex F336) (vs:=(cEnt x336 A360 c361 A363 c364)) rfl sz_api_Entry rfl rfl rfl ?_
        intro w366 F366 B366
        have E367:=Ext.st E347 F366 (by simp; omega)
        have G379:Fr (b13::L) w336 w366:=(Fr.refl _ _).stp F366 (upc (.inl mH) (fun m hm=>by cases hm))
        have B366':Blk w366 b13 _ (cEnt x336 A360 c361 A363 c364):=B366
        refine o_w (v:=.int .i64 0) (r_asg rfl) ?_
        refine eo_nil_sq ?_
        refine ec_ret ?_
        subst h
        exact (endr2 (rv_a rfl (agg_api_Entry) B366' (vs:=(cEnt x336 A360 c361 A363 c364)) rfl rfl) (rv_t rfl) ⟨_,rfl,E367,_,rfl,(kEnt_mk (d:=x336) (H362.up G379 sI (fun m hm=>Or.inl (mT hm))) (H365.up G379 sI (fun m hm=>Or.inl (mT hm))))⟩)
     ·replace h:=h.2 hc251
      refine ec_skip ?_
      refine sq_n ?_
      refine ec_seq ?_
      refine ec_region ?_
      refine o_w (v:=.slice (some ⟨b95a,0,none⟩) n95a n95a) (r_mov rfl) ?_
      refine o_w (v:=.int .i64 d1) (r_mov rfl) ?_
      refine o_w (v:=.slice A159 x146.1.plus.length c160) (r_mov rfl) ?_
      refine o_w (v:=.int .i64 d1) (r_mov rfl) ?_
      obtain ⟨ha380,h⟩:=h
      obtain ⟨cs381,l383,H382⟩:=Stb.elem (by decide) (H161.fr (G195.trans (Fr.ext F202)) sI) d1 ha380.1 ha380.2
      obtain ⟨rfl,H382'⟩:=kI_open2 H382
      refine o_w (v:=.pointer (some (elemA A159 (kI .i64).n d1.toNat))) (r_ia slc_s_int rfl rfl ((H161.fr (G195.trans (Fr.ext F202)) sI).now.2 _ (lt_toNat ha380.1 ha380.2)).1 ha380.1 ha380.2) ?_
      refine o_w (v:=.int .i64 (nth x146.1.plus d1)) (r_ld' one_int rfl (elemA_spot _ _ _) (H382'.now.1.at0 (elemA_spot _ _ _))) ?_
      refine o_w (v:=.int .i64 d3) (r_mov rfl) ?_
      refine o_w (v:=.int .i64 (IntKind.i64.wrap ((nth x146.1.plus d1) + d3))) (r_int rfl rfl rfl) ?_
      obtain ⟨ha384,h⟩:=h
      have hb385:0≤d1∧d1<((n95a:Nat):Int):=by rw [hn95a]; exact ha384
      refine o_w (v:=.pointer (some ⟨b95a,d1.toNat,none⟩)) (r_iaM slc_s_int rfl rfl hb385) ?_
      refine o_storeV (f:=(Value.int .i64)) (m:=n95a) (e:=Z8) (v:=(IntKind.i64.wrap ((nth x146.1.plus d1) + d3))) rfl (B198.ex F202) hb385 (by rw [hn95a]; simp) rfl int_one sz_int rfl ?_
      intro w386 F386 B386
      have E387:=Ext.st E239 F386 (by simp; omega)
      have G388:Fr L w w386:=(G189.trans (Fr.ext F202)).stp F386 (upc (.inr m97) (fun m hm=>by cases hm))
      have G391:Fr (b13::L) w31 w386:=(G192.trans (Fr.ext F202)).stp F386 (upc (.inr m100) (fun m hm=>by cases hm))
      have G393:Fr (b95a::(b95b::(b13::L))) w133 w386:=(G194.trans (Fr.ext F202)).stp F386 (upc (.inl mH) (fun m hm=>by cases hm))
      have B397:=(B196.ex F202).fr F386 (by simp; omega)
      have B398:=(B197.ex F202).fr F386 (by simp; omega)
      refine eo_nil_sq ?_
      iterate 2 refine ec_seq ?_
      refine ec_region ?_
      refine o_w (v:=.slice (some ⟨b95a,0,none⟩) n95a n95a) (r_mov rfl) ?_
      refine o_w (v:=.int .i64 d1) (r_mov rfl) ?_
      obtain ⟨ha399,h⟩:=h
      have hb400:0≤d1∧d1<((n95a:Nat):Int):=by rw [hn95a]; exact ha399
      refine o_w (v:=.pointer (some ⟨b95a,d1.toNat,none⟩)) (r_iaM slc_s_int rfl rfl hb400) ?_
      refine o_w (v:=.int .i64 (nth (Z8.set d1.toNat (IntKind.i64.wrap ((nth x146.1.plus d1) + d3))) d1)) (r_ld one_int rfl (Blk.cellV (f:=(Value.int .i64)) (m:=n95a) (e:=(Z8.set d1.toNat (IntKind.i64.wrap ((nth x146.1.plus d1) + d3)))) B386 hb400)) ?_
      refine o_w (v:=.bool (decide (65535<(nth (Z8.set d1.toNat (IntKind.i64.wrap ((nth x146.1.plus d1) + d3))) d1)))) (r_int rfl rfl rfl) ?_
      refine eo_nil_sq ?_
      refine ec_cond rfl (fun hc401=>?_) (fun hc401=>?_)
      ·replace h:=h.1 hc401
       refine ec_seq ?_
       refine ec_region ?_
       refine o_w (v:=.agg #[str [],.int .i64 0,.int .i64 0,.int .i64 0,.bool false,str [],.slice none ([]:List Int).length 0,.slice none ([]:List Int).length 0,.int .u64 0]) (r_build bld_api_Entry (vs:=[]) (cells:=[str [],.int .i64 0,.int .i64 0,.int .i64 0,.bool false,str [],.slice none ([]:List Int).length 0,.slice none ([]:List Int).length 0,.int .u64 0]) rfl rfl) ?_
       refine o_store rfl B397 (vs:=[str [],.int .i64 0,.int .i64 0,.int .i64 0,.bool false,str [],.slice none ([]:List Int).length 0,.slice none ([]:List Int).length 0,.int .u64 0]) rfl sz_api_Entry rfl rfl rfl ?_
       intro w402 F402 B402
       have E403:=Ext.st E387 F402 (by simp; omega)
       have B402':Blk w402 b13 _ [str [],.int .i64 0,.int .i64 0,.int .i64 0,.bool false,str [],.slice none ([]:List Int).length 0,.slice none ([]:List Int).length 0,.int .u64 0]:=B402
       refine o_w (v:=.int .i64 5) (r_asg rfl) ?_
       refine eo_nil_sq ?_
       refine ec_ret ?_
       refine sq_ret ?_
       subst h
       exact (endr2 (rv_a rfl (agg_api_Entry) B402' (vs:=[str [],.int .i64 0,.int .i64 0,.int .i64 0,.bool false,str [],.slice none ([]:List Int).length 0,.slice none ([]:List Int).length 0,.int .u64 0]) rfl rfl) (rv_t rfl) ⟨_,rfl,E403,_,rfl,(kEnt_mk (d:=(⟨([]:Str),(⟨(0:Int),(0:Int),(0:Int),false,([]:Str),([]:List Int),([]:List Int),(0:Int)⟩:Val)⟩:Ent)) stb_nil stb_nil)⟩)
      ·replace h:=h.2 hc401
       refine ec_skip ?_
       refine sq_n ?_
       refine ec_seq ?_
       refine ec_region ?_
       refine o_w (v:=.agg #[.int .i64 d0.cap,.slice A1 d0.slots.length c2,.slice A4 d0.idx.length c5,.int .i64 d1,.int .i64 2,str d2]) (r_lda agg_delta_update rfl (vs:=[.int .i64 d0.cap,.slice A1 d0.slots.length c2,.slice A4 d0.idx.length c5,.int .i64 d1,.int .i64 2,str d2]) rfl ((S37.fr G391 sI).now.part (n:=6) rfl)) ?_
       refine o_w (v:=.agg #[.int .i64 2,.int .i64 0,.int .i64 0,.bool false,str [],.slice (some ⟨b95a,0,none⟩) n95a n95a,.slice (some ⟨b95b,0,none⟩) n95b n95b,.int .u64 0]) (r_lda agg_api_Value rfl (vs:=[.int .i64 2,.int .i64 0,.int .i64 0,.bool false,str [],.slice (some ⟨b95a,0,none⟩) n95a n95a,.slice (some ⟨b95b,0,none⟩) n95b n95b,.int .u64 0]) rfl ((S143.fr G393 sI).now.part (n:=8) rfl)) ?_
       have N416:b95a∉(b95b::(b13::L)):=(notin_cons (by omega) (notin_cons (by omega) NLb95a))
       have hl417:(Z8.set d1.toNat (IntKind.i64.wrap ((nth x146.1.plus d1) + d3))).length=n95a:=by rw [hn95a]; simp
       have H418:=seal_arC B386 N416 hl417
       subst hl417
       have Zanc419:=Fr.refl (b95b::(b13::L)) w386
       have N420:b95b∉(b13::L):=(notin_cons (by omega) NLb95b)
       have hl421:Z8.length=n95b:=by rw [hn95b]; simp
       have H422:=seal_arC B398 N420 hl421
       subst hl421
       have Zanc423:=Fr.refl (b13::L) w386
       obtain ⟨x415,hx415,h⟩:=h
       refine o_call cf_delta_update_entry rfl (delta_update_entry_c (⟨d0,d1,(2:Int),d2⟩:Upd) (kUpd_mk (d:=(⟨d0,d1,(2:Int),d2⟩:Upd)) (H3.up G388 sI (upc (.inr m14) (fun _ h=>.inl h))) (H6.up G388 sI (upc (.inr m14) (fun _ h=>.inl h)))) (⟨(2:Int),(0:Int),(0:Int),false,([]:Str),(Z8.set d1.toNat (IntKind.i64.wrap ((nth x146.1.plus d1) + d3))),Z8,(0:Int)⟩:Val) (kVal_mk (d:=(⟨(2:Int),(0:Int),(0:Int),false,([]:Str),(Z8.set d1.toNat (IntKind.i64.wrap ((nth x146.1.plus d1) + d3))),Z8,(0:Int)⟩:Val)) (H418.up Zanc419 sI (upc (.inl (mT mH)) (fun m hm=>Or.inl (mT (mT hm))))) (H422.fr Zanc423 sI)) ((hL.fr E387).cons B397.lt) hx415) rfl rfl ?_
       rintro _ w415 ⟨F415,cs424,rfl,H425⟩
       have E426:=E387.trans F415
       obtain ⟨A439,c440,A442,c443,rfl,H441,H444⟩:=kEnt_open H425
       refine o_store rfl (B397.ex F415) (vs:=(cEnt x415 A439 c440 A442 c443)) rfl sz_api_Entry rfl rfl rfl ?_
       intro w445 F445 B445
       have E446:=Ext.st E426 F445 (by simp; omega)
       have G458:Fr (b13::L) w415 w445:=(Fr.refl _ _).stp F445 (upc (.inl mH) (fun m hm=>by cases hm))
       have B445':Blk w445 b13 _ (cEnt x415 A439 c440 A442 c443):=B445
       refine o_w (v:=.int .i64 0) (r_asg rfl) ?_
       refine eo_nil_sq ?_
       refine ec_ret ?_
       subst h
       exact (endr2 (rv_a rfl (agg_api_Entry) B445' (vs:=(cEnt x415 A439 c440 A442 c443)) rfl rfl) (rv_t rfl) ⟨_,rfl,E446,_,rfl,(kEnt_mk (d:=x415) (H441.up G458 sI (fun m hm=>Or.inl (mT hm))) (H444.up G458 sI (fun m hm=>Or.inl (mT hm))))⟩)
end Go.Proofs.YthhjcijhanacnaaGreat
