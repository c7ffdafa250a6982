/- References of updates. -/
import Derived.Test.YthhjcijhanacnaaGreatCw
import Derived.Test.YthhjcijhanacnaaGreatLf
namespace Go.Proofs.YthhjcijhanacnaaGreat
open Go Go.RowKit
set_option linter.unusedVariables false
set_option linter.unusedSimpArgs false
def ref09_can_raw (d0:Arena) (d1:Int) (d2:Str) (y:Int):Prop :=
 (sma d0)∧(((!(arOk d0))=true→(y=(2:Int)))∧((!(arOk d0))=false→((((decide (d1<0))||(decide (7<d1)))=true→(y=(10:Int)))∧(((decide (d1<0))||(decide (7<d1)))=false→((((decide ((d2.length:Int)<1))||(decide (8<(d2.length:Int))))=true→(y=(6:Int)))∧(((decide ((d2.length:Int)<1))||(decide (8<(d2.length:Int))))=false→(y=(0:Int))))))))
set_option maxRecDepth 20000 in
set_option maxHeartbeats 4000000 in
theorem ref09_can_c {L:List Nat} {w:World} {csP0:List Value} (d0:Arena) (HP0:Stb L w (fun w=>kArena.r w csP0 d0)) (d1:Int) (d2:Str) (hL:Lt L w) {y:Int} (h:ref09_can_raw d0 d1 d2 y) :
  Calls Tryz.prog 33 [.agg csP0.toArray,.int .i64 d1,str d2].toArray w (Ret fun v w'=>Ext w w'∧v=.int .i64 y):=by
 obtain ⟨A1,c2,A4,c5,rfl,H3,H6⟩:=kArena_open HP0
 unfold ref09_can_raw at h
 refine calls_ec Tryz.func33 rfl rfl rfl ?_
 refine ec_seq ?_
 refine ec_region ?_
 refine o_box (cs:=(cArena d0 A1 c2 A4 c5)) rfl rfl rfl ?_
 intro b7 w7 e7 F7 B7
 have S7:=B7.stb (nin hL e7)
 have G8:Fr L w w7:=Fr.ext F7
 refine o_w (v:=.int .i64 0) (r_asg rfl) ?_
 refine eo_nil_sq ?_
 iterate 2 refine ec_seq ?_
 refine ec_region ?_
 refine o_w (v:=.agg (cArena d0 A1 c2 A4 c5).toArray) (r_lda agg_api_Arena rfl (vs:=(cArena d0 A1 c2 A4 c5)) rfl (S7.now.part (n:=3) rfl)) ?_
 obtain ⟨ha10,h⟩:=h
 refine o_call cf_ref08_Check rfl (ref08_Check_c d0 (kArena_mk (d:=d0) (H3.fr G8 sI) (H6.fr G8 sI)) (hL.fr F7) (refCheckA_ev d0 ha10)) rfl rfl ?_
 rintro _ w9 ⟨F9,rfl⟩
 have E11:=F7.trans F9
 refine o_w (v:=.bool (!(arOk d0))) (r_not rfl) ?_
 refine eo_nil_sq ?_
 refine ec_cond rfl (fun hc14=>?_) (fun hc14=>?_)
 ·replace h:=h.1 hc14
  refine ec_seq ?_
  refine ec_region ?_
  refine o_w (v:=.int .i64 2) (r_asg rfl) ?_
  refine eo_nil_sq ?_
  refine ec_ret ?_
  refine sq_ret ?_
  subst h
  exact (end1 rfl ⟨_,rfl,E11,rfl⟩)
 ·replace h:=h.2 hc14
  refine ec_skip ?_
  refine sq_n ?_
  iterate 2 refine ec_seq ?_
  refine ec_region ?_
  refine o_w (v:=.int .i64 d1) (r_mov rfl) ?_
  refine o_w (v:=.bool (decide (d1<0))) (r_int rfl rfl rfl) ?_
  refine o_w (v:=.bool (decide (d1<0))) (r_mov rfl) ?_
  refine o_vg (v:=.int .i64 d1) (want_cf (t:=12) rfl rfl) (fun hk=>(r_mov rfl)) rfl rfl ?_
  refine o_vg (v:=.bool (decide (7<d1))) (want_cf (t:=12) rfl rfl) (fun hk=>(r_int (gdT hk) rfl rfl)) rfl rfl ?_
  refine o_w (v:=.bool ((decide (d1<0))||(decide (7<d1)))) (r_pickOr rfl rfl (fun hf=>(gdT (notT hf)))) ?_
  refine eo_nil_sq ?_
  refine ec_cond rfl (fun hc15=>?_) (fun hc15=>?_)
  ·replace h:=h.1 hc15
   refine ec_seq ?_
   refine ec_region ?_
   refine o_w (v:=.int .i64 10) (r_asg rfl) ?_
   refine eo_nil_sq ?_
   refine ec_ret ?_
   refine sq_ret ?_
   subst h
   exact (end1 rfl ⟨_,rfl,E11,rfl⟩)
  ·replace h:=h.2 hc15
   refine ec_skip ?_
   refine sq_n ?_
   iterate 2 refine ec_seq ?_
   refine ec_region ?_
   refine o_w (v:=str d2) (r_mov rfl) ?_
   refine o_w (v:=.int .i64 (d2.length:Int)) (r_len_str un_string rfl) ?_
   refine o_w (v:=.bool (decide ((d2.length:Int)<1))) (r_int rfl rfl rfl) ?_
   refine o_w (v:=.bool (decide ((d2.length:Int)<1))) (r_mov rfl) ?_
   refine o_vg (v:=str d2) (want_cf (t:=19) rfl rfl) (fun hk=>(r_mov rfl)) rfl rfl ?_
   refine o_vg (v:=.int .i64 (d2.length:Int)) (want_cf (t:=19) rfl rfl) (fun hk=>(r_len_str un_string (gdT hk))) rfl rfl ?_
   refine o_vg (v:=.bool (decide (8<(d2.length:Int)))) (want_cf (t:=19) rfl rfl) (fun hk=>(r_int (gdT hk) rfl rfl)) rfl rfl ?_
   refine o_w (v:=.bool ((decide ((d2.length:Int)<1))||(decide (8<(d2.length:Int))))) (r_pickOr rfl rfl (fun hf=>(gdT (notT hf)))) ?_
   refine eo_nil_sq ?_
   refine ec_cond rfl (fun hc16=>?_) (fun hc16=>?_)
   ·replace h:=h.1 hc16
    refine ec_seq ?_
    refine ec_region ?_
    refine o_w (v:=.int .i64 6) (r_asg rfl) ?_
    refine eo_nil_sq ?_
    refine ec_ret ?_
    refine sq_ret ?_
    subst h
    exact (end1 rfl ⟨_,rfl,E11,rfl⟩)
   ·replace h:=h.2 hc16
    refine ec_skip ?_
    refine sq_n ?_
    refine ec_seq ?_
    refine ec_region ?_
    refine o_w (v:=.int .i64 0) (r_asg rfl) ?_
    refine eo_nil_sq ?_
    refine ec_ret ?_
    subst h
    exact (end1 rfl ⟨_,rfl,E11,rfl⟩)
def ref09_room_raw (d0:Arena) (d1:Int) (d2:Str) (y:Bool):Prop :=
 (sma d0)∧(y=((decide (0≤(findA d0 d1 d2)))||(decide ((d0.slots.length:Int)<d0.cap))))
set_option maxRecDepth 20000 in
set_option maxHeartbeats 4000000 in
theorem ref09_room_c {L:List Nat} {w:World} {csP0:List Value} (d0:Arena) (HP0:Stb L w (fun w=>kArena.r w csP0 d0)) (d1:Int) (d2:Str) (hL:Lt L w) {y:Bool} (h:ref09_room_raw d0 d1 d2 y) :
  Calls Tryz.prog 34 [.agg csP0.toArray,.int .i64 d1,str d2].toArray w (Ret fun v w'=>Ext w w'∧v=.bool y):=by
 obtain ⟨A1,c2,A4,c5,rfl,H3,H6⟩:=kArena_open HP0
 unfold ref09_room_raw at h
 refine calls_ec Tryz.func34 rfl rfl rfl ?_
 refine ec_seq ?_
 refine ec_region ?_
 refine o_box (cs:=(cArena d0 A1 c2 A4 c5)) rfl rfl rfl ?_
 intro b7 w7 e7 F7 B7
 have S7:=B7.stb (nin hL e7)
 have G8:Fr L w w7:=Fr.ext F7
 refine o_w (v:=.bool false) (r_asg rfl) ?_
 refine eo_nil_sq ?_
 refine ec_seq ?_
 refine ec_region ?_
 refine o_w (v:=.agg (cArena d0 A1 c2 A4 c5).toArray) (r_lda agg_api_Arena rfl (vs:=(cArena d0 A1 c2 A4 c5)) rfl (S7.now.part (n:=3) rfl)) ?_
 refine o_w (v:=.int .i64 d1) (r_mov rfl) ?_
 refine o_w (v:=str d2) (r_mov rfl) ?_
 obtain ⟨ha10,h⟩:=h
 refine o_call cf_ref08_Find rfl (ref08_Find_c d0 (kArena_mk (d:=d0) (H3.fr G8 sI) (H6.fr G8 sI)) d1 d2 (hL.fr F7) (refFind_ev d0 d1 d2 ha10)) rfl rfl ?_
 rintro _ w9 ⟨F9,rfl⟩
 have E11:=F7.trans F9
 have G13:Fr L w7 w9:=Fr.ext F9
 refine o_w (v:=.bool (decide (0≤(findA d0 d1 d2)))) (r_int rfl rfl rfl) ?_
 refine o_w (v:=.bool (decide (0≤(findA d0 d1 d2)))) (r_mov rfl) ?_
 refine o_vg (v:=.pointer (some ⟨b7,1,none⟩)) (want_cf (t:=12) rfl rfl) (fun hk=>(r_fa fld_api_Arena_1 rfl rfl)) rfl rfl ?_
 refine o_vg (v:=.slice A1 d0.slots.length c2) (want_cf (t:=12) rfl rfl) (fun hk=>(r_ld one_s_api_Entry (gdT hk) ((S7.fr G13 sI).now.cell rfl))) rfl rfl ?_
 refine o_vg (v:=.int .i64 (d0.slots.length:Int)) (want_cf (t:=12) rfl rfl) (fun hk=>(r_len_slc un_s_api_Entry (gdT hk))) rfl rfl ?_
 refine o_vg (v:=.pointer (some ⟨b7,0,none⟩)) (want_cf (t:=12) rfl rfl) (fun hk=>(r_fa fld_api_Arena_0 rfl rfl)) rfl rfl ?_
 refine o_vg (v:=.int .i64 d0.cap) (want_cf (t:=12) rfl rfl) (fun hk=>(r_ld one_int (gdT hk) ((S7.fr G13 sI).now.cell rfl))) rfl rfl ?_
 refine o_vg (v:=.bool (decide ((d0.slots.length:Int)<d0.cap))) (want_cf (t:=12) rfl rfl) (fun hk=>(r_int (gdT hk) (gdT hk) rfl)) rfl rfl ?_
 refine o_w (v:=.bool ((decide (0≤(findA d0 d1 d2)))||(decide ((d0.slots.length:Int)<d0.cap)))) (r_pickOr rfl rfl (fun hf=>(gdT (notT hf)))) ?_
 refine o_w (v:=.bool ((decide (0≤(findA d0 d1 d2)))||(decide ((d0.slots.length:Int)<d0.cap)))) (r_asg rfl) ?_
 refine eo_nil_sq ?_
 refine ec_ret ?_
 subst h
 exact (end1 rfl ⟨_,rfl,E11,rfl⟩)
def ref09_val_raw (d0:Arena) (d1:Int) (d2:Str) (y:Val):Prop :=
 (sma d0)∧(((decide ((findA d0 d1 d2)<0))=true→(∃ x22,x22=(leastV d1)∧(y=x22.1)))∧((decide ((findA d0 d1 d2)<0))=false→((0≤(findA d0 d1 d2)∧(findA d0 d1 d2)<(d0.slots.length:Int))∧(y=((nth d0.slots (findA d0 d1 d2)).val)))))
set_option maxRecDepth 20000 in
set_option maxHeartbeats 4000000 in
theorem ref09_val_c {L:List Nat} {w:World} {csP0:List Value} (d0:Arena) (HP0:Stb L w (fun w=>kArena.r w csP0 d0)) (d1:Int) (d2:Str) (hL:Lt L w) {y:Val} (h:ref09_val_raw d0 d1 d2 y) :
  Calls Tryz.prog 39 [.agg csP0.toArray,.int .i64 d1,str d2].toArray w (Ret fun v w'=>Ext w w'∧∃ (cs90:List Value),v=.agg cs90.toArray∧Stb L w' (fun w=>kVal.r w cs90 y)):=by
 obtain ⟨A1,c2,A4,c5,rfl,H3,H6⟩:=kArena_open HP0
 unfold ref09_val_raw at h
 refine calls_ec Tryz.func39 rfl rfl rfl ?_
 refine ec_seq ?_
 refine ec_region ?_
 refine o_box (cs:=(cArena d0 A1 c2 A4 c5)) rfl rfl rfl ?_
 intro b7 w7 e7 F7 B7
 have S7:=B7.stb (nin hL e7)
 have G8:Fr L w w7:=Fr.ext F7
 refine o_alloc zero_api_Value rfl rfl rfl ?_
 intro b9 w9 e9 F9 B9
 have n9:w.heap.size≤b9:=by rw [e9]; exact F7.size
 have m10:w.heap.size≤b9:=by rw [e9]; exact G8.size
 have E12:=F7.trans F9
 have G14:Fr L w7 w9:=Fr.ext F9
 refine eo_nil_sq ?_
 refine ec_seq ?_
 refine ec_region ?_
 refine o_w (v:=.agg (cArena d0 A1 c2 A4 c5).toArray) (r_lda agg_api_Arena rfl (vs:=(cArena d0 A1 c2 A4 c5)) rfl ((S7.fr G14 sI).now.part (n:=3) rfl)) ?_
 refine o_w (v:=.int .i64 d1) (r_mov rfl) ?_
 refine o_w (v:=str d2) (r_mov rfl) ?_
 obtain ⟨ha16,h⟩:=h
 refine o_call cf_ref08_Find rfl (ref08_Find_c d0 (kArena_mk (d:=d0) (H3.up (G8.trans (Fr.ext F9)) sI (upc (.inr m10) (fun _ h=>.inl h))) (H6.up (G8.trans (Fr.ext F9)) sI (upc (.inr m10) (fun _ h=>.inl h)))) d1 d2 ((hL.fr E12).cons B9.lt) (refFind_ev d0 d1 d2 ha16)) rfl rfl ?_
 rintro _ w15 ⟨F15,rfl⟩
 have E17:=E12.trans F15
 refine o_w (v:=.int .i64 (findA d0 d1 d2)) (r_asg rfl) ?_
 refine eo_nil_sq ?_
 iterate 2 refine ec_seq ?_
 refine ec_region ?_
 refine o_w (v:=.int .i64 (findA d0 d1 d2)) (r_mov rfl) ?_
 refine o_w (v:=.bool (decide ((findA d0 d1 d2)<0))) (r_int rfl rfl rfl) ?_
 refine eo_nil_sq ?_
 refine ec_cond rfl (fun hc21=>?_) (fun hc21=>?_)
 ·replace h:=h.1 hc21
  refine ec_seq ?_
  refine ec_region ?_
  refine o_w (v:=.int .i64 d1) (r_mov rfl) ?_
  obtain ⟨x22,hx22,h⟩:=h
  refine o_call cf_ref06_Least rfl (ref06_Least_c d1 ((hL.fr E17).cons (B9.ex F15).lt) (eq_ev hx22 (refLeast_ev d1))) rfl rfl ?_
  rintro _ w22 ⟨F22,cs23,rfl,H24⟩
  have E25:=E17.trans F22
  obtain ⟨A29,c30,A32,c33,rfl,H31,H34⟩:=kVal_open H24
  refine o_w (v:=.tuple #[.agg (cVal x22.1 A29 c30 A32 c33).toArray,.int .i64 x22.2]) (r_mov rfl) ?_
  refine o_w (v:=.agg (cVal x22.1 A29 c30 A32 c33).toArray) (r_ext rfl rfl) ?_
  refine o_w (v:=.int .i64 x22.2) (r_ext rfl rfl) ?_
  refine o_alloc zero_api_Value rfl rfl rfl ?_
  intro b35 w35 e35 F35 B35
  have n35:w.heap.size≤b35:=by rw [e35]; exact E25.size
  have q36:b9<b35:=by rw [e35]; exact ((B9.ex F15).ex F22).lt
  have m39:w22.heap.size≤b35:=Nat.le_of_eq e35.symm
  have E40:=E25.trans F35
  have G43:Fr (b9::L) w22 w35:=Fr.ext F35
  refine o_store rfl B35 (vs:=(cVal x22.1 A29 c30 A32 c33)) rfl sz_api_Value rfl rfl rfl ?_
  intro w45 F45 B45
  have E46:=Ext.st E40 F45 (by simp; omega)
  have G49:Fr (b9::L) w22 w45:=G43.stp F45 (upc (.inr m39) (fun m hm=>by cases hm))
  have B50:=(((B9.ex F15).ex F22).ex F35).fr F45 (by simp; omega)
  have B45':Blk w45 b35 _ (cVal x22.1 A29 c30 A32 c33):=B45
  refine o_w (v:=.int .i64 x22.2) (r_asg rfl) ?_
  refine eo_nil_sq ?_
  refine ec_seq ?_
  refine ec_region ?_
  refine o_w (v:=.agg (cVal x22.1 A29 c30 A32 c33).toArray) (r_lda agg_api_Value rfl (vs:=(cVal x22.1 A29 c30 A32 c33)) rfl (B45'.part (n:=8) rfl)) ?_
  refine o_store rfl B50 (vs:=(cVal x22.1 A29 c30 A32 c33)) rfl sz_api_Value rfl rfl rfl ?_
  intro w51 F51 B51
  have E52:=Ext.st E46 F51 (by simp; omega)
  have G55:Fr (b9::L) w22 w51:=G49.stp F51 (upc (.inl mH) (fun m hm=>by cases hm))
  have B51':Blk w51 b9 _ (cVal x22.1 A29 c30 A32 c33):=B51
  refine eo_nil_sq ?_
  refine ec_ret ?_
  refine sq_ret ?_
  subst h
  exact (endr1 (rv_a rfl (agg_api_Value) B51' (vs:=(cVal x22.1 A29 c30 A32 c33)) rfl rfl) ⟨_,rfl,E52,_,rfl,(kVal_mk (d:=x22.1) (H31.up G55 sI (fun m hm=>Or.inl (mT hm))) (H34.up G55 sI (fun m hm=>Or.inl (mT hm))))⟩)
 ·replace h:=h.2 hc21
  refine ec_skip ?_
  refine sq_n ?_
  refine ec_seq ?_
  refine ec_region ?_
  refine o_w (v:=.pointer (some ⟨b7,1,none⟩)) (r_fa fld_api_Arena_1 rfl rfl) ?_
  refine o_w (v:=.slice A1 d0.slots.length c2) (r_ld one_s_api_Entry rfl ((S7.fr (G14.trans (Fr.ext F15)) sI).now.cell rfl)) ?_
  refine o_w (v:=.int .i64 (findA d0 d1 d2)) (r_mov rfl) ?_
  obtain ⟨ha57,h⟩:=h
  obtain ⟨cs58,l60,H59⟩:=Stb.elem (by decide) (H3.up ((G8.trans (Fr.ext F9)).trans (Fr.ext F15)) sI (upc (.inr m10) (fun _ h=>.inl h))) (findA d0 d1 d2) ha57.1 ha57.2
  obtain ⟨A62,c63,A65,c66,rfl,H61,H64,H67⟩:=kEnt_open2 H59
  refine o_w (v:=.pointer (some (elemA A1 kEnt.n (findA d0 d1 d2).toNat))) (r_ia slc_s_api_Entry rfl rfl ((H3.fr ((G8.trans (Fr.ext F9)).trans (Fr.ext F15)) sI).now.2 _ (lt_toNat ha57.1 ha57.2)).1 ha57.1 ha57.2) ?_
  refine o_w (v:=.pointer (some (ad (elemA A1 kEnt.n (findA d0 d1 d2).toNat) 1))) (r_fad fld_api_Entry_1 (elemA_spot _ _ _) rfl) ?_
  refine o_w (v:=.agg (cVal ((nth d0.slots (findA d0 d1 d2)).val) A62 c63 A65 c66).toArray) (r_lda' agg_api_Value rfl rfl (vs:=(cVal ((nth d0.slots (findA d0 d1 d2)).val) A62 c63 A65 c66)) rfl (H61.now.1.sub (j:=1) (n:=8) rfl)) ?_
  refine o_store rfl (B9.ex F15) (vs:=(cVal ((nth d0.slots (findA d0 d1 d2)).val) A62 c63 A65 c66)) rfl sz_api_Value rfl rfl rfl ?_
  intro w68 F68 B68
  have E69:=Ext.st E17 F68 (by simp; omega)
  have G72:Fr (b9::L) w15 w68:=(Fr.refl _ _).stp F68 (upc (.inl mH) (fun m hm=>by cases hm))
  have B68':Blk w68 b9 _ (cVal ((nth d0.slots (findA d0 d1 d2)).val) A62 c63 A65 c66):=B68
  refine eo_nil_sq ?_
  refine ec_ret ?_
  subst h
  exact (endr1 (rv_a rfl (agg_api_Value) B68' (vs:=(cVal ((nth d0.slots (findA d0 d1 d2)).val) A62 c63 A65 c66)) rfl rfl) ⟨_,rfl,E69,_,rfl,(kVal_mk (d:=((nth d0.slots (findA d0 d1 d2)).val)) (H64.up G72 sI (fun m hm=>Or.inl (mT hm))) (H67.up G72 sI (fun m hm=>Or.inl (mT hm))))⟩)
def ref09_reg_raw (d0:Arena) (d1:Int) (d2:Str) (d3:Bool) (d4:Str) (y:Ent × Int):Prop :=
 ∃ x15,ref09_val_raw d0 (1:Int) d2 x15∧(((x15.time==2147483647)=true→(y=((⟨([]:Str),(⟨(0:Int),(0:Int),(0:Int),false,([]:Str),([]:List Int),([]:List Int),(0:Int)⟩:Val)⟩:Ent),(5:Int))))∧((x15.time==2147483647)=false→(y=((⟨d2,(⟨(1:Int),(IntKind.i64.wrap (x15.time + (1:Int))),d1,d3,d4,([]:List Int),([]:List Int),(0:Int)⟩:Val)⟩:Ent),(0:Int)))))
set_option maxRecDepth 20000 in
set_option maxHeartbeats 4000000 in
theorem ref09_reg_c {L:List Nat} {w:World} {csP0:List Value} (d0:Arena) (HP0:Stb L w (fun w=>kArena.r w csP0 d0)) (d1:Int) (d2:Str) (d3:Bool) (d4:Str) (hL:Lt L w) {y:Ent × Int} (h:ref09_reg_raw d0 d1 d2 d3 d4 y) :
  Calls Tryz.prog 35 [.agg csP0.toArray,.int .i64 d1,str d2,.bool d3,str d4].toArray w (Ret fun v w'=>Ext w w'∧∃ (cs90:List Value),v=.tuple #[.agg cs90.toArray,.int .i64 y.2]∧Stb L w' (fun w=>kEnt.r w cs90 y.1)):=by
 obtain ⟨A1,c2,A4,c5,rfl,H3,H6⟩:=kArena_open HP0
 unfold ref09_reg_raw at h
 refine calls_ec Tryz.func35 rfl rfl rfl ?_
 refine ec_seq ?_
 refine ec_region ?_
 refine o_box (cs:=(cArena d0 A1 c2 A4 c5)) rfl rfl rfl ?_
 intro b7 w7 e7 F7 B7
 have S7:=B7.stb (nin hL e7)
 have G8:Fr L w w7:=Fr.ext F7
 refine o_alloc zero_api_Entry rfl rfl rfl ?_
 intro b9 w9 e9 F9 B9
 have n9:w.heap.size≤b9:=by rw [e9]; exact F7.size
 have m10:w.heap.size≤b9:=by rw [e9]; exact G8.size
 have E12:=F7.trans F9
 have G14:Fr L w7 w9:=Fr.ext F9
 refine o_w (v:=.int .i64 0) (r_asg rfl) ?_
 refine eo_nil_sq ?_
 refine ec_seq ?_
 refine ec_region ?_
 refine o_w (v:=.agg (cArena d0 A1 c2 A4 c5).toArray) (r_lda agg_api_Arena rfl (vs:=(cArena d0 A1 c2 A4 c5)) rfl ((S7.fr G14 sI).now.part (n:=3) rfl)) ?_
 refine o_w (v:=str d2) (r_mov rfl) ?_
 obtain ⟨x15,hx15,h⟩:=h
 refine o_call cf_ref09_val rfl (ref09_val_c d0 (kArena_mk (d:=d0) (H3.up (G8.trans (Fr.ext F9)) sI (upc (.inr m10) (fun _ h=>.inl h))) (H6.up (G8.trans (Fr.ext F9)) sI (upc (.inr m10) (fun _ h=>.inl h)))) (1:Int) d2 ((hL.fr E12).cons B9.lt) hx15) rfl rfl ?_
 rintro _ w15 ⟨F15,cs16,rfl,H17⟩
 have E18:=E12.trans F15
 obtain ⟨A22,c23,A25,c26,rfl,H24,H27⟩:=kVal_open H17
 refine o_alloc zero_api_Value rfl rfl rfl ?_
 intro b28 w28 e28 F28 B28
 have n28:w.heap.size≤b28:=by rw [e28]; exact E18.size
 have q29:b9<b28:=by rw [e28]; exact (B9.ex F15).lt
 have E33:=E18.trans F28
 refine o_store rfl B28 (vs:=(cVal x15 A22 c23 A25 c26)) rfl sz_api_Value rfl rfl rfl ?_
 intro w38 F38 B38
 have E39:=Ext.st E33 F38 (by simp; omega)
 have B43:=((B9.ex F15).ex F28).fr F38 (by simp; omega)
 have B38':Blk w38 b28 _ (cVal x15 A22 c23 A25 c26):=B38
 refine eo_nil_sq ?_
 iterate 2 refine ec_seq ?_
 refine ec_region ?_
 refine o_w (v:=.pointer (some ⟨b28,1,none⟩)) (r_fa fld_api_Value_1 rfl rfl) ?_
 refine o_w (v:=.int .i64 x15.time) (r_ld one_int rfl (B38'.cell rfl)) ?_
 refine o_w (v:=.bool (x15.time==2147483647)) (r_int rfl rfl rfl) ?_
 refine eo_nil_sq ?_
 refine ec_cond rfl (fun hc44=>?_) (fun hc44=>?_)
 ·replace h:=h.1 hc44
  refine ec_seq ?_
  refine ec_region ?_
  refine o_w (v:=.agg #[str [],.int .i64 0,.int .i64 0,.int .i64 0,.bool false,str [],.slice none ([]:List Int).length 0,.slice none ([]:List Int).length 0,.int .u64 0]) (r_build bld_api_Entry (vs:=[]) (cells:=[str [],.int .i64 0,.int .i64 0,.int .i64 0,.bool false,str [],.slice none ([]:List Int).length 0,.slice none ([]:List Int).length 0,.int .u64 0]) rfl rfl) ?_
  refine o_store rfl B43 (vs:=[str [],.int .i64 0,.int .i64 0,.int .i64 0,.bool false,str [],.slice none ([]:List Int).length 0,.slice none ([]:List Int).length 0,.int .u64 0]) rfl sz_api_Entry rfl rfl rfl ?_
  intro w45 F45 B45
  have E46:=Ext.st E39 F45 (by simp; omega)
  have B45':Blk w45 b9 _ [str [],.int .i64 0,.int .i64 0,.int .i64 0,.bool false,str [],.slice none ([]:List Int).length 0,.slice none ([]:List Int).length 0,.int .u64 0]:=B45
  refine o_w (v:=.int .i64 5) (r_asg rfl) ?_
  refine eo_nil_sq ?_
  refine ec_ret ?_
  refine sq_ret ?_
  subst h
  exact (endr2 (rv_a rfl (agg_api_Entry) B45' (vs:=[str [],.int .i64 0,.int .i64 0,.int .i64 0,.bool false,str [],.slice none ([]:List Int).length 0,.slice none ([]:List Int).length 0,.int .u64 0]) rfl rfl) (rv_t rfl) ⟨_,rfl,E46,_,rfl,(kEnt_mk (d:=(⟨([]:Str),(⟨(0:Int),(0:Int),(0:Int),false,([]:Str),([]:List Int),([]:List Int),(0:Int)⟩:Val)⟩:Ent)) stb_nil stb_nil)⟩)
 ·replace h:=h.2 hc44
  refine ec_skip ?_
  refine sq_n ?_
  refine ec_seq ?_
  refine ec_region ?_
  refine o_w (v:=str d2) (r_mov rfl) ?_
  refine o_w (v:=.pointer (some ⟨b28,1,none⟩)) (r_fa fld_api_Value_1 rfl rfl) ?_
  refine o_w (v:=.int .i64 x15.time) (r_ld one_int rfl (B38'.cell rfl)) ?_
  refine o_w (v:=.int .i64 (IntKind.i64.wrap (x15.time + (1:Int)))) (r_int rfl rfl rfl) ?_
  refine o_w (v:=.int .i64 d1) (r_mov rfl) ?_
  refine o_w (v:=.bool d3) (r_mov rfl) ?_
  refine o_w (v:=str d4) (r_mov rfl) ?_
  refine o_w (v:=.agg #[.int .i64 1,.int .i64 (IntKind.i64.wrap (x15.time + (1:Int))),.int .i64 d1,.bool d3,str d4,.slice none ([]:List Int).length 0,.slice none ([]:List Int).length 0,.int .u64 0]) (r_build bld_api_Value (vs:=[(0,.int .i64 1),(1,.int .i64 (IntKind.i64.wrap (x15.time + (1:Int)))),(2,.int .i64 d1),(3,.bool d3),(4,str d4)]) (cells:=[.int .i64 1,.int .i64 (IntKind.i64.wrap (x15.time + (1:Int))),.int .i64 d1,.bool d3,str d4,.slice none ([]:List Int).length 0,.slice none ([]:List Int).length 0,.int .u64 0]) rfl rfl) ?_
  refine o_w (v:=.agg #[str d2,.int .i64 1,.int .i64 (IntKind.i64.wrap (x15.time + (1:Int))),.int .i64 d1,.bool d3,str d4,.slice none ([]:List Int).length 0,.slice none ([]:List Int).length 0,.int .u64 0]) (r_build bld_api_Entry (vs:=[(0,str d2),(1,.agg #[.int .i64 1,.int .i64 (IntKind.i64.wrap (x15.time + (1:Int))),.int .i64 d1,.bool d3,str d4,.slice none ([]:List Int).length 0,.slice none ([]:List Int).length 0,.int .u64 0])]) (cells:=[str d2,.int .i64 1,.int .i64 (IntKind.i64.wrap (x15.time + (1:Int))),.int .i64 d1,.bool d3,str d4,.slice none ([]:List Int).length 0,.slice none ([]:List Int).length 0,.int .u64 0]) rfl rfl) ?_
  refine o_store rfl B43 (vs:=[str d2,.int .i64 1,.int .i64 (IntKind.i64.wrap (x15.time + (1:Int))),.int .i64 d1,.bool d3,str d4,.slice none ([]:List Int).length 0,.slice none ([]:List Int).length 0,.int .u64 0]) rfl sz_api_Entry rfl rfl rfl ?_
  intro w51 F51 B51
  have E52:=Ext.st E39 F51 (by simp; omega)
  have B51':Blk w51 b9 _ [str d2,.int .i64 1,.int .i64 (IntKind.i64.wrap (x15.time + (1:Int))),.int .i64 d1,.bool d3,str d4,.slice none ([]:List Int).length 0,.slice none ([]:List Int).length 0,.int .u64 0]:=B51
  refine o_w (v:=.int .i64 0) (r_asg rfl) ?_
  refine eo_nil_sq ?_
  refine ec_ret ?_
  subst h
  exact (endr2 (rv_a rfl (agg_api_Entry) B51' (vs:=[str d2,.int .i64 1,.int .i64 (IntKind.i64.wrap (x15.time + (1:Int))),.int .i64 d1,.bool d3,str d4,.slice none ([]:List Int).length 0,.slice none ([]:List Int).length 0,.int .u64 0]) rfl rfl) (rv_t rfl) ⟨_,rfl,E52,_,rfl,(kEnt_mk (d:=(⟨d2,(⟨(1:Int),(IntKind.i64.wrap (x15.time + (1:Int))),d1,d3,d4,([]:List Int),([]:List Int),(0:Int)⟩:Val)⟩:Ent)) stb_nil stb_nil)⟩)
def ref09_Put_raw (d0:Arena) (d1:Int) (d2:Str) (d3:Str) (y:Ent × Int):Prop :=
 ∃ x15,ref09_can_raw d0 d1 d2 x15∧(((x15 != (0:Int))=true→(y=((⟨([]:Str),(⟨(0:Int),(0:Int),(0:Int),false,([]:Str),([]:List Int),([]:List Int),(0:Int)⟩:Val)⟩:Ent),x15)))∧((x15 != (0:Int))=false→(((decide (8<(d3.length:Int)))=true→(y=((⟨([]:Str),(⟨(0:Int),(0:Int),(0:Int),false,([]:Str),([]:List Int),([]:List Int),(0:Int)⟩:Val)⟩:Ent),(6:Int))))∧((decide (8<(d3.length:Int)))=false→(∃ x30,ref09_room_raw d0 (1:Int) d2 x30∧(((!x30)=true→(y=((⟨([]:Str),(⟨(0:Int),(0:Int),(0:Int),false,([]:Str),([]:List Int),([]:List Int),(0:Int)⟩:Val)⟩:Ent),(4:Int))))∧((!x30)=false→(∃ x40,ref09_reg_raw d0 d1 d2 false d3 x40∧(y=(x40.1,x40.2))))))))))
set_option maxRecDepth 20000 in
set_option maxHeartbeats 4000000 in
theorem ref09_Put_c {L:List Nat} {w:World} {csP0:List Value} (d0:Arena) (HP0:Stb L w (fun w=>kArena.r w csP0 d0)) (d1:Int) (d2:Str) (d3:Str) (hL:Lt L w) {y:Ent × Int} (h:ref09_Put_raw d0 d1 d2 d3 y) :
  Calls Tryz.prog 8 [.agg csP0.toArray,.int .i64 d1,str d2,str d3].toArray w (Ret fun v w'=>Ext w w'∧∃ (cs90:List Value),v=.tuple #[.agg cs90.toArray,.int .i64 y.2]∧Stb L w' (fun w=>kEnt.r w cs90 y.1)):=by
 obtain ⟨A1,c2,A4,c5,rfl,H3,H6⟩:=kArena_open HP0
 unfold ref09_Put_raw at h
 refine calls_ec Tryz.func8 rfl rfl rfl ?_
 refine ec_seq ?_
 refine ec_region ?_
 refine o_box (cs:=(cArena d0 A1 c2 A4 c5)) rfl rfl rfl ?_
 intro b7 w7 e7 F7 B7
 have S7:=B7.stb (nin hL e7)
 have G8:Fr L w w7:=Fr.ext F7
 refine o_alloc zero_api_Entry rfl rfl rfl ?_
 intro b9 w9 e9 F9 B9
 have n9:w.heap.size≤b9:=by rw [e9]; exact F7.size
 have m10:w.heap.size≤b9:=by rw [e9]; exact G8.size
 have E12:=F7.trans F9
 have G14:Fr L w7 w9:=Fr.ext F9
 refine o_w (v:=.int .i64 0) (r_asg rfl) ?_
 refine eo_nil_sq ?_
 refine ec_seq ?_
 refine ec_region ?_
 refine o_w (v:=.agg (cArena d0 A1 c2 A4 c5).toArray) (r_lda agg_api_Arena rfl (vs:=(cArena d0 A1 c2 A4 c5)) rfl ((S7.fr G14 sI).now.part (n:=3) rfl)) ?_
 refine o_w (v:=.int .i64 d1) (r_mov rfl) ?_
 refine o_w (v:=str d2) (r_mov rfl) ?_
 obtain ⟨x15,hx15,h⟩:=h
 refine o_call cf_ref09_can rfl (ref09_can_c d0 (kArena_mk (d:=d0) (H3.up (G8.trans (Fr.ext F9)) sI (upc (.inr m10) (fun _ h=>.inl h))) (H6.up (G8.trans (Fr.ext F9)) sI (upc (.inr m10) (fun _ h=>.inl h)))) d1 d2 ((hL.fr E12).cons B9.lt) hx15) rfl rfl ?_
 rintro _ w15 ⟨F15,rfl⟩
 have E16:=E12.trans F15
 refine o_w (v:=.int .i64 x15) (r_asg rfl) ?_
 refine eo_nil_sq ?_
 iterate 2 refine ec_seq ?_
 refine ec_region ?_
 refine o_w (v:=.int .i64 x15) (r_mov rfl) ?_
 refine o_w (v:=.bool (x15 != (0:Int))) (r_int rfl rfl rfl) ?_
 refine eo_nil_sq ?_
 refine ec_cond rfl (fun hc20=>?_) (fun hc20=>?_)
 ·replace h:=h.1 hc20
  refine ec_seq ?_
  refine ec_region ?_
  refine o_w (v:=.agg #[str [],.int .i64 0,.int .i64 0,.int .i64 0,.bool false,str [],.slice none ([]:List Int).length 0,.slice none ([]:List Int).length 0,.int .u64 0]) (r_build bld_api_Entry (vs:=[]) (cells:=[str [],.int .i64 0,.int .i64 0,.int .i64 0,.bool false,str [],.slice none ([]:List Int).length 0,.slice none ([]:List Int).length 0,.int .u64 0]) rfl rfl) ?_
  refine o_w (v:=.int .i64 x15) (r_mov rfl) ?_
  refine o_store rfl (B9.ex F15) (vs:=[str [],.int .i64 0,.int .i64 0,.int .i64 0,.bool false,str [],.slice none ([]:List Int).length 0,.slice none ([]:List Int).length 0,.int .u64 0]) rfl sz_api_Entry rfl rfl rfl ?_
  intro w21 F21 B21
  have E22:=Ext.st E16 F21 (by simp; omega)
  have B21':Blk w21 b9 _ [str [],.int .i64 0,.int .i64 0,.int .i64 0,.bool false,str [],.slice none ([]:List Int).length 0,.slice none ([]:List Int).length 0,.int .u64 0]:=B21
  refine o_w (v:=.int .i64 x15) (r_asg rfl) ?_
  refine eo_nil_sq ?_
  refine ec_ret ?_
  refine sq_ret ?_
  subst h
  exact (endr2 (rv_a rfl (agg_api_Entry) B21' (vs:=[str [],.int .i64 0,.int .i64 0,.int .i64 0,.bool false,str [],.slice none ([]:List Int).length 0,.slice none ([]:List Int).length 0,.int .u64 0]) rfl rfl) (rv_t rfl) ⟨_,rfl,E22,_,rfl,(kEnt_mk (d:=(⟨([]:Str),(⟨(0:Int),(0:Int),(0:Int),false,([]:Str),([]:List Int),([]:List Int),(0:Int)⟩:Val)⟩:Ent)) stb_nil stb_nil)⟩)
 ·replace h:=h.2 hc20
  refine ec_skip ?_
  refine sq_n ?_
  iterate 2 refine ec_seq ?_
  refine ec_region ?_
  refine o_w (v:=str d3) (r_mov rfl) ?_
  refine o_w (v:=.int .i64 (d3.length:Int)) (r_len_str un_string rfl) ?_
  refine o_w (v:=.bool (decide (8<(d3.length:Int)))) (r_int rfl rfl rfl) ?_
  refine eo_nil_sq ?_
  refine ec_cond rfl (fun hc25=>?_) (fun hc25=>?_)
  ·replace h:=h.1 hc25
   refine ec_seq ?_
   refine ec_region ?_
   refine o_w (v:=.agg #[str [],.int .i64 0,.int .i64 0,.int .i64 0,.bool false,str [],.slice none ([]:List Int).length 0,.slice none ([]:List Int).length 0,.int .u64 0]) (r_build bld_api_Entry (vs:=[]) (cells:=[str [],.int .i64 0,.int .i64 0,.int .i64 0,.bool false,str [],.slice none ([]:List Int).length 0,.slice none ([]:List Int).length 0,.int .u64 0]) rfl rfl) ?_
   refine o_store rfl (B9.ex F15) (vs:=[str [],.int .i64 0,.int .i64 0,.int .i64 0,.bool false,str [],.slice none ([]:List Int).length 0,.slice none ([]:List Int).length 0,.int .u64 0]) rfl sz_api_Entry rfl rfl rfl ?_
   intro w26 F26 B26
   have E27:=Ext.st E16 F26 (by simp; omega)
   have B26':Blk w26 b9 _ [str [],.int .i64 0,.int .i64 0,.int .i64 0,.bool false,str [],.slice none ([]:List Int).length 0,.slice none ([]:List Int).length 0,.int .u64 0]:=B26
   refine o_w (v:=.int .i64 6) (r_asg rfl) ?_
   refine eo_nil_sq ?_
   refine ec_ret ?_
   refine sq_ret ?_
   subst h
   exact (endr2 (rv_a rfl (agg_api_Entry) B26' (vs:=[str [],.int .i64 0,.int .i64 0,.int .i64 0,.bool false,str [],.slice none ([]:List Int).length 0,.slice none ([]:List Int).length 0,.int .u64 0]) rfl rfl) (rv_t rfl) ⟨_,rfl,E27,_,rfl,(kEnt_mk (d:=(⟨([]:Str),(⟨(0:Int),(0:Int),(0:Int),false,([]:Str),([]:List Int),([]:List Int),(0:Int)⟩:Val)⟩:Ent)) stb_nil stb_nil)⟩)
  ·replace h:=h.2 hc25
   refine ec_skip ?_
   refine sq_n ?_
   iterate 2 refine ec_seq ?_
   refine ec_region ?_
   refine o_w (v:=.agg (cArena d0 A1 c2 A4 c5).toArray) (r_lda agg_api_Arena rfl (vs:=(cArena d0 A1 c2 A4 c5)) rfl ((S7.fr (G14.trans (Fr.ext F15)) sI).now.part (n:=3) rfl)) ?_
   refine o_w (v:=str d2) (r_mov rfl) ?_
   obtain ⟨x30,hx30,h⟩:=h
   refine o_call cf_ref09_room rfl (ref09_room_c d0 (kArena_mk (d:=d0) (H3.up ((G8.trans (Fr.ext F9)).trans (Fr.ext F15)) sI (upc (.inr m10) (fun _ h=>.inl h))) (H6.up ((G8.trans (Fr.ext F9)).trans (Fr.ext F15)) sI (upc (.inr m10) (fun _ h=>.inl h)))) (1:Int) d2 ((hL.fr E16).cons (B9.ex F15).lt) hx30) rfl rfl ?_
   rintro _ w30 ⟨F30,rfl⟩
   have E31:=E16.trans F30
   refine o_w (v:=.bool (!x30)) (r_not rfl) ?_
   refine eo_nil_sq ?_
   refine ec_cond rfl (fun hc35=>?_) (fun hc35=>?_)
   ·replace h:=h.1 hc35
    refine ec_seq ?_
    refine ec_region ?_
    refine o_w (v:=.agg #[str [],.int .i64 0,.int .i64 0,.int .i64 0,.bool false,str [],.slice none ([]:List Int).length 0,.slice none ([]:List Int).length 0,.int .u64 0]) (r_build bld_api_Entry (vs:=[]) (cells:=[str [],.int .i64 0,.int .i64 0,.int .i64 0,.bool false,str [],.slice none ([]:List Int).length 0,.slice none ([]:List Int).length 0,.int .u64 0]) rfl rfl) ?_
    refine o_store rfl ((B9.ex F15).ex F30) (vs:=[str [],.int .i64 0,.int .i64 0,.int .i64 0,.bool false,str [],.slice none ([]:List Int).length 0,.slice none ([]:List Int).length 0,.int .u64 0]) rfl sz_api_Entry rfl rfl rfl ?_
    intro w36 F36 B36
    have E37:=Ext.st E31 F36 (by simp; omega)
    have B36':Blk w36 b9 _ [str [],.int .i64 0,.int .i64 0,.int .i64 0,.bool false,str [],.slice none ([]:List Int).length 0,.slice none ([]:List Int).length 0,.int .u64 0]:=B36
    refine o_w (v:=.int .i64 4) (r_asg rfl) ?_
    refine eo_nil_sq ?_
    refine ec_ret ?_
    refine sq_ret ?_
    subst h
    exact (endr2 (rv_a rfl (agg_api_Entry) B36' (vs:=[str [],.int .i64 0,.int .i64 0,.int .i64 0,.bool false,str [],.slice none ([]:List Int).length 0,.slice none ([]:List Int).length 0,.int .u64 0]) rfl rfl) (rv_t rfl) ⟨_,rfl,E37,_,rfl,(kEnt_mk (d:=(⟨([]:Str),(⟨(0:Int),(0:Int),(0:Int),false,([]:Str),([]:List Int),([]:List Int),(0:Int)⟩:Val)⟩:Ent)) stb_nil stb_nil)⟩)
   ·replace h:=h.2 hc35
    refine ec_skip ?_
    refine sq_n ?_
    refine ec_seq ?_
    refine ec_region ?_
    refine o_w (v:=.agg (cArena d0 A1 c2 A4 c5).toArray) (r_lda agg_api_Arena rfl (vs:=(cArena d0 A1 c2 A4 c5)) rfl ((S7.fr ((G14.trans (Fr.ext F15)).trans (Fr.ext F30)) sI).now.part (n:=3) rfl)) ?_
    refine o_w (v:=.int .i64 d1) (r_mov rfl) ?_
    refine o_w (v:=str d2) (r_mov rfl) ?_
    refine o_w (v:=str d3) (r_mov rfl) ?_
    obtain ⟨x40,hx40,h⟩:=h
    refine o_call cf_ref09_reg rfl (ref09_reg_c d0 (kArena_mk (d:=d0) (H3.up (((G8.trans (Fr.ext F9)).trans (Fr.ext F15)).trans (Fr.ext F30)) sI (upc (.inr m10) (fun _ h=>.inl h))) (H6.up (((G8.trans (Fr.ext F9)).trans (Fr.ext F15)).trans (Fr.ext F30)) sI (upc (.inr m10) (fun _ h=>.inl h)))) d1 d2 false d3 ((hL.fr E31).cons ((B9.ex F15).ex F30).lt) hx40) rfl rfl ?_
    rintro _ w40 ⟨F40,cs41,rfl,H42⟩
    have E43:=E31.trans F40
    obtain ⟨A47,c48,A50,c51,rfl,H49,H52⟩:=kEnt_open H42
    refine o_w (v:=.agg (cEnt x40.1 A47 c48 A50 c51).toArray) (r_ext rfl rfl) ?_
    refine o_w (v:=.int .i64 x40.2) (r_ext rfl rfl) ?_
    refine o_store rfl (((B9.ex F15).ex F30).ex F40) (vs:=(cEnt x40.1 A47 c48 A50 c51)) rfl sz_api_Entry rfl rfl rfl ?_
    intro w53 F53 B53
    have E54:=Ext.st E43 F53 (by simp; omega)
    have G57:Fr (b9::L) w40 w53:=(Fr.refl _ _).stp F53 (upc (.inl mH) (fun m hm=>by cases hm))
    have B53':Blk w53 b9 _ (cEnt x40.1 A47 c48 A50 c51):=B53
    refine o_w (v:=.int .i64 x40.2) (r_asg rfl) ?_
    refine eo_nil_sq ?_
    refine ec_ret ?_
    subst h
    exact (endr2 (rv_a rfl (agg_api_Entry) B53' (vs:=(cEnt x40.1 A47 c48 A50 c51)) rfl rfl) (rv_t rfl) ⟨_,rfl,E54,_,rfl,(kEnt_mk (d:=x40.1) (H49.up G57 sI (fun m hm=>Or.inl (mT hm))) (H52.up G57 sI (fun m hm=>Or.inl (mT hm))))⟩)
def ref09_Delete_raw (d0:Arena) (d1:Int) (d2:Str) (y:Ent × Int):Prop :=
 ∃ x15,ref09_can_raw d0 d1 d2 x15∧(((x15 != (0:Int))=true→(y=((⟨([]:Str),(⟨(0:Int),(0:Int),(0:Int),false,([]:Str),([]:List Int),([]:List Int),(0:Int)⟩:Val)⟩:Ent),x15)))∧((x15 != (0:Int))=false→((sma d0)∧(((decide ((findA d0 (1:Int) d2)<0))=true→(y=((⟨([]:Str),(⟨(0:Int),(0:Int),(0:Int),false,([]:Str),([]:List Int),([]:List Int),(0:Int)⟩:Val)⟩:Ent),(9:Int))))∧((decide ((findA d0 (1:Int) d2)<0))=false→(∃ x36,ref09_val_raw d0 (1:Int) d2 x36∧((x36.dead=true→(y=((⟨([]:Str),(⟨(0:Int),(0:Int),(0:Int),false,([]:Str),([]:List Int),([]:List Int),(0:Int)⟩:Val)⟩:Ent),(9:Int))))∧(x36.dead=false→(∃ x55,ref09_reg_raw d0 d1 d2 true ([]:Str) x55∧(y=(x55.1,x55.2)))))))))))
set_option maxRecDepth 20000 in
set_option maxHeartbeats 4000000 in
theorem ref09_Delete_c {L:List Nat} {w:World} {csP0:List Value} (d0:Arena) (HP0:Stb L w (fun w=>kArena.r w csP0 d0)) (d1:Int) (d2:Str) (hL:Lt L w) {y:Ent × Int} (h:ref09_Delete_raw d0 d1 d2 y) :
  Calls Tryz.prog 10 [.agg csP0.toArray,.int .i64 d1,str d2].toArray w (Ret fun v w'=>Ext w w'∧∃ (cs90:List Value),v=.tuple #[.agg cs90.toArray,.int .i64 y.2]∧Stb L w' (fun w=>kEnt.r w cs90 y.1)):=by
 obtain ⟨A1,c2,A4,c5,rfl,H3,H6⟩:=kArena_open HP0
 unfold ref09_Delete_raw at h
 refine calls_ec Tryz.func10 rfl rfl rfl ?_
 refine ec_seq ?_
 refine ec_region ?_
 refine o_box (cs:=(cArena d0 A1 c2 A4 c5)) rfl rfl rfl ?_
 intro b7 w7 e7 F7 B7
 have S7:=B7.stb (nin hL e7)
 have G8:Fr L w w7:=Fr.ext F7
 refine o_alloc zero_api_Entry rfl rfl rfl ?_
 intro b9 w9 e9 F9 B9
 have n9:w.heap.size≤b9:=by rw [e9]; exact F7.size
 have m10:w.heap.size≤b9:=by rw [e9]; exact G8.size
 have E12:=F7.trans F9
 have G14:Fr L w7 w9:=Fr.ext F9
 refine o_w (v:=.int .i64 0) (r_asg rfl) ?_
 refine eo_nil_sq ?_
 refine ec_seq ?_
 refine ec_region ?_
 refine o_w (v:=.agg (cArena d0 A1 c2 A4 c5).toArray) (r_lda agg_api_Arena rfl (vs:=(cArena d0 A1 c2 A4 c5)) rfl ((S7.fr G14 sI).now.part (n:=3) rfl)) ?_
 refine o_w (v:=.int .i64 d1) (r_mov rfl) ?_
 refine o_w (v:=str d2) (r_mov rfl) ?_
 obtain ⟨x15,hx15,h⟩:=h
 refine o_call cf_ref09_can rfl (ref09_can_c d0 (kArena_mk (d:=d0) (H3.up (G8.trans (Fr.ext F9)) sI (upc (.inr m10) (fun _ h=>.inl h))) (H6.up (G8.trans (Fr.ext F9)) sI (upc (.inr m10) (fun _ h=>.inl h)))) d1 d2 ((hL.fr E12).cons B9.lt) hx15) rfl rfl ?_
 rintro _ w15 ⟨F15,rfl⟩
 have E16:=E12.trans F15
 refine o_w (v:=.int .i64 x15) (r_asg rfl) ?_
 refine eo_nil_sq ?_
 iterate 2 refine ec_seq ?_
 refine ec_region ?_
 refine o_w (v:=.int .i64 x15) (r_mov rfl) ?_
 refine o_w (v:=.bool (x15 != (0:Int))) (r_int rfl rfl rfl) ?_
 refine eo_nil_sq ?_
 refine ec_cond rfl (fun hc20=>?_) (fun hc20=>?_)
 ·replace h:=h.1 hc20
  refine ec_seq ?_
  refine ec_region ?_
  refine o_w (v:=.agg #[str [],.int .i64 0,.int .i64 0,.int .i64 0,.bool false,str [],.slice none ([]:List Int).length 0,.slice none ([]:List Int).length 0,.int .u64 0]) (r_build bld_api_Entry (vs:=[]) (cells:=[str [],.int .i64 0,.int .i64 0,.int .i64 0,.bool false,str [],.slice none ([]:List Int).length 0,.slice none ([]:List Int).length 0,.int .u64 0]) rfl rfl) ?_
  refine o_w (v:=.int .i64 x15) (r_mov rfl) ?_
  refine o_store rfl (B9.ex F15) (vs:=[str [],.int .i64 0,.int .i64 0,.int .i64 0,.bool false,str [],.slice none ([]:List Int).length 0,.slice none ([]:List Int).length 0,.int .u64 0]) rfl sz_api_Entry rfl rfl rfl ?_
  intro w21 F21 B21
  have E22:=Ext.st E16 F21 (by simp; omega)
  have B21':Blk w21 b9 _ [str [],.int .i64 0,.int .i64 0,.int .i64 0,.bool false,str [],.slice none ([]:List Int).length 0,.slice none ([]:List Int).length 0,.int .u64 0]:=B21
  refine o_w (v:=.int .i64 x15) (r_asg rfl) ?_
  refine eo_nil_sq ?_
  refine ec_ret ?_
  refine sq_ret ?_
  subst h
  exact (endr2 (rv_a rfl (agg_api_Entry) B21' (vs:=[str [],.int .i64 0,.int .i64 0,.int .i64 0,.bool false,str [],.slice none ([]:List Int).length 0,.slice none ([]:List Int).length 0,.int .u64 0]) rfl rfl) (rv_t rfl) ⟨_,rfl,E22,_,rfl,(kEnt_mk (d:=(⟨([]:Str),(⟨(0:Int),(0:Int),(0:Int),false,([]:Str),([]:List Int),([]:List Int),(0:Int)⟩:Val)⟩:Ent)) stb_nil stb_nil)⟩)
 ·replace h:=h.2 hc20
  refine ec_skip ?_
  refine sq_n ?_
  iterate 2 refine ec_seq ?_
  refine ec_region ?_
  refine o_w (v:=.agg (cArena d0 A1 c2 A4 c5).toArray) (r_lda agg_api_Arena rfl (vs:=(cArena d0 A1 c2 A4 c5)) rfl ((S7.fr (G14.trans (Fr.ext F15)) sI).now.part (n:=3) rfl)) ?_
  refine o_w (v:=str d2) (r_mov rfl) ?_
  obtain ⟨ha26,h⟩:=h
  refine o_call cf_ref08_Find rfl (ref08_Find_c d0 (kArena_mk (d:=d0) (H3.up ((G8.trans (Fr.ext F9)).trans (Fr.ext F15)) sI (upc (.inr m10) (fun _ h=>.inl h))) (H6.up ((G8.trans (Fr.ext F9)).trans (Fr.ext F15)) sI (upc (.inr m10) (fun _ h=>.inl h)))) (1:Int) d2 ((hL.fr E16).cons (B9.ex F15).lt) (refFind_ev d0 (1:Int) d2 ha26)) rfl rfl ?_
  rintro _ w25 ⟨F25,rfl⟩
  have E27:=E16.trans F25
  refine o_w (v:=.bool (decide ((findA d0 (1:Int) d2)<0))) (r_int rfl rfl rfl) ?_
  refine o_w (v:=.bool (decide ((findA d0 (1:Int) d2)<0))) (r_mov rfl) ?_
  rcases Bool.eq_false_or_eq_true (decide ((findA d0 (1:Int) d2)<0)) with hc31 | hc31
  ·replace h:=h.1 hc31
   iterate 4 refine o_no (want_f (t:=21) rfl rfl hc31) rfl ?_
   refine o_w (v:=.bool true) (r_pickT rfl hc31 rfl) ?_
   refine eo_nil_sq ?_
   refine ec_condT rfl rfl ?_
   refine ec_seq ?_
   refine ec_region ?_
   refine o_w (v:=.agg #[str [],.int .i64 0,.int .i64 0,.int .i64 0,.bool false,str [],.slice none ([]:List Int).length 0,.slice none ([]:List Int).length 0,.int .u64 0]) (r_build bld_api_Entry (vs:=[]) (cells:=[str [],.int .i64 0,.int .i64 0,.int .i64 0,.bool false,str [],.slice none ([]:List Int).length 0,.slice none ([]:List Int).length 0,.int .u64 0]) rfl rfl) ?_
   refine o_store rfl ((B9.ex F15).ex F25) (vs:=[str [],.int .i64 0,.int .i64 0,.int .i64 0,.bool false,str [],.slice none ([]:List Int).length 0,.slice none ([]:List Int).length 0,.int .u64 0]) rfl sz_api_Entry rfl rfl rfl ?_
   intro w32 F32 B32
   have E33:=Ext.st E27 F32 (by simp; omega)
   have B32':Blk w32 b9 _ [str [],.int .i64 0,.int .i64 0,.int .i64 0,.bool false,str [],.slice none ([]:List Int).length 0,.slice none ([]:List Int).length 0,.int .u64 0]:=B32
   refine o_w (v:=.int .i64 9) (r_asg rfl) ?_
   refine eo_nil_sq ?_
   refine ec_ret ?_
   refine sq_ret ?_
   subst h
   exact (endr2 (rv_a rfl (agg_api_Entry) B32' (vs:=[str [],.int .i64 0,.int .i64 0,.int .i64 0,.bool false,str [],.slice none ([]:List Int).length 0,.slice none ([]:List Int).length 0,.int .u64 0]) rfl rfl) (rv_t rfl) ⟨_,rfl,E33,_,rfl,(kEnt_mk (d:=(⟨([]:Str),(⟨(0:Int),(0:Int),(0:Int),false,([]:Str),([]:List Int),([]:List Int),(0:Int)⟩:Val)⟩:Ent)) stb_nil stb_nil)⟩)
  ·replace h:=h.2 hc31
   refine o_v (v:=.agg (cArena d0 A1 c2 A4 c5).toArray) (r_lda agg_api_Arena rfl (vs:=(cArena d0 A1 c2 A4 c5)) rfl ((S7.fr ((G14.trans (Fr.ext F15)).trans (Fr.ext F25)) sI).now.part (n:=3) rfl)) (want_t (t:=21) rfl rfl hc31) rfl rfl ?_
   refine o_v (v:=str d2) (r_mov rfl) (want_t (t:=21) rfl rfl hc31) rfl rfl ?_
   obtain ⟨x36,hx36,h⟩:=h
   refine o_call cf_ref09_val rfl (ref09_val_c d0 (kArena_mk (d:=d0) (H3.up (((G8.trans (Fr.ext F9)).trans (Fr.ext F15)).trans (Fr.ext F25)) sI (upc (.inr m10) (fun _ h=>.inl h))) (H6.up (((G8.trans (Fr.ext F9)).trans (Fr.ext F15)).trans (Fr.ext F25)) sI (upc (.inr m10) (fun _ h=>.inl h)))) (1:Int) d2 ((hL.fr E27).cons ((B9.ex F15).ex F25).lt) hx36) (want_t (t:=21) rfl rfl hc31) rfl ?_
   rintro _ w36 ⟨F36,cs37,rfl,H38⟩
   have E39:=E27.trans F36
   have G40:=(((G8.trans (Fr.ext F9)).trans (Fr.ext F15)).trans (Fr.ext F25)).trans (Fr.ext F36)
   obtain ⟨A43,c44,A46,c47,rfl,H45,H48⟩:=kVal_open H38
   refine o_v (v:=.bool x36.dead) (r_fld fldv_api_Value_3 one_bool rfl rfl) (want_t (t:=21) rfl rfl hc31) rfl rfl ?_
   refine o_w (v:=.bool x36.dead) (r_pickF rfl hc31 rfl) ?_
   refine eo_nil_sq ?_
   refine ec_cond rfl (fun hc49=>?_) (fun hc49=>?_)
   ·replace h:=h.1 hc49
    refine ec_seq ?_
    refine ec_region ?_
    refine o_w (v:=.agg #[str [],.int .i64 0,.int .i64 0,.int .i64 0,.bool false,str [],.slice none ([]:List Int).length 0,.slice none ([]:List Int).length 0,.int .u64 0]) (r_build bld_api_Entry (vs:=[]) (cells:=[str [],.int .i64 0,.int .i64 0,.int .i64 0,.bool false,str [],.slice none ([]:List Int).length 0,.slice none ([]:List Int).length 0,.int .u64 0]) rfl rfl) ?_
    refine o_store rfl (((B9.ex F15).ex F25).ex F36) (vs:=[str [],.int .i64 0,.int .i64 0,.int .i64 0,.bool false,str [],.slice none ([]:List Int).length 0,.slice none ([]:List Int).length 0,.int .u64 0]) rfl sz_api_Entry rfl rfl rfl ?_
    intro w50 F50 B50
    have E51:=Ext.st E39 F50 (by simp; omega)
    have B50':Blk w50 b9 _ [str [],.int .i64 0,.int .i64 0,.int .i64 0,.bool false,str [],.slice none ([]:List Int).length 0,.slice none ([]:List Int).length 0,.int .u64 0]:=B50
    refine o_w (v:=.int .i64 9) (r_asg rfl) ?_
    refine eo_nil_sq ?_
    refine ec_ret ?_
    refine sq_ret ?_
    subst h
    exact (endr2 (rv_a rfl (agg_api_Entry) B50' (vs:=[str [],.int .i64 0,.int .i64 0,.int .i64 0,.bool false,str [],.slice none ([]:List Int).length 0,.slice none ([]:List Int).length 0,.int .u64 0]) rfl rfl) (rv_t rfl) ⟨_,rfl,E51,_,rfl,(kEnt_mk (d:=(⟨([]:Str),(⟨(0:Int),(0:Int),(0:Int),false,([]:Str),([]:List Int),([]:List Int),(0:Int)⟩:Val)⟩:Ent)) stb_nil stb_nil)⟩)
   ·replace h:=h.2 hc49
    refine ec_skip ?_
    refine sq_n ?_
    refine ec_seq ?_
    refine ec_region ?_
    refine o_w (v:=.agg (cArena d0 A1 c2 A4 c5).toArray) (r_lda agg_api_Arena rfl (vs:=(cArena d0 A1 c2 A4 c5)) rfl ((S7.fr (((G14.trans (Fr.ext F15)).trans (Fr.ext F25)).trans (Fr.ext F36)) sI).now.part (n:=3) rfl)) ?_
    refine o_w (v:=.int .i64 d1) (r_mov rfl) ?_
    refine o_w (v:=str d2) (r_mov rfl) ?_
    obtain ⟨x55,hx55,h⟩:=h
    refine o_call cf_ref09_reg rfl (ref09_reg_c d0 (kArena_mk (d:=d0) (H3.up G40 sI (upc (.inr m10) (fun _ h=>.inl h))) (H6.up G40 sI (upc (.inr m10) (fun _ h=>.inl h)))) d1 d2 true ([]:Str) ((hL.fr E39).cons (((B9.ex F15).ex F25).ex F36).lt) hx55) rfl rfl ?_
    rintro _ w55 ⟨F55,cs56,rfl,H57⟩
    have E58:=E39.trans F55
    obtain ⟨A63,c64,A66,c67,rfl,H65,H68⟩:=kEnt_open H57
    refine o_w (v:=.agg (cEnt x55.1 A63 c64 A66 c67).toArray) (r_ext rfl rfl) ?_
    refine o_w (v:=.int .i64 x55.2) (r_ext rfl rfl) ?_
    refine o_store rfl ((((B9.ex F15).ex F25).ex F36).ex F55) (vs:=(cEnt x55.1 A63 c64 A66 c67)) rfl sz_api_Entry rfl rfl rfl ?_
    intro w69 F69 B69
    have E70:=Ext.st E58 F69 (by simp; omega)
    have G74:Fr (b9::L) w55 w69:=(Fr.refl _ _).stp F69 (upc (.inl mH) (fun m hm=>by cases hm))
    have B69':Blk w69 b9 _ (cEnt x55.1 A63 c64 A66 c67):=B69
    refine o_w (v:=.int .i64 x55.2) (r_asg rfl) ?_
    refine eo_nil_sq ?_
    refine ec_ret ?_
    subst h
    exact (endr2 (rv_a rfl (agg_api_Entry) B69' (vs:=(cEnt x55.1 A63 c64 A66 c67)) rfl rfl) (rv_t rfl) ⟨_,rfl,E70,_,rfl,(kEnt_mk (d:=x55.1) (H65.up G74 sI (fun m hm=>Or.inl (mT hm))) (H68.up G74 sI (fun m hm=>Or.inl (mT hm))))⟩)
def ref09_only_raw (d0:Int) (d1:Int) (y:(List Int)):Prop :=
 (0≤(8:Int)∧(8:Int) * 8≤281474976710656∧(8:Int)≤9223372036854775807)∧((0≤d0∧d0<((List.replicate ((8:Int)).toNat (0:Int)).length:Int))∧(y=((List.replicate ((8:Int)).toNat (0:Int)).set d0.toNat d1)))
set_option maxRecDepth 20000 in
set_option maxHeartbeats 4000000 in
theorem ref09_only_c {L:List Nat} {w:World} (d0:Int) (d1:Int) (hL:Lt L w) {y:(List Int)} (h:ref09_only_raw d0 d1 y) :
  Calls Tryz.prog 43 [.int .i64 d0,.int .i64 d1].toArray w (Ret fun v w'=>Ext w w'∧OwnS (kI .i64) w.heap.size 3 L w' v y∧(∀ q∈own v,w.heap.size≤q)):=by
 have hL0:=hL
 unfold ref09_only_raw at h
 refine calls_ec Tryz.func43 rfl rfl rfl ?_
 refine ec_seq ?_
 refine ec_region ?_
 refine o_w (v:=.slice none ([]:List Int).length 0) (r_asg rfl) ?_
 refine eo_nil_sq ?_
 refine ec_seq ?_
 refine ec_region ?_
 have lo1:w.heap.size≤w.heap.size:=Nat.le_refl _
 obtain ⟨ha2,h⟩:=h
 refine o_make (k:=(kI .i64)) slc_s_int rfl rfl (z:=(0:Int)) (fun _=>rfl) rfl rfl ha2 hL rfl rfl (by decide) ?_
 intro v1 w1 F1 O1 N1
 refine o_w (v:=v1) (r_asg rfl) ?_
 refine eo_nil_sq ?_
 refine ec_seq ?_
 refine ec_region ?_
 refine o_w (v:=v1) (r_mov rfl) ?_
 refine o_w (v:=.int .i64 d0) (r_mov rfl) ?_
 refine o_w (v:=.int .i64 d1) (r_mov rfl) ?_
 obtain ⟨A3,c4,rfl⟩:=O1.shape
 obtain ⟨hn8,H7⟩:=O1.stillAt
 have Zanc9:=Fr.refl L w1
 obtain ⟨ha11,h⟩:=h
 obtain ⟨cs12,l14,H13⟩:=Stb.elem (by decide) (H7.fr Zanc9 sI) d0 ha11.1 ha11.2
 obtain ⟨rfl,H13'⟩:=kI_open2 H13
 refine o_w (r_ia slc_s_int rfl rfl ((H7.fr Zanc9 sI).now.2 _ (lt_toNat ha11.1 ha11.2)).1 ha11.1 (hn8 ▸ ha11.2)) ?_
 refine o_ostore2 (by first | exact hn8 | (simp only [List.length_set]; exact hn8)) rfl O1 ha11.1 (hn8 ▸ ha11.2) rfl (vs:=[.int .i64 d1]) sz_int rfl rfl (x:=d1) (fun _ _=>rfl) rfl ?_
 intro w15 F15 O15
 have E16:=Ext.st F1 F15 (fun m hm=>Nat.le_trans lo1 (O1.lo m hm))
 refine eo_nil_sq ?_
 refine ec_seq ?_
 refine ec_region ?_
 refine o_w (v:=(.slice A3 (List.replicate ((8:Int)).toNat (0:Int)).length c4)) (r_mov rfl) ?_
 refine o_w (v:=(.slice A3 (List.replicate ((8:Int)).toNat (0:Int)).length c4)) (r_asg rfl) ?_
 refine eo_nil_sq ?_
 refine ec_ret ?_
 subst h
 exact (end1 rfl ⟨_,rfl,E16,(O15.weak (by simp)).mono lo1 hL0,fun q hq=>Nat.le_trans lo1 (O15.lo q hq)⟩)
def ref09_Add_raw (d0:Arena) (d1:Int) (d2:Str) (d3:Int) (y:Ent × Int):Prop :=
 ∃ x15,ref09_can_raw d0 d1 d2 x15∧(((x15 != (0:Int))=true→(y=((⟨([]:Str),(⟨(0:Int),(0:Int),(0:Int),false,([]:Str),([]:List Int),([]:List Int),(0:Int)⟩:Val)⟩:Ent),x15)))∧((x15 != (0:Int))=false→(((((d3==0)||(decide (65535<d3)))||(decide (d3<(-65535:Int))))=true→(y=((⟨([]:Str),(⟨(0:Int),(0:Int),(0:Int),false,([]:Str),([]:List Int),([]:List Int),(0:Int)⟩:Val)⟩:Ent),(1:Int))))∧((((d3==0)||(decide (65535<d3)))||(decide (d3<(-65535:Int))))=false→(∃ x30,ref09_room_raw d0 (2:Int) d2 x30∧(((!x30)=true→(y=((⟨([]:Str),(⟨(0:Int),(0:Int),(0:Int),false,([]:Str),([]:List Int),([]:List Int),(0:Int)⟩:Val)⟩:Ent),(4:Int))))∧((!x30)=false→(∃ x40,ref09_val_raw d0 (2:Int) d2 x40∧(((decide (0<d3))=true→((0≤d1∧d1<(x40.plus.length:Int))∧((((decide (65535<(IntKind.i64.wrap ((nth x40.plus d1) + d3))))||false)=true→(y=((⟨([]:Str),(⟨(0:Int),(0:Int),(0:Int),false,([]:Str),([]:List Int),([]:List Int),(0:Int)⟩:Val)⟩:Ent),(5:Int))))∧(((decide (65535<(IntKind.i64.wrap ((nth x40.plus d1) + d3))))||false)=false→(∃ x82,ref09_only_raw d1 (IntKind.i64.wrap ((nth x40.plus d1) + d3)) x82∧(∃ x95,ref09_only_raw d1 (0:Int) x95∧(y=((⟨d2,(⟨(2:Int),(0:Int),(0:Int),false,([]:Str),x82,x95,(0:Int)⟩:Val)⟩:Ent),(0:Int)))))))))∧((decide (0<d3))=false→((0≤d1∧d1<(x40.minus.length:Int))∧(((decide (65535<(IntKind.i64.wrap ((nth x40.minus d1) - d3))))=true→(y=((⟨([]:Str),(⟨(0:Int),(0:Int),(0:Int),false,([]:Str),([]:List Int),([]:List Int),(0:Int)⟩:Val)⟩:Ent),(5:Int))))∧((decide (65535<(IntKind.i64.wrap ((nth x40.minus d1) - d3))))=false→(∃ x140,ref09_only_raw d1 (0:Int) x140∧(∃ x153,ref09_only_raw d1 (IntKind.i64.wrap ((nth x40.minus d1) - d3)) x153∧(y=((⟨d2,(⟨(2:Int),(0:Int),(0:Int),false,([]:Str),x140,x153,(0:Int)⟩:Val)⟩:Ent),(0:Int))))))))))))))))))
set_option maxRecDepth 20000 in
set_option maxHeartbeats 4000000 in
theorem ref09_Add_c {L:List Nat} {w:World} {csP0:List Value} (d0:Arena) (HP0:Stb L w (fun w=>kArena.r w csP0 d0)) (d1:Int) (d2:Str) (d3:Int) (hL:Lt L w) {y:Ent × Int} (h:ref09_Add_raw d0 d1 d2 d3 y) :
  Calls Tryz.prog 12 [.agg csP0.toArray,.int .i64 d1,str d2,.int .i64 d3].toArray w (Ret fun v w'=>Ext w w'∧∃ (cs90:List Value),v=.tuple #[.agg cs90.toArray,.int .i64 y.2]∧Stb L w' (fun w=>kEnt.r w cs90 y.1)):=by
 obtain ⟨A1,c2,A4,c5,rfl,H3,H6⟩:=kArena_open HP0
 unfold ref09_Add_raw at h
 refine calls_ec Tryz.func12 rfl rfl rfl ?_
 refine ec_seq ?_
 refine ec_region ?_
 refine o_box (cs:=(cArena d0 A1 c2 A4 c5)) rfl rfl rfl ?_
 intro b7 w7 e7 F7 B7
 have S7:=B7.stb (nin hL e7)
 have G8:Fr L w w7:=Fr.ext F7
 refine o_alloc zero_api_Entry rfl rfl rfl ?_
 intro b9 w9 e9 F9 B9
 have n9:w.heap.size≤b9:=by rw [e9]; exact F7.size
 have m10:w.heap.size≤b9:=by rw [e9]; exact G8.size
 have E12:=F7.trans F9
 have G14:Fr L w7 w9:=Fr.ext F9
 refine o_w (v:=.int .i64 0) (r_asg rfl) ?_
 refine eo_nil_sq ?_
 refine ec_seq ?_
 refine ec_region ?_
 refine o_w (v:=.agg (cArena d0 A1 c2 A4 c5).toArray) (r_lda agg_api_Arena rfl (vs:=(cArena d0 A1 c2 A4 c5)) rfl ((S7.fr G14 sI).now.part (n:=3) rfl)) ?_
 refine o_w (v:=.int .i64 d1) (r_mov rfl) ?_
 refine o_w (v:=str d2) (r_mov rfl) ?_
 obtain ⟨x15,hx15,h⟩:=h
 refine o_call cf_ref09_can rfl (ref09_can_c d0 (kArena_mk (d:=d0) (H3.up (G8.trans (Fr.ext F9)) sI (upc (.inr m10) (fun _ h=>.inl h))) (H6.up (G8.trans (Fr.ext F9)) sI (upc (.inr m10) (fun _ h=>.inl h)))) d1 d2 ((hL.fr E12).cons B9.lt) hx15) rfl rfl ?_
 rintro _ w15 ⟨F15,rfl⟩
 have E16:=E12.trans F15
 refine o_w (v:=.int .i64 x15) (r_asg rfl) ?_
 refine eo_nil_sq ?_
 iterate 2 refine ec_seq ?_
 refine ec_region ?_
 refine o_w (v:=.int .i64 x15) (r_mov rfl) ?_
 refine o_w (v:=.bool (x15 != (0:Int))) (r_int rfl rfl rfl) ?_
 refine eo_nil_sq ?_
 refine ec_cond rfl (fun hc20=>?_) (fun hc20=>?_)
 ·replace h:=h.1 hc20
  refine ec_seq ?_
  refine ec_region ?_
  refine o_w (v:=.agg #[str [],.int .i64 0,.int .i64 0,.int .i64 0,.bool false,str [],.slice none ([]:List Int).length 0,.slice none ([]:List Int).length 0,.int .u64 0]) (r_build bld_api_Entry (vs:=[]) (cells:=[str [],.int .i64 0,.int .i64 0,.int .i64 0,.bool false,str [],.slice none ([]:List Int).length 0,.slice none ([]:List Int).length 0,.int .u64 0]) rfl rfl) ?_
  refine o_w (v:=.int .i64 x15) (r_mov rfl) ?_
  refine o_store rfl (B9.ex F15) (vs:=[str [],.int .i64 0,.int .i64 0,.int .i64 0,.bool false,str [],.slice none ([]:List Int).length 0,.slice none ([]:List Int).length 0,.int .u64 0]) rfl sz_api_Entry rfl rfl rfl ?_
  intro w21 F21 B21
  have E22:=Ext.st E16 F21 (by simp; omega)
  have B21':Blk w21 b9 _ [str [],.int .i64 0,.int .i64 0,.int .i64 0,.bool false,str [],.slice none ([]:List Int).length 0,.slice none ([]:List Int).length 0,.int .u64 0]:=B21
  refine o_w (v:=.int .i64 x15) (r_asg rfl) ?_
  refine eo_nil_sq ?_
  refine ec_ret ?_
  refine sq_ret ?_
  subst h
  exact (endr2 (rv_a rfl (agg_api_Entry) B21' (vs:=[str [],.int .i64 0,.int .i64 0,.int .i64 0,.bool false,str [],.slice none ([]:List Int).length 0,.slice none ([]:List Int).length 0,.int .u64 0]) rfl rfl) (rv_t rfl) ⟨_,rfl,E22,_,rfl,(kEnt_mk (d:=(⟨([]:Str),(⟨(0:Int),(0:Int),(0:Int),false,([]:Str),([]:List Int),([]:List Int),(0:Int)⟩:Val)⟩:Ent)) stb_nil stb_nil)⟩)
 ·replace h:=h.2 hc20
  refine ec_skip ?_
  refine sq_n ?_
  iterate 2 refine ec_seq ?_
  refine ec_region ?_
  refine o_w (v:=.int .i64 d3) (r_mov rfl) ?_
  refine o_w (v:=.bool (d3==0)) (r_int rfl rfl rfl) ?_
  refine o_w (v:=.bool (d3==0)) (r_mov rfl) ?_
  refine o_vg (v:=.int .i64 d3) (want_cf (t:=24) rfl rfl) (fun hk=>(r_mov rfl)) rfl rfl ?_
  refine o_vg (v:=.bool (decide (65535<d3))) (want_cf (t:=24) rfl rfl) (fun hk=>(r_int (gdT hk) rfl rfl)) rfl rfl ?_
  refine o_w (v:=.bool ((d3==0)||(decide (65535<d3)))) (r_pickOr rfl rfl (fun hf=>(gdT (notT hf)))) ?_
  refine o_w (v:=.bool ((d3==0)||(decide (65535<d3)))) (r_mov rfl) ?_
  refine o_vg (v:=.int .i64 d3) (want_cf (t:=28) rfl rfl) (fun hk=>(r_mov rfl)) rfl rfl ?_
  refine o_vg (v:=.bool (decide (d3<(-65535:Int)))) (want_cf (t:=28) rfl rfl) (fun hk=>(r_int (gdT hk) rfl rfl)) rfl rfl ?_
  refine o_w (v:=.bool (((d3==0)||(decide (65535<d3)))||(decide (d3<(-65535:Int))))) (r_pickOr rfl rfl (fun hf=>(gdT (notT hf)))) ?_
  refine eo_nil_sq ?_
  refine ec_cond rfl (fun hc25=>?_) (fun hc25=>?_)
  ·replace h:=h.1 hc25
   refine ec_seq ?_
   refine ec_region ?_
   refine o_w (v:=.agg #[str [],.int .i64 0,.int .i64 0,.int .i64 0,.bool false,str [],.slice none ([]:List Int).length 0,.slice none ([]:List Int).length 0,.int .u64 0]) (r_build bld_api_Entry (vs:=[]) (cells:=[str [],.int .i64 0,.int .i64 0,.int .i64 0,.bool false,str [],.slice none ([]:List Int).length 0,.slice none ([]:List Int).length 0,.int .u64 0]) rfl rfl) ?_
   refine o_store rfl (B9.ex F15) (vs:=[str [],.int .i64 0,.int .i64 0,.int .i64 0,.bool false,str [],.slice none ([]:List Int).length 0,.slice none ([]:List Int).length 0,.int .u64 0]) rfl sz_api_Entry rfl rfl rfl ?_
   intro w26 F26 B26
   have E27:=Ext.st E16 F26 (by simp; omega)
   have B26':Blk w26 b9 _ [str [],.int .i64 0,.int .i64 0,.int .i64 0,.bool false,str [],.slice none ([]:List Int).length 0,.slice none ([]:List Int).length 0,.int .u64 0]:=B26
   refine o_w (v:=.int .i64 1) (r_asg rfl) ?_
   refine eo_nil_sq ?_
   refine ec_ret ?_
   refine sq_ret ?_
   subst h
   exact (endr2 (rv_a rfl (agg_api_Entry) B26' (vs:=[str [],.int .i64 0,.int .i64 0,.int .i64 0,.bool false,str [],.slice none ([]:List Int).length 0,.slice none ([]:List Int).length 0,.int .u64 0]) rfl rfl) (rv_t rfl) ⟨_,rfl,E27,_,rfl,(kEnt_mk (d:=(⟨([]:Str),(⟨(0:Int),(0:Int),(0:Int),false,([]:Str),([]:List Int),([]:List Int),(0:Int)⟩:Val)⟩:Ent)) stb_nil stb_nil)⟩)
  ·replace h:=h.2 hc25
   refine ec_skip ?_
   refine sq_n ?_
   iterate 2 refine ec_seq ?_
   refine ec_region ?_
   refine o_w (v:=.agg (cArena d0 A1 c2 A4 c5).toArray) (r_lda agg_api_Arena rfl (vs:=(cArena d0 A1 c2 A4 c5)) rfl ((S7.fr (G14.trans (Fr.ext F15)) sI).now.part (n:=3) rfl)) ?_
   refine o_w (v:=str d2) (r_mov rfl) ?_
   obtain ⟨x30,hx30,h⟩:=h
   refine o_call cf_ref09_room rfl (ref09_room_c d0 (kArena_mk (d:=d0) (H3.up ((G8.trans (Fr.ext F9)).trans (Fr.ext F15)) sI (upc (.inr m10) (fun _ h=>.inl h))) (H6.up ((G8.trans (Fr.ext F9)).trans (Fr.ext F15)) sI (upc (.inr m10) (fun _ h=>.inl h)))) (2:Int) d2 ((hL.fr E16).cons (B9.ex F15).lt) hx30) rfl rfl ?_
   rintro _ w30 ⟨F30,rfl⟩
   have E31:=E16.trans F30
   refine o_w (v:=.bool (!x30)) (r_not rfl) ?_
   refine eo_nil_sq ?_
   refine ec_cond rfl (fun hc35=>?_) (fun hc35=>?_)
   ·replace h:=h.1 hc35
    refine ec_seq ?_
    refine ec_region ?_
    refine o_w (v:=.agg #[str [],.int .i64 0,.int .i64 0,.int .i64 0,.bool false,str [],.slice none ([]:List Int).length 0,.slice none ([]:List Int).length 0,.int .u64 0]) (r_build bld_api_Entry (vs:=[]) (cells:=[str [],.int .i64 0,.int .i64 0,.int .i64 0,.bool false,str [],.slice none ([]:List Int).length 0,.slice none ([]:List Int).length 0,.int .u64 0]) rfl rfl) ?_
    refine o_store rfl ((B9.ex F15).ex F30) (vs:=[str [],.int .i64 0,.int .i64 0,.int .i64 0,.bool false,str [],.slice none ([]:List Int).length 0,.slice none ([]:List Int).length 0,.int .u64 0]) rfl sz_api_Entry rfl rfl rfl ?_
    intro w36 F36 B36
    have E37:=Ext.st E31 F36 (by simp; omega)
    have B36':Blk w36 b9 _ [str [],.int .i64 0,.int .i64 0,.int .i64 0,.bool false,str [],.slice none ([]:List Int).length 0,.slice none ([]:List Int).length 0,.int .u64 0]:=B36
    refine o_w (v:=.int .i64 4) (r_asg rfl) ?_
    refine eo_nil_sq ?_
    refine ec_ret ?_
    refine sq_ret ?_
    subst h
    exact (endr2 (rv_a rfl (agg_api_Entry) B36' (vs:=[str [],.int .i64 0,.int .i64 0,.int .i64 0,.bool false,str [],.slice none ([]:List Int).length 0,.slice none ([]:List Int).length 0,.int .u64 0]) rfl rfl) (rv_t rfl) ⟨_,rfl,E37,_,rfl,(kEnt_mk (d:=(⟨([]:Str),(⟨(0:Int),(0:Int),(0:Int),false,([]:Str),([]:List Int),([]:List Int),(0:Int)⟩:Val)⟩:Ent)) stb_nil stb_nil)⟩)
   ·replace h:=h.2 hc35
    refine ec_skip ?_
    refine sq_n ?_
    refine ec_seq ?_
    refine ec_region ?_
    refine o_w (v:=.agg (cArena d0 A1 c2 A4 c5).toArray) (r_lda agg_api_Arena rfl (vs:=(cArena d0 A1 c2 A4 c5)) rfl ((S7.fr ((G14.trans (Fr.ext F15)).trans (Fr.ext F30)) sI).now.part (n:=3) rfl)) ?_
    refine o_w (v:=str d2) (r_mov rfl) ?_
    obtain ⟨x40,hx40,h⟩:=h
    refine o_call cf_ref09_val rfl (ref09_val_c d0 (kArena_mk (d:=d0) (H3.up (((G8.trans (Fr.ext F9)).trans (Fr.ext F15)).trans (Fr.ext F30)) sI (upc (.inr m10) (fun _ h=>.inl h))) (H6.up (((G8.trans (Fr.ext F9)).trans (Fr.ext F15)).trans (Fr.ext F30)) sI (upc (.inr m10) (fun _ h=>.inl h)))) (2:Int) d2 ((hL.fr E31).cons ((B9.ex F15).ex F30).lt) hx40) rfl rfl ?_
    rintro _ w40 ⟨F40,cs41,rfl,H42⟩
    have E43:=E31.trans F40
    obtain ⟨A47,c48,A50,c51,rfl,H49,H52⟩:=kVal_open H42
    refine o_alloc zero_api_Value rfl rfl rfl ?_
    intro b53 w53 e53 F53 B53
    have n53:w.heap.size≤b53:=by rw [e53]; exact E43.size
    have q54:b9<b53:=by rw [e53]; exact (((B9.ex F15).ex F30).ex F40).lt
    have m57:w40.heap.size≤b53:=Nat.le_of_eq e53.symm
    have E58:=E43.trans F53
    have G61:Fr (b9::L) w40 w53:=Fr.ext F53
    refine o_store rfl B53 (vs:=(cVal x40 A47 c48 A50 c51)) rfl sz_api_Value rfl rfl rfl ?_
    intro w63 F63 B63
    have E64:=Ext.st E58 F63 (by simp; omega)
    have G67:Fr (b9::L) w40 w63:=G61.stp F63 (upc (.inr m57) (fun m hm=>by cases hm))
    have B68:=((((B9.ex F15).ex F30).ex F40).ex F53).fr F63 (by simp; omega)
    have B63':Blk w63 b53 _ (cVal x40 A47 c48 A50 c51):=B63
    refine eo_nil_sq ?_
    refine ec_seq ?_
    refine ec_region ?_
    refine o_w (v:=.int .i64 0) (r_asg rfl) ?_
    refine eo_nil_sq ?_
    refine ec_seq ?_
    refine ec_region ?_
    refine o_w (v:=.int .i64 0) (r_asg rfl) ?_
    refine eo_nil_sq ?_
    iterate 2 refine ec_seq ?_
    refine ec_region ?_
    refine o_w (v:=.int .i64 d3) (r_mov rfl) ?_
    refine o_w (v:=.bool (decide (0<d3))) (r_int rfl rfl rfl) ?_
    refine eo_nil_sq ?_
    refine ec_cond rfl (fun hc69=>?_) (fun hc69=>?_)
    ·replace h:=h.1 hc69
     refine ec_region ?_
     refine o_w (v:=.pointer (some ⟨b53,5,none⟩)) (r_fa fld_api_Value_5 rfl rfl) ?_
     refine o_w (v:=.slice A47 x40.plus.length c48) (r_ld one_s_int rfl (B63'.cell rfl)) ?_
     refine o_w (v:=.int .i64 d1) (r_mov rfl) ?_
     obtain ⟨ha70,h⟩:=h
     obtain ⟨cs71,l73,H72⟩:=Stb.elem (by decide) (H49.up G67 sI (upc (.inr m57) (upc (.inl mH) (fun m hm=>Or.inl (mT hm))))) d1 ha70.1 ha70.2
     obtain ⟨rfl,H72'⟩:=kI_open2 H72
     refine o_w (v:=.pointer (some (elemA A47 (kI .i64).n d1.toNat))) (r_ia slc_s_int rfl rfl ((H49.fr G67 sI).now.2 _ (lt_toNat ha70.1 ha70.2)).1 ha70.1 ha70.2) ?_
     refine o_w (v:=.int .i64 (nth x40.plus d1)) (r_ld' one_int rfl (elemA_spot _ _ _) (H72'.now.1.at0 (elemA_spot _ _ _))) ?_
     refine o_w (v:=.int .i64 d3) (r_mov rfl) ?_
     refine o_w (v:=.int .i64 (IntKind.i64.wrap ((nth x40.plus d1) + d3))) (r_int rfl rfl rfl) ?_
     refine o_w (v:=.int .i64 (IntKind.i64.wrap ((nth x40.plus d1) + d3))) (r_asg rfl) ?_
     refine eo_nil_sq ?_
     iterate 2 refine ec_seq ?_
     refine ec_region ?_
     refine o_w (v:=.int .i64 (IntKind.i64.wrap ((nth x40.plus d1) + d3))) (r_mov rfl) ?_
     refine o_w (v:=.bool (decide (65535<(IntKind.i64.wrap ((nth x40.plus d1) + d3))))) (r_int rfl rfl rfl) ?_
     refine o_w (v:=.bool (decide (65535<(IntKind.i64.wrap ((nth x40.plus d1) + d3))))) (r_mov rfl) ?_
     refine o_vg (v:=.int .i64 0) (want_cf (t:=59) rfl rfl) (fun hk=>(r_mov rfl)) rfl rfl ?_
     refine o_vg (v:=.bool false) (want_cf (t:=59) rfl rfl) (fun hk=>(r_int (v:=.bool false) (gdT hk) rfl rfl)) rfl rfl ?_
     refine o_w (v:=.bool ((decide (65535<(IntKind.i64.wrap ((nth x40.plus d1) + d3))))||false)) (r_pickOr rfl rfl (fun hf=>(gdT (notT hf)))) ?_
     refine eo_nil_sq ?_
     refine ec_cond rfl (fun hc74=>?_) (fun hc74=>?_)
     ·replace h:=h.1 hc74
      refine ec_seq ?_
      refine ec_region ?_
      refine o_w (v:=.agg #[str [],.int .i64 0,.int .i64 0,.int .i64 0,.bool false,str [],.slice none ([]:List Int).length 0,.slice none ([]:List Int).length 0,.int .u64 0]) (r_build bld_api_Entry (vs:=[]) (cells:=[str [],.int .i64 0,.int .i64 0,.int .i64 0,.bool false,str [],.slice none ([]:List Int).length 0,.slice none ([]:List Int).length 0,.int .u64 0]) rfl rfl) ?_
      refine o_store rfl B68 (vs:=[str [],.int .i64 0,.int .i64 0,.int .i64 0,.bool false,str [],.slice none ([]:List Int).length 0,.slice none ([]:List Int).length 0,.int .u64 0]) rfl sz_api_Entry rfl rfl rfl ?_
      intro w75 F75 B75
      have E76:=Ext.st E64 F75 (by simp; omega)
      have B75':Blk w75 b9 _ [str [],.int .i64 0,.int .i64 0,.int .i64 0,.bool false,str [],.slice none ([]:List Int).length 0,.slice none ([]:List Int).length 0,.int .u64 0]:=B75
      refine o_w (v:=.int .i64 5) (r_asg rfl) ?_
      refine eo_nil_sq ?_
      refine ec_ret ?_
      refine sq_ret ?_
      subst h
      exact (endr2 (rv_a rfl (agg_api_Entry) B75' (vs:=[str [],.int .i64 0,.int .i64 0,.int .i64 0,.bool false,str [],.slice none ([]:List Int).length 0,.slice none ([]:List Int).length 0,.int .u64 0]) rfl rfl) (rv_t rfl) ⟨_,rfl,E76,_,rfl,(kEnt_mk (d:=(⟨([]:Str),(⟨(0:Int),(0:Int),(0:Int),false,([]:Str),([]:List Int),([]:List Int),(0:Int)⟩:Val)⟩:Ent)) stb_nil stb_nil)⟩)
     ·replace h:=h.2 hc74
      refine ec_skip ?_
      refine sq_n ?_
      refine ec_seq ?_
      refine ec_region ?_
      refine o_w (v:=str d2) (r_mov rfl) ?_
      refine o_w (v:=.int .i64 d1) (r_mov rfl) ?_
      refine o_w (v:=.int .i64 (IntKind.i64.wrap ((nth x40.plus d1) + d3))) (r_mov rfl) ?_
      obtain ⟨x82,hx82,h⟩:=h
      refine o_call cf_ref09_only rfl (ref09_only_c d1 (IntKind.i64.wrap ((nth x40.plus d1) + d3)) (((hL.fr E64).cons B68.lt).cons B63'.lt) hx82) rfl rfl ?_
      have lo83:w.heap.size≤w63.heap.size:=E64.size
      rintro v83 w82 ⟨F82,O83,N83⟩
      have E88:=E64.trans F82
      refine o_w (v:=.int .i64 d1) (r_mov rfl) ?_
      refine o_w (v:=.int .i64 0) (r_mov rfl) ?_
      obtain ⟨x95,hx95,h⟩:=h
      refine o_call cf_ref09_only rfl (ref09_only_c d1 (0:Int) ((((hL.fr E88).cons (B68.ex F82).lt).cons (B63'.ex F82).lt).own O83) hx95) rfl rfl ?_
      have lo96:w.heap.size≤w82.heap.size:=E88.size
      rintro v96 w95 ⟨F95,O96,N96⟩
      have E101:=E88.trans F95
      obtain ⟨A109,c110,eA109,H111⟩:=(O83.ex F95).still
      subst eA109
      have Zw95_112:=Fr.refl (b53::(b9::L)) w95
      obtain ⟨A114,c115,eA114,H116⟩:=O96.still
      subst eA114
      have Zw95_117:=Fr.refl (own (.slice A109 x82.length c110)++(b53::(b9::L))) w95
      refine o_w (v:=.agg #[.int .i64 2,.int .i64 0,.int .i64 0,.bool false,str [],.slice A109 x82.length c110,.slice A114 x95.length c115,.int .u64 0]) (r_build bld_api_Value (vs:=[(0,.int .i64 2),(5,.slice A109 x82.length c110),(6,.slice A114 x95.length c115)]) (cells:=[.int .i64 2,.int .i64 0,.int .i64 0,.bool false,str [],.slice A109 x82.length c110,.slice A114 x95.length c115,.int .u64 0]) rfl rfl) ?_
      refine o_w (v:=.agg #[str d2,.int .i64 2,.int .i64 0,.int .i64 0,.bool false,str [],.slice A109 x82.length c110,.slice A114 x95.length c115,.int .u64 0]) (r_build bld_api_Entry (vs:=[(0,str d2),(1,.agg #[.int .i64 2,.int .i64 0,.int .i64 0,.bool false,str [],.slice A109 x82.length c110,.slice A114 x95.length c115,.int .u64 0])]) (cells:=[str d2,.int .i64 2,.int .i64 0,.int .i64 0,.bool false,str [],.slice A109 x82.length c110,.slice A114 x95.length c115,.int .u64 0]) rfl rfl) ?_
      refine o_store rfl ((B68.ex F82).ex F95) (vs:=[str d2,.int .i64 2,.int .i64 0,.int .i64 0,.bool false,str [],.slice A109 x82.length c110,.slice A114 x95.length c115,.int .u64 0]) rfl sz_api_Entry rfl rfl rfl ?_
      intro w119 F119 B119
      have E120:=Ext.st E101 F119 (by simp; omega)
      have G125:Fr (b53::(b9::L)) w95 w119:=Zw95_112.stp F119 (upc (.inl (mT mH)) (fun m hm=>by cases hm))
      have G126:Fr (own (.slice A109 x82.length c110)++(b53::(b9::L))) w95 w119:=Zw95_117.stp F119 (upc (.inl (List.mem_append_right _ (mT mH))) (fun m hm=>by cases hm))
      have B119':Blk w119 b9 _ [str d2,.int .i64 2,.int .i64 0,.int .i64 0,.bool false,str [],.slice A109 x82.length c110,.slice A114 x95.length c115,.int .u64 0]:=B119
      refine o_w (v:=.int .i64 0) (r_asg rfl) ?_
      refine eo_nil_sq ?_
      refine ec_ret ?_
      subst h
      exact (endr2 (rv_a rfl (agg_api_Entry) B119' (vs:=[str d2,.int .i64 2,.int .i64 0,.int .i64 0,.bool false,str [],.slice A109 x82.length c110,.slice A114 x95.length c115,.int .u64 0]) rfl rfl) (rv_t rfl) ⟨_,rfl,E120,_,rfl,(kEnt_mk (d:=(⟨d2,(⟨(2:Int),(0:Int),(0:Int),false,([]:Str),x82,x95,(0:Int)⟩:Val)⟩:Ent)) (H111.up G125 sI (fun m hm=>Or.inl (mT (mT hm)))) (H116.up G126 sI (fun m hm=>Or.inl (List.mem_append_right _ (mT (mT hm))))))⟩)
    ·replace h:=h.2 hc69
     refine ec_region ?_
     refine o_w (v:=.pointer (some ⟨b53,6,none⟩)) (r_fa fld_api_Value_6 rfl rfl) ?_
     refine o_w (v:=.slice A50 x40.minus.length c51) (r_ld one_s_int rfl (B63'.cell rfl)) ?_
     refine o_w (v:=.int .i64 d1) (r_mov rfl) ?_
     obtain ⟨ha128,h⟩:=h
     obtain ⟨cs129,l131,H130⟩:=Stb.elem (by decide) (H52.up G67 sI (upc (.inr m57) (upc (.inl mH) (fun m hm=>Or.inl (mT hm))))) d1 ha128.1 ha128.2
     obtain ⟨rfl,H130'⟩:=kI_open2 H130
     refine o_w (v:=.pointer (some (elemA A50 (kI .i64).n d1.toNat))) (r_ia slc_s_int rfl rfl ((H52.fr G67 sI).now.2 _ (lt_toNat ha128.1 ha128.2)).1 ha128.1 ha128.2) ?_
     refine o_w (v:=.int .i64 (nth x40.minus d1)) (r_ld' one_int rfl (elemA_spot _ _ _) (H130'.now.1.at0 (elemA_spot _ _ _))) ?_
     refine o_w (v:=.int .i64 d3) (r_mov rfl) ?_
     refine o_w (v:=.int .i64 (IntKind.i64.wrap ((nth x40.minus d1) - d3))) (r_int rfl rfl rfl) ?_
     refine o_w (v:=.int .i64 (IntKind.i64.wrap ((nth x40.minus d1) - d3))) (r_asg rfl) ?_
     refine eo_nil_sq ?_
     iterate 2 refine ec_seq ?_
     refine ec_region ?_
     refine o_w (v:=.int .i64 0) (r_mov rfl) ?_
     refine o_w (v:=.bool false) (r_int (v:=.bool false) rfl rfl rfl) ?_
     refine o_w (v:=.bool false) (r_mov rfl) ?_
     refine o_v (v:=.int .i64 (IntKind.i64.wrap ((nth x40.minus d1) - d3))) (r_mov rfl) (want_t (t:=59) rfl rfl rfl) rfl rfl ?_
     refine o_v (v:=.bool (decide (65535<(IntKind.i64.wrap ((nth x40.minus d1) - d3))))) (r_int rfl rfl rfl) (want_t (t:=59) rfl rfl rfl) rfl rfl ?_
     refine o_w (v:=.bool (decide (65535<(IntKind.i64.wrap ((nth x40.minus d1) - d3))))) (r_pickF rfl rfl rfl) ?_
     refine eo_nil_sq ?_
     refine ec_cond rfl (fun hc132=>?_) (fun hc132=>?_)
     ·replace h:=h.1 hc132
      refine ec_seq ?_
      refine ec_region ?_
      refine o_w (v:=.agg #[str [],.int .i64 0,.int .i64 0,.int .i64 0,.bool false,str [],.slice none ([]:List Int).length 0,.slice none ([]:List Int).length 0,.int .u64 0]) (r_build bld_api_Entry (vs:=[]) (cells:=[str [],.int .i64 0,.int .i64 0,.int .i64 0,.bool false,str [],.slice none ([]:List Int).length 0,.slice none ([]:List Int).length 0,.int .u64 0]) rfl rfl) ?_
      refine o_store rfl B68 (vs:=[str [],.int .i64 0,.int .i64 0,.int .i64 0,.bool false,str [],.slice none ([]:List Int).length 0,.slice none ([]:List Int).length 0,.int .u64 0]) rfl sz_api_Entry rfl rfl rfl ?_
      intro w133 F133 B133
      have E134:=Ext.st E64 F133 (by simp; omega)
      have B133':Blk w133 b9 _ [str [],.int .i64 0,.int .i64 0,.int .i64 0,.bool false,str [],.slice none ([]:List Int).length 0,.slice none ([]:List Int).length 0,.int .u64 0]:=B133
      refine o_w (v:=.int .i64 5) (r_asg rfl) ?_
      refine eo_nil_sq ?_
      refine ec_ret ?_
      refine sq_ret ?_
      subst h
      exact (endr2 (rv_a rfl (agg_api_Entry) B133' (vs:=[str [],.int .i64 0,.int .i64 0,.int .i64 0,.bool false,str [],.slice none ([]:List Int).length 0,.slice none ([]:List Int).length 0,.int .u64 0]) rfl rfl) (rv_t rfl) ⟨_,rfl,E134,_,rfl,(kEnt_mk (d:=(⟨([]:Str),(⟨(0:Int),(0:Int),(0:Int),false,([]:Str),([]:List Int),([]:List Int),(0:Int)⟩:Val)⟩:Ent)) stb_nil stb_nil)⟩)
     ·replace h:=h.2 hc132
      refine ec_skip ?_
      refine sq_n ?_
      refine ec_seq ?_
      refine ec_region ?_
      refine o_w (v:=str d2) (r_mov rfl) ?_
      refine o_w (v:=.int .i64 d1) (r_mov rfl) ?_
      refine o_w (v:=.int .i64 0) (r_mov rfl) ?_
      obtain ⟨x140,hx140,h⟩:=h
      refine o_call cf_ref09_only rfl (ref09_only_c d1 (0:Int) (((hL.fr E64).cons B68.lt).cons B63'.lt) hx140) rfl rfl ?_
      have lo141:w.heap.size≤w63.heap.size:=E64.size
      rintro v141 w140 ⟨F140,O141,N141⟩
      have E146:=E64.trans F140
      refine o_w (v:=.int .i64 d1) (r_mov rfl) ?_
      refine o_w (v:=.int .i64 (IntKind.i64.wrap ((nth x40.minus d1) - d3))) (r_mov rfl) ?_
      obtain ⟨x153,hx153,h⟩:=h
      refine o_call cf_ref09_only rfl (ref09_only_c d1 (IntKind.i64.wrap ((nth x40.minus d1) - d3)) ((((hL.fr E146).cons (B68.ex F140).lt).cons (B63'.ex F140).lt).own O141) hx153) rfl rfl ?_
      have lo154:w.heap.size≤w140.heap.size:=E146.size
      rintro v154 w153 ⟨F153,O154,N154⟩
      have E159:=E146.trans F153
      obtain ⟨A167,c168,eA167,H169⟩:=(O141.ex F153).still
      subst eA167
      have Zw153_170:=Fr.refl (b53::(b9::L)) w153
      obtain ⟨A172,c173,eA172,H174⟩:=O154.still
      subst eA172
      have Zw153_175:=Fr.refl (own (.slice A167 x140.length c168)++(b53::(b9::L))) w153
      refine o_w (v:=.agg #[.int .i64 2,.int .i64 0,.int .i64 0,.bool false,str [],.slice A167 x140.length c168,.slice A172 x153.length c173,.int .u64 0]) (r_build bld_api_Value (vs:=[(0,.int .i64 2),(5,.slice A167 x140.length c168),(6,.slice A172 x153.length c173)]) (cells:=[.int .i64 2,.int .i64 0,.int .i64 0,.bool false,str [],.slice A167 x140.length c168,.slice A172 x153.length c173,.int .u64 0]) rfl rfl) ?_
      refine o_w (v:=.agg #[str d2,.int .i64 2,.int .i64 0,.int .i64 0,.bool false,str [],.slice A167 x140.length c168,.slice A172 x153.length c173,.int .u64 0]) (r_build bld_api_Entry (vs:=[(0,str d2),(1,.agg #[.int .i64 2,.int .i64 0,.int .i64 0,.bool false,str [],.slice A167 x140.length c168,.slice A172 x153.length c173,.int .u64 0])]) (cells:=[str d2,.int .i64 2,.int .i64 0,.int .i64 0,.bool false,str [],.slice A167 x140.length c168,.slice A172 x153.length c173,.int .u64 0]) rfl rfl) ?_
      refine o_store rfl ((B68.ex F140).ex F153) (vs:=[str d2,.int .i64 2,.int .i64 0,.int .i64 0,.bool false,str [],.slice A167 x140.length c168,.slice A172 x153.length c173,.int .u64 0]) rfl sz_api_Entry rfl rfl rfl ?_
      intro w177 F177 B177
      have E178:=Ext.st E159 F177 (by simp; omega)
      have G183:Fr (b53::(b9::L)) w153 w177:=Zw153_170.stp F177 (upc (.inl (mT mH)) (fun m hm=>by cases hm))
      have G184:Fr (own (.slice A167 x140.length c168)++(b53::(b9::L))) w153 w177:=Zw153_175.stp F177 (upc (.inl (List.mem_append_right _ (mT mH))) (fun m hm=>by cases hm))
      have B177':Blk w177 b9 _ [str d2,.int .i64 2,.int .i64 0,.int .i64 0,.bool false,str [],.slice A167 x140.length c168,.slice A172 x153.length c173,.int .u64 0]:=B177
      refine o_w (v:=.int .i64 0) (r_asg rfl) ?_
      refine eo_nil_sq ?_
      refine ec_ret ?_
      subst h
      exact (endr2 (rv_a rfl (agg_api_Entry) B177' (vs:=[str d2,.int .i64 2,.int .i64 0,.int .i64 0,.bool false,str [],.slice A167 x140.length c168,.slice A172 x153.length c173,.int .u64 0]) rfl rfl) (rv_t rfl) ⟨_,rfl,E178,_,rfl,(kEnt_mk (d:=(⟨d2,(⟨(2:Int),(0:Int),(0:Int),false,([]:Str),x140,x153,(0:Int)⟩:Val)⟩:Ent)) (H169.up G183 sI (fun m hm=>Or.inl (mT (mT hm)))) (H174.up G184 sI (fun m hm=>Or.inl (List.mem_append_right _ (mT (mT hm))))))⟩)
def ref09_Set_raw (d0:Arena) (d1:Str) (d2:Int) (y:Ent × Int):Prop :=
 ∃ x15,ref09_can_raw d0 (0:Int) d1 x15∧(((x15 != (0:Int))=true→(y=((⟨([]:Str),(⟨(0:Int),(0:Int),(0:Int),false,([]:Str),([]:List Int),([]:List Int),(0:Int)⟩:Val)⟩:Ent),x15)))∧((x15 != (0:Int))=false→(∃ x25,ref09_room_raw d0 (3:Int) d1 x25∧(((!x25)=true→(y=((⟨([]:Str),(⟨(0:Int),(0:Int),(0:Int),false,([]:Str),([]:List Int),([]:List Int),(0:Int)⟩:Val)⟩:Ent),(4:Int))))∧((!x25)=false→(y=((⟨d1,(⟨(3:Int),(0:Int),(0:Int),false,([]:Str),([]:List Int),([]:List Int),d2⟩:Val)⟩:Ent),(0:Int))))))))
set_option maxRecDepth 20000 in
set_option maxHeartbeats 4000000 in
theorem ref09_Set_c {L:List Nat} {w:World} {csP0:List Value} (d0:Arena) (HP0:Stb L w (fun w=>kArena.r w csP0 d0)) (d1:Str) (d2:Int) (hL:Lt L w) {y:Ent × Int} (h:ref09_Set_raw d0 d1 d2 y) :
  Calls Tryz.prog 14 [.agg csP0.toArray,str d1,.int .u64 d2].toArray w (Ret fun v w'=>Ext w w'∧∃ (cs90:List Value),v=.tuple #[.agg cs90.toArray,.int .i64 y.2]∧Stb L w' (fun w=>kEnt.r w cs90 y.1)):=by
 obtain ⟨A1,c2,A4,c5,rfl,H3,H6⟩:=kArena_open HP0
 unfold ref09_Set_raw at h
 refine calls_ec Tryz.func14 rfl rfl rfl ?_
 refine ec_seq ?_
 refine ec_region ?_
 refine o_box (cs:=(cArena d0 A1 c2 A4 c5)) rfl rfl rfl ?_
 intro b7 w7 e7 F7 B7
 have S7:=B7.stb (nin hL e7)
 have G8:Fr L w w7:=Fr.ext F7
 refine o_alloc zero_api_Entry rfl rfl rfl ?_
 intro b9 w9 e9 F9 B9
 have n9:w.heap.size≤b9:=by rw [e9]; exact F7.size
 have m10:w.heap.size≤b9:=by rw [e9]; exact G8.size
 have E12:=F7.trans F9
 have G14:Fr L w7 w9:=Fr.ext F9
 refine o_w (v:=.int .i64 0) (r_asg rfl) ?_
 refine eo_nil_sq ?_
 refine ec_seq ?_
 refine ec_region ?_
 refine o_w (v:=.agg (cArena d0 A1 c2 A4 c5).toArray) (r_lda agg_api_Arena rfl (vs:=(cArena d0 A1 c2 A4 c5)) rfl ((S7.fr G14 sI).now.part (n:=3) rfl)) ?_
 refine o_w (v:=str d1) (r_mov rfl) ?_
 obtain ⟨x15,hx15,h⟩:=h
 refine o_call cf_ref09_can rfl (ref09_can_c d0 (kArena_mk (d:=d0) (H3.up (G8.trans (Fr.ext F9)) sI (upc (.inr m10) (fun _ h=>.inl h))) (H6.up (G8.trans (Fr.ext F9)) sI (upc (.inr m10) (fun _ h=>.inl h)))) (0:Int) d1 ((hL.fr E12).cons B9.lt) hx15) rfl rfl ?_
 rintro _ w15 ⟨F15,rfl⟩
 have E16:=E12.trans F15
 refine o_w (v:=.int .i64 x15) (r_asg rfl) ?_
 refine eo_nil_sq ?_
 iterate 2 refine ec_seq ?_
 refine ec_region ?_
 refine o_w (v:=.int .i64 x15) (r_mov rfl) ?_
 refine o_w (v:=.bool (x15 != (0:Int))) (r_int rfl rfl rfl) ?_
 refine eo_nil_sq ?_
 refine ec_cond rfl (fun hc20=>?_) (fun hc20=>?_)
 ·replace h:=h.1 hc20
  refine ec_seq ?_
  refine ec_region ?_
  refine o_w (v:=.agg #[str [],.int .i64 0,.int .i64 0,.int .i64 0,.bool false,str [],.slice none ([]:List Int).length 0,.slice none ([]:List Int).length 0,.int .u64 0]) (r_build bld_api_Entry (vs:=[]) (cells:=[str [],.int .i64 0,.int .i64 0,.int .i64 0,.bool false,str [],.slice none ([]:List Int).length 0,.slice none ([]:List Int).length 0,.int .u64 0]) rfl rfl) ?_
  refine o_w (v:=.int .i64 x15) (r_mov rfl) ?_
  refine o_store rfl (B9.ex F15) (vs:=[str [],.int .i64 0,.int .i64 0,.int .i64 0,.bool false,str [],.slice none ([]:List Int).length 0,.slice none ([]:List Int).length 0,.int .u64 0]) rfl sz_api_Entry rfl rfl rfl ?_
  intro w21 F21 B21
  have E22:=Ext.st E16 F21 (by simp; omega)
  have B21':Blk w21 b9 _ [str [],.int .i64 0,.int .i64 0,.int .i64 0,.bool false,str [],.slice none ([]:List Int).length 0,.slice none ([]:List Int).length 0,.int .u64 0]:=B21
  refine o_w (v:=.int .i64 x15) (r_asg rfl) ?_
  refine eo_nil_sq ?_
  refine ec_ret ?_
  refine sq_ret ?_
  subst h
  exact (endr2 (rv_a rfl (agg_api_Entry) B21' (vs:=[str [],.int .i64 0,.int .i64 0,.int .i64 0,.bool false,str [],.slice none ([]:List Int).length 0,.slice none ([]:List Int).length 0,.int .u64 0]) rfl rfl) (rv_t rfl) ⟨_,rfl,E22,_,rfl,(kEnt_mk (d:=(⟨([]:Str),(⟨(0:Int),(0:Int),(0:Int),false,([]:Str),([]:List Int),([]:List Int),(0:Int)⟩:Val)⟩:Ent)) stb_nil stb_nil)⟩)
 ·replace h:=h.2 hc20
  refine ec_skip ?_
  refine sq_n ?_
  iterate 2 refine ec_seq ?_
  refine ec_region ?_
  refine o_w (v:=.agg (cArena d0 A1 c2 A4 c5).toArray) (r_lda agg_api_Arena rfl (vs:=(cArena d0 A1 c2 A4 c5)) rfl ((S7.fr (G14.trans (Fr.ext F15)) sI).now.part (n:=3) rfl)) ?_
  refine o_w (v:=str d1) (r_mov rfl) ?_
  obtain ⟨x25,hx25,h⟩:=h
  refine o_call cf_ref09_room rfl (ref09_room_c d0 (kArena_mk (d:=d0) (H3.up ((G8.trans (Fr.ext F9)).trans (Fr.ext F15)) sI (upc (.inr m10) (fun _ h=>.inl h))) (H6.up ((G8.trans (Fr.ext F9)).trans (Fr.ext F15)) sI (upc (.inr m10) (fun _ h=>.inl h)))) (3:Int) d1 ((hL.fr E16).cons (B9.ex F15).lt) hx25) rfl rfl ?_
  rintro _ w25 ⟨F25,rfl⟩
  have E26:=E16.trans F25
  refine o_w (v:=.bool (!x25)) (r_not rfl) ?_
  refine eo_nil_sq ?_
  refine ec_cond rfl (fun hc30=>?_) (fun hc30=>?_)
  ·replace h:=h.1 hc30
   refine ec_seq ?_
   refine ec_region ?_
   refine o_w (v:=.agg #[str [],.int .i64 0,.int .i64 0,.int .i64 0,.bool false,str [],.slice none ([]:List Int).length 0,.slice none ([]:List Int).length 0,.int .u64 0]) (r_build bld_api_Entry (vs:=[]) (cells:=[str [],.int .i64 0,.int .i64 0,.int .i64 0,.bool false,str [],.slice none ([]:List Int).length 0,.slice none ([]:List Int).length 0,.int .u64 0]) rfl rfl) ?_
   refine o_store rfl ((B9.ex F15).ex F25) (vs:=[str [],.int .i64 0,.int .i64 0,.int .i64 0,.bool false,str [],.slice none ([]:List Int).length 0,.slice none ([]:List Int).length 0,.int .u64 0]) rfl sz_api_Entry rfl rfl rfl ?_
   intro w31 F31 B31
   have E32:=Ext.st E26 F31 (by simp; omega)
   have B31':Blk w31 b9 _ [str [],.int .i64 0,.int .i64 0,.int .i64 0,.bool false,str [],.slice none ([]:List Int).length 0,.slice none ([]:List Int).length 0,.int .u64 0]:=B31
   refine o_w (v:=.int .i64 4) (r_asg rfl) ?_
   refine eo_nil_sq ?_
   refine ec_ret ?_
   refine sq_ret ?_
   subst h
   exact (endr2 (rv_a rfl (agg_api_Entry) B31' (vs:=[str [],.int .i64 0,.int .i64 0,.int .i64 0,.bool false,str [],.slice none ([]:List Int).length 0,.slice none ([]:List Int).length 0,.int .u64 0]) rfl rfl) (rv_t rfl) ⟨_,rfl,E32,_,rfl,(kEnt_mk (d:=(⟨([]:Str),(⟨(0:Int),(0:Int),(0:Int),false,([]:Str),([]:List Int),([]:List Int),(0:Int)⟩:Val)⟩:Ent)) stb_nil stb_nil)⟩)
  ·replace h:=h.2 hc30
   refine ec_skip ?_
   refine sq_n ?_
   refine ec_seq ?_
   refine ec_region ?_
   refine o_w (v:=str d1) (r_mov rfl) ?_
   refine o_w (v:=.int .u64 d2) (r_mov rfl) ?_
   refine o_w (v:=.agg #[.int .i64 3,.int .i64 0,.int .i64 0,.bool false,str [],.slice none ([]:List Int).length 0,.slice none ([]:List Int).length 0,.int .u64 d2]) (r_build bld_api_Value (vs:=[(0,.int .i64 3),(7,.int .u64 d2)]) (cells:=[.int .i64 3,.int .i64 0,.int .i64 0,.bool false,str [],.slice none ([]:List Int).length 0,.slice none ([]:List Int).length 0,.int .u64 d2]) rfl rfl) ?_
   refine o_w (v:=.agg #[str d1,.int .i64 3,.int .i64 0,.int .i64 0,.bool false,str [],.slice none ([]:List Int).length 0,.slice none ([]:List Int).length 0,.int .u64 d2]) (r_build bld_api_Entry (vs:=[(0,str d1),(1,.agg #[.int .i64 3,.int .i64 0,.int .i64 0,.bool false,str [],.slice none ([]:List Int).length 0,.slice none ([]:List Int).length 0,.int .u64 d2])]) (cells:=[str d1,.int .i64 3,.int .i64 0,.int .i64 0,.bool false,str [],.slice none ([]:List Int).length 0,.slice none ([]:List Int).length 0,.int .u64 d2]) rfl rfl) ?_
   refine o_store rfl ((B9.ex F15).ex F25) (vs:=[str d1,.int .i64 3,.int .i64 0,.int .i64 0,.bool false,str [],.slice none ([]:List Int).length 0,.slice none ([]:List Int).length 0,.int .u64 d2]) rfl sz_api_Entry rfl rfl rfl ?_
   intro w35 F35 B35
   have E36:=Ext.st E26 F35 (by simp; omega)
   have B35':Blk w35 b9 _ [str d1,.int .i64 3,.int .i64 0,.int .i64 0,.bool false,str [],.slice none ([]:List Int).length 0,.slice none ([]:List Int).length 0,.int .u64 d2]:=B35
   refine o_w (v:=.int .i64 0) (r_asg rfl) ?_
   refine eo_nil_sq ?_
   refine ec_ret ?_
   subst h
   exact (endr2 (rv_a rfl (agg_api_Entry) B35' (vs:=[str d1,.int .i64 3,.int .i64 0,.int .i64 0,.bool false,str [],.slice none ([]:List Int).length 0,.slice none ([]:List Int).length 0,.int .u64 d2]) rfl rfl) (rv_t rfl) ⟨_,rfl,E36,_,rfl,(kEnt_mk (d:=(⟨d1,(⟨(3:Int),(0:Int),(0:Int),false,([]:Str),([]:List Int),([]:List Int),d2⟩:Val)⟩:Ent)) stb_nil stb_nil)⟩)
end Go.Proofs.YthhjcijhanacnaaGreat
