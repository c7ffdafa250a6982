import Derived.Test.YthbfhgenkhkpfaaGreatCt2
import Derived.Test.YthbfhgenkhkpfaaGreatSl
namespace Go.Proofs.YthbfhgenkhkpfaaGreat
open Go Go.RowKit
set_option linter.unusedVariables false
set_option linter.unusedSimpArgs false
def entry_Check_raw (d0:Ent) (y:Int):Prop :=
 (((d0.key==([]:Str))||(decide (8<(d0.key.length:Int))))=true→(y=(2:Int)))∧(((d0.key==([]:Str))||(decide (8<(d0.key.length:Int))))=false→((sm d0.val)∧(y=(checkV d0.val))))
set_option maxRecDepth 20000 in
set_option maxHeartbeats 4000000 in
theorem entry_Check_c {L:List Nat} {w:World} {csP0:List Value} (d0:Ent) (HP0:Stb L w (fun w=>kEnt.r w csP0 d0)) (hL:Lt L w) {y:Int} (h:entry_Check_raw d0 y) :
  Calls Tryz.prog 48 [.agg csP0.toArray].toArray w (Ret fun v w'=>Ext w w'∧v=.int .i64 y):=by
 obtain ⟨A1,c2,A4,c5,rfl,H3,H6⟩:=kEnt_open HP0
 unfold entry_Check_raw at h
 refine calls_ec Tryz.func48 rfl rfl rfl ?_
 refine ec_sr ?_
 refine o_box (cs:=(cEnt d0 A1 c2 A4 c5)) rfl rfl rfl ?_
 intro b7 w7 e7 F7 B7
 have S7:=B7.stb (nin hL e7)
 have G8:Fr L w w7:=Fr.ext F7
 refine o_w (v:=.int .i64 0) (r_asg rfl) ?_
 refine eo_nil_sq ?_
 refine ec_seq ?_
 refine ec_sr ?_
 refine o_w (v:=.pointer (some ⟨b7,0,none⟩)) (r_fa fld_api_Entry_0 rfl rfl) ?_
 refine o_w (v:=str d0.key) (r_ld one_string rfl (S7.now.cell rfl)) ?_
 refine o_w (v:=.bool (d0.key==([]:Str))) (r_str rfl rfl rfl) ?_
 refine o_w (v:=.bool (d0.key==([]:Str))) (r_mov rfl) ?_
 refine o_vg (v:=.pointer (some ⟨b7,0,none⟩)) (want_cf (t:=6) rfl rfl) (fun hk=>(r_fa fld_api_Entry_0 rfl rfl)) rfl rfl ?_
 refine o_vg (v:=str d0.key) (want_cf (t:=6) rfl rfl) (fun hk=>(r_ld one_string (gdT hk) (S7.now.cell rfl))) rfl rfl ?_
 refine o_vg (v:=.int .i64 (d0.key.length:Int)) (want_cf (t:=6) rfl rfl) (fun hk=>(r_len_str un_string (gdT hk))) rfl rfl ?_
 refine o_vg (v:=.bool (decide (8<(d0.key.length:Int)))) (want_cf (t:=6) rfl rfl) (fun hk=>(r_int (gdT hk) rfl rfl)) rfl rfl ?_
 refine o_w (v:=.bool ((d0.key==([]:Str))||(decide (8<(d0.key.length:Int))))) (r_pickOr rfl rfl (fun hf=>(gdT (notT hf)))) ?_
 refine eo_nil_sq ?_
 refine ec_cond rfl (fun hc9=>?_) (fun hc9=>?_)
 ·replace h:=h.1 hc9
  refine ec_sr ?_
  refine o_w (v:=.int .i64 2) (r_asg rfl) ?_
  refine eo_nil_sq ?_
  refine ec_ret ?_
  refine sq_ret ?_
  subst h
  exact (end1 rfl ⟨_,rfl,F7,rfl⟩)
 ·replace h:=h.2 hc9
  refine ec_skip ?_
  refine sq_n ?_
  refine ec_sr ?_
  refine o_w (v:=.pointer (some ⟨b7,1,none⟩)) (r_fa fld_api_Entry_1 rfl rfl) ?_
  refine o_w (v:=.agg (cVal d0.val A1 c2 A4 c5).toArray) (r_lda agg_api_Value rfl (vs:=(cVal d0.val A1 c2 A4 c5)) rfl (S7.now.part (n:=8) rfl)) ?_
  obtain ⟨ha11,h⟩:=h
  refine o_call cf_value_Check rfl (value_Check_c d0.val (kVal_mk (d:=d0.val) (H3.fr G8 sI) (H6.fr G8 sI)) (hL.fr F7) (valCheck_ev d0.val ha11)) rfl rfl ?_
  rintro _ w10 ⟨F10,rfl⟩
  have E12:=F7.trans F10
  refine o_w (v:=.int .i64 (checkV d0.val)) (r_asg rfl) ?_
  refine eo_nil_sq ?_
  refine ec_ret ?_
  subst h
  exact (end1 rfl ⟨_,rfl,E12,rfl⟩)
def entry_Less_raw (d0:Ent) (d1:Ent) (y:Bool):Prop :=
 ((d0.val.kind != d1.val.kind)=true→(y=(decide (d0.val.kind<d1.val.kind))))∧((d0.val.kind != d1.val.kind)=false→(y=(Op.bytesLess d0.key d1.key)))
set_option maxRecDepth 20000 in
set_option maxHeartbeats 4000000 in
theorem entry_Less_c {L:List Nat} {w:World} {csP0:List Value} (d0:Ent) (HP0:Stb L w (fun w=>kEnt.r w csP0 d0)) {csP1:List Value} (d1:Ent) (HP1:Stb L w (fun w=>kEnt.r w csP1 d1)) (hL:Lt L w) {y:Bool} (h:entry_Less_raw d0 d1 y) :
  Calls Tryz.prog 60 [.agg csP0.toArray,.agg csP1.toArray].toArray w (Ret fun v w'=>Ext w w'∧v=.bool y):=by
 obtain ⟨A1,c2,A4,c5,rfl,H3,H6⟩:=kEnt_open HP0
 obtain ⟨A7,c8,A10,c11,rfl,H9,H12⟩:=kEnt_open HP1
 unfold entry_Less_raw at h
 refine calls_ec Tryz.func60 rfl rfl rfl ?_
 refine ec_sr ?_
 refine o_box (cs:=(cEnt d0 A1 c2 A4 c5)) rfl rfl rfl ?_
 intro b13 w13 e13 F13 B13
 have S13:=B13.stb (nin hL e13)
 refine o_box (cs:=(cEnt d1 A7 c8 A10 c11)) rfl rfl rfl ?_
 intro b15 w15 e15 F15 B15
 have S15:=B15.stb (nin (hL.fr F13) e15)
 have E16:=F13.trans F15
 have G18:Fr L w13 w15:=Fr.ext F15
 refine o_w (v:=.bool false) (r_asg rfl) ?_
 refine eo_nil_sq ?_
 refine ec_seq ?_
 refine ec_sr ?_
 refine o_w (v:=.pointer (some ⟨b13,1,none⟩)) (r_fa fld_api_Entry_1 rfl rfl) ?_
 refine o_w (v:=.pointer (some ⟨b13,1,none⟩)) (r_fa fld_api_Value_0 rfl rfl) ?_
 refine o_w (v:=.int .i64 d0.val.kind) (r_ld one_int rfl ((S13.fr G18 sI).now.cell rfl)) ?_
 refine o_w (v:=.pointer (some ⟨b15,1,none⟩)) (r_fa fld_api_Entry_1 rfl rfl) ?_
 refine o_w (v:=.pointer (some ⟨b15,1,none⟩)) (r_fa fld_api_Value_0 rfl rfl) ?_
 refine o_w (v:=.int .i64 d1.val.kind) (r_ld one_int rfl (S15.now.cell rfl)) ?_
 refine o_w (v:=.bool (d0.val.kind != d1.val.kind)) (r_int rfl rfl rfl) ?_
 refine eo_nil_sq ?_
 refine ec_cond rfl (fun hc19=>?_) (fun hc19=>?_)
 ·replace h:=h.1 hc19
  refine ec_sr ?_
  refine o_w (v:=.pointer (some ⟨b13,1,none⟩)) (r_fa fld_api_Entry_1 rfl rfl) ?_
  refine o_w (v:=.pointer (some ⟨b13,1,none⟩)) (r_fa fld_api_Value_0 rfl rfl) ?_
  refine o_w (v:=.int .i64 d0.val.kind) (r_ld one_int rfl ((S13.fr G18 sI).now.cell rfl)) ?_
  refine o_w (v:=.pointer (some ⟨b15,1,none⟩)) (r_fa fld_api_Entry_1 rfl rfl) ?_
  refine o_w (v:=.pointer (some ⟨b15,1,none⟩)) (r_fa fld_api_Value_0 rfl rfl) ?_
  refine o_w (v:=.int .i64 d1.val.kind) (r_ld one_int rfl (S15.now.cell rfl)) ?_
  refine o_w (v:=.bool (decide (d0.val.kind<d1.val.kind))) (r_int rfl rfl rfl) ?_
  refine o_w (v:=.bool (decide (d0.val.kind<d1.val.kind))) (r_asg rfl) ?_
  refine eo_nil_sq ?_
  refine ec_ret ?_
  refine sq_ret ?_
  subst h
  exact (end1 rfl ⟨_,rfl,E16,rfl⟩)
 ·replace h:=h.2 hc19
  refine ec_skip ?_
  refine sq_n ?_
  refine ec_sr ?_
  refine o_w (v:=.pointer (some ⟨b13,0,none⟩)) (r_fa fld_api_Entry_0 rfl rfl) ?_
  refine o_w (v:=str d0.key) (r_ld one_string rfl ((S13.fr G18 sI).now.cell rfl)) ?_
  refine o_w (v:=.pointer (some ⟨b15,0,none⟩)) (r_fa fld_api_Entry_0 rfl rfl) ?_
  refine o_w (v:=str d1.key) (r_ld one_string rfl (S15.now.cell rfl)) ?_
  refine o_w (v:=.bool (Op.bytesLess d0.key d1.key)) (r_str rfl rfl rfl) ?_
  refine o_w (v:=.bool (Op.bytesLess d0.key d1.key)) (r_asg rfl) ?_
  refine eo_nil_sq ?_
  refine ec_ret ?_
  subst h
  exact (end1 rfl ⟨_,rfl,E16,rfl⟩)
def entry_Same_raw (d0:Ent) (d1:Ent) (y:Bool):Prop :=
 ((d0.key==d1.key)=true→sm d0.val)∧(y=((d0.key==d1.key)&&(sameV d0.val d1.val)))
set_option maxRecDepth 20000 in
set_option maxHeartbeats 4000000 in
theorem entry_Same_c {L:List Nat} {w:World} {csP0:List Value} (d0:Ent) (HP0:Stb L w (fun w=>kEnt.r w csP0 d0)) {csP1:List Value} (d1:Ent) (HP1:Stb L w (fun w=>kEnt.r w csP1 d1)) (hL:Lt L w) {y:Bool} (h:entry_Same_raw d0 d1 y) :
  Calls Tryz.prog 77 [.agg csP0.toArray,.agg csP1.toArray].toArray w (Ret fun v w'=>Ext w w'∧v=.bool y):=by
 obtain ⟨A1,c2,A4,c5,rfl,H3,H6⟩:=kEnt_open HP0
 obtain ⟨A7,c8,A10,c11,rfl,H9,H12⟩:=kEnt_open HP1
 unfold entry_Same_raw at h
 refine calls_ec Tryz.func77 rfl rfl rfl ?_
 refine ec_sr ?_
 refine o_box (cs:=(cEnt d0 A1 c2 A4 c5)) rfl rfl rfl ?_
 intro b13 w13 e13 F13 B13
 have S13:=B13.stb (nin hL e13)
 have G14:Fr L w w13:=Fr.ext F13
 refine o_box (cs:=(cEnt d1 A7 c8 A10 c11)) rfl rfl rfl ?_
 intro b15 w15 e15 F15 B15
 have S15:=B15.stb (nin (hL.fr F13) e15)
 have E16:=F13.trans F15
 have G18:Fr L w13 w15:=Fr.ext F15
 refine o_w (v:=.bool false) (r_asg rfl) ?_
 refine eo_r ?_
 refine o_w (v:=.pointer (some ⟨b13,0,none⟩)) (r_fa fld_api_Entry_0 rfl rfl) ?_
 refine o_w (v:=str d0.key) (r_ld one_string rfl ((S13.fr G18 sI).now.cell rfl)) ?_
 refine o_w (v:=.pointer (some ⟨b15,0,none⟩)) (r_fa fld_api_Entry_0 rfl rfl) ?_
 refine o_w (v:=str d1.key) (r_ld one_string rfl (S15.now.cell rfl)) ?_
 refine o_w (v:=.bool (d0.key==d1.key)) (r_str rfl rfl rfl) ?_
 refine o_w (v:=.bool (d0.key==d1.key)) (r_mov rfl) ?_
 refine o_vg (v:=.pointer (some ⟨b13,1,none⟩)) (want_ct (t:=10) rfl rfl) (fun hk=>(r_fa fld_api_Entry_1 rfl rfl)) rfl rfl ?_
 refine o_vg (v:=.agg (cVal d0.val A1 c2 A4 c5).toArray) (want_ct (t:=10) rfl rfl) (fun hk=>(r_lda agg_api_Value (gdT hk) (vs:=(cVal d0.val A1 c2 A4 c5)) rfl ((S13.fr G18 sI).now.part (n:=8) rfl))) rfl rfl ?_
 refine o_vg (v:=.pointer (some ⟨b15,1,none⟩)) (want_ct (t:=10) rfl rfl) (fun hk=>(r_fa fld_api_Entry_1 rfl rfl)) rfl rfl ?_
 refine o_vg (v:=.agg (cVal d1.val A7 c8 A10 c11).toArray) (want_ct (t:=10) rfl rfl) (fun hk=>(r_lda agg_api_Value (gdT hk) (vs:=(cVal d1.val A7 c8 A10 c11)) rfl (S15.now.part (n:=8) rfl))) rfl rfl ?_
 obtain ⟨ha21,h⟩:=h
 refine o_callg (V:=.bool (sameV d0.val d1.val)) cf_value_Same (want_ct (t:=10) rfl rfl) (fun hk=>(mapv2 (gdT hk) (gdT hk))) (fun hk=>(value_Same_c d0.val (kVal_mk (d:=d0.val) (H3.fr (G14.trans (Fr.ext F15)) sI) (H6.fr (G14.trans (Fr.ext F15)) sI)) d1.val (kVal_mk (d:=d1.val) (H9.fr (G14.trans (Fr.ext F15)) sI) (H12.fr (G14.trans (Fr.ext F15)) sI)) (hL.fr E16) (valSame_ev d0.val d1.val (ha21 hk)))) rfl ?_
 intro w20 F20
 have E22:=E16.trans F20
 refine o_w (v:=.bool ((d0.key==d1.key)&&(sameV d0.val d1.val))) (r_pickAnd rfl (fun ht=>(gdT ht)) rfl) ?_
 refine o_w (v:=.bool ((d0.key==d1.key)&&(sameV d0.val d1.val))) (r_asg rfl) ?_
 refine eo_nil_sq ?_
 refine ec_ret ?_
 subst h
 exact (end1 rfl ⟨_,rfl,E22,rfl⟩)
def entry_Join_raw (d0:Ent) (d1:Ent) (y:Ent × Int):Prop :=
 ∃ x27,entry_Check_raw d0 x27∧(((x27 != (0:Int))=true→(y=((⟨([]:Str),(⟨(0:Int),(0:Int),(0:Int),false,([]:Str),([]:List Int),([]:List Int),(0:Int)⟩:Val)⟩:Ent),(2:Int))))∧((x27 != (0:Int))=false→(∃ x39,entry_Check_raw d1 x39∧(((x39 != (0:Int))=true→(y=((⟨([]:Str),(⟨(0:Int),(0:Int),(0:Int),false,([]:Str),([]:List Int),([]:List Int),(0:Int)⟩:Val)⟩:Ent),(2:Int))))∧((x39 != (0:Int))=false→((((!(d0.key==d1.key))||(d0.val.kind != d1.val.kind))=true→(y=((⟨([]:Str),(⟨(0:Int),(0:Int),(0:Int),false,([]:Str),([]:List Int),([]:List Int),(0:Int)⟩:Val)⟩:Ent),(3:Int))))∧(((!(d0.key==d1.key))||(d0.val.kind != d1.val.kind))=false→((sm d0.val)∧((sm d1.val)∧(∃ x57,x57=(joinV d0.val d1.val)∧(y=((⟨d0.key,x57.1⟩:Ent),(0:Int)))))))))))))
set_option maxRecDepth 20000 in
set_option maxHeartbeats 4000000 in
theorem entry_Join_c {L:List Nat} {w:World} {csP0:List Value} (d0:Ent) (HP0:Stb L w (fun w=>kEnt.r w csP0 d0)) {csP1:List Value} (d1:Ent) (HP1:Stb L w (fun w=>kEnt.r w csP1 d1)) (hL:Lt L w) {y:Ent × Int} (h:entry_Join_raw d0 d1 y) :
  Calls Tryz.prog 76 [.agg csP0.toArray,.agg csP1.toArray].toArray w (Ret fun v w'=>Ext w w'∧∃ (cs90:List Value),v=.tuple #[.agg cs90.toArray,.int .i64 y.2]∧Stb L w' (fun w=>kEnt.r w cs90 y.1)):=by
 obtain ⟨A1,c2,A4,c5,rfl,H3,H6⟩:=kEnt_open HP0
 obtain ⟨A7,c8,A10,c11,rfl,H9,H12⟩:=kEnt_open HP1
 unfold entry_Join_raw at h
 refine calls_ec Tryz.func76 rfl rfl rfl ?_
 refine ec_sr ?_
 refine o_box (cs:=(cEnt d0 A1 c2 A4 c5)) rfl rfl rfl ?_
 intro b13 w13 e13 F13 B13
 have S13:=B13.stb (nin hL e13)
 have G14:Fr L w w13:=Fr.ext F13
 refine o_box (cs:=(cEnt d1 A7 c8 A10 c11)) rfl rfl rfl ?_
 intro b15 w15 e15 F15 B15
 have S15:=B15.stb (nin (hL.fr F13) e15)
 have E16:=F13.trans F15
 have G18:Fr L w13 w15:=Fr.ext F15
 refine o_alloc zero_api_Entry rfl rfl rfl ?_
 intro b19 w19 e19 F19 B19
 have n19:w.heap.size≤b19:=by rw [e19]; exact E16.size
 have m20:w.heap.size≤b19:=by rw [e19]; exact (G14.trans (Fr.ext F15)).size
 have E23:=E16.trans F19
 have G26:Fr L w15 w19:=Fr.ext F19
 refine o_w (v:=.int .i64 0) (r_asg rfl) ?_
 refine eo_nil_sq ?_
 refine ec_seq ?_
 refine ec_block ?_
 refine ec_seq ?_
 refine ec_sr ?_
 refine o_w (v:=.agg (cEnt d0 A1 c2 A4 c5).toArray) (r_lda agg_api_Entry rfl (vs:=(cEnt d0 A1 c2 A4 c5)) rfl ((S13.fr (G18.trans (Fr.ext F19)) sI).now.part (n:=9) rfl)) ?_
 obtain ⟨x27,hx27,h⟩:=h
 refine o_call cf_entry_Check rfl (entry_Check_c d0 (kEnt_mk (d:=d0) (H3.up ((G14.trans (Fr.ext F15)).trans (Fr.ext F19)) sI (upc (.inr m20) (fun _ h=>.inl h))) (H6.up ((G14.trans (Fr.ext F15)).trans (Fr.ext F19)) sI (upc (.inr m20) (fun _ h=>.inl h)))) ((hL.fr E23).cons B19.lt) hx27) rfl rfl ?_
 rintro _ w27 ⟨F27,rfl⟩
 have E28:=E23.trans F27
 refine o_w (v:=.bool (x27 != (0:Int))) (r_int rfl rfl rfl) ?_
 refine o_w (v:=.bool (x27 != (0:Int))) (r_asg rfl) ?_
 refine eo_nil_sq ?_
 refine ec_cond rfl (fun hc33=>?_) (fun hc33=>?_)
 ·replace h:=h.1 hc33
  refine ec_skip ?_
  refine sq_n ?_
  refine ec_condT rfl hc33 ?_
  refine ec_sr ?_
  refine o_w (v:=.agg #[str [],.int .i64 0,.int .i64 0,.int .i64 0,.bool false,str [],.slice none ([]:List Int).length 0,.slice none ([]:List Int).length 0,.int .u64 0]) (r_build bld_api_Entry (vs:=[]) (cells:=[str [],.int .i64 0,.int .i64 0,.int .i64 0,.bool false,str [],.slice none ([]:List Int).length 0,.slice none ([]:List Int).length 0,.int .u64 0]) rfl rfl) ?_
  refine o_store rfl (B19.ex F27) (vs:=[str [],.int .i64 0,.int .i64 0,.int .i64 0,.bool false,str [],.slice none ([]:List Int).length 0,.slice none ([]:List Int).length 0,.int .u64 0]) rfl sz_api_Entry rfl rfl rfl ?_
  intro w34 F34 B34
  have E35:=Ext.st E28 F34 (by simp; omega)
  have B34':Blk w34 b19 _ [str [],.int .i64 0,.int .i64 0,.int .i64 0,.bool false,str [],.slice none ([]:List Int).length 0,.slice none ([]:List Int).length 0,.int .u64 0]:=B34
  refine o_w (v:=.int .i64 2) (r_asg rfl) ?_
  refine eo_nil_sq ?_
  refine ec_ret ?_
  refine blk_ret ?_
  refine sq_ret ?_
  subst h
  exact (endr2 (rv_a rfl (agg_api_Entry) B34' (vs:=[str [],.int .i64 0,.int .i64 0,.int .i64 0,.bool false,str [],.slice none ([]:List Int).length 0,.slice none ([]:List Int).length 0,.int .u64 0]) rfl rfl) (rv_t rfl) ⟨_,rfl,E35,_,rfl,(kEnt_mk (d:=(⟨([]:Str),(⟨(0:Int),(0:Int),(0:Int),false,([]:Str),([]:List Int),([]:List Int),(0:Int)⟩:Val)⟩:Ent)) stb_nil stb_nil)⟩)
 ·replace h:=h.2 hc33
  refine ec_region ?_
  refine o_w (v:=.agg (cEnt d1 A7 c8 A10 c11).toArray) (r_lda agg_api_Entry rfl (vs:=(cEnt d1 A7 c8 A10 c11)) rfl ((S15.fr (G26.trans (Fr.ext F27)) sI).now.part (n:=9) rfl)) ?_
  obtain ⟨x39,hx39,h⟩:=h
  refine o_call cf_entry_Check rfl (entry_Check_c d1 (kEnt_mk (d:=d1) (H9.up (((G14.trans (Fr.ext F15)).trans (Fr.ext F19)).trans (Fr.ext F27)) sI (upc (.inr m20) (fun _ h=>.inl h))) (H12.up (((G14.trans (Fr.ext F15)).trans (Fr.ext F19)).trans (Fr.ext F27)) sI (upc (.inr m20) (fun _ h=>.inl h)))) ((hL.fr E28).cons (B19.ex F27).lt) hx39) rfl rfl ?_
  rintro _ w39 ⟨F39,rfl⟩
  have E40:=E28.trans F39
  have G41:=(((G14.trans (Fr.ext F15)).trans (Fr.ext F19)).trans (Fr.ext F27)).trans (Fr.ext F39)
  refine o_w (v:=.bool (x39 != (0:Int))) (r_int rfl rfl rfl) ?_
  refine o_w (v:=.bool (x39 != (0:Int))) (r_asg rfl) ?_
  refine eo_nil_sq ?_
  refine ec_cond rfl (fun hc45=>?_) (fun hc45=>?_)
  ·replace h:=h.1 hc45
   refine ec_sr ?_
   refine o_w (v:=.agg #[str [],.int .i64 0,.int .i64 0,.int .i64 0,.bool false,str [],.slice none ([]:List Int).length 0,.slice none ([]:List Int).length 0,.int .u64 0]) (r_build bld_api_Entry (vs:=[]) (cells:=[str [],.int .i64 0,.int .i64 0,.int .i64 0,.bool false,str [],.slice none ([]:List Int).length 0,.slice none ([]:List Int).length 0,.int .u64 0]) rfl rfl) ?_
   refine o_store rfl ((B19.ex F27).ex F39) (vs:=[str [],.int .i64 0,.int .i64 0,.int .i64 0,.bool false,str [],.slice none ([]:List Int).length 0,.slice none ([]:List Int).length 0,.int .u64 0]) rfl sz_api_Entry rfl rfl rfl ?_
   intro w46 F46 B46
   have E47:=Ext.st E40 F46 (by simp; omega)
   have B46':Blk w46 b19 _ [str [],.int .i64 0,.int .i64 0,.int .i64 0,.bool false,str [],.slice none ([]:List Int).length 0,.slice none ([]:List Int).length 0,.int .u64 0]:=B46
   refine o_w (v:=.int .i64 2) (r_asg rfl) ?_
   refine eo_nil_sq ?_
   refine ec_ret ?_
   refine blk_ret ?_
   refine sq_ret ?_
   subst h
   exact (endr2 (rv_a rfl (agg_api_Entry) B46' (vs:=[str [],.int .i64 0,.int .i64 0,.int .i64 0,.bool false,str [],.slice none ([]:List Int).length 0,.slice none ([]:List Int).length 0,.int .u64 0]) rfl rfl) (rv_t rfl) ⟨_,rfl,E47,_,rfl,(kEnt_mk (d:=(⟨([]:Str),(⟨(0:Int),(0:Int),(0:Int),false,([]:Str),([]:List Int),([]:List Int),(0:Int)⟩:Val)⟩:Ent)) stb_nil stb_nil)⟩)
  ·replace h:=h.2 hc45
   refine ec_sr ?_
   refine o_w (v:=.pointer (some ⟨b13,0,none⟩)) (r_fa fld_api_Entry_0 rfl rfl) ?_
   refine o_w (v:=str d0.key) (r_ld one_string rfl ((S13.fr (((G18.trans (Fr.ext F19)).trans (Fr.ext F27)).trans (Fr.ext F39)) sI).now.cell rfl)) ?_
   refine o_w (v:=.pointer (some ⟨b15,0,none⟩)) (r_fa fld_api_Entry_0 rfl rfl) ?_
   refine o_w (v:=str d1.key) (r_ld one_string rfl ((S15.fr ((G26.trans (Fr.ext F27)).trans (Fr.ext F39)) sI).now.cell rfl)) ?_
   refine o_w (v:=.bool (!(d0.key==d1.key))) (r_str rfl rfl rfl) ?_
   refine o_w (v:=.bool (!(d0.key==d1.key))) (r_mov rfl) ?_
   refine o_vg (v:=.pointer (some ⟨b13,1,none⟩)) (want_cf (t:=22) rfl rfl) (fun hk=>(r_fa fld_api_Entry_1 rfl rfl)) rfl rfl ?_
   refine o_vg (v:=.pointer (some ⟨b13,1,none⟩)) (want_cf (t:=22) rfl rfl) (fun hk=>(r_fa fld_api_Value_0 rfl (gdT hk))) rfl rfl ?_
   refine o_vg (v:=.int .i64 d0.val.kind) (want_cf (t:=22) rfl rfl) (fun hk=>(r_ld one_int (gdT hk) ((S13.fr (((G18.trans (Fr.ext F19)).trans (Fr.ext F27)).trans (Fr.ext F39)) sI).now.cell rfl))) rfl rfl ?_
   refine o_vg (v:=.pointer (some ⟨b15,1,none⟩)) (want_cf (t:=22) rfl rfl) (fun hk=>(r_fa fld_api_Entry_1 rfl rfl)) rfl rfl ?_
   refine o_vg (v:=.pointer (some ⟨b15,1,none⟩)) (want_cf (t:=22) rfl rfl) (fun hk=>(r_fa fld_api_Value_0 rfl (gdT hk))) rfl rfl ?_
   refine o_vg (v:=.int .i64 d1.val.kind) (want_cf (t:=22) rfl rfl) (fun hk=>(r_ld one_int (gdT hk) ((S15.fr ((G26.trans (Fr.ext F27)).trans (Fr.ext F39)) sI).now.cell rfl))) rfl rfl ?_
   refine o_vg (v:=.bool (d0.val.kind != d1.val.kind)) (want_cf (t:=22) rfl rfl) (fun hk=>(r_int (gdT hk) (gdT hk) rfl)) rfl rfl ?_
   refine o_w (v:=.bool ((!(d0.key==d1.key))||(d0.val.kind != d1.val.kind))) (r_pickOr rfl rfl (fun hf=>(gdT (notT hf)))) ?_
   refine o_w (v:=.bool ((!(d0.key==d1.key))||(d0.val.kind != d1.val.kind))) (r_asg rfl) ?_
   refine eo_nil_sq ?_
   refine ec_cond rfl (fun hc51=>?_) (fun hc51=>?_)
   ·replace h:=h.1 hc51
    refine ec_sr ?_
    refine o_w (v:=.agg #[str [],.int .i64 0,.int .i64 0,.int .i64 0,.bool false,str [],.slice none ([]:List Int).length 0,.slice none ([]:List Int).length 0,.int .u64 0]) (r_build bld_api_Entry (vs:=[]) (cells:=[str [],.int .i64 0,.int .i64 0,.int .i64 0,.bool false,str [],.slice none ([]:List Int).length 0,.slice none ([]:List Int).length 0,.int .u64 0]) rfl rfl) ?_
    refine o_store rfl ((B19.ex F27).ex F39) (vs:=[str [],.int .i64 0,.int .i64 0,.int .i64 0,.bool false,str [],.slice none ([]:List Int).length 0,.slice none ([]:List Int).length 0,.int .u64 0]) rfl sz_api_Entry rfl rfl rfl ?_
    intro w52 F52 B52
    have E53:=Ext.st E40 F52 (by simp; omega)
    have B52':Blk w52 b19 _ [str [],.int .i64 0,.int .i64 0,.int .i64 0,.bool false,str [],.slice none ([]:List Int).length 0,.slice none ([]:List Int).length 0,.int .u64 0]:=B52
    refine o_w (v:=.int .i64 3) (r_asg rfl) ?_
    refine eo_nil_sq ?_
    refine ec_ret ?_
    refine blk_ret ?_
    refine sq_ret ?_
    subst h
    exact (endr2 (rv_a rfl (agg_api_Entry) B52' (vs:=[str [],.int .i64 0,.int .i64 0,.int .i64 0,.bool false,str [],.slice none ([]:List Int).length 0,.slice none ([]:List Int).length 0,.int .u64 0]) rfl rfl) (rv_t rfl) ⟨_,rfl,E53,_,rfl,(kEnt_mk (d:=(⟨([]:Str),(⟨(0:Int),(0:Int),(0:Int),false,([]:Str),([]:List Int),([]:List Int),(0:Int)⟩:Val)⟩:Ent)) stb_nil stb_nil)⟩)
   ·replace h:=h.2 hc51
    refine ec_skip ?_
    refine blk_n ?_
    refine sq_n ?_
    refine ec_sr ?_
    refine o_w (v:=.pointer (some ⟨b13,1,none⟩)) (r_fa fld_api_Entry_1 rfl rfl) ?_
    refine o_w (v:=.agg (cVal d0.val A1 c2 A4 c5).toArray) (r_lda agg_api_Value rfl (vs:=(cVal d0.val A1 c2 A4 c5)) rfl ((S13.fr (((G18.trans (Fr.ext F19)).trans (Fr.ext F27)).trans (Fr.ext F39)) sI).now.part (n:=8) rfl)) ?_
    refine o_w (v:=.pointer (some ⟨b15,1,none⟩)) (r_fa fld_api_Entry_1 rfl rfl) ?_
    refine o_w (v:=.agg (cVal d1.val A7 c8 A10 c11).toArray) (r_lda agg_api_Value rfl (vs:=(cVal d1.val A7 c8 A10 c11)) rfl ((S15.fr ((G26.trans (Fr.ext F27)).trans (Fr.ext F39)) sI).now.part (n:=8) rfl)) ?_
    obtain ⟨ha58,h⟩:=h
    obtain ⟨ha59,h⟩:=h
    obtain ⟨x57,hx57,h⟩:=h
    refine o_call cf_value_Join rfl (value_Join_c d0.val (kVal_mk (d:=d0.val) (H3.up G41 sI (upc (.inr m20) (fun _ h=>.inl h))) (H6.up G41 sI (upc (.inr m20) (fun _ h=>.inl h)))) d1.val (kVal_mk (d:=d1.val) (H9.up G41 sI (upc (.inr m20) (fun _ h=>.inl h))) (H12.up G41 sI (upc (.inr m20) (fun _ h=>.inl h)))) ((hL.fr E40).cons ((B19.ex F27).ex F39).lt) (eq_ev hx57 (valJoin_ev d0.val d1.val ha58 ha59))) rfl rfl ?_
    rintro _ w57 ⟨F57,cs60,rfl,H61⟩
    have E62:=E40.trans F57
    have G64:=(((G18.trans (Fr.ext F19)).trans (Fr.ext F27)).trans (Fr.ext F39)).trans (Fr.ext F57)
    obtain ⟨A67,c68,A70,c71,rfl,H69,H72⟩:=kVal_open H61
    refine o_w (v:=.tuple #[.agg (cVal x57.1 A67 c68 A70 c71).toArray,.int .i64 x57.2]) (r_mov rfl) ?_
    refine o_w (v:=.agg (cVal x57.1 A67 c68 A70 c71).toArray) (r_ext rfl rfl) ?_
    refine o_w (v:=.int .i64 x57.2) (r_ext rfl rfl) ?_
    refine o_alloc zero_api_Value rfl rfl rfl ?_
    intro b73 w73 e73 F73 B73
    have n73:w.heap.size≤b73:=by rw [e73]; exact E62.size
    have q74:b19<b73:=by rw [e73]; exact (((B19.ex F27).ex F39).ex F57).lt
    have m76:w13.heap.size≤b73:=by rw [e73]; exact G64.size
    have m78:w57.heap.size≤b73:=Nat.le_of_eq e73.symm
    have E79:=E62.trans F73
    have G83:Fr (b19::L) w57 w73:=Fr.ext F73
    refine o_store rfl B73 (vs:=(cVal x57.1 A67 c68 A70 c71)) rfl sz_api_Value rfl rfl rfl ?_
    intro w85 F85 B85
    have E86:=Ext.st E79 F85 (by simp; omega)
    have G88:Fr L w13 w85:=(G64.trans (Fr.ext F73)).stp F85 (upc (.inr m76) (fun m hm=>by cases hm))
    have G90:Fr (b19::L) w57 w85:=G83.stp F85 (upc (.inr m78) (fun m hm=>by cases hm))
    have B91:=((((B19.ex F27).ex F39).ex F57).ex F73).fr F85 (by simp; omega)
    have B85':Blk w85 b73 _ (cVal x57.1 A67 c68 A70 c71):=B85
    refine o_w (v:=.int .i64 x57.2) (r_asg rfl) ?_
    refine eo_r ?_
    refine o_w (v:=.pointer (some ⟨b13,0,none⟩)) (r_fa fld_api_Entry_0 rfl rfl) ?_
    refine o_w (v:=str d0.key) (r_ld one_string rfl ((S13.fr G88 sI).now.cell rfl)) ?_
    refine o_w (v:=.agg (cVal x57.1 A67 c68 A70 c71).toArray) (r_lda agg_api_Value rfl (vs:=(cVal x57.1 A67 c68 A70 c71)) rfl (B85'.part (n:=8) rfl)) ?_
    refine o_w (v:=.agg #[str d0.key,.int .i64 x57.1.kind,.int .i64 x57.1.time,.int .i64 x57.1.node,.bool x57.1.dead,str x57.1.text,.slice A67 x57.1.plus.length c68,.slice A70 x57.1.minus.length c71,.int .u64 x57.1.flags]) (r_build bld_api_Entry (vs:=[(0,str d0.key),(1,.agg (cVal x57.1 A67 c68 A70 c71).toArray)]) (cells:=[str d0.key,.int .i64 x57.1.kind,.int .i64 x57.1.time,.int .i64 x57.1.node,.bool x57.1.dead,str x57.1.text,.slice A67 x57.1.plus.length c68,.slice A70 x57.1.minus.length c71,.int .u64 x57.1.flags]) rfl rfl) ?_
    refine o_store rfl B91 (vs:=[str d0.key,.int .i64 x57.1.kind,.int .i64 x57.1.time,.int .i64 x57.1.node,.bool x57.1.dead,str x57.1.text,.slice A67 x57.1.plus.length c68,.slice A70 x57.1.minus.length c71,.int .u64 x57.1.flags]) rfl sz_api_Entry rfl rfl rfl ?_
    intro w92 F92 B92
    have E93:=Ext.st E86 F92 (by simp; omega)
    have G97:Fr (b19::L) w57 w92:=G90.stp F92 (upc (.inl mH) (fun m hm=>by cases hm))
    have B92':Blk w92 b19 _ [str d0.key,.int .i64 x57.1.kind,.int .i64 x57.1.time,.int .i64 x57.1.node,.bool x57.1.dead,str x57.1.text,.slice A67 x57.1.plus.length c68,.slice A70 x57.1.minus.length c71,.int .u64 x57.1.flags]:=B92
    refine o_w (v:=.int .i64 0) (r_asg rfl) ?_
    refine eo_nil_sq ?_
    refine ec_ret ?_
    subst h
    exact (endr2 (rv_a rfl (agg_api_Entry) B92' (vs:=[str d0.key,.int .i64 x57.1.kind,.int .i64 x57.1.time,.int .i64 x57.1.node,.bool x57.1.dead,str x57.1.text,.slice A67 x57.1.plus.length c68,.slice A70 x57.1.minus.length c71,.int .u64 x57.1.flags]) rfl rfl) (rv_t rfl) ⟨_,rfl,E93,_,rfl,(kEnt_mk (d:=(⟨d0.key,x57.1⟩:Ent)) (H69.up G97 sI (fun m hm=>Or.inl (mT hm))) (H72.up G97 sI (fun m hm=>Or.inl (mT hm))))⟩)
def law07_Few_raw (d0:Ent) (y:Bool):Prop :=
 y=((fewV d0.val)&&(decide ((d0.key.length:Int)≤100)))
set_option maxRecDepth 20000 in
set_option maxHeartbeats 4000000 in
theorem law07_Few_c {L:List Nat} {w:World} {csP0:List Value} (d0:Ent) (HP0:Stb L w (fun w=>kEnt.r w csP0 d0)) (hL:Lt L w) {y:Bool} (h:law07_Few_raw d0 y) :
  Calls Tryz.prog 24 [.agg csP0.toArray].toArray w (Ret fun v w'=>Ext w w'∧v=.bool y):=by
 obtain ⟨A1,c2,A4,c5,rfl,H3,H6⟩:=kEnt_open HP0
 unfold law07_Few_raw at h
 refine calls_ec Tryz.func24 rfl rfl rfl ?_
 refine ec_sr ?_
 refine o_box (cs:=(cEnt d0 A1 c2 A4 c5)) rfl rfl rfl ?_
 intro b7 w7 e7 F7 B7
 have S7:=B7.stb (nin hL e7)
 have G8:Fr L w w7:=Fr.ext F7
 refine o_w (v:=.bool false) (r_asg rfl) ?_
 refine eo_r ?_
 refine o_w (v:=.pointer (some ⟨b7,1,none⟩)) (r_fa fld_api_Entry_1 rfl rfl) ?_
 refine o_w (v:=.agg (cVal d0.val A1 c2 A4 c5).toArray) (r_lda agg_api_Value rfl (vs:=(cVal d0.val A1 c2 A4 c5)) rfl (S7.now.part (n:=8) rfl)) ?_
 refine o_call cf_law06_Few rfl (law06_Few_c d0.val (kVal_mk (d:=d0.val) (H3.fr G8 sI) (H6.fr G8 sI)) (hL.fr F7) (few_ev d0.val)) rfl rfl ?_
 rintro _ w9 ⟨F9,rfl⟩
 have E10:=F7.trans F9
 have G12:Fr L w7 w9:=Fr.ext F9
 refine o_w (v:=.bool (fewV d0.val)) (r_asg rfl) ?_
 refine eo_r ?_
 iterate 2 refine o_w (v:=.bool (fewV d0.val)) (r_mov rfl) ?_
 refine o_vg (v:=.pointer (some ⟨b7,0,none⟩)) (want_ct (t:=8) rfl rfl) (fun hk=>(r_fa fld_api_Entry_0 rfl rfl)) rfl rfl ?_
 refine o_vg (v:=str d0.key) (want_ct (t:=8) rfl rfl) (fun hk=>(r_ld one_string (gdT hk) ((S7.fr G12 sI).now.cell rfl))) rfl rfl ?_
 refine o_vg (v:=.int .i64 (d0.key.length:Int)) (want_ct (t:=8) rfl rfl) (fun hk=>(r_len_str un_string (gdT hk))) rfl rfl ?_
 refine o_vg (v:=.bool (decide ((d0.key.length:Int)≤100))) (want_ct (t:=8) rfl rfl) (fun hk=>(r_int (gdT hk) rfl rfl)) rfl rfl ?_
 refine o_w (v:=.bool ((fewV d0.val)&&(decide ((d0.key.length:Int)≤100)))) (r_pickAnd rfl (fun ht=>(gdT ht)) rfl) ?_
 refine o_w (v:=.bool ((fewV d0.val)&&(decide ((d0.key.length:Int)≤100)))) (r_asg rfl) ?_
 refine eo_nil_sq ?_
 refine ec_ret ?_
 subst h
 exact (end1 rfl ⟨_,rfl,E10,rfl⟩)
def law08_Entries_b1 (d0:(List Ent)) (d1:Int) (s1:Int) (z1:(Int) ⊕ ((Int) ⊕ (Bool))):Prop :=
 (((decide (s1<(d0.length:Int)))&&(decide (s1≤d1)))=true→((0≤s1∧s1<(d0.length:Int))∧(∃ x15,law07_Few_raw (nth d0 s1) x15∧(((!x15)=true→(z1=.inr (.inr false)))∧((!x15)=false→(z1=.inl (IntKind.i64.wrap (s1 + (1:Int)))))))))∧(((decide (s1<(d0.length:Int)))&&(decide (s1≤d1)))=false→(z1=.inr (.inl s1)))
def law08_Entries_raw (d0:(List Ent)) (d1:Int) (y:Bool):Prop :=
 ∃ x1,LoopR (law08_Entries_b1 d0 d1) (0:Int) x1∧(∀ sx1,x1=.inl sx1→(y=(decide ((d0.length:Int)≤d1))))∧(∀ y1,x1=.inr y1→(y=y1))
set_option maxRecDepth 20000 in
set_option maxHeartbeats 4000000 in
theorem law08_Entries_c {L:List Nat} {w:World} {AP0:Option Addr} {cP0:Nat} (d0:(List Ent)) (HP0:Stb L w (fun w=>SlC kEnt w AP0 cP0 d0)) (d1:Int) (hL:Lt L w) {y:Bool} (h:law08_Entries_raw d0 d1 y) :
  Calls Tryz.prog 30 [.slice AP0 d0.length cP0,.int .i64 d1].toArray w (Ret fun v w'=>Ext w w'∧v=.bool y):=by
 unfold law08_Entries_raw at h
 refine calls_ec Tryz.func30 rfl rfl rfl ?_
 refine ec_sr ?_
 refine o_w (v:=.bool false) (r_asg rfl) ?_
 refine eo_nil_sq ?_
 refine ec_seq ?_
 refine ec_sr ?_
 refine o_w (v:=.int .i64 0) (r_asg rfl) ?_
 refine eo_nil_sq ?_
 refine ec_block ?_
 obtain ⟨x1,hl1,h⟩:=h
 refine ec_loopER 0 (I:=(fun (s1:Int) ρ ds w'=>∃ (ρ':Env),ρ=envs ρ' [(5,.int .i64 s1),(0,.slice AP0 d0.length cP0),(1,.int .i64 d1)]∧ds=[]∧Fr L w w'∧Ext w w')) (J:=(fun (y':Bool) ρ ds wz=>bodyE Tryz.prog #[.tmp 4] (Ret fun v w'=>Ext w w'∧v=.bool y') .ret ρ ds wz)) ?_ hl1 ?_ ?_ ?_
 ·intro s1 z1 ρ1 ds1 w1r hI1 hb1
  obtain ⟨ρ1r,rfl,rfl,F1r,E1r⟩:=hI1
  have h:=hb1
  unfold law08_Entries_b1 at h
  have G2:Fr L w w1r:=(Fr.refl _ _).stp F1r (fun _ h=>.inl h)
  refine ec_seq ?_
  refine ec_sr ?_
  refine o_w (v:=.int .i64 s1) (r_mov rfl) ?_
  refine o_w (v:=.slice AP0 d0.length cP0) (r_mov rfl) ?_
  refine o_w (v:=.int .i64 (d0.length:Int)) (r_len_slc un_s_api_Entry rfl) ?_
  refine o_w (v:=.bool (decide (s1<(d0.length:Int)))) (r_int rfl rfl rfl) ?_
  refine o_w (v:=.bool (decide (s1<(d0.length:Int)))) (r_mov rfl) ?_
  refine o_vg (v:=.int .i64 s1) (want_ct (t:=11) rfl rfl) (fun hk=>(r_mov rfl)) rfl rfl ?_
  refine o_vg (v:=.int .i64 d1) (want_ct (t:=11) rfl rfl) (fun hk=>(r_mov rfl)) rfl rfl ?_
  refine o_vg (v:=.bool (decide (s1≤d1))) (want_ct (t:=11) rfl rfl) (fun hk=>(r_int (gdT hk) (gdT hk) rfl)) rfl rfl ?_
  refine o_w (v:=.bool ((decide (s1<(d0.length:Int)))&&(decide (s1≤d1)))) (r_pickAnd rfl (fun ht=>(gdT ht)) rfl) ?_
  refine eo_nil_sq ?_
  refine ec_cond rfl (fun hc3=>?_) (fun hc3=>?_)
  ·replace h:=h.1 hc3
   refine ec_skip ?_
   refine sq_n ?_
   refine ec_seq ?_
   refine ec_block ?_
   refine ec_sr ?_
   refine o_w (v:=.slice AP0 d0.length cP0) (r_mov rfl) ?_
   refine o_w (v:=.int .i64 s1) (r_mov rfl) ?_
   obtain ⟨ha4,h⟩:=h
   obtain ⟨cs5,l7,H6⟩:=Stb.elem (by decide) (HP0.fr G2 sI) s1 ha4.1 ha4.2
   obtain ⟨A9,c10,A12,c13,rfl,H8,H11,H14⟩:=kEnt_open2 H6
   refine o_w (v:=.pointer (some (elemA AP0 kEnt.n s1.toNat))) (r_ia slc_s_api_Entry rfl rfl ((HP0.fr G2 sI).now.2 _ (lt_toNat ha4.1 ha4.2)).1 ha4.1 ha4.2) ?_
   refine o_w (v:=.agg (cEnt (nth d0 s1) A9 c10 A12 c13).toArray) (r_lda' agg_api_Entry rfl (elemA_spot _ _ _) (vs:=(cEnt (nth d0 s1) A9 c10 A12 c13)) rfl (H8.now.1)) ?_
   obtain ⟨x15,hx15,h⟩:=h
   refine o_call cf_law07_Few rfl (law07_Few_c (nth d0 s1) (kEnt_mk (d:=(nth d0 s1)) H11 H14) (hL.fr E1r) hx15) rfl rfl ?_
   rintro _ w15 ⟨F15,rfl⟩
   have E16:=E1r.trans F15
   refine o_w (v:=.bool x15) (r_asg rfl) ?_
   refine eo_r ?_
   refine o_w (v:=.bool x15) (r_mov rfl) ?_
   refine o_w (v:=.bool (!x15)) (r_not rfl) ?_
   refine eo_nil_sq ?_
   refine ec_cond rfl (fun hc20=>?_) (fun hc20=>?_)
   ·replace h:=h.1 hc20
    refine ec_sr ?_
    refine o_w (v:=.bool false) (r_asg rfl) ?_
    refine eo_nil_sq ?_
    refine ec_ret ?_
    refine blk_ret ?_
    refine sq_ret ?_
    subst h
    exact lqR_r (end1 rfl ⟨_,rfl,E16,rfl⟩)
   ·replace h:=h.2 hc20
    refine ec_skip ?_
    refine blk_n ?_
    refine sq_n ?_
    refine ec_region ?_
    refine o_w (v:=.int .i64 s1) (r_mov rfl) ?_
    refine o_w (v:=.int .i64 (IntKind.i64.wrap (s1 + (1:Int)))) (r_int rfl rfl rfl) ?_
    refine o_w (v:=.int .i64 (IntKind.i64.wrap (s1 + (1:Int)))) (r_asg rfl) ?_
    refine eo_nil ?_
    subst h
    exact lqR_n ⟨_,envs_self ⟨rfl,rfl,rfl,trivial⟩,rfl,(F1r.trans (Fr.ext F15)),E16⟩
  ·replace h:=h.2 hc3
   refine ec_exit ?_
   refine sq_exit ?_
   subst h
   exact lqR_x ⟨_,envs_self ⟨rfl,rfl,rfl,trivial⟩,rfl,F1r,E1r⟩
 ·exact ⟨_,envs_self ⟨rfl,rfl,rfl,trivial⟩,rfl,(Fr.refl _ _),(Fr.refl _ _)⟩
 ·rintro sx1 rfl ρ1e ds1e w1e ⟨ρ1e,rfl,rfl,F1e,E1e⟩
  replace h:=h.1 _ rfl
  refine blk_hit ?_
  refine sq_n ?_
  refine ec_sr ?_
  refine o_w (v:=.slice AP0 d0.length cP0) (r_mov rfl) ?_
  refine o_w (v:=.int .i64 (d0.length:Int)) (r_len_slc un_s_api_Entry rfl) ?_
  refine o_w (v:=.int .i64 d1) (r_mov rfl) ?_
  refine o_w (v:=.bool (decide ((d0.length:Int)≤d1))) (r_int rfl rfl rfl) ?_
  refine o_w (v:=.bool (decide ((d0.length:Int)≤d1))) (r_asg rfl) ?_
  refine eo_nil_sq ?_
  refine ec_ret ?_
  subst h
  exact (end1 rfl ⟨_,rfl,E1e,rfl⟩)
 ·rintro y1 rfl ρ1q ds1q w1q hJ
  have hy:=h.2 _ rfl
  subst hy
  refine blk_ret ?_
  refine sq_ret ?_
  exact hJ
def law08_Few_raw (d0:Arena) (y:Bool):Prop :=
 ∃ x9,law08_Entries_raw d0.slots (12:Int) x9∧(y=(x9&&(decide ((d0.idx.length:Int)≤40))))
set_option maxRecDepth 20000 in
set_option maxHeartbeats 4000000 in
theorem law08_Few_c {L:List Nat} {w:World} {csP0:List Value} (d0:Arena) (HP0:Stb L w (fun w=>kArena.r w csP0 d0)) (hL:Lt L w) {y:Bool} (h:law08_Few_raw d0 y) :
  Calls Tryz.prog 10 [.agg csP0.toArray].toArray w (Ret fun v w'=>Ext w w'∧v=.bool y):=by
 obtain ⟨A1,c2,A4,c5,rfl,H3,H6⟩:=kArena_open HP0
 unfold law08_Few_raw at h
 refine calls_ec Tryz.func10 rfl rfl rfl ?_
 refine ec_sr ?_
 refine o_box (cs:=(cArena d0 A1 c2 A4 c5)) rfl rfl rfl ?_
 intro b7 w7 e7 F7 B7
 have S7:=B7.stb (nin hL e7)
 have G8:Fr L w w7:=Fr.ext F7
 refine o_w (v:=.bool false) (r_asg rfl) ?_
 refine eo_r ?_
 refine o_w (v:=.pointer (some ⟨b7,1,none⟩)) (r_fa fld_api_Arena_1 rfl rfl) ?_
 refine o_w (v:=.slice A1 d0.slots.length c2) (r_ld one_s_api_Entry rfl (S7.now.cell rfl)) ?_
 obtain ⟨x9,hx9,h⟩:=h
 refine o_call cf_law08_Entries rfl (law08_Entries_c d0.slots (H3.fr G8 sI) (12:Int) (hL.fr F7) hx9) rfl rfl ?_
 rintro _ w9 ⟨F9,rfl⟩
 have E10:=F7.trans F9
 have G12:Fr L w7 w9:=Fr.ext F9
 refine o_w (v:=.bool x9) (r_asg rfl) ?_
 refine eo_r ?_
 iterate 2 refine o_w (v:=.bool x9) (r_mov rfl) ?_
 refine o_vg (v:=.pointer (some ⟨b7,2,none⟩)) (want_ct (t:=8) rfl rfl) (fun hk=>(r_fa fld_api_Arena_2 rfl rfl)) rfl rfl ?_
 refine o_vg (v:=.slice A4 d0.idx.length c5) (want_ct (t:=8) rfl rfl) (fun hk=>(r_ld one_s_int (gdT hk) ((S7.fr G12 sI).now.cell rfl))) rfl rfl ?_
 refine o_vg (v:=.int .i64 (d0.idx.length:Int)) (want_ct (t:=8) rfl rfl) (fun hk=>(r_len_slc un_s_int (gdT hk))) rfl rfl ?_
 refine o_vg (v:=.bool (decide ((d0.idx.length:Int)≤40))) (want_ct (t:=8) rfl rfl) (fun hk=>(r_int (gdT hk) rfl rfl)) rfl rfl ?_
 refine o_w (v:=.bool (x9&&(decide ((d0.idx.length:Int)≤40)))) (r_pickAnd rfl (fun ht=>(gdT ht)) rfl) ?_
 refine o_w (v:=.bool (x9&&(decide ((d0.idx.length:Int)≤40)))) (r_asg rfl) ?_
 refine eo_nil_sq ?_
 refine ec_ret ?_
 subst h
 exact (end1 rfl ⟨_,rfl,E10,rfl⟩)

def okE (e:Ent):Bool:=decide (1≤e.key.length)&&(decide (e.key.length≤8)&&okV e.val)
def checkE (e:Ent):Int:=bif okE e then 0 else 2
def zeroE:Ent:=⟨[],zeroV⟩
def nameE (a b:Ent):Bool:=a.val.kind==b.val.kind&&a.key==b.key
def lessE (a b:Ent):Bool:=bif a.val.kind != b.val.kind then decide (a.val.kind<b.val.kind) else Op.bytesLess a.key b.key
def sameE (a b:Ent):Bool:=a.key==b.key&&sameV a.val b.val
def joinE (a b:Ent):Ent × Int:=bif !okE a||!okE b then (zeroE,2) else bif !nameE a b then (zeroE,3) else (⟨a.key,(joinV a.val b.val).1⟩,0)
def sml (l:List Ent):Prop:=l.length≤9223372036854775807∧∀ e∈l,sm e.val
theorem sameE_iff {a b:Ent}:sameE a b=true↔a=b:=by
 obtain ⟨_,_⟩:=a
 obtain ⟨_,_⟩:=b
 simp only [sameE,Bool.and_eq_true,beq_iff_eq,Ent.mk.injEq,sameV_iff]
def fewE (e:Ent):Bool:=fewV e.val&&decide (e.key.length≤100)
def entriesB (l:List Ent) (most:Int):Bool:=decide ((l.length:Int)≤most)&&l.all fewE
def fewA (a:Arena):Bool:=entriesB a.slots 12&&decide (a.idx.length≤40)

theorem entCheck_ev (e:Ent) (h:sm e.val):entry_Check_raw e (checkE e):=by
 refine ⟨fun h1=>?_,fun h1=>⟨h,?_⟩⟩
 ·have:okE e=false:=by
   simp only [Bool.or_eq_true,beq_iff_eq,decide_eq_true_eq] at h1
   unfold okE
   rcases h1 with h1 | h1
   ·rw [h1]; rfl
   ·have:decide (e.key.length≤8)=false:=by simp; omega
    rw [this]; simp
  unfold checkE; rw [this]; rfl
 ·simp only [Bool.or_eq_false_iff,beq_eq_false_iff_ne,decide_eq_false_iff_not] at h1
  have l1:1≤e.key.length:=by
   have:=List.length_pos_iff.2 h1.1; omega
  have l2:e.key.length≤8:=by have:=h1.2; omega
  have:okE e=okV e.val:=by unfold okE; simp [l1,l2]
  unfold checkE checkV; rw [this]
theorem less_ev {raw:Ent→Ent→Bool→Prop} (hr:raw=fun d0 d1 y=>((d0.val.kind != d1.val.kind)=true→(y=(decide (d0.val.kind<d1.val.kind))))∧((d0.val.kind != d1.val.kind)=false→(y=(Op.bytesLess d0.key d1.key)))) (a b:Ent):raw a b (lessE a b):=by
 subst hr
 exact ⟨fun h=>by unfold lessE; rw [h]; rfl,fun h=>by unfold lessE; rw [h]; rfl⟩
theorem entLess_ev (a b:Ent):entry_Less_raw a b (lessE a b):=less_ev rfl a b
theorem entSame_ev (a b:Ent) (h:sm a.val):entry_Same_raw a b (sameE a b):=⟨fun _=>h,rfl⟩
theorem checkE_ne (e:Ent):(checkE e != 0)=!okE e:=by unfold checkE; cases okE e <;> rfl
theorem entJoin_ev (a b:Ent) (ha:sm a.val) (hb:sm b.val):entry_Join_raw a b (joinE a b):=by
 refine ⟨_,entCheck_ev a ha,fun h=>?_,fun h=>⟨_,entCheck_ev b hb,fun h2=>?_,fun h2=>⟨fun h3=>?_,fun h3=>⟨ha,hb,_,rfl,?_⟩⟩⟩⟩ <;> rw [checkE_ne] at h <;> (try rw [checkE_ne] at h2)
 ·unfold joinE; rw [h]; rfl
 ·unfold joinE; rw [h,h2]; rfl
 ·have:nameE a b=false:=by revert h3; unfold nameE bne; cases a.key==b.key <;> cases a.val.kind==b.val.kind <;> simp
  unfold joinE; rw [h,h2,this]; rfl
 ·have:nameE a b=true:=by revert h3; unfold nameE bne; cases a.key==b.key <;> cases a.val.kind==b.val.kind <;> simp
  unfold joinE; rw [h,h2,this]; rfl
theorem fewE_ev (e:Ent):law07_Few_raw e (fewE e):=by
 have e1:decide ((e.key.length:Int)≤100)=decide (e.key.length≤100):=dec_cast (m:=100)
 unfold law07_Few_raw fewE; rw [e1]
theorem getD_mem {T:Type} [Inhabited T] {l:List T} {i:Nat} (h:i<l.length):l.getD i default∈l:=by
 simp [h]
theorem entries_ev (l:List Ent) (most:Int) (hm:most≤100):law08_Entries_raw l most (entriesB l most):=by
 -- the loop goes over the first most + 1
 obtain ⟨x,hx,h2⟩:=loop_scan (body:=law08_Entries_b1 l most) (min l.length (most + 1).toNat) (fun i=>fewE (l.getD i default)) (fun _=>false)
  (fun i hi hp=>by
   have e1:(decide ((i:Int)<(l.length:Int))&&decide ((i:Int)≤most))=true:=by simp; omega
   refine ⟨fun _=>⟨⟨by omega,by omega⟩,_,fewE_ev _,fun h=>(by rw [nth_nat,hp] at h; cases h),fun _=>by rw [wrapS (n:=102) (by omega) (by decide)]⟩,fun h=>by rw [e1] at h; cases h⟩)
  (fun i hi hp=>by
   have e1:(decide ((i:Int)<(l.length:Int))&&decide ((i:Int)≤most))=true:=by simp; omega
   refine ⟨fun _=>⟨⟨by omega,by omega⟩,_,fewE_ev _,fun h=>rfl,fun h=>(by rw [nth_nat,hp] at h; cases h)⟩,fun h=>by rw [e1] at h; cases h⟩)
  ⟨fun h=>by simp at h; omega,fun _=>rfl⟩
 refine ⟨x,hx,fun s e=>?_,fun y e=>?_⟩
 ·rcases h2 with ⟨_,h3⟩ | ⟨i,_,_,_,h6⟩
  ·unfold entriesB
   by_cases hle:(l.length:Int)≤most
   ·have:l.all fewE=true:=by
     rw [List.all_eq_true]
     intro n hn
     obtain ⟨i,hi,rfl⟩:=List.getElem_of_mem hn
     have:=h3 i (by omega)
     simpa [hi] using this
    rw [this,Bool.and_true]
   ·have:decide ((l.length:Int)≤most)=false:=by simpa using hle
    rw [this]; rfl
  ·rw [e] at h6; cases h6
 ·rcases h2 with ⟨h3,_⟩ | ⟨i,hi,h4,_,h6⟩
  ·rw [e] at h3; cases h3
  ·rw [e] at h6; cases h6
   have hil:i<l.length:=by omega
   have:l.all fewE=false:=by
    rw [List.all_eq_false]
    exact ⟨_,getD_mem hil,by simpa using h4⟩
   unfold entriesB; rw [this,Bool.and_false]
theorem fewA_ev (a:Arena):law08_Few_raw a (fewA a):=by
 have e1:decide ((a.idx.length:Int)≤40)=decide (a.idx.length≤40):=dec_cast (m:=40)
 refine ⟨_,entries_ev _ _ (by decide),?_⟩
 unfold fewA; rw [e1]
theorem fewE_sm {e:Ent} (h:fewE e=true):sm e.val:=few_sm (andL h)
theorem entriesB_sml {l:List Ent} {m:Int} (h:entriesB l m=true) (hm:m≤100):sml l:=by
 unfold entriesB at h
 have h1:=andL h
 have h2:=andR h
 simp only [decide_eq_true_eq] at h1
 refine ⟨by omega,fun e he=>fewE_sm (List.all_eq_true.1 h2 e he)⟩
theorem sm_joinE {a b:Ent} (ha:sm a.val) (hb:sm b.val):sm (joinE a b).1.val:=by
 unfold joinE
 cases (!okE a||!okE b) with
 | true=>exact ⟨Nat.zero_le _,Nat.zero_le _⟩
 | false =>
  cases nameE a b with
  | false=>exact ⟨Nat.zero_le _,Nat.zero_le _⟩
  | true=>exact sm_join ha hb
end Go.Proofs.YthbfhgenkhkpfaaGreat