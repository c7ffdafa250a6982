import Derived.Test.YtdfjbkoimpjkaaaGreatVj
import Derived.Test.YtdfjbkoimpjkaaaGreatVh
import Derived.Test.YtdfjbkoimpjkaaaGreatVo
namespace Go.Proofs.YtdfjbkoimpjkaaaGreat
open Go Go.RowKit
set_option linter.unusedVariables false
set_option linter.unusedSimpArgs false
def law14_works_raw (y:Bool):Prop :=
 (sml (⟨(7:Int),(3:Int),(0:Int),[(0:Int),(0:Int),(0:Int),(0:Int)],([]:List Ent)⟩:Frm).entries)∧(∃ x1,x1=(putFr (⟨(7:Int),(3:Int),(0:Int),[(0:Int),(0:Int),(0:Int),(0:Int)],([]:List Ent)⟩:Frm))∧((x1.1.length≤1000000000)∧(∃ x3,x3=(getFr x1.1)∧((sml (⟨(1:Int),(2:Int),(9:Int),[(0:Int),(0:Int),(0:Int),(0:Int)],([(⟨([107]:Str),(⟨(3:Int),(0:Int),(0:Int),false,([]:Str),([]:List Int),([]:List Int),(5:Int)⟩:Val)⟩:Ent)]:List Ent)⟩:Frm).entries)∧(∃ x35,x35=(putFr (⟨(1:Int),(2:Int),(9:Int),[(0:Int),(0:Int),(0:Int),(0:Int)],([(⟨([107]:Str),(⟨(3:Int),(0:Int),(0:Int),false,([]:Str),([]:List Int),([]:List Int),(5:Int)⟩:Val)⟩:Ent)]:List Ent)⟩:Frm))∧((sml (⟨(7:Int),(0:Int),(1:Int),[(0:Int),(0:Int),(0:Int),(0:Int)],([]:List Ent)⟩:Frm).entries)∧(∃ x42,x42=(putFr (⟨(7:Int),(0:Int),(1:Int),[(0:Int),(0:Int),(0:Int),(0:Int)],([]:List Ent)⟩:Frm))∧(x1.1.length + ([120]:Str).length≤9223372036854775807∧(((x1.1++([120]:Str)).length≤1000000000)∧(∃ x50,x50=(getFr (x1.1++([120]:Str)))∧((((((((((((x1.1.length:Int)==30)&&(x1.2==0))&&(x3.1.kind==7))&&(x3.1.a==3))&&(x3.2==0))&&((x35.1.length:Int)==72))&&(x35.2==0))&&(x42.2==2))&&(x50.2==2))=true→sml x3.1.entries)∧(((((((((((((x1.1.length:Int)==30)&&(x1.2==0))&&(x3.1.kind==7))&&(x3.1.a==3))&&(x3.2==0))&&((x35.1.length:Int)==72))&&(x35.2==0))&&(x42.2==2))&&(x50.2==2))&&((checkF x3.1)==0))=true→sml (⟨(0:Int),(0:Int),(0:Int),[(0:Int),(0:Int),(0:Int),(0:Int)],([]:List Ent)⟩:Frm).entries)∧((((((((((((((x1.1.length:Int)==30)&&(x1.2==0))&&(x3.1.kind==7))&&(x3.1.a==3))&&(x3.2==0))&&((x35.1.length:Int)==72))&&(x35.2==0))&&(x42.2==2))&&(x50.2==2))&&((checkF x3.1)==0))&&((checkF (⟨(0:Int),(0:Int),(0:Int),[(0:Int),(0:Int),(0:Int),(0:Int)],([]:List Ent)⟩:Frm))==2))=true→sml x3.1.entries)∧(((((((((((((((x1.1.length:Int)==30)&&(x1.2==0))&&(x3.1.kind==7))&&(x3.1.a==3))&&(x3.2==0))&&((x35.1.length:Int)==72))&&(x35.2==0))&&(x42.2==2))&&(x50.2==2))&&((checkF x3.1)==0))&&((checkF (⟨(0:Int),(0:Int),(0:Int),[(0:Int),(0:Int),(0:Int),(0:Int)],([]:List Ent)⟩:Frm))==2))&&(sameF x3.1 x3.1))=true→sml x3.1.entries)∧(y=((((((((((((((x1.1.length:Int)==30)&&(x1.2==0))&&(x3.1.kind==7))&&(x3.1.a==3))&&(x3.2==0))&&((x35.1.length:Int)==72))&&(x35.2==0))&&(x42.2==2))&&(x50.2==2))&&((checkF x3.1)==0))&&((checkF (⟨(0:Int),(0:Int),(0:Int),[(0:Int),(0:Int),(0:Int),(0:Int)],([]:List Ent)⟩:Frm))==2))&&(sameF x3.1 x3.1))&&(!(sameF x3.1 (⟨(0:Int),(0:Int),(0:Int),[(0:Int),(0:Int),(0:Int),(0:Int)],([]:List Ent)⟩:Frm)))))))))))))))))))
set_option maxRecDepth 20000 in
set_option maxHeartbeats 4000000 in
theorem law14_works_c {L:List Nat} {w:World}  (hL:Lt L w) {y:Bool} (h:law14_works_raw y) :
  Calls Tryz.prog 9 [].toArray w (Ret fun v w'=>Ext w w'∧v=.bool y):=by
 unfold law14_works_raw at h
 refine calls_ec Tryz.func9 rfl rfl rfl ?_
 refine ec_sr ?_
 refine o_w (v:=.bool false) (r_asg rfl) ?_
 refine eo_r ?_
 refine o_w (v:=.agg #[.int .i64 7,.int .i64 3,.int .i64 0,.int .i64 0,.int .i64 0,.int .i64 0,.int .i64 0,.slice none ([]:List Ent).length 0]) (r_build bld_frame_Frame (vs:=[(0,.int .i64 7),(1,.int .i64 3)]) (cells:=[.int .i64 7,.int .i64 3,.int .i64 0,.int .i64 0,.int .i64 0,.int .i64 0,.int .i64 0,.slice none ([]:List Ent).length 0]) rfl rfl) ?_
 obtain ⟨ha2,h⟩:=h
 obtain ⟨x1,hx1,h⟩:=h
 refine o_call cf_frame_Put rfl (frame_Put_c (⟨(7:Int),(3:Int),(0:Int),[(0:Int),(0:Int),(0:Int),(0:Int)],([]:List Ent)⟩:Frm) (kFrm_mk (d:=(⟨(7:Int),(3:Int),(0:Int),[(0:Int),(0:Int),(0:Int),(0:Int)],([]:List Ent)⟩:Frm)) stb_nil rfl) hL (eq_ev hx1 (frPut_ev (⟨(7:Int),(3:Int),(0:Int),[(0:Int),(0:Int),(0:Int),(0:Int)],([]:List Ent)⟩:Frm) ha2))) rfl rfl ?_
 rintro _ w1 ⟨F1,rfl⟩
 refine o_w (v:=.tuple #[str x1.1,.int .i64 x1.2]) (r_mov rfl) ?_
 refine o_w (v:=str x1.1) (r_ext rfl rfl) ?_
 refine o_w (v:=.int .i64 x1.2) (r_ext rfl rfl) ?_
 refine o_w (v:=str x1.1) (r_asg rfl) ?_
 refine o_w (v:=.int .i64 x1.2) (r_asg rfl) ?_
 refine eo_r ?_
 refine o_w (v:=str x1.1) (r_mov rfl) ?_
 obtain ⟨ha4,h⟩:=h
 obtain ⟨x3,hx3,h⟩:=h
 refine o_call cf_frame_Get rfl (frame_Get_c x1.1 (hL.fr F1) (eq_ev hx3 (frGet_ev x1.1 ha4))) rfl rfl ?_
 rintro _ w3 ⟨F3,cs5,rfl,H6⟩
 have E7:=F1.trans F3
 obtain ⟨A9,c10,rfl,H11,hl8⟩:=kFrm_open H6
 refine o_w (v:=.tuple #[.agg (cFrm x3.1 A9 c10).toArray,.int .i64 x3.2]) (r_mov rfl) ?_
 refine o_w (v:=.agg (cFrm x3.1 A9 c10).toArray) (r_ext rfl rfl) ?_
 refine o_w (v:=.int .i64 x3.2) (r_ext rfl rfl) ?_
 refine o_alloc zero_frame_Frame rfl rfl rfl ?_
 intro b12 w12 e12 F12 B12
 have n12:w.heap.size≤b12:=by rw [e12]; exact E7.size
 have m13:w3.heap.size≤b12:=Nat.le_of_eq e12.symm
 have E14:=E7.trans F12
 have G15:Fr L w3 w12:=Fr.ext F12
 refine o_store rfl B12 (vs:=(cFrm x3.1 A9 c10)) rfl sz_frame_Frame rfl rfl rfl ?_
 intro w16 F16 B16
 have E17:=Ext.st E14 F16 (by simp; omega)
 have G18:Fr L w3 w16:=G15.stp F16 (upc (.inr m13) (fun m hm=>by cases hm))
 have B16':Blk w16 b12 _ (cFrm x3.1 A9 c10):=B16
 refine o_w (v:=.int .i64 x3.2) (r_asg rfl) ?_
 refine eo_r ?_
 refine o_w (v:=.agg #[.int .i64 3,.int .i64 0,.int .i64 0,.bool false,str [],.slice none ([]:List Int).length 0,.slice none ([]:List Int).length 0,.int .u64 5]) (r_build bld_api_Value (vs:=[(0,.int .i64 3),(7,.int .u64 5)]) (cells:=[.int .i64 3,.int .i64 0,.int .i64 0,.bool false,str [],.slice none ([]:List Int).length 0,.slice none ([]:List Int).length 0,.int .u64 5]) rfl rfl) ?_
 refine o_w (v:=.agg #[str ([107]:Str),.int .i64 3,.int .i64 0,.int .i64 0,.bool false,str [],.slice none ([]:List Int).length 0,.slice none ([]:List Int).length 0,.int .u64 5]) (r_build bld_api_Entry (vs:=[(0,str ([107]:Str)),(1,.agg #[.int .i64 3,.int .i64 0,.int .i64 0,.bool false,str [],.slice none ([]:List Int).length 0,.slice none ([]:List Int).length 0,.int .u64 5])]) (cells:=[str ([107]:Str),.int .i64 3,.int .i64 0,.int .i64 0,.bool false,str [],.slice none ([]:List Int).length 0,.slice none ([]:List Int).length 0,.int .u64 5]) rfl rfl) ?_
 refine o_alloc zero_api_Entry rfl rfl rfl ?_
 intro b19 w19 e19 F19 B19
 have n19:w.heap.size≤b19:=by rw [e19]; exact E17.size
 have q20:b12<b19:=by rw [e19]; exact B16'.lt
 have m21:w3.heap.size≤b19:=by rw [e19]; exact G18.size
 have E22:=E17.trans F19
 refine o_store rfl B19 (vs:=[str ([107]:Str),.int .i64 3,.int .i64 0,.int .i64 0,.bool false,str [],.slice none ([]:List Int).length 0,.slice none ([]:List Int).length 0,.int .u64 5]) rfl sz_api_Entry rfl rfl rfl ?_
 intro w25 F25 B25
 have E26:=Ext.st E22 F25 (by simp; omega)
 have G27:Fr L w3 w25:=(G18.trans (Fr.ext F19)).stp F25 (upc (.inr m21) (fun m hm=>by cases hm))
 have B28:=(B16'.ex F19).fr F25 (by simp; omega)
 have B25':Blk w25 b19 _ [str ([107]:Str),.int .i64 3,.int .i64 0,.int .i64 0,.bool false,str [],.slice none ([]:List Int).length 0,.slice none ([]:List Int).length 0,.int .u64 5]:=B25
 refine eo_r ?_
 refine o_w (v:=.agg #[str ([107]:Str),.int .i64 3,.int .i64 0,.int .i64 0,.bool false,str [],.slice none ([]:List Int).length 0,.slice none ([]:List Int).length 0,.int .u64 5]) (r_lda agg_api_Entry rfl (vs:=[str ([107]:Str),.int .i64 3,.int .i64 0,.int .i64 0,.bool false,str [],.slice none ([]:List Int).length 0,.slice none ([]:List Int).length 0,.int .u64 5]) rfl (B25'.part (n:=9) rfl)) ?_
 refine o_bslice slc_s_api_Entry rfl (vs:=[.agg #[str ([107]:Str),.int .i64 3,.int .i64 0,.int .i64 0,.bool false,str [],.slice none ([]:List Int).length 0,.slice none ([]:List Int).length 0,.int .u64 5]]) rfl rfl rfl (cs:=[str ([107]:Str),.int .i64 3,.int .i64 0,.int .i64 0,.bool false,str [],.slice none ([]:List Int).length 0,.slice none ([]:List Int).length 0,.int .u64 5]) rfl rfl rfl rfl ?_
 intro b29 w29 e29 F29 B29
 have N29:=nin (((hL.fr E26).cons B28.lt).cons B25'.lt) e29
 have S29:=B29.stb N29
 have E30:=E26.trans F29
 have H34:Stb (b19::(b12::L)) w29 (fun w=>SlC kEnt w (some ⟨b29,0,none⟩) 1 ([(⟨([107]:Str),(⟨(3:Int),(0:Int),(0:Int),false,([]:Str),([]:List Int),([]:List Int),(5:Int)⟩:Val)⟩:Ent)]:List Ent)):=bs_seal S29.now N29 rfl (rowd1 (cs:=[str ([107]:Str),.int .i64 3,.int .i64 0,.int .i64 0,.bool false,str [],.slice none ([]:List Int).length 0,.slice none ([]:List Int).length 0,.int .u64 5]) (kEnt_mk (d:=(⟨([107]:Str),(⟨(3:Int),(0:Int),(0:Int),false,([]:Str),([]:List Int),([]:List Int),(5:Int)⟩:Val)⟩:Ent)) stb_nil stb_nil) rfl)
 refine o_w (v:=.agg #[.int .i64 1,.int .i64 2,.int .i64 9,.int .i64 0,.int .i64 0,.int .i64 0,.int .i64 0,.slice (some ⟨b29,0,none⟩) ([(⟨([107]:Str),(⟨(3:Int),(0:Int),(0:Int),false,([]:Str),([]:List Int),([]:List Int),(5:Int)⟩:Val)⟩:Ent)]:List Ent).length 1]) (r_build bld_frame_Frame (vs:=[(0,.int .i64 1),(1,.int .i64 2),(2,.int .i64 9),(4,.slice (some ⟨b29,0,none⟩) 1 1)]) (cells:=[.int .i64 1,.int .i64 2,.int .i64 9,.int .i64 0,.int .i64 0,.int .i64 0,.int .i64 0,.slice (some ⟨b29,0,none⟩) ([(⟨([107]:Str),(⟨(3:Int),(0:Int),(0:Int),false,([]:Str),([]:List Int),([]:List Int),(5:Int)⟩:Val)⟩:Ent)]:List Ent).length 1]) rfl rfl) ?_
 obtain ⟨ha36,h⟩:=h
 obtain ⟨x35,hx35,h⟩:=h
 refine o_call cf_frame_Put rfl (frame_Put_c (⟨(1:Int),(2:Int),(9:Int),[(0:Int),(0:Int),(0:Int),(0:Int)],([(⟨([107]:Str),(⟨(3:Int),(0:Int),(0:Int),false,([]:Str),([]:List Int),([]:List Int),(5:Int)⟩:Val)⟩:Ent)]:List Ent)⟩:Frm) (kFrm_mk (d:=(⟨(1:Int),(2:Int),(9:Int),[(0:Int),(0:Int),(0:Int),(0:Int)],([(⟨([107]:Str),(⟨(3:Int),(0:Int),(0:Int),false,([]:Str),([]:List Int),([]:List Int),(5:Int)⟩:Val)⟩:Ent)]:List Ent)⟩:Frm)) H34 rfl) (((hL.fr E30).cons (B28.ex F29).lt).cons (B25'.ex F29).lt) (eq_ev hx35 (frPut_ev (⟨(1:Int),(2:Int),(9:Int),[(0:Int),(0:Int),(0:Int),(0:Int)],([(⟨([107]:Str),(⟨(3:Int),(0:Int),(0:Int),false,([]:Str),([]:List Int),([]:List Int),(5:Int)⟩:Val)⟩:Ent)]:List Ent)⟩:Frm) ha36))) rfl rfl ?_
 rintro _ w35 ⟨F35,rfl⟩
 have E37:=E30.trans F35
 refine o_w (v:=.tuple #[str x35.1,.int .i64 x35.2]) (r_mov rfl) ?_
 refine o_w (v:=str x35.1) (r_ext rfl rfl) ?_
 refine o_w (v:=.int .i64 x35.2) (r_ext rfl rfl) ?_
 refine o_w (v:=str x35.1) (r_asg rfl) ?_
 refine o_w (v:=.int .i64 x35.2) (r_asg rfl) ?_
 refine eo_r ?_
 refine o_w (v:=.agg #[.int .i64 7,.int .i64 0,.int .i64 1,.int .i64 0,.int .i64 0,.int .i64 0,.int .i64 0,.slice none ([]:List Ent).length 0]) (r_build bld_frame_Frame (vs:=[(0,.int .i64 7),(2,.int .i64 1)]) (cells:=[.int .i64 7,.int .i64 0,.int .i64 1,.int .i64 0,.int .i64 0,.int .i64 0,.int .i64 0,.slice none ([]:List Ent).length 0]) rfl rfl) ?_
 obtain ⟨ha43,h⟩:=h
 obtain ⟨x42,hx42,h⟩:=h
 refine o_call cf_frame_Put rfl (frame_Put_c (⟨(7:Int),(0:Int),(1:Int),[(0:Int),(0:Int),(0:Int),(0:Int)],([]:List Ent)⟩:Frm) (kFrm_mk (d:=(⟨(7:Int),(0:Int),(1:Int),[(0:Int),(0:Int),(0:Int),(0:Int)],([]:List Ent)⟩:Frm)) stb_nil rfl) (((hL.fr E37).cons ((B28.ex F29).ex F35).lt).cons ((B25'.ex F29).ex F35).lt) (eq_ev hx42 (frPut_ev (⟨(7:Int),(0:Int),(1:Int),[(0:Int),(0:Int),(0:Int),(0:Int)],([]:List Ent)⟩:Frm) ha43))) rfl rfl ?_
 rintro _ w42 ⟨F42,rfl⟩
 have E44:=E37.trans F42
 refine o_w (v:=.tuple #[str x42.1,.int .i64 x42.2]) (r_mov rfl) ?_
 refine o_w (v:=str x42.1) (r_ext rfl rfl) ?_
 refine o_w (v:=.int .i64 x42.2) (r_ext rfl rfl) ?_
 refine o_w (v:=str x42.1) (r_asg rfl) ?_
 refine o_w (v:=.int .i64 x42.2) (r_asg rfl) ?_
 refine eo_r ?_
 refine o_w (v:=str x1.1) (r_mov rfl) ?_
 obtain ⟨ha49,h⟩:=h
 refine o_w (v:=str (x1.1++([120]:Str))) (r_cat rfl rfl ha49) ?_
 obtain ⟨ha51,h⟩:=h
 obtain ⟨x50,hx50,h⟩:=h
 refine o_call cf_frame_Get rfl (frame_Get_c (x1.1++([120]:Str)) (((hL.fr E44).cons (((B28.ex F29).ex F35).ex F42).lt).cons (((B25'.ex F29).ex F35).ex F42).lt) (eq_ev hx50 (frGet_ev (x1.1++([120]:Str)) ha51))) rfl rfl ?_
 rintro _ w50 ⟨F50,cs52,rfl,H53⟩
 have E54:=E44.trans F50
 have G55:=(((G27.trans (Fr.ext F29)).trans (Fr.ext F35)).trans (Fr.ext F42)).trans (Fr.ext F50)
 obtain ⟨A60,c61,rfl,H62,hl59⟩:=kFrm_open H53
 refine o_w (v:=.tuple #[.agg (cFrm x50.1 A60 c61).toArray,.int .i64 x50.2]) (r_mov rfl) ?_
 refine o_w (v:=.agg (cFrm x50.1 A60 c61).toArray) (r_ext rfl rfl) ?_
 refine o_w (v:=.int .i64 x50.2) (r_ext rfl rfl) ?_
 refine o_alloc zero_frame_Frame rfl rfl rfl ?_
 intro b63 w63 e63 F63 B63
 have n63:w.heap.size≤b63:=by rw [e63]; exact E54.size
 have q64:b12<b63:=by rw [e63]; exact ((((B28.ex F29).ex F35).ex F42).ex F50).lt
 have q65:b19<b63:=by rw [e63]; exact ((((B25'.ex F29).ex F35).ex F42).ex F50).lt
 have m66:w3.heap.size≤b63:=by rw [e63]; exact G55.size
 have E69:=E54.trans F63
 refine o_store rfl B63 (vs:=(cFrm x50.1 A60 c61)) rfl sz_frame_Frame rfl rfl rfl ?_
 intro w75 F75 B75
 have E76:=Ext.st E69 F75 (by simp; omega)
 have G77:Fr L w3 w75:=(G55.trans (Fr.ext F63)).stp F75 (upc (.inr m66) (fun m hm=>by cases hm))
 have B80:=(((((B28.ex F29).ex F35).ex F42).ex F50).ex F63).fr F75 (by simp; omega)
 have B81:=(((((B25'.ex F29).ex F35).ex F42).ex F50).ex F63).fr F75 (by simp; omega)
 have B75':Blk w75 b63 _ (cFrm x50.1 A60 c61):=B75
 refine o_w (v:=.int .i64 x50.2) (r_asg rfl) ?_
 refine eo_r ?_
 refine o_w (v:=str x1.1) (r_mov rfl) ?_
 refine o_w (v:=.int .i64 (x1.1.length:Int)) (r_len_str un_string rfl) ?_
 refine o_w (v:=.bool ((x1.1.length:Int)==30)) (r_int rfl rfl rfl) ?_
 refine o_w (v:=.bool ((x1.1.length:Int)==30)) (r_mov rfl) ?_
 refine o_vg (v:=.int .i64 x1.2) (want_ct (t:=45) rfl rfl) (fun hk=>(r_mov rfl)) rfl rfl ?_
 refine o_vg (v:=.bool (x1.2==0)) (want_ct (t:=45) rfl rfl) (fun hk=>(r_int (gdT (u:=undef) hk) rfl rfl)) rfl rfl ?_
 refine o_w (v:=.bool (((x1.1.length:Int)==30)&&(x1.2==0))) (r_pickAnd rfl (fun ht=>(gdT (u:=undef) ht)) rfl) ?_
 refine o_w (v:=.bool (((x1.1.length:Int)==30)&&(x1.2==0))) (r_mov rfl) ?_
 refine o_vg (v:=.pointer (some ⟨b12,0,none⟩)) (want_ct (t:=49) rfl rfl) (fun hk=>(r_fa fld_frame_Frame_0 rfl rfl)) rfl rfl ?_
 refine o_vg (v:=.int .i64 x3.1.kind) (want_ct (t:=49) rfl rfl) (fun hk=>(r_ld one_int (gdT (u:=undef) hk) (B80.cell rfl))) rfl rfl ?_
 refine o_vg (v:=.bool (x3.1.kind==7)) (want_ct (t:=49) rfl rfl) (fun hk=>(r_int (gdT (u:=undef) hk) rfl rfl)) rfl rfl ?_
 refine o_w (v:=.bool ((((x1.1.length:Int)==30)&&(x1.2==0))&&(x3.1.kind==7))) (r_pickAnd rfl (fun ht=>(gdT (u:=undef) ht)) rfl) ?_
 refine o_w (v:=.bool ((((x1.1.length:Int)==30)&&(x1.2==0))&&(x3.1.kind==7))) (r_mov rfl) ?_
 refine o_vg (v:=.pointer (some ⟨b12,1,none⟩)) (want_ct (t:=54) rfl rfl) (fun hk=>(r_fa fld_frame_Frame_1 rfl rfl)) rfl rfl ?_
 refine o_vg (v:=.int .i64 x3.1.a) (want_ct (t:=54) rfl rfl) (fun hk=>(r_ld one_int (gdT (u:=undef) hk) (B80.cell rfl))) rfl rfl ?_
 refine o_vg (v:=.bool (x3.1.a==3)) (want_ct (t:=54) rfl rfl) (fun hk=>(r_int (gdT (u:=undef) hk) rfl rfl)) rfl rfl ?_
 refine o_w (v:=.bool (((((x1.1.length:Int)==30)&&(x1.2==0))&&(x3.1.kind==7))&&(x3.1.a==3))) (r_pickAnd rfl (fun ht=>(gdT (u:=undef) ht)) rfl) ?_
 refine o_w (v:=.bool (((((x1.1.length:Int)==30)&&(x1.2==0))&&(x3.1.kind==7))&&(x3.1.a==3))) (r_mov rfl) ?_
 refine o_vg (v:=.int .i64 x3.2) (want_ct (t:=59) rfl rfl) (fun hk=>(r_mov rfl)) rfl rfl ?_
 refine o_vg (v:=.bool (x3.2==0)) (want_ct (t:=59) rfl rfl) (fun hk=>(r_int (gdT (u:=undef) hk) rfl rfl)) rfl rfl ?_
 refine o_w (v:=.bool ((((((x1.1.length:Int)==30)&&(x1.2==0))&&(x3.1.kind==7))&&(x3.1.a==3))&&(x3.2==0))) (r_pickAnd rfl (fun ht=>(gdT (u:=undef) ht)) rfl) ?_
 refine o_w (v:=.bool ((((((x1.1.length:Int)==30)&&(x1.2==0))&&(x3.1.kind==7))&&(x3.1.a==3))&&(x3.2==0))) (r_mov rfl) ?_
 refine o_vg (v:=str x35.1) (want_ct (t:=63) rfl rfl) (fun hk=>(r_mov rfl)) rfl rfl ?_
 refine o_vg (v:=.int .i64 (x35.1.length:Int)) (want_ct (t:=63) rfl rfl) (fun hk=>(r_len_str un_string (gdT (u:=undef) hk))) rfl rfl ?_
 refine o_vg (v:=.bool ((x35.1.length:Int)==72)) (want_ct (t:=63) rfl rfl) (fun hk=>(r_int (gdT (u:=undef) hk) rfl rfl)) rfl rfl ?_
 refine o_w (v:=.bool (((((((x1.1.length:Int)==30)&&(x1.2==0))&&(x3.1.kind==7))&&(x3.1.a==3))&&(x3.2==0))&&((x35.1.length:Int)==72))) (r_pickAnd rfl (fun ht=>(gdT (u:=undef) ht)) rfl) ?_
 refine o_w (v:=.bool (((((((x1.1.length:Int)==30)&&(x1.2==0))&&(x3.1.kind==7))&&(x3.1.a==3))&&(x3.2==0))&&((x35.1.length:Int)==72))) (r_mov rfl) ?_
 refine o_vg (v:=.int .i64 x35.2) (want_ct (t:=68) rfl rfl) (fun hk=>(r_mov rfl)) rfl rfl ?_
 refine o_vg (v:=.bool (x35.2==0)) (want_ct (t:=68) rfl rfl) (fun hk=>(r_int (gdT (u:=undef) hk) rfl rfl)) rfl rfl ?_
 refine o_w (v:=.bool ((((((((x1.1.length:Int)==30)&&(x1.2==0))&&(x3.1.kind==7))&&(x3.1.a==3))&&(x3.2==0))&&((x35.1.length:Int)==72))&&(x35.2==0))) (r_pickAnd rfl (fun ht=>(gdT (u:=undef) ht)) rfl) ?_
 refine o_w (v:=.bool ((((((((x1.1.length:Int)==30)&&(x1.2==0))&&(x3.1.kind==7))&&(x3.1.a==3))&&(x3.2==0))&&((x35.1.length:Int)==72))&&(x35.2==0))) (r_mov rfl) ?_
 refine o_vg (v:=.int .i64 x42.2) (want_ct (t:=72) rfl rfl) (fun hk=>(r_mov rfl)) rfl rfl ?_
 refine o_vg (v:=.bool (x42.2==2)) (want_ct (t:=72) rfl rfl) (fun hk=>(r_int (gdT (u:=undef) hk) rfl rfl)) rfl rfl ?_
 refine o_w (v:=.bool (((((((((x1.1.length:Int)==30)&&(x1.2==0))&&(x3.1.kind==7))&&(x3.1.a==3))&&(x3.2==0))&&((x35.1.length:Int)==72))&&(x35.2==0))&&(x42.2==2))) (r_pickAnd rfl (fun ht=>(gdT (u:=undef) ht)) rfl) ?_
 refine o_w (v:=.bool (((((((((x1.1.length:Int)==30)&&(x1.2==0))&&(x3.1.kind==7))&&(x3.1.a==3))&&(x3.2==0))&&((x35.1.length:Int)==72))&&(x35.2==0))&&(x42.2==2))) (r_mov rfl) ?_
 refine o_vg (v:=.int .i64 x50.2) (want_ct (t:=76) rfl rfl) (fun hk=>(r_mov rfl)) rfl rfl ?_
 refine o_vg (v:=.bool (x50.2==2)) (want_ct (t:=76) rfl rfl) (fun hk=>(r_int (gdT (u:=undef) hk) rfl rfl)) rfl rfl ?_
 refine o_w (v:=.bool ((((((((((x1.1.length:Int)==30)&&(x1.2==0))&&(x3.1.kind==7))&&(x3.1.a==3))&&(x3.2==0))&&((x35.1.length:Int)==72))&&(x35.2==0))&&(x42.2==2))&&(x50.2==2))) (r_pickAnd rfl (fun ht=>(gdT (u:=undef) ht)) rfl) ?_
 refine o_w (v:=.bool ((((((((((x1.1.length:Int)==30)&&(x1.2==0))&&(x3.1.kind==7))&&(x3.1.a==3))&&(x3.2==0))&&((x35.1.length:Int)==72))&&(x35.2==0))&&(x42.2==2))&&(x50.2==2))) (r_mov rfl) ?_
 refine o_vg (v:=.agg (cFrm x3.1 A9 c10).toArray) (want_ct (t:=80) rfl rfl) (fun hk=>(r_lda agg_frame_Frame rfl (vs:=(cFrm x3.1 A9 c10)) rfl (B80.part (n:=8) rfl))) rfl rfl ?_
 obtain ⟨ha87,h⟩:=h
 refine o_callg (V:=.int .i64 (checkF x3.1)) cf_frame_Check (want_ct (t:=80) rfl rfl) (fun hk=>(mapv1 (gdT (u:=undef) hk))) (fun hk=>(frame_Check_c x3.1 (kFrm_mk (d:=x3.1) (H11.up G77 sI (upc (.inr m66) (upc (.inr m21) (upc (.inr m13) (fun _ h=>.inl h))))) hl8) ((((hL.fr E76).cons B80.lt).cons B81.lt).cons B75'.lt) (frCheckA_ev x3.1 (ha87 hk)))) rfl ?_
 intro w86 F86
 have E88:=E76.trans F86
 refine o_vg (v:=.bool ((checkF x3.1)==0)) (want_ct (t:=80) rfl rfl) (fun hk=>(r_int (gdT (u:=undef) hk) rfl rfl)) rfl rfl ?_
 refine o_w (v:=.bool (((((((((((x1.1.length:Int)==30)&&(x1.2==0))&&(x3.1.kind==7))&&(x3.1.a==3))&&(x3.2==0))&&((x35.1.length:Int)==72))&&(x35.2==0))&&(x42.2==2))&&(x50.2==2))&&((checkF x3.1)==0))) (r_pickAnd rfl (fun ht=>(gdT (u:=undef) ht)) rfl) ?_
 refine o_w (v:=.bool (((((((((((x1.1.length:Int)==30)&&(x1.2==0))&&(x3.1.kind==7))&&(x3.1.a==3))&&(x3.2==0))&&((x35.1.length:Int)==72))&&(x35.2==0))&&(x42.2==2))&&(x50.2==2))&&((checkF x3.1)==0))) (r_mov rfl) ?_
 refine o_vg (v:=.agg #[.int .i64 0,.int .i64 0,.int .i64 0,.int .i64 0,.int .i64 0,.int .i64 0,.int .i64 0,.slice none ([]:List Ent).length 0]) (want_ct (t:=85) rfl rfl) (fun hk=>(r_build bld_frame_Frame (vs:=[]) (cells:=[.int .i64 0,.int .i64 0,.int .i64 0,.int .i64 0,.int .i64 0,.int .i64 0,.int .i64 0,.slice none ([]:List Ent).length 0]) rfl rfl)) rfl rfl ?_
 obtain ⟨ha96,h⟩:=h
 refine o_callg (V:=.int .i64 (checkF (⟨(0:Int),(0:Int),(0:Int),[(0:Int),(0:Int),(0:Int),(0:Int)],([]:List Ent)⟩:Frm))) cf_frame_Check (want_ct (t:=85) rfl rfl) (fun hk=>(mapv1 (gdT (u:=undef) hk))) (fun hk=>(frame_Check_c (⟨(0:Int),(0:Int),(0:Int),[(0:Int),(0:Int),(0:Int),(0:Int)],([]:List Ent)⟩:Frm) (kFrm_mk (d:=(⟨(0:Int),(0:Int),(0:Int),[(0:Int),(0:Int),(0:Int),(0:Int)],([]:List Ent)⟩:Frm)) stb_nil rfl) ((((hL.fr E88).cons (B80.ex F86).lt).cons (B81.ex F86).lt).cons (B75'.ex F86).lt) (frCheckA_ev (⟨(0:Int),(0:Int),(0:Int),[(0:Int),(0:Int),(0:Int),(0:Int)],([]:List Ent)⟩:Frm) (ha96 hk)))) rfl ?_
 intro w95 F95
 have E97:=E88.trans F95
 refine o_vg (v:=.bool ((checkF (⟨(0:Int),(0:Int),(0:Int),[(0:Int),(0:Int),(0:Int),(0:Int)],([]:List Ent)⟩:Frm))==2)) (want_ct (t:=85) rfl rfl) (fun hk=>(r_int (gdT (u:=undef) hk) rfl rfl)) rfl rfl ?_
 refine o_w (v:=.bool ((((((((((((x1.1.length:Int)==30)&&(x1.2==0))&&(x3.1.kind==7))&&(x3.1.a==3))&&(x3.2==0))&&((x35.1.length:Int)==72))&&(x35.2==0))&&(x42.2==2))&&(x50.2==2))&&((checkF x3.1)==0))&&((checkF (⟨(0:Int),(0:Int),(0:Int),[(0:Int),(0:Int),(0:Int),(0:Int)],([]:List Ent)⟩:Frm))==2))) (r_pickAnd rfl (fun ht=>(gdT (u:=undef) ht)) rfl) ?_
 refine o_w (v:=.bool ((((((((((((x1.1.length:Int)==30)&&(x1.2==0))&&(x3.1.kind==7))&&(x3.1.a==3))&&(x3.2==0))&&((x35.1.length:Int)==72))&&(x35.2==0))&&(x42.2==2))&&(x50.2==2))&&((checkF x3.1)==0))&&((checkF (⟨(0:Int),(0:Int),(0:Int),[(0:Int),(0:Int),(0:Int),(0:Int)],([]:List Ent)⟩:Frm))==2))) (r_mov rfl) ?_
 iterate 2 refine o_vg (v:=.agg (cFrm x3.1 A9 c10).toArray) (want_ct (t:=90) rfl rfl) (fun hk=>(r_lda agg_frame_Frame rfl (vs:=(cFrm x3.1 A9 c10)) rfl (((B80.ex F86).ex F95).part (n:=8) rfl))) rfl rfl ?_
 obtain ⟨ha105,h⟩:=h
 refine o_callg (V:=.bool (sameF x3.1 x3.1)) cf_frame_Same (want_ct (t:=90) rfl rfl) (fun hk=>(mapv2 (gdT (u:=undef) hk) (gdT (u:=undef) hk))) (fun hk=>(frame_Same_c x3.1 (kFrm_mk (d:=x3.1) (H11.up ((G77.trans (Fr.ext F86)).trans (Fr.ext F95)) sI (upc (.inr m66) (upc (.inr m21) (upc (.inr m13) (fun _ h=>.inl h))))) hl8) x3.1 (kFrm_mk (d:=x3.1) (H11.up ((G77.trans (Fr.ext F86)).trans (Fr.ext F95)) sI (upc (.inr m66) (upc (.inr m21) (upc (.inr m13) (fun _ h=>.inl h))))) hl8) ((((hL.fr E97).cons ((B80.ex F86).ex F95).lt).cons ((B81.ex F86).ex F95).lt).cons ((B75'.ex F86).ex F95).lt) (frSame_ev x3.1 x3.1 (ha105 hk)))) rfl ?_
 intro w104 F104
 have E106:=E97.trans F104
 refine o_w (v:=.bool (((((((((((((x1.1.length:Int)==30)&&(x1.2==0))&&(x3.1.kind==7))&&(x3.1.a==3))&&(x3.2==0))&&((x35.1.length:Int)==72))&&(x35.2==0))&&(x42.2==2))&&(x50.2==2))&&((checkF x3.1)==0))&&((checkF (⟨(0:Int),(0:Int),(0:Int),[(0:Int),(0:Int),(0:Int),(0:Int)],([]:List Ent)⟩:Frm))==2))&&(sameF x3.1 x3.1))) (r_pickAnd rfl (fun ht=>(gdT (u:=undef) ht)) rfl) ?_
 refine o_w (v:=.bool (((((((((((((x1.1.length:Int)==30)&&(x1.2==0))&&(x3.1.kind==7))&&(x3.1.a==3))&&(x3.2==0))&&((x35.1.length:Int)==72))&&(x35.2==0))&&(x42.2==2))&&(x50.2==2))&&((checkF x3.1)==0))&&((checkF (⟨(0:Int),(0:Int),(0:Int),[(0:Int),(0:Int),(0:Int),(0:Int)],([]:List Ent)⟩:Frm))==2))&&(sameF x3.1 x3.1))) (r_mov rfl) ?_
 refine o_vg (v:=.agg (cFrm x3.1 A9 c10).toArray) (want_ct (t:=95) rfl rfl) (fun hk=>(r_lda agg_frame_Frame rfl (vs:=(cFrm x3.1 A9 c10)) rfl ((((B80.ex F86).ex F95).ex F104).part (n:=8) rfl))) rfl rfl ?_
 refine o_vg (v:=.agg #[.int .i64 0,.int .i64 0,.int .i64 0,.int .i64 0,.int .i64 0,.int .i64 0,.int .i64 0,.slice none ([]:List Ent).length 0]) (want_ct (t:=95) rfl rfl) (fun hk=>(r_build bld_frame_Frame (vs:=[]) (cells:=[.int .i64 0,.int .i64 0,.int .i64 0,.int .i64 0,.int .i64 0,.int .i64 0,.int .i64 0,.slice none ([]:List Ent).length 0]) rfl rfl)) rfl rfl ?_
 obtain ⟨ha114,h⟩:=h
 refine o_callg (V:=.bool (sameF x3.1 (⟨(0:Int),(0:Int),(0:Int),[(0:Int),(0:Int),(0:Int),(0:Int)],([]:List Ent)⟩:Frm))) cf_frame_Same (want_ct (t:=95) rfl rfl) (fun hk=>(mapv2 (gdT (u:=undef) hk) (gdT (u:=undef) hk))) (fun hk=>(frame_Same_c x3.1 (kFrm_mk (d:=x3.1) (H11.up (((G77.trans (Fr.ext F86)).trans (Fr.ext F95)).trans (Fr.ext F104)) sI (upc (.inr m66) (upc (.inr m21) (upc (.inr m13) (fun _ h=>.inl h))))) hl8) (⟨(0:Int),(0:Int),(0:Int),[(0:Int),(0:Int),(0:Int),(0:Int)],([]:List Ent)⟩:Frm) (kFrm_mk (d:=(⟨(0:Int),(0:Int),(0:Int),[(0:Int),(0:Int),(0:Int),(0:Int)],([]:List Ent)⟩:Frm)) stb_nil rfl) ((((hL.fr E106).cons (((B80.ex F86).ex F95).ex F104).lt).cons (((B81.ex F86).ex F95).ex F104).lt).cons (((B75'.ex F86).ex F95).ex F104).lt) (frSame_ev x3.1 (⟨(0:Int),(0:Int),(0:Int),[(0:Int),(0:Int),(0:Int),(0:Int)],([]:List Ent)⟩:Frm) (ha114 hk)))) rfl ?_
 intro w113 F113
 have E115:=E106.trans F113
 refine o_vg (v:=.bool (!(sameF x3.1 (⟨(0:Int),(0:Int),(0:Int),[(0:Int),(0:Int),(0:Int),(0:Int)],([]:List Ent)⟩:Frm)))) (want_ct (t:=95) rfl rfl) (fun hk=>(r_not (gdT (u:=undef) hk))) rfl rfl ?_
 refine o_w (v:=.bool ((((((((((((((x1.1.length:Int)==30)&&(x1.2==0))&&(x3.1.kind==7))&&(x3.1.a==3))&&(x3.2==0))&&((x35.1.length:Int)==72))&&(x35.2==0))&&(x42.2==2))&&(x50.2==2))&&((checkF x3.1)==0))&&((checkF (⟨(0:Int),(0:Int),(0:Int),[(0:Int),(0:Int),(0:Int),(0:Int)],([]:List Ent)⟩:Frm))==2))&&(sameF x3.1 x3.1))&&(!(sameF x3.1 (⟨(0:Int),(0:Int),(0:Int),[(0:Int),(0:Int),(0:Int),(0:Int)],([]:List Ent)⟩:Frm))))) (r_pickAnd rfl (fun ht=>(gdT (u:=undef) ht)) rfl) ?_
 refine o_w (v:=.bool ((((((((((((((x1.1.length:Int)==30)&&(x1.2==0))&&(x3.1.kind==7))&&(x3.1.a==3))&&(x3.2==0))&&((x35.1.length:Int)==72))&&(x35.2==0))&&(x42.2==2))&&(x50.2==2))&&((checkF x3.1)==0))&&((checkF (⟨(0:Int),(0:Int),(0:Int),[(0:Int),(0:Int),(0:Int),(0:Int)],([]:List Ent)⟩:Frm))==2))&&(sameF x3.1 x3.1))&&(!(sameF x3.1 (⟨(0:Int),(0:Int),(0:Int),[(0:Int),(0:Int),(0:Int),(0:Int)],([]:List Ent)⟩:Frm))))) (r_asg rfl) ?_
 refine eo_nil_sq ?_
 refine ec_ret ?_
 subst h
 exact (end1 rfl ⟨_,rfl,E115,rfl⟩)
end Go.Proofs.YtdfjbkoimpjkaaaGreat
namespace Go.Proofs.YtdfjbkoimpjkaaaGreat
open Go Go.RowKit
set_option linter.unusedVariables false

instance (l:List Ent):Decidable (sml l):=by unfold sml; infer_instance
set_option maxRecDepth 100000 in
theorem works14_ev:law14_works_raw worksV:=by
 unfold law14_works_raw
 repeat' first
  | (refine ⟨_,rfl,?_⟩)
  | (refine ⟨fun _=>?_,fun h=>absurd h (by decide +kernel)⟩)
  | (refine ⟨fun h=>absurd h (by decide +kernel),fun _=>?_⟩)
  | (refine ⟨by decide +kernel,?_⟩)
  | (refine ⟨fun _=>by decide +kernel,?_⟩)
  | rfl
  | (decide +kernel)
end Go.Proofs.YtdfjbkoimpjkaaaGreat