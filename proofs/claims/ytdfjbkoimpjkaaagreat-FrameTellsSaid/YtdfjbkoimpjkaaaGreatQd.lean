/- References: frames. -/
import Derived.Test.YtdfjbkoimpjkaaaGreatQm
namespace Go.Proofs.YtdfjbkoimpjkaaaGreat
open Go Go.RowKit
set_option linter.unusedVariables false
set_option linter.unusedSimpArgs false
def ref14_Check_raw (d0:Frm) (y:Bool):Prop :=
 (maxS d0.sums)∧(∃ x7,x7=(putD d0.sums)∧(((!(((((((decide (d0.kind<1))||(decide (7<d0.kind)))||(decide (d0.a<0)))||(decide (2147483647<d0.a)))||(decide (d0.b<0)))||(decide (2147483647<d0.b)))||(x7.2 != (0:Int))))=true→sml d0.entries)∧(((!(((((((decide (d0.kind<1))||(decide (7<d0.kind)))||(decide (d0.a<0)))||(decide (2147483647<d0.a)))||(decide (d0.b<0)))||(decide (2147483647<d0.b)))||(x7.2 != (0:Int))))=true→d0.entries.length≤1000000)∧((((((((((decide (d0.kind<1))||(decide (7<d0.kind)))||(decide (d0.a<0)))||(decide (2147483647<d0.a)))||(decide (d0.b<0)))||(decide (2147483647<d0.b)))||(x7.2 != (0:Int)))||(!(entsF d0.entries)))=true→(y=false))∧(((((((((decide (d0.kind<1))||(decide (7<d0.kind)))||(decide (d0.a<0)))||(decide (2147483647<d0.a)))||(decide (d0.b<0)))||(decide (2147483647<d0.b)))||(x7.2 != (0:Int)))||(!(entsF d0.entries)))=false→(((((d0.kind==4)&&((decide (d0.a<1))||(decide (15<d0.a))))||(((d0.kind != (4:Int))&&(!((((d0.kind==1)||(d0.kind==2))||(d0.kind==6))||(d0.kind==7))))&&(d0.a != (0:Int))))=true→(y=false))∧((((d0.kind==4)&&((decide (d0.a<1))||(decide (15<d0.a))))||(((d0.kind != (4:Int))&&(!((((d0.kind==1)||(d0.kind==2))||(d0.kind==6))||(d0.kind==7))))&&(d0.a != (0:Int))))=false→(y=(((((d0.kind==1)||(d0.kind==2))||(d0.b==0))&&((d0.kind==3)||(((nth d0.sums 0)==0)&&(((nth d0.sums 1)==0)&&(((nth d0.sums 2)==0)&&(((nth d0.sums 3)==0)&&true))))))&&(((((d0.kind==1)||(d0.kind==4))||(d0.kind==5))||(d0.kind==6))||((d0.entries.length:Int)==0)))))))))))
set_option maxRecDepth 20000 in
set_option maxHeartbeats 4000000 in
theorem ref14_Check_c {L:List Nat} {w:World} {csP0:List Value} (d0:Frm) (HP0:Stb L w (fun w=>kFrm.r w csP0 d0)) (hL:Lt L w) {y:Bool} (h:ref14_Check_raw d0 y) :
  Calls Tryz.prog 11 [.agg csP0.toArray].toArray w (Ret fun v w'=>Ext w w'∧v=.bool y):=by
 obtain ⟨A2,c3,rfl,H4,hl1⟩:=kFrm_open HP0
 unfold ref14_Check_raw at h
 refine calls_ec Tryz.func11 rfl rfl rfl ?_
 refine ec_sr ?_
 refine o_box (cs:=(cFrm d0 A2 c3)) rfl rfl rfl ?_
 intro b5 w5 e5 F5 B5
 have S5:=B5.stb (nin hL e5)
 have G6:Fr L w w5:=Fr.ext F5
 refine o_w (v:=.bool false) (r_asg rfl) ?_
 refine eo_r ?_
 refine o_w (v:=.pointer (some ⟨b5,3,none⟩)) (r_fa fld_ouroborosref14_Frame_3 rfl rfl) ?_
 refine o_w (v:=.agg #[.int .i64 (nth d0.sums 0),.int .i64 (nth d0.sums 1),.int .i64 (nth d0.sums 2),.int .i64 (nth d0.sums 3)]) (r_lda agg_4_int rfl (vs:=[.int .i64 (nth d0.sums 0),.int .i64 (nth d0.sums 1),.int .i64 (nth d0.sums 2),.int .i64 (nth d0.sums 3)]) rfl (S5.now.part (n:=4) rfl)) ?_
 obtain ⟨ha8,h⟩:=h
 obtain ⟨x7,hx7,h⟩:=h
 refine o_call cf_ref10_Put rfl (ref10_Put_c d0.sums hl1 (hL.fr F5) (eq_ev hx7 (refPutD_ev d0.sums ha8))) rfl rfl ?_
 rintro _ w7 ⟨F7,rfl⟩
 have E9:=F5.trans F7
 have G11:Fr L w5 w7:=Fr.ext F7
 refine o_w (v:=.tuple #[str x7.1,.int .i64 x7.2]) (r_mov rfl) ?_
 refine o_w (v:=str x7.1) (r_ext rfl rfl) ?_
 refine o_w (v:=.int .i64 x7.2) (r_ext rfl rfl) ?_
 refine o_w (v:=str x7.1) (r_asg rfl) ?_
 refine o_w (v:=.int .i64 x7.2) (r_asg rfl) ?_
 refine eo_nil_sq ?_
 refine ec_seq ?_
 refine ec_sr ?_
 refine o_w (v:=.pointer (some ⟨b5,0,none⟩)) (r_fa fld_ouroborosref14_Frame_0 rfl rfl) ?_
 refine o_w (v:=.int .i64 d0.kind) (r_ld one_int rfl ((S5.fr G11 sI).now.cell rfl)) ?_
 refine o_w (v:=.bool (decide (d0.kind<1))) (r_int rfl rfl rfl) ?_
 refine o_w (v:=.bool (decide (d0.kind<1))) (r_mov rfl) ?_
 refine o_vg (v:=.pointer (some ⟨b5,0,none⟩)) (want_cf (t:=17) rfl rfl) (fun hk=>(r_fa fld_ouroborosref14_Frame_0 rfl rfl)) rfl rfl ?_
 refine o_vg (v:=.int .i64 d0.kind) (want_cf (t:=17) rfl rfl) (fun hk=>(r_ld one_int (gdT hk) ((S5.fr G11 sI).now.cell rfl))) rfl rfl ?_
 refine o_vg (v:=.bool (decide (7<d0.kind))) (want_cf (t:=17) rfl rfl) (fun hk=>(r_int (gdT hk) rfl rfl)) rfl rfl ?_
 refine o_w (v:=.bool ((decide (d0.kind<1))||(decide (7<d0.kind)))) (r_pickOr rfl rfl (fun hf=>(gdT (notT hf)))) ?_
 refine o_w (v:=.bool ((decide (d0.kind<1))||(decide (7<d0.kind)))) (r_mov rfl) ?_
 refine o_vg (v:=.pointer (some ⟨b5,1,none⟩)) (want_cf (t:=22) rfl rfl) (fun hk=>(r_fa fld_ouroborosref14_Frame_1 rfl rfl)) rfl rfl ?_
 refine o_vg (v:=.int .i64 d0.a) (want_cf (t:=22) rfl rfl) (fun hk=>(r_ld one_int (gdT hk) ((S5.fr G11 sI).now.cell rfl))) rfl rfl ?_
 refine o_vg (v:=.bool (decide (d0.a<0))) (want_cf (t:=22) rfl rfl) (fun hk=>(r_int (gdT hk) rfl rfl)) rfl rfl ?_
 refine o_w (v:=.bool (((decide (d0.kind<1))||(decide (7<d0.kind)))||(decide (d0.a<0)))) (r_pickOr rfl rfl (fun hf=>(gdT (notT hf)))) ?_
 refine o_w (v:=.bool (((decide (d0.kind<1))||(decide (7<d0.kind)))||(decide (d0.a<0)))) (r_mov rfl) ?_
 refine o_vg (v:=.pointer (some ⟨b5,1,none⟩)) (want_cf (t:=27) rfl rfl) (fun hk=>(r_fa fld_ouroborosref14_Frame_1 rfl rfl)) rfl rfl ?_
 refine o_vg (v:=.int .i64 d0.a) (want_cf (t:=27) rfl rfl) (fun hk=>(r_ld one_int (gdT hk) ((S5.fr G11 sI).now.cell rfl))) rfl rfl ?_
 refine o_vg (v:=.bool (decide (2147483647<d0.a))) (want_cf (t:=27) rfl rfl) (fun hk=>(r_int (gdT hk) rfl rfl)) rfl rfl ?_
 refine o_w (v:=.bool ((((decide (d0.kind<1))||(decide (7<d0.kind)))||(decide (d0.a<0)))||(decide (2147483647<d0.a)))) (r_pickOr rfl rfl (fun hf=>(gdT (notT hf)))) ?_
 refine o_w (v:=.bool ((((decide (d0.kind<1))||(decide (7<d0.kind)))||(decide (d0.a<0)))||(decide (2147483647<d0.a)))) (r_mov rfl) ?_
 refine o_vg (v:=.pointer (some ⟨b5,2,none⟩)) (want_cf (t:=32) rfl rfl) (fun hk=>(r_fa fld_ouroborosref14_Frame_2 rfl rfl)) rfl rfl ?_
 refine o_vg (v:=.int .i64 d0.b) (want_cf (t:=32) rfl rfl) (fun hk=>(r_ld one_int (gdT hk) ((S5.fr G11 sI).now.cell rfl))) rfl rfl ?_
 refine o_vg (v:=.bool (decide (d0.b<0))) (want_cf (t:=32) rfl rfl) (fun hk=>(r_int (gdT hk) rfl rfl)) rfl rfl ?_
 refine o_w (v:=.bool (((((decide (d0.kind<1))||(decide (7<d0.kind)))||(decide (d0.a<0)))||(decide (2147483647<d0.a)))||(decide (d0.b<0)))) (r_pickOr rfl rfl (fun hf=>(gdT (notT hf)))) ?_
 refine o_w (v:=.bool (((((decide (d0.kind<1))||(decide (7<d0.kind)))||(decide (d0.a<0)))||(decide (2147483647<d0.a)))||(decide (d0.b<0)))) (r_mov rfl) ?_
 refine o_vg (v:=.pointer (some ⟨b5,2,none⟩)) (want_cf (t:=37) rfl rfl) (fun hk=>(r_fa fld_ouroborosref14_Frame_2 rfl rfl)) rfl rfl ?_
 refine o_vg (v:=.int .i64 d0.b) (want_cf (t:=37) rfl rfl) (fun hk=>(r_ld one_int (gdT hk) ((S5.fr G11 sI).now.cell rfl))) rfl rfl ?_
 refine o_vg (v:=.bool (decide (2147483647<d0.b))) (want_cf (t:=37) rfl rfl) (fun hk=>(r_int (gdT hk) rfl rfl)) rfl rfl ?_
 refine o_w (v:=.bool ((((((decide (d0.kind<1))||(decide (7<d0.kind)))||(decide (d0.a<0)))||(decide (2147483647<d0.a)))||(decide (d0.b<0)))||(decide (2147483647<d0.b)))) (r_pickOr rfl rfl (fun hf=>(gdT (notT hf)))) ?_
 refine o_w (v:=.bool ((((((decide (d0.kind<1))||(decide (7<d0.kind)))||(decide (d0.a<0)))||(decide (2147483647<d0.a)))||(decide (d0.b<0)))||(decide (2147483647<d0.b)))) (r_mov rfl) ?_
 refine o_vg (v:=.int .i64 x7.2) (want_cf (t:=42) rfl rfl) (fun hk=>(r_mov rfl)) rfl rfl ?_
 refine o_vg (v:=.bool (x7.2 != (0:Int))) (want_cf (t:=42) rfl rfl) (fun hk=>(r_int (gdT hk) rfl rfl)) rfl rfl ?_
 refine o_w (v:=.bool (((((((decide (d0.kind<1))||(decide (7<d0.kind)))||(decide (d0.a<0)))||(decide (2147483647<d0.a)))||(decide (d0.b<0)))||(decide (2147483647<d0.b)))||(x7.2 != (0:Int)))) (r_pickOr rfl rfl (fun hf=>(gdT (notT hf)))) ?_
 refine o_w (v:=.bool (((((((decide (d0.kind<1))||(decide (7<d0.kind)))||(decide (d0.a<0)))||(decide (2147483647<d0.a)))||(decide (d0.b<0)))||(decide (2147483647<d0.b)))||(x7.2 != (0:Int)))) (r_mov rfl) ?_
 refine o_vg (v:=.pointer (some ⟨b5,7,none⟩)) (want_cf (t:=46) rfl rfl) (fun hk=>(r_fa fld_ouroborosref14_Frame_4 rfl rfl)) rfl rfl ?_
 refine o_vg (v:=.slice A2 d0.entries.length c3) (want_cf (t:=46) rfl rfl) (fun hk=>(r_ld one_s_api_Entry (gdT hk) ((S5.fr G11 sI).now.cell rfl))) rfl rfl ?_
 obtain ⟨ha14,h⟩:=h
 obtain ⟨ha15,h⟩:=h
 refine o_callg (V:=.bool (entsF d0.entries)) cf_ref14_entries (want_cf (t:=46) rfl rfl) (fun hk=>(mapv1 (gdT hk))) (fun hk=>(ref14_entries_c d0.entries (H4.fr (G6.trans (Fr.ext F7)) sI) (hL.fr E9) (refEnts_ev d0.entries (ha14 hk) (ha15 hk)))) rfl ?_
 intro w13 F13
 have E16:=E9.trans F13
 refine o_vg (v:=.bool (!(entsF d0.entries))) (want_cf (t:=46) rfl rfl) (fun hk=>(r_not (gdT hk))) rfl rfl ?_
 refine o_w (v:=.bool ((((((((decide (d0.kind<1))||(decide (7<d0.kind)))||(decide (d0.a<0)))||(decide (2147483647<d0.a)))||(decide (d0.b<0)))||(decide (2147483647<d0.b)))||(x7.2 != (0:Int)))||(!(entsF d0.entries)))) (r_pickOr rfl rfl (fun hf=>(gdT (notT hf)))) ?_
 refine eo_nil_sq ?_
 refine ec_cond rfl (fun hc19=>?_) (fun hc19=>?_)
 ·replace h:=h.1 hc19
  refine ec_sr ?_
  refine o_w (v:=.bool false) (r_asg rfl) ?_
  refine eo_nil_sq ?_
  refine ec_ret ?_
  refine sq_ret ?_
  subst h
  exact (end1 rfl ⟨_,rfl,E16,rfl⟩)
 ·replace h:=h.2 hc19
  refine ec_skip ?_
  refine sq_n ?_
  refine ec_sr ?_
  refine o_w (v:=.pointer (some ⟨b5,0,none⟩)) (r_fa fld_ouroborosref14_Frame_0 rfl rfl) ?_
  refine o_w (v:=.int .i64 d0.kind) (r_ld one_int rfl ((S5.fr (G11.trans (Fr.ext F13)) sI).now.cell rfl)) ?_
  refine o_w (v:=.bool (d0.kind==1)) (r_int rfl rfl rfl) ?_
  refine o_w (v:=.bool (d0.kind==1)) (r_mov rfl) ?_
  refine o_vg (v:=.pointer (some ⟨b5,0,none⟩)) (want_cf (t:=55) rfl rfl) (fun hk=>(r_fa fld_ouroborosref14_Frame_0 rfl rfl)) rfl rfl ?_
  refine o_vg (v:=.int .i64 d0.kind) (want_cf (t:=55) rfl rfl) (fun hk=>(r_ld one_int (gdT hk) ((S5.fr (G11.trans (Fr.ext F13)) sI).now.cell rfl))) rfl rfl ?_
  refine o_vg (v:=.bool (d0.kind==2)) (want_cf (t:=55) rfl rfl) (fun hk=>(r_int (gdT hk) rfl rfl)) rfl rfl ?_
  refine o_w (v:=.bool ((d0.kind==1)||(d0.kind==2))) (r_pickOr rfl rfl (fun hf=>(gdT (notT hf)))) ?_
  refine o_w (v:=.bool ((d0.kind==1)||(d0.kind==2))) (r_mov rfl) ?_
  refine o_vg (v:=.pointer (some ⟨b5,0,none⟩)) (want_cf (t:=60) rfl rfl) (fun hk=>(r_fa fld_ouroborosref14_Frame_0 rfl rfl)) rfl rfl ?_
  refine o_vg (v:=.int .i64 d0.kind) (want_cf (t:=60) rfl rfl) (fun hk=>(r_ld one_int (gdT hk) ((S5.fr (G11.trans (Fr.ext F13)) sI).now.cell rfl))) rfl rfl ?_
  refine o_vg (v:=.bool (d0.kind==6)) (want_cf (t:=60) rfl rfl) (fun hk=>(r_int (gdT hk) rfl rfl)) rfl rfl ?_
  refine o_w (v:=.bool (((d0.kind==1)||(d0.kind==2))||(d0.kind==6))) (r_pickOr rfl rfl (fun hf=>(gdT (notT hf)))) ?_
  refine o_w (v:=.bool (((d0.kind==1)||(d0.kind==2))||(d0.kind==6))) (r_mov rfl) ?_
  refine o_vg (v:=.pointer (some ⟨b5,0,none⟩)) (want_cf (t:=65) rfl rfl) (fun hk=>(r_fa fld_ouroborosref14_Frame_0 rfl rfl)) rfl rfl ?_
  refine o_vg (v:=.int .i64 d0.kind) (want_cf (t:=65) rfl rfl) (fun hk=>(r_ld one_int (gdT hk) ((S5.fr (G11.trans (Fr.ext F13)) sI).now.cell rfl))) rfl rfl ?_
  refine o_vg (v:=.bool (d0.kind==7)) (want_cf (t:=65) rfl rfl) (fun hk=>(r_int (gdT hk) rfl rfl)) rfl rfl ?_
  refine o_w (v:=.bool ((((d0.kind==1)||(d0.kind==2))||(d0.kind==6))||(d0.kind==7))) (r_pickOr rfl rfl (fun hf=>(gdT (notT hf)))) ?_
  refine o_w (v:=.bool ((((d0.kind==1)||(d0.kind==2))||(d0.kind==6))||(d0.kind==7))) (r_asg rfl) ?_
  refine eo_r ?_
  refine o_w (v:=.pointer (some ⟨b5,0,none⟩)) (r_fa fld_ouroborosref14_Frame_0 rfl rfl) ?_
  refine o_w (v:=.int .i64 d0.kind) (r_ld one_int rfl ((S5.fr (G11.trans (Fr.ext F13)) sI).now.cell rfl)) ?_
  refine o_w (v:=.bool (d0.kind==1)) (r_int rfl rfl rfl) ?_
  refine o_w (v:=.bool (d0.kind==1)) (r_mov rfl) ?_
  refine o_vg (v:=.pointer (some ⟨b5,0,none⟩)) (want_cf (t:=73) rfl rfl) (fun hk=>(r_fa fld_ouroborosref14_Frame_0 rfl rfl)) rfl rfl ?_
  refine o_vg (v:=.int .i64 d0.kind) (want_cf (t:=73) rfl rfl) (fun hk=>(r_ld one_int (gdT hk) ((S5.fr (G11.trans (Fr.ext F13)) sI).now.cell rfl))) rfl rfl ?_
  refine o_vg (v:=.bool (d0.kind==2)) (want_cf (t:=73) rfl rfl) (fun hk=>(r_int (gdT hk) rfl rfl)) rfl rfl ?_
  refine o_w (v:=.bool ((d0.kind==1)||(d0.kind==2))) (r_pickOr rfl rfl (fun hf=>(gdT (notT hf)))) ?_
  refine o_w (v:=.bool ((d0.kind==1)||(d0.kind==2))) (r_asg rfl) ?_
  refine eo_r ?_
  refine o_w (v:=.pointer (some ⟨b5,0,none⟩)) (r_fa fld_ouroborosref14_Frame_0 rfl rfl) ?_
  refine o_w (v:=.int .i64 d0.kind) (r_ld one_int rfl ((S5.fr (G11.trans (Fr.ext F13)) sI).now.cell rfl)) ?_
  refine o_w (v:=.bool (d0.kind==1)) (r_int rfl rfl rfl) ?_
  refine o_w (v:=.bool (d0.kind==1)) (r_mov rfl) ?_
  refine o_vg (v:=.pointer (some ⟨b5,0,none⟩)) (want_cf (t:=81) rfl rfl) (fun hk=>(r_fa fld_ouroborosref14_Frame_0 rfl rfl)) rfl rfl ?_
  refine o_vg (v:=.int .i64 d0.kind) (want_cf (t:=81) rfl rfl) (fun hk=>(r_ld one_int (gdT hk) ((S5.fr (G11.trans (Fr.ext F13)) sI).now.cell rfl))) rfl rfl ?_
  refine o_vg (v:=.bool (d0.kind==4)) (want_cf (t:=81) rfl rfl) (fun hk=>(r_int (gdT hk) rfl rfl)) rfl rfl ?_
  refine o_w (v:=.bool ((d0.kind==1)||(d0.kind==4))) (r_pickOr rfl rfl (fun hf=>(gdT (notT hf)))) ?_
  refine o_w (v:=.bool ((d0.kind==1)||(d0.kind==4))) (r_mov rfl) ?_
  refine o_vg (v:=.pointer (some ⟨b5,0,none⟩)) (want_cf (t:=86) rfl rfl) (fun hk=>(r_fa fld_ouroborosref14_Frame_0 rfl rfl)) rfl rfl ?_
  refine o_vg (v:=.int .i64 d0.kind) (want_cf (t:=86) rfl rfl) (fun hk=>(r_ld one_int (gdT hk) ((S5.fr (G11.trans (Fr.ext F13)) sI).now.cell rfl))) rfl rfl ?_
  refine o_vg (v:=.bool (d0.kind==5)) (want_cf (t:=86) rfl rfl) (fun hk=>(r_int (gdT hk) rfl rfl)) rfl rfl ?_
  refine o_w (v:=.bool (((d0.kind==1)||(d0.kind==4))||(d0.kind==5))) (r_pickOr rfl rfl (fun hf=>(gdT (notT hf)))) ?_
  refine o_w (v:=.bool (((d0.kind==1)||(d0.kind==4))||(d0.kind==5))) (r_mov rfl) ?_
  refine o_vg (v:=.pointer (some ⟨b5,0,none⟩)) (want_cf (t:=91) rfl rfl) (fun hk=>(r_fa fld_ouroborosref14_Frame_0 rfl rfl)) rfl rfl ?_
  refine o_vg (v:=.int .i64 d0.kind) (want_cf (t:=91) rfl rfl) (fun hk=>(r_ld one_int (gdT hk) ((S5.fr (G11.trans (Fr.ext F13)) sI).now.cell rfl))) rfl rfl ?_
  refine o_vg (v:=.bool (d0.kind==6)) (want_cf (t:=91) rfl rfl) (fun hk=>(r_int (gdT hk) rfl rfl)) rfl rfl ?_
  refine o_w (v:=.bool ((((d0.kind==1)||(d0.kind==4))||(d0.kind==5))||(d0.kind==6))) (r_pickOr rfl rfl (fun hf=>(gdT (notT hf)))) ?_
  refine o_w (v:=.bool ((((d0.kind==1)||(d0.kind==4))||(d0.kind==5))||(d0.kind==6))) (r_asg rfl) ?_
  refine eo_nil_sq ?_
  refine ec_seq ?_
  refine ec_sr ?_
  refine o_w (v:=.pointer (some ⟨b5,0,none⟩)) (r_fa fld_ouroborosref14_Frame_0 rfl rfl) ?_
  refine o_w (v:=.int .i64 d0.kind) (r_ld one_int rfl ((S5.fr (G11.trans (Fr.ext F13)) sI).now.cell rfl)) ?_
  refine o_w (v:=.bool (d0.kind==4)) (r_int rfl rfl rfl) ?_
  refine o_w (v:=.bool (d0.kind==4)) (r_mov rfl) ?_
  refine o_vg (v:=.pointer (some ⟨b5,1,none⟩)) (want_ct (t:=99) rfl rfl) (fun hk=>(r_fa fld_ouroborosref14_Frame_1 rfl rfl)) rfl rfl ?_
  refine o_vg (v:=.int .i64 d0.a) (want_ct (t:=99) rfl rfl) (fun hk=>(r_ld one_int (gdT hk) ((S5.fr (G11.trans (Fr.ext F13)) sI).now.cell rfl))) rfl rfl ?_
  refine o_vg (v:=.bool (decide (d0.a<1))) (want_ct (t:=99) rfl rfl) (fun hk=>(r_int (gdT hk) rfl rfl)) rfl rfl ?_
  refine o_vg (v:=.bool (decide (d0.a<1))) (want_ct (t:=99) rfl rfl) (fun hk=>(r_mov (gdT hk))) rfl rfl ?_
  refine o_vg (v:=.pointer (some ⟨b5,1,none⟩)) (want_gf (t:=103) rfl rfl) (fun hk=>(r_fa fld_ouroborosref14_Frame_1 rfl rfl)) rfl rfl ?_
  refine o_vg (v:=.int .i64 d0.a) (want_gf (t:=103) rfl rfl) (fun hk=>(r_ld one_int (gdT hk) ((S5.fr (G11.trans (Fr.ext F13)) sI).now.cell rfl))) rfl rfl ?_
  refine o_vg (v:=.bool (decide (15<d0.a))) (want_gf (t:=103) rfl rfl) (fun hk=>(r_int (gdT hk) rfl rfl)) rfl rfl ?_
  refine o_vg (v:=.bool ((decide (d0.a<1))||(decide (15<d0.a)))) (want_ct (t:=99) rfl rfl) (fun hk=>(r_pickOr (gdT hk) rfl (fun hf=>(gdT (andM hk (notT hf)))))) rfl rfl ?_
  refine o_w (v:=.bool ((d0.kind==4)&&((decide (d0.a<1))||(decide (15<d0.a))))) (r_pickAnd rfl (fun ht=>(gdT ht)) rfl) ?_
  refine o_w (v:=.bool ((d0.kind==4)&&((decide (d0.a<1))||(decide (15<d0.a))))) (r_mov rfl) ?_
  refine o_vg (v:=.pointer (some ⟨b5,0,none⟩)) (want_cf (t:=109) rfl rfl) (fun hk=>(r_fa fld_ouroborosref14_Frame_0 rfl rfl)) rfl rfl ?_
  refine o_vg (v:=.int .i64 d0.kind) (want_cf (t:=109) rfl rfl) (fun hk=>(r_ld one_int (gdT hk) ((S5.fr (G11.trans (Fr.ext F13)) sI).now.cell rfl))) rfl rfl ?_
  refine o_vg (v:=.bool (d0.kind != (4:Int))) (want_cf (t:=109) rfl rfl) (fun hk=>(r_int (gdT hk) rfl rfl)) rfl rfl ?_
  refine o_vg (v:=.bool (d0.kind != (4:Int))) (want_cf (t:=109) rfl rfl) (fun hk=>(r_mov (gdT hk))) rfl rfl ?_
  refine o_vg (v:=.bool ((((d0.kind==1)||(d0.kind==2))||(d0.kind==6))||(d0.kind==7))) (want_gt (t:=113) rfl rfl) (fun hk=>(r_mov rfl)) rfl rfl ?_
  refine o_vg (v:=.bool (!((((d0.kind==1)||(d0.kind==2))||(d0.kind==6))||(d0.kind==7)))) (want_gt (t:=113) rfl rfl) (fun hk=>(r_not (gdT hk))) rfl rfl ?_
  refine o_vg (v:=.bool ((d0.kind != (4:Int))&&(!((((d0.kind==1)||(d0.kind==2))||(d0.kind==6))||(d0.kind==7))))) (want_cf (t:=109) rfl rfl) (fun hk=>(r_pickAnd (gdT hk) (fun ht=>(gdT (andM hk ht))) rfl)) rfl rfl ?_
  refine o_vg (v:=.bool ((d0.kind != (4:Int))&&(!((((d0.kind==1)||(d0.kind==2))||(d0.kind==6))||(d0.kind==7))))) (want_cf (t:=109) rfl rfl) (fun hk=>(r_mov (gdT hk))) rfl rfl ?_
  refine o_vg (v:=.pointer (some ⟨b5,1,none⟩)) (want_gt (t:=117) rfl rfl) (fun hk=>(r_fa fld_ouroborosref14_Frame_1 rfl rfl)) rfl rfl ?_
  refine o_vg (v:=.int .i64 d0.a) (want_gt (t:=117) rfl rfl) (fun hk=>(r_ld one_int (gdT hk) ((S5.fr (G11.trans (Fr.ext F13)) sI).now.cell rfl))) rfl rfl ?_
  refine o_vg (v:=.bool (d0.a != (0:Int))) (want_gt (t:=117) rfl rfl) (fun hk=>(r_int (gdT hk) rfl rfl)) rfl rfl ?_
  refine o_vg (v:=.bool (((d0.kind != (4:Int))&&(!((((d0.kind==1)||(d0.kind==2))||(d0.kind==6))||(d0.kind==7))))&&(d0.a != (0:Int)))) (want_cf (t:=109) rfl rfl) (fun hk=>(r_pickAnd (gdT hk) (fun ht=>(gdT (andM hk ht))) rfl)) rfl rfl ?_
  refine o_w (v:=.bool (((d0.kind==4)&&((decide (d0.a<1))||(decide (15<d0.a))))||(((d0.kind != (4:Int))&&(!((((d0.kind==1)||(d0.kind==2))||(d0.kind==6))||(d0.kind==7))))&&(d0.a != (0:Int))))) (r_pickOr rfl rfl (fun hf=>(gdT (notT hf)))) ?_
  refine eo_nil_sq ?_
  refine ec_cond rfl (fun hc20=>?_) (fun hc20=>?_)
  ·replace h:=h.1 hc20
   refine ec_sr ?_
   refine o_w (v:=.bool false) (r_asg rfl) ?_
   refine eo_nil_sq ?_
   refine ec_ret ?_
   refine sq_ret ?_
   subst h
   exact (end1 rfl ⟨_,rfl,E16,rfl⟩)
  ·replace h:=h.2 hc20
   refine ec_skip ?_
   refine sq_n ?_
   refine ec_sr ?_
   iterate 2 refine o_w (v:=.bool ((d0.kind==1)||(d0.kind==2))) (r_mov rfl) ?_
   refine o_vg (v:=.pointer (some ⟨b5,2,none⟩)) (want_cf (t:=124) rfl rfl) (fun hk=>(r_fa fld_ouroborosref14_Frame_2 rfl rfl)) rfl rfl ?_
   refine o_vg (v:=.int .i64 d0.b) (want_cf (t:=124) rfl rfl) (fun hk=>(r_ld one_int (gdT hk) ((S5.fr (G11.trans (Fr.ext F13)) sI).now.cell rfl))) rfl rfl ?_
   refine o_vg (v:=.bool (d0.b==0)) (want_cf (t:=124) rfl rfl) (fun hk=>(r_int (gdT hk) rfl rfl)) rfl rfl ?_
   refine o_w (v:=.bool (((d0.kind==1)||(d0.kind==2))||(d0.b==0))) (r_pickOr rfl rfl (fun hf=>(gdT (notT hf)))) ?_
   refine o_w (v:=.bool (((d0.kind==1)||(d0.kind==2))||(d0.b==0))) (r_mov rfl) ?_
   refine o_vg (v:=.pointer (some ⟨b5,0,none⟩)) (want_ct (t:=129) rfl rfl) (fun hk=>(r_fa fld_ouroborosref14_Frame_0 rfl rfl)) rfl rfl ?_
   refine o_vg (v:=.int .i64 d0.kind) (want_ct (t:=129) rfl rfl) (fun hk=>(r_ld one_int (gdT hk) ((S5.fr (G11.trans (Fr.ext F13)) sI).now.cell rfl))) rfl rfl ?_
   refine o_vg (v:=.bool (d0.kind==3)) (want_ct (t:=129) rfl rfl) (fun hk=>(r_int (gdT hk) rfl rfl)) rfl rfl ?_
   refine o_vg (v:=.bool (d0.kind==3)) (want_ct (t:=129) rfl rfl) (fun hk=>(r_mov (gdT hk))) rfl rfl ?_
   refine o_vg (v:=.pointer (some ⟨b5,3,none⟩)) (want_gf (t:=133) rfl rfl) (fun hk=>(r_fa fld_ouroborosref14_Frame_3 rfl rfl)) rfl rfl ?_
   refine o_vg (v:=.agg #[.int .i64 (nth d0.sums 0),.int .i64 (nth d0.sums 1),.int .i64 (nth d0.sums 2),.int .i64 (nth d0.sums 3)]) (want_gf (t:=133) rfl rfl) (fun hk=>(r_lda agg_4_int (gdT hk) (vs:=[.int .i64 (nth d0.sums 0),.int .i64 (nth d0.sums 1),.int .i64 (nth d0.sums 2),.int .i64 (nth d0.sums 3)]) rfl ((S5.fr (G11.trans (Fr.ext F13)) sI).now.part (n:=4) rfl))) rfl rfl ?_
   refine o_vg (v:=.agg #[.int .i64 0,.int .i64 0,.int .i64 0,.int .i64 0]) (want_gf (t:=133) rfl rfl) (fun hk=>(r_build bld_4_int (vs:=[]) (cells:=[.int .i64 0,.int .i64 0,.int .i64 0,.int .i64 0]) rfl rfl)) rfl rfl ?_
   refine o_vg (v:=.bool (((nth d0.sums 0)==0)&&(((nth d0.sums 1)==0)&&(((nth d0.sums 2)==0)&&(((nth d0.sums 3)==0)&&true))))) (want_gf (t:=133) rfl rfl) (fun hk=>(r_eqSt eqg_4_int (eqs_4_int (nth d0.sums 0) (nth d0.sums 1) (nth d0.sums 2) (nth d0.sums 3) (0:Int) (0:Int) (0:Int) (0:Int)) (gdT hk) (gdT hk))) rfl rfl ?_
   refine o_vg (v:=.bool ((d0.kind==3)||(((nth d0.sums 0)==0)&&(((nth d0.sums 1)==0)&&(((nth d0.sums 2)==0)&&(((nth d0.sums 3)==0)&&true)))))) (want_ct (t:=129) rfl rfl) (fun hk=>(r_pickOr (gdT hk) rfl (fun hf=>(gdT (andM hk (notT hf)))))) rfl rfl ?_
   refine o_w (v:=.bool ((((d0.kind==1)||(d0.kind==2))||(d0.b==0))&&((d0.kind==3)||(((nth d0.sums 0)==0)&&(((nth d0.sums 1)==0)&&(((nth d0.sums 2)==0)&&(((nth d0.sums 3)==0)&&true))))))) (r_pickAnd rfl (fun ht=>(gdT ht)) rfl) ?_
   refine o_w (v:=.bool ((((d0.kind==1)||(d0.kind==2))||(d0.b==0))&&((d0.kind==3)||(((nth d0.sums 0)==0)&&(((nth d0.sums 1)==0)&&(((nth d0.sums 2)==0)&&(((nth d0.sums 3)==0)&&true))))))) (r_mov rfl) ?_
   refine o_vg (v:=.bool ((((d0.kind==1)||(d0.kind==4))||(d0.kind==5))||(d0.kind==6))) (want_ct (t:=140) rfl rfl) (fun hk=>(r_mov rfl)) rfl rfl ?_
   refine o_vg (v:=.bool ((((d0.kind==1)||(d0.kind==4))||(d0.kind==5))||(d0.kind==6))) (want_ct (t:=140) rfl rfl) (fun hk=>(r_mov (gdT hk))) rfl rfl ?_
   refine o_vg (v:=.pointer (some ⟨b5,7,none⟩)) (want_gf (t:=142) rfl rfl) (fun hk=>(r_fa fld_ouroborosref14_Frame_4 rfl rfl)) rfl rfl ?_
   refine o_vg (v:=.slice A2 d0.entries.length c3) (want_gf (t:=142) rfl rfl) (fun hk=>(r_ld one_s_api_Entry (gdT hk) ((S5.fr (G11.trans (Fr.ext F13)) sI).now.cell rfl))) rfl rfl ?_
   refine o_vg (v:=.int .i64 (d0.entries.length:Int)) (want_gf (t:=142) rfl rfl) (fun hk=>(r_len_slc un_s_api_Entry (gdT hk))) rfl rfl ?_
   refine o_vg (v:=.bool ((d0.entries.length:Int)==0)) (want_gf (t:=142) rfl rfl) (fun hk=>(r_int (gdT hk) rfl rfl)) rfl rfl ?_
   refine o_vg (v:=.bool (((((d0.kind==1)||(d0.kind==4))||(d0.kind==5))||(d0.kind==6))||((d0.entries.length:Int)==0))) (want_ct (t:=140) rfl rfl) (fun hk=>(r_pickOr (gdT hk) rfl (fun hf=>(gdT (andM hk (notT hf)))))) rfl rfl ?_
   refine o_w (v:=.bool (((((d0.kind==1)||(d0.kind==2))||(d0.b==0))&&((d0.kind==3)||(((nth d0.sums 0)==0)&&(((nth d0.sums 1)==0)&&(((nth d0.sums 2)==0)&&(((nth d0.sums 3)==0)&&true))))))&&(((((d0.kind==1)||(d0.kind==4))||(d0.kind==5))||(d0.kind==6))||((d0.entries.length:Int)==0)))) (r_pickAnd rfl (fun ht=>(gdT ht)) rfl) ?_
   refine o_w (v:=.bool (((((d0.kind==1)||(d0.kind==2))||(d0.b==0))&&((d0.kind==3)||(((nth d0.sums 0)==0)&&(((nth d0.sums 1)==0)&&(((nth d0.sums 2)==0)&&(((nth d0.sums 3)==0)&&true))))))&&(((((d0.kind==1)||(d0.kind==4))||(d0.kind==5))||(d0.kind==6))||((d0.entries.length:Int)==0)))) (r_asg rfl) ?_
   refine eo_nil_sq ?_
   refine ec_ret ?_
   subst h
   exact (end1 rfl ⟨_,rfl,E16,rfl⟩)
def ref14_Same_raw (d0:Frm) (d1:Frm) (y:Bool):Prop :=
 (((((d0.kind==d1.kind)&&(d0.a==d1.a))&&(d0.b==d1.b))&&(((nth d0.sums 0)==(nth d1.sums 0))&&(((nth d0.sums 1)==(nth d1.sums 1))&&(((nth d0.sums 2)==(nth d1.sums 2))&&(((nth d0.sums 3)==(nth d1.sums 3))&&true)))))=true→sml d0.entries)∧(y=(((((d0.kind==d1.kind)&&(d0.a==d1.a))&&(d0.b==d1.b))&&(((nth d0.sums 0)==(nth d1.sums 0))&&(((nth d0.sums 1)==(nth d1.sums 1))&&(((nth d0.sums 2)==(nth d1.sums 2))&&(((nth d0.sums 3)==(nth d1.sums 3))&&true)))))&&(allE d0.entries d1.entries)))
set_option maxRecDepth 20000 in
set_option maxHeartbeats 4000000 in
theorem ref14_Same_c {L:List Nat} {w:World} {csP0:List Value} (d0:Frm) (HP0:Stb L w (fun w=>kFrm.r w csP0 d0)) {csP1:List Value} (d1:Frm) (HP1:Stb L w (fun w=>kFrm.r w csP1 d1)) (hL:Lt L w) {y:Bool} (h:ref14_Same_raw d0 d1 y) :
  Calls Tryz.prog 15 [.agg csP0.toArray,.agg csP1.toArray].toArray w (Ret fun v w'=>Ext w w'∧v=.bool y):=by
 obtain ⟨A2,c3,rfl,H4,hl1⟩:=kFrm_open HP0
 obtain ⟨A6,c7,rfl,H8,hl5⟩:=kFrm_open HP1
 unfold ref14_Same_raw at h
 refine calls_ec Tryz.func15 rfl rfl rfl ?_
 refine ec_sr ?_
 refine o_box (cs:=(cFrm d0 A2 c3)) rfl rfl rfl ?_
 intro b9 w9 e9 F9 B9
 have S9:=B9.stb (nin hL e9)
 have G10:Fr L w w9:=Fr.ext F9
 refine o_box (cs:=(cFrm d1 A6 c7)) rfl rfl rfl ?_
 intro b11 w11 e11 F11 B11
 have S11:=B11.stb (nin (hL.fr F9) e11)
 have E12:=F9.trans F11
 have G14:Fr L w9 w11:=Fr.ext F11
 refine o_w (v:=.bool false) (r_asg rfl) ?_
 refine eo_r ?_
 refine o_w (v:=.pointer (some ⟨b9,0,none⟩)) (r_fa fld_ouroborosref14_Frame_0 rfl rfl) ?_
 refine o_w (v:=.int .i64 d0.kind) (r_ld one_int rfl ((S9.fr G14 sI).now.cell rfl)) ?_
 refine o_w (v:=.pointer (some ⟨b11,0,none⟩)) (r_fa fld_ouroborosref14_Frame_0 rfl rfl) ?_
 refine o_w (v:=.int .i64 d1.kind) (r_ld one_int rfl (S11.now.cell rfl)) ?_
 refine o_w (v:=.bool (d0.kind==d1.kind)) (r_int rfl rfl rfl) ?_
 refine o_w (v:=.bool (d0.kind==d1.kind)) (r_mov rfl) ?_
 refine o_vg (v:=.pointer (some ⟨b9,1,none⟩)) (want_ct (t:=10) rfl rfl) (fun hk=>(r_fa fld_ouroborosref14_Frame_1 rfl rfl)) rfl rfl ?_
 refine o_vg (v:=.int .i64 d0.a) (want_ct (t:=10) rfl rfl) (fun hk=>(r_ld one_int (gdT hk) ((S9.fr G14 sI).now.cell rfl))) rfl rfl ?_
 refine o_vg (v:=.pointer (some ⟨b11,1,none⟩)) (want_ct (t:=10) rfl rfl) (fun hk=>(r_fa fld_ouroborosref14_Frame_1 rfl rfl)) rfl rfl ?_
 refine o_vg (v:=.int .i64 d1.a) (want_ct (t:=10) rfl rfl) (fun hk=>(r_ld one_int (gdT hk) (S11.now.cell rfl))) rfl rfl ?_
 refine o_vg (v:=.bool (d0.a==d1.a)) (want_ct (t:=10) rfl rfl) (fun hk=>(r_int (gdT hk) (gdT hk) rfl)) rfl rfl ?_
 refine o_w (v:=.bool ((d0.kind==d1.kind)&&(d0.a==d1.a))) (r_pickAnd rfl (fun ht=>(gdT ht)) rfl) ?_
 refine o_w (v:=.bool ((d0.kind==d1.kind)&&(d0.a==d1.a))) (r_mov rfl) ?_
 refine o_vg (v:=.pointer (some ⟨b9,2,none⟩)) (want_ct (t:=17) rfl rfl) (fun hk=>(r_fa fld_ouroborosref14_Frame_2 rfl rfl)) rfl rfl ?_
 refine o_vg (v:=.int .i64 d0.b) (want_ct (t:=17) rfl rfl) (fun hk=>(r_ld one_int (gdT hk) ((S9.fr G14 sI).now.cell rfl))) rfl rfl ?_
 refine o_vg (v:=.pointer (some ⟨b11,2,none⟩)) (want_ct (t:=17) rfl rfl) (fun hk=>(r_fa fld_ouroborosref14_Frame_2 rfl rfl)) rfl rfl ?_
 refine o_vg (v:=.int .i64 d1.b) (want_ct (t:=17) rfl rfl) (fun hk=>(r_ld one_int (gdT hk) (S11.now.cell rfl))) rfl rfl ?_
 refine o_vg (v:=.bool (d0.b==d1.b)) (want_ct (t:=17) rfl rfl) (fun hk=>(r_int (gdT hk) (gdT hk) rfl)) rfl rfl ?_
 refine o_w (v:=.bool (((d0.kind==d1.kind)&&(d0.a==d1.a))&&(d0.b==d1.b))) (r_pickAnd rfl (fun ht=>(gdT ht)) rfl) ?_
 refine o_w (v:=.bool (((d0.kind==d1.kind)&&(d0.a==d1.a))&&(d0.b==d1.b))) (r_mov rfl) ?_
 refine o_vg (v:=.pointer (some ⟨b9,3,none⟩)) (want_ct (t:=24) rfl rfl) (fun hk=>(r_fa fld_ouroborosref14_Frame_3 rfl rfl)) rfl rfl ?_
 refine o_vg (v:=.agg #[.int .i64 (nth d0.sums 0),.int .i64 (nth d0.sums 1),.int .i64 (nth d0.sums 2),.int .i64 (nth d0.sums 3)]) (want_ct (t:=24) rfl rfl) (fun hk=>(r_lda agg_4_int (gdT hk) (vs:=[.int .i64 (nth d0.sums 0),.int .i64 (nth d0.sums 1),.int .i64 (nth d0.sums 2),.int .i64 (nth d0.sums 3)]) rfl ((S9.fr G14 sI).now.part (n:=4) rfl))) rfl rfl ?_
 refine o_vg (v:=.pointer (some ⟨b11,3,none⟩)) (want_ct (t:=24) rfl rfl) (fun hk=>(r_fa fld_ouroborosref14_Frame_3 rfl rfl)) rfl rfl ?_
 refine o_vg (v:=.agg #[.int .i64 (nth d1.sums 0),.int .i64 (nth d1.sums 1),.int .i64 (nth d1.sums 2),.int .i64 (nth d1.sums 3)]) (want_ct (t:=24) rfl rfl) (fun hk=>(r_lda agg_4_int (gdT hk) (vs:=[.int .i64 (nth d1.sums 0),.int .i64 (nth d1.sums 1),.int .i64 (nth d1.sums 2),.int .i64 (nth d1.sums 3)]) rfl (S11.now.part (n:=4) rfl))) rfl rfl ?_
 refine o_vg (v:=.bool (((nth d0.sums 0)==(nth d1.sums 0))&&(((nth d0.sums 1)==(nth d1.sums 1))&&(((nth d0.sums 2)==(nth d1.sums 2))&&(((nth d0.sums 3)==(nth d1.sums 3))&&true))))) (want_ct (t:=24) rfl rfl) (fun hk=>(r_eqSt eqg_4_int (eqs_4_int (nth d0.sums 0) (nth d0.sums 1) (nth d0.sums 2) (nth d0.sums 3) (nth d1.sums 0) (nth d1.sums 1) (nth d1.sums 2) (nth d1.sums 3)) (gdT hk) (gdT hk))) rfl rfl ?_
 refine o_w (v:=.bool ((((d0.kind==d1.kind)&&(d0.a==d1.a))&&(d0.b==d1.b))&&(((nth d0.sums 0)==(nth d1.sums 0))&&(((nth d0.sums 1)==(nth d1.sums 1))&&(((nth d0.sums 2)==(nth d1.sums 2))&&(((nth d0.sums 3)==(nth d1.sums 3))&&true)))))) (r_pickAnd rfl (fun ht=>(gdT ht)) rfl) ?_
 refine o_w (v:=.bool ((((d0.kind==d1.kind)&&(d0.a==d1.a))&&(d0.b==d1.b))&&(((nth d0.sums 0)==(nth d1.sums 0))&&(((nth d0.sums 1)==(nth d1.sums 1))&&(((nth d0.sums 2)==(nth d1.sums 2))&&(((nth d0.sums 3)==(nth d1.sums 3))&&true)))))) (r_mov rfl) ?_
 refine o_vg (v:=.pointer (some ⟨b9,7,none⟩)) (want_ct (t:=31) rfl rfl) (fun hk=>(r_fa fld_ouroborosref14_Frame_4 rfl rfl)) rfl rfl ?_
 refine o_vg (v:=.slice A2 d0.entries.length c3) (want_ct (t:=31) rfl rfl) (fun hk=>(r_ld one_s_api_Entry (gdT hk) ((S9.fr G14 sI).now.cell rfl))) rfl rfl ?_
 refine o_vg (v:=.pointer (some ⟨b11,7,none⟩)) (want_ct (t:=31) rfl rfl) (fun hk=>(r_fa fld_ouroborosref14_Frame_4 rfl rfl)) rfl rfl ?_
 refine o_vg (v:=.slice A6 d1.entries.length c7) (want_ct (t:=31) rfl rfl) (fun hk=>(r_ld one_s_api_Entry (gdT hk) (S11.now.cell rfl))) rfl rfl ?_
 obtain ⟨ha17,h⟩:=h
 refine o_callg (V:=.bool (allE d0.entries d1.entries)) cf_ref07_All (want_ct (t:=31) rfl rfl) (fun hk=>(mapv2 (gdT hk) (gdT hk))) (fun hk=>(ref07_All_c d0.entries (H4.fr (G10.trans (Fr.ext F11)) sI) d1.entries (H8.fr (G10.trans (Fr.ext F11)) sI) (hL.fr E12) (refAll_ev d0.entries d1.entries (ha17 hk)))) rfl ?_
 intro w16 F16
 have E18:=E12.trans F16
 refine o_w (v:=.bool (((((d0.kind==d1.kind)&&(d0.a==d1.a))&&(d0.b==d1.b))&&(((nth d0.sums 0)==(nth d1.sums 0))&&(((nth d0.sums 1)==(nth d1.sums 1))&&(((nth d0.sums 2)==(nth d1.sums 2))&&(((nth d0.sums 3)==(nth d1.sums 3))&&true)))))&&(allE d0.entries d1.entries))) (r_pickAnd rfl (fun ht=>(gdT ht)) rfl) ?_
 refine o_w (v:=.bool (((((d0.kind==d1.kind)&&(d0.a==d1.a))&&(d0.b==d1.b))&&(((nth d0.sums 0)==(nth d1.sums 0))&&(((nth d0.sums 1)==(nth d1.sums 1))&&(((nth d0.sums 2)==(nth d1.sums 2))&&(((nth d0.sums 3)==(nth d1.sums 3))&&true)))))&&(allE d0.entries d1.entries))) (r_asg rfl) ?_
 refine eo_nil_sq ?_
 refine ec_ret ?_
 subst h
 exact (end1 rfl ⟨_,rfl,E18,rfl⟩)
def law14_Of_raw (d0:Frm) (y:Frm):Prop :=
 y=d0
set_option maxRecDepth 20000 in
set_option maxHeartbeats 4000000 in
theorem law14_Of_c {L:List Nat} {w:World} {csP0:List Value} (d0:Frm) (HP0:Stb L w (fun w=>kFrm.r w csP0 d0)) (hL:Lt L w) {y:Frm} (h:law14_Of_raw d0 y) :
  Calls Tryz.prog 12 [.agg csP0.toArray].toArray w (Ret fun v w'=>Ext w w'∧∃ (cs90:List Value),v=.agg cs90.toArray∧Stb L w' (fun w=>kFrm.r w cs90 y)):=by
 obtain ⟨A2,c3,rfl,H4,hl1⟩:=kFrm_open HP0
 unfold law14_Of_raw at h
 refine calls_ec Tryz.func12 rfl rfl rfl ?_
 refine ec_sr ?_
 refine o_box (cs:=(cFrm d0 A2 c3)) rfl rfl rfl ?_
 intro b5 w5 e5 F5 B5
 have S5:=B5.stb (nin hL e5)
 have G6:Fr L w w5:=Fr.ext F5
 refine o_alloc zero_ouroborosref14_Frame rfl rfl rfl ?_
 intro b7 w7 e7 F7 B7
 have n7:w.heap.size≤b7:=by rw [e7]; exact F5.size
 have m8:w.heap.size≤b7:=by rw [e7]; exact G6.size
 have E10:=F5.trans F7
 have G12:Fr L w5 w7:=Fr.ext F7
 refine eo_r ?_
 refine o_w (v:=.pointer (some ⟨b5,0,none⟩)) (r_fa fld_frame_Frame_0 rfl rfl) ?_
 refine o_w (v:=.int .i64 d0.kind) (r_ld one_int rfl ((S5.fr G12 sI).now.cell rfl)) ?_
 refine o_w (v:=.pointer (some ⟨b5,1,none⟩)) (r_fa fld_frame_Frame_1 rfl rfl) ?_
 refine o_w (v:=.int .i64 d0.a) (r_ld one_int rfl ((S5.fr G12 sI).now.cell rfl)) ?_
 refine o_w (v:=.pointer (some ⟨b5,2,none⟩)) (r_fa fld_frame_Frame_2 rfl rfl) ?_
 refine o_w (v:=.int .i64 d0.b) (r_ld one_int rfl ((S5.fr G12 sI).now.cell rfl)) ?_
 refine o_w (v:=.pointer (some ⟨b5,3,none⟩)) (r_fa fld_frame_Frame_3 rfl rfl) ?_
 refine o_w (v:=.agg #[.int .i64 (nth d0.sums 0),.int .i64 (nth d0.sums 1),.int .i64 (nth d0.sums 2),.int .i64 (nth d0.sums 3)]) (r_lda agg_4_int rfl (vs:=[.int .i64 (nth d0.sums 0),.int .i64 (nth d0.sums 1),.int .i64 (nth d0.sums 2),.int .i64 (nth d0.sums 3)]) rfl ((S5.fr G12 sI).now.part (n:=4) rfl)) ?_
 refine o_w (v:=.pointer (some ⟨b5,7,none⟩)) (r_fa fld_frame_Frame_4 rfl rfl) ?_
 refine o_w (v:=.slice A2 d0.entries.length c3) (r_ld one_s_api_Entry rfl ((S5.fr G12 sI).now.cell rfl)) ?_
 refine o_w (v:=.agg (cFrm d0 A2 c3).toArray) (r_build bld_ouroborosref14_Frame (vs:=[(0,.int .i64 d0.kind),(1,.int .i64 d0.a),(2,.int .i64 d0.b),(3,.agg #[.int .i64 (nth d0.sums 0),.int .i64 (nth d0.sums 1),.int .i64 (nth d0.sums 2),.int .i64 (nth d0.sums 3)]),(4,.slice A2 d0.entries.length c3)]) (cells:=[.int .i64 d0.kind,.int .i64 d0.a,.int .i64 d0.b,.int .i64 (nth d0.sums 0),.int .i64 (nth d0.sums 1),.int .i64 (nth d0.sums 2),.int .i64 (nth d0.sums 3),.slice A2 d0.entries.length c3]) rfl rfl) ?_
 refine o_store rfl B7 (vs:=(cFrm d0 A2 c3)) rfl sz_ouroborosref14_Frame rfl rfl rfl ?_
 intro w13 F13 B13
 have E14:=Ext.st E10 F13 (by simp; omega)
 have G15:Fr L w w13:=(G6.trans (Fr.ext F7)).stp F13 (upc (.inr m8) (fun m hm=>by cases hm))
 have B13':Blk w13 b7 _ (cFrm d0 A2 c3):=B13
 refine eo_nil_sq ?_
 refine ec_ret ?_
 replace h:=h.symm
 subst h
 exact (endr1 (rv_a rfl (agg_ouroborosref14_Frame) B13' (vs:=(cFrm d0 A2 c3)) rfl rfl) ⟨_,rfl,E14,_,rfl,(kFrm_mk (d:=d0) (H4.fr G15 sI) hl1)⟩)
end Go.Proofs.YtdfjbkoimpjkaaaGreat
