/- The law DeltaTwo: what it comes to. -/
import Derived.Test.YthhjcijhanacnaaLh
namespace Go.Proofs.Ythhjcijhanacnaa
open Go Go.RowKit
set_option linter.unusedVariables false
set_option linter.unusedSimpArgs false
def law09_DeltaTwo_raw (d0:Arena) (d1:Int) (d2:Int) (d3:Str) (d4:Int) (d5:Int) (d6:Str) (d7:Str) (y:Bool):Prop :=
 ((!(worksV))=true→(y=false))∧((!(worksV))=false→(((((((!(fewA d0))||(decide (100<(d3.length:Int))))||(decide (100<(d6.length:Int))))||(decide (100<(d7.length:Int))))||(decide ((Int.tmod (IntKind.i64.wrap d2) (8:Int))≤(Int.tmod (IntKind.i64.wrap d1) (8:Int)))))=true→(y=(worksV)))∧((((((!(fewA d0))||(decide (100<(d3.length:Int))))||(decide (100<(d6.length:Int))))||(decide (100<(d7.length:Int))))||(decide ((Int.tmod (IntKind.i64.wrap d2) (8:Int))≤(Int.tmod (IntKind.i64.wrap d1) (8:Int)))))=false→((sma d0)∧(∃ x19,x19=(addU d0 (Int.tmod (IntKind.i64.wrap d1) (8:Int)) d3 d4)∧((sma d0)∧(∃ x45,x45=(addU d0 (Int.tmod (IntKind.i64.wrap d2) (8:Int)) d3 d5)∧((((x19.2==0)&&(x45.2==0))=true→((sma d0)∧((sml ([x19.1,x45.1]:List Ent))∧((wfl ([x19.1,x45.1]:List Ent))∧(∃ x88,x88=(mergeA d0 ([x19.1,x45.1]:List Ent))∧((sma d0)∧(∃ x137,x137=(sumU d0 d3)∧((sma x88.1)∧(∃ x149,x149=(sumU x88.1 d3)∧((((decide (0<x88.2.2))||(x149.1 != (IntKind.i64.wrap ((IntKind.i64.wrap (x137.1 + d4)) + d5))))=true→(y=false))∧(((decide (0<x88.2.2))||(x149.1 != (IntKind.i64.wrap ((IntKind.i64.wrap (x137.1 + d4)) + d5))))=false→((sma d0)∧(∃ x162,x162=(putU d0 (Int.tmod (IntKind.i64.wrap d1) (8:Int)) d3 d6)∧((sma d0)∧(∃ x216,x216=(putU d0 (Int.tmod (IntKind.i64.wrap d2) (8:Int)) d3 d7)∧((((x162.2 != (0:Int))||(x216.2 != (0:Int)))=true→(y=(worksV)))∧(((x162.2 != (0:Int))||(x216.2 != (0:Int)))=false→((sma d0)∧((sml ([x216.1,x162.1]:List Ent))∧((wfl ([x216.1,x162.1]:List Ent))∧(∃ x294,x294=(mergeA d0 ([x216.1,x162.1]:List Ent))∧((sma x294.1)∧(∃ x371,x371=(textU x294.1 d3)∧(y=((x294.2.2==0)&&(x371.1==d7))))))))))))))))))))))))))∧(((x19.2==0)&&(x45.2==0))=false→((sma d0)∧(∃ x390,x390=(putU d0 (Int.tmod (IntKind.i64.wrap d1) (8:Int)) d3 d6)∧((sma d0)∧(∃ x432,x432=(putU d0 (Int.tmod (IntKind.i64.wrap d2) (8:Int)) d3 d7)∧((((x390.2 != (0:Int))||(x432.2 != (0:Int)))=true→(y=(worksV)))∧(((x390.2 != (0:Int))||(x432.2 != (0:Int)))=false→((sma d0)∧((sml ([x432.1,x390.1]:List Ent))∧((wfl ([x432.1,x390.1]:List Ent))∧(∃ x495,x495=(mergeA d0 ([x432.1,x390.1]:List Ent))∧((sma x495.1)∧(∃ x560,x560=(textU x495.1 d3)∧(y=((x495.2.2==0)&&(x560.1==d7))))))))))))))))))))))))
set_option maxRecDepth 20000 in
set_option maxHeartbeats 4000000 in
theorem law09_DeltaTwo_c {L:List Nat} {w:World} {csP0:List Value} (d0:Arena) (HP0:Stb L w (fun w=>kArena.r w csP0 d0)) (d1:Int) (d2:Int) (d3:Str) (d4:Int) (d5:Int) (d6:Str) (d7:Str) (hL:Lt L w) {y:Bool} (h:law09_DeltaTwo_raw d0 d1 d2 d3 d4 d5 d6 d7 y) :
  Calls Try.prog 6 [.agg csP0.toArray,.int .u8 d1,.int .u8 d2,str d3,.int .i64 d4,.int .i64 d5,str d6,str d7].toArray w (Ret fun v w'=>Ext w w'∧v=.bool y):=by
 obtain ⟨A1,c2,A4,c5,rfl,H3,H6⟩:=kArena_open HP0
 unfold law09_DeltaTwo_raw at h
 refine calls_ec Try.func6 rfl rfl rfl ?_
 refine ec_seq ?_
 refine ec_region ?_
 refine o_box (cs:=(cArena d0 A1 c2 A4 c5)) rfl rfl rfl ?_
 intro b7 w7 e7 F7 B7
 have S7:=B7.stb (nin hL e7)
 have G8:Fr L w w7:=Fr.ext F7
 refine o_w (v:=.bool false) (r_asg rfl) ?_
 refine eo_nil_sq ?_
 refine ec_seq ?_
 refine ec_region ?_
 refine o_call cf_law09_works rfl (law09_works_c (hL.fr F7) (works9_ev)) rfl rfl ?_
 rintro _ w9 ⟨F9,rfl⟩
 have E10:=F7.trans F9
 have G12:Fr L w7 w9:=Fr.ext F9
 refine o_w (v:=.bool (worksV)) (r_asg rfl) ?_
 refine eo_nil_sq ?_
 iterate 2 refine ec_seq ?_
 refine ec_region ?_
 refine o_w (v:=.bool (worksV)) (r_mov rfl) ?_
 refine o_w (v:=.bool (!(worksV))) (r_not rfl) ?_
 refine eo_nil_sq ?_
 refine ec_cond rfl (fun hc13=>?_) (fun hc13=>?_)
 ·replace h:=h.1 hc13
  refine ec_seq ?_
  refine ec_region ?_
  refine o_w (v:=.bool false) (r_asg rfl) ?_
  refine eo_nil_sq ?_
  refine ec_ret ?_
  refine sq_ret ?_
  subst h
  exact (end1 rfl ⟨_,rfl,E10,rfl⟩)
 ·replace h:=h.2 hc13
  refine ec_skip ?_
  refine sq_n ?_
  refine ec_seq ?_
  refine ec_region ?_
  refine o_w (v:=.agg (cArena d0 A1 c2 A4 c5).toArray) (r_lda agg_api_Arena rfl (vs:=(cArena d0 A1 c2 A4 c5)) rfl ((S7.fr G12 sI).now.part (n:=3) rfl)) ?_
  refine o_call cf_law08_Few rfl (law08_Few_c d0 (kArena_mk (d:=d0) (H3.fr (G8.trans (Fr.ext F9)) sI) (H6.fr (G8.trans (Fr.ext F9)) sI)) (hL.fr E10) (fewA_ev d0)) rfl rfl ?_
  rintro _ w14 ⟨F14,rfl⟩
  have E15:=E10.trans F14
  refine o_w (v:=.bool (fewA d0)) (r_asg rfl) ?_
  refine eo_nil_sq ?_
  refine ec_seq ?_
  refine ec_region ?_
  refine o_w (v:=.int .u8 d1) (r_mov rfl) ?_
  refine o_w (v:=.int .i64 (IntKind.i64.wrap d1)) (r_conv un_uint8 un_int rfl) ?_
  refine o_w (v:=.int .i64 (Int.tmod (IntKind.i64.wrap d1) (8:Int))) (r_rem rfl rfl rfl) ?_
  refine o_w (v:=.int .i64 (Int.tmod (IntKind.i64.wrap d1) (8:Int))) (r_asg rfl) ?_
  refine eo_nil_sq ?_
  refine ec_seq ?_
  refine ec_region ?_
  refine o_w (v:=.int .u8 d2) (r_mov rfl) ?_
  refine o_w (v:=.int .i64 (IntKind.i64.wrap d2)) (r_conv un_uint8 un_int rfl) ?_
  refine o_w (v:=.int .i64 (Int.tmod (IntKind.i64.wrap d2) (8:Int))) (r_rem rfl rfl rfl) ?_
  refine o_w (v:=.int .i64 (Int.tmod (IntKind.i64.wrap d2) (8:Int))) (r_asg rfl) ?_
  refine eo_nil_sq ?_
  iterate 2 refine ec_seq ?_
  refine ec_region ?_
  refine o_w (v:=.bool (fewA d0)) (r_mov rfl) ?_
  refine o_w (v:=.bool (!(fewA d0))) (r_not rfl) ?_
  refine o_w (v:=.bool (!(fewA d0))) (r_mov rfl) ?_
  refine o_vg (v:=str d3) (want_cf (t:=54) rfl rfl) (fun hk=>(r_mov rfl)) rfl rfl ?_
  refine o_vg (v:=.int .i64 (d3.length:Int)) (want_cf (t:=54) rfl rfl) (fun hk=>(r_len_str un_string (gdT hk))) rfl rfl ?_
  refine o_vg (v:=.bool (decide (100<(d3.length:Int)))) (want_cf (t:=54) rfl rfl) (fun hk=>(r_int (gdT hk) rfl rfl)) rfl rfl ?_
  refine o_w (v:=.bool ((!(fewA d0))||(decide (100<(d3.length:Int))))) (r_pickOr rfl rfl (fun hf=>(gdT (notT hf)))) ?_
  refine o_w (v:=.bool ((!(fewA d0))||(decide (100<(d3.length:Int))))) (r_mov rfl) ?_
  refine o_vg (v:=str d6) (want_cf (t:=59) rfl rfl) (fun hk=>(r_mov rfl)) rfl rfl ?_
  refine o_vg (v:=.int .i64 (d6.length:Int)) (want_cf (t:=59) rfl rfl) (fun hk=>(r_len_str un_string (gdT hk))) rfl rfl ?_
  refine o_vg (v:=.bool (decide (100<(d6.length:Int)))) (want_cf (t:=59) rfl rfl) (fun hk=>(r_int (gdT hk) rfl rfl)) rfl rfl ?_
  refine o_w (v:=.bool (((!(fewA d0))||(decide (100<(d3.length:Int))))||(decide (100<(d6.length:Int))))) (r_pickOr rfl rfl (fun hf=>(gdT (notT hf)))) ?_
  refine o_w (v:=.bool (((!(fewA d0))||(decide (100<(d3.length:Int))))||(decide (100<(d6.length:Int))))) (r_mov rfl) ?_
  refine o_vg (v:=str d7) (want_cf (t:=64) rfl rfl) (fun hk=>(r_mov rfl)) rfl rfl ?_
  refine o_vg (v:=.int .i64 (d7.length:Int)) (want_cf (t:=64) rfl rfl) (fun hk=>(r_len_str un_string (gdT hk))) rfl rfl ?_
  refine o_vg (v:=.bool (decide (100<(d7.length:Int)))) (want_cf (t:=64) rfl rfl) (fun hk=>(r_int (gdT hk) rfl rfl)) rfl rfl ?_
  refine o_w (v:=.bool ((((!(fewA d0))||(decide (100<(d3.length:Int))))||(decide (100<(d6.length:Int))))||(decide (100<(d7.length:Int))))) (r_pickOr rfl rfl (fun hf=>(gdT (notT hf)))) ?_
  refine o_w (v:=.bool ((((!(fewA d0))||(decide (100<(d3.length:Int))))||(decide (100<(d6.length:Int))))||(decide (100<(d7.length:Int))))) (r_mov rfl) ?_
  refine o_vg (v:=.int .i64 (Int.tmod (IntKind.i64.wrap d1) (8:Int))) (want_cf (t:=69) rfl rfl) (fun hk=>(r_mov rfl)) rfl rfl ?_
  refine o_vg (v:=.int .i64 (Int.tmod (IntKind.i64.wrap d2) (8:Int))) (want_cf (t:=69) rfl rfl) (fun hk=>(r_mov rfl)) rfl rfl ?_
  refine o_vg (v:=.bool (decide ((Int.tmod (IntKind.i64.wrap d2) (8:Int))≤(Int.tmod (IntKind.i64.wrap d1) (8:Int))))) (want_cf (t:=69) rfl rfl) (fun hk=>(r_int (gdT hk) (gdT hk) rfl)) rfl rfl ?_
  refine o_w (v:=.bool (((((!(fewA d0))||(decide (100<(d3.length:Int))))||(decide (100<(d6.length:Int))))||(decide (100<(d7.length:Int))))||(decide ((Int.tmod (IntKind.i64.wrap d2) (8:Int))≤(Int.tmod (IntKind.i64.wrap d1) (8:Int)))))) (r_pickOr rfl rfl (fun hf=>(gdT (notT hf)))) ?_
  refine eo_nil_sq ?_
  refine ec_cond rfl (fun hc18=>?_) (fun hc18=>?_)
  ·replace h:=h.1 hc18
   refine ec_seq ?_
   refine ec_region ?_
   refine o_w (v:=.bool (worksV)) (r_mov rfl) ?_
   refine o_w (v:=.bool (worksV)) (r_asg rfl) ?_
   refine eo_nil_sq ?_
   refine ec_ret ?_
   refine sq_ret ?_
   subst h
   exact (end1 rfl ⟨_,rfl,E15,rfl⟩)
  ·replace h:=h.2 hc18
   refine ec_skip ?_
   refine sq_n ?_
   refine ec_seq ?_
   refine ec_region ?_
   refine o_w (v:=.agg (cArena d0 A1 c2 A4 c5).toArray) (r_lda agg_api_Arena rfl (vs:=(cArena d0 A1 c2 A4 c5)) rfl ((S7.fr (G12.trans (Fr.ext F14)) sI).now.part (n:=3) rfl)) ?_
   refine o_w (v:=.int .i64 (Int.tmod (IntKind.i64.wrap d1) (8:Int))) (r_mov rfl) ?_
   refine o_w (v:=str d3) (r_mov rfl) ?_
   refine o_w (v:=.int .i64 d4) (r_mov rfl) ?_
   obtain ⟨ha20,h⟩:=h
   obtain ⟨x19,hx19,h⟩:=h
   refine o_call cf_delta_Add rfl (delta_Add_c d0 (kArena_mk (d:=d0) (H3.fr ((G8.trans (Fr.ext F9)).trans (Fr.ext F14)) sI) (H6.fr ((G8.trans (Fr.ext F9)).trans (Fr.ext F14)) sI)) (Int.tmod (IntKind.i64.wrap d1) (8:Int)) d3 d4 (hL.fr E15) (eq_ev hx19 (add_ev d0 (Int.tmod (IntKind.i64.wrap d1) (8:Int)) d3 d4 ha20))) rfl rfl ?_
   rintro _ w19 ⟨F19,cs21,rfl,H22⟩
   have E23:=E15.trans F19
   obtain ⟨A26,c27,A29,c30,rfl,H28,H31⟩:=kEnt_open H22
   refine o_w (v:=.tuple #[.agg (cEnt x19.1 A26 c27 A29 c30).toArray,.int .i64 x19.2]) (r_mov rfl) ?_
   refine o_w (v:=.agg (cEnt x19.1 A26 c27 A29 c30).toArray) (r_ext rfl rfl) ?_
   refine o_w (v:=.int .i64 x19.2) (r_ext rfl rfl) ?_
   refine o_alloc zero_api_Entry rfl rfl rfl ?_
   intro b32 w32 e32 F32 B32
   have n32:w.heap.size≤b32:=by rw [e32]; exact E23.size
   have m33:w.heap.size≤b32:=by rw [e32]; exact (((G8.trans (Fr.ext F9)).trans (Fr.ext F14)).trans (Fr.ext F19)).size
   have m34:w7.heap.size≤b32:=by rw [e32]; exact ((G12.trans (Fr.ext F14)).trans (Fr.ext F19)).size
   have m35:w19.heap.size≤b32:=Nat.le_of_eq e32.symm
   have E36:=E23.trans F32
   have G37:=(((G8.trans (Fr.ext F9)).trans (Fr.ext F14)).trans (Fr.ext F19)).trans (Fr.ext F32)
   have G39:Fr L w19 w32:=Fr.ext F32
   refine o_store rfl B32 (vs:=(cEnt x19.1 A26 c27 A29 c30)) rfl sz_api_Entry rfl rfl rfl ?_
   intro w40 F40 B40
   have E41:=Ext.st E36 F40 (by simp; omega)
   have G42:Fr L w w40:=G37.stp F40 (upc (.inr m33) (fun m hm=>by cases hm))
   have G43:Fr L w7 w40:=(((G12.trans (Fr.ext F14)).trans (Fr.ext F19)).trans (Fr.ext F32)).stp F40 (upc (.inr m34) (fun m hm=>by cases hm))
   have G44:Fr L w19 w40:=G39.stp F40 (upc (.inr m35) (fun m hm=>by cases hm))
   have B40':Blk w40 b32 _ (cEnt x19.1 A26 c27 A29 c30):=B40
   refine o_w (v:=.int .i64 x19.2) (r_asg rfl) ?_
   refine eo_nil_sq ?_
   refine ec_seq ?_
   refine ec_region ?_
   refine o_w (v:=.agg (cArena d0 A1 c2 A4 c5).toArray) (r_lda agg_api_Arena rfl (vs:=(cArena d0 A1 c2 A4 c5)) rfl ((S7.fr G43 sI).now.part (n:=3) rfl)) ?_
   refine o_w (v:=.int .i64 (Int.tmod (IntKind.i64.wrap d2) (8:Int))) (r_mov rfl) ?_
   refine o_w (v:=str d3) (r_mov rfl) ?_
   refine o_w (v:=.int .i64 d5) (r_mov rfl) ?_
   obtain ⟨ha46,h⟩:=h
   obtain ⟨x45,hx45,h⟩:=h
   refine o_call cf_delta_Add rfl (delta_Add_c d0 (kArena_mk (d:=d0) (H3.up G42 sI (upc (.inr m33) (fun _ h=>.inl h))) (H6.up G42 sI (upc (.inr m33) (fun _ h=>.inl h)))) (Int.tmod (IntKind.i64.wrap d2) (8:Int)) d3 d5 ((hL.fr E41).cons B40'.lt) (eq_ev hx45 (add_ev d0 (Int.tmod (IntKind.i64.wrap d2) (8:Int)) d3 d5 ha46))) rfl rfl ?_
   rintro _ w45 ⟨F45,cs47,rfl,H48⟩
   have E49:=E41.trans F45
   obtain ⟨A54,c55,A57,c58,rfl,H56,H59⟩:=kEnt_open H48
   refine o_w (v:=.tuple #[.agg (cEnt x45.1 A54 c55 A57 c58).toArray,.int .i64 x45.2]) (r_mov rfl) ?_
   refine o_w (v:=.agg (cEnt x45.1 A54 c55 A57 c58).toArray) (r_ext rfl rfl) ?_
   refine o_w (v:=.int .i64 x45.2) (r_ext rfl rfl) ?_
   refine o_alloc zero_api_Entry rfl rfl rfl ?_
   intro b60 w60 e60 F60 B60
   have n60:w.heap.size≤b60:=by rw [e60]; exact E49.size
   have q61:b32<b60:=by rw [e60]; exact (B40'.ex F45).lt
   have m62:w.heap.size≤b60:=by rw [e60]; exact (G42.trans (Fr.ext F45)).size
   have m63:w7.heap.size≤b60:=by rw [e60]; exact (G43.trans (Fr.ext F45)).size
   have m64:w19.heap.size≤b60:=by rw [e60]; exact (G44.trans (Fr.ext F45)).size
   have m65:w45.heap.size≤b60:=Nat.le_of_eq e60.symm
   have E66:=E49.trans F60
   have G70:Fr (b32::L) w45 w60:=Fr.ext F60
   refine o_store rfl B60 (vs:=(cEnt x45.1 A54 c55 A57 c58)) rfl sz_api_Entry rfl rfl rfl ?_
   intro w72 F72 B72
   have E73:=Ext.st E66 F72 (by simp; omega)
   have G74:Fr L w w72:=((G42.trans (Fr.ext F45)).trans (Fr.ext F60)).stp F72 (upc (.inr m62) (fun m hm=>by cases hm))
   have G75:Fr L w7 w72:=((G43.trans (Fr.ext F45)).trans (Fr.ext F60)).stp F72 (upc (.inr m63) (fun m hm=>by cases hm))
   have G76:Fr L w19 w72:=((G44.trans (Fr.ext F45)).trans (Fr.ext F60)).stp F72 (upc (.inr m64) (fun m hm=>by cases hm))
   have G77:Fr (b32::L) w45 w72:=G70.stp F72 (upc (.inr m65) (fun m hm=>by cases hm))
   have B78:=((B40'.ex F45).ex F60).fr F72 (by simp; omega)
   have B72':Blk w72 b60 _ (cEnt x45.1 A54 c55 A57 c58):=B72
   refine o_w (v:=.int .i64 x45.2) (r_asg rfl) ?_
   refine eo_nil_sq ?_
   iterate 2 refine ec_seq ?_
   refine ec_region ?_
   refine o_w (v:=.int .i64 x19.2) (r_mov rfl) ?_
   refine o_w (v:=.bool (x19.2==0)) (r_int rfl rfl rfl) ?_
   refine o_w (v:=.bool (x19.2==0)) (r_mov rfl) ?_
   refine o_vg (v:=.int .i64 x45.2) (want_ct (t:=93) rfl rfl) (fun hk=>(r_mov rfl)) rfl rfl ?_
   refine o_vg (v:=.bool (x45.2==0)) (want_ct (t:=93) rfl rfl) (fun hk=>(r_int (gdT hk) rfl rfl)) rfl rfl ?_
   refine o_w (v:=.bool ((x19.2==0)&&(x45.2==0))) (r_pickAnd rfl (fun ht=>(gdT ht)) rfl) ?_
   refine eo_nil_sq ?_
   refine ec_cond rfl (fun hc79=>?_) (fun hc79=>?_)
   ·replace h:=h.1 hc79
    refine ec_seq ?_
    refine ec_region ?_
    refine o_w (v:=.agg (cArena d0 A1 c2 A4 c5).toArray) (r_lda agg_api_Arena rfl (vs:=(cArena d0 A1 c2 A4 c5)) rfl ((S7.fr G75 sI).now.part (n:=3) rfl)) ?_
    refine o_w (v:=.agg (cEnt x19.1 A26 c27 A29 c30).toArray) (r_lda agg_api_Entry rfl (vs:=(cEnt x19.1 A26 c27 A29 c30)) rfl (B78.part (n:=9) rfl)) ?_
    refine o_w (v:=.agg (cEnt x45.1 A54 c55 A57 c58).toArray) (r_lda agg_api_Entry rfl (vs:=(cEnt x45.1 A54 c55 A57 c58)) rfl (B72'.part (n:=9) rfl)) ?_
    refine o_bslice slc_s_api_Entry rfl (vs:=[.agg (cEnt x19.1 A26 c27 A29 c30).toArray,.agg (cEnt x45.1 A54 c55 A57 c58).toArray]) rfl rfl rfl (cs:=[str x19.1.key,.int .i64 x19.1.val.kind,.int .i64 x19.1.val.time,.int .i64 x19.1.val.node,.bool x19.1.val.dead,str x19.1.val.text,.slice A26 x19.1.val.plus.length c27,.slice A29 x19.1.val.minus.length c30,.int .u64 x19.1.val.flags,str x45.1.key,.int .i64 x45.1.val.kind,.int .i64 x45.1.val.time,.int .i64 x45.1.val.node,.bool x45.1.val.dead,str x45.1.val.text,.slice A54 x45.1.val.plus.length c55,.slice A57 x45.1.val.minus.length c58,.int .u64 x45.1.val.flags]) rfl rfl rfl rfl ?_
    intro b80 w80 e80 F80 B80
    have N80:=nin (((hL.fr E73).cons B78.lt).cons B72'.lt) e80
    have S80:=B80.stb N80
    have E81:=E73.trans F80
    have H89:Stb (b60::(b32::L)) w80 (fun w=>SlC kEnt w (some ⟨b80,0,none⟩) 2 ([x19.1,x45.1]:List Ent)):=bs_seal S80.now N80 rfl (rowd_cons (cs:=(cEnt x19.1 A26 c27 A29 c30)) (kEnt_mk (d:=x19.1) (H28.up (G76.trans (Fr.ext F80)) sI (upc (.inr m64) (upc (.inr m35) (fun _ h=>.inl h)))) (H31.up (G76.trans (Fr.ext F80)) sI (upc (.inr m64) (upc (.inr m35) (fun _ h=>.inl h))))) rfl (rowd1 (cs:=(cEnt x45.1 A54 c55 A57 c58)) (kEnt_mk (d:=x45.1) (H56.up (G77.trans (Fr.ext F80)) sI (upc (.inr m65) (upc (.inl mH) (fun m hm=>Or.inl (mT hm))))) (H59.up (G77.trans (Fr.ext F80)) sI (upc (.inr m65) (upc (.inl mH) (fun m hm=>Or.inl (mT hm)))))) rfl))
    obtain ⟨ha90,h⟩:=h
    obtain ⟨ha91,h⟩:=h
    obtain ⟨ha92,h⟩:=h
    obtain ⟨x88,hx88,h⟩:=h
    refine o_call cf_arena_Merge rfl (arena_Merge_c d0 (kArena_mk (d:=d0) (H3.up (G74.trans (Fr.ext F80)) sI (upc (.inr m62) (upc (.inr m33) (fun _ h=>.inl h)))) (H6.up (G74.trans (Fr.ext F80)) sI (upc (.inr m62) (upc (.inr m33) (fun _ h=>.inl h))))) ([x19.1,x45.1]:List Ent) H89 (((hL.fr E81).cons (B78.ex F80).lt).cons (B72'.ex F80).lt) (eq_ev hx88 (arMerge_ev d0 ([x19.1,x45.1]:List Ent) ha90 ha91 ha92))) rfl rfl ?_
    rintro _ w88 ⟨F88,cs93,rfl,H94⟩
    have E95:=E81.trans F88
    obtain ⟨A103,c104,A106,c107,rfl,H105,H108⟩:=kArena_open H94
    refine o_w (v:=.tuple #[.agg (cArena x88.1 A103 c104 A106 c107).toArray,.int .i64 x88.2.1,.int .i64 x88.2.2]) (r_mov rfl) ?_
    refine o_w (v:=.agg (cArena x88.1 A103 c104 A106 c107).toArray) (r_ext rfl rfl) ?_
    refine o_w (v:=.int .i64 x88.2.1) (r_ext rfl rfl) ?_
    refine o_w (v:=.int .i64 x88.2.2) (r_ext rfl rfl) ?_
    refine o_alloc zero_api_Arena rfl rfl rfl ?_
    intro b109 w109 e109 F109 B109
    have n109:w.heap.size≤b109:=by rw [e109]; exact E95.size
    have q110:b32<b109:=by rw [e109]; exact ((B78.ex F80).ex F88).lt
    have q111:b60<b109:=by rw [e109]; exact ((B72'.ex F80).ex F88).lt
    have m112:w.heap.size≤b109:=by rw [e109]; exact ((G74.trans (Fr.ext F80)).trans (Fr.ext F88)).size
    have m113:w7.heap.size≤b109:=by rw [e109]; exact ((G75.trans (Fr.ext F80)).trans (Fr.ext F88)).size
    have m117:w88.heap.size≤b109:=Nat.le_of_eq e109.symm
    have E118:=E95.trans F109
    have G124:Fr (b60::(b32::L)) w88 w109:=Fr.ext F109
    refine o_store rfl B109 (vs:=(cArena x88.1 A103 c104 A106 c107)) rfl sz_api_Arena rfl rfl rfl ?_
    intro w127 F127 B127
    have E128:=Ext.st E118 F127 (by simp; omega)
    have G129:Fr L w w127:=(((G74.trans (Fr.ext F80)).trans (Fr.ext F88)).trans (Fr.ext F109)).stp F127 (upc (.inr m112) (fun m hm=>by cases hm))
    have G130:Fr L w7 w127:=(((G75.trans (Fr.ext F80)).trans (Fr.ext F88)).trans (Fr.ext F109)).stp F127 (upc (.inr m113) (fun m hm=>by cases hm))
    have G134:Fr (b60::(b32::L)) w88 w127:=G124.stp F127 (upc (.inr m117) (fun m hm=>by cases hm))
    have B135:=(((B78.ex F80).ex F88).ex F109).fr F127 (by simp; omega)
    have B136:=(((B72'.ex F80).ex F88).ex F109).fr F127 (by simp; omega)
    have B127':Blk w127 b109 _ (cArena x88.1 A103 c104 A106 c107):=B127
    refine o_w (v:=.int .i64 x88.2.1) (r_asg rfl) ?_
    refine o_w (v:=.int .i64 x88.2.2) (r_asg rfl) ?_
    refine eo_nil_sq ?_
    refine ec_seq ?_
    refine ec_region ?_
    refine o_w (v:=.agg (cArena d0 A1 c2 A4 c5).toArray) (r_lda agg_api_Arena rfl (vs:=(cArena d0 A1 c2 A4 c5)) rfl ((S7.fr G130 sI).now.part (n:=3) rfl)) ?_
    refine o_w (v:=str d3) (r_mov rfl) ?_
    obtain ⟨ha138,h⟩:=h
    obtain ⟨x137,hx137,h⟩:=h
    refine o_call cf_delta_Sum rfl (delta_Sum_c d0 (kArena_mk (d:=d0) (H3.up G129 sI (upc (.inr m112) (upc (.inr m62) (upc (.inr m33) (fun _ h=>.inl h))))) (H6.up G129 sI (upc (.inr m112) (upc (.inr m62) (upc (.inr m33) (fun _ h=>.inl h)))))) d3 ((((hL.fr E128).cons B135.lt).cons B136.lt).cons B127'.lt) (eq_ev hx137 (sum_ev d0 d3 ha138))) rfl rfl ?_
    rintro _ w137 ⟨F137,rfl⟩
    have E139:=E128.trans F137
    refine o_w (v:=.tuple #[.int .i64 x137.1,.bool x137.2]) (r_mov rfl) ?_
    refine o_w (v:=.int .i64 x137.1) (r_ext rfl rfl) ?_
    refine o_w (v:=.bool x137.2) (r_ext rfl rfl) ?_
    refine o_w (v:=.int .i64 x137.1) (r_asg rfl) ?_
    refine o_w (v:=.bool x137.2) (r_asg rfl) ?_
    refine eo_nil_sq ?_
    refine ec_seq ?_
    refine ec_region ?_
    refine o_w (v:=.agg (cArena x88.1 A103 c104 A106 c107).toArray) (r_lda agg_api_Arena rfl (vs:=(cArena x88.1 A103 c104 A106 c107)) rfl ((B127'.ex F137).part (n:=3) rfl)) ?_
    refine o_w (v:=str d3) (r_mov rfl) ?_
    obtain ⟨ha150,h⟩:=h
    obtain ⟨x149,hx149,h⟩:=h
    refine o_call cf_delta_Sum rfl (delta_Sum_c x88.1 (kArena_mk (d:=x88.1) (H105.up (G134.trans (Fr.ext F137)) sI (upc (.inr m117) (upc (.inl mH) (upc (.inl (mT mH)) (fun m hm=>Or.inl (mT (mT hm))))))) (H108.up (G134.trans (Fr.ext F137)) sI (upc (.inr m117) (upc (.inl mH) (upc (.inl (mT mH)) (fun m hm=>Or.inl (mT (mT hm)))))))) d3 ((((hL.fr E139).cons (B135.ex F137).lt).cons (B136.ex F137).lt).cons (B127'.ex F137).lt) (eq_ev hx149 (sum_ev x88.1 d3 ha150))) rfl rfl ?_
    rintro _ w149 ⟨F149,rfl⟩
    have E151:=E139.trans F149
    refine o_w (v:=.tuple #[.int .i64 x149.1,.bool x149.2]) (r_mov rfl) ?_
    refine o_w (v:=.int .i64 x149.1) (r_ext rfl rfl) ?_
    refine o_w (v:=.bool x149.2) (r_ext rfl rfl) ?_
    refine o_w (v:=.int .i64 x149.1) (r_asg rfl) ?_
    refine o_w (v:=.bool x149.2) (r_asg rfl) ?_
    refine eo_nil_sq ?_
    refine ec_seq ?_
    refine ec_region ?_
    refine o_w (v:=.int .i64 x88.2.2) (r_mov rfl) ?_
    refine o_w (v:=.bool (decide (0<x88.2.2))) (r_int rfl rfl rfl) ?_
    refine o_w (v:=.bool (decide (0<x88.2.2))) (r_mov rfl) ?_
    refine o_vg (v:=.int .i64 x149.1) (want_cf (t:=120) rfl rfl) (fun hk=>(r_mov rfl)) rfl rfl ?_
    refine o_vg (v:=.int .i64 x137.1) (want_cf (t:=120) rfl rfl) (fun hk=>(r_mov rfl)) rfl rfl ?_
    refine o_vg (v:=.int .i64 d4) (want_cf (t:=120) rfl rfl) (fun hk=>(r_mov rfl)) rfl rfl ?_
    refine o_vg (v:=.int .i64 (IntKind.i64.wrap (x137.1 + d4))) (want_cf (t:=120) rfl rfl) (fun hk=>(r_int (gdT hk) (gdT hk) rfl)) rfl rfl ?_
    refine o_vg (v:=.int .i64 d5) (want_cf (t:=120) rfl rfl) (fun hk=>(r_mov rfl)) rfl rfl ?_
    refine o_vg (v:=.int .i64 (IntKind.i64.wrap ((IntKind.i64.wrap (x137.1 + d4)) + d5))) (want_cf (t:=120) rfl rfl) (fun hk=>(r_int (gdT hk) (gdT hk) rfl)) rfl rfl ?_
    refine o_vg (v:=.bool (x149.1 != (IntKind.i64.wrap ((IntKind.i64.wrap (x137.1 + d4)) + d5)))) (want_cf (t:=120) rfl rfl) (fun hk=>(r_int (gdT hk) (gdT hk) rfl)) rfl rfl ?_
    refine o_w (v:=.bool ((decide (0<x88.2.2))||(x149.1 != (IntKind.i64.wrap ((IntKind.i64.wrap (x137.1 + d4)) + d5))))) (r_pickOr rfl rfl (fun hf=>(gdT (notT hf)))) ?_
    refine eo_nil_sq ?_
    refine ec_cond rfl (fun hc161=>?_) (fun hc161=>?_)
    ·replace h:=h.1 hc161
     refine ec_seq ?_
     refine ec_region ?_
     refine o_w (v:=.bool false) (r_asg rfl) ?_
     refine eo_nil_sq ?_
     refine ec_ret ?_
     refine sq_ret ?_
     subst h
     exact (end1 rfl ⟨_,rfl,E151,rfl⟩)
    ·replace h:=h.2 hc161
     refine ec_skip ?_
     refine sq_n ?_
     refine ec_seq ?_
     refine ec_region ?_
     refine o_w (v:=.agg (cArena d0 A1 c2 A4 c5).toArray) (r_lda agg_api_Arena rfl (vs:=(cArena d0 A1 c2 A4 c5)) rfl ((S7.fr ((G130.trans (Fr.ext F137)).trans (Fr.ext F149)) sI).now.part (n:=3) rfl)) ?_
     refine o_w (v:=.int .i64 (Int.tmod (IntKind.i64.wrap d1) (8:Int))) (r_mov rfl) ?_
     refine o_w (v:=str d3) (r_mov rfl) ?_
     refine o_w (v:=str d6) (r_mov rfl) ?_
     obtain ⟨ha163,h⟩:=h
     obtain ⟨x162,hx162,h⟩:=h
     refine o_call cf_delta_Put rfl (delta_Put_c d0 (kArena_mk (d:=d0) (H3.up ((G129.trans (Fr.ext F137)).trans (Fr.ext F149)) sI (upc (.inr m112) (upc (.inr m62) (upc (.inr m33) (fun _ h=>.inl h))))) (H6.up ((G129.trans (Fr.ext F137)).trans (Fr.ext F149)) sI (upc (.inr m112) (upc (.inr m62) (upc (.inr m33) (fun _ h=>.inl h)))))) (Int.tmod (IntKind.i64.wrap d1) (8:Int)) d3 d6 ((((hL.fr E151).cons ((B135.ex F137).ex F149).lt).cons ((B136.ex F137).ex F149).lt).cons ((B127'.ex F137).ex F149).lt) (eq_ev hx162 (put_ev d0 (Int.tmod (IntKind.i64.wrap d1) (8:Int)) d3 d6 ha163))) rfl rfl ?_
     rintro _ w162 ⟨F162,cs164,rfl,H165⟩
     have E166:=E151.trans F162
     have G167:=((G129.trans (Fr.ext F137)).trans (Fr.ext F149)).trans (Fr.ext F162)
     have G168:=((G130.trans (Fr.ext F137)).trans (Fr.ext F149)).trans (Fr.ext F162)
     obtain ⟨A176,c177,A179,c180,rfl,H178,H181⟩:=kEnt_open H165
     refine o_w (v:=.tuple #[.agg (cEnt x162.1 A176 c177 A179 c180).toArray,.int .i64 x162.2]) (r_mov rfl) ?_
     refine o_w (v:=.agg (cEnt x162.1 A176 c177 A179 c180).toArray) (r_ext rfl rfl) ?_
     refine o_w (v:=.int .i64 x162.2) (r_ext rfl rfl) ?_
     refine o_alloc zero_api_Entry rfl rfl rfl ?_
     intro b182 w182 e182 F182 B182
     have n182:w.heap.size≤b182:=by rw [e182]; exact E166.size
     have q183:b32<b182:=by rw [e182]; exact (((B135.ex F137).ex F149).ex F162).lt
     have q184:b60<b182:=by rw [e182]; exact (((B136.ex F137).ex F149).ex F162).lt
     have q185:b109<b182:=by rw [e182]; exact (((B127'.ex F137).ex F149).ex F162).lt
     have m186:w.heap.size≤b182:=by rw [e182]; exact G167.size
     have m187:w7.heap.size≤b182:=by rw [e182]; exact G168.size
     have m192:w162.heap.size≤b182:=Nat.le_of_eq e182.symm
     have E193:=E166.trans F182
     have G200:Fr (b109::(b60::(b32::L))) w162 w182:=Fr.ext F182
     refine o_store rfl B182 (vs:=(cEnt x162.1 A176 c177 A179 c180)) rfl sz_api_Entry rfl rfl rfl ?_
     intro w204 F204 B204
     have E205:=Ext.st E193 F204 (by simp; omega)
     have G206:Fr L w w204:=(G167.trans (Fr.ext F182)).stp F204 (upc (.inr m186) (fun m hm=>by cases hm))
     have G207:Fr L w7 w204:=(G168.trans (Fr.ext F182)).stp F204 (upc (.inr m187) (fun m hm=>by cases hm))
     have G212:Fr (b109::(b60::(b32::L))) w162 w204:=G200.stp F204 (upc (.inr m192) (fun m hm=>by cases hm))
     have B213:=((((B135.ex F137).ex F149).ex F162).ex F182).fr F204 (by simp; omega)
     have B214:=((((B136.ex F137).ex F149).ex F162).ex F182).fr F204 (by simp; omega)
     have B215:=((((B127'.ex F137).ex F149).ex F162).ex F182).fr F204 (by simp; omega)
     have B204':Blk w204 b182 _ (cEnt x162.1 A176 c177 A179 c180):=B204
     refine o_w (v:=.int .i64 x162.2) (r_asg rfl) ?_
     refine eo_nil_sq ?_
     refine ec_seq ?_
     refine ec_region ?_
     refine o_w (v:=.agg (cArena d0 A1 c2 A4 c5).toArray) (r_lda agg_api_Arena rfl (vs:=(cArena d0 A1 c2 A4 c5)) rfl ((S7.fr G207 sI).now.part (n:=3) rfl)) ?_
     refine o_w (v:=.int .i64 (Int.tmod (IntKind.i64.wrap d2) (8:Int))) (r_mov rfl) ?_
     refine o_w (v:=str d3) (r_mov rfl) ?_
     refine o_w (v:=str d7) (r_mov rfl) ?_
     obtain ⟨ha217,h⟩:=h
     obtain ⟨x216,hx216,h⟩:=h
     refine o_call cf_delta_Put rfl (delta_Put_c d0 (kArena_mk (d:=d0) (H3.up G206 sI (upc (.inr m186) (upc (.inr m112) (upc (.inr m62) (upc (.inr m33) (fun _ h=>.inl h)))))) (H6.up G206 sI (upc (.inr m186) (upc (.inr m112) (upc (.inr m62) (upc (.inr m33) (fun _ h=>.inl h))))))) (Int.tmod (IntKind.i64.wrap d2) (8:Int)) d3 d7 (((((hL.fr E205).cons B213.lt).cons B214.lt).cons B215.lt).cons B204'.lt) (eq_ev hx216 (put_ev d0 (Int.tmod (IntKind.i64.wrap d2) (8:Int)) d3 d7 ha217))) rfl rfl ?_
     rintro _ w216 ⟨F216,cs218,rfl,H219⟩
     have E220:=E205.trans F216
     obtain ⟨A232,c233,A235,c236,rfl,H234,H237⟩:=kEnt_open H219
     refine o_w (v:=.tuple #[.agg (cEnt x216.1 A232 c233 A235 c236).toArray,.int .i64 x216.2]) (r_mov rfl) ?_
     refine o_w (v:=.agg (cEnt x216.1 A232 c233 A235 c236).toArray) (r_ext rfl rfl) ?_
     refine o_w (v:=.int .i64 x216.2) (r_ext rfl rfl) ?_
     refine o_alloc zero_api_Entry rfl rfl rfl ?_
     intro b238 w238 e238 F238 B238
     have n238:w.heap.size≤b238:=by rw [e238]; exact E220.size
     have q239:b32<b238:=by rw [e238]; exact (B213.ex F216).lt
     have q240:b60<b238:=by rw [e238]; exact (B214.ex F216).lt
     have q241:b109<b238:=by rw [e238]; exact (B215.ex F216).lt
     have q242:b182<b238:=by rw [e238]; exact (B204'.ex F216).lt
     have m243:w.heap.size≤b238:=by rw [e238]; exact (G206.trans (Fr.ext F216)).size
     have m244:w7.heap.size≤b238:=by rw [e238]; exact (G207.trans (Fr.ext F216)).size
     have m249:w162.heap.size≤b238:=by rw [e238]; exact (G212.trans (Fr.ext F216)).size
     have m250:w216.heap.size≤b238:=Nat.le_of_eq e238.symm
     have E251:=E220.trans F238
     have G259:Fr (b182::(b109::(b60::(b32::L)))) w216 w238:=Fr.ext F238
     refine o_store rfl B238 (vs:=(cEnt x216.1 A232 c233 A235 c236)) rfl sz_api_Entry rfl rfl rfl ?_
     intro w264 F264 B264
     have E265:=Ext.st E251 F264 (by simp; omega)
     have G266:Fr L w w264:=((G206.trans (Fr.ext F216)).trans (Fr.ext F238)).stp F264 (upc (.inr m243) (fun m hm=>by cases hm))
     have G267:Fr L w7 w264:=((G207.trans (Fr.ext F216)).trans (Fr.ext F238)).stp F264 (upc (.inr m244) (fun m hm=>by cases hm))
     have G272:Fr (b109::(b60::(b32::L))) w162 w264:=((G212.trans (Fr.ext F216)).trans (Fr.ext F238)).stp F264 (upc (.inr m249) (fun m hm=>by cases hm))
     have G273:Fr (b182::(b109::(b60::(b32::L)))) w216 w264:=G259.stp F264 (upc (.inr m250) (fun m hm=>by cases hm))
     have B274:=((B213.ex F216).ex F238).fr F264 (by simp; omega)
     have B275:=((B214.ex F216).ex F238).fr F264 (by simp; omega)
     have B276:=((B215.ex F216).ex F238).fr F264 (by simp; omega)
     have B277:=((B204'.ex F216).ex F238).fr F264 (by simp; omega)
     have B264':Blk w264 b238 _ (cEnt x216.1 A232 c233 A235 c236):=B264
     refine o_w (v:=.int .i64 x216.2) (r_asg rfl) ?_
     refine eo_nil_sq ?_
     iterate 2 refine ec_seq ?_
     refine ec_region ?_
     refine o_w (v:=.int .i64 x162.2) (r_mov rfl) ?_
     refine o_w (v:=.bool (x162.2 != (0:Int))) (r_int rfl rfl rfl) ?_
     refine o_w (v:=.bool (x162.2 != (0:Int))) (r_mov rfl) ?_
     refine o_vg (v:=.int .i64 x216.2) (want_cf (t:=147) rfl rfl) (fun hk=>(r_mov rfl)) rfl rfl ?_
     refine o_vg (v:=.bool (x216.2 != (0:Int))) (want_cf (t:=147) rfl rfl) (fun hk=>(r_int (gdT hk) rfl rfl)) rfl rfl ?_
     refine o_w (v:=.bool ((x162.2 != (0:Int))||(x216.2 != (0:Int)))) (r_pickOr rfl rfl (fun hf=>(gdT (notT hf)))) ?_
     refine eo_nil_sq ?_
     refine ec_cond rfl (fun hc278=>?_) (fun hc278=>?_)
     ·replace h:=h.1 hc278
      refine ec_seq ?_
      refine ec_region ?_
      refine o_w (v:=.bool (worksV)) (r_mov rfl) ?_
      refine o_w (v:=.bool (worksV)) (r_asg rfl) ?_
      refine eo_nil_sq ?_
      refine ec_ret ?_
      refine sq_ret ?_
      subst h
      exact (end1 rfl ⟨_,rfl,E265,rfl⟩)
     ·replace h:=h.2 hc278
      refine ec_skip ?_
      refine sq_n ?_
      refine ec_seq ?_
      refine ec_region ?_
      refine o_w (v:=.agg (cArena d0 A1 c2 A4 c5).toArray) (r_lda agg_api_Arena rfl (vs:=(cArena d0 A1 c2 A4 c5)) rfl ((S7.fr G267 sI).now.part (n:=3) rfl)) ?_
      refine o_w (v:=.agg (cEnt x216.1 A232 c233 A235 c236).toArray) (r_lda agg_api_Entry rfl (vs:=(cEnt x216.1 A232 c233 A235 c236)) rfl (B264'.part (n:=9) rfl)) ?_
      refine o_w (v:=.agg (cEnt x162.1 A176 c177 A179 c180).toArray) (r_lda agg_api_Entry rfl (vs:=(cEnt x162.1 A176 c177 A179 c180)) rfl (B277.part (n:=9) rfl)) ?_
      refine o_bslice slc_s_api_Entry rfl (vs:=[.agg (cEnt x216.1 A232 c233 A235 c236).toArray,.agg (cEnt x162.1 A176 c177 A179 c180).toArray]) rfl rfl rfl (cs:=[str x216.1.key,.int .i64 x216.1.val.kind,.int .i64 x216.1.val.time,.int .i64 x216.1.val.node,.bool x216.1.val.dead,str x216.1.val.text,.slice A232 x216.1.val.plus.length c233,.slice A235 x216.1.val.minus.length c236,.int .u64 x216.1.val.flags,str x162.1.key,.int .i64 x162.1.val.kind,.int .i64 x162.1.val.time,.int .i64 x162.1.val.node,.bool x162.1.val.dead,str x162.1.val.text,.slice A176 x162.1.val.plus.length c177,.slice A179 x162.1.val.minus.length c180,.int .u64 x162.1.val.flags]) rfl rfl rfl rfl ?_
      intro b279 w279 e279 F279 B279
      have N279:=nin ((((((hL.fr E265).cons B274.lt).cons B275.lt).cons B276.lt).cons B277.lt).cons B264'.lt) e279
      have S279:=B279.stb N279
      have E280:=E265.trans F279
      have H295:Stb (b238::(b182::(b109::(b60::(b32::L))))) w279 (fun w=>SlC kEnt w (some ⟨b279,0,none⟩) 2 ([x216.1,x162.1]:List Ent)):=bs_seal S279.now N279 rfl (rowd_cons (cs:=(cEnt x216.1 A232 c233 A235 c236)) (kEnt_mk (d:=x216.1) (H234.up (G273.trans (Fr.ext F279)) sI (upc (.inr m250) (upc (.inl mH) (upc (.inl (mT mH)) (upc (.inl (mT (mT mH))) (upc (.inl (mT (mT (mT mH)))) (fun m hm=>Or.inl (mT (mT (mT (mT hm))))))))))) (H237.up (G273.trans (Fr.ext F279)) sI (upc (.inr m250) (upc (.inl mH) (upc (.inl (mT mH)) (upc (.inl (mT (mT mH))) (upc (.inl (mT (mT (mT mH)))) (fun m hm=>Or.inl (mT (mT (mT (mT hm)))))))))))) rfl (rowd1 (cs:=(cEnt x162.1 A176 c177 A179 c180)) (kEnt_mk (d:=x162.1) (H178.up (G272.trans (Fr.ext F279)) sI (upc (.inr m249) (upc (.inr m192) (upc (.inl mH) (upc (.inl (mT mH)) (upc (.inl (mT (mT mH))) (fun m hm=>Or.inl (mT (mT (mT hm)))))))))) (H181.up (G272.trans (Fr.ext F279)) sI (upc (.inr m249) (upc (.inr m192) (upc (.inl mH) (upc (.inl (mT mH)) (upc (.inl (mT (mT mH))) (fun m hm=>Or.inl (mT (mT (mT hm))))))))))) rfl))
      obtain ⟨ha296,h⟩:=h
      obtain ⟨ha297,h⟩:=h
      obtain ⟨ha298,h⟩:=h
      obtain ⟨x294,hx294,h⟩:=h
      refine o_call cf_arena_Merge rfl (arena_Merge_c d0 (kArena_mk (d:=d0) (H3.up (G266.trans (Fr.ext F279)) sI (upc (.inr m243) (upc (.inr m186) (upc (.inr m112) (upc (.inr m62) (upc (.inr m33) (fun _ h=>.inl h))))))) (H6.up (G266.trans (Fr.ext F279)) sI (upc (.inr m243) (upc (.inr m186) (upc (.inr m112) (upc (.inr m62) (upc (.inr m33) (fun _ h=>.inl h)))))))) ([x216.1,x162.1]:List Ent) H295 ((((((hL.fr E280).cons (B274.ex F279).lt).cons (B275.ex F279).lt).cons (B276.ex F279).lt).cons (B277.ex F279).lt).cons (B264'.ex F279).lt) (eq_ev hx294 (arMerge_ev d0 ([x216.1,x162.1]:List Ent) ha296 ha297 ha298))) rfl rfl ?_
      rintro _ w294 ⟨F294,cs299,rfl,H300⟩
      have E301:=E280.trans F294
      obtain ⟨A316,c317,A319,c320,rfl,H318,H321⟩:=kArena_open H300
      refine o_w (v:=.tuple #[.agg (cArena x294.1 A316 c317 A319 c320).toArray,.int .i64 x294.2.1,.int .i64 x294.2.2]) (r_mov rfl) ?_
      refine o_w (v:=.agg (cArena x294.1 A316 c317 A319 c320).toArray) (r_ext rfl rfl) ?_
      refine o_w (v:=.int .i64 x294.2.1) (r_ext rfl rfl) ?_
      refine o_w (v:=.int .i64 x294.2.2) (r_ext rfl rfl) ?_
      refine o_alloc zero_api_Arena rfl rfl rfl ?_
      intro b322 w322 e322 F322 B322
      have n322:w.heap.size≤b322:=by rw [e322]; exact E301.size
      have q323:b32<b322:=by rw [e322]; exact ((B274.ex F279).ex F294).lt
      have q324:b60<b322:=by rw [e322]; exact ((B275.ex F279).ex F294).lt
      have q325:b109<b322:=by rw [e322]; exact ((B276.ex F279).ex F294).lt
      have q326:b182<b322:=by rw [e322]; exact ((B277.ex F279).ex F294).lt
      have q327:b238<b322:=by rw [e322]; exact ((B264'.ex F279).ex F294).lt
      have m337:w294.heap.size≤b322:=Nat.le_of_eq e322.symm
      have E338:=E301.trans F322
      have G348:Fr (b238::(b182::(b109::(b60::(b32::L))))) w294 w322:=Fr.ext F322
      refine o_store rfl B322 (vs:=(cArena x294.1 A316 c317 A319 c320)) rfl sz_api_Arena rfl rfl rfl ?_
      intro w354 F354 B354
      have E355:=Ext.st E338 F354 (by simp; omega)
      have G365:Fr (b238::(b182::(b109::(b60::(b32::L))))) w294 w354:=G348.stp F354 (upc (.inr m337) (fun m hm=>by cases hm))
      have B366:=(((B274.ex F279).ex F294).ex F322).fr F354 (by simp; omega)
      have B367:=(((B275.ex F279).ex F294).ex F322).fr F354 (by simp; omega)
      have B368:=(((B276.ex F279).ex F294).ex F322).fr F354 (by simp; omega)
      have B369:=(((B277.ex F279).ex F294).ex F322).fr F354 (by simp; omega)
      have B370:=(((B264'.ex F279).ex F294).ex F322).fr F354 (by simp; omega)
      have B354':Blk w354 b322 _ (cArena x294.1 A316 c317 A319 c320):=B354
      refine o_w (v:=.int .i64 x294.2.1) (r_asg rfl) ?_
      refine o_w (v:=.int .i64 x294.2.2) (r_asg rfl) ?_
      refine eo_nil_sq ?_
      refine ec_seq ?_
      refine ec_region ?_
      refine o_w (v:=.agg (cArena x294.1 A316 c317 A319 c320).toArray) (r_lda agg_api_Arena rfl (vs:=(cArena x294.1 A316 c317 A319 c320)) rfl (B354'.part (n:=3) rfl)) ?_
      refine o_w (v:=str d3) (r_mov rfl) ?_
      obtain ⟨ha372,h⟩:=h
      obtain ⟨x371,hx371,h⟩:=h
      refine o_call cf_delta_Text rfl (delta_Text_c x294.1 (kArena_mk (d:=x294.1) (H318.up G365 sI (upc (.inr m337) (upc (.inl mH) (upc (.inl (mT mH)) (upc (.inl (mT (mT mH))) (upc (.inl (mT (mT (mT mH)))) (upc (.inl (mT (mT (mT (mT mH))))) (fun m hm=>Or.inl (mT (mT (mT (mT (mT hm))))))))))))) (H321.up G365 sI (upc (.inr m337) (upc (.inl mH) (upc (.inl (mT mH)) (upc (.inl (mT (mT mH))) (upc (.inl (mT (mT (mT mH)))) (upc (.inl (mT (mT (mT (mT mH))))) (fun m hm=>Or.inl (mT (mT (mT (mT (mT hm)))))))))))))) d3 (((((((hL.fr E355).cons B366.lt).cons B367.lt).cons B368.lt).cons B369.lt).cons B370.lt).cons B354'.lt) (eq_ev hx371 (text_ev x294.1 d3 ha372))) rfl rfl ?_
      rintro _ w371 ⟨F371,rfl⟩
      have E373:=E355.trans F371
      refine o_w (v:=.tuple #[str x371.1,.bool x371.2]) (r_mov rfl) ?_
      refine o_w (v:=str x371.1) (r_ext rfl rfl) ?_
      refine o_w (v:=.bool x371.2) (r_ext rfl rfl) ?_
      refine o_w (v:=str x371.1) (r_asg rfl) ?_
      refine o_w (v:=.bool x371.2) (r_asg rfl) ?_
      refine eo_nil_sq ?_
      refine ec_seq ?_
      refine ec_region ?_
      iterate 2 refine o_w (v:=.bool (worksV)) (r_mov rfl) ?_
      refine o_v (v:=.int .i64 x294.2.2) (r_mov rfl) (want_t (t:=168) rfl rfl (of_not hc13)) rfl rfl ?_
      refine o_v (v:=.bool (x294.2.2==0)) (r_int rfl rfl rfl) (want_t (t:=168) rfl rfl (of_not hc13)) rfl rfl ?_
      refine o_w (v:=.bool (x294.2.2==0)) (r_pickT rfl (of_not hc13) rfl) ?_
      refine o_w (v:=.bool (x294.2.2==0)) (r_mov rfl) ?_
      refine o_vg (v:=str x371.1) (want_ct (t:=172) rfl rfl) (fun hk=>(r_mov rfl)) rfl rfl ?_
      refine o_vg (v:=str d7) (want_ct (t:=172) rfl rfl) (fun hk=>(r_mov rfl)) rfl rfl ?_
      refine o_vg (v:=.bool (x371.1==d7)) (want_ct (t:=172) rfl rfl) (fun hk=>(r_str (gdT hk) (gdT hk) rfl)) rfl rfl ?_
      refine o_w (v:=.bool ((x294.2.2==0)&&(x371.1==d7))) (r_pickAnd rfl (fun ht=>(gdT ht)) rfl) ?_
      refine o_w (v:=.bool ((x294.2.2==0)&&(x371.1==d7))) (r_asg rfl) ?_
      refine eo_nil_sq ?_
      refine ec_ret ?_
      subst h
      exact (end1 rfl ⟨_,rfl,E373,rfl⟩)
   ·replace h:=h.2 hc79
    refine ec_skip ?_
    refine sq_n ?_
    refine ec_seq ?_
    refine ec_region ?_
    refine o_w (v:=.agg (cArena d0 A1 c2 A4 c5).toArray) (r_lda agg_api_Arena rfl (vs:=(cArena d0 A1 c2 A4 c5)) rfl ((S7.fr G75 sI).now.part (n:=3) rfl)) ?_
    refine o_w (v:=.int .i64 (Int.tmod (IntKind.i64.wrap d1) (8:Int))) (r_mov rfl) ?_
    refine o_w (v:=str d3) (r_mov rfl) ?_
    refine o_w (v:=str d6) (r_mov rfl) ?_
    obtain ⟨ha391,h⟩:=h
    obtain ⟨x390,hx390,h⟩:=h
    refine o_call cf_delta_Put rfl (delta_Put_c d0 (kArena_mk (d:=d0) (H3.up G74 sI (upc (.inr m62) (upc (.inr m33) (fun _ h=>.inl h)))) (H6.up G74 sI (upc (.inr m62) (upc (.inr m33) (fun _ h=>.inl h))))) (Int.tmod (IntKind.i64.wrap d1) (8:Int)) d3 d6 (((hL.fr E73).cons B78.lt).cons B72'.lt) (eq_ev hx390 (put_ev d0 (Int.tmod (IntKind.i64.wrap d1) (8:Int)) d3 d6 ha391))) rfl rfl ?_
    rintro _ w390 ⟨F390,cs392,rfl,H393⟩
    have E394:=E73.trans F390
    obtain ⟨A401,c402,A404,c405,rfl,H403,H406⟩:=kEnt_open H393
    refine o_w (v:=.tuple #[.agg (cEnt x390.1 A401 c402 A404 c405).toArray,.int .i64 x390.2]) (r_mov rfl) ?_
    refine o_w (v:=.agg (cEnt x390.1 A401 c402 A404 c405).toArray) (r_ext rfl rfl) ?_
    refine o_w (v:=.int .i64 x390.2) (r_ext rfl rfl) ?_
    refine o_alloc zero_api_Entry rfl rfl rfl ?_
    intro b407 w407 e407 F407 B407
    have n407:w.heap.size≤b407:=by rw [e407]; exact E394.size
    have q408:b32<b407:=by rw [e407]; exact (B78.ex F390).lt
    have q409:b60<b407:=by rw [e407]; exact (B72'.ex F390).lt
    have m410:w.heap.size≤b407:=by rw [e407]; exact (G74.trans (Fr.ext F390)).size
    have m411:w7.heap.size≤b407:=by rw [e407]; exact (G75.trans (Fr.ext F390)).size
    have m414:w390.heap.size≤b407:=Nat.le_of_eq e407.symm
    have E415:=E394.trans F407
    have G420:Fr (b60::(b32::L)) w390 w407:=Fr.ext F407
    refine o_store rfl B407 (vs:=(cEnt x390.1 A401 c402 A404 c405)) rfl sz_api_Entry rfl rfl rfl ?_
    intro w423 F423 B423
    have E424:=Ext.st E415 F423 (by simp; omega)
    have G425:Fr L w w423:=((G74.trans (Fr.ext F390)).trans (Fr.ext F407)).stp F423 (upc (.inr m410) (fun m hm=>by cases hm))
    have G426:Fr L w7 w423:=((G75.trans (Fr.ext F390)).trans (Fr.ext F407)).stp F423 (upc (.inr m411) (fun m hm=>by cases hm))
    have G429:Fr (b60::(b32::L)) w390 w423:=G420.stp F423 (upc (.inr m414) (fun m hm=>by cases hm))
    have B430:=((B78.ex F390).ex F407).fr F423 (by simp; omega)
    have B431:=((B72'.ex F390).ex F407).fr F423 (by simp; omega)
    have B423':Blk w423 b407 _ (cEnt x390.1 A401 c402 A404 c405):=B423
    refine o_w (v:=.int .i64 x390.2) (r_asg rfl) ?_
    refine eo_nil_sq ?_
    refine ec_seq ?_
    refine ec_region ?_
    refine o_w (v:=.agg (cArena d0 A1 c2 A4 c5).toArray) (r_lda agg_api_Arena rfl (vs:=(cArena d0 A1 c2 A4 c5)) rfl ((S7.fr G426 sI).now.part (n:=3) rfl)) ?_
    refine o_w (v:=.int .i64 (Int.tmod (IntKind.i64.wrap d2) (8:Int))) (r_mov rfl) ?_
    refine o_w (v:=str d3) (r_mov rfl) ?_
    refine o_w (v:=str d7) (r_mov rfl) ?_
    obtain ⟨ha433,h⟩:=h
    obtain ⟨x432,hx432,h⟩:=h
    refine o_call cf_delta_Put rfl (delta_Put_c d0 (kArena_mk (d:=d0) (H3.up G425 sI (upc (.inr m410) (upc (.inr m62) (upc (.inr m33) (fun _ h=>.inl h))))) (H6.up G425 sI (upc (.inr m410) (upc (.inr m62) (upc (.inr m33) (fun _ h=>.inl h)))))) (Int.tmod (IntKind.i64.wrap d2) (8:Int)) d3 d7 ((((hL.fr E424).cons B430.lt).cons B431.lt).cons B423'.lt) (eq_ev hx432 (put_ev d0 (Int.tmod (IntKind.i64.wrap d2) (8:Int)) d3 d7 ha433))) rfl rfl ?_
    rintro _ w432 ⟨F432,cs434,rfl,H435⟩
    have E436:=E424.trans F432
    obtain ⟨A445,c446,A448,c449,rfl,H447,H450⟩:=kEnt_open H435
    refine o_w (v:=.tuple #[.agg (cEnt x432.1 A445 c446 A448 c449).toArray,.int .i64 x432.2]) (r_mov rfl) ?_
    refine o_w (v:=.agg (cEnt x432.1 A445 c446 A448 c449).toArray) (r_ext rfl rfl) ?_
    refine o_w (v:=.int .i64 x432.2) (r_ext rfl rfl) ?_
    refine o_alloc zero_api_Entry rfl rfl rfl ?_
    intro b451 w451 e451 F451 B451
    have n451:w.heap.size≤b451:=by rw [e451]; exact E436.size
    have q452:b32<b451:=by rw [e451]; exact (B430.ex F432).lt
    have q453:b60<b451:=by rw [e451]; exact (B431.ex F432).lt
    have q454:b407<b451:=by rw [e451]; exact (B423'.ex F432).lt
    have m455:w.heap.size≤b451:=by rw [e451]; exact (G425.trans (Fr.ext F432)).size
    have m456:w7.heap.size≤b451:=by rw [e451]; exact (G426.trans (Fr.ext F432)).size
    have m459:w390.heap.size≤b451:=by rw [e451]; exact (G429.trans (Fr.ext F432)).size
    have m460:w432.heap.size≤b451:=Nat.le_of_eq e451.symm
    have E461:=E436.trans F451
    have G467:Fr (b407::(b60::(b32::L))) w432 w451:=Fr.ext F451
    refine o_store rfl B451 (vs:=(cEnt x432.1 A445 c446 A448 c449)) rfl sz_api_Entry rfl rfl rfl ?_
    intro w471 F471 B471
    have E472:=Ext.st E461 F471 (by simp; omega)
    have G473:Fr L w w471:=((G425.trans (Fr.ext F432)).trans (Fr.ext F451)).stp F471 (upc (.inr m455) (fun m hm=>by cases hm))
    have G474:Fr L w7 w471:=((G426.trans (Fr.ext F432)).trans (Fr.ext F451)).stp F471 (upc (.inr m456) (fun m hm=>by cases hm))
    have G477:Fr (b60::(b32::L)) w390 w471:=((G429.trans (Fr.ext F432)).trans (Fr.ext F451)).stp F471 (upc (.inr m459) (fun m hm=>by cases hm))
    have G478:Fr (b407::(b60::(b32::L))) w432 w471:=G467.stp F471 (upc (.inr m460) (fun m hm=>by cases hm))
    have B479:=((B430.ex F432).ex F451).fr F471 (by simp; omega)
    have B480:=((B431.ex F432).ex F451).fr F471 (by simp; omega)
    have B481:=((B423'.ex F432).ex F451).fr F471 (by simp; omega)
    have B471':Blk w471 b451 _ (cEnt x432.1 A445 c446 A448 c449):=B471
    refine o_w (v:=.int .i64 x432.2) (r_asg rfl) ?_
    refine eo_nil_sq ?_
    iterate 2 refine ec_seq ?_
    refine ec_region ?_
    refine o_w (v:=.int .i64 x390.2) (r_mov rfl) ?_
    refine o_w (v:=.bool (x390.2 != (0:Int))) (r_int rfl rfl rfl) ?_
    refine o_w (v:=.bool (x390.2 != (0:Int))) (r_mov rfl) ?_
    refine o_vg (v:=.int .i64 x432.2) (want_cf (t:=147) rfl rfl) (fun hk=>(r_mov rfl)) rfl rfl ?_
    refine o_vg (v:=.bool (x432.2 != (0:Int))) (want_cf (t:=147) rfl rfl) (fun hk=>(r_int (gdT hk) rfl rfl)) rfl rfl ?_
    refine o_w (v:=.bool ((x390.2 != (0:Int))||(x432.2 != (0:Int)))) (r_pickOr rfl rfl (fun hf=>(gdT (notT hf)))) ?_
    refine eo_nil_sq ?_
    refine ec_cond rfl (fun hc482=>?_) (fun hc482=>?_)
    ·replace h:=h.1 hc482
     refine ec_seq ?_
     refine ec_region ?_
     refine o_w (v:=.bool (worksV)) (r_mov rfl) ?_
     refine o_w (v:=.bool (worksV)) (r_asg rfl) ?_
     refine eo_nil_sq ?_
     refine ec_ret ?_
     refine sq_ret ?_
     subst h
     exact (end1 rfl ⟨_,rfl,E472,rfl⟩)
    ·replace h:=h.2 hc482
     refine ec_skip ?_
     refine sq_n ?_
     refine ec_seq ?_
     refine ec_region ?_
     refine o_w (v:=.agg (cArena d0 A1 c2 A4 c5).toArray) (r_lda agg_api_Arena rfl (vs:=(cArena d0 A1 c2 A4 c5)) rfl ((S7.fr G474 sI).now.part (n:=3) rfl)) ?_
     refine o_w (v:=.agg (cEnt x432.1 A445 c446 A448 c449).toArray) (r_lda agg_api_Entry rfl (vs:=(cEnt x432.1 A445 c446 A448 c449)) rfl (B471'.part (n:=9) rfl)) ?_
     refine o_w (v:=.agg (cEnt x390.1 A401 c402 A404 c405).toArray) (r_lda agg_api_Entry rfl (vs:=(cEnt x390.1 A401 c402 A404 c405)) rfl (B481.part (n:=9) rfl)) ?_
     refine o_bslice slc_s_api_Entry rfl (vs:=[.agg (cEnt x432.1 A445 c446 A448 c449).toArray,.agg (cEnt x390.1 A401 c402 A404 c405).toArray]) rfl rfl rfl (cs:=[str x432.1.key,.int .i64 x432.1.val.kind,.int .i64 x432.1.val.time,.int .i64 x432.1.val.node,.bool x432.1.val.dead,str x432.1.val.text,.slice A445 x432.1.val.plus.length c446,.slice A448 x432.1.val.minus.length c449,.int .u64 x432.1.val.flags,str x390.1.key,.int .i64 x390.1.val.kind,.int .i64 x390.1.val.time,.int .i64 x390.1.val.node,.bool x390.1.val.dead,str x390.1.val.text,.slice A401 x390.1.val.plus.length c402,.slice A404 x390.1.val.minus.length c405,.int .u64 x390.1.val.flags]) rfl rfl rfl rfl ?_
     intro b483 w483 e483 F483 B483
     have N483:=nin (((((hL.fr E472).cons B479.lt).cons B480.lt).cons B481.lt).cons B471'.lt) e483
     have S483:=B483.stb N483
     have E484:=E472.trans F483
     have H496:Stb (b451::(b407::(b60::(b32::L)))) w483 (fun w=>SlC kEnt w (some ⟨b483,0,none⟩) 2 ([x432.1,x390.1]:List Ent)):=bs_seal S483.now N483 rfl (rowd_cons (cs:=(cEnt x432.1 A445 c446 A448 c449)) (kEnt_mk (d:=x432.1) (H447.up (G478.trans (Fr.ext F483)) sI (upc (.inr m460) (upc (.inl mH) (upc (.inl (mT mH)) (upc (.inl (mT (mT mH))) (fun m hm=>Or.inl (mT (mT (mT hm))))))))) (H450.up (G478.trans (Fr.ext F483)) sI (upc (.inr m460) (upc (.inl mH) (upc (.inl (mT mH)) (upc (.inl (mT (mT mH))) (fun m hm=>Or.inl (mT (mT (mT hm)))))))))) rfl (rowd1 (cs:=(cEnt x390.1 A401 c402 A404 c405)) (kEnt_mk (d:=x390.1) (H403.up (G477.trans (Fr.ext F483)) sI (upc (.inr m459) (upc (.inr m414) (upc (.inl mH) (upc (.inl (mT mH)) (fun m hm=>Or.inl (mT (mT hm)))))))) (H406.up (G477.trans (Fr.ext F483)) sI (upc (.inr m459) (upc (.inr m414) (upc (.inl mH) (upc (.inl (mT mH)) (fun m hm=>Or.inl (mT (mT hm))))))))) rfl))
     obtain ⟨ha497,h⟩:=h
     obtain ⟨ha498,h⟩:=h
     obtain ⟨ha499,h⟩:=h
     obtain ⟨x495,hx495,h⟩:=h
     refine o_call cf_arena_Merge rfl (arena_Merge_c d0 (kArena_mk (d:=d0) (H3.up (G473.trans (Fr.ext F483)) sI (upc (.inr m455) (upc (.inr m410) (upc (.inr m62) (upc (.inr m33) (fun _ h=>.inl h)))))) (H6.up (G473.trans (Fr.ext F483)) sI (upc (.inr m455) (upc (.inr m410) (upc (.inr m62) (upc (.inr m33) (fun _ h=>.inl h))))))) ([x432.1,x390.1]:List Ent) H496 (((((hL.fr E484).cons (B479.ex F483).lt).cons (B480.ex F483).lt).cons (B481.ex F483).lt).cons (B471'.ex F483).lt) (eq_ev hx495 (arMerge_ev d0 ([x432.1,x390.1]:List Ent) ha497 ha498 ha499))) rfl rfl ?_
     rintro _ w495 ⟨F495,cs500,rfl,H501⟩
     have E502:=E484.trans F495
     obtain ⟨A514,c515,A517,c518,rfl,H516,H519⟩:=kArena_open H501
     refine o_w (v:=.tuple #[.agg (cArena x495.1 A514 c515 A517 c518).toArray,.int .i64 x495.2.1,.int .i64 x495.2.2]) (r_mov rfl) ?_
     refine o_w (v:=.agg (cArena x495.1 A514 c515 A517 c518).toArray) (r_ext rfl rfl) ?_
     refine o_w (v:=.int .i64 x495.2.1) (r_ext rfl rfl) ?_
     refine o_w (v:=.int .i64 x495.2.2) (r_ext rfl rfl) ?_
     refine o_alloc zero_api_Arena rfl rfl rfl ?_
     intro b520 w520 e520 F520 B520
     have n520:w.heap.size≤b520:=by rw [e520]; exact E502.size
     have q521:b32<b520:=by rw [e520]; exact ((B479.ex F483).ex F495).lt
     have q522:b60<b520:=by rw [e520]; exact ((B480.ex F483).ex F495).lt
     have q523:b407<b520:=by rw [e520]; exact ((B481.ex F483).ex F495).lt
     have q524:b451<b520:=by rw [e520]; exact ((B471'.ex F483).ex F495).lt
     have m532:w495.heap.size≤b520:=Nat.le_of_eq e520.symm
     have E533:=E502.trans F520
     have G541:Fr (b451::(b407::(b60::(b32::L)))) w495 w520:=Fr.ext F520
     refine o_store rfl B520 (vs:=(cArena x495.1 A514 c515 A517 c518)) rfl sz_api_Arena rfl rfl rfl ?_
     intro w546 F546 B546
     have E547:=Ext.st E533 F546 (by simp; omega)
     have G555:Fr (b451::(b407::(b60::(b32::L)))) w495 w546:=G541.stp F546 (upc (.inr m532) (fun m hm=>by cases hm))
     have B556:=(((B479.ex F483).ex F495).ex F520).fr F546 (by simp; omega)
     have B557:=(((B480.ex F483).ex F495).ex F520).fr F546 (by simp; omega)
     have B558:=(((B481.ex F483).ex F495).ex F520).fr F546 (by simp; omega)
     have B559:=(((B471'.ex F483).ex F495).ex F520).fr F546 (by simp; omega)
     have B546':Blk w546 b520 _ (cArena x495.1 A514 c515 A517 c518):=B546
     refine o_w (v:=.int .i64 x495.2.1) (r_asg rfl) ?_
     refine o_w (v:=.int .i64 x495.2.2) (r_asg rfl) ?_
     refine eo_nil_sq ?_
     refine ec_seq ?_
     refine ec_region ?_
     refine o_w (v:=.agg (cArena x495.1 A514 c515 A517 c518).toArray) (r_lda agg_api_Arena rfl (vs:=(cArena x495.1 A514 c515 A517 c518)) rfl (B546'.part (n:=3) rfl)) ?_
     refine o_w (v:=str d3) (r_mov rfl) ?_
     obtain ⟨ha561,h⟩:=h
     obtain ⟨x560,hx560,h⟩:=h
     refine o_call cf_delta_Text rfl (delta_Text_c x495.1 (kArena_mk (d:=x495.1) (H516.up G555 sI (upc (.inr m532) (upc (.inl mH) (upc (.inl (mT mH)) (upc (.inl (mT (mT mH))) (upc (.inl (mT (mT (mT mH)))) (fun m hm=>Or.inl (mT (mT (mT (mT hm))))))))))) (H519.up G555 sI (upc (.inr m532) (upc (.inl mH) (upc (.inl (mT mH)) (upc (.inl (mT (mT mH))) (upc (.inl (mT (mT (mT mH)))) (fun m hm=>Or.inl (mT (mT (mT (mT hm)))))))))))) d3 ((((((hL.fr E547).cons B556.lt).cons B557.lt).cons B558.lt).cons B559.lt).cons B546'.lt) (eq_ev hx560 (text_ev x495.1 d3 ha561))) rfl rfl ?_
     rintro _ w560 ⟨F560,rfl⟩
     have E562:=E547.trans F560
     refine o_w (v:=.tuple #[str x560.1,.bool x560.2]) (r_mov rfl) ?_
     refine o_w (v:=str x560.1) (r_ext rfl rfl) ?_
     refine o_w (v:=.bool x560.2) (r_ext rfl rfl) ?_
     refine o_w (v:=str x560.1) (r_asg rfl) ?_
     refine o_w (v:=.bool x560.2) (r_asg rfl) ?_
     refine eo_nil_sq ?_
     refine ec_seq ?_
     refine ec_region ?_
     iterate 2 refine o_w (v:=.bool (worksV)) (r_mov rfl) ?_
     refine o_v (v:=.int .i64 x495.2.2) (r_mov rfl) (want_t (t:=168) rfl rfl (of_not hc13)) rfl rfl ?_
     refine o_v (v:=.bool (x495.2.2==0)) (r_int rfl rfl rfl) (want_t (t:=168) rfl rfl (of_not hc13)) rfl rfl ?_
     refine o_w (v:=.bool (x495.2.2==0)) (r_pickT rfl (of_not hc13) rfl) ?_
     refine o_w (v:=.bool (x495.2.2==0)) (r_mov rfl) ?_
     refine o_vg (v:=str x560.1) (want_ct (t:=172) rfl rfl) (fun hk=>(r_mov rfl)) rfl rfl ?_
     refine o_vg (v:=str d7) (want_ct (t:=172) rfl rfl) (fun hk=>(r_mov rfl)) rfl rfl ?_
     refine o_vg (v:=.bool (x560.1==d7)) (want_ct (t:=172) rfl rfl) (fun hk=>(r_str (gdT hk) (gdT hk) rfl)) rfl rfl ?_
     refine o_w (v:=.bool ((x495.2.2==0)&&(x560.1==d7))) (r_pickAnd rfl (fun ht=>(gdT ht)) rfl) ?_
     refine o_w (v:=.bool ((x495.2.2==0)&&(x560.1==d7))) (r_asg rfl) ?_
     refine eo_nil_sq ?_
     refine ec_ret ?_
     subst h
     exact (end1 rfl ⟨_,rfl,E562,rfl⟩)
end Go.Proofs.Ythhjcijhanacnaa
