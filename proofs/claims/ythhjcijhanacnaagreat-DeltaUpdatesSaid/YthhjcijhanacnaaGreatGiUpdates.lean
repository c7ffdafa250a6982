/- The law DeltaUpdates: what it comes to. -/
import Derived.Test.YthhjcijhanacnaaGreatLn
import Derived.Test.YthhjcijhanacnaaGreatLh
namespace Go.Proofs.YthhjcijhanacnaaGreat
open Go Go.RowKit
set_option linter.unusedVariables false
set_option linter.unusedSimpArgs false
def law09_DeltaUpdates_raw (d0:Arena) (d1:Int) (d2:Str) (d3:Str) (d4:Int) (d5:Int) (y:Bool):Prop :=
 ((!(worksV))=true→(y=false))∧((!(worksV))=false→(((((!(fewA d0))||(decide (100<(d2.length:Int))))||(decide (100<(d3.length:Int))))=true→(y=(worksV)))∧((((!(fewA d0))||(decide (100<(d2.length:Int))))||(decide (100<(d3.length:Int))))=false→((sma d0)∧(∃ x19,x19=(putU d0 d1 d2 d3)∧((sma d0)∧(∃ x45,x45=(putU d0 d1 d2 d3)∧((sma d0)∧(∃ x79,x79=(delU d0 d1 d2)∧((sma d0)∧(∃ x121,x121=(delU d0 d1 d2)∧((sma d0)∧(∃ x171,x171=(addU d0 d1 d2 d4)∧((sma d0)∧(∃ x229,x229=(addU d0 d1 d2 d4)∧((sma d0)∧(∃ x295,x295=(setU d0 d2 d5)∧((sma d0)∧(∃ x369,x369=(setU d0 d2 d5)∧((sm x19.1.val)∧(((sameE x19.1 x45.1)=true→sm x79.1.val)∧((sm x171.1.val)∧(((sameE x171.1 x229.1)=true→sm x295.1.val)∧(y=(((((((sameE x19.1 x45.1)&&(sameE x79.1 x121.1))&&((sameE x171.1 x229.1)&&(sameE x295.1 x369.1)))&&(x19.2==x45.2))&&(x79.2==x121.2))&&(x171.2==x229.2))&&(x295.2==x369.2))))))))))))))))))))))))))
set_option maxRecDepth 20000 in
set_option maxHeartbeats 4000000 in
theorem law09_DeltaUpdates_c {L:List Nat} {w:World} {csP0:List Value} (d0:Arena) (HP0:Stb L w (fun w=>kArena.r w csP0 d0)) (d1:Int) (d2:Str) (d3:Str) (d4:Int) (d5:Int) (hL:Lt L w) {y:Bool} (h:law09_DeltaUpdates_raw d0 d1 d2 d3 d4 d5 y) :
  Calls Tryz.prog 3 [.agg csP0.toArray,.int .i64 d1,str d2,str d3,.int .i64 d4,.int .u64 d5].toArray w (Ret fun v w'=>Ext w w'∧v=.bool y):=by
 obtain ⟨A1,c2,A4,c5,rfl,H3,H6⟩:=kArena_open HP0
 unfold law09_DeltaUpdates_raw at h
 refine calls_ec Tryz.func3 rfl rfl rfl ?_
 refine ec_seq ?_
 refine ec_region ?_
 refine o_box (cs:=(cArena d0 A1 c2 A4 c5)) rfl rfl rfl ?_
 intro b7 w7 e7 F7 B7
 have S7:=B7.stb (nin hL e7)
 have G8:Fr L w w7:=Fr.ext F7
 refine o_w (v:=.bool false) (r_asg rfl) ?_
 refine eo_nil_sq ?_
 refine ec_seq ?_
 refine ec_region ?_
 refine o_call cf_law09_works rfl (law09_works_c (hL.fr F7) (works9_ev)) rfl rfl ?_
 rintro _ w9 ⟨F9,rfl⟩
 have E10:=F7.trans F9
 have G12:Fr L w7 w9:=Fr.ext F9
 refine o_w (v:=.bool (worksV)) (r_asg rfl) ?_
 refine eo_nil_sq ?_
 iterate 2 refine ec_seq ?_
 refine ec_region ?_
 refine o_w (v:=.bool (worksV)) (r_mov rfl) ?_
 refine o_w (v:=.bool (!(worksV))) (r_not rfl) ?_
 refine eo_nil_sq ?_
 refine ec_cond rfl (fun hc13=>?_) (fun hc13=>?_)
 ·replace h:=h.1 hc13
  refine ec_seq ?_
  refine ec_region ?_
  refine o_w (v:=.bool false) (r_asg rfl) ?_
  refine eo_nil_sq ?_
  refine ec_ret ?_
  refine sq_ret ?_
  subst h
  exact (end1 rfl ⟨_,rfl,E10,rfl⟩)
 ·replace h:=h.2 hc13
  refine ec_skip ?_
  refine sq_n ?_
  refine ec_seq ?_
  refine ec_region ?_
  refine o_w (v:=.agg (cArena d0 A1 c2 A4 c5).toArray) (r_lda agg_api_Arena rfl (vs:=(cArena d0 A1 c2 A4 c5)) rfl ((S7.fr G12 sI).now.part (n:=3) rfl)) ?_
  refine o_call cf_law08_Few rfl (law08_Few_c d0 (kArena_mk (d:=d0) (H3.fr (G8.trans (Fr.ext F9)) sI) (H6.fr (G8.trans (Fr.ext F9)) sI)) (hL.fr E10) (fewA_ev d0)) rfl rfl ?_
  rintro _ w14 ⟨F14,rfl⟩
  have E15:=E10.trans F14
  refine o_w (v:=.bool (fewA d0)) (r_asg rfl) ?_
  refine eo_nil_sq ?_
  iterate 2 refine ec_seq ?_
  refine ec_region ?_
  refine o_w (v:=.bool (fewA d0)) (r_mov rfl) ?_
  refine o_w (v:=.bool (!(fewA d0))) (r_not rfl) ?_
  refine o_w (v:=.bool (!(fewA d0))) (r_mov rfl) ?_
  refine o_vg (v:=str d2) (want_cf (t:=40) rfl rfl) (fun hk=>(r_mov rfl)) rfl rfl ?_
  refine o_vg (v:=.int .i64 (d2.length:Int)) (want_cf (t:=40) rfl rfl) (fun hk=>(r_len_str un_string (gdT hk))) rfl rfl ?_
  refine o_vg (v:=.bool (decide (100<(d2.length:Int)))) (want_cf (t:=40) rfl rfl) (fun hk=>(r_int (gdT hk) rfl rfl)) rfl rfl ?_
  refine o_w (v:=.bool ((!(fewA d0))||(decide (100<(d2.length:Int))))) (r_pickOr rfl rfl (fun hf=>(gdT (notT hf)))) ?_
  refine o_w (v:=.bool ((!(fewA d0))||(decide (100<(d2.length:Int))))) (r_mov rfl) ?_
  refine o_vg (v:=str d3) (want_cf (t:=45) rfl rfl) (fun hk=>(r_mov rfl)) rfl rfl ?_
  refine o_vg (v:=.int .i64 (d3.length:Int)) (want_cf (t:=45) rfl rfl) (fun hk=>(r_len_str un_string (gdT hk))) rfl rfl ?_
  refine o_vg (v:=.bool (decide (100<(d3.length:Int)))) (want_cf (t:=45) rfl rfl) (fun hk=>(r_int (gdT hk) rfl rfl)) rfl rfl ?_
  refine o_w (v:=.bool (((!(fewA d0))||(decide (100<(d2.length:Int))))||(decide (100<(d3.length:Int))))) (r_pickOr rfl rfl (fun hf=>(gdT (notT hf)))) ?_
  refine eo_nil_sq ?_
  refine ec_cond rfl (fun hc18=>?_) (fun hc18=>?_)
  ·replace h:=h.1 hc18
   refine ec_seq ?_
   refine ec_region ?_
   refine o_w (v:=.bool (worksV)) (r_mov rfl) ?_
   refine o_w (v:=.bool (worksV)) (r_asg rfl) ?_
   refine eo_nil_sq ?_
   refine ec_ret ?_
   refine sq_ret ?_
   subst h
   exact (end1 rfl ⟨_,rfl,E15,rfl⟩)
  ·replace h:=h.2 hc18
   refine ec_skip ?_
   refine sq_n ?_
   refine ec_seq ?_
   refine ec_region ?_
   refine o_w (v:=.agg (cArena d0 A1 c2 A4 c5).toArray) (r_lda agg_api_Arena rfl (vs:=(cArena d0 A1 c2 A4 c5)) rfl ((S7.fr (G12.trans (Fr.ext F14)) sI).now.part (n:=3) rfl)) ?_
   refine o_w (v:=.int .i64 d1) (r_mov rfl) ?_
   refine o_w (v:=str d2) (r_mov rfl) ?_
   refine o_w (v:=str d3) (r_mov rfl) ?_
   obtain ⟨ha20,h⟩:=h
   obtain ⟨x19,hx19,h⟩:=h
   refine o_call cf_delta_Put rfl (delta_Put_c d0 (kArena_mk (d:=d0) (H3.fr ((G8.trans (Fr.ext F9)).trans (Fr.ext F14)) sI) (H6.fr ((G8.trans (Fr.ext F9)).trans (Fr.ext F14)) sI)) d1 d2 d3 (hL.fr E15) (eq_ev hx19 (put_ev d0 d1 d2 d3 ha20))) rfl rfl ?_
   rintro _ w19 ⟨F19,cs21,rfl,H22⟩
   have E23:=E15.trans F19
   obtain ⟨A26,c27,A29,c30,rfl,H28,H31⟩:=kEnt_open H22
   refine o_w (v:=.tuple #[.agg (cEnt x19.1 A26 c27 A29 c30).toArray,.int .i64 x19.2]) (r_mov rfl) ?_
   refine o_w (v:=.agg (cEnt x19.1 A26 c27 A29 c30).toArray) (r_ext rfl rfl) ?_
   refine o_w (v:=.int .i64 x19.2) (r_ext rfl rfl) ?_
   refine o_alloc zero_api_Entry rfl rfl rfl ?_
   intro b32 w32 e32 F32 B32
   have n32:w.heap.size≤b32:=by rw [e32]; exact E23.size
   have m33:w.heap.size≤b32:=by rw [e32]; exact (((G8.trans (Fr.ext F9)).trans (Fr.ext F14)).trans (Fr.ext F19)).size
   have m34:w7.heap.size≤b32:=by rw [e32]; exact ((G12.trans (Fr.ext F14)).trans (Fr.ext F19)).size
   have m35:w19.heap.size≤b32:=Nat.le_of_eq e32.symm
   have E36:=E23.trans F32
   have G37:=(((G8.trans (Fr.ext F9)).trans (Fr.ext F14)).trans (Fr.ext F19)).trans (Fr.ext F32)
   have G39:Fr L w19 w32:=Fr.ext F32
   refine o_store rfl B32 (vs:=(cEnt x19.1 A26 c27 A29 c30)) rfl sz_api_Entry rfl rfl rfl ?_
   intro w40 F40 B40
   have E41:=Ext.st E36 F40 (by simp; omega)
   have G42:Fr L w w40:=G37.stp F40 (upc (.inr m33) (fun m hm=>by cases hm))
   have G43:Fr L w7 w40:=(((G12.trans (Fr.ext F14)).trans (Fr.ext F19)).trans (Fr.ext F32)).stp F40 (upc (.inr m34) (fun m hm=>by cases hm))
   have G44:Fr L w19 w40:=G39.stp F40 (upc (.inr m35) (fun m hm=>by cases hm))
   have B40':Blk w40 b32 _ (cEnt x19.1 A26 c27 A29 c30):=B40
   refine o_w (v:=.int .i64 x19.2) (r_asg rfl) ?_
   refine eo_nil_sq ?_
   refine ec_seq ?_
   refine ec_region ?_
   refine o_w (v:=.agg (cArena d0 A1 c2 A4 c5).toArray) (r_lda agg_api_Arena rfl (vs:=(cArena d0 A1 c2 A4 c5)) rfl ((S7.fr G43 sI).now.part (n:=3) rfl)) ?_
   refine o_w (v:=.int .i64 d1) (r_mov rfl) ?_
   refine o_w (v:=str d2) (r_mov rfl) ?_
   refine o_w (v:=str d3) (r_mov rfl) ?_
   obtain ⟨ha46,h⟩:=h
   obtain ⟨x45,hx45,h⟩:=h
   refine o_call cf_ref09_Put rfl (ref09_Put_c d0 (kArena_mk (d:=d0) (H3.up G42 sI (upc (.inr m33) (fun _ h=>.inl h))) (H6.up G42 sI (upc (.inr m33) (fun _ h=>.inl h)))) d1 d2 d3 ((hL.fr E41).cons B40'.lt) (eq_ev hx45 (rput_ev d0 d1 d2 d3 ha46))) rfl rfl ?_
   rintro _ w45 ⟨F45,cs47,rfl,H48⟩
   have E49:=E41.trans F45
   obtain ⟨A54,c55,A57,c58,rfl,H56,H59⟩:=kEnt_open H48
   refine o_w (v:=.tuple #[.agg (cEnt x45.1 A54 c55 A57 c58).toArray,.int .i64 x45.2]) (r_mov rfl) ?_
   refine o_w (v:=.agg (cEnt x45.1 A54 c55 A57 c58).toArray) (r_ext rfl rfl) ?_
   refine o_w (v:=.int .i64 x45.2) (r_ext rfl rfl) ?_
   refine o_alloc zero_api_Entry rfl rfl rfl ?_
   intro b60 w60 e60 F60 B60
   have n60:w.heap.size≤b60:=by rw [e60]; exact E49.size
   have q61:b32<b60:=by rw [e60]; exact (B40'.ex F45).lt
   have m62:w.heap.size≤b60:=by rw [e60]; exact (G42.trans (Fr.ext F45)).size
   have m63:w7.heap.size≤b60:=by rw [e60]; exact (G43.trans (Fr.ext F45)).size
   have m64:w19.heap.size≤b60:=by rw [e60]; exact (G44.trans (Fr.ext F45)).size
   have m65:w45.heap.size≤b60:=Nat.le_of_eq e60.symm
   have E66:=E49.trans F60
   have G70:Fr (b32::L) w45 w60:=Fr.ext F60
   refine o_store rfl B60 (vs:=(cEnt x45.1 A54 c55 A57 c58)) rfl sz_api_Entry rfl rfl rfl ?_
   intro w72 F72 B72
   have E73:=Ext.st E66 F72 (by simp; omega)
   have G74:Fr L w w72:=((G42.trans (Fr.ext F45)).trans (Fr.ext F60)).stp F72 (upc (.inr m62) (fun m hm=>by cases hm))
   have G75:Fr L w7 w72:=((G43.trans (Fr.ext F45)).trans (Fr.ext F60)).stp F72 (upc (.inr m63) (fun m hm=>by cases hm))
   have G76:Fr L w19 w72:=((G44.trans (Fr.ext F45)).trans (Fr.ext F60)).stp F72 (upc (.inr m64) (fun m hm=>by cases hm))
   have G77:Fr (b32::L) w45 w72:=G70.stp F72 (upc (.inr m65) (fun m hm=>by cases hm))
   have B78:=((B40'.ex F45).ex F60).fr F72 (by simp; omega)
   have B72':Blk w72 b60 _ (cEnt x45.1 A54 c55 A57 c58):=B72
   refine o_w (v:=.int .i64 x45.2) (r_asg rfl) ?_
   refine eo_nil_sq ?_
   refine ec_seq ?_
   refine ec_region ?_
   refine o_w (v:=.agg (cArena d0 A1 c2 A4 c5).toArray) (r_lda agg_api_Arena rfl (vs:=(cArena d0 A1 c2 A4 c5)) rfl ((S7.fr G75 sI).now.part (n:=3) rfl)) ?_
   refine o_w (v:=.int .i64 d1) (r_mov rfl) ?_
   refine o_w (v:=str d2) (r_mov rfl) ?_
   obtain ⟨ha80,h⟩:=h
   obtain ⟨x79,hx79,h⟩:=h
   refine o_call cf_delta_Delete rfl (delta_Delete_c d0 (kArena_mk (d:=d0) (H3.up G74 sI (upc (.inr m62) (upc (.inr m33) (fun _ h=>.inl h)))) (H6.up G74 sI (upc (.inr m62) (upc (.inr m33) (fun _ h=>.inl h))))) d1 d2 (((hL.fr E73).cons B78.lt).cons B72'.lt) (eq_ev hx79 (del_ev d0 d1 d2 ha80))) rfl rfl ?_
   rintro _ w79 ⟨F79,cs81,rfl,H82⟩
   have E83:=E73.trans F79
   obtain ⟨A90,c91,A93,c94,rfl,H92,H95⟩:=kEnt_open H82
   refine o_w (v:=.tuple #[.agg (cEnt x79.1 A90 c91 A93 c94).toArray,.int .i64 x79.2]) (r_mov rfl) ?_
   refine o_w (v:=.agg (cEnt x79.1 A90 c91 A93 c94).toArray) (r_ext rfl rfl) ?_
   refine o_w (v:=.int .i64 x79.2) (r_ext rfl rfl) ?_
   refine o_alloc zero_api_Entry rfl rfl rfl ?_
   intro b96 w96 e96 F96 B96
   have n96:w.heap.size≤b96:=by rw [e96]; exact E83.size
   have q97:b32<b96:=by rw [e96]; exact (B78.ex F79).lt
   have q98:b60<b96:=by rw [e96]; exact (B72'.ex F79).lt
   have m99:w.heap.size≤b96:=by rw [e96]; exact (G74.trans (Fr.ext F79)).size
   have m100:w7.heap.size≤b96:=by rw [e96]; exact (G75.trans (Fr.ext F79)).size
   have m101:w19.heap.size≤b96:=by rw [e96]; exact (G76.trans (Fr.ext F79)).size
   have m102:w45.heap.size≤b96:=by rw [e96]; exact (G77.trans (Fr.ext F79)).size
   have m103:w79.heap.size≤b96:=Nat.le_of_eq e96.symm
   have E104:=E83.trans F96
   have G109:Fr (b60::(b32::L)) w79 w96:=Fr.ext F96
   refine o_store rfl B96 (vs:=(cEnt x79.1 A90 c91 A93 c94)) rfl sz_api_Entry rfl rfl rfl ?_
   intro w112 F112 B112
   have E113:=Ext.st E104 F112 (by simp; omega)
   have G114:Fr L w w112:=((G74.trans (Fr.ext F79)).trans (Fr.ext F96)).stp F112 (upc (.inr m99) (fun m hm=>by cases hm))
   have G115:Fr L w7 w112:=((G75.trans (Fr.ext F79)).trans (Fr.ext F96)).stp F112 (upc (.inr m100) (fun m hm=>by cases hm))
   have G116:Fr L w19 w112:=((G76.trans (Fr.ext F79)).trans (Fr.ext F96)).stp F112 (upc (.inr m101) (fun m hm=>by cases hm))
   have G117:Fr (b32::L) w45 w112:=((G77.trans (Fr.ext F79)).trans (Fr.ext F96)).stp F112 (upc (.inr m102) (fun m hm=>by cases hm))
   have G118:Fr (b60::(b32::L)) w79 w112:=G109.stp F112 (upc (.inr m103) (fun m hm=>by cases hm))
   have B119:=((B78.ex F79).ex F96).fr F112 (by simp; omega)
   have B120:=((B72'.ex F79).ex F96).fr F112 (by simp; omega)
   have B112':Blk w112 b96 _ (cEnt x79.1 A90 c91 A93 c94):=B112
   refine o_w (v:=.int .i64 x79.2) (r_asg rfl) ?_
   refine eo_nil_sq ?_
   refine ec_seq ?_
   refine ec_region ?_
   refine o_w (v:=.agg (cArena d0 A1 c2 A4 c5).toArray) (r_lda agg_api_Arena rfl (vs:=(cArena d0 A1 c2 A4 c5)) rfl ((S7.fr G115 sI).now.part (n:=3) rfl)) ?_
   refine o_w (v:=.int .i64 d1) (r_mov rfl) ?_
   refine o_w (v:=str d2) (r_mov rfl) ?_
   obtain ⟨ha122,h⟩:=h
   obtain ⟨x121,hx121,h⟩:=h
   refine o_call cf_ref09_Delete rfl (ref09_Delete_c d0 (kArena_mk (d:=d0) (H3.up G114 sI (upc (.inr m99) (upc (.inr m62) (upc (.inr m33) (fun _ h=>.inl h))))) (H6.up G114 sI (upc (.inr m99) (upc (.inr m62) (upc (.inr m33) (fun _ h=>.inl h)))))) d1 d2 ((((hL.fr E113).cons B119.lt).cons B120.lt).cons B112'.lt) (eq_ev hx121 (rdel_ev d0 d1 d2 ha122))) rfl rfl ?_
   rintro _ w121 ⟨F121,cs123,rfl,H124⟩
   have E125:=E113.trans F121
   obtain ⟨A134,c135,A137,c138,rfl,H136,H139⟩:=kEnt_open H124
   refine o_w (v:=.tuple #[.agg (cEnt x121.1 A134 c135 A137 c138).toArray,.int .i64 x121.2]) (r_mov rfl) ?_
   refine o_w (v:=.agg (cEnt x121.1 A134 c135 A137 c138).toArray) (r_ext rfl rfl) ?_
   refine o_w (v:=.int .i64 x121.2) (r_ext rfl rfl) ?_
   refine o_alloc zero_api_Entry rfl rfl rfl ?_
   intro b140 w140 e140 F140 B140
   have n140:w.heap.size≤b140:=by rw [e140]; exact E125.size
   have q141:b32<b140:=by rw [e140]; exact (B119.ex F121).lt
   have q142:b60<b140:=by rw [e140]; exact (B120.ex F121).lt
   have q143:b96<b140:=by rw [e140]; exact (B112'.ex F121).lt
   have m144:w.heap.size≤b140:=by rw [e140]; exact (G114.trans (Fr.ext F121)).size
   have m145:w7.heap.size≤b140:=by rw [e140]; exact (G115.trans (Fr.ext F121)).size
   have m146:w19.heap.size≤b140:=by rw [e140]; exact (G116.trans (Fr.ext F121)).size
   have m147:w45.heap.size≤b140:=by rw [e140]; exact (G117.trans (Fr.ext F121)).size
   have m148:w79.heap.size≤b140:=by rw [e140]; exact (G118.trans (Fr.ext F121)).size
   have m149:w121.heap.size≤b140:=Nat.le_of_eq e140.symm
   have E150:=E125.trans F140
   have G156:Fr (b96::(b60::(b32::L))) w121 w140:=Fr.ext F140
   refine o_store rfl B140 (vs:=(cEnt x121.1 A134 c135 A137 c138)) rfl sz_api_Entry rfl rfl rfl ?_
   intro w160 F160 B160
   have E161:=Ext.st E150 F160 (by simp; omega)
   have G162:Fr L w w160:=((G114.trans (Fr.ext F121)).trans (Fr.ext F140)).stp F160 (upc (.inr m144) (fun m hm=>by cases hm))
   have G163:Fr L w7 w160:=((G115.trans (Fr.ext F121)).trans (Fr.ext F140)).stp F160 (upc (.inr m145) (fun m hm=>by cases hm))
   have G164:Fr L w19 w160:=((G116.trans (Fr.ext F121)).trans (Fr.ext F140)).stp F160 (upc (.inr m146) (fun m hm=>by cases hm))
   have G165:Fr (b32::L) w45 w160:=((G117.trans (Fr.ext F121)).trans (Fr.ext F140)).stp F160 (upc (.inr m147) (fun m hm=>by cases hm))
   have G166:Fr (b60::(b32::L)) w79 w160:=((G118.trans (Fr.ext F121)).trans (Fr.ext F140)).stp F160 (upc (.inr m148) (fun m hm=>by cases hm))
   have G167:Fr (b96::(b60::(b32::L))) w121 w160:=G156.stp F160 (upc (.inr m149) (fun m hm=>by cases hm))
   have B168:=((B119.ex F121).ex F140).fr F160 (by simp; omega)
   have B169:=((B120.ex F121).ex F140).fr F160 (by simp; omega)
   have B170:=((B112'.ex F121).ex F140).fr F160 (by simp; omega)
   have B160':Blk w160 b140 _ (cEnt x121.1 A134 c135 A137 c138):=B160
   refine o_w (v:=.int .i64 x121.2) (r_asg rfl) ?_
   refine eo_nil_sq ?_
   refine ec_seq ?_
   refine ec_region ?_
   refine o_w (v:=.agg (cArena d0 A1 c2 A4 c5).toArray) (r_lda agg_api_Arena rfl (vs:=(cArena d0 A1 c2 A4 c5)) rfl ((S7.fr G163 sI).now.part (n:=3) rfl)) ?_
   refine o_w (v:=.int .i64 d1) (r_mov rfl) ?_
   refine o_w (v:=str d2) (r_mov rfl) ?_
   refine o_w (v:=.int .i64 d4) (r_mov rfl) ?_
   obtain ⟨ha172,h⟩:=h
   obtain ⟨x171,hx171,h⟩:=h
   refine o_call cf_delta_Add rfl (delta_Add_c d0 (kArena_mk (d:=d0) (H3.up G162 sI (upc (.inr m144) (upc (.inr m99) (upc (.inr m62) (upc (.inr m33) (fun _ h=>.inl h)))))) (H6.up G162 sI (upc (.inr m144) (upc (.inr m99) (upc (.inr m62) (upc (.inr m33) (fun _ h=>.inl h))))))) d1 d2 d4 (((((hL.fr E161).cons B168.lt).cons B169.lt).cons B170.lt).cons B160'.lt) (eq_ev hx171 (add_ev d0 d1 d2 d4 ha172))) rfl rfl ?_
   rintro _ w171 ⟨F171,cs173,rfl,H174⟩
   have E175:=E161.trans F171
   obtain ⟨A186,c187,A189,c190,rfl,H188,H191⟩:=kEnt_open H174
   refine o_w (v:=.tuple #[.agg (cEnt x171.1 A186 c187 A189 c190).toArray,.int .i64 x171.2]) (r_mov rfl) ?_
   refine o_w (v:=.agg (cEnt x171.1 A186 c187 A189 c190).toArray) (r_ext rfl rfl) ?_
   refine o_w (v:=.int .i64 x171.2) (r_ext rfl rfl) ?_
   refine o_alloc zero_api_Entry rfl rfl rfl ?_
   intro b192 w192 e192 F192 B192
   have n192:w.heap.size≤b192:=by rw [e192]; exact E175.size
   have q193:b32<b192:=by rw [e192]; exact (B168.ex F171).lt
   have q194:b60<b192:=by rw [e192]; exact (B169.ex F171).lt
   have q195:b96<b192:=by rw [e192]; exact (B170.ex F171).lt
   have q196:b140<b192:=by rw [e192]; exact (B160'.ex F171).lt
   have m197:w.heap.size≤b192:=by rw [e192]; exact (G162.trans (Fr.ext F171)).size
   have m198:w7.heap.size≤b192:=by rw [e192]; exact (G163.trans (Fr.ext F171)).size
   have m199:w19.heap.size≤b192:=by rw [e192]; exact (G164.trans (Fr.ext F171)).size
   have m200:w45.heap.size≤b192:=by rw [e192]; exact (G165.trans (Fr.ext F171)).size
   have m201:w79.heap.size≤b192:=by rw [e192]; exact (G166.trans (Fr.ext F171)).size
   have m202:w121.heap.size≤b192:=by rw [e192]; exact (G167.trans (Fr.ext F171)).size
   have m203:w171.heap.size≤b192:=Nat.le_of_eq e192.symm
   have E204:=E175.trans F192
   have G211:Fr (b140::(b96::(b60::(b32::L)))) w171 w192:=Fr.ext F192
   refine o_store rfl B192 (vs:=(cEnt x171.1 A186 c187 A189 c190)) rfl sz_api_Entry rfl rfl rfl ?_
   intro w216 F216 B216
   have E217:=Ext.st E204 F216 (by simp; omega)
   have G218:Fr L w w216:=((G162.trans (Fr.ext F171)).trans (Fr.ext F192)).stp F216 (upc (.inr m197) (fun m hm=>by cases hm))
   have G219:Fr L w7 w216:=((G163.trans (Fr.ext F171)).trans (Fr.ext F192)).stp F216 (upc (.inr m198) (fun m hm=>by cases hm))
   have G220:Fr L w19 w216:=((G164.trans (Fr.ext F171)).trans (Fr.ext F192)).stp F216 (upc (.inr m199) (fun m hm=>by cases hm))
   have G221:Fr (b32::L) w45 w216:=((G165.trans (Fr.ext F171)).trans (Fr.ext F192)).stp F216 (upc (.inr m200) (fun m hm=>by cases hm))
   have G222:Fr (b60::(b32::L)) w79 w216:=((G166.trans (Fr.ext F171)).trans (Fr.ext F192)).stp F216 (upc (.inr m201) (fun m hm=>by cases hm))
   have G223:Fr (b96::(b60::(b32::L))) w121 w216:=((G167.trans (Fr.ext F171)).trans (Fr.ext F192)).stp F216 (upc (.inr m202) (fun m hm=>by cases hm))
   have G224:Fr (b140::(b96::(b60::(b32::L)))) w171 w216:=G211.stp F216 (upc (.inr m203) (fun m hm=>by cases hm))
   have B225:=((B168.ex F171).ex F192).fr F216 (by simp; omega)
   have B226:=((B169.ex F171).ex F192).fr F216 (by simp; omega)
   have B227:=((B170.ex F171).ex F192).fr F216 (by simp; omega)
   have B228:=((B160'.ex F171).ex F192).fr F216 (by simp; omega)
   have B216':Blk w216 b192 _ (cEnt x171.1 A186 c187 A189 c190):=B216
   refine o_w (v:=.int .i64 x171.2) (r_asg rfl) ?_
   refine eo_nil_sq ?_
   refine ec_seq ?_
   refine ec_region ?_
   refine o_w (v:=.agg (cArena d0 A1 c2 A4 c5).toArray) (r_lda agg_api_Arena rfl (vs:=(cArena d0 A1 c2 A4 c5)) rfl ((S7.fr G219 sI).now.part (n:=3) rfl)) ?_
   refine o_w (v:=.int .i64 d1) (r_mov rfl) ?_
   refine o_w (v:=str d2) (r_mov rfl) ?_
   refine o_w (v:=.int .i64 d4) (r_mov rfl) ?_
   obtain ⟨ha230,h⟩:=h
   obtain ⟨x229,hx229,h⟩:=h
   refine o_call cf_ref09_Add rfl (ref09_Add_c d0 (kArena_mk (d:=d0) (H3.up G218 sI (upc (.inr m197) (upc (.inr m144) (upc (.inr m99) (upc (.inr m62) (upc (.inr m33) (fun _ h=>.inl h))))))) (H6.up G218 sI (upc (.inr m197) (upc (.inr m144) (upc (.inr m99) (upc (.inr m62) (upc (.inr m33) (fun _ h=>.inl h)))))))) d1 d2 d4 ((((((hL.fr E217).cons B225.lt).cons B226.lt).cons B227.lt).cons B228.lt).cons B216'.lt) (eq_ev hx229 (radd_ev d0 d1 d2 d4 ha230))) rfl rfl ?_
   rintro _ w229 ⟨F229,cs231,rfl,H232⟩
   have E233:=E217.trans F229
   obtain ⟨A246,c247,A249,c250,rfl,H248,H251⟩:=kEnt_open H232
   refine o_w (v:=.tuple #[.agg (cEnt x229.1 A246 c247 A249 c250).toArray,.int .i64 x229.2]) (r_mov rfl) ?_
   refine o_w (v:=.agg (cEnt x229.1 A246 c247 A249 c250).toArray) (r_ext rfl rfl) ?_
   refine o_w (v:=.int .i64 x229.2) (r_ext rfl rfl) ?_
   refine o_alloc zero_api_Entry rfl rfl rfl ?_
   intro b252 w252 e252 F252 B252
   have n252:w.heap.size≤b252:=by rw [e252]; exact E233.size
   have q253:b32<b252:=by rw [e252]; exact (B225.ex F229).lt
   have q254:b60<b252:=by rw [e252]; exact (B226.ex F229).lt
   have q255:b96<b252:=by rw [e252]; exact (B227.ex F229).lt
   have q256:b140<b252:=by rw [e252]; exact (B228.ex F229).lt
   have q257:b192<b252:=by rw [e252]; exact (B216'.ex F229).lt
   have m258:w.heap.size≤b252:=by rw [e252]; exact (G218.trans (Fr.ext F229)).size
   have m259:w7.heap.size≤b252:=by rw [e252]; exact (G219.trans (Fr.ext F229)).size
   have m260:w19.heap.size≤b252:=by rw [e252]; exact (G220.trans (Fr.ext F229)).size
   have m261:w45.heap.size≤b252:=by rw [e252]; exact (G221.trans (Fr.ext F229)).size
   have m262:w79.heap.size≤b252:=by rw [e252]; exact (G222.trans (Fr.ext F229)).size
   have m263:w121.heap.size≤b252:=by rw [e252]; exact (G223.trans (Fr.ext F229)).size
   have m264:w171.heap.size≤b252:=by rw [e252]; exact (G224.trans (Fr.ext F229)).size
   have m265:w229.heap.size≤b252:=Nat.le_of_eq e252.symm
   have E266:=E233.trans F252
   have G274:Fr (b192::(b140::(b96::(b60::(b32::L))))) w229 w252:=Fr.ext F252
   refine o_store rfl B252 (vs:=(cEnt x229.1 A246 c247 A249 c250)) rfl sz_api_Entry rfl rfl rfl ?_
   intro w280 F280 B280
   have E281:=Ext.st E266 F280 (by simp; omega)
   have G282:Fr L w w280:=((G218.trans (Fr.ext F229)).trans (Fr.ext F252)).stp F280 (upc (.inr m258) (fun m hm=>by cases hm))
   have G283:Fr L w7 w280:=((G219.trans (Fr.ext F229)).trans (Fr.ext F252)).stp F280 (upc (.inr m259) (fun m hm=>by cases hm))
   have G284:Fr L w19 w280:=((G220.trans (Fr.ext F229)).trans (Fr.ext F252)).stp F280 (upc (.inr m260) (fun m hm=>by cases hm))
   have G285:Fr (b32::L) w45 w280:=((G221.trans (Fr.ext F229)).trans (Fr.ext F252)).stp F280 (upc (.inr m261) (fun m hm=>by cases hm))
   have G286:Fr (b60::(b32::L)) w79 w280:=((G222.trans (Fr.ext F229)).trans (Fr.ext F252)).stp F280 (upc (.inr m262) (fun m hm=>by cases hm))
   have G287:Fr (b96::(b60::(b32::L))) w121 w280:=((G223.trans (Fr.ext F229)).trans (Fr.ext F252)).stp F280 (upc (.inr m263) (fun m hm=>by cases hm))
   have G288:Fr (b140::(b96::(b60::(b32::L)))) w171 w280:=((G224.trans (Fr.ext F229)).trans (Fr.ext F252)).stp F280 (upc (.inr m264) (fun m hm=>by cases hm))
   have G289:Fr (b192::(b140::(b96::(b60::(b32::L))))) w229 w280:=G274.stp F280 (upc (.inr m265) (fun m hm=>by cases hm))
   have B290:=((B225.ex F229).ex F252).fr F280 (by simp; omega)
   have B291:=((B226.ex F229).ex F252).fr F280 (by simp; omega)
   have B292:=((B227.ex F229).ex F252).fr F280 (by simp; omega)
   have B293:=((B228.ex F229).ex F252).fr F280 (by simp; omega)
   have B294:=((B216'.ex F229).ex F252).fr F280 (by simp; omega)
   have B280':Blk w280 b252 _ (cEnt x229.1 A246 c247 A249 c250):=B280
   refine o_w (v:=.int .i64 x229.2) (r_asg rfl) ?_
   refine eo_nil_sq ?_
   refine ec_seq ?_
   refine ec_region ?_
   refine o_w (v:=.agg (cArena d0 A1 c2 A4 c5).toArray) (r_lda agg_api_Arena rfl (vs:=(cArena d0 A1 c2 A4 c5)) rfl ((S7.fr G283 sI).now.part (n:=3) rfl)) ?_
   refine o_w (v:=str d2) (r_mov rfl) ?_
   refine o_w (v:=.int .u64 d5) (r_mov rfl) ?_
   obtain ⟨ha296,h⟩:=h
   obtain ⟨x295,hx295,h⟩:=h
   refine o_call cf_delta_Set rfl (delta_Set_c d0 (kArena_mk (d:=d0) (H3.up G282 sI (upc (.inr m258) (upc (.inr m197) (upc (.inr m144) (upc (.inr m99) (upc (.inr m62) (upc (.inr m33) (fun _ h=>.inl h)))))))) (H6.up G282 sI (upc (.inr m258) (upc (.inr m197) (upc (.inr m144) (upc (.inr m99) (upc (.inr m62) (upc (.inr m33) (fun _ h=>.inl h))))))))) d2 d5 (((((((hL.fr E281).cons B290.lt).cons B291.lt).cons B292.lt).cons B293.lt).cons B294.lt).cons B280'.lt) (eq_ev hx295 (set_ev d0 d2 d5 ha296))) rfl rfl ?_
   rintro _ w295 ⟨F295,cs297,rfl,H298⟩
   have E299:=E281.trans F295
   obtain ⟨A314,c315,A317,c318,rfl,H316,H319⟩:=kEnt_open H298
   refine o_w (v:=.tuple #[.agg (cEnt x295.1 A314 c315 A317 c318).toArray,.int .i64 x295.2]) (r_mov rfl) ?_
   refine o_w (v:=.agg (cEnt x295.1 A314 c315 A317 c318).toArray) (r_ext rfl rfl) ?_
   refine o_w (v:=.int .i64 x295.2) (r_ext rfl rfl) ?_
   refine o_alloc zero_api_Entry rfl rfl rfl ?_
   intro b320 w320 e320 F320 B320
   have n320:w.heap.size≤b320:=by rw [e320]; exact E299.size
   have q321:b32<b320:=by rw [e320]; exact (B290.ex F295).lt
   have q322:b60<b320:=by rw [e320]; exact (B291.ex F295).lt
   have q323:b96<b320:=by rw [e320]; exact (B292.ex F295).lt
   have q324:b140<b320:=by rw [e320]; exact (B293.ex F295).lt
   have q325:b192<b320:=by rw [e320]; exact (B294.ex F295).lt
   have q326:b252<b320:=by rw [e320]; exact (B280'.ex F295).lt
   have m327:w.heap.size≤b320:=by rw [e320]; exact (G282.trans (Fr.ext F295)).size
   have m328:w7.heap.size≤b320:=by rw [e320]; exact (G283.trans (Fr.ext F295)).size
   have m329:w19.heap.size≤b320:=by rw [e320]; exact (G284.trans (Fr.ext F295)).size
   have m330:w45.heap.size≤b320:=by rw [e320]; exact (G285.trans (Fr.ext F295)).size
   have m331:w79.heap.size≤b320:=by rw [e320]; exact (G286.trans (Fr.ext F295)).size
   have m332:w121.heap.size≤b320:=by rw [e320]; exact (G287.trans (Fr.ext F295)).size
   have m333:w171.heap.size≤b320:=by rw [e320]; exact (G288.trans (Fr.ext F295)).size
   have m334:w229.heap.size≤b320:=by rw [e320]; exact (G289.trans (Fr.ext F295)).size
   have m335:w295.heap.size≤b320:=Nat.le_of_eq e320.symm
   have E336:=E299.trans F320
   have G345:Fr (b252::(b192::(b140::(b96::(b60::(b32::L)))))) w295 w320:=Fr.ext F320
   refine o_store rfl B320 (vs:=(cEnt x295.1 A314 c315 A317 c318)) rfl sz_api_Entry rfl rfl rfl ?_
   intro w352 F352 B352
   have E353:=Ext.st E336 F352 (by simp; omega)
   have G354:Fr L w w352:=((G282.trans (Fr.ext F295)).trans (Fr.ext F320)).stp F352 (upc (.inr m327) (fun m hm=>by cases hm))
   have G355:Fr L w7 w352:=((G283.trans (Fr.ext F295)).trans (Fr.ext F320)).stp F352 (upc (.inr m328) (fun m hm=>by cases hm))
   have G356:Fr L w19 w352:=((G284.trans (Fr.ext F295)).trans (Fr.ext F320)).stp F352 (upc (.inr m329) (fun m hm=>by cases hm))
   have G357:Fr (b32::L) w45 w352:=((G285.trans (Fr.ext F295)).trans (Fr.ext F320)).stp F352 (upc (.inr m330) (fun m hm=>by cases hm))
   have G358:Fr (b60::(b32::L)) w79 w352:=((G286.trans (Fr.ext F295)).trans (Fr.ext F320)).stp F352 (upc (.inr m331) (fun m hm=>by cases hm))
   have G359:Fr (b96::(b60::(b32::L))) w121 w352:=((G287.trans (Fr.ext F295)).trans (Fr.ext F320)).stp F352 (upc (.inr m332) (fun m hm=>by cases hm))
   have G360:Fr (b140::(b96::(b60::(b32::L)))) w171 w352:=((G288.trans (Fr.ext F295)).trans (Fr.ext F320)).stp F352 (upc (.inr m333) (fun m hm=>by cases hm))
   have G361:Fr (b192::(b140::(b96::(b60::(b32::L))))) w229 w352:=((G289.trans (Fr.ext F295)).trans (Fr.ext F320)).stp F352 (upc (.inr m334) (fun m hm=>by cases hm))
   have G362:Fr (b252::(b192::(b140::(b96::(b60::(b32::L)))))) w295 w352:=G345.stp F352 (upc (.inr m335) (fun m hm=>by cases hm))
   have B363:=((B290.ex F295).ex F320).fr F352 (by simp; omega)
   have B364:=((B291.ex F295).ex F320).fr F352 (by simp; omega)
   have B365:=((B292.ex F295).ex F320).fr F352 (by simp; omega)
   have B366:=((B293.ex F295).ex F320).fr F352 (by simp; omega)
   have B367:=((B294.ex F295).ex F320).fr F352 (by simp; omega)
   have B368:=((B280'.ex F295).ex F320).fr F352 (by simp; omega)
   have B352':Blk w352 b320 _ (cEnt x295.1 A314 c315 A317 c318):=B352
   refine o_w (v:=.int .i64 x295.2) (r_asg rfl) ?_
   refine eo_nil_sq ?_
   refine ec_seq ?_
   refine ec_region ?_
   refine o_w (v:=.agg (cArena d0 A1 c2 A4 c5).toArray) (r_lda agg_api_Arena rfl (vs:=(cArena d0 A1 c2 A4 c5)) rfl ((S7.fr G355 sI).now.part (n:=3) rfl)) ?_
   refine o_w (v:=str d2) (r_mov rfl) ?_
   refine o_w (v:=.int .u64 d5) (r_mov rfl) ?_
   obtain ⟨ha370,h⟩:=h
   obtain ⟨x369,hx369,h⟩:=h
   refine o_call cf_ref09_Set rfl (ref09_Set_c d0 (kArena_mk (d:=d0) (H3.up G354 sI (upc (.inr m327) (upc (.inr m258) (upc (.inr m197) (upc (.inr m144) (upc (.inr m99) (upc (.inr m62) (upc (.inr m33) (fun _ h=>.inl h))))))))) (H6.up G354 sI (upc (.inr m327) (upc (.inr m258) (upc (.inr m197) (upc (.inr m144) (upc (.inr m99) (upc (.inr m62) (upc (.inr m33) (fun _ h=>.inl h)))))))))) d2 d5 ((((((((hL.fr E353).cons B363.lt).cons B364.lt).cons B365.lt).cons B366.lt).cons B367.lt).cons B368.lt).cons B352'.lt) (eq_ev hx369 (rset_ev d0 d2 d5 ha370))) rfl rfl ?_
   rintro _ w369 ⟨F369,cs371,rfl,H372⟩
   have E373:=E353.trans F369
   obtain ⟨A390,c391,A393,c394,rfl,H392,H395⟩:=kEnt_open H372
   refine o_w (v:=.tuple #[.agg (cEnt x369.1 A390 c391 A393 c394).toArray,.int .i64 x369.2]) (r_mov rfl) ?_
   refine o_w (v:=.agg (cEnt x369.1 A390 c391 A393 c394).toArray) (r_ext rfl rfl) ?_
   refine o_w (v:=.int .i64 x369.2) (r_ext rfl rfl) ?_
   refine o_alloc zero_api_Entry rfl rfl rfl ?_
   intro b396 w396 e396 F396 B396
   have n396:w.heap.size≤b396:=by rw [e396]; exact E373.size
   have q397:b32<b396:=by rw [e396]; exact (B363.ex F369).lt
   have q398:b60<b396:=by rw [e396]; exact (B364.ex F369).lt
   have q399:b96<b396:=by rw [e396]; exact (B365.ex F369).lt
   have q400:b140<b396:=by rw [e396]; exact (B366.ex F369).lt
   have q401:b192<b396:=by rw [e396]; exact (B367.ex F369).lt
   have q402:b252<b396:=by rw [e396]; exact (B368.ex F369).lt
   have q403:b320<b396:=by rw [e396]; exact (B352'.ex F369).lt
   have m406:w19.heap.size≤b396:=by rw [e396]; exact (G356.trans (Fr.ext F369)).size
   have m407:w45.heap.size≤b396:=by rw [e396]; exact (G357.trans (Fr.ext F369)).size
   have m408:w79.heap.size≤b396:=by rw [e396]; exact (G358.trans (Fr.ext F369)).size
   have m409:w121.heap.size≤b396:=by rw [e396]; exact (G359.trans (Fr.ext F369)).size
   have m410:w171.heap.size≤b396:=by rw [e396]; exact (G360.trans (Fr.ext F369)).size
   have m411:w229.heap.size≤b396:=by rw [e396]; exact (G361.trans (Fr.ext F369)).size
   have m412:w295.heap.size≤b396:=by rw [e396]; exact (G362.trans (Fr.ext F369)).size
   have m413:w369.heap.size≤b396:=Nat.le_of_eq e396.symm
   have E414:=E373.trans F396
   have G424:Fr (b320::(b252::(b192::(b140::(b96::(b60::(b32::L))))))) w369 w396:=Fr.ext F396
   refine o_store rfl B396 (vs:=(cEnt x369.1 A390 c391 A393 c394)) rfl sz_api_Entry rfl rfl rfl ?_
   intro w432 F432 B432
   have E433:=Ext.st E414 F432 (by simp; omega)
   have G436:Fr L w19 w432:=((G356.trans (Fr.ext F369)).trans (Fr.ext F396)).stp F432 (upc (.inr m406) (fun m hm=>by cases hm))
   have G437:Fr (b32::L) w45 w432:=((G357.trans (Fr.ext F369)).trans (Fr.ext F396)).stp F432 (upc (.inr m407) (fun m hm=>by cases hm))
   have G438:Fr (b60::(b32::L)) w79 w432:=((G358.trans (Fr.ext F369)).trans (Fr.ext F396)).stp F432 (upc (.inr m408) (fun m hm=>by cases hm))
   have G439:Fr (b96::(b60::(b32::L))) w121 w432:=((G359.trans (Fr.ext F369)).trans (Fr.ext F396)).stp F432 (upc (.inr m409) (fun m hm=>by cases hm))
   have G440:Fr (b140::(b96::(b60::(b32::L)))) w171 w432:=((G360.trans (Fr.ext F369)).trans (Fr.ext F396)).stp F432 (upc (.inr m410) (fun m hm=>by cases hm))
   have G441:Fr (b192::(b140::(b96::(b60::(b32::L))))) w229 w432:=((G361.trans (Fr.ext F369)).trans (Fr.ext F396)).stp F432 (upc (.inr m411) (fun m hm=>by cases hm))
   have G442:Fr (b252::(b192::(b140::(b96::(b60::(b32::L)))))) w295 w432:=((G362.trans (Fr.ext F369)).trans (Fr.ext F396)).stp F432 (upc (.inr m412) (fun m hm=>by cases hm))
   have G443:Fr (b320::(b252::(b192::(b140::(b96::(b60::(b32::L))))))) w369 w432:=G424.stp F432 (upc (.inr m413) (fun m hm=>by cases hm))
   have B444:=((B363.ex F369).ex F396).fr F432 (by simp; omega)
   have B445:=((B364.ex F369).ex F396).fr F432 (by simp; omega)
   have B446:=((B365.ex F369).ex F396).fr F432 (by simp; omega)
   have B447:=((B366.ex F369).ex F396).fr F432 (by simp; omega)
   have B448:=((B367.ex F369).ex F396).fr F432 (by simp; omega)
   have B449:=((B368.ex F369).ex F396).fr F432 (by simp; omega)
   have B450:=((B352'.ex F369).ex F396).fr F432 (by simp; omega)
   have B432':Blk w432 b396 _ (cEnt x369.1 A390 c391 A393 c394):=B432
   refine o_w (v:=.int .i64 x369.2) (r_asg rfl) ?_
   refine eo_nil_sq ?_
   refine ec_seq ?_
   refine ec_region ?_
   refine o_w (v:=.agg (cEnt x19.1 A26 c27 A29 c30).toArray) (r_lda agg_api_Entry rfl (vs:=(cEnt x19.1 A26 c27 A29 c30)) rfl (B444.part (n:=9) rfl)) ?_
   refine o_w (v:=.agg (cEnt x45.1 A54 c55 A57 c58).toArray) (r_lda agg_api_Entry rfl (vs:=(cEnt x45.1 A54 c55 A57 c58)) rfl (B445.part (n:=9) rfl)) ?_
   obtain ⟨ha453,h⟩:=h
   refine o_call cf_ref07_Same rfl (ref07_Same_c x19.1 (kEnt_mk (d:=x19.1) (H28.up G436 sI (upc (.inr m406) (upc (.inr m329) (upc (.inr m260) (upc (.inr m199) (upc (.inr m146) (upc (.inr m101) (upc (.inr m64) (upc (.inr m35) (fun _ h=>.inl h)))))))))) (H31.up G436 sI (upc (.inr m406) (upc (.inr m329) (upc (.inr m260) (upc (.inr m199) (upc (.inr m146) (upc (.inr m101) (upc (.inr m64) (upc (.inr m35) (fun _ h=>.inl h))))))))))) x45.1 (kEnt_mk (d:=x45.1) (H56.up G437 sI (upc (.inr m407) (upc (.inr m330) (upc (.inr m261) (upc (.inr m200) (upc (.inr m147) (upc (.inr m102) (upc (.inr m65) (upc (.inl mH) (fun m hm=>Or.inl (mT hm))))))))))) (H59.up G437 sI (upc (.inr m407) (upc (.inr m330) (upc (.inr m261) (upc (.inr m200) (upc (.inr m147) (upc (.inr m102) (upc (.inr m65) (upc (.inl mH) (fun m hm=>Or.inl (mT hm)))))))))))) (((((((((hL.fr E433).cons B444.lt).cons B445.lt).cons B446.lt).cons B447.lt).cons B448.lt).cons B449.lt).cons B450.lt).cons B432'.lt) (refSameE_ev x19.1 x45.1 ha453)) rfl rfl ?_
   rintro _ w452 ⟨F452,rfl⟩
   have E454:=E433.trans F452
   refine o_w (v:=.bool (sameE x19.1 x45.1)) (r_mov rfl) ?_
   refine o_vg (v:=.agg (cEnt x79.1 A90 c91 A93 c94).toArray) (want_ct (t:=114) rfl rfl) (fun hk=>(r_lda agg_api_Entry rfl (vs:=(cEnt x79.1 A90 c91 A93 c94)) rfl ((B446.ex F452).part (n:=9) rfl))) rfl rfl ?_
   refine o_vg (v:=.agg (cEnt x121.1 A134 c135 A137 c138).toArray) (want_ct (t:=114) rfl rfl) (fun hk=>(r_lda agg_api_Entry rfl (vs:=(cEnt x121.1 A134 c135 A137 c138)) rfl ((B447.ex F452).part (n:=9) rfl))) rfl rfl ?_
   obtain ⟨ha474,h⟩:=h
   refine o_callg (V:=.bool (sameE x79.1 x121.1)) cf_ref07_Same (want_ct (t:=114) rfl rfl) (fun hk=>(mapv2 (gdT hk) (gdT hk))) (fun hk=>(ref07_Same_c x79.1 (kEnt_mk (d:=x79.1) (H92.up (G438.trans (Fr.ext F452)) sI (upc (.inr m408) (upc (.inr m331) (upc (.inr m262) (upc (.inr m201) (upc (.inr m148) (upc (.inr m103) (upc (.inl mH) (upc (.inl (mT mH)) (fun m hm=>Or.inl (mT (mT hm)))))))))))) (H95.up (G438.trans (Fr.ext F452)) sI (upc (.inr m408) (upc (.inr m331) (upc (.inr m262) (upc (.inr m201) (upc (.inr m148) (upc (.inr m103) (upc (.inl mH) (upc (.inl (mT mH)) (fun m hm=>Or.inl (mT (mT hm))))))))))))) x121.1 (kEnt_mk (d:=x121.1) (H136.up (G439.trans (Fr.ext F452)) sI (upc (.inr m409) (upc (.inr m332) (upc (.inr m263) (upc (.inr m202) (upc (.inr m149) (upc (.inl mH) (upc (.inl (mT mH)) (upc (.inl (mT (mT mH))) (fun m hm=>Or.inl (mT (mT (mT hm))))))))))))) (H139.up (G439.trans (Fr.ext F452)) sI (upc (.inr m409) (upc (.inr m332) (upc (.inr m263) (upc (.inr m202) (upc (.inr m149) (upc (.inl mH) (upc (.inl (mT mH)) (upc (.inl (mT (mT mH))) (fun m hm=>Or.inl (mT (mT (mT hm)))))))))))))) (((((((((hL.fr E454).cons (B444.ex F452).lt).cons (B445.ex F452).lt).cons (B446.ex F452).lt).cons (B447.ex F452).lt).cons (B448.ex F452).lt).cons (B449.ex F452).lt).cons (B450.ex F452).lt).cons (B432'.ex F452).lt) (refSameE_ev x79.1 x121.1 (ha474 hk)))) rfl ?_
   intro w473 F473
   have E475:=E454.trans F473
   refine o_w (v:=.bool ((sameE x19.1 x45.1)&&(sameE x79.1 x121.1))) (r_pickAnd rfl (fun ht=>(gdT ht)) rfl) ?_
   refine o_w (v:=.bool ((sameE x19.1 x45.1)&&(sameE x79.1 x121.1))) (r_asg rfl) ?_
   refine eo_nil_sq ?_
   refine ec_seq ?_
   refine ec_region ?_
   refine o_w (v:=.agg (cEnt x171.1 A186 c187 A189 c190).toArray) (r_lda agg_api_Entry rfl (vs:=(cEnt x171.1 A186 c187 A189 c190)) rfl (((B448.ex F452).ex F473).part (n:=9) rfl)) ?_
   refine o_w (v:=.agg (cEnt x229.1 A246 c247 A249 c250).toArray) (r_lda agg_api_Entry rfl (vs:=(cEnt x229.1 A246 c247 A249 c250)) rfl (((B449.ex F452).ex F473).part (n:=9) rfl)) ?_
   obtain ⟨ha496,h⟩:=h
   refine o_call cf_ref07_Same rfl (ref07_Same_c x171.1 (kEnt_mk (d:=x171.1) (H188.up ((G440.trans (Fr.ext F452)).trans (Fr.ext F473)) sI (upc (.inr m410) (upc (.inr m333) (upc (.inr m264) (upc (.inr m203) (upc (.inl mH) (upc (.inl (mT mH)) (upc (.inl (mT (mT mH))) (upc (.inl (mT (mT (mT mH)))) (fun m hm=>Or.inl (mT (mT (mT (mT hm)))))))))))))) (H191.up ((G440.trans (Fr.ext F452)).trans (Fr.ext F473)) sI (upc (.inr m410) (upc (.inr m333) (upc (.inr m264) (upc (.inr m203) (upc (.inl mH) (upc (.inl (mT mH)) (upc (.inl (mT (mT mH))) (upc (.inl (mT (mT (mT mH)))) (fun m hm=>Or.inl (mT (mT (mT (mT hm))))))))))))))) x229.1 (kEnt_mk (d:=x229.1) (H248.up ((G441.trans (Fr.ext F452)).trans (Fr.ext F473)) sI (upc (.inr m411) (upc (.inr m334) (upc (.inr m265) (upc (.inl mH) (upc (.inl (mT mH)) (upc (.inl (mT (mT mH))) (upc (.inl (mT (mT (mT mH)))) (upc (.inl (mT (mT (mT (mT mH))))) (fun m hm=>Or.inl (mT (mT (mT (mT (mT hm))))))))))))))) (H251.up ((G441.trans (Fr.ext F452)).trans (Fr.ext F473)) sI (upc (.inr m411) (upc (.inr m334) (upc (.inr m265) (upc (.inl mH) (upc (.inl (mT mH)) (upc (.inl (mT (mT mH))) (upc (.inl (mT (mT (mT mH)))) (upc (.inl (mT (mT (mT (mT mH))))) (fun m hm=>Or.inl (mT (mT (mT (mT (mT hm)))))))))))))))) (((((((((hL.fr E475).cons ((B444.ex F452).ex F473).lt).cons ((B445.ex F452).ex F473).lt).cons ((B446.ex F452).ex F473).lt).cons ((B447.ex F452).ex F473).lt).cons ((B448.ex F452).ex F473).lt).cons ((B449.ex F452).ex F473).lt).cons ((B450.ex F452).ex F473).lt).cons ((B432'.ex F452).ex F473).lt) (refSameE_ev x171.1 x229.1 ha496)) rfl rfl ?_
   rintro _ w495 ⟨F495,rfl⟩
   have E497:=E475.trans F495
   have G506:=((G442.trans (Fr.ext F452)).trans (Fr.ext F473)).trans (Fr.ext F495)
   have G507:=((G443.trans (Fr.ext F452)).trans (Fr.ext F473)).trans (Fr.ext F495)
   refine o_w (v:=.bool (sameE x171.1 x229.1)) (r_mov rfl) ?_
   refine o_vg (v:=.agg (cEnt x295.1 A314 c315 A317 c318).toArray) (want_ct (t:=122) rfl rfl) (fun hk=>(r_lda agg_api_Entry rfl (vs:=(cEnt x295.1 A314 c315 A317 c318)) rfl ((((B450.ex F452).ex F473).ex F495).part (n:=9) rfl))) rfl rfl ?_
   refine o_vg (v:=.agg (cEnt x369.1 A390 c391 A393 c394).toArray) (want_ct (t:=122) rfl rfl) (fun hk=>(r_lda agg_api_Entry rfl (vs:=(cEnt x369.1 A390 c391 A393 c394)) rfl ((((B432'.ex F452).ex F473).ex F495).part (n:=9) rfl))) rfl rfl ?_
   obtain ⟨ha517,h⟩:=h
   refine o_callg (V:=.bool (sameE x295.1 x369.1)) cf_ref07_Same (want_ct (t:=122) rfl rfl) (fun hk=>(mapv2 (gdT hk) (gdT hk))) (fun hk=>(ref07_Same_c x295.1 (kEnt_mk (d:=x295.1) (H316.up G506 sI (upc (.inr m412) (upc (.inr m335) (upc (.inl mH) (upc (.inl (mT mH)) (upc (.inl (mT (mT mH))) (upc (.inl (mT (mT (mT mH)))) (upc (.inl (mT (mT (mT (mT mH))))) (upc (.inl (mT (mT (mT (mT (mT mH)))))) (fun m hm=>Or.inl (mT (mT (mT (mT (mT (mT hm)))))))))))))))) (H319.up G506 sI (upc (.inr m412) (upc (.inr m335) (upc (.inl mH) (upc (.inl (mT mH)) (upc (.inl (mT (mT mH))) (upc (.inl (mT (mT (mT mH)))) (upc (.inl (mT (mT (mT (mT mH))))) (upc (.inl (mT (mT (mT (mT (mT mH)))))) (fun m hm=>Or.inl (mT (mT (mT (mT (mT (mT hm))))))))))))))))) x369.1 (kEnt_mk (d:=x369.1) (H392.up G507 sI (upc (.inr m413) (upc (.inl mH) (upc (.inl (mT mH)) (upc (.inl (mT (mT mH))) (upc (.inl (mT (mT (mT mH)))) (upc (.inl (mT (mT (mT (mT mH))))) (upc (.inl (mT (mT (mT (mT (mT mH)))))) (upc (.inl (mT (mT (mT (mT (mT (mT mH))))))) (fun m hm=>Or.inl (mT (mT (mT (mT (mT (mT (mT hm))))))))))))))))) (H395.up G507 sI (upc (.inr m413) (upc (.inl mH) (upc (.inl (mT mH)) (upc (.inl (mT (mT mH))) (upc (.inl (mT (mT (mT mH)))) (upc (.inl (mT (mT (mT (mT mH))))) (upc (.inl (mT (mT (mT (mT (mT mH)))))) (upc (.inl (mT (mT (mT (mT (mT (mT mH))))))) (fun m hm=>Or.inl (mT (mT (mT (mT (mT (mT (mT hm)))))))))))))))))) (((((((((hL.fr E497).cons (((B444.ex F452).ex F473).ex F495).lt).cons (((B445.ex F452).ex F473).ex F495).lt).cons (((B446.ex F452).ex F473).ex F495).lt).cons (((B447.ex F452).ex F473).ex F495).lt).cons (((B448.ex F452).ex F473).ex F495).lt).cons (((B449.ex F452).ex F473).ex F495).lt).cons (((B450.ex F452).ex F473).ex F495).lt).cons (((B432'.ex F452).ex F473).ex F495).lt) (refSameE_ev x295.1 x369.1 (ha517 hk)))) rfl ?_
   intro w516 F516
   have E518:=E497.trans F516
   refine o_w (v:=.bool ((sameE x171.1 x229.1)&&(sameE x295.1 x369.1))) (r_pickAnd rfl (fun ht=>(gdT ht)) rfl) ?_
   refine o_w (v:=.bool ((sameE x171.1 x229.1)&&(sameE x295.1 x369.1))) (r_asg rfl) ?_
   refine eo_nil_sq ?_
   refine ec_seq ?_
   refine ec_region ?_
   iterate 2 refine o_w (v:=.bool (worksV)) (r_mov rfl) ?_
   refine o_v (v:=.bool ((sameE x19.1 x45.1)&&(sameE x79.1 x121.1))) (r_mov rfl) (want_t (t:=128) rfl rfl (of_not hc13)) rfl rfl ?_
   refine o_w (v:=.bool ((sameE x19.1 x45.1)&&(sameE x79.1 x121.1))) (r_pickT rfl (of_not hc13) rfl) ?_
   refine o_w (v:=.bool ((sameE x19.1 x45.1)&&(sameE x79.1 x121.1))) (r_mov rfl) ?_
   refine o_vg (v:=.bool ((sameE x171.1 x229.1)&&(sameE x295.1 x369.1))) (want_ct (t:=131) rfl rfl) (fun hk=>(r_mov rfl)) rfl rfl ?_
   refine o_w (v:=.bool (((sameE x19.1 x45.1)&&(sameE x79.1 x121.1))&&((sameE x171.1 x229.1)&&(sameE x295.1 x369.1)))) (r_pickAnd rfl (fun ht=>(gdT ht)) rfl) ?_
   refine o_w (v:=.bool (((sameE x19.1 x45.1)&&(sameE x79.1 x121.1))&&((sameE x171.1 x229.1)&&(sameE x295.1 x369.1)))) (r_mov rfl) ?_
   refine o_vg (v:=.int .i64 x19.2) (want_ct (t:=134) rfl rfl) (fun hk=>(r_mov rfl)) rfl rfl ?_
   refine o_vg (v:=.int .i64 x45.2) (want_ct (t:=134) rfl rfl) (fun hk=>(r_mov rfl)) rfl rfl ?_
   refine o_vg (v:=.bool (x19.2==x45.2)) (want_ct (t:=134) rfl rfl) (fun hk=>(r_int (gdT hk) (gdT hk) rfl)) rfl rfl ?_
   refine o_w (v:=.bool ((((sameE x19.1 x45.1)&&(sameE x79.1 x121.1))&&((sameE x171.1 x229.1)&&(sameE x295.1 x369.1)))&&(x19.2==x45.2))) (r_pickAnd rfl (fun ht=>(gdT ht)) rfl) ?_
   refine o_w (v:=.bool ((((sameE x19.1 x45.1)&&(sameE x79.1 x121.1))&&((sameE x171.1 x229.1)&&(sameE x295.1 x369.1)))&&(x19.2==x45.2))) (r_mov rfl) ?_
   refine o_vg (v:=.int .i64 x79.2) (want_ct (t:=139) rfl rfl) (fun hk=>(r_mov rfl)) rfl rfl ?_
   refine o_vg (v:=.int .i64 x121.2) (want_ct (t:=139) rfl rfl) (fun hk=>(r_mov rfl)) rfl rfl ?_
   refine o_vg (v:=.bool (x79.2==x121.2)) (want_ct (t:=139) rfl rfl) (fun hk=>(r_int (gdT hk) (gdT hk) rfl)) rfl rfl ?_
   refine o_w (v:=.bool (((((sameE x19.1 x45.1)&&(sameE x79.1 x121.1))&&((sameE x171.1 x229.1)&&(sameE x295.1 x369.1)))&&(x19.2==x45.2))&&(x79.2==x121.2))) (r_pickAnd rfl (fun ht=>(gdT ht)) rfl) ?_
   refine o_w (v:=.bool (((((sameE x19.1 x45.1)&&(sameE x79.1 x121.1))&&((sameE x171.1 x229.1)&&(sameE x295.1 x369.1)))&&(x19.2==x45.2))&&(x79.2==x121.2))) (r_mov rfl) ?_
   refine o_vg (v:=.int .i64 x171.2) (want_ct (t:=144) rfl rfl) (fun hk=>(r_mov rfl)) rfl rfl ?_
   refine o_vg (v:=.int .i64 x229.2) (want_ct (t:=144) rfl rfl) (fun hk=>(r_mov rfl)) rfl rfl ?_
   refine o_vg (v:=.bool (x171.2==x229.2)) (want_ct (t:=144) rfl rfl) (fun hk=>(r_int (gdT hk) (gdT hk) rfl)) rfl rfl ?_
   refine o_w (v:=.bool ((((((sameE x19.1 x45.1)&&(sameE x79.1 x121.1))&&((sameE x171.1 x229.1)&&(sameE x295.1 x369.1)))&&(x19.2==x45.2))&&(x79.2==x121.2))&&(x171.2==x229.2))) (r_pickAnd rfl (fun ht=>(gdT ht)) rfl) ?_
   refine o_w (v:=.bool ((((((sameE x19.1 x45.1)&&(sameE x79.1 x121.1))&&((sameE x171.1 x229.1)&&(sameE x295.1 x369.1)))&&(x19.2==x45.2))&&(x79.2==x121.2))&&(x171.2==x229.2))) (r_mov rfl) ?_
   refine o_vg (v:=.int .i64 x295.2) (want_ct (t:=149) rfl rfl) (fun hk=>(r_mov rfl)) rfl rfl ?_
   refine o_vg (v:=.int .i64 x369.2) (want_ct (t:=149) rfl rfl) (fun hk=>(r_mov rfl)) rfl rfl ?_
   refine o_vg (v:=.bool (x295.2==x369.2)) (want_ct (t:=149) rfl rfl) (fun hk=>(r_int (gdT hk) (gdT hk) rfl)) rfl rfl ?_
   refine o_w (v:=.bool (((((((sameE x19.1 x45.1)&&(sameE x79.1 x121.1))&&((sameE x171.1 x229.1)&&(sameE x295.1 x369.1)))&&(x19.2==x45.2))&&(x79.2==x121.2))&&(x171.2==x229.2))&&(x295.2==x369.2))) (r_pickAnd rfl (fun ht=>(gdT ht)) rfl) ?_
   refine o_w (v:=.bool (((((((sameE x19.1 x45.1)&&(sameE x79.1 x121.1))&&((sameE x171.1 x229.1)&&(sameE x295.1 x369.1)))&&(x19.2==x45.2))&&(x79.2==x121.2))&&(x171.2==x229.2))&&(x295.2==x369.2))) (r_asg rfl) ?_
   refine eo_nil_sq ?_
   refine ec_ret ?_
   subst h
   exact (end1 rfl ⟨_,rfl,E518,rfl⟩)
end Go.Proofs.YthhjcijhanacnaaGreat
