/- The law DeltaRefuses: what it comes to. -/
import Derived.Test.YthhjcijhanacnaaLh
namespace Go.Proofs.Ythhjcijhanacnaa
open Go Go.RowKit
set_option linter.unusedVariables false
set_option linter.unusedSimpArgs false
def law09_DeltaRefuses_b134 (x19:Ent × Int) (s134:Int × Int) (z134:(Int × Int) ⊕ (Int × Int)):Prop :=
 (((decide (s134.2<(x19.1.val.plus.length:Int)))&&(decide (s134.2<(x19.1.val.minus.length:Int))))=true→((0≤s134.2∧s134.2<(x19.1.val.plus.length:Int))∧(((decide ((0:Int)<(nth x19.1.val.plus s134.2)))=true→((0≤s134.2∧s134.2<(x19.1.val.minus.length:Int))∧(((decide ((0:Int)<(nth x19.1.val.minus s134.2)))=true→(z134=.inl ((IntKind.i64.wrap ((IntKind.i64.wrap (s134.1 + (1:Int))) + (1:Int))),(IntKind.i64.wrap (s134.2 + (1:Int))))))∧((decide ((0:Int)<(nth x19.1.val.minus s134.2)))=false→(z134=.inl ((IntKind.i64.wrap (s134.1 + (1:Int))),(IntKind.i64.wrap (s134.2 + (1:Int)))))))))∧((decide ((0:Int)<(nth x19.1.val.plus s134.2)))=false→((0≤s134.2∧s134.2<(x19.1.val.minus.length:Int))∧(((decide ((0:Int)<(nth x19.1.val.minus s134.2)))=true→(z134=.inl ((IntKind.i64.wrap (s134.1 + (1:Int))),(IntKind.i64.wrap (s134.2 + (1:Int))))))∧((decide ((0:Int)<(nth x19.1.val.minus s134.2)))=false→(z134=.inl (s134.1,(IntKind.i64.wrap (s134.2 + (1:Int))))))))))))∧(((decide (s134.2<(x19.1.val.plus.length:Int)))&&(decide (s134.2<(x19.1.val.minus.length:Int))))=false→(z134=.inr (s134.1,s134.2)))
def law09_DeltaRefuses_raw (d0:Arena) (d1:Int) (d2:Str) (d3:Int) (y:Bool):Prop :=
 ((!(worksV))=true→(y=false))∧((!(worksV))=false→((((!(fewA d0))||(decide ((100:Int)<(d2.length:Int))))=true→(y=(worksV)))∧(((!(fewA d0))||(decide ((100:Int)<(d2.length:Int))))=false→((sma d0)∧(∃ x19,x19=(addU d0 d1 d2 d3)∧((sma d0)∧(∃ x45,x45=(putU d0 d1 d2 ([]:Str))∧((sma d0)∧(∃ x79,x79=(delU d0 d1 d2)∧((sma d0)∧((((((((checkA d0) != (0:Int))||(decide (d1<(0:Int))))||(decide ((7:Int)<d1)))||(d2==([]:Str)))||(decide ((8:Int)<(d2.length:Int))))=true→(y=(((x19.2==x45.2)&&(x45.2==x79.2))&&(x19.2 != (0:Int)))))∧(((((((checkA d0) != (0:Int))||(decide (d1<(0:Int))))||(decide ((7:Int)<d1)))||(d2==([]:Str)))||(decide ((8:Int)<(d2.length:Int))))=false→(((x19.2 != (0:Int))=true→(y=(x19.1.key==([]:Str))))∧((x19.2 != (0:Int))=false→(∃ x134,LoopR (law09_DeltaRefuses_b134 x19) ((0:Int),(0:Int)) x134∧(((x19.1.key==d2)=true→sm x19.1.val)∧(y=(((x19.1.key==d2)&&((checkV x19.1.val)==(0:Int)))&&(x134.1==(1:Int))))))))))))))))))))
set_option maxRecDepth 20000 in
set_option maxHeartbeats 4000000 in
theorem law09_DeltaRefuses_c {L:List Nat} {w:World} {csP0:List Value} (d0:Arena) (HP0:Stb L w (fun w=>kArena.r w csP0 d0)) (d1:Int) (d2:Str) (d3:Int) (hL:Lt L w) {y:Bool} (h:law09_DeltaRefuses_raw d0 d1 d2 d3 y) :
  Calls Try.prog 4 [.agg csP0.toArray,.int .i64 d1,str d2,.int .i64 d3].toArray w (Ret fun v w'=>Ext w w'∧v=.bool y):=by
 obtain ⟨A1,c2,A4,c5,rfl,H3,H6⟩:=kArena_open HP0
 unfold law09_DeltaRefuses_raw at h
 refine calls_ec Try.func4 rfl rfl rfl ?_
 refine ec_seq ?_
 refine ec_region ?_
 refine o_box (cs:=(cArena d0 A1 c2 A4 c5)) rfl rfl rfl ?_
 intro b7 w7 e7 F7 B7
 have S7:=B7.stb (nin hL e7)
 have G8:Fr L w w7:=Fr.ext F7
 refine o_w (v:=.bool false) (r_asg rfl) ?_
 refine eo_nil_sq ?_
 refine ec_seq ?_
 refine ec_region ?_
 refine o_call cf_law09_works rfl (law09_works_c (hL.fr F7) (works9_ev)) rfl rfl ?_
 rintro _ w9 ⟨F9,rfl⟩
 have E10:=F7.trans F9
 have G12:Fr L w7 w9:=Fr.ext F9
 refine o_w (v:=.bool (worksV)) (r_asg rfl) ?_
 refine eo_nil_sq ?_
 iterate 2 refine ec_seq ?_
 refine ec_region ?_
 refine o_w (v:=.bool (worksV)) (r_mov rfl) ?_
 refine o_w (v:=.bool (!(worksV))) (r_not rfl) ?_
 refine eo_nil_sq ?_
 refine ec_cond rfl (fun hc13=>?_) (fun hc13=>?_)
 ·replace h:=h.1 hc13
  refine ec_seq ?_
  refine ec_region ?_
  refine o_w (v:=.bool false) (r_asg rfl) ?_
  refine eo_nil_sq ?_
  refine ec_ret ?_
  refine sq_ret ?_
  subst h
  exact (end1 rfl ⟨_,rfl,E10,rfl⟩)
 ·replace h:=h.2 hc13
  refine ec_skip ?_
  refine sq_n ?_
  refine ec_seq ?_
  refine ec_region ?_
  refine o_w (v:=.agg (cArena d0 A1 c2 A4 c5).toArray) (r_lda agg_api_Arena rfl (vs:=(cArena d0 A1 c2 A4 c5)) rfl ((S7.fr G12 (fun _ h=>h)).now.part (n:=3) rfl)) ?_
  refine o_call cf_law08_Few rfl (law08_Few_c d0 (kArena_mk (d:=d0) (H3.fr (G8.trans (Fr.ext F9)) (fun _ h=>h)) (H6.fr (G8.trans (Fr.ext F9)) (fun _ h=>h))) (hL.fr E10) (fewA_ev d0)) rfl rfl ?_
  rintro _ w14 ⟨F14,rfl⟩
  have E15:=E10.trans F14
  refine o_w (v:=.bool (fewA d0)) (r_asg rfl) ?_
  refine eo_nil_sq ?_
  iterate 2 refine ec_seq ?_
  refine ec_region ?_
  refine o_w (v:=.bool (fewA d0)) (r_mov rfl) ?_
  refine o_w (v:=.bool (!(fewA d0))) (r_not rfl) ?_
  refine o_w (v:=.bool (!(fewA d0))) (r_mov rfl) ?_
  refine o_vg (v:=str d2) (want_cf (t:=27) rfl rfl) (fun hk=>(r_mov rfl)) rfl rfl ?_
  refine o_vg (v:=.int .i64 (d2.length:Int)) (want_cf (t:=27) rfl rfl) (fun hk=>(r_len_str un_string (gdT hk))) rfl rfl ?_
  refine o_vg (v:=.bool (decide ((100:Int)<(d2.length:Int)))) (want_cf (t:=27) rfl rfl) (fun hk=>(r_int (gdT hk) rfl rfl)) rfl rfl ?_
  refine o_w (v:=.bool ((!(fewA d0))||(decide ((100:Int)<(d2.length:Int))))) (r_pickOr rfl rfl (fun hf=>(gdT (notT hf)))) ?_
  refine eo_nil_sq ?_
  refine ec_cond rfl (fun hc18=>?_) (fun hc18=>?_)
  ·replace h:=h.1 hc18
   refine ec_seq ?_
   refine ec_region ?_
   refine o_w (v:=.bool (worksV)) (r_mov rfl) ?_
   refine o_w (v:=.bool (worksV)) (r_asg rfl) ?_
   refine eo_nil_sq ?_
   refine ec_ret ?_
   refine sq_ret ?_
   subst h
   exact (end1 rfl ⟨_,rfl,E15,rfl⟩)
  ·replace h:=h.2 hc18
   refine ec_skip ?_
   refine sq_n ?_
   refine ec_seq ?_
   refine ec_region ?_
   refine o_w (v:=.agg (cArena d0 A1 c2 A4 c5).toArray) (r_lda agg_api_Arena rfl (vs:=(cArena d0 A1 c2 A4 c5)) rfl ((S7.fr (G12.trans (Fr.ext F14)) (fun _ h=>h)).now.part (n:=3) rfl)) ?_
   refine o_w (v:=.int .i64 d1) (r_mov rfl) ?_
   refine o_w (v:=str d2) (r_mov rfl) ?_
   refine o_w (v:=.int .i64 d3) (r_mov rfl) ?_
   obtain ⟨ha20,h⟩:=h
   obtain ⟨x19,hx19,h⟩:=h
   refine o_call cf_delta_Add rfl (delta_Add_c d0 (kArena_mk (d:=d0) (H3.fr ((G8.trans (Fr.ext F9)).trans (Fr.ext F14)) (fun _ h=>h)) (H6.fr ((G8.trans (Fr.ext F9)).trans (Fr.ext F14)) (fun _ h=>h))) d1 d2 d3 (hL.fr E15) (eq_ev hx19 (add_ev d0 d1 d2 d3 ha20))) rfl rfl ?_
   rintro _ w19 ⟨F19,cs21,rfl,H22⟩
   have E23:=E15.trans F19
   obtain ⟨A26,c27,A29,c30,rfl,H28,H31⟩:=kEnt_open H22
   refine o_w (v:=.tuple #[.agg (cEnt x19.1 A26 c27 A29 c30).toArray,.int .i64 x19.2]) (r_mov rfl) ?_
   refine o_w (v:=.agg (cEnt x19.1 A26 c27 A29 c30).toArray) (r_ext rfl rfl) ?_
   refine o_w (v:=.int .i64 x19.2) (r_ext rfl rfl) ?_
   refine o_alloc zero_api_Entry rfl rfl rfl ?_
   intro b32 w32 e32 F32 B32
   have n32:w.heap.size≤b32:=by rw [e32]; exact E23.size
   have m33:w.heap.size≤b32:=by rw [e32]; exact (((G8.trans (Fr.ext F9)).trans (Fr.ext F14)).trans (Fr.ext F19)).size
   have m34:w7.heap.size≤b32:=by rw [e32]; exact ((G12.trans (Fr.ext F14)).trans (Fr.ext F19)).size
   have m35:w19.heap.size≤b32:=Nat.le_of_eq e32.symm
   have E36:=E23.trans F32
   have G37:=(((G8.trans (Fr.ext F9)).trans (Fr.ext F14)).trans (Fr.ext F19)).trans (Fr.ext F32)
   have G39:Fr L w19 w32:=Fr.ext F32
   refine o_store rfl B32 (vs:=(cEnt x19.1 A26 c27 A29 c30)) rfl sz_api_Entry rfl rfl rfl ?_
   intro w40 F40 B40
   have E41:=Ext.st E36 F40 (by simp; omega)
   have G42:Fr L w w40:=G37.stp F40 (upc (.inr m33) (fun m hm=>by cases hm))
   have G43:Fr L w7 w40:=(((G12.trans (Fr.ext F14)).trans (Fr.ext F19)).trans (Fr.ext F32)).stp F40 (upc (.inr m34) (fun m hm=>by cases hm))
   have G44:Fr L w19 w40:=G39.stp F40 (upc (.inr m35) (fun m hm=>by cases hm))
   have B40':Blk w40 b32 _ (cEnt x19.1 A26 c27 A29 c30):=B40
   refine o_w (v:=.int .i64 x19.2) (r_asg rfl) ?_
   refine eo_nil_sq ?_
   refine ec_seq ?_
   refine ec_region ?_
   refine o_w (v:=.agg (cArena d0 A1 c2 A4 c5).toArray) (r_lda agg_api_Arena rfl (vs:=(cArena d0 A1 c2 A4 c5)) rfl ((S7.fr G43 (fun _ h=>h)).now.part (n:=3) rfl)) ?_
   refine o_w (v:=.int .i64 d1) (r_mov rfl) ?_
   refine o_w (v:=str d2) (r_mov rfl) ?_
   obtain ⟨ha46,h⟩:=h
   obtain ⟨x45,hx45,h⟩:=h
   refine o_call cf_delta_Put rfl (delta_Put_c d0 (kArena_mk (d:=d0) (H3.up G42 (fun _ h=>h) (upc (.inr m33) (fun _ h=>.inl h))) (H6.up G42 (fun _ h=>h) (upc (.inr m33) (fun _ h=>.inl h)))) d1 d2 ([]:Str) ((hL.fr E41).cons B40'.lt) (eq_ev hx45 (put_ev d0 d1 d2 ([]:Str) ha46))) rfl rfl ?_
   rintro _ w45 ⟨F45,cs47,rfl,H48⟩
   have E49:=E41.trans F45
   obtain ⟨A54,c55,A57,c58,rfl,H56,H59⟩:=kEnt_open H48
   refine o_w (v:=.tuple #[.agg (cEnt x45.1 A54 c55 A57 c58).toArray,.int .i64 x45.2]) (r_mov rfl) ?_
   refine o_w (v:=.agg (cEnt x45.1 A54 c55 A57 c58).toArray) (r_ext rfl rfl) ?_
   refine o_w (v:=.int .i64 x45.2) (r_ext rfl rfl) ?_
   refine o_alloc zero_api_Entry rfl rfl rfl ?_
   intro b60 w60 e60 F60 B60
   have n60:w.heap.size≤b60:=by rw [e60]; exact E49.size
   have q61:b32<b60:=by rw [e60]; exact (B40'.ex F45).lt
   have m62:w.heap.size≤b60:=by rw [e60]; exact (G42.trans (Fr.ext F45)).size
   have m63:w7.heap.size≤b60:=by rw [e60]; exact (G43.trans (Fr.ext F45)).size
   have m64:w19.heap.size≤b60:=by rw [e60]; exact (G44.trans (Fr.ext F45)).size
   have E66:=E49.trans F60
   refine o_store rfl B60 (vs:=(cEnt x45.1 A54 c55 A57 c58)) rfl sz_api_Entry rfl rfl rfl ?_
   intro w72 F72 B72
   have E73:=Ext.st E66 F72 (by simp; omega)
   have G74:Fr L w w72:=((G42.trans (Fr.ext F45)).trans (Fr.ext F60)).stp F72 (upc (.inr m62) (fun m hm=>by cases hm))
   have G75:Fr L w7 w72:=((G43.trans (Fr.ext F45)).trans (Fr.ext F60)).stp F72 (upc (.inr m63) (fun m hm=>by cases hm))
   have G76:Fr L w19 w72:=((G44.trans (Fr.ext F45)).trans (Fr.ext F60)).stp F72 (upc (.inr m64) (fun m hm=>by cases hm))
   have B78:=((B40'.ex F45).ex F60).fr F72 (by simp; omega)
   have B72':Blk w72 b60 _ (cEnt x45.1 A54 c55 A57 c58):=B72
   refine o_w (v:=.int .i64 x45.2) (r_asg rfl) ?_
   refine eo_nil_sq ?_
   refine ec_seq ?_
   refine ec_region ?_
   refine o_w (v:=.agg (cArena d0 A1 c2 A4 c5).toArray) (r_lda agg_api_Arena rfl (vs:=(cArena d0 A1 c2 A4 c5)) rfl ((S7.fr G75 (fun _ h=>h)).now.part (n:=3) rfl)) ?_
   refine o_w (v:=.int .i64 d1) (r_mov rfl) ?_
   refine o_w (v:=str d2) (r_mov rfl) ?_
   obtain ⟨ha80,h⟩:=h
   obtain ⟨x79,hx79,h⟩:=h
   refine o_call cf_delta_Delete rfl (delta_Delete_c d0 (kArena_mk (d:=d0) (H3.up G74 (fun _ h=>h) (upc (.inr m62) (upc (.inr m33) (fun _ h=>.inl h)))) (H6.up G74 (fun _ h=>h) (upc (.inr m62) (upc (.inr m33) (fun _ h=>.inl h))))) d1 d2 (((hL.fr E73).cons B78.lt).cons B72'.lt) (eq_ev hx79 (del_ev d0 d1 d2 ha80))) rfl rfl ?_
   rintro _ w79 ⟨F79,cs81,rfl,H82⟩
   have E83:=E73.trans F79
   obtain ⟨A90,c91,A93,c94,rfl,H92,H95⟩:=kEnt_open H82
   refine o_w (v:=.tuple #[.agg (cEnt x79.1 A90 c91 A93 c94).toArray,.int .i64 x79.2]) (r_mov rfl) ?_
   refine o_w (v:=.agg (cEnt x79.1 A90 c91 A93 c94).toArray) (r_ext rfl rfl) ?_
   refine o_w (v:=.int .i64 x79.2) (r_ext rfl rfl) ?_
   refine o_alloc zero_api_Entry rfl rfl rfl ?_
   intro b96 w96 e96 F96 B96
   have n96:w.heap.size≤b96:=by rw [e96]; exact E83.size
   have q97:b32<b96:=by rw [e96]; exact (B78.ex F79).lt
   have q98:b60<b96:=by rw [e96]; exact (B72'.ex F79).lt
   have m99:w.heap.size≤b96:=by rw [e96]; exact (G74.trans (Fr.ext F79)).size
   have m100:w7.heap.size≤b96:=by rw [e96]; exact (G75.trans (Fr.ext F79)).size
   have m101:w19.heap.size≤b96:=by rw [e96]; exact (G76.trans (Fr.ext F79)).size
   have E104:=E83.trans F96
   refine o_store rfl B96 (vs:=(cEnt x79.1 A90 c91 A93 c94)) rfl sz_api_Entry rfl rfl rfl ?_
   intro w112 F112 B112
   have E113:=Ext.st E104 F112 (by simp; omega)
   have G114:Fr L w w112:=((G74.trans (Fr.ext F79)).trans (Fr.ext F96)).stp F112 (upc (.inr m99) (fun m hm=>by cases hm))
   have G115:Fr L w7 w112:=((G75.trans (Fr.ext F79)).trans (Fr.ext F96)).stp F112 (upc (.inr m100) (fun m hm=>by cases hm))
   have G116:Fr L w19 w112:=((G76.trans (Fr.ext F79)).trans (Fr.ext F96)).stp F112 (upc (.inr m101) (fun m hm=>by cases hm))
   have B119:=((B78.ex F79).ex F96).fr F112 (by simp; omega)
   have B120:=((B72'.ex F79).ex F96).fr F112 (by simp; omega)
   have B112':Blk w112 b96 _ (cEnt x79.1 A90 c91 A93 c94):=B112
   refine o_w (v:=.int .i64 x79.2) (r_asg rfl) ?_
   refine eo_nil_sq ?_
   refine ec_seq ?_
   refine ec_region ?_
   refine o_w (v:=.agg (cArena d0 A1 c2 A4 c5).toArray) (r_lda agg_api_Arena rfl (vs:=(cArena d0 A1 c2 A4 c5)) rfl ((S7.fr G115 (fun _ h=>h)).now.part (n:=3) rfl)) ?_
   obtain ⟨ha122,h⟩:=h
   refine o_call cf_arena_Check rfl (arena_Check_c d0 (kArena_mk (d:=d0) (H3.up G114 (fun _ h=>h) (upc (.inr m99) (upc (.inr m62) (upc (.inr m33) (fun _ h=>.inl h))))) (H6.up G114 (fun _ h=>h) (upc (.inr m99) (upc (.inr m62) (upc (.inr m33) (fun _ h=>.inl h)))))) ((((hL.fr E113).cons B119.lt).cons B120.lt).cons B112'.lt) (arCheck_ev d0 ha122)) rfl rfl ?_
   rintro _ w121 ⟨F121,rfl⟩
   have E123:=E113.trans F121
   refine o_w (v:=.bool ((checkA d0) != (0:Int))) (r_int rfl rfl rfl) ?_
   refine o_w (v:=.bool ((checkA d0) != (0:Int))) (r_mov rfl) ?_
   refine o_vg (v:=.int .i64 d1) (want_cf (t:=58) rfl rfl) (fun hk=>(r_mov rfl)) rfl rfl ?_
   refine o_vg (v:=.bool (decide (d1<(0:Int)))) (want_cf (t:=58) rfl rfl) (fun hk=>(r_int (gdT hk) rfl rfl)) rfl rfl ?_
   refine o_w (v:=.bool (((checkA d0) != (0:Int))||(decide (d1<(0:Int))))) (r_pickOr rfl rfl (fun hf=>(gdT (notT hf)))) ?_
   refine o_w (v:=.bool (((checkA d0) != (0:Int))||(decide (d1<(0:Int))))) (r_mov rfl) ?_
   refine o_vg (v:=.int .i64 d1) (want_cf (t:=62) rfl rfl) (fun hk=>(r_mov rfl)) rfl rfl ?_
   refine o_vg (v:=.bool (decide ((7:Int)<d1))) (want_cf (t:=62) rfl rfl) (fun hk=>(r_int (gdT hk) rfl rfl)) rfl rfl ?_
   refine o_w (v:=.bool ((((checkA d0) != (0:Int))||(decide (d1<(0:Int))))||(decide ((7:Int)<d1)))) (r_pickOr rfl rfl (fun hf=>(gdT (notT hf)))) ?_
   refine o_w (v:=.bool ((((checkA d0) != (0:Int))||(decide (d1<(0:Int))))||(decide ((7:Int)<d1)))) (r_mov rfl) ?_
   refine o_vg (v:=str d2) (want_cf (t:=66) rfl rfl) (fun hk=>(r_mov rfl)) rfl rfl ?_
   refine o_vg (v:=.bool (d2==([]:Str))) (want_cf (t:=66) rfl rfl) (fun hk=>(r_str (gdT hk) rfl rfl)) rfl rfl ?_
   refine o_w (v:=.bool (((((checkA d0) != (0:Int))||(decide (d1<(0:Int))))||(decide ((7:Int)<d1)))||(d2==([]:Str)))) (r_pickOr rfl rfl (fun hf=>(gdT (notT hf)))) ?_
   refine o_w (v:=.bool (((((checkA d0) != (0:Int))||(decide (d1<(0:Int))))||(decide ((7:Int)<d1)))||(d2==([]:Str)))) (r_mov rfl) ?_
   refine o_vg (v:=str d2) (want_cf (t:=70) rfl rfl) (fun hk=>(r_mov rfl)) rfl rfl ?_
   refine o_vg (v:=.int .i64 (d2.length:Int)) (want_cf (t:=70) rfl rfl) (fun hk=>(r_len_str un_string (gdT hk))) rfl rfl ?_
   refine o_vg (v:=.bool (decide ((8:Int)<(d2.length:Int)))) (want_cf (t:=70) rfl rfl) (fun hk=>(r_int (gdT hk) rfl rfl)) rfl rfl ?_
   refine o_w (v:=.bool ((((((checkA d0) != (0:Int))||(decide (d1<(0:Int))))||(decide ((7:Int)<d1)))||(d2==([]:Str)))||(decide ((8:Int)<(d2.length:Int))))) (r_pickOr rfl rfl (fun hf=>(gdT (notT hf)))) ?_
   refine o_w (v:=.bool ((((((checkA d0) != (0:Int))||(decide (d1<(0:Int))))||(decide ((7:Int)<d1)))||(d2==([]:Str)))||(decide ((8:Int)<(d2.length:Int))))) (r_asg rfl) ?_
   refine eo_nil_sq ?_
   iterate 2 refine ec_seq ?_
   refine ec_region ?_
   refine o_w (v:=.bool ((((((checkA d0) != (0:Int))||(decide (d1<(0:Int))))||(decide ((7:Int)<d1)))||(d2==([]:Str)))||(decide ((8:Int)<(d2.length:Int))))) (r_mov rfl) ?_
   refine eo_nil_sq ?_
   refine ec_cond rfl (fun hc132=>?_) (fun hc132=>?_)
   ·replace h:=h.1 hc132
    refine ec_seq ?_
    refine ec_region ?_
    iterate 2 refine o_w (v:=.bool (worksV)) (r_mov rfl) ?_
    refine o_v (v:=.int .i64 x19.2) (r_mov rfl) (want_t (t:=77) rfl rfl (of_not hc13)) rfl rfl ?_
    refine o_v (v:=.int .i64 x45.2) (r_mov rfl) (want_t (t:=77) rfl rfl (of_not hc13)) rfl rfl ?_
    refine o_v (v:=.bool (x19.2==x45.2)) (r_int rfl rfl rfl) (want_t (t:=77) rfl rfl (of_not hc13)) rfl rfl ?_
    refine o_w (v:=.bool (x19.2==x45.2)) (r_pickT rfl (of_not hc13) rfl) ?_
    refine o_w (v:=.bool (x19.2==x45.2)) (r_mov rfl) ?_
    refine o_vg (v:=.int .i64 x45.2) (want_ct (t:=82) rfl rfl) (fun hk=>(r_mov rfl)) rfl rfl ?_
    refine o_vg (v:=.int .i64 x79.2) (want_ct (t:=82) rfl rfl) (fun hk=>(r_mov rfl)) rfl rfl ?_
    refine o_vg (v:=.bool (x45.2==x79.2)) (want_ct (t:=82) rfl rfl) (fun hk=>(r_int (gdT hk) (gdT hk) rfl)) rfl rfl ?_
    refine o_w (v:=.bool ((x19.2==x45.2)&&(x45.2==x79.2))) (r_pickAnd rfl (fun ht=>(gdT ht)) rfl) ?_
    refine o_w (v:=.bool ((x19.2==x45.2)&&(x45.2==x79.2))) (r_mov rfl) ?_
    refine o_vg (v:=.int .i64 x19.2) (want_ct (t:=87) rfl rfl) (fun hk=>(r_mov rfl)) rfl rfl ?_
    refine o_vg (v:=.bool (x19.2 != (0:Int))) (want_ct (t:=87) rfl rfl) (fun hk=>(r_int (gdT hk) rfl rfl)) rfl rfl ?_
    refine o_w (v:=.bool (((x19.2==x45.2)&&(x45.2==x79.2))&&(x19.2 != (0:Int)))) (r_pickAnd rfl (fun ht=>(gdT ht)) rfl) ?_
    refine o_w (v:=.bool (((x19.2==x45.2)&&(x45.2==x79.2))&&(x19.2 != (0:Int)))) (r_asg rfl) ?_
    refine eo_nil_sq ?_
    refine ec_ret ?_
    refine sq_ret ?_
    subst h
    exact (end1 rfl ⟨_,rfl,E123,rfl⟩)
   ·replace h:=h.2 hc132
    refine ec_skip ?_
    refine sq_n ?_
    iterate 2 refine ec_seq ?_
    refine ec_region ?_
    refine o_w (v:=.int .i64 x19.2) (r_mov rfl) ?_
    refine o_w (v:=.bool (x19.2 != (0:Int))) (r_int rfl rfl rfl) ?_
    refine eo_nil_sq ?_
    refine ec_cond rfl (fun hc133=>?_) (fun hc133=>?_)
    ·replace h:=h.1 hc133
     refine ec_seq ?_
     refine ec_region ?_
     iterate 2 refine o_w (v:=.bool (worksV)) (r_mov rfl) ?_
     refine o_v (v:=.pointer (some ⟨b32,0,none⟩)) (r_fa fld_api_Entry_0 rfl rfl) (want_t (t:=94) rfl rfl (of_not hc13)) rfl rfl ?_
     refine o_v (v:=str x19.1.key) (r_ld one_string rfl ((B119.ex F121).cell rfl)) (want_t (t:=94) rfl rfl (of_not hc13)) rfl rfl ?_
     refine o_v (v:=.bool (x19.1.key==([]:Str))) (r_str rfl rfl rfl) (want_t (t:=94) rfl rfl (of_not hc13)) rfl rfl ?_
     refine o_w (v:=.bool (x19.1.key==([]:Str))) (r_pickT rfl (of_not hc13) rfl) ?_
     refine o_w (v:=.bool (x19.1.key==([]:Str))) (r_asg rfl) ?_
     refine eo_nil_sq ?_
     refine ec_ret ?_
     refine sq_ret ?_
     subst h
     exact (end1 rfl ⟨_,rfl,E123,rfl⟩)
    ·replace h:=h.2 hc133
     refine ec_skip ?_
     refine sq_n ?_
     refine ec_seq ?_
     refine ec_region ?_
     refine o_w (v:=.int .i64 (0:Int)) (r_asg rfl) ?_
     refine eo_nil_sq ?_
     iterate 2 refine ec_seq ?_
     refine ec_region ?_
     refine o_w (v:=.int .i64 (0:Int)) (r_asg rfl) ?_
     refine eo_nil_sq ?_
     refine ec_block ?_
     obtain ⟨x134,hl134,h⟩:=h
     refine ec_loopE 0 (I:=(fun (s134:Int × Int) ρ ds w'=>∃ (ρ':Env),ρ=envs ρ' [(18,.int .i64 s134.1),(19,.int .i64 s134.2),(2,str d2),(9,.bool (worksV)),(11,.pointer (some ⟨b32,0,none⟩))]∧ds=[]∧Fr (b96::(b60::(b32::L))) w121 w'∧Ext w w'∧Blk w' b32 32 (cEnt x19.1 A26 c27 A29 c30)∧Blk w' b60 32 (cEnt x45.1 A54 c55 A57 c58)∧Blk w' b96 32 (cEnt x79.1 A90 c91 A93 c94))) ?_ hl134 ?_ ?_
     ·intro s134 z134 ρ134 ds134 w134r hI134 hb134
      obtain ⟨ρ134r,rfl,rfl,F134r,E134r,B134rb32,B134rb60,B134rb96⟩:=hI134
      have h:=hb134
      unfold law09_DeltaRefuses_b134 at h
      have G137:Fr L w19 w134r:=(G116.trans (Fr.ext F121)).stp F134r (upc (.inr m101) (upc (.inr m64) (upc (.inr m35) (fun _ h=>.inl h))))
      iterate 2 refine ec_seq ?_
      refine ec_region ?_
      refine o_w (v:=.int .i64 s134.2) (r_mov rfl) ?_
      refine o_w (v:=.pointer (some ⟨b32,1,none⟩)) (r_fa fld_api_Entry_1 rfl rfl) ?_
      refine o_w (v:=.pointer (some ⟨b32,6,none⟩)) (r_fa fld_api_Value_5 rfl rfl) ?_
      refine o_w (v:=.slice A26 x19.1.val.plus.length c27) (r_ld one_s_int rfl (B134rb32.cell rfl)) ?_
      refine o_w (v:=.int .i64 (x19.1.val.plus.length:Int)) (r_len_slc un_s_int rfl) ?_
      refine o_w (v:=.bool (decide (s134.2<(x19.1.val.plus.length:Int)))) (r_int rfl rfl rfl) ?_
      refine o_w (v:=.bool (decide (s134.2<(x19.1.val.plus.length:Int)))) (r_mov rfl) ?_
      refine o_vg (v:=.int .i64 s134.2) (want_ct (t:=105) rfl rfl) (fun hk=>(r_mov rfl)) rfl rfl ?_
      refine o_vg (v:=.pointer (some ⟨b32,1,none⟩)) (want_ct (t:=105) rfl rfl) (fun hk=>(r_fa fld_api_Entry_1 rfl rfl)) rfl rfl ?_
      refine o_vg (v:=.pointer (some ⟨b32,7,none⟩)) (want_ct (t:=105) rfl rfl) (fun hk=>(r_fa fld_api_Value_6 rfl (gdT hk))) rfl rfl ?_
      refine o_vg (v:=.slice A29 x19.1.val.minus.length c30) (want_ct (t:=105) rfl rfl) (fun hk=>(r_ld one_s_int (gdT hk) (B134rb32.cell rfl))) rfl rfl ?_
      refine o_vg (v:=.int .i64 (x19.1.val.minus.length:Int)) (want_ct (t:=105) rfl rfl) (fun hk=>(r_len_slc un_s_int (gdT hk))) rfl rfl ?_
      refine o_vg (v:=.bool (decide (s134.2<(x19.1.val.minus.length:Int)))) (want_ct (t:=105) rfl rfl) (fun hk=>(r_int (gdT hk) (gdT hk) rfl)) rfl rfl ?_
      refine o_w (v:=.bool ((decide (s134.2<(x19.1.val.plus.length:Int)))&&(decide (s134.2<(x19.1.val.minus.length:Int))))) (r_pickAnd rfl (fun ht=>(gdT ht)) rfl) ?_
      refine eo_nil_sq ?_
      refine ec_cond rfl (fun hc140=>?_) (fun hc140=>?_)
      ·replace h:=h.1 hc140
       refine ec_skip ?_
       refine sq_n ?_
       refine ec_seq ?_
       refine ec_block ?_
       iterate 2 refine ec_seq ?_
       refine ec_region ?_
       refine o_w (v:=.pointer (some ⟨b32,1,none⟩)) (r_fa fld_api_Entry_1 rfl rfl) ?_
       refine o_w (v:=.pointer (some ⟨b32,6,none⟩)) (r_fa fld_api_Value_5 rfl rfl) ?_
       refine o_w (v:=.slice A26 x19.1.val.plus.length c27) (r_ld one_s_int rfl (B134rb32.cell rfl)) ?_
       refine o_w (v:=.int .i64 s134.2) (r_mov rfl) ?_
       obtain ⟨ha141,h⟩:=h
       obtain ⟨cs142,l144,H143⟩:=Stb.elem (by decide) (H28.up G137 (fun _ h=>h) (upc (.inr m101) (upc (.inr m64) (upc (.inr m35) (fun _ h=>.inl h))))) s134.2 ha141.1 ha141.2
       obtain ⟨rfl,H143'⟩:=kI_open2 H143
       refine o_w (v:=.pointer (some (elemA A26 (kI .i64).n s134.2.toNat))) (r_ia slc_s_int rfl rfl ((H28.fr G137 (fun _ h=>h)).now.2 _ (lt_toNat ha141.1 ha141.2)).1 ha141.1 ha141.2) ?_
       refine o_w (v:=.int .i64 (nth x19.1.val.plus s134.2)) (r_ld' one_int rfl (elemA_spot _ _ _) (H143'.now.1.at0 (elemA_spot _ _ _))) ?_
       refine o_w (v:=.bool (decide ((0:Int)<(nth x19.1.val.plus s134.2)))) (r_int rfl rfl rfl) ?_
       refine eo_nil_sq ?_
       refine ec_cond rfl (fun hc145=>?_) (fun hc145=>?_)
       ·replace h:=h.1 hc145
        refine ec_region ?_
        refine o_w (v:=.int .i64 s134.1) (r_mov rfl) ?_
        refine o_w (v:=.int .i64 (IntKind.i64.wrap (s134.1 + (1:Int)))) (r_int rfl rfl rfl) ?_
        refine o_w (v:=.int .i64 (IntKind.i64.wrap (s134.1 + (1:Int)))) (r_asg rfl) ?_
        refine eo_nil_sq ?_
        refine ec_seq ?_
        refine ec_region ?_
        refine o_w (v:=.pointer (some ⟨b32,1,none⟩)) (r_fa fld_api_Entry_1 rfl rfl) ?_
        refine o_w (v:=.pointer (some ⟨b32,7,none⟩)) (r_fa fld_api_Value_6 rfl rfl) ?_
        refine o_w (v:=.slice A29 x19.1.val.minus.length c30) (r_ld one_s_int rfl (B134rb32.cell rfl)) ?_
        refine o_w (v:=.int .i64 s134.2) (r_mov rfl) ?_
        obtain ⟨ha146,h⟩:=h
        obtain ⟨cs147,l149,H148⟩:=Stb.elem (by decide) (H31.up G137 (fun _ h=>h) (upc (.inr m101) (upc (.inr m64) (upc (.inr m35) (fun _ h=>.inl h))))) s134.2 ha146.1 ha146.2
        obtain ⟨rfl,H148'⟩:=kI_open2 H148
        refine o_w (v:=.pointer (some (elemA A29 (kI .i64).n s134.2.toNat))) (r_ia slc_s_int rfl rfl ((H31.fr G137 (fun _ h=>h)).now.2 _ (lt_toNat ha146.1 ha146.2)).1 ha146.1 ha146.2) ?_
        refine o_w (v:=.int .i64 (nth x19.1.val.minus s134.2)) (r_ld' one_int rfl (elemA_spot _ _ _) (H148'.now.1.at0 (elemA_spot _ _ _))) ?_
        refine o_w (v:=.bool (decide ((0:Int)<(nth x19.1.val.minus s134.2)))) (r_int rfl rfl rfl) ?_
        refine eo_nil_sq ?_
        refine ec_cond rfl (fun hc150=>?_) (fun hc150=>?_)
        ·replace h:=h.1 hc150
         refine ec_region ?_
         refine o_w (v:=.int .i64 (IntKind.i64.wrap (s134.1 + (1:Int)))) (r_mov rfl) ?_
         refine o_w (v:=.int .i64 (IntKind.i64.wrap ((IntKind.i64.wrap (s134.1 + (1:Int))) + (1:Int)))) (r_int rfl rfl rfl) ?_
         refine o_w (v:=.int .i64 (IntKind.i64.wrap ((IntKind.i64.wrap (s134.1 + (1:Int))) + (1:Int)))) (r_asg rfl) ?_
         refine eo_nil ?_
         refine blk_n ?_
         refine sq_n ?_
         refine ec_region ?_
         refine o_w (v:=.int .i64 s134.2) (r_mov rfl) ?_
         refine o_w (v:=.int .i64 (IntKind.i64.wrap (s134.2 + (1:Int)))) (r_int rfl rfl rfl) ?_
         refine o_w (v:=.int .i64 (IntKind.i64.wrap (s134.2 + (1:Int)))) (r_asg rfl) ?_
         refine eo_nil ?_
         subst h
         exact lq_n ⟨_,envs_self ⟨rfl,rfl,rfl,rfl,rfl,trivial⟩,rfl,F134r,E134r,B134rb32,B134rb60,B134rb96⟩
        ·replace h:=h.2 hc150
         refine ec_skip ?_
         refine blk_n ?_
         refine sq_n ?_
         refine ec_region ?_
         refine o_w (v:=.int .i64 s134.2) (r_mov rfl) ?_
         refine o_w (v:=.int .i64 (IntKind.i64.wrap (s134.2 + (1:Int)))) (r_int rfl rfl rfl) ?_
         refine o_w (v:=.int .i64 (IntKind.i64.wrap (s134.2 + (1:Int)))) (r_asg rfl) ?_
         refine eo_nil ?_
         subst h
         exact lq_n ⟨_,envs_self ⟨rfl,rfl,rfl,rfl,rfl,trivial⟩,rfl,F134r,E134r,B134rb32,B134rb60,B134rb96⟩
       ·replace h:=h.2 hc145
        refine ec_skip ?_
        refine sq_n ?_
        refine ec_seq ?_
        refine ec_region ?_
        refine o_w (v:=.pointer (some ⟨b32,1,none⟩)) (r_fa fld_api_Entry_1 rfl rfl) ?_
        refine o_w (v:=.pointer (some ⟨b32,7,none⟩)) (r_fa fld_api_Value_6 rfl rfl) ?_
        refine o_w (v:=.slice A29 x19.1.val.minus.length c30) (r_ld one_s_int rfl (B134rb32.cell rfl)) ?_
        refine o_w (v:=.int .i64 s134.2) (r_mov rfl) ?_
        obtain ⟨ha151,h⟩:=h
        obtain ⟨cs152,l154,H153⟩:=Stb.elem (by decide) (H31.up G137 (fun _ h=>h) (upc (.inr m101) (upc (.inr m64) (upc (.inr m35) (fun _ h=>.inl h))))) s134.2 ha151.1 ha151.2
        obtain ⟨rfl,H153'⟩:=kI_open2 H153
        refine o_w (v:=.pointer (some (elemA A29 (kI .i64).n s134.2.toNat))) (r_ia slc_s_int rfl rfl ((H31.fr G137 (fun _ h=>h)).now.2 _ (lt_toNat ha151.1 ha151.2)).1 ha151.1 ha151.2) ?_
        refine o_w (v:=.int .i64 (nth x19.1.val.minus s134.2)) (r_ld' one_int rfl (elemA_spot _ _ _) (H153'.now.1.at0 (elemA_spot _ _ _))) ?_
        refine o_w (v:=.bool (decide ((0:Int)<(nth x19.1.val.minus s134.2)))) (r_int rfl rfl rfl) ?_
        refine eo_nil_sq ?_
        refine ec_cond rfl (fun hc155=>?_) (fun hc155=>?_)
        ·replace h:=h.1 hc155
         refine ec_region ?_
         refine o_w (v:=.int .i64 s134.1) (r_mov rfl) ?_
         refine o_w (v:=.int .i64 (IntKind.i64.wrap (s134.1 + (1:Int)))) (r_int rfl rfl rfl) ?_
         refine o_w (v:=.int .i64 (IntKind.i64.wrap (s134.1 + (1:Int)))) (r_asg rfl) ?_
         refine eo_nil ?_
         refine blk_n ?_
         refine sq_n ?_
         refine ec_region ?_
         refine o_w (v:=.int .i64 s134.2) (r_mov rfl) ?_
         refine o_w (v:=.int .i64 (IntKind.i64.wrap (s134.2 + (1:Int)))) (r_int rfl rfl rfl) ?_
         refine o_w (v:=.int .i64 (IntKind.i64.wrap (s134.2 + (1:Int)))) (r_asg rfl) ?_
         refine eo_nil ?_
         subst h
         exact lq_n ⟨_,envs_self ⟨rfl,rfl,rfl,rfl,rfl,trivial⟩,rfl,F134r,E134r,B134rb32,B134rb60,B134rb96⟩
        ·replace h:=h.2 hc155
         refine ec_skip ?_
         refine blk_n ?_
         refine sq_n ?_
         refine ec_region ?_
         refine o_w (v:=.int .i64 s134.2) (r_mov rfl) ?_
         refine o_w (v:=.int .i64 (IntKind.i64.wrap (s134.2 + (1:Int)))) (r_int rfl rfl rfl) ?_
         refine o_w (v:=.int .i64 (IntKind.i64.wrap (s134.2 + (1:Int)))) (r_asg rfl) ?_
         refine eo_nil ?_
         subst h
         exact lq_n ⟨_,envs_self ⟨rfl,rfl,rfl,rfl,rfl,trivial⟩,rfl,F134r,E134r,B134rb32,B134rb60,B134rb96⟩
      ·replace h:=h.2 hc140
       refine ec_exit ?_
       refine sq_exit ?_
       subst h
       exact lq_x ⟨_,envs_self ⟨rfl,rfl,rfl,rfl,rfl,trivial⟩,rfl,F134r,E134r,B134rb32,B134rb60,B134rb96⟩
     ·exact ⟨_,envs_self ⟨rfl,rfl,rfl,rfl,rfl,trivial⟩,rfl,(Fr.refl _ _),E123,(B119.ex F121),(B120.ex F121),(B112'.ex F121)⟩
     ·rintro ρ134e ds134e w134e ⟨ρ134e,rfl,rfl,F134e,E134e,B134eb32,B134eb60,B134eb96⟩
      have G158:Fr L w19 w134e:=(G116.trans (Fr.ext F121)).stp F134e (upc (.inr m101) (upc (.inr m64) (upc (.inr m35) (fun _ h=>.inl h))))
      refine blk_hit ?_
      refine sq_n ?_
      refine ec_seq ?_
      refine ec_region ?_
      iterate 2 refine o_w (v:=.bool (worksV)) (r_mov rfl) ?_
      refine o_v (v:=.pointer (some ⟨b32,0,none⟩)) (r_fa fld_api_Entry_0 rfl rfl) (want_t (t:=134) rfl rfl (of_not hc13)) rfl rfl ?_
      refine o_v (v:=str x19.1.key) (r_ld one_string rfl (B134eb32.cell rfl)) (want_t (t:=134) rfl rfl (of_not hc13)) rfl rfl ?_
      refine o_v (v:=str d2) (r_mov rfl) (want_t (t:=134) rfl rfl (of_not hc13)) rfl rfl ?_
      refine o_v (v:=.bool (x19.1.key==d2)) (r_str rfl rfl rfl) (want_t (t:=134) rfl rfl (of_not hc13)) rfl rfl ?_
      refine o_w (v:=.bool (x19.1.key==d2)) (r_pickT rfl (of_not hc13) rfl) ?_
      refine o_w (v:=.bool (x19.1.key==d2)) (r_mov rfl) ?_
      refine o_vg (v:=.pointer (some ⟨b32,1,none⟩)) (want_ct (t:=140) rfl rfl) (fun hk=>(r_fa fld_api_Entry_1 rfl rfl)) rfl rfl ?_
      refine o_vg (v:=.agg (cVal x19.1.val A26 c27 A29 c30).toArray) (want_ct (t:=140) rfl rfl) (fun hk=>(r_lda agg_api_Value (gdT hk) (vs:=(cVal x19.1.val A26 c27 A29 c30)) rfl (B134eb32.part (n:=8) rfl))) rfl rfl ?_
      obtain ⟨ha163,h⟩:=h
      refine o_callg (V:=.int .i64 (checkV x19.1.val)) cf_value_Check (want_ct (t:=140) rfl rfl) (fun hk=>(mapv1 (gdT hk))) (fun hk=>(value_Check_c x19.1.val (kVal_mk (d:=x19.1.val) (H28.up G158 (fun _ h=>h) (upc (.inr m101) (upc (.inr m64) (upc (.inr m35) (fun _ h=>.inl h))))) (H31.up G158 (fun _ h=>h) (upc (.inr m101) (upc (.inr m64) (upc (.inr m35) (fun _ h=>.inl h)))))) ((((hL.fr E134e).cons B134eb32.lt).cons B134eb60.lt).cons B134eb96.lt) (valCheck_ev x19.1.val (ha163 hk)))) rfl ?_
      intro w162 F162
      have E164:=E134e.trans F162
      refine o_vg (v:=.bool ((checkV x19.1.val)==(0:Int))) (want_ct (t:=140) rfl rfl) (fun hk=>(r_int (gdT hk) rfl rfl)) rfl rfl ?_
      refine o_w (v:=.bool ((x19.1.key==d2)&&((checkV x19.1.val)==(0:Int)))) (r_pickAnd rfl (fun ht=>(gdT ht)) rfl) ?_
      refine o_w (v:=.bool ((x19.1.key==d2)&&((checkV x19.1.val)==(0:Int)))) (r_mov rfl) ?_
      refine o_vg (v:=.int .i64 x134.1) (want_ct (t:=146) rfl rfl) (fun hk=>(r_mov rfl)) rfl rfl ?_
      refine o_vg (v:=.bool (x134.1==(1:Int))) (want_ct (t:=146) rfl rfl) (fun hk=>(r_int (gdT hk) rfl rfl)) rfl rfl ?_
      refine o_w (v:=.bool (((x19.1.key==d2)&&((checkV x19.1.val)==(0:Int)))&&(x134.1==(1:Int)))) (r_pickAnd rfl (fun ht=>(gdT ht)) rfl) ?_
      refine o_w (v:=.bool (((x19.1.key==d2)&&((checkV x19.1.val)==(0:Int)))&&(x134.1==(1:Int)))) (r_asg rfl) ?_
      refine eo_nil_sq ?_
      refine ec_ret ?_
      subst h
      exact (end1 rfl ⟨_,rfl,E164,rfl⟩)
end Go.Proofs.Ythhjcijhanacnaa
