/- Arenas: alike, and merged. -/
import Derived.Test.YthifkdgljapmeaaEw
namespace Go.Proofs.Ythifkdgljapmeaa
open Go Go.RowKit
set_option linter.unusedVariables false
set_option linter.unusedSimpArgs false
def arena_Alike_raw (d0:Arena) (d1:Arena) (y:Bool):Prop :=
 (sma d0)∧((sma d1)∧(((belowA d0 d1)=true→sma d1)∧(((belowA d0 d1)=true→sma d0)∧(y=((belowA d0 d1)&&(belowA d1 d0))))))
set_option maxRecDepth 20000 in
set_option maxHeartbeats 4000000 in
theorem arena_Alike_c {L:List Nat} {w:World} {csP0:List Value} (d0:Arena) (HP0:Stb L w (fun w=>kArena.r w csP0 d0)) {csP1:List Value} (d1:Arena) (HP1:Stb L w (fun w=>kArena.r w csP1 d1)) (hL:Lt L w) {y:Bool} (h:arena_Alike_raw d0 d1 y) :
  Calls Try.prog 27 [.agg csP0.toArray,.agg csP1.toArray].toArray w (Ret fun v w'=>Ext w w'∧v=.bool y):=by
 obtain ⟨A1,c2,A4,c5,rfl,H3,H6⟩:=kArena_open HP0
 obtain ⟨A7,c8,A10,c11,rfl,H9,H12⟩:=kArena_open HP1
 unfold arena_Alike_raw at h
 refine calls_ec Try.func27 rfl rfl rfl ?_
 refine ec_sr ?_
 refine o_box (cs:=(cArena d0 A1 c2 A4 c5)) rfl rfl rfl ?_
 intro b13 w13 e13 F13 B13
 have S13:=B13.stb (nin hL e13)
 have G14:Fr L w w13:=Fr.ext F13
 refine o_box (cs:=(cArena d1 A7 c8 A10 c11)) rfl rfl rfl ?_
 intro b15 w15 e15 F15 B15
 have S15:=B15.stb (nin (hL.fr F13) e15)
 have E16:=F13.trans F15
 have G18:Fr L w13 w15:=Fr.ext F15
 refine o_w (v:=.bool false) (r_asg rfl) ?_
 refine eo_r ?_
 refine o_w (v:=.agg (cArena d0 A1 c2 A4 c5).toArray) (r_lda agg_api_Arena rfl (vs:=(cArena d0 A1 c2 A4 c5)) rfl ((S13.fr G18 sI).now.part (n:=3) rfl)) ?_
 refine o_w (v:=.agg (cArena d1 A7 c8 A10 c11).toArray) (r_lda agg_api_Arena rfl (vs:=(cArena d1 A7 c8 A10 c11)) rfl (S15.now.part (n:=3) rfl)) ?_
 obtain ⟨ha21,h⟩:=h
 obtain ⟨ha22,h⟩:=h
 refine o_call cf_arena_Below rfl (arena_Below_c d0 (kArena_mk (d:=d0) (H3.fr (G14.trans (Fr.ext F15)) sI) (H6.fr (G14.trans (Fr.ext F15)) sI)) d1 (kArena_mk (d:=d1) (H9.fr (G14.trans (Fr.ext F15)) sI) (H12.fr (G14.trans (Fr.ext F15)) sI)) (hL.fr E16) (arBelow_ev d0 d1 ha21 ha22)) rfl rfl ?_
 rintro _ w20 ⟨F20,rfl⟩
 have E23:=E16.trans F20
 have G26:Fr L w15 w20:=Fr.ext F20
 refine o_w (v:=.bool (belowA d0 d1)) (r_mov rfl) ?_
 refine o_vg (v:=.agg (cArena d1 A7 c8 A10 c11).toArray) (want_ct (t:=8) rfl rfl) (fun hk=>(r_lda agg_api_Arena rfl (vs:=(cArena d1 A7 c8 A10 c11)) rfl ((S15.fr G26 sI).now.part (n:=3) rfl))) rfl rfl ?_
 refine o_vg (v:=.agg (cArena d0 A1 c2 A4 c5).toArray) (want_ct (t:=8) rfl rfl) (fun hk=>(r_lda agg_api_Arena rfl (vs:=(cArena d0 A1 c2 A4 c5)) rfl ((S13.fr (G18.trans (Fr.ext F20)) sI).now.part (n:=3) rfl))) rfl rfl ?_
 obtain ⟨ha28,h⟩:=h
 obtain ⟨ha29,h⟩:=h
 refine o_callg (V:=.bool (belowA d1 d0)) cf_arena_Below (want_ct (t:=8) rfl rfl) (fun hk=>(mapv2 (gdT hk) (gdT hk))) (fun hk=>(arena_Below_c d1 (kArena_mk (d:=d1) (H9.fr ((G14.trans (Fr.ext F15)).trans (Fr.ext F20)) sI) (H12.fr ((G14.trans (Fr.ext F15)).trans (Fr.ext F20)) sI)) d0 (kArena_mk (d:=d0) (H3.fr ((G14.trans (Fr.ext F15)).trans (Fr.ext F20)) sI) (H6.fr ((G14.trans (Fr.ext F15)).trans (Fr.ext F20)) sI)) (hL.fr E23) (arBelow_ev d1 d0 (ha28 hk) (ha29 hk)))) rfl ?_
 intro w27 F27
 have E30:=E23.trans F27
 refine o_w (v:=.bool ((belowA d0 d1)&&(belowA d1 d0))) (r_pickAnd rfl (fun ht=>(gdT ht)) rfl) ?_
 refine o_w (v:=.bool ((belowA d0 d1)&&(belowA d1 d0))) (r_asg rfl) ?_
 refine eo_nil_sq ?_
 refine ec_ret ?_
 subst h
 exact (end1 rfl ⟨_,rfl,E30,rfl⟩)
def arena_Merge_b16 (d1:(List Ent)) (s16:Int × Int × Int × Int × List Ent × List Int) (z16:(Int × Int × Int × Int × List Ent × List Int) ⊕ (Int × Int × Int × Int × List Ent × List Int)):Prop :=
 ((decide (s16.2.2.1<(d1.length:Int)))=true→((0≤s16.2.2.1∧s16.2.2.1<(d1.length:Int))∧((sma (⟨s16.2.2.2.1,s16.2.2.2.2.1,s16.2.2.2.2.2⟩:Arena))∧((sm (nth d1 s16.2.2.1).val)∧((WfV (nth d1 s16.2.2.1).val)∧(∃ x49,x49=(joinA (⟨s16.2.2.2.1,s16.2.2.2.2.1,s16.2.2.2.2.2⟩:Arena) (nth d1 s16.2.2.1))∧((x49.2.1=true→(((x49.2.2 != (0:Int))=true→(z16=.inl ((IntKind.i64.wrap (s16.1 + (1:Int))),(IntKind.i64.wrap (s16.2.1 + (1:Int))),(IntKind.i64.wrap (s16.2.2.1 + (1:Int))),x49.1.cap,x49.1.slots,x49.1.idx)))∧((x49.2.2 != (0:Int))=false→(z16=.inl ((IntKind.i64.wrap (s16.1 + (1:Int))),s16.2.1,(IntKind.i64.wrap (s16.2.2.1 + (1:Int))),x49.1.cap,x49.1.slots,x49.1.idx)))))∧(x49.2.1=false→(((x49.2.2 != (0:Int))=true→(z16=.inl (s16.1,(IntKind.i64.wrap (s16.2.1 + (1:Int))),(IntKind.i64.wrap (s16.2.2.1 + (1:Int))),x49.1.cap,x49.1.slots,x49.1.idx)))∧((x49.2.2 != (0:Int))=false→(z16=.inl (s16.1,s16.2.1,(IntKind.i64.wrap (s16.2.2.1 + (1:Int))),x49.1.cap,x49.1.slots,x49.1.idx))))))))))))∧((decide (s16.2.2.1<(d1.length:Int)))=false→(z16=.inr (s16.1,s16.2.1,s16.2.2.1,s16.2.2.2.1,s16.2.2.2.2.1,s16.2.2.2.2.2)))
def arena_Merge_raw (d0:Arena) (d1:(List Ent)) (y:Arena × Int × Int):Prop :=
 ∃ x16,LoopR (arena_Merge_b16 d1) ((0:Int),(0:Int),(0:Int),d0.cap,d0.slots,d0.idx) x16∧(y=((⟨x16.2.2.2.1,x16.2.2.2.2.1,x16.2.2.2.2.2⟩:Arena),x16.1,x16.2.1))
set_option maxRecDepth 20000 in
set_option maxHeartbeats 4000000 in
theorem arena_Merge_c {L:List Nat} {w:World} {csP0:List Value} (d0:Arena) (HP0:Stb L w (fun w=>kArena.r w csP0 d0)) {AP1:Option Addr} {cP1:Nat} (d1:(List Ent)) (HP1:Stb L w (fun w=>SlC kEnt w AP1 cP1 d1)) (hL:Lt L w) {y:Arena × Int × Int} (h:arena_Merge_raw d0 d1 y) :
  Calls Try.prog 33 [.agg csP0.toArray,.slice AP1 d1.length cP1].toArray w (Ret fun v w'=>Ext w w'∧∃ (cs90:List Value),v=.tuple #[.agg cs90.toArray,.int .i64 y.2.1,.int .i64 y.2.2]∧Stb L w' (fun w=>kArena.r w cs90 y.1)):=by
 obtain ⟨A1,c2,A4,c5,rfl,H3,H6⟩:=kArena_open HP0
 unfold arena_Merge_raw at h
 refine calls_ec Try.func33 rfl rfl rfl ?_
 refine ec_sr ?_
 refine o_box (cs:=(cArena d0 A1 c2 A4 c5)) rfl rfl rfl ?_
 intro b7 w7 e7 F7 B7
 have n7:w.heap.size≤b7:=Nat.le_of_eq e7.symm
 have m8:w.heap.size≤b7:=Nat.le_of_eq e7.symm
 have G9:Fr L w w7:=Fr.ext F7
 refine o_alloc zero_api_Arena rfl rfl rfl ?_
 intro b10 w10 e10 F10 B10
 have n10:w.heap.size≤b10:=by rw [e10]; exact F7.size
 have q11:b7<b10:=by rw [e10]; exact B7.lt
 have m12:w.heap.size≤b10:=by rw [e10]; exact G9.size
 have E13:=F7.trans F10
 iterate 2 refine o_w (v:=.int .i64 0) (r_asg rfl) ?_
 refine eo_r ?_
 iterate 2 refine o_w (v:=.int .i64 0) (r_asg rfl) ?_
 refine eo_nil_sq ?_
 refine ec_seq ?_
 refine ec_sr ?_
 refine o_w (v:=.slice AP1 d1.length cP1) (r_mov rfl) ?_
 refine o_w (v:=.int .i64 (d1.length:Int)) (r_len_slc un_s_api_Entry rfl) ?_
 refine o_w (v:=.int .i64 0) (r_mov rfl) ?_
 refine eo_nil_sq ?_
 refine ec_block ?_
 obtain ⟨x16,hl16,h⟩:=h
 refine ec_loopE 0 (I:=(fun (s16:Int × Int × Int × Int × List Ent × List Int) ρ ds w'=>∃ (ρ':Env) (A16i5:Option Addr) (c16i5:Nat) (A16i6:Option Addr) (c16i6:Nat),ρ=envs ρ' [(7,.int .i64 s16.1),(8,.int .i64 s16.2.1),(16,.int .i64 s16.2.2.1),(2,.pointer (some ⟨b7,0,none⟩)),(4,.pointer (some ⟨b10,0,none⟩)),(14,.slice AP1 d1.length cP1),(15,.int .i64 (d1.length:Int))]∧ds=[]∧Fr (b10::(b7::L)) w10 w'∧Ext w w'∧Stb (b10::(b7::L)) w' (fun w=>SlC kEnt w A16i5 c16i5 s16.2.2.2.2.1)∧Stb (b10::(b7::L)) w' (fun w=>SlC (kI .i64) w A16i6 c16i6 s16.2.2.2.2.2)∧Blk w' b10 25 [.int .i64 0,.slice none ([]:List Ent).length 0,.slice none ([]:List Int).length 0]∧Blk w' b7 25 [.int .i64 s16.2.2.2.1,.slice A16i5 s16.2.2.2.2.1.length c16i5,.slice A16i6 s16.2.2.2.2.2.length c16i6])) ?_ hl16 ?_ ?_
 ·intro s16 z16 ρ16 ds16 w16r hI16 hb16
  obtain ⟨ρ16r,A16r5,c16r5,A16r6,c16r6,rfl,rfl,F16r,E16r,H16r5,H16r6,B16rb10,B16rb7⟩:=hI16
  have h:=hb16
  unfold arena_Merge_b16 at h
  have G17:Fr L w w16r:=(G9.trans (Fr.ext F10)).stp F16r (upc (.inr m12) (upc (.inr m8) (fun _ h=>.inl h)))
  refine ec_sr ?_
  refine o_w (v:=.bool (decide (s16.2.2.1<(d1.length:Int)))) (r_int rfl rfl rfl) ?_
  refine eo_nil_sq ?_
  refine ec_seq ?_
  refine ec_cond rfl (fun hc18=>?_) (fun hc18=>?_)
  ·replace h:=h.1 hc18
   refine ec_skip ?_
   refine sq_n ?_
   refine ec_seq ?_
   refine ec_block ?_
   refine ec_sr ?_
   obtain ⟨ha19,h⟩:=h
   obtain ⟨cs20,l22,H21⟩:=Stb.elem (by decide) (HP1.up G17 sI (upc (.inr m12) (upc (.inr m8) (fun _ h=>.inl h)))) s16.2.2.1 ha19.1 ha19.2
   obtain ⟨A24,c25,A27,c28,rfl,H23,H26,H29⟩:=kEnt_open2 H21
   refine o_w (v:=.pointer (some (elemA AP1 kEnt.n s16.2.2.1.toNat))) (r_ia slc_s_api_Entry rfl rfl ((HP1.fr G17 sI).now.2 _ (lt_toNat ha19.1 ha19.2)).1 ha19.1 ha19.2) ?_
   refine o_w (v:=.agg (cEnt (nth d1 s16.2.2.1) A24 c25 A27 c28).toArray) (r_lda' agg_api_Entry rfl (elemA_spot _ _ _) (vs:=(cEnt (nth d1 s16.2.2.1) A24 c25 A27 c28)) rfl (H23.now.1)) ?_
   refine o_alloc zero_api_Entry rfl rfl rfl ?_
   intro b30 w30 e30 F30 B30
   have n30:w.heap.size≤b30:=by rw [e30]; exact E16r.size
   have q31:b7<b30:=by rw [e30]; exact B16rb7.lt
   have q32:b10<b30:=by rw [e30]; exact B16rb10.lt
   have m34:w16r.heap.size≤b30:=Nat.le_of_eq e30.symm
   have m35:w10.heap.size≤b30:=by rw [e30]; exact F16r.size
   have E36:=E16r.trans F30
   have G38:Fr (b10::(b7::L)) w16r w30:=Fr.ext F30
   refine o_store rfl B30 (vs:=(cEnt (nth d1 s16.2.2.1) A24 c25 A27 c28)) rfl sz_api_Entry rfl rfl rfl ?_
   intro w42 F42 B42
   have E43:=Ext.st E36 F42 (by simp; omega)
   have G45:Fr (b10::(b7::L)) w16r w42:=G38.stp F42 (upc (.inr m34) (fun m hm=>by cases hm))
   have G46:Fr (b10::(b7::L)) w10 w42:=(F16r.trans (Fr.ext F30)).stp F42 (upc (.inr m35) (fun m hm=>by cases hm))
   have B47:=(B16rb7.ex F30).fr F42 (by simp; omega)
   have B48:=(B16rb10.ex F30).fr F42 (by simp; omega)
   have B42':Blk w42 b30 _ (cEnt (nth d1 s16.2.2.1) A24 c25 A27 c28):=B42
   refine eo_r ?_
   refine o_w (v:=.agg #[.int .i64 s16.2.2.2.1,.slice A16r5 s16.2.2.2.2.1.length c16r5,.slice A16r6 s16.2.2.2.2.2.length c16r6]) (r_lda agg_api_Arena rfl (vs:=[.int .i64 s16.2.2.2.1,.slice A16r5 s16.2.2.2.2.1.length c16r5,.slice A16r6 s16.2.2.2.2.2.length c16r6]) rfl (B47.part (n:=3) rfl)) ?_
   refine o_w (v:=.agg (cEnt (nth d1 s16.2.2.1) A24 c25 A27 c28).toArray) (r_lda agg_api_Entry rfl (vs:=(cEnt (nth d1 s16.2.2.1) A24 c25 A27 c28)) rfl (B42'.part (n:=9) rfl)) ?_
   obtain ⟨ha50,h⟩:=h
   obtain ⟨ha51,h⟩:=h
   obtain ⟨ha52,h⟩:=h
   obtain ⟨x49,hx49,h⟩:=h
   refine o_call cf_arena_Join rfl (arena_Join_c (⟨s16.2.2.2.1,s16.2.2.2.2.1,s16.2.2.2.2.2⟩:Arena) (kArena_mk (d:=(⟨s16.2.2.2.1,s16.2.2.2.2.1,s16.2.2.2.2.2⟩:Arena)) (H16r5.up G45 sI (upc (.inr m34) (upc (.inl mH) (upc (.inl (mT mH)) (fun m hm=>Or.inl (mT (mT hm))))))) (H16r6.up G45 sI (upc (.inr m34) (upc (.inl mH) (upc (.inl (mT mH)) (fun m hm=>Or.inl (mT (mT hm)))))))) (nth d1 s16.2.2.1) (kEnt_mk (d:=(nth d1 s16.2.2.1)) (H26.up G45 sI (upc (.inr m34) (upc (.inl mH) (upc (.inl (mT mH)) (fun m hm=>Or.inl (mT (mT hm))))))) (H29.up G45 sI (upc (.inr m34) (upc (.inl mH) (upc (.inl (mT mH)) (fun m hm=>Or.inl (mT (mT hm)))))))) ((((hL.fr E43).cons B47.lt).cons B48.lt).cons B42'.lt) (eq_ev hx49 (arJoin_ev (⟨s16.2.2.2.1,s16.2.2.2.2.1,s16.2.2.2.2.2⟩:Arena) (nth d1 s16.2.2.1) ha50 ha51 ha52))) rfl rfl ?_
   rintro _ w49 ⟨F49,cs53,rfl,H54⟩
   have E55:=E43.trans F49
   obtain ⟨A62,c63,A65,c66,rfl,H64,H67⟩:=kArena_open H54
   refine o_w (v:=.tuple #[.agg (cArena x49.1 A62 c63 A65 c66).toArray,.bool x49.2.1,.int .i64 x49.2.2]) (r_mov rfl) ?_
   refine o_w (v:=.agg (cArena x49.1 A62 c63 A65 c66).toArray) (r_ext rfl rfl) ?_
   refine o_w (v:=.bool x49.2.1) (r_ext rfl rfl) ?_
   refine o_w (v:=.int .i64 x49.2.2) (r_ext rfl rfl) ?_
   refine o_alloc zero_api_Arena rfl rfl rfl ?_
   intro b68 w68 e68 F68 B68
   have n68:w.heap.size≤b68:=by rw [e68]; exact E55.size
   have q69:b7<b68:=by rw [e68]; exact (B47.ex F49).lt
   have q70:b10<b68:=by rw [e68]; exact (B48.ex F49).lt
   have q71:b30<b68:=by rw [e68]; exact (B42'.ex F49).lt
   have m74:w10.heap.size≤b68:=by rw [e68]; exact (G46.trans (Fr.ext F49)).size
   have m75:w49.heap.size≤b68:=Nat.le_of_eq e68.symm
   have E76:=E55.trans F68
   have G80:Fr (b30::(b10::(b7::L))) w49 w68:=Fr.ext F68
   refine o_store rfl B68 (vs:=(cArena x49.1 A62 c63 A65 c66)) rfl sz_api_Arena rfl rfl rfl ?_
   intro w84 F84 B84
   have E85:=Ext.st E76 F84 (by simp; omega)
   have G88:Fr (b10::(b7::L)) w10 w84:=((G46.trans (Fr.ext F49)).trans (Fr.ext F68)).stp F84 (upc (.inr m74) (fun m hm=>by cases hm))
   have G89:Fr (b30::(b10::(b7::L))) w49 w84:=G80.stp F84 (upc (.inr m75) (fun m hm=>by cases hm))
   have B90:=((B47.ex F49).ex F68).fr F84 (by simp; omega)
   have B91:=((B48.ex F49).ex F68).fr F84 (by simp; omega)
   have B84':Blk w84 b68 _ (cArena x49.1 A62 c63 A65 c66):=B84
   refine o_w (v:=.bool x49.2.1) (r_asg rfl) ?_
   refine o_w (v:=.int .i64 x49.2.2) (r_asg rfl) ?_
   refine eo_nil_sq ?_
   refine ec_seq ?_
   refine ec_sr ?_
   refine o_w (v:=.agg (cArena x49.1 A62 c63 A65 c66).toArray) (r_lda agg_api_Arena rfl (vs:=(cArena x49.1 A62 c63 A65 c66)) rfl (B84'.part (n:=3) rfl)) ?_
   refine o_store rfl B90 (vs:=(cArena x49.1 A62 c63 A65 c66)) rfl sz_api_Arena rfl rfl rfl ?_
   intro w93 F93 B93
   have E94:=Ext.st E85 F93 (by simp; omega)
   have G97:Fr (b10::(b7::L)) w10 w93:=G88.stp F93 (upc (.inl (mT mH)) (fun m hm=>by cases hm))
   have G98:Fr (b30::(b10::(b7::L))) w49 w93:=G89.stp F93 (upc (.inl (mT (mT mH))) (fun m hm=>by cases hm))
   have B99:=B91.fr F93 (by simp; omega)
   have B93':Blk w93 b7 _ (cArena x49.1 A62 c63 A65 c66):=B93
   refine eo_r ?_
   refine o_w (v:=.bool x49.2.1) (r_mov rfl) ?_
   refine eo_nil_sq ?_
   refine ec_cond rfl (fun hc102=>?_) (fun hc102=>?_)
   ·replace h:=h.1 hc102
    refine ec_region ?_
    refine o_w (v:=.int .i64 s16.1) (r_mov rfl) ?_
    refine o_w (v:=.int .i64 (IntKind.i64.wrap (s16.1 + (1:Int)))) (r_int rfl rfl rfl) ?_
    refine o_w (v:=.int .i64 (IntKind.i64.wrap (s16.1 + (1:Int)))) (r_asg rfl) ?_
    refine eo_r ?_
    refine o_w (v:=.int .i64 x49.2.2) (r_mov rfl) ?_
    refine o_w (v:=.bool (x49.2.2 != (0:Int))) (r_int rfl rfl rfl) ?_
    refine eo_nil_sq ?_
    refine ec_cond rfl (fun hc103=>?_) (fun hc103=>?_)
    ·replace h:=h.1 hc103
     refine ec_region ?_
     refine o_w (v:=.int .i64 s16.2.1) (r_mov rfl) ?_
     refine o_w (v:=.int .i64 (IntKind.i64.wrap (s16.2.1 + (1:Int)))) (r_int rfl rfl rfl) ?_
     refine o_w (v:=.int .i64 (IntKind.i64.wrap (s16.2.1 + (1:Int)))) (r_asg rfl) ?_
     refine eo_nil ?_
     refine blk_n ?_
     refine sq_n ?_
     refine ec_region ?_
     refine o_w (v:=.int .i64 (IntKind.i64.wrap (s16.2.2.1 + (1:Int)))) (r_int rfl rfl rfl) ?_
     refine o_w (v:=.int .i64 (IntKind.i64.wrap (s16.2.2.1 + (1:Int)))) (r_mov rfl) ?_
     refine eo_nil ?_
     subst h
     exact lq_n ⟨_,A62,c63,A65,c66,envs_self ⟨rfl,rfl,rfl,rfl,rfl,rfl,rfl,trivial⟩,rfl,G97,E94,(H64.up G98 sI (upc (.inl (mT mH)) (upc (.inl (mT (mT mH))) (fun m hm=>Or.inl (mT (mT (mT hm))))))),(H67.up G98 sI (upc (.inl (mT mH)) (upc (.inl (mT (mT mH))) (fun m hm=>Or.inl (mT (mT (mT hm))))))),B99,B93'⟩
    ·replace h:=h.2 hc103
     refine ec_skip ?_
     refine blk_n ?_
     refine sq_n ?_
     refine ec_region ?_
     refine o_w (v:=.int .i64 (IntKind.i64.wrap (s16.2.2.1 + (1:Int)))) (r_int rfl rfl rfl) ?_
     refine o_w (v:=.int .i64 (IntKind.i64.wrap (s16.2.2.1 + (1:Int)))) (r_mov rfl) ?_
     refine eo_nil ?_
     subst h
     exact lq_n ⟨_,A62,c63,A65,c66,envs_self ⟨rfl,rfl,rfl,rfl,rfl,rfl,rfl,trivial⟩,rfl,G97,E94,(H64.up G98 sI (upc (.inl (mT mH)) (upc (.inl (mT (mT mH))) (fun m hm=>Or.inl (mT (mT (mT hm))))))),(H67.up G98 sI (upc (.inl (mT mH)) (upc (.inl (mT (mT mH))) (fun m hm=>Or.inl (mT (mT (mT hm))))))),B99,B93'⟩
   ·replace h:=h.2 hc102
    refine ec_skip ?_
    refine sq_n ?_
    refine ec_sr ?_
    refine o_w (v:=.int .i64 x49.2.2) (r_mov rfl) ?_
    refine o_w (v:=.bool (x49.2.2 != (0:Int))) (r_int rfl rfl rfl) ?_
    refine eo_nil_sq ?_
    refine ec_cond rfl (fun hc104=>?_) (fun hc104=>?_)
    ·replace h:=h.1 hc104
     refine ec_region ?_
     refine o_w (v:=.int .i64 s16.2.1) (r_mov rfl) ?_
     refine o_w (v:=.int .i64 (IntKind.i64.wrap (s16.2.1 + (1:Int)))) (r_int rfl rfl rfl) ?_
     refine o_w (v:=.int .i64 (IntKind.i64.wrap (s16.2.1 + (1:Int)))) (r_asg rfl) ?_
     refine eo_nil ?_
     refine blk_n ?_
     refine sq_n ?_
     refine ec_region ?_
     refine o_w (v:=.int .i64 (IntKind.i64.wrap (s16.2.2.1 + (1:Int)))) (r_int rfl rfl rfl) ?_
     refine o_w (v:=.int .i64 (IntKind.i64.wrap (s16.2.2.1 + (1:Int)))) (r_mov rfl) ?_
     refine eo_nil ?_
     subst h
     exact lq_n ⟨_,A62,c63,A65,c66,envs_self ⟨rfl,rfl,rfl,rfl,rfl,rfl,rfl,trivial⟩,rfl,G97,E94,(H64.up G98 sI (upc (.inl (mT mH)) (upc (.inl (mT (mT mH))) (fun m hm=>Or.inl (mT (mT (mT hm))))))),(H67.up G98 sI (upc (.inl (mT mH)) (upc (.inl (mT (mT mH))) (fun m hm=>Or.inl (mT (mT (mT hm))))))),B99,B93'⟩
    ·replace h:=h.2 hc104
     refine ec_skip ?_
     refine blk_n ?_
     refine sq_n ?_
     refine ec_region ?_
     refine o_w (v:=.int .i64 (IntKind.i64.wrap (s16.2.2.1 + (1:Int)))) (r_int rfl rfl rfl) ?_
     refine o_w (v:=.int .i64 (IntKind.i64.wrap (s16.2.2.1 + (1:Int)))) (r_mov rfl) ?_
     refine eo_nil ?_
     subst h
     exact lq_n ⟨_,A62,c63,A65,c66,envs_self ⟨rfl,rfl,rfl,rfl,rfl,rfl,rfl,trivial⟩,rfl,G97,E94,(H64.up G98 sI (upc (.inl (mT mH)) (upc (.inl (mT (mT mH))) (fun m hm=>Or.inl (mT (mT (mT hm))))))),(H67.up G98 sI (upc (.inl (mT mH)) (upc (.inl (mT (mT mH))) (fun m hm=>Or.inl (mT (mT (mT hm))))))),B99,B93'⟩
  ·replace h:=h.2 hc18
   refine ec_exit ?_
   refine sq_exit ?_
   subst h
   exact lq_x ⟨_,A16r5,c16r5,A16r6,c16r6,envs_self ⟨rfl,rfl,rfl,rfl,rfl,rfl,rfl,trivial⟩,rfl,F16r,E16r,H16r5,H16r6,B16rb10,B16rb7⟩
 ·exact ⟨_,A1,c2,A4,c5,envs_self ⟨rfl,rfl,rfl,rfl,rfl,rfl,rfl,trivial⟩,rfl,(Fr.refl _ _),E13,(H3.up (G9.trans (Fr.ext F10)) sI (upc (.inr m12) (upc (.inr m8) (fun _ h=>.inl h)))),(H6.up (G9.trans (Fr.ext F10)) sI (upc (.inr m12) (upc (.inr m8) (fun _ h=>.inl h)))),B10,(B7.ex F10)⟩
 ·rintro ρ16e ds16e w16e ⟨ρ16e,A16e5,c16e5,A16e6,c16e6,rfl,rfl,F16e,E16e,H16e5,H16e6,B16eb10,B16eb7⟩
  refine blk_hit ?_
  refine sq_n ?_
  refine ec_sr ?_
  refine o_w (v:=.agg #[.int .i64 x16.2.2.2.1,.slice A16e5 x16.2.2.2.2.1.length c16e5,.slice A16e6 x16.2.2.2.2.2.length c16e6]) (r_lda agg_api_Arena rfl (vs:=[.int .i64 x16.2.2.2.1,.slice A16e5 x16.2.2.2.2.1.length c16e5,.slice A16e6 x16.2.2.2.2.2.length c16e6]) rfl (B16eb7.part (n:=3) rfl)) ?_
  refine o_w (v:=.int .i64 x16.1) (r_mov rfl) ?_
  refine o_w (v:=.int .i64 x16.2.1) (r_mov rfl) ?_
  refine o_store rfl B16eb10 (vs:=[.int .i64 x16.2.2.2.1,.slice A16e5 x16.2.2.2.2.1.length c16e5,.slice A16e6 x16.2.2.2.2.2.length c16e6]) rfl sz_api_Arena rfl rfl rfl ?_
  intro w106 F106 B106
  have E107:=Ext.st E16e F106 (by simp; omega)
  have G109:Fr (b10::(b7::L)) w16e w106:=(Fr.refl _ _).stp F106 (upc (.inl mH) (fun m hm=>by cases hm))
  have B106':Blk w106 b10 _ [.int .i64 x16.2.2.2.1,.slice A16e5 x16.2.2.2.2.1.length c16e5,.slice A16e6 x16.2.2.2.2.2.length c16e6]:=B106
  refine o_w (v:=.int .i64 x16.1) (r_asg rfl) ?_
  refine o_w (v:=.int .i64 x16.2.1) (r_asg rfl) ?_
  refine eo_nil_sq ?_
  refine ec_ret ?_
  subst h
  exact (endr3 (rv_a rfl (agg_api_Arena) B106' (vs:=[.int .i64 x16.2.2.2.1,.slice A16e5 x16.2.2.2.2.1.length c16e5,.slice A16e6 x16.2.2.2.2.2.length c16e6]) rfl rfl) (rv_t rfl) (rv_t rfl) ⟨_,rfl,E107,_,rfl,(kArena_mk (d:=(⟨x16.2.2.2.1,x16.2.2.2.2.1,x16.2.2.2.2.2⟩:Arena)) (H16e5.up G109 sI (fun m hm=>Or.inl (mT (mT hm)))) (H16e6.up G109 sI (fun m hm=>Or.inl (mT (mT hm)))))⟩)
end Go.Proofs.Ythifkdgljapmeaa
