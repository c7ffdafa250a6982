/- Arenas: alike, and merged. -/
import Derived.Test.YthifkdgljapmeaaEw
namespace Go.Proofs.Ythifkdgljapmeaa
open Go Go.RowKit
set_option linter.unusedVariables false
set_option linter.unusedSimpArgs false
def ref08_Alike_raw (d0:Arena) (d1:Arena) (y:Bool):Prop :=
 (sma d0)∧((sma d1)∧(((belowA d0 d1)=true→sma d1)∧(((belowA d0 d1)=true→sma d0)∧(y=((belowA d0 d1)&&(belowA d1 d0))))))
set_option maxRecDepth 20000 in
set_option maxHeartbeats 4000000 in
theorem ref08_Alike_c {L:List Nat} {w:World} {csP0:List Value} (d0:Arena) (HP0:Stb L w (fun w=>kArena.r w csP0 d0)) {csP1:List Value} (d1:Arena) (HP1:Stb L w (fun w=>kArena.r w csP1 d1)) (hL:Lt L w) {y:Bool} (h:ref08_Alike_raw d0 d1 y) :
  Calls Try.prog 23 [.agg csP0.toArray,.agg csP1.toArray].toArray w (Ret fun v w'=>Ext w w'∧v=.bool y):=by
 obtain ⟨A1,c2,A4,c5,rfl,H3,H6⟩:=kArena_open HP0
 obtain ⟨A7,c8,A10,c11,rfl,H9,H12⟩:=kArena_open HP1
 unfold ref08_Alike_raw at h
 refine calls_ec Try.func23 rfl rfl rfl ?_
 refine ec_seq ?_
 refine ec_region ?_
 refine o_box (cs:=(cArena d0 A1 c2 A4 c5)) rfl rfl rfl ?_
 intro b13 w13 e13 F13 B13
 have S13:=B13.stb (nin hL e13)
 have G14:Fr L w w13:=Fr.ext F13
 refine o_box (cs:=(cArena d1 A7 c8 A10 c11)) rfl rfl rfl ?_
 intro b15 w15 e15 F15 B15
 have S15:=B15.stb (nin (hL.fr F13) e15)
 have E16:=F13.trans F15
 have G18:Fr L w13 w15:=Fr.ext F15
 refine o_w (v:=.bool false) (r_asg rfl) ?_
 refine eo_nil_sq ?_
 refine ec_seq ?_
 refine ec_region ?_
 refine o_w (v:=.agg (cArena d0 A1 c2 A4 c5).toArray) (r_lda agg_api_Arena rfl (vs:=(cArena d0 A1 c2 A4 c5)) rfl ((S13.fr G18 (fun _ h=>h)).now.part (n:=3) rfl)) ?_
 refine o_w (v:=.agg (cArena d1 A7 c8 A10 c11).toArray) (r_lda agg_api_Arena rfl (vs:=(cArena d1 A7 c8 A10 c11)) rfl (S15.now.part (n:=3) rfl)) ?_
 obtain ⟨ha21,h⟩:=h
 obtain ⟨ha22,h⟩:=h
 refine o_call cf_ref08_Below rfl (ref08_Below_c d0 (kArena_mk (d:=d0) (H3.fr (G14.trans (Fr.ext F15)) (fun _ h=>h)) (H6.fr (G14.trans (Fr.ext F15)) (fun _ h=>h))) d1 (kArena_mk (d:=d1) (H9.fr (G14.trans (Fr.ext F15)) (fun _ h=>h)) (H12.fr (G14.trans (Fr.ext F15)) (fun _ h=>h))) (hL.fr E16) (refBelowA_ev d0 d1 ha21 ha22)) rfl rfl ?_
 rintro _ w20 ⟨F20,rfl⟩
 have E23:=E16.trans F20
 have G26:Fr L w15 w20:=Fr.ext F20
 refine o_w (v:=.bool (belowA d0 d1)) (r_mov rfl) ?_
 refine o_vg (v:=.agg (cArena d1 A7 c8 A10 c11).toArray) (want_ct (t:=8) rfl rfl) (fun hk=>(r_lda agg_api_Arena rfl (vs:=(cArena d1 A7 c8 A10 c11)) rfl ((S15.fr G26 (fun _ h=>h)).now.part (n:=3) rfl))) rfl rfl ?_
 refine o_vg (v:=.agg (cArena d0 A1 c2 A4 c5).toArray) (want_ct (t:=8) rfl rfl) (fun hk=>(r_lda agg_api_Arena rfl (vs:=(cArena d0 A1 c2 A4 c5)) rfl ((S13.fr (G18.trans (Fr.ext F20)) (fun _ h=>h)).now.part (n:=3) rfl))) rfl rfl ?_
 obtain ⟨ha28,h⟩:=h
 obtain ⟨ha29,h⟩:=h
 refine o_callg (V:=.bool (belowA d1 d0)) cf_ref08_Below (want_ct (t:=8) rfl rfl) (fun hk=>(mapv2 (gdT hk) (gdT hk))) (fun hk=>(ref08_Below_c d1 (kArena_mk (d:=d1) (H9.fr ((G14.trans (Fr.ext F15)).trans (Fr.ext F20)) (fun _ h=>h)) (H12.fr ((G14.trans (Fr.ext F15)).trans (Fr.ext F20)) (fun _ h=>h))) d0 (kArena_mk (d:=d0) (H3.fr ((G14.trans (Fr.ext F15)).trans (Fr.ext F20)) (fun _ h=>h)) (H6.fr ((G14.trans (Fr.ext F15)).trans (Fr.ext F20)) (fun _ h=>h))) (hL.fr E23) (refBelowA_ev d1 d0 (ha28 hk) (ha29 hk)))) rfl ?_
 intro w27 F27
 have E30:=E23.trans F27
 refine o_w (v:=.bool ((belowA d0 d1)&&(belowA d1 d0))) (r_pickAnd rfl (fun ht=>(gdT ht)) rfl) ?_
 refine o_w (v:=.bool ((belowA d0 d1)&&(belowA d1 d0))) (r_asg rfl) ?_
 refine eo_nil_sq ?_
 refine ec_ret ?_
 subst h
 exact (end1 rfl ⟨_,rfl,E30,rfl⟩)
def arena_Alike_raw (d0:Arena) (d1:Arena) (y:Bool):Prop :=
 (sma d0)∧((sma d1)∧(((belowA d0 d1)=true→sma d1)∧(((belowA d0 d1)=true→sma d0)∧(y=((belowA d0 d1)&&(belowA d1 d0))))))
set_option maxRecDepth 20000 in
set_option maxHeartbeats 4000000 in
theorem arena_Alike_c {L:List Nat} {w:World} {csP0:List Value} (d0:Arena) (HP0:Stb L w (fun w=>kArena.r w csP0 d0)) {csP1:List Value} (d1:Arena) (HP1:Stb L w (fun w=>kArena.r w csP1 d1)) (hL:Lt L w) {y:Bool} (h:arena_Alike_raw d0 d1 y) :
  Calls Try.prog 27 [.agg csP0.toArray,.agg csP1.toArray].toArray w (Ret fun v w'=>Ext w w'∧v=.bool y):=by
 obtain ⟨A1,c2,A4,c5,rfl,H3,H6⟩:=kArena_open HP0
 obtain ⟨A7,c8,A10,c11,rfl,H9,H12⟩:=kArena_open HP1
 unfold arena_Alike_raw at h
 refine calls_ec Try.func27 rfl rfl rfl ?_
 refine ec_seq ?_
 refine ec_region ?_
 refine o_box (cs:=(cArena d0 A1 c2 A4 c5)) rfl rfl rfl ?_
 intro b13 w13 e13 F13 B13
 have S13:=B13.stb (nin hL e13)
 have G14:Fr L w w13:=Fr.ext F13
 refine o_box (cs:=(cArena d1 A7 c8 A10 c11)) rfl rfl rfl ?_
 intro b15 w15 e15 F15 B15
 have S15:=B15.stb (nin (hL.fr F13) e15)
 have E16:=F13.trans F15
 have G18:Fr L w13 w15:=Fr.ext F15
 refine o_w (v:=.bool false) (r_asg rfl) ?_
 refine eo_nil_sq ?_
 refine ec_seq ?_
 refine ec_region ?_
 refine o_w (v:=.agg (cArena d0 A1 c2 A4 c5).toArray) (r_lda agg_api_Arena rfl (vs:=(cArena d0 A1 c2 A4 c5)) rfl ((S13.fr G18 (fun _ h=>h)).now.part (n:=3) rfl)) ?_
 refine o_w (v:=.agg (cArena d1 A7 c8 A10 c11).toArray) (r_lda agg_api_Arena rfl (vs:=(cArena d1 A7 c8 A10 c11)) rfl (S15.now.part (n:=3) rfl)) ?_
 obtain ⟨ha21,h⟩:=h
 obtain ⟨ha22,h⟩:=h
 refine o_call cf_arena_Below rfl (arena_Below_c d0 (kArena_mk (d:=d0) (H3.fr (G14.trans (Fr.ext F15)) (fun _ h=>h)) (H6.fr (G14.trans (Fr.ext F15)) (fun _ h=>h))) d1 (kArena_mk (d:=d1) (H9.fr (G14.trans (Fr.ext F15)) (fun _ h=>h)) (H12.fr (G14.trans (Fr.ext F15)) (fun _ h=>h))) (hL.fr E16) (arBelow_ev d0 d1 ha21 ha22)) rfl rfl ?_
 rintro _ w20 ⟨F20,rfl⟩
 have E23:=E16.trans F20
 have G26:Fr L w15 w20:=Fr.ext F20
 refine o_w (v:=.bool (belowA d0 d1)) (r_mov rfl) ?_
 refine o_vg (v:=.agg (cArena d1 A7 c8 A10 c11).toArray) (want_ct (t:=8) rfl rfl) (fun hk=>(r_lda agg_api_Arena rfl (vs:=(cArena d1 A7 c8 A10 c11)) rfl ((S15.fr G26 (fun _ h=>h)).now.part (n:=3) rfl))) rfl rfl ?_
 refine o_vg (v:=.agg (cArena d0 A1 c2 A4 c5).toArray) (want_ct (t:=8) rfl rfl) (fun hk=>(r_lda agg_api_Arena rfl (vs:=(cArena d0 A1 c2 A4 c5)) rfl ((S13.fr (G18.trans (Fr.ext F20)) (fun _ h=>h)).now.part (n:=3) rfl))) rfl rfl ?_
 obtain ⟨ha28,h⟩:=h
 obtain ⟨ha29,h⟩:=h
 refine o_callg (V:=.bool (belowA d1 d0)) cf_arena_Below (want_ct (t:=8) rfl rfl) (fun hk=>(mapv2 (gdT hk) (gdT hk))) (fun hk=>(arena_Below_c d1 (kArena_mk (d:=d1) (H9.fr ((G14.trans (Fr.ext F15)).trans (Fr.ext F20)) (fun _ h=>h)) (H12.fr ((G14.trans (Fr.ext F15)).trans (Fr.ext F20)) (fun _ h=>h))) d0 (kArena_mk (d:=d0) (H3.fr ((G14.trans (Fr.ext F15)).trans (Fr.ext F20)) (fun _ h=>h)) (H6.fr ((G14.trans (Fr.ext F15)).trans (Fr.ext F20)) (fun _ h=>h))) (hL.fr E23) (arBelow_ev d1 d0 (ha28 hk) (ha29 hk)))) rfl ?_
 intro w27 F27
 have E30:=E23.trans F27
 refine o_w (v:=.bool ((belowA d0 d1)&&(belowA d1 d0))) (r_pickAnd rfl (fun ht=>(gdT ht)) rfl) ?_
 refine o_w (v:=.bool ((belowA d0 d1)&&(belowA d1 d0))) (r_asg rfl) ?_
 refine eo_nil_sq ?_
 refine ec_ret ?_
 subst h
 exact (end1 rfl ⟨_,rfl,E30,rfl⟩)
def ref08_Join_raw (d0:Arena) (d1:Ent) (y:Arena × Bool × Int):Prop :=
 (sma d0)∧((sm d1.val)∧(∃ x27,x27=(joinR d0 d1)∧(y=(x27.a,x27.is,x27.e))))
set_option maxRecDepth 20000 in
set_option maxHeartbeats 4000000 in
theorem ref08_Join_c {L:List Nat} {w:World} {csP0:List Value} (d0:Arena) (HP0:Stb L w (fun w=>kArena.r w csP0 d0)) {csP1:List Value} (d1:Ent) (HP1:Stb L w (fun w=>kEnt.r w csP1 d1)) (hL:Lt L w) {y:Arena × Bool × Int} (h:ref08_Join_raw d0 d1 y) :
  Calls Try.prog 32 [.agg csP0.toArray,.agg csP1.toArray].toArray w (Ret fun v w'=>Ext w w'∧∃ (cs90:List Value),v=.tuple #[.agg cs90.toArray,.bool y.2.1,.int .i64 y.2.2]∧Stb L w' (fun w=>kArena.r w cs90 y.1)):=by
 obtain ⟨A1,c2,A4,c5,rfl,H3,H6⟩:=kArena_open HP0
 obtain ⟨A7,c8,A10,c11,rfl,H9,H12⟩:=kEnt_open HP1
 unfold ref08_Join_raw at h
 refine calls_ec Try.func32 rfl rfl rfl ?_
 refine ec_seq ?_
 refine ec_region ?_
 refine o_box (cs:=(cArena d0 A1 c2 A4 c5)) rfl rfl rfl ?_
 intro b13 w13 e13 F13 B13
 have S13:=B13.stb (nin hL e13)
 have G14:Fr L w w13:=Fr.ext F13
 refine o_box (cs:=(cEnt d1 A7 c8 A10 c11)) rfl rfl rfl ?_
 intro b15 w15 e15 F15 B15
 have S15:=B15.stb (nin (hL.fr F13) e15)
 have E16:=F13.trans F15
 have G18:Fr L w13 w15:=Fr.ext F15
 refine o_alloc zero_api_Arena rfl rfl rfl ?_
 intro b19 w19 e19 F19 B19
 have n19:w.heap.size≤b19:=by rw [e19]; exact E16.size
 have m20:w.heap.size≤b19:=by rw [e19]; exact (G14.trans (Fr.ext F15)).size
 have E23:=E16.trans F19
 have G26:Fr L w15 w19:=Fr.ext F19
 refine o_w (v:=.bool false) (r_asg rfl) ?_
 refine o_w (v:=.int .i64 (0:Int)) (r_asg rfl) ?_
 refine eo_nil_sq ?_
 refine ec_seq ?_
 refine ec_region ?_
 refine o_w (v:=.agg (cArena d0 A1 c2 A4 c5).toArray) (r_lda agg_api_Arena rfl (vs:=(cArena d0 A1 c2 A4 c5)) rfl ((S13.fr (G18.trans (Fr.ext F19)) (fun _ h=>h)).now.part (n:=3) rfl)) ?_
 refine o_w (v:=.agg (cEnt d1 A7 c8 A10 c11).toArray) (r_lda agg_api_Entry rfl (vs:=(cEnt d1 A7 c8 A10 c11)) rfl ((S15.fr G26 (fun _ h=>h)).now.part (n:=9) rfl)) ?_
 obtain ⟨ha28,h⟩:=h
 obtain ⟨ha29,h⟩:=h
 obtain ⟨x27,hx27,h⟩:=h
 refine o_call cf_ref08_join rfl (ref08_join_c d0 (kArena_mk (d:=d0) (H3.up ((G14.trans (Fr.ext F15)).trans (Fr.ext F19)) (fun _ h=>h) (upc (.inr m20) (fun _ h=>.inl h))) (H6.up ((G14.trans (Fr.ext F15)).trans (Fr.ext F19)) (fun _ h=>h) (upc (.inr m20) (fun _ h=>.inl h)))) d1 (kEnt_mk (d:=d1) (H9.up ((G14.trans (Fr.ext F15)).trans (Fr.ext F19)) (fun _ h=>h) (upc (.inr m20) (fun _ h=>.inl h))) (H12.up ((G14.trans (Fr.ext F15)).trans (Fr.ext F19)) (fun _ h=>h) (upc (.inr m20) (fun _ h=>.inl h)))) ((hL.fr E23).cons B19.lt) (eq_ev hx27 (refjoin_ev d0 d1 ha28 ha29))) rfl rfl ?_
 rintro _ w27 ⟨F27,cs30,rfl,H31⟩
 have E32:=E23.trans F27
 obtain ⟨A37,c38,A40,c41,rfl,H39,H42⟩:=kJoined_open H31
 refine o_alloc zero_ouroborosref08_Joined rfl rfl rfl ?_
 intro b43 w43 e43 F43 B43
 have n43:w.heap.size≤b43:=by rw [e43]; exact E32.size
 have q44:b19<b43:=by rw [e43]; exact (B19.ex F27).lt
 have m48:w27.heap.size≤b43:=Nat.le_of_eq e43.symm
 have E49:=E32.trans F43
 have G53:Fr (b19::L) w27 w43:=Fr.ext F43
 refine o_store rfl B43 (vs:=(cJoined x27 A37 c38 A40 c41)) rfl sz_ouroborosref08_Joined rfl rfl rfl ?_
 intro w55 F55 B55
 have E56:=Ext.st E49 F55 (by simp; omega)
 have G60:Fr (b19::L) w27 w55:=G53.stp F55 (upc (.inr m48) (fun m hm=>by cases hm))
 have B61:=((B19.ex F27).ex F43).fr F55 (by simp; omega)
 have B55':Blk w55 b43 _ (cJoined x27 A37 c38 A40 c41):=B55
 refine eo_nil_sq ?_
 refine ec_seq ?_
 have qb62_b19:b19<w55.heap.size:=B61.lt
 refine ec_anyN (by kernel_rfl) [[],[0],[],[2],[],[4],[0,1],[0,1,2,3,6],[0,1,2,3,4,5,6,7]] [5,6,11,12,13,14,15,16] (b19::[]) [6] [[b19]] [[6,7,8]] [fun w'=>Blk w' b19 25 [.int .i64 (0:Int),.slice none ([]:List Ent).length 0,.slice none ([]:List Int).length 0],fun w'=>Blk w' b19 25 (cArena x27.a A37 c38 A40 c41)] [fun v _=>v=(.pointer (some ⟨b43,0,none⟩):Value),fun v _=>v=(.agg (cArena x27.a A37 c38 A40 c41).toArray:Value),fun v _=>v=(.pointer (some ⟨b43,3,none⟩):Value),fun v _=>v=(.bool x27.is:Value),fun v _=>v=(.pointer (some ⟨b43,4,none⟩):Value),fun v _=>v=(.int .i64 x27.e:Value),fun _ _=>True,fun v _=>v=(.bool x27.is:Value),fun v _=>v=(.int .i64 x27.e:Value)] (by kernel_rfl) (allM1 (fun m hm=>by first | exact hm | (simp at hm ⊢; simp [hm]; done) | simp_all) (fun _ h=>by cases h)) ⟨fun _ _ _ _ _ h=>h,fun _ _ _ _ _ h=>h,fun _ _ _ _ _ h=>h,fun _ _ _ _ _ h=>h,fun _ _ _ _ _ h=>h,fun _ _ _ _ _ h=>h,fun _ _ _ _ _ h=>h,fun _ _ _ _ _ h=>h,fun _ _ _ _ _ h=>h,trivial⟩ ⟨⟨fun _ _ _ _ _ h=>h,fun _ _ _ _ _ h=>h,fun _ _ _ _ _ h=>h,fun _ _ _ _ _ h=>h,fun _ _ _ _ _ h=>h,fun _ _ _ _ _ h=>h,(fun h=>absurd h (by decide)),(fun h=>absurd h (by decide)),(fun h=>absurd h (by decide)),trivial⟩,trivial⟩ ⟨fun w' w'' F h=>by have hB62_b19:=h; exact (hB62_b19.ex F),fun w' w'' F h=>by have hB62_b19:=h; exact (hB62_b19.ex F),trivial⟩ B61 ?_ ?_ ?_
 ·refine ⟨?_,?_,?_,?_,?_,?_,?_,?_,?_,trivial⟩
  ·intro _ ρ w62o F62o hX hS hρ
   have F62o:=hX 6 rfl rfl
   have q7:ρ 7=.pointer (some ⟨b43,0,none⟩):=hρ 7 (by kernel_rfl)
   exact o_q (r_fa fld_ouroborosref08_Joined_0 rfl q7) ⟨Fr.refl _ _,rfl⟩
  ·intro _ ρ w62o F62o hX hS hρ
   have F62o:=hX 6 rfl rfl
   have q11:ρ 11=.pointer (some ⟨b43,0,none⟩):=hS 0 (by decide) 11 rfl
   exact o_q (r_lda agg_api_Arena q11 (vs:=(cArena x27.a A37 c38 A40 c41)) rfl ((B55'.ex F62o).part (n:=3) rfl)) ⟨Fr.refl _ _,rfl⟩
  ·intro _ ρ w62o F62o hX hS hρ
   have q7:ρ 7=.pointer (some ⟨b43,0,none⟩):=hρ 7 (by kernel_rfl)
   exact o_q (r_fa fld_ouroborosref08_Joined_1 rfl q7) ⟨Fr.refl _ _,rfl⟩
  ·intro _ ρ w62o F62o hX hS hρ
   have B75:=B55'.fr F62o (fun hm=>(show ∀ m∈_,m≠b43 from (upc (by omega) (fun m hm=>by cases hm))) _ hm rfl)
   have q13:ρ 13=.pointer (some ⟨b43,3,none⟩):=hS 2 (by decide) 13 rfl
   exact o_q (r_ld one_bool q13 (B75.cell rfl)) ⟨Fr.refl _ _,rfl⟩
  ·intro _ ρ w62o F62o hX hS hρ
   have q7:ρ 7=.pointer (some ⟨b43,0,none⟩):=hρ 7 (by kernel_rfl)
   exact o_q (r_fa fld_ouroborosref08_Joined_2 rfl q7) ⟨Fr.refl _ _,rfl⟩
  ·intro _ ρ w62o F62o hX hS hρ
   have B81:=B55'.fr F62o (fun hm=>(show ∀ m∈_,m≠b43 from (upc (by omega) (fun m hm=>by cases hm))) _ hm rfl)
   have q15:ρ 15=.pointer (some ⟨b43,4,none⟩):=hS 4 (by decide) 15 rfl
   exact o_q (r_ld one_api_Errno q15 (B81.cell rfl)) ⟨Fr.refl _ _,rfl⟩
  ·intro hT; exact absurd hT (by decide)
  ·intro _ ρ w62o F62o hX hS hρ
   have q14:ρ 14=.bool x27.is:=hS 3 (by decide) 14 rfl
   exact o_q (r_asg q14) ⟨Fr.refl _ _,rfl⟩
  ·intro _ ρ w62o F62o hX hS hρ
   have q16:ρ 16=.int .i64 x27.e:=hS 5 (by decide) 16 rfl
   exact o_q (r_asg q16) ⟨Fr.refl _ _,rfl⟩
 ·refine ⟨⟨_,rfl,?_⟩,trivial⟩
  ·intro ρ w62o F62o hX hI hS hρ
   have hB62_b19:=hI
   have q4:ρ 4=.pointer (some ⟨b19,0,none⟩):=hρ 4 (by kernel_rfl)
   have q12:ρ 12=.agg (cArena x27.a A37 c38 A40 c41).toArray:=hS 1 (by decide) 12 rfl
   refine o_store (show ev ρ _=_ from q4) hB62_b19 (vs:=[.int .i64 x27.a.cap,.slice A37 x27.a.slots.length c38,.slice A40 x27.a.idx.length c41]) (congrArg Value.cells q12) sz_api_Arena rfl rfl rfl ?_
   intro w' F B2
   exact eo_nil ⟨rfl,rfl,undef,rfl,F,B2,trivial⟩
 ·intro ρ w62 F62 hI hS hρ
  have hB62_b19:=hI
  have q5:ρ 5=.bool x27.is:=hS 7 5 rfl
  have q6:ρ 6=.int .i64 x27.e:=hS 8 6 rfl
  obtain ⟨ρ',rfl⟩:∃ ρ',ρ=envs (ovr [5,6,11,12,13,14,15,16] ρ' _) [(5,.bool x27.is),(6,.int .i64 x27.e)]:=⟨ρ,ovr_self hρ ⟨q5,q6,trivial⟩⟩
  have E89:Ext w w62:=Ext.st E56 F62 (upc n19 (fun m hm=>by cases hm))
  have G93:Fr (b19::L) w27 w62:=Fr.stp G60 F62 (upc (.inl (by simp)) (fun m hm=>by cases hm))
  refine sq_n ?_
  refine ec_ret ?_
  subst h
  exact (endr3 (rv_a rfl (agg_api_Arena) hB62_b19 (vs:=(cArena x27.a A37 c38 A40 c41)) rfl rfl) (rv_t rfl) (rv_t rfl) ⟨_,rfl,E89,_,rfl,(kArena_mk (d:=x27.a) (H39.up G93 (fun _ h=>h) (fun m hm=>Or.inl (List.Mem.tail _ hm))) (H42.up G93 (fun _ h=>h) (fun m hm=>Or.inl (List.Mem.tail _ hm))))⟩)
def ref08_Merge_b16 (d1:(List Ent)) (s16:Int × Int × Int × Int × List Ent × List Int) (z16:(Int × Int × Int × Int × List Ent × List Int) ⊕ (Int × Int × Int × Int × List Ent × List Int)):Prop :=
 ((decide (s16.2.2.1<(d1.length:Int)))=true→((0≤s16.2.2.1∧s16.2.2.1<(d1.length:Int))∧(sma (⟨s16.2.2.2.1,s16.2.2.2.2.1,s16.2.2.2.2.2⟩:Arena)∧(sm (nth d1 s16.2.2.1).val∧(∃ x42,x42=(joinR (⟨s16.2.2.2.1,s16.2.2.2.2.1,s16.2.2.2.2.2⟩:Arena) (nth d1 s16.2.2.1))∧((x42.is=true→(((x42.e != (0:Int))=true→(z16=.inl ((IntKind.i64.wrap (s16.1 + (1:Int))),(IntKind.i64.wrap (s16.2.1 + (1:Int))),(IntKind.i64.wrap (s16.2.2.1 + (1:Int))),x42.a.cap,x42.a.slots,x42.a.idx)))∧((x42.e != (0:Int))=false→(z16=.inl ((IntKind.i64.wrap (s16.1 + (1:Int))),s16.2.1,(IntKind.i64.wrap (s16.2.2.1 + (1:Int))),x42.a.cap,x42.a.slots,x42.a.idx)))))∧(x42.is=false→(((x42.e != (0:Int))=true→(z16=.inl (s16.1,(IntKind.i64.wrap (s16.2.1 + (1:Int))),(IntKind.i64.wrap (s16.2.2.1 + (1:Int))),x42.a.cap,x42.a.slots,x42.a.idx)))∧((x42.e != (0:Int))=false→(z16=.inl (s16.1,s16.2.1,(IntKind.i64.wrap (s16.2.2.1 + (1:Int))),x42.a.cap,x42.a.slots,x42.a.idx)))))))))))∧((decide (s16.2.2.1<(d1.length:Int)))=false→(z16=.inr (s16.1,s16.2.1,s16.2.2.1,s16.2.2.2.1,s16.2.2.2.2.1,s16.2.2.2.2.2)))
def ref08_Merge_raw (d0:Arena) (d1:(List Ent)) (y:Arena × Int × Int):Prop :=
 ∃ x16,LoopR (ref08_Merge_b16 d1) ((0:Int),(0:Int),(0:Int),d0.cap,d0.slots,d0.idx) x16∧(y=((⟨x16.2.2.2.1,x16.2.2.2.2.1,x16.2.2.2.2.2⟩:Arena),x16.1,x16.2.1))
set_option maxRecDepth 20000 in
set_option maxHeartbeats 4000000 in
theorem ref08_Merge_c {L:List Nat} {w:World} {csP0:List Value} (d0:Arena) (HP0:Stb L w (fun w=>kArena.r w csP0 d0)) {AP1:Option Addr} {cP1:Nat} (d1:(List Ent)) (HP1:Stb L w (fun w=>SlC kEnt w AP1 cP1 d1)) (hL:Lt L w) {y:Arena × Int × Int} (h:ref08_Merge_raw d0 d1 y) :
  Calls Try.prog 34 [.agg csP0.toArray,.slice AP1 d1.length cP1].toArray w (Ret fun v w'=>Ext w w'∧∃ (cs90:List Value),v=.tuple #[.agg cs90.toArray,.int .i64 y.2.1,.int .i64 y.2.2]∧Stb L w' (fun w=>kArena.r w cs90 y.1)):=by
 obtain ⟨A1,c2,A4,c5,rfl,H3,H6⟩:=kArena_open HP0
 unfold ref08_Merge_raw at h
 refine calls_ec Try.func34 rfl rfl rfl ?_
 refine ec_seq ?_
 refine ec_region ?_
 refine o_box (cs:=(cArena d0 A1 c2 A4 c5)) rfl rfl rfl ?_
 intro b7 w7 e7 F7 B7
 have n7:w.heap.size≤b7:=Nat.le_of_eq e7.symm
 have m8:w.heap.size≤b7:=Nat.le_of_eq e7.symm
 have G9:Fr L w w7:=Fr.ext F7
 refine o_alloc zero_api_Arena rfl rfl rfl ?_
 intro b10 w10 e10 F10 B10
 have n10:w.heap.size≤b10:=by rw [e10]; exact F7.size
 have q11:b7<b10:=by rw [e10]; exact B7.lt
 have m12:w.heap.size≤b10:=by rw [e10]; exact G9.size
 have E13:=F7.trans F10
 iterate 2 refine o_w (v:=.int .i64 (0:Int)) (r_asg rfl) ?_
 refine eo_nil_sq ?_
 refine ec_seq ?_
 refine ec_region ?_
 refine o_w (v:=.int .i64 (0:Int)) (r_asg rfl) ?_
 refine eo_nil_sq ?_
 refine ec_seq ?_
 refine ec_region ?_
 refine o_w (v:=.int .i64 (0:Int)) (r_asg rfl) ?_
 refine eo_nil_sq ?_
 iterate 2 refine ec_seq ?_
 refine ec_region ?_
 refine o_w (v:=.int .i64 (0:Int)) (r_asg rfl) ?_
 refine eo_nil_sq ?_
 refine ec_block ?_
 obtain ⟨x16,hl16,h⟩:=h
 refine ec_loopE 0 (I:=(fun (s16:Int × Int × Int × Int × List Ent × List Int) ρ ds w'=>∃ (ρ':Env) (A16i5:Option Addr) (c16i5:Nat) (A16i6:Option Addr) (c16i6:Nat),ρ=envs ρ' [(7,.int .i64 s16.1),(8,.int .i64 s16.2.1),(9,.int .i64 s16.2.2.1),(1,.slice AP1 d1.length cP1),(2,.pointer (some ⟨b7,0,none⟩)),(4,.pointer (some ⟨b10,0,none⟩))]∧ds=[]∧Fr (b10::(b7::L)) w10 w'∧Ext w w'∧Stb (b10::(b7::L)) w' (fun w=>SlC kEnt w A16i5 c16i5 s16.2.2.2.2.1)∧Stb (b10::(b7::L)) w' (fun w=>SlC (kI .i64) w A16i6 c16i6 s16.2.2.2.2.2)∧Blk w' b10 25 [.int .i64 (0:Int),.slice none ([]:List Ent).length 0,.slice none ([]:List Int).length 0]∧Blk w' b7 25 [.int .i64 s16.2.2.2.1,.slice A16i5 s16.2.2.2.2.1.length c16i5,.slice A16i6 s16.2.2.2.2.2.length c16i6])) ?_ hl16 ?_ ?_
 ·intro s16 z16 ρ16 ds16 w16r hI16 hb16
  obtain ⟨ρ16r,A16r5,c16r5,A16r6,c16r6,rfl,rfl,F16r,E16r,H16r5,H16r6,B16rb10,B16rb7⟩:=hI16
  have h:=hb16
  unfold ref08_Merge_b16 at h
  have G17:Fr L w w16r:=(G9.trans (Fr.ext F10)).stp F16r (upc (.inr m12) (upc (.inr m8) (fun _ h=>.inl h)))
  iterate 2 refine ec_seq ?_
  refine ec_region ?_
  refine o_w (v:=.int .i64 s16.2.2.1) (r_mov rfl) ?_
  refine o_w (v:=.slice AP1 d1.length cP1) (r_mov rfl) ?_
  refine o_w (v:=.int .i64 (d1.length:Int)) (r_len_slc un_s_api_Entry rfl) ?_
  refine o_w (v:=.bool (decide (s16.2.2.1<(d1.length:Int)))) (r_int rfl rfl rfl) ?_
  refine eo_nil_sq ?_
  refine ec_cond rfl (fun hc18=>?_) (fun hc18=>?_)
  ·replace h:=h.1 hc18
   refine ec_skip ?_
   refine sq_n ?_
   refine ec_seq ?_
   refine ec_block ?_
   refine ec_seq ?_
   obtain ⟨ha31,h⟩:=h
   obtain ⟨cs32,l34,H33⟩:=Stb.elem (by decide) (HP1.up G17 (fun _ h=>h) (upc (.inr m12) (upc (.inr m8) (fun _ h=>.inl h)))) s16.2.2.1 ha31.1 ha31.2
   obtain ⟨A36,c37,A39,c40,rfl,H35,H38,H41⟩:=kEnt_open2 H33
   obtain ⟨ha43,h⟩:=h
   obtain ⟨ha44,h⟩:=h
   obtain ⟨x42,hx42,h⟩:=h
   refine ec_anyGN (by kernel_rfl) [[],[],[],[1,2],[1,2,3],[0,1,2,3,4],[],[0,1,2,3,4,5,6]] [10,17,18,19,20,21,22] [] [7] 6 0 (fun b w=>Blk w b 70 [.int .i64 (0:Int),.slice none ([]:List Ent).length 0,.slice none ([]:List Int).length 0,.bool false,.int .i64 (0:Int)]) (fun g30=>[own g30]) [[7]] (fun g30=>[fun w'=>(∀ b,g30=gOf b→Blk w' b 70 [.int .i64 (0:Int),.slice none ([]:List Ent).length 0,.slice none ([]:List Int).length 0,.bool false,.int .i64 (0:Int)]),fun w'=>∃ A45 c46 A48 c49,Stb (own g30++(b10::(b7::L))) w' (fun w=>SlC kEnt w A45 c46 x42.a.slots)∧Stb (own g30++(b10::(b7::L))) w' (fun w=>SlC (kI .i64) w A48 c49 x42.a.idx)∧(∀ b,g30=gOf b→Blk w' b 70 (cJoined x42 A45 c46 A48 c49))]) (fun g30=>[fun v _=>v=(.agg #[.int .i64 s16.2.2.2.1,.slice A16r5 s16.2.2.2.2.1.length c16r5,.slice A16r6 s16.2.2.2.2.2.length c16r6]:Value),fun v _=>v=(.slice AP1 d1.length cP1:Value),fun v _=>v=(.int .i64 s16.2.2.1:Value),fun v _=>v=(.pointer (some (elemA AP1 kEnt.n s16.2.2.1.toNat)):Value),fun v _=>v=(.agg (cEnt (nth d1 s16.2.2.1) A36 c37 A39 c40).toArray:Value),fun v w'=>∃ A45 c46 A48 c49,v=(.agg (cJoined x42 A45 c46 A48 c49).toArray:Value)∧Stb (own g30++(b10::(b7::L))) w' (fun w=>SlC kEnt w A45 c46 x42.a.slots)∧Stb (own g30++(b10::(b7::L))) w' (fun w=>SlC (kI .i64) w A48 c49 x42.a.idx),fun v w'=>∃ b30_6,v=(.pointer (some ⟨b30_6,0,none⟩):Value)∧g30=gOf b30_6∧w16r.heap.size≤b30_6,fun _ _=>True]) (by kernel_rfl) (fun _=>rfl) (fun _=>rfl) (fun g30=>(allM1 (φ:=fun M=>∀ m∈M,m∈[]∨m∈own g30) (fun m hm=>.inr hm) (fun _ h=>by cases h))) (fun g30=>⟨fun _ _ _ _ _ h=>h,fun _ _ _ _ _ h=>h,fun _ _ _ _ _ h=>h,fun _ _ _ _ _ h=>h,fun _ _ _ _ _ h=>h,fun _ v w' w'' F h=>by obtain ⟨A45,c46,A48,c49,hv,H47,H50⟩:=h; exact ⟨A45,c46,A48,c49,hv,(H47.ex F),(H50.ex F)⟩,fun _ v w' w'' F h=>by obtain ⟨b30_6,hv,heb30_6,lob30_6⟩:=h; exact ⟨b30_6,hv,heb30_6,lob30_6⟩,fun _ _ _ _ _ h=>h,trivial⟩) (fun g30=>⟨⟨fun _ _ _ _ _ _ h=>h,fun _ _ _ _ _ _ h=>h,fun _ _ _ _ _ _ h=>h,fun _ _ _ _ _ _ h=>h,fun _ _ _ _ _ _ h=>h,fun _ v w' w'' hg30 F h=>by obtain ⟨A45,c46,A48,c49,hv,H47,H50⟩:=h; exact ⟨A45,c46,A48,c49,hv,(H47.fr F (fun m hm=>List.mem_append_left _ hm)),(H50.fr F (fun m hm=>List.mem_append_left _ hm))⟩,fun _ v w' w'' hg30 F h=>by obtain ⟨b30_6,hv,heb30_6,lob30_6⟩:=h; exact ⟨b30_6,hv,heb30_6,lob30_6⟩,(fun h=>absurd h (by decide)),trivial⟩,trivial⟩) (fun w hw=>⟨fun _ _ _ _ h=>h,fun _ _ _ _ h=>h,fun _ _ _ _ h=>h,fun _ _ _ _ h=>h,fun _ _ _ _ h=>h,fun _ v w' F h=>by obtain ⟨A45,c46,A48,c49,hv,H47,H50⟩:=h; exact ⟨A45,c46,A48,c49,hv,(stb_born H47 F),(stb_born H50 F)⟩,(fun h=>absurd h (by decide)),fun _ _ _ _ h=>h,trivial⟩) (fun g30=>⟨fun w' w'' F h=>by have hG30:=h; exact (fun b e=>(hG30 b e).ex F),fun w' w'' F h=>by obtain ⟨A45,c46,A48,c49,H47,H50,hG30⟩:=h; exact ⟨A45,c46,A48,c49,(H47.ex F),(H50.ex F),(fun b e=>(hG30 b e).ex F)⟩,trivial⟩) (fun b e=>absurd e gNil_ne) (fun k hk w w' hw F hX hI=>match k,hk,hI with | 0,_,hI=>by have hG30:=hI; exact (fun b e=>by obtain rfl:=gOf_inj e; exact hX) | k + 1,hk,_=>absurd hk (by omega)) ?_ ?_ ?_ ?_
   ·refine ⟨?_,?_,?_,?_,?_,?_,?_,?_,trivial⟩
    ·intro _ _ g30 ρ w30o hg30 F30o hX hS hρ
     have F30o:=hX 7 rfl rfl
     have q2:ρ 2=.pointer (some ⟨b7,0,none⟩):=hρ 2 (by kernel_rfl)
     exact o_q (r_lda agg_api_Arena q2 (vs:=[.int .i64 s16.2.2.2.1,.slice A16r5 s16.2.2.2.2.1.length c16r5,.slice A16r6 s16.2.2.2.2.2.length c16r6]) rfl ((B16rb7.ex F30o).part (n:=3) rfl)) ⟨Fr.refl _ _,rfl⟩
    ·intro _ _ g30 ρ w30o hg30 F30o hX hS hρ
     have F30o:=hX 7 rfl rfl
     have q1:ρ 1=.slice AP1 d1.length cP1:=hρ 1 (by kernel_rfl)
     exact o_q (r_mov q1) ⟨Fr.refl _ _,rfl⟩
    ·intro _ _ g30 ρ w30o hg30 F30o hX hS hρ
     have F30o:=hX 7 rfl rfl
     have q9:ρ 9=.int .i64 s16.2.2.1:=hρ 9 (by kernel_rfl)
     exact o_q (r_mov q9) ⟨Fr.refl _ _,rfl⟩
    ·intro _ _ g30 ρ w30o hg30 F30o hX hS hρ
     have F30o:=hX 7 rfl rfl
     have q18:ρ 18=.slice AP1 d1.length cP1:=hS 1 (by decide) 18 rfl
     have q19:ρ 19=.int .i64 s16.2.2.1:=hS 2 (by decide) 19 rfl
     exact o_q (r_ia slc_s_api_Entry q18 q19 ((HP1.fr (G17.trans (Fr.ext F30o)) (fun _ h=>h)).now.2 _ (lt_toNat ha31.1 ha31.2)).1 ha31.1 ha31.2) ⟨Fr.refl _ _,rfl⟩
    ·intro _ _ g30 ρ w30o hg30 F30o hX hS hρ
     have F30o:=hX 7 rfl rfl
     have G65:Fr (b10::(b7::L)) w16r w30o:=Fr.ext F30o
     have q20:ρ 20=.pointer (some (elemA AP1 kEnt.n s16.2.2.1.toNat)):=hS 3 (by decide) 20 rfl
     exact o_q (r_lda' agg_api_Entry q20 (elemA_spot _ _ _) (vs:=(cEnt (nth d1 s16.2.2.1) A36 c37 A39 c40)) rfl ((H35.fr G65 (fun _ h=>h)).now.1)) ⟨Fr.refl _ _,rfl⟩
    ·intro _ _ g30 ρ w30o hg30 F30o hX hS hρ
     have F30o:=hX 7 rfl rfl
     have E69:=E16r.trans F30o
     have G71:Fr (b10::(b7::L)) w16r w30o:=Fr.ext F30o
     have q17:ρ 17=.agg #[.int .i64 s16.2.2.2.1,.slice A16r5 s16.2.2.2.2.1.length c16r5,.slice A16r6 s16.2.2.2.2.2.length c16r6]:=hS 0 (by decide) 17 rfl
     have q21:ρ 21=.agg (cEnt (nth d1 s16.2.2.1) A36 c37 A39 c40).toArray:=hS 4 (by decide) 21 rfl
     refine o_call cf_ref08_join (by simp only [List.map,ev,q17,q21] <;> rfl) (ref08_join_c (⟨s16.2.2.2.1,s16.2.2.2.2.1,s16.2.2.2.2.2⟩:Arena) (kArena_mk (d:=(⟨s16.2.2.2.1,s16.2.2.2.2.1,s16.2.2.2.2.2⟩:Arena)) (H16r5.up G71 (fun _ h=>h) (upo (fun m hm=>.inr (Nat.le_trans (Nat.le_refl _) (hg30 m hm).1)) (upc (.inl (List.Mem.head _)) (upc (.inl (List.Mem.tail _ (List.Mem.head _))) (fun m hm=>Or.inl (List.Mem.tail _ (List.Mem.tail _ hm))))))) (H16r6.up G71 (fun _ h=>h) (upo (fun m hm=>.inr (Nat.le_trans (Nat.le_refl _) (hg30 m hm).1)) (upc (.inl (List.Mem.head _)) (upc (.inl (List.Mem.tail _ (List.Mem.head _))) (fun m hm=>Or.inl (List.Mem.tail _ (List.Mem.tail _ hm)))))))) (nth d1 s16.2.2.1) (kEnt_mk (d:=(nth d1 s16.2.2.1)) (H38.up G71 (fun _ h=>h) (upo (fun m hm=>.inr (Nat.le_trans (Nat.le_refl _) (hg30 m hm).1)) (upc (.inl (List.Mem.head _)) (upc (.inl (List.Mem.tail _ (List.Mem.head _))) (fun m hm=>Or.inl (List.Mem.tail _ (List.Mem.tail _ hm))))))) (H41.up G71 (fun _ h=>h) (upo (fun m hm=>.inr (Nat.le_trans (Nat.le_refl _) (hg30 m hm).1)) (upc (.inl (List.Mem.head _)) (upc (.inl (List.Mem.tail _ (List.Mem.head _))) (fun m hm=>Or.inl (List.Mem.tail _ (List.Mem.tail _ hm)))))))) (lt_ghost (((hL.fr E69).cons (B16rb7.ex F30o).lt).cons (B16rb10.ex F30o).lt) hg30) (eq_ev hx42 (refjoin_ev (⟨s16.2.2.2.1,s16.2.2.2.2.1,s16.2.2.2.2.2⟩:Arena) (nth d1 s16.2.2.1) ha43 ha44))) rfl rfl ?_
     rintro _ w' ⟨F,cs75,rfl,H76⟩
     obtain ⟨A45,c46,A48,c49,rfl,H47,H50⟩:=kJoined_open H76
     exact eo_nil ⟨rfl,rfl,_,rfl,F,⟨A45,c46,A48,c49,rfl,H47,H50⟩⟩
    ·intro _ hT; exact absurd hT (by decide)
    ·intro hT; exact absurd hT (by decide)
   ·intro o ho ρ w30o F30o; cases Option.some.inj ho; refine o_alloc zero_ouroborosref08_Joined rfl rfl rfl ?_; intro b w' e F B; subst e
    exact eo_nil ⟨rfl,rfl,_,rfl,F,B.lt,B,_,rfl,rfl,F30o.size⟩
   ·refine ⟨⟨_,rfl,?_⟩,trivial⟩
    ·intro g30 ρ w30o hg30 F30o hX hI hS hρ
     have hG30:=hI
     obtain ⟨b30_6,q10,heb30_6,lob30_6⟩:=hS 6 (by decide) 10 rfl
     obtain ⟨A45,c46,A48,c49,q22,H47,H50⟩:=hS 5 (by decide) 22 rfl
     subst heb30_6
     have hB30_b30_6:=hG30 _ rfl
     refine o_store (show ev ρ _=_ from q10) hB30_b30_6 (vs:=[.int .i64 x42.a.cap,.slice A45 x42.a.slots.length c46,.slice A48 x42.a.idx.length c49,.bool x42.is,.int .i64 x42.e]) (congrArg Value.cells q22) sz_ouroborosref08_Joined rfl rfl rfl ?_
     intro w' F B2
     exact eo_nil ⟨rfl,rfl,undef,rfl,F,⟨A45,c46,A48,c49,(H47.fr F (fun m hm=>List.mem_append_left _ hm)),(H50.fr F (fun m hm=>List.mem_append_left _ hm)),(fun b e=>by obtain rfl:=gOf_inj e; exact B2)⟩,trivial⟩
   ·intro g30 ρ w30 hg30 F30 hI hS hρ
    obtain ⟨A45,c46,A48,c49,H47,H50,hG30⟩:=hI
    obtain ⟨b30_6,q10,heb30_6,lob30_6⟩:=hS 6 10 rfl
    subst heb30_6
    have hB30_b30_6:=hG30 _ rfl
    have H47:Stb (b30_6::(b10::(b7::L))) w30 (fun w=>SlC kEnt w A45 c46 x42.a.slots):=H47
    have H50:Stb (b30_6::(b10::(b7::L))) w30 (fun w=>SlC (kI .i64) w A48 c49 x42.a.idx):=H50
    obtain ⟨ρ',rfl⟩:∃ ρ',ρ=envs (ovr [10,17,18,19,20,21,22] ρ' _) [(10,.pointer (some ⟨b30_6,0,none⟩))]:=⟨ρ,ovr_self hρ ⟨q10,trivial⟩⟩
    have n30_6:w.heap.size≤b30_6:=Nat.le_trans E16r.size lob30_6
    have q83:b7<b30_6:=Nat.lt_of_lt_of_le B16rb7.lt lob30_6
    have q84:b10<b30_6:=Nat.lt_of_lt_of_le B16rb10.lt lob30_6
    have E88:=E16r.trans F30
    have Z30:=Fr.refl (b30_6::(b10::(b7::L))) w30
    refine sq_n ?_
    refine ec_seq ?_
    refine ec_region ?_
    refine o_w (v:=.pointer (some ⟨b30_6,0,none⟩)) (r_fa fld_ouroborosref08_Joined_0 rfl rfl) ?_
    refine o_w (v:=.agg (cArena x42.a A45 c46 A48 c49).toArray) (r_lda agg_api_Arena rfl (vs:=(cArena x42.a A45 c46 A48 c49)) rfl (hB30_b30_6.part (n:=3) rfl)) ?_
    refine o_store rfl (B16rb7.ex F30) (vs:=(cArena x42.a A45 c46 A48 c49)) rfl sz_api_Arena rfl rfl rfl ?_
    intro w94 F94 B94
    have E95:=Ext.st E88 F94 (by simp; omega)
    have G98:Fr (b10::(b7::L)) w10 w94:=(F16r.trans (Fr.ext F30)).stp F94 (upc (.inl (List.Mem.tail _ (List.Mem.head _))) (fun m hm=>by cases hm))
    have G99:Fr (b30_6::(b10::(b7::L))) w30 w94:=Z30.stp F94 (upc (.inl (List.Mem.tail _ (List.Mem.tail _ (List.Mem.head _)))) (fun m hm=>by cases hm))
    have B100:=(B16rb10.ex F30).fr F94 (by simp; omega)
    have B101:=hB30_b30_6.fr F94 (by simp; omega)
    have B94':Blk w94 b7 _ (cArena x42.a A45 c46 A48 c49):=B94
    refine eo_nil_sq ?_
    iterate 2 refine ec_seq ?_
    refine ec_region ?_
    refine o_w (v:=.pointer (some ⟨b30_6,3,none⟩)) (r_fa fld_ouroborosref08_Joined_1 rfl rfl) ?_
    refine o_w (v:=.bool x42.is) (r_ld one_bool rfl (B101.cell rfl)) ?_
    refine eo_nil_sq ?_
    refine ec_cond rfl (fun hc102=>?_) (fun hc102=>?_)
    ·replace h:=h.1 hc102
     refine ec_region ?_
     refine o_w (v:=.int .i64 s16.1) (r_mov rfl) ?_
     refine o_w (v:=.int .i64 (IntKind.i64.wrap (s16.1 + (1:Int)))) (r_int rfl rfl rfl) ?_
     refine o_w (v:=.int .i64 (IntKind.i64.wrap (s16.1 + (1:Int)))) (r_asg rfl) ?_
     refine eo_nil_sq ?_
     refine ec_seq ?_
     refine ec_region ?_
     refine o_w (v:=.pointer (some ⟨b30_6,4,none⟩)) (r_fa fld_ouroborosref08_Joined_2 rfl rfl) ?_
     refine o_w (v:=.int .i64 x42.e) (r_ld one_api_Errno rfl (B101.cell rfl)) ?_
     refine o_w (v:=.bool (x42.e != (0:Int))) (r_int rfl rfl rfl) ?_
     refine eo_nil_sq ?_
     refine ec_cond rfl (fun hc103=>?_) (fun hc103=>?_)
     ·replace h:=h.1 hc103
      refine ec_region ?_
      refine o_w (v:=.int .i64 s16.2.1) (r_mov rfl) ?_
      refine o_w (v:=.int .i64 (IntKind.i64.wrap (s16.2.1 + (1:Int)))) (r_int rfl rfl rfl) ?_
      refine o_w (v:=.int .i64 (IntKind.i64.wrap (s16.2.1 + (1:Int)))) (r_asg rfl) ?_
      refine eo_nil ?_
      refine blk_n ?_
      refine sq_n ?_
      refine ec_region ?_
      refine o_w (v:=.int .i64 s16.2.2.1) (r_mov rfl) ?_
      refine o_w (v:=.int .i64 (IntKind.i64.wrap (s16.2.2.1 + (1:Int)))) (r_int rfl rfl rfl) ?_
      refine o_w (v:=.int .i64 (IntKind.i64.wrap (s16.2.2.1 + (1:Int)))) (r_asg rfl) ?_
      refine eo_nil ?_
      subst h
      exact lq_n ⟨_,A45,c46,A48,c49,envs_self ⟨rfl,rfl,rfl,rfl,rfl,rfl,trivial⟩,rfl,G98,E95,(H47.up G99 (fun _ h=>h) (upc (.inl (List.Mem.tail _ (List.Mem.head _))) (upc (.inl (List.Mem.tail _ (List.Mem.tail _ (List.Mem.head _)))) (fun m hm=>Or.inl (List.Mem.tail _ (List.Mem.tail _ (List.Mem.tail _ hm))))))),(H50.up G99 (fun _ h=>h) (upc (.inl (List.Mem.tail _ (List.Mem.head _))) (upc (.inl (List.Mem.tail _ (List.Mem.tail _ (List.Mem.head _)))) (fun m hm=>Or.inl (List.Mem.tail _ (List.Mem.tail _ (List.Mem.tail _ hm))))))),B100,B94'⟩
     ·replace h:=h.2 hc103
      refine ec_skip ?_
      refine blk_n ?_
      refine sq_n ?_
      refine ec_region ?_
      refine o_w (v:=.int .i64 s16.2.2.1) (r_mov rfl) ?_
      refine o_w (v:=.int .i64 (IntKind.i64.wrap (s16.2.2.1 + (1:Int)))) (r_int rfl rfl rfl) ?_
      refine o_w (v:=.int .i64 (IntKind.i64.wrap (s16.2.2.1 + (1:Int)))) (r_asg rfl) ?_
      refine eo_nil ?_
      subst h
      exact lq_n ⟨_,A45,c46,A48,c49,envs_self ⟨rfl,rfl,rfl,rfl,rfl,rfl,trivial⟩,rfl,G98,E95,(H47.up G99 (fun _ h=>h) (upc (.inl (List.Mem.tail _ (List.Mem.head _))) (upc (.inl (List.Mem.tail _ (List.Mem.tail _ (List.Mem.head _)))) (fun m hm=>Or.inl (List.Mem.tail _ (List.Mem.tail _ (List.Mem.tail _ hm))))))),(H50.up G99 (fun _ h=>h) (upc (.inl (List.Mem.tail _ (List.Mem.head _))) (upc (.inl (List.Mem.tail _ (List.Mem.tail _ (List.Mem.head _)))) (fun m hm=>Or.inl (List.Mem.tail _ (List.Mem.tail _ (List.Mem.tail _ hm))))))),B100,B94'⟩
    ·replace h:=h.2 hc102
     refine ec_skip ?_
     refine sq_n ?_
     refine ec_seq ?_
     refine ec_region ?_
     refine o_w (v:=.pointer (some ⟨b30_6,4,none⟩)) (r_fa fld_ouroborosref08_Joined_2 rfl rfl) ?_
     refine o_w (v:=.int .i64 x42.e) (r_ld one_api_Errno rfl (B101.cell rfl)) ?_
     refine o_w (v:=.bool (x42.e != (0:Int))) (r_int rfl rfl rfl) ?_
     refine eo_nil_sq ?_
     refine ec_cond rfl (fun hc104=>?_) (fun hc104=>?_)
     ·replace h:=h.1 hc104
      refine ec_region ?_
      refine o_w (v:=.int .i64 s16.2.1) (r_mov rfl) ?_
      refine o_w (v:=.int .i64 (IntKind.i64.wrap (s16.2.1 + (1:Int)))) (r_int rfl rfl rfl) ?_
      refine o_w (v:=.int .i64 (IntKind.i64.wrap (s16.2.1 + (1:Int)))) (r_asg rfl) ?_
      refine eo_nil ?_
      refine blk_n ?_
      refine sq_n ?_
      refine ec_region ?_
      refine o_w (v:=.int .i64 s16.2.2.1) (r_mov rfl) ?_
      refine o_w (v:=.int .i64 (IntKind.i64.wrap (s16.2.2.1 + (1:Int)))) (r_int rfl rfl rfl) ?_
      refine o_w (v:=.int .i64 (IntKind.i64.wrap (s16.2.2.1 + (1:Int)))) (r_asg rfl) ?_
      refine eo_nil ?_
      subst h
      exact lq_n ⟨_,A45,c46,A48,c49,envs_self ⟨rfl,rfl,rfl,rfl,rfl,rfl,trivial⟩,rfl,G98,E95,(H47.up G99 (fun _ h=>h) (upc (.inl (List.Mem.tail _ (List.Mem.head _))) (upc (.inl (List.Mem.tail _ (List.Mem.tail _ (List.Mem.head _)))) (fun m hm=>Or.inl (List.Mem.tail _ (List.Mem.tail _ (List.Mem.tail _ hm))))))),(H50.up G99 (fun _ h=>h) (upc (.inl (List.Mem.tail _ (List.Mem.head _))) (upc (.inl (List.Mem.tail _ (List.Mem.tail _ (List.Mem.head _)))) (fun m hm=>Or.inl (List.Mem.tail _ (List.Mem.tail _ (List.Mem.tail _ hm))))))),B100,B94'⟩
     ·replace h:=h.2 hc104
      refine ec_skip ?_
      refine blk_n ?_
      refine sq_n ?_
      refine ec_region ?_
      refine o_w (v:=.int .i64 s16.2.2.1) (r_mov rfl) ?_
      refine o_w (v:=.int .i64 (IntKind.i64.wrap (s16.2.2.1 + (1:Int)))) (r_int rfl rfl rfl) ?_
      refine o_w (v:=.int .i64 (IntKind.i64.wrap (s16.2.2.1 + (1:Int)))) (r_asg rfl) ?_
      refine eo_nil ?_
      subst h
      exact lq_n ⟨_,A45,c46,A48,c49,envs_self ⟨rfl,rfl,rfl,rfl,rfl,rfl,trivial⟩,rfl,G98,E95,(H47.up G99 (fun _ h=>h) (upc (.inl (List.Mem.tail _ (List.Mem.head _))) (upc (.inl (List.Mem.tail _ (List.Mem.tail _ (List.Mem.head _)))) (fun m hm=>Or.inl (List.Mem.tail _ (List.Mem.tail _ (List.Mem.tail _ hm))))))),(H50.up G99 (fun _ h=>h) (upc (.inl (List.Mem.tail _ (List.Mem.head _))) (upc (.inl (List.Mem.tail _ (List.Mem.tail _ (List.Mem.head _)))) (fun m hm=>Or.inl (List.Mem.tail _ (List.Mem.tail _ (List.Mem.tail _ hm))))))),B100,B94'⟩
  ·replace h:=h.2 hc18
   refine ec_exit ?_
   refine sq_exit ?_
   subst h
   exact lq_x ⟨_,A16r5,c16r5,A16r6,c16r6,envs_self ⟨rfl,rfl,rfl,rfl,rfl,rfl,trivial⟩,rfl,F16r,E16r,H16r5,H16r6,B16rb10,B16rb7⟩
 ·exact ⟨_,A1,c2,A4,c5,envs_self ⟨rfl,rfl,rfl,rfl,rfl,rfl,trivial⟩,rfl,(Fr.refl _ _),E13,(H3.up (G9.trans (Fr.ext F10)) (fun _ h=>h) (upc (.inr m12) (upc (.inr m8) (fun _ h=>.inl h)))),(H6.up (G9.trans (Fr.ext F10)) (fun _ h=>h) (upc (.inr m12) (upc (.inr m8) (fun _ h=>.inl h)))),B10,(B7.ex F10)⟩
 ·rintro ρ16e ds16e w16e ⟨ρ16e,A16e5,c16e5,A16e6,c16e6,rfl,rfl,F16e,E16e,H16e5,H16e6,B16eb10,B16eb7⟩
  refine blk_hit ?_
  refine sq_n ?_
  refine ec_seq ?_
  refine ec_region ?_
  refine o_w (v:=.agg #[.int .i64 x16.2.2.2.1,.slice A16e5 x16.2.2.2.2.1.length c16e5,.slice A16e6 x16.2.2.2.2.2.length c16e6]) (r_lda agg_api_Arena rfl (vs:=[.int .i64 x16.2.2.2.1,.slice A16e5 x16.2.2.2.2.1.length c16e5,.slice A16e6 x16.2.2.2.2.2.length c16e6]) rfl (B16eb7.part (n:=3) rfl)) ?_
  refine o_w (v:=.int .i64 x16.1) (r_mov rfl) ?_
  refine o_w (v:=.int .i64 x16.2.1) (r_mov rfl) ?_
  refine o_store rfl B16eb10 (vs:=[.int .i64 x16.2.2.2.1,.slice A16e5 x16.2.2.2.2.1.length c16e5,.slice A16e6 x16.2.2.2.2.2.length c16e6]) rfl sz_api_Arena rfl rfl rfl ?_
  intro w106 F106 B106
  have E107:=Ext.st E16e F106 (by simp; omega)
  have G109:Fr (b10::(b7::L)) w16e w106:=(Fr.refl _ _).stp F106 (upc (.inl (List.Mem.head _)) (fun m hm=>by cases hm))
  have B106':Blk w106 b10 _ [.int .i64 x16.2.2.2.1,.slice A16e5 x16.2.2.2.2.1.length c16e5,.slice A16e6 x16.2.2.2.2.2.length c16e6]:=B106
  refine o_w (v:=.int .i64 x16.1) (r_asg rfl) ?_
  refine o_w (v:=.int .i64 x16.2.1) (r_asg rfl) ?_
  refine eo_nil_sq ?_
  refine ec_ret ?_
  subst h
  exact (endr3 (rv_a rfl (agg_api_Arena) B106' (vs:=[.int .i64 x16.2.2.2.1,.slice A16e5 x16.2.2.2.2.1.length c16e5,.slice A16e6 x16.2.2.2.2.2.length c16e6]) rfl rfl) (rv_t rfl) (rv_t rfl) ⟨_,rfl,E107,_,rfl,(kArena_mk (d:=(⟨x16.2.2.2.1,x16.2.2.2.2.1,x16.2.2.2.2.2⟩:Arena)) (H16e5.up G109 (fun _ h=>h) (fun m hm=>Or.inl (List.Mem.tail _ (List.Mem.tail _ hm)))) (H16e6.up G109 (fun _ h=>h) (fun m hm=>Or.inl (List.Mem.tail _ (List.Mem.tail _ hm)))))⟩)
def arena_Merge_b16 (d1:(List Ent)) (s16:Int × Int × Int × Int × List Ent × List Int) (z16:(Int × Int × Int × Int × List Ent × List Int) ⊕ (Int × Int × Int × Int × List Ent × List Int)):Prop :=
 ((decide (s16.2.2.1<(d1.length:Int)))=true→((0≤s16.2.2.1∧s16.2.2.1<(d1.length:Int))∧((sma (⟨s16.2.2.2.1,s16.2.2.2.2.1,s16.2.2.2.2.2⟩:Arena))∧((sm (nth d1 s16.2.2.1).val)∧((WfV (nth d1 s16.2.2.1).val)∧(∃ x49,x49=(joinA (⟨s16.2.2.2.1,s16.2.2.2.2.1,s16.2.2.2.2.2⟩:Arena) (nth d1 s16.2.2.1))∧((x49.2.1=true→(((x49.2.2 != (0:Int))=true→(z16=.inl ((IntKind.i64.wrap (s16.1 + (1:Int))),(IntKind.i64.wrap (s16.2.1 + (1:Int))),(IntKind.i64.wrap (s16.2.2.1 + (1:Int))),x49.1.cap,x49.1.slots,x49.1.idx)))∧((x49.2.2 != (0:Int))=false→(z16=.inl ((IntKind.i64.wrap (s16.1 + (1:Int))),s16.2.1,(IntKind.i64.wrap (s16.2.2.1 + (1:Int))),x49.1.cap,x49.1.slots,x49.1.idx)))))∧(x49.2.1=false→(((x49.2.2 != (0:Int))=true→(z16=.inl (s16.1,(IntKind.i64.wrap (s16.2.1 + (1:Int))),(IntKind.i64.wrap (s16.2.2.1 + (1:Int))),x49.1.cap,x49.1.slots,x49.1.idx)))∧((x49.2.2 != (0:Int))=false→(z16=.inl (s16.1,s16.2.1,(IntKind.i64.wrap (s16.2.2.1 + (1:Int))),x49.1.cap,x49.1.slots,x49.1.idx))))))))))))∧((decide (s16.2.2.1<(d1.length:Int)))=false→(z16=.inr (s16.1,s16.2.1,s16.2.2.1,s16.2.2.2.1,s16.2.2.2.2.1,s16.2.2.2.2.2)))
def arena_Merge_raw (d0:Arena) (d1:(List Ent)) (y:Arena × Int × Int):Prop :=
 ∃ x16,LoopR (arena_Merge_b16 d1) ((0:Int),(0:Int),(0:Int),d0.cap,d0.slots,d0.idx) x16∧(y=((⟨x16.2.2.2.1,x16.2.2.2.2.1,x16.2.2.2.2.2⟩:Arena),x16.1,x16.2.1))
set_option maxRecDepth 20000 in
set_option maxHeartbeats 4000000 in
theorem arena_Merge_c {L:List Nat} {w:World} {csP0:List Value} (d0:Arena) (HP0:Stb L w (fun w=>kArena.r w csP0 d0)) {AP1:Option Addr} {cP1:Nat} (d1:(List Ent)) (HP1:Stb L w (fun w=>SlC kEnt w AP1 cP1 d1)) (hL:Lt L w) {y:Arena × Int × Int} (h:arena_Merge_raw d0 d1 y) :
  Calls Try.prog 33 [.agg csP0.toArray,.slice AP1 d1.length cP1].toArray w (Ret fun v w'=>Ext w w'∧∃ (cs90:List Value),v=.tuple #[.agg cs90.toArray,.int .i64 y.2.1,.int .i64 y.2.2]∧Stb L w' (fun w=>kArena.r w cs90 y.1)):=by
 obtain ⟨A1,c2,A4,c5,rfl,H3,H6⟩:=kArena_open HP0
 unfold arena_Merge_raw at h
 refine calls_ec Try.func33 rfl rfl rfl ?_
 refine ec_seq ?_
 refine ec_region ?_
 refine o_box (cs:=(cArena d0 A1 c2 A4 c5)) rfl rfl rfl ?_
 intro b7 w7 e7 F7 B7
 have n7:w.heap.size≤b7:=Nat.le_of_eq e7.symm
 have m8:w.heap.size≤b7:=Nat.le_of_eq e7.symm
 have G9:Fr L w w7:=Fr.ext F7
 refine o_alloc zero_api_Arena rfl rfl rfl ?_
 intro b10 w10 e10 F10 B10
 have n10:w.heap.size≤b10:=by rw [e10]; exact F7.size
 have q11:b7<b10:=by rw [e10]; exact B7.lt
 have m12:w.heap.size≤b10:=by rw [e10]; exact G9.size
 have E13:=F7.trans F10
 iterate 2 refine o_w (v:=.int .i64 (0:Int)) (r_asg rfl) ?_
 refine eo_nil_sq ?_
 refine ec_seq ?_
 refine ec_region ?_
 iterate 2 refine o_w (v:=.int .i64 (0:Int)) (r_asg rfl) ?_
 refine eo_nil_sq ?_
 iterate 2 refine ec_seq ?_
 refine ec_region ?_
 refine o_w (v:=.slice AP1 d1.length cP1) (r_mov rfl) ?_
 refine o_w (v:=.int .i64 (d1.length:Int)) (r_len_slc un_s_api_Entry rfl) ?_
 refine o_w (v:=.int .i64 (0:Int)) (r_mov rfl) ?_
 refine eo_nil_sq ?_
 refine ec_block ?_
 obtain ⟨x16,hl16,h⟩:=h
 refine ec_loopE 0 (I:=(fun (s16:Int × Int × Int × Int × List Ent × List Int) ρ ds w'=>∃ (ρ':Env) (A16i5:Option Addr) (c16i5:Nat) (A16i6:Option Addr) (c16i6:Nat),ρ=envs ρ' [(7,.int .i64 s16.1),(8,.int .i64 s16.2.1),(16,.int .i64 s16.2.2.1),(2,.pointer (some ⟨b7,0,none⟩)),(4,.pointer (some ⟨b10,0,none⟩)),(14,.slice AP1 d1.length cP1),(15,.int .i64 (d1.length:Int))]∧ds=[]∧Fr (b10::(b7::L)) w10 w'∧Ext w w'∧Stb (b10::(b7::L)) w' (fun w=>SlC kEnt w A16i5 c16i5 s16.2.2.2.2.1)∧Stb (b10::(b7::L)) w' (fun w=>SlC (kI .i64) w A16i6 c16i6 s16.2.2.2.2.2)∧Blk w' b10 25 [.int .i64 (0:Int),.slice none ([]:List Ent).length 0,.slice none ([]:List Int).length 0]∧Blk w' b7 25 [.int .i64 s16.2.2.2.1,.slice A16i5 s16.2.2.2.2.1.length c16i5,.slice A16i6 s16.2.2.2.2.2.length c16i6])) ?_ hl16 ?_ ?_
 ·intro s16 z16 ρ16 ds16 w16r hI16 hb16
  obtain ⟨ρ16r,A16r5,c16r5,A16r6,c16r6,rfl,rfl,F16r,E16r,H16r5,H16r6,B16rb10,B16rb7⟩:=hI16
  have h:=hb16
  unfold arena_Merge_b16 at h
  have G17:Fr L w w16r:=(G9.trans (Fr.ext F10)).stp F16r (upc (.inr m12) (upc (.inr m8) (fun _ h=>.inl h)))
  refine ec_seq ?_
  refine ec_region ?_
  refine o_w (v:=.bool (decide (s16.2.2.1<(d1.length:Int)))) (r_int rfl rfl rfl) ?_
  refine eo_nil_sq ?_
  refine ec_seq ?_
  refine ec_cond rfl (fun hc18=>?_) (fun hc18=>?_)
  ·replace h:=h.1 hc18
   refine ec_skip ?_
   refine sq_n ?_
   refine ec_seq ?_
   refine ec_block ?_
   refine ec_seq ?_
   refine ec_region ?_
   obtain ⟨ha19,h⟩:=h
   obtain ⟨cs20,l22,H21⟩:=Stb.elem (by decide) (HP1.up G17 (fun _ h=>h) (upc (.inr m12) (upc (.inr m8) (fun _ h=>.inl h)))) s16.2.2.1 ha19.1 ha19.2
   obtain ⟨A24,c25,A27,c28,rfl,H23,H26,H29⟩:=kEnt_open2 H21
   refine o_w (v:=.pointer (some (elemA AP1 kEnt.n s16.2.2.1.toNat))) (r_ia slc_s_api_Entry rfl rfl ((HP1.fr G17 (fun _ h=>h)).now.2 _ (lt_toNat ha19.1 ha19.2)).1 ha19.1 ha19.2) ?_
   refine o_w (v:=.agg (cEnt (nth d1 s16.2.2.1) A24 c25 A27 c28).toArray) (r_lda' agg_api_Entry rfl (elemA_spot _ _ _) (vs:=(cEnt (nth d1 s16.2.2.1) A24 c25 A27 c28)) rfl (H23.now.1)) ?_
   refine o_alloc zero_api_Entry rfl rfl rfl ?_
   intro b30 w30 e30 F30 B30
   have n30:w.heap.size≤b30:=by rw [e30]; exact E16r.size
   have q31:b7<b30:=by rw [e30]; exact B16rb7.lt
   have q32:b10<b30:=by rw [e30]; exact B16rb10.lt
   have m34:w16r.heap.size≤b30:=Nat.le_of_eq e30.symm
   have m35:w10.heap.size≤b30:=by rw [e30]; exact F16r.size
   have E36:=E16r.trans F30
   have G38:Fr (b10::(b7::L)) w16r w30:=Fr.ext F30
   refine o_store rfl B30 (vs:=(cEnt (nth d1 s16.2.2.1) A24 c25 A27 c28)) rfl sz_api_Entry rfl rfl rfl ?_
   intro w42 F42 B42
   have E43:=Ext.st E36 F42 (by simp; omega)
   have G45:Fr (b10::(b7::L)) w16r w42:=G38.stp F42 (upc (.inr m34) (fun m hm=>by cases hm))
   have G46:Fr (b10::(b7::L)) w10 w42:=(F16r.trans (Fr.ext F30)).stp F42 (upc (.inr m35) (fun m hm=>by cases hm))
   have B47:=(B16rb7.ex F30).fr F42 (by simp; omega)
   have B48:=(B16rb10.ex F30).fr F42 (by simp; omega)
   have B42':Blk w42 b30 _ (cEnt (nth d1 s16.2.2.1) A24 c25 A27 c28):=B42
   refine eo_nil_sq ?_
   refine ec_seq ?_
   refine ec_region ?_
   refine o_w (v:=.agg #[.int .i64 s16.2.2.2.1,.slice A16r5 s16.2.2.2.2.1.length c16r5,.slice A16r6 s16.2.2.2.2.2.length c16r6]) (r_lda agg_api_Arena rfl (vs:=[.int .i64 s16.2.2.2.1,.slice A16r5 s16.2.2.2.2.1.length c16r5,.slice A16r6 s16.2.2.2.2.2.length c16r6]) rfl (B47.part (n:=3) rfl)) ?_
   refine o_w (v:=.agg (cEnt (nth d1 s16.2.2.1) A24 c25 A27 c28).toArray) (r_lda agg_api_Entry rfl (vs:=(cEnt (nth d1 s16.2.2.1) A24 c25 A27 c28)) rfl (B42'.part (n:=9) rfl)) ?_
   obtain ⟨ha50,h⟩:=h
   obtain ⟨ha51,h⟩:=h
   obtain ⟨ha52,h⟩:=h
   obtain ⟨x49,hx49,h⟩:=h
   refine o_call cf_arena_Join rfl (arena_Join_c (⟨s16.2.2.2.1,s16.2.2.2.2.1,s16.2.2.2.2.2⟩:Arena) (kArena_mk (d:=(⟨s16.2.2.2.1,s16.2.2.2.2.1,s16.2.2.2.2.2⟩:Arena)) (H16r5.up G45 (fun _ h=>h) (upc (.inr m34) (upc (.inl (List.Mem.head _)) (upc (.inl (List.Mem.tail _ (List.Mem.head _))) (fun m hm=>Or.inl (List.Mem.tail _ (List.Mem.tail _ hm))))))) (H16r6.up G45 (fun _ h=>h) (upc (.inr m34) (upc (.inl (List.Mem.head _)) (upc (.inl (List.Mem.tail _ (List.Mem.head _))) (fun m hm=>Or.inl (List.Mem.tail _ (List.Mem.tail _ hm)))))))) (nth d1 s16.2.2.1) (kEnt_mk (d:=(nth d1 s16.2.2.1)) (H26.up G45 (fun _ h=>h) (upc (.inr m34) (upc (.inl (List.Mem.head _)) (upc (.inl (List.Mem.tail _ (List.Mem.head _))) (fun m hm=>Or.inl (List.Mem.tail _ (List.Mem.tail _ hm))))))) (H29.up G45 (fun _ h=>h) (upc (.inr m34) (upc (.inl (List.Mem.head _)) (upc (.inl (List.Mem.tail _ (List.Mem.head _))) (fun m hm=>Or.inl (List.Mem.tail _ (List.Mem.tail _ hm)))))))) ((((hL.fr E43).cons B47.lt).cons B48.lt).cons B42'.lt) (eq_ev hx49 (arJoin_ev (⟨s16.2.2.2.1,s16.2.2.2.2.1,s16.2.2.2.2.2⟩:Arena) (nth d1 s16.2.2.1) ha50 ha51 ha52))) rfl rfl ?_
   rintro _ w49 ⟨F49,cs53,rfl,H54⟩
   have E55:=E43.trans F49
   obtain ⟨A62,c63,A65,c66,rfl,H64,H67⟩:=kArena_open H54
   refine o_w (v:=.tuple #[.agg (cArena x49.1 A62 c63 A65 c66).toArray,.bool x49.2.1,.int .i64 x49.2.2]) (r_mov rfl) ?_
   refine o_w (v:=.agg (cArena x49.1 A62 c63 A65 c66).toArray) (r_ext rfl rfl) ?_
   refine o_w (v:=.bool x49.2.1) (r_ext rfl rfl) ?_
   refine o_w (v:=.int .i64 x49.2.2) (r_ext rfl rfl) ?_
   refine o_alloc zero_api_Arena rfl rfl rfl ?_
   intro b68 w68 e68 F68 B68
   have n68:w.heap.size≤b68:=by rw [e68]; exact E55.size
   have q69:b7<b68:=by rw [e68]; exact (B47.ex F49).lt
   have q70:b10<b68:=by rw [e68]; exact (B48.ex F49).lt
   have q71:b30<b68:=by rw [e68]; exact (B42'.ex F49).lt
   have m74:w10.heap.size≤b68:=by rw [e68]; exact (G46.trans (Fr.ext F49)).size
   have m75:w49.heap.size≤b68:=Nat.le_of_eq e68.symm
   have E76:=E55.trans F68
   have G80:Fr (b30::(b10::(b7::L))) w49 w68:=Fr.ext F68
   refine o_store rfl B68 (vs:=(cArena x49.1 A62 c63 A65 c66)) rfl sz_api_Arena rfl rfl rfl ?_
   intro w84 F84 B84
   have E85:=Ext.st E76 F84 (by simp; omega)
   have G88:Fr (b10::(b7::L)) w10 w84:=((G46.trans (Fr.ext F49)).trans (Fr.ext F68)).stp F84 (upc (.inr m74) (fun m hm=>by cases hm))
   have G89:Fr (b30::(b10::(b7::L))) w49 w84:=G80.stp F84 (upc (.inr m75) (fun m hm=>by cases hm))
   have B90:=((B47.ex F49).ex F68).fr F84 (by simp; omega)
   have B91:=((B48.ex F49).ex F68).fr F84 (by simp; omega)
   have B84':Blk w84 b68 _ (cArena x49.1 A62 c63 A65 c66):=B84
   refine o_w (v:=.bool x49.2.1) (r_asg rfl) ?_
   refine o_w (v:=.int .i64 x49.2.2) (r_asg rfl) ?_
   refine eo_nil_sq ?_
   iterate 2 refine ec_seq ?_
   refine ec_region ?_
   refine o_w (v:=.agg (cArena x49.1 A62 c63 A65 c66).toArray) (r_lda agg_api_Arena rfl (vs:=(cArena x49.1 A62 c63 A65 c66)) rfl (B84'.part (n:=3) rfl)) ?_
   refine o_store rfl B90 (vs:=(cArena x49.1 A62 c63 A65 c66)) rfl sz_api_Arena rfl rfl rfl ?_
   intro w93 F93 B93
   have E94:=Ext.st E85 F93 (by simp; omega)
   have G97:Fr (b10::(b7::L)) w10 w93:=G88.stp F93 (upc (.inl (List.Mem.tail _ (List.Mem.head _))) (fun m hm=>by cases hm))
   have G98:Fr (b30::(b10::(b7::L))) w49 w93:=G89.stp F93 (upc (.inl (List.Mem.tail _ (List.Mem.tail _ (List.Mem.head _)))) (fun m hm=>by cases hm))
   have B99:=B91.fr F93 (by simp; omega)
   have B93':Blk w93 b7 _ (cArena x49.1 A62 c63 A65 c66):=B93
   refine eo_nil_sq ?_
   refine ec_seq ?_
   refine ec_region ?_
   refine o_w (v:=.bool x49.2.1) (r_mov rfl) ?_
   refine eo_nil_sq ?_
   refine ec_cond rfl (fun hc102=>?_) (fun hc102=>?_)
   ·replace h:=h.1 hc102
    refine ec_region ?_
    refine o_w (v:=.int .i64 s16.1) (r_mov rfl) ?_
    refine o_w (v:=.int .i64 (IntKind.i64.wrap (s16.1 + (1:Int)))) (r_int rfl rfl rfl) ?_
    refine o_w (v:=.int .i64 (IntKind.i64.wrap (s16.1 + (1:Int)))) (r_asg rfl) ?_
    refine eo_nil_sq ?_
    refine ec_seq ?_
    refine ec_region ?_
    refine o_w (v:=.int .i64 x49.2.2) (r_mov rfl) ?_
    refine o_w (v:=.bool (x49.2.2 != (0:Int))) (r_int rfl rfl rfl) ?_
    refine eo_nil_sq ?_
    refine ec_cond rfl (fun hc103=>?_) (fun hc103=>?_)
    ·replace h:=h.1 hc103
     refine ec_region ?_
     refine o_w (v:=.int .i64 s16.2.1) (r_mov rfl) ?_
     refine o_w (v:=.int .i64 (IntKind.i64.wrap (s16.2.1 + (1:Int)))) (r_int rfl rfl rfl) ?_
     refine o_w (v:=.int .i64 (IntKind.i64.wrap (s16.2.1 + (1:Int)))) (r_asg rfl) ?_
     refine eo_nil ?_
     refine blk_n ?_
     refine sq_n ?_
     refine ec_region ?_
     refine o_w (v:=.int .i64 (IntKind.i64.wrap (s16.2.2.1 + (1:Int)))) (r_int rfl rfl rfl) ?_
     refine o_w (v:=.int .i64 (IntKind.i64.wrap (s16.2.2.1 + (1:Int)))) (r_mov rfl) ?_
     refine eo_nil ?_
     subst h
     exact lq_n ⟨_,A62,c63,A65,c66,envs_self ⟨rfl,rfl,rfl,rfl,rfl,rfl,rfl,trivial⟩,rfl,G97,E94,(H64.up G98 (fun _ h=>h) (upc (.inl (List.Mem.tail _ (List.Mem.head _))) (upc (.inl (List.Mem.tail _ (List.Mem.tail _ (List.Mem.head _)))) (fun m hm=>Or.inl (List.Mem.tail _ (List.Mem.tail _ (List.Mem.tail _ hm))))))),(H67.up G98 (fun _ h=>h) (upc (.inl (List.Mem.tail _ (List.Mem.head _))) (upc (.inl (List.Mem.tail _ (List.Mem.tail _ (List.Mem.head _)))) (fun m hm=>Or.inl (List.Mem.tail _ (List.Mem.tail _ (List.Mem.tail _ hm))))))),B99,B93'⟩
    ·replace h:=h.2 hc103
     refine ec_skip ?_
     refine blk_n ?_
     refine sq_n ?_
     refine ec_region ?_
     refine o_w (v:=.int .i64 (IntKind.i64.wrap (s16.2.2.1 + (1:Int)))) (r_int rfl rfl rfl) ?_
     refine o_w (v:=.int .i64 (IntKind.i64.wrap (s16.2.2.1 + (1:Int)))) (r_mov rfl) ?_
     refine eo_nil ?_
     subst h
     exact lq_n ⟨_,A62,c63,A65,c66,envs_self ⟨rfl,rfl,rfl,rfl,rfl,rfl,rfl,trivial⟩,rfl,G97,E94,(H64.up G98 (fun _ h=>h) (upc (.inl (List.Mem.tail _ (List.Mem.head _))) (upc (.inl (List.Mem.tail _ (List.Mem.tail _ (List.Mem.head _)))) (fun m hm=>Or.inl (List.Mem.tail _ (List.Mem.tail _ (List.Mem.tail _ hm))))))),(H67.up G98 (fun _ h=>h) (upc (.inl (List.Mem.tail _ (List.Mem.head _))) (upc (.inl (List.Mem.tail _ (List.Mem.tail _ (List.Mem.head _)))) (fun m hm=>Or.inl (List.Mem.tail _ (List.Mem.tail _ (List.Mem.tail _ hm))))))),B99,B93'⟩
   ·replace h:=h.2 hc102
    refine ec_skip ?_
    refine sq_n ?_
    refine ec_seq ?_
    refine ec_region ?_
    refine o_w (v:=.int .i64 x49.2.2) (r_mov rfl) ?_
    refine o_w (v:=.bool (x49.2.2 != (0:Int))) (r_int rfl rfl rfl) ?_
    refine eo_nil_sq ?_
    refine ec_cond rfl (fun hc104=>?_) (fun hc104=>?_)
    ·replace h:=h.1 hc104
     refine ec_region ?_
     refine o_w (v:=.int .i64 s16.2.1) (r_mov rfl) ?_
     refine o_w (v:=.int .i64 (IntKind.i64.wrap (s16.2.1 + (1:Int)))) (r_int rfl rfl rfl) ?_
     refine o_w (v:=.int .i64 (IntKind.i64.wrap (s16.2.1 + (1:Int)))) (r_asg rfl) ?_
     refine eo_nil ?_
     refine blk_n ?_
     refine sq_n ?_
     refine ec_region ?_
     refine o_w (v:=.int .i64 (IntKind.i64.wrap (s16.2.2.1 + (1:Int)))) (r_int rfl rfl rfl) ?_
     refine o_w (v:=.int .i64 (IntKind.i64.wrap (s16.2.2.1 + (1:Int)))) (r_mov rfl) ?_
     refine eo_nil ?_
     subst h
     exact lq_n ⟨_,A62,c63,A65,c66,envs_self ⟨rfl,rfl,rfl,rfl,rfl,rfl,rfl,trivial⟩,rfl,G97,E94,(H64.up G98 (fun _ h=>h) (upc (.inl (List.Mem.tail _ (List.Mem.head _))) (upc (.inl (List.Mem.tail _ (List.Mem.tail _ (List.Mem.head _)))) (fun m hm=>Or.inl (List.Mem.tail _ (List.Mem.tail _ (List.Mem.tail _ hm))))))),(H67.up G98 (fun _ h=>h) (upc (.inl (List.Mem.tail _ (List.Mem.head _))) (upc (.inl (List.Mem.tail _ (List.Mem.tail _ (List.Mem.head _)))) (fun m hm=>Or.inl (List.Mem.tail _ (List.Mem.tail _ (List.Mem.tail _ hm))))))),B99,B93'⟩
    ·replace h:=h.2 hc104
     refine ec_skip ?_
     refine blk_n ?_
     refine sq_n ?_
     refine ec_region ?_
     refine o_w (v:=.int .i64 (IntKind.i64.wrap (s16.2.2.1 + (1:Int)))) (r_int rfl rfl rfl) ?_
     refine o_w (v:=.int .i64 (IntKind.i64.wrap (s16.2.2.1 + (1:Int)))) (r_mov rfl) ?_
     refine eo_nil ?_
     subst h
     exact lq_n ⟨_,A62,c63,A65,c66,envs_self ⟨rfl,rfl,rfl,rfl,rfl,rfl,rfl,trivial⟩,rfl,G97,E94,(H64.up G98 (fun _ h=>h) (upc (.inl (List.Mem.tail _ (List.Mem.head _))) (upc (.inl (List.Mem.tail _ (List.Mem.tail _ (List.Mem.head _)))) (fun m hm=>Or.inl (List.Mem.tail _ (List.Mem.tail _ (List.Mem.tail _ hm))))))),(H67.up G98 (fun _ h=>h) (upc (.inl (List.Mem.tail _ (List.Mem.head _))) (upc (.inl (List.Mem.tail _ (List.Mem.tail _ (List.Mem.head _)))) (fun m hm=>Or.inl (List.Mem.tail _ (List.Mem.tail _ (List.Mem.tail _ hm))))))),B99,B93'⟩
  ·replace h:=h.2 hc18
   refine ec_exit ?_
   refine sq_exit ?_
   subst h
   exact lq_x ⟨_,A16r5,c16r5,A16r6,c16r6,envs_self ⟨rfl,rfl,rfl,rfl,rfl,rfl,rfl,trivial⟩,rfl,F16r,E16r,H16r5,H16r6,B16rb10,B16rb7⟩
 ·exact ⟨_,A1,c2,A4,c5,envs_self ⟨rfl,rfl,rfl,rfl,rfl,rfl,rfl,trivial⟩,rfl,(Fr.refl _ _),E13,(H3.up (G9.trans (Fr.ext F10)) (fun _ h=>h) (upc (.inr m12) (upc (.inr m8) (fun _ h=>.inl h)))),(H6.up (G9.trans (Fr.ext F10)) (fun _ h=>h) (upc (.inr m12) (upc (.inr m8) (fun _ h=>.inl h)))),B10,(B7.ex F10)⟩
 ·rintro ρ16e ds16e w16e ⟨ρ16e,A16e5,c16e5,A16e6,c16e6,rfl,rfl,F16e,E16e,H16e5,H16e6,B16eb10,B16eb7⟩
  refine blk_hit ?_
  refine sq_n ?_
  refine ec_seq ?_
  refine ec_region ?_
  refine o_w (v:=.agg #[.int .i64 x16.2.2.2.1,.slice A16e5 x16.2.2.2.2.1.length c16e5,.slice A16e6 x16.2.2.2.2.2.length c16e6]) (r_lda agg_api_Arena rfl (vs:=[.int .i64 x16.2.2.2.1,.slice A16e5 x16.2.2.2.2.1.length c16e5,.slice A16e6 x16.2.2.2.2.2.length c16e6]) rfl (B16eb7.part (n:=3) rfl)) ?_
  refine o_w (v:=.int .i64 x16.1) (r_mov rfl) ?_
  refine o_w (v:=.int .i64 x16.2.1) (r_mov rfl) ?_
  refine o_store rfl B16eb10 (vs:=[.int .i64 x16.2.2.2.1,.slice A16e5 x16.2.2.2.2.1.length c16e5,.slice A16e6 x16.2.2.2.2.2.length c16e6]) rfl sz_api_Arena rfl rfl rfl ?_
  intro w106 F106 B106
  have E107:=Ext.st E16e F106 (by simp; omega)
  have G109:Fr (b10::(b7::L)) w16e w106:=(Fr.refl _ _).stp F106 (upc (.inl (List.Mem.head _)) (fun m hm=>by cases hm))
  have B106':Blk w106 b10 _ [.int .i64 x16.2.2.2.1,.slice A16e5 x16.2.2.2.2.1.length c16e5,.slice A16e6 x16.2.2.2.2.2.length c16e6]:=B106
  refine o_w (v:=.int .i64 x16.1) (r_asg rfl) ?_
  refine o_w (v:=.int .i64 x16.2.1) (r_asg rfl) ?_
  refine eo_nil_sq ?_
  refine ec_ret ?_
  subst h
  exact (endr3 (rv_a rfl (agg_api_Arena) B106' (vs:=[.int .i64 x16.2.2.2.1,.slice A16e5 x16.2.2.2.2.1.length c16e5,.slice A16e6 x16.2.2.2.2.2.length c16e6]) rfl rfl) (rv_t rfl) (rv_t rfl) ⟨_,rfl,E107,_,rfl,(kArena_mk (d:=(⟨x16.2.2.2.1,x16.2.2.2.2.1,x16.2.2.2.2.2⟩:Arena)) (H16e5.up G109 (fun _ h=>h) (fun m hm=>Or.inl (List.Mem.tail _ (List.Mem.tail _ hm)))) (H16e6.up G109 (fun _ h=>h) (fun m hm=>Or.inl (List.Mem.tail _ (List.Mem.tail _ hm)))))⟩)
end Go.Proofs.Ythifkdgljapmeaa
