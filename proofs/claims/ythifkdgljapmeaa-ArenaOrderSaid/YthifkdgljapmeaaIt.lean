/- The iterator of arena. -/
import Derived.Test.YthifkdgljapmeaaEu
namespace Go.Proofs.Ythifkdgljapmeaa
open Go Go.RowKit
set_option linter.unusedVariables false
set_option linter.unusedSimpArgs false
def arena_each_1_b13 (d1:Arena) (s13:Int × List (Int × Ent)) (z13:(Int × List (Int × Ent)) ⊕ ((Int × List (Int × Ent)) ⊕ (Unit))):Prop :=
 ((decide (s13.1<(d1.slots.length:Int)))=true→((0≤s13.1∧s13.1<(d1.slots.length:Int))∧(∃ r46,s13.2=(s13.1,(nth d1.slots s13.1))::r46∧(z13=.inl ((IntKind.i64.wrap (s13.1 + (1:Int))),r46))∧(True))))∧((decide (s13.1<(d1.slots.length:Int)))=false→(z13=.inr (.inl (s13.1,s13.2))))
def arena_each_1_X:(Int × Ent)→List Nat→World→List Value→Prop:=fun x T W vs=>∃ cs1,vs=[.int .i64 x.1,.agg cs1.toArray]∧Stb T W (fun w=>kEnt.r w cs1 x.2)
def arena_each_1_raw (d1:Arena) (xs:List (Int × Ent)):Prop :=
 (sma d1)∧((((checkA d1) != (0:Int))=true→(xs=[]))∧(((checkA d1) != (0:Int))=false→(∃ x13,LoopR (arena_each_1_b13 d1) ((0:Int),xs) x13∧(∀ sx13,x13=.inl sx13→(sx13.2=[]))∧(∀ y13,x13=.inr y13→True))))
set_option maxRecDepth 20000 in
set_option maxHeartbeats 4000000 in
theorem arena_each_1_it1 {L:List Nat} {w:World} {bP1:Nat} {csP1:List Value} (d1:Arena) (HB1:Stb L w (fun w=>Blk w bP1 25 csP1)) (HP1:Stb L w (fun w=>kArena.r w csP1 d1)) (hL:Lt L w) {xs:List (Int × Ent)} (h:arena_each_1_raw d1 xs) (l:Nat) (J:Nat→List Nat→World→Prop) (Jx:World→Prop) (T0:List Nat) (hT0:∀ m∈T0,m∈L) (hJ0:J 0 T0 w)
  (hJe:∀ k T W W',J k T W→Ext W W'→J k T W') (hJxe:∀ W W',Jx W→Ext W W'→Jx W') (hJl:∀ k T W,J k T W→Lt T W)
  (hY:∀ k x T W vs,xs[k]?=some x→J k T W→arena_each_1_X x T W vs→YC Try.prog l vs W fun e W' =>
   (e=.returned (.bool true)∧∃ T',J (k + 1) T' W'∧Fr T W W'∧∀ q∈T',q∈T∨W.heap.size≤q)∨(e=.returned (.bool false)∧Jx W')) :
  Calls Try.prog 60 (.func (.yield l) #[] #[]::[.pointer (some ⟨bP1,0,none⟩)]).toArray w fun e W'=>(∃ v,e=.returned v)∧((∃ T,J xs.length T W')∨Jx W'):=by
 obtain ⟨A1,c2,A4,c5,rfl,H3,H6⟩:=kArena_open HP1
 unfold arena_each_1_raw at h
 refine calls_ec Try.func60 rfl rfl rfl ?_
 refine ec_seq ?_
 refine ec_sr ?_
 refine o_w (v:=.agg (cArena d1 A1 c2 A4 c5).toArray) (r_lda agg_api_Arena rfl (vs:=(cArena d1 A1 c2 A4 c5)) rfl (HB1.now.part (n:=3) rfl)) ?_
 obtain ⟨ha8,h⟩:=h
 refine o_call cf_arena_Check rfl (arena_Check_c d1 (kArena_mk (d:=d1) (H3.up (Fr.refl L _) sI (upo (fun m hm=>.inl (hT0 m hm)) (fun _ h=>.inl h))) (H6.up (Fr.refl L _) sI (upo (fun m hm=>.inl (hT0 m hm)) (fun _ h=>.inl h)))) (lt_app (hJl _ _ _ hJ0) hL) (arCheck_ev d1 ha8)) rfl rfl ?_
 rintro _ w7 ⟨F7,rfl⟩
 have G9:Fr L w w7:=Fr.ext F7
 have G10:Fr ([]:List Nat) w w7:=Fr.ext F7
 refine o_w (v:=.bool ((checkA d1) != (0:Int))) (r_int rfl rfl rfl) ?_
 refine eo_nil_sq ?_
 refine ec_cond rfl (fun hc12=>?_) (fun hc12=>?_)
 ·replace h:=h.1 hc12
  refine ec_ret ?_
  refine sq_ret ?_
  have hr:=h
  exact (end0r ⟨⟨_,rfl⟩,.inl ⟨_,it_end (it_nil (xs:=xs)) hr (hJe _ _ _ _ hJ0 G10)⟩⟩)
 ·replace h:=h.2 hc12
  refine ec_skip ?_
  refine sq_n ?_
  refine ec_sr ?_
  refine o_w (v:=.pointer (some ⟨bP1,1,none⟩)) (r_fa fld_api_Arena_1 rfl rfl) ?_
  refine o_w (v:=.slice A1 d1.slots.length c2) (r_ld one_s_api_Entry rfl ((HB1.fr G9 sI).now.cell rfl)) ?_
  refine o_w (v:=.int .i64 (d1.slots.length:Int)) (r_len_slc un_s_api_Entry rfl) ?_
  refine o_w (v:=.int .i64 0) (r_mov rfl) ?_
  refine eo_nil_sq ?_
  refine ec_block ?_
  obtain ⟨x13,hl13,h⟩:=h
  refine ec_loopIt 0 (I:=(fun (s13:Int × List (Int × Ent)) ρ ds w'=>∃ (ρ':Env) (dn13i2:List (Int × Ent)) (T13i2:List Nat),ρ=envs ρ' [(11,.int .i64 s13.1),(0,.func (.yield l) #[] #[]),(9,.slice A1 d1.slots.length c2),(10,.int .i64 (d1.slots.length:Int))]∧ds=[]∧Fr (T0++L) w7 w'∧Fr L w w'∧J dn13i2.length T13i2 w'∧(∀ q∈T13i2,q∈(T0++L)∨w7.heap.size≤q)∧xs=dn13i2++s13.2∧(∀ q∈T13i2,q∈L∨w.heap.size≤q))) (J:=(fun (y':Unit) ρ ds wz=>bodyE Try.prog #[] (fun e W'=>(∃ v,e=.returned v)∧((∃ T,J xs.length T W')∨Jx W')) .ret ρ ds wz)) (K:=(fun ρ ds wz=>bodyE Try.prog #[] (fun e W'=>(∃ v,e=.returned v)∧((∃ T,J xs.length T W')∨Jx W')) .ret ρ ds wz)) ?_ hl13 ?_ ?_ ?_ ?_
  ·intro s13 z13 ρ13 ds13 w13r hI13 hb13
   obtain ⟨ρ13r,dn13r2,T13r2,rfl,rfl,F13r,E13r,j13r2,N13r2,D13r2,Ti13r2⟩:=hI13
   have h:=hb13
   unfold arena_each_1_b13 at h
   have G14:Fr L w w13r:=G9.stp F13r (upo (fun m hm=>.inl (hT0 m hm)) (fun _ h=>.inl h))
   have P15:∀ m∈T13r2,m∈L∨w.heap.size≤m:=fun m hm=>(N13r2 m hm).elim (fun h=>(show ∀ m∈(T0++L),m∈L∨w.heap.size≤m from (upo (fun m hm=>.inl (hT0 m hm)) (fun _ h=>.inl h))) m h) (fun h=>.inr (Nat.le_trans (G9.size) h))
   refine ec_sr ?_
   refine o_w (v:=.bool (decide (s13.1<(d1.slots.length:Int)))) (r_int rfl rfl rfl) ?_
   refine eo_nil_sq ?_
   refine ec_seq ?_
   refine ec_cond rfl (fun hc16=>?_) (fun hc16=>?_)
   ·replace h:=h.1 hc16
    refine ec_skip ?_
    refine sq_n ?_
    refine ec_seq ?_
    refine ec_block ?_
    refine ec_sr ?_
    refine o_w (v:=.int .i64 s13.1) (r_mov rfl) ?_
    obtain ⟨ha17,h⟩:=h
    obtain ⟨cs18,l20,H19⟩:=Stb.elem (by decide) (H3.up G14 sI (upo P15 (fun _ h=>.inl h))) s13.1 ha17.1 ha17.2
    obtain ⟨A22,c23,A25,c26,rfl,H21,H24,H27⟩:=kEnt_open2 H19
    refine o_w (v:=.pointer (some (elemA A1 kEnt.n s13.1.toNat))) (r_ia slc_s_api_Entry rfl rfl ((H3.fr G14 sI).now.2 _ (lt_toNat ha17.1 ha17.2)).1 ha17.1 ha17.2) ?_
    refine o_w (v:=.agg (cEnt (nth d1.slots s13.1) A22 c23 A25 c26).toArray) (r_lda' agg_api_Entry rfl (elemA_spot _ _ _) (vs:=(cEnt (nth d1.slots s13.1) A22 c23 A25 c26)) rfl (H21.now.1)) ?_
    refine o_alloc zero_api_Entry rfl rfl rfl ?_
    intro b28 w28 e28 F28 B28
    have n28:w.heap.size≤b28:=by rw [e28]; exact E13r.size
    have m30:w13r.heap.size≤b28:=Nat.le_of_eq e28.symm
    have m31:w7.heap.size≤b28:=by rw [e28]; exact F13r.size
    have m32:w13r.heap.size≤b28:=Nat.le_of_eq e28.symm
    have nTb28:b28∉T13r2:=fun hm=>by have:=(hJl _ _ _ j13r2) _ hm; omega
    have E33:=E13r.trans (Fr.ext F28)
    have G35:Fr ([]:List Nat) w13r w28:=Fr.ext F28
    have G37:Fr (T13r2++L) w13r w28:=Fr.ext F28
    refine o_w (v:=.int .i64 s13.1) (r_asg rfl) ?_
    refine o_store rfl B28 (vs:=(cEnt (nth d1.slots s13.1) A22 c23 A25 c26)) rfl sz_api_Entry rfl rfl rfl ?_
    intro w39 F39 B39
    have E40:=Fr.stp E33 F39 (fun m hm=>.inr (by simp at hm; omega))
    have G42:Fr ([]:List Nat) w13r w39:=G35.stp F39 (upc (.inr m30) (fun m hm=>by cases hm))
    have G43:Fr (T0++L) w7 w39:=(F13r.trans (Fr.ext F28)).stp F39 (upc (.inr m31) (fun m hm=>by cases hm))
    have G44:Fr (T13r2++L) w13r w39:=G37.stp F39 (upc (.inr m32) (fun m hm=>by cases hm))
    have B39':Blk w39 b28 _ (cEnt (nth d1.slots s13.1) A22 c23 A25 c26):=B39
    refine eo_r ?_
    refine o_w (v:=.func (.yield l) #[] #[]) (r_mov rfl) ?_
    refine o_w (v:=.int .i64 s13.1) (r_mov rfl) ?_
    refine o_w (v:=.agg (cEnt (nth d1.slots s13.1) A22 c23 A25 c26).toArray) (r_lda agg_api_Entry rfl (vs:=(cEnt (nth d1.slots s13.1) A22 c23 A25 c26)) rfl (B39'.part (n:=9) rfl)) ?_
    obtain ⟨r46,er46,h⟩:=h
    refine o_yield (vs:=[.int .i64 s13.1,.agg (cEnt (nth d1.slots s13.1) A22 c23 A25 c26).toArray]) rfl rfl (hY _ (s13.1,(nth d1.slots s13.1)) _ _ _ (it_at D13r2 er46) (hJe _ _ _ _ j13r2 G42) ⟨_,rfl,((kEnt_mk (d:=(nth d1.slots s13.1)) (H24.up G44 sI (upc (.inr m32) (upo (fun m hm=>Or.inl (List.mem_append_left _ hm)) (fun m hm=>Or.inl (List.mem_append_right _ hm))))) (H27.up G44 sI (upc (.inr m32) (upo (fun m hm=>Or.inl (List.mem_append_left _ hm)) (fun m hm=>Or.inl (List.mem_append_right _ hm)))))).weak (fun m hm=>(mT (List.mem_append_left _ hm))))⟩) rfl rfl ?_ (by rintro c w' (⟨h,_⟩ | ⟨h,_⟩) <;> cases h) (by rintro w' (⟨h,_⟩ | ⟨h,_⟩) <;> cases h)
    rintro v46 w46 (⟨ev46,T46,J46,F46,N46⟩ | ⟨ev46,X46⟩)
    ·cases ev46; replace h:=h.1
     have D46:=it_next D13r2 er46
     have j46:=it_len (x:=(s13.1,(nth d1.slots s13.1))) J46
     have hl46:=hJl _ _ _ j46
     have Ti46:∀ m∈T46,m∈L∨w.heap.size≤m:=fun m hm=>(N46 m hm).elim (Ti13r2 m) (fun h=>.inr (Nat.le_trans (E40.size) h))
     have nT46b28:b28∉T46:=fun hm=>(N46 _ hm).elim nTb28 (fun h=>by have:=B39'.lt; omega)
     have P48:∀ m∈T46,m∈(T0++L)∨w7.heap.size≤m:=fun m hm=>(N46 m hm).elim (fun h=>(show ∀ m∈T13r2,m∈(T0++L)∨w7.heap.size≤m from N13r2) m h) (fun h=>.inr (Nat.le_trans (G43.size) h))
     have E50:=Fr.stp E40 F46 Ti13r2
     have G52:Fr (T0++L) w7 w46:=G43.stp F46 N13r2
     refine o_w (r_not rfl) ?_
     refine eo_nil_sq ?_
     refine ec_condF rfl rfl ?_
     refine ec_skip ?_
     refine blk_n ?_
     refine sq_n ?_
     refine ec_region ?_
     refine o_w (v:=.int .i64 (IntKind.i64.wrap (s13.1 + (1:Int)))) (r_int rfl rfl rfl) ?_
     refine o_w (v:=.int .i64 (IntKind.i64.wrap (s13.1 + (1:Int)))) (r_mov rfl) ?_
     refine eo_nil ?_
     subst h
     exact .inr <| lqR_n ⟨_,(dn13r2++[(s13.1,(nth d1.slots s13.1))]),T46,envs_self ⟨rfl,rfl,rfl,rfl,trivial⟩,rfl,G52,E50,(hJe _ _ _ _ j46 (Fr.refl _ _)),P48,D46,Ti46⟩
    ·cases ev46; replace h:=h.2
     refine o_w (r_not rfl) ?_
     refine eo_nil_sq ?_
     refine ec_condT rfl rfl ?_
     refine ec_ret ?_
     refine blk_ret ?_
     refine sq_ret ?_
     exact .inl ⟨rfl,(end0r ⟨⟨_,rfl⟩,.inr (hJxe _ _ X46 (Fr.refl _ _))⟩)⟩
   ·replace h:=h.2 hc16
    refine ec_exit ?_
    refine sq_exit ?_
    subst h
    exact .inr <| lqR_x ⟨_,dn13r2,T13r2,envs_self ⟨rfl,rfl,rfl,rfl,trivial⟩,rfl,F13r,E13r,(hJe _ _ _ _ j13r2 (Fr.refl _ _)),N13r2,D13r2,Ti13r2⟩
  ·exact ⟨_,([]:List (Int × Ent)),T0,envs_self ⟨rfl,rfl,rfl,rfl,trivial⟩,rfl,(Fr.refl _ _),(Fr.ext F7),(hJe _ _ _ _ hJ0 G10),(fun q hq=>.inl (by first | exact List.mem_append_left _ hq | simp [hq])),(it_nil (xs:=xs)),(fun m hm=>.inl (hT0 m hm))⟩
  ·rintro sx13 rfl ρ13e ds13e w13e ⟨ρ13e,dn13e2,T13e2,rfl,rfl,F13e,E13e,j13e2,N13e2,D13e2,Ti13e2⟩
   replace h:=h.1 _ rfl
   refine blk_hit ?_
   have hr:=h
   exact (end0 ⟨⟨_,rfl⟩,.inl ⟨_,it_end D13e2 hr (hJe _ _ _ _ j13e2 (Fr.refl _ _))⟩⟩)
  ·rintro y13 rfl ρ13q ds13q w13q hJ
   refine blk_ret ?_
   exact hJ
  ·intro ρ13q ds13q w13q hJ
   refine blk_ret ?_
   exact hJ
theorem arena_each_1_it {L:List Nat} {w:World} {bP1:Nat} {csP1:List Value} (d1:Arena) (HB1:Stb L w (fun w=>Blk w bP1 25 csP1)) (HP1:Stb L w (fun w=>kArena.r w csP1 d1)) (hL:Lt L w) {xs:List (Int × Ent)} (h:arena_each_1_raw d1 xs):IterCP Try.prog 60 [.pointer (some ⟨bP1,0,none⟩)] xs arena_each_1_X L [] w :=
 fun l J Jx T0 hT0 hPv hJ0 h1 h2 h3 h4=>arena_each_1_it1 d1 HB1 HP1 hL h l J Jx T0 hT0 hJ0 h1 h2 h3 h4
end Go.Proofs.Ythifkdgljapmeaa
