/- The functions of arena: its index. -/
import Derived.Test.YthifkdgljapmeaaEs
namespace Go.Proofs.Ythifkdgljapmeaa
open Go Go.RowKit
set_option linter.unusedVariables false
set_option linter.unusedSimpArgs false
def arena_New_raw (d0:Int) (y:Arena × Int):Prop :=
 (((decide (d0<1))||(decide (8<d0)))=true→(y=((⟨(0:Int),([]:List Ent),([]:List Int)⟩:Arena),(1:Int))))∧(((decide (d0<1))||(decide (8<d0)))=false→(y=((⟨d0,([]:List Ent),([]:List Int)⟩:Arena),(0:Int))))
set_option maxRecDepth 20000 in
set_option maxHeartbeats 4000000 in
theorem arena_New_c {L:List Nat} {w:World} (d0:Int) (hL:Lt L w) {y:Arena × Int} (h:arena_New_raw d0 y) :
  Calls Try.prog 12 [.int .i64 d0].toArray w (Ret fun v w'=>Ext w w'∧∃ (cs90:List Value),v=.tuple #[.agg cs90.toArray,.int .i64 y.2]∧Stb L w' (fun w=>kArena.r w cs90 y.1)):=by
 unfold arena_New_raw at h
 refine calls_ec Try.func12 rfl rfl rfl ?_
 refine ec_sr ?_
 refine o_alloc zero_api_Arena rfl rfl rfl ?_
 intro b1 w1 e1 F1 B1
 have n1:w.heap.size≤b1:=Nat.le_of_eq e1.symm
 refine o_w (v:=.int .i64 0) (r_asg rfl) ?_
 refine eo_nil_sq ?_
 refine ec_seq ?_
 refine ec_sr ?_
 refine o_w (v:=.int .i64 d0) (r_mov rfl) ?_
 refine o_w (v:=.bool (decide (d0<1))) (r_int rfl rfl rfl) ?_
 refine o_w (v:=.bool (decide (d0<1))) (r_mov rfl) ?_
 refine o_vg (v:=.int .i64 d0) (want_cf (t:=6) rfl rfl) (fun hk=>(r_mov rfl)) rfl rfl ?_
 refine o_vg (v:=.bool (decide (8<d0))) (want_cf (t:=6) rfl rfl) (fun hk=>(r_int (gdT hk) rfl rfl)) rfl rfl ?_
 refine o_w (v:=.bool ((decide (d0<1))||(decide (8<d0)))) (r_pickOr rfl rfl (fun hf=>(gdT (notT hf)))) ?_
 refine eo_nil_sq ?_
 refine ec_cond rfl (fun hc2=>?_) (fun hc2=>?_)
 ·replace h:=h.1 hc2
  refine ec_sr ?_
  refine o_w (v:=.agg #[.int .i64 0,.slice none ([]:List Ent).length 0,.slice none ([]:List Int).length 0]) (r_build bld_api_Arena (vs:=[]) (cells:=[.int .i64 0,.slice none ([]:List Ent).length 0,.slice none ([]:List Int).length 0]) rfl rfl) ?_
  refine o_store rfl B1 (vs:=[.int .i64 0,.slice none ([]:List Ent).length 0,.slice none ([]:List Int).length 0]) rfl sz_api_Arena rfl rfl rfl ?_
  intro w3 F3 B3
  have E4:=Ext.st F1 F3 (by simp; omega)
  have B3':Blk w3 b1 _ [.int .i64 0,.slice none ([]:List Ent).length 0,.slice none ([]:List Int).length 0]:=B3
  refine o_w (v:=.int .i64 1) (r_asg rfl) ?_
  refine eo_nil_sq ?_
  refine ec_ret ?_
  refine sq_ret ?_
  subst h
  exact (endr2 (rv_a rfl (agg_api_Arena) B3' (vs:=[.int .i64 0,.slice none ([]:List Ent).length 0,.slice none ([]:List Int).length 0]) rfl rfl) (rv_t rfl) ⟨_,rfl,E4,_,rfl,(kArena_mk (d:=(⟨(0:Int),([]:List Ent),([]:List Int)⟩:Arena)) stb_nil stb_nil)⟩)
 ·replace h:=h.2 hc2
  refine ec_skip ?_
  refine sq_n ?_
  refine ec_sr ?_
  refine o_w (v:=.int .i64 d0) (r_mov rfl) ?_
  refine o_w (v:=.agg #[.int .i64 d0,.slice none ([]:List Ent).length 0,.slice none ([]:List Int).length 0]) (r_build bld_api_Arena (vs:=[(0,.int .i64 d0)]) (cells:=[.int .i64 d0,.slice none ([]:List Ent).length 0,.slice none ([]:List Int).length 0]) rfl rfl) ?_
  refine o_store rfl B1 (vs:=[.int .i64 d0,.slice none ([]:List Ent).length 0,.slice none ([]:List Int).length 0]) rfl sz_api_Arena rfl rfl rfl ?_
  intro w5 F5 B5
  have E6:=Ext.st F1 F5 (by simp; omega)
  have B5':Blk w5 b1 _ [.int .i64 d0,.slice none ([]:List Ent).length 0,.slice none ([]:List Int).length 0]:=B5
  refine o_w (v:=.int .i64 0) (r_asg rfl) ?_
  refine eo_nil_sq ?_
  refine ec_ret ?_
  subst h
  exact (endr2 (rv_a rfl (agg_api_Arena) B5' (vs:=[.int .i64 d0,.slice none ([]:List Ent).length 0,.slice none ([]:List Int).length 0]) rfl rfl) (rv_t rfl) ⟨_,rfl,E6,_,rfl,(kArena_mk (d:=(⟨d0,([]:List Ent),([]:List Int)⟩:Arena)) stb_nil stb_nil)⟩)
def arena_Check_1_raw (d0:Ent) (y:Bool):Prop :=
 (sm d0.val)∧(y=((checkE d0) != (0:Int)))
set_option maxRecDepth 20000 in
set_option maxHeartbeats 4000000 in
theorem arena_Check_1_c {L:List Nat} {w:World} {csP0:List Value} (d0:Ent) (HP0:Stb L w (fun w=>kEnt.r w csP0 d0)) (hL:Lt L w) {y:Bool} (h:arena_Check_1_raw d0 y) :
  Calls Try.prog 45 [.agg csP0.toArray].toArray w (Ret fun v w'=>Ext w w'∧v=.bool y):=by
 obtain ⟨A1,c2,A4,c5,rfl,H3,H6⟩:=kEnt_open HP0
 unfold arena_Check_1_raw at h
 refine calls_ec Try.func45 rfl rfl rfl ?_
 refine ec_sr ?_
 refine o_box (cs:=(cEnt d0 A1 c2 A4 c5)) rfl rfl rfl ?_
 intro b7 w7 e7 F7 B7
 have S7:=B7.stb (nin hL e7)
 have G8:Fr L w w7:=Fr.ext F7
 refine o_w (v:=.bool false) (r_asg rfl) ?_
 refine eo_r ?_
 refine o_w (v:=.agg (cEnt d0 A1 c2 A4 c5).toArray) (r_lda agg_api_Entry rfl (vs:=(cEnt d0 A1 c2 A4 c5)) rfl (S7.now.part (n:=9) rfl)) ?_
 obtain ⟨ha10,h⟩:=h
 refine o_call cf_entry_Check rfl (entry_Check_c d0 (kEnt_mk (d:=d0) (H3.fr G8 sI) (H6.fr G8 sI)) (hL.fr F7) (entCheck_ev d0 ha10)) rfl rfl ?_
 rintro _ w9 ⟨F9,rfl⟩
 have E11:=F7.trans F9
 refine o_w (v:=.bool ((checkE d0) != (0:Int))) (r_int rfl rfl rfl) ?_
 refine o_w (v:=.bool ((checkE d0) != (0:Int))) (r_asg rfl) ?_
 refine eo_nil_sq ?_
 refine ec_ret ?_
 subst h
 exact (end1 rfl ⟨_,rfl,E11,rfl⟩)
def slices_IndexFunc_Entry_Check_1_b1 (d0:(List Ent)) (s1:Int) (z1:(Int) ⊕ ((Int) ⊕ (Int))):Prop :=
 ((decide (s1<(d0.length:Int)))=true→((0≤s1∧s1<(d0.length:Int))∧(∃ x15,arena_Check_1_raw (nth d0 s1) x15∧((x15=true→(z1=.inr (.inr s1)))∧(x15=false→(z1=.inl (IntKind.i64.wrap (s1 + (1:Int)))))))))∧((decide (s1<(d0.length:Int)))=false→(z1=.inr (.inl s1)))
def slices_IndexFunc_Entry_Check_1_raw (d0:(List Ent)) (y:Int):Prop :=
 ∃ x1,LoopR (slices_IndexFunc_Entry_Check_1_b1 d0) (0:Int) x1∧(∀ sx1,x1=.inl sx1→(y=(-1:Int)))∧(∀ y1,x1=.inr y1→(y=y1))
set_option maxRecDepth 20000 in
set_option maxHeartbeats 4000000 in
theorem slices_IndexFunc_Entry_Check_1_c {L:List Nat} {w:World} {AP0:Option Addr} {cP0:Nat} (d0:(List Ent)) (HP0:Stb L w (fun w=>SlC kEnt w AP0 cP0 d0)) (hL:Lt L w) {y:Int} (h:slices_IndexFunc_Entry_Check_1_raw d0 y) :
  Calls Try.prog 62 [.slice AP0 d0.length cP0,.func (.func 45) #[] #[]].toArray w (Ret fun v w'=>Ext w w'∧v=.int .i64 y):=by
 unfold slices_IndexFunc_Entry_Check_1_raw at h
 refine calls_ec Try.func62 rfl rfl rfl ?_
 refine ec_sr ?_
 refine o_w (v:=.int .i64 0) (r_asg rfl) ?_
 refine eo_nil_sq ?_
 refine ec_seq ?_
 refine ec_sr ?_
 refine o_w (v:=.slice AP0 d0.length cP0) (r_mov rfl) ?_
 refine o_w (v:=.int .i64 (d0.length:Int)) (r_len_slc un_s_api_Entry rfl) ?_
 refine o_w (v:=.int .i64 0) (r_mov rfl) ?_
 refine eo_nil_sq ?_
 refine ec_block ?_
 obtain ⟨x1,hl1,h⟩:=h
 refine ec_loopER 0 (I:=(fun (s1:Int) ρ ds w'=>∃ (ρ':Env),ρ=envs ρ' [(8,.int .i64 s1),(0,.slice AP0 d0.length cP0),(1,.func (.func 45) #[] #[]),(7,.int .i64 (d0.length:Int))]∧ds=[]∧Fr L w w'∧Ext w w')) (J:=(fun (y':Int) ρ ds wz=>bodyE Try.prog #[.tmp 4] (Ret fun v w'=>Ext w w'∧v=.int .i64 y') .ret ρ ds wz)) ?_ hl1 ?_ ?_ ?_
 ·intro s1 z1 ρ1 ds1 w1r hI1 hb1
  obtain ⟨ρ1r,rfl,rfl,F1r,E1r⟩:=hI1
  have h:=hb1
  unfold slices_IndexFunc_Entry_Check_1_b1 at h
  have G2:Fr L w w1r:=(Fr.refl _ _).stp F1r (fun _ h=>.inl h)
  refine ec_sr ?_
  refine o_w (v:=.bool (decide (s1<(d0.length:Int)))) (r_int rfl rfl rfl) ?_
  refine eo_nil_sq ?_
  refine ec_seq ?_
  refine ec_cond rfl (fun hc3=>?_) (fun hc3=>?_)
  ·replace h:=h.1 hc3
   refine ec_skip ?_
   refine sq_n ?_
   refine ec_seq ?_
   refine ec_block ?_
   refine ec_sr ?_
   refine o_w (v:=.int .i64 s1) (r_mov rfl) ?_
   refine o_w (v:=.int .i64 s1) (r_asg rfl) ?_
   refine eo_r ?_
   refine o_w (v:=.func (.func 45) #[] #[]) (r_mov rfl) ?_
   refine o_w (v:=.slice AP0 d0.length cP0) (r_mov rfl) ?_
   refine o_w (v:=.int .i64 s1) (r_mov rfl) ?_
   obtain ⟨ha4,h⟩:=h
   obtain ⟨cs5,l7,H6⟩:=Stb.elem (by decide) (HP0.fr G2 sI) s1 ha4.1 ha4.2
   obtain ⟨A9,c10,A12,c13,rfl,H8,H11,H14⟩:=kEnt_open2 H6
   refine o_w (v:=.pointer (some (elemA AP0 kEnt.n s1.toNat))) (r_ia slc_s_api_Entry rfl rfl ((HP0.fr G2 sI).now.2 _ (lt_toNat ha4.1 ha4.2)).1 ha4.1 ha4.2) ?_
   refine o_w (v:=.agg (cEnt (nth d0 s1) A9 c10 A12 c13).toArray) (r_lda' agg_api_Entry rfl (elemA_spot _ _ _) (vs:=(cEnt (nth d0 s1) A9 c10 A12 c13)) rfl (H8.now.1)) ?_
   obtain ⟨x15,hx15,h⟩:=h
   refine o_callv cf_arena_Check_1 rfl rfl (arena_Check_1_c (nth d0 s1) (kEnt_mk (d:=(nth d0 s1)) H11 H14) (hL.fr E1r) hx15) rfl rfl ?_
   rintro _ w15 ⟨F15,rfl⟩
   have E16:=E1r.trans F15
   refine eo_nil_sq ?_
   refine ec_cond rfl (fun hc20=>?_) (fun hc20=>?_)
   ·replace h:=h.1 hc20
    refine ec_sr ?_
    refine o_w (v:=.int .i64 s1) (r_mov rfl) ?_
    refine o_w (v:=.int .i64 s1) (r_asg rfl) ?_
    refine eo_nil_sq ?_
    refine ec_ret ?_
    refine blk_ret ?_
    refine sq_ret ?_
    subst h
    exact lqR_r (end1 rfl ⟨_,rfl,E16,rfl⟩)
   ·replace h:=h.2 hc20
    refine ec_skip ?_
    refine blk_n ?_
    refine sq_n ?_
    refine ec_region ?_
    refine o_w (v:=.int .i64 (IntKind.i64.wrap (s1 + (1:Int)))) (r_int rfl rfl rfl) ?_
    refine o_w (v:=.int .i64 (IntKind.i64.wrap (s1 + (1:Int)))) (r_mov rfl) ?_
    refine eo_nil ?_
    subst h
    exact lqR_n ⟨_,envs_self ⟨rfl,rfl,rfl,rfl,trivial⟩,rfl,(F1r.trans (Fr.ext F15)),E16⟩
  ·replace h:=h.2 hc3
   refine ec_exit ?_
   refine sq_exit ?_
   subst h
   exact lqR_x ⟨_,envs_self ⟨rfl,rfl,rfl,rfl,trivial⟩,rfl,F1r,E1r⟩
 ·exact ⟨_,envs_self ⟨rfl,rfl,rfl,rfl,trivial⟩,rfl,(Fr.refl _ _),(Fr.refl _ _)⟩
 ·rintro sx1 rfl ρ1e ds1e w1e ⟨ρ1e,rfl,rfl,F1e,E1e⟩
  replace h:=h.1 _ rfl
  refine blk_hit ?_
  refine sq_n ?_
  refine ec_sr ?_
  refine o_w (v:=.int .i64 (-1:Int)) (r_asg rfl) ?_
  refine eo_nil_sq ?_
  refine ec_ret ?_
  subst h
  exact (end1 rfl ⟨_,rfl,E1e,rfl⟩)
 ·rintro y1 rfl ρ1q ds1q w1q hJ
  have hy:=h.2 _ rfl
  subst hy
  refine blk_ret ?_
  refine sq_ret ?_
  exact hJ
def slices_ContainsFunc_Entry_Check_1_raw (d0:(List Ent)) (y:Bool):Prop :=
 ∃ x1,slices_IndexFunc_Entry_Check_1_raw d0 x1∧(y=(decide (0≤x1)))
set_option maxRecDepth 20000 in
set_option maxHeartbeats 4000000 in
theorem slices_ContainsFunc_Entry_Check_1_c {L:List Nat} {w:World} {AP0:Option Addr} {cP0:Nat} (d0:(List Ent)) (HP0:Stb L w (fun w=>SlC kEnt w AP0 cP0 d0)) (hL:Lt L w) {y:Bool} (h:slices_ContainsFunc_Entry_Check_1_raw d0 y) :
  Calls Try.prog 46 [.slice AP0 d0.length cP0,.func (.func 45) #[] #[]].toArray w (Ret fun v w'=>Ext w w'∧v=.bool y):=by
 unfold slices_ContainsFunc_Entry_Check_1_raw at h
 refine calls_ec Try.func46 rfl rfl rfl ?_
 refine ec_sr ?_
 refine o_w (v:=.bool false) (r_asg rfl) ?_
 refine eo_r ?_
 refine o_w (v:=.slice AP0 d0.length cP0) (r_mov rfl) ?_
 refine o_w (v:=.func (.func 45) #[] #[]) (r_mov rfl) ?_
 obtain ⟨x1,hx1,h⟩:=h
 refine o_call cf_slices_IndexFunc_Entry rfl (slices_IndexFunc_Entry_Check_1_c d0 HP0 hL hx1) rfl rfl ?_
 rintro _ w1 ⟨F1,rfl⟩
 refine o_w (v:=.bool (decide (0≤x1))) (r_int rfl rfl rfl) ?_
 refine o_w (v:=.bool (decide (0≤x1))) (r_asg rfl) ?_
 refine eo_nil_sq ?_
 refine ec_ret ?_
 subst h
 exact (end1 rfl ⟨_,rfl,F1,rfl⟩)
def slices_Clone_Entry_raw (d0:(List Ent)) (y:(List Ent)):Prop :=
 (d0=[]→(y=([]:List Ent)))∧((([]:List Ent).length + d0.length≤9223372036854775807∧(([]:List Ent).length + d0.length) * 120≤140737488355328)∧(y=(([]:List Ent)++d0)))
set_option maxRecDepth 20000 in
set_option maxHeartbeats 4000000 in
theorem slices_Clone_Entry_c {L:List Nat} {w:World} {AP0:Option Addr} {cP0:Nat} (d0:(List Ent)) (HP0:Stb L w (fun w=>SlC kEnt w AP0 cP0 d0)) (hL:Lt L w) {y:(List Ent)} (h:slices_Clone_Entry_raw d0 y) :
  Calls Try.prog 65 [.slice AP0 d0.length cP0].toArray w (Ret fun v w'=>Ext w w'∧OwnS kEnt w.heap.size 42 L w' v y∧(∀ q∈own v,w.heap.size≤q)):=by
 have hL0:=hL
 unfold slices_Clone_Entry_raw at h
 refine calls_ec Try.func65 rfl rfl rfl ?_
 refine ec_sr ?_
 refine o_w (v:=.slice none ([]:List Ent).length 0) (r_asg rfl) ?_
 refine eo_nil_sq ?_
 refine ec_seq ?_
 refine ec_sr ?_
 refine o_w (v:=.slice AP0 d0.length cP0) (r_mov rfl) ?_
 refine o_w (v:=.bool (AP0.isNone)) (r_nilEq un_s_api_Entry rfl rfl) ?_
 refine eo_nil_sq ?_
 refine ec_cond rfl (fun hc1=>?_) (fun hc1=>?_)
 ·replace h:=h.1 (slc_none HP0.now hc1)
  refine ec_sr ?_
  refine o_w (v:=.slice none ([]:List Ent).length 0) (r_asg rfl) ?_
  refine eo_nil_sq ?_
  refine ec_ret ?_
  refine sq_ret ?_
  subst h
  exact (end1 rfl ⟨_,rfl,Fr.refl _ _,OwnS.nil (by decide) hL0,fun q hq=>by cases hq⟩)
 ·replace h:=h.2
  refine ec_skip ?_
  refine sq_n ?_
  refine ec_sr ?_
  refine o_bslice slc_s_api_Entry rfl (vs:=[]) rfl rfl rfl (cs:=[]) rfl rfl rfl rfl ?_
  intro b2 w2 e2 F2 B2
  have N2:=nin hL e2
  have S2:=B2.stb N2
  have G3:Fr L w w2:=Fr.ext F2
  refine o_w (v:=.slice AP0 d0.length cP0) (r_mov rfl) ?_
  have lo4:w.heap.size≤w.heap.size:=Nat.le_refl _
  have O4:OwnS kEnt (w.heap.size) 42 L w2 (.slice (some ⟨b2,0,none⟩) 0 0) ([]:List Ent):=bs_own (by decide) hL (Nat.le_of_eq e2.symm) S2.now rfl rfl rowd0
  have P5:∀ m∈own (.slice (some ⟨b2,0,none⟩) 0 0),m∈L∨w.heap.size≤m:=fun m hm=>.inr (by have h1:m=b2:=(by simpa [own,Value.ownBlock] using hm); rw [h1,e2]; exact Nat.le_refl _)
  obtain ⟨ha7,h⟩:=h
  refine o_appsl slc_s_api_Entry rfl rfl kEnt_one rfl O4 rfl (HP0.up G3 sI (upo P5 (fun _ h=>.inl h))) ha7 rfl rfl ?_
  intro v6 w6 F6 O6 N6
  have E10:=Ext.st F2 F6 (fun m hm=>Nat.le_trans lo4 (O4.lo m hm))
  refine o_w (v:=v6) (r_asg rfl) ?_
  refine eo_nil_sq ?_
  refine ec_ret ?_
  subst h
  exact (end1 rfl ⟨_,rfl,E10,(O6.weak (by simp)).mono lo4 hL0,fun q hq=>Nat.le_trans lo4 (O6.lo q hq)⟩)
def slices_EqualFunc_Entry_Same_b2 (d0:(List Ent)) (d1:(List Ent)) (s2:Int) (z2:(Int) ⊕ ((Int) ⊕ (Bool))):Prop :=
 ((decide (s2<(d0.length:Int)))=true→((0≤s2∧s2<(d0.length:Int))∧((0≤s2∧s2<(d1.length:Int))∧((sm (nth d0 s2).val)∧(((!(sameE (nth d0 s2) (nth d1 s2)))=true→(z2=.inr (.inr false)))∧((!(sameE (nth d0 s2) (nth d1 s2)))=false→(z2=.inl (IntKind.i64.wrap (s2 + (1:Int))))))))))∧((decide (s2<(d0.length:Int)))=false→(z2=.inr (.inl s2)))
def slices_EqualFunc_Entry_Same_raw (d0:(List Ent)) (d1:(List Ent)) (y:Bool):Prop :=
 (((d0.length:Int) != (d1.length:Int))=true→(y=false))∧(((d0.length:Int) != (d1.length:Int))=false→(∃ x2,LoopR (slices_EqualFunc_Entry_Same_b2 d0 d1) (0:Int) x2∧(∀ sx2,x2=.inl sx2→(y=true))∧(∀ y2,x2=.inr y2→(y=y2))))
set_option maxRecDepth 20000 in
set_option maxHeartbeats 4000000 in
theorem slices_EqualFunc_Entry_Same_c {L:List Nat} {w:World} {AP0:Option Addr} {cP0:Nat} (d0:(List Ent)) (HP0:Stb L w (fun w=>SlC kEnt w AP0 cP0 d0)) {AP1:Option Addr} {cP1:Nat} (d1:(List Ent)) (HP1:Stb L w (fun w=>SlC kEnt w AP1 cP1 d1)) (hL:Lt L w) {y:Bool} (h:slices_EqualFunc_Entry_Same_raw d0 d1 y) :
  Calls Try.prog 49 [.slice AP0 d0.length cP0,.slice AP1 d1.length cP1,.func (.func 36) #[] #[]].toArray w (Ret fun v w'=>Ext w w'∧v=.bool y):=by
 unfold slices_EqualFunc_Entry_Same_raw at h
 refine calls_ec Try.func49 rfl rfl rfl ?_
 refine ec_sr ?_
 refine o_w (v:=.bool false) (r_asg rfl) ?_
 refine eo_nil_sq ?_
 refine ec_seq ?_
 refine ec_sr ?_
 refine o_w (v:=.slice AP0 d0.length cP0) (r_mov rfl) ?_
 refine o_w (v:=.int .i64 (d0.length:Int)) (r_len_slc un_s_api_Entry rfl) ?_
 refine o_w (v:=.slice AP1 d1.length cP1) (r_mov rfl) ?_
 refine o_w (v:=.int .i64 (d1.length:Int)) (r_len_slc un_s_api_Entry rfl) ?_
 refine o_w (v:=.bool ((d0.length:Int) != (d1.length:Int))) (r_int rfl rfl rfl) ?_
 refine eo_nil_sq ?_
 refine ec_cond rfl (fun hc1=>?_) (fun hc1=>?_)
 ·replace h:=h.1 hc1
  refine ec_sr ?_
  refine o_w (v:=.bool false) (r_asg rfl) ?_
  refine eo_nil_sq ?_
  refine ec_ret ?_
  refine sq_ret ?_
  subst h
  exact (end1 rfl ⟨_,rfl,(Fr.refl _ _),rfl⟩)
 ·replace h:=h.2 hc1
  refine ec_skip ?_
  refine sq_n ?_
  refine ec_seq ?_
  refine ec_sr ?_
  refine o_w (v:=.slice AP0 d0.length cP0) (r_mov rfl) ?_
  refine o_w (v:=.int .i64 (d0.length:Int)) (r_len_slc un_s_api_Entry rfl) ?_
  refine o_w (v:=.int .i64 0) (r_mov rfl) ?_
  refine eo_nil_sq ?_
  refine ec_block ?_
  obtain ⟨x2,hl2,h⟩:=h
  refine ec_loopER 0 (I:=(fun (s2:Int) ρ ds w'=>∃ (ρ':Env),ρ=envs ρ' [(17,.int .i64 s2),(1,.slice AP1 d1.length cP1),(2,.func (.func 36) #[] #[]),(15,.slice AP0 d0.length cP0),(16,.int .i64 (d0.length:Int))]∧ds=[]∧Fr L w w'∧Ext w w')) (J:=(fun (y':Bool) ρ ds wz=>bodyE Try.prog #[.tmp 6] (Ret fun v w'=>Ext w w'∧v=.bool y') .ret ρ ds wz)) ?_ hl2 ?_ ?_ ?_
  ·intro s2 z2 ρ2 ds2 w2r hI2 hb2
   obtain ⟨ρ2r,rfl,rfl,F2r,E2r⟩:=hI2
   have h:=hb2
   unfold slices_EqualFunc_Entry_Same_b2 at h
   have G3:Fr L w w2r:=(Fr.refl _ _).stp F2r (fun _ h=>.inl h)
   refine ec_sr ?_
   refine o_w (v:=.bool (decide (s2<(d0.length:Int)))) (r_int rfl rfl rfl) ?_
   refine eo_nil_sq ?_
   refine ec_seq ?_
   refine ec_cond rfl (fun hc4=>?_) (fun hc4=>?_)
   ·replace h:=h.1 hc4
    refine ec_skip ?_
    refine sq_n ?_
    refine ec_seq ?_
    refine ec_block ?_
    refine ec_sr ?_
    refine o_w (v:=.int .i64 s2) (r_mov rfl) ?_
    obtain ⟨ha5,h⟩:=h
    obtain ⟨cs6,l8,H7⟩:=Stb.elem (by decide) (HP0.fr G3 sI) s2 ha5.1 ha5.2
    obtain ⟨A10,c11,A13,c14,rfl,H9,H12,H15⟩:=kEnt_open2 H7
    refine o_w (v:=.pointer (some (elemA AP0 kEnt.n s2.toNat))) (r_ia slc_s_api_Entry rfl rfl ((HP0.fr G3 sI).now.2 _ (lt_toNat ha5.1 ha5.2)).1 ha5.1 ha5.2) ?_
    refine o_w (v:=.agg (cEnt (nth d0 s2) A10 c11 A13 c14).toArray) (r_lda' agg_api_Entry rfl (elemA_spot _ _ _) (vs:=(cEnt (nth d0 s2) A10 c11 A13 c14)) rfl (H9.now.1)) ?_
    refine o_alloc zero_api_Entry rfl rfl rfl ?_
    intro b16 w16 e16 F16 B16
    have n16:w.heap.size≤b16:=by rw [e16]; exact E2r.size
    have m17:w.heap.size≤b16:=by rw [e16]; exact G3.size
    have m18:w.heap.size≤b16:=by rw [e16]; exact F2r.size
    have m19:w2r.heap.size≤b16:=Nat.le_of_eq e16.symm
    have E20:=E2r.trans F16
    have G23:Fr L w2r w16:=Fr.ext F16
    refine o_w (v:=.int .i64 s2) (r_asg rfl) ?_
    refine o_store rfl B16 (vs:=(cEnt (nth d0 s2) A10 c11 A13 c14)) rfl sz_api_Entry rfl rfl rfl ?_
    intro w24 F24 B24
    have E25:=Ext.st E20 F24 (by simp; omega)
    have G26:Fr L w w24:=(G3.trans (Fr.ext F16)).stp F24 (upc (.inr m17) (fun m hm=>by cases hm))
    have G27:Fr L w w24:=(F2r.trans (Fr.ext F16)).stp F24 (upc (.inr m18) (fun m hm=>by cases hm))
    have G28:Fr L w2r w24:=G23.stp F24 (upc (.inr m19) (fun m hm=>by cases hm))
    have B24':Blk w24 b16 _ (cEnt (nth d0 s2) A10 c11 A13 c14):=B24
    refine eo_r ?_
    refine o_w (v:=.slice AP1 d1.length cP1) (r_mov rfl) ?_
    refine o_w (v:=.int .i64 s2) (r_mov rfl) ?_
    obtain ⟨ha29,h⟩:=h
    obtain ⟨cs30,l32,H31⟩:=Stb.elem (by decide) (HP1.up G26 sI (upc (.inr m17) (fun _ h=>.inl h))) s2 ha29.1 ha29.2
    obtain ⟨A34,c35,A37,c38,rfl,H33,H36,H39⟩:=kEnt_open2 H31
    refine o_w (v:=.pointer (some (elemA AP1 kEnt.n s2.toNat))) (r_ia slc_s_api_Entry rfl rfl ((HP1.fr G26 sI).now.2 _ (lt_toNat ha29.1 ha29.2)).1 ha29.1 ha29.2) ?_
    refine o_w (v:=.agg (cEnt (nth d1 s2) A34 c35 A37 c38).toArray) (r_lda' agg_api_Entry rfl (elemA_spot _ _ _) (vs:=(cEnt (nth d1 s2) A34 c35 A37 c38)) rfl (H33.now.1)) ?_
    refine o_alloc zero_api_Entry rfl rfl rfl ?_
    intro b40 w40 e40 F40 B40
    have n40:w.heap.size≤b40:=by rw [e40]; exact E25.size
    have q41:b16<b40:=by rw [e40]; exact B24'.lt
    have m43:w.heap.size≤b40:=by rw [e40]; exact G27.size
    have m44:w2r.heap.size≤b40:=by rw [e40]; exact G28.size
    have m45:w24.heap.size≤b40:=Nat.le_of_eq e40.symm
    have E46:=E25.trans F40
    have G50:Fr (b16::L) w24 w40:=Fr.ext F40
    refine o_store rfl B40 (vs:=(cEnt (nth d1 s2) A34 c35 A37 c38)) rfl sz_api_Entry rfl rfl rfl ?_
    intro w52 F52 B52
    have E53:=Ext.st E46 F52 (by simp; omega)
    have G55:Fr L w w52:=(G27.trans (Fr.ext F40)).stp F52 (upc (.inr m43) (fun m hm=>by cases hm))
    have G56:Fr L w2r w52:=(G28.trans (Fr.ext F40)).stp F52 (upc (.inr m44) (fun m hm=>by cases hm))
    have G57:Fr (b16::L) w24 w52:=G50.stp F52 (upc (.inr m45) (fun m hm=>by cases hm))
    have B58:=(B24'.ex F40).fr F52 (by simp; omega)
    have B52':Blk w52 b40 _ (cEnt (nth d1 s2) A34 c35 A37 c38):=B52
    refine eo_r ?_
    refine o_w (v:=.func (.func 36) #[] #[]) (r_mov rfl) ?_
    refine o_w (v:=.agg (cEnt (nth d0 s2) A10 c11 A13 c14).toArray) (r_lda agg_api_Entry rfl (vs:=(cEnt (nth d0 s2) A10 c11 A13 c14)) rfl (B58.part (n:=9) rfl)) ?_
    refine o_w (v:=.agg (cEnt (nth d1 s2) A34 c35 A37 c38).toArray) (r_lda agg_api_Entry rfl (vs:=(cEnt (nth d1 s2) A34 c35 A37 c38)) rfl (B52'.part (n:=9) rfl)) ?_
    obtain ⟨ha60,h⟩:=h
    refine o_callv cf_entry_Same rfl rfl (entry_Same_c (nth d0 s2) (kEnt_mk (d:=(nth d0 s2)) (H12.up G56 sI (upc (.inr m44) (upc (.inr m19) (fun _ h=>.inl h)))) (H15.up G56 sI (upc (.inr m44) (upc (.inr m19) (fun _ h=>.inl h))))) (nth d1 s2) (kEnt_mk (d:=(nth d1 s2)) (H36.up G57 sI (upc (.inr m45) (upc (.inl mH) (fun m hm=>Or.inl (mT hm))))) (H39.up G57 sI (upc (.inr m45) (upc (.inl mH) (fun m hm=>Or.inl (mT hm)))))) (((hL.fr E53).cons B58.lt).cons B52'.lt) (entSame_ev (nth d0 s2) (nth d1 s2) ha60)) rfl rfl ?_
    rintro _ w59 ⟨F59,rfl⟩
    have E61:=E53.trans F59
    refine o_w (v:=.bool (!(sameE (nth d0 s2) (nth d1 s2)))) (r_not rfl) ?_
    refine eo_nil_sq ?_
    refine ec_cond rfl (fun hc68=>?_) (fun hc68=>?_)
    ·replace h:=h.1 hc68
     refine ec_sr ?_
     refine o_w (v:=.bool false) (r_asg rfl) ?_
     refine eo_nil_sq ?_
     refine ec_ret ?_
     refine blk_ret ?_
     refine sq_ret ?_
     subst h
     exact lqR_r (end1 rfl ⟨_,rfl,E61,rfl⟩)
    ·replace h:=h.2 hc68
     refine ec_skip ?_
     refine blk_n ?_
     refine sq_n ?_
     refine ec_region ?_
     refine o_w (v:=.int .i64 (IntKind.i64.wrap (s2 + (1:Int)))) (r_int rfl rfl rfl) ?_
     refine o_w (v:=.int .i64 (IntKind.i64.wrap (s2 + (1:Int)))) (r_mov rfl) ?_
     refine eo_nil ?_
     subst h
     exact lqR_n ⟨_,envs_self ⟨rfl,rfl,rfl,rfl,rfl,trivial⟩,rfl,(G55.trans (Fr.ext F59)),E61⟩
   ·replace h:=h.2 hc4
    refine ec_exit ?_
    refine sq_exit ?_
    subst h
    exact lqR_x ⟨_,envs_self ⟨rfl,rfl,rfl,rfl,rfl,trivial⟩,rfl,F2r,E2r⟩
  ·exact ⟨_,envs_self ⟨rfl,rfl,rfl,rfl,rfl,trivial⟩,rfl,(Fr.refl _ _),(Fr.refl _ _)⟩
  ·rintro sx2 rfl ρ2e ds2e w2e ⟨ρ2e,rfl,rfl,F2e,E2e⟩
   replace h:=h.1 _ rfl
   refine blk_hit ?_
   refine sq_n ?_
   refine ec_sr ?_
   refine o_w (v:=.bool true) (r_asg rfl) ?_
   refine eo_nil_sq ?_
   refine ec_ret ?_
   subst h
   exact (end1 rfl ⟨_,rfl,E2e,rfl⟩)
  ·rintro y2 rfl ρ2q ds2q w2q hJ
   have hy:=h.2 _ rfl
   subst hy
   refine blk_ret ?_
   refine sq_ret ?_
   exact hJ
def arena_index_1_raw (d0:Int) (d1:Int) (d2:(List Ent)) (y:Int):Prop :=
 (0≤d0∧d0<(d2.length:Int))∧((0≤d1∧d1<(d2.length:Int))∧(((lessE (nth d2 d0) (nth d2 d1))=true→(y=(-1:Int)))∧((lessE (nth d2 d0) (nth d2 d1))=false→((0≤d1∧d1<(d2.length:Int))∧((0≤d0∧d0<(d2.length:Int))∧(((lessE (nth d2 d1) (nth d2 d0))=true→(y=(1:Int)))∧((lessE (nth d2 d1) (nth d2 d0))=false→(y=(0:Int)))))))))
set_option maxRecDepth 20000 in
set_option maxHeartbeats 4000000 in
theorem arena_index_1_c {L:List Nat} {w:World} (d0:Int) (d1:Int) {bP2:Nat} {AP2:Option Addr} {cP2:Nat} (d2:(List Ent)) (HB2:Stb L w (fun w=>Blk w bP2 22 [.slice AP2 d2.length cP2])) (HP2:Stb L w (fun w=>SlC kEnt w AP2 cP2 d2)) (hL:Lt L w) {y:Int} (h:arena_index_1_raw d0 d1 d2 y) :
  Calls Try.prog 64 [.int .i64 d0,.int .i64 d1,.pointer (some ⟨bP2,0,none⟩)].toArray w (Ret fun v w'=>Ext w w'∧v=.int .i64 y):=by
 unfold arena_index_1_raw at h
 refine calls_ec Try.func64 rfl rfl rfl ?_
 refine ec_sr ?_
 refine o_w (v:=.int .i64 0) (r_asg rfl) ?_
 refine eo_nil_sq ?_
 refine ec_seq ?_
 refine ec_block ?_
 refine ec_seq ?_
 obtain ⟨ha24,h⟩:=h
 obtain ⟨cs25,l27,H26⟩:=Stb.elem (by decide) HP2 d0 ha24.1 ha24.2
 obtain ⟨A29,c30,A32,c33,rfl,H28,H31,H34⟩:=kEnt_open2 H26
 obtain ⟨ha35,h⟩:=h
 obtain ⟨cs36,l38,H37⟩:=Stb.elem (by decide) HP2 d1 ha35.1 ha35.2
 obtain ⟨A40,c41,A43,c44,rfl,H39,H42,H45⟩:=kEnt_open2 H37
 refine ec_any0 (by kernel_rfl) [[],[],[0,1],[0,1,2],[],[],[4,5],[4,5,6],[0,1,2,3,4,5,6,7],[0,1,2,3,4,5,6,7,8]] [6,7,8,9,10,11,12,13,14,15] [fun v _=>v=(.slice AP2 d2.length cP2:Value),fun v _=>v=(.int .i64 d0:Value),fun v _=>v=(.pointer (some (elemA AP2 kEnt.n d0.toNat)):Value),fun v _=>v=(.agg (cEnt (nth d2 d0) A29 c30 A32 c33).toArray:Value),fun v _=>v=(.slice AP2 d2.length cP2:Value),fun v _=>v=(.int .i64 d1:Value),fun v _=>v=(.pointer (some (elemA AP2 kEnt.n d1.toNat)):Value),fun v _=>v=(.agg (cEnt (nth d2 d1) A40 c41 A43 c44).toArray:Value),fun v _=>v=(.bool (lessE (nth d2 d0) (nth d2 d1)):Value),fun v _=>v=(.bool (lessE (nth d2 d0) (nth d2 d1)):Value)] (by kernel_rfl) ⟨fun _ _ _ _ _ h=>h,fun _ _ _ _ _ h=>h,fun _ _ _ _ _ h=>h,fun _ _ _ _ _ h=>h,fun _ _ _ _ _ h=>h,fun _ _ _ _ _ h=>h,fun _ _ _ _ _ h=>h,fun _ _ _ _ _ h=>h,fun _ _ _ _ _ h=>h,fun _ _ _ _ _ h=>h,trivial⟩ ?_ ?_
 ·refine ⟨?_,?_,?_,?_,?_,?_,?_,?_,?_,?_,trivial⟩
  ·intro ρ w23o F23o hS hρ
   have G47:Fr L w w23o:=Fr.ext F23o
   have q2:ρ 2=.pointer (some ⟨bP2,0,none⟩):=hρ 2 (by kernel_rfl)
   exact o_q (r_ld one_s_api_Entry q2 ((HB2.fr G47 sI).now.cell rfl)) ⟨Fr.refl _ _,rfl⟩
  ·intro ρ w23o F23o hS hρ
   have q0:ρ 0=.int .i64 d0:=hρ 0 (by kernel_rfl)
   exact o_q (r_mov q0) ⟨Fr.refl _ _,rfl⟩
  ·intro ρ w23o F23o hS hρ
   have G48:Fr L w w23o:=Fr.ext F23o
   have q7:ρ 7=.slice AP2 d2.length cP2:=hS 0 (by decide) 7 rfl
   have q8:ρ 8=.int .i64 d0:=hS 1 (by decide) 8 rfl
   exact o_q (r_ia slc_s_api_Entry q7 q8 ((HP2.fr G48 sI).now.2 _ (lt_toNat ha24.1 ha24.2)).1 ha24.1 ha24.2) ⟨Fr.refl _ _,rfl⟩
  ·intro ρ w23o F23o hS hρ
   have G49:Fr L w w23o:=Fr.ext F23o
   have q9:ρ 9=.pointer (some (elemA AP2 kEnt.n d0.toNat)):=hS 2 (by decide) 9 rfl
   exact o_q (r_lda' agg_api_Entry q9 (elemA_spot _ _ _) (vs:=(cEnt (nth d2 d0) A29 c30 A32 c33)) rfl ((H28.fr G49 sI).now.1)) ⟨Fr.refl _ _,rfl⟩
  ·intro ρ w23o F23o hS hρ
   have G50:Fr L w w23o:=Fr.ext F23o
   have q2:ρ 2=.pointer (some ⟨bP2,0,none⟩):=hρ 2 (by kernel_rfl)
   exact o_q (r_ld one_s_api_Entry q2 ((HB2.fr G50 sI).now.cell rfl)) ⟨Fr.refl _ _,rfl⟩
  ·intro ρ w23o F23o hS hρ
   have q1:ρ 1=.int .i64 d1:=hρ 1 (by kernel_rfl)
   exact o_q (r_mov q1) ⟨Fr.refl _ _,rfl⟩
  ·intro ρ w23o F23o hS hρ
   have G51:Fr L w w23o:=Fr.ext F23o
   have q11:ρ 11=.slice AP2 d2.length cP2:=hS 4 (by decide) 11 rfl
   have q12:ρ 12=.int .i64 d1:=hS 5 (by decide) 12 rfl
   exact o_q (r_ia slc_s_api_Entry q11 q12 ((HP2.fr G51 sI).now.2 _ (lt_toNat ha35.1 ha35.2)).1 ha35.1 ha35.2) ⟨Fr.refl _ _,rfl⟩
  ·intro ρ w23o F23o hS hρ
   have G52:Fr L w w23o:=Fr.ext F23o
   have q13:ρ 13=.pointer (some (elemA AP2 kEnt.n d1.toNat)):=hS 6 (by decide) 13 rfl
   exact o_q (r_lda' agg_api_Entry q13 (elemA_spot _ _ _) (vs:=(cEnt (nth d2 d1) A40 c41 A43 c44)) rfl ((H39.fr G52 sI).now.1)) ⟨Fr.refl _ _,rfl⟩
  ·intro ρ w23o F23o hS hρ
   have G53:Fr L w w23o:=Fr.ext F23o
   have q10:ρ 10=.agg (cEnt (nth d2 d0) A29 c30 A32 c33).toArray:=hS 3 (by decide) 10 rfl
   have q14:ρ 14=.agg (cEnt (nth d2 d1) A40 c41 A43 c44).toArray:=hS 7 (by decide) 14 rfl
   refine o_call cf_entry_Less (by simp only [List.map,ev,q10,q14] <;> rfl) (entry_Less_c (nth d2 d0) (kEnt_mk (d:=(nth d2 d0)) (H31.fr G53 sI) (H34.fr G53 sI)) (nth d2 d1) (kEnt_mk (d:=(nth d2 d1)) (H42.fr G53 sI) (H45.fr G53 sI)) (hL.fr F23o) (entLess_ev (nth d2 d0) (nth d2 d1))) rfl rfl ?_
   rintro _ w' ⟨F,rfl⟩
   exact eo_nil ⟨rfl,rfl,_,rfl,F,rfl⟩
  ·intro ρ w23o F23o hS hρ
   have q15:ρ 15=.bool (lessE (nth d2 d0) (nth d2 d1)):=hS 8 (by decide) 15 rfl
   exact o_q (r_asg q15) ⟨Fr.refl _ _,rfl⟩
 ·intro ρ w23 F23 hS hρ
  have q6:ρ 6=.bool (lessE (nth d2 d0) (nth d2 d1)):=hS 9 6 rfl
  obtain ⟨ρ',rfl⟩:∃ ρ',ρ=envs (ovr [6,7,8,9,10,11,12,13,14,15] ρ' _) [(6,.bool (lessE (nth d2 d0) (nth d2 d1)))]:=⟨ρ,ovr_self hρ ⟨q6,trivial⟩⟩
  have G54:Fr L w w23:=Fr.ext F23
  refine sq_n ?_
  refine ec_cond rfl (fun hc55=>?_) (fun hc55=>?_)
  ·replace h:=h.1 hc55
   refine ec_sr ?_
   refine o_w (v:=.int .i64 (-1:Int)) (r_asg rfl) ?_
   refine eo_nil_sq ?_
   refine ec_ret ?_
   refine blk_ret ?_
   refine sq_ret ?_
   subst h
   exact (end1 rfl ⟨_,rfl,F23,rfl⟩)
  ·replace h:=h.2 hc55
   refine ec_seq ?_
   obtain ⟨ha79,h⟩:=h
   obtain ⟨cs80,l82,H81⟩:=Stb.elem (by decide) (HP2.fr G54 sI) d1 ha79.1 ha79.2
   obtain ⟨A84,c85,A87,c88,rfl,H83,H86,H89⟩:=kEnt_open2 H81
   obtain ⟨ha90,h⟩:=h
   obtain ⟨cs91,l93,H92⟩:=Stb.elem (by decide) (HP2.fr G54 sI) d0 ha90.1 ha90.2
   obtain ⟨A95,c96,A98,c99,rfl,H94,H97,H100⟩:=kEnt_open2 H92
   refine ec_any0 (by kernel_rfl) [[],[],[0,1],[0,1,2],[],[],[4,5],[4,5,6],[0,1,2,3,4,5,6,7],[0,1,2,3,4,5,6,7,8]] [16,17,18,19,20,21,22,23,24,25] [fun v _=>v=(.slice AP2 d2.length cP2:Value),fun v _=>v=(.int .i64 d1:Value),fun v _=>v=(.pointer (some (elemA AP2 kEnt.n d1.toNat)):Value),fun v _=>v=(.agg (cEnt (nth d2 d1) A84 c85 A87 c88).toArray:Value),fun v _=>v=(.slice AP2 d2.length cP2:Value),fun v _=>v=(.int .i64 d0:Value),fun v _=>v=(.pointer (some (elemA AP2 kEnt.n d0.toNat)):Value),fun v _=>v=(.agg (cEnt (nth d2 d0) A95 c96 A98 c99).toArray:Value),fun v _=>v=(.bool (lessE (nth d2 d1) (nth d2 d0)):Value),fun v _=>v=(.bool (lessE (nth d2 d1) (nth d2 d0)):Value)] (by kernel_rfl) ⟨fun _ _ _ _ _ h=>h,fun _ _ _ _ _ h=>h,fun _ _ _ _ _ h=>h,fun _ _ _ _ _ h=>h,fun _ _ _ _ _ h=>h,fun _ _ _ _ _ h=>h,fun _ _ _ _ _ h=>h,fun _ _ _ _ _ h=>h,fun _ _ _ _ _ h=>h,fun _ _ _ _ _ h=>h,trivial⟩ ?_ ?_
   ·refine ⟨?_,?_,?_,?_,?_,?_,?_,?_,?_,?_,trivial⟩
    ·intro ρ w78o F78o hS hρ
     have q2:ρ 2=.pointer (some ⟨bP2,0,none⟩):=hρ 2 (by kernel_rfl)
     exact o_q (r_ld one_s_api_Entry q2 ((HB2.fr (G54.trans (Fr.ext F78o)) sI).now.cell rfl)) ⟨Fr.refl _ _,rfl⟩
    ·intro ρ w78o F78o hS hρ
     have q1:ρ 1=.int .i64 d1:=hρ 1 (by kernel_rfl)
     exact o_q (r_mov q1) ⟨Fr.refl _ _,rfl⟩
    ·intro ρ w78o F78o hS hρ
     have q17:ρ 17=.slice AP2 d2.length cP2:=hS 0 (by decide) 17 rfl
     have q18:ρ 18=.int .i64 d1:=hS 1 (by decide) 18 rfl
     exact o_q (r_ia slc_s_api_Entry q17 q18 ((HP2.fr (G54.trans (Fr.ext F78o)) sI).now.2 _ (lt_toNat ha79.1 ha79.2)).1 ha79.1 ha79.2) ⟨Fr.refl _ _,rfl⟩
    ·intro ρ w78o F78o hS hρ
     have G110:Fr L w23 w78o:=Fr.ext F78o
     have q19:ρ 19=.pointer (some (elemA AP2 kEnt.n d1.toNat)):=hS 2 (by decide) 19 rfl
     exact o_q (r_lda' agg_api_Entry q19 (elemA_spot _ _ _) (vs:=(cEnt (nth d2 d1) A84 c85 A87 c88)) rfl ((H83.fr G110 sI).now.1)) ⟨Fr.refl _ _,rfl⟩
    ·intro ρ w78o F78o hS hρ
     have q2:ρ 2=.pointer (some ⟨bP2,0,none⟩):=hρ 2 (by kernel_rfl)
     exact o_q (r_ld one_s_api_Entry q2 ((HB2.fr (G54.trans (Fr.ext F78o)) sI).now.cell rfl)) ⟨Fr.refl _ _,rfl⟩
    ·intro ρ w78o F78o hS hρ
     have q0:ρ 0=.int .i64 d0:=hρ 0 (by kernel_rfl)
     exact o_q (r_mov q0) ⟨Fr.refl _ _,rfl⟩
    ·intro ρ w78o F78o hS hρ
     have q21:ρ 21=.slice AP2 d2.length cP2:=hS 4 (by decide) 21 rfl
     have q22:ρ 22=.int .i64 d0:=hS 5 (by decide) 22 rfl
     exact o_q (r_ia slc_s_api_Entry q21 q22 ((HP2.fr (G54.trans (Fr.ext F78o)) sI).now.2 _ (lt_toNat ha90.1 ha90.2)).1 ha90.1 ha90.2) ⟨Fr.refl _ _,rfl⟩
    ·intro ρ w78o F78o hS hρ
     have G119:Fr L w23 w78o:=Fr.ext F78o
     have q23:ρ 23=.pointer (some (elemA AP2 kEnt.n d0.toNat)):=hS 6 (by decide) 23 rfl
     exact o_q (r_lda' agg_api_Entry q23 (elemA_spot _ _ _) (vs:=(cEnt (nth d2 d0) A95 c96 A98 c99)) rfl ((H94.fr G119 sI).now.1)) ⟨Fr.refl _ _,rfl⟩
    ·intro ρ w78o F78o hS hρ
     have E120:=F23.trans F78o
     have G122:Fr L w23 w78o:=Fr.ext F78o
     have q20:ρ 20=.agg (cEnt (nth d2 d1) A84 c85 A87 c88).toArray:=hS 3 (by decide) 20 rfl
     have q24:ρ 24=.agg (cEnt (nth d2 d0) A95 c96 A98 c99).toArray:=hS 7 (by decide) 24 rfl
     refine o_call cf_entry_Less (by simp only [List.map,ev,q20,q24] <;> rfl) (entry_Less_c (nth d2 d1) (kEnt_mk (d:=(nth d2 d1)) (H86.fr G122 sI) (H89.fr G122 sI)) (nth d2 d0) (kEnt_mk (d:=(nth d2 d0)) (H97.fr G122 sI) (H100.fr G122 sI)) (hL.fr E120) (entLess_ev (nth d2 d1) (nth d2 d0))) rfl rfl ?_
     rintro _ w' ⟨F,rfl⟩
     exact eo_nil ⟨rfl,rfl,_,rfl,F,rfl⟩
    ·intro ρ w78o F78o hS hρ
     have q25:ρ 25=.bool (lessE (nth d2 d1) (nth d2 d0)):=hS 8 (by decide) 25 rfl
     exact o_q (r_asg q25) ⟨Fr.refl _ _,rfl⟩
   ·intro ρ w78 F78 hS hρ
    have q16:ρ 16=.bool (lessE (nth d2 d1) (nth d2 d0)):=hS 9 16 rfl
    obtain ⟨ρ',rfl⟩:∃ ρ',ρ=envs (ovr [16,17,18,19,20,21,22,23,24,25] ρ' _) [(16,.bool (lessE (nth d2 d1) (nth d2 d0)))]:=⟨ρ,ovr_self hρ ⟨q16,trivial⟩⟩
    have E123:=F23.trans F78
    refine sq_n ?_
    refine ec_cond rfl (fun hc126=>?_) (fun hc126=>?_)
    ·replace h:=h.1 hc126
     refine ec_sr ?_
     refine o_w (v:=.int .i64 1) (r_asg rfl) ?_
     refine eo_nil_sq ?_
     refine ec_ret ?_
     refine blk_ret ?_
     refine sq_ret ?_
     subst h
     exact (end1 rfl ⟨_,rfl,E123,rfl⟩)
    ·replace h:=h.2 hc126
     refine ec_skip ?_
     refine blk_n ?_
     refine sq_n ?_
     refine ec_sr ?_
     refine o_w (v:=.int .i64 0) (r_asg rfl) ?_
     refine eo_nil_sq ?_
     refine ec_ret ?_
     subst h
     exact (end1 rfl ⟨_,rfl,E123,rfl⟩)
def arena_index_b12 (d0:(List Ent)) (s12:Int × List Int) (z12:(Int × List Int) ⊕ (Int × List Int)):Prop :=
 ((decide (s12.1<((List.replicate ((d0.length:Int)).toNat (0:Int)).length:Int)))=true→((0≤s12.1∧s12.1<(s12.2.length:Int))∧(z12=.inl ((IntKind.i64.wrap (s12.1 + (1:Int))),(s12.2.set s12.1.toNat s12.1)))))∧((decide (s12.1<((List.replicate ((d0.length:Int)).toNat (0:Int)).length:Int)))=false→(z12=.inr (s12.1,s12.2)))
def arena_index_b40 (d0:(List Ent)) (s40:Int × List Int) (z40:(Int × List Int) ⊕ (Int × List Int)):Prop :=
 ((decide (0<s40.1))=true→((0≤s40.1∧s40.1<(s40.2.length:Int))∧((0≤(IntKind.i64.wrap (s40.1 - (1:Int)))∧(IntKind.i64.wrap (s40.1 - (1:Int)))<(s40.2.length:Int))∧(∃ x69,arena_index_1_raw (nth s40.2 s40.1) (nth s40.2 (IntKind.i64.wrap (s40.1 - (1:Int)))) d0 x69∧(((decide (x69<0))=true→((0≤(IntKind.i64.wrap (s40.1 - (1:Int)))∧(IntKind.i64.wrap (s40.1 - (1:Int)))<(s40.2.length:Int))∧((0≤s40.1∧s40.1<(s40.2.length:Int))∧((0≤s40.1∧s40.1<(s40.2.length:Int))∧((0≤(IntKind.i64.wrap (s40.1 - (1:Int)))∧(IntKind.i64.wrap (s40.1 - (1:Int)))<(s40.2.length:Int))∧(z40=.inl ((IntKind.i64.wrap (s40.1 - (1:Int))),((s40.2.set s40.1.toNat (nth s40.2 (IntKind.i64.wrap (s40.1 - (1:Int))))).set (IntKind.i64.wrap (s40.1 - (1:Int))).toNat (nth s40.2 s40.1)))))))))∧((decide (x69<0))=false→(z40=.inr (s40.1,s40.2))))))))∧((decide (0<s40.1))=false→(z40=.inr (s40.1,s40.2)))
def arena_index_b36 (d0:(List Ent)) (s36:Int × List Int) (z36:(Int × List Int) ⊕ (Int × List Int)):Prop :=
 ((decide (s36.1<((List.replicate ((d0.length:Int)).toNat (0:Int)).length:Int)))=true→(∃ x40,LoopR (arena_index_b40 d0) (s36.1,s36.2) x40∧(z36=.inl ((IntKind.i64.wrap (s36.1 + (1:Int))),x40.2))))∧((decide (s36.1<((List.replicate ((d0.length:Int)).toNat (0:Int)).length:Int)))=false→(z36=.inr (s36.1,s36.2)))
def arena_index_raw (d0:(List Ent)) (y:(List Int)):Prop :=
 (0≤(d0.length:Int)∧(d0.length:Int) * 8≤281474976710656∧(d0.length:Int)≤9223372036854775807)∧(∃ x12,LoopR (arena_index_b12 d0) ((0:Int),(List.replicate ((d0.length:Int)).toNat (0:Int))) x12∧((decide (20≤((List.replicate ((d0.length:Int)).toNat (0:Int)).length:Int)))=false∧(∃ x36,LoopR (arena_index_b36 d0) ((1:Int),x12.2) x36∧((decide (20<((List.replicate ((d0.length:Int)).toNat (0:Int)).length:Int)))=false∧(y=x36.2)))))
set_option maxRecDepth 20000 in
set_option maxHeartbeats 4000000 in
theorem arena_index_c {L:List Nat} {w:World} {AP0:Option Addr} {cP0:Nat} (d0:(List Ent)) (HP0:Stb L w (fun w=>SlC kEnt w AP0 cP0 d0)) (hL:Lt L w) {y:(List Int)} (h:arena_index_raw d0 y) :
  Calls Try.prog 47 [.slice AP0 d0.length cP0].toArray w (Ret fun v w'=>Ext w w'∧∃ (A90:Option Addr) (c90:Nat),v=.slice A90 (y).length c90∧Stb L w' (fun w=>SlC (kI .i64) w A90 c90 y)):=by
 unfold arena_index_raw at h
 refine calls_ec Try.func47 rfl rfl rfl ?_
 refine ec_sr ?_
 refine o_box (cs:=[.slice AP0 d0.length cP0]) rfl rfl rfl ?_
 intro b1 w1 e1 F1 B1
 have S1:=B1.stb (nin hL e1)
 have G2:Fr L w w1:=Fr.ext F1
 refine o_w (v:=.slice none ([]:List Int).length 0) (r_asg rfl) ?_
 refine eo_r ?_
 refine o_w (v:=.slice AP0 d0.length cP0) (r_ld one_s_api_Entry rfl (S1.now.cell rfl)) ?_
 refine o_w (v:=.int .i64 (d0.length:Int)) (r_len_slc un_s_api_Entry rfl) ?_
 have lo3:w.heap.size≤w1.heap.size:=F1.size
 obtain ⟨ha4,h⟩:=h
 refine o_make (k:=(kI .i64)) slc_s_int rfl rfl (z:=(0:Int)) (fun _=>rfl) rfl rfl ha4 (hL.fr F1) rfl rfl (by decide) ?_
 intro v3 w3 F3 O3 N3
 have P5:∀ m∈own v3,m∈L∨w.heap.size≤m:=fun m hm=>.inr (Nat.le_trans (G2.size) (N3 m hm))
 have P6:∀ m∈own v3,m∈L∨w1.heap.size≤m:=fun m hm=>.inr (Nat.le_trans (Nat.le_refl _) (N3 m hm))
 have E7:=F1.trans F3
 have G9:Fr L w1 w3:=Fr.ext F3
 refine o_w (v:=v3) (r_asg rfl) ?_
 refine eo_nil_sq ?_
 refine ec_seq ?_
 refine ec_sr ?_
 refine o_w (v:=v3) (r_mov rfl) ?_
 obtain ⟨A10,c11,rfl⟩:=O3.shape
 refine o_w (v:=.int .i64 ((List.replicate ((d0.length:Int)).toNat (0:Int)).length:Int)) (r_len_slc un_s_int rfl) ?_
 refine o_w (v:=.int .i64 0) (r_mov rfl) ?_
 refine eo_nil_sq ?_
 refine ec_block ?_
 obtain ⟨x12,hl12,h⟩:=h
 refine ec_loopE 0 (I:=(fun (s12:Int × List Int) ρ ds w'=>∃ (ρ':Env),ρ=envs ρ' [(10,.int .i64 s12.1),(1,.pointer (some ⟨b1,0,none⟩)),(3,(.slice A10 (List.replicate ((d0.length:Int)).toNat (0:Int)).length c11)),(9,.int .i64 ((List.replicate ((d0.length:Int)).toNat (0:Int)).length:Int))]∧ds=[]∧Fr (own (.slice A10 (List.replicate ((d0.length:Int)).toNat (0:Int)).length c11)++L) w3 w'∧Ext w w'∧OwnS (kI .i64) (w1.heap.size) 3 L w' (.slice A10 (List.replicate ((d0.length:Int)).toNat (0:Int)).length c11) s12.2)) ?_ hl12 ?_ ?_
 ·intro s12 z12 ρ12 ds12 w12r hI12 hb12
  obtain ⟨ρ12r,rfl,rfl,F12r,E12r,O12r2⟩:=hI12
  have h:=hb12
  unfold arena_index_b12 at h
  refine ec_sr ?_
  refine o_w (v:=.bool (decide (s12.1<((List.replicate ((d0.length:Int)).toNat (0:Int)).length:Int)))) (r_int rfl rfl rfl) ?_
  refine eo_nil_sq ?_
  refine ec_seq ?_
  refine ec_cond rfl (fun hc15=>?_) (fun hc15=>?_)
  ·replace h:=h.1 hc15
   refine ec_skip ?_
   refine sq_n ?_
   refine ec_seq ?_
   refine ec_block ?_
   refine ec_sr ?_
   refine o_w (v:=.int .i64 s12.1) (r_mov rfl) ?_
   refine o_w (v:=.int .i64 s12.1) (r_asg rfl) ?_
   refine eo_q ?_
   refine o_w (v:=(.slice A10 (List.replicate ((d0.length:Int)).toNat (0:Int)).length c11)) (r_mov rfl) ?_
   iterate 2 refine o_w (v:=.int .i64 s12.1) (r_mov rfl) ?_
   obtain ⟨hn19,H18⟩:=O12r2.stillAt
   have Zanc20:=Fr.refl L w12r
   obtain ⟨ha22,h⟩:=h
   obtain ⟨cs23,l25,H24⟩:=Stb.elem (by decide) (H18.fr Zanc20 sI) s12.1 ha22.1 ha22.2
   obtain ⟨rfl,H24'⟩:=kI_open2 H24
   refine o_w (r_ia slc_s_int rfl rfl ((H18.fr Zanc20 sI).now.2 _ (lt_toNat ha22.1 ha22.2)).1 ha22.1 (hn19 ▸ ha22.2)) ?_
   refine o_ostore2 (by first | exact hn19 | (simp only [List.length_set]; exact hn19)) rfl O12r2 ha22.1 (hn19 ▸ ha22.2) rfl (vs:=[.int .i64 s12.1]) sz_int rfl rfl (x:=s12.1) (fun _ _=>rfl) rfl ?_
   intro w26 F26 O26
   have E27:=Ext.st E12r F26 (fun m hm=>Nat.le_trans lo3 (O12r2.lo m hm))
   have G30:Fr (own (.slice A10 (List.replicate ((d0.length:Int)).toNat (0:Int)).length c11)++L) w3 w26:=F12r.stp F26 (fun m hm=>.inl (List.mem_append_left _ hm))
   refine eo_nil ?_
   refine blk_n ?_
   refine sq_n ?_
   refine ec_region ?_
   refine o_w (v:=.int .i64 (IntKind.i64.wrap (s12.1 + (1:Int)))) (r_int rfl rfl rfl) ?_
   refine o_w (v:=.int .i64 (IntKind.i64.wrap (s12.1 + (1:Int)))) (r_mov rfl) ?_
   refine eo_nil ?_
   subst h
   exact lq_n ⟨_,envs_self ⟨rfl,rfl,rfl,rfl,trivial⟩,rfl,G30,E27,O26⟩
  ·replace h:=h.2 hc15
   refine ec_exit ?_
   refine sq_exit ?_
   subst h
   exact lq_x ⟨_,envs_self ⟨rfl,rfl,rfl,rfl,trivial⟩,rfl,F12r,E12r,O12r2⟩
 ·exact ⟨_,envs_self ⟨rfl,rfl,rfl,rfl,trivial⟩,rfl,(Fr.refl _ _),E7,O3⟩
 ·rintro ρ12e ds12e w12e ⟨ρ12e,rfl,rfl,F12e,E12e,O12e2⟩
  have G33:Fr L w w12e:=(G2.trans (Fr.ext F3)).stp F12e (upo P5 (fun _ h=>.inl h))
  have G34:Fr L w1 w12e:=G9.stp F12e (upo P6 (fun _ h=>.inl h))
  refine blk_hit ?_
  refine sq_n ?_
  refine ec_sr ?_
  refine o_w (v:=(.slice A10 (List.replicate ((d0.length:Int)).toNat (0:Int)).length c11)) (r_mov rfl) ?_
  refine o_w (r_mkfn' (vs:=[.pointer (some ⟨b1,0,none⟩)]) rfl) ?_
  refine o_inl (vs:=[(.slice A10 (List.replicate ((d0.length:Int)).toNat (0:Int)).length c11),.func (.func 64) #[] #[.pointer (some ⟨b1,0,none⟩)]]) (caps:=[]) cf_slices_SortStableFunc_int rfl rfl rfl rfl ?_
  refine calls_ec Try.func63 rfl rfl rfl ?_
  refine ec_region ?_
  iterate 2 refine o_w (v:=(.slice A10 (List.replicate ((d0.length:Int)).toNat (0:Int)).length c11)) (r_mov rfl) ?_
  refine o_w (v:=.int .i64 ((List.replicate ((d0.length:Int)).toNat (0:Int)).length:Int)) (r_len_slc un_s_int rfl) ?_
  refine o_w (v:=.func (.func 64) #[] #[.pointer (some ⟨b1,0,none⟩)]) (r_mov rfl) ?_
  refine o_inl (vs:=[(.slice A10 (List.replicate ((d0.length:Int)).toNat (0:Int)).length c11),.int .i64 ((List.replicate ((d0.length:Int)).toNat (0:Int)).length:Int),.func (.func 64) #[] #[.pointer (some ⟨b1,0,none⟩)]]) (caps:=[]) cf_slices_stableCmpFunc_int rfl rfl rfl rfl ?_
  refine calls_ec Try.func72 rfl rfl rfl ?_
  refine ec_sr ?_
  refine o_w (v:=.int .i64 20) (r_asg rfl) ?_
  refine eo_r ?_
  refine o_w (v:=.int .i64 20) (r_mov rfl) ?_
  refine o_w (v:=.int .i64 0) (r_asg rfl) ?_
  refine o_w (v:=.int .i64 20) (r_asg rfl) ?_
  refine eo_nil_sq ?_
  refine ec_seq ?_
  refine ec_block ?_
  refine ec_loop0 ?_
  refine ec_seq ?_
  refine ec_sr ?_
  refine o_w (v:=.int .i64 20) (r_mov rfl) ?_
  refine o_w (v:=.int .i64 ((List.replicate ((d0.length:Int)).toNat (0:Int)).length:Int)) (r_mov rfl) ?_
  refine o_w (v:=.bool (decide (20≤((List.replicate ((d0.length:Int)).toNat (0:Int)).length:Int)))) (r_int rfl rfl rfl) ?_
  refine eo_nil_sq ?_
  obtain ⟨hc35,h⟩:=h
  refine ec_condF rfl hc35 ?_
  refine ec_exit ?_
  refine sq_exit ?_
  refine nn_exit ?_
  refine blk_hit ?_
  refine sq_n ?_
  refine ec_sr ?_
  refine o_w (v:=(.slice A10 (List.replicate ((d0.length:Int)).toNat (0:Int)).length c11)) (r_mov rfl) ?_
  refine o_w (v:=.int .i64 0) (r_mov rfl) ?_
  refine o_w (v:=.int .i64 ((List.replicate ((d0.length:Int)).toNat (0:Int)).length:Int)) (r_mov rfl) ?_
  refine o_w (v:=.func (.func 64) #[] #[.pointer (some ⟨b1,0,none⟩)]) (r_mov rfl) ?_
  refine o_inl (vs:=[(.slice A10 (List.replicate ((d0.length:Int)).toNat (0:Int)).length c11),.int .i64 0,.int .i64 ((List.replicate ((d0.length:Int)).toNat (0:Int)).length:Int),.func (.func 64) #[] #[.pointer (some ⟨b1,0,none⟩)]]) (caps:=[]) cf_slices_insertionSortCmpFunc_int rfl rfl rfl rfl ?_
  refine calls_ec Try.func76 rfl rfl rfl ?_
  refine ec_sr ?_
  refine o_w (v:=.int .i64 0) (r_mov rfl) ?_
  refine o_w (v:=.int .i64 1) (r_int (v:=.int .i64 (1)) rfl rfl rfl) ?_
  refine o_w (v:=.int .i64 1) (r_asg rfl) ?_
  refine eo_nil_sq ?_
  refine ec_block ?_
  obtain ⟨x36,hl36,h⟩:=h
  refine ec_loopE 0 (I:=(fun (s36:Int × List Int) ρ ds w'=>∃ (ρ':Env),ρ=envs ρ' [(8,.int .i64 s36.1),(0,(.slice A10 (List.replicate ((d0.length:Int)).toNat (0:Int)).length c11)),(1,.int .i64 0),(2,.int .i64 ((List.replicate ((d0.length:Int)).toNat (0:Int)).length:Int)),(3,.func (.func 64) #[] #[.pointer (some ⟨b1,0,none⟩)])]∧ds=[]∧Fr (own (.slice A10 (List.replicate ((d0.length:Int)).toNat (0:Int)).length c11)++L) w12e w'∧Ext w w'∧OwnS (kI .i64) (w1.heap.size) 3 L w' (.slice A10 (List.replicate ((d0.length:Int)).toNat (0:Int)).length c11) s36.2)) ?_ hl36 ?_ ?_
  ·intro s36 z36 ρ36 ds36 w36r hI36 hb36
   obtain ⟨ρ36r,rfl,rfl,F36r,E36r,O36r2⟩:=hI36
   have h:=hb36
   unfold arena_index_b36 at h
   have G37:Fr L w w36r:=G33.stp F36r (upo P5 (fun _ h=>.inl h))
   have G38:Fr L w1 w36r:=G34.stp F36r (upo P6 (fun _ h=>.inl h))
   refine ec_seq ?_
   refine ec_sr ?_
   refine o_w (v:=.int .i64 s36.1) (r_mov rfl) ?_
   refine o_w (v:=.int .i64 ((List.replicate ((d0.length:Int)).toNat (0:Int)).length:Int)) (r_mov rfl) ?_
   refine o_w (v:=.bool (decide (s36.1<((List.replicate ((d0.length:Int)).toNat (0:Int)).length:Int)))) (r_int rfl rfl rfl) ?_
   refine eo_nil_sq ?_
   refine ec_cond rfl (fun hc39=>?_) (fun hc39=>?_)
   ·replace h:=h.1 hc39
    refine ec_skip ?_
    refine sq_n ?_
    refine ec_seq ?_
    refine ec_block ?_
    refine ec_sr ?_
    refine o_w (v:=.int .i64 s36.1) (r_mov rfl) ?_
    refine o_w (v:=.int .i64 s36.1) (r_asg rfl) ?_
    refine eo_nil_sq ?_
    refine ec_block ?_
    obtain ⟨x40,hl40,h⟩:=h
    refine ec_loopE 2 (I:=(fun (s40:Int × List Int) ρ ds w'=>∃ (ρ':Env),ρ=envs ρ' [(9,.int .i64 s40.1),(0,(.slice A10 (List.replicate ((d0.length:Int)).toNat (0:Int)).length c11)),(1,.int .i64 0),(2,.int .i64 ((List.replicate ((d0.length:Int)).toNat (0:Int)).length:Int)),(3,.func (.func 64) #[] #[.pointer (some ⟨b1,0,none⟩)]),(8,.int .i64 s36.1)]∧ds=[]∧Fr (own (.slice A10 (List.replicate ((d0.length:Int)).toNat (0:Int)).length c11)++L) w36r w'∧Ext w w'∧OwnS (kI .i64) (w1.heap.size) 3 L w' (.slice A10 (List.replicate ((d0.length:Int)).toNat (0:Int)).length c11) s40.2)) ?_ hl40 ?_ ?_
    ·intro s40 z40 ρ40 ds40 w40r hI40 hb40
     obtain ⟨ρ40r,rfl,rfl,F40r,E40r,O40r2⟩:=hI40
     have h:=hb40
     unfold arena_index_b40 at h
     have G41:Fr L w w40r:=G37.stp F40r (upo P5 (fun _ h=>.inl h))
     have G42:Fr L w1 w40r:=G38.stp F40r (upo P6 (fun _ h=>.inl h))
     iterate 2 refine ec_seq ?_
     rcases Bool.eq_false_or_eq_true (decide (0<s40.1)) with hc44 | hc44
     ·replace h:=h.1 hc44
      obtain ⟨hn50,H49⟩:=O40r2.stillAt
      have Zanc51:=Fr.refl L w40r
      obtain ⟨ha53,h⟩:=h
      obtain ⟨cs54,l56,H55⟩:=Stb.elem (by decide) (H49.fr Zanc51 sI) s40.1 ha53.1 ha53.2
      obtain ⟨rfl,H55'⟩:=kI_open2 H55
      have hA57:=((H49.fr Zanc51 sI).now.2 _ (lt_toNat ha53.1 ha53.2)).1
      obtain ⟨hn61,H60⟩:=O40r2.stillAt
      have Zanc62:=Fr.refl L w40r
      obtain ⟨ha64,h⟩:=h
      obtain ⟨cs65,l67,H66⟩:=Stb.elem (by decide) (H60.fr Zanc62 sI) (IntKind.i64.wrap (s40.1 - (1:Int))) ha64.1 ha64.2
      obtain ⟨rfl,H66'⟩:=kI_open2 H66
      have hA68:=((H60.fr Zanc62 sI).now.2 _ (lt_toNat ha64.1 ha64.2)).1
      obtain ⟨x69,hx69,h⟩:=h
      refine ec_any0 (by kernel_rfl) [[],[],[0,1],[0,1,2],[0,1,2,3],[0,1,2,3],[0,1,2,3],[0,1,2,3,5,6],[0,1,2,3,5,6,7],[0,1,2,3],[0,1,2,3],[0,1,2,3,10],[0,1,2,3,9,10,11],[0,1,2,3,9,10,11,12],[0,1,2,3,4,5,6,7,8,9,10,11,12,13],[0,1,2,3,4,5,6,7,8,9,10,11,12,13,14],[0,1,2,3,4,5,6,7,8,9,10,11,12,13,14,15]] [18,19,20,21,22,23,24,25,26,27,28,29,30,31,32,33,34] [fun v _=>v=(.int .i64 s40.1:Value),fun v _=>v=(.int .i64 0:Value),fun v _=>v=(.bool (decide (0<s40.1)):Value),fun v _=>v=(.bool (decide (0<s40.1)):Value),fun v _=>v=(.func (.func 64) #[] #[.pointer (some ⟨b1,0,none⟩)]:Value),fun v _=>v=((.slice A10 (List.replicate ((d0.length:Int)).toNat (0:Int)).length c11):Value),fun v _=>v=(.int .i64 s40.1:Value),fun v _=>v=(.pointer (some (elemA A10 (kI .i64).n s40.1.toNat)):Value),fun v _=>v=(.int .i64 (nth s40.2 s40.1):Value),fun v _=>v=((.slice A10 (List.replicate ((d0.length:Int)).toNat (0:Int)).length c11):Value),fun v _=>v=(.int .i64 s40.1:Value),fun v _=>v=(.int .i64 (IntKind.i64.wrap (s40.1 - (1:Int))):Value),fun v _=>v=(.pointer (some (elemA A10 (kI .i64).n (IntKind.i64.wrap (s40.1 - (1:Int))).toNat)):Value),fun v _=>v=(.int .i64 (nth s40.2 (IntKind.i64.wrap (s40.1 - (1:Int)))):Value),fun v _=>v=(.int .i64 x69:Value),fun v _=>v=(.bool (decide (x69<0)):Value),fun v _=>v=(.bool (decide (x69<0)):Value)] (by kernel_rfl) ⟨fun _ _ _ _ _ h=>h,fun _ _ _ _ _ h=>h,fun _ _ _ _ _ h=>h,fun _ _ _ _ _ h=>h,fun _ _ _ _ _ h=>h,fun _ _ _ _ _ h=>h,fun _ _ _ _ _ h=>h,fun _ _ _ _ _ h=>h,fun _ _ _ _ _ h=>h,fun _ _ _ _ _ h=>h,fun _ _ _ _ _ h=>h,fun _ _ _ _ _ h=>h,fun _ _ _ _ _ h=>h,fun _ _ _ _ _ h=>h,fun _ _ _ _ _ h=>h,fun _ _ _ _ _ h=>h,fun _ _ _ _ _ h=>h,trivial⟩ ?_ ?_
      ·refine ⟨?_,?_,?_,?_,?_,?_,?_,?_,?_,?_,?_,?_,?_,?_,?_,?_,?_,trivial⟩
       ·intro ρ w46o F46o hS hρ
        have q9:ρ 9=.int .i64 s40.1:=hρ 9 (by kernel_rfl)
        exact o_q (r_mov q9) ⟨Fr.refl _ _,rfl⟩
       ·intro ρ w46o F46o hS hρ
        have q1:ρ 1=.int .i64 0:=hρ 1 (by kernel_rfl)
        exact o_q (r_mov q1) ⟨Fr.refl _ _,rfl⟩
       ·intro ρ w46o F46o hS hρ
        have q18:ρ 18=.int .i64 s40.1:=hS 0 (by decide) 18 rfl
        have q19:ρ 19=.int .i64 0:=hS 1 (by decide) 19 rfl
        exact o_q (r_int q18 q19 rfl) ⟨Fr.refl _ _,rfl⟩
       ·intro ρ w46o F46o hS hρ
        have q20:ρ 20=.bool (decide (0<s40.1)):=hS 2 (by decide) 20 rfl
        exact o_q (r_mov q20) ⟨Fr.refl _ _,rfl⟩
       ·intro ρ w46o F46o hS hρ
        have q3:ρ 3=.func (.func 64) #[] #[.pointer (some ⟨b1,0,none⟩)]:=hρ 3 (by kernel_rfl)
        have q21:ρ 21=.bool (decide (0<s40.1)):=hS 3 (by decide) 21 rfl
        exact o_v (r_mov q3) (want_t (t:=21) rfl q21 hc44) rfl rfl (eo_nil ⟨rfl,rfl,_,rfl,Fr.refl _ _,rfl⟩)
       ·intro ρ w46o F46o hS hρ
        have q0:ρ 0=(.slice A10 (List.replicate ((d0.length:Int)).toNat (0:Int)).length c11):=hρ 0 (by kernel_rfl)
        have q21:ρ 21=.bool (decide (0<s40.1)):=hS 3 (by decide) 21 rfl
        exact o_v (r_mov q0) (want_t (t:=21) rfl q21 hc44) rfl rfl (eo_nil ⟨rfl,rfl,_,rfl,Fr.refl _ _,rfl⟩)
       ·intro ρ w46o F46o hS hρ
        have q9:ρ 9=.int .i64 s40.1:=hρ 9 (by kernel_rfl)
        have q21:ρ 21=.bool (decide (0<s40.1)):=hS 3 (by decide) 21 rfl
        exact o_v (r_mov q9) (want_t (t:=21) rfl q21 hc44) rfl rfl (eo_nil ⟨rfl,rfl,_,rfl,Fr.refl _ _,rfl⟩)
       ·intro ρ w46o F46o hS hρ
        have q21:ρ 21=.bool (decide (0<s40.1)):=hS 3 (by decide) 21 rfl
        have q23:ρ 23=(.slice A10 (List.replicate ((d0.length:Int)).toNat (0:Int)).length c11):=hS 5 (by decide) 23 rfl
        have q24:ρ 24=.int .i64 s40.1:=hS 6 (by decide) 24 rfl
        exact o_v (r_ia slc_s_int q23 q24 hA57 ha53.1 (hn50 ▸ ha53.2)) (want_t (t:=21) rfl q21 hc44) rfl rfl (eo_nil ⟨rfl,rfl,_,rfl,Fr.refl _ _,rfl⟩)
       ·intro ρ w46o F46o hS hρ
        have q21:ρ 21=.bool (decide (0<s40.1)):=hS 3 (by decide) 21 rfl
        have q25:ρ 25=.pointer (some (elemA A10 (kI .i64).n s40.1.toNat)):=hS 7 (by decide) 25 rfl
        exact o_v (r_ld' one_int q25 (elemA_spot _ _ _) ((H55'.fr (Zanc51.trans (Fr.ext F46o)) sI).now.1.at0 (elemA_spot _ _ _))) (want_t (t:=21) rfl q21 hc44) rfl rfl (eo_nil ⟨rfl,rfl,_,rfl,Fr.refl _ _,rfl⟩)
       ·intro ρ w46o F46o hS hρ
        have q0:ρ 0=(.slice A10 (List.replicate ((d0.length:Int)).toNat (0:Int)).length c11):=hρ 0 (by kernel_rfl)
        have q21:ρ 21=.bool (decide (0<s40.1)):=hS 3 (by decide) 21 rfl
        exact o_v (r_mov q0) (want_t (t:=21) rfl q21 hc44) rfl rfl (eo_nil ⟨rfl,rfl,_,rfl,Fr.refl _ _,rfl⟩)
       ·intro ρ w46o F46o hS hρ
        have q9:ρ 9=.int .i64 s40.1:=hρ 9 (by kernel_rfl)
        have q21:ρ 21=.bool (decide (0<s40.1)):=hS 3 (by decide) 21 rfl
        exact o_v (r_mov q9) (want_t (t:=21) rfl q21 hc44) rfl rfl (eo_nil ⟨rfl,rfl,_,rfl,Fr.refl _ _,rfl⟩)
       ·intro ρ w46o F46o hS hρ
        have q21:ρ 21=.bool (decide (0<s40.1)):=hS 3 (by decide) 21 rfl
        have q28:ρ 28=.int .i64 s40.1:=hS 10 (by decide) 28 rfl
        exact o_v (r_int q28 rfl rfl) (want_t (t:=21) rfl q21 hc44) rfl rfl (eo_nil ⟨rfl,rfl,_,rfl,Fr.refl _ _,rfl⟩)
       ·intro ρ w46o F46o hS hρ
        have q21:ρ 21=.bool (decide (0<s40.1)):=hS 3 (by decide) 21 rfl
        have q27:ρ 27=(.slice A10 (List.replicate ((d0.length:Int)).toNat (0:Int)).length c11):=hS 9 (by decide) 27 rfl
        have q29:ρ 29=.int .i64 (IntKind.i64.wrap (s40.1 - (1:Int))):=hS 11 (by decide) 29 rfl
        exact o_v (r_ia slc_s_int q27 q29 hA68 ha64.1 (hn61 ▸ ha64.2)) (want_t (t:=21) rfl q21 hc44) rfl rfl (eo_nil ⟨rfl,rfl,_,rfl,Fr.refl _ _,rfl⟩)
       ·intro ρ w46o F46o hS hρ
        have q21:ρ 21=.bool (decide (0<s40.1)):=hS 3 (by decide) 21 rfl
        have q30:ρ 30=.pointer (some (elemA A10 (kI .i64).n (IntKind.i64.wrap (s40.1 - (1:Int))).toNat)):=hS 12 (by decide) 30 rfl
        exact o_v (r_ld' one_int q30 (elemA_spot _ _ _) ((H66'.fr (Zanc62.trans (Fr.ext F46o)) sI).now.1.at0 (elemA_spot _ _ _))) (want_t (t:=21) rfl q21 hc44) rfl rfl (eo_nil ⟨rfl,rfl,_,rfl,Fr.refl _ _,rfl⟩)
       ·intro ρ w46o F46o hS hρ
        have E90:=E40r.trans F46o
        have q21:ρ 21=.bool (decide (0<s40.1)):=hS 3 (by decide) 21 rfl
        have q22:ρ 22=.func (.func 64) #[] #[.pointer (some ⟨b1,0,none⟩)]:=hS 4 (by decide) 22 rfl
        have q26:ρ 26=.int .i64 (nth s40.2 s40.1):=hS 8 (by decide) 26 rfl
        have q31:ρ 31=.int .i64 (nth s40.2 (IntKind.i64.wrap (s40.1 - (1:Int)))):=hS 13 (by decide) 31 rfl
        refine o_callc (vs:=[.int .i64 (nth s40.2 s40.1),.int .i64 (nth s40.2 (IntKind.i64.wrap (s40.1 - (1:Int))))]) (caps:=[.pointer (some ⟨b1,0,none⟩)]) cf_arena_index_1 (show ev ρ _=_ from q22) (by simp only [List.map,ev,q26,q31] <;> rfl) (arena_index_1_c (nth s40.2 s40.1) (nth s40.2 (IntKind.i64.wrap (s40.1 - (1:Int)))) d0 (S1.up (G42.trans (Fr.ext F46o)) sI (upo P6 (fun _ h=>.inl h))) (HP0.up (G41.trans (Fr.ext F46o)) sI (upo P5 (fun _ h=>.inl h))) ((hL.fr E90).own (O40r2.ex F46o)) hx69) (want_t (t:=21) rfl q21 hc44) rfl ?_
        rintro _ w' ⟨F,rfl⟩
        exact eo_nil ⟨rfl,rfl,_,rfl,F,rfl⟩
       ·intro ρ w46o F46o hS hρ
        have q21:ρ 21=.bool (decide (0<s40.1)):=hS 3 (by decide) 21 rfl
        have q32:ρ 32=.int .i64 x69:=hS 14 (by decide) 32 rfl
        exact o_v (r_int q32 rfl rfl) (want_t (t:=21) rfl q21 hc44) rfl rfl (eo_nil ⟨rfl,rfl,_,rfl,Fr.refl _ _,rfl⟩)
       ·intro ρ w46o F46o hS hρ
        have q21:ρ 21=.bool (decide (0<s40.1)):=hS 3 (by decide) 21 rfl
        have q33:ρ 33=.bool (decide (x69<0)):=hS 15 (by decide) 33 rfl
        exact o_q (r_pickT q21 hc44 q33) ⟨Fr.refl _ _,rfl⟩
      ·intro ρ w46 F46 hS hρ
       have q22:ρ 22=.func (.func 64) #[] #[.pointer (some ⟨b1,0,none⟩)]:=hS 4 22 rfl
       have q23:ρ 23=(.slice A10 (List.replicate ((d0.length:Int)).toNat (0:Int)).length c11):=hS 5 23 rfl
       have q24:ρ 24=.int .i64 s40.1:=hS 6 24 rfl
       have q25:ρ 25=.pointer (some (elemA A10 (kI .i64).n s40.1.toNat)):=hS 7 25 rfl
       have q26:ρ 26=.int .i64 (nth s40.2 s40.1):=hS 8 26 rfl
       have q27:ρ 27=(.slice A10 (List.replicate ((d0.length:Int)).toNat (0:Int)).length c11):=hS 9 27 rfl
       have q28:ρ 28=.int .i64 s40.1:=hS 10 28 rfl
       have q29:ρ 29=.int .i64 (IntKind.i64.wrap (s40.1 - (1:Int))):=hS 11 29 rfl
       have q30:ρ 30=.pointer (some (elemA A10 (kI .i64).n (IntKind.i64.wrap (s40.1 - (1:Int))).toNat)):=hS 12 30 rfl
       have q31:ρ 31=.int .i64 (nth s40.2 (IntKind.i64.wrap (s40.1 - (1:Int)))):=hS 13 31 rfl
       have q32:ρ 32=.int .i64 x69:=hS 14 32 rfl
       have q33:ρ 33=.bool (decide (x69<0)):=hS 15 33 rfl
       have q34:ρ 34=.bool (decide (x69<0)):=hS 16 34 rfl
       obtain ⟨ρ',rfl⟩:∃ ρ',ρ=envs (ovr [18,19,20,21,22,23,24,25,26,27,28,29,30,31,32,33,34] ρ' _) [(22,.func (.func 64) #[] #[.pointer (some ⟨b1,0,none⟩)]),(23,(.slice A10 (List.replicate ((d0.length:Int)).toNat (0:Int)).length c11)),(24,.int .i64 s40.1),(25,.pointer (some (elemA A10 (kI .i64).n s40.1.toNat))),(26,.int .i64 (nth s40.2 s40.1)),(27,(.slice A10 (List.replicate ((d0.length:Int)).toNat (0:Int)).length c11)),(28,.int .i64 s40.1),(29,.int .i64 (IntKind.i64.wrap (s40.1 - (1:Int)))),(30,.pointer (some (elemA A10 (kI .i64).n (IntKind.i64.wrap (s40.1 - (1:Int))).toNat))),(31,.int .i64 (nth s40.2 (IntKind.i64.wrap (s40.1 - (1:Int))))),(32,.int .i64 x69),(33,.bool (decide (x69<0))),(34,.bool (decide (x69<0)))]:=⟨ρ,ovr_self hρ ⟨q22,q23,q24,q25,q26,q27,q28,q29,q30,q31,q32,q33,q34,trivial⟩⟩
       have E100:=E40r.trans F46
       refine sq_n ?_
       refine ec_cond rfl (fun hc110=>?_) (fun hc110=>?_)
       ·replace h:=h.1 hc110
        refine ec_skip ?_
        refine sq_n ?_
        refine ec_seq ?_
        refine ec_block ?_
        obtain ⟨hn115,H114⟩:=(O40r2.ex F46).stillAt
        have Zanc116:=Fr.refl L w46
        obtain ⟨ha118,h⟩:=h
        obtain ⟨cs119,l121,H120⟩:=Stb.elem (by decide) (H114.fr Zanc116 sI) (IntKind.i64.wrap (s40.1 - (1:Int))) ha118.1 ha118.2
        obtain ⟨rfl,H120'⟩:=kI_open2 H120
        have hA122:=((H114.fr Zanc116 sI).now.2 _ (lt_toNat ha118.1 ha118.2)).1
        obtain ⟨hn126,H125⟩:=(O40r2.ex F46).stillAt
        have Zanc127:=Fr.refl L w46
        obtain ⟨ha129,h⟩:=h
        obtain ⟨cs130,l132,H131⟩:=Stb.elem (by decide) (H125.fr Zanc127 sI) s40.1 ha129.1 ha129.2
        obtain ⟨rfl,H131'⟩:=kI_open2 H131
        have hA133:=((H125.fr Zanc127 sI).now.2 _ (lt_toNat ha129.1 ha129.2)).1
        obtain ⟨hn137,H136⟩:=(O40r2.ex F46).stillAt
        have Zanc138:=Fr.refl L w46
        obtain ⟨ha140,h⟩:=h
        obtain ⟨cs141,l143,H142⟩:=Stb.elem (by decide) (H136.fr Zanc138 sI) s40.1 ha140.1 ha140.2
        obtain ⟨rfl,H142'⟩:=kI_open2 H142
        have hA144:=((H136.fr Zanc138 sI).now.2 _ (lt_toNat ha140.1 ha140.2)).1
        obtain ⟨hn148,H147⟩:=(O40r2.ex F46).stillAt
        have Zanc149:=Fr.refl L w46
        obtain ⟨ha151,h⟩:=h
        obtain ⟨cs152,l154,H153⟩:=Stb.elem (by decide) (H147.fr Zanc149 sI) (IntKind.i64.wrap (s40.1 - (1:Int))) ha151.1 ha151.2
        obtain ⟨rfl,H153'⟩:=kI_open2 H153
        have hA155:=((H147.fr Zanc149 sI).now.2 _ (lt_toNat ha151.1 ha151.2)).1
        refine ec_anyN (by kernel_rfl) [[],[],[],[],[3],[],[],[6],[5,6,7],[5,6,7,8],[],[],[10,11],[10,11,12],[0,1,5,6,7,8,9,10,11,12,13],[0,1,5,6,7,8,9,10,11,12,13,14],[0,1,2,3,4,5,6,7,8,9,10,11,12,13,14,15],[0,1,2,3,4,5,6,7,8,9,10,11,12,13,14,15,16]] [37,38,39,40,41,42,43,44,45,46,47,48,49,50,51,52] (own (.slice A10 (List.replicate ((d0.length:Int)).toNat (0:Int)).length c11)++[]) [15,17] [own (.slice A10 (List.replicate ((d0.length:Int)).toNat (0:Int)).length c11),own (.slice A10 (List.replicate ((d0.length:Int)).toNat (0:Int)).length c11)] [[15,16,17],[17]] [fun w'=>OwnS (kI .i64) (w1.heap.size) 3 L w' (.slice A10 (List.replicate ((d0.length:Int)).toNat (0:Int)).length c11) s40.2,fun w'=>OwnS (kI .i64) (w1.heap.size) 3 L w' (.slice A10 (List.replicate ((d0.length:Int)).toNat (0:Int)).length c11) (s40.2.set s40.1.toNat (nth s40.2 (IntKind.i64.wrap (s40.1 - (1:Int))))),fun w'=>OwnS (kI .i64) (w1.heap.size) 3 L w' (.slice A10 (List.replicate ((d0.length:Int)).toNat (0:Int)).length c11) ((s40.2.set s40.1.toNat (nth s40.2 (IntKind.i64.wrap (s40.1 - (1:Int))))).set (IntKind.i64.wrap (s40.1 - (1:Int))).toNat (nth s40.2 s40.1))] [fun v _=>v=((.slice A10 (List.replicate ((d0.length:Int)).toNat (0:Int)).length c11):Value),fun v _=>v=(.int .i64 s40.1:Value),fun v _=>v=((.slice A10 (List.replicate ((d0.length:Int)).toNat (0:Int)).length c11):Value),fun v _=>v=(.int .i64 s40.1:Value),fun v _=>v=(.int .i64 (IntKind.i64.wrap (s40.1 - (1:Int))):Value),fun v _=>v=((.slice A10 (List.replicate ((d0.length:Int)).toNat (0:Int)).length c11):Value),fun v _=>v=(.int .i64 s40.1:Value),fun v _=>v=(.int .i64 (IntKind.i64.wrap (s40.1 - (1:Int))):Value),fun v _=>v=(.pointer (some (elemA A10 (kI .i64).n (IntKind.i64.wrap (s40.1 - (1:Int))).toNat)):Value),fun v _=>v=(.int .i64 (nth s40.2 (IntKind.i64.wrap (s40.1 - (1:Int)))):Value),fun v _=>v=((.slice A10 (List.replicate ((d0.length:Int)).toNat (0:Int)).length c11):Value),fun v _=>v=(.int .i64 s40.1:Value),fun v _=>v=(.pointer (some (elemA A10 (kI .i64).n s40.1.toNat)):Value),fun v _=>v=(.int .i64 (nth s40.2 s40.1):Value),fun v _=>v=(.pointer (some (elemA A10 (kI .i64).n s40.1.toNat)):Value),fun _ _=>True,fun v _=>v=(.pointer (some (elemA A10 (kI .i64).n (IntKind.i64.wrap (s40.1 - (1:Int))).toNat)):Value),fun _ _=>True] (by kernel_rfl) (allM1 (fun m hm=>by first | exact hm | (simp at hm ⊢; simp [hm]; done) | simp_all) (allM1 (fun m hm=>by first | exact hm | (simp at hm ⊢; simp [hm]; done) | simp_all) (fun _ h=>by cases h))) ⟨fun _ _ _ _ _ h=>h,fun _ _ _ _ _ h=>h,fun _ _ _ _ _ h=>h,fun _ _ _ _ _ h=>h,fun _ _ _ _ _ h=>h,fun _ _ _ _ _ h=>h,fun _ _ _ _ _ h=>h,fun _ _ _ _ _ h=>h,fun _ _ _ _ _ h=>h,fun _ _ _ _ _ h=>h,fun _ _ _ _ _ h=>h,fun _ _ _ _ _ h=>h,fun _ _ _ _ _ h=>h,fun _ _ _ _ _ h=>h,fun _ _ _ _ _ h=>h,fun _ _ _ _ _ h=>h,fun _ _ _ _ _ h=>h,fun _ _ _ _ _ h=>h,trivial⟩ ⟨⟨fun _ _ _ _ _ h=>h,fun _ _ _ _ _ h=>h,fun _ _ _ _ _ h=>h,fun _ _ _ _ _ h=>h,fun _ _ _ _ _ h=>h,fun _ _ _ _ _ h=>h,fun _ _ _ _ _ h=>h,fun _ _ _ _ _ h=>h,fun _ _ _ _ _ h=>h,fun _ _ _ _ _ h=>h,fun _ _ _ _ _ h=>h,fun _ _ _ _ _ h=>h,fun _ _ _ _ _ h=>h,fun _ _ _ _ _ h=>h,fun _ _ _ _ _ h=>h,(fun h=>absurd h (by decide)),(fun h=>absurd h (by decide)),(fun h=>absurd h (by decide)),trivial⟩,⟨fun _ _ _ _ _ h=>h,fun _ _ _ _ _ h=>h,fun _ _ _ _ _ h=>h,fun _ _ _ _ _ h=>h,fun _ _ _ _ _ h=>h,fun _ _ _ _ _ h=>h,fun _ _ _ _ _ h=>h,fun _ _ _ _ _ h=>h,fun _ _ _ _ _ h=>h,fun _ _ _ _ _ h=>h,fun _ _ _ _ _ h=>h,fun _ _ _ _ _ h=>h,fun _ _ _ _ _ h=>h,fun _ _ _ _ _ h=>h,fun _ _ _ _ _ h=>h,fun _ _ _ _ _ h=>h,fun _ _ _ _ _ h=>h,(fun h=>absurd h (by decide)),trivial⟩,trivial⟩ ⟨fun w' w'' F h=>by have hO111_3:=h; exact (hO111_3.ex F),fun w' w'' F h=>by have hO111_3:=h; exact (hO111_3.ex F),fun w' w'' F h=>by have hO111_3:=h; exact (hO111_3.ex F),trivial⟩ (O40r2.ex F46) ?_ ?_ ?_
        ·refine ⟨?_,?_,?_,?_,?_,?_,?_,?_,?_,?_,?_,?_,?_,?_,?_,?_,?_,?_,trivial⟩
         ·intro _ ρ w111o F111o hX hS hρ
          have F111o:=hX 15 rfl rfl
          have q0:ρ 0=(.slice A10 (List.replicate ((d0.length:Int)).toNat (0:Int)).length c11):=hρ 0 (by kernel_rfl)
          exact o_q (r_mov q0) ⟨Fr.refl _ _,rfl⟩
         ·intro _ ρ w111o F111o hX hS hρ
          have F111o:=hX 15 rfl rfl
          have q9:ρ 9=.int .i64 s40.1:=hρ 9 (by kernel_rfl)
          exact o_q (r_mov q9) ⟨Fr.refl _ _,rfl⟩
         ·intro _ ρ w111o F111o hX hS hρ
          have q0:ρ 0=(.slice A10 (List.replicate ((d0.length:Int)).toNat (0:Int)).length c11):=hρ 0 (by kernel_rfl)
          exact o_q (r_mov q0) ⟨Fr.refl _ _,rfl⟩
         ·intro _ ρ w111o F111o hX hS hρ
          have q9:ρ 9=.int .i64 s40.1:=hρ 9 (by kernel_rfl)
          exact o_q (r_mov q9) ⟨Fr.refl _ _,rfl⟩
         ·intro _ ρ w111o F111o hX hS hρ
          have q40:ρ 40=.int .i64 s40.1:=hS 3 (by decide) 40 rfl
          exact o_q (r_int q40 rfl rfl) ⟨Fr.refl _ _,rfl⟩
         ·intro _ ρ w111o F111o hX hS hρ
          have F111o:=hX 15 rfl rfl
          have q0:ρ 0=(.slice A10 (List.replicate ((d0.length:Int)).toNat (0:Int)).length c11):=hρ 0 (by kernel_rfl)
          exact o_q (r_mov q0) ⟨Fr.refl _ _,rfl⟩
         ·intro _ ρ w111o F111o hX hS hρ
          have F111o:=hX 15 rfl rfl
          have q9:ρ 9=.int .i64 s40.1:=hρ 9 (by kernel_rfl)
          exact o_q (r_mov q9) ⟨Fr.refl _ _,rfl⟩
         ·intro _ ρ w111o F111o hX hS hρ
          have F111o:=hX 15 rfl rfl
          have q43:ρ 43=.int .i64 s40.1:=hS 6 (by decide) 43 rfl
          exact o_q (r_int q43 rfl rfl) ⟨Fr.refl _ _,rfl⟩
         ·intro _ ρ w111o F111o hX hS hρ
          have F111o:=hX 15 rfl rfl
          have q42:ρ 42=(.slice A10 (List.replicate ((d0.length:Int)).toNat (0:Int)).length c11):=hS 5 (by decide) 42 rfl
          have q44:ρ 44=.int .i64 (IntKind.i64.wrap (s40.1 - (1:Int))):=hS 7 (by decide) 44 rfl
          exact o_q (r_ia slc_s_int q42 q44 hA122 ha118.1 (hn115 ▸ ha118.2)) ⟨Fr.refl _ _,rfl⟩
         ·intro _ ρ w111o F111o hX hS hρ
          have F111o:=hX 15 rfl rfl
          have q45:ρ 45=.pointer (some (elemA A10 (kI .i64).n (IntKind.i64.wrap (s40.1 - (1:Int))).toNat)):=hS 8 (by decide) 45 rfl
          exact o_q (r_ld' one_int q45 (elemA_spot _ _ _) ((H120'.fr (Zanc116.trans (Fr.ext F111o)) sI).now.1.at0 (elemA_spot _ _ _))) ⟨Fr.refl _ _,rfl⟩
         ·intro _ ρ w111o F111o hX hS hρ
          have F111o:=hX 15 rfl rfl
          have q0:ρ 0=(.slice A10 (List.replicate ((d0.length:Int)).toNat (0:Int)).length c11):=hρ 0 (by kernel_rfl)
          exact o_q (r_mov q0) ⟨Fr.refl _ _,rfl⟩
         ·intro _ ρ w111o F111o hX hS hρ
          have F111o:=hX 15 rfl rfl
          have q9:ρ 9=.int .i64 s40.1:=hρ 9 (by kernel_rfl)
          exact o_q (r_mov q9) ⟨Fr.refl _ _,rfl⟩
         ·intro _ ρ w111o F111o hX hS hρ
          have F111o:=hX 15 rfl rfl
          have q47:ρ 47=(.slice A10 (List.replicate ((d0.length:Int)).toNat (0:Int)).length c11):=hS 10 (by decide) 47 rfl
          have q48:ρ 48=.int .i64 s40.1:=hS 11 (by decide) 48 rfl
          exact o_q (r_ia slc_s_int q47 q48 hA133 ha129.1 (hn126 ▸ ha129.2)) ⟨Fr.refl _ _,rfl⟩
         ·intro _ ρ w111o F111o hX hS hρ
          have F111o:=hX 15 rfl rfl
          have q49:ρ 49=.pointer (some (elemA A10 (kI .i64).n s40.1.toNat)):=hS 12 (by decide) 49 rfl
          exact o_q (r_ld' one_int q49 (elemA_spot _ _ _) ((H131'.fr (Zanc127.trans (Fr.ext F111o)) sI).now.1.at0 (elemA_spot _ _ _))) ⟨Fr.refl _ _,rfl⟩
         ·intro _ ρ w111o F111o hX hS hρ
          have F111o:=hX 15 rfl rfl
          have q37:ρ 37=(.slice A10 (List.replicate ((d0.length:Int)).toNat (0:Int)).length c11):=hS 0 (by decide) 37 rfl
          have q38:ρ 38=.int .i64 s40.1:=hS 1 (by decide) 38 rfl
          exact o_q (r_ia slc_s_int q37 q38 hA144 ha140.1 (hn137 ▸ ha140.2)) ⟨Fr.refl _ _,rfl⟩
         ·intro hT; exact absurd hT (by decide)
         ·intro _ ρ w111o F111o hX hS hρ
          have q39:ρ 39=(.slice A10 (List.replicate ((d0.length:Int)).toNat (0:Int)).length c11):=hS 2 (by decide) 39 rfl
          have q41:ρ 41=.int .i64 (IntKind.i64.wrap (s40.1 - (1:Int))):=hS 4 (by decide) 41 rfl
          exact o_q (r_ia slc_s_int q39 q41 hA155 ha151.1 (hn148 ▸ ha151.2)) ⟨Fr.refl _ _,rfl⟩
         ·intro hT; exact absurd hT (by decide)
        ·refine ⟨⟨_,rfl,?_⟩,⟨_,rfl,?_⟩,trivial⟩
         ·intro ρ w111o F111o hX hI hS hρ
          have F111o:=hX rfl
          have hO111_3:=hI
          have q46:ρ 46=.int .i64 (nth s40.2 (IntKind.i64.wrap (s40.1 - (1:Int)))):=hS 9 (by decide) 46 rfl
          have q51:ρ 51=.pointer (some (elemA A10 (kI .i64).n s40.1.toNat)):=hS 14 (by decide) 51 rfl
          refine o_ostore2 (by first | exact hn137 | (simp only [List.length_set]; exact hn137)) (show ev ρ _=_ from q51) hO111_3 ha140.1 (hn137 ▸ ha140.2) (congrArg Value.cells q46) (vs:=[.int .i64 (nth s40.2 (IntKind.i64.wrap (s40.1 - (1:Int))))]) sz_int rfl rfl (x:=(nth s40.2 (IntKind.i64.wrap (s40.1 - (1:Int))))) (fun _ _=>rfl) rfl ?_
          intro w' F O
          exact eo_nil ⟨rfl,rfl,undef,rfl,F,O,trivial⟩
         ·intro ρ w111o F111o hX hI hS hρ
          have hO111_3:=hI
          have q50:ρ 50=.int .i64 (nth s40.2 s40.1):=hS 13 (by decide) 50 rfl
          have q52:ρ 52=.pointer (some (elemA A10 (kI .i64).n (IntKind.i64.wrap (s40.1 - (1:Int))).toNat)):=hS 16 (by decide) 52 rfl
          refine o_ostore2 (by first | exact hn148 | (simp only [List.length_set]; exact hn148)) (show ev ρ _=_ from q52) hO111_3 ha151.1 (hn148 ▸ ha151.2) (congrArg Value.cells q50) (vs:=[.int .i64 (nth s40.2 s40.1)]) sz_int rfl rfl (x:=(nth s40.2 s40.1)) (fun _ _=>rfl) rfl ?_
          intro w' F O
          exact eo_nil ⟨rfl,rfl,undef,rfl,F,O,trivial⟩
        ·intro ρ w111 F111 hI hS hρ
         have hO111_3:=hI
         obtain ⟨ρ',rfl⟩:∃ ρ',ρ=envs (ovr [37,38,39,40,41,42,43,44,45,46,47,48,49,50,51,52] ρ' _) []:=⟨ρ,ovr_self hρ trivial⟩
         have E221:Ext w w111:=Ext.st E100 F111 (upo (fun m hm=>Nat.le_trans lo3 ((O40r2.ex F46).lo m hm)) (fun m hm=>by cases hm))
         have G225:Fr (own (.slice A10 (List.replicate ((d0.length:Int)).toNat (0:Int)).length c11)++L) w36r w111:=Fr.stp (F40r.trans (Fr.ext F46)) F111 (upo (fun m hm=>.inl (List.mem_append_left _ hm)) (fun m hm=>by cases hm))
         refine blk_n ?_
         refine sq_n ?_
         refine ec_region ?_
         refine o_w (v:=.int .i64 s40.1) (r_mov rfl) ?_
         refine o_w (v:=.int .i64 (IntKind.i64.wrap (s40.1 - (1:Int)))) (r_int rfl rfl rfl) ?_
         refine o_w (v:=.int .i64 (IntKind.i64.wrap (s40.1 - (1:Int)))) (r_asg rfl) ?_
         refine eo_nil ?_
         subst h
         exact lq_n ⟨_,envs_self ⟨rfl,rfl,rfl,rfl,rfl,rfl,trivial⟩,rfl,G225,E221,hO111_3⟩
       ·replace h:=h.2 hc110
        refine ec_exit ?_
        refine sq_exit ?_
        subst h
        exact lq_x ⟨_,envs_self ⟨rfl,rfl,rfl,rfl,rfl,rfl,trivial⟩,rfl,(F40r.trans (Fr.ext F46)),E100,(O40r2.ex F46)⟩
     ·replace h:=h.2 hc44
      refine ec_any0 (by kernel_rfl) [[],[],[0,1],[0,1,2],[0,1,2,3],[0,1,2,3],[0,1,2,3],[0,1,2,3,5,6],[0,1,2,3,5,6,7],[0,1,2,3],[0,1,2,3],[0,1,2,3,10],[0,1,2,3,9,10,11],[0,1,2,3,9,10,11,12],[0,1,2,3,4,5,6,7,8,9,10,11,12,13],[0,1,2,3,4,5,6,7,8,9,10,11,12,13,14],[0,1,2,3,4,5,6,7,8,9,10,11,12,13,14,15]] [18,19,20,21,22,23,24,25,26,27,28,29,30,31,32,33,34] [fun v _=>v=(.int .i64 s40.1:Value),fun v _=>v=(.int .i64 0:Value),fun v _=>v=(.bool (decide (0<s40.1)):Value),fun v _=>v=(.bool (decide (0<s40.1)):Value),fun v _=>v=((undef:Value):Value),fun v _=>v=((undef:Value):Value),fun v _=>v=((undef:Value):Value),fun v _=>v=((undef:Value):Value),fun v _=>v=((undef:Value):Value),fun v _=>v=((undef:Value):Value),fun v _=>v=((undef:Value):Value),fun v _=>v=((undef:Value):Value),fun v _=>v=((undef:Value):Value),fun v _=>v=((undef:Value):Value),fun v _=>v=((undef:Value):Value),fun v _=>v=((undef:Value):Value),fun v _=>v=(.bool false:Value)] (by kernel_rfl) ⟨fun _ _ _ _ _ h=>h,fun _ _ _ _ _ h=>h,fun _ _ _ _ _ h=>h,fun _ _ _ _ _ h=>h,fun _ _ _ _ _ h=>h,fun _ _ _ _ _ h=>h,fun _ _ _ _ _ h=>h,fun _ _ _ _ _ h=>h,fun _ _ _ _ _ h=>h,fun _ _ _ _ _ h=>h,fun _ _ _ _ _ h=>h,fun _ _ _ _ _ h=>h,fun _ _ _ _ _ h=>h,fun _ _ _ _ _ h=>h,fun _ _ _ _ _ h=>h,fun _ _ _ _ _ h=>h,fun _ _ _ _ _ h=>h,trivial⟩ ?_ ?_
      ·refine ⟨?_,?_,?_,?_,?_,?_,?_,?_,?_,?_,?_,?_,?_,?_,?_,?_,?_,trivial⟩
       ·intro ρ w232o F232o hS hρ
        have q9:ρ 9=.int .i64 s40.1:=hρ 9 (by kernel_rfl)
        exact o_q (r_mov q9) ⟨Fr.refl _ _,rfl⟩
       ·intro ρ w232o F232o hS hρ
        have q1:ρ 1=.int .i64 0:=hρ 1 (by kernel_rfl)
        exact o_q (r_mov q1) ⟨Fr.refl _ _,rfl⟩
       ·intro ρ w232o F232o hS hρ
        have q18:ρ 18=.int .i64 s40.1:=hS 0 (by decide) 18 rfl
        have q19:ρ 19=.int .i64 0:=hS 1 (by decide) 19 rfl
        exact o_q (r_int q18 q19 rfl) ⟨Fr.refl _ _,rfl⟩
       ·intro ρ w232o F232o hS hρ
        have q20:ρ 20=.bool (decide (0<s40.1)):=hS 2 (by decide) 20 rfl
        exact o_q (r_mov q20) ⟨Fr.refl _ _,rfl⟩
       ·intro ρ w232o F232o hS hρ
        have q21:ρ 21=.bool (decide (0<s40.1)):=hS 3 (by decide) 21 rfl
        exact o_no (want_f (t:=21) rfl q21 hc44) rfl (eo_nil ⟨rfl,rfl,undef,rfl,Fr.refl _ _,rfl⟩)
       ·intro ρ w232o F232o hS hρ
        have q21:ρ 21=.bool (decide (0<s40.1)):=hS 3 (by decide) 21 rfl
        exact o_no (want_f (t:=21) rfl q21 hc44) rfl (eo_nil ⟨rfl,rfl,undef,rfl,Fr.refl _ _,rfl⟩)
       ·intro ρ w232o F232o hS hρ
        have q21:ρ 21=.bool (decide (0<s40.1)):=hS 3 (by decide) 21 rfl
        exact o_no (want_f (t:=21) rfl q21 hc44) rfl (eo_nil ⟨rfl,rfl,undef,rfl,Fr.refl _ _,rfl⟩)
       ·intro ρ w232o F232o hS hρ
        have q21:ρ 21=.bool (decide (0<s40.1)):=hS 3 (by decide) 21 rfl
        exact o_no (want_f (t:=21) rfl q21 hc44) rfl (eo_nil ⟨rfl,rfl,undef,rfl,Fr.refl _ _,rfl⟩)
       ·intro ρ w232o F232o hS hρ
        have q21:ρ 21=.bool (decide (0<s40.1)):=hS 3 (by decide) 21 rfl
        exact o_no (want_f (t:=21) rfl q21 hc44) rfl (eo_nil ⟨rfl,rfl,undef,rfl,Fr.refl _ _,rfl⟩)
       ·intro ρ w232o F232o hS hρ
        have q21:ρ 21=.bool (decide (0<s40.1)):=hS 3 (by decide) 21 rfl
        exact o_no (want_f (t:=21) rfl q21 hc44) rfl (eo_nil ⟨rfl,rfl,undef,rfl,Fr.refl _ _,rfl⟩)
       ·intro ρ w232o F232o hS hρ
        have q21:ρ 21=.bool (decide (0<s40.1)):=hS 3 (by decide) 21 rfl
        exact o_no (want_f (t:=21) rfl q21 hc44) rfl (eo_nil ⟨rfl,rfl,undef,rfl,Fr.refl _ _,rfl⟩)
       ·intro ρ w232o F232o hS hρ
        have q21:ρ 21=.bool (decide (0<s40.1)):=hS 3 (by decide) 21 rfl
        exact o_no (want_f (t:=21) rfl q21 hc44) rfl (eo_nil ⟨rfl,rfl,undef,rfl,Fr.refl _ _,rfl⟩)
       ·intro ρ w232o F232o hS hρ
        have q21:ρ 21=.bool (decide (0<s40.1)):=hS 3 (by decide) 21 rfl
        exact o_no (want_f (t:=21) rfl q21 hc44) rfl (eo_nil ⟨rfl,rfl,undef,rfl,Fr.refl _ _,rfl⟩)
       ·intro ρ w232o F232o hS hρ
        have q21:ρ 21=.bool (decide (0<s40.1)):=hS 3 (by decide) 21 rfl
        exact o_no (want_f (t:=21) rfl q21 hc44) rfl (eo_nil ⟨rfl,rfl,undef,rfl,Fr.refl _ _,rfl⟩)
       ·intro ρ w232o F232o hS hρ
        have q21:ρ 21=.bool (decide (0<s40.1)):=hS 3 (by decide) 21 rfl
        exact o_no (want_f (t:=21) rfl q21 hc44) rfl (eo_nil ⟨rfl,rfl,undef,rfl,Fr.refl _ _,rfl⟩)
       ·intro ρ w232o F232o hS hρ
        have q21:ρ 21=.bool (decide (0<s40.1)):=hS 3 (by decide) 21 rfl
        exact o_no (want_f (t:=21) rfl q21 hc44) rfl (eo_nil ⟨rfl,rfl,undef,rfl,Fr.refl _ _,rfl⟩)
       ·intro ρ w232o F232o hS hρ
        have q21:ρ 21=.bool (decide (0<s40.1)):=hS 3 (by decide) 21 rfl
        exact o_q (r_pickF q21 hc44 rfl) ⟨Fr.refl _ _,rfl⟩
      ·intro ρ w232 F232 hS hρ
       have q34:ρ 34=.bool false:=hS 16 34 rfl
       obtain ⟨ρ',rfl⟩:∃ ρ',ρ=envs (ovr [18,19,20,21,22,23,24,25,26,27,28,29,30,31,32,33,34] ρ' _) [(34,.bool false)]:=⟨ρ,ovr_self hρ ⟨q34,trivial⟩⟩
       have E233:=E40r.trans F232
       refine sq_n ?_
       refine ec_condF rfl rfl ?_
       refine ec_exit ?_
       refine sq_exit ?_
       subst h
       exact lq_x ⟨_,envs_self ⟨rfl,rfl,rfl,rfl,rfl,rfl,trivial⟩,rfl,(F40r.trans (Fr.ext F232)),E233,(O40r2.ex F232)⟩
    ·exact ⟨_,envs_self ⟨rfl,rfl,rfl,rfl,rfl,rfl,trivial⟩,rfl,(Fr.refl _ _),E36r,O36r2⟩
    ·rintro ρ40e ds40e w40e ⟨ρ40e,rfl,rfl,F40e,E40e,O40e2⟩
     have G241:Fr (own (.slice A10 (List.replicate ((d0.length:Int)).toNat (0:Int)).length c11)++L) w12e w40e:=F36r.stp F40e (upo (fun m hm=>Or.inl (List.mem_append_left _ hm)) (fun m hm=>Or.inl (List.mem_append_right _ hm)))
     refine blk_hit ?_
     refine blk_n ?_
     refine sq_n ?_
     refine ec_region ?_
     refine o_w (v:=.int .i64 s36.1) (r_mov rfl) ?_
     refine o_w (v:=.int .i64 (IntKind.i64.wrap (s36.1 + (1:Int)))) (r_int rfl rfl rfl) ?_
     refine o_w (v:=.int .i64 (IntKind.i64.wrap (s36.1 + (1:Int)))) (r_asg rfl) ?_
     refine eo_nil ?_
     subst h
     exact lq_n ⟨_,envs_self ⟨rfl,rfl,rfl,rfl,rfl,trivial⟩,rfl,G241,E40e,O40e2⟩
   ·replace h:=h.2 hc39
    refine ec_exit ?_
    refine sq_exit ?_
    subst h
    exact lq_x ⟨_,envs_self ⟨rfl,rfl,rfl,rfl,rfl,trivial⟩,rfl,F36r,E36r,O36r2⟩
  ·exact ⟨_,envs_self ⟨rfl,rfl,rfl,rfl,rfl,trivial⟩,rfl,(Fr.refl _ _),E12e,O12e2⟩
  ·rintro ρ36e ds36e w36e ⟨ρ36e,rfl,rfl,F36e,E36e,O36e2⟩
   refine blk_hit ?_
   refine end0 ⟨_,rfl,?_⟩
   refine eo_nil_sq ?_
   refine ec_block ?_
   refine ec_loop0 ?_
   refine ec_seq ?_
   refine ec_sr ?_
   refine o_w (v:=.int .i64 20) (r_mov rfl) ?_
   refine o_w (v:=.int .i64 ((List.replicate ((d0.length:Int)).toNat (0:Int)).length:Int)) (r_mov rfl) ?_
   refine o_w (v:=.bool (decide (20<((List.replicate ((d0.length:Int)).toNat (0:Int)).length:Int)))) (r_int rfl rfl rfl) ?_
   refine eo_nil_sq ?_
   obtain ⟨hc244,h⟩:=h
   refine ec_condF rfl hc244 ?_
   refine ec_exit ?_
   refine sq_exit ?_
   refine nn_exit ?_
   refine blk_hit ?_
   refine end0 ⟨_,rfl,?_⟩
   refine eo_nil ?_
   refine end0 ⟨_,rfl,?_⟩
   refine eo_r ?_
   refine o_w (v:=(.slice A10 (List.replicate ((d0.length:Int)).toNat (0:Int)).length c11)) (r_mov rfl) ?_
   refine o_w (v:=(.slice A10 (List.replicate ((d0.length:Int)).toNat (0:Int)).length c11)) (r_asg rfl) ?_
   refine eo_nil_sq ?_
   refine ec_ret ?_
   obtain ⟨hn248,H247⟩:=O36e2.stillAt
   try rw [← hn248]
   have Zw36e_249:=Fr.refl L w36e
   subst h
   exact (end1 rfl ⟨_,rfl,E36e,_,_,rfl,(H247.fr Zw36e_249 sI)⟩)
end Go.Proofs.Ythifkdgljapmeaa
