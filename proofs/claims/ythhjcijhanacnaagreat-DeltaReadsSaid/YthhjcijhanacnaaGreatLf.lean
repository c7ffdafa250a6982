/- Updates: what lives of an arena. -/
import Derived.Test.YthhjcijhanacnaaGreatLa
import Derived.Test.YthhjcijhanacnaaGreatWl
import Derived.Test.YthhjcijhanacnaaGreatEw
namespace Go.Proofs.YthhjcijhanacnaaGreat
open Go Go.RowKit
set_option linter.unusedVariables false
set_option linter.unusedSimpArgs false
def slices_IndexFunc_Entry_Scan_1_b1 (d0:(List Ent)) (s1:Int) (z1:(Int) ⊕ ((Int) ⊕ (Int))):Prop :=
 ((decide (s1<(d0.length:Int)))=true→((0≤s1∧s1<(d0.length:Int))∧(∃ x15,delta_Scan_1_raw (nth d0 s1) x15∧((x15=true→(z1=.inr (.inr s1)))∧(x15=false→(z1=.inl (IntKind.i64.wrap (s1 + (1:Int)))))))))∧((decide (s1<(d0.length:Int)))=false→(z1=.inr (.inl s1)))
def slices_IndexFunc_Entry_Scan_1_raw (d0:(List Ent)) (y:Int):Prop :=
 ∃ x1,LoopR (slices_IndexFunc_Entry_Scan_1_b1 d0) (0:Int) x1∧(∀ sx1,x1=.inl sx1→(y=(-1:Int)))∧(∀ y1,x1=.inr y1→(y=y1))
set_option maxRecDepth 20000 in
set_option maxHeartbeats 4000000 in
theorem slices_IndexFunc_Entry_Scan_1_c {L:List Nat} {w:World} {AP0:Option Addr} {cP0:Nat} (d0:(List Ent)) (HP0:Stb L w (fun w=>SlC kEnt w AP0 cP0 d0)) (hL:Lt L w) {y:Int} (h:slices_IndexFunc_Entry_Scan_1_raw d0 y) :
  Calls Tryz.prog 67 [.slice AP0 d0.length cP0,.func (.func 55) #[] #[]].toArray w (Ret fun v w'=>Ext w w'∧v=.int .i64 y):=by
 unfold slices_IndexFunc_Entry_Scan_1_raw at h
 refine calls_ec Tryz.func67 rfl rfl rfl ?_
 refine ec_seq ?_
 refine ec_region ?_
 refine o_w (v:=.int .i64 0) (r_asg rfl) ?_
 refine eo_nil_sq ?_
 iterate 2 refine ec_seq ?_
 refine ec_region ?_
 refine o_w (v:=.slice AP0 d0.length cP0) (r_mov rfl) ?_
 refine o_w (v:=.int .i64 (d0.length:Int)) (r_len_slc un_s_api_Entry rfl) ?_
 refine o_w (v:=.int .i64 0) (r_mov rfl) ?_
 refine eo_nil_sq ?_
 refine ec_block ?_
 obtain ⟨x1,hl1,h⟩:=h
 refine ec_loopER 0 (I:=(fun (s1:Int) ρ ds w'=>∃ (ρ':Env),ρ=envs ρ' [(8,.int .i64 s1),(0,.slice AP0 d0.length cP0),(1,.func (.func 55) #[] #[]),(7,.int .i64 (d0.length:Int))]∧ds=[]∧Fr L w w'∧Ext w w')) (J:=(fun (y':Int) ρ ds wz=>bodyE Tryz.prog #[.tmp 4] (Ret fun v w'=>Ext w w'∧v=.int .i64 y') .ret ρ ds wz)) ?_ hl1 ?_ ?_ ?_
 ·intro s1 z1 ρ1 ds1 w1r hI1 hb1
  obtain ⟨ρ1r,rfl,rfl,F1r,E1r⟩:=hI1
  have h:=hb1
  unfold slices_IndexFunc_Entry_Scan_1_b1 at h
  have G2:Fr L w w1r:=(Fr.refl _ _).stp F1r (fun _ h=>.inl h)
  refine ec_seq ?_
  refine ec_region ?_
  refine o_w (v:=.bool (decide (s1<(d0.length:Int)))) (r_int rfl rfl rfl) ?_
  refine eo_nil_sq ?_
  refine ec_seq ?_
  refine ec_cond rfl (fun hc3=>?_) (fun hc3=>?_)
  ·replace h:=h.1 hc3
   refine ec_skip ?_
   refine sq_n ?_
   refine ec_seq ?_
   refine ec_block ?_
   refine ec_seq ?_
   refine ec_region ?_
   refine o_w (v:=.int .i64 s1) (r_mov rfl) ?_
   refine o_w (v:=.int .i64 s1) (r_asg rfl) ?_
   refine eo_nil_sq ?_
   refine ec_seq ?_
   refine ec_region ?_
   refine o_w (v:=.func (.func 55) #[] #[]) (r_mov rfl) ?_
   refine o_w (v:=.slice AP0 d0.length cP0) (r_mov rfl) ?_
   refine o_w (v:=.int .i64 s1) (r_mov rfl) ?_
   obtain ⟨ha4,h⟩:=h
   obtain ⟨cs5,l7,H6⟩:=Stb.elem (by decide) (HP0.fr G2 sI) s1 ha4.1 ha4.2
   obtain ⟨A9,c10,A12,c13,rfl,H8,H11,H14⟩:=kEnt_open2 H6
   refine o_w (v:=.pointer (some (elemA AP0 kEnt.n s1.toNat))) (r_ia slc_s_api_Entry rfl rfl ((HP0.fr G2 sI).now.2 _ (lt_toNat ha4.1 ha4.2)).1 ha4.1 ha4.2) ?_
   refine o_w (v:=.agg (cEnt (nth d0 s1) A9 c10 A12 c13).toArray) (r_lda' agg_api_Entry rfl (elemA_spot _ _ _) (vs:=(cEnt (nth d0 s1) A9 c10 A12 c13)) rfl (H8.now.1)) ?_
   obtain ⟨x15,hx15,h⟩:=h
   refine o_callv cf_delta_Scan_1 rfl rfl (delta_Scan_1_c (nth d0 s1) (kEnt_mk (d:=(nth d0 s1)) H11 H14) (hL.fr E1r) hx15) rfl rfl ?_
   rintro _ w15 ⟨F15,rfl⟩
   have E16:=E1r.trans F15
   refine eo_nil_sq ?_
   refine ec_cond rfl (fun hc20=>?_) (fun hc20=>?_)
   ·replace h:=h.1 hc20
    refine ec_seq ?_
    refine ec_region ?_
    refine o_w (v:=.int .i64 s1) (r_mov rfl) ?_
    refine o_w (v:=.int .i64 s1) (r_asg rfl) ?_
    refine eo_nil_sq ?_
    refine ec_ret ?_
    refine blk_ret ?_
    refine sq_ret ?_
    subst h
    exact lqR_r (end1 rfl ⟨_,rfl,E16,rfl⟩)
   ·replace h:=h.2 hc20
    refine ec_skip ?_
    refine blk_n ?_
    refine sq_n ?_
    refine ec_region ?_
    refine o_w (v:=.int .i64 (IntKind.i64.wrap (s1 + (1:Int)))) (r_int rfl rfl rfl) ?_
    refine o_w (v:=.int .i64 (IntKind.i64.wrap (s1 + (1:Int)))) (r_mov rfl) ?_
    refine eo_nil ?_
    subst h
    exact lqR_n ⟨_,envs_self ⟨rfl,rfl,rfl,rfl,trivial⟩,rfl,(F1r.trans (Fr.ext F15)),E16⟩
  ·replace h:=h.2 hc3
   refine ec_exit ?_
   refine sq_exit ?_
   subst h
   exact lqR_x ⟨_,envs_self ⟨rfl,rfl,rfl,rfl,trivial⟩,rfl,F1r,E1r⟩
 ·exact ⟨_,envs_self ⟨rfl,rfl,rfl,rfl,trivial⟩,rfl,(Fr.refl _ _),(Fr.refl _ _)⟩
 ·rintro sx1 rfl ρ1e ds1e w1e ⟨ρ1e,rfl,rfl,F1e,E1e⟩
  replace h:=h.1 _ rfl
  refine blk_hit ?_
  refine sq_n ?_
  refine ec_seq ?_
  refine ec_region ?_
  refine o_w (v:=.int .i64 (-1:Int)) (r_asg rfl) ?_
  refine eo_nil_sq ?_
  refine ec_ret ?_
  subst h
  exact (end1 rfl ⟨_,rfl,E1e,rfl⟩)
 ·rintro y1 rfl ρ1q ds1q w1q hJ
  have hy:=h.2 _ rfl
  subst hy
  refine blk_ret ?_
  refine sq_ret ?_
  exact hJ
def arena_AllO_b15 (d0:Arena) (s15:List Ent × Int) (z15:(List Ent × Int) ⊕ (List Ent × Int)):Prop :=
 ((decide (s15.2<(d0.idx.length:Int)))=true→((0≤s15.2∧s15.2<(d0.idx.length:Int))∧((0≤(nth d0.idx s15.2)∧(nth d0.idx s15.2)<(d0.slots.length:Int))∧((s15.1.length + 1≤9223372036854775807∧(s15.1.length + 1) * 120≤140737488355328)∧(z15=.inl ((s15.1++([(nth d0.slots (nth d0.idx s15.2))]:List Ent)),(IntKind.i64.wrap (s15.2 + (1:Int)))))))))∧((decide (s15.2<(d0.idx.length:Int)))=false→(z15=.inr (s15.1,s15.2)))
def arena_AllO_raw (d0:Arena) (y:(List Ent)):Prop :=
 (sma d0)∧((((checkA d0) != (0:Int))=true→(y=([]:List Ent)))∧(((checkA d0) != (0:Int))=false→(∃ x15,LoopR (arena_AllO_b15 d0) (([]:List Ent),(0:Int)) x15∧(y=x15.1))))
set_option maxRecDepth 20000 in
set_option maxHeartbeats 4000000 in
theorem arena_AllO_c {L:List Nat} {w:World} {csP0:List Value} (d0:Arena) (HP0:Stb L w (fun w=>kArena.r w csP0 d0)) (hL:Lt L w) {y:(List Ent)} (h:arena_AllO_raw d0 y) :
  Calls Tryz.prog 54 [.agg csP0.toArray].toArray w (Ret fun v w'=>Ext w w'∧OwnS kEnt w.heap.size 32 L w' v y∧(∀ q∈own v,w.heap.size≤q)):=by
 obtain ⟨A1,c2,A4,c5,rfl,H3,H6⟩:=kArena_open HP0
 have hL0:=hL
 unfold arena_AllO_raw at h
 refine calls_ec Tryz.func54 rfl rfl rfl ?_
 refine ec_seq ?_
 refine ec_region ?_
 refine o_box (cs:=(cArena d0 A1 c2 A4 c5)) rfl rfl rfl ?_
 intro b7 w7 e7 F7 B7
 have S7:=B7.stb (nin hL e7)
 have G8:Fr L w w7:=Fr.ext F7
 refine o_w (v:=.slice none ([]:List Ent).length 0) (r_asg rfl) ?_
 refine eo_nil_sq ?_
 refine ec_seq ?_
 refine ec_region ?_
 refine o_w (v:=.slice none ([]:List Ent).length 0) (r_asg rfl) ?_
 refine eo_nil_sq ?_
 iterate 2 refine ec_seq ?_
 refine ec_region ?_
 refine o_w (v:=.agg (cArena d0 A1 c2 A4 c5).toArray) (r_lda agg_api_Arena rfl (vs:=(cArena d0 A1 c2 A4 c5)) rfl (S7.now.part (n:=3) rfl)) ?_
 obtain ⟨ha10,h⟩:=h
 refine o_call cf_arena_Check rfl (arena_Check_c d0 (kArena_mk (d:=d0) (H3.fr G8 sI) (H6.fr G8 sI)) (hL.fr F7) (arCheck_ev d0 ha10)) rfl rfl ?_
 rintro _ w9 ⟨F9,rfl⟩
 have E11:=F7.trans F9
 have G13:Fr L w7 w9:=Fr.ext F9
 refine o_w (v:=.bool ((checkA d0) != (0:Int))) (r_int rfl rfl rfl) ?_
 refine eo_nil_sq ?_
 refine ec_cond rfl (fun hc14=>?_) (fun hc14=>?_)
 ·replace h:=h.1 hc14
  refine ec_seq ?_
  refine ec_region ?_
  refine o_w (v:=.slice none ([]:List Ent).length 0) (r_asg rfl) ?_
  refine eo_nil_sq ?_
  refine ec_ret ?_
  refine sq_ret ?_
  subst h
  exact (end1 rfl ⟨_,rfl,E11,(OwnS.nil (by decide) (hL0.fr E11)).mono E11.size hL0,fun q hq=>by cases hq⟩)
 ·replace h:=h.2 hc14
  refine ec_skip ?_
  refine sq_n ?_
  iterate 2 refine ec_seq ?_
  refine ec_region ?_
  refine o_w (v:=.pointer (some ⟨b7,2,none⟩)) (r_fa fld_api_Arena_2 rfl rfl) ?_
  refine o_w (v:=.slice A4 d0.idx.length c5) (r_ld one_s_int rfl ((S7.fr G13 sI).now.cell rfl)) ?_
  refine o_w (v:=.int .i64 (d0.idx.length:Int)) (r_len_slc un_s_int rfl) ?_
  refine o_w (v:=.int .i64 0) (r_mov rfl) ?_
  refine eo_nil_sq ?_
  refine ec_block ?_
  have lo16:w.heap.size≤w9.heap.size:=E11.size
  have O16:=OwnS.nil (k:=kEnt) (e:=32) (by decide) (hL.fr E11)
  obtain ⟨x15,hl15,h⟩:=h
  refine ec_loopE 0 (I:=(fun (s15:List Ent × Int) ρ ds w'=>∃ (ρ':Env) (v15i1:Value),ρ=envs ρ' [(3,v15i1),(12,.int .i64 s15.2),(1,.pointer (some ⟨b7,0,none⟩)),(10,.slice A4 d0.idx.length c5),(11,.int .i64 (d0.idx.length:Int))]∧ds=[]∧Fr (own (.slice none 0 0)++L) w9 w'∧Ext w w'∧OwnS kEnt (w9.heap.size) 32 L w' v15i1 s15.1∧(∀ q∈own v15i1,q∈(own (.slice none 0 0)++L)∨w9.heap.size≤q))) ?_ hl15 ?_ ?_
  ·intro s15 z15 ρ15 ds15 w15r hI15 hb15
   obtain ⟨ρ15r,v15r1,rfl,rfl,F15r,E15r,O15r1,N15r1⟩:=hI15
   have h:=hb15
   unfold arena_AllO_b15 at h
   have G17:Fr L w w15r:=(G8.trans (Fr.ext F9)).stp F15r (upo (fun m hm=>by cases hm) (fun _ h=>.inl h))
   have G18:Fr L w7 w15r:=G13.stp F15r (upo (fun m hm=>by cases hm) (fun _ h=>.inl h))
   have P19:∀ m∈own v15r1,m∈L∨w.heap.size≤m:=fun m hm=>(N15r1 m hm).elim (fun h=>(show ∀ m∈(own (.slice none 0 0)++L),m∈L∨w.heap.size≤m from (upo (fun m hm=>by cases hm) (fun _ h=>.inl h))) m h) (fun h=>.inr (Nat.le_trans ((G8.trans (Fr.ext F9)).size) h))
   refine ec_seq ?_
   refine ec_region ?_
   refine o_w (v:=.bool (decide (s15.2<(d0.idx.length:Int)))) (r_int rfl rfl rfl) ?_
   refine eo_nil_sq ?_
   refine ec_seq ?_
   refine ec_cond rfl (fun hc21=>?_) (fun hc21=>?_)
   ·replace h:=h.1 hc21
    refine ec_skip ?_
    refine sq_n ?_
    refine ec_seq ?_
    refine ec_block ?_
    refine ec_seq ?_
    refine ec_region ?_
    obtain ⟨ha22,h⟩:=h
    obtain ⟨cs23,l25,H24⟩:=Stb.elem (by decide) (H6.up G17 sI (upo P19 (fun _ h=>.inl h))) s15.2 ha22.1 ha22.2
    obtain ⟨rfl,H24'⟩:=kI_open2 H24
    refine o_w (v:=.pointer (some (elemA A4 (kI .i64).n s15.2.toNat))) (r_ia slc_s_int rfl rfl ((H6.fr G17 sI).now.2 _ (lt_toNat ha22.1 ha22.2)).1 ha22.1 ha22.2) ?_
    refine o_w (v:=.int .i64 (nth d0.idx s15.2)) (r_ld' one_int rfl (elemA_spot _ _ _) (H24'.now.1.at0 (elemA_spot _ _ _))) ?_
    refine o_w (v:=.int .i64 (nth d0.idx s15.2)) (r_asg rfl) ?_
    refine eo_nil_sq ?_
    refine ec_region ?_
    refine o_w (v:=v15r1) (r_mov rfl) ?_
    refine o_w (v:=.pointer (some ⟨b7,1,none⟩)) (r_fa fld_api_Arena_1 rfl rfl) ?_
    refine o_w (v:=.slice A1 d0.slots.length c2) (r_ld one_s_api_Entry rfl ((S7.fr G18 sI).now.cell rfl)) ?_
    refine o_w (v:=.int .i64 (nth d0.idx s15.2)) (r_mov rfl) ?_
    obtain ⟨ha26,h⟩:=h
    obtain ⟨cs27,l29,H28⟩:=Stb.elem (by decide) (H3.up G17 sI (upo P19 (fun _ h=>.inl h))) (nth d0.idx s15.2) ha26.1 ha26.2
    obtain ⟨A31,c32,A34,c35,rfl,H30,H33,H36⟩:=kEnt_open2 H28
    refine o_w (v:=.pointer (some (elemA A1 kEnt.n (nth d0.idx s15.2).toNat))) (r_ia slc_s_api_Entry rfl rfl ((H3.fr G17 sI).now.2 _ (lt_toNat ha26.1 ha26.2)).1 ha26.1 ha26.2) ?_
    refine o_w (v:=.agg (cEnt (nth d0.slots (nth d0.idx s15.2)) A31 c32 A34 c35).toArray) (r_lda' agg_api_Entry rfl (elemA_spot _ _ _) (vs:=(cEnt (nth d0.slots (nth d0.idx s15.2)) A31 c32 A34 c35)) rfl (H30.now.1)) ?_
    refine o_bslice slc_s_api_Entry rfl (vs:=[.agg (cEnt (nth d0.slots (nth d0.idx s15.2)) A31 c32 A34 c35).toArray]) rfl rfl rfl (cs:=[str ((nth d0.slots (nth d0.idx s15.2)).key),.int .i64 (((nth d0.slots (nth d0.idx s15.2)).val).kind),.int .i64 (((nth d0.slots (nth d0.idx s15.2)).val).time),.int .i64 (((nth d0.slots (nth d0.idx s15.2)).val).node),.bool (((nth d0.slots (nth d0.idx s15.2)).val).dead),str (((nth d0.slots (nth d0.idx s15.2)).val).text),.slice A31 (((nth d0.slots (nth d0.idx s15.2)).val).plus).length c32,.slice A34 (((nth d0.slots (nth d0.idx s15.2)).val).minus).length c35,.int .u64 (((nth d0.slots (nth d0.idx s15.2)).val).flags)]) rfl rfl rfl rfl ?_
    intro b37 w37 e37 F37 B37
    have N37:=nin ((hL.fr E15r).own O15r1) e37
    have S37:=B37.stb N37
    have E38:=E15r.trans F37
    have G42:Fr (own v15r1++L) w15r w37:=Fr.ext F37
    obtain ⟨ha45,h⟩:=h
    refine o_app slc_s_api_Entry rfl rfl rfl (O15r1.ex F37) rfl S37.now (ys:=([(nth d0.slots (nth d0.idx s15.2))]:List Ent)) rfl rfl rfl (rowd1 (cs:=(cEnt (nth d0.slots (nth d0.idx s15.2)) A31 c32 A34 c35)) (kEnt_mk (d:=(nth d0.slots (nth d0.idx s15.2))) (H33.fr G42 sI) (H36.fr G42 sI)) rfl) ha45 rfl rfl ?_
    intro v44 w44 F44 O44 N44
    have P48:∀ m∈own v44,m∈(own (.slice none 0 0)++L)∨w9.heap.size≤m:=fun m hm=>(N44 m hm).elim (fun h=>(show ∀ m∈own v15r1,m∈(own (.slice none 0 0)++L)∨w9.heap.size≤m from N15r1) m h) (fun h=>.inr (Nat.le_trans ((F15r.trans (Fr.ext F37)).size) h))
    have E51:=Ext.st E38 F44 (fun m hm=>Nat.le_trans lo16 ((O15r1.ex F37).lo m hm))
    have G54:Fr (own (.slice none 0 0)++L) w9 w44:=(F15r.trans (Fr.ext F37)).stp F44 N15r1
    refine o_w (v:=v44) (r_asg rfl) ?_
    refine eo_nil ?_
    refine blk_n ?_
    refine sq_n ?_
    refine ec_region ?_
    refine o_w (v:=.int .i64 (IntKind.i64.wrap (s15.2 + (1:Int)))) (r_int rfl rfl rfl) ?_
    refine o_w (v:=.int .i64 (IntKind.i64.wrap (s15.2 + (1:Int)))) (r_mov rfl) ?_
    refine eo_nil ?_
    subst h
    exact lq_n ⟨_,v44,envs_self ⟨rfl,rfl,rfl,rfl,rfl,trivial⟩,rfl,G54,E51,O44,P48⟩
   ·replace h:=h.2 hc21
    refine ec_exit ?_
    refine sq_exit ?_
    subst h
    exact lq_x ⟨_,v15r1,envs_self ⟨rfl,rfl,rfl,rfl,rfl,trivial⟩,rfl,F15r,E15r,O15r1,N15r1⟩
  ·exact ⟨_,(.slice none 0 0),envs_self ⟨rfl,rfl,rfl,rfl,rfl,trivial⟩,rfl,(Fr.refl _ _),E11,O16,(fun q hq=>.inl (by first | exact List.mem_append_left _ hq | simp [hq]))⟩
  ·rintro ρ15e ds15e w15e ⟨ρ15e,v15e1,rfl,rfl,F15e,E15e,O15e1,N15e1⟩
   refine blk_hit ?_
   refine sq_n ?_
   refine ec_seq ?_
   refine ec_region ?_
   refine o_w (v:=v15e1) (r_mov rfl) ?_
   refine o_w (v:=v15e1) (r_asg rfl) ?_
   refine eo_nil_sq ?_
   refine ec_ret ?_
   subst h
   exact (end1 rfl ⟨_,rfl,E15e,(O15e1.weak (by simp)).mono lo16 hL0,fun q hq=>Nat.le_trans lo16 (O15e1.lo q hq)⟩)
def slices_DeleteFunc_Entry_Scan_1_b15 (d0:(List Ent)) (s15:Int × Int × List Ent) (z15:(Int × Int × List Ent) ⊕ (Int × Int × List Ent)):Prop :=
 ((decide (s15.2.1<(d0.length:Int)))=true→((0≤s15.2.1∧s15.2.1<(s15.2.2.length:Int))∧(∃ x51,delta_Scan_1_raw (nth s15.2.2 s15.2.1) x51∧(((!x51)=true→((0≤s15.1∧s15.1<(s15.2.2.length:Int))∧(z15=.inl ((IntKind.i64.wrap (s15.1 + (1:Int))),(IntKind.i64.wrap (s15.2.1 + (1:Int))),(s15.2.2.set s15.1.toNat (nth s15.2.2 s15.2.1))))))∧((!x51)=false→(z15=.inl (s15.1,(IntKind.i64.wrap (s15.2.1 + (1:Int))),s15.2.2)))))))∧((decide (s15.2.1<(d0.length:Int)))=false→(z15=.inr (s15.1,s15.2.1,s15.2.2)))
def slices_DeleteFunc_Entry_Scan_1_raw (d0:(List Ent)) (y:(List Ent)):Prop :=
 ∃ x3,slices_IndexFunc_Entry_Scan_1_raw d0 x3∧(((x3==(-1:Int))=true→(y=d0))∧((x3==(-1:Int))=false→(∃ x15,LoopR (slices_DeleteFunc_Entry_Scan_1_b15 d0) (x3,(IntKind.i64.wrap (x3 + (1:Int))),d0) x15∧((0≤x15.1∧x15.1≤(x15.2.2.length:Int))∧((0≤(0:Int)∧(0:Int)≤x15.1∧x15.1≤((x15.2.2.take x15.1.toNat++List.replicate (d0.length - x15.1.toNat) (⟨([]:Str),(⟨(0:Int),(0:Int),(0:Int),false,([]:Str),([]:List Int),([]:List Int),(0:Int)⟩:Val)⟩:Ent)).length:Int))∧(y=(cutL (x15.2.2.take x15.1.toNat++List.replicate (d0.length - x15.1.toNat) (⟨([]:Str),(⟨(0:Int),(0:Int),(0:Int),false,([]:Str),([]:List Int),([]:List Int),(0:Int)⟩:Val)⟩:Ent)) (0:Int) x15.1)))))))
set_option maxRecDepth 20000 in
set_option maxHeartbeats 4000000 in
theorem slices_DeleteFunc_Entry_Scan_1_c {L:List Nat} {w:World} {wS:World} (ES:Ext w wS) {vP0:Value} (d0:(List Ent)) (OP0:OwnS kEnt w.heap.size 32 L wS vP0 d0) (hL:Lt L w) {y:(List Ent)} (h:slices_DeleteFunc_Entry_Scan_1_raw d0 y) :
  Calls Tryz.prog 53 [vP0,.func (.func 55) #[] #[]].toArray wS (Ret fun v w'=>Ext w w'∧∃ (A90:Option Addr) (c90:Nat),v=.slice A90 (y).length c90∧Stb L w' (fun w=>SlC kEnt w A90 c90 y)):=by
 obtain ⟨A1,c2,rfl⟩:=OP0.shape
 unfold slices_DeleteFunc_Entry_Scan_1_raw at h
 refine calls_ec Tryz.func53 rfl rfl rfl ?_
 refine ec_seq ?_
 refine ec_region ?_
 refine o_w (v:=.slice none ([]:List Ent).length 0) (r_asg rfl) ?_
 refine eo_nil_sq ?_
 refine ec_seq ?_
 refine ec_region ?_
 refine o_w (v:=(.slice A1 d0.length c2)) (r_mov rfl) ?_
 refine o_w (v:=.func (.func 55) #[] #[]) (r_mov rfl) ?_
 obtain ⟨hn5,H4⟩:=OP0.stillAt
 have Zanc6:=Fr.refl L wS
 obtain ⟨x3,hx3,h⟩:=h
 refine o_call cf_slices_IndexFunc_Entry rfl (slices_IndexFunc_Entry_Scan_1_c d0 (H4.fr Zanc6 sI) (hL.fr ES) hx3) rfl rfl ?_
 rintro _ w3 ⟨F3,rfl⟩
 have E7:=ES.trans F3
 refine o_w (v:=.int .i64 x3) (r_asg rfl) ?_
 refine eo_nil_sq ?_
 iterate 2 refine ec_seq ?_
 refine ec_region ?_
 refine o_w (v:=.int .i64 x3) (r_mov rfl) ?_
 refine o_w (v:=.bool (x3==(-1:Int))) (r_int rfl rfl rfl) ?_
 refine eo_nil_sq ?_
 refine ec_cond rfl (fun hc9=>?_) (fun hc9=>?_)
 ·replace h:=h.1 hc9
  refine ec_seq ?_
  refine ec_region ?_
  refine o_w (v:=(.slice A1 d0.length c2)) (r_mov rfl) ?_
  refine o_w (v:=(.slice A1 d0.length c2)) (r_asg rfl) ?_
  refine eo_nil_sq ?_
  refine ec_ret ?_
  refine sq_ret ?_
  obtain ⟨A10,c11,eA10,H12⟩:=(OP0.ex F3).still
  cases eA10
  have Zw3_13:=Fr.refl L w3
  replace h:=h.symm
  subst h
  exact (end1 rfl ⟨_,rfl,E7,_,_,rfl,(H12.fr Zw3_13 sI)⟩)
 ·replace h:=h.2 hc9
  refine ec_skip ?_
  refine sq_n ?_
  iterate 2 refine ec_seq ?_
  refine ec_region ?_
  refine o_w (v:=.int .i64 x3) (r_mov rfl) ?_
  refine o_w (v:=.int .i64 (IntKind.i64.wrap (x3 + (1:Int)))) (r_int rfl rfl rfl) ?_
  refine o_w (v:=.int .i64 (IntKind.i64.wrap (x3 + (1:Int)))) (r_asg rfl) ?_
  refine eo_nil_sq ?_
  refine ec_block ?_
  obtain ⟨x15,hl15,h⟩:=h
  refine ec_loopE 0 (I:=(fun (s15:Int × Int × List Ent) ρ ds w'=>∃ (ρ':Env),ρ=envs ρ' [(5,.int .i64 s15.1),(6,.int .i64 s15.2.1),(0,(.slice A1 d0.length c2)),(1,.func (.func 55) #[] #[])]∧ds=[]∧Fr (own (.slice A1 d0.length c2)++L) w3 w'∧Ext w w'∧OwnS kEnt (w.heap.size) 32 L w' (.slice A1 d0.length c2) s15.2.2)) ?_ hl15 ?_ ?_
  ·intro s15 z15 ρ15 ds15 w15r hI15 hb15
   obtain ⟨ρ15r,rfl,rfl,F15r,E15r,O15r3⟩:=hI15
   have h:=hb15
   unfold slices_DeleteFunc_Entry_Scan_1_b15 at h
   iterate 2 refine ec_seq ?_
   refine ec_region ?_
   refine o_w (v:=.int .i64 s15.2.1) (r_mov rfl) ?_
   refine o_w (v:=(.slice A1 d0.length c2)) (r_mov rfl) ?_
   refine o_w (v:=.int .i64 (d0.length:Int)) (r_len_slc un_s_api_Entry rfl) ?_
   refine o_w (v:=.bool (decide (s15.2.1<(d0.length:Int)))) (r_int rfl rfl rfl) ?_
   refine eo_nil_sq ?_
   refine ec_cond rfl (fun hc16=>?_) (fun hc16=>?_)
   ·replace h:=h.1 hc16
    refine ec_skip ?_
    refine sq_n ?_
    refine ec_seq ?_
    refine ec_block ?_
    refine ec_seq ?_
    refine ec_region ?_
    refine o_w (v:=(.slice A1 d0.length c2)) (r_mov rfl) ?_
    refine o_w (v:=.int .i64 s15.2.1) (r_mov rfl) ?_
    obtain ⟨hn20,H19⟩:=O15r3.stillAt
    have Zanc21:=Fr.refl L w15r
    have Zanc22:=Fr.refl (own (.slice A1 d0.length c2)++L) w15r
    obtain ⟨ha23,h⟩:=h
    obtain ⟨cs24,l26,H27,H28⟩:=O15r3.elemAt s15.2.1 ha23.1 ha23.2
    obtain ⟨A29,c30,A32,c33,rfl,H31,H34⟩:=kEnt_open H28
    refine o_w (r_ia slc_s_api_Entry rfl rfl ((H19.fr Zanc21 sI).now.2 _ (lt_toNat ha23.1 ha23.2)).1 ha23.1 (hn20 ▸ ha23.2)) ?_
    refine o_w (v:=.agg (cEnt (nth s15.2.2 s15.2.1) A29 c30 A32 c33).toArray) (r_lda' agg_api_Entry rfl (elemA_spot _ _ _) (vs:=(cEnt (nth s15.2.2 s15.2.1) A29 c30 A32 c33)) rfl ((H27.fr Zanc21 sI).now.1)) ?_
    refine o_alloc zero_api_Entry rfl rfl rfl ?_
    intro b35 w35 e35 F35 B35
    have n35:w.heap.size≤b35:=by rw [e35]; exact E15r.size
    have m36:w3.heap.size≤b35:=by rw [e35]; exact F15r.size
    have m38:w15r.heap.size≤b35:=by rw [e35]; exact Zanc22.size
    have Ob39:=O15r3.born F35 (Nat.le_of_eq e35.symm) B35.lt
    have E40:=E15r.trans F35
    refine o_store rfl B35 (vs:=(cEnt (nth s15.2.2 s15.2.1) A29 c30 A32 c33)) rfl sz_api_Entry rfl rfl rfl ?_
    intro w45 F45 B45
    have E46:=Ext.st E40 F45 (by simp; omega)
    have G47:Fr (own (.slice A1 d0.length c2)++L) w3 w45:=(F15r.trans (Fr.ext F35)).stp F45 (upc (.inr m36) (fun m hm=>by cases hm))
    have G49:Fr (own (.slice A1 d0.length c2)++L) w15r w45:=(Zanc22.trans (Fr.ext F35)).stp F45 (upc (.inr m38) (fun m hm=>by cases hm))
    have O50:=Ob39.fr F45 (by simp)
    have B45':Blk w45 b35 _ (cEnt (nth s15.2.2 s15.2.1) A29 c30 A32 c33):=B45
    refine eo_nil_sq ?_
    refine ec_seq ?_
    refine ec_region ?_
    refine o_w (v:=.func (.func 55) #[] #[]) (r_mov rfl) ?_
    refine o_w (v:=.agg (cEnt (nth s15.2.2 s15.2.1) A29 c30 A32 c33).toArray) (r_lda agg_api_Entry rfl (vs:=(cEnt (nth s15.2.2 s15.2.1) A29 c30 A32 c33)) rfl (B45'.part (n:=9) rfl)) ?_
    obtain ⟨x51,hx51,h⟩:=h
    refine o_callv cf_delta_Scan_1 rfl rfl (delta_Scan_1_c (nth s15.2.2 s15.2.1) (kEnt_mk (d:=(nth s15.2.2 s15.2.1)) (H31.up G49 sI (upc (.inr m38) (upo (fun m hm=>Or.inl (List.mem_append_left _ hm)) (fun m hm=>Or.inl (List.mem_append_right _ hm))))) (H34.up G49 sI (upc (.inr m38) (upo (fun m hm=>Or.inl (List.mem_append_left _ hm)) (fun m hm=>Or.inl (List.mem_append_right _ hm)))))) (((hL.fr E46).own O50).cons B45'.lt) hx51) rfl rfl ?_
    rintro _ w51 ⟨F51,rfl⟩
    have E52:=E46.trans F51
    refine o_w (v:=.bool (!x51)) (r_not rfl) ?_
    refine eo_nil_sq ?_
    refine ec_cond rfl (fun hc58=>?_) (fun hc58=>?_)
    ·replace h:=h.1 hc58
     refine ec_seq ?_
     refine ec_region ?_
     refine o_w (v:=(.slice A1 d0.length c2)) (r_mov rfl) ?_
     refine o_w (v:=.int .i64 s15.1) (r_mov rfl) ?_
     refine o_w (v:=.agg (cEnt (nth s15.2.2 s15.2.1) A29 c30 A32 c33).toArray) (r_lda agg_api_Entry rfl (vs:=(cEnt (nth s15.2.2 s15.2.1) A29 c30 A32 c33)) rfl ((B45'.ex F51).part (n:=9) rfl)) ?_
     obtain ⟨hn62,H61⟩:=(O50.ex F51).stillAt
     have Zanc63:=Fr.refl (b35::L) w51
     obtain ⟨ha65,h⟩:=h
     obtain ⟨cs66,l68,H69,H70⟩:=(O50.ex F51).elemAt s15.1 ha65.1 ha65.2
     obtain ⟨A71,c72,A74,c75,rfl,H73,H76⟩:=kEnt_open H70
     refine o_w (r_ia slc_s_api_Entry rfl rfl ((H61.fr Zanc63 sI).now.2 _ (lt_toNat ha65.1 ha65.2)).1 ha65.1 (hn62 ▸ ha65.2)) ?_
     refine o_ostore2 (by first | exact hn62 | (simp only [List.length_set]; exact hn62)) rfl (O50.ex F51) ha65.1 (hn62 ▸ ha65.2) rfl (vs:=[str ((nth s15.2.2 s15.2.1).key),.int .i64 (((nth s15.2.2 s15.2.1).val).kind),.int .i64 (((nth s15.2.2 s15.2.1).val).time),.int .i64 (((nth s15.2.2 s15.2.1).val).node),.bool (((nth s15.2.2 s15.2.1).val).dead),str (((nth s15.2.2 s15.2.1).val).text),.slice A29 (((nth s15.2.2 s15.2.1).val).plus).length c30,.slice A32 (((nth s15.2.2 s15.2.1).val).minus).length c33,.int .u64 (((nth s15.2.2 s15.2.1).val).flags)]) sz_api_Entry rfl rfl (x:=(nth s15.2.2 s15.2.1)) (kEnt_mk (d:=(nth s15.2.2 s15.2.1)) (H31.up (G49.trans (Fr.ext F51)) sI (upo (fun m hm=>Or.inl (List.mem_append_left _ hm)) (upc (.inr m38) (fun m hm=>Or.inl (List.mem_append_right _ hm))))) (H34.up (G49.trans (Fr.ext F51)) sI (upo (fun m hm=>Or.inl (List.mem_append_left _ hm)) (upc (.inr m38) (fun m hm=>Or.inl (List.mem_append_right _ hm)))))) rfl ?_
     intro w77 F77 O77
     have E78:=Ext.st E52 F77 (fun m hm=>Nat.le_trans (Nat.le_refl _) ((O50.ex F51).lo m hm))
     have G79:Fr (own (.slice A1 d0.length c2)++L) w3 w77:=(G47.trans (Fr.ext F51)).stp F77 (fun m hm=>.inl (List.mem_append_left _ hm))
     refine eo_nil_sq ?_
     refine ec_region ?_
     refine o_w (v:=.int .i64 s15.1) (r_mov rfl) ?_
     refine o_w (v:=.int .i64 (IntKind.i64.wrap (s15.1 + (1:Int)))) (r_int rfl rfl rfl) ?_
     refine o_w (v:=.int .i64 (IntKind.i64.wrap (s15.1 + (1:Int)))) (r_asg rfl) ?_
     refine eo_nil ?_
     refine blk_n ?_
     refine sq_n ?_
     refine ec_region ?_
     refine o_w (v:=.int .i64 s15.2.1) (r_mov rfl) ?_
     refine o_w (v:=.int .i64 (IntKind.i64.wrap (s15.2.1 + (1:Int)))) (r_int rfl rfl rfl) ?_
     refine o_w (v:=.int .i64 (IntKind.i64.wrap (s15.2.1 + (1:Int)))) (r_asg rfl) ?_
     refine eo_nil ?_
     subst h
     exact lq_n ⟨_,envs_self ⟨rfl,rfl,rfl,rfl,trivial⟩,rfl,G79,E78,(O77.weak (fun m hm=>by simp at hm ⊢; first | exact hm | exact .inr hm | simp [hm] | (rcases hm with h | h <;> simp [h]) | simp_all))⟩
    ·replace h:=h.2 hc58
     refine ec_skip ?_
     refine blk_n ?_
     refine sq_n ?_
     refine ec_region ?_
     refine o_w (v:=.int .i64 s15.2.1) (r_mov rfl) ?_
     refine o_w (v:=.int .i64 (IntKind.i64.wrap (s15.2.1 + (1:Int)))) (r_int rfl rfl rfl) ?_
     refine o_w (v:=.int .i64 (IntKind.i64.wrap (s15.2.1 + (1:Int)))) (r_asg rfl) ?_
     refine eo_nil ?_
     subst h
     exact lq_n ⟨_,envs_self ⟨rfl,rfl,rfl,rfl,trivial⟩,rfl,(G47.trans (Fr.ext F51)),E52,((O50.ex F51).weak (fun m hm=>by simp at hm ⊢; first | exact hm | exact .inr hm | simp [hm] | (rcases hm with h | h <;> simp [h]) | simp_all))⟩
   ·replace h:=h.2 hc16
    refine ec_exit ?_
    refine sq_exit ?_
    subst h
    exact lq_x ⟨_,envs_self ⟨rfl,rfl,rfl,rfl,trivial⟩,rfl,F15r,E15r,O15r3⟩
  ·exact ⟨_,envs_self ⟨rfl,rfl,rfl,rfl,trivial⟩,rfl,(Fr.refl _ _),E7,(OP0.ex F3)⟩
  ·rintro ρ15e ds15e w15e ⟨ρ15e,rfl,rfl,F15e,E15e,O15e3⟩
   refine blk_hit ?_
   refine sq_n ?_
   refine ec_seq ?_
   refine ec_region ?_
   refine o_w (v:=(.slice A1 d0.length c2)) (r_mov rfl) ?_
   refine o_w (v:=.int .i64 x15.1) (r_mov rfl) ?_
   obtain ⟨hn86,H85⟩:=O15e3.stillAt
   have Zanc87:=Fr.refl L w15e
   obtain ⟨ha88,h⟩:=h
   have hb89:x15.1≤((d0.length:Nat):Int):=by have h1:=ha88.2; rw [hn86] at h1; exact h1
   refine o_w (v:=.slice (slA A1 c2 x15.1.toNat kEnt.n) (d0.length - x15.1.toNat) (c2 - x15.1.toNat)) (r_sl_end slc_s_api_Entry rfl rfl ⟨_,rfl⟩ ha88.1 hb89 (hn86 ▸ (H85.fr Zanc87 sI).now.1)) ?_
   refine o_clear (z:=(⟨([]:Str),(⟨(0:Int),(0:Int),(0:Int),false,([]:Str),([]:List Int),([]:List Int),(0:Int)⟩:Val)⟩:Ent)) (zv:=.agg #[str [],.int .i64 0,.int .i64 0,.int .i64 0,.bool false,str [],.slice none 0 0,.slice none 0 0,.int .u64 0]) hn86 slc_s_api_Entry rfl O15e3 ha88.1 hb89 (by decide) rfl (fun w=>((kEnt_mk (d:=(⟨([]:Str),(⟨(0:Int),(0:Int),(0:Int),false,([]:Str),([]:List Int),([]:List Int),(0:Int)⟩:Val)⟩:Ent)) stb_nil stb_nil):Stb [] w _).now) rfl ?_
   intro w90 F90 O90
   have E91:=Ext.st E15e F90 (fun m hm=>Nat.le_trans (Nat.le_refl _) (O15e3.lo m hm))
   refine eo_nil_sq ?_
   refine ec_seq ?_
   refine ec_region ?_
   refine o_w (v:=(.slice A1 d0.length c2)) (r_mov rfl) ?_
   refine o_w (v:=.int .i64 x15.1) (r_mov rfl) ?_
   obtain ⟨hn95,H94⟩:=O90.stillAt
   try rw [← hn95]
   have Zw90_96:=Fr.refl L w90
   obtain ⟨ha98,h⟩:=h
   have H99:=Stb.cutL (H94.fr Zw90_96 sI) ha98.1 ha98.2.1 ha98.2.2
   refine o_w (v:=.slice (slA A1 c2 (0:Int).toNat kEnt.n) (cutL (x15.2.2.take x15.1.toNat++List.replicate (d0.length - x15.1.toNat) (⟨([]:Str),(⟨(0:Int),(0:Int),(0:Int),false,([]:Str),([]:List Int),([]:List Int),(0:Int)⟩:Val)⟩:Ent)) (0:Int) x15.1).length (c2 - (0:Int).toNat)) (r_sl_slc slc_s_api_Entry rfl rfl rfl ⟨_,rfl⟩ ha98.1 ha98.2.1 ha98.2.2 (H94.fr Zw90_96 sI).now.1) ?_
   refine o_w (v:=.slice (slA A1 c2 (0:Int).toNat kEnt.n) (cutL (x15.2.2.take x15.1.toNat++List.replicate (d0.length - x15.1.toNat) (⟨([]:Str),(⟨(0:Int),(0:Int),(0:Int),false,([]:Str),([]:List Int),([]:List Int),(0:Int)⟩:Val)⟩:Ent)) (0:Int) x15.1).length (c2 - (0:Int).toNat)) (r_asg rfl) ?_
   refine eo_nil_sq ?_
   refine ec_ret ?_
   subst h
   exact (end1 rfl ⟨_,rfl,E91,_,_,rfl,H99⟩)
end Go.Proofs.YthhjcijhanacnaaGreat

/- Updates in plain Lean: what each function comes to. -/
namespace Go.Proofs.YthhjcijhanacnaaGreat
open Go Go.RowKit
set_option linter.unusedVariables false
set_option linter.unusedSimpArgs false

def unlessD (b:Bool) (e:Int):Int:=bif b then 0 else e
def keyD (key:Str):Bool:=!(key==[])&&decide ((key.length:Int)≤8)
def mayD (a:Arena) (node:Int) (key:Str):Int:=bif !arOk a then 2 else bif decide (node<0)||decide (8≤node) then 10 else unlessD (keyD key) 6
def oldD (a:Arena) (k:Int) (key:Str):Val × Bool:=bif decide (0≤findA a k key) then ((nth a.slots (findA a k key)).val,true) else ((leastV k).1,false)
def roomD (a:Arena) (k:Int) (key:Str):Int:=unlessD ((oldD a k key).2||decide ((a.slots.length:Int)<a.cap)) 4
def entD (k:Int) (key:Str) (v:Val):Ent:=⟨key,⟨k,v.time,v.node,v.dead,v.text,v.plus,v.minus,v.flags⟩⟩
def laterD (a:Arena) (node:Int) (key:Str) (dead:Bool) (text:Str):Ent × Int :=
 bif (oldD a 1 key).1.time==2147483647 then (zeroE,5) else (entD 1 key ⟨0,IntKind.i64.wrap ((oldD a 1 key).1.time + 1),node,dead,text,[],[],0⟩,0)
def putU (a:Arena) (node:Int) (key text:Str):Ent × Int :=
 bif mayD a node key != 0 then (zeroE,mayD a node key) else bif unlessD (decide ((text.length:Int)≤8)) 6 != 0 then (zeroE,6) else bif roomD a 1 key != 0 then (zeroE,roomD a 1 key) else laterD a node key false text
def livesD (a:Arena) (key:Str):Int:=unlessD ((oldD a 1 key).2&&!(oldD a 1 key).1.dead) 9
def delU (a:Arena) (node:Int) (key:Str):Ent × Int :=
 bif mayD a node key != 0 then (zeroE,mayD a node key) else bif livesD a key != 0 then (zeroE,livesD a key) else laterD a node key true []
def mostD (n:Int):Int:=unlessD (((n != 0)&&decide (n≤65535))&&decide (-65535≤n)) 1
def plusD (a:Arena) (node:Int) (key:Str) (n:Int):Int:=IntKind.i64.wrap (nth (oldD a 2 key).1.plus node + n)
def minusD (a:Arena) (node:Int) (key:Str) (n:Int):Int:=IntKind.i64.wrap (nth (oldD a 2 key).1.minus node + IntKind.i64.wrap (0 - n))
def addU (a:Arena) (node:Int) (key:Str) (n:Int):Ent × Int :=
 bif mayD a node key != 0 then (zeroE,mayD a node key) else bif mostD n != 0 then (zeroE,mostD n) else bif roomD a 2 key != 0 then (zeroE,roomD a 2 key) else
 bif decide (n<0) then (bif decide (65535<minusD a node key n) then (zeroE,5) else (entD 2 key ⟨2,0,0,false,[],Z8,Z8.set node.toNat (minusD a node key n),0⟩,0))
 else (bif decide (65535<plusD a node key n) then (zeroE,5) else (entD 2 key ⟨2,0,0,false,[],Z8.set node.toNat (plusD a node key n),Z8,0⟩,0))
def setU (a:Arena) (key:Str) (f:Int):Ent × Int :=
 bif mayD a 0 key != 0 then (zeroE,mayD a 0 key) else bif roomD a 3 key != 0 then (zeroE,roomD a 3 key) else (entD 3 key ⟨0,0,0,false,[],[],[],f⟩,0)
def textU (a:Arena) (key:Str):Str × Bool:=bif !(oldD a 1 key).2 then ([],false) else ((oldD a 1 key).1.text,!(oldD a 1 key).1.dead)
def sumU (a:Arena) (key:Str):Int × Bool:=bif !(oldD a 2 key).2 then (0,false) else (sumV (oldD a 2 key).1,true)
def flagsU (a:Arena) (key:Str):Int × Bool:=bif !(oldD a 3 key).2 then (0,false) else ((oldD a 3 key).1.flags,true)
def liveL (l:List Ent):List Ent:=l.filter fun e=>!e.val.dead
def scanU (a:Arena):List Ent:=liveL (allA a)

theorem unless_ev (b:Bool) (e:Int):delta_unless_raw b e (unlessD b e):=by
 cases b
 ·exact ⟨(fun h=>by cases h),fun _=>rfl⟩
 ·exact ⟨fun _=>rfl,(fun h=>by cases h)⟩
theorem find_lt {a:Arena} {k:Int} {key:Str} (h:0≤findA a k key):arOk a=true∧findA a k key<(a.slots.length:Int)∧isN k key (nth a.slots (findA a k key))=true:=by
 cases ho:arOk a with
 | false=>rw [findA_no ho] at h; omega
 | true =>
  rw [findA_ok ho] at h ⊢
  rcases findL_spec a.slots k key with ⟨e,_⟩ | ⟨i,hi,e,hn⟩
  ·rw [e] at h; omega
  ·rw [e]
   refine ⟨rfl,by omega,?_⟩
   show isN k key (a.slots.getD ((i:Int)).toNat default)=true
   rw [Int.toNat_natCast]; exact hn
theorem old_ev (u:Upd) (h:sma u.a):delta_update_old_raw u (oldD u.a u.kind u.key):=by
 refine ⟨h,fun hc=>?_,fun hc=>⟨_,rfl,?_⟩⟩
 ·have h0:0≤findA u.a u.kind u.key:=by simpa using hc
  refine ⟨⟨h0,(find_lt h0).2.1⟩,?_⟩
  unfold oldD; rw [hc]; rfl
 ·unfold oldD; rw [hc]; rfl
theorem may_ev (u:Upd) (h:sma u.a):delta_update_may_raw u (mayD u.a u.node u.key):=by
 refine ⟨h,fun hc=>?_,fun hc=>⟨fun hd=>?_,fun hd=>⟨_,unless_ev _ _,?_⟩⟩⟩
 ·rw [checkA_ne] at hc; unfold mayD; rw [hc]; rfl
 ·rw [checkA_ne] at hc; unfold mayD; rw [hc,hd]; rfl
 ·rw [checkA_ne] at hc; unfold mayD; rw [hc,hd]; rfl
theorem room_ev (u:Upd) (h:sma u.a):delta_update_room_raw u (roomD u.a u.kind u.key):=⟨_,old_ev u h,_,unless_ev _ _,rfl⟩
theorem later_ev (u:Upd) (hk:u.kind=1) (d:Bool) (t:Str) (h:sma u.a):delta_update_later_raw u d t (laterD u.a u.node u.key d t):=by
 obtain ⟨a,node,kind,key⟩:=u
 simp only at hk
 subst hk
 refine ⟨_,old_ev _ h,fun hc=>?_,fun hc=>⟨_,rfl,?_⟩⟩
 ·unfold laterD; rw [hc]; rfl
 ·unfold laterD; rw [hc]; rfl
theorem bif_ne {x:Int} {A:Type} {s t:A} (h:(x != 0)=true):(bif x != 0 then s else t)=s:=by rw [h]; rfl
theorem bif_eq {x:Int} {A:Type} {s t:A} (h:(x != 0)=false):(bif x != 0 then s else t)=t:=by rw [h]; rfl
theorem put_ev (a:Arena) (node:Int) (key text:Str) (h:sma a):delta_Put_raw a node key text (putU a node key text):=by
 refine ⟨_,may_ev ⟨a,node,1,key⟩ h,fun hc=>?_,fun hc=>⟨_,⟨_,unless_ev _ _,rfl⟩,fun hd=>?_,fun hd=>⟨_,room_ev ⟨a,node,1,key⟩ h,fun he=>?_,fun he=>⟨_,later_ev ⟨a,node,1,key⟩ rfl _ _ h,?_⟩⟩⟩⟩
 ·unfold putU; rw [bif_ne hc]; rfl
 ·unfold putU; rw [bif_eq hc,bif_ne hd]
  have:unlessD (decide ((text.length:Int)≤8)) 6=6:=by revert hd; unfold unlessD; cases decide ((text.length:Int)≤8) <;> simp
  rw [this]; rfl
 ·unfold putU; rw [bif_eq hc,bif_eq hd,bif_ne he]; rfl
 ·unfold putU; rw [bif_eq hc,bif_eq hd,bif_eq he]
theorem del_ev (a:Arena) (node:Int) (key:Str) (h:sma a):delta_Delete_raw a node key (delU a node key):=by
 refine ⟨_,may_ev ⟨a,node,1,key⟩ h,fun hc=>?_,fun hc=>⟨_,⟨_,old_ev ⟨a,node,1,key⟩ h,_,unless_ev _ _,rfl⟩,fun hd=>?_,fun hd=>⟨_,later_ev ⟨a,node,1,key⟩ rfl _ _ h,?_⟩⟩⟩
 ·unfold delU; rw [bif_ne hc]; rfl
 ·unfold delU livesD; rw [bif_eq hc,bif_ne hd]; rfl
 ·unfold delU livesD; rw [bif_eq hc,bif_eq hd]
/-- What is there of a counter has eight numbers each. -/
theorem old_8 {a : Arena} {key : Str} (ho : arOk a = true) : (oldD a 2 key).1.plus.length = 8 ∧ (oldD a 2 key).1.minus.length = 8 := by
  unfold oldD
  cases hc : decide (0 ≤ findA a 2 key) with
  | true =>
    have h0 : 0 ≤ findA a 2 key := by simpa using hc
    obtain ⟨_, h1, h2⟩ := find_lt h0
    have hm : nth a.slots (findA a 2 key) ∈ a.slots := by unfold nth; exact getD_mem (by omega)
    have hk := (arOk_iff.1 ho).2.1 _ hm
    obtain ⟨_, _, p, q⟩ := okV_cc (andR (andR hk)) (isN_iff.1 h2).1
    exact ⟨p, q⟩
  | false => exact ⟨rfl, rfl⟩
theorem may_0 {a:Arena} {node:Int} {key:Str} (h:(mayD a node key != 0)=false):arOk a=true∧0≤node∧node<8∧keyD key=true:=by
 unfold mayD unlessD at h
 cases ho:arOk a with
 | false=>rw [ho] at h; simp at h
 | true =>
  rw [ho] at h
  cases h1:decide (node<0)||decide (8≤node) with
  | true=>rw [h1] at h; simp at h
  | false =>
   rw [h1] at h
   cases h2:keyD key with
   | false=>rw [h2] at h; simp at h
   | true=>simp at h1; exact ⟨rfl,by omega,by omega,rfl⟩
theorem nth_set {l:List Int} {i:Int} {x:Int} (h0:0≤i) (h1:i<(l.length:Int)):nth (l.set i.toNat x) i=x:=by
 unfold nth
 have:i.toNat<l.length:=by omega
 simp [this]
theorem add_ev (a:Arena) (node:Int) (key:Str) (n:Int) (h:sma a):delta_Add_raw a node key n (addU a node key n):=by
 refine ⟨_,may_ev ⟨a,node,2,key⟩ h,fun hc=>?_,fun hc=>⟨_,⟨_,unless_ev _ _,rfl⟩,fun hd=>?_,fun hd=>⟨_,room_ev ⟨a,node,2,key⟩ h,fun he=>?_,fun he=>?_⟩⟩⟩
 ·unfold addU; rw [bif_ne hc]; rfl
 ·unfold addU mostD; rw [bif_eq hc,bif_ne hd]; rfl
 ·unfold addU mostD; rw [bif_eq hc,bif_eq hd,bif_ne he]; rfl
 ·obtain ⟨ho,n0,n8,_⟩:=may_0 hc
  obtain ⟨p8,m8⟩:=old_8 (key:=key) ho
  refine ⟨_,old_ev ⟨a,node,2,key⟩ h,fun hn=>⟨⟨n0,by rw [m8]; exact n8⟩,⟨n0,n8⟩,⟨n0,n8⟩,fun hq=>?_,fun hq=>⟨_,rfl,?_⟩⟩,fun hn=>⟨⟨n0,by rw [p8]; exact n8⟩,⟨n0,n8⟩,⟨n0,n8⟩,fun hq=>?_,fun hq=>⟨_,rfl,?_⟩⟩⟩
  all_goals
   rw [nth_set (l:=Z8) n0 n8] at hq
   unfold addU mostD
   rw [bif_eq hc,bif_eq hd,bif_eq he,hn]
   simp only [cond_true,cond_false]
   first
    | (rw [show decide (65535<minusD a node key n)=_ from hq]; rfl)
    | (rw [show decide (65535<plusD a node key n)=_ from hq]; rfl)
theorem set_ev (a:Arena) (key:Str) (f:Int) (h:sma a):delta_Set_raw a key f (setU a key f):=by
 refine ⟨_,may_ev ⟨a,0,3,key⟩ h,fun hc=>?_,fun hc=>⟨_,room_ev ⟨a,0,3,key⟩ h,fun he=>?_,fun he=>⟨_,rfl,?_⟩⟩⟩
 ·unfold setU; rw [bif_ne hc]; rfl
 ·unfold setU; rw [bif_eq hc,bif_ne he]; rfl
 ·unfold setU; rw [bif_eq hc,bif_eq he]; rfl
theorem sm_old {a:Arena} (h:sma a) (k:Int) (key:Str):sm (oldD a k key).1:=by
 unfold oldD
 cases hc:decide (0≤findA a k key) with
 | true =>
  have h0:0≤findA a k key:=by simpa using hc
  exact sml_nth h.1 h0 (find_lt h0).2.1
 | false =>
  show sm (leastV k).1
  unfold leastV
  cases k==1 <;> cases k==2 <;> cases k==3 <;> exact ⟨by decide,by decide⟩
theorem text_ev (a:Arena) (key:Str) (h:sma a):delta_Text_raw a key (textU a key):=by
 refine ⟨textU a key,⟨_,old_ev ⟨a,0,1,key⟩ h,fun hc=>?_,fun hc=>⟨_,rfl,?_⟩⟩,rfl⟩
 ·unfold textU; rw [show (!(oldD a 1 key).2)=true from hc]; rfl
 ·unfold textU; rw [show (!(oldD a 1 key).2)=false from hc]; rfl
theorem sum_ev (a:Arena) (key:Str) (h:sma a):delta_Sum_raw a key (sumU a key):=by
 refine ⟨sumU a key,⟨_,old_ev ⟨a,0,2,key⟩ h,fun hc=>?_,fun hc=>⟨_,⟨sm_old h 2 key,rfl⟩,?_⟩⟩,rfl⟩
 ·unfold sumU; rw [show (!(oldD a 2 key).2)=true from hc]; rfl
 ·unfold sumU; rw [show (!(oldD a 2 key).2)=false from hc]; rfl
theorem flags_ev (a:Arena) (key:Str) (h:sma a):delta_Flags_raw a key (flagsU a key):=by
 refine ⟨flagsU a key,⟨_,old_ev ⟨a,0,3,key⟩ h,fun hc=>?_,fun hc=>⟨_,rfl,?_⟩⟩,rfl⟩
 ·unfold flagsU; rw [show (!(oldD a 3 key).2)=true from hc]; rfl
 ·unfold flagsU; rw [show (!(oldD a 3 key).2)=false from hc]; rfl
end Go.Proofs.YthhjcijhanacnaaGreat

/- What lives of an arena. -/
namespace Go.Proofs.YthhjcijhanacnaaGreat
open Go Go.RowKit
set_option linter.unusedVariables false
set_option linter.unusedSimpArgs false

theorem allO_ev (a:Arena) (h:sma a):arena_AllO_raw a (allA a):=arAll_ev a h
def deadAt (l:List Ent) (i:Nat):Bool:=(l.getD i default).val.dead
theorem indexDead_ev (l:List Ent) (h:l.length≤9223372036854775807):∃ y,slices_IndexFunc_Entry_Scan_1_raw l y ∧
  ((y=-1∧∀ i,i<l.length→deadAt l i=false)∨∃ k:Nat,k<l.length∧y=(k:Int)∧deadAt l k=true∧∀ i,i<k→deadAt l i=false):=by
 obtain ⟨x,hx,hp⟩:=loop_run (body:=slices_IndexFunc_Entry_Scan_1_b1 l) (fun s=>l.length - s.toNat) (fun s=>∃ i:Nat,i≤l.length∧s=(i:Int)∧∀ j,j<i→deadAt l j=false)
  (fun x=>(∃ s,x=.inl s∧∀ i,i<l.length→deadAt l i=false)∨∃ k:Nat,x=.inr (k:Int)∧k<l.length∧deadAt l k=true∧∀ i,i<k→deadAt l i=false) (by
  rintro s ⟨i,hi,rfl,hb⟩
  by_cases hlt:i<l.length
  ·cases hd:deadAt l i with
   | true =>
    refine .inr ⟨.inr (i:Int),⟨fun _=>⟨⟨by omega,by omega⟩,true,hd.symm,fun _=>rfl,fun c=>by cases c⟩,fun c=>by simp at c; omega⟩,.inr ⟨i,rfl,hlt,hd,hb⟩⟩
   | false =>
    refine .inl ⟨((i + 1:Nat):Int),⟨fun _=>⟨⟨by omega,by omega⟩,false,hd.symm,(fun c=>by cases c),fun _=>by rw [wrapS hlt h]⟩,fun c=>by simp at c; omega⟩,⟨i + 1,by omega,rfl,fun j hj=>?_⟩,?_⟩
    ·rcases Nat.lt_or_ge j i with h1 | h1
     ·exact hb j h1
     ·obtain rfl:j=i:=by omega
      exact hd
    ·rw [Int.toNat_natCast,Int.toNat_natCast]; omega
  ·obtain rfl:i=l.length:=by omega
   exact .inr ⟨.inl ((l.length:Nat):Int),⟨fun c=>by simp at c,fun _=>rfl⟩,.inl ⟨_,rfl,hb⟩⟩) 0 ⟨0,by omega,rfl,fun j hj=>by omega⟩
 rcases hp with ⟨s,rfl,hn⟩ | ⟨k,rfl,hk,hd,hb⟩
 ·exact ⟨-1,⟨_,hx,fun _ _=>rfl,(fun y e=>by cases e)⟩,.inl ⟨rfl,hn⟩⟩
 ·exact ⟨(k:Int),⟨_,hx,(fun _ e=>by cases e),(fun y e=>by cases e; rfl)⟩,.inr ⟨k,hk,rfl,hd,hb⟩⟩
theorem live_take_succ {l:List Ent} {j:Nat} (h:j<l.length):liveL (l.take (j + 1))=liveL (l.take j)++(bif deadAt l j then [] else [l.getD j default]):=by
 have e:l.take (j + 1)=l.take j++[l.getD j default]:=by rw [List.take_add_one]; simp [h]
 unfold liveL
 rw [e,List.filter_append]
 congr 1
 show [l.getD j default].filter _=_
 unfold deadAt
 cases hd:(l.getD j default).val.dead
 ·rw [List.filter_cons_of_pos (by simp only [hd]; rfl)]; rfl
 ·rw [List.filter_cons_of_neg (by simp only [hd]; simp)]; rfl
theorem live_len (l:List Ent) (j:Nat):(liveL (l.take j)).length≤j:=by
 unfold liveL
 exact Nat.le_trans (List.length_filter_le _ _) (by simp; omega)
theorem delete_ev (l:List Ent) (h:l.length≤1000000):slices_DeleteFunc_Entry_Scan_1_raw l (liveL l):=by
 obtain ⟨y,hy,hc⟩:=indexDead_ev l (by omega)
 refine ⟨y,hy,fun e=>?_,fun e=>?_⟩
 ·rcases hc with ⟨_,ha⟩ | ⟨k,hk,rfl,_⟩
  ·unfold liveL
   rw [List.filter_eq_self]
   intro x hx
   obtain ⟨i,hi,rfl⟩:=List.getElem_of_mem hx
   have:=ha i hi
   unfold deadAt at this
   simp [hi] at this
   simp [this]
  ·exact absurd e (by simp)
 ·rcases hc with ⟨rfl,ha⟩ | ⟨k,hk,rfl,hd,hb⟩
  ·simp at e
  ·have hk0:liveL (l.take k)=l.take k:=by
    unfold liveL
    rw [List.filter_eq_self]
    intro x hx
    obtain ⟨i,hi,rfl⟩:=List.getElem_of_mem hx
    have hi':i<k:=by simp at hi; omega
    have:=hb i hi'
    unfold deadAt at this
    simp [show i<l.length by omega] at this
    simp [this]
   obtain ⟨x,hx,i,hxi,hl,ht⟩:=loop_run (body:=slices_DeleteFunc_Entry_Scan_1_b15 l) (fun s=>l.length - s.2.1.toNat)
    (fun s=>∃ (j:Nat) (cur:List Ent),j≤l.length∧s=(((liveL (l.take j)).length:Int),(j:Int),cur)∧(liveL (l.take j)).length<j∧cur.length=l.length∧cur.take (liveL (l.take j)).length=liveL (l.take j)∧∀ m,j≤m→cur.getD m default=l.getD m default)
    (fun x=>∃ i:Nat,x.1=(i:Int)∧x.2.2.length=l.length∧x.2.2.take i=liveL l∧i≤l.length) (by
    rintro s ⟨j,cur,hj,rfl,hlt,hl,ht,hm⟩
    by_cases hjl:j<l.length
    ·have hs:=live_take_succ hjl
     have hnth:nth cur (j:Int)=l.getD j default:=by show cur.getD ((j:Int)).toNat default=_; rw [Int.toNat_natCast]; exact hm j (Nat.le_refl _)
     cases hd:deadAt l j with
     | true =>
      rw [hd,cond_true,List.append_nil] at hs
      refine .inl ⟨(((liveL (l.take j)).length:Int),((j + 1:Nat):Int),cur),⟨fun _=>⟨⟨Int.natCast_nonneg _,by show (j:Int)<(cur.length:Int); omega⟩,true,by rw [hnth]; exact hd.symm,(fun c=>by cases c),fun _=>?_⟩,fun c=>by simp at c; omega⟩,⟨j + 1,cur,by omega,by rw [hs],by rw [hs]; omega,hl,by rw [hs]; exact ht,fun m hm1=>hm m (by omega)⟩,by show l.length - (((j + 1:Nat):Int)).toNat<l.length - ((j:Int)).toNat; omega⟩
      show Sum.inl _=Sum.inl _
      rw [wrapS hjl (by omega)]
     | false =>
      rw [hd,cond_false] at hs
      have hlen:(liveL (l.take (j + 1))).length=(liveL (l.take j)).length + 1:=by rw [hs]; simp
      refine .inl ⟨(((liveL (l.take (j + 1))).length:Int),((j + 1:Nat):Int),cur.set (liveL (l.take j)).length (l.getD j default)),⟨fun _=>⟨⟨Int.natCast_nonneg _,by show (j:Int)<(cur.length:Int); omega⟩,false,by rw [hnth]; exact hd.symm,fun _=>⟨⟨Int.natCast_nonneg _,by show ((liveL (l.take j)).length:Int)<(cur.length:Int); omega⟩,?_⟩,(fun c=>by cases c)⟩,fun c=>by simp at c; omega⟩,⟨j + 1,_,by omega,rfl,by omega,by rw [List.length_set]; exact hl,?_,fun m hm1=>?_⟩,by show l.length - (((j + 1:Nat):Int)).toNat<l.length - ((j:Int)).toNat; omega⟩
      ·show Sum.inl _=Sum.inl _
       rw [hnth,Int.toNat_natCast,wrapS hjl (by omega),hlen,wrapS (i:=(liveL (l.take j)).length) (n:=l.length) (by omega) (by omega)]
      ·rw [hlen,hs]
       have e1:cur.set (liveL (l.take j)).length (l.getD j default)=cur.take (liveL (l.take j)).length++l.getD j default::cur.drop ((liveL (l.take j)).length + 1):=List.set_eq_take_append_cons_drop.trans (if_pos (by omega))
       rw [e1,ht,List.take_append,List.take_of_length_le (by omega)]
       simp
      ·rw [← hm m (by omega)]
       simp [List.getElem?_set,show (liveL (l.take j)).length≠m by omega]
    ·obtain rfl:j=l.length:=by omega
     rw [List.take_length] at ht hlt
     exact .inr ⟨_,⟨fun c=>by simp at c,fun _=>rfl⟩,_,rfl,hl,by rw [List.take_length]; exact ht,by rw [List.take_length]; omega⟩) ((k:Int),((k + 1:Nat):Int),l)
    ⟨k + 1,l,by omega,by rw [live_take_succ hk,hd,cond_true,List.append_nil,hk0]; simp; omega,by rw [live_take_succ hk,hd,cond_true,List.append_nil,hk0]; simp; omega,rfl,by rw [live_take_succ hk,hd,cond_true,List.append_nil,hk0]; simp [Nat.min_eq_left (show k≤l.length by omega)],fun m _=>rfl⟩
   refine ⟨x,by rw [wrapS hk (by omega)]; exact hx,⟨by omega,by omega⟩,⟨by omega,by omega,?_⟩,?_⟩
   ·rw [hxi,Int.toNat_natCast]; simp; omega
   ·unfold cutL
    rw [hxi,Int.toNat_natCast]
    have:(x.2.2.take i).length=i:=by simp; omega
    rw [List.take_append_of_le_length (by omega),List.take_of_length_le (by omega),ht.1]
    rfl
end Go.Proofs.YthhjcijhanacnaaGreat

/- delta.Scan. -/
namespace Go.Proofs.YthhjcijhanacnaaGreat
open Go Go.RowKit
set_option linter.unusedVariables false
set_option linter.unusedSimpArgs false

theorem cf_DeleteFuncE:CF Tryz.prog 53:=fun _ _=>by kernel_rfl
def delta_Scan_raw (d0:Arena) (y:List Ent):Prop:=∃ x,arena_AllO_raw d0 x∧slices_DeleteFunc_Entry_Scan_1_raw x y
theorem allA_len {a:Arena}:(allA a).length≤1000000:=by
 unfold allA
 cases ho:arOk a with
 | false=>simp
 | true=>rw [cond_true,List.length_map]; have:=(ok_small ho).2; omega
theorem scan_ev (a:Arena) (h:sma a):delta_Scan_raw a (scanU a):=⟨_,allO_ev a h,delete_ev _ allA_len⟩
set_option maxRecDepth 20000 in
set_option maxHeartbeats 4000000 in
theorem delta_Scan_c {L:List Nat} {w:World} {csP0:List Value} (d0:Arena) (HP0:Stb L w (fun w=>kArena.r w csP0 d0)) (hL:Lt L w) {y:List Ent} (h:delta_Scan_raw d0 y) :
  Calls Tryz.prog 23 [.agg csP0.toArray].toArray w (Ret fun v w'=>Ext w w'∧∃ (A90:Option Addr) (c90:Nat),v=.slice A90 (y).length c90∧Stb L w' (fun w=>SlC kEnt w A90 c90 y)):=by
 obtain ⟨A1,c2,A4,c5,rfl,H3,H6⟩:=kArena_open HP0
 obtain ⟨x,hx,hy⟩:=h
 refine calls_ec Tryz.func23 rfl rfl rfl ?_
 refine ec_seq ?_
 refine ec_region ?_
 refine o_box (cs:=(cArena d0 A1 c2 A4 c5)) rfl rfl rfl ?_
 intro b7 w7 e7 F7 B7
 have S7:=B7.stb (nin hL e7)
 have G8:Fr L w w7:=Fr.ext F7
 refine o_w (v:=.slice none 0 0) (r_asg rfl) ?_
 refine eo_nil_sq ?_
 refine ec_seq ?_
 refine ec_region ?_
 refine o_w (v:=.agg (cArena d0 A1 c2 A4 c5).toArray) (r_lda agg_api_Arena rfl (vs:=(cArena d0 A1 c2 A4 c5)) rfl (S7.now.part (n:=3) rfl)) ?_
 refine o_call cf_arena_All rfl (arena_AllO_c d0 (kArena_mk (d:=d0) (H3.fr G8 sI) (H6.fr G8 sI)) (hL.fr F7) hx) rfl rfl ?_
 rintro v8 w8 ⟨F8,O8,N8⟩
 refine o_call cf_DeleteFuncE rfl (slices_DeleteFunc_Entry_Scan_1_c F8 x O8 (hL.fr F7) hy) rfl rfl ?_
 rintro _ w9 ⟨F9,A9,c9,rfl,H9⟩
 refine o_w (v:=.slice A9 y.length c9) (r_asg rfl) ?_
 refine eo_nil_sq ?_
 refine ec_ret ?_
 exact (end1 rfl ⟨_,rfl,F7.trans F9,A9,c9,rfl,H9⟩)
end Go.Proofs.YthhjcijhanacnaaGreat
