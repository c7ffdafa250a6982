import Derived.Test.YtdfjbkoimpjkaaaGreatCt2
import Derived.Test.YtdfjbkoimpjkaaaGreatWn
namespace Go.Proofs.YtdfjbkoimpjkaaaGreat
open Go Go.RowKit
set_option linter.unusedVariables false
set_option linter.unusedSimpArgs false
structure Nm where
 kind:Int
 key:Str
instance:Inhabited Nm:=⟨⟨(0:Int),([]:Str)⟩⟩
structure Buf where
 epoch:Int
 first:Int
 names:List Nm
instance:Inhabited Buf:=⟨⟨(0:Int),(0:Int),([]:List Nm)⟩⟩
theorem un_s_uint8 : Tryz.prog.underlying 48=some (.slice 5):=Tryz.underlying48
theorem in_s_uint8:(Tryz.prog.info? 48).map (fun i=>(i.zero,i.size,i.bytes))=some (some (.slice none 0 0),1,24):=by kernel_rfl
theorem zero_s_uint8:Zero Tryz.prog 48 (.slice none 0 0):=zero_of in_s_uint8
theorem sz_s_uint8:Sz Tryz.prog 48 1:=sz_of in_s_uint8
theorem one_s_uint8:One Tryz.prog 48:=⟨⟨_,Tryz.underlying48,trivial⟩,sz_s_uint8⟩
theorem slc_s_uint8:Slc Tryz.prog 48 5 1 1 (.int .u8 0):=⟨un_s_uint8,info_parts' in_uint8⟩
structure Frm where
 kind:Int
 a:Int
 b:Int
 sums:List Int
 entries:List Ent
instance:Inhabited Frm:=⟨⟨(0:Int),(0:Int),(0:Int),[(0:Int),(0:Int),(0:Int),(0:Int)],([]:List Ent)⟩⟩
structure Ltr where
 frame:Frm
instance:Inhabited Ltr:=⟨⟨(⟨(0:Int),(0:Int),(0:Int),[(0:Int),(0:Int),(0:Int),(0:Int)],([]:List Ent)⟩:Frm)⟩⟩
structure Fm where
 la:Int
 ma:Int
 mb:Int
 sums:Bool
 ents:Bool
instance:Inhabited Fm:=⟨⟨(0:Int),(0:Int),(0:Int),false,false⟩⟩
abbrev cFrm (d:Frm) (A1:Option Addr) (c1:Nat):List Value:=[.int .i64 d.kind,.int .i64 d.a,.int .i64 d.b,.int .i64 (nth d.sums 0),.int .i64 (nth d.sums 1),.int .i64 (nth d.sums 2),.int .i64 (nth d.sums 3),.slice A1 d.entries.length c1]
abbrev cFm (d:Fm):List Value:=[.int .i64 d.la,.int .i64 d.ma,.int .i64 d.mb,.bool d.sums,.bool d.ents]
def kFrm:Kd Frm:=⟨8,fun w cs d=>∃ A1 c1,cs=[.int .i64 d.kind,.int .i64 d.a,.int .i64 d.b,.int .i64 (nth d.sums 0),.int .i64 (nth d.sums 1),.int .i64 (nth d.sums 2),.int .i64 (nth d.sums 3),.slice A1 d.entries.length c1]∧SlC kEnt w A1 c1 d.entries∧d.sums.length=4⟩
theorem kFrm_open {L:List Nat} {w:World} {cs:List Value} {d:Frm} (h:Stb L w (fun w=>kFrm.r w cs d)):∃ A1 c1,cs=[.int .i64 d.kind,.int .i64 d.a,.int .i64 d.b,.int .i64 (nth d.sums 0),.int .i64 (nth d.sums 1),.int .i64 (nth d.sums 2),.int .i64 (nth d.sums 3),.slice A1 d.entries.length c1]∧Stb L w (fun w=>SlC kEnt w A1 c1 d.entries)∧d.sums.length=4:=by
 obtain ⟨A1,c1,e,h1,h2⟩:=h.now
 subst e
 exact ⟨A1,c1,rfl,fun w' ha=>by obtain ⟨_,_,e',h1',h2'⟩:=h w' ha; cases e'; exact h1',h2⟩
theorem kFrm_mk {L:List Nat} {w:World} {A1:Option Addr} {c1:Nat} {d:Frm} (h1:Stb L w (fun w=>SlC kEnt w A1 c1 d.entries)) (h2:d.sums.length=4):Stb L w (fun w=>kFrm.r w [.int .i64 d.kind,.int .i64 d.a,.int .i64 d.b,.int .i64 (nth d.sums 0),.int .i64 (nth d.sums 1),.int .i64 (nth d.sums 2),.int .i64 (nth d.sums 3),.slice A1 d.entries.length c1] d) :=
 fun w' ha=>⟨A1,c1,rfl,h1 w' ha,h2⟩
theorem un_4_int : Tryz.prog.underlying 22=some (.array 4 3):=Tryz.underlying22
theorem in_4_int:(Tryz.prog.info? 22).map (fun i=>(i.zero,i.size,i.bytes))=some (some (.agg #[.int .i64 0,.int .i64 0,.int .i64 0,.int .i64 0]),4,32):=by kernel_rfl
theorem zero_4_int:Zero Tryz.prog 22 (.agg #[.int .i64 0,.int .i64 0,.int .i64 0,.int .i64 0]):=zero_of in_4_int
theorem sz_4_int:Sz Tryz.prog 22 4:=sz_of in_4_int
theorem agg_4_int:Agg Tryz.prog 22 4:=⟨⟨_,Tryz.underlying22,trivial⟩,sz_4_int⟩
theorem in_frame_Frame:(Tryz.prog.info? 25).map (fun i=>(i.zero,i.size,i.bytes))=some (some (.agg #[.int .i64 0,.int .i64 0,.int .i64 0,.int .i64 0,.int .i64 0,.int .i64 0,.int .i64 0,.slice none 0 0]),8,80):=by kernel_rfl
theorem zero_frame_Frame:Zero Tryz.prog 25 (.agg #[.int .i64 0,.int .i64 0,.int .i64 0,.int .i64 0,.int .i64 0,.int .i64 0,.int .i64 0,.slice none 0 0]):=zero_of in_frame_Frame
theorem sz_frame_Frame:Sz Tryz.prog 25 8:=sz_of in_frame_Frame
theorem agg_frame_Frame:Agg Tryz.prog 25 8:=⟨⟨_,Tryz.underlying25,trivial⟩,sz_frame_Frame⟩
theorem in_frame_form:(Tryz.prog.info? 66).map (fun i=>(i.zero,i.size,i.bytes))=some (some (.agg #[.int .i64 0,.int .i64 0,.int .i64 0,.bool false,.bool false]),5,32):=by kernel_rfl
theorem zero_frame_form:Zero Tryz.prog 66 (.agg #[.int .i64 0,.int .i64 0,.int .i64 0,.bool false,.bool false]):=zero_of in_frame_form
theorem sz_frame_form:Sz Tryz.prog 66 5:=sz_of in_frame_form
theorem fld_frame_Frame_0:Fld Tryz.prog 25 0 0:=⟨_,Tryz.underlying25,_,rfl,rfl,fnz in_int (by decide)⟩
theorem fld_frame_Frame_1:Fld Tryz.prog 25 1 1:=⟨_,Tryz.underlying25,_,rfl,rfl,fnz in_int (by decide)⟩
theorem fld_frame_Frame_2:Fld Tryz.prog 25 2 2:=⟨_,Tryz.underlying25,_,rfl,rfl,fnz in_int (by decide)⟩
theorem fld_frame_Frame_3:Fld Tryz.prog 25 3 3:=⟨_,Tryz.underlying25,_,rfl,rfl,fnz in_4_int (by decide)⟩
theorem fld_frame_Frame_4:Fld Tryz.prog 25 4 7:=⟨_,Tryz.underlying25,_,rfl,rfl,fnz in_s_api_Entry (by decide)⟩
theorem fld_frame_form_0:Fld Tryz.prog 66 0 0:=⟨_,Tryz.underlying66,_,rfl,rfl,fnz in_int (by decide)⟩
theorem fld_frame_form_1:Fld Tryz.prog 66 1 1:=⟨_,Tryz.underlying66,_,rfl,rfl,fnz in_int (by decide)⟩
theorem fld_frame_form_2:Fld Tryz.prog 66 2 2:=⟨_,Tryz.underlying66,_,rfl,rfl,fnz in_int (by decide)⟩
theorem fld_frame_form_3:Fld Tryz.prog 66 3 3:=⟨_,Tryz.underlying66,_,rfl,rfl,fnz in_bool (by decide)⟩
theorem fld_frame_form_4:Fld Tryz.prog 66 4 4:=⟨_,Tryz.underlying66,_,rfl,rfl,fnz in_bool (by decide)⟩
theorem mp_map_int_frame_form:Mp Tryz.prog 68 3 66 .i64:=⟨Tryz.underlying68,un_int⟩
theorem bld_4_int:Bld Tryz.prog 22 [(0,1),(1,1),(2,1),(3,1)] [.int .i64 0,.int .i64 0,.int .i64 0,.int .i64 0]:=bld_array zero_4_int rfl un_4_int sz_int (by decide)
theorem bld_frame_Frame:Bld Tryz.prog 25 [(0,1),(1,1),(2,1),(3,4),(7,1)] [.int .i64 0,.int .i64 0,.int .i64 0,.int .i64 0,.int .i64 0,.int .i64 0,.int .i64 0,.slice none 0 0]:=bld_struct zero_frame_Frame rfl Tryz.underlying25 (fun _=>by kernel_rfl)
theorem bld_frame_form:Bld Tryz.prog 66 [(0,1),(1,1),(2,1),(3,1),(4,1)] [.int .i64 0,.int .i64 0,.int .i64 0,.bool false,.bool false]:=bld_struct zero_frame_form rfl Tryz.underlying66 (fun _=>by kernel_rfl)
theorem eqg_4_int : Tryz.prog.eqGuardType Tryz.prog.depth 22=false:=by kernel_rfl
theorem eqs_4_int (a0:Int) (a1:Int) (a2:Int) (a3:Int) (b0:Int) (b1:Int) (b2:Int) (b3:Int):EqR Tryz.prog 22 2 (.agg #[.int .i64 a0,.int .i64 a1,.int .i64 a2,.int .i64 a3]) (.agg #[.int .i64 b0,.int .i64 b1,.int .i64 b2,.int .i64 b3]) ((a0==b0)&&((a1==b1)&&((a2==b2)&&((a3==b3)&&true)))):=eq_array un_4_int sz_int ⟨_,_,_,_,part1 one_int rfl,part1 one_int rfl,eq_int un_int,⟨_,_,_,_,part1 one_int rfl,part1 one_int rfl,eq_int un_int,⟨_,_,_,_,part1 one_int rfl,part1 one_int rfl,eq_int un_int,⟨_,_,_,_,part1 one_int rfl,part1 one_int rfl,eq_int un_int,rfl,rfl⟩,rfl⟩,rfl⟩,rfl⟩
theorem cf_digest_Put:CF Tryz.prog 24:=fun _ _=>by kernel_rfl
theorem cf_frame_Check:CF Tryz.prog 16:=fun _ _=>by kernel_rfl
theorem cf_frame_Check_1:CF Tryz.prog 33:=fun _ _=>by kernel_rfl
theorem cf_frame_forms:CF Tryz.prog 32:=fun _ _=>by kernel_rfl
theorem cf_octet_Put:CF Tryz.prog 54:=fun _ _=>by kernel_rfl
theorem cf_octet_parts:CF Tryz.prog 80:=fun _ _=>by kernel_rfl
theorem cf_octet_parts_1:CF Tryz.prog 96:=fun _ _=>by kernel_rfl
def octet_parts_1_b1 (d1:Int) (s1:Int × Int × List (Int × Int)) (z1:(Int × Int × List (Int × Int)) ⊕ ((Int × Int × List (Int × Int)) ⊕ (Unit))):Prop :=
 ((decide (s1.1<d1))=true→(∃ r5,s1.2.2=(s1.1,(IntKind.i64.wrap ((BitVec.ofInt IntKind.i64.bits s1.2.1 &&& BitVec.ofInt IntKind.i64.bits (255:Int)).toNat:Int)))::r5∧(z1=.inl ((IntKind.i64.wrap (s1.1 + (1:Int))),(Int.fdiv s1.2.1 (2 ^ min ((8:Int)).toNat IntKind.i64.bits)),r5))∧(True)))∧((decide (s1.1<d1))=false→(z1=.inr (.inl (s1.1,s1.2.1,s1.2.2))))
def octet_parts_1_X:(Int × Int)→List Nat→World→List Value→Prop:=fun x T W vs=>vs=[.int .i64 x.1,.int .i64 x.2]
def octet_parts_1_raw (d1:Int) (d2:Int) (xs:List (Int × Int)):Prop :=
 ∃ x1,LoopR (octet_parts_1_b1 d1) ((0:Int),d2,xs) x1∧(∀ sx1,x1=.inl sx1→(∃ r20,sx1.2.2=(d1,sx1.2.1)::r20∧(r20=[])∧(True)))∧(∀ y1,x1=.inr y1→True)
set_option maxRecDepth 20000 in
set_option maxHeartbeats 4000000 in
theorem octet_parts_1_it1 {L:List Nat} {w:World} {bP1:Nat} (d1:Int) (HB1:Stb L w (fun w=>Blk w bP1 3 [.int .i64 d1])) {bP2:Nat} (d2:Int) (HB2:Blk w bP2 3 [.int .i64 d2]) (hpbP2:bP2∈L) (hL:Lt L w) {xs:List (Int × Int)} (h:octet_parts_1_raw d1 d2 xs) (l:Nat) (J:Nat→List Nat→World→Prop) (Jx:World→Prop) (T0:List Nat) (hT0:∀ m∈T0,m∈L) (hnbP2:bP2∉T0) (hJ0:J 0 T0 w)
  (hJe:∀ k T W W',J k T W→Fr [bP2] W W'→J k T W') (hJxe:∀ W W',Jx W→Fr [bP2] W W'→Jx W') (hJl:∀ k T W,J k T W→Lt T W)
  (hY:∀ k x T W vs,xs[k]?=some x→J k T W→octet_parts_1_X x T W vs→YC Tryz.prog l vs W fun e W' =>
   (e=.returned (.bool true)∧∃ T',J (k + 1) T' W'∧Fr T W W'∧∀ q∈T',q∈T∨W.heap.size≤q)∨(e=.returned (.bool false)∧Jx W')) :
  Calls Tryz.prog 96 (.func (.yield l) #[] #[]::[.pointer (some ⟨bP1,0,none⟩),.pointer (some ⟨bP2,0,none⟩)]).toArray w fun e W'=>(∃ v,e=.returned v)∧((∃ T,J xs.length T W')∨Jx W'):=by
 unfold octet_parts_1_raw at h
 refine calls_ec Tryz.func96 rfl rfl rfl ?_
 refine ec_seq ?_
 refine ec_sr ?_
 refine o_w (v:=.int .i64 d1) (r_ld one_int rfl (HB1.now.cell rfl)) ?_
 refine o_w (v:=.int .i64 0) (r_mov rfl) ?_
 refine eo_nil_sq ?_
 refine ec_block ?_
 obtain ⟨x1,hl1,h⟩:=h
 refine ec_loopIt 0 (I:=(fun (s1:Int × Int × List (Int × Int)) ρ ds w'=>∃ (ρ':Env) (dn1i3:List (Int × Int)) (T1i3:List Nat),ρ=envs ρ' [(6,.int .i64 s1.1),(0,.func (.yield l) #[] #[]),(1,.pointer (some ⟨bP1,0,none⟩)),(2,.pointer (some ⟨bP2,0,none⟩)),(5,.int .i64 d1)]∧ds=[]∧Fr (T0++L) w w'∧Fr L w w'∧J dn1i3.length T1i3 w'∧(∀ q∈T1i3,q∈(T0++L)∨w.heap.size≤q)∧xs=dn1i3++s1.2.2∧(∀ q∈T1i3,q∈L∨w.heap.size≤q)∧bP2∉T1i3∧Blk w' bP2 3 [.int .i64 s1.2.1])) (J:=(fun (y':Unit) ρ ds wz=>bodyE Tryz.prog #[] (fun e W'=>(∃ v,e=.returned v)∧((∃ T,J xs.length T W')∨Jx W')) .ret ρ ds wz)) (K:=(fun ρ ds wz=>bodyE Tryz.prog #[] (fun e W'=>(∃ v,e=.returned v)∧((∃ T,J xs.length T W')∨Jx W')) .ret ρ ds wz)) ?_ hl1 ?_ ?_ ?_ ?_
 ·intro s1 z1 ρ1 ds1 w1r hI1 hb1
  obtain ⟨ρ1r,dn1r3,T1r3,rfl,rfl,F1r,E1r,j1r3,N1r3,D1r3,Ti1r3,nT1r3bP2,B1rbP2⟩:=hI1
  have h:=hb1
  unfold octet_parts_1_b1 at h
  refine ec_sr ?_
  refine o_w (v:=.bool (decide (s1.1<d1))) (r_int rfl rfl rfl) ?_
  refine eo_nil_sq ?_
  refine ec_seq ?_
  refine ec_cond rfl (fun hc4=>?_) (fun hc4=>?_)
  ·replace h:=h.1 hc4
   refine ec_skip ?_
   refine sq_n ?_
   refine ec_seq ?_
   refine ec_block ?_
   refine ec_sr ?_
   refine o_w (v:=.int .i64 s1.1) (r_mov rfl) ?_
   refine o_w (v:=.int .i64 s1.1) (r_asg rfl) ?_
   refine eo_nil_sq ?_
   refine ec_seq ?_
   refine ec_sr ?_
   refine o_w (v:=.func (.yield l) #[] #[]) (r_mov rfl) ?_
   refine o_w (v:=.int .i64 s1.1) (r_mov rfl) ?_
   refine o_w (v:=.int .i64 s1.2.1) (r_ld one_int rfl (B1rbP2.cell rfl)) ?_
   refine o_w (v:=.int .i64 (IntKind.i64.wrap ((BitVec.ofInt IntKind.i64.bits s1.2.1 &&& BitVec.ofInt IntKind.i64.bits (255:Int)).toNat:Int))) (r_int rfl rfl rfl) ?_
   obtain ⟨r5,er5,h⟩:=h
   refine o_yield (vs:=[.int .i64 s1.1,.int .i64 (IntKind.i64.wrap ((BitVec.ofInt IntKind.i64.bits s1.2.1 &&& BitVec.ofInt IntKind.i64.bits (255:Int)).toNat:Int))]) rfl rfl (hY _ (s1.1,(IntKind.i64.wrap ((BitVec.ofInt IntKind.i64.bits s1.2.1 &&& BitVec.ofInt IntKind.i64.bits (255:Int)).toNat:Int))) _ _ _ (it_at D1r3 er5) (hJe _ _ _ _ j1r3 (Fr.refl _ _)) rfl) rfl rfl ?_ (by rintro c w' (⟨h,_⟩ | ⟨h,_⟩) <;> cases h) (by rintro w' (⟨h,_⟩ | ⟨h,_⟩) <;> cases h)
   rintro v5 w5 (⟨ev5,T5,J5,F5,N5⟩ | ⟨ev5,X5⟩)
   ·cases ev5; replace h:=h.1
    have D5:=it_next D1r3 er5
    have j5:=it_len (x:=(s1.1,(IntKind.i64.wrap ((BitVec.ofInt IntKind.i64.bits s1.2.1 &&& BitVec.ofInt IntKind.i64.bits (255:Int)).toNat:Int)))) J5
    have hl5:=hJl _ _ _ j5
    have Ti5:∀ m∈T5,m∈L∨w.heap.size≤m:=fun m hm=>(N5 m hm).elim (Ti1r3 m) (fun h=>.inr (Nat.le_trans (E1r.size) h))
    have nT5bP2:bP2∉T5:=fun hm=>(N5 _ hm).elim nT1r3bP2 (fun h=>by have:=B1rbP2.lt; omega)
    have P7:∀ m∈T5,m∈(T0++L)∨w.heap.size≤m:=fun m hm=>(N5 m hm).elim (fun h=>(show ∀ m∈T1r3,m∈(T0++L)∨w.heap.size≤m from N1r3) m h) (fun h=>.inr (Nat.le_trans (F1r.size) h))
    have E8:=Fr.stp E1r F5 Ti1r3
    have G10:Fr (T0++L) w w5:=F1r.stp F5 N1r3
    have B11:=B1rbP2.fr F5 nT1r3bP2
    refine o_w (r_not rfl) ?_
    refine eo_nil_sq ?_
    refine ec_condF rfl rfl ?_
    refine ec_skip ?_
    refine sq_n ?_
    refine ec_region ?_
    refine o_w (v:=.int .i64 s1.2.1) (r_ld one_int rfl (B11.cell rfl)) ?_
    refine o_w (v:=.int .i64 (Int.fdiv s1.2.1 (2 ^ min ((8:Int)).toNat IntKind.i64.bits))) (r_shr rfl rfl rfl) ?_
    refine o_store rfl B11 (vs:=[.int .i64 (Int.fdiv s1.2.1 (2 ^ min ((8:Int)).toNat IntKind.i64.bits))]) rfl sz_int rfl rfl rfl ?_
    intro w12 F12 B12
    have E13:=Fr.stp E8 F12 (fun m hm=>.inl (by rw [List.mem_singleton] at hm; rw [hm]; exact hpbP2))
    have G15:Fr (T0++L) w w12:=G10.stp F12 (upc (.inl (List.mem_append_right _ hpbP2)) (fun m hm=>by cases hm))
    have G16:Fr (bP2::([]:List Nat)) w5 w12:=(Fr.refl _ _).stp F12 (upc (.inl mH) (fun m hm=>by cases hm))
    have B12':Blk w12 bP2 _ [.int .i64 (Int.fdiv s1.2.1 (2 ^ min ((8:Int)).toNat IntKind.i64.bits))]:=B12
    refine eo_nil ?_
    refine blk_n ?_
    refine sq_n ?_
    refine ec_region ?_
    refine o_w (v:=.int .i64 (IntKind.i64.wrap (s1.1 + (1:Int)))) (r_int rfl rfl rfl) ?_
    refine o_w (v:=.int .i64 (IntKind.i64.wrap (s1.1 + (1:Int)))) (r_mov rfl) ?_
    refine eo_nil ?_
    subst h
    exact .inr <| lqR_n ⟨_,(dn1r3++[(s1.1,(IntKind.i64.wrap ((BitVec.ofInt IntKind.i64.bits s1.2.1 &&& BitVec.ofInt IntKind.i64.bits (255:Int)).toNat:Int)))]),T5,envs_self ⟨rfl,rfl,rfl,rfl,rfl,trivial⟩,rfl,G15,E13,(hJe _ _ _ _ j5 G16),P7,D5,Ti5,nT5bP2,B12'⟩
   ·cases ev5; replace h:=h.2
    refine o_w (r_not rfl) ?_
    refine eo_nil_sq ?_
    refine ec_condT rfl rfl ?_
    refine ec_ret ?_
    refine sq_ret ?_
    refine blk_ret ?_
    refine sq_ret ?_
    exact .inl ⟨rfl,(end0r ⟨⟨_,rfl⟩,.inr (hJxe _ _ X5 (Fr.refl _ _))⟩)⟩
  ·replace h:=h.2 hc4
   refine ec_exit ?_
   refine sq_exit ?_
   subst h
   exact .inr <| lqR_x ⟨_,dn1r3,T1r3,envs_self ⟨rfl,rfl,rfl,rfl,rfl,trivial⟩,rfl,F1r,E1r,(hJe _ _ _ _ j1r3 (Fr.refl _ _)),N1r3,D1r3,Ti1r3,nT1r3bP2,B1rbP2⟩
 ·exact ⟨_,([]:List (Int × Int)),T0,envs_self ⟨rfl,rfl,rfl,rfl,rfl,trivial⟩,rfl,(Fr.refl _ _),(Fr.refl _ _),(hJe _ _ _ _ hJ0 (Fr.refl _ _)),(fun q hq=>.inl (by first | exact List.mem_append_left _ hq | simp [hq])),(it_nil (xs:=xs)),(fun m hm=>.inl (hT0 m hm)),hnbP2,HB2⟩
 ·rintro sx1 rfl ρ1e ds1e w1e ⟨ρ1e,dn1e3,T1e3,rfl,rfl,F1e,E1e,j1e3,N1e3,D1e3,Ti1e3,nT1e3bP2,B1ebP2⟩
  replace h:=h.1 _ rfl
  have G18:Fr L w w1e:=(Fr.refl _ _).stp F1e (upo (fun m hm=>.inl (hT0 m hm)) (fun _ h=>.inl h))
  refine blk_hit ?_
  refine sq_n ?_
  refine ec_region ?_
  refine o_w (v:=.func (.yield l) #[] #[]) (r_mov rfl) ?_
  refine o_w (v:=.int .i64 d1) (r_ld one_int rfl ((HB1.fr G18 sI).now.cell rfl)) ?_
  refine o_w (v:=.int .i64 sx1.2.1) (r_ld one_int rfl (B1ebP2.cell rfl)) ?_
  obtain ⟨r20,er20,h⟩:=h
  refine o_yield (vs:=[.int .i64 d1,.int .i64 sx1.2.1]) rfl rfl (hY _ (d1,sx1.2.1) _ _ _ (it_at D1e3 er20) (hJe _ _ _ _ j1e3 (Fr.refl _ _)) rfl) rfl rfl ?_ (by rintro c w' (⟨h,_⟩ | ⟨h,_⟩) <;> cases h) (by rintro w' (⟨h,_⟩ | ⟨h,_⟩) <;> cases h)
  rintro v20 w20 (⟨ev20,T20,J20,F20,N20⟩ | ⟨ev20,X20⟩)
  ·cases ev20; replace h:=h.1
   have D20:=it_next D1e3 er20
   have j20:=it_len (x:=(d1,sx1.2.1)) J20
   have hl20:=hJl _ _ _ j20
   have Ti20:∀ m∈T20,m∈L∨w.heap.size≤m:=fun m hm=>(N20 m hm).elim (Ti1e3 m) (fun h=>.inr (Nat.le_trans (E1e.size) h))
   have nT20bP2:bP2∉T20:=fun hm=>(N20 _ hm).elim nT1e3bP2 (fun h=>by have:=B1ebP2.lt; omega)
   refine eo_nil ?_
   have hr:=h
   exact (end0 ⟨⟨_,rfl⟩,.inl ⟨_,it_end D20 hr (hJe _ _ _ _ j20 (Fr.refl _ _))⟩⟩)
  ·cases ev20; replace h:=h.2
   refine eo_nil ?_
   have hr:=h
   exact (end0 ⟨⟨_,rfl⟩,.inr (hJxe _ _ X20 (Fr.refl _ _))⟩)
 ·rintro y1 rfl ρ1q ds1q w1q hJ
  refine blk_ret ?_
  refine sq_ret ?_
  exact hJ
 ·intro ρ1q ds1q w1q hJ
  refine blk_ret ?_
  refine sq_ret ?_
  exact hJ
theorem octet_parts_1_it {L:List Nat} {w:World} {bP1:Nat} (d1:Int) (HB1:Stb L w (fun w=>Blk w bP1 3 [.int .i64 d1])) {bP2:Nat} (d2:Int) (HB2:Blk w bP2 3 [.int .i64 d2]) (hpbP2:bP2∈L) (hL:Lt L w) {xs:List (Int × Int)} (h:octet_parts_1_raw d1 d2 xs):IterCP Tryz.prog 96 [.pointer (some ⟨bP1,0,none⟩),.pointer (some ⟨bP2,0,none⟩)] xs octet_parts_1_X L [bP2] w :=
 fun l J Jx T0 hT0 hPv hJ0 h1 h2 h3 h4=>octet_parts_1_it1 d1 HB1 d2 HB2 hpbP2 hL h l J Jx T0 hT0 (hPv _ mH) hJ0 h1 h2 h3 h4
end Go.Proofs.YtdfjbkoimpjkaaaGreat