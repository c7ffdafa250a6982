/- The iterator of octet. -/
import Derived.Test.YthfkbabgkacfnaaCt5
import Derived.Test.YthfkbabgkacfnaaFs
namespace Go.Proofs.Ythfkbabgkacfnaa
open Go Go.RowKit
set_option linter.unusedVariables false
set_option linter.unusedSimpArgs false
def octet_parts_1_b1 (d1:Int) (s1:Int × Int × List (Int × Int)) (z1:(Int × Int × List (Int × Int)) ⊕ ((Int × Int × List (Int × Int)) ⊕ (Unit))):Prop :=
 ((decide (s1.1<d1))=true→(∃ r5,s1.2.2=(s1.1,(IntKind.i64.wrap ((BitVec.ofInt IntKind.i64.bits s1.2.1 &&& BitVec.ofInt IntKind.i64.bits (255:Int)).toNat:Int)))::r5∧(z1=.inl ((IntKind.i64.wrap (s1.1 + (1:Int))),(Int.fdiv s1.2.1 (2 ^ min ((8:Int)).toNat IntKind.i64.bits)),r5))∧(True)))∧((decide (s1.1<d1))=false→(z1=.inr (.inl (s1.1,s1.2.1,s1.2.2))))
def octet_parts_1_X:(Int × Int)→List Nat→World→List Value→Prop:=fun x T W vs=>vs=[.int .i64 x.1,.int .i64 x.2]
def octet_parts_1_raw (d1:Int) (d2:Int) (xs:List (Int × Int)):Prop :=
 ∃ x1,LoopR (octet_parts_1_b1 d1) ((0:Int),d2,xs) x1∧(∀ sx1,x1=.inl sx1→(∃ r20,sx1.2.2=(d1,sx1.2.1)::r20∧(r20=[])∧(True)))∧(∀ y1,x1=.inr y1→True)
set_option maxRecDepth 20000 in
set_option maxHeartbeats 4000000 in
theorem octet_parts_1_it1 {L:List Nat} {w:World} {bP1:Nat} (d1:Int) (HB1:Stb L w (fun w=>Blk w bP1 3 [.int .i64 d1])) {bP2:Nat} (d2:Int) (HB2:Blk w bP2 3 [.int .i64 d2]) (hpbP2:bP2∈L) (hL:Lt L w) {xs:List (Int × Int)} (h:octet_parts_1_raw d1 d2 xs) (l:Nat) (J:Nat→List Nat→World→Prop) (Jx:World→Prop) (T0:List Nat) (hT0:∀ m∈T0,m∈L) (hnbP2:bP2∉T0) (hJ0:J 0 T0 w)
  (hJe:∀ k T W W',J k T W→Fr [bP2] W W'→J k T W') (hJxe:∀ W W',Jx W→Fr [bP2] W W'→Jx W') (hJl:∀ k T W,J k T W→Lt T W)
  (hY:∀ k x T W vs,xs[k]?=some x→J k T W→octet_parts_1_X x T W vs→YC Try.prog l vs W fun e W' =>
   (e=.returned (.bool true)∧∃ T',J (k + 1) T' W'∧Fr T W W'∧∀ q∈T',q∈T∨W.heap.size≤q)∨(e=.returned (.bool false)∧Jx W')) :
  Calls Try.prog 66 (.func (.yield l) #[] #[]::[.pointer (some ⟨bP1,0,none⟩),.pointer (some ⟨bP2,0,none⟩)]).toArray w fun e W'=>(∃ v,e=.returned v)∧((∃ T,J xs.length T W')∨Jx W'):=by
 unfold octet_parts_1_raw at h
 refine calls_ec Try.func66 rfl rfl rfl ?_
 iterate 2 refine ec_seq ?_
 refine ec_region ?_
 refine o_w (v:=.int .i64 d1) (r_ld one_int rfl (HB1.now.cell rfl)) ?_
 refine o_w (v:=.int .i64 (0:Int)) (r_mov rfl) ?_
 refine eo_nil_sq ?_
 refine ec_block ?_
 obtain ⟨x1,hl1,h⟩:=h
 refine ec_loopIt 0 (I:=(fun (s1:Int × Int × List (Int × Int)) ρ ds w'=>∃ (ρ':Env) (dn1i3:List (Int × Int)) (T1i3:List Nat),ρ=envs ρ' [(6,.int .i64 s1.1),(0,.func (.yield l) #[] #[]),(1,.pointer (some ⟨bP1,0,none⟩)),(2,.pointer (some ⟨bP2,0,none⟩)),(5,.int .i64 d1)]∧ds=[]∧Fr (T0++L) w w'∧Fr L w w'∧J dn1i3.length T1i3 w'∧(∀ q∈T1i3,q∈(T0++L)∨w.heap.size≤q)∧xs=dn1i3++s1.2.2∧(∀ q∈T1i3,q∈L∨w.heap.size≤q)∧bP2∉T1i3∧Blk w' bP2 3 [.int .i64 s1.2.1])) (J:=(fun (y':Unit) ρ ds wz=>bodyE Try.prog #[] (fun e W'=>(∃ v,e=.returned v)∧((∃ T,J xs.length T W')∨Jx W')) .ret ρ ds wz)) (K:=(fun ρ ds wz=>bodyE Try.prog #[] (fun e W'=>(∃ v,e=.returned v)∧((∃ T,J xs.length T W')∨Jx W')) .ret ρ ds wz)) ?_ hl1 ?_ ?_ ?_ ?_
 ·intro s1 z1 ρ1 ds1 w1r hI1 hb1
  obtain ⟨ρ1r,dn1r3,T1r3,rfl,rfl,F1r,E1r,j1r3,N1r3,D1r3,Ti1r3,nT1r3bP2,B1rbP2⟩:=hI1
  have h:=hb1
  unfold octet_parts_1_b1 at h
  refine ec_seq ?_
  refine ec_region ?_
  refine o_w (v:=.bool (decide (s1.1<d1))) (r_int rfl rfl rfl) ?_
  refine eo_nil_sq ?_
  refine ec_seq ?_
  refine ec_cond rfl (fun hc4=>?_) (fun hc4=>?_)
  ·replace h:=h.1 hc4
   refine ec_skip ?_
   refine sq_n ?_
   refine ec_seq ?_
   refine ec_block ?_
   refine ec_seq ?_
   refine ec_region ?_
   refine o_w (v:=.int .i64 s1.1) (r_mov rfl) ?_
   refine o_w (v:=.int .i64 s1.1) (r_asg rfl) ?_
   refine eo_nil_sq ?_
   iterate 2 refine ec_seq ?_
   refine ec_region ?_
   refine o_w (v:=.func (.yield l) #[] #[]) (r_mov rfl) ?_
   refine o_w (v:=.int .i64 s1.1) (r_mov rfl) ?_
   refine o_w (v:=.int .i64 s1.2.1) (r_ld one_int rfl (B1rbP2.cell rfl)) ?_
   refine o_w (v:=.int .i64 (IntKind.i64.wrap ((BitVec.ofInt IntKind.i64.bits s1.2.1 &&& BitVec.ofInt IntKind.i64.bits (255:Int)).toNat:Int))) (r_int rfl rfl rfl) ?_
   obtain ⟨r5,er5,h⟩:=h
   refine o_yield (vs:=[.int .i64 s1.1,.int .i64 (IntKind.i64.wrap ((BitVec.ofInt IntKind.i64.bits s1.2.1 &&& BitVec.ofInt IntKind.i64.bits (255:Int)).toNat:Int))]) rfl rfl (hY _ (s1.1,(IntKind.i64.wrap ((BitVec.ofInt IntKind.i64.bits s1.2.1 &&& BitVec.ofInt IntKind.i64.bits (255:Int)).toNat:Int))) _ _ _ (it_at D1r3 er5) (hJe _ _ _ _ j1r3 (Fr.refl _ _)) rfl) rfl rfl ?_ (by rintro c w' (⟨h,_⟩ | ⟨h,_⟩) <;> cases h) (by rintro w' (⟨h,_⟩ | ⟨h,_⟩) <;> cases h)
   rintro v5 w5 (⟨ev5,T5,J5,F5,N5⟩ | ⟨ev5,X5⟩)
   ·cases ev5; replace h:=h.1
    have D5:=it_next D1r3 er5
    have j5:=it_len (x:=(s1.1,(IntKind.i64.wrap ((BitVec.ofInt IntKind.i64.bits s1.2.1 &&& BitVec.ofInt IntKind.i64.bits (255:Int)).toNat:Int)))) J5
    have hl5:=hJl _ _ _ j5
    have Ti5:∀ m∈T5,m∈L∨w.heap.size≤m:=fun m hm=>(N5 m hm).elim (Ti1r3 m) (fun h=>.inr (Nat.le_trans (E1r.size) h))
    have nT5bP2:bP2∉T5:=fun hm=>(N5 _ hm).elim nT1r3bP2 (fun h=>by have:=B1rbP2.lt; omega)
    have P7:∀ m∈T5,m∈(T0++L)∨w.heap.size≤m:=fun m hm=>(N5 m hm).elim (fun h=>(show ∀ m∈T1r3,m∈(T0++L)∨w.heap.size≤m from N1r3) m h) (fun h=>.inr (Nat.le_trans (F1r.size) h))
    have E8:=Fr.stp E1r F5 Ti1r3
    have G10:Fr (T0++L) w w5:=F1r.stp F5 N1r3
    have B11:=B1rbP2.fr F5 nT1r3bP2
    refine o_w (r_not rfl) ?_
    refine eo_nil_sq ?_
    refine ec_condF rfl rfl ?_
    refine ec_skip ?_
    refine sq_n ?_
    refine ec_region ?_
    refine o_w (v:=.int .i64 s1.2.1) (r_ld one_int rfl (B11.cell rfl)) ?_
    refine o_w (v:=.int .i64 (Int.fdiv s1.2.1 (2 ^ min ((8:Int)).toNat IntKind.i64.bits))) (r_shr rfl rfl rfl) ?_
    refine o_store rfl B11 (vs:=[.int .i64 (Int.fdiv s1.2.1 (2 ^ min ((8:Int)).toNat IntKind.i64.bits))]) rfl sz_int rfl rfl rfl ?_
    intro w12 F12 B12
    have E13:=Fr.stp E8 F12 (fun m hm=>.inl (by rw [List.mem_singleton] at hm; rw [hm]; exact hpbP2))
    have G15:Fr (T0++L) w w12:=G10.stp F12 (upc (.inl (List.mem_append_right _ hpbP2)) (fun m hm=>by cases hm))
    have G16:Fr (bP2::([]:List Nat)) w5 w12:=(Fr.refl _ _).stp F12 (upc (.inl (List.Mem.head _)) (fun m hm=>by cases hm))
    have B12':Blk w12 bP2 _ [.int .i64 (Int.fdiv s1.2.1 (2 ^ min ((8:Int)).toNat IntKind.i64.bits))]:=B12
    refine eo_nil ?_
    refine blk_n ?_
    refine sq_n ?_
    refine ec_region ?_
    refine o_w (v:=.int .i64 (IntKind.i64.wrap (s1.1 + (1:Int)))) (r_int rfl rfl rfl) ?_
    refine o_w (v:=.int .i64 (IntKind.i64.wrap (s1.1 + (1:Int)))) (r_mov rfl) ?_
    refine eo_nil ?_
    subst h
    exact .inr <| lqR_n ⟨_,(dn1r3++[(s1.1,(IntKind.i64.wrap ((BitVec.ofInt IntKind.i64.bits s1.2.1 &&& BitVec.ofInt IntKind.i64.bits (255:Int)).toNat:Int)))]),T5,envs_self ⟨rfl,rfl,rfl,rfl,rfl,trivial⟩,rfl,G15,E13,(hJe _ _ _ _ j5 G16),P7,D5,Ti5,nT5bP2,B12'⟩
   ·cases ev5; replace h:=h.2
    refine o_w (r_not rfl) ?_
    refine eo_nil_sq ?_
    refine ec_condT rfl rfl ?_
    refine ec_ret ?_
    refine sq_ret ?_
    refine blk_ret ?_
    refine sq_ret ?_
    exact .inl ⟨rfl,(end0r ⟨⟨_,rfl⟩,.inr (hJxe _ _ X5 (Fr.refl _ _))⟩)⟩
  ·replace h:=h.2 hc4
   refine ec_exit ?_
   refine sq_exit ?_
   subst h
   exact .inr <| lqR_x ⟨_,dn1r3,T1r3,envs_self ⟨rfl,rfl,rfl,rfl,rfl,trivial⟩,rfl,F1r,E1r,(hJe _ _ _ _ j1r3 (Fr.refl _ _)),N1r3,D1r3,Ti1r3,nT1r3bP2,B1rbP2⟩
 ·exact ⟨_,([]:List (Int × Int)),T0,envs_self ⟨rfl,rfl,rfl,rfl,rfl,trivial⟩,rfl,(Fr.refl _ _),(Fr.refl _ _),(hJe _ _ _ _ hJ0 (Fr.refl _ _)),(fun q hq=>.inl (by first | exact List.mem_append_left _ hq | simp [hq])),(it_nil (xs:=xs)),(fun m hm=>.inl (hT0 m hm)),hnbP2,HB2⟩
 ·rintro sx1 rfl ρ1e ds1e w1e ⟨ρ1e,dn1e3,T1e3,rfl,rfl,F1e,E1e,j1e3,N1e3,D1e3,Ti1e3,nT1e3bP2,B1ebP2⟩
  replace h:=h.1 _ rfl
  have G18:Fr L w w1e:=(Fr.refl _ _).stp F1e (upo (fun m hm=>.inl (hT0 m hm)) (fun _ h=>.inl h))
  refine blk_hit ?_
  refine sq_n ?_
  refine ec_region ?_
  refine o_w (v:=.func (.yield l) #[] #[]) (r_mov rfl) ?_
  refine o_w (v:=.int .i64 d1) (r_ld one_int rfl ((HB1.fr G18 (fun _ h=>h)).now.cell rfl)) ?_
  refine o_w (v:=.int .i64 sx1.2.1) (r_ld one_int rfl (B1ebP2.cell rfl)) ?_
  obtain ⟨r20,er20,h⟩:=h
  refine o_yield (vs:=[.int .i64 d1,.int .i64 sx1.2.1]) rfl rfl (hY _ (d1,sx1.2.1) _ _ _ (it_at D1e3 er20) (hJe _ _ _ _ j1e3 (Fr.refl _ _)) rfl) rfl rfl ?_ (by rintro c w' (⟨h,_⟩ | ⟨h,_⟩) <;> cases h) (by rintro w' (⟨h,_⟩ | ⟨h,_⟩) <;> cases h)
  rintro v20 w20 (⟨ev20,T20,J20,F20,N20⟩ | ⟨ev20,X20⟩)
  ·cases ev20; replace h:=h.1
   have D20:=it_next D1e3 er20
   have j20:=it_len (x:=(d1,sx1.2.1)) J20
   have hl20:=hJl _ _ _ j20
   have Ti20:∀ m∈T20,m∈L∨w.heap.size≤m:=fun m hm=>(N20 m hm).elim (Ti1e3 m) (fun h=>.inr (Nat.le_trans (E1e.size) h))
   have nT20bP2:bP2∉T20:=fun hm=>(N20 _ hm).elim nT1e3bP2 (fun h=>by have:=B1ebP2.lt; omega)
   refine eo_nil ?_
   have hr:=h
   exact (end0 ⟨⟨_,rfl⟩,.inl ⟨_,it_end D20 hr (hJe _ _ _ _ j20 (Fr.refl _ _))⟩⟩)
  ·cases ev20; replace h:=h.2
   refine eo_nil ?_
   have hr:=h
   exact (end0 ⟨⟨_,rfl⟩,.inr (hJxe _ _ X20 (Fr.refl _ _))⟩)
 ·rintro y1 rfl ρ1q ds1q w1q hJ
  refine blk_ret ?_
  refine sq_ret ?_
  exact hJ
 ·intro ρ1q ds1q w1q hJ
  refine blk_ret ?_
  refine sq_ret ?_
  exact hJ
theorem octet_parts_1_it {L:List Nat} {w:World} {bP1:Nat} (d1:Int) (HB1:Stb L w (fun w=>Blk w bP1 3 [.int .i64 d1])) {bP2:Nat} (d2:Int) (HB2:Blk w bP2 3 [.int .i64 d2]) (hpbP2:bP2∈L) (hL:Lt L w) {xs:List (Int × Int)} (h:octet_parts_1_raw d1 d2 xs):IterCP Try.prog 66 [.pointer (some ⟨bP1,0,none⟩),.pointer (some ⟨bP2,0,none⟩)] xs octet_parts_1_X L [bP2] w :=
 fun l J Jx T0 hT0 hPv hJ0 h1 h2 h3 h4=>octet_parts_1_it1 d1 HB1 d2 HB2 hpbP2 hL h l J Jx T0 hT0 (hPv _ (List.Mem.head _)) hJ0 h1 h2 h3 h4
end Go.Proofs.Ythfkbabgkacfnaa

/- A number's bytes: the iterator of octet. -/
namespace Go.Proofs.Ythfkbabgkacfnaa
open Go Go.RowKit
set_option linter.unusedVariables false
set_option linter.unusedSimpArgs false

def lo8 (n:Int):Int:=(IntKind.i64.wrap ((BitVec.ofInt IntKind.i64.bits n &&& BitVec.ofInt IntKind.i64.bits (255:Int)).toNat:Int))
def sh8 (n:Int):Int:=(Int.fdiv n (2 ^ min ((8:Int)).toNat IntKind.i64.bits))
def partsF:Nat→Int→Int→List (Int × Int)
 | 0,i,n=>[(i,n)]
 | k + 1,i,n=>(i,lo8 n)::partsF k (i + 1) (sh8 n)
def partsL (n w:Int):List (Int × Int):=partsF w.toNat 0 n

theorem parts_ev (w n:Int) (h:0≤w∧w≤7):octet_parts_1_raw w n (partsL n w):=by
 obtain ⟨x,hx,hp⟩:=loop_run (body:=octet_parts_1_b1 w) (fun s=>(w - s.1).toNat) (fun s=>∃ (k i:Nat) (m:Int),k + i=w.toNat∧s=((i:Int),m,partsF k (i:Int) m)) (fun x=>∃ m,x=.inl (w,m,[(w,m)])) (by
  rintro s ⟨k,i,m,hk,rfl⟩
  cases k with
  | zero =>
   have e:(i:Int)=w:=by omega
   refine .inr ⟨.inl ((i:Int),m,[((i:Int),m)]),⟨fun c=>by simp at c; omega,fun _=>rfl⟩,m,by rw [e]⟩
  | succ k =>
   refine .inl ⟨(((i + 1:Nat):Int),sh8 m,partsF k ((i + 1:Nat):Int) (sh8 m)),⟨fun _=>⟨partsF k ((i:Int) + 1) (sh8 m),rfl,?_,trivial⟩,fun c=>by simp at c; omega⟩,⟨k,i + 1,sh8 m,by omega,rfl⟩,by simp; omega⟩
   have e:IntKind.i64.wrap ((i:Int) + (1:Int))=((i + 1:Nat):Int):=wrapS (n:=i + 1) (by omega) (by omega)
   show _=Sum.inl (IntKind.i64.wrap ((i:Int) + (1:Int)),sh8 m,_)
   rw [e]; rfl) ((0:Int),n,partsL n w) ⟨w.toNat,0,n,by omega,rfl⟩
 obtain ⟨m,rfl⟩:=hp
 refine ⟨_,hx,fun s e=>?_,fun _ _=>trivial⟩
 cases e
 exact ⟨[],rfl,rfl,trivial⟩
theorem parts_it {L:List Nat} {w:World} {bP1:Nat} (d1:Int) (HB1:Stb L w (fun w=>Blk w bP1 3 [.int .i64 d1])) {bP2:Nat} (d2:Int) (HB2:Blk w bP2 3 [.int .i64 d2]) (hpbP2:bP2∈L) (hL:Lt L w) (h:0≤d1∧d1≤7) :
  IterCP Try.prog 66 [.pointer (some ⟨bP1,0,none⟩),.pointer (some ⟨bP2,0,none⟩)] (partsL d2 d1) octet_parts_1_X L [bP2] w:=octet_parts_1_it d1 HB1 d2 HB2 hpbP2 hL (parts_ev d1 d2 h)
end Go.Proofs.Ythfkbabgkacfnaa

/- Numbers as bytes: what each function comes to. -/
namespace Go.Proofs.Ythfkbabgkacfnaa
open Go Go.RowKit
set_option linter.unusedVariables false
set_option linter.unusedSimpArgs false
def octet_Put_b66 (d1:Int) (s66:List Int × Str × Int) (y66:(Int × Int)) (z66:(List Int × Str × Int) ⊕ (List Int × Str × Int)):Prop :=
 ((decide (y66.1<d1))=true→((0≤y66.1∧y66.1<(s66.1.length:Int))∧(z66=.inl ((s66.1.set y66.1.toNat (IntKind.u8.wrap y66.2)),s66.2.1,s66.2.2))))∧((decide (y66.1<d1))=false→(((decide ((0:Int)<y66.2))=true→(z66=.inr (s66.1,([]:Str),(1:Int))))∧((decide ((0:Int)<y66.2))=false→(z66=.inl (s66.1,s66.2.1,s66.2.2)))))
def octet_Put_raw (d0:Int) (d1:Int) (y:Str × Int):Prop :=
 ((((decide (d1<(1:Int)))||(decide ((7:Int)<d1)))||(decide (d0<(0:Int))))=true→(y=(([]:Str),(1:Int))))∧((((decide (d1<(1:Int)))||(decide ((7:Int)<d1)))||(decide (d0<(0:Int))))=false→((0≤d1∧d1 * 1≤281474976710656∧d1≤9223372036854775807)∧(((0≤d1∧d1≤7))∧(∃ x66,ItR (octet_Put_b66 d1) ((List.replicate (d1).toNat (0:Int)),([]:Str),(0:Int)) (partsL d0 d1) x66∧(∀ sx66,x66=.inl sx66→(y=((bstr sx66.1),(0:Int))))∧(∀ yx66,x66=.inr yx66→(y=(yx66.2.1,yx66.2.2)))))))
set_option maxRecDepth 20000 in
set_option maxHeartbeats 4000000 in
theorem octet_Put_c {L:List Nat} {w:World} (d0:Int) (d1:Int) (hL:Lt L w) {y:Str × Int} (h:octet_Put_raw d0 d1 y) :
  Calls Try.prog 53 [.int .i64 d0,.int .i64 d1].toArray w (Ret fun v w'=>Ext w w'∧v=.tuple #[str y.1,.int .i64 y.2]):=by
 unfold octet_Put_raw at h
 refine calls_ecM Try.func53 rfl rfl rfl ?_
 refine ec_seq ?_
 refine ec_region ?_
 refine o_box (cs:=[.int .i64 d1]) rfl rfl rfl ?_
 intro b1 w1 e1 F1 B1
 have S1:=B1.stb (nin hL e1)
 refine o_alloc zero_string rfl rfl rfl ?_
 intro b2 w2 e2 F2 B2
 have n2:w.heap.size≤b2:=by rw [e2]; exact F1.size
 have m3:w1.heap.size≤b2:=Nat.le_of_eq e2.symm
 have E4:=F1.trans F2
 have G5:Fr L w1 w2:=Fr.ext F2
 refine o_alloc zero_api_Errno rfl rfl rfl ?_
 intro b6 w6 e6 F6 B6
 have n6:w.heap.size≤b6:=by rw [e6]; exact E4.size
 have q7:b2<b6:=by rw [e6]; exact B2.lt
 have m8:w1.heap.size≤b6:=by rw [e6]; exact G5.size
 have E9:=E4.trans F6
 refine eo_nil_sq ?_
 iterate 2 refine ec_seq ?_
 refine ec_region ?_
 refine o_w (v:=.int .i64 d1) (r_ld one_int rfl ((S1.fr (G5.trans (Fr.ext F6)) (fun _ h=>h)).now.cell rfl)) ?_
 refine o_w (v:=.bool (decide (d1<(1:Int)))) (r_int rfl rfl rfl) ?_
 refine o_w (v:=.bool (decide (d1<(1:Int)))) (r_mov rfl) ?_
 refine o_vg (v:=.int .i64 d1) (want_cf (t:=11) rfl rfl) (fun hk=>(r_ld one_int rfl ((S1.fr (G5.trans (Fr.ext F6)) (fun _ h=>h)).now.cell rfl))) rfl rfl ?_
 refine o_vg (v:=.bool (decide ((7:Int)<d1))) (want_cf (t:=11) rfl rfl) (fun hk=>(r_int (gdT hk) rfl rfl)) rfl rfl ?_
 refine o_w (v:=.bool ((decide (d1<(1:Int)))||(decide ((7:Int)<d1)))) (r_pickOr rfl rfl (fun hf=>(gdT (notT hf)))) ?_
 refine o_w (v:=.bool ((decide (d1<(1:Int)))||(decide ((7:Int)<d1)))) (r_mov rfl) ?_
 refine o_vg (v:=.int .i64 d0) (want_cf (t:=15) rfl rfl) (fun hk=>(r_mov rfl)) rfl rfl ?_
 refine o_vg (v:=.bool (decide (d0<(0:Int)))) (want_cf (t:=15) rfl rfl) (fun hk=>(r_int (gdT hk) rfl rfl)) rfl rfl ?_
 refine o_w (v:=.bool (((decide (d1<(1:Int)))||(decide ((7:Int)<d1)))||(decide (d0<(0:Int))))) (r_pickOr rfl rfl (fun hf=>(gdT (notT hf)))) ?_
 refine eo_nil_sq ?_
 refine ec_cond rfl (fun hc12=>?_) (fun hc12=>?_)
 ·replace h:=h.1 hc12
  refine ec_seq ?_
  refine ec_region ?_
  refine o_store rfl (B2.ex F6) (vs:=[str ([]:Str)]) rfl sz_string rfl rfl rfl ?_
  intro w13 F13 B13
  have E14:=Ext.st E9 F13 (by simp; omega)
  have B16:=B6.fr F13 (by simp; omega)
  have B13':Blk w13 b2 _ [str ([]:Str)]:=B13
  refine o_store rfl B16 (vs:=[.int .i64 (1:Int)]) rfl sz_api_Errno rfl rfl rfl ?_
  intro w17 F17 B17
  have E18:=Ext.st E14 F17 (by simp; omega)
  have B20:=B13'.fr F17 (by simp; omega)
  have B17':Blk w17 b6 _ [.int .i64 (1:Int)]:=B17
  refine eo_nil_sq ?_
  refine ec_ret ?_
  refine sq_ret ?_
  subst h
  exact marks0 ((endr2 (rv_c rfl (one_string) B20 rfl) (rv_c rfl (one_api_Errno) B17' rfl) ⟨_,rfl,E18,rfl⟩))
 ·replace h:=h.2 hc12
  refine ec_skip ?_
  refine sq_n ?_
  refine ec_seq ?_
  refine ec_region ?_
  refine o_w (v:=.int .i64 d1) (r_ld one_int rfl ((S1.fr (G5.trans (Fr.ext F6)) (fun _ h=>h)).now.cell rfl)) ?_
  have lo21:w.heap.size≤w6.heap.size:=E9.size
  obtain ⟨ha22,h⟩:=h
  refine o_make (k:=(kI .u8)) slc_s_uint8 rfl rfl (z:=(0:Int)) (fun _=>rfl) rfl rfl ha22 (((hL.fr E9).cons (B2.ex F6).lt).cons B6.lt) rfl rfl (by decide) ?_
  intro v21 w21 F21 O21 N21
  have P23:∀ m∈own v21,m∈L∨w1.heap.size≤m:=fun m hm=>.inr (Nat.le_trans ((G5.trans (Fr.ext F6)).size) (N21 m hm))
  have E24:=E9.trans F21
  refine o_alloc zero_s_uint8 rfl rfl rfl ?_
  intro b28 w28 e28 F28 B28
  have n28:w.heap.size≤b28:=by rw [e28]; exact E24.size
  have q29:b2<b28:=by rw [e28]; exact ((B2.ex F6).ex F21).lt
  have q30:b6<b28:=by rw [e28]; exact (B6.ex F21).lt
  have m31:w1.heap.size≤b28:=by rw [e28]; exact ((G5.trans (Fr.ext F6)).trans (Fr.ext F21)).size
  have Ob32:=O21.born F28 (Nat.le_of_eq e28.symm) B28.lt
  have E33:=E24.trans F28
  obtain ⟨A38,c39,rfl⟩:=Ob32.shape
  refine o_store rfl B28 (vs:=[(.slice A38 (List.replicate (d1).toNat (0:Int)).length c39)]) rfl sz_s_uint8 rfl rfl rfl ?_
  intro w40 F40 B40
  have E41:=Ext.st E33 F40 (by simp; omega)
  have G42:Fr L w1 w40:=(((G5.trans (Fr.ext F6)).trans (Fr.ext F21)).trans (Fr.ext F28)).stp F40 (upc (.inr m31) (fun m hm=>by cases hm))
  have B43:=(((B2.ex F6).ex F21).ex F28).fr F40 (by simp; omega)
  have B44:=((B6.ex F21).ex F28).fr F40 (by simp; omega)
  have O45:=Ob32.fr F40 (by simp)
  have B40':Blk w40 b28 _ [(.slice A38 (List.replicate (d1).toNat (0:Int)).length c39)]:=B40
  refine eo_nil_sq ?_
  iterate 2 refine ec_seq ?_
  refine ec_region ?_
  refine o_w (v:=.int .i64 d0) (r_mov rfl) ?_
  refine o_w (v:=.int .i64 d1) (r_ld one_int rfl ((S1.fr G42 (fun _ h=>h)).now.cell rfl)) ?_
  refine o_inl (vs:=[.int .i64 d0,.int .i64 d1]) (caps:=[]) cf_octet_parts rfl rfl rfl rfl ?_
  refine calls_ec Try.func62 rfl rfl rfl ?_
  refine ec_seq ?_
  refine ec_region ?_
  refine o_box (cs:=[.int .i64 d0]) rfl rfl rfl ?_
  intro b46 w46 e46 F46 B46
  have n46:w.heap.size≤b46:=by rw [e46]; exact E41.size
  have q47:b2<b46:=by rw [e46]; exact B43.lt
  have q48:b6<b46:=by rw [e46]; exact B44.lt
  have q49:b28<b46:=by rw [e46]; exact B40'.lt
  have m50:w1.heap.size≤b46:=by rw [e46]; exact G42.size
  have Ob51:=O45.born F46 (Nat.le_of_eq e46.symm) B46.lt
  have E52:=E41.trans F46
  refine o_box (cs:=[.int .i64 d1]) rfl rfl rfl ?_
  intro b58 w58 e58 F58 B58
  have S58:=B58.stb (nin ((((((hL.fr E52).cons (B43.ex F46).lt).cons (B44.ex F46).lt).own Ob51).cons (B40'.ex F46).lt).cons B46.lt) e58)
  have E59:=E52.trans F58
  refine o_w (v:=.nilFunc) (r_asg rfl) ?_
  refine eo_nil_sq ?_
  refine ec_seq ?_
  refine ec_region ?_
  refine o_w (r_mkfn' (vs:=[.pointer (some ⟨b58,0,none⟩),.pointer (some ⟨b46,0,none⟩)]) rfl) ?_
  refine o_w (v:=.func (.func 66) #[] #[.pointer (some ⟨b58,0,none⟩),.pointer (some ⟨b46,0,none⟩)]) (r_asg rfl) ?_
  refine eo_nil_sq ?_
  refine ec_ret ?_
  refine end1 (v:=.func (.func 66) #[] #[.pointer (some ⟨b58,0,none⟩),.pointer (some ⟨b46,0,none⟩)]) rfl ⟨_,rfl,?_⟩
  refine eo_nil_sq ?_
  refine ec_block ?_
  obtain ⟨ha67,h⟩:=h
  refine ec_range (ps:=[24,25]) (gf:=66) (lb:=[.pointer (some ⟨b58,0,none⟩),.pointer (some ⟨b46,0,none⟩)]) rfl cf_octet_parts_1 ?_
  intro D66 l66 rec66 w66 eD66 e66 hr66 F66 BD66 BL66
  have n66:w.heap.size≤D66:=by rw [eD66]; exact E59.size
  have nl66:w.heap.size≤l66:=by omega
  have nd66:D66<l66:=by omega
  have q68:b2<D66:=by rw [eD66]; exact ((B43.ex F46).ex F58).lt
  have q69:b6<D66:=by rw [eD66]; exact ((B44.ex F46).ex F58).lt
  have q70:b28<D66:=by rw [eD66]; exact ((B40'.ex F46).ex F58).lt
  have q71:b46<D66:=by rw [eD66]; exact (B46.ex F58).lt
  have m72:w1.heap.size≤D66:=by rw [eD66]; exact ((G42.trans (Fr.ext F46)).trans (Fr.ext F58)).size
  have m73:w1.heap.size≤l66:=by omega
  have m74:w58.heap.size≤D66:=Nat.le_of_eq eD66.symm
  have m75:w58.heap.size≤l66:=by omega
  have Ob76:=(Ob51.ex F58).born2 F66 (Nat.le_of_eq eD66.symm) BD66.lt (show _≤l66 by omega) BL66.lt
  have E77:=E59.trans F66
  have G79:Fr (b46::(b28::(own (.slice A38 (List.replicate (d1).toNat (0:Int)).length c39)++(b6::(b2::L))))) w58 w66:=Fr.ext F66
  obtain ⟨x66,hl66,h⟩:=h
  refine range_run (S:=List Int × Str × Int) (R:=List Int × Str × Int) (parts_it d1 (S58.up G79 (fun _ h=>h) (upc (.inr m75) (upc (.inr m74) (upc (.inl (List.Mem.head _)) (upc (.inl (List.Mem.tail _ (List.Mem.head _))) (upo (fun m hm=>Or.inl (List.Mem.tail _ (List.Mem.tail _ (List.mem_append_left _ hm)))) (upc (.inl (List.Mem.tail _ (List.Mem.tail _ (List.mem_append_right _ (List.Mem.head _))))) (upc (.inl (List.Mem.tail _ (List.Mem.tail _ (List.mem_append_right _ (List.Mem.tail _ (List.Mem.head _)))))) (fun m hm=>Or.inl (List.Mem.tail _ (List.Mem.tail _ (List.mem_append_right _ (List.Mem.tail _ (List.Mem.tail _ hm)))))))))))))) d0 ((B46.ex F58).ex F66) (List.Mem.tail _ (List.Mem.tail _ (List.Mem.head _))) ((((((((hL.fr E77).cons (((B43.ex F46).ex F58).ex F66).lt).cons (((B44.ex F46).ex F58).ex F66).lt).own Ob76).cons (((B40'.ex F46).ex F58).ex F66).lt).cons ((B46.ex F58).ex F66).lt).cons BD66.lt).cons BL66.lt) ha67) (fun (s66:List Int × Str × Int) T w'=>T=(l66::(D66::(b28::(own (.slice A38 (List.replicate (d1).toNat (0:Int)).length c39)++(b6::(b2::L))))))∧Fr (l66::(D66::(b46::(b28::(own (.slice A38 (List.replicate (d1).toNat (0:Int)).length c39)++(b6::(b2::L))))))) w66 w'∧Ext w w'∧OwnS (kI .u8) (w6.heap.size) 5 (l66::(D66::(b46::(b28::(b6::(b2::L)))))) w' (.slice A38 (List.replicate (d1).toNat (0:Int)).length c39) s66.1∧Blk w' b2 9 [str s66.2.1]∧Blk w' b28 104 [(.slice A38 (List.replicate (d1).toNat (0:Int)).length c39)]∧Blk w' b6 32 [.int .i64 s66.2.2]∧Lp w' D66 (.deferred (some []))∧Lp w' l66 (.loop (rec66 .ready none))) (fun (s66:List Int × Str × Int) w'=>Fr (l66::(D66::(b46::(b28::(own (.slice A38 (List.replicate (d1).toNat (0:Int)).length c39)++(b6::(b2::L))))))) w66 w'∧Ext w w'∧OwnS (kI .u8) (w6.heap.size) 5 (l66::(D66::(b46::(b28::(b6::(b2::L)))))) w' (.slice A38 (List.replicate (d1).toNat (0:Int)).length c39) s66.1∧Blk w' b2 9 [str s66.2.1]∧Blk w' b28 104 [(.slice A38 (List.replicate (d1).toNat (0:Int)).length c39)]∧Blk w' b6 32 [.int .i64 s66.2.2]∧Lp w' D66 (.deferred (some []))∧Lp w' l66 (.loop (rec66 .done (some .ret)))) hl66 ((l66::(D66::(b28::(own (.slice A38 (List.replicate (d1).toNat (0:Int)).length c39)++(b6::(b2::L))))))) (upc (List.Mem.head _) (upc (List.Mem.tail _ (List.Mem.head _)) (upc (List.Mem.tail _ (List.Mem.tail _ (List.Mem.tail _ (List.Mem.head _)))) (upo (fun m hm=>(List.Mem.tail _ (List.Mem.tail _ (List.Mem.tail _ (List.Mem.tail _ (List.mem_append_left _ hm)))))) (upc (List.Mem.tail _ (List.Mem.tail _ (List.Mem.tail _ (List.Mem.tail _ (List.mem_append_right _ (List.Mem.head _)))))) (upc (List.Mem.tail _ (List.Mem.tail _ (List.Mem.tail _ (List.Mem.tail _ (List.mem_append_right _ (List.Mem.tail _ (List.Mem.head _))))))) (fun m hm=>(List.Mem.tail _ (List.Mem.tail _ (List.Mem.tail _ (List.Mem.tail _ (List.mem_append_right _ (List.Mem.tail _ (List.Mem.tail _ hm)))))))))))))) (fun m hm hT=>(show ∀ x∈(l66::(D66::(b28::(own (.slice A38 (List.replicate (d1).toNat (0:Int)).length c39)++(b6::(b2::L)))))),x≠b46 from (upc (by omega) (upc (by omega) (upc (by omega) (upo (fun m hm e=>(Ob76.below b46 (by simp)).2 (e ▸ hm)) (upc (by omega) (upc (by omega) (fun q hq e=>by have:=hL q hq; omega)))))))) m hT (by rw [List.mem_singleton] at hm; exact hm)) ⟨rfl,(Fr.refl _ _),E77,Ob76,(((B43.ex F46).ex F58).ex F66),(((B40'.ex F46).ex F58).ex F66),(((B44.ex F46).ex F58).ex F66),BD66,BL66⟩ (fun _ _ w' w'' h f=>by obtain ⟨rfl,F,E,O66i1,B66ib2,B66ib28,B66ib6,B66iD66,B66il66⟩:=h; exact ⟨rfl,F.trans (f.mono (by simp)),Ext.st E f (by simp; omega),O66i1.fr f (by simp),B66ib2.fr f (by simp; omega),B66ib28.fr f (by simp; omega),B66ib6.fr f (by simp; omega),B66iD66.fr f (by simp; omega),B66il66.fr f (by simp; omega)⟩) (fun _ w' w'' h f=>by obtain ⟨F,E,O66i1,B66ib2,B66ib28,B66ib6,B66iD66,B66il66⟩:=h; exact ⟨F.trans (f.mono (by simp)),Ext.st E f (by simp; omega),O66i1.fr f (by simp),B66ib2.fr f (by simp; omega),B66ib28.fr f (by simp; omega),B66ib6.fr f (by simp; omega),B66iD66.fr f (by simp; omega),B66il66.fr f (by simp; omega)⟩) (fun _ _ w' h=>by obtain ⟨rfl,F,E,O66i1,B66ib2,B66ib28,B66ib6,B66iD66,B66il66⟩:=h; exact (((((((hL.fr E).cons B66ib2.lt).cons B66ib6.lt).own O66i1).cons B66ib28.lt).cons B66iD66.lt).cons B66il66.lt)) ?_ ?_ ?_
  ·intro s66 y66 z66 T66 w66r vs66 hI66 hX66 hb66
   obtain ⟨rfl,F66r,E66r,O66r1,B66rb2,B66rb28,B66rb6,B66rD66,B66rl66⟩:=hI66
   have h:=hb66
   unfold octet_Put_b66 at h
   have G85:Fr L w1 w66r:=(((G42.trans (Fr.ext F46)).trans (Fr.ext F58)).trans (Fr.ext F66)).stp F66r (upc (.inr m73) (upc (.inr m72) (upc (.inr m50) (upc (.inr m31) (upo P23 (upc (.inr m8) (upc (.inr m3) (fun _ h=>.inl h))))))))
   obtain rfl:=hX66
   refine range_round (ps:=[24,25]) hr66 B66rl66 rfl rfl ?_
   refine ec_seq ?_
   refine ec_region ?_
   refine o_w (v:=.int .i64 y66.1) (r_asg rfl) ?_
   refine eo_nil_sq ?_
   refine ec_region ?_
   refine o_w (v:=.int .i64 y66.2) (r_asg rfl) ?_
   refine eo_nil ?_
   refine ⟨rfl,rfl,B66rl66,fun w87 F88 BL89=>?_⟩
   have E90:=Ext.st E66r F88 (by simp; omega)
   have G91:Fr L w1 w87:=G85.stp F88 (upc (.inr m73) (fun m hm=>by cases hm))
   have G93:Fr (l66::(D66::(b46::(b28::(own (.slice A38 (List.replicate (d1).toNat (0:Int)).length c39)++(b6::(b2::L))))))) w66 w87:=F66r.stp F88 (upc (.inl (List.Mem.head _)) (fun m hm=>by cases hm))
   have G94:Fr (l66::(D66::(b28::(own (.slice A38 (List.replicate (d1).toNat (0:Int)).length c39)++(b6::(b2::L)))))) w66r w87:=(Fr.refl _ _).stp F88 (upc (.inl (List.Mem.head _)) (fun m hm=>by cases hm))
   have B95:=B66rb2.fr F88 (by simp; omega)
   have B96:=B66rb6.fr F88 (by simp; omega)
   have B97:=B66rb28.fr F88 (by simp; omega)
   have B98:=B66rD66.fr F88 (by simp; omega)
   have O99:=O66r1.fr F88 (by simp)
   refine ec_block ?_
   refine ec_seq ?_
   refine ec_region ?_
   refine o_w (v:=.int .i64 y66.1) (r_mov rfl) ?_
   refine o_w (v:=.int .i64 d1) (r_ld one_int rfl ((S1.fr G91 (fun _ h=>h)).now.cell rfl)) ?_
   refine o_w (v:=.bool (decide (y66.1<d1))) (r_int rfl rfl rfl) ?_
   refine eo_nil_sq ?_
   refine ec_cond rfl (fun hc100=>?_) (fun hc100=>?_)
   ·replace h:=h.1 hc100
    refine ec_region ?_
    refine o_w (v:=(.slice A38 (List.replicate (d1).toNat (0:Int)).length c39)) (r_ld one_s_uint8 rfl (B97.cell rfl)) ?_
    refine o_w (v:=.int .i64 y66.1) (r_mov rfl) ?_
    refine o_w (v:=.int .i64 y66.2) (r_mov rfl) ?_
    refine o_w (v:=.int .u8 (IntKind.u8.wrap y66.2)) (r_conv un_int un_uint8 rfl) ?_
    obtain ⟨hn104,H103⟩:=O99.stillAt
    have Zanc105:=Fr.refl (l66::(D66::(b46::(b28::(b6::(b2::L)))))) w87
    obtain ⟨ha107,h⟩:=h
    obtain ⟨cs108,l110,H109⟩:=Stb.elem (by decide) (H103.fr Zanc105 (fun _ h=>h)) y66.1 ha107.1 ha107.2
    obtain ⟨rfl,H109'⟩:=kI_open2 H109
    refine o_w (r_ia slc_s_uint8 rfl rfl ((H103.fr Zanc105 (fun _ h=>h)).now.2 _ (lt_toNat ha107.1 ha107.2)).1 ha107.1 (hn104 ▸ ha107.2)) ?_
    refine o_ostore2 (by first | exact hn104 | (simp only [List.length_set]; exact hn104)) rfl O99 ha107.1 (hn104 ▸ ha107.2) rfl (vs:=[.int .u8 (IntKind.u8.wrap y66.2)]) sz_uint8 rfl rfl (x:=(IntKind.u8.wrap y66.2)) (fun _ _=>rfl) rfl ?_
    intro w111 F111 O111
    have E112:=Ext.st E90 F111 (fun m hm=>Nat.le_trans lo21 (O99.lo m hm))
    have G115:Fr (l66::(D66::(b46::(b28::(own (.slice A38 (List.replicate (d1).toNat (0:Int)).length c39)++(b6::(b2::L))))))) w66 w111:=G93.stp F111 (fun m hm=>.inl (List.Mem.tail _ (List.Mem.tail _ (List.Mem.tail _ (List.Mem.tail _ (List.mem_append_left _ hm))))))
    have G116:Fr (l66::(D66::(b28::(own (.slice A38 (List.replicate (d1).toNat (0:Int)).length c39)++(b6::(b2::L)))))) w66r w111:=G94.stp F111 (fun m hm=>.inl (List.Mem.tail _ (List.Mem.tail _ (List.Mem.tail _ (List.mem_append_left _ hm)))))
    have B119:=B95.fr F111 (fun hm=>(O99.below b2 (by simp)).2 hm)
    have B120:=B96.fr F111 (fun hm=>(O99.below b6 (by simp)).2 hm)
    have B121:=B97.fr F111 (fun hm=>(O99.below b28 (by simp)).2 hm)
    have B122:=BL89.fr F111 (fun hm=>(O99.below l66 (by simp)).2 hm)
    have B123:=B98.fr F111 (fun hm=>(O99.below D66 (by simp)).2 hm)
    refine eo_nil ?_
    refine blk_n ?_
    subst h
    refine ⟨none,rfl,B122,fun w124 F125 BL126=>?_⟩
    have E127:=Ext.st E112 F125 (by simp; omega)
    have G130:Fr (l66::(D66::(b46::(b28::(own (.slice A38 (List.replicate (d1).toNat (0:Int)).length c39)++(b6::(b2::L))))))) w66 w124:=G115.stp F125 (upc (.inl (List.Mem.head _)) (fun m hm=>by cases hm))
    have G131:Fr (l66::(D66::(b28::(own (.slice A38 (List.replicate (d1).toNat (0:Int)).length c39)++(b6::(b2::L)))))) w66r w124:=G116.stp F125 (upc (.inl (List.Mem.head _)) (fun m hm=>by cases hm))
    have B133:=B119.fr F125 (by simp; omega)
    have B134:=B120.fr F125 (by simp; omega)
    have B135:=B121.fr F125 (by simp; omega)
    have B136:=B123.fr F125 (by simp; omega)
    have O137:=O111.fr F125 (by simp)
    exact ⟨rfl,_,⟨rfl,G130,E127,O137,B133,B135,B134,B136,BL126⟩,G131,(upc (.inl (List.Mem.head _)) (upc (.inl (List.Mem.tail _ (List.Mem.head _))) (upc (.inl (List.Mem.tail _ (List.Mem.tail _ (List.Mem.head _)))) (upo (fun m hm=>Or.inl (List.Mem.tail _ (List.Mem.tail _ (List.Mem.tail _ (List.mem_append_left _ hm))))) (upc (.inl (List.Mem.tail _ (List.Mem.tail _ (List.Mem.tail _ (List.mem_append_right _ (List.Mem.head _)))))) (upc (.inl (List.Mem.tail _ (List.Mem.tail _ (List.Mem.tail _ (List.mem_append_right _ (List.Mem.tail _ (List.Mem.head _))))))) (fun m hm=>Or.inl (List.Mem.tail _ (List.Mem.tail _ (List.Mem.tail _ (List.mem_append_right _ (List.Mem.tail _ (List.Mem.tail _ hm)))))))))))))⟩
   ·replace h:=h.2 hc100
    refine ec_seq ?_
    refine ec_region ?_
    refine o_w (v:=.int .i64 y66.2) (r_mov rfl) ?_
    refine o_w (v:=.bool (decide ((0:Int)<y66.2))) (r_int rfl rfl rfl) ?_
    refine eo_nil_sq ?_
    refine ec_cond rfl (fun hc138=>?_) (fun hc138=>?_)
    ·replace h:=h.1 hc138
     refine ec_seq ?_
     refine ec_region ?_
     refine o_store rfl B95 (vs:=[str ([]:Str)]) rfl sz_string rfl rfl rfl ?_
     intro w139 F139 B139
     have E140:=Ext.st E90 F139 (by simp; omega)
     have G143:Fr (l66::(D66::(b46::(b28::(own (.slice A38 (List.replicate (d1).toNat (0:Int)).length c39)++(b6::(b2::L))))))) w66 w139:=G93.stp F139 (upc (.inl (List.Mem.tail _ (List.Mem.tail _ (List.Mem.tail _ (List.Mem.tail _ (List.mem_append_right _ (List.Mem.tail _ (List.Mem.head _)))))))) (fun m hm=>by cases hm))
     have B145:=B96.fr F139 (by simp; omega)
     have B146:=B97.fr F139 (by simp; omega)
     have B147:=BL89.fr F139 (by simp; omega)
     have B148:=B98.fr F139 (by simp; omega)
     have O149:=O99.fr F139 (by simp)
     have B139':Blk w139 b2 _ [str ([]:Str)]:=B139
     refine o_store rfl B145 (vs:=[.int .i64 (1:Int)]) rfl sz_api_Errno rfl rfl rfl ?_
     intro w150 F150 B150
     have E151:=Ext.st E140 F150 (by simp; omega)
     have G154:Fr (l66::(D66::(b46::(b28::(own (.slice A38 (List.replicate (d1).toNat (0:Int)).length c39)++(b6::(b2::L))))))) w66 w150:=G143.stp F150 (upc (.inl (List.Mem.tail _ (List.Mem.tail _ (List.Mem.tail _ (List.Mem.tail _ (List.mem_append_right _ (List.Mem.head _))))))) (fun m hm=>by cases hm))
     have B156:=B139'.fr F150 (by simp; omega)
     have B157:=B146.fr F150 (by simp; omega)
     have B158:=B147.fr F150 (by simp; omega)
     have B159:=B148.fr F150 (by simp; omega)
     have O160:=O149.fr F150 (by simp)
     have B150':Blk w150 b6 _ [.int .i64 (1:Int)]:=B150
     refine eo_nil_sq ?_
     refine ec_ret ?_
     refine blk_ret ?_
     subst h
     refine ⟨some .ret,rfl,B158,fun w161 F162 BL163=>?_⟩
     have E164:=Ext.st E151 F162 (by simp; omega)
     have G167:Fr (l66::(D66::(b46::(b28::(own (.slice A38 (List.replicate (d1).toNat (0:Int)).length c39)++(b6::(b2::L))))))) w66 w161:=G154.stp F162 (upc (.inl (List.Mem.head _)) (fun m hm=>by cases hm))
     have B169:=B156.fr F162 (by simp; omega)
     have B170:=B150'.fr F162 (by simp; omega)
     have B171:=B157.fr F162 (by simp; omega)
     have B172:=B159.fr F162 (by simp; omega)
     have O173:=O160.fr F162 (by simp)
     exact ⟨rfl,⟨G167,E164,O173,B169,B171,B170,B172,BL163⟩⟩
    ·replace h:=h.2 hc138
     refine ec_skip ?_
     refine blk_n ?_
     subst h
     refine ⟨none,rfl,BL89,fun w174 F175 BL176=>?_⟩
     have E177:=Ext.st E90 F175 (by simp; omega)
     have G180:Fr (l66::(D66::(b46::(b28::(own (.slice A38 (List.replicate (d1).toNat (0:Int)).length c39)++(b6::(b2::L))))))) w66 w174:=G93.stp F175 (upc (.inl (List.Mem.head _)) (fun m hm=>by cases hm))
     have G181:Fr (l66::(D66::(b28::(own (.slice A38 (List.replicate (d1).toNat (0:Int)).length c39)++(b6::(b2::L)))))) w66r w174:=G94.stp F175 (upc (.inl (List.Mem.head _)) (fun m hm=>by cases hm))
     have B182:=B95.fr F175 (by simp; omega)
     have B183:=B96.fr F175 (by simp; omega)
     have B184:=B97.fr F175 (by simp; omega)
     have B185:=B98.fr F175 (by simp; omega)
     have O186:=O99.fr F175 (by simp)
     exact ⟨rfl,_,⟨rfl,G180,E177,O186,B182,B184,B183,B185,BL176⟩,G181,(upc (.inl (List.Mem.head _)) (upc (.inl (List.Mem.tail _ (List.Mem.head _))) (upc (.inl (List.Mem.tail _ (List.Mem.tail _ (List.Mem.head _)))) (upo (fun m hm=>Or.inl (List.Mem.tail _ (List.Mem.tail _ (List.Mem.tail _ (List.mem_append_left _ hm))))) (upc (.inl (List.Mem.tail _ (List.Mem.tail _ (List.Mem.tail _ (List.mem_append_right _ (List.Mem.head _)))))) (upc (.inl (List.Mem.tail _ (List.Mem.tail _ (List.Mem.tail _ (List.mem_append_right _ (List.Mem.tail _ (List.Mem.head _))))))) (fun m hm=>Or.inl (List.Mem.tail _ (List.Mem.tail _ (List.Mem.tail _ (List.mem_append_right _ (List.Mem.tail _ (List.Mem.tail _ hm)))))))))))))⟩
  ·rintro sx66 rfl T66 w66e v66 hI66
   replace h:=h.1 _ rfl
   obtain ⟨rfl,F66e,E66e,O66e1,B66eb2,B66eb28,B66eb6,B66eD66,B66el66⟩:=hI66
   refine ⟨⟨_,rfl⟩,none,B66el66,fun w189 F190=>?_⟩
   have E191:=Ext.st E66e F190 (by simp; omega)
   have B194:=B66eb2.fr F190 (by simp; omega)
   have B195:=B66eb6.fr F190 (by simp; omega)
   have B196:=B66eb28.fr F190 (by simp; omega)
   have B197:=B66eD66.fr F190 (by simp; omega)
   have O198:=O66e1.fr F190 (by simp)
   refine blk_n ?_
   refine sq_n ?_
   refine ec_seq ?_
   refine ec_region ?_
   refine o_w (v:=(.slice A38 (List.replicate (d1).toNat (0:Int)).length c39)) (r_ld one_s_uint8 rfl (B196.cell rfl)) ?_
   obtain ⟨hn202,H201⟩:=O198.stillAt
   try rw [← hn202]
   have Zw189_203:=Fr.refl (l66::(D66::(b46::(b28::(b6::(b2::L)))))) w189
   refine o_w (v:=str (bstr sx66.1)) (r_bstr slc_s_uint8 un_uint8 un_string rfl (H201.fr Zw189_203 (fun _ h=>h)).now) ?_
   refine o_store rfl B194 (vs:=[str (bstr sx66.1)]) rfl sz_string rfl rfl rfl ?_
   intro w206 F206 B206
   have E207:=Ext.st E191 F206 (by simp; omega)
   have B211:=B195.fr F206 (by simp; omega)
   have B213:=B197.fr F206 (by simp; omega)
   have B206':Blk w206 b2 _ [str (bstr sx66.1)]:=B206
   refine o_store rfl B211 (vs:=[.int .i64 (0:Int)]) rfl sz_api_Errno rfl rfl rfl ?_
   intro w214 F214 B214
   have E215:=Ext.st E207 F214 (by simp; omega)
   have B219:=B206'.fr F214 (by simp; omega)
   have B221:=B213.fr F214 (by simp; omega)
   have B214':Blk w214 b6 _ [.int .i64 (0:Int)]:=B214
   refine eo_nil_sq ?_
   refine ec_ret ?_
   refine marksS B221 (fun w222 F222=>?_)
   have E223:=Ext.st E215 F222 (by simp; omega)
   have B227:=B219.fr F222 (by simp; omega)
   have B228:=B214'.fr F222 (by simp; omega)
   subst h
   exact marks0 ((endr2 (rv_c rfl (one_string) B227 rfl) (rv_c rfl (one_api_Errno) B228 rfl) ⟨_,rfl,E223,rfl⟩))
  ·rintro yx66 rfl w66q v66 hI66
   replace h:=h.2 _ rfl
   obtain ⟨F66q,E66q,O66q1,B66qb2,B66qb28,B66qb6,B66qD66,B66ql66⟩:=hI66
   refine ⟨⟨_,rfl⟩,(some .ret),B66ql66,fun w232 F233=>?_⟩
   have E234:=Ext.st E66q F233 (by simp; omega)
   have B237:=B66qb2.fr F233 (by simp; omega)
   have B238:=B66qb6.fr F233 (by simp; omega)
   have B240:=B66qD66.fr F233 (by simp; omega)
   refine blk_ret ?_
   refine sq_ret ?_
   refine marksS B240 (fun w242 F242=>?_)
   have E243:=Ext.st E234 F242 (by simp; omega)
   have B246:=B237.fr F242 (by simp; omega)
   have B247:=B238.fr F242 (by simp; omega)
   subst h
   exact marks0 ((endr2 (rv_c rfl (one_string) B246 rfl) (rv_c rfl (one_api_Errno) B247 rfl) ⟨_,rfl,E243,rfl⟩))
end Go.Proofs.Ythfkbabgkacfnaa

/- A number as bytes. -/
namespace Go.Proofs.Ythfkbabgkacfnaa
open Go Go.RowKit
set_option linter.unusedVariables false
set_option linter.unusedSimpArgs false

def bytesF:Nat→Int→List Int
 | 0,_=>[]
 | k + 1,n=>IntKind.u8.wrap (lo8 n)::bytesF k (sh8 n)
def restF:Nat→Int→Int
 | 0,n=>n
 | k + 1,n=>restF k (sh8 n)
theorem bytesF_length:∀ (k:Nat) (n:Int),(bytesF k n).length=k
 | 0,_=>rfl
 | k + 1,n=>by simp [bytesF,bytesF_length k]
def putO (n w:Int):Str × Int :=
 bif (decide (w<1)||decide (7<w))||decide (n<0) then ([],1) else bif decide (0<restF w.toNat n) then ([],1) else (bstr (bytesF w.toNat n),0)
theorem putO_run (w:Int):∀ (k i:Nat) (n:Int) (pre:List Int),((i + k:Nat):Int)=w→pre.length=i →
  ItR (octet_Put_b66 w) (pre++List.replicate k (0:Int),([]:Str),(0:Int)) (partsF k (i:Int) n) (bif decide (0<restF k n) then .inr (pre++bytesF k n,([]:Str),(1:Int)) else .inl (pre++bytesF k n,([]:Str),(0:Int)))
 | 0,i,n,pre,hi,hl=>by
  cases hr:decide (0<restF 0 n) with
  | true=>exact .stop ⟨fun c=>by simp at c; omega,fun _=>⟨fun _=>by simp [bytesF],fun c=>by have c':decide (0<n)=false:=c; have:decide (0<n)=true:=hr; rw [c'] at this; cases this⟩⟩
  | false=>exact .step ⟨fun c=>by simp at c; omega,fun _=>⟨fun c=>(by have c':decide (0<n)=true:=c; have:decide (0<n)=false:=hr; rw [c'] at this; cases this),fun _=>by simp [bytesF]⟩⟩ .nil
 | k + 1,i,n,pre,hi,hl=>by
  have ih:=putO_run w k (i + 1) (sh8 n) (pre++[IntKind.u8.wrap (lo8 n)]) (by omega) (by simp [hl])
  have e1:((i + 1:Nat):Int)=(i:Int) + 1:=by omega
  have e2:∀ z,pre++[IntKind.u8.wrap (lo8 n)]++z=pre++(IntKind.u8.wrap (lo8 n)::z):=fun z=>by simp
  rw [e1,e2,e2] at ih
  refine .step ⟨fun _=>⟨⟨by omega,by simp; omega⟩,?_⟩,fun c=>by simp at c; omega⟩ ih
  congr 2
  simp only [List.replicate_succ,Int.toNat_natCast]
  rw [List.set_append_right _ _ (by omega)]
  simp [hl]
theorem octPut_ev (n w:Int):octet_Put_raw n w (putO n w):=by
 refine ⟨fun hc=>by unfold putO; rw [hc]; rfl,fun hc=>?_⟩
 have hc':=hc
 simp only [Bool.or_eq_false_iff,decide_eq_false_iff_not] at hc'
 refine ⟨⟨by omega,by omega,by omega⟩,⟨by omega,by omega⟩,_,putO_run w w.toNat 0 n [] (by omega) rfl,?_⟩
 unfold putO
 rw [hc]
 cases hr:decide (0<restF w.toNat n) with
 | true=>exact ⟨fun s e=>(by cases e),fun s e=>(by cases e; rfl)⟩
 | false=>exact ⟨fun s e=>(by cases e; rfl),fun s e=>(by cases e)⟩
theorem putO_len (n w:Int):(putO n w).1.length≤7:=by
 unfold putO
 cases hc:((decide (w<1)||decide (7<w))||decide (n<0)) with
 | true=>simp
 | false =>
  simp only [Bool.or_eq_false_iff,decide_eq_false_iff_not] at hc
  cases hr:decide (0<restF w.toNat n) with
  | true=>simp
  | false=>simp [bstr,bytesF_length]; omega
end Go.Proofs.Ythfkbabgkacfnaa

/- Sums as bytes: what each function comes to. -/
namespace Go.Proofs.Ythfkbabgkacfnaa
open Go Go.RowKit
set_option linter.unusedVariables false
set_option linter.unusedSimpArgs false
def digest_Put_b2 (d0:(List Int)) (s2:Str × Int) (z2:(Str × Int) ⊕ ((Str × Int) ⊕ (Str × Int))):Prop :=
 ((decide (s2.2<(4:Int)))=true→((0≤s2.2∧s2.2<((4:Nat):Int))∧(∃ x6,x6=(putO (nth d0 s2.2) (4:Int))∧(((x6.2 != (0:Int))=true→(z2=.inr (.inr (([]:Str),(1:Int)))))∧((x6.2 != (0:Int))=false→(s2.1.length + x6.1.length≤9223372036854775807∧(z2=.inl ((s2.1++x6.1),(IntKind.i64.wrap (s2.2 + (1:Int)))))))))))∧((decide (s2.2<(4:Int)))=false→(z2=.inr (.inl (s2.1,s2.2))))
def digest_Put_raw (d0:(List Int)) (y:Str × Int):Prop :=
 ∃ x2,LoopR (digest_Put_b2 d0) (([]:Str),(0:Int)) x2∧(∀ sx2,x2=.inl sx2→(y=(sx2.1,(0:Int))))∧(∀ y2,x2=.inr y2→(y=y2))
set_option maxRecDepth 20000 in
set_option maxHeartbeats 4000000 in
theorem digest_Put_c {L:List Nat} {w:World} (d0:(List Int)) (hlP0:d0.length=4) (hL:Lt L w) {y:Str × Int} (h:digest_Put_raw d0 y) :
  Calls Try.prog 33 [(.agg #[.int .i64 (nth d0 0),.int .i64 (nth d0 1),.int .i64 (nth d0 2),.int .i64 (nth d0 3)]:Value)].toArray w (Ret fun v w'=>Ext w w'∧v=.tuple #[str y.1,.int .i64 y.2]):=by
 unfold digest_Put_raw at h
 refine calls_ec Try.func33 rfl rfl rfl ?_
 refine ec_seq ?_
 refine ec_region ?_
 refine o_box (cs:=[.int .i64 (nth d0 0),.int .i64 (nth d0 1),.int .i64 (nth d0 2),.int .i64 (nth d0 3)]) rfl rfl rfl ?_
 intro b1 w1 e1 F1 B1
 have S1:=B1.stb (nin hL e1)
 refine o_w (v:=str ([]:Str)) (r_asg rfl) ?_
 refine o_w (v:=.int .i64 (0:Int)) (r_asg rfl) ?_
 refine eo_nil_sq ?_
 refine ec_seq ?_
 refine ec_region ?_
 refine o_w (v:=str ([]:Str)) (r_asg rfl) ?_
 refine eo_nil_sq ?_
 iterate 2 refine ec_seq ?_
 refine ec_region ?_
 refine o_w (v:=.agg #[.int .i64 (nth d0 0),.int .i64 (nth d0 1),.int .i64 (nth d0 2),.int .i64 (nth d0 3)]) (r_lda agg_4_int rfl (vs:=[.int .i64 (nth d0 0),.int .i64 (nth d0 1),.int .i64 (nth d0 2),.int .i64 (nth d0 3)]) rfl (S1.now.part (n:=4) rfl)) ?_
 refine o_w (v:=.int .i64 (0:Int)) (r_mov rfl) ?_
 refine eo_nil_sq ?_
 refine ec_block ?_
 obtain ⟨x2,hl2,h⟩:=h
 refine ec_loopER 0 (I:=(fun (s2:Str × Int) ρ ds w'=>∃ (ρ':Env),ρ=envs ρ' [(4,str s2.1),(10,.int .i64 s2.2),(9,.agg #[.int .i64 (nth d0 0),.int .i64 (nth d0 1),.int .i64 (nth d0 2),.int .i64 (nth d0 3)])]∧ds=[]∧Fr L w1 w'∧Ext w w')) (J:=(fun (y':Str × Int) ρ ds wz=>bodyE Try.prog #[.tmp 2,.tmp 3] (Ret fun v w'=>Ext w w'∧v=.tuple #[str y'.1,.int .i64 y'.2]) .ret ρ ds wz)) ?_ hl2 ?_ ?_ ?_
 ·intro s2 z2 ρ2 ds2 w2r hI2 hb2
  obtain ⟨ρ2r,rfl,rfl,F2r,E2r⟩:=hI2
  have h:=hb2
  unfold digest_Put_b2 at h
  refine ec_seq ?_
  refine ec_region ?_
  refine o_w (v:=.bool (decide (s2.2<(4:Int)))) (r_int rfl rfl rfl) ?_
  refine eo_nil_sq ?_
  refine ec_seq ?_
  refine ec_cond rfl (fun hc4=>?_) (fun hc4=>?_)
  ·replace h:=h.1 hc4
   refine ec_skip ?_
   refine sq_n ?_
   refine ec_seq ?_
   refine ec_block ?_
   refine ec_seq ?_
   refine ec_region ?_
   obtain ⟨ha5,h⟩:=h
   refine o_w (v:=.int .i64 (nth d0 s2.2)) (r_ixA (f:=(Value.int .i64)) (e:=d0) (m:=4) un_4_int one_int sz_int rfl rfl ha5) ?_
   refine o_w (v:=.int .i64 (nth d0 s2.2)) (r_asg rfl) ?_
   refine eo_nil_sq ?_
   refine ec_seq ?_
   refine ec_region ?_
   refine o_w (v:=.int .i64 (nth d0 s2.2)) (r_mov rfl) ?_
   obtain ⟨x6,hx6,h⟩:=h
   refine o_call cf_octet_Put rfl (octet_Put_c (nth d0 s2.2) (4:Int) (hL.fr E2r) (eq_ev hx6 (octPut_ev (nth d0 s2.2) (4:Int)))) rfl rfl ?_
   rintro _ w6 ⟨F6,rfl⟩
   have E7:=E2r.trans F6
   refine o_w (v:=.tuple #[str x6.1,.int .i64 x6.2]) (r_mov rfl) ?_
   refine o_w (v:=str x6.1) (r_ext rfl rfl) ?_
   refine o_w (v:=.int .i64 x6.2) (r_ext rfl rfl) ?_
   refine o_w (v:=str x6.1) (r_asg rfl) ?_
   refine o_w (v:=.int .i64 x6.2) (r_asg rfl) ?_
   refine eo_nil_sq ?_
   iterate 2 refine ec_seq ?_
   refine ec_region ?_
   refine o_w (v:=.int .i64 x6.2) (r_mov rfl) ?_
   refine o_w (v:=.bool (x6.2 != (0:Int))) (r_int rfl rfl rfl) ?_
   refine eo_nil_sq ?_
   refine ec_cond rfl (fun hc10=>?_) (fun hc10=>?_)
   ·replace h:=h.1 hc10
    refine ec_seq ?_
    refine ec_region ?_
    refine o_w (v:=str ([]:Str)) (r_asg rfl) ?_
    refine o_w (v:=.int .i64 (1:Int)) (r_asg rfl) ?_
    refine eo_nil_sq ?_
    refine ec_ret ?_
    refine sq_ret ?_
    refine blk_ret ?_
    refine sq_ret ?_
    subst h
    exact lqR_r (end2 rfl rfl ⟨_,rfl,E7,rfl⟩)
   ·replace h:=h.2 hc10
    refine ec_skip ?_
    refine sq_n ?_
    refine ec_region ?_
    refine o_w (v:=str s2.1) (r_mov rfl) ?_
    refine o_w (v:=str x6.1) (r_mov rfl) ?_
    obtain ⟨ha11,h⟩:=h
    refine o_w (v:=str (s2.1++x6.1)) (r_cat rfl rfl ha11) ?_
    refine o_w (v:=str (s2.1++x6.1)) (r_asg rfl) ?_
    refine eo_nil ?_
    refine blk_n ?_
    refine sq_n ?_
    refine ec_region ?_
    refine o_w (v:=.int .i64 (IntKind.i64.wrap (s2.2 + (1:Int)))) (r_int rfl rfl rfl) ?_
    refine o_w (v:=.int .i64 (IntKind.i64.wrap (s2.2 + (1:Int)))) (r_mov rfl) ?_
    refine eo_nil ?_
    subst h
    exact lqR_n ⟨_,envs_self ⟨rfl,rfl,rfl,trivial⟩,rfl,(F2r.trans (Fr.ext F6)),E7⟩
  ·replace h:=h.2 hc4
   refine ec_exit ?_
   refine sq_exit ?_
   subst h
   exact lqR_x ⟨_,envs_self ⟨rfl,rfl,rfl,trivial⟩,rfl,F2r,E2r⟩
 ·exact ⟨_,envs_self ⟨rfl,rfl,rfl,trivial⟩,rfl,(Fr.refl _ _),F1⟩
 ·rintro sx2 rfl ρ2e ds2e w2e ⟨ρ2e,rfl,rfl,F2e,E2e⟩
  replace h:=h.1 _ rfl
  refine blk_hit ?_
  refine sq_n ?_
  refine ec_seq ?_
  refine ec_region ?_
  refine o_w (v:=str sx2.1) (r_mov rfl) ?_
  refine o_w (v:=str sx2.1) (r_asg rfl) ?_
  refine o_w (v:=.int .i64 (0:Int)) (r_asg rfl) ?_
  refine eo_nil_sq ?_
  refine ec_ret ?_
  subst h
  exact (end2 rfl rfl ⟨_,rfl,E2e,rfl⟩)
 ·rintro y2 rfl ρ2q ds2q w2q hJ
  have hy:=h.2 _ rfl
  subst hy
  refine blk_ret ?_
  refine sq_ret ?_
  exact hJ
end Go.Proofs.Ythfkbabgkacfnaa

/- Sums as bytes. -/
namespace Go.Proofs.Ythfkbabgkacfnaa
open Go Go.RowKit
set_option linter.unusedVariables false
set_option linter.unusedSimpArgs false

def putDF:Nat→Nat→List Int→Str→Str × Int
 | 0,_,_,s=>(s,0)
 | k + 1,i,l,s=>bif (putO (nth l (i:Int)) 4).2 != 0 then ([],1) else putDF k (i + 1) l (s++(putO (nth l (i:Int)) 4).1)
def putD (l:List Int):Str × Int:=putDF 4 0 l []
theorem putD_run (l:List Int):∀ (k i:Nat) (s:Str),i + k=4→s.length≤7 * i→∃ x,LoopR (digest_Put_b2 l) (s,(i:Int)) x∧(∀ sx,x=.inl sx→putDF k i l s=(sx.1,(0:Int)))∧∀ y,x=.inr y→putDF k i l s=y
 | 0,i,s,hi,hs=>⟨.inl (s,(i:Int)),.done ⟨fun c=>by simp at c; omega,fun _=>rfl⟩,fun _ e=>by cases e; rfl,fun _ e=>by cases e⟩
 | k + 1,i,s,hi,hs=>by
  cases hc:((putO (nth l (i:Int)) 4).2 != 0) with
  | true=>
   refine ⟨.inr ([],1),.done ⟨fun _=>⟨⟨by omega,by omega⟩,_,rfl,fun _=>rfl,fun c=>by rw [hc] at c; cases c⟩,fun c=>by simp at c; omega⟩,fun _ e=>(by cases e),fun y e=>?_⟩
   cases e; unfold putDF; rw [hc]; rfl
  | false =>
   have hl:=putO_len (nth l (i:Int)) 4
   obtain ⟨x,hx,h1,h2⟩:=putD_run l k (i + 1) (s++(putO (nth l (i:Int)) 4).1) (by omega) (by simp; omega)
   refine ⟨x,.step ⟨fun _=>⟨⟨by omega,by omega⟩,_,rfl,fun c=>(by rw [hc] at c; cases c),fun _=>⟨by show s.length + (putO (nth l (i:Int)) 4).1.length≤_; omega,?_⟩⟩,fun c=>by simp at c; omega⟩ hx,fun sx e=>?_,fun y e=>?_⟩
   ·have e:IntKind.i64.wrap ((i:Int) + (1:Int))=((i + 1:Nat):Int):=wrapS (n:=i + 1) (by omega) (by omega)
    rw [e]
   ·rw [← h1 sx e]; rw [putDF,hc]; rfl
   ·rw [← h2 y e]; rw [putDF,hc]; rfl
theorem digPut_ev (l:List Int):digest_Put_raw l (putD l):=by
 obtain ⟨x,hx,h1,h2⟩:=putD_run l 4 0 [] rfl (by simp)
 exact ⟨x,hx,h1,h2⟩
end Go.Proofs.Ythfkbabgkacfnaa

/- Frames: what each function comes to. -/
namespace Go.Proofs.Ythfkbabgkacfnaa
open Go Go.RowKit
set_option linter.unusedVariables false
set_option linter.unusedSimpArgs false
def frame_forms_raw (y:(List (Int × Fm))):Prop :=
 y=([((1:Int),(⟨(0:Int),(2147483647:Int),(2147483647:Int),false,true⟩:Fm)),((2:Int),(⟨(0:Int),(2147483647:Int),(2147483647:Int),false,false⟩:Fm)),((3:Int),(⟨(0:Int),(0:Int),(0:Int),true,false⟩:Fm)),((4:Int),(⟨(1:Int),(15:Int),(0:Int),false,true⟩:Fm)),((5:Int),(⟨(0:Int),(0:Int),(0:Int),false,true⟩:Fm)),((6:Int),(⟨(0:Int),(2147483647:Int),(0:Int),false,true⟩:Fm)),((7:Int),(⟨(0:Int),(2147483647:Int),(0:Int),false,false⟩:Fm))]:List (Int × Fm))
set_option maxRecDepth 20000 in
set_option maxHeartbeats 4000000 in
theorem frame_forms_c {L:List Nat} {w:World}  (hL:Lt L w) {y:(List (Int × Fm))} (h:frame_forms_raw y) :
  Calls Try.prog 32 [].toArray w (Ret fun v w'=>Ext w w'∧∃ (b90:Nat),v=.map (some b90)∧Stb L w' (fun w=>Lp w b90 (mObj .i64 (fun d:Fm=>.agg (cFm d).toArray) y))):=by
 have hL0:=hL
 unfold frame_forms_raw at h
 refine calls_ec Try.func32 rfl rfl rfl ?_
 refine ec_seq ?_
 refine ec_region ?_
 refine o_w (v:=.map none) (r_asg rfl) ?_
 refine eo_nil_sq ?_
 refine ec_seq ?_
 refine ec_region ?_
 refine o_mkmap (k:=.i64) (enc:=(fun d:Fm=>.agg (cFm d).toArray)) rfl rfl ?_
 intro b1 w1 e1 F1 B1
 have n1:w.heap.size≤b1:=Nat.le_of_eq e1.symm
 refine o_w (v:=.agg #[.int .i64 (0:Int),.int .i64 (2147483647:Int),.int .i64 (2147483647:Int),.bool false,.bool true]) (r_build bld_frame_form (vs:=[(0,.int .i64 (0:Int)),(1,.int .i64 (2147483647:Int)),(2,.int .i64 (2147483647:Int)),(3,.bool false),(4,.bool true)]) (cells:=[.int .i64 (0:Int),.int .i64 (2147483647:Int),.int .i64 (2147483647:Int),.bool false,.bool true]) rfl rfl) ?_
 refine o_insert (enc:=(fun d:Fm=>.agg (cFm d).toArray)) (l:=([]:List (Int × Fm))) (x:=(⟨(0:Int),(2147483647:Int),(2147483647:Int),false,true⟩:Fm)) mp_map_int_frame_form B1 rfl rfl rfl rfl rfl ?_
 intro w2 F2 B2
 have E3:=Ext.st F1 F2 (by simp; omega)
 have B2':Lp w2 b1 (mObj .i64 (fun d:Fm=>.agg (cFm d).toArray) ([((1:Int),(⟨(0:Int),(2147483647:Int),(2147483647:Int),false,true⟩:Fm))]:List (Int × Fm))):=B2
 refine o_w (v:=.agg #[.int .i64 (0:Int),.int .i64 (2147483647:Int),.int .i64 (2147483647:Int),.bool false,.bool false]) (r_build bld_frame_form (vs:=[(0,.int .i64 (0:Int)),(1,.int .i64 (2147483647:Int)),(2,.int .i64 (2147483647:Int)),(3,.bool false),(4,.bool false)]) (cells:=[.int .i64 (0:Int),.int .i64 (2147483647:Int),.int .i64 (2147483647:Int),.bool false,.bool false]) rfl rfl) ?_
 refine o_insert (enc:=(fun d:Fm=>.agg (cFm d).toArray)) (l:=([((1:Int),(⟨(0:Int),(2147483647:Int),(2147483647:Int),false,true⟩:Fm))]:List (Int × Fm))) (x:=(⟨(0:Int),(2147483647:Int),(2147483647:Int),false,false⟩:Fm)) mp_map_int_frame_form B2' rfl rfl rfl rfl rfl ?_
 intro w4 F4 B4
 have E5:=Ext.st E3 F4 (by simp; omega)
 have B4':Lp w4 b1 (mObj .i64 (fun d:Fm=>.agg (cFm d).toArray) ([((1:Int),(⟨(0:Int),(2147483647:Int),(2147483647:Int),false,true⟩:Fm)),((2:Int),(⟨(0:Int),(2147483647:Int),(2147483647:Int),false,false⟩:Fm))]:List (Int × Fm))):=B4
 refine o_w (v:=.agg #[.int .i64 (0:Int),.int .i64 (0:Int),.int .i64 (0:Int),.bool true,.bool false]) (r_build bld_frame_form (vs:=[(0,.int .i64 (0:Int)),(1,.int .i64 (0:Int)),(2,.int .i64 (0:Int)),(3,.bool true),(4,.bool false)]) (cells:=[.int .i64 (0:Int),.int .i64 (0:Int),.int .i64 (0:Int),.bool true,.bool false]) rfl rfl) ?_
 refine o_insert (enc:=(fun d:Fm=>.agg (cFm d).toArray)) (l:=([((1:Int),(⟨(0:Int),(2147483647:Int),(2147483647:Int),false,true⟩:Fm)),((2:Int),(⟨(0:Int),(2147483647:Int),(2147483647:Int),false,false⟩:Fm))]:List (Int × Fm))) (x:=(⟨(0:Int),(0:Int),(0:Int),true,false⟩:Fm)) mp_map_int_frame_form B4' rfl rfl rfl rfl rfl ?_
 intro w6 F6 B6
 have E7:=Ext.st E5 F6 (by simp; omega)
 have B6':Lp w6 b1 (mObj .i64 (fun d:Fm=>.agg (cFm d).toArray) ([((1:Int),(⟨(0:Int),(2147483647:Int),(2147483647:Int),false,true⟩:Fm)),((2:Int),(⟨(0:Int),(2147483647:Int),(2147483647:Int),false,false⟩:Fm)),((3:Int),(⟨(0:Int),(0:Int),(0:Int),true,false⟩:Fm))]:List (Int × Fm))):=B6
 refine o_w (v:=.agg #[.int .i64 (1:Int),.int .i64 (15:Int),.int .i64 (0:Int),.bool false,.bool true]) (r_build bld_frame_form (vs:=[(0,.int .i64 (1:Int)),(1,.int .i64 (15:Int)),(2,.int .i64 (0:Int)),(3,.bool false),(4,.bool true)]) (cells:=[.int .i64 (1:Int),.int .i64 (15:Int),.int .i64 (0:Int),.bool false,.bool true]) rfl rfl) ?_
 refine o_insert (enc:=(fun d:Fm=>.agg (cFm d).toArray)) (l:=([((1:Int),(⟨(0:Int),(2147483647:Int),(2147483647:Int),false,true⟩:Fm)),((2:Int),(⟨(0:Int),(2147483647:Int),(2147483647:Int),false,false⟩:Fm)),((3:Int),(⟨(0:Int),(0:Int),(0:Int),true,false⟩:Fm))]:List (Int × Fm))) (x:=(⟨(1:Int),(15:Int),(0:Int),false,true⟩:Fm)) mp_map_int_frame_form B6' rfl rfl rfl rfl rfl ?_
 intro w8 F8 B8
 have E9:=Ext.st E7 F8 (by simp; omega)
 have B8':Lp w8 b1 (mObj .i64 (fun d:Fm=>.agg (cFm d).toArray) ([((1:Int),(⟨(0:Int),(2147483647:Int),(2147483647:Int),false,true⟩:Fm)),((2:Int),(⟨(0:Int),(2147483647:Int),(2147483647:Int),false,false⟩:Fm)),((3:Int),(⟨(0:Int),(0:Int),(0:Int),true,false⟩:Fm)),((4:Int),(⟨(1:Int),(15:Int),(0:Int),false,true⟩:Fm))]:List (Int × Fm))):=B8
 refine o_w (v:=.agg #[.int .i64 (0:Int),.int .i64 (0:Int),.int .i64 (0:Int),.bool false,.bool true]) (r_build bld_frame_form (vs:=[(0,.int .i64 (0:Int)),(1,.int .i64 (0:Int)),(2,.int .i64 (0:Int)),(3,.bool false),(4,.bool true)]) (cells:=[.int .i64 (0:Int),.int .i64 (0:Int),.int .i64 (0:Int),.bool false,.bool true]) rfl rfl) ?_
 refine o_insert (enc:=(fun d:Fm=>.agg (cFm d).toArray)) (l:=([((1:Int),(⟨(0:Int),(2147483647:Int),(2147483647:Int),false,true⟩:Fm)),((2:Int),(⟨(0:Int),(2147483647:Int),(2147483647:Int),false,false⟩:Fm)),((3:Int),(⟨(0:Int),(0:Int),(0:Int),true,false⟩:Fm)),((4:Int),(⟨(1:Int),(15:Int),(0:Int),false,true⟩:Fm))]:List (Int × Fm))) (x:=(⟨(0:Int),(0:Int),(0:Int),false,true⟩:Fm)) mp_map_int_frame_form B8' rfl rfl rfl rfl rfl ?_
 intro w10 F10 B10
 have E11:=Ext.st E9 F10 (by simp; omega)
 have B10':Lp w10 b1 (mObj .i64 (fun d:Fm=>.agg (cFm d).toArray) ([((1:Int),(⟨(0:Int),(2147483647:Int),(2147483647:Int),false,true⟩:Fm)),((2:Int),(⟨(0:Int),(2147483647:Int),(2147483647:Int),false,false⟩:Fm)),((3:Int),(⟨(0:Int),(0:Int),(0:Int),true,false⟩:Fm)),((4:Int),(⟨(1:Int),(15:Int),(0:Int),false,true⟩:Fm)),((5:Int),(⟨(0:Int),(0:Int),(0:Int),false,true⟩:Fm))]:List (Int × Fm))):=B10
 refine o_w (v:=.agg #[.int .i64 (0:Int),.int .i64 (2147483647:Int),.int .i64 (0:Int),.bool false,.bool true]) (r_build bld_frame_form (vs:=[(0,.int .i64 (0:Int)),(1,.int .i64 (2147483647:Int)),(2,.int .i64 (0:Int)),(3,.bool false),(4,.bool true)]) (cells:=[.int .i64 (0:Int),.int .i64 (2147483647:Int),.int .i64 (0:Int),.bool false,.bool true]) rfl rfl) ?_
 refine o_insert (enc:=(fun d:Fm=>.agg (cFm d).toArray)) (l:=([((1:Int),(⟨(0:Int),(2147483647:Int),(2147483647:Int),false,true⟩:Fm)),((2:Int),(⟨(0:Int),(2147483647:Int),(2147483647:Int),false,false⟩:Fm)),((3:Int),(⟨(0:Int),(0:Int),(0:Int),true,false⟩:Fm)),((4:Int),(⟨(1:Int),(15:Int),(0:Int),false,true⟩:Fm)),((5:Int),(⟨(0:Int),(0:Int),(0:Int),false,true⟩:Fm))]:List (Int × Fm))) (x:=(⟨(0:Int),(2147483647:Int),(0:Int),false,true⟩:Fm)) mp_map_int_frame_form B10' rfl rfl rfl rfl rfl ?_
 intro w12 F12 B12
 have E13:=Ext.st E11 F12 (by simp; omega)
 have B12':Lp w12 b1 (mObj .i64 (fun d:Fm=>.agg (cFm d).toArray) ([((1:Int),(⟨(0:Int),(2147483647:Int),(2147483647:Int),false,true⟩:Fm)),((2:Int),(⟨(0:Int),(2147483647:Int),(2147483647:Int),false,false⟩:Fm)),((3:Int),(⟨(0:Int),(0:Int),(0:Int),true,false⟩:Fm)),((4:Int),(⟨(1:Int),(15:Int),(0:Int),false,true⟩:Fm)),((5:Int),(⟨(0:Int),(0:Int),(0:Int),false,true⟩:Fm)),((6:Int),(⟨(0:Int),(2147483647:Int),(0:Int),false,true⟩:Fm))]:List (Int × Fm))):=B12
 refine o_w (v:=.agg #[.int .i64 (0:Int),.int .i64 (2147483647:Int),.int .i64 (0:Int),.bool false,.bool false]) (r_build bld_frame_form (vs:=[(0,.int .i64 (0:Int)),(1,.int .i64 (2147483647:Int)),(2,.int .i64 (0:Int)),(3,.bool false),(4,.bool false)]) (cells:=[.int .i64 (0:Int),.int .i64 (2147483647:Int),.int .i64 (0:Int),.bool false,.bool false]) rfl rfl) ?_
 refine o_insert (enc:=(fun d:Fm=>.agg (cFm d).toArray)) (l:=([((1:Int),(⟨(0:Int),(2147483647:Int),(2147483647:Int),false,true⟩:Fm)),((2:Int),(⟨(0:Int),(2147483647:Int),(2147483647:Int),false,false⟩:Fm)),((3:Int),(⟨(0:Int),(0:Int),(0:Int),true,false⟩:Fm)),((4:Int),(⟨(1:Int),(15:Int),(0:Int),false,true⟩:Fm)),((5:Int),(⟨(0:Int),(0:Int),(0:Int),false,true⟩:Fm)),((6:Int),(⟨(0:Int),(2147483647:Int),(0:Int),false,true⟩:Fm))]:List (Int × Fm))) (x:=(⟨(0:Int),(2147483647:Int),(0:Int),false,false⟩:Fm)) mp_map_int_frame_form B12' rfl rfl rfl rfl rfl ?_
 intro w14 F14 B14
 have E15:=Ext.st E13 F14 (by simp; omega)
 have B14':Lp w14 b1 (mObj .i64 (fun d:Fm=>.agg (cFm d).toArray) ([((1:Int),(⟨(0:Int),(2147483647:Int),(2147483647:Int),false,true⟩:Fm)),((2:Int),(⟨(0:Int),(2147483647:Int),(2147483647:Int),false,false⟩:Fm)),((3:Int),(⟨(0:Int),(0:Int),(0:Int),true,false⟩:Fm)),((4:Int),(⟨(1:Int),(15:Int),(0:Int),false,true⟩:Fm)),((5:Int),(⟨(0:Int),(0:Int),(0:Int),false,true⟩:Fm)),((6:Int),(⟨(0:Int),(2147483647:Int),(0:Int),false,true⟩:Fm)),((7:Int),(⟨(0:Int),(2147483647:Int),(0:Int),false,false⟩:Fm))]:List (Int × Fm))):=B14
 refine o_w (v:=.map (some b1)) (r_mov rfl) ?_
 refine o_w (v:=.map (some b1)) (r_asg rfl) ?_
 refine eo_nil_sq ?_
 refine ec_ret ?_
 subst h
 exact (end1 rfl ⟨_,rfl,E15,_,rfl,(B14'.stb (fun hm=>by have h1:=hL0 _ hm; omega))⟩)
def frame_Check_1_raw (d0:Ent) (y:Bool):Prop :=
 (sm d0.val)∧(y=((checkE d0) != (0:Int)))
set_option maxRecDepth 20000 in
set_option maxHeartbeats 4000000 in
theorem frame_Check_1_c {L:List Nat} {w:World} {csP0:List Value} (d0:Ent) (HP0:Stb L w (fun w=>kEnt.r w csP0 d0)) (hL:Lt L w) {y:Bool} (h:frame_Check_1_raw d0 y) :
  Calls Try.prog 34 [.agg csP0.toArray].toArray w (Ret fun v w'=>Ext w w'∧v=.bool y):=by
 obtain ⟨A1,c2,A4,c5,rfl,H3,H6⟩:=kEnt_open HP0
 unfold frame_Check_1_raw at h
 refine calls_ec Try.func34 rfl rfl rfl ?_
 refine ec_seq ?_
 refine ec_region ?_
 refine o_box (cs:=(cEnt d0 A1 c2 A4 c5)) rfl rfl rfl ?_
 intro b7 w7 e7 F7 B7
 have S7:=B7.stb (nin hL e7)
 have G8:Fr L w w7:=Fr.ext F7
 refine o_w (v:=.bool false) (r_asg rfl) ?_
 refine eo_nil_sq ?_
 refine ec_seq ?_
 refine ec_region ?_
 refine o_w (v:=.agg (cEnt d0 A1 c2 A4 c5).toArray) (r_lda agg_api_Entry rfl (vs:=(cEnt d0 A1 c2 A4 c5)) rfl (S7.now.part (n:=9) rfl)) ?_
 obtain ⟨ha10,h⟩:=h
 refine o_call cf_entry_Check rfl (entry_Check_c d0 (kEnt_mk (d:=d0) (H3.fr G8 (fun _ h=>h)) (H6.fr G8 (fun _ h=>h))) (hL.fr F7) (entCheck_ev d0 ha10)) rfl rfl ?_
 rintro _ w9 ⟨F9,rfl⟩
 have E11:=F7.trans F9
 refine o_w (v:=.bool ((checkE d0) != (0:Int))) (r_int rfl rfl rfl) ?_
 refine o_w (v:=.bool ((checkE d0) != (0:Int))) (r_asg rfl) ?_
 refine eo_nil_sq ?_
 refine ec_ret ?_
 subst h
 exact (end1 rfl ⟨_,rfl,E11,rfl⟩)
def idxf_frame_b1 (d0:(List Ent)) (s1:Int) (z1:(Int) ⊕ ((Int) ⊕ (Int))):Prop :=
 ((decide (s1<(d0.length:Int)))=true→((0≤s1∧s1<(d0.length:Int))∧(∃ x15,frame_Check_1_raw (nth d0 s1) x15∧((x15=true→(z1=.inr (.inr s1)))∧(x15=false→(z1=.inl (IntKind.i64.wrap (s1 + (1:Int)))))))))∧((decide (s1<(d0.length:Int)))=false→(z1=.inr (.inl s1)))
def idxf_frame_raw (d0:(List Ent)) (y:Int):Prop :=
 ∃ x1,LoopR (idxf_frame_b1 d0) (0:Int) x1∧(∀ sx1,x1=.inl sx1→(y=(-1:Int)))∧(∀ y1,x1=.inr y1→(y=y1))
set_option maxRecDepth 20000 in
set_option maxHeartbeats 4000000 in
theorem idxf_frame_c {L:List Nat} {w:World} {AP0:Option Addr} {cP0:Nat} (d0:(List Ent)) (HP0:Stb L w (fun w=>SlC kEnt w AP0 cP0 d0)) (hL:Lt L w) {y:Int} (h:idxf_frame_raw d0 y) :
  Calls Try.prog 46 [.slice AP0 d0.length cP0,.func (.func 34) #[] #[]].toArray w (Ret fun v w'=>Ext w w'∧v=.int .i64 y):=by
 unfold idxf_frame_raw at h
 refine calls_ec Try.func46 rfl rfl rfl ?_
 refine ec_seq ?_
 refine ec_region ?_
 refine o_w (v:=.int .i64 (0:Int)) (r_asg rfl) ?_
 refine eo_nil_sq ?_
 iterate 2 refine ec_seq ?_
 refine ec_region ?_
 refine o_w (v:=.slice AP0 d0.length cP0) (r_mov rfl) ?_
 refine o_w (v:=.int .i64 (d0.length:Int)) (r_len_slc un_s_api_Entry rfl) ?_
 refine o_w (v:=.int .i64 (0:Int)) (r_mov rfl) ?_
 refine eo_nil_sq ?_
 refine ec_block ?_
 obtain ⟨x1,hl1,h⟩:=h
 refine ec_loopER 0 (I:=(fun (s1:Int) ρ ds w'=>∃ (ρ':Env),ρ=envs ρ' [(8,.int .i64 s1),(0,.slice AP0 d0.length cP0),(1,.func (.func 34) #[] #[]),(7,.int .i64 (d0.length:Int))]∧ds=[]∧Fr L w w'∧Ext w w')) (J:=(fun (y':Int) ρ ds wz=>bodyE Try.prog #[.tmp 4] (Ret fun v w'=>Ext w w'∧v=.int .i64 y') .ret ρ ds wz)) ?_ hl1 ?_ ?_ ?_
 ·intro s1 z1 ρ1 ds1 w1r hI1 hb1
  obtain ⟨ρ1r,rfl,rfl,F1r,E1r⟩:=hI1
  have h:=hb1
  unfold idxf_frame_b1 at h
  have G2:Fr L w w1r:=(Fr.refl _ _).stp F1r (fun _ h=>.inl h)
  refine ec_seq ?_
  refine ec_region ?_
  refine o_w (v:=.bool (decide (s1<(d0.length:Int)))) (r_int rfl rfl rfl) ?_
  refine eo_nil_sq ?_
  refine ec_seq ?_
  refine ec_cond rfl (fun hc3=>?_) (fun hc3=>?_)
  ·replace h:=h.1 hc3
   refine ec_skip ?_
   refine sq_n ?_
   refine ec_seq ?_
   refine ec_block ?_
   refine ec_seq ?_
   refine ec_region ?_
   refine o_w (v:=.int .i64 s1) (r_mov rfl) ?_
   refine o_w (v:=.int .i64 s1) (r_asg rfl) ?_
   refine eo_nil_sq ?_
   refine ec_seq ?_
   refine ec_region ?_
   refine o_w (v:=.func (.func 34) #[] #[]) (r_mov rfl) ?_
   refine o_w (v:=.slice AP0 d0.length cP0) (r_mov rfl) ?_
   refine o_w (v:=.int .i64 s1) (r_mov rfl) ?_
   obtain ⟨ha4,h⟩:=h
   obtain ⟨cs5,l7,H6⟩:=Stb.elem (by decide) (HP0.fr G2 (fun _ h=>h)) s1 ha4.1 ha4.2
   obtain ⟨A9,c10,A12,c13,rfl,H8,H11,H14⟩:=kEnt_open2 H6
   refine o_w (v:=.pointer (some (elemA AP0 kEnt.n s1.toNat))) (r_ia slc_s_api_Entry rfl rfl ((HP0.fr G2 (fun _ h=>h)).now.2 _ (lt_toNat ha4.1 ha4.2)).1 ha4.1 ha4.2) ?_
   refine o_w (v:=.agg (cEnt (nth d0 s1) A9 c10 A12 c13).toArray) (r_lda' agg_api_Entry rfl (elemA_spot _ _ _) (vs:=(cEnt (nth d0 s1) A9 c10 A12 c13)) rfl (H8.now.1)) ?_
   obtain ⟨x15,hx15,h⟩:=h
   refine o_callv cf_frame_Check_1 rfl rfl (frame_Check_1_c (nth d0 s1) (kEnt_mk (d:=(nth d0 s1)) H11 H14) (hL.fr E1r) hx15) rfl rfl ?_
   rintro _ w15 ⟨F15,rfl⟩
   have E16:=E1r.trans F15
   refine eo_nil_sq ?_
   refine ec_cond rfl (fun hc20=>?_) (fun hc20=>?_)
   ·replace h:=h.1 hc20
    refine ec_seq ?_
    refine ec_region ?_
    refine o_w (v:=.int .i64 s1) (r_mov rfl) ?_
    refine o_w (v:=.int .i64 s1) (r_asg rfl) ?_
    refine eo_nil_sq ?_
    refine ec_ret ?_
    refine blk_ret ?_
    refine sq_ret ?_
    subst h
    exact lqR_r (end1 rfl ⟨_,rfl,E16,rfl⟩)
   ·replace h:=h.2 hc20
    refine ec_skip ?_
    refine blk_n ?_
    refine sq_n ?_
    refine ec_region ?_
    refine o_w (v:=.int .i64 (IntKind.i64.wrap (s1 + (1:Int)))) (r_int rfl rfl rfl) ?_
    refine o_w (v:=.int .i64 (IntKind.i64.wrap (s1 + (1:Int)))) (r_mov rfl) ?_
    refine eo_nil ?_
    subst h
    exact lqR_n ⟨_,envs_self ⟨rfl,rfl,rfl,rfl,trivial⟩,rfl,(F1r.trans (Fr.ext F15)),E16⟩
  ·replace h:=h.2 hc3
   refine ec_exit ?_
   refine sq_exit ?_
   subst h
   exact lqR_x ⟨_,envs_self ⟨rfl,rfl,rfl,rfl,trivial⟩,rfl,F1r,E1r⟩
 ·exact ⟨_,envs_self ⟨rfl,rfl,rfl,rfl,trivial⟩,rfl,(Fr.refl _ _),(Fr.refl _ _)⟩
 ·rintro sx1 rfl ρ1e ds1e w1e ⟨ρ1e,rfl,rfl,F1e,E1e⟩
  replace h:=h.1 _ rfl
  refine blk_hit ?_
  refine sq_n ?_
  refine ec_seq ?_
  refine ec_region ?_
  refine o_w (v:=.int .i64 (-1:Int)) (r_asg rfl) ?_
  refine eo_nil_sq ?_
  refine ec_ret ?_
  subst h
  exact (end1 rfl ⟨_,rfl,E1e,rfl⟩)
 ·rintro y1 rfl ρ1q ds1q w1q hJ
  have hy:=h.2 _ rfl
  subst hy
  refine blk_ret ?_
  refine sq_ret ?_
  exact hJ
def conf_frame_raw (d0:(List Ent)) (y:Bool):Prop :=
 ∃ x1,idxf_frame_raw d0 x1∧(y=(decide ((0:Int)≤x1)))
set_option maxRecDepth 20000 in
set_option maxHeartbeats 4000000 in
theorem conf_frame_c {L:List Nat} {w:World} {AP0:Option Addr} {cP0:Nat} (d0:(List Ent)) (HP0:Stb L w (fun w=>SlC kEnt w AP0 cP0 d0)) (hL:Lt L w) {y:Bool} (h:conf_frame_raw d0 y) :
  Calls Try.prog 24 [.slice AP0 d0.length cP0,.func (.func 34) #[] #[]].toArray w (Ret fun v w'=>Ext w w'∧v=.bool y):=by
 unfold conf_frame_raw at h
 refine calls_ec Try.func24 rfl rfl rfl ?_
 refine ec_seq ?_
 refine ec_region ?_
 refine o_w (v:=.bool false) (r_asg rfl) ?_
 refine eo_nil_sq ?_
 refine ec_seq ?_
 refine ec_region ?_
 refine o_w (v:=.slice AP0 d0.length cP0) (r_mov rfl) ?_
 refine o_w (v:=.func (.func 34) #[] #[]) (r_mov rfl) ?_
 obtain ⟨x1,hx1,h⟩:=h
 refine o_call cf_slices_IndexFunc_Entry rfl (idxf_frame_c d0 HP0 hL hx1) rfl rfl ?_
 rintro _ w1 ⟨F1,rfl⟩
 refine o_w (v:=.bool (decide ((0:Int)≤x1))) (r_int rfl rfl rfl) ?_
 refine o_w (v:=.bool (decide ((0:Int)≤x1))) (r_asg rfl) ?_
 refine eo_nil_sq ?_
 refine ec_ret ?_
 subst h
 exact (end1 rfl ⟨_,rfl,F1,rfl⟩)
def frame_Check_raw (d0:Frm) (y:Int):Prop :=
 ∃ x8,frame_forms_raw x8∧(∃ x28,x28=(putD d0.sums)∧(∃ x35,((!((!((((((((hasM x8 d0.kind)&&(x28.2==(0:Int)))&&(decide (((getM (⟨(0:Int),(0:Int),(0:Int),false,false⟩:Fm) x8 d0.kind).la)≤d0.a)))&&(decide (d0.a≤((getM (⟨(0:Int),(0:Int),(0:Int),false,false⟩:Fm) x8 d0.kind).ma))))&&(decide ((0:Int)≤d0.b)))&&(decide (d0.b≤((getM (⟨(0:Int),(0:Int),(0:Int),false,false⟩:Fm) x8 d0.kind).mb))))&&(((getM (⟨(0:Int),(0:Int),(0:Int),false,false⟩:Fm) x8 d0.kind).sums)||(((nth d0.sums 0)==(0:Int))&&(((nth d0.sums 1)==(0:Int))&&(((nth d0.sums 2)==(0:Int))&&(((nth d0.sums 3)==(0:Int))&&true))))))&&(((getM (⟨(0:Int),(0:Int),(0:Int),false,false⟩:Fm) x8 d0.kind).ents)||((d0.entries.length:Int)==(0:Int)))))||(decide ((8:Int)<(d0.entries.length:Int)))))=true→conf_frame_raw d0.entries x35)∧(((((!((((((((hasM x8 d0.kind)&&(x28.2==(0:Int)))&&(decide (((getM (⟨(0:Int),(0:Int),(0:Int),false,false⟩:Fm) x8 d0.kind).la)≤d0.a)))&&(decide (d0.a≤((getM (⟨(0:Int),(0:Int),(0:Int),false,false⟩:Fm) x8 d0.kind).ma))))&&(decide ((0:Int)≤d0.b)))&&(decide (d0.b≤((getM (⟨(0:Int),(0:Int),(0:Int),false,false⟩:Fm) x8 d0.kind).mb))))&&(((getM (⟨(0:Int),(0:Int),(0:Int),false,false⟩:Fm) x8 d0.kind).sums)||(((nth d0.sums 0)==(0:Int))&&(((nth d0.sums 1)==(0:Int))&&(((nth d0.sums 2)==(0:Int))&&(((nth d0.sums 3)==(0:Int))&&true))))))&&(((getM (⟨(0:Int),(0:Int),(0:Int),false,false⟩:Fm) x8 d0.kind).ents)||((d0.entries.length:Int)==(0:Int)))))||(decide ((8:Int)<(d0.entries.length:Int))))||x35)=true→(y=(2:Int)))∧((((!((((((((hasM x8 d0.kind)&&(x28.2==(0:Int)))&&(decide (((getM (⟨(0:Int),(0:Int),(0:Int),false,false⟩:Fm) x8 d0.kind).la)≤d0.a)))&&(decide (d0.a≤((getM (⟨(0:Int),(0:Int),(0:Int),false,false⟩:Fm) x8 d0.kind).ma))))&&(decide ((0:Int)≤d0.b)))&&(decide (d0.b≤((getM (⟨(0:Int),(0:Int),(0:Int),false,false⟩:Fm) x8 d0.kind).mb))))&&(((getM (⟨(0:Int),(0:Int),(0:Int),false,false⟩:Fm) x8 d0.kind).sums)||(((nth d0.sums 0)==(0:Int))&&(((nth d0.sums 1)==(0:Int))&&(((nth d0.sums 2)==(0:Int))&&(((nth d0.sums 3)==(0:Int))&&true))))))&&(((getM (⟨(0:Int),(0:Int),(0:Int),false,false⟩:Fm) x8 d0.kind).ents)||((d0.entries.length:Int)==(0:Int)))))||(decide ((8:Int)<(d0.entries.length:Int))))||x35)=false→(y=(0:Int))))))
set_option maxRecDepth 20000 in
set_option maxHeartbeats 4000000 in
theorem frame_Check_c {L:List Nat} {w:World} {csP0:List Value} (d0:Frm) (HP0:Stb L w (fun w=>kFrm.r w csP0 d0)) (hL:Lt L w) {y:Int} (h:frame_Check_raw d0 y) :
  Calls Try.prog 15 [.agg csP0.toArray].toArray w (Ret fun v w'=>Ext w w'∧v=.int .i64 y):=by
 obtain ⟨A2,c3,rfl,H4,hl1⟩:=kFrm_open HP0
 unfold frame_Check_raw at h
 refine calls_ec Try.func15 rfl rfl rfl ?_
 refine ec_seq ?_
 refine ec_region ?_
 refine o_box (cs:=(cFrm d0 A2 c3)) rfl rfl rfl ?_
 intro b5 w5 e5 F5 B5
 have S5:=B5.stb (nin hL e5)
 have G6:Fr L w w5:=Fr.ext F5
 refine o_w (v:=.int .i64 (0:Int)) (r_asg rfl) ?_
 refine eo_nil_sq ?_
 refine ec_seq ?_
 obtain ⟨x8,hx8,h⟩:=h
 refine ec_anyGN (by kernel_rfl) [[],[],[1],[0,1,2],[0,1,2,3],[0,1,2,3,4],[0,1,2,3,4],[],[0,1,2,3,4,5,7],[0,1,2,3,4,5,6,7,8]] [3,4,9,10,11,12,13,14,15] [] [8] 7 0 (fun g w=>∀ b,g=gOf b→Blk w b 71 [.int .i64 (0:Int),.int .i64 (0:Int),.int .i64 (0:Int),.bool false,.bool false]) (fun g7=>[own g7]) [[8,9]] (fun g7=>[fun w'=>(∀ b,g7=gOf b→Blk w' b 71 [.int .i64 (0:Int),.int .i64 (0:Int),.int .i64 (0:Int),.bool false,.bool false]),fun w'=>(∀ b,g7=gOf b→Blk w' b 71 [.int .i64 ((getM (⟨(0:Int),(0:Int),(0:Int),false,false⟩:Fm) x8 d0.kind).la),.int .i64 ((getM (⟨(0:Int),(0:Int),(0:Int),false,false⟩:Fm) x8 d0.kind).ma),.int .i64 ((getM (⟨(0:Int),(0:Int),(0:Int),false,false⟩:Fm) x8 d0.kind).mb),.bool ((getM (⟨(0:Int),(0:Int),(0:Int),false,false⟩:Fm) x8 d0.kind).sums),.bool ((getM (⟨(0:Int),(0:Int),(0:Int),false,false⟩:Fm) x8 d0.kind).ents)])]) (fun g7=>[fun v w'=>∃ b9,v=(.map (some b9):Value)∧Stb (own g7++L) w' (fun w=>Lp w b9 (mObj .i64 (fun d:Fm=>.agg (cFm d).toArray) x8)),fun v _=>v=(.pointer (some ⟨b5,0,none⟩):Value),fun v _=>v=(.int .i64 d0.kind:Value),fun v _=>v=(.tuple #[.agg #[.int .i64 ((getM (⟨(0:Int),(0:Int),(0:Int),false,false⟩:Fm) x8 d0.kind).la),.int .i64 ((getM (⟨(0:Int),(0:Int),(0:Int),false,false⟩:Fm) x8 d0.kind).ma),.int .i64 ((getM (⟨(0:Int),(0:Int),(0:Int),false,false⟩:Fm) x8 d0.kind).mb),.bool ((getM (⟨(0:Int),(0:Int),(0:Int),false,false⟩:Fm) x8 d0.kind).sums),.bool ((getM (⟨(0:Int),(0:Int),(0:Int),false,false⟩:Fm) x8 d0.kind).ents)],.bool (hasM x8 d0.kind)]:Value),fun v _=>v=(.tuple #[.agg #[.int .i64 ((getM (⟨(0:Int),(0:Int),(0:Int),false,false⟩:Fm) x8 d0.kind).la),.int .i64 ((getM (⟨(0:Int),(0:Int),(0:Int),false,false⟩:Fm) x8 d0.kind).ma),.int .i64 ((getM (⟨(0:Int),(0:Int),(0:Int),false,false⟩:Fm) x8 d0.kind).mb),.bool ((getM (⟨(0:Int),(0:Int),(0:Int),false,false⟩:Fm) x8 d0.kind).sums),.bool ((getM (⟨(0:Int),(0:Int),(0:Int),false,false⟩:Fm) x8 d0.kind).ents)],.bool (hasM x8 d0.kind)]:Value),fun v _=>v=(.agg #[.int .i64 ((getM (⟨(0:Int),(0:Int),(0:Int),false,false⟩:Fm) x8 d0.kind).la),.int .i64 ((getM (⟨(0:Int),(0:Int),(0:Int),false,false⟩:Fm) x8 d0.kind).ma),.int .i64 ((getM (⟨(0:Int),(0:Int),(0:Int),false,false⟩:Fm) x8 d0.kind).mb),.bool ((getM (⟨(0:Int),(0:Int),(0:Int),false,false⟩:Fm) x8 d0.kind).sums),.bool ((getM (⟨(0:Int),(0:Int),(0:Int),false,false⟩:Fm) x8 d0.kind).ents)]:Value),fun v _=>v=(.bool (hasM x8 d0.kind):Value),fun v w'=>∃ b7_7,v=(.pointer (some ⟨b7_7,0,none⟩):Value)∧g7=gOf b7_7∧w5.heap.size≤b7_7,fun _ _=>True,fun v _=>v=(.bool (hasM x8 d0.kind):Value)]) (by kernel_rfl) (fun _=>rfl) (fun _=>rfl) (fun g7=>(allM1 (φ:=fun M=>∀ m∈M,m∈[]∨m∈own g7) (fun m hm=>.inr hm) (fun _ h=>by cases h))) (fun g7=>⟨fun _ v w' w'' F h=>by obtain ⟨b9,hv,H10⟩:=h; exact ⟨b9,hv,(H10.ex F)⟩,fun _ _ _ _ _ h=>h,fun _ _ _ _ _ h=>h,fun _ _ _ _ _ h=>h,fun _ _ _ _ _ h=>h,fun _ _ _ _ _ h=>h,fun _ _ _ _ _ h=>h,fun _ v w' w'' F h=>by obtain ⟨b7_7,hv,heb7_7,lob7_7⟩:=h; exact ⟨b7_7,hv,heb7_7,lob7_7⟩,fun _ _ _ _ _ h=>h,fun _ _ _ _ _ h=>h,trivial⟩) (fun g7=>⟨⟨fun _ v w' w'' hg7 F h=>by obtain ⟨b9,hv,H10⟩:=h; exact ⟨b9,hv,(H10.fr F (fun m hm=>List.mem_append_left _ hm))⟩,fun _ _ _ _ _ _ h=>h,fun _ _ _ _ _ _ h=>h,fun _ _ _ _ _ _ h=>h,fun _ _ _ _ _ _ h=>h,fun _ _ _ _ _ _ h=>h,fun _ _ _ _ _ _ h=>h,fun _ v w' w'' hg7 F h=>by obtain ⟨b7_7,hv,heb7_7,lob7_7⟩:=h; exact ⟨b7_7,hv,heb7_7,lob7_7⟩,(fun h=>absurd h (by decide)),(fun h=>absurd h (by decide)),trivial⟩,trivial⟩) (fun g w hw hg=>⟨fun _ v w' F h=>by obtain ⟨b9,hv,H10⟩:=h; exact ⟨b9,hv,(stb_born H10 hg F)⟩,fun _ _ _ _ h=>h,fun _ _ _ _ h=>h,fun _ _ _ _ h=>h,fun _ _ _ _ h=>h,fun _ _ _ _ h=>h,fun _ _ _ _ h=>h,(fun h=>absurd h (by decide)),fun _ _ _ _ h=>h,fun _ _ _ _ h=>h,trivial⟩) (fun g7=>⟨fun w' w'' F h=>by have hG7:=h; exact (fun b e=>(hG7 b e).ex F),fun w' w'' F h=>by have hG7:=h; exact (fun b e=>(hG7 b e).ex F),trivial⟩) (fun b e=>absurd e gNil_ne) (fun k hk g w w' hw hg F hX hI=>match k,hk,hI with | 0,_,hI=>by have hG7:=hI; exact hX | k + 1,hk,_=>absurd hk (by omega)) ?_ ?_ ?_ ?_
 ·refine ⟨?_,?_,?_,?_,?_,?_,?_,?_,?_,?_,trivial⟩
  ·intro _ _ g7 ρ w7o hg7 F7o hX hS hρ
   have F7o:=hX 8 rfl rfl
   have E11:=F5.trans F7o
   refine o_call cf_frame_forms rfl (frame_forms_c (lt_ghost (hL.fr E11) hg7) hx8) rfl rfl ?_
   rintro _ w' ⟨F,b9,rfl,H10⟩
   exact eo_nil ⟨rfl,rfl,_,rfl,F,⟨b9,rfl,H10⟩⟩
  ·intro _ _ g7 ρ w7o hg7 F7o hX hS hρ
   have F7o:=hX 8 rfl rfl
   have q1:ρ 1=.pointer (some ⟨b5,0,none⟩):=hρ 1 (by kernel_rfl)
   exact o_q (r_fa fld_frame_Frame_0 rfl q1) ⟨Fr.refl _ _,rfl⟩
  ·intro _ _ g7 ρ w7o hg7 F7o hX hS hρ
   have F7o:=hX 8 rfl rfl
   have G16:Fr L w5 w7o:=Fr.ext F7o
   have q11:ρ 11=.pointer (some ⟨b5,0,none⟩):=hS 1 (by decide) 11 rfl
   exact o_q (r_ld one_int q11 ((S5.fr G16 (fun _ h=>h)).now.cell rfl)) ⟨Fr.refl _ _,rfl⟩
  ·intro _ _ g7 ρ w7o hg7 F7o hX hS hρ
   have F7o:=hX 8 rfl rfl
   obtain ⟨b9,q10,H10⟩:=hS 0 (by decide) 10 rfl
   have q12:ρ 12=.int .i64 d0.kind:=hS 2 (by decide) 12 rfl
   exact o_q (r_lookupT (enc:=(fun d:Fm=>.agg (cFm d).toArray)) (z:=(⟨(0:Int),(0:Int),(0:Int),false,false⟩:Fm)) mp_map_int_frame_form zero_frame_form H10.now q10 q12) ⟨Fr.refl _ _,rfl⟩
  ·intro _ _ g7 ρ w7o hg7 F7o hX hS hρ
   have F7o:=hX 8 rfl rfl
   have q13:ρ 13=.tuple #[.agg #[.int .i64 ((getM (⟨(0:Int),(0:Int),(0:Int),false,false⟩:Fm) x8 d0.kind).la),.int .i64 ((getM (⟨(0:Int),(0:Int),(0:Int),false,false⟩:Fm) x8 d0.kind).ma),.int .i64 ((getM (⟨(0:Int),(0:Int),(0:Int),false,false⟩:Fm) x8 d0.kind).mb),.bool ((getM (⟨(0:Int),(0:Int),(0:Int),false,false⟩:Fm) x8 d0.kind).sums),.bool ((getM (⟨(0:Int),(0:Int),(0:Int),false,false⟩:Fm) x8 d0.kind).ents)],.bool (hasM x8 d0.kind)]:=hS 3 (by decide) 13 rfl
   exact o_q (r_mov q13) ⟨Fr.refl _ _,rfl⟩
  ·intro _ _ g7 ρ w7o hg7 F7o hX hS hρ
   have F7o:=hX 8 rfl rfl
   have q9:ρ 9=.tuple #[.agg #[.int .i64 ((getM (⟨(0:Int),(0:Int),(0:Int),false,false⟩:Fm) x8 d0.kind).la),.int .i64 ((getM (⟨(0:Int),(0:Int),(0:Int),false,false⟩:Fm) x8 d0.kind).ma),.int .i64 ((getM (⟨(0:Int),(0:Int),(0:Int),false,false⟩:Fm) x8 d0.kind).mb),.bool ((getM (⟨(0:Int),(0:Int),(0:Int),false,false⟩:Fm) x8 d0.kind).sums),.bool ((getM (⟨(0:Int),(0:Int),(0:Int),false,false⟩:Fm) x8 d0.kind).ents)],.bool (hasM x8 d0.kind)]:=hS 4 (by decide) 9 rfl
   exact o_q (r_ext q9 rfl) ⟨Fr.refl _ _,rfl⟩
  ·intro _ _ g7 ρ w7o hg7 F7o hX hS hρ
   have q9:ρ 9=.tuple #[.agg #[.int .i64 ((getM (⟨(0:Int),(0:Int),(0:Int),false,false⟩:Fm) x8 d0.kind).la),.int .i64 ((getM (⟨(0:Int),(0:Int),(0:Int),false,false⟩:Fm) x8 d0.kind).ma),.int .i64 ((getM (⟨(0:Int),(0:Int),(0:Int),false,false⟩:Fm) x8 d0.kind).mb),.bool ((getM (⟨(0:Int),(0:Int),(0:Int),false,false⟩:Fm) x8 d0.kind).sums),.bool ((getM (⟨(0:Int),(0:Int),(0:Int),false,false⟩:Fm) x8 d0.kind).ents)],.bool (hasM x8 d0.kind)]:=hS 4 (by decide) 9 rfl
   exact o_q (r_ext q9 rfl) ⟨Fr.refl _ _,rfl⟩
  ·intro _ hT; exact absurd hT (by decide)
  ·intro hT; exact absurd hT (by decide)
  ·intro _ _ g7 ρ w7o hg7 F7o hX hS hρ
   have q15:ρ 15=.bool (hasM x8 d0.kind):=hS 6 (by decide) 15 rfl
   exact o_q (r_asg q15) ⟨Fr.refl _ _,rfl⟩
 ·intro o ho ρ w7o F7o hX hS hρ; cases Option.some.inj ho; refine o_alloc zero_frame_form rfl rfl rfl ?_; intro b w' e F B; subst e
  exact eo_nil ⟨rfl,rfl,_,rfl,F,gOf _,(fun m hm=>by rw [own_gOf,List.mem_singleton] at hm; subst hm; exact ⟨Nat.le_refl _,B.lt⟩),(fun b e=>by obtain rfl:=gOf_inj e; exact B),_,rfl,rfl,F7o.size⟩
 ·refine ⟨⟨_,rfl,?_⟩,trivial⟩
  ·intro g7 ρ w7o hg7 F7o hX hI hS hρ
   have hG7:=hI
   obtain ⟨b7_7,q3,heb7_7,lob7_7⟩:=hS 7 (by decide) 3 rfl
   have q14:ρ 14=.agg #[.int .i64 ((getM (⟨(0:Int),(0:Int),(0:Int),false,false⟩:Fm) x8 d0.kind).la),.int .i64 ((getM (⟨(0:Int),(0:Int),(0:Int),false,false⟩:Fm) x8 d0.kind).ma),.int .i64 ((getM (⟨(0:Int),(0:Int),(0:Int),false,false⟩:Fm) x8 d0.kind).mb),.bool ((getM (⟨(0:Int),(0:Int),(0:Int),false,false⟩:Fm) x8 d0.kind).sums),.bool ((getM (⟨(0:Int),(0:Int),(0:Int),false,false⟩:Fm) x8 d0.kind).ents)]:=hS 5 (by decide) 14 rfl
   subst heb7_7
   have hB7_b7_7:=hG7 _ rfl
   refine o_store (show ev ρ _=_ from q3) hB7_b7_7 (vs:=[.int .i64 ((getM (⟨(0:Int),(0:Int),(0:Int),false,false⟩:Fm) x8 d0.kind).la),.int .i64 ((getM (⟨(0:Int),(0:Int),(0:Int),false,false⟩:Fm) x8 d0.kind).ma),.int .i64 ((getM (⟨(0:Int),(0:Int),(0:Int),false,false⟩:Fm) x8 d0.kind).mb),.bool ((getM (⟨(0:Int),(0:Int),(0:Int),false,false⟩:Fm) x8 d0.kind).sums),.bool ((getM (⟨(0:Int),(0:Int),(0:Int),false,false⟩:Fm) x8 d0.kind).ents)]) (congrArg Value.cells q14) sz_frame_form rfl rfl rfl ?_
   intro w' F B2
   exact eo_nil ⟨rfl,rfl,undef,rfl,F,(fun b e=>by obtain rfl:=gOf_inj e; exact B2),trivial⟩
 ·intro g7 ρ w7 hg7 F7 hI hS hρ
  have hG7:=hI
  obtain ⟨b7_7,q3,heb7_7,lob7_7⟩:=hS 7 3 rfl
  subst heb7_7
  have hB7_b7_7:=hG7 _ rfl
  have q4:ρ 4=.bool (hasM x8 d0.kind):=hS 9 4 rfl
  obtain ⟨ρ',rfl⟩:∃ ρ',ρ=envs (ovr [3,4,9,10,11,12,13,14,15] ρ' _) [(3,.pointer (some ⟨b7_7,0,none⟩)),(4,.bool (hasM x8 d0.kind))]:=⟨ρ,ovr_self hρ ⟨q3,q4,trivial⟩⟩
  have n7_7:w.heap.size≤b7_7:=Nat.le_trans F5.size lob7_7
  have m23:w.heap.size≤b7_7:=Nat.le_trans G6.size lob7_7
  have E25:=F5.trans F7
  have G27:Fr L w5 w7:=Fr.ext F7
  refine sq_n ?_
  refine ec_seq ?_
  refine ec_region ?_
  refine o_w (v:=.pointer (some ⟨b5,3,none⟩)) (r_fa fld_frame_Frame_3 rfl rfl) ?_
  refine o_w (v:=.agg #[.int .i64 (nth d0.sums 0),.int .i64 (nth d0.sums 1),.int .i64 (nth d0.sums 2),.int .i64 (nth d0.sums 3)]) (r_lda agg_4_int rfl (vs:=[.int .i64 (nth d0.sums 0),.int .i64 (nth d0.sums 1),.int .i64 (nth d0.sums 2),.int .i64 (nth d0.sums 3)]) rfl ((S5.fr G27 (fun _ h=>h)).now.part (n:=4) rfl)) ?_
  obtain ⟨x28,hx28,h⟩:=h
  refine o_call cf_digest_Put rfl (digest_Put_c d0.sums hl1 ((hL.fr E25).cons hB7_b7_7.lt) (eq_ev hx28 (digPut_ev d0.sums))) rfl rfl ?_
  rintro _ w28 ⟨F28,rfl⟩
  have E29:=E25.trans F28
  refine o_w (v:=.tuple #[str x28.1,.int .i64 x28.2]) (r_mov rfl) ?_
  refine o_w (v:=str x28.1) (r_ext rfl rfl) ?_
  refine o_w (v:=.int .i64 x28.2) (r_ext rfl rfl) ?_
  refine o_w (v:=str x28.1) (r_asg rfl) ?_
  refine o_w (v:=.int .i64 x28.2) (r_asg rfl) ?_
  refine eo_nil_sq ?_
  refine ec_seq ?_
  refine ec_region ?_
  refine o_w (v:=.func (.func 34) #[] #[]) (r_asg rfl) ?_
  refine eo_nil_sq ?_
  refine ec_seq ?_
  refine ec_region ?_
  iterate 2 refine o_w (v:=.bool (hasM x8 d0.kind)) (r_mov rfl) ?_
  refine o_vg (v:=.int .i64 x28.2) (want_ct (t:=23) rfl rfl) (fun hk=>(r_mov rfl)) rfl rfl ?_
  refine o_vg (v:=.bool (x28.2==(0:Int))) (want_ct (t:=23) rfl rfl) (fun hk=>(r_int (gdT hk) rfl rfl)) rfl rfl ?_
  refine o_w (v:=.bool ((hasM x8 d0.kind)&&(x28.2==(0:Int)))) (r_pickAnd rfl (fun ht=>(gdT ht)) rfl) ?_
  refine o_w (v:=.bool ((hasM x8 d0.kind)&&(x28.2==(0:Int)))) (r_mov rfl) ?_
  refine o_vg (v:=.pointer (some ⟨b5,1,none⟩)) (want_ct (t:=27) rfl rfl) (fun hk=>(r_fa fld_frame_Frame_1 rfl rfl)) rfl rfl ?_
  refine o_vg (v:=.int .i64 d0.a) (want_ct (t:=27) rfl rfl) (fun hk=>(r_ld one_int (gdT hk) ((S5.fr (G27.trans (Fr.ext F28)) (fun _ h=>h)).now.cell rfl))) rfl rfl ?_
  refine o_vg (v:=.pointer (some ⟨b7_7,0,none⟩)) (want_ct (t:=27) rfl rfl) (fun hk=>(r_fa fld_frame_form_0 rfl rfl)) rfl rfl ?_
  refine o_vg (v:=.int .i64 ((getM (⟨(0:Int),(0:Int),(0:Int),false,false⟩:Fm) x8 d0.kind).la)) (want_ct (t:=27) rfl rfl) (fun hk=>(r_ld one_int (gdT hk) ((hB7_b7_7.ex F28).cell rfl))) rfl rfl ?_
  refine o_vg (v:=.bool (decide (((getM (⟨(0:Int),(0:Int),(0:Int),false,false⟩:Fm) x8 d0.kind).la)≤d0.a))) (want_ct (t:=27) rfl rfl) (fun hk=>(r_int (gdT hk) (gdT hk) rfl)) rfl rfl ?_
  refine o_w (v:=.bool (((hasM x8 d0.kind)&&(x28.2==(0:Int)))&&(decide (((getM (⟨(0:Int),(0:Int),(0:Int),false,false⟩:Fm) x8 d0.kind).la)≤d0.a)))) (r_pickAnd rfl (fun ht=>(gdT ht)) rfl) ?_
  refine o_w (v:=.bool (((hasM x8 d0.kind)&&(x28.2==(0:Int)))&&(decide (((getM (⟨(0:Int),(0:Int),(0:Int),false,false⟩:Fm) x8 d0.kind).la)≤d0.a)))) (r_mov rfl) ?_
  refine o_vg (v:=.pointer (some ⟨b5,1,none⟩)) (want_ct (t:=34) rfl rfl) (fun hk=>(r_fa fld_frame_Frame_1 rfl rfl)) rfl rfl ?_
  refine o_vg (v:=.int .i64 d0.a) (want_ct (t:=34) rfl rfl) (fun hk=>(r_ld one_int (gdT hk) ((S5.fr (G27.trans (Fr.ext F28)) (fun _ h=>h)).now.cell rfl))) rfl rfl ?_
  refine o_vg (v:=.pointer (some ⟨b7_7,1,none⟩)) (want_ct (t:=34) rfl rfl) (fun hk=>(r_fa fld_frame_form_1 rfl rfl)) rfl rfl ?_
  refine o_vg (v:=.int .i64 ((getM (⟨(0:Int),(0:Int),(0:Int),false,false⟩:Fm) x8 d0.kind).ma)) (want_ct (t:=34) rfl rfl) (fun hk=>(r_ld one_int (gdT hk) ((hB7_b7_7.ex F28).cell rfl))) rfl rfl ?_
  refine o_vg (v:=.bool (decide (d0.a≤((getM (⟨(0:Int),(0:Int),(0:Int),false,false⟩:Fm) x8 d0.kind).ma)))) (want_ct (t:=34) rfl rfl) (fun hk=>(r_int (gdT hk) (gdT hk) rfl)) rfl rfl ?_
  refine o_w (v:=.bool ((((hasM x8 d0.kind)&&(x28.2==(0:Int)))&&(decide (((getM (⟨(0:Int),(0:Int),(0:Int),false,false⟩:Fm) x8 d0.kind).la)≤d0.a)))&&(decide (d0.a≤((getM (⟨(0:Int),(0:Int),(0:Int),false,false⟩:Fm) x8 d0.kind).ma))))) (r_pickAnd rfl (fun ht=>(gdT ht)) rfl) ?_
  refine o_w (v:=.bool ((((hasM x8 d0.kind)&&(x28.2==(0:Int)))&&(decide (((getM (⟨(0:Int),(0:Int),(0:Int),false,false⟩:Fm) x8 d0.kind).la)≤d0.a)))&&(decide (d0.a≤((getM (⟨(0:Int),(0:Int),(0:Int),false,false⟩:Fm) x8 d0.kind).ma))))) (r_mov rfl) ?_
  refine o_vg (v:=.pointer (some ⟨b5,2,none⟩)) (want_ct (t:=41) rfl rfl) (fun hk=>(r_fa fld_frame_Frame_2 rfl rfl)) rfl rfl ?_
  refine o_vg (v:=.int .i64 d0.b) (want_ct (t:=41) rfl rfl) (fun hk=>(r_ld one_int (gdT hk) ((S5.fr (G27.trans (Fr.ext F28)) (fun _ h=>h)).now.cell rfl))) rfl rfl ?_
  refine o_vg (v:=.bool (decide ((0:Int)≤d0.b))) (want_ct (t:=41) rfl rfl) (fun hk=>(r_int (gdT hk) rfl rfl)) rfl rfl ?_
  refine o_w (v:=.bool (((((hasM x8 d0.kind)&&(x28.2==(0:Int)))&&(decide (((getM (⟨(0:Int),(0:Int),(0:Int),false,false⟩:Fm) x8 d0.kind).la)≤d0.a)))&&(decide (d0.a≤((getM (⟨(0:Int),(0:Int),(0:Int),false,false⟩:Fm) x8 d0.kind).ma))))&&(decide ((0:Int)≤d0.b)))) (r_pickAnd rfl (fun ht=>(gdT ht)) rfl) ?_
  refine o_w (v:=.bool (((((hasM x8 d0.kind)&&(x28.2==(0:Int)))&&(decide (((getM (⟨(0:Int),(0:Int),(0:Int),false,false⟩:Fm) x8 d0.kind).la)≤d0.a)))&&(decide (d0.a≤((getM (⟨(0:Int),(0:Int),(0:Int),false,false⟩:Fm) x8 d0.kind).ma))))&&(decide ((0:Int)≤d0.b)))) (r_mov rfl) ?_
  refine o_vg (v:=.pointer (some ⟨b5,2,none⟩)) (want_ct (t:=46) rfl rfl) (fun hk=>(r_fa fld_frame_Frame_2 rfl rfl)) rfl rfl ?_
  refine o_vg (v:=.int .i64 d0.b) (want_ct (t:=46) rfl rfl) (fun hk=>(r_ld one_int (gdT hk) ((S5.fr (G27.trans (Fr.ext F28)) (fun _ h=>h)).now.cell rfl))) rfl rfl ?_
  refine o_vg (v:=.pointer (some ⟨b7_7,2,none⟩)) (want_ct (t:=46) rfl rfl) (fun hk=>(r_fa fld_frame_form_2 rfl rfl)) rfl rfl ?_
  refine o_vg (v:=.int .i64 ((getM (⟨(0:Int),(0:Int),(0:Int),false,false⟩:Fm) x8 d0.kind).mb)) (want_ct (t:=46) rfl rfl) (fun hk=>(r_ld one_int (gdT hk) ((hB7_b7_7.ex F28).cell rfl))) rfl rfl ?_
  refine o_vg (v:=.bool (decide (d0.b≤((getM (⟨(0:Int),(0:Int),(0:Int),false,false⟩:Fm) x8 d0.kind).mb)))) (want_ct (t:=46) rfl rfl) (fun hk=>(r_int (gdT hk) (gdT hk) rfl)) rfl rfl ?_
  refine o_w (v:=.bool ((((((hasM x8 d0.kind)&&(x28.2==(0:Int)))&&(decide (((getM (⟨(0:Int),(0:Int),(0:Int),false,false⟩:Fm) x8 d0.kind).la)≤d0.a)))&&(decide (d0.a≤((getM (⟨(0:Int),(0:Int),(0:Int),false,false⟩:Fm) x8 d0.kind).ma))))&&(decide ((0:Int)≤d0.b)))&&(decide (d0.b≤((getM (⟨(0:Int),(0:Int),(0:Int),false,false⟩:Fm) x8 d0.kind).mb))))) (r_pickAnd rfl (fun ht=>(gdT ht)) rfl) ?_
  refine o_w (v:=.bool ((((((hasM x8 d0.kind)&&(x28.2==(0:Int)))&&(decide (((getM (⟨(0:Int),(0:Int),(0:Int),false,false⟩:Fm) x8 d0.kind).la)≤d0.a)))&&(decide (d0.a≤((getM (⟨(0:Int),(0:Int),(0:Int),false,false⟩:Fm) x8 d0.kind).ma))))&&(decide ((0:Int)≤d0.b)))&&(decide (d0.b≤((getM (⟨(0:Int),(0:Int),(0:Int),false,false⟩:Fm) x8 d0.kind).mb))))) (r_mov rfl) ?_
  refine o_vg (v:=.pointer (some ⟨b7_7,3,none⟩)) (want_ct (t:=53) rfl rfl) (fun hk=>(r_fa fld_frame_form_3 rfl rfl)) rfl rfl ?_
  refine o_vg (v:=.bool ((getM (⟨(0:Int),(0:Int),(0:Int),false,false⟩:Fm) x8 d0.kind).sums)) (want_ct (t:=53) rfl rfl) (fun hk=>(r_ld one_bool (gdT hk) ((hB7_b7_7.ex F28).cell rfl))) rfl rfl ?_
  refine o_vg (v:=.bool ((getM (⟨(0:Int),(0:Int),(0:Int),false,false⟩:Fm) x8 d0.kind).sums)) (want_ct (t:=53) rfl rfl) (fun hk=>(r_mov (gdT hk))) rfl rfl ?_
  refine o_vg (v:=.pointer (some ⟨b5,3,none⟩)) (want_gf (t:=56) rfl rfl) (fun hk=>(r_fa fld_frame_Frame_3 rfl rfl)) rfl rfl ?_
  refine o_vg (v:=.agg #[.int .i64 (nth d0.sums 0),.int .i64 (nth d0.sums 1),.int .i64 (nth d0.sums 2),.int .i64 (nth d0.sums 3)]) (want_gf (t:=56) rfl rfl) (fun hk=>(r_lda agg_4_int (gdT hk) (vs:=[.int .i64 (nth d0.sums 0),.int .i64 (nth d0.sums 1),.int .i64 (nth d0.sums 2),.int .i64 (nth d0.sums 3)]) rfl ((S5.fr (G27.trans (Fr.ext F28)) (fun _ h=>h)).now.part (n:=4) rfl))) rfl rfl ?_
  refine o_vg (v:=.agg #[.int .i64 (0:Int),.int .i64 (0:Int),.int .i64 (0:Int),.int .i64 (0:Int)]) (want_gf (t:=56) rfl rfl) (fun hk=>(r_build bld_4_int (vs:=[]) (cells:=[.int .i64 (0:Int),.int .i64 (0:Int),.int .i64 (0:Int),.int .i64 (0:Int)]) rfl rfl)) rfl rfl ?_
  refine o_vg (v:=.bool (((nth d0.sums 0)==(0:Int))&&(((nth d0.sums 1)==(0:Int))&&(((nth d0.sums 2)==(0:Int))&&(((nth d0.sums 3)==(0:Int))&&true))))) (want_gf (t:=56) rfl rfl) (fun hk=>(r_eqSt eqg_4_int (eqs_4_int (nth d0.sums 0) (nth d0.sums 1) (nth d0.sums 2) (nth d0.sums 3) (0:Int) (0:Int) (0:Int) (0:Int)) (gdT hk) (gdT hk))) rfl rfl ?_
  refine o_vg (v:=.bool (((getM (⟨(0:Int),(0:Int),(0:Int),false,false⟩:Fm) x8 d0.kind).sums)||(((nth d0.sums 0)==(0:Int))&&(((nth d0.sums 1)==(0:Int))&&(((nth d0.sums 2)==(0:Int))&&(((nth d0.sums 3)==(0:Int))&&true)))))) (want_ct (t:=53) rfl rfl) (fun hk=>(r_pickOr (gdT hk) rfl (fun hf=>(gdT (andM hk (notT hf)))))) rfl rfl ?_
  refine o_w (v:=.bool (((((((hasM x8 d0.kind)&&(x28.2==(0:Int)))&&(decide (((getM (⟨(0:Int),(0:Int),(0:Int),false,false⟩:Fm) x8 d0.kind).la)≤d0.a)))&&(decide (d0.a≤((getM (⟨(0:Int),(0:Int),(0:Int),false,false⟩:Fm) x8 d0.kind).ma))))&&(decide ((0:Int)≤d0.b)))&&(decide (d0.b≤((getM (⟨(0:Int),(0:Int),(0:Int),false,false⟩:Fm) x8 d0.kind).mb))))&&(((getM (⟨(0:Int),(0:Int),(0:Int),false,false⟩:Fm) x8 d0.kind).sums)||(((nth d0.sums 0)==(0:Int))&&(((nth d0.sums 1)==(0:Int))&&(((nth d0.sums 2)==(0:Int))&&(((nth d0.sums 3)==(0:Int))&&true))))))) (r_pickAnd rfl (fun ht=>(gdT ht)) rfl) ?_
  refine o_w (v:=.bool (((((((hasM x8 d0.kind)&&(x28.2==(0:Int)))&&(decide (((getM (⟨(0:Int),(0:Int),(0:Int),false,false⟩:Fm) x8 d0.kind).la)≤d0.a)))&&(decide (d0.a≤((getM (⟨(0:Int),(0:Int),(0:Int),false,false⟩:Fm) x8 d0.kind).ma))))&&(decide ((0:Int)≤d0.b)))&&(decide (d0.b≤((getM (⟨(0:Int),(0:Int),(0:Int),false,false⟩:Fm) x8 d0.kind).mb))))&&(((getM (⟨(0:Int),(0:Int),(0:Int),false,false⟩:Fm) x8 d0.kind).sums)||(((nth d0.sums 0)==(0:Int))&&(((nth d0.sums 1)==(0:Int))&&(((nth d0.sums 2)==(0:Int))&&(((nth d0.sums 3)==(0:Int))&&true))))))) (r_mov rfl) ?_
  refine o_vg (v:=.pointer (some ⟨b7_7,4,none⟩)) (want_ct (t:=63) rfl rfl) (fun hk=>(r_fa fld_frame_form_4 rfl rfl)) rfl rfl ?_
  refine o_vg (v:=.bool ((getM (⟨(0:Int),(0:Int),(0:Int),false,false⟩:Fm) x8 d0.kind).ents)) (want_ct (t:=63) rfl rfl) (fun hk=>(r_ld one_bool (gdT hk) ((hB7_b7_7.ex F28).cell rfl))) rfl rfl ?_
  refine o_vg (v:=.bool ((getM (⟨(0:Int),(0:Int),(0:Int),false,false⟩:Fm) x8 d0.kind).ents)) (want_ct (t:=63) rfl rfl) (fun hk=>(r_mov (gdT hk))) rfl rfl ?_
  refine o_vg (v:=.pointer (some ⟨b5,7,none⟩)) (want_gf (t:=66) rfl rfl) (fun hk=>(r_fa fld_frame_Frame_4 rfl rfl)) rfl rfl ?_
  refine o_vg (v:=.slice A2 d0.entries.length c3) (want_gf (t:=66) rfl rfl) (fun hk=>(r_ld one_s_api_Entry (gdT hk) ((S5.fr (G27.trans (Fr.ext F28)) (fun _ h=>h)).now.cell rfl))) rfl rfl ?_
  refine o_vg (v:=.int .i64 (d0.entries.length:Int)) (want_gf (t:=66) rfl rfl) (fun hk=>(r_len_slc un_s_api_Entry (gdT hk))) rfl rfl ?_
  refine o_vg (v:=.bool ((d0.entries.length:Int)==(0:Int))) (want_gf (t:=66) rfl rfl) (fun hk=>(r_int (gdT hk) rfl rfl)) rfl rfl ?_
  refine o_vg (v:=.bool (((getM (⟨(0:Int),(0:Int),(0:Int),false,false⟩:Fm) x8 d0.kind).ents)||((d0.entries.length:Int)==(0:Int)))) (want_ct (t:=63) rfl rfl) (fun hk=>(r_pickOr (gdT hk) rfl (fun hf=>(gdT (andM hk (notT hf)))))) rfl rfl ?_
  refine o_w (v:=.bool ((((((((hasM x8 d0.kind)&&(x28.2==(0:Int)))&&(decide (((getM (⟨(0:Int),(0:Int),(0:Int),false,false⟩:Fm) x8 d0.kind).la)≤d0.a)))&&(decide (d0.a≤((getM (⟨(0:Int),(0:Int),(0:Int),false,false⟩:Fm) x8 d0.kind).ma))))&&(decide ((0:Int)≤d0.b)))&&(decide (d0.b≤((getM (⟨(0:Int),(0:Int),(0:Int),false,false⟩:Fm) x8 d0.kind).mb))))&&(((getM (⟨(0:Int),(0:Int),(0:Int),false,false⟩:Fm) x8 d0.kind).sums)||(((nth d0.sums 0)==(0:Int))&&(((nth d0.sums 1)==(0:Int))&&(((nth d0.sums 2)==(0:Int))&&(((nth d0.sums 3)==(0:Int))&&true))))))&&(((getM (⟨(0:Int),(0:Int),(0:Int),false,false⟩:Fm) x8 d0.kind).ents)||((d0.entries.length:Int)==(0:Int))))) (r_pickAnd rfl (fun ht=>(gdT ht)) rfl) ?_
  refine o_w (v:=.bool ((((((((hasM x8 d0.kind)&&(x28.2==(0:Int)))&&(decide (((getM (⟨(0:Int),(0:Int),(0:Int),false,false⟩:Fm) x8 d0.kind).la)≤d0.a)))&&(decide (d0.a≤((getM (⟨(0:Int),(0:Int),(0:Int),false,false⟩:Fm) x8 d0.kind).ma))))&&(decide ((0:Int)≤d0.b)))&&(decide (d0.b≤((getM (⟨(0:Int),(0:Int),(0:Int),false,false⟩:Fm) x8 d0.kind).mb))))&&(((getM (⟨(0:Int),(0:Int),(0:Int),false,false⟩:Fm) x8 d0.kind).sums)||(((nth d0.sums 0)==(0:Int))&&(((nth d0.sums 1)==(0:Int))&&(((nth d0.sums 2)==(0:Int))&&(((nth d0.sums 3)==(0:Int))&&true))))))&&(((getM (⟨(0:Int),(0:Int),(0:Int),false,false⟩:Fm) x8 d0.kind).ents)||((d0.entries.length:Int)==(0:Int))))) (r_asg rfl) ?_
  refine eo_nil_sq ?_
  iterate 2 refine ec_seq ?_
  refine ec_region ?_
  refine o_w (v:=.bool ((((((((hasM x8 d0.kind)&&(x28.2==(0:Int)))&&(decide (((getM (⟨(0:Int),(0:Int),(0:Int),false,false⟩:Fm) x8 d0.kind).la)≤d0.a)))&&(decide (d0.a≤((getM (⟨(0:Int),(0:Int),(0:Int),false,false⟩:Fm) x8 d0.kind).ma))))&&(decide ((0:Int)≤d0.b)))&&(decide (d0.b≤((getM (⟨(0:Int),(0:Int),(0:Int),false,false⟩:Fm) x8 d0.kind).mb))))&&(((getM (⟨(0:Int),(0:Int),(0:Int),false,false⟩:Fm) x8 d0.kind).sums)||(((nth d0.sums 0)==(0:Int))&&(((nth d0.sums 1)==(0:Int))&&(((nth d0.sums 2)==(0:Int))&&(((nth d0.sums 3)==(0:Int))&&true))))))&&(((getM (⟨(0:Int),(0:Int),(0:Int),false,false⟩:Fm) x8 d0.kind).ents)||((d0.entries.length:Int)==(0:Int))))) (r_mov rfl) ?_
  refine o_w (v:=.bool (!((((((((hasM x8 d0.kind)&&(x28.2==(0:Int)))&&(decide (((getM (⟨(0:Int),(0:Int),(0:Int),false,false⟩:Fm) x8 d0.kind).la)≤d0.a)))&&(decide (d0.a≤((getM (⟨(0:Int),(0:Int),(0:Int),false,false⟩:Fm) x8 d0.kind).ma))))&&(decide ((0:Int)≤d0.b)))&&(decide (d0.b≤((getM (⟨(0:Int),(0:Int),(0:Int),false,false⟩:Fm) x8 d0.kind).mb))))&&(((getM (⟨(0:Int),(0:Int),(0:Int),false,false⟩:Fm) x8 d0.kind).sums)||(((nth d0.sums 0)==(0:Int))&&(((nth d0.sums 1)==(0:Int))&&(((nth d0.sums 2)==(0:Int))&&(((nth d0.sums 3)==(0:Int))&&true))))))&&(((getM (⟨(0:Int),(0:Int),(0:Int),false,false⟩:Fm) x8 d0.kind).ents)||((d0.entries.length:Int)==(0:Int)))))) (r_not rfl) ?_
  refine o_w (v:=.bool (!((((((((hasM x8 d0.kind)&&(x28.2==(0:Int)))&&(decide (((getM (⟨(0:Int),(0:Int),(0:Int),false,false⟩:Fm) x8 d0.kind).la)≤d0.a)))&&(decide (d0.a≤((getM (⟨(0:Int),(0:Int),(0:Int),false,false⟩:Fm) x8 d0.kind).ma))))&&(decide ((0:Int)≤d0.b)))&&(decide (d0.b≤((getM (⟨(0:Int),(0:Int),(0:Int),false,false⟩:Fm) x8 d0.kind).mb))))&&(((getM (⟨(0:Int),(0:Int),(0:Int),false,false⟩:Fm) x8 d0.kind).sums)||(((nth d0.sums 0)==(0:Int))&&(((nth d0.sums 1)==(0:Int))&&(((nth d0.sums 2)==(0:Int))&&(((nth d0.sums 3)==(0:Int))&&true))))))&&(((getM (⟨(0:Int),(0:Int),(0:Int),false,false⟩:Fm) x8 d0.kind).ents)||((d0.entries.length:Int)==(0:Int)))))) (r_mov rfl) ?_
  refine o_vg (v:=.pointer (some ⟨b5,7,none⟩)) (want_cf (t:=75) rfl rfl) (fun hk=>(r_fa fld_frame_Frame_4 rfl rfl)) rfl rfl ?_
  refine o_vg (v:=.slice A2 d0.entries.length c3) (want_cf (t:=75) rfl rfl) (fun hk=>(r_ld one_s_api_Entry (gdT hk) ((S5.fr (G27.trans (Fr.ext F28)) (fun _ h=>h)).now.cell rfl))) rfl rfl ?_
  refine o_vg (v:=.int .i64 (d0.entries.length:Int)) (want_cf (t:=75) rfl rfl) (fun hk=>(r_len_slc un_s_api_Entry (gdT hk))) rfl rfl ?_
  refine o_vg (v:=.bool (decide ((8:Int)<(d0.entries.length:Int)))) (want_cf (t:=75) rfl rfl) (fun hk=>(r_int (gdT hk) rfl rfl)) rfl rfl ?_
  refine o_w (v:=.bool ((!((((((((hasM x8 d0.kind)&&(x28.2==(0:Int)))&&(decide (((getM (⟨(0:Int),(0:Int),(0:Int),false,false⟩:Fm) x8 d0.kind).la)≤d0.a)))&&(decide (d0.a≤((getM (⟨(0:Int),(0:Int),(0:Int),false,false⟩:Fm) x8 d0.kind).ma))))&&(decide ((0:Int)≤d0.b)))&&(decide (d0.b≤((getM (⟨(0:Int),(0:Int),(0:Int),false,false⟩:Fm) x8 d0.kind).mb))))&&(((getM (⟨(0:Int),(0:Int),(0:Int),false,false⟩:Fm) x8 d0.kind).sums)||(((nth d0.sums 0)==(0:Int))&&(((nth d0.sums 1)==(0:Int))&&(((nth d0.sums 2)==(0:Int))&&(((nth d0.sums 3)==(0:Int))&&true))))))&&(((getM (⟨(0:Int),(0:Int),(0:Int),false,false⟩:Fm) x8 d0.kind).ents)||((d0.entries.length:Int)==(0:Int)))))||(decide ((8:Int)<(d0.entries.length:Int))))) (r_pickOr rfl rfl (fun hf=>(gdT (notT hf)))) ?_
  refine o_w (v:=.bool ((!((((((((hasM x8 d0.kind)&&(x28.2==(0:Int)))&&(decide (((getM (⟨(0:Int),(0:Int),(0:Int),false,false⟩:Fm) x8 d0.kind).la)≤d0.a)))&&(decide (d0.a≤((getM (⟨(0:Int),(0:Int),(0:Int),false,false⟩:Fm) x8 d0.kind).ma))))&&(decide ((0:Int)≤d0.b)))&&(decide (d0.b≤((getM (⟨(0:Int),(0:Int),(0:Int),false,false⟩:Fm) x8 d0.kind).mb))))&&(((getM (⟨(0:Int),(0:Int),(0:Int),false,false⟩:Fm) x8 d0.kind).sums)||(((nth d0.sums 0)==(0:Int))&&(((nth d0.sums 1)==(0:Int))&&(((nth d0.sums 2)==(0:Int))&&(((nth d0.sums 3)==(0:Int))&&true))))))&&(((getM (⟨(0:Int),(0:Int),(0:Int),false,false⟩:Fm) x8 d0.kind).ents)||((d0.entries.length:Int)==(0:Int)))))||(decide ((8:Int)<(d0.entries.length:Int))))) (r_mov rfl) ?_
  refine o_vg (v:=.pointer (some ⟨b5,7,none⟩)) (want_cf (t:=81) rfl rfl) (fun hk=>(r_fa fld_frame_Frame_4 rfl rfl)) rfl rfl ?_
  refine o_vg (v:=.slice A2 d0.entries.length c3) (want_cf (t:=81) rfl rfl) (fun hk=>(r_ld one_s_api_Entry (gdT hk) ((S5.fr (G27.trans (Fr.ext F28)) (fun _ h=>h)).now.cell rfl))) rfl rfl ?_
  refine o_vg (v:=.func (.func 34) #[] #[]) (want_cf (t:=81) rfl rfl) (fun hk=>(r_mov rfl)) rfl rfl ?_
  obtain ⟨x35,hx35,h⟩:=h
  refine o_callg (V:=.bool x35) cf_slices_ContainsFunc_Entry (want_cf (t:=81) rfl rfl) (fun hk=>(mapv2 (gdT hk) (gdT hk))) (fun hk=>(conf_frame_c d0.entries (H4.up ((G6.trans (Fr.ext F7)).trans (Fr.ext F28)) (fun _ h=>h) (upc (.inr m23) (fun _ h=>.inl h))) ((hL.fr E29).cons (hB7_b7_7.ex F28).lt) (hx35 hk))) rfl ?_
  intro w35 F35
  have E36:=E29.trans F35
  refine o_w (v:=.bool (((!((((((((hasM x8 d0.kind)&&(x28.2==(0:Int)))&&(decide (((getM (⟨(0:Int),(0:Int),(0:Int),false,false⟩:Fm) x8 d0.kind).la)≤d0.a)))&&(decide (d0.a≤((getM (⟨(0:Int),(0:Int),(0:Int),false,false⟩:Fm) x8 d0.kind).ma))))&&(decide ((0:Int)≤d0.b)))&&(decide (d0.b≤((getM (⟨(0:Int),(0:Int),(0:Int),false,false⟩:Fm) x8 d0.kind).mb))))&&(((getM (⟨(0:Int),(0:Int),(0:Int),false,false⟩:Fm) x8 d0.kind).sums)||(((nth d0.sums 0)==(0:Int))&&(((nth d0.sums 1)==(0:Int))&&(((nth d0.sums 2)==(0:Int))&&(((nth d0.sums 3)==(0:Int))&&true))))))&&(((getM (⟨(0:Int),(0:Int),(0:Int),false,false⟩:Fm) x8 d0.kind).ents)||((d0.entries.length:Int)==(0:Int)))))||(decide ((8:Int)<(d0.entries.length:Int))))||x35)) (r_pickOr rfl rfl (fun hf=>(gdT (notT hf)))) ?_
  refine eo_nil_sq ?_
  refine ec_cond rfl (fun hc41=>?_) (fun hc41=>?_)
  ·replace h:=h.1 hc41
   refine ec_seq ?_
   refine ec_region ?_
   refine o_w (v:=.int .i64 (2:Int)) (r_asg rfl) ?_
   refine eo_nil_sq ?_
   refine ec_ret ?_
   refine sq_ret ?_
   subst h
   exact (end1 rfl ⟨_,rfl,E36,rfl⟩)
  ·replace h:=h.2 hc41
   refine ec_skip ?_
   refine sq_n ?_
   refine ec_seq ?_
   refine ec_region ?_
   refine o_w (v:=.int .i64 (0:Int)) (r_asg rfl) ?_
   refine eo_nil_sq ?_
   refine ec_ret ?_
   subst h
   exact (end1 rfl ⟨_,rfl,E36,rfl⟩)
def frame_Same_raw (d0:Frm) (d1:Frm) (y:Bool):Prop :=
 (((((d0.kind==d1.kind)&&(d0.a==d1.a))&&(d0.b==d1.b))&&(((nth d0.sums 0)==(nth d1.sums 0))&&(((nth d0.sums 1)==(nth d1.sums 1))&&(((nth d0.sums 2)==(nth d1.sums 2))&&(((nth d0.sums 3)==(nth d1.sums 3))&&true)))))=true→sml d0.entries)∧(y=(((((d0.kind==d1.kind)&&(d0.a==d1.a))&&(d0.b==d1.b))&&(((nth d0.sums 0)==(nth d1.sums 0))&&(((nth d0.sums 1)==(nth d1.sums 1))&&(((nth d0.sums 2)==(nth d1.sums 2))&&(((nth d0.sums 3)==(nth d1.sums 3))&&true)))))&&(allE d0.entries d1.entries)))
set_option maxRecDepth 20000 in
set_option maxHeartbeats 4000000 in
theorem frame_Same_c {L:List Nat} {w:World} {csP0:List Value} (d0:Frm) (HP0:Stb L w (fun w=>kFrm.r w csP0 d0)) {csP1:List Value} (d1:Frm) (HP1:Stb L w (fun w=>kFrm.r w csP1 d1)) (hL:Lt L w) {y:Bool} (h:frame_Same_raw d0 d1 y) :
  Calls Try.prog 20 [.agg csP0.toArray,.agg csP1.toArray].toArray w (Ret fun v w'=>Ext w w'∧v=.bool y):=by
 obtain ⟨A2,c3,rfl,H4,hl1⟩:=kFrm_open HP0
 obtain ⟨A6,c7,rfl,H8,hl5⟩:=kFrm_open HP1
 unfold frame_Same_raw at h
 refine calls_ec Try.func20 rfl rfl rfl ?_
 refine ec_seq ?_
 refine ec_region ?_
 refine o_box (cs:=(cFrm d0 A2 c3)) rfl rfl rfl ?_
 intro b9 w9 e9 F9 B9
 have S9:=B9.stb (nin hL e9)
 have G10:Fr L w w9:=Fr.ext F9
 refine o_box (cs:=(cFrm d1 A6 c7)) rfl rfl rfl ?_
 intro b11 w11 e11 F11 B11
 have S11:=B11.stb (nin (hL.fr F9) e11)
 have E12:=F9.trans F11
 have G14:Fr L w9 w11:=Fr.ext F11
 refine o_w (v:=.bool false) (r_asg rfl) ?_
 refine eo_nil_sq ?_
 refine ec_seq ?_
 refine ec_region ?_
 refine o_w (v:=.pointer (some ⟨b9,0,none⟩)) (r_fa fld_frame_Frame_0 rfl rfl) ?_
 refine o_w (v:=.int .i64 d0.kind) (r_ld one_int rfl ((S9.fr G14 (fun _ h=>h)).now.cell rfl)) ?_
 refine o_w (v:=.pointer (some ⟨b11,0,none⟩)) (r_fa fld_frame_Frame_0 rfl rfl) ?_
 refine o_w (v:=.int .i64 d1.kind) (r_ld one_int rfl (S11.now.cell rfl)) ?_
 refine o_w (v:=.bool (d0.kind==d1.kind)) (r_int rfl rfl rfl) ?_
 refine o_w (v:=.bool (d0.kind==d1.kind)) (r_mov rfl) ?_
 refine o_vg (v:=.pointer (some ⟨b9,1,none⟩)) (want_ct (t:=10) rfl rfl) (fun hk=>(r_fa fld_frame_Frame_1 rfl rfl)) rfl rfl ?_
 refine o_vg (v:=.int .i64 d0.a) (want_ct (t:=10) rfl rfl) (fun hk=>(r_ld one_int (gdT hk) ((S9.fr G14 (fun _ h=>h)).now.cell rfl))) rfl rfl ?_
 refine o_vg (v:=.pointer (some ⟨b11,1,none⟩)) (want_ct (t:=10) rfl rfl) (fun hk=>(r_fa fld_frame_Frame_1 rfl rfl)) rfl rfl ?_
 refine o_vg (v:=.int .i64 d1.a) (want_ct (t:=10) rfl rfl) (fun hk=>(r_ld one_int (gdT hk) (S11.now.cell rfl))) rfl rfl ?_
 refine o_vg (v:=.bool (d0.a==d1.a)) (want_ct (t:=10) rfl rfl) (fun hk=>(r_int (gdT hk) (gdT hk) rfl)) rfl rfl ?_
 refine o_w (v:=.bool ((d0.kind==d1.kind)&&(d0.a==d1.a))) (r_pickAnd rfl (fun ht=>(gdT ht)) rfl) ?_
 refine o_w (v:=.bool ((d0.kind==d1.kind)&&(d0.a==d1.a))) (r_mov rfl) ?_
 refine o_vg (v:=.pointer (some ⟨b9,2,none⟩)) (want_ct (t:=17) rfl rfl) (fun hk=>(r_fa fld_frame_Frame_2 rfl rfl)) rfl rfl ?_
 refine o_vg (v:=.int .i64 d0.b) (want_ct (t:=17) rfl rfl) (fun hk=>(r_ld one_int (gdT hk) ((S9.fr G14 (fun _ h=>h)).now.cell rfl))) rfl rfl ?_
 refine o_vg (v:=.pointer (some ⟨b11,2,none⟩)) (want_ct (t:=17) rfl rfl) (fun hk=>(r_fa fld_frame_Frame_2 rfl rfl)) rfl rfl ?_
 refine o_vg (v:=.int .i64 d1.b) (want_ct (t:=17) rfl rfl) (fun hk=>(r_ld one_int (gdT hk) (S11.now.cell rfl))) rfl rfl ?_
 refine o_vg (v:=.bool (d0.b==d1.b)) (want_ct (t:=17) rfl rfl) (fun hk=>(r_int (gdT hk) (gdT hk) rfl)) rfl rfl ?_
 refine o_w (v:=.bool (((d0.kind==d1.kind)&&(d0.a==d1.a))&&(d0.b==d1.b))) (r_pickAnd rfl (fun ht=>(gdT ht)) rfl) ?_
 refine o_w (v:=.bool (((d0.kind==d1.kind)&&(d0.a==d1.a))&&(d0.b==d1.b))) (r_mov rfl) ?_
 refine o_vg (v:=.pointer (some ⟨b9,3,none⟩)) (want_ct (t:=24) rfl rfl) (fun hk=>(r_fa fld_frame_Frame_3 rfl rfl)) rfl rfl ?_
 refine o_vg (v:=.agg #[.int .i64 (nth d0.sums 0),.int .i64 (nth d0.sums 1),.int .i64 (nth d0.sums 2),.int .i64 (nth d0.sums 3)]) (want_ct (t:=24) rfl rfl) (fun hk=>(r_lda agg_4_int (gdT hk) (vs:=[.int .i64 (nth d0.sums 0),.int .i64 (nth d0.sums 1),.int .i64 (nth d0.sums 2),.int .i64 (nth d0.sums 3)]) rfl ((S9.fr G14 (fun _ h=>h)).now.part (n:=4) rfl))) rfl rfl ?_
 refine o_vg (v:=.pointer (some ⟨b11,3,none⟩)) (want_ct (t:=24) rfl rfl) (fun hk=>(r_fa fld_frame_Frame_3 rfl rfl)) rfl rfl ?_
 refine o_vg (v:=.agg #[.int .i64 (nth d1.sums 0),.int .i64 (nth d1.sums 1),.int .i64 (nth d1.sums 2),.int .i64 (nth d1.sums 3)]) (want_ct (t:=24) rfl rfl) (fun hk=>(r_lda agg_4_int (gdT hk) (vs:=[.int .i64 (nth d1.sums 0),.int .i64 (nth d1.sums 1),.int .i64 (nth d1.sums 2),.int .i64 (nth d1.sums 3)]) rfl (S11.now.part (n:=4) rfl))) rfl rfl ?_
 refine o_vg (v:=.bool (((nth d0.sums 0)==(nth d1.sums 0))&&(((nth d0.sums 1)==(nth d1.sums 1))&&(((nth d0.sums 2)==(nth d1.sums 2))&&(((nth d0.sums 3)==(nth d1.sums 3))&&true))))) (want_ct (t:=24) rfl rfl) (fun hk=>(r_eqSt eqg_4_int (eqs_4_int (nth d0.sums 0) (nth d0.sums 1) (nth d0.sums 2) (nth d0.sums 3) (nth d1.sums 0) (nth d1.sums 1) (nth d1.sums 2) (nth d1.sums 3)) (gdT hk) (gdT hk))) rfl rfl ?_
 refine o_w (v:=.bool ((((d0.kind==d1.kind)&&(d0.a==d1.a))&&(d0.b==d1.b))&&(((nth d0.sums 0)==(nth d1.sums 0))&&(((nth d0.sums 1)==(nth d1.sums 1))&&(((nth d0.sums 2)==(nth d1.sums 2))&&(((nth d0.sums 3)==(nth d1.sums 3))&&true)))))) (r_pickAnd rfl (fun ht=>(gdT ht)) rfl) ?_
 refine o_w (v:=.bool ((((d0.kind==d1.kind)&&(d0.a==d1.a))&&(d0.b==d1.b))&&(((nth d0.sums 0)==(nth d1.sums 0))&&(((nth d0.sums 1)==(nth d1.sums 1))&&(((nth d0.sums 2)==(nth d1.sums 2))&&(((nth d0.sums 3)==(nth d1.sums 3))&&true)))))) (r_mov rfl) ?_
 refine o_vg (v:=.pointer (some ⟨b9,7,none⟩)) (want_ct (t:=31) rfl rfl) (fun hk=>(r_fa fld_frame_Frame_4 rfl rfl)) rfl rfl ?_
 refine o_vg (v:=.slice A2 d0.entries.length c3) (want_ct (t:=31) rfl rfl) (fun hk=>(r_ld one_s_api_Entry (gdT hk) ((S9.fr G14 (fun _ h=>h)).now.cell rfl))) rfl rfl ?_
 refine o_vg (v:=.pointer (some ⟨b11,7,none⟩)) (want_ct (t:=31) rfl rfl) (fun hk=>(r_fa fld_frame_Frame_4 rfl rfl)) rfl rfl ?_
 refine o_vg (v:=.slice A6 d1.entries.length c7) (want_ct (t:=31) rfl rfl) (fun hk=>(r_ld one_s_api_Entry (gdT hk) (S11.now.cell rfl))) rfl rfl ?_
 obtain ⟨ha17,h⟩:=h
 refine o_callg (V:=.bool (allE d0.entries d1.entries)) cf_slices_EqualFunc_Entry (want_ct (t:=31) rfl rfl) (fun hk=>(mapv3 (gdT hk) (gdT hk) rfl)) (fun hk=>(slices_EqualFunc_Entry_Same_c d0.entries (H4.fr (G10.trans (Fr.ext F11)) (fun _ h=>h)) d1.entries (H8.fr (G10.trans (Fr.ext F11)) (fun _ h=>h)) (hL.fr E12) (eqFunc_ev d0.entries d1.entries (ha17 hk)))) rfl ?_
 intro w16 F16
 have E18:=E12.trans F16
 refine o_w (v:=.bool (((((d0.kind==d1.kind)&&(d0.a==d1.a))&&(d0.b==d1.b))&&(((nth d0.sums 0)==(nth d1.sums 0))&&(((nth d0.sums 1)==(nth d1.sums 1))&&(((nth d0.sums 2)==(nth d1.sums 2))&&(((nth d0.sums 3)==(nth d1.sums 3))&&true)))))&&(allE d0.entries d1.entries))) (r_pickAnd rfl (fun ht=>(gdT ht)) rfl) ?_
 refine o_w (v:=.bool (((((d0.kind==d1.kind)&&(d0.a==d1.a))&&(d0.b==d1.b))&&(((nth d0.sums 0)==(nth d1.sums 0))&&(((nth d0.sums 1)==(nth d1.sums 1))&&(((nth d0.sums 2)==(nth d1.sums 2))&&(((nth d0.sums 3)==(nth d1.sums 3))&&true)))))&&(allE d0.entries d1.entries))) (r_asg rfl) ?_
 refine eo_nil_sq ?_
 refine ec_ret ?_
 subst h
 exact (end1 rfl ⟨_,rfl,E18,rfl⟩)
end Go.Proofs.Ythfkbabgkacfnaa

/- Frames in plain Lean: what each function comes to. -/
namespace Go.Proofs.Ythfkbabgkacfnaa
open Go Go.RowKit
set_option linter.unusedVariables false
set_option linter.unusedSimpArgs false

def formsL:List (Int × Fm):=[((1:Int),(⟨(0:Int),(2147483647:Int),(2147483647:Int),false,true⟩:Fm)),((2:Int),(⟨(0:Int),(2147483647:Int),(2147483647:Int),false,false⟩:Fm)),((3:Int),(⟨(0:Int),(0:Int),(0:Int),true,false⟩:Fm)),((4:Int),(⟨(1:Int),(15:Int),(0:Int),false,true⟩:Fm)),((5:Int),(⟨(0:Int),(0:Int),(0:Int),false,true⟩:Fm)),((6:Int),(⟨(0:Int),(2147483647:Int),(0:Int),false,true⟩:Fm)),((7:Int),(⟨(0:Int),(2147483647:Int),(0:Int),false,false⟩:Fm))]
def formF (k:Int):Fm:=getM (⟨(0:Int),(0:Int),(0:Int),false,false⟩:Fm) formsL k
def noSums (l:List Int):Bool:=(((nth l 0)==(0:Int))&&(((nth l 1)==(0:Int))&&(((nth l 2)==(0:Int))&&(((nth l 3)==(0:Int))&&true))))
def headF (f:Frm):Bool:=((((((((hasM formsL f.kind)&&((putD f.sums).2==(0:Int)))&&(decide ((formF f.kind).la≤f.a)))&&(decide (f.a≤(formF f.kind).ma)))&&(decide ((0:Int)≤f.b)))&&(decide (f.b≤(formF f.kind).mb)))&&((formF f.kind).sums||noSums f.sums))&&((formF f.kind).ents||((f.entries.length:Int)==(0:Int))))
def oddF (f:Frm):Bool:=((!(headF f))||(decide ((8:Int)<(f.entries.length:Int))))||oddE f.entries
def checkF (f:Frm):Int:=bif oddF f then 2 else 0
def sameF (a b:Frm):Bool:=(((((a.kind==b.kind)&&(a.a==b.a))&&(a.b==b.b))&&(((nth a.sums 0)==(nth b.sums 0))&&(((nth a.sums 1)==(nth b.sums 1))&&(((nth a.sums 2)==(nth b.sums 2))&&(((nth a.sums 3)==(nth b.sums 3))&&true)))))&&(allE a.entries b.entries))

theorem oddFr_ev (d:List Ent) (h:sml d) (hd:d.length≤1000000):conf_frame_raw d (oddE d):=by
 obtain ⟨x,hx,h2⟩:=loop_scan (body:=idxf_frame_b1 d) d.length (fun i=>okE (d.getD i default)) (fun i=>(i:Int))
  (fun i hi hp=>⟨fun _=>⟨⟨by omega,by omega⟩,_,⟨h.2 _ (by rw [nth_nat]; exact getD_mem hi),rfl⟩,fun e=>(by rw [nth_nat,checkE_odd,hp] at e; cases e),fun e=>by rw [wrapS hi (by omega)]⟩,fun h=>by simp at h; omega⟩)
  (fun i hi hp=>⟨fun _=>⟨⟨by omega,by omega⟩,_,⟨h.2 _ (by rw [nth_nat]; exact getD_mem hi),rfl⟩,fun e=>rfl,fun e=>(by rw [nth_nat,checkE_odd,hp] at e; cases e)⟩,fun h=>by simp at h; omega⟩)
  ⟨fun h=>by simp at h,fun _=>rfl⟩
 rcases h2 with ⟨h3,h4⟩ | ⟨i,hi,h4,_,h6⟩
 ·refine ⟨(-1:Int),⟨x,hx,fun _ _=>rfl,fun y e=>?_⟩,?_⟩
  ·rw [e] at h3; cases h3
  ·have:d.all okE=true:=by
    rw [List.all_eq_true]; intro e he
    obtain ⟨i,hi,rfl⟩:=List.getElem_of_mem he
    have:=h4 i hi; simpa [hi] using this
   unfold oddE; rw [this]; rfl
 ·refine ⟨(i:Int),⟨x,hx,fun s e=>?_,fun y e=>?_⟩,?_⟩
  ·rw [e] at h6; cases h6
  ·rw [e] at h6; cases h6; rfl
  ·have:d.all okE=false:=by rw [List.all_eq_false]; exact ⟨_,getD_mem hi,by simpa using h4⟩
   unfold oddE; rw [this]; simp
theorem frCheck_ev (f:Frm) (h:sml f.entries) (hl:f.entries.length≤1000000):frame_Check_raw f (checkF f):=by
 refine ⟨formsL,rfl,_,rfl,oddE f.entries,fun _=>oddFr_ev _ h hl,fun hc=>?_,fun hc=>?_⟩
 ·have h1:oddF f=true:=hc
  unfold checkF; rw [h1]; rfl
 ·have h1:oddF f=false:=hc
  unfold checkF; rw [h1]; rfl
theorem frSame_ev (a b:Frm) (h:sml a.entries):frame_Same_raw a b (sameF a b):=⟨fun _=>h,rfl⟩
end Go.Proofs.Ythfkbabgkacfnaa

/- Push: what each function comes to. -/
namespace Go.Proofs.Ythfkbabgkacfnaa
open Go Go.RowKit
set_option linter.unusedVariables false
set_option linter.unusedSimpArgs false
def push_Send_raw (d0:Buf) (d1:Arena) (d2:Int) (d3:Int) (y:Frm × Bool):Prop :=
 (smB d0)∧((sma d1)∧(∃ x25,x25=(mendB d0 d1 d2)∧((((((x25.names.length:Int)==(0:Int))||(decide (d3<(1:Int))))||(decide ((8:Int)<d3)))=true→(y=((⟨(0:Int),(0:Int),(0:Int),[(0:Int),(0:Int),(0:Int),(0:Int)],([]:List Ent)⟩:Frm),false)))∧(((((x25.names.length:Int)==(0:Int))||(decide (d3<(1:Int))))||(decide ((8:Int)<d3)))=false→(smB x25∧(sma d1∧(∃ x52,x52=(someB x25 d1 d2 d3)∧(y=((⟨(1:Int),x25.epoch,x25.first,[(0:Int),(0:Int),(0:Int),(0:Int)],x52⟩:Frm),true)))))))))
set_option maxRecDepth 20000 in
set_option maxHeartbeats 4000000 in
theorem push_Send_c {L:List Nat} {w:World} {csP0:List Value} (d0:Buf) (HP0:Stb L w (fun w=>kBuf.r w csP0 d0)) {csP1:List Value} (d1:Arena) (HP1:Stb L w (fun w=>kArena.r w csP1 d1)) (d2:Int) (d3:Int) (hL:Lt L w) {y:Frm × Bool} (h:push_Send_raw d0 d1 d2 d3 y) :
  Calls Try.prog 13 [.agg csP0.toArray,.agg csP1.toArray,.int .i64 d2,.int .i64 d3].toArray w (Ret fun v w'=>Ext w w'∧∃ (cs90:List Value),v=.tuple #[.agg cs90.toArray,.bool y.2]∧Stb L w' (fun w=>kFrm.r w cs90 y.1)):=by
 obtain ⟨A1,c2,rfl,H3⟩:=kBuf_open HP0
 obtain ⟨A4,c5,A7,c8,rfl,H6,H9⟩:=kArena_open HP1
 unfold push_Send_raw at h
 refine calls_ec Try.func13 rfl rfl rfl ?_
 refine ec_seq ?_
 refine ec_region ?_
 refine o_box (cs:=(cBuf d0 A1 c2)) rfl rfl rfl ?_
 intro b10 w10 e10 F10 B10
 have n10:w.heap.size≤b10:=Nat.le_of_eq e10.symm
 have m11:w.heap.size≤b10:=Nat.le_of_eq e10.symm
 have G12:Fr L w w10:=Fr.ext F10
 refine o_box (cs:=(cArena d1 A4 c5 A7 c8)) rfl rfl rfl ?_
 intro b13 w13 e13 F13 B13
 have S13:=B13.stb (nin ((hL.fr F10).cons B10.lt) e13)
 have E14:=F10.trans F13
 refine o_alloc zero_frame_Frame rfl rfl rfl ?_
 intro b17 w17 e17 F17 B17
 have n17:w.heap.size≤b17:=by rw [e17]; exact E14.size
 have q18:b10<b17:=by rw [e17]; exact (B10.ex F13).lt
 have m19:w.heap.size≤b17:=by rw [e17]; exact (G12.trans (Fr.ext F13)).size
 have E21:=E14.trans F17
 have G23:Fr (b10::L) w13 w17:=Fr.ext F17
 refine o_w (v:=.bool false) (r_asg rfl) ?_
 refine eo_nil_sq ?_
 refine ec_seq ?_
 refine ec_region ?_
 refine o_w (v:=.agg (cBuf d0 A1 c2).toArray) (r_lda agg_buffer_Buffer rfl (vs:=(cBuf d0 A1 c2)) rfl (((B10.ex F13).ex F17).part (n:=3) rfl)) ?_
 refine o_w (v:=.agg (cArena d1 A4 c5 A7 c8).toArray) (r_lda agg_api_Arena rfl (vs:=(cArena d1 A4 c5 A7 c8)) rfl ((S13.fr G23 (fun _ h=>h)).now.part (n:=3) rfl)) ?_
 refine o_w (v:=.int .i64 d2) (r_mov rfl) ?_
 obtain ⟨ha26,h⟩:=h
 obtain ⟨ha27,h⟩:=h
 obtain ⟨x25,hx25,h⟩:=h
 refine o_call cf_buffer_Mend rfl (buffer_Mend_c d0 (kBuf_mk (d:=d0) (H3.up ((G12.trans (Fr.ext F13)).trans (Fr.ext F17)) (fun _ h=>h) (upc (.inr m19) (upc (.inr m11) (fun _ h=>.inl h))))) d1 (kArena_mk (d:=d1) (H6.up ((G12.trans (Fr.ext F13)).trans (Fr.ext F17)) (fun _ h=>h) (upc (.inr m19) (upc (.inr m11) (fun _ h=>.inl h)))) (H9.up ((G12.trans (Fr.ext F13)).trans (Fr.ext F17)) (fun _ h=>h) (upc (.inr m19) (upc (.inr m11) (fun _ h=>.inl h))))) d2 (((hL.fr E21).cons ((B10.ex F13).ex F17).lt).cons B17.lt) (eq_ev hx25 (bufMend_ev d0 d1 d2 ha26 ha27))) rfl rfl ?_
 rintro _ w25 ⟨F25,cs28,rfl,H29⟩
 have E30:=E21.trans F25
 obtain ⟨A35,c36,rfl,H37⟩:=kBuf_open H29
 refine o_store rfl (((B10.ex F13).ex F17).ex F25) (vs:=(cBuf x25 A35 c36)) rfl sz_buffer_Buffer rfl rfl rfl ?_
 intro w38 F38 B38
 have E39:=Ext.st E30 F38 (by simp; omega)
 have G40:Fr L w w38:=(((G12.trans (Fr.ext F13)).trans (Fr.ext F17)).trans (Fr.ext F25)).stp F38 (upc (.inr m11) (fun m hm=>by cases hm))
 have G41:Fr (b10::L) w13 w38:=(G23.trans (Fr.ext F25)).stp F38 (upc (.inl (List.Mem.head _)) (fun m hm=>by cases hm))
 have G42:Fr (b17::(b10::L)) w25 w38:=(Fr.refl _ _).stp F38 (upc (.inl (List.Mem.tail _ (List.Mem.head _))) (fun m hm=>by cases hm))
 have B43:=(B17.ex F25).fr F38 (by simp; omega)
 have B38':Blk w38 b10 _ (cBuf x25 A35 c36):=B38
 refine eo_nil_sq ?_
 iterate 2 refine ec_seq ?_
 refine ec_region ?_
 refine o_w (v:=.pointer (some ⟨b10,2,none⟩)) (r_fa fld_buffer_Buffer_2 rfl rfl) ?_
 refine o_w (v:=.slice A35 x25.names.length c36) (r_ld one_s_buffer_Name rfl (B38'.cell rfl)) ?_
 refine o_w (v:=.int .i64 (x25.names.length:Int)) (r_len_slc un_s_buffer_Name rfl) ?_
 refine o_w (v:=.bool ((x25.names.length:Int)==(0:Int))) (r_int rfl rfl rfl) ?_
 refine o_w (v:=.bool ((x25.names.length:Int)==(0:Int))) (r_mov rfl) ?_
 refine o_vg (v:=.int .i64 d3) (want_cf (t:=18) rfl rfl) (fun hk=>(r_mov rfl)) rfl rfl ?_
 refine o_vg (v:=.bool (decide (d3<(1:Int)))) (want_cf (t:=18) rfl rfl) (fun hk=>(r_int (gdT hk) rfl rfl)) rfl rfl ?_
 refine o_w (v:=.bool (((x25.names.length:Int)==(0:Int))||(decide (d3<(1:Int))))) (r_pickOr rfl rfl (fun hf=>(gdT (notT hf)))) ?_
 refine o_w (v:=.bool (((x25.names.length:Int)==(0:Int))||(decide (d3<(1:Int))))) (r_mov rfl) ?_
 refine o_vg (v:=.int .i64 d3) (want_cf (t:=22) rfl rfl) (fun hk=>(r_mov rfl)) rfl rfl ?_
 refine o_vg (v:=.bool (decide ((8:Int)<d3))) (want_cf (t:=22) rfl rfl) (fun hk=>(r_int (gdT hk) rfl rfl)) rfl rfl ?_
 refine o_w (v:=.bool ((((x25.names.length:Int)==(0:Int))||(decide (d3<(1:Int))))||(decide ((8:Int)<d3)))) (r_pickOr rfl rfl (fun hf=>(gdT (notT hf)))) ?_
 refine eo_nil_sq ?_
 refine ec_cond rfl (fun hc44=>?_) (fun hc44=>?_)
 ·replace h:=h.1 hc44
  refine ec_seq ?_
  refine ec_region ?_
  refine o_w (v:=.agg #[.int .i64 (0:Int),.int .i64 (0:Int),.int .i64 (0:Int),.int .i64 (0:Int),.int .i64 (0:Int),.int .i64 (0:Int),.int .i64 (0:Int),.slice none ([]:List Ent).length 0]) (r_build bld_frame_Frame (vs:=[]) (cells:=[.int .i64 (0:Int),.int .i64 (0:Int),.int .i64 (0:Int),.int .i64 (0:Int),.int .i64 (0:Int),.int .i64 (0:Int),.int .i64 (0:Int),.slice none ([]:List Ent).length 0]) rfl rfl) ?_
  refine o_store rfl B43 (vs:=[.int .i64 (0:Int),.int .i64 (0:Int),.int .i64 (0:Int),.int .i64 (0:Int),.int .i64 (0:Int),.int .i64 (0:Int),.int .i64 (0:Int),.slice none ([]:List Ent).length 0]) rfl sz_frame_Frame rfl rfl rfl ?_
  intro w45 F45 B45
  have E46:=Ext.st E39 F45 (by simp; omega)
  have B45':Blk w45 b17 _ [.int .i64 (0:Int),.int .i64 (0:Int),.int .i64 (0:Int),.int .i64 (0:Int),.int .i64 (0:Int),.int .i64 (0:Int),.int .i64 (0:Int),.slice none ([]:List Ent).length 0]:=B45
  refine o_w (v:=.bool false) (r_asg rfl) ?_
  refine eo_nil_sq ?_
  refine ec_ret ?_
  refine sq_ret ?_
  subst h
  exact (endr2 (rv_a rfl (agg_frame_Frame) B45' (vs:=[.int .i64 (0:Int),.int .i64 (0:Int),.int .i64 (0:Int),.int .i64 (0:Int),.int .i64 (0:Int),.int .i64 (0:Int),.int .i64 (0:Int),.slice none ([]:List Ent).length 0]) rfl rfl) (rv_t rfl) ⟨_,rfl,E46,_,rfl,(kFrm_mk (d:=(⟨(0:Int),(0:Int),(0:Int),[(0:Int),(0:Int),(0:Int),(0:Int)],([]:List Ent)⟩:Frm)) stb_nil rfl)⟩)
 ·replace h:=h.2 hc44
  refine ec_skip ?_
  refine sq_n ?_
  refine ec_seq ?_
  obtain ⟨ha53,h⟩:=h
  obtain ⟨ha54,h⟩:=h
  obtain ⟨x52,hx52,h⟩:=h
  have qb51_b17:b17<w38.heap.size:=B43.lt
  refine ec_anyN (by kernel_rfl) [[],[0],[],[2],[],[],[],[],[4,5,6,7],[0,1,2,3,4,5,6,7,8],[0,1,2,3,4,5,6,7,8,9],[0,1,2,3,4,5,6,7,8,9,10]] [9,27,28,29,30,31,32,33,34,35,36] (b17::[]) [10] [[b17]] [[10,11]] [fun w'=>Blk w' b17 37 [.int .i64 (0:Int),.int .i64 (0:Int),.int .i64 (0:Int),.int .i64 (0:Int),.int .i64 (0:Int),.int .i64 (0:Int),.int .i64 (0:Int),.slice none ([]:List Ent).length 0],fun w'=>∃ A55 c56,Stb (b17::(b10::L)) w' (fun w=>SlC kEnt w A55 c56 x52)∧Blk w' b17 37 [.int .i64 (1:Int),.int .i64 x25.epoch,.int .i64 x25.first,.int .i64 (0:Int),.int .i64 (0:Int),.int .i64 (0:Int),.int .i64 (0:Int),.slice A55 x52.length c56]] [fun v _=>v=(.pointer (some ⟨b10,0,none⟩):Value),fun v _=>v=(.int .i64 x25.epoch:Value),fun v _=>v=(.pointer (some ⟨b10,1,none⟩):Value),fun v _=>v=(.int .i64 x25.first:Value),fun v _=>v=(.agg (cBuf x25 A35 c36).toArray:Value),fun v _=>v=(.agg (cArena d1 A4 c5 A7 c8).toArray:Value),fun v _=>v=(.int .i64 d2:Value),fun v _=>v=(.int .i64 d3:Value),fun v w'=>∃ A55 c56,v=(.slice A55 x52.length c56:Value)∧Stb (b17::(b10::L)) w' (fun w=>SlC kEnt w A55 c56 x52),fun v w'=>∃ A55 c56,v=(.agg #[.int .i64 (1:Int),.int .i64 x25.epoch,.int .i64 x25.first,.int .i64 (0:Int),.int .i64 (0:Int),.int .i64 (0:Int),.int .i64 (0:Int),.slice A55 x52.length c56]:Value)∧Stb (b17::(b10::L)) w' (fun w=>SlC kEnt w A55 c56 x52),fun _ _=>True,fun v _=>v=(.bool true:Value)] (by kernel_rfl) (allM1 (fun m hm=>by first | exact hm | (simp at hm ⊢; simp [hm]; done) | simp_all) (fun _ h=>by cases h)) ⟨fun _ _ _ _ _ h=>h,fun _ _ _ _ _ h=>h,fun _ _ _ _ _ h=>h,fun _ _ _ _ _ h=>h,fun _ _ _ _ _ h=>h,fun _ _ _ _ _ h=>h,fun _ _ _ _ _ h=>h,fun _ _ _ _ _ h=>h,fun _ v w' w'' F h=>by obtain ⟨A55,c56,hv,H57⟩:=h; exact ⟨A55,c56,hv,(H57.ex F)⟩,fun _ v w' w'' F h=>by obtain ⟨A55,c56,hv,H57⟩:=h; exact ⟨A55,c56,hv,(H57.ex F)⟩,fun _ _ _ _ _ h=>h,fun _ _ _ _ _ h=>h,trivial⟩ ⟨⟨fun _ _ _ _ _ h=>h,fun _ _ _ _ _ h=>h,fun _ _ _ _ _ h=>h,fun _ _ _ _ _ h=>h,fun _ _ _ _ _ h=>h,fun _ _ _ _ _ h=>h,fun _ _ _ _ _ h=>h,fun _ _ _ _ _ h=>h,fun _ v w' w'' F h=>by obtain ⟨A55,c56,hv,H57⟩:=h; exact ⟨A55,c56,hv,(H57.fr F (by simp))⟩,fun _ v w' w'' F h=>by obtain ⟨A55,c56,hv,H57⟩:=h; exact ⟨A55,c56,hv,(H57.fr F (by simp))⟩,(fun h=>absurd h (by decide)),(fun h=>absurd h (by decide)),trivial⟩,trivial⟩ ⟨fun w' w'' F h=>by have hB51_b17:=h; exact (hB51_b17.ex F),fun w' w'' F h=>by obtain ⟨A55,c56,H57,hB51_b17⟩:=h; exact ⟨A55,c56,(H57.ex F),(hB51_b17.ex F)⟩,trivial⟩ B43 ?_ ?_ ?_
  ·refine ⟨?_,?_,?_,?_,?_,?_,?_,?_,?_,?_,?_,?_,trivial⟩
   ·intro _ ρ w51o F51o hX hS hρ
    have F51o:=hX 10 rfl rfl
    have q4:ρ 4=.pointer (some ⟨b10,0,none⟩):=hρ 4 (by kernel_rfl)
    exact o_q (r_fa fld_buffer_Buffer_0 rfl q4) ⟨Fr.refl _ _,rfl⟩
   ·intro _ ρ w51o F51o hX hS hρ
    have F51o:=hX 10 rfl rfl
    have q27:ρ 27=.pointer (some ⟨b10,0,none⟩):=hS 0 (by decide) 27 rfl
    exact o_q (r_ld one_int q27 ((B38'.ex F51o).cell rfl)) ⟨Fr.refl _ _,rfl⟩
   ·intro _ ρ w51o F51o hX hS hρ
    have F51o:=hX 10 rfl rfl
    have q4:ρ 4=.pointer (some ⟨b10,0,none⟩):=hρ 4 (by kernel_rfl)
    exact o_q (r_fa fld_buffer_Buffer_1 rfl q4) ⟨Fr.refl _ _,rfl⟩
   ·intro _ ρ w51o F51o hX hS hρ
    have F51o:=hX 10 rfl rfl
    have q29:ρ 29=.pointer (some ⟨b10,1,none⟩):=hS 2 (by decide) 29 rfl
    exact o_q (r_ld one_int q29 ((B38'.ex F51o).cell rfl)) ⟨Fr.refl _ _,rfl⟩
   ·intro _ ρ w51o F51o hX hS hρ
    have F51o:=hX 10 rfl rfl
    have q4:ρ 4=.pointer (some ⟨b10,0,none⟩):=hρ 4 (by kernel_rfl)
    exact o_q (r_lda agg_buffer_Buffer q4 (vs:=(cBuf x25 A35 c36)) rfl ((B38'.ex F51o).part (n:=3) rfl)) ⟨Fr.refl _ _,rfl⟩
   ·intro _ ρ w51o F51o hX hS hρ
    have F51o:=hX 10 rfl rfl
    have q5:ρ 5=.pointer (some ⟨b13,0,none⟩):=hρ 5 (by kernel_rfl)
    exact o_q (r_lda agg_api_Arena q5 (vs:=(cArena d1 A4 c5 A7 c8)) rfl ((S13.fr (G41.trans (Fr.ext F51o)) (fun _ h=>h)).now.part (n:=3) rfl)) ⟨Fr.refl _ _,rfl⟩
   ·intro _ ρ w51o F51o hX hS hρ
    have F51o:=hX 10 rfl rfl
    have q2:ρ 2=.int .i64 d2:=hρ 2 (by kernel_rfl)
    exact o_q (r_mov q2) ⟨Fr.refl _ _,rfl⟩
   ·intro _ ρ w51o F51o hX hS hρ
    have F51o:=hX 10 rfl rfl
    have q3:ρ 3=.int .i64 d3:=hρ 3 (by kernel_rfl)
    exact o_q (r_mov q3) ⟨Fr.refl _ _,rfl⟩
   ·intro _ ρ w51o F51o hX hS hρ
    have F51o:=hX 10 rfl rfl
    have E82:=E39.trans F51o
    have q31:ρ 31=.agg (cBuf x25 A35 c36).toArray:=hS 4 (by decide) 31 rfl
    have q32:ρ 32=.agg (cArena d1 A4 c5 A7 c8).toArray:=hS 5 (by decide) 32 rfl
    have q33:ρ 33=.int .i64 d2:=hS 6 (by decide) 33 rfl
    have q34:ρ 34=.int .i64 d3:=hS 7 (by decide) 34 rfl
    refine o_call cf_buffer_Some (by simp only [List.map,ev,q31,q32,q33,q34] <;> rfl) (buffer_Some_c x25 (kBuf_mk (d:=x25) (H37.fr (G42.trans (Fr.ext F51o)) (fun _ h=>h))) d1 (kArena_mk (d:=d1) (H6.up (G40.trans (Fr.ext F51o)) (fun _ h=>h) (upc (.inr m19) (upc (.inr m11) (fun _ h=>.inl h)))) (H9.up (G40.trans (Fr.ext F51o)) (fun _ h=>h) (upc (.inr m19) (upc (.inr m11) (fun _ h=>.inl h))))) d2 d3 (((hL.fr E82).cons (B38'.ex F51o).lt).cons (B43.ex F51o).lt) (eq_ev hx52 (bufSome_ev x25 d1 d2 d3 ha53 ha54))) rfl rfl ?_
    rintro _ w' ⟨F,A55,c56,rfl,H57⟩
    exact eo_nil ⟨rfl,rfl,_,rfl,F,⟨A55,c56,rfl,H57⟩⟩
   ·intro _ ρ w51o F51o hX hS hρ
    have F51o:=hX 10 rfl rfl
    have q28:ρ 28=.int .i64 x25.epoch:=hS 1 (by decide) 28 rfl
    have q30:ρ 30=.int .i64 x25.first:=hS 3 (by decide) 30 rfl
    obtain ⟨A55,c56,q35,H57⟩:=hS 8 (by decide) 35 rfl
    exact o_q (r_build bld_frame_Frame (vs:=[(0,.int .i64 (1:Int)),(1,.int .i64 x25.epoch),(2,.int .i64 x25.first),(4,.slice A55 x52.length c56)]) (cells:=[.int .i64 (1:Int),.int .i64 x25.epoch,.int .i64 x25.first,.int .i64 (0:Int),.int .i64 (0:Int),.int .i64 (0:Int),.int .i64 (0:Int),.slice A55 x52.length c56]) (by simp only [List.map,ev,q28,q30,q35]) rfl) ⟨Fr.refl _ _,⟨A55,c56,rfl,H57⟩⟩
   ·intro hT; exact absurd hT (by decide)
   ·intro _ ρ w51o F51o hX hS hρ
    exact o_q (r_asg rfl) ⟨Fr.refl _ _,rfl⟩
  ·refine ⟨⟨_,rfl,?_⟩,trivial⟩
   ·intro ρ w51o F51o hX hI hS hρ
    have hB51_b17:=hI
    have q8:ρ 8=.pointer (some ⟨b17,0,none⟩):=hρ 8 (by kernel_rfl)
    obtain ⟨A55,c56,q36,H57⟩:=hS 9 (by decide) 36 rfl
    refine o_store (show ev ρ _=_ from q8) hB51_b17 (vs:=[.int .i64 (1:Int),.int .i64 x25.epoch,.int .i64 x25.first,.int .i64 (0:Int),.int .i64 (0:Int),.int .i64 (0:Int),.int .i64 (0:Int),.slice A55 x52.length c56]) (congrArg Value.cells q36) sz_frame_Frame rfl rfl rfl ?_
    intro w' F B2
    exact eo_nil ⟨rfl,rfl,undef,rfl,F,⟨A55,c56,(H57.fr F (by simp)),B2⟩,trivial⟩
  ·intro ρ w51 F51 hI hS hρ
   obtain ⟨A55,c56,H57,hB51_b17⟩:=hI
   have q9:ρ 9=.bool true:=hS 11 9 rfl
   obtain ⟨ρ',rfl⟩:∃ ρ',ρ=envs (ovr [9,27,28,29,30,31,32,33,34,35,36] ρ' _) [(9,.bool true)]:=⟨ρ,ovr_self hρ ⟨q9,trivial⟩⟩
   have E94:Ext w w51:=Ext.st E39 F51 (upc n17 (fun m hm=>by cases hm))
   have Z51:=Fr.refl (b17::(b10::L)) w51
   refine sq_n ?_
   refine ec_ret ?_
   subst h
   exact (endr2 (rv_a rfl (agg_frame_Frame) hB51_b17 (vs:=[.int .i64 (1:Int),.int .i64 x25.epoch,.int .i64 x25.first,.int .i64 (0:Int),.int .i64 (0:Int),.int .i64 (0:Int),.int .i64 (0:Int),.slice A55 x52.length c56]) rfl rfl) (rv_t rfl) ⟨_,rfl,E94,_,rfl,(kFrm_mk (d:=(⟨(1:Int),x25.epoch,x25.first,[(0:Int),(0:Int),(0:Int),(0:Int)],x52⟩:Frm)) (H57.up Z51 (fun _ h=>h) (fun m hm=>Or.inl (List.Mem.tail _ (List.Mem.tail _ hm)))) rfl)⟩)
def push_letter_is_raw (d0:Ltr) (d1:Int) (y:Bool):Prop :=
 (sml d0.frame.entries)∧((d0.frame.entries.length≤1000000)∧(y=(((checkF d0.frame)==(0:Int))&&(d0.frame.kind==d1))))
set_option maxRecDepth 20000 in
set_option maxHeartbeats 4000000 in
theorem push_letter_is_c {L:List Nat} {w:World} {csP0:List Value} (d0:Ltr) (HP0:Stb L w (fun w=>kLtr.r w csP0 d0)) (d1:Int) (hL:Lt L w) {y:Bool} (h:push_letter_is_raw d0 d1 y) :
  Calls Try.prog 31 [.agg csP0.toArray,.int .i64 d1].toArray w (Ret fun v w'=>Ext w w'∧v=.bool y):=by
 obtain ⟨A2,c3,rfl,H4,hl1⟩:=kLtr_open HP0
 unfold push_letter_is_raw at h
 refine calls_ec Try.func31 rfl rfl rfl ?_
 refine ec_seq ?_
 refine ec_region ?_
 refine o_box (cs:=(cLtr d0 A2 c3)) rfl rfl rfl ?_
 intro b5 w5 e5 F5 B5
 have S5:=B5.stb (nin hL e5)
 have G6:Fr L w w5:=Fr.ext F5
 refine o_w (v:=.bool false) (r_asg rfl) ?_
 refine eo_nil_sq ?_
 refine ec_seq ?_
 refine ec_region ?_
 refine o_w (v:=.pointer (some ⟨b5,0,none⟩)) (r_fa fld_push_letter_0 rfl rfl) ?_
 refine o_w (v:=.agg (cFrm d0.frame A2 c3).toArray) (r_lda agg_frame_Frame rfl (vs:=(cFrm d0.frame A2 c3)) rfl (S5.now.part (n:=8) rfl)) ?_
 obtain ⟨ha8,h⟩:=h
 obtain ⟨ha9,h⟩:=h
 refine o_call cf_frame_Check rfl (frame_Check_c d0.frame (kFrm_mk (d:=d0.frame) (H4.fr G6 (fun _ h=>h)) hl1) (hL.fr F5) (frCheck_ev d0.frame ha8 ha9)) rfl rfl ?_
 rintro _ w7 ⟨F7,rfl⟩
 have E10:=F5.trans F7
 have G12:Fr L w5 w7:=Fr.ext F7
 refine o_w (v:=.bool ((checkF d0.frame)==(0:Int))) (r_int rfl rfl rfl) ?_
 refine o_w (v:=.bool ((checkF d0.frame)==(0:Int))) (r_mov rfl) ?_
 refine o_vg (v:=.pointer (some ⟨b5,0,none⟩)) (want_ct (t:=9) rfl rfl) (fun hk=>(r_fa fld_push_letter_0 rfl rfl)) rfl rfl ?_
 refine o_vg (v:=.pointer (some ⟨b5,0,none⟩)) (want_ct (t:=9) rfl rfl) (fun hk=>(r_fa fld_frame_Frame_0 rfl (gdT hk))) rfl rfl ?_
 refine o_vg (v:=.int .i64 d0.frame.kind) (want_ct (t:=9) rfl rfl) (fun hk=>(r_ld one_int (gdT hk) ((S5.fr G12 (fun _ h=>h)).now.cell rfl))) rfl rfl ?_
 refine o_vg (v:=.int .i64 d1) (want_ct (t:=9) rfl rfl) (fun hk=>(r_mov rfl)) rfl rfl ?_
 refine o_vg (v:=.bool (d0.frame.kind==d1)) (want_ct (t:=9) rfl rfl) (fun hk=>(r_int (gdT hk) (gdT hk) rfl)) rfl rfl ?_
 refine o_w (v:=.bool (((checkF d0.frame)==(0:Int))&&(d0.frame.kind==d1))) (r_pickAnd rfl (fun ht=>(gdT ht)) rfl) ?_
 refine o_w (v:=.bool (((checkF d0.frame)==(0:Int))&&(d0.frame.kind==d1))) (r_asg rfl) ?_
 refine eo_nil_sq ?_
 refine ec_ret ?_
 subst h
 exact (end1 rfl ⟨_,rfl,E10,rfl⟩)
def push_letter_upto_raw (d0:Ltr) (y:Int):Prop :=
 y=(IntKind.i64.wrap (d0.frame.b + (d0.frame.entries.length:Int)))
set_option maxRecDepth 20000 in
set_option maxHeartbeats 4000000 in
theorem push_letter_upto_c {L:List Nat} {w:World} {csP0:List Value} (d0:Ltr) (HP0:Stb L w (fun w=>kLtr.r w csP0 d0)) (hL:Lt L w) {y:Int} (h:push_letter_upto_raw d0 y) :
  Calls Try.prog 30 [.agg csP0.toArray].toArray w (Ret fun v w'=>Ext w w'∧v=.int .i64 y):=by
 obtain ⟨A2,c3,rfl,H4,hl1⟩:=kLtr_open HP0
 unfold push_letter_upto_raw at h
 refine calls_ec Try.func30 rfl rfl rfl ?_
 refine ec_seq ?_
 refine ec_region ?_
 refine o_box (cs:=(cLtr d0 A2 c3)) rfl rfl rfl ?_
 intro b5 w5 e5 F5 B5
 have S5:=B5.stb (nin hL e5)
 refine o_w (v:=.int .i64 (0:Int)) (r_asg rfl) ?_
 refine eo_nil_sq ?_
 refine ec_seq ?_
 refine ec_region ?_
 refine o_w (v:=.pointer (some ⟨b5,0,none⟩)) (r_fa fld_push_letter_0 rfl rfl) ?_
 refine o_w (v:=.pointer (some ⟨b5,2,none⟩)) (r_fa fld_frame_Frame_2 rfl rfl) ?_
 refine o_w (v:=.int .i64 d0.frame.b) (r_ld one_int rfl (S5.now.cell rfl)) ?_
 refine o_w (v:=.pointer (some ⟨b5,0,none⟩)) (r_fa fld_push_letter_0 rfl rfl) ?_
 refine o_w (v:=.pointer (some ⟨b5,7,none⟩)) (r_fa fld_frame_Frame_4 rfl rfl) ?_
 refine o_w (v:=.slice A2 d0.frame.entries.length c3) (r_ld one_s_api_Entry rfl (S5.now.cell rfl)) ?_
 refine o_w (v:=.int .i64 (d0.frame.entries.length:Int)) (r_len_slc un_s_api_Entry rfl) ?_
 refine o_w (v:=.int .i64 (IntKind.i64.wrap (d0.frame.b + (d0.frame.entries.length:Int)))) (r_int rfl rfl rfl) ?_
 refine o_w (v:=.int .i64 (IntKind.i64.wrap (d0.frame.b + (d0.frame.entries.length:Int)))) (r_asg rfl) ?_
 refine eo_nil_sq ?_
 refine ec_ret ?_
 subst h
 exact (end1 rfl ⟨_,rfl,F5,rfl⟩)
def push_Heard_raw (d0:Frm) (y:Frm × Bool):Prop :=
 ∃ x27,push_letter_is_raw (⟨d0⟩:Ltr) (1:Int) x27∧(((!x27)=true→(y=((⟨(0:Int),(0:Int),(0:Int),[(0:Int),(0:Int),(0:Int),(0:Int)],([]:List Ent)⟩:Frm),false)))∧((!x27)=false→(∃ x39,push_letter_upto_raw (⟨d0⟩:Ltr) x39∧(((decide ((2147483647:Int)<x39))=true→(y=((⟨(0:Int),(0:Int),(0:Int),[(0:Int),(0:Int),(0:Int),(0:Int)],([]:List Ent)⟩:Frm),false)))∧((decide ((2147483647:Int)<x39))=false→(∃ x52,push_letter_upto_raw (⟨d0⟩:Ltr) x52∧(y=((⟨(2:Int),d0.a,x52,[(0:Int),(0:Int),(0:Int),(0:Int)],([]:List Ent)⟩:Frm),true))))))))
set_option maxRecDepth 20000 in
set_option maxHeartbeats 4000000 in
theorem push_Heard_c {L:List Nat} {w:World} {csP0:List Value} (d0:Frm) (HP0:Stb L w (fun w=>kFrm.r w csP0 d0)) (hL:Lt L w) {y:Frm × Bool} (h:push_Heard_raw d0 y) :
  Calls Try.prog 14 [.agg csP0.toArray].toArray w (Ret fun v w'=>Ext w w'∧∃ (cs90:List Value),v=.tuple #[.agg cs90.toArray,.bool y.2]∧Stb L w' (fun w=>kFrm.r w cs90 y.1)):=by
 obtain ⟨A2,c3,rfl,H4,hl1⟩:=kFrm_open HP0
 unfold push_Heard_raw at h
 refine calls_ec Try.func14 rfl rfl rfl ?_
 refine ec_seq ?_
 refine ec_region ?_
 refine o_box (cs:=(cFrm d0 A2 c3)) rfl rfl rfl ?_
 intro b5 w5 e5 F5 B5
 have S5:=B5.stb (nin hL e5)
 have G6:Fr L w w5:=Fr.ext F5
 refine o_alloc zero_frame_Frame rfl rfl rfl ?_
 intro b7 w7 e7 F7 B7
 have n7:w.heap.size≤b7:=by rw [e7]; exact F5.size
 have m8:w.heap.size≤b7:=by rw [e7]; exact G6.size
 have E10:=F5.trans F7
 have G12:Fr L w5 w7:=Fr.ext F7
 refine o_w (v:=.bool false) (r_asg rfl) ?_
 refine eo_nil_sq ?_
 refine ec_seq ?_
 refine ec_region ?_
 refine o_w (v:=.agg (cFrm d0 A2 c3).toArray) (r_lda agg_frame_Frame rfl (vs:=(cFrm d0 A2 c3)) rfl ((S5.fr G12 (fun _ h=>h)).now.part (n:=8) rfl)) ?_
 refine o_w (v:=.agg #[.int .i64 d0.kind,.int .i64 d0.a,.int .i64 d0.b,.int .i64 (nth d0.sums 0),.int .i64 (nth d0.sums 1),.int .i64 (nth d0.sums 2),.int .i64 (nth d0.sums 3),.slice A2 d0.entries.length c3]) (r_build bld_push_letter (vs:=[(0,.agg (cFrm d0 A2 c3).toArray)]) (cells:=[.int .i64 d0.kind,.int .i64 d0.a,.int .i64 d0.b,.int .i64 (nth d0.sums 0),.int .i64 (nth d0.sums 1),.int .i64 (nth d0.sums 2),.int .i64 (nth d0.sums 3),.slice A2 d0.entries.length c3]) rfl rfl) ?_
 refine o_alloc zero_push_letter rfl rfl rfl ?_
 intro b13 w13 e13 F13 B13
 have n13:w.heap.size≤b13:=by rw [e13]; exact E10.size
 have q14:b7<b13:=by rw [e13]; exact B7.lt
 have m15:w.heap.size≤b13:=by rw [e13]; exact (G6.trans (Fr.ext F7)).size
 have E17:=E10.trans F13
 refine o_store rfl B13 (vs:=[.int .i64 d0.kind,.int .i64 d0.a,.int .i64 d0.b,.int .i64 (nth d0.sums 0),.int .i64 (nth d0.sums 1),.int .i64 (nth d0.sums 2),.int .i64 (nth d0.sums 3),.slice A2 d0.entries.length c3]) rfl sz_push_letter rfl rfl rfl ?_
 intro w21 F21 B21
 have E22:=Ext.st E17 F21 (by simp; omega)
 have G23:Fr L w w21:=((G6.trans (Fr.ext F7)).trans (Fr.ext F13)).stp F21 (upc (.inr m15) (fun m hm=>by cases hm))
 have B25:=(B7.ex F13).fr F21 (by simp; omega)
 have B21':Blk w21 b13 _ [.int .i64 d0.kind,.int .i64 d0.a,.int .i64 d0.b,.int .i64 (nth d0.sums 0),.int .i64 (nth d0.sums 1),.int .i64 (nth d0.sums 2),.int .i64 (nth d0.sums 3),.slice A2 d0.entries.length c3]:=B21
 refine eo_nil_sq ?_
 refine ec_seq ?_
 refine ec_region ?_
 refine o_w (v:=.agg #[.int .i64 d0.kind,.int .i64 d0.a,.int .i64 d0.b,.int .i64 (nth d0.sums 0),.int .i64 (nth d0.sums 1),.int .i64 (nth d0.sums 2),.int .i64 (nth d0.sums 3),.slice A2 d0.entries.length c3]) (r_lda agg_push_letter rfl (vs:=[.int .i64 d0.kind,.int .i64 d0.a,.int .i64 d0.b,.int .i64 (nth d0.sums 0),.int .i64 (nth d0.sums 1),.int .i64 (nth d0.sums 2),.int .i64 (nth d0.sums 3),.slice A2 d0.entries.length c3]) rfl (B21'.part (n:=8) rfl)) ?_
 refine o_w (r_mkfb (us:=[.agg #[.int .i64 d0.kind,.int .i64 d0.a,.int .i64 d0.b,.int .i64 (nth d0.sums 0),.int .i64 (nth d0.sums 1),.int .i64 (nth d0.sums 2),.int .i64 (nth d0.sums 3),.slice A2 d0.entries.length c3]]) (vs:=[]) rfl rfl) ?_
 refine o_w (v:=.func (.func 30) #[.agg #[.int .i64 d0.kind,.int .i64 d0.a,.int .i64 d0.b,.int .i64 (nth d0.sums 0),.int .i64 (nth d0.sums 1),.int .i64 (nth d0.sums 2),.int .i64 (nth d0.sums 3),.slice A2 d0.entries.length c3]] #[]) (r_asg rfl) ?_
 refine eo_nil_sq ?_
 iterate 2 refine ec_seq ?_
 refine ec_region ?_
 refine o_w (v:=.agg #[.int .i64 d0.kind,.int .i64 d0.a,.int .i64 d0.b,.int .i64 (nth d0.sums 0),.int .i64 (nth d0.sums 1),.int .i64 (nth d0.sums 2),.int .i64 (nth d0.sums 3),.slice A2 d0.entries.length c3]) (r_lda agg_push_letter rfl (vs:=[.int .i64 d0.kind,.int .i64 d0.a,.int .i64 d0.b,.int .i64 (nth d0.sums 0),.int .i64 (nth d0.sums 1),.int .i64 (nth d0.sums 2),.int .i64 (nth d0.sums 3),.slice A2 d0.entries.length c3]) rfl (B21'.part (n:=8) rfl)) ?_
 obtain ⟨x27,hx27,h⟩:=h
 refine o_call cf_push_letter_is rfl (push_letter_is_c (⟨d0⟩:Ltr) (kLtr_mk (d:=(⟨d0⟩:Ltr)) (H4.up G23 (fun _ h=>h) (upc (.inr m15) (upc (.inr m8) (fun _ h=>.inl h)))) (by first | rfl | exact hl1)) (1:Int) (((hL.fr E22).cons B25.lt).cons B21'.lt) hx27) rfl rfl ?_
 rintro _ w27 ⟨F27,rfl⟩
 have E28:=E22.trans F27
 refine o_w (v:=.bool (!x27)) (r_not rfl) ?_
 refine o_w (v:=.bool (!x27)) (r_mov rfl) ?_
 rcases Bool.eq_false_or_eq_true (!x27) with hc33 | hc33
 ·replace h:=h.1 hc33
  iterate 3 refine o_no (want_f (t:=13) rfl rfl hc33) rfl ?_
  refine o_w (v:=.bool true) (r_pickT rfl hc33 rfl) ?_
  refine eo_nil_sq ?_
  refine ec_condT rfl rfl ?_
  refine ec_seq ?_
  refine ec_region ?_
  refine o_w (v:=.agg #[.int .i64 (0:Int),.int .i64 (0:Int),.int .i64 (0:Int),.int .i64 (0:Int),.int .i64 (0:Int),.int .i64 (0:Int),.int .i64 (0:Int),.slice none ([]:List Ent).length 0]) (r_build bld_frame_Frame (vs:=[]) (cells:=[.int .i64 (0:Int),.int .i64 (0:Int),.int .i64 (0:Int),.int .i64 (0:Int),.int .i64 (0:Int),.int .i64 (0:Int),.int .i64 (0:Int),.slice none ([]:List Ent).length 0]) rfl rfl) ?_
  refine o_store rfl (B25.ex F27) (vs:=[.int .i64 (0:Int),.int .i64 (0:Int),.int .i64 (0:Int),.int .i64 (0:Int),.int .i64 (0:Int),.int .i64 (0:Int),.int .i64 (0:Int),.slice none ([]:List Ent).length 0]) rfl sz_frame_Frame rfl rfl rfl ?_
  intro w34 F34 B34
  have E35:=Ext.st E28 F34 (by simp; omega)
  have B34':Blk w34 b7 _ [.int .i64 (0:Int),.int .i64 (0:Int),.int .i64 (0:Int),.int .i64 (0:Int),.int .i64 (0:Int),.int .i64 (0:Int),.int .i64 (0:Int),.slice none ([]:List Ent).length 0]:=B34
  refine o_w (v:=.bool false) (r_asg rfl) ?_
  refine eo_nil_sq ?_
  refine ec_ret ?_
  refine sq_ret ?_
  subst h
  exact (endr2 (rv_a rfl (agg_frame_Frame) B34' (vs:=[.int .i64 (0:Int),.int .i64 (0:Int),.int .i64 (0:Int),.int .i64 (0:Int),.int .i64 (0:Int),.int .i64 (0:Int),.int .i64 (0:Int),.slice none ([]:List Ent).length 0]) rfl rfl) (rv_t rfl) ⟨_,rfl,E35,_,rfl,(kFrm_mk (d:=(⟨(0:Int),(0:Int),(0:Int),[(0:Int),(0:Int),(0:Int),(0:Int)],([]:List Ent)⟩:Frm)) stb_nil rfl)⟩)
 ·replace h:=h.2 hc33
  refine o_v (v:=.func (.func 30) #[.agg #[.int .i64 d0.kind,.int .i64 d0.a,.int .i64 d0.b,.int .i64 (nth d0.sums 0),.int .i64 (nth d0.sums 1),.int .i64 (nth d0.sums 2),.int .i64 (nth d0.sums 3),.slice A2 d0.entries.length c3]] #[]) (r_mov rfl) (want_t (t:=13) rfl rfl hc33) rfl rfl ?_
  obtain ⟨x39,hx39,h⟩:=h
  refine o_callb (us:=[.agg #[.int .i64 d0.kind,.int .i64 d0.a,.int .i64 d0.b,.int .i64 (nth d0.sums 0),.int .i64 (nth d0.sums 1),.int .i64 (nth d0.sums 2),.int .i64 (nth d0.sums 3),.slice A2 d0.entries.length c3]]) (vs:=[]) (caps:=[]) cf_push_letter_upto rfl rfl (push_letter_upto_c (⟨d0⟩:Ltr) (kLtr_mk (d:=(⟨d0⟩:Ltr)) (H4.up (G23.trans (Fr.ext F27)) (fun _ h=>h) (upc (.inr m15) (upc (.inr m8) (fun _ h=>.inl h)))) (by first | rfl | exact hl1)) (((hL.fr E28).cons (B25.ex F27).lt).cons (B21'.ex F27).lt) hx39) (want_t (t:=13) rfl rfl hc33) rfl ?_
  rintro _ w39 ⟨F39,rfl⟩
  have E40:=E28.trans F39
  refine o_v (v:=.bool (decide ((2147483647:Int)<x39))) (r_int rfl rfl rfl) (want_t (t:=13) rfl rfl hc33) rfl rfl ?_
  refine o_w (v:=.bool (decide ((2147483647:Int)<x39))) (r_pickF rfl hc33 rfl) ?_
  refine eo_nil_sq ?_
  refine ec_cond rfl (fun hc45=>?_) (fun hc45=>?_)
  ·replace h:=h.1 hc45
   refine ec_seq ?_
   refine ec_region ?_
   refine o_w (v:=.agg #[.int .i64 (0:Int),.int .i64 (0:Int),.int .i64 (0:Int),.int .i64 (0:Int),.int .i64 (0:Int),.int .i64 (0:Int),.int .i64 (0:Int),.slice none ([]:List Ent).length 0]) (r_build bld_frame_Frame (vs:=[]) (cells:=[.int .i64 (0:Int),.int .i64 (0:Int),.int .i64 (0:Int),.int .i64 (0:Int),.int .i64 (0:Int),.int .i64 (0:Int),.int .i64 (0:Int),.slice none ([]:List Ent).length 0]) rfl rfl) ?_
   refine o_store rfl ((B25.ex F27).ex F39) (vs:=[.int .i64 (0:Int),.int .i64 (0:Int),.int .i64 (0:Int),.int .i64 (0:Int),.int .i64 (0:Int),.int .i64 (0:Int),.int .i64 (0:Int),.slice none ([]:List Ent).length 0]) rfl sz_frame_Frame rfl rfl rfl ?_
   intro w46 F46 B46
   have E47:=Ext.st E40 F46 (by simp; omega)
   have B46':Blk w46 b7 _ [.int .i64 (0:Int),.int .i64 (0:Int),.int .i64 (0:Int),.int .i64 (0:Int),.int .i64 (0:Int),.int .i64 (0:Int),.int .i64 (0:Int),.slice none ([]:List Ent).length 0]:=B46
   refine o_w (v:=.bool false) (r_asg rfl) ?_
   refine eo_nil_sq ?_
   refine ec_ret ?_
   refine sq_ret ?_
   subst h
   exact (endr2 (rv_a rfl (agg_frame_Frame) B46' (vs:=[.int .i64 (0:Int),.int .i64 (0:Int),.int .i64 (0:Int),.int .i64 (0:Int),.int .i64 (0:Int),.int .i64 (0:Int),.int .i64 (0:Int),.slice none ([]:List Ent).length 0]) rfl rfl) (rv_t rfl) ⟨_,rfl,E47,_,rfl,(kFrm_mk (d:=(⟨(0:Int),(0:Int),(0:Int),[(0:Int),(0:Int),(0:Int),(0:Int)],([]:List Ent)⟩:Frm)) stb_nil rfl)⟩)
  ·replace h:=h.2 hc45
   refine ec_skip ?_
   refine sq_n ?_
   refine ec_seq ?_
   obtain ⟨x52,hx52,h⟩:=h
   have qb51_b7:b7<w39.heap.size:=((B25.ex F27).ex F39).lt
   refine ec_anyN (by kernel_rfl) [[],[0],[0,1],[],[3],[0,1,2,3,4],[0,1,2,3,4,5],[0,1,2,3,4,5,6]] [3,19,20,21,22,23,24] (b7::[]) [6] [[b7]] [[6,7]] [fun w'=>Blk w' b7 37 [.int .i64 (0:Int),.int .i64 (0:Int),.int .i64 (0:Int),.int .i64 (0:Int),.int .i64 (0:Int),.int .i64 (0:Int),.int .i64 (0:Int),.slice none ([]:List Ent).length 0],fun w'=>Blk w' b7 37 [.int .i64 (2:Int),.int .i64 d0.a,.int .i64 x52,.int .i64 (0:Int),.int .i64 (0:Int),.int .i64 (0:Int),.int .i64 (0:Int),.slice none ([]:List Ent).length 0]] [fun v _=>v=(.pointer (some ⟨b13,0,none⟩):Value),fun v _=>v=(.pointer (some ⟨b13,1,none⟩):Value),fun v _=>v=(.int .i64 d0.a:Value),fun v _=>v=(.func (.func 30) #[.agg #[.int .i64 d0.kind,.int .i64 d0.a,.int .i64 d0.b,.int .i64 (nth d0.sums 0),.int .i64 (nth d0.sums 1),.int .i64 (nth d0.sums 2),.int .i64 (nth d0.sums 3),.slice A2 d0.entries.length c3]] #[]:Value),fun v _=>v=(.int .i64 x52:Value),fun v _=>v=(.agg #[.int .i64 (2:Int),.int .i64 d0.a,.int .i64 x52,.int .i64 (0:Int),.int .i64 (0:Int),.int .i64 (0:Int),.int .i64 (0:Int),.slice none ([]:List Ent).length 0]:Value),fun _ _=>True,fun v _=>v=(.bool true:Value)] (by kernel_rfl) (allM1 (fun m hm=>by first | exact hm | (simp at hm ⊢; simp [hm]; done) | simp_all) (fun _ h=>by cases h)) ⟨fun _ _ _ _ _ h=>h,fun _ _ _ _ _ h=>h,fun _ _ _ _ _ h=>h,fun _ _ _ _ _ h=>h,fun _ _ _ _ _ h=>h,fun _ _ _ _ _ h=>h,fun _ _ _ _ _ h=>h,fun _ _ _ _ _ h=>h,trivial⟩ ⟨⟨fun _ _ _ _ _ h=>h,fun _ _ _ _ _ h=>h,fun _ _ _ _ _ h=>h,fun _ _ _ _ _ h=>h,fun _ _ _ _ _ h=>h,fun _ _ _ _ _ h=>h,(fun h=>absurd h (by decide)),(fun h=>absurd h (by decide)),trivial⟩,trivial⟩ ⟨fun w' w'' F h=>by have hB51_b7:=h; exact (hB51_b7.ex F),fun w' w'' F h=>by have hB51_b7:=h; exact (hB51_b7.ex F),trivial⟩ ((B25.ex F27).ex F39) ?_ ?_ ?_
   ·refine ⟨?_,?_,?_,?_,?_,?_,?_,?_,trivial⟩
    ·intro _ ρ w51o F51o hX hS hρ
     have F51o:=hX 6 rfl rfl
     have q4:ρ 4=.pointer (some ⟨b13,0,none⟩):=hρ 4 (by kernel_rfl)
     exact o_q (r_fa fld_push_letter_0 rfl q4) ⟨Fr.refl _ _,rfl⟩
    ·intro _ ρ w51o F51o hX hS hρ
     have F51o:=hX 6 rfl rfl
     have q19:ρ 19=.pointer (some ⟨b13,0,none⟩):=hS 0 (by decide) 19 rfl
     exact o_q (r_fa fld_frame_Frame_1 rfl q19) ⟨Fr.refl _ _,rfl⟩
    ·intro _ ρ w51o F51o hX hS hρ
     have F51o:=hX 6 rfl rfl
     have q20:ρ 20=.pointer (some ⟨b13,1,none⟩):=hS 1 (by decide) 20 rfl
     exact o_q (r_ld one_int q20 ((((B21'.ex F27).ex F39).ex F51o).cell rfl)) ⟨Fr.refl _ _,rfl⟩
    ·intro _ ρ w51o F51o hX hS hρ
     have F51o:=hX 6 rfl rfl
     have q5:ρ 5=.func (.func 30) #[.agg #[.int .i64 d0.kind,.int .i64 d0.a,.int .i64 d0.b,.int .i64 (nth d0.sums 0),.int .i64 (nth d0.sums 1),.int .i64 (nth d0.sums 2),.int .i64 (nth d0.sums 3),.slice A2 d0.entries.length c3]] #[]:=hρ 5 (by kernel_rfl)
     exact o_q (r_mov q5) ⟨Fr.refl _ _,rfl⟩
    ·intro _ ρ w51o F51o hX hS hρ
     have F51o:=hX 6 rfl rfl
     have E58:=E40.trans F51o
     have q22:ρ 22=.func (.func 30) #[.agg #[.int .i64 d0.kind,.int .i64 d0.a,.int .i64 d0.b,.int .i64 (nth d0.sums 0),.int .i64 (nth d0.sums 1),.int .i64 (nth d0.sums 2),.int .i64 (nth d0.sums 3),.slice A2 d0.entries.length c3]] #[]:=hS 3 (by decide) 22 rfl
     refine o_callb (us:=[.agg #[.int .i64 d0.kind,.int .i64 d0.a,.int .i64 d0.b,.int .i64 (nth d0.sums 0),.int .i64 (nth d0.sums 1),.int .i64 (nth d0.sums 2),.int .i64 (nth d0.sums 3),.slice A2 d0.entries.length c3]]) (vs:=[]) (caps:=[]) cf_push_letter_upto (show ev ρ _=_ from q22) rfl (push_letter_upto_c (⟨d0⟩:Ltr) (kLtr_mk (d:=(⟨d0⟩:Ltr)) (H4.up (((G23.trans (Fr.ext F27)).trans (Fr.ext F39)).trans (Fr.ext F51o)) (fun _ h=>h) (upc (.inr m15) (upc (.inr m8) (fun _ h=>.inl h)))) (by first | rfl | exact hl1)) (((hL.fr E58).cons (((B25.ex F27).ex F39).ex F51o).lt).cons (((B21'.ex F27).ex F39).ex F51o).lt) hx52) rfl rfl ?_
     rintro _ w' ⟨F,rfl⟩
     exact eo_nil ⟨rfl,rfl,_,rfl,F,rfl⟩
    ·intro _ ρ w51o F51o hX hS hρ
     have F51o:=hX 6 rfl rfl
     have q21:ρ 21=.int .i64 d0.a:=hS 2 (by decide) 21 rfl
     have q23:ρ 23=.int .i64 x52:=hS 4 (by decide) 23 rfl
     exact o_q (r_build bld_frame_Frame (vs:=[(0,.int .i64 (2:Int)),(1,.int .i64 d0.a),(2,.int .i64 x52)]) (cells:=[.int .i64 (2:Int),.int .i64 d0.a,.int .i64 x52,.int .i64 (0:Int),.int .i64 (0:Int),.int .i64 (0:Int),.int .i64 (0:Int),.slice none ([]:List Ent).length 0]) (by simp only [List.map,ev,q21,q23]) rfl) ⟨Fr.refl _ _,rfl⟩
    ·intro hT; exact absurd hT (by decide)
    ·intro _ ρ w51o F51o hX hS hρ
     exact o_q (r_asg rfl) ⟨Fr.refl _ _,rfl⟩
   ·refine ⟨⟨_,rfl,?_⟩,trivial⟩
    ·intro ρ w51o F51o hX hI hS hρ
     have hB51_b7:=hI
     have q2:ρ 2=.pointer (some ⟨b7,0,none⟩):=hρ 2 (by kernel_rfl)
     have q24:ρ 24=.agg #[.int .i64 (2:Int),.int .i64 d0.a,.int .i64 x52,.int .i64 (0:Int),.int .i64 (0:Int),.int .i64 (0:Int),.int .i64 (0:Int),.slice none ([]:List Ent).length 0]:=hS 5 (by decide) 24 rfl
     refine o_store (show ev ρ _=_ from q2) hB51_b7 (vs:=[.int .i64 (2:Int),.int .i64 d0.a,.int .i64 x52,.int .i64 (0:Int),.int .i64 (0:Int),.int .i64 (0:Int),.int .i64 (0:Int),.slice none ([]:List Ent).length 0]) (congrArg Value.cells q24) sz_frame_Frame rfl rfl rfl ?_
     intro w' F B2
     exact eo_nil ⟨rfl,rfl,undef,rfl,F,B2,trivial⟩
   ·intro ρ w51 F51 hI hS hρ
    have hB51_b7:=hI
    have q3:ρ 3=.bool true:=hS 7 3 rfl
    obtain ⟨ρ',rfl⟩:∃ ρ',ρ=envs (ovr [3,19,20,21,22,23,24] ρ' _) [(3,.bool true)]:=⟨ρ,ovr_self hρ ⟨q3,trivial⟩⟩
    have E68:Ext w w51:=Ext.st E40 F51 (upc n7 (fun m hm=>by cases hm))
    refine sq_n ?_
    refine ec_ret ?_
    subst h
    exact (endr2 (rv_a rfl (agg_frame_Frame) hB51_b7 (vs:=[.int .i64 (2:Int),.int .i64 d0.a,.int .i64 x52,.int .i64 (0:Int),.int .i64 (0:Int),.int .i64 (0:Int),.int .i64 (0:Int),.slice none ([]:List Ent).length 0]) rfl rfl) (rv_t rfl) ⟨_,rfl,E68,_,rfl,(kFrm_mk (d:=(⟨(2:Int),d0.a,x52,[(0:Int),(0:Int),(0:Int),(0:Int)],([]:List Ent)⟩:Frm)) stb_nil rfl)⟩)
def push_Done_raw (d0:Buf) (d1:Arena) (d2:Int) (d3:Frm) (y:Buf):Prop :=
 ∃ x54,push_letter_is_raw (⟨d3⟩:Ltr) (2:Int) x54∧((x54=true→((smB d0)∧((sma d1)∧(∃ x63,x63=(ackB d0 d1 d2 d3.a d3.b)∧(y=x63)))))∧(x54=false→((smB d0)∧((sma d1)∧(∃ x86,x86=(mendB d0 d1 d2)∧(y=x86))))))
set_option maxRecDepth 20000 in
set_option maxHeartbeats 4000000 in
theorem push_Done_c {L:List Nat} {w:World} {csP0:List Value} (d0:Buf) (HP0:Stb L w (fun w=>kBuf.r w csP0 d0)) {csP1:List Value} (d1:Arena) (HP1:Stb L w (fun w=>kArena.r w csP1 d1)) (d2:Int) {csP3:List Value} (d3:Frm) (HP3:Stb L w (fun w=>kFrm.r w csP3 d3)) (hL:Lt L w) {y:Buf} (h:push_Done_raw d0 d1 d2 d3 y) :
  Calls Try.prog 16 [.agg csP0.toArray,.agg csP1.toArray,.int .i64 d2,.agg csP3.toArray].toArray w (Ret fun v w'=>Ext w w'∧∃ (cs90:List Value),v=.agg cs90.toArray∧Stb L w' (fun w=>kBuf.r w cs90 y)):=by
 obtain ⟨A1,c2,rfl,H3⟩:=kBuf_open HP0
 obtain ⟨A4,c5,A7,c8,rfl,H6,H9⟩:=kArena_open HP1
 obtain ⟨A11,c12,rfl,H13,hl10⟩:=kFrm_open HP3
 unfold push_Done_raw at h
 refine calls_ec Try.func16 rfl rfl rfl ?_
 refine ec_seq ?_
 refine ec_region ?_
 refine o_box (cs:=(cBuf d0 A1 c2)) rfl rfl rfl ?_
 intro b14 w14 e14 F14 B14
 have S14:=B14.stb (nin hL e14)
 have G15:Fr L w w14:=Fr.ext F14
 refine o_box (cs:=(cArena d1 A4 c5 A7 c8)) rfl rfl rfl ?_
 intro b16 w16 e16 F16 B16
 have S16:=B16.stb (nin (hL.fr F14) e16)
 have E17:=F14.trans F16
 have G19:Fr L w14 w16:=Fr.ext F16
 refine o_box (cs:=(cFrm d3 A11 c12)) rfl rfl rfl ?_
 intro b20 w20 e20 F20 B20
 have S20:=B20.stb (nin (hL.fr E17) e20)
 have E21:=E17.trans F20
 have G24:Fr L w16 w20:=Fr.ext F20
 refine o_alloc zero_buffer_Buffer rfl rfl rfl ?_
 intro b25 w25 e25 F25 B25
 have n25:w.heap.size≤b25:=by rw [e25]; exact E21.size
 have m26:w.heap.size≤b25:=by rw [e25]; exact ((G15.trans (Fr.ext F16)).trans (Fr.ext F20)).size
 have E30:=E21.trans F25
 have G34:Fr L w20 w25:=Fr.ext F25
 refine eo_nil_sq ?_
 iterate 2 refine ec_seq ?_
 refine ec_region ?_
 refine o_w (v:=.agg (cFrm d3 A11 c12).toArray) (r_lda agg_frame_Frame rfl (vs:=(cFrm d3 A11 c12)) rfl ((S20.fr G34 (fun _ h=>h)).now.part (n:=8) rfl)) ?_
 refine o_w (v:=.agg #[.int .i64 d3.kind,.int .i64 d3.a,.int .i64 d3.b,.int .i64 (nth d3.sums 0),.int .i64 (nth d3.sums 1),.int .i64 (nth d3.sums 2),.int .i64 (nth d3.sums 3),.slice A11 d3.entries.length c12]) (r_build bld_push_letter (vs:=[(0,.agg (cFrm d3 A11 c12).toArray)]) (cells:=[.int .i64 d3.kind,.int .i64 d3.a,.int .i64 d3.b,.int .i64 (nth d3.sums 0),.int .i64 (nth d3.sums 1),.int .i64 (nth d3.sums 2),.int .i64 (nth d3.sums 3),.slice A11 d3.entries.length c12]) rfl rfl) ?_
 refine o_alloc zero_push_letter rfl rfl rfl ?_
 intro b35 w35 e35 F35 B35
 have n35:w.heap.size≤b35:=by rw [e35]; exact E30.size
 have q36:b25<b35:=by rw [e35]; exact B25.lt
 have m37:w.heap.size≤b35:=by rw [e35]; exact (((G15.trans (Fr.ext F16)).trans (Fr.ext F20)).trans (Fr.ext F25)).size
 have m38:w14.heap.size≤b35:=by rw [e35]; exact ((G19.trans (Fr.ext F20)).trans (Fr.ext F25)).size
 have m39:w16.heap.size≤b35:=by rw [e35]; exact (G24.trans (Fr.ext F25)).size
 have E41:=E30.trans F35
 have G42:=(((G15.trans (Fr.ext F16)).trans (Fr.ext F20)).trans (Fr.ext F25)).trans (Fr.ext F35)
 refine o_store rfl B35 (vs:=[.int .i64 d3.kind,.int .i64 d3.a,.int .i64 d3.b,.int .i64 (nth d3.sums 0),.int .i64 (nth d3.sums 1),.int .i64 (nth d3.sums 2),.int .i64 (nth d3.sums 3),.slice A11 d3.entries.length c12]) rfl sz_push_letter rfl rfl rfl ?_
 intro w47 F47 B47
 have E48:=Ext.st E41 F47 (by simp; omega)
 have G49:Fr L w w47:=G42.stp F47 (upc (.inr m37) (fun m hm=>by cases hm))
 have G50:Fr L w14 w47:=(((G19.trans (Fr.ext F20)).trans (Fr.ext F25)).trans (Fr.ext F35)).stp F47 (upc (.inr m38) (fun m hm=>by cases hm))
 have G51:Fr L w16 w47:=((G24.trans (Fr.ext F25)).trans (Fr.ext F35)).stp F47 (upc (.inr m39) (fun m hm=>by cases hm))
 have B53:=(B25.ex F35).fr F47 (by simp; omega)
 have B47':Blk w47 b35 _ [.int .i64 d3.kind,.int .i64 d3.a,.int .i64 d3.b,.int .i64 (nth d3.sums 0),.int .i64 (nth d3.sums 1),.int .i64 (nth d3.sums 2),.int .i64 (nth d3.sums 3),.slice A11 d3.entries.length c12]:=B47
 refine eo_nil_sq ?_
 refine ec_seq ?_
 refine ec_region ?_
 refine o_w (v:=.agg #[.int .i64 d3.kind,.int .i64 d3.a,.int .i64 d3.b,.int .i64 (nth d3.sums 0),.int .i64 (nth d3.sums 1),.int .i64 (nth d3.sums 2),.int .i64 (nth d3.sums 3),.slice A11 d3.entries.length c12]) (r_lda agg_push_letter rfl (vs:=[.int .i64 d3.kind,.int .i64 d3.a,.int .i64 d3.b,.int .i64 (nth d3.sums 0),.int .i64 (nth d3.sums 1),.int .i64 (nth d3.sums 2),.int .i64 (nth d3.sums 3),.slice A11 d3.entries.length c12]) rfl (B47'.part (n:=8) rfl)) ?_
 obtain ⟨x54,hx54,h⟩:=h
 refine o_call cf_push_letter_is rfl (push_letter_is_c (⟨d3⟩:Ltr) (kLtr_mk (d:=(⟨d3⟩:Ltr)) (H13.up G49 (fun _ h=>h) (upc (.inr m37) (upc (.inr m26) (fun _ h=>.inl h)))) (by first | rfl | exact hl10)) (2:Int) (((hL.fr E48).cons B53.lt).cons B47'.lt) hx54) rfl rfl ?_
 rintro _ w54 ⟨F54,rfl⟩
 have E55:=E48.trans F54
 refine eo_nil_sq ?_
 refine ec_cond rfl (fun hc62=>?_) (fun hc62=>?_)
 ·replace h:=h.1 hc62
  refine ec_seq ?_
  refine ec_region ?_
  refine o_w (v:=.agg (cBuf d0 A1 c2).toArray) (r_lda agg_buffer_Buffer rfl (vs:=(cBuf d0 A1 c2)) rfl ((S14.fr (G50.trans (Fr.ext F54)) (fun _ h=>h)).now.part (n:=3) rfl)) ?_
  refine o_w (v:=.agg (cArena d1 A4 c5 A7 c8).toArray) (r_lda agg_api_Arena rfl (vs:=(cArena d1 A4 c5 A7 c8)) rfl ((S16.fr (G51.trans (Fr.ext F54)) (fun _ h=>h)).now.part (n:=3) rfl)) ?_
  refine o_w (v:=.int .i64 d2) (r_mov rfl) ?_
  refine o_w (v:=.pointer (some ⟨b35,0,none⟩)) (r_fa fld_push_letter_0 rfl rfl) ?_
  refine o_w (v:=.pointer (some ⟨b35,1,none⟩)) (r_fa fld_frame_Frame_1 rfl rfl) ?_
  refine o_w (v:=.int .i64 d3.a) (r_ld one_int rfl ((B47'.ex F54).cell rfl)) ?_
  refine o_w (v:=.pointer (some ⟨b35,0,none⟩)) (r_fa fld_push_letter_0 rfl rfl) ?_
  refine o_w (v:=.pointer (some ⟨b35,2,none⟩)) (r_fa fld_frame_Frame_2 rfl rfl) ?_
  refine o_w (v:=.int .i64 d3.b) (r_ld one_int rfl ((B47'.ex F54).cell rfl)) ?_
  obtain ⟨ha64,h⟩:=h
  obtain ⟨ha65,h⟩:=h
  obtain ⟨x63,hx63,h⟩:=h
  refine o_call cf_buffer_Ack rfl (buffer_Ack_c d0 (kBuf_mk (d:=d0) (H3.up (G49.trans (Fr.ext F54)) (fun _ h=>h) (upc (.inr m37) (upc (.inr m26) (fun _ h=>.inl h))))) d1 (kArena_mk (d:=d1) (H6.up (G49.trans (Fr.ext F54)) (fun _ h=>h) (upc (.inr m37) (upc (.inr m26) (fun _ h=>.inl h)))) (H9.up (G49.trans (Fr.ext F54)) (fun _ h=>h) (upc (.inr m37) (upc (.inr m26) (fun _ h=>.inl h))))) d2 d3.a d3.b (((hL.fr E55).cons (B53.ex F54).lt).cons (B47'.ex F54).lt) (eq_ev hx63 (bufAck_ev d0 d1 d2 d3.a d3.b ha64 ha65))) rfl rfl ?_
  rintro _ w63 ⟨F63,cs66,rfl,H67⟩
  have E68:=E55.trans F63
  obtain ⟨A75,c76,rfl,H77⟩:=kBuf_open H67
  refine o_store rfl ((B53.ex F54).ex F63) (vs:=(cBuf x63 A75 c76)) rfl sz_buffer_Buffer rfl rfl rfl ?_
  intro w78 F78 B78
  have E79:=Ext.st E68 F78 (by simp; omega)
  have G84:Fr (b35::(b25::L)) w63 w78:=(Fr.refl _ _).stp F78 (upc (.inl (List.Mem.tail _ (List.Mem.head _))) (fun m hm=>by cases hm))
  have B78':Blk w78 b25 _ (cBuf x63 A75 c76):=B78
  refine eo_nil_sq ?_
  refine ec_ret ?_
  refine sq_ret ?_
  replace h:=h.symm
  subst h
  exact (endr1 (rv_a rfl (agg_buffer_Buffer) B78' (vs:=(cBuf x63 A75 c76)) rfl rfl) ⟨_,rfl,E79,_,rfl,(kBuf_mk (d:=x63) (H77.up G84 (fun _ h=>h) (fun m hm=>Or.inl (List.Mem.tail _ (List.Mem.tail _ hm)))))⟩)
 ·replace h:=h.2 hc62
  refine ec_skip ?_
  refine sq_n ?_
  refine ec_seq ?_
  refine ec_region ?_
  refine o_w (v:=.agg (cBuf d0 A1 c2).toArray) (r_lda agg_buffer_Buffer rfl (vs:=(cBuf d0 A1 c2)) rfl ((S14.fr (G50.trans (Fr.ext F54)) (fun _ h=>h)).now.part (n:=3) rfl)) ?_
  refine o_w (v:=.agg (cArena d1 A4 c5 A7 c8).toArray) (r_lda agg_api_Arena rfl (vs:=(cArena d1 A4 c5 A7 c8)) rfl ((S16.fr (G51.trans (Fr.ext F54)) (fun _ h=>h)).now.part (n:=3) rfl)) ?_
  refine o_w (v:=.int .i64 d2) (r_mov rfl) ?_
  obtain ⟨ha87,h⟩:=h
  obtain ⟨ha88,h⟩:=h
  obtain ⟨x86,hx86,h⟩:=h
  refine o_call cf_buffer_Mend rfl (buffer_Mend_c d0 (kBuf_mk (d:=d0) (H3.up (G49.trans (Fr.ext F54)) (fun _ h=>h) (upc (.inr m37) (upc (.inr m26) (fun _ h=>.inl h))))) d1 (kArena_mk (d:=d1) (H6.up (G49.trans (Fr.ext F54)) (fun _ h=>h) (upc (.inr m37) (upc (.inr m26) (fun _ h=>.inl h)))) (H9.up (G49.trans (Fr.ext F54)) (fun _ h=>h) (upc (.inr m37) (upc (.inr m26) (fun _ h=>.inl h))))) d2 (((hL.fr E55).cons (B53.ex F54).lt).cons (B47'.ex F54).lt) (eq_ev hx86 (bufMend_ev d0 d1 d2 ha87 ha88))) rfl rfl ?_
  rintro _ w86 ⟨F86,cs89,rfl,H90⟩
  have E91:=E55.trans F86
  obtain ⟨A98,c99,rfl,H100⟩:=kBuf_open H90
  refine o_store rfl ((B53.ex F54).ex F86) (vs:=(cBuf x86 A98 c99)) rfl sz_buffer_Buffer rfl rfl rfl ?_
  intro w101 F101 B101
  have E102:=Ext.st E91 F101 (by simp; omega)
  have G107:Fr (b35::(b25::L)) w86 w101:=(Fr.refl _ _).stp F101 (upc (.inl (List.Mem.tail _ (List.Mem.head _))) (fun m hm=>by cases hm))
  have B101':Blk w101 b25 _ (cBuf x86 A98 c99):=B101
  refine eo_nil_sq ?_
  refine ec_ret ?_
  replace h:=h.symm
  subst h
  exact (endr1 (rv_a rfl (agg_buffer_Buffer) B101' (vs:=(cBuf x86 A98 c99)) rfl rfl) ⟨_,rfl,E102,_,rfl,(kBuf_mk (d:=x86) (H100.up G107 (fun _ h=>h) (fun m hm=>Or.inl (List.Mem.tail _ (List.Mem.tail _ hm)))))⟩)
end Go.Proofs.Ythfkbabgkacfnaa

/- Push in plain Lean: what each function comes to. -/
namespace Go.Proofs.Ythfkbabgkacfnaa
open Go Go.RowKit
set_option linter.unusedVariables false
set_option linter.unusedSimpArgs false

def frm0:Frm:=⟨(0:Int),(0:Int),(0:Int),[(0:Int),(0:Int),(0:Int),(0:Int)],([]:List Ent)⟩
def noSend (b:Buf) (c:Int):Bool:=((((b.names.length:Int)==(0:Int))||(decide (c<(1:Int))))||(decide ((8:Int)<c)))
def sendM (b:Buf) (a:Arena) (m c:Int):Frm:=⟨(1:Int),b.epoch,b.first,[(0:Int),(0:Int),(0:Int),(0:Int)],someB b a m c⟩
def sendP (b:Buf) (a:Arena) (m c:Int):Frm × Bool:=bif noSend (mendB b a m) c then (frm0,false) else (sendM (mendB b a m) a m c,true)
def isP (f:Frm) (k:Int):Bool:=((checkF f)==(0:Int))&&(f.kind==k)
def uptoP (f:Frm):Int:=(IntKind.i64.wrap (f.b + (f.entries.length:Int)))
def heardP (f:Frm):Frm × Bool:=bif isP f 1 then (bif decide ((2147483647:Int)<uptoP f) then (frm0,false) else (⟨(2:Int),f.a,uptoP f,[(0:Int),(0:Int),(0:Int),(0:Int)],([]:List Ent)⟩,true)) else (frm0,false)
def doneP (b:Buf) (a:Arena) (m:Int) (f:Frm):Buf:=bif isP f 2 then ackB b a m f.a f.b else mendB b a m

theorem smB_mend {b:Buf} (a:Arena) (m:Int) (hb:smB b):smB (mendB b a m):=Nat.le_trans (mendB_bound b a m).1 hb
theorem puSend_ev (b:Buf) (a:Arena) (m c:Int) (hb:smB b) (ha:sma a):push_Send_raw b a m c (sendP b a m c):=by
 refine ⟨hb,ha,_,rfl,fun hc=>?_,fun hc=>⟨smB_mend a m hb,ha,_,rfl,?_⟩⟩
 ·have h1:noSend (mendB b a m) c=true:=hc
  unfold sendP; rw [h1]; rfl
 ·have h1:noSend (mendB b a m) c=false:=hc
  unfold sendP; rw [h1]; rfl
theorem puHeard_ev (f:Frm) (h:sml f.entries) (hl:f.entries.length≤1000000):push_Heard_raw f (heardP f):=by
 refine ⟨isP f 1,⟨h,hl,rfl⟩,fun hc=>?_,fun hc=>⟨_,rfl,fun hd=>?_,fun hd=>⟨_,rfl,?_⟩⟩⟩
 ·have h1:isP f 1=false:=by simpa using hc
  unfold heardP; rw [h1]; rfl
 ·have h1:isP f 1=true:=by simpa using hc
  have h2:decide ((2147483647:Int)<uptoP f)=true:=hd
  unfold heardP; rw [h1,h2]; rfl
 ·have h1:isP f 1=true:=by simpa using hc
  have h2:decide ((2147483647:Int)<uptoP f)=false:=hd
  unfold heardP; rw [h1,h2]; rfl
theorem puDone_ev (b:Buf) (a:Arena) (m:Int) (f:Frm) (hb:smB b) (ha:sma a) (h:sml f.entries) (hl:f.entries.length≤1000000):push_Done_raw b a m f (doneP b a m f):=by
 refine ⟨isP f 2,⟨h,hl,rfl⟩,fun hc=>⟨hb,ha,_,rfl,?_⟩,fun hc=>⟨hb,ha,_,rfl,?_⟩⟩
 ·unfold doneP; rw [hc]; rfl
 ·unfold doneP; rw [hc]; rfl
end Go.Proofs.Ythfkbabgkacfnaa
