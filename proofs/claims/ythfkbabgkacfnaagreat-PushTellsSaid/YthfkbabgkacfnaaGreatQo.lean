/- References: numbers as bytes. -/
import Derived.Test.YthfkbabgkacfnaaGreatCt7
import Derived.Test.YthfkbabgkacfnaaGreatPx
namespace Go.Proofs.YthfkbabgkacfnaaGreat
open Go Go.RowKit
set_option linter.unusedVariables false
set_option linter.unusedSimpArgs false
def ref01_Put_b2 (d1:Int) (s2:Int × List Int × Int) (z2:(Int × List Int × Int) ⊕ (Int × List Int × Int)):Prop :=
 ((decide (s2.2.2<d1))=true→((s2.2.1.length + 1≤9223372036854775807∧(s2.2.1.length + 1) * 1≤140737488355328)∧(z2=.inl ((IntKind.i64.wrap (Int.tdiv s2.1 (256:Int))),(s2.2.1++([(IntKind.u8.wrap (Int.tmod s2.1 (256:Int)))]:List Int)),(IntKind.i64.wrap (s2.2.2 + (1:Int)))))))∧((decide (s2.2.2<d1))=false→(z2=.inr (s2.1,s2.2.1,s2.2.2)))
def ref01_Put_raw (d0:Int) (d1:Int) (y:Str × Int):Prop :=
 ((((decide (d1<(1:Int)))||(decide ((7:Int)<d1)))||(decide (d0<(0:Int))))=true→(y=(([]:Str),(1:Int))))∧((((decide (d1<(1:Int)))||(decide ((7:Int)<d1)))||(decide (d0<(0:Int))))=false→(∃ x2,LoopR (ref01_Put_b2 d1) (d0,([]:List Int),(0:Int)) x2∧(((decide ((0:Int)<x2.1))=true→(y=(([]:Str),(1:Int))))∧((decide ((0:Int)<x2.1))=false→(y=((bstr x2.2.1),(0:Int)))))))
set_option maxRecDepth 20000 in
set_option maxHeartbeats 4000000 in
theorem ref01_Put_c {L:List Nat} {w:World} (d0:Int) (d1:Int) (hL:Lt L w) {y:Str × Int} (h:ref01_Put_raw d0 d1 y) :
  Calls Tryz.prog 56 [.int .i64 d0,.int .i64 d1].toArray w (Ret fun v w'=>Ext w w'∧v=.tuple #[str y.1,.int .i64 y.2]):=by
 unfold ref01_Put_raw at h
 refine calls_ec Tryz.func56 rfl rfl rfl ?_
 refine ec_seq ?_
 refine ec_region ?_
 refine o_w (v:=str ([]:Str)) (r_asg rfl) ?_
 refine o_w (v:=.int .i64 (0:Int)) (r_asg rfl) ?_
 refine eo_nil_sq ?_
 iterate 2 refine ec_seq ?_
 refine ec_region ?_
 refine o_w (v:=.int .i64 d1) (r_mov rfl) ?_
 refine o_w (v:=.bool (decide (d1<(1:Int)))) (r_int rfl rfl rfl) ?_
 refine o_w (v:=.bool (decide (d1<(1:Int)))) (r_mov rfl) ?_
 refine o_vg (v:=.int .i64 d1) (want_cf (t:=10) rfl rfl) (fun hk=>(r_mov rfl)) rfl rfl ?_
 refine o_vg (v:=.bool (decide ((7:Int)<d1))) (want_cf (t:=10) rfl rfl) (fun hk=>(r_int (gdT hk) rfl rfl)) rfl rfl ?_
 refine o_w (v:=.bool ((decide (d1<(1:Int)))||(decide ((7:Int)<d1)))) (r_pickOr rfl rfl (fun hf=>(gdT (notT hf)))) ?_
 refine o_w (v:=.bool ((decide (d1<(1:Int)))||(decide ((7:Int)<d1)))) (r_mov rfl) ?_
 refine o_vg (v:=.int .i64 d0) (want_cf (t:=14) rfl rfl) (fun hk=>(r_mov rfl)) rfl rfl ?_
 refine o_vg (v:=.bool (decide (d0<(0:Int)))) (want_cf (t:=14) rfl rfl) (fun hk=>(r_int (gdT hk) rfl rfl)) rfl rfl ?_
 refine o_w (v:=.bool (((decide (d1<(1:Int)))||(decide ((7:Int)<d1)))||(decide (d0<(0:Int))))) (r_pickOr rfl rfl (fun hf=>(gdT (notT hf)))) ?_
 refine eo_nil_sq ?_
 refine ec_cond rfl (fun hc1=>?_) (fun hc1=>?_)
 ·replace h:=h.1 hc1
  refine ec_seq ?_
  refine ec_region ?_
  refine o_w (v:=str ([]:Str)) (r_asg rfl) ?_
  refine o_w (v:=.int .i64 (1:Int)) (r_asg rfl) ?_
  refine eo_nil_sq ?_
  refine ec_ret ?_
  refine sq_ret ?_
  subst h
  exact (end2 rfl rfl ⟨_,rfl,(Fr.refl _ _),rfl⟩)
 ·replace h:=h.2 hc1
  refine ec_skip ?_
  refine sq_n ?_
  refine ec_seq ?_
  refine ec_region ?_
  refine o_w (v:=.slice none ([]:List Int).length 0) (r_asg rfl) ?_
  refine eo_nil_sq ?_
  iterate 2 refine ec_seq ?_
  refine ec_region ?_
  refine o_w (v:=.int .i64 (0:Int)) (r_asg rfl) ?_
  refine eo_nil_sq ?_
  refine ec_block ?_
  have lo3:w.heap.size≤w.heap.size:=Nat.le_refl _
  have O3:=OwnS.nil (k:=(kI .u8)) (e:=5) (by decide) hL
  obtain ⟨x2,hl2,h⟩:=h
  refine ec_loopE 0 (I:=(fun (s2:Int × List Int × Int) ρ ds w'=>∃ (ρ':Env) (v2i2:Value),ρ=envs ρ' [(0,.int .i64 s2.1),(6,v2i2),(7,.int .i64 s2.2.2),(1,.int .i64 d1)]∧ds=[]∧Fr (own (.slice none 0 0)++L) w w'∧Ext w w'∧OwnS (kI .u8) (w.heap.size) 5 L w' v2i2 s2.2.1∧(∀ q∈own v2i2,q∈(own (.slice none 0 0)++L)∨w.heap.size≤q))) ?_ hl2 ?_ ?_
  ·intro s2 z2 ρ2 ds2 w2r hI2 hb2
   obtain ⟨ρ2r,v2r2,rfl,rfl,F2r,E2r,O2r2,N2r2⟩:=hI2
   have h:=hb2
   unfold ref01_Put_b2 at h
   iterate 2 refine ec_seq ?_
   refine ec_region ?_
   refine o_w (v:=.int .i64 s2.2.2) (r_mov rfl) ?_
   refine o_w (v:=.int .i64 d1) (r_mov rfl) ?_
   refine o_w (v:=.bool (decide (s2.2.2<d1))) (r_int rfl rfl rfl) ?_
   refine eo_nil_sq ?_
   refine ec_cond rfl (fun hc4=>?_) (fun hc4=>?_)
   ·replace h:=h.1 hc4
    refine ec_skip ?_
    refine sq_n ?_
    refine ec_seq ?_
    refine ec_block ?_
    refine ec_seq ?_
    refine ec_region ?_
    refine o_w (v:=v2r2) (r_mov rfl) ?_
    refine o_w (v:=.int .i64 s2.1) (r_mov rfl) ?_
    refine o_w (v:=.int .i64 (Int.tmod s2.1 (256:Int))) (r_rem rfl rfl rfl) ?_
    refine o_w (v:=.int .u8 (IntKind.u8.wrap (Int.tmod s2.1 (256:Int)))) (r_conv un_int un_uint8 rfl) ?_
    refine o_bslice slc_s_uint8 rfl (vs:=[.int .u8 (IntKind.u8.wrap (Int.tmod s2.1 (256:Int)))]) rfl rfl rfl (cs:=[.int .u8 (IntKind.u8.wrap (Int.tmod s2.1 (256:Int)))]) rfl rfl rfl rfl ?_
    intro b5 w5 e5 F5 B5
    have N5:=nin ((hL.fr E2r).own O2r2) e5
    have S5:=B5.stb N5
    have E6:=E2r.trans F5
    obtain ⟨ha10,h⟩:=h
    refine o_app slc_s_uint8 rfl rfl rfl (O2r2.ex F5) rfl S5.now (ys:=([(IntKind.u8.wrap (Int.tmod s2.1 (256:Int)))]:List Int)) rfl rfl rfl (rowd1 (cs:=[.int .u8 (IntKind.u8.wrap (Int.tmod s2.1 (256:Int)))]) (fun _ _=>rfl) rfl) ha10 rfl rfl ?_
    intro v9 w9 F9 O9 N9
    have P11:∀ m∈own v9,m∈(own (.slice none 0 0)++L)∨w.heap.size≤m:=fun m hm=>(N9 m hm).elim (fun h=>(show ∀ m∈own v2r2,m∈(own (.slice none 0 0)++L)∨w.heap.size≤m from N2r2) m h) (fun h=>.inr (Nat.le_trans ((F2r.trans (Fr.ext F5)).size) h))
    have E13:=Ext.st E6 F9 (fun m hm=>Nat.le_trans lo3 ((O2r2.ex F5).lo m hm))
    have G14:Fr (own (.slice none 0 0)++L) w w9:=(F2r.trans (Fr.ext F5)).stp F9 N2r2
    refine o_w (v:=v9) (r_asg rfl) ?_
    refine eo_nil_sq ?_
    refine ec_region ?_
    refine o_w (v:=.int .i64 s2.1) (r_mov rfl) ?_
    refine o_w (v:=.int .i64 (IntKind.i64.wrap (Int.tdiv s2.1 (256:Int)))) (r_quo rfl rfl rfl) ?_
    refine o_w (v:=.int .i64 (IntKind.i64.wrap (Int.tdiv s2.1 (256:Int)))) (r_asg rfl) ?_
    refine eo_nil ?_
    refine blk_n ?_
    refine sq_n ?_
    refine ec_region ?_
    refine o_w (v:=.int .i64 s2.2.2) (r_mov rfl) ?_
    refine o_w (v:=.int .i64 (IntKind.i64.wrap (s2.2.2 + (1:Int)))) (r_int rfl rfl rfl) ?_
    refine o_w (v:=.int .i64 (IntKind.i64.wrap (s2.2.2 + (1:Int)))) (r_asg rfl) ?_
    refine eo_nil ?_
    subst h
    exact lq_n ⟨_,v9,envs_self ⟨rfl,rfl,rfl,rfl,trivial⟩,rfl,G14,E13,O9,P11⟩
   ·replace h:=h.2 hc4
    refine ec_exit ?_
    refine sq_exit ?_
    subst h
    exact lq_x ⟨_,v2r2,envs_self ⟨rfl,rfl,rfl,rfl,trivial⟩,rfl,F2r,E2r,O2r2,N2r2⟩
  ·exact ⟨_,(.slice none 0 0),envs_self ⟨rfl,rfl,rfl,rfl,trivial⟩,rfl,(Fr.refl _ _),(Fr.refl _ _),O3,(fun q hq=>.inl (by first | exact List.mem_append_left _ hq | simp [hq]))⟩
  ·rintro ρ2e ds2e w2e ⟨ρ2e,v2e2,rfl,rfl,F2e,E2e,O2e2,N2e2⟩
   refine blk_hit ?_
   refine sq_n ?_
   iterate 2 refine ec_seq ?_
   refine ec_region ?_
   refine o_w (v:=.int .i64 x2.1) (r_mov rfl) ?_
   refine o_w (v:=.bool (decide ((0:Int)<x2.1))) (r_int rfl rfl rfl) ?_
   refine eo_nil_sq ?_
   refine ec_cond rfl (fun hc16=>?_) (fun hc16=>?_)
   ·replace h:=h.1 hc16
    refine ec_seq ?_
    refine ec_region ?_
    refine o_w (v:=str ([]:Str)) (r_asg rfl) ?_
    refine o_w (v:=.int .i64 (1:Int)) (r_asg rfl) ?_
    refine eo_nil_sq ?_
    refine ec_ret ?_
    refine sq_ret ?_
    subst h
    exact (end2 rfl rfl ⟨_,rfl,E2e,rfl⟩)
   ·replace h:=h.2 hc16
    refine ec_skip ?_
    refine sq_n ?_
    refine ec_seq ?_
    refine ec_region ?_
    refine o_w (v:=v2e2) (r_mov rfl) ?_
    obtain ⟨A17,c18,eA17,H19⟩:=O2e2.still
    subst eA17
    have Zw2e_20:=Fr.refl L w2e
    refine o_w (v:=str (bstr x2.2.1)) (r_bstr slc_s_uint8 un_uint8 un_string rfl (H19.fr Zw2e_20 (fun _ h=>h)).now) ?_
    refine o_w (v:=str (bstr x2.2.1)) (r_asg rfl) ?_
    refine o_w (v:=.int .i64 (0:Int)) (r_asg rfl) ?_
    refine eo_nil_sq ?_
    refine ec_ret ?_
    subst h
    exact (end2 rfl rfl ⟨_,rfl,E2e,rfl⟩)
end Go.Proofs.YthfkbabgkacfnaaGreat

/- The reference's number as bytes. -/
namespace Go.Proofs.YthfkbabgkacfnaaGreat
open Go Go.RowKit
set_option linter.unusedVariables false
set_option linter.unusedSimpArgs false

theorem lo8_mod {n:Int} (h:0≤n):lo8 n=n % 256:=by
 obtain ⟨k,rfl⟩:=Int.eq_ofNat_of_zero_le h
 unfold lo8
 have e:(BitVec.ofInt IntKind.i64.bits (k:Int) &&& BitVec.ofInt IntKind.i64.bits (255:Int)).toNat=k % 256:=by
  show (BitVec.ofInt 64 (k:Int) &&& BitVec.ofInt 64 (255:Int)).toNat=k % 256
  rw [BitVec.toNat_and,BitVec.ofInt_natCast,BitVec.toNat_ofNat]
  have e2:(BitVec.ofInt 64 (255:Int)).toNat=2 ^ 8 - 1:=by decide
  rw [e2,Nat.and_two_pow_sub_one_eq_mod]
  omega
 rw [e,wrap64 (by omega) (by omega)]
 omega
theorem sh8_div {n:Int} (h:0≤n):sh8 n=n / 256:=by
 unfold sh8
 have e:(2:Int) ^ min ((8:Int)).toNat IntKind.i64.bits=256:=by decide
 rw [e,Int.fdiv_eq_ediv_of_nonneg _ (by decide)]
theorem refO_run (w:Int) (hw:w≤7):∀ (k i:Nat) (n:Int) (pre:List Int),((i + k:Nat):Int)=w→pre.length=i→0≤n→n≤9223372036854775807 →
  LoopR (ref01_Put_b2 w) (n,pre,(i:Int)) (restF k n,pre++bytesF k n,w)
 | 0,i,n,pre,hi,hl,h0,hn=>by
  obtain rfl:(i:Int)=w:=by omega
  exact .done ⟨fun c=>by simp at c,fun _=>by simp [restF,bytesF]⟩
 | k + 1,i,n,pre,hi,hl,h0,hn=>by
  have e1:=lo8_mod h0
  have e2:=sh8_div h0
  have ih:=refO_run w hw k (i + 1) (sh8 n) (pre++[IntKind.u8.wrap (lo8 n)]) (by omega) (by simp [hl]) (by rw [e2]; omega) (by rw [e2]; omega)
  have e3:∀ z,pre++[IntKind.u8.wrap (lo8 n)]++z=pre++(IntKind.u8.wrap (lo8 n)::z):=fun z=>by simp
  rw [e3] at ih
  refine .step ⟨fun _=>⟨⟨by show pre.length + 1≤_; omega,by show (pre.length + 1) * 1≤_; omega⟩,?_⟩,fun c=>by simp at c; omega⟩ ih
  have t1:Int.tdiv n 256=n / 256:=Int.tdiv_eq_ediv_of_nonneg h0
  have t2:Int.tmod n 256=n % 256:=Int.tmod_eq_emod_of_nonneg h0
  show _=Sum.inl (IntKind.i64.wrap (Int.tdiv n 256),pre++[IntKind.u8.wrap (Int.tmod n 256)],IntKind.i64.wrap ((i:Int) + 1))
  rw [t1,t2,e1,e2,wrap64 (n:=n / 256) (by omega) (by omega),wrap64 (n:=(i:Int) + 1) (by omega) (by omega)]
  rfl
theorem refPutO_ev (n w:Int) (hn:n≤9223372036854775807):ref01_Put_raw n w (putO n w):=by
 refine ⟨fun hc=>by unfold putO; rw [hc]; rfl,fun hc=>?_⟩
 have hc':=hc
 simp only [Bool.or_eq_false_iff,decide_eq_false_iff_not] at hc'
 refine ⟨_,refO_run w (by omega) w.toNat 0 n [] (by omega) rfl (by omega) hn,?_⟩
 unfold putO
 rw [hc]
 refine ⟨fun c=>?_,fun c=>?_⟩
 ·have c':decide (0<restF w.toNat n)=true:=c
  rw [c']; rfl
 ·have c':decide (0<restF w.toNat n)=false:=c
  rw [c']; rfl
def maxS (l:List Int):Prop:=∀ x∈l,x≤9223372036854775807
theorem maxS_nth {l:List Int} (h:maxS l) (i:Nat):nth l (i:Int)≤9223372036854775807:=by
 rw [nth_nat]
 by_cases hi:i<l.length
 ·exact h _ (getD_mem' hi)
 ·rw [List.getD_eq_getElem?_getD,List.getElem?_eq_none (by omega)]; decide
end Go.Proofs.YthfkbabgkacfnaaGreat

/- References: sums as bytes. -/
namespace Go.Proofs.YthfkbabgkacfnaaGreat
open Go Go.RowKit
set_option linter.unusedVariables false
set_option linter.unusedSimpArgs false
def ref10_Put_b2 (d0:(List Int)) (s2:Str × Int) (z2:(Str × Int) ⊕ ((Str × Int) ⊕ (Str × Int))):Prop :=
 ((decide (s2.2<(4:Int)))=true→((0≤s2.2∧s2.2<((4:Nat):Int))∧(((nth d0 s2.2)≤9223372036854775807)∧(∃ x6,x6=(putO (nth d0 s2.2) (4:Int))∧(((x6.2 != (0:Int))=true→(z2=.inr (.inr (([]:Str),(1:Int)))))∧((x6.2 != (0:Int))=false→(s2.1.length + x6.1.length≤9223372036854775807∧(z2=.inl ((s2.1++x6.1),(IntKind.i64.wrap (s2.2 + (1:Int))))))))))))∧((decide (s2.2<(4:Int)))=false→(z2=.inr (.inl (s2.1,s2.2))))
def ref10_Put_raw (d0:(List Int)) (y:Str × Int):Prop :=
 ∃ x2,LoopR (ref10_Put_b2 d0) (([]:Str),(0:Int)) x2∧(∀ sx2,x2=.inl sx2→(y=(sx2.1,(0:Int))))∧(∀ y2,x2=.inr y2→(y=y2))
set_option maxRecDepth 20000 in
set_option maxHeartbeats 4000000 in
theorem ref10_Put_c {L:List Nat} {w:World} (d0:(List Int)) (hlP0:d0.length=4) (hL:Lt L w) {y:Str × Int} (h:ref10_Put_raw d0 y) :
  Calls Tryz.prog 38 [(.agg #[.int .i64 (nth d0 0),.int .i64 (nth d0 1),.int .i64 (nth d0 2),.int .i64 (nth d0 3)]:Value)].toArray w (Ret fun v w'=>Ext w w'∧v=.tuple #[str y.1,.int .i64 y.2]):=by
 unfold ref10_Put_raw at h
 refine calls_ec Tryz.func38 rfl rfl rfl ?_
 refine ec_seq ?_
 refine ec_region ?_
 refine o_box (cs:=[.int .i64 (nth d0 0),.int .i64 (nth d0 1),.int .i64 (nth d0 2),.int .i64 (nth d0 3)]) rfl rfl rfl ?_
 intro b1 w1 e1 F1 B1
 have S1:=B1.stb (nin hL e1)
 refine o_w (v:=str ([]:Str)) (r_asg rfl) ?_
 refine o_w (v:=.int .i64 (0:Int)) (r_asg rfl) ?_
 refine eo_nil_sq ?_
 refine ec_seq ?_
 refine ec_region ?_
 refine o_w (v:=str ([]:Str)) (r_asg rfl) ?_
 refine eo_nil_sq ?_
 iterate 2 refine ec_seq ?_
 refine ec_region ?_
 refine o_w (v:=.int .i64 (0:Int)) (r_asg rfl) ?_
 refine eo_nil_sq ?_
 refine ec_block ?_
 obtain ⟨x2,hl2,h⟩:=h
 refine ec_loopER 0 (I:=(fun (s2:Str × Int) ρ ds w'=>∃ (ρ':Env),ρ=envs ρ' [(4,str s2.1),(5,.int .i64 s2.2),(1,.pointer (some ⟨b1,0,none⟩))]∧ds=[]∧Fr L w1 w'∧Ext w w')) (J:=(fun (y':Str × Int) ρ ds wz=>bodyE Tryz.prog #[.tmp 2,.tmp 3] (Ret fun v w'=>Ext w w'∧v=.tuple #[str y'.1,.int .i64 y'.2]) .ret ρ ds wz)) ?_ hl2 ?_ ?_ ?_
 ·intro s2 z2 ρ2 ds2 w2r hI2 hb2
  obtain ⟨ρ2r,rfl,rfl,F2r,E2r⟩:=hI2
  have h:=hb2
  unfold ref10_Put_b2 at h
  have G3:Fr L w1 w2r:=(Fr.refl _ _).stp F2r (fun _ h=>.inl h)
  iterate 2 refine ec_seq ?_
  refine ec_region ?_
  refine o_w (v:=.int .i64 s2.2) (r_mov rfl) ?_
  refine o_w (v:=.bool (decide (s2.2<(4:Int)))) (r_int rfl rfl rfl) ?_
  refine eo_nil_sq ?_
  refine ec_cond rfl (fun hc4=>?_) (fun hc4=>?_)
  ·replace h:=h.1 hc4
   refine ec_skip ?_
   refine sq_n ?_
   refine ec_seq ?_
   refine ec_block ?_
   refine ec_seq ?_
   refine ec_region ?_
   refine o_w (v:=.int .i64 s2.2) (r_mov rfl) ?_
   obtain ⟨ha5,h⟩:=h
   refine o_w (v:=.pointer (some ⟨b1,s2.2.toNat,none⟩)) (r_iaA un_4_int sz_int rfl rfl ha5) ?_
   refine o_w (v:=.int .i64 (nth d0 s2.2)) (r_ld one_int rfl (Blk.cellV (f:=(Value.int .i64)) (m:=4) (e:=d0) (S1.fr G3 (fun _ h=>h)).now ha5)) ?_
   obtain ⟨ha7,h⟩:=h
   obtain ⟨x6,hx6,h⟩:=h
   refine o_call cf_ref01_Put rfl (ref01_Put_c (nth d0 s2.2) (4:Int) (hL.fr E2r) (eq_ev hx6 (refPutO_ev (nth d0 s2.2) (4:Int) ha7))) rfl rfl ?_
   rintro _ w6 ⟨F6,rfl⟩
   have E8:=E2r.trans F6
   refine o_w (v:=.tuple #[str x6.1,.int .i64 x6.2]) (r_mov rfl) ?_
   refine o_w (v:=str x6.1) (r_ext rfl rfl) ?_
   refine o_w (v:=.int .i64 x6.2) (r_ext rfl rfl) ?_
   refine o_w (v:=str x6.1) (r_asg rfl) ?_
   refine o_w (v:=.int .i64 x6.2) (r_asg rfl) ?_
   refine eo_nil_sq ?_
   iterate 2 refine ec_seq ?_
   refine ec_region ?_
   refine o_w (v:=.int .i64 x6.2) (r_mov rfl) ?_
   refine o_w (v:=.bool (x6.2 != (0:Int))) (r_int rfl rfl rfl) ?_
   refine eo_nil_sq ?_
   refine ec_cond rfl (fun hc11=>?_) (fun hc11=>?_)
   ·replace h:=h.1 hc11
    refine ec_seq ?_
    refine ec_region ?_
    refine o_w (v:=str ([]:Str)) (r_asg rfl) ?_
    refine o_w (v:=.int .i64 (1:Int)) (r_asg rfl) ?_
    refine eo_nil_sq ?_
    refine ec_ret ?_
    refine sq_ret ?_
    refine blk_ret ?_
    refine sq_ret ?_
    subst h
    exact lqR_r (end2 rfl rfl ⟨_,rfl,E8,rfl⟩)
   ·replace h:=h.2 hc11
    refine ec_skip ?_
    refine sq_n ?_
    refine ec_region ?_
    refine o_w (v:=str s2.1) (r_mov rfl) ?_
    refine o_w (v:=str x6.1) (r_mov rfl) ?_
    obtain ⟨ha12,h⟩:=h
    refine o_w (v:=str (s2.1++x6.1)) (r_cat rfl rfl ha12) ?_
    refine o_w (v:=str (s2.1++x6.1)) (r_asg rfl) ?_
    refine eo_nil ?_
    refine blk_n ?_
    refine sq_n ?_
    refine ec_region ?_
    refine o_w (v:=.int .i64 s2.2) (r_mov rfl) ?_
    refine o_w (v:=.int .i64 (IntKind.i64.wrap (s2.2 + (1:Int)))) (r_int rfl rfl rfl) ?_
    refine o_w (v:=.int .i64 (IntKind.i64.wrap (s2.2 + (1:Int)))) (r_asg rfl) ?_
    refine eo_nil ?_
    subst h
    exact lqR_n ⟨_,envs_self ⟨rfl,rfl,rfl,trivial⟩,rfl,(F2r.trans (Fr.ext F6)),E8⟩
  ·replace h:=h.2 hc4
   refine ec_exit ?_
   refine sq_exit ?_
   subst h
   exact lqR_x ⟨_,envs_self ⟨rfl,rfl,rfl,trivial⟩,rfl,F2r,E2r⟩
 ·exact ⟨_,envs_self ⟨rfl,rfl,rfl,trivial⟩,rfl,(Fr.refl _ _),F1⟩
 ·rintro sx2 rfl ρ2e ds2e w2e ⟨ρ2e,rfl,rfl,F2e,E2e⟩
  replace h:=h.1 _ rfl
  refine blk_hit ?_
  refine sq_n ?_
  refine ec_seq ?_
  refine ec_region ?_
  refine o_w (v:=str sx2.1) (r_mov rfl) ?_
  refine o_w (v:=str sx2.1) (r_asg rfl) ?_
  refine o_w (v:=.int .i64 (0:Int)) (r_asg rfl) ?_
  refine eo_nil_sq ?_
  refine ec_ret ?_
  subst h
  exact (end2 rfl rfl ⟨_,rfl,E2e,rfl⟩)
 ·rintro y2 rfl ρ2q ds2q w2q hJ
  have hy:=h.2 _ rfl
  subst hy
  refine blk_ret ?_
  refine sq_ret ?_
  exact hJ
end Go.Proofs.YthfkbabgkacfnaaGreat

/- The reference's sums as bytes. -/
namespace Go.Proofs.YthfkbabgkacfnaaGreat
open Go Go.RowKit
set_option linter.unusedVariables false
set_option linter.unusedSimpArgs false

theorem refD_run (l:List Int) (hm:maxS l):∀ (k i:Nat) (s:Str),i + k=4→s.length≤7 * i→∃ x,LoopR (ref10_Put_b2 l) (s,(i:Int)) x∧(∀ sx,x=.inl sx→putDF k i l s=(sx.1,(0:Int)))∧∀ y,x=.inr y→putDF k i l s=y
 | 0,i,s,hi,hs=>⟨.inl (s,(i:Int)),.done ⟨fun c=>by simp at c; omega,fun _=>rfl⟩,fun _ e=>by cases e; rfl,fun _ e=>by cases e⟩
 | k + 1,i,s,hi,hs=>by
  cases hc:((putO (nth l (i:Int)) 4).2 != 0) with
  | true=>
   refine ⟨.inr ([],1),.done ⟨fun _=>⟨⟨by omega,by omega⟩,maxS_nth hm i,_,rfl,fun _=>rfl,fun c=>by rw [hc] at c; cases c⟩,fun c=>by simp at c; omega⟩,fun _ e=>(by cases e),fun y e=>?_⟩
   cases e; unfold putDF; rw [hc]; rfl
  | false =>
   have hl:=putO_len (nth l (i:Int)) 4
   obtain ⟨x,hx,h1,h2⟩:=refD_run l hm k (i + 1) (s++(putO (nth l (i:Int)) 4).1) (by omega) (by simp; omega)
   refine ⟨x,.step ⟨fun _=>⟨⟨by omega,by omega⟩,maxS_nth hm i,_,rfl,fun c=>(by rw [hc] at c; cases c),fun _=>⟨by show s.length + (putO (nth l (i:Int)) 4).1.length≤_; omega,?_⟩⟩,fun c=>by simp at c; omega⟩ hx,fun sx e=>?_,fun y e=>?_⟩
   ·have e:IntKind.i64.wrap ((i:Int) + (1:Int))=((i + 1:Nat):Int):=wrapS (n:=i + 1) (by omega) (by omega)
    rw [e]
   ·rw [← h1 sx e]; rw [putDF,hc]; rfl
   ·rw [← h2 y e]; rw [putDF,hc]; rfl
theorem refPutD_ev (l:List Int) (hm:maxS l):ref10_Put_raw l (putD l):=by
 obtain ⟨x,hx,h1,h2⟩:=refD_run l hm 4 0 [] rfl (by simp)
 exact ⟨x,hx,h1,h2⟩
end Go.Proofs.YthfkbabgkacfnaaGreat

/- References: frames. -/
namespace Go.Proofs.YthfkbabgkacfnaaGreat
open Go Go.RowKit
set_option linter.unusedVariables false
set_option linter.unusedSimpArgs false
def ref14_entries_b1 (d0:(List Ent)) (s1:Int) (z1:(Int) ⊕ ((Int) ⊕ (Bool))):Prop :=
 ((decide (s1<(d0.length:Int)))=true→((0≤s1∧s1<(d0.length:Int))∧((sm (nth d0 s1).val)∧(((!(okE (nth d0 s1)))=true→(z1=.inr (.inr false)))∧((!(okE (nth d0 s1)))=false→(z1=.inl (IntKind.i64.wrap (s1 + (1:Int)))))))))∧((decide (s1<(d0.length:Int)))=false→(z1=.inr (.inl s1)))
def ref14_entries_raw (d0:(List Ent)) (y:Bool):Prop :=
 ∃ x1,LoopR (ref14_entries_b1 d0) (0:Int) x1∧(∀ sx1,x1=.inl sx1→(y=(decide ((d0.length:Int)≤(8:Int)))))∧(∀ y1,x1=.inr y1→(y=y1))
set_option maxRecDepth 20000 in
set_option maxHeartbeats 4000000 in
theorem ref14_entries_c {L:List Nat} {w:World} {AP0:Option Addr} {cP0:Nat} (d0:(List Ent)) (HP0:Stb L w (fun w=>SlC kEnt w AP0 cP0 d0)) (hL:Lt L w) {y:Bool} (h:ref14_entries_raw d0 y) :
  Calls Tryz.prog 39 [.slice AP0 d0.length cP0].toArray w (Ret fun v w'=>Ext w w'∧v=.bool y):=by
 unfold ref14_entries_raw at h
 refine calls_ec Tryz.func39 rfl rfl rfl ?_
 refine ec_seq ?_
 refine ec_region ?_
 refine o_w (v:=.bool false) (r_asg rfl) ?_
 refine eo_nil_sq ?_
 iterate 2 refine ec_seq ?_
 refine ec_region ?_
 refine o_w (v:=.int .i64 (0:Int)) (r_asg rfl) ?_
 refine eo_nil_sq ?_
 refine ec_block ?_
 obtain ⟨x1,hl1,h⟩:=h
 refine ec_loopER 0 (I:=(fun (s1:Int) ρ ds w'=>∃ (ρ':Env),ρ=envs ρ' [(3,.int .i64 s1),(0,.slice AP0 d0.length cP0)]∧ds=[]∧Fr L w w'∧Ext w w')) (J:=(fun (y':Bool) ρ ds wz=>bodyE Tryz.prog #[.tmp 2] (Ret fun v w'=>Ext w w'∧v=.bool y') .ret ρ ds wz)) ?_ hl1 ?_ ?_ ?_
 ·intro s1 z1 ρ1 ds1 w1r hI1 hb1
  obtain ⟨ρ1r,rfl,rfl,F1r,E1r⟩:=hI1
  have h:=hb1
  unfold ref14_entries_b1 at h
  have G2:Fr L w w1r:=(Fr.refl _ _).stp F1r (fun _ h=>.inl h)
  iterate 2 refine ec_seq ?_
  refine ec_region ?_
  refine o_w (v:=.int .i64 s1) (r_mov rfl) ?_
  refine o_w (v:=.slice AP0 d0.length cP0) (r_mov rfl) ?_
  refine o_w (v:=.int .i64 (d0.length:Int)) (r_len_slc un_s_api_Entry rfl) ?_
  refine o_w (v:=.bool (decide (s1<(d0.length:Int)))) (r_int rfl rfl rfl) ?_
  refine eo_nil_sq ?_
  refine ec_cond rfl (fun hc3=>?_) (fun hc3=>?_)
  ·replace h:=h.1 hc3
   refine ec_skip ?_
   refine sq_n ?_
   refine ec_seq ?_
   refine ec_block ?_
   refine ec_seq ?_
   refine ec_region ?_
   refine o_w (v:=.slice AP0 d0.length cP0) (r_mov rfl) ?_
   refine o_w (v:=.int .i64 s1) (r_mov rfl) ?_
   obtain ⟨ha4,h⟩:=h
   obtain ⟨cs5,l7,H6⟩:=Stb.elem (by decide) (HP0.fr G2 (fun _ h=>h)) s1 ha4.1 ha4.2
   obtain ⟨A9,c10,A12,c13,rfl,H8,H11,H14⟩:=kEnt_open2 H6
   refine o_w (v:=.pointer (some (elemA AP0 kEnt.n s1.toNat))) (r_ia slc_s_api_Entry rfl rfl ((HP0.fr G2 (fun _ h=>h)).now.2 _ (lt_toNat ha4.1 ha4.2)).1 ha4.1 ha4.2) ?_
   refine o_w (v:=.agg (cEnt (nth d0 s1) A9 c10 A12 c13).toArray) (r_lda' agg_api_Entry rfl (elemA_spot _ _ _) (vs:=(cEnt (nth d0 s1) A9 c10 A12 c13)) rfl (H8.now.1)) ?_
   obtain ⟨ha16,h⟩:=h
   refine o_call cf_ref07_Check rfl (ref07_Check_c (nth d0 s1) (kEnt_mk (d:=(nth d0 s1)) H11 H14) (hL.fr E1r) (refCheckE_ev (nth d0 s1) ha16)) rfl rfl ?_
   rintro _ w15 ⟨F15,rfl⟩
   have E17:=E1r.trans F15
   refine o_w (v:=.bool (!(okE (nth d0 s1)))) (r_not rfl) ?_
   refine eo_nil_sq ?_
   refine ec_cond rfl (fun hc21=>?_) (fun hc21=>?_)
   ·replace h:=h.1 hc21
    refine ec_seq ?_
    refine ec_region ?_
    refine o_w (v:=.bool false) (r_asg rfl) ?_
    refine eo_nil_sq ?_
    refine ec_ret ?_
    refine blk_ret ?_
    refine sq_ret ?_
    subst h
    exact lqR_r (end1 rfl ⟨_,rfl,E17,rfl⟩)
   ·replace h:=h.2 hc21
    refine ec_skip ?_
    refine blk_n ?_
    refine sq_n ?_
    refine ec_region ?_
    refine o_w (v:=.int .i64 s1) (r_mov rfl) ?_
    refine o_w (v:=.int .i64 (IntKind.i64.wrap (s1 + (1:Int)))) (r_int rfl rfl rfl) ?_
    refine o_w (v:=.int .i64 (IntKind.i64.wrap (s1 + (1:Int)))) (r_asg rfl) ?_
    refine eo_nil ?_
    subst h
    exact lqR_n ⟨_,envs_self ⟨rfl,rfl,trivial⟩,rfl,(F1r.trans (Fr.ext F15)),E17⟩
  ·replace h:=h.2 hc3
   refine ec_exit ?_
   refine sq_exit ?_
   subst h
   exact lqR_x ⟨_,envs_self ⟨rfl,rfl,trivial⟩,rfl,F1r,E1r⟩
 ·exact ⟨_,envs_self ⟨rfl,rfl,trivial⟩,rfl,(Fr.refl _ _),(Fr.refl _ _)⟩
 ·rintro sx1 rfl ρ1e ds1e w1e ⟨ρ1e,rfl,rfl,F1e,E1e⟩
  replace h:=h.1 _ rfl
  refine blk_hit ?_
  refine sq_n ?_
  refine ec_seq ?_
  refine ec_region ?_
  refine o_w (v:=.slice AP0 d0.length cP0) (r_mov rfl) ?_
  refine o_w (v:=.int .i64 (d0.length:Int)) (r_len_slc un_s_api_Entry rfl) ?_
  refine o_w (v:=.bool (decide ((d0.length:Int)≤(8:Int)))) (r_int rfl rfl rfl) ?_
  refine o_w (v:=.bool (decide ((d0.length:Int)≤(8:Int)))) (r_asg rfl) ?_
  refine eo_nil_sq ?_
  refine ec_ret ?_
  subst h
  exact (end1 rfl ⟨_,rfl,E1e,rfl⟩)
 ·rintro y1 rfl ρ1q ds1q w1q hJ
  have hy:=h.2 _ rfl
  subst hy
  refine blk_ret ?_
  refine sq_ret ?_
  exact hJ
end Go.Proofs.YthfkbabgkacfnaaGreat

/- The reference: are these entries of a frame? -/
namespace Go.Proofs.YthfkbabgkacfnaaGreat
open Go Go.RowKit
set_option linter.unusedVariables false
set_option linter.unusedSimpArgs false

def entsF (l:List Ent):Bool:=decide ((l.length:Int)≤8)&&l.all okE
theorem refEnts_ev (d:List Ent) (h:sml d) (hd:d.length≤1000000):ref14_entries_raw d (entsF d):=by
 obtain ⟨x,hx,h2⟩:=loop_scan (body:=ref14_entries_b1 d) d.length (fun i=>okE (d.getD i default)) (fun _=>false)
  (fun i hi hp=>⟨fun _=>⟨⟨by omega,by omega⟩,h.2 _ (by rw [nth_nat]; exact getD_mem hi),fun e=>(by rw [nth_nat,hp] at e; cases e),fun e=>by rw [wrapS hi (by omega)]⟩,fun h=>by simp at h; omega⟩)
  (fun i hi hp=>⟨fun _=>⟨⟨by omega,by omega⟩,h.2 _ (by rw [nth_nat]; exact getD_mem hi),fun e=>rfl,fun e=>(by rw [nth_nat,hp] at e; cases e)⟩,fun h=>by simp at h; omega⟩)
  ⟨fun h=>by simp at h,fun _=>rfl⟩
 refine ⟨x,hx,fun s e=>?_,fun y e=>?_⟩
 ·rcases h2 with ⟨h3,h4⟩ | ⟨i,hi,h4,_,h6⟩
  ·have:d.all okE=true:=by
    rw [List.all_eq_true]; intro e he
    obtain ⟨i,hi,rfl⟩:=List.getElem_of_mem he
    have:=h4 i hi; simpa [hi] using this
   unfold entsF; rw [this]; simp
  ·rw [e] at h6; cases h6
 ·rcases h2 with ⟨h3,h4⟩ | ⟨i,hi,h4,_,h6⟩
  ·rw [e] at h3; cases h3
  ·rw [e] at h6; cases h6
   have:d.all okE=false:=by rw [List.all_eq_false]; exact ⟨_,getD_mem hi,by simpa using h4⟩
   unfold entsF; rw [this]; simp
end Go.Proofs.YthfkbabgkacfnaaGreat

/- References: frames. -/
namespace Go.Proofs.YthfkbabgkacfnaaGreat
open Go Go.RowKit
set_option linter.unusedVariables false
set_option linter.unusedSimpArgs false
def ref14_Check_raw (d0:Frm) (y:Bool):Prop :=
 (maxS d0.sums)∧(∃ x7,x7=(putD d0.sums)∧(((!(((((((decide (d0.kind<(1:Int)))||(decide ((7:Int)<d0.kind)))||(decide (d0.a<(0:Int))))||(decide ((2147483647:Int)<d0.a)))||(decide (d0.b<(0:Int))))||(decide ((2147483647:Int)<d0.b)))||(x7.2 != (0:Int))))=true→sml d0.entries)∧(((!(((((((decide (d0.kind<(1:Int)))||(decide ((7:Int)<d0.kind)))||(decide (d0.a<(0:Int))))||(decide ((2147483647:Int)<d0.a)))||(decide (d0.b<(0:Int))))||(decide ((2147483647:Int)<d0.b)))||(x7.2 != (0:Int))))=true→d0.entries.length≤1000000)∧((((((((((decide (d0.kind<(1:Int)))||(decide ((7:Int)<d0.kind)))||(decide (d0.a<(0:Int))))||(decide ((2147483647:Int)<d0.a)))||(decide (d0.b<(0:Int))))||(decide ((2147483647:Int)<d0.b)))||(x7.2 != (0:Int)))||(!(entsF d0.entries)))=true→(y=false))∧(((((((((decide (d0.kind<(1:Int)))||(decide ((7:Int)<d0.kind)))||(decide (d0.a<(0:Int))))||(decide ((2147483647:Int)<d0.a)))||(decide (d0.b<(0:Int))))||(decide ((2147483647:Int)<d0.b)))||(x7.2 != (0:Int)))||(!(entsF d0.entries)))=false→(((((d0.kind==(4:Int))&&((decide (d0.a<(1:Int)))||(decide ((15:Int)<d0.a))))||(((d0.kind != (4:Int))&&(!((((d0.kind==(1:Int))||(d0.kind==(2:Int)))||(d0.kind==(6:Int)))||(d0.kind==(7:Int)))))&&(d0.a != (0:Int))))=true→(y=false))∧((((d0.kind==(4:Int))&&((decide (d0.a<(1:Int)))||(decide ((15:Int)<d0.a))))||(((d0.kind != (4:Int))&&(!((((d0.kind==(1:Int))||(d0.kind==(2:Int)))||(d0.kind==(6:Int)))||(d0.kind==(7:Int)))))&&(d0.a != (0:Int))))=false→(y=(((((d0.kind==(1:Int))||(d0.kind==(2:Int)))||(d0.b==(0:Int)))&&((d0.kind==(3:Int))||(((nth d0.sums 0)==(0:Int))&&(((nth d0.sums 1)==(0:Int))&&(((nth d0.sums 2)==(0:Int))&&(((nth d0.sums 3)==(0:Int))&&true))))))&&(((((d0.kind==(1:Int))||(d0.kind==(4:Int)))||(d0.kind==(5:Int)))||(d0.kind==(6:Int)))||((d0.entries.length:Int)==(0:Int))))))))))))
set_option maxRecDepth 20000 in
set_option maxHeartbeats 4000000 in
theorem ref14_Check_c {L:List Nat} {w:World} {csP0:List Value} (d0:Frm) (HP0:Stb L w (fun w=>kFrm.r w csP0 d0)) (hL:Lt L w) {y:Bool} (h:ref14_Check_raw d0 y) :
  Calls Tryz.prog 25 [.agg csP0.toArray].toArray w (Ret fun v w'=>Ext w w'∧v=.bool y):=by
 obtain ⟨A2,c3,rfl,H4,hl1⟩:=kFrm_open HP0
 unfold ref14_Check_raw at h
 refine calls_ec Tryz.func25 rfl rfl rfl ?_
 refine ec_seq ?_
 refine ec_region ?_
 refine o_box (cs:=(cFrm d0 A2 c3)) rfl rfl rfl ?_
 intro b5 w5 e5 F5 B5
 have S5:=B5.stb (nin hL e5)
 have G6:Fr L w w5:=Fr.ext F5
 refine o_w (v:=.bool false) (r_asg rfl) ?_
 refine eo_nil_sq ?_
 refine ec_seq ?_
 refine ec_region ?_
 refine o_w (v:=.pointer (some ⟨b5,3,none⟩)) (r_fa fld_ouroborosref14_Frame_3 rfl rfl) ?_
 refine o_w (v:=.agg #[.int .i64 (nth d0.sums 0),.int .i64 (nth d0.sums 1),.int .i64 (nth d0.sums 2),.int .i64 (nth d0.sums 3)]) (r_lda agg_4_int rfl (vs:=[.int .i64 (nth d0.sums 0),.int .i64 (nth d0.sums 1),.int .i64 (nth d0.sums 2),.int .i64 (nth d0.sums 3)]) rfl (S5.now.part (n:=4) rfl)) ?_
 obtain ⟨ha8,h⟩:=h
 obtain ⟨x7,hx7,h⟩:=h
 refine o_call cf_ref10_Put rfl (ref10_Put_c d0.sums hl1 (hL.fr F5) (eq_ev hx7 (refPutD_ev d0.sums ha8))) rfl rfl ?_
 rintro _ w7 ⟨F7,rfl⟩
 have E9:=F5.trans F7
 have G11:Fr L w5 w7:=Fr.ext F7
 refine o_w (v:=.tuple #[str x7.1,.int .i64 x7.2]) (r_mov rfl) ?_
 refine o_w (v:=str x7.1) (r_ext rfl rfl) ?_
 refine o_w (v:=.int .i64 x7.2) (r_ext rfl rfl) ?_
 refine o_w (v:=str x7.1) (r_asg rfl) ?_
 refine o_w (v:=.int .i64 x7.2) (r_asg rfl) ?_
 refine eo_nil_sq ?_
 iterate 2 refine ec_seq ?_
 refine ec_region ?_
 refine o_w (v:=.pointer (some ⟨b5,0,none⟩)) (r_fa fld_ouroborosref14_Frame_0 rfl rfl) ?_
 refine o_w (v:=.int .i64 d0.kind) (r_ld one_int rfl ((S5.fr G11 (fun _ h=>h)).now.cell rfl)) ?_
 refine o_w (v:=.bool (decide (d0.kind<(1:Int)))) (r_int rfl rfl rfl) ?_
 refine o_w (v:=.bool (decide (d0.kind<(1:Int)))) (r_mov rfl) ?_
 refine o_vg (v:=.pointer (some ⟨b5,0,none⟩)) (want_cf (t:=17) rfl rfl) (fun hk=>(r_fa fld_ouroborosref14_Frame_0 rfl rfl)) rfl rfl ?_
 refine o_vg (v:=.int .i64 d0.kind) (want_cf (t:=17) rfl rfl) (fun hk=>(r_ld one_int (gdT hk) ((S5.fr G11 (fun _ h=>h)).now.cell rfl))) rfl rfl ?_
 refine o_vg (v:=.bool (decide ((7:Int)<d0.kind))) (want_cf (t:=17) rfl rfl) (fun hk=>(r_int (gdT hk) rfl rfl)) rfl rfl ?_
 refine o_w (v:=.bool ((decide (d0.kind<(1:Int)))||(decide ((7:Int)<d0.kind)))) (r_pickOr rfl rfl (fun hf=>(gdT (notT hf)))) ?_
 refine o_w (v:=.bool ((decide (d0.kind<(1:Int)))||(decide ((7:Int)<d0.kind)))) (r_mov rfl) ?_
 refine o_vg (v:=.pointer (some ⟨b5,1,none⟩)) (want_cf (t:=22) rfl rfl) (fun hk=>(r_fa fld_ouroborosref14_Frame_1 rfl rfl)) rfl rfl ?_
 refine o_vg (v:=.int .i64 d0.a) (want_cf (t:=22) rfl rfl) (fun hk=>(r_ld one_int (gdT hk) ((S5.fr G11 (fun _ h=>h)).now.cell rfl))) rfl rfl ?_
 refine o_vg (v:=.bool (decide (d0.a<(0:Int)))) (want_cf (t:=22) rfl rfl) (fun hk=>(r_int (gdT hk) rfl rfl)) rfl rfl ?_
 refine o_w (v:=.bool (((decide (d0.kind<(1:Int)))||(decide ((7:Int)<d0.kind)))||(decide (d0.a<(0:Int))))) (r_pickOr rfl rfl (fun hf=>(gdT (notT hf)))) ?_
 refine o_w (v:=.bool (((decide (d0.kind<(1:Int)))||(decide ((7:Int)<d0.kind)))||(decide (d0.a<(0:Int))))) (r_mov rfl) ?_
 refine o_vg (v:=.pointer (some ⟨b5,1,none⟩)) (want_cf (t:=27) rfl rfl) (fun hk=>(r_fa fld_ouroborosref14_Frame_1 rfl rfl)) rfl rfl ?_
 refine o_vg (v:=.int .i64 d0.a) (want_cf (t:=27) rfl rfl) (fun hk=>(r_ld one_int (gdT hk) ((S5.fr G11 (fun _ h=>h)).now.cell rfl))) rfl rfl ?_
 refine o_vg (v:=.bool (decide ((2147483647:Int)<d0.a))) (want_cf (t:=27) rfl rfl) (fun hk=>(r_int (gdT hk) rfl rfl)) rfl rfl ?_
 refine o_w (v:=.bool ((((decide (d0.kind<(1:Int)))||(decide ((7:Int)<d0.kind)))||(decide (d0.a<(0:Int))))||(decide ((2147483647:Int)<d0.a)))) (r_pickOr rfl rfl (fun hf=>(gdT (notT hf)))) ?_
 refine o_w (v:=.bool ((((decide (d0.kind<(1:Int)))||(decide ((7:Int)<d0.kind)))||(decide (d0.a<(0:Int))))||(decide ((2147483647:Int)<d0.a)))) (r_mov rfl) ?_
 refine o_vg (v:=.pointer (some ⟨b5,2,none⟩)) (want_cf (t:=32) rfl rfl) (fun hk=>(r_fa fld_ouroborosref14_Frame_2 rfl rfl)) rfl rfl ?_
 refine o_vg (v:=.int .i64 d0.b) (want_cf (t:=32) rfl rfl) (fun hk=>(r_ld one_int (gdT hk) ((S5.fr G11 (fun _ h=>h)).now.cell rfl))) rfl rfl ?_
 refine o_vg (v:=.bool (decide (d0.b<(0:Int)))) (want_cf (t:=32) rfl rfl) (fun hk=>(r_int (gdT hk) rfl rfl)) rfl rfl ?_
 refine o_w (v:=.bool (((((decide (d0.kind<(1:Int)))||(decide ((7:Int)<d0.kind)))||(decide (d0.a<(0:Int))))||(decide ((2147483647:Int)<d0.a)))||(decide (d0.b<(0:Int))))) (r_pickOr rfl rfl (fun hf=>(gdT (notT hf)))) ?_
 refine o_w (v:=.bool (((((decide (d0.kind<(1:Int)))||(decide ((7:Int)<d0.kind)))||(decide (d0.a<(0:Int))))||(decide ((2147483647:Int)<d0.a)))||(decide (d0.b<(0:Int))))) (r_mov rfl) ?_
 refine o_vg (v:=.pointer (some ⟨b5,2,none⟩)) (want_cf (t:=37) rfl rfl) (fun hk=>(r_fa fld_ouroborosref14_Frame_2 rfl rfl)) rfl rfl ?_
 refine o_vg (v:=.int .i64 d0.b) (want_cf (t:=37) rfl rfl) (fun hk=>(r_ld one_int (gdT hk) ((S5.fr G11 (fun _ h=>h)).now.cell rfl))) rfl rfl ?_
 refine o_vg (v:=.bool (decide ((2147483647:Int)<d0.b))) (want_cf (t:=37) rfl rfl) (fun hk=>(r_int (gdT hk) rfl rfl)) rfl rfl ?_
 refine o_w (v:=.bool ((((((decide (d0.kind<(1:Int)))||(decide ((7:Int)<d0.kind)))||(decide (d0.a<(0:Int))))||(decide ((2147483647:Int)<d0.a)))||(decide (d0.b<(0:Int))))||(decide ((2147483647:Int)<d0.b)))) (r_pickOr rfl rfl (fun hf=>(gdT (notT hf)))) ?_
 refine o_w (v:=.bool ((((((decide (d0.kind<(1:Int)))||(decide ((7:Int)<d0.kind)))||(decide (d0.a<(0:Int))))||(decide ((2147483647:Int)<d0.a)))||(decide (d0.b<(0:Int))))||(decide ((2147483647:Int)<d0.b)))) (r_mov rfl) ?_
 refine o_vg (v:=.int .i64 x7.2) (want_cf (t:=42) rfl rfl) (fun hk=>(r_mov rfl)) rfl rfl ?_
 refine o_vg (v:=.bool (x7.2 != (0:Int))) (want_cf (t:=42) rfl rfl) (fun hk=>(r_int (gdT hk) rfl rfl)) rfl rfl ?_
 refine o_w (v:=.bool (((((((decide (d0.kind<(1:Int)))||(decide ((7:Int)<d0.kind)))||(decide (d0.a<(0:Int))))||(decide ((2147483647:Int)<d0.a)))||(decide (d0.b<(0:Int))))||(decide ((2147483647:Int)<d0.b)))||(x7.2 != (0:Int)))) (r_pickOr rfl rfl (fun hf=>(gdT (notT hf)))) ?_
 refine o_w (v:=.bool (((((((decide (d0.kind<(1:Int)))||(decide ((7:Int)<d0.kind)))||(decide (d0.a<(0:Int))))||(decide ((2147483647:Int)<d0.a)))||(decide (d0.b<(0:Int))))||(decide ((2147483647:Int)<d0.b)))||(x7.2 != (0:Int)))) (r_mov rfl) ?_
 refine o_vg (v:=.pointer (some ⟨b5,7,none⟩)) (want_cf (t:=46) rfl rfl) (fun hk=>(r_fa fld_ouroborosref14_Frame_4 rfl rfl)) rfl rfl ?_
 refine o_vg (v:=.slice A2 d0.entries.length c3) (want_cf (t:=46) rfl rfl) (fun hk=>(r_ld one_s_api_Entry (gdT hk) ((S5.fr G11 (fun _ h=>h)).now.cell rfl))) rfl rfl ?_
 obtain ⟨ha14,h⟩:=h
 obtain ⟨ha15,h⟩:=h
 refine o_callg (V:=.bool (entsF d0.entries)) cf_ref14_entries (want_cf (t:=46) rfl rfl) (fun hk=>(mapv1 (gdT hk))) (fun hk=>(ref14_entries_c d0.entries (H4.fr (G6.trans (Fr.ext F7)) (fun _ h=>h)) (hL.fr E9) (refEnts_ev d0.entries (ha14 hk) (ha15 hk)))) rfl ?_
 intro w13 F13
 have E16:=E9.trans F13
 refine o_vg (v:=.bool (!(entsF d0.entries))) (want_cf (t:=46) rfl rfl) (fun hk=>(r_not (gdT hk))) rfl rfl ?_
 refine o_w (v:=.bool ((((((((decide (d0.kind<(1:Int)))||(decide ((7:Int)<d0.kind)))||(decide (d0.a<(0:Int))))||(decide ((2147483647:Int)<d0.a)))||(decide (d0.b<(0:Int))))||(decide ((2147483647:Int)<d0.b)))||(x7.2 != (0:Int)))||(!(entsF d0.entries)))) (r_pickOr rfl rfl (fun hf=>(gdT (notT hf)))) ?_
 refine eo_nil_sq ?_
 refine ec_cond rfl (fun hc19=>?_) (fun hc19=>?_)
 ·replace h:=h.1 hc19
  refine ec_seq ?_
  refine ec_region ?_
  refine o_w (v:=.bool false) (r_asg rfl) ?_
  refine eo_nil_sq ?_
  refine ec_ret ?_
  refine sq_ret ?_
  subst h
  exact (end1 rfl ⟨_,rfl,E16,rfl⟩)
 ·replace h:=h.2 hc19
  refine ec_skip ?_
  refine sq_n ?_
  refine ec_seq ?_
  refine ec_region ?_
  refine o_w (v:=.pointer (some ⟨b5,0,none⟩)) (r_fa fld_ouroborosref14_Frame_0 rfl rfl) ?_
  refine o_w (v:=.int .i64 d0.kind) (r_ld one_int rfl ((S5.fr (G11.trans (Fr.ext F13)) (fun _ h=>h)).now.cell rfl)) ?_
  refine o_w (v:=.bool (d0.kind==(1:Int))) (r_int rfl rfl rfl) ?_
  refine o_w (v:=.bool (d0.kind==(1:Int))) (r_mov rfl) ?_
  refine o_vg (v:=.pointer (some ⟨b5,0,none⟩)) (want_cf (t:=55) rfl rfl) (fun hk=>(r_fa fld_ouroborosref14_Frame_0 rfl rfl)) rfl rfl ?_
  refine o_vg (v:=.int .i64 d0.kind) (want_cf (t:=55) rfl rfl) (fun hk=>(r_ld one_int (gdT hk) ((S5.fr (G11.trans (Fr.ext F13)) (fun _ h=>h)).now.cell rfl))) rfl rfl ?_
  refine o_vg (v:=.bool (d0.kind==(2:Int))) (want_cf (t:=55) rfl rfl) (fun hk=>(r_int (gdT hk) rfl rfl)) rfl rfl ?_
  refine o_w (v:=.bool ((d0.kind==(1:Int))||(d0.kind==(2:Int)))) (r_pickOr rfl rfl (fun hf=>(gdT (notT hf)))) ?_
  refine o_w (v:=.bool ((d0.kind==(1:Int))||(d0.kind==(2:Int)))) (r_mov rfl) ?_
  refine o_vg (v:=.pointer (some ⟨b5,0,none⟩)) (want_cf (t:=60) rfl rfl) (fun hk=>(r_fa fld_ouroborosref14_Frame_0 rfl rfl)) rfl rfl ?_
  refine o_vg (v:=.int .i64 d0.kind) (want_cf (t:=60) rfl rfl) (fun hk=>(r_ld one_int (gdT hk) ((S5.fr (G11.trans (Fr.ext F13)) (fun _ h=>h)).now.cell rfl))) rfl rfl ?_
  refine o_vg (v:=.bool (d0.kind==(6:Int))) (want_cf (t:=60) rfl rfl) (fun hk=>(r_int (gdT hk) rfl rfl)) rfl rfl ?_
  refine o_w (v:=.bool (((d0.kind==(1:Int))||(d0.kind==(2:Int)))||(d0.kind==(6:Int)))) (r_pickOr rfl rfl (fun hf=>(gdT (notT hf)))) ?_
  refine o_w (v:=.bool (((d0.kind==(1:Int))||(d0.kind==(2:Int)))||(d0.kind==(6:Int)))) (r_mov rfl) ?_
  refine o_vg (v:=.pointer (some ⟨b5,0,none⟩)) (want_cf (t:=65) rfl rfl) (fun hk=>(r_fa fld_ouroborosref14_Frame_0 rfl rfl)) rfl rfl ?_
  refine o_vg (v:=.int .i64 d0.kind) (want_cf (t:=65) rfl rfl) (fun hk=>(r_ld one_int (gdT hk) ((S5.fr (G11.trans (Fr.ext F13)) (fun _ h=>h)).now.cell rfl))) rfl rfl ?_
  refine o_vg (v:=.bool (d0.kind==(7:Int))) (want_cf (t:=65) rfl rfl) (fun hk=>(r_int (gdT hk) rfl rfl)) rfl rfl ?_
  refine o_w (v:=.bool ((((d0.kind==(1:Int))||(d0.kind==(2:Int)))||(d0.kind==(6:Int)))||(d0.kind==(7:Int)))) (r_pickOr rfl rfl (fun hf=>(gdT (notT hf)))) ?_
  refine o_w (v:=.bool ((((d0.kind==(1:Int))||(d0.kind==(2:Int)))||(d0.kind==(6:Int)))||(d0.kind==(7:Int)))) (r_asg rfl) ?_
  refine eo_nil_sq ?_
  refine ec_seq ?_
  refine ec_region ?_
  refine o_w (v:=.pointer (some ⟨b5,0,none⟩)) (r_fa fld_ouroborosref14_Frame_0 rfl rfl) ?_
  refine o_w (v:=.int .i64 d0.kind) (r_ld one_int rfl ((S5.fr (G11.trans (Fr.ext F13)) (fun _ h=>h)).now.cell rfl)) ?_
  refine o_w (v:=.bool (d0.kind==(1:Int))) (r_int rfl rfl rfl) ?_
  refine o_w (v:=.bool (d0.kind==(1:Int))) (r_mov rfl) ?_
  refine o_vg (v:=.pointer (some ⟨b5,0,none⟩)) (want_cf (t:=73) rfl rfl) (fun hk=>(r_fa fld_ouroborosref14_Frame_0 rfl rfl)) rfl rfl ?_
  refine o_vg (v:=.int .i64 d0.kind) (want_cf (t:=73) rfl rfl) (fun hk=>(r_ld one_int (gdT hk) ((S5.fr (G11.trans (Fr.ext F13)) (fun _ h=>h)).now.cell rfl))) rfl rfl ?_
  refine o_vg (v:=.bool (d0.kind==(2:Int))) (want_cf (t:=73) rfl rfl) (fun hk=>(r_int (gdT hk) rfl rfl)) rfl rfl ?_
  refine o_w (v:=.bool ((d0.kind==(1:Int))||(d0.kind==(2:Int)))) (r_pickOr rfl rfl (fun hf=>(gdT (notT hf)))) ?_
  refine o_w (v:=.bool ((d0.kind==(1:Int))||(d0.kind==(2:Int)))) (r_asg rfl) ?_
  refine eo_nil_sq ?_
  refine ec_seq ?_
  refine ec_region ?_
  refine o_w (v:=.pointer (some ⟨b5,0,none⟩)) (r_fa fld_ouroborosref14_Frame_0 rfl rfl) ?_
  refine o_w (v:=.int .i64 d0.kind) (r_ld one_int rfl ((S5.fr (G11.trans (Fr.ext F13)) (fun _ h=>h)).now.cell rfl)) ?_
  refine o_w (v:=.bool (d0.kind==(1:Int))) (r_int rfl rfl rfl) ?_
  refine o_w (v:=.bool (d0.kind==(1:Int))) (r_mov rfl) ?_
  refine o_vg (v:=.pointer (some ⟨b5,0,none⟩)) (want_cf (t:=81) rfl rfl) (fun hk=>(r_fa fld_ouroborosref14_Frame_0 rfl rfl)) rfl rfl ?_
  refine o_vg (v:=.int .i64 d0.kind) (want_cf (t:=81) rfl rfl) (fun hk=>(r_ld one_int (gdT hk) ((S5.fr (G11.trans (Fr.ext F13)) (fun _ h=>h)).now.cell rfl))) rfl rfl ?_
  refine o_vg (v:=.bool (d0.kind==(4:Int))) (want_cf (t:=81) rfl rfl) (fun hk=>(r_int (gdT hk) rfl rfl)) rfl rfl ?_
  refine o_w (v:=.bool ((d0.kind==(1:Int))||(d0.kind==(4:Int)))) (r_pickOr rfl rfl (fun hf=>(gdT (notT hf)))) ?_
  refine o_w (v:=.bool ((d0.kind==(1:Int))||(d0.kind==(4:Int)))) (r_mov rfl) ?_
  refine o_vg (v:=.pointer (some ⟨b5,0,none⟩)) (want_cf (t:=86) rfl rfl) (fun hk=>(r_fa fld_ouroborosref14_Frame_0 rfl rfl)) rfl rfl ?_
  refine o_vg (v:=.int .i64 d0.kind) (want_cf (t:=86) rfl rfl) (fun hk=>(r_ld one_int (gdT hk) ((S5.fr (G11.trans (Fr.ext F13)) (fun _ h=>h)).now.cell rfl))) rfl rfl ?_
  refine o_vg (v:=.bool (d0.kind==(5:Int))) (want_cf (t:=86) rfl rfl) (fun hk=>(r_int (gdT hk) rfl rfl)) rfl rfl ?_
  refine o_w (v:=.bool (((d0.kind==(1:Int))||(d0.kind==(4:Int)))||(d0.kind==(5:Int)))) (r_pickOr rfl rfl (fun hf=>(gdT (notT hf)))) ?_
  refine o_w (v:=.bool (((d0.kind==(1:Int))||(d0.kind==(4:Int)))||(d0.kind==(5:Int)))) (r_mov rfl) ?_
  refine o_vg (v:=.pointer (some ⟨b5,0,none⟩)) (want_cf (t:=91) rfl rfl) (fun hk=>(r_fa fld_ouroborosref14_Frame_0 rfl rfl)) rfl rfl ?_
  refine o_vg (v:=.int .i64 d0.kind) (want_cf (t:=91) rfl rfl) (fun hk=>(r_ld one_int (gdT hk) ((S5.fr (G11.trans (Fr.ext F13)) (fun _ h=>h)).now.cell rfl))) rfl rfl ?_
  refine o_vg (v:=.bool (d0.kind==(6:Int))) (want_cf (t:=91) rfl rfl) (fun hk=>(r_int (gdT hk) rfl rfl)) rfl rfl ?_
  refine o_w (v:=.bool ((((d0.kind==(1:Int))||(d0.kind==(4:Int)))||(d0.kind==(5:Int)))||(d0.kind==(6:Int)))) (r_pickOr rfl rfl (fun hf=>(gdT (notT hf)))) ?_
  refine o_w (v:=.bool ((((d0.kind==(1:Int))||(d0.kind==(4:Int)))||(d0.kind==(5:Int)))||(d0.kind==(6:Int)))) (r_asg rfl) ?_
  refine eo_nil_sq ?_
  iterate 2 refine ec_seq ?_
  refine ec_region ?_
  refine o_w (v:=.pointer (some ⟨b5,0,none⟩)) (r_fa fld_ouroborosref14_Frame_0 rfl rfl) ?_
  refine o_w (v:=.int .i64 d0.kind) (r_ld one_int rfl ((S5.fr (G11.trans (Fr.ext F13)) (fun _ h=>h)).now.cell rfl)) ?_
  refine o_w (v:=.bool (d0.kind==(4:Int))) (r_int rfl rfl rfl) ?_
  refine o_w (v:=.bool (d0.kind==(4:Int))) (r_mov rfl) ?_
  refine o_vg (v:=.pointer (some ⟨b5,1,none⟩)) (want_ct (t:=99) rfl rfl) (fun hk=>(r_fa fld_ouroborosref14_Frame_1 rfl rfl)) rfl rfl ?_
  refine o_vg (v:=.int .i64 d0.a) (want_ct (t:=99) rfl rfl) (fun hk=>(r_ld one_int (gdT hk) ((S5.fr (G11.trans (Fr.ext F13)) (fun _ h=>h)).now.cell rfl))) rfl rfl ?_
  refine o_vg (v:=.bool (decide (d0.a<(1:Int)))) (want_ct (t:=99) rfl rfl) (fun hk=>(r_int (gdT hk) rfl rfl)) rfl rfl ?_
  refine o_vg (v:=.bool (decide (d0.a<(1:Int)))) (want_ct (t:=99) rfl rfl) (fun hk=>(r_mov (gdT hk))) rfl rfl ?_
  refine o_vg (v:=.pointer (some ⟨b5,1,none⟩)) (want_gf (t:=103) rfl rfl) (fun hk=>(r_fa fld_ouroborosref14_Frame_1 rfl rfl)) rfl rfl ?_
  refine o_vg (v:=.int .i64 d0.a) (want_gf (t:=103) rfl rfl) (fun hk=>(r_ld one_int (gdT hk) ((S5.fr (G11.trans (Fr.ext F13)) (fun _ h=>h)).now.cell rfl))) rfl rfl ?_
  refine o_vg (v:=.bool (decide ((15:Int)<d0.a))) (want_gf (t:=103) rfl rfl) (fun hk=>(r_int (gdT hk) rfl rfl)) rfl rfl ?_
  refine o_vg (v:=.bool ((decide (d0.a<(1:Int)))||(decide ((15:Int)<d0.a)))) (want_ct (t:=99) rfl rfl) (fun hk=>(r_pickOr (gdT hk) rfl (fun hf=>(gdT (andM hk (notT hf)))))) rfl rfl ?_
  refine o_w (v:=.bool ((d0.kind==(4:Int))&&((decide (d0.a<(1:Int)))||(decide ((15:Int)<d0.a))))) (r_pickAnd rfl (fun ht=>(gdT ht)) rfl) ?_
  refine o_w (v:=.bool ((d0.kind==(4:Int))&&((decide (d0.a<(1:Int)))||(decide ((15:Int)<d0.a))))) (r_mov rfl) ?_
  refine o_vg (v:=.pointer (some ⟨b5,0,none⟩)) (want_cf (t:=109) rfl rfl) (fun hk=>(r_fa fld_ouroborosref14_Frame_0 rfl rfl)) rfl rfl ?_
  refine o_vg (v:=.int .i64 d0.kind) (want_cf (t:=109) rfl rfl) (fun hk=>(r_ld one_int (gdT hk) ((S5.fr (G11.trans (Fr.ext F13)) (fun _ h=>h)).now.cell rfl))) rfl rfl ?_
  refine o_vg (v:=.bool (d0.kind != (4:Int))) (want_cf (t:=109) rfl rfl) (fun hk=>(r_int (gdT hk) rfl rfl)) rfl rfl ?_
  refine o_vg (v:=.bool (d0.kind != (4:Int))) (want_cf (t:=109) rfl rfl) (fun hk=>(r_mov (gdT hk))) rfl rfl ?_
  refine o_vg (v:=.bool ((((d0.kind==(1:Int))||(d0.kind==(2:Int)))||(d0.kind==(6:Int)))||(d0.kind==(7:Int)))) (want_gt (t:=113) rfl rfl) (fun hk=>(r_mov rfl)) rfl rfl ?_
  refine o_vg (v:=.bool (!((((d0.kind==(1:Int))||(d0.kind==(2:Int)))||(d0.kind==(6:Int)))||(d0.kind==(7:Int))))) (want_gt (t:=113) rfl rfl) (fun hk=>(r_not (gdT hk))) rfl rfl ?_
  refine o_vg (v:=.bool ((d0.kind != (4:Int))&&(!((((d0.kind==(1:Int))||(d0.kind==(2:Int)))||(d0.kind==(6:Int)))||(d0.kind==(7:Int)))))) (want_cf (t:=109) rfl rfl) (fun hk=>(r_pickAnd (gdT hk) (fun ht=>(gdT (andM hk ht))) rfl)) rfl rfl ?_
  refine o_vg (v:=.bool ((d0.kind != (4:Int))&&(!((((d0.kind==(1:Int))||(d0.kind==(2:Int)))||(d0.kind==(6:Int)))||(d0.kind==(7:Int)))))) (want_cf (t:=109) rfl rfl) (fun hk=>(r_mov (gdT hk))) rfl rfl ?_
  refine o_vg (v:=.pointer (some ⟨b5,1,none⟩)) (want_gt (t:=117) rfl rfl) (fun hk=>(r_fa fld_ouroborosref14_Frame_1 rfl rfl)) rfl rfl ?_
  refine o_vg (v:=.int .i64 d0.a) (want_gt (t:=117) rfl rfl) (fun hk=>(r_ld one_int (gdT hk) ((S5.fr (G11.trans (Fr.ext F13)) (fun _ h=>h)).now.cell rfl))) rfl rfl ?_
  refine o_vg (v:=.bool (d0.a != (0:Int))) (want_gt (t:=117) rfl rfl) (fun hk=>(r_int (gdT hk) rfl rfl)) rfl rfl ?_
  refine o_vg (v:=.bool (((d0.kind != (4:Int))&&(!((((d0.kind==(1:Int))||(d0.kind==(2:Int)))||(d0.kind==(6:Int)))||(d0.kind==(7:Int)))))&&(d0.a != (0:Int)))) (want_cf (t:=109) rfl rfl) (fun hk=>(r_pickAnd (gdT hk) (fun ht=>(gdT (andM hk ht))) rfl)) rfl rfl ?_
  refine o_w (v:=.bool (((d0.kind==(4:Int))&&((decide (d0.a<(1:Int)))||(decide ((15:Int)<d0.a))))||(((d0.kind != (4:Int))&&(!((((d0.kind==(1:Int))||(d0.kind==(2:Int)))||(d0.kind==(6:Int)))||(d0.kind==(7:Int)))))&&(d0.a != (0:Int))))) (r_pickOr rfl rfl (fun hf=>(gdT (notT hf)))) ?_
  refine eo_nil_sq ?_
  refine ec_cond rfl (fun hc20=>?_) (fun hc20=>?_)
  ·replace h:=h.1 hc20
   refine ec_seq ?_
   refine ec_region ?_
   refine o_w (v:=.bool false) (r_asg rfl) ?_
   refine eo_nil_sq ?_
   refine ec_ret ?_
   refine sq_ret ?_
   subst h
   exact (end1 rfl ⟨_,rfl,E16,rfl⟩)
  ·replace h:=h.2 hc20
   refine ec_skip ?_
   refine sq_n ?_
   refine ec_seq ?_
   refine ec_region ?_
   iterate 2 refine o_w (v:=.bool ((d0.kind==(1:Int))||(d0.kind==(2:Int)))) (r_mov rfl) ?_
   refine o_vg (v:=.pointer (some ⟨b5,2,none⟩)) (want_cf (t:=124) rfl rfl) (fun hk=>(r_fa fld_ouroborosref14_Frame_2 rfl rfl)) rfl rfl ?_
   refine o_vg (v:=.int .i64 d0.b) (want_cf (t:=124) rfl rfl) (fun hk=>(r_ld one_int (gdT hk) ((S5.fr (G11.trans (Fr.ext F13)) (fun _ h=>h)).now.cell rfl))) rfl rfl ?_
   refine o_vg (v:=.bool (d0.b==(0:Int))) (want_cf (t:=124) rfl rfl) (fun hk=>(r_int (gdT hk) rfl rfl)) rfl rfl ?_
   refine o_w (v:=.bool (((d0.kind==(1:Int))||(d0.kind==(2:Int)))||(d0.b==(0:Int)))) (r_pickOr rfl rfl (fun hf=>(gdT (notT hf)))) ?_
   refine o_w (v:=.bool (((d0.kind==(1:Int))||(d0.kind==(2:Int)))||(d0.b==(0:Int)))) (r_mov rfl) ?_
   refine o_vg (v:=.pointer (some ⟨b5,0,none⟩)) (want_ct (t:=129) rfl rfl) (fun hk=>(r_fa fld_ouroborosref14_Frame_0 rfl rfl)) rfl rfl ?_
   refine o_vg (v:=.int .i64 d0.kind) (want_ct (t:=129) rfl rfl) (fun hk=>(r_ld one_int (gdT hk) ((S5.fr (G11.trans (Fr.ext F13)) (fun _ h=>h)).now.cell rfl))) rfl rfl ?_
   refine o_vg (v:=.bool (d0.kind==(3:Int))) (want_ct (t:=129) rfl rfl) (fun hk=>(r_int (gdT hk) rfl rfl)) rfl rfl ?_
   refine o_vg (v:=.bool (d0.kind==(3:Int))) (want_ct (t:=129) rfl rfl) (fun hk=>(r_mov (gdT hk))) rfl rfl ?_
   refine o_vg (v:=.pointer (some ⟨b5,3,none⟩)) (want_gf (t:=133) rfl rfl) (fun hk=>(r_fa fld_ouroborosref14_Frame_3 rfl rfl)) rfl rfl ?_
   refine o_vg (v:=.agg #[.int .i64 (nth d0.sums 0),.int .i64 (nth d0.sums 1),.int .i64 (nth d0.sums 2),.int .i64 (nth d0.sums 3)]) (want_gf (t:=133) rfl rfl) (fun hk=>(r_lda agg_4_int (gdT hk) (vs:=[.int .i64 (nth d0.sums 0),.int .i64 (nth d0.sums 1),.int .i64 (nth d0.sums 2),.int .i64 (nth d0.sums 3)]) rfl ((S5.fr (G11.trans (Fr.ext F13)) (fun _ h=>h)).now.part (n:=4) rfl))) rfl rfl ?_
   refine o_vg (v:=.agg #[.int .i64 (0:Int),.int .i64 (0:Int),.int .i64 (0:Int),.int .i64 (0:Int)]) (want_gf (t:=133) rfl rfl) (fun hk=>(r_build bld_4_int (vs:=[]) (cells:=[.int .i64 (0:Int),.int .i64 (0:Int),.int .i64 (0:Int),.int .i64 (0:Int)]) rfl rfl)) rfl rfl ?_
   refine o_vg (v:=.bool (((nth d0.sums 0)==(0:Int))&&(((nth d0.sums 1)==(0:Int))&&(((nth d0.sums 2)==(0:Int))&&(((nth d0.sums 3)==(0:Int))&&true))))) (want_gf (t:=133) rfl rfl) (fun hk=>(r_eqSt eqg_4_int (eqs_4_int (nth d0.sums 0) (nth d0.sums 1) (nth d0.sums 2) (nth d0.sums 3) (0:Int) (0:Int) (0:Int) (0:Int)) (gdT hk) (gdT hk))) rfl rfl ?_
   refine o_vg (v:=.bool ((d0.kind==(3:Int))||(((nth d0.sums 0)==(0:Int))&&(((nth d0.sums 1)==(0:Int))&&(((nth d0.sums 2)==(0:Int))&&(((nth d0.sums 3)==(0:Int))&&true)))))) (want_ct (t:=129) rfl rfl) (fun hk=>(r_pickOr (gdT hk) rfl (fun hf=>(gdT (andM hk (notT hf)))))) rfl rfl ?_
   refine o_w (v:=.bool ((((d0.kind==(1:Int))||(d0.kind==(2:Int)))||(d0.b==(0:Int)))&&((d0.kind==(3:Int))||(((nth d0.sums 0)==(0:Int))&&(((nth d0.sums 1)==(0:Int))&&(((nth d0.sums 2)==(0:Int))&&(((nth d0.sums 3)==(0:Int))&&true))))))) (r_pickAnd rfl (fun ht=>(gdT ht)) rfl) ?_
   refine o_w (v:=.bool ((((d0.kind==(1:Int))||(d0.kind==(2:Int)))||(d0.b==(0:Int)))&&((d0.kind==(3:Int))||(((nth d0.sums 0)==(0:Int))&&(((nth d0.sums 1)==(0:Int))&&(((nth d0.sums 2)==(0:Int))&&(((nth d0.sums 3)==(0:Int))&&true))))))) (r_mov rfl) ?_
   refine o_vg (v:=.bool ((((d0.kind==(1:Int))||(d0.kind==(4:Int)))||(d0.kind==(5:Int)))||(d0.kind==(6:Int)))) (want_ct (t:=140) rfl rfl) (fun hk=>(r_mov rfl)) rfl rfl ?_
   refine o_vg (v:=.bool ((((d0.kind==(1:Int))||(d0.kind==(4:Int)))||(d0.kind==(5:Int)))||(d0.kind==(6:Int)))) (want_ct (t:=140) rfl rfl) (fun hk=>(r_mov (gdT hk))) rfl rfl ?_
   refine o_vg (v:=.pointer (some ⟨b5,7,none⟩)) (want_gf (t:=142) rfl rfl) (fun hk=>(r_fa fld_ouroborosref14_Frame_4 rfl rfl)) rfl rfl ?_
   refine o_vg (v:=.slice A2 d0.entries.length c3) (want_gf (t:=142) rfl rfl) (fun hk=>(r_ld one_s_api_Entry (gdT hk) ((S5.fr (G11.trans (Fr.ext F13)) (fun _ h=>h)).now.cell rfl))) rfl rfl ?_
   refine o_vg (v:=.int .i64 (d0.entries.length:Int)) (want_gf (t:=142) rfl rfl) (fun hk=>(r_len_slc un_s_api_Entry (gdT hk))) rfl rfl ?_
   refine o_vg (v:=.bool ((d0.entries.length:Int)==(0:Int))) (want_gf (t:=142) rfl rfl) (fun hk=>(r_int (gdT hk) rfl rfl)) rfl rfl ?_
   refine o_vg (v:=.bool (((((d0.kind==(1:Int))||(d0.kind==(4:Int)))||(d0.kind==(5:Int)))||(d0.kind==(6:Int)))||((d0.entries.length:Int)==(0:Int)))) (want_ct (t:=140) rfl rfl) (fun hk=>(r_pickOr (gdT hk) rfl (fun hf=>(gdT (andM hk (notT hf)))))) rfl rfl ?_
   refine o_w (v:=.bool (((((d0.kind==(1:Int))||(d0.kind==(2:Int)))||(d0.b==(0:Int)))&&((d0.kind==(3:Int))||(((nth d0.sums 0)==(0:Int))&&(((nth d0.sums 1)==(0:Int))&&(((nth d0.sums 2)==(0:Int))&&(((nth d0.sums 3)==(0:Int))&&true))))))&&(((((d0.kind==(1:Int))||(d0.kind==(4:Int)))||(d0.kind==(5:Int)))||(d0.kind==(6:Int)))||((d0.entries.length:Int)==(0:Int))))) (r_pickAnd rfl (fun ht=>(gdT ht)) rfl) ?_
   refine o_w (v:=.bool (((((d0.kind==(1:Int))||(d0.kind==(2:Int)))||(d0.b==(0:Int)))&&((d0.kind==(3:Int))||(((nth d0.sums 0)==(0:Int))&&(((nth d0.sums 1)==(0:Int))&&(((nth d0.sums 2)==(0:Int))&&(((nth d0.sums 3)==(0:Int))&&true))))))&&(((((d0.kind==(1:Int))||(d0.kind==(4:Int)))||(d0.kind==(5:Int)))||(d0.kind==(6:Int)))||((d0.entries.length:Int)==(0:Int))))) (r_asg rfl) ?_
   refine eo_nil_sq ?_
   refine ec_ret ?_
   subst h
   exact (end1 rfl ⟨_,rfl,E16,rfl⟩)
def ref14_Same_raw (d0:Frm) (d1:Frm) (y:Bool):Prop :=
 (((((d0.kind==d1.kind)&&(d0.a==d1.a))&&(d0.b==d1.b))&&(((nth d0.sums 0)==(nth d1.sums 0))&&(((nth d0.sums 1)==(nth d1.sums 1))&&(((nth d0.sums 2)==(nth d1.sums 2))&&(((nth d0.sums 3)==(nth d1.sums 3))&&true)))))=true→sml d0.entries)∧(y=(((((d0.kind==d1.kind)&&(d0.a==d1.a))&&(d0.b==d1.b))&&(((nth d0.sums 0)==(nth d1.sums 0))&&(((nth d0.sums 1)==(nth d1.sums 1))&&(((nth d0.sums 2)==(nth d1.sums 2))&&(((nth d0.sums 3)==(nth d1.sums 3))&&true)))))&&(allE d0.entries d1.entries)))
set_option maxRecDepth 20000 in
set_option maxHeartbeats 4000000 in
theorem ref14_Same_c {L:List Nat} {w:World} {csP0:List Value} (d0:Frm) (HP0:Stb L w (fun w=>kFrm.r w csP0 d0)) {csP1:List Value} (d1:Frm) (HP1:Stb L w (fun w=>kFrm.r w csP1 d1)) (hL:Lt L w) {y:Bool} (h:ref14_Same_raw d0 d1 y) :
  Calls Tryz.prog 17 [.agg csP0.toArray,.agg csP1.toArray].toArray w (Ret fun v w'=>Ext w w'∧v=.bool y):=by
 obtain ⟨A2,c3,rfl,H4,hl1⟩:=kFrm_open HP0
 obtain ⟨A6,c7,rfl,H8,hl5⟩:=kFrm_open HP1
 unfold ref14_Same_raw at h
 refine calls_ec Tryz.func17 rfl rfl rfl ?_
 refine ec_seq ?_
 refine ec_region ?_
 refine o_box (cs:=(cFrm d0 A2 c3)) rfl rfl rfl ?_
 intro b9 w9 e9 F9 B9
 have S9:=B9.stb (nin hL e9)
 have G10:Fr L w w9:=Fr.ext F9
 refine o_box (cs:=(cFrm d1 A6 c7)) rfl rfl rfl ?_
 intro b11 w11 e11 F11 B11
 have S11:=B11.stb (nin (hL.fr F9) e11)
 have E12:=F9.trans F11
 have G14:Fr L w9 w11:=Fr.ext F11
 refine o_w (v:=.bool false) (r_asg rfl) ?_
 refine eo_nil_sq ?_
 refine ec_seq ?_
 refine ec_region ?_
 refine o_w (v:=.pointer (some ⟨b9,0,none⟩)) (r_fa fld_ouroborosref14_Frame_0 rfl rfl) ?_
 refine o_w (v:=.int .i64 d0.kind) (r_ld one_int rfl ((S9.fr G14 (fun _ h=>h)).now.cell rfl)) ?_
 refine o_w (v:=.pointer (some ⟨b11,0,none⟩)) (r_fa fld_ouroborosref14_Frame_0 rfl rfl) ?_
 refine o_w (v:=.int .i64 d1.kind) (r_ld one_int rfl (S11.now.cell rfl)) ?_
 refine o_w (v:=.bool (d0.kind==d1.kind)) (r_int rfl rfl rfl) ?_
 refine o_w (v:=.bool (d0.kind==d1.kind)) (r_mov rfl) ?_
 refine o_vg (v:=.pointer (some ⟨b9,1,none⟩)) (want_ct (t:=10) rfl rfl) (fun hk=>(r_fa fld_ouroborosref14_Frame_1 rfl rfl)) rfl rfl ?_
 refine o_vg (v:=.int .i64 d0.a) (want_ct (t:=10) rfl rfl) (fun hk=>(r_ld one_int (gdT hk) ((S9.fr G14 (fun _ h=>h)).now.cell rfl))) rfl rfl ?_
 refine o_vg (v:=.pointer (some ⟨b11,1,none⟩)) (want_ct (t:=10) rfl rfl) (fun hk=>(r_fa fld_ouroborosref14_Frame_1 rfl rfl)) rfl rfl ?_
 refine o_vg (v:=.int .i64 d1.a) (want_ct (t:=10) rfl rfl) (fun hk=>(r_ld one_int (gdT hk) (S11.now.cell rfl))) rfl rfl ?_
 refine o_vg (v:=.bool (d0.a==d1.a)) (want_ct (t:=10) rfl rfl) (fun hk=>(r_int (gdT hk) (gdT hk) rfl)) rfl rfl ?_
 refine o_w (v:=.bool ((d0.kind==d1.kind)&&(d0.a==d1.a))) (r_pickAnd rfl (fun ht=>(gdT ht)) rfl) ?_
 refine o_w (v:=.bool ((d0.kind==d1.kind)&&(d0.a==d1.a))) (r_mov rfl) ?_
 refine o_vg (v:=.pointer (some ⟨b9,2,none⟩)) (want_ct (t:=17) rfl rfl) (fun hk=>(r_fa fld_ouroborosref14_Frame_2 rfl rfl)) rfl rfl ?_
 refine o_vg (v:=.int .i64 d0.b) (want_ct (t:=17) rfl rfl) (fun hk=>(r_ld one_int (gdT hk) ((S9.fr G14 (fun _ h=>h)).now.cell rfl))) rfl rfl ?_
 refine o_vg (v:=.pointer (some ⟨b11,2,none⟩)) (want_ct (t:=17) rfl rfl) (fun hk=>(r_fa fld_ouroborosref14_Frame_2 rfl rfl)) rfl rfl ?_
 refine o_vg (v:=.int .i64 d1.b) (want_ct (t:=17) rfl rfl) (fun hk=>(r_ld one_int (gdT hk) (S11.now.cell rfl))) rfl rfl ?_
 refine o_vg (v:=.bool (d0.b==d1.b)) (want_ct (t:=17) rfl rfl) (fun hk=>(r_int (gdT hk) (gdT hk) rfl)) rfl rfl ?_
 refine o_w (v:=.bool (((d0.kind==d1.kind)&&(d0.a==d1.a))&&(d0.b==d1.b))) (r_pickAnd rfl (fun ht=>(gdT ht)) rfl) ?_
 refine o_w (v:=.bool (((d0.kind==d1.kind)&&(d0.a==d1.a))&&(d0.b==d1.b))) (r_mov rfl) ?_
 refine o_vg (v:=.pointer (some ⟨b9,3,none⟩)) (want_ct (t:=24) rfl rfl) (fun hk=>(r_fa fld_ouroborosref14_Frame_3 rfl rfl)) rfl rfl ?_
 refine o_vg (v:=.agg #[.int .i64 (nth d0.sums 0),.int .i64 (nth d0.sums 1),.int .i64 (nth d0.sums 2),.int .i64 (nth d0.sums 3)]) (want_ct (t:=24) rfl rfl) (fun hk=>(r_lda agg_4_int (gdT hk) (vs:=[.int .i64 (nth d0.sums 0),.int .i64 (nth d0.sums 1),.int .i64 (nth d0.sums 2),.int .i64 (nth d0.sums 3)]) rfl ((S9.fr G14 (fun _ h=>h)).now.part (n:=4) rfl))) rfl rfl ?_
 refine o_vg (v:=.pointer (some ⟨b11,3,none⟩)) (want_ct (t:=24) rfl rfl) (fun hk=>(r_fa fld_ouroborosref14_Frame_3 rfl rfl)) rfl rfl ?_
 refine o_vg (v:=.agg #[.int .i64 (nth d1.sums 0),.int .i64 (nth d1.sums 1),.int .i64 (nth d1.sums 2),.int .i64 (nth d1.sums 3)]) (want_ct (t:=24) rfl rfl) (fun hk=>(r_lda agg_4_int (gdT hk) (vs:=[.int .i64 (nth d1.sums 0),.int .i64 (nth d1.sums 1),.int .i64 (nth d1.sums 2),.int .i64 (nth d1.sums 3)]) rfl (S11.now.part (n:=4) rfl))) rfl rfl ?_
 refine o_vg (v:=.bool (((nth d0.sums 0)==(nth d1.sums 0))&&(((nth d0.sums 1)==(nth d1.sums 1))&&(((nth d0.sums 2)==(nth d1.sums 2))&&(((nth d0.sums 3)==(nth d1.sums 3))&&true))))) (want_ct (t:=24) rfl rfl) (fun hk=>(r_eqSt eqg_4_int (eqs_4_int (nth d0.sums 0) (nth d0.sums 1) (nth d0.sums 2) (nth d0.sums 3) (nth d1.sums 0) (nth d1.sums 1) (nth d1.sums 2) (nth d1.sums 3)) (gdT hk) (gdT hk))) rfl rfl ?_
 refine o_w (v:=.bool ((((d0.kind==d1.kind)&&(d0.a==d1.a))&&(d0.b==d1.b))&&(((nth d0.sums 0)==(nth d1.sums 0))&&(((nth d0.sums 1)==(nth d1.sums 1))&&(((nth d0.sums 2)==(nth d1.sums 2))&&(((nth d0.sums 3)==(nth d1.sums 3))&&true)))))) (r_pickAnd rfl (fun ht=>(gdT ht)) rfl) ?_
 refine o_w (v:=.bool ((((d0.kind==d1.kind)&&(d0.a==d1.a))&&(d0.b==d1.b))&&(((nth d0.sums 0)==(nth d1.sums 0))&&(((nth d0.sums 1)==(nth d1.sums 1))&&(((nth d0.sums 2)==(nth d1.sums 2))&&(((nth d0.sums 3)==(nth d1.sums 3))&&true)))))) (r_mov rfl) ?_
 refine o_vg (v:=.pointer (some ⟨b9,7,none⟩)) (want_ct (t:=31) rfl rfl) (fun hk=>(r_fa fld_ouroborosref14_Frame_4 rfl rfl)) rfl rfl ?_
 refine o_vg (v:=.slice A2 d0.entries.length c3) (want_ct (t:=31) rfl rfl) (fun hk=>(r_ld one_s_api_Entry (gdT hk) ((S9.fr G14 (fun _ h=>h)).now.cell rfl))) rfl rfl ?_
 refine o_vg (v:=.pointer (some ⟨b11,7,none⟩)) (want_ct (t:=31) rfl rfl) (fun hk=>(r_fa fld_ouroborosref14_Frame_4 rfl rfl)) rfl rfl ?_
 refine o_vg (v:=.slice A6 d1.entries.length c7) (want_ct (t:=31) rfl rfl) (fun hk=>(r_ld one_s_api_Entry (gdT hk) (S11.now.cell rfl))) rfl rfl ?_
 obtain ⟨ha17,h⟩:=h
 refine o_callg (V:=.bool (allE d0.entries d1.entries)) cf_ref07_All (want_ct (t:=31) rfl rfl) (fun hk=>(mapv2 (gdT hk) (gdT hk))) (fun hk=>(ref07_All_c d0.entries (H4.fr (G10.trans (Fr.ext F11)) (fun _ h=>h)) d1.entries (H8.fr (G10.trans (Fr.ext F11)) (fun _ h=>h)) (hL.fr E12) (refAll_ev d0.entries d1.entries (ha17 hk)))) rfl ?_
 intro w16 F16
 have E18:=E12.trans F16
 refine o_w (v:=.bool (((((d0.kind==d1.kind)&&(d0.a==d1.a))&&(d0.b==d1.b))&&(((nth d0.sums 0)==(nth d1.sums 0))&&(((nth d0.sums 1)==(nth d1.sums 1))&&(((nth d0.sums 2)==(nth d1.sums 2))&&(((nth d0.sums 3)==(nth d1.sums 3))&&true)))))&&(allE d0.entries d1.entries))) (r_pickAnd rfl (fun ht=>(gdT ht)) rfl) ?_
 refine o_w (v:=.bool (((((d0.kind==d1.kind)&&(d0.a==d1.a))&&(d0.b==d1.b))&&(((nth d0.sums 0)==(nth d1.sums 0))&&(((nth d0.sums 1)==(nth d1.sums 1))&&(((nth d0.sums 2)==(nth d1.sums 2))&&(((nth d0.sums 3)==(nth d1.sums 3))&&true)))))&&(allE d0.entries d1.entries))) (r_asg rfl) ?_
 refine eo_nil_sq ?_
 refine ec_ret ?_
 subst h
 exact (end1 rfl ⟨_,rfl,E18,rfl⟩)
def law14_Of_raw (d0:Frm) (y:Frm):Prop :=
 y=d0
set_option maxRecDepth 20000 in
set_option maxHeartbeats 4000000 in
theorem law14_Of_c {L:List Nat} {w:World} {csP0:List Value} (d0:Frm) (HP0:Stb L w (fun w=>kFrm.r w csP0 d0)) (hL:Lt L w) {y:Frm} (h:law14_Of_raw d0 y) :
  Calls Tryz.prog 13 [.agg csP0.toArray].toArray w (Ret fun v w'=>Ext w w'∧∃ (cs90:List Value),v=.agg cs90.toArray∧Stb L w' (fun w=>kFrm.r w cs90 y)):=by
 obtain ⟨A2,c3,rfl,H4,hl1⟩:=kFrm_open HP0
 unfold law14_Of_raw at h
 refine calls_ec Tryz.func13 rfl rfl rfl ?_
 refine ec_seq ?_
 refine ec_region ?_
 refine o_box (cs:=(cFrm d0 A2 c3)) rfl rfl rfl ?_
 intro b5 w5 e5 F5 B5
 have S5:=B5.stb (nin hL e5)
 have G6:Fr L w w5:=Fr.ext F5
 refine o_alloc zero_ouroborosref14_Frame rfl rfl rfl ?_
 intro b7 w7 e7 F7 B7
 have n7:w.heap.size≤b7:=by rw [e7]; exact F5.size
 have m8:w.heap.size≤b7:=by rw [e7]; exact G6.size
 have E10:=F5.trans F7
 have G12:Fr L w5 w7:=Fr.ext F7
 refine eo_nil_sq ?_
 refine ec_seq ?_
 refine ec_region ?_
 refine o_w (v:=.pointer (some ⟨b5,0,none⟩)) (r_fa fld_frame_Frame_0 rfl rfl) ?_
 refine o_w (v:=.int .i64 d0.kind) (r_ld one_int rfl ((S5.fr G12 (fun _ h=>h)).now.cell rfl)) ?_
 refine o_w (v:=.pointer (some ⟨b5,1,none⟩)) (r_fa fld_frame_Frame_1 rfl rfl) ?_
 refine o_w (v:=.int .i64 d0.a) (r_ld one_int rfl ((S5.fr G12 (fun _ h=>h)).now.cell rfl)) ?_
 refine o_w (v:=.pointer (some ⟨b5,2,none⟩)) (r_fa fld_frame_Frame_2 rfl rfl) ?_
 refine o_w (v:=.int .i64 d0.b) (r_ld one_int rfl ((S5.fr G12 (fun _ h=>h)).now.cell rfl)) ?_
 refine o_w (v:=.pointer (some ⟨b5,3,none⟩)) (r_fa fld_frame_Frame_3 rfl rfl) ?_
 refine o_w (v:=.agg #[.int .i64 (nth d0.sums 0),.int .i64 (nth d0.sums 1),.int .i64 (nth d0.sums 2),.int .i64 (nth d0.sums 3)]) (r_lda agg_4_int rfl (vs:=[.int .i64 (nth d0.sums 0),.int .i64 (nth d0.sums 1),.int .i64 (nth d0.sums 2),.int .i64 (nth d0.sums 3)]) rfl ((S5.fr G12 (fun _ h=>h)).now.part (n:=4) rfl)) ?_
 refine o_w (v:=.pointer (some ⟨b5,7,none⟩)) (r_fa fld_frame_Frame_4 rfl rfl) ?_
 refine o_w (v:=.slice A2 d0.entries.length c3) (r_ld one_s_api_Entry rfl ((S5.fr G12 (fun _ h=>h)).now.cell rfl)) ?_
 refine o_w (v:=.agg (cFrm d0 A2 c3).toArray) (r_build bld_ouroborosref14_Frame (vs:=[(0,.int .i64 d0.kind),(1,.int .i64 d0.a),(2,.int .i64 d0.b),(3,.agg #[.int .i64 (nth d0.sums 0),.int .i64 (nth d0.sums 1),.int .i64 (nth d0.sums 2),.int .i64 (nth d0.sums 3)]),(4,.slice A2 d0.entries.length c3)]) (cells:=[.int .i64 d0.kind,.int .i64 d0.a,.int .i64 d0.b,.int .i64 (nth d0.sums 0),.int .i64 (nth d0.sums 1),.int .i64 (nth d0.sums 2),.int .i64 (nth d0.sums 3),.slice A2 d0.entries.length c3]) rfl rfl) ?_
 refine o_store rfl B7 (vs:=(cFrm d0 A2 c3)) rfl sz_ouroborosref14_Frame rfl rfl rfl ?_
 intro w13 F13 B13
 have E14:=Ext.st E10 F13 (by simp; omega)
 have G15:Fr L w w13:=(G6.trans (Fr.ext F7)).stp F13 (upc (.inr m8) (fun m hm=>by cases hm))
 have B13':Blk w13 b7 _ (cFrm d0 A2 c3):=B13
 refine eo_nil_sq ?_
 refine ec_ret ?_
 replace h:=h.symm
 subst h
 exact (endr1 (rv_a rfl (agg_ouroborosref14_Frame) B13' (vs:=(cFrm d0 A2 c3)) rfl rfl) ⟨_,rfl,E14,_,rfl,(kFrm_mk (d:=d0) (H4.fr G15 (fun _ h=>h)) hl1)⟩)
end Go.Proofs.YthfkbabgkacfnaaGreat

/- The reference: is it a frame? -/
namespace Go.Proofs.YthfkbabgkacfnaaGreat
open Go Go.RowKit
set_option linter.unusedVariables false
set_option linter.unusedSimpArgs false

def okFr (f:Frm):Bool:=checkF f==0
def ofF (f:Frm):Frm:=f
theorem okFr_odd (f:Frm):okFr f=!oddF f:=by unfold okFr checkF; cases oddF f <;> rfl
theorem ofF_ev (f:Frm):law14_Of_raw f (ofF f):=rfl
theorem refSameF_ev (a b:Frm) (h:sml a.entries):ref14_Same_raw a b (sameF a b):=⟨fun _=>h,rfl⟩
def badA (f:Frm):Bool:=(((((((decide (f.kind<(1:Int)))||(decide ((7:Int)<f.kind)))||(decide (f.a<(0:Int))))||(decide ((2147483647:Int)<f.a)))||(decide (f.b<(0:Int))))||(decide ((2147483647:Int)<f.b)))||((putD f.sums).2 != (0:Int)))
def badB (f:Frm):Bool:=(((f.kind==(4:Int))&&((decide (f.a<(1:Int)))||(decide ((15:Int)<f.a))))||(((f.kind != (4:Int))&&(!((((f.kind==(1:Int))||(f.kind==(2:Int)))||(f.kind==(6:Int)))||(f.kind==(7:Int)))))&&(f.a != (0:Int))))
def goodC (f:Frm):Bool:=(((((f.kind==(1:Int))||(f.kind==(2:Int)))||(f.b==(0:Int)))&&((f.kind==(3:Int))||noSums f.sums))&&(((((f.kind==(1:Int))||(f.kind==(4:Int)))||(f.kind==(5:Int)))||(f.kind==(6:Int)))||((f.entries.length:Int)==(0:Int))))
theorem okFr_eq (f:Frm):okFr f=((!(badA f||!entsF f.entries))&&((!badB f)&&goodC f)):=by
 obtain ⟨k,a,b,s,l⟩:=f
 rw [okFr_odd]
 unfold oddF headF badA badB goodC entsF oddE
 simp only []
 generalize hP:(putD s).2=P
 generalize noSums s=S
 generalize l.all okE=O
 generalize hL:(l.length:Int)=n
 by_cases hk:1≤k∧k≤7
 ·have h7:k=1∨k=2∨k=3∨k=4∨k=5∨k=6∨k=7:=by omega
  rcases h7 with rfl | rfl | rfl | rfl | rfl | rfl | rfl <;>
  ·simp only [show hasM formsL 1=true from rfl,show hasM formsL 2=true from rfl,show hasM formsL 3=true from rfl,show hasM formsL 4=true from rfl,show hasM formsL 5=true from rfl,show hasM formsL 6=true from rfl,show hasM formsL 7=true from rfl,
    show formF 1=⟨0,2147483647,2147483647,false,true⟩ from rfl,show formF 2=⟨0,2147483647,2147483647,false,false⟩ from rfl,show formF 3=⟨0,0,0,true,false⟩ from rfl,show formF 4=⟨1,15,0,false,true⟩ from rfl,show formF 5=⟨0,0,0,false,true⟩ from rfl,show formF 6=⟨0,2147483647,0,false,true⟩ from rfl,show formF 7=⟨0,2147483647,0,false,false⟩ from rfl]
   rw [Bool.eq_iff_iff]
   cases S <;> cases O <;> simp <;> omega
 ·have hb:(decide (k<1)||decide (7<k))=true:=by simp; omega
  have hh:hasM formsL k=false:=by
   unfold formsL
   simp only [hasM,Bool.or_eq_false_iff,beq_eq_false_iff_ne,and_true]
   omega
  rw [hh,hb]; simp
theorem refCheckF_ev (f:Frm) (h:sml f.entries) (hl:f.entries.length≤1000000) (hm:maxS f.sums):ref14_Check_raw f (okFr f):=by
 refine ⟨hm,_,rfl,fun _=>h,fun _=>hl,fun hc=>?_,fun hc=>⟨fun hd=>?_,fun hd=>?_⟩⟩
 ·have h1:(badA f||!entsF f.entries)=true:=hc
  rw [okFr_eq,h1]; rfl
 ·have h1:(badA f||!entsF f.entries)=false:=hc
  have h2:badB f=true:=hd
  rw [okFr_eq,h1,h2]; rfl
 ·have h1:(badA f||!entsF f.entries)=false:=hc
  have h2:badB f=false:=hd
  rw [okFr_eq,h1,h2]; rfl
end Go.Proofs.YthfkbabgkacfnaaGreat

/- References: push. -/
namespace Go.Proofs.YthfkbabgkacfnaaGreat
open Go Go.RowKit
set_option linter.unusedVariables false
set_option linter.unusedSimpArgs false
def ref17_Send_raw (d0:Buf) (d1:Arena) (d2:Int) (d3:Int) (y:Frm × Bool):Prop :=
 (smB d0)∧((sma d1)∧(∃ x24,x24=(mendB d0 d1 d2)∧((((((x24.names.length:Int)==(0:Int))||(decide (d3<(1:Int))))||(decide ((8:Int)<d3)))=true→(y=((⟨(0:Int),(0:Int),(0:Int),[(0:Int),(0:Int),(0:Int),(0:Int)],([]:List Ent)⟩:Frm),false)))∧(((((x24.names.length:Int)==(0:Int))||(decide (d3<(1:Int))))||(decide ((8:Int)<d3)))=false→(smB x24∧(sma d1∧(∃ x65,x65=(someB x24 d1 d2 d3)∧(y=((⟨(1:Int),x24.epoch,x24.first,[(0:Int),(0:Int),(0:Int),(0:Int)],x65⟩:Frm),true)))))))))
set_option maxRecDepth 20000 in
set_option maxHeartbeats 4000000 in
theorem ref17_Send_c {L:List Nat} {w:World} {csP0:List Value} (d0:Buf) (HP0:Stb L w (fun w=>kBuf.r w csP0 d0)) {csP1:List Value} (d1:Arena) (HP1:Stb L w (fun w=>kArena.r w csP1 d1)) (d2:Int) (d3:Int) (hL:Lt L w) {y:Frm × Bool} (h:ref17_Send_raw d0 d1 d2 d3 y) :
  Calls Tryz.prog 9 [.agg csP0.toArray,.agg csP1.toArray,.int .i64 d2,.int .i64 d3].toArray w (Ret fun v w'=>Ext w w'∧∃ (cs90:List Value),v=.tuple #[.agg cs90.toArray,.bool y.2]∧Stb L w' (fun w=>kFrm.r w cs90 y.1)):=by
 obtain ⟨A1,c2,rfl,H3⟩:=kBuf_open HP0
 obtain ⟨A4,c5,A7,c8,rfl,H6,H9⟩:=kArena_open HP1
 unfold ref17_Send_raw at h
 refine calls_ec Tryz.func9 rfl rfl rfl ?_
 refine ec_seq ?_
 refine ec_region ?_
 refine o_box (cs:=(cBuf d0 A1 c2)) rfl rfl rfl ?_
 intro b10 w10 e10 F10 B10
 have S10:=B10.stb (nin hL e10)
 have G11:Fr L w w10:=Fr.ext F10
 refine o_box (cs:=(cArena d1 A4 c5 A7 c8)) rfl rfl rfl ?_
 intro b12 w12 e12 F12 B12
 have S12:=B12.stb (nin (hL.fr F10) e12)
 have E13:=F10.trans F12
 have G15:Fr L w10 w12:=Fr.ext F12
 refine o_alloc zero_ouroborosref14_Frame rfl rfl rfl ?_
 intro b16 w16 e16 F16 B16
 have n16:w.heap.size≤b16:=by rw [e16]; exact E13.size
 have m17:w.heap.size≤b16:=by rw [e16]; exact (G11.trans (Fr.ext F12)).size
 have E20:=E13.trans F16
 have G23:Fr L w12 w16:=Fr.ext F16
 refine o_w (v:=.bool false) (r_asg rfl) ?_
 refine eo_nil_sq ?_
 refine ec_seq ?_
 refine ec_region ?_
 refine o_w (v:=.agg (cBuf d0 A1 c2).toArray) (r_lda agg_ouroborosref16_Buffer rfl (vs:=(cBuf d0 A1 c2)) rfl ((S10.fr (G15.trans (Fr.ext F16)) (fun _ h=>h)).now.part (n:=3) rfl)) ?_
 refine o_w (v:=.agg (cArena d1 A4 c5 A7 c8).toArray) (r_lda agg_api_Arena rfl (vs:=(cArena d1 A4 c5 A7 c8)) rfl ((S12.fr G23 (fun _ h=>h)).now.part (n:=3) rfl)) ?_
 refine o_w (v:=.int .i64 d2) (r_mov rfl) ?_
 obtain ⟨ha25,h⟩:=h
 obtain ⟨ha26,h⟩:=h
 obtain ⟨x24,hx24,h⟩:=h
 refine o_call cf_ref16_Mend rfl (ref16_Mend_c d0 (kBuf_mk (d:=d0) (H3.up ((G11.trans (Fr.ext F12)).trans (Fr.ext F16)) (fun _ h=>h) (upc (.inr m17) (fun _ h=>.inl h)))) d1 (kArena_mk (d:=d1) (H6.up ((G11.trans (Fr.ext F12)).trans (Fr.ext F16)) (fun _ h=>h) (upc (.inr m17) (fun _ h=>.inl h))) (H9.up ((G11.trans (Fr.ext F12)).trans (Fr.ext F16)) (fun _ h=>h) (upc (.inr m17) (fun _ h=>.inl h)))) d2 ((hL.fr E20).cons B16.lt) (eq_ev hx24 (refMend_ev d0 d1 d2 ha25 ha26))) rfl rfl ?_
 rintro _ w24 ⟨F24,cs27,rfl,H28⟩
 have E29:=E20.trans F24
 obtain ⟨A34,c35,rfl,H36⟩:=kBuf_open H28
 refine o_alloc zero_ouroborosref16_Buffer rfl rfl rfl ?_
 intro b37 w37 e37 F37 B37
 have n37:w.heap.size≤b37:=by rw [e37]; exact E29.size
 have q38:b16<b37:=by rw [e37]; exact (B16.ex F24).lt
 have m39:w.heap.size≤b37:=by rw [e37]; exact (((G11.trans (Fr.ext F12)).trans (Fr.ext F16)).trans (Fr.ext F24)).size
 have m41:w12.heap.size≤b37:=by rw [e37]; exact (G23.trans (Fr.ext F24)).size
 have m42:w24.heap.size≤b37:=Nat.le_of_eq e37.symm
 have E43:=E29.trans F37
 have G44:=(((G11.trans (Fr.ext F12)).trans (Fr.ext F16)).trans (Fr.ext F24)).trans (Fr.ext F37)
 have G47:Fr (b16::L) w24 w37:=Fr.ext F37
 refine o_store rfl B37 (vs:=(cBuf x24 A34 c35)) rfl sz_ouroborosref16_Buffer rfl rfl rfl ?_
 intro w49 F49 B49
 have E50:=Ext.st E43 F49 (by simp; omega)
 have G51:Fr L w w49:=G44.stp F49 (upc (.inr m39) (fun m hm=>by cases hm))
 have G53:Fr L w12 w49:=((G23.trans (Fr.ext F24)).trans (Fr.ext F37)).stp F49 (upc (.inr m41) (fun m hm=>by cases hm))
 have G54:Fr (b16::L) w24 w49:=G47.stp F49 (upc (.inr m42) (fun m hm=>by cases hm))
 have B55:=((B16.ex F24).ex F37).fr F49 (by simp; omega)
 have B49':Blk w49 b37 _ (cBuf x24 A34 c35):=B49
 refine eo_nil_sq ?_
 iterate 2 refine ec_seq ?_
 refine ec_region ?_
 refine o_w (v:=.pointer (some ⟨b37,2,none⟩)) (r_fa fld_ouroborosref16_Buffer_2 rfl rfl) ?_
 refine o_w (v:=.slice A34 x24.names.length c35) (r_ld one_s_ouroborosref16_Name rfl (B49'.cell rfl)) ?_
 refine o_w (v:=.int .i64 (x24.names.length:Int)) (r_len_slc un_s_ouroborosref16_Name rfl) ?_
 refine o_w (v:=.bool ((x24.names.length:Int)==(0:Int))) (r_int rfl rfl rfl) ?_
 refine o_w (v:=.bool ((x24.names.length:Int)==(0:Int))) (r_mov rfl) ?_
 refine o_vg (v:=.int .i64 d3) (want_cf (t:=19) rfl rfl) (fun hk=>(r_mov rfl)) rfl rfl ?_
 refine o_vg (v:=.bool (decide (d3<(1:Int)))) (want_cf (t:=19) rfl rfl) (fun hk=>(r_int (gdT hk) rfl rfl)) rfl rfl ?_
 refine o_w (v:=.bool (((x24.names.length:Int)==(0:Int))||(decide (d3<(1:Int))))) (r_pickOr rfl rfl (fun hf=>(gdT (notT hf)))) ?_
 refine o_w (v:=.bool (((x24.names.length:Int)==(0:Int))||(decide (d3<(1:Int))))) (r_mov rfl) ?_
 refine o_vg (v:=.int .i64 d3) (want_cf (t:=23) rfl rfl) (fun hk=>(r_mov rfl)) rfl rfl ?_
 refine o_vg (v:=.bool (decide ((8:Int)<d3))) (want_cf (t:=23) rfl rfl) (fun hk=>(r_int (gdT hk) rfl rfl)) rfl rfl ?_
 refine o_w (v:=.bool ((((x24.names.length:Int)==(0:Int))||(decide (d3<(1:Int))))||(decide ((8:Int)<d3)))) (r_pickOr rfl rfl (fun hf=>(gdT (notT hf)))) ?_
 refine eo_nil_sq ?_
 refine ec_cond rfl (fun hc56=>?_) (fun hc56=>?_)
 ·replace h:=h.1 hc56
  refine ec_seq ?_
  refine ec_region ?_
  refine o_w (v:=.agg #[.int .i64 (0:Int),.int .i64 (0:Int),.int .i64 (0:Int),.int .i64 (0:Int),.int .i64 (0:Int),.int .i64 (0:Int),.int .i64 (0:Int),.slice none ([]:List Ent).length 0]) (r_build bld_ouroborosref14_Frame (vs:=[]) (cells:=[.int .i64 (0:Int),.int .i64 (0:Int),.int .i64 (0:Int),.int .i64 (0:Int),.int .i64 (0:Int),.int .i64 (0:Int),.int .i64 (0:Int),.slice none ([]:List Ent).length 0]) rfl rfl) ?_
  refine o_store rfl B55 (vs:=[.int .i64 (0:Int),.int .i64 (0:Int),.int .i64 (0:Int),.int .i64 (0:Int),.int .i64 (0:Int),.int .i64 (0:Int),.int .i64 (0:Int),.slice none ([]:List Ent).length 0]) rfl sz_ouroborosref14_Frame rfl rfl rfl ?_
  intro w57 F57 B57
  have E58:=Ext.st E50 F57 (by simp; omega)
  have B57':Blk w57 b16 _ [.int .i64 (0:Int),.int .i64 (0:Int),.int .i64 (0:Int),.int .i64 (0:Int),.int .i64 (0:Int),.int .i64 (0:Int),.int .i64 (0:Int),.slice none ([]:List Ent).length 0]:=B57
  refine o_w (v:=.bool false) (r_asg rfl) ?_
  refine eo_nil_sq ?_
  refine ec_ret ?_
  refine sq_ret ?_
  subst h
  exact (endr2 (rv_a rfl (agg_ouroborosref14_Frame) B57' (vs:=[.int .i64 (0:Int),.int .i64 (0:Int),.int .i64 (0:Int),.int .i64 (0:Int),.int .i64 (0:Int),.int .i64 (0:Int),.int .i64 (0:Int),.slice none ([]:List Ent).length 0]) rfl rfl) (rv_t rfl) ⟨_,rfl,E58,_,rfl,(kFrm_mk (d:=(⟨(0:Int),(0:Int),(0:Int),[(0:Int),(0:Int),(0:Int),(0:Int)],([]:List Ent)⟩:Frm)) stb_nil rfl)⟩)
 ·replace h:=h.2 hc56
  refine ec_skip ?_
  refine sq_n ?_
  refine ec_seq ?_
  obtain ⟨ha66,h⟩:=h
  obtain ⟨ha67,h⟩:=h
  obtain ⟨x65,hx65,h⟩:=h
  have qb64_b16:b16<w49.heap.size:=B55.lt
  refine ec_anyN (by kernel_rfl) [[],[0],[],[2],[],[],[],[],[4,5,6,7],[0,1,2,3,4,5,6,7,8],[0,1,2,3,4,5,6,7,8,9],[0,1,2,3,4,5,6,7,8,9,10]] [9,28,29,30,31,32,33,34,35,36,37] (b16::[]) [10] [[b16]] [[10,11]] [fun w'=>Blk w' b16 38 [.int .i64 (0:Int),.int .i64 (0:Int),.int .i64 (0:Int),.int .i64 (0:Int),.int .i64 (0:Int),.int .i64 (0:Int),.int .i64 (0:Int),.slice none ([]:List Ent).length 0],fun w'=>∃ A68 c69,Stb (b37::(b16::L)) w' (fun w=>SlC kEnt w A68 c69 x65)∧Blk w' b16 38 [.int .i64 (1:Int),.int .i64 x24.epoch,.int .i64 x24.first,.int .i64 (0:Int),.int .i64 (0:Int),.int .i64 (0:Int),.int .i64 (0:Int),.slice A68 x65.length c69]] [fun v _=>v=(.pointer (some ⟨b37,0,none⟩):Value),fun v _=>v=(.int .i64 x24.epoch:Value),fun v _=>v=(.pointer (some ⟨b37,1,none⟩):Value),fun v _=>v=(.int .i64 x24.first:Value),fun v _=>v=(.agg (cBuf x24 A34 c35).toArray:Value),fun v _=>v=(.agg (cArena d1 A4 c5 A7 c8).toArray:Value),fun v _=>v=(.int .i64 d2:Value),fun v _=>v=(.int .i64 d3:Value),fun v w'=>∃ A68 c69,v=(.slice A68 x65.length c69:Value)∧Stb (b37::(b16::L)) w' (fun w=>SlC kEnt w A68 c69 x65),fun v w'=>∃ A68 c69,v=(.agg #[.int .i64 (1:Int),.int .i64 x24.epoch,.int .i64 x24.first,.int .i64 (0:Int),.int .i64 (0:Int),.int .i64 (0:Int),.int .i64 (0:Int),.slice A68 x65.length c69]:Value)∧Stb (b37::(b16::L)) w' (fun w=>SlC kEnt w A68 c69 x65),fun _ _=>True,fun v _=>v=(.bool true:Value)] (by kernel_rfl) (allM1 (fun m hm=>by first | exact hm | (simp at hm ⊢; simp [hm]; done) | simp_all) (fun _ h=>by cases h)) ⟨fun _ _ _ _ _ h=>h,fun _ _ _ _ _ h=>h,fun _ _ _ _ _ h=>h,fun _ _ _ _ _ h=>h,fun _ _ _ _ _ h=>h,fun _ _ _ _ _ h=>h,fun _ _ _ _ _ h=>h,fun _ _ _ _ _ h=>h,fun _ v w' w'' F h=>by obtain ⟨A68,c69,hv,H70⟩:=h; exact ⟨A68,c69,hv,(H70.ex F)⟩,fun _ v w' w'' F h=>by obtain ⟨A68,c69,hv,H70⟩:=h; exact ⟨A68,c69,hv,(H70.ex F)⟩,fun _ _ _ _ _ h=>h,fun _ _ _ _ _ h=>h,trivial⟩ ⟨⟨fun _ _ _ _ _ h=>h,fun _ _ _ _ _ h=>h,fun _ _ _ _ _ h=>h,fun _ _ _ _ _ h=>h,fun _ _ _ _ _ h=>h,fun _ _ _ _ _ h=>h,fun _ _ _ _ _ h=>h,fun _ _ _ _ _ h=>h,fun _ v w' w'' F h=>by obtain ⟨A68,c69,hv,H70⟩:=h; exact ⟨A68,c69,hv,(H70.fr F (by simp))⟩,fun _ v w' w'' F h=>by obtain ⟨A68,c69,hv,H70⟩:=h; exact ⟨A68,c69,hv,(H70.fr F (by simp))⟩,(fun h=>absurd h (by decide)),(fun h=>absurd h (by decide)),trivial⟩,trivial⟩ ⟨fun w' w'' F h=>by have hB64_b16:=h; exact (hB64_b16.ex F),fun w' w'' F h=>by obtain ⟨A68,c69,H70,hB64_b16⟩:=h; exact ⟨A68,c69,(H70.ex F),(hB64_b16.ex F)⟩,trivial⟩ B55 ?_ ?_ ?_
  ·refine ⟨?_,?_,?_,?_,?_,?_,?_,?_,?_,?_,?_,?_,trivial⟩
   ·intro _ ρ w64o F64o hX hS hρ
    have F64o:=hX 10 rfl rfl
    have q10:ρ 10=.pointer (some ⟨b37,0,none⟩):=hρ 10 (by kernel_rfl)
    exact o_q (r_fa fld_ouroborosref16_Buffer_0 rfl q10) ⟨Fr.refl _ _,rfl⟩
   ·intro _ ρ w64o F64o hX hS hρ
    have F64o:=hX 10 rfl rfl
    have q28:ρ 28=.pointer (some ⟨b37,0,none⟩):=hS 0 (by decide) 28 rfl
    exact o_q (r_ld one_int q28 ((B49'.ex F64o).cell rfl)) ⟨Fr.refl _ _,rfl⟩
   ·intro _ ρ w64o F64o hX hS hρ
    have F64o:=hX 10 rfl rfl
    have q10:ρ 10=.pointer (some ⟨b37,0,none⟩):=hρ 10 (by kernel_rfl)
    exact o_q (r_fa fld_ouroborosref16_Buffer_1 rfl q10) ⟨Fr.refl _ _,rfl⟩
   ·intro _ ρ w64o F64o hX hS hρ
    have F64o:=hX 10 rfl rfl
    have q30:ρ 30=.pointer (some ⟨b37,1,none⟩):=hS 2 (by decide) 30 rfl
    exact o_q (r_ld one_int q30 ((B49'.ex F64o).cell rfl)) ⟨Fr.refl _ _,rfl⟩
   ·intro _ ρ w64o F64o hX hS hρ
    have F64o:=hX 10 rfl rfl
    have q10:ρ 10=.pointer (some ⟨b37,0,none⟩):=hρ 10 (by kernel_rfl)
    exact o_q (r_lda agg_ouroborosref16_Buffer q10 (vs:=(cBuf x24 A34 c35)) rfl ((B49'.ex F64o).part (n:=3) rfl)) ⟨Fr.refl _ _,rfl⟩
   ·intro _ ρ w64o F64o hX hS hρ
    have F64o:=hX 10 rfl rfl
    have q5:ρ 5=.pointer (some ⟨b12,0,none⟩):=hρ 5 (by kernel_rfl)
    exact o_q (r_lda agg_api_Arena q5 (vs:=(cArena d1 A4 c5 A7 c8)) rfl ((S12.fr (G53.trans (Fr.ext F64o)) (fun _ h=>h)).now.part (n:=3) rfl)) ⟨Fr.refl _ _,rfl⟩
   ·intro _ ρ w64o F64o hX hS hρ
    have F64o:=hX 10 rfl rfl
    have q2:ρ 2=.int .i64 d2:=hρ 2 (by kernel_rfl)
    exact o_q (r_mov q2) ⟨Fr.refl _ _,rfl⟩
   ·intro _ ρ w64o F64o hX hS hρ
    have F64o:=hX 10 rfl rfl
    have q3:ρ 3=.int .i64 d3:=hρ 3 (by kernel_rfl)
    exact o_q (r_mov q3) ⟨Fr.refl _ _,rfl⟩
   ·intro _ ρ w64o F64o hX hS hρ
    have F64o:=hX 10 rfl rfl
    have E99:=E50.trans F64o
    have q32:ρ 32=.agg (cBuf x24 A34 c35).toArray:=hS 4 (by decide) 32 rfl
    have q33:ρ 33=.agg (cArena d1 A4 c5 A7 c8).toArray:=hS 5 (by decide) 33 rfl
    have q34:ρ 34=.int .i64 d2:=hS 6 (by decide) 34 rfl
    have q35:ρ 35=.int .i64 d3:=hS 7 (by decide) 35 rfl
    refine o_call cf_ref16_Some (by simp only [List.map,ev,q32,q33,q34,q35] <;> rfl) (ref16_Some_c x24 (kBuf_mk (d:=x24) (H36.up (G54.trans (Fr.ext F64o)) (fun _ h=>h) (upc (.inr m42) (upc (.inl (List.Mem.head _)) (fun m hm=>Or.inl (List.Mem.tail _ hm)))))) d1 (kArena_mk (d:=d1) (H6.up (G51.trans (Fr.ext F64o)) (fun _ h=>h) (upc (.inr m39) (upc (.inr m17) (fun _ h=>.inl h)))) (H9.up (G51.trans (Fr.ext F64o)) (fun _ h=>h) (upc (.inr m39) (upc (.inr m17) (fun _ h=>.inl h))))) d2 d3 (((hL.fr E99).cons (B55.ex F64o).lt).cons (B49'.ex F64o).lt) (eq_ev hx65 (refSome_ev x24 d1 d2 d3 ha66 ha67))) rfl rfl ?_
    rintro _ w' ⟨F,A68,c69,rfl,H70⟩
    exact eo_nil ⟨rfl,rfl,_,rfl,F,⟨A68,c69,rfl,H70⟩⟩
   ·intro _ ρ w64o F64o hX hS hρ
    have F64o:=hX 10 rfl rfl
    have q29:ρ 29=.int .i64 x24.epoch:=hS 1 (by decide) 29 rfl
    have q31:ρ 31=.int .i64 x24.first:=hS 3 (by decide) 31 rfl
    obtain ⟨A68,c69,q36,H70⟩:=hS 8 (by decide) 36 rfl
    exact o_q (r_build bld_ouroborosref14_Frame (vs:=[(0,.int .i64 (1:Int)),(1,.int .i64 x24.epoch),(2,.int .i64 x24.first),(4,.slice A68 x65.length c69)]) (cells:=[.int .i64 (1:Int),.int .i64 x24.epoch,.int .i64 x24.first,.int .i64 (0:Int),.int .i64 (0:Int),.int .i64 (0:Int),.int .i64 (0:Int),.slice A68 x65.length c69]) (by simp only [List.map,ev,q29,q31,q36]) rfl) ⟨Fr.refl _ _,⟨A68,c69,rfl,H70⟩⟩
   ·intro hT; exact absurd hT (by decide)
   ·intro _ ρ w64o F64o hX hS hρ
    exact o_q (r_asg rfl) ⟨Fr.refl _ _,rfl⟩
  ·refine ⟨⟨_,rfl,?_⟩,trivial⟩
   ·intro ρ w64o F64o hX hI hS hρ
    have hB64_b16:=hI
    have q8:ρ 8=.pointer (some ⟨b16,0,none⟩):=hρ 8 (by kernel_rfl)
    obtain ⟨A68,c69,q37,H70⟩:=hS 9 (by decide) 37 rfl
    refine o_store (show ev ρ _=_ from q8) hB64_b16 (vs:=[.int .i64 (1:Int),.int .i64 x24.epoch,.int .i64 x24.first,.int .i64 (0:Int),.int .i64 (0:Int),.int .i64 (0:Int),.int .i64 (0:Int),.slice A68 x65.length c69]) (congrArg Value.cells q37) sz_ouroborosref14_Frame rfl rfl rfl ?_
    intro w' F B2
    exact eo_nil ⟨rfl,rfl,undef,rfl,F,⟨A68,c69,(H70.fr F (by simp)),B2⟩,trivial⟩
  ·intro ρ w64 F64 hI hS hρ
   obtain ⟨A68,c69,H70,hB64_b16⟩:=hI
   have q9:ρ 9=.bool true:=hS 11 9 rfl
   obtain ⟨ρ',rfl⟩:∃ ρ',ρ=envs (ovr [9,28,29,30,31,32,33,34,35,36,37] ρ' _) [(9,.bool true)]:=⟨ρ,ovr_self hρ ⟨q9,trivial⟩⟩
   have E113:Ext w w64:=Ext.st E50 F64 (upc n16 (fun m hm=>by cases hm))
   have Z64:=Fr.refl (b37::(b16::L)) w64
   refine sq_n ?_
   refine ec_ret ?_
   subst h
   exact (endr2 (rv_a rfl (agg_ouroborosref14_Frame) hB64_b16 (vs:=[.int .i64 (1:Int),.int .i64 x24.epoch,.int .i64 x24.first,.int .i64 (0:Int),.int .i64 (0:Int),.int .i64 (0:Int),.int .i64 (0:Int),.slice A68 x65.length c69]) rfl rfl) (rv_t rfl) ⟨_,rfl,E113,_,rfl,(kFrm_mk (d:=(⟨(1:Int),x24.epoch,x24.first,[(0:Int),(0:Int),(0:Int),(0:Int)],x65⟩:Frm)) (H70.up Z64 (fun _ h=>h) (fun m hm=>Or.inl (List.Mem.tail _ (List.Mem.tail _ hm)))) rfl)⟩)
def ref17_Heard_raw (d0:Frm) (y:Frm × Bool):Prop :=
 (sml d0.entries)∧((d0.entries.length≤1000000)∧((maxS d0.sums)∧(((((!(okFr d0))||(d0.kind != (1:Int)))||(decide ((2147483647:Int)<(IntKind.i64.wrap (d0.b + (d0.entries.length:Int))))))=true→(y=((⟨(0:Int),(0:Int),(0:Int),[(0:Int),(0:Int),(0:Int),(0:Int)],([]:List Ent)⟩:Frm),false)))∧((((!(okFr d0))||(d0.kind != (1:Int)))||(decide ((2147483647:Int)<(IntKind.i64.wrap (d0.b + (d0.entries.length:Int))))))=false→(y=((⟨(2:Int),d0.a,(IntKind.i64.wrap (d0.b + (d0.entries.length:Int))),[(0:Int),(0:Int),(0:Int),(0:Int)],([]:List Ent)⟩:Frm),true))))))
set_option maxRecDepth 20000 in
set_option maxHeartbeats 4000000 in
theorem ref17_Heard_c {L:List Nat} {w:World} {csP0:List Value} (d0:Frm) (HP0:Stb L w (fun w=>kFrm.r w csP0 d0)) (hL:Lt L w) {y:Frm × Bool} (h:ref17_Heard_raw d0 y) :
  Calls Tryz.prog 12 [.agg csP0.toArray].toArray w (Ret fun v w'=>Ext w w'∧∃ (cs90:List Value),v=.tuple #[.agg cs90.toArray,.bool y.2]∧Stb L w' (fun w=>kFrm.r w cs90 y.1)):=by
 obtain ⟨A2,c3,rfl,H4,hl1⟩:=kFrm_open HP0
 unfold ref17_Heard_raw at h
 refine calls_ec Tryz.func12 rfl rfl rfl ?_
 refine ec_seq ?_
 refine ec_region ?_
 refine o_box (cs:=(cFrm d0 A2 c3)) rfl rfl rfl ?_
 intro b5 w5 e5 F5 B5
 have S5:=B5.stb (nin hL e5)
 have G6:Fr L w w5:=Fr.ext F5
 refine o_alloc zero_ouroborosref14_Frame rfl rfl rfl ?_
 intro b7 w7 e7 F7 B7
 have n7:w.heap.size≤b7:=by rw [e7]; exact F5.size
 have m8:w.heap.size≤b7:=by rw [e7]; exact G6.size
 have E10:=F5.trans F7
 have G12:Fr L w5 w7:=Fr.ext F7
 refine o_w (v:=.bool false) (r_asg rfl) ?_
 refine eo_nil_sq ?_
 iterate 2 refine ec_seq ?_
 refine ec_region ?_
 refine o_w (v:=.agg (cFrm d0 A2 c3).toArray) (r_lda agg_ouroborosref14_Frame rfl (vs:=(cFrm d0 A2 c3)) rfl ((S5.fr G12 (fun _ h=>h)).now.part (n:=8) rfl)) ?_
 obtain ⟨ha14,h⟩:=h
 obtain ⟨ha15,h⟩:=h
 obtain ⟨ha16,h⟩:=h
 refine o_call cf_ref14_Check rfl (ref14_Check_c d0 (kFrm_mk (d:=d0) (H4.up (G6.trans (Fr.ext F7)) (fun _ h=>h) (upc (.inr m8) (fun _ h=>.inl h))) hl1) ((hL.fr E10).cons B7.lt) (refCheckF_ev d0 ha14 ha15 ha16)) rfl rfl ?_
 rintro _ w13 ⟨F13,rfl⟩
 have E17:=E10.trans F13
 refine o_w (v:=.bool (!(okFr d0))) (r_not rfl) ?_
 refine o_w (v:=.bool (!(okFr d0))) (r_mov rfl) ?_
 refine o_vg (v:=.pointer (some ⟨b5,0,none⟩)) (want_cf (t:=7) rfl rfl) (fun hk=>(r_fa fld_ouroborosref14_Frame_0 rfl rfl)) rfl rfl ?_
 refine o_vg (v:=.int .i64 d0.kind) (want_cf (t:=7) rfl rfl) (fun hk=>(r_ld one_int (gdT hk) ((S5.fr (G12.trans (Fr.ext F13)) (fun _ h=>h)).now.cell rfl))) rfl rfl ?_
 refine o_vg (v:=.bool (d0.kind != (1:Int))) (want_cf (t:=7) rfl rfl) (fun hk=>(r_int (gdT hk) rfl rfl)) rfl rfl ?_
 refine o_w (v:=.bool ((!(okFr d0))||(d0.kind != (1:Int)))) (r_pickOr rfl rfl (fun hf=>(gdT (notT hf)))) ?_
 refine o_w (v:=.bool ((!(okFr d0))||(d0.kind != (1:Int)))) (r_mov rfl) ?_
 refine o_vg (v:=.pointer (some ⟨b5,2,none⟩)) (want_cf (t:=12) rfl rfl) (fun hk=>(r_fa fld_ouroborosref14_Frame_2 rfl rfl)) rfl rfl ?_
 refine o_vg (v:=.int .i64 d0.b) (want_cf (t:=12) rfl rfl) (fun hk=>(r_ld one_int (gdT hk) ((S5.fr (G12.trans (Fr.ext F13)) (fun _ h=>h)).now.cell rfl))) rfl rfl ?_
 refine o_vg (v:=.pointer (some ⟨b5,7,none⟩)) (want_cf (t:=12) rfl rfl) (fun hk=>(r_fa fld_ouroborosref14_Frame_4 rfl rfl)) rfl rfl ?_
 refine o_vg (v:=.slice A2 d0.entries.length c3) (want_cf (t:=12) rfl rfl) (fun hk=>(r_ld one_s_api_Entry (gdT hk) ((S5.fr (G12.trans (Fr.ext F13)) (fun _ h=>h)).now.cell rfl))) rfl rfl ?_
 refine o_vg (v:=.int .i64 (d0.entries.length:Int)) (want_cf (t:=12) rfl rfl) (fun hk=>(r_len_slc un_s_api_Entry (gdT hk))) rfl rfl ?_
 refine o_vg (v:=.int .i64 (IntKind.i64.wrap (d0.b + (d0.entries.length:Int)))) (want_cf (t:=12) rfl rfl) (fun hk=>(r_int (gdT hk) (gdT hk) rfl)) rfl rfl ?_
 refine o_vg (v:=.bool (decide ((2147483647:Int)<(IntKind.i64.wrap (d0.b + (d0.entries.length:Int)))))) (want_cf (t:=12) rfl rfl) (fun hk=>(r_int (gdT hk) rfl rfl)) rfl rfl ?_
 refine o_w (v:=.bool (((!(okFr d0))||(d0.kind != (1:Int)))||(decide ((2147483647:Int)<(IntKind.i64.wrap (d0.b + (d0.entries.length:Int))))))) (r_pickOr rfl rfl (fun hf=>(gdT (notT hf)))) ?_
 refine eo_nil_sq ?_
 refine ec_cond rfl (fun hc21=>?_) (fun hc21=>?_)
 ·replace h:=h.1 hc21
  refine ec_seq ?_
  refine ec_region ?_
  refine o_w (v:=.agg #[.int .i64 (0:Int),.int .i64 (0:Int),.int .i64 (0:Int),.int .i64 (0:Int),.int .i64 (0:Int),.int .i64 (0:Int),.int .i64 (0:Int),.slice none ([]:List Ent).length 0]) (r_build bld_ouroborosref14_Frame (vs:=[]) (cells:=[.int .i64 (0:Int),.int .i64 (0:Int),.int .i64 (0:Int),.int .i64 (0:Int),.int .i64 (0:Int),.int .i64 (0:Int),.int .i64 (0:Int),.slice none ([]:List Ent).length 0]) rfl rfl) ?_
  refine o_store rfl (B7.ex F13) (vs:=[.int .i64 (0:Int),.int .i64 (0:Int),.int .i64 (0:Int),.int .i64 (0:Int),.int .i64 (0:Int),.int .i64 (0:Int),.int .i64 (0:Int),.slice none ([]:List Ent).length 0]) rfl sz_ouroborosref14_Frame rfl rfl rfl ?_
  intro w22 F22 B22
  have E23:=Ext.st E17 F22 (by simp; omega)
  have B22':Blk w22 b7 _ [.int .i64 (0:Int),.int .i64 (0:Int),.int .i64 (0:Int),.int .i64 (0:Int),.int .i64 (0:Int),.int .i64 (0:Int),.int .i64 (0:Int),.slice none ([]:List Ent).length 0]:=B22
  refine o_w (v:=.bool false) (r_asg rfl) ?_
  refine eo_nil_sq ?_
  refine ec_ret ?_
  refine sq_ret ?_
  subst h
  exact (endr2 (rv_a rfl (agg_ouroborosref14_Frame) B22' (vs:=[.int .i64 (0:Int),.int .i64 (0:Int),.int .i64 (0:Int),.int .i64 (0:Int),.int .i64 (0:Int),.int .i64 (0:Int),.int .i64 (0:Int),.slice none ([]:List Ent).length 0]) rfl rfl) (rv_t rfl) ⟨_,rfl,E23,_,rfl,(kFrm_mk (d:=(⟨(0:Int),(0:Int),(0:Int),[(0:Int),(0:Int),(0:Int),(0:Int)],([]:List Ent)⟩:Frm)) stb_nil rfl)⟩)
 ·replace h:=h.2 hc21
  refine ec_skip ?_
  refine sq_n ?_
  refine ec_seq ?_
  refine ec_region ?_
  refine o_w (v:=.pointer (some ⟨b5,1,none⟩)) (r_fa fld_ouroborosref14_Frame_1 rfl rfl) ?_
  refine o_w (v:=.int .i64 d0.a) (r_ld one_int rfl ((S5.fr (G12.trans (Fr.ext F13)) (fun _ h=>h)).now.cell rfl)) ?_
  refine o_w (v:=.pointer (some ⟨b5,2,none⟩)) (r_fa fld_ouroborosref14_Frame_2 rfl rfl) ?_
  refine o_w (v:=.int .i64 d0.b) (r_ld one_int rfl ((S5.fr (G12.trans (Fr.ext F13)) (fun _ h=>h)).now.cell rfl)) ?_
  refine o_w (v:=.pointer (some ⟨b5,7,none⟩)) (r_fa fld_ouroborosref14_Frame_4 rfl rfl) ?_
  refine o_w (v:=.slice A2 d0.entries.length c3) (r_ld one_s_api_Entry rfl ((S5.fr (G12.trans (Fr.ext F13)) (fun _ h=>h)).now.cell rfl)) ?_
  refine o_w (v:=.int .i64 (d0.entries.length:Int)) (r_len_slc un_s_api_Entry rfl) ?_
  refine o_w (v:=.int .i64 (IntKind.i64.wrap (d0.b + (d0.entries.length:Int)))) (r_int rfl rfl rfl) ?_
  refine o_w (v:=.agg #[.int .i64 (2:Int),.int .i64 d0.a,.int .i64 (IntKind.i64.wrap (d0.b + (d0.entries.length:Int))),.int .i64 (0:Int),.int .i64 (0:Int),.int .i64 (0:Int),.int .i64 (0:Int),.slice none ([]:List Ent).length 0]) (r_build bld_ouroborosref14_Frame (vs:=[(0,.int .i64 (2:Int)),(1,.int .i64 d0.a),(2,.int .i64 (IntKind.i64.wrap (d0.b + (d0.entries.length:Int))))]) (cells:=[.int .i64 (2:Int),.int .i64 d0.a,.int .i64 (IntKind.i64.wrap (d0.b + (d0.entries.length:Int))),.int .i64 (0:Int),.int .i64 (0:Int),.int .i64 (0:Int),.int .i64 (0:Int),.slice none ([]:List Ent).length 0]) rfl rfl) ?_
  refine o_store rfl (B7.ex F13) (vs:=[.int .i64 (2:Int),.int .i64 d0.a,.int .i64 (IntKind.i64.wrap (d0.b + (d0.entries.length:Int))),.int .i64 (0:Int),.int .i64 (0:Int),.int .i64 (0:Int),.int .i64 (0:Int),.slice none ([]:List Ent).length 0]) rfl sz_ouroborosref14_Frame rfl rfl rfl ?_
  intro w26 F26 B26
  have E27:=Ext.st E17 F26 (by simp; omega)
  have B26':Blk w26 b7 _ [.int .i64 (2:Int),.int .i64 d0.a,.int .i64 (IntKind.i64.wrap (d0.b + (d0.entries.length:Int))),.int .i64 (0:Int),.int .i64 (0:Int),.int .i64 (0:Int),.int .i64 (0:Int),.slice none ([]:List Ent).length 0]:=B26
  refine o_w (v:=.bool true) (r_asg rfl) ?_
  refine eo_nil_sq ?_
  refine ec_ret ?_
  subst h
  exact (endr2 (rv_a rfl (agg_ouroborosref14_Frame) B26' (vs:=[.int .i64 (2:Int),.int .i64 d0.a,.int .i64 (IntKind.i64.wrap (d0.b + (d0.entries.length:Int))),.int .i64 (0:Int),.int .i64 (0:Int),.int .i64 (0:Int),.int .i64 (0:Int),.slice none ([]:List Ent).length 0]) rfl rfl) (rv_t rfl) ⟨_,rfl,E27,_,rfl,(kFrm_mk (d:=(⟨(2:Int),d0.a,(IntKind.i64.wrap (d0.b + (d0.entries.length:Int))),[(0:Int),(0:Int),(0:Int),(0:Int)],([]:List Ent)⟩:Frm)) stb_nil rfl)⟩)
def ref17_Done_raw (d0:Buf) (d1:Arena) (d2:Int) (d3:Frm) (y:Buf):Prop :=
 (sml d3.entries)∧((d3.entries.length≤1000000)∧((maxS d3.sums)∧((((!(okFr d3))||(d3.kind != (2:Int)))=true→((smB d0)∧((sma d1)∧(∃ x46,x46=(mendB d0 d1 d2)∧(y=x46)))))∧(((!(okFr d3))||(d3.kind != (2:Int)))=false→((smB d0)∧((sma d1)∧(∃ x67,x67=(ackB d0 d1 d2 d3.a d3.b)∧(y=x67))))))))
set_option maxRecDepth 20000 in
set_option maxHeartbeats 4000000 in
theorem ref17_Done_c {L:List Nat} {w:World} {csP0:List Value} (d0:Buf) (HP0:Stb L w (fun w=>kBuf.r w csP0 d0)) {csP1:List Value} (d1:Arena) (HP1:Stb L w (fun w=>kArena.r w csP1 d1)) (d2:Int) {csP3:List Value} (d3:Frm) (HP3:Stb L w (fun w=>kFrm.r w csP3 d3)) (hL:Lt L w) {y:Buf} (h:ref17_Done_raw d0 d1 d2 d3 y) :
  Calls Tryz.prog 16 [.agg csP0.toArray,.agg csP1.toArray,.int .i64 d2,.agg csP3.toArray].toArray w (Ret fun v w'=>Ext w w'∧∃ (cs90:List Value),v=.agg cs90.toArray∧Stb L w' (fun w=>kBuf.r w cs90 y)):=by
 obtain ⟨A1,c2,rfl,H3⟩:=kBuf_open HP0
 obtain ⟨A4,c5,A7,c8,rfl,H6,H9⟩:=kArena_open HP1
 obtain ⟨A11,c12,rfl,H13,hl10⟩:=kFrm_open HP3
 unfold ref17_Done_raw at h
 refine calls_ec Tryz.func16 rfl rfl rfl ?_
 refine ec_seq ?_
 refine ec_region ?_
 refine o_box (cs:=(cBuf d0 A1 c2)) rfl rfl rfl ?_
 intro b14 w14 e14 F14 B14
 have S14:=B14.stb (nin hL e14)
 have G15:Fr L w w14:=Fr.ext F14
 refine o_box (cs:=(cArena d1 A4 c5 A7 c8)) rfl rfl rfl ?_
 intro b16 w16 e16 F16 B16
 have S16:=B16.stb (nin (hL.fr F14) e16)
 have E17:=F14.trans F16
 have G19:Fr L w14 w16:=Fr.ext F16
 refine o_box (cs:=(cFrm d3 A11 c12)) rfl rfl rfl ?_
 intro b20 w20 e20 F20 B20
 have S20:=B20.stb (nin (hL.fr E17) e20)
 have E21:=E17.trans F20
 have G24:Fr L w16 w20:=Fr.ext F20
 refine o_alloc zero_ouroborosref16_Buffer rfl rfl rfl ?_
 intro b25 w25 e25 F25 B25
 have n25:w.heap.size≤b25:=by rw [e25]; exact E21.size
 have m26:w.heap.size≤b25:=by rw [e25]; exact ((G15.trans (Fr.ext F16)).trans (Fr.ext F20)).size
 have E30:=E21.trans F25
 have G34:Fr L w20 w25:=Fr.ext F25
 refine eo_nil_sq ?_
 iterate 2 refine ec_seq ?_
 refine ec_region ?_
 refine o_w (v:=.agg (cFrm d3 A11 c12).toArray) (r_lda agg_ouroborosref14_Frame rfl (vs:=(cFrm d3 A11 c12)) rfl ((S20.fr G34 (fun _ h=>h)).now.part (n:=8) rfl)) ?_
 obtain ⟨ha36,h⟩:=h
 obtain ⟨ha37,h⟩:=h
 obtain ⟨ha38,h⟩:=h
 refine o_call cf_ref14_Check rfl (ref14_Check_c d3 (kFrm_mk (d:=d3) (H13.up (((G15.trans (Fr.ext F16)).trans (Fr.ext F20)).trans (Fr.ext F25)) (fun _ h=>h) (upc (.inr m26) (fun _ h=>.inl h))) hl10) ((hL.fr E30).cons B25.lt) (refCheckF_ev d3 ha36 ha37 ha38)) rfl rfl ?_
 rintro _ w35 ⟨F35,rfl⟩
 have E39:=E30.trans F35
 have G40:=(((G15.trans (Fr.ext F16)).trans (Fr.ext F20)).trans (Fr.ext F25)).trans (Fr.ext F35)
 refine o_w (v:=.bool (!(okFr d3))) (r_not rfl) ?_
 refine o_w (v:=.bool (!(okFr d3))) (r_mov rfl) ?_
 refine o_vg (v:=.pointer (some ⟨b20,0,none⟩)) (want_cf (t:=12) rfl rfl) (fun hk=>(r_fa fld_ouroborosref14_Frame_0 rfl rfl)) rfl rfl ?_
 refine o_vg (v:=.int .i64 d3.kind) (want_cf (t:=12) rfl rfl) (fun hk=>(r_ld one_int (gdT hk) ((S20.fr (G34.trans (Fr.ext F35)) (fun _ h=>h)).now.cell rfl))) rfl rfl ?_
 refine o_vg (v:=.bool (d3.kind != (2:Int))) (want_cf (t:=12) rfl rfl) (fun hk=>(r_int (gdT hk) rfl rfl)) rfl rfl ?_
 refine o_w (v:=.bool ((!(okFr d3))||(d3.kind != (2:Int)))) (r_pickOr rfl rfl (fun hf=>(gdT (notT hf)))) ?_
 refine eo_nil_sq ?_
 refine ec_cond rfl (fun hc45=>?_) (fun hc45=>?_)
 ·replace h:=h.1 hc45
  refine ec_seq ?_
  refine ec_region ?_
  refine o_w (v:=.agg (cBuf d0 A1 c2).toArray) (r_lda agg_ouroborosref16_Buffer rfl (vs:=(cBuf d0 A1 c2)) rfl ((S14.fr (((G19.trans (Fr.ext F20)).trans (Fr.ext F25)).trans (Fr.ext F35)) (fun _ h=>h)).now.part (n:=3) rfl)) ?_
  refine o_w (v:=.agg (cArena d1 A4 c5 A7 c8).toArray) (r_lda agg_api_Arena rfl (vs:=(cArena d1 A4 c5 A7 c8)) rfl ((S16.fr ((G24.trans (Fr.ext F25)).trans (Fr.ext F35)) (fun _ h=>h)).now.part (n:=3) rfl)) ?_
  refine o_w (v:=.int .i64 d2) (r_mov rfl) ?_
  obtain ⟨ha47,h⟩:=h
  obtain ⟨ha48,h⟩:=h
  obtain ⟨x46,hx46,h⟩:=h
  refine o_call cf_ref16_Mend rfl (ref16_Mend_c d0 (kBuf_mk (d:=d0) (H3.up G40 (fun _ h=>h) (upc (.inr m26) (fun _ h=>.inl h)))) d1 (kArena_mk (d:=d1) (H6.up G40 (fun _ h=>h) (upc (.inr m26) (fun _ h=>.inl h))) (H9.up G40 (fun _ h=>h) (upc (.inr m26) (fun _ h=>.inl h)))) d2 ((hL.fr E39).cons (B25.ex F35).lt) (eq_ev hx46 (refMend_ev d0 d1 d2 ha47 ha48))) rfl rfl ?_
  rintro _ w46 ⟨F46,cs49,rfl,H50⟩
  have E51:=E39.trans F46
  obtain ⟨A57,c58,rfl,H59⟩:=kBuf_open H50
  refine o_store rfl ((B25.ex F35).ex F46) (vs:=(cBuf x46 A57 c58)) rfl sz_ouroborosref16_Buffer rfl rfl rfl ?_
  intro w60 F60 B60
  have E61:=Ext.st E51 F60 (by simp; omega)
  have G66:Fr (b25::L) w46 w60:=(Fr.refl _ _).stp F60 (upc (.inl (List.Mem.head _)) (fun m hm=>by cases hm))
  have B60':Blk w60 b25 _ (cBuf x46 A57 c58):=B60
  refine eo_nil_sq ?_
  refine ec_ret ?_
  refine sq_ret ?_
  replace h:=h.symm
  subst h
  exact (endr1 (rv_a rfl (agg_ouroborosref16_Buffer) B60' (vs:=(cBuf x46 A57 c58)) rfl rfl) ⟨_,rfl,E61,_,rfl,(kBuf_mk (d:=x46) (H59.up G66 (fun _ h=>h) (fun m hm=>Or.inl (List.Mem.tail _ hm))))⟩)
 ·replace h:=h.2 hc45
  refine ec_skip ?_
  refine sq_n ?_
  refine ec_seq ?_
  refine ec_region ?_
  refine o_w (v:=.agg (cBuf d0 A1 c2).toArray) (r_lda agg_ouroborosref16_Buffer rfl (vs:=(cBuf d0 A1 c2)) rfl ((S14.fr (((G19.trans (Fr.ext F20)).trans (Fr.ext F25)).trans (Fr.ext F35)) (fun _ h=>h)).now.part (n:=3) rfl)) ?_
  refine o_w (v:=.agg (cArena d1 A4 c5 A7 c8).toArray) (r_lda agg_api_Arena rfl (vs:=(cArena d1 A4 c5 A7 c8)) rfl ((S16.fr ((G24.trans (Fr.ext F25)).trans (Fr.ext F35)) (fun _ h=>h)).now.part (n:=3) rfl)) ?_
  refine o_w (v:=.int .i64 d2) (r_mov rfl) ?_
  refine o_w (v:=.pointer (some ⟨b20,1,none⟩)) (r_fa fld_ouroborosref14_Frame_1 rfl rfl) ?_
  refine o_w (v:=.int .i64 d3.a) (r_ld one_int rfl ((S20.fr (G34.trans (Fr.ext F35)) (fun _ h=>h)).now.cell rfl)) ?_
  refine o_w (v:=.pointer (some ⟨b20,2,none⟩)) (r_fa fld_ouroborosref14_Frame_2 rfl rfl) ?_
  refine o_w (v:=.int .i64 d3.b) (r_ld one_int rfl ((S20.fr (G34.trans (Fr.ext F35)) (fun _ h=>h)).now.cell rfl)) ?_
  obtain ⟨ha68,h⟩:=h
  obtain ⟨ha69,h⟩:=h
  obtain ⟨x67,hx67,h⟩:=h
  refine o_call cf_ref16_Ack rfl (ref16_Ack_c d0 (kBuf_mk (d:=d0) (H3.up G40 (fun _ h=>h) (upc (.inr m26) (fun _ h=>.inl h)))) d1 (kArena_mk (d:=d1) (H6.up G40 (fun _ h=>h) (upc (.inr m26) (fun _ h=>.inl h))) (H9.up G40 (fun _ h=>h) (upc (.inr m26) (fun _ h=>.inl h)))) d2 d3.a d3.b ((hL.fr E39).cons (B25.ex F35).lt) (eq_ev hx67 (refAck_ev d0 d1 d2 d3.a d3.b ha68 ha69))) rfl rfl ?_
  rintro _ w67 ⟨F67,cs70,rfl,H71⟩
  have E72:=E39.trans F67
  obtain ⟨A78,c79,rfl,H80⟩:=kBuf_open H71
  refine o_store rfl ((B25.ex F35).ex F67) (vs:=(cBuf x67 A78 c79)) rfl sz_ouroborosref16_Buffer rfl rfl rfl ?_
  intro w81 F81 B81
  have E82:=Ext.st E72 F81 (by simp; omega)
  have G87:Fr (b25::L) w67 w81:=(Fr.refl _ _).stp F81 (upc (.inl (List.Mem.head _)) (fun m hm=>by cases hm))
  have B81':Blk w81 b25 _ (cBuf x67 A78 c79):=B81
  refine eo_nil_sq ?_
  refine ec_ret ?_
  replace h:=h.symm
  subst h
  exact (endr1 (rv_a rfl (agg_ouroborosref16_Buffer) B81' (vs:=(cBuf x67 A78 c79)) rfl rfl) ⟨_,rfl,E82,_,rfl,(kBuf_mk (d:=x67) (H80.up G87 (fun _ h=>h) (fun m hm=>Or.inl (List.Mem.tail _ hm))))⟩)
end Go.Proofs.YthfkbabgkacfnaaGreat

/- The reference of push. -/
namespace Go.Proofs.YthfkbabgkacfnaaGreat
open Go Go.RowKit
set_option linter.unusedVariables false
set_option linter.unusedSimpArgs false

theorem refSend_ev (b:Buf) (a:Arena) (m c:Int) (hb:smB b) (ha:sma a):ref17_Send_raw b a m c (sendP b a m c):=by
 refine ⟨hb,ha,_,rfl,fun hc=>?_,fun hc=>⟨smB_mend a m hb,ha,_,rfl,?_⟩⟩
 ·have h1:noSend (mendB b a m) c=true:=hc
  unfold sendP; rw [h1]; rfl
 ·have h1:noSend (mendB b a m) c=false:=hc
  unfold sendP; rw [h1]; rfl
theorem isP_ok (f:Frm) (k:Int):isP f k=(okFr f&&(f.kind==k)):=rfl
theorem bne_not (a b:Int):(a != b)=!(a==b):=rfl
theorem refHeard_ev (f:Frm) (h:sml f.entries) (hl:f.entries.length≤1000000) (hm:maxS f.sums):ref17_Heard_raw f (heardP f):=by
 refine ⟨h,hl,hm,fun hc=>?_,fun hc=>?_⟩
 ·have h1:((!isP f 1)||decide ((2147483647:Int)<uptoP f))=true:=by
   rw [isP_ok]; rw [bne_not] at hc; revert hc; unfold uptoP
   cases okFr f <;> cases (f.kind==1) <;> simp
  unfold heardP
  cases h2:isP f 1 with
  | false=>rfl
  | true =>
   rw [h2] at h1
   have h3:decide ((2147483647:Int)<uptoP f)=true:=by simpa using h1
   rw [h3]; rfl
 ·have h1:((!isP f 1)||decide ((2147483647:Int)<uptoP f))=false:=by
   rw [isP_ok]; rw [bne_not] at hc; revert hc; unfold uptoP
   cases okFr f <;> cases (f.kind==1) <;> simp
  simp only [Bool.or_eq_false_iff] at h1
  have h2:isP f 1=true:=by simpa using h1.1
  unfold heardP
  rw [h2,h1.2]; rfl
theorem refDone_ev (b:Buf) (a:Arena) (m:Int) (f:Frm) (hb:smB b) (ha:sma a) (h:sml f.entries) (hl:f.entries.length≤1000000) (hm:maxS f.sums):ref17_Done_raw b a m f (doneP b a m f):=by
 refine ⟨h,hl,hm,fun hc=>⟨hb,ha,_,rfl,?_⟩,fun hc=>⟨hb,ha,_,rfl,?_⟩⟩
 ·have h1:isP f 2=false:=by
   rw [isP_ok]; rw [bne_not] at hc; revert hc
   cases okFr f <;> cases (f.kind==2) <;> simp
  unfold doneP; rw [h1]; rfl
 ·have h1:isP f 2=true:=by
   rw [isP_ok]; rw [bne_not] at hc; revert hc
   cases okFr f <;> cases (f.kind==2) <;> simp
  unfold doneP; rw [h1]; rfl
end Go.Proofs.YthfkbabgkacfnaaGreat
