import Derived.Test.YtdfjbkoimpjkaaaGreatCt6
import Derived.Test.YtdfjbkoimpjkaaaGreatPi
import Derived.Test.YtdfjbkoimpjkaaaGreatBh
import Derived.Test.YtdfjbkoimpjkaaaGreatPn
namespace Go.Proofs.YtdfjbkoimpjkaaaGreat
open Go Go.RowKit
set_option linter.unusedVariables false
set_option linter.unusedSimpArgs false
theorem in_ouroborosref14_Frame:(Tryz.prog.info? 29).map (fun i=>(i.zero,i.size,i.bytes))=some (some (.agg #[.int .i64 0,.int .i64 0,.int .i64 0,.int .i64 0,.int .i64 0,.int .i64 0,.int .i64 0,.slice none 0 0]),8,80):=by kernel_rfl
theorem zero_ouroborosref14_Frame:Zero Tryz.prog 29 (.agg #[.int .i64 0,.int .i64 0,.int .i64 0,.int .i64 0,.int .i64 0,.int .i64 0,.int .i64 0,.slice none 0 0]):=zero_of in_ouroborosref14_Frame
theorem sz_ouroborosref14_Frame:Sz Tryz.prog 29 8:=sz_of in_ouroborosref14_Frame
theorem agg_ouroborosref14_Frame:Agg Tryz.prog 29 8:=⟨⟨_,Tryz.underlying29,trivial⟩,sz_ouroborosref14_Frame⟩
theorem fld_ouroborosref14_Frame_0:Fld Tryz.prog 29 0 0:=⟨_,Tryz.underlying29,_,rfl,rfl,fnz in_int (by decide)⟩
theorem fld_ouroborosref14_Frame_1:Fld Tryz.prog 29 1 1:=⟨_,Tryz.underlying29,_,rfl,rfl,fnz in_int (by decide)⟩
theorem fld_ouroborosref14_Frame_2:Fld Tryz.prog 29 2 2:=⟨_,Tryz.underlying29,_,rfl,rfl,fnz in_int (by decide)⟩
theorem fld_ouroborosref14_Frame_3:Fld Tryz.prog 29 3 3:=⟨_,Tryz.underlying29,_,rfl,rfl,fnz in_4_int (by decide)⟩
theorem fld_ouroborosref14_Frame_4:Fld Tryz.prog 29 4 7:=⟨_,Tryz.underlying29,_,rfl,rfl,fnz in_s_api_Entry (by decide)⟩
theorem bld_ouroborosref14_Frame:Bld Tryz.prog 29 [(0,1),(1,1),(2,1),(3,4),(7,1)] [.int .i64 0,.int .i64 0,.int .i64 0,.int .i64 0,.int .i64 0,.int .i64 0,.int .i64 0,.slice none 0 0]:=bld_struct zero_ouroborosref14_Frame rfl Tryz.underlying29 (fun _=>by kernel_rfl)
theorem cf_law14_Of:CF Tryz.prog 12:=fun _ _=>by kernel_rfl
theorem cf_ref01_Put:CF Tryz.prog 52:=fun _ _=>by kernel_rfl
theorem cf_ref10_Put:CF Tryz.prog 22:=fun _ _=>by kernel_rfl
theorem cf_ref14_Check:CF Tryz.prog 11:=fun _ _=>by kernel_rfl
theorem cf_ref14_Same:CF Tryz.prog 15:=fun _ _=>by kernel_rfl
theorem cf_ref14_entries:CF Tryz.prog 23:=fun _ _=>by kernel_rfl
end Go.Proofs.YtdfjbkoimpjkaaaGreat
namespace Go.Proofs.YtdfjbkoimpjkaaaGreat
open Go Go.RowKit
set_option linter.unusedVariables false

instance (v:Val):Decidable (sm v):=by unfold sm; infer_instance
instance (l:List Ent):Decidable (sml l):=by unfold sml; infer_instance
instance (a:Arena):Decidable (sma a):=by unfold sma; infer_instance
instance (b:Buf):Decidable (smB b):=by unfold smB; infer_instance
instance (b:Buf):Decidable (smN b):=by unfold smN; infer_instance
end Go.Proofs.YtdfjbkoimpjkaaaGreat
namespace Go.Proofs.YtdfjbkoimpjkaaaGreat
open Go Go.RowKit
set_option linter.unusedVariables false
set_option linter.unusedSimpArgs false
def ref01_Put_b2 (d1:Int) (s2:Int × List Int × Int) (z2:(Int × List Int × Int) ⊕ (Int × List Int × Int)):Prop :=
 ((decide (s2.2.2<d1))=true→((s2.2.1.length + 1≤9223372036854775807∧(s2.2.1.length + 1) * 1≤140737488355328)∧(z2=.inl ((IntKind.i64.wrap (Int.tdiv s2.1 (256:Int))),(s2.2.1++([(IntKind.u8.wrap (Int.tmod s2.1 (256:Int)))]:List Int)),(IntKind.i64.wrap (s2.2.2 + (1:Int)))))))∧((decide (s2.2.2<d1))=false→(z2=.inr (s2.1,s2.2.1,s2.2.2)))
def ref01_Put_raw (d0:Int) (d1:Int) (y:Str × Int):Prop :=
 ((((decide (d1<1))||(decide (7<d1)))||(decide (d0<0)))=true→(y=(([]:Str),(1:Int))))∧((((decide (d1<1))||(decide (7<d1)))||(decide (d0<0)))=false→(∃ x2,LoopR (ref01_Put_b2 d1) (d0,([]:List Int),(0:Int)) x2∧(((decide (0<x2.1))=true→(y=(([]:Str),(1:Int))))∧((decide (0<x2.1))=false→(y=((bstr x2.2.1),(0:Int)))))))
set_option maxRecDepth 20000 in
set_option maxHeartbeats 4000000 in
theorem ref01_Put_c {L:List Nat} {w:World} (d0:Int) (d1:Int) (hL:Lt L w) {y:Str × Int} (h:ref01_Put_raw d0 d1 y) :
  Calls Tryz.prog 52 [.int .i64 d0,.int .i64 d1].toArray w (Ret fun v w'=>Ext w w'∧v=.tuple #[str y.1,.int .i64 y.2]):=by
 unfold ref01_Put_raw at h
 refine calls_ec Tryz.func52 rfl rfl rfl ?_
 refine ec_sr ?_
 refine o_w (v:=str []) (r_asg rfl) ?_
 refine o_w (v:=.int .i64 0) (r_asg rfl) ?_
 refine eo_nil_sq ?_
 refine ec_seq ?_
 refine ec_sr ?_
 refine o_w (v:=.int .i64 d1) (r_mov rfl) ?_
 refine o_w (v:=.bool (decide (d1<1))) (r_int rfl rfl rfl) ?_
 refine o_w (v:=.bool (decide (d1<1))) (r_mov rfl) ?_
 refine o_vg (v:=.int .i64 d1) (want_cf (t:=10) rfl rfl) (fun hk=>(r_mov rfl)) rfl rfl ?_
 refine o_vg (v:=.bool (decide (7<d1))) (want_cf (t:=10) rfl rfl) (fun hk=>(r_int (gdT hk) rfl rfl)) rfl rfl ?_
 refine o_w (v:=.bool ((decide (d1<1))||(decide (7<d1)))) (r_pickOr rfl rfl (fun hf=>(gdT (notT hf)))) ?_
 refine o_w (v:=.bool ((decide (d1<1))||(decide (7<d1)))) (r_mov rfl) ?_
 refine o_vg (v:=.int .i64 d0) (want_cf (t:=14) rfl rfl) (fun hk=>(r_mov rfl)) rfl rfl ?_
 refine o_vg (v:=.bool (decide (d0<0))) (want_cf (t:=14) rfl rfl) (fun hk=>(r_int (gdT hk) rfl rfl)) rfl rfl ?_
 refine o_w (v:=.bool (((decide (d1<1))||(decide (7<d1)))||(decide (d0<0)))) (r_pickOr rfl rfl (fun hf=>(gdT (notT hf)))) ?_
 refine eo_nil_sq ?_
 refine ec_cond rfl (fun hc1=>?_) (fun hc1=>?_)
 ·replace h:=h.1 hc1
  refine ec_sr ?_
  refine o_w (v:=str []) (r_asg rfl) ?_
  refine o_w (v:=.int .i64 1) (r_asg rfl) ?_
  refine eo_nil_sq ?_
  refine ec_ret ?_
  refine sq_ret ?_
  subst h
  exact (end2 rfl rfl ⟨_,rfl,(Fr.refl _ _),rfl⟩)
 ·replace h:=h.2 hc1
  refine ec_skip ?_
  refine sq_n ?_
  refine ec_sr ?_
  refine o_w (v:=.slice none ([]:List Int).length 0) (r_asg rfl) ?_
  refine eo_nil_sq ?_
  refine ec_seq ?_
  refine ec_sr ?_
  refine o_w (v:=.int .i64 0) (r_asg rfl) ?_
  refine eo_nil_sq ?_
  refine ec_block ?_
  have lo3:w.heap.size≤w.heap.size:=Nat.le_refl _
  have O3:=OwnS.nil (k:=(kI .u8)) (e:=5) (by decide) hL
  obtain ⟨x2,hl2,h⟩:=h
  refine ec_loopE 0 (I:=(fun (s2:Int × List Int × Int) ρ ds w'=>∃ (ρ':Env) (v2i2:Value),ρ=envs ρ' [(0,.int .i64 s2.1),(6,v2i2),(7,.int .i64 s2.2.2),(1,.int .i64 d1)]∧ds=[]∧Fr (own (.slice none 0 0)++L) w w'∧Ext w w'∧OwnS (kI .u8) (w.heap.size) 5 L w' v2i2 s2.2.1∧(∀ q∈own v2i2,q∈(own (.slice none 0 0)++L)∨w.heap.size≤q))) ?_ hl2 ?_ ?_
  ·intro s2 z2 ρ2 ds2 w2r hI2 hb2
   obtain ⟨ρ2r,v2r2,rfl,rfl,F2r,E2r,O2r2,N2r2⟩:=hI2
   have h:=hb2
   unfold ref01_Put_b2 at h
   refine ec_seq ?_
   refine ec_sr ?_
   refine o_w (v:=.int .i64 s2.2.2) (r_mov rfl) ?_
   refine o_w (v:=.int .i64 d1) (r_mov rfl) ?_
   refine o_w (v:=.bool (decide (s2.2.2<d1))) (r_int rfl rfl rfl) ?_
   refine eo_nil_sq ?_
   refine ec_cond rfl (fun hc4=>?_) (fun hc4=>?_)
   ·replace h:=h.1 hc4
    refine ec_skip ?_
    refine sq_n ?_
    refine ec_seq ?_
    refine ec_block ?_
    refine ec_sr ?_
    refine o_w (v:=v2r2) (r_mov rfl) ?_
    refine o_w (v:=.int .i64 s2.1) (r_mov rfl) ?_
    refine o_w (v:=.int .i64 (Int.tmod s2.1 (256:Int))) (r_rem rfl rfl rfl) ?_
    refine o_w (v:=.int .u8 (IntKind.u8.wrap (Int.tmod s2.1 (256:Int)))) (r_conv un_int un_uint8 rfl) ?_
    refine o_bslice slc_s_uint8 rfl (vs:=[.int .u8 (IntKind.u8.wrap (Int.tmod s2.1 (256:Int)))]) rfl rfl rfl (cs:=[.int .u8 (IntKind.u8.wrap (Int.tmod s2.1 (256:Int)))]) rfl rfl rfl rfl ?_
    intro b5 w5 e5 F5 B5
    have N5:=nin ((hL.fr E2r).own O2r2) e5
    have S5:=B5.stb N5
    have E6:=E2r.trans F5
    obtain ⟨ha10,h⟩:=h
    refine o_app slc_s_uint8 rfl rfl rfl (O2r2.ex F5) rfl S5.now (ys:=([(IntKind.u8.wrap (Int.tmod s2.1 (256:Int)))]:List Int)) rfl rfl rfl (rowd1 (cs:=[.int .u8 (IntKind.u8.wrap (Int.tmod s2.1 (256:Int)))]) (fun _ _=>rfl) rfl) ha10 rfl rfl ?_
    intro v9 w9 F9 O9 N9
    have P11:∀ m∈own v9,m∈(own (.slice none 0 0)++L)∨w.heap.size≤m:=fun m hm=>(N9 m hm).elim (fun h=>(show ∀ m∈own v2r2,m∈(own (.slice none 0 0)++L)∨w.heap.size≤m from N2r2) m h) (fun h=>.inr (Nat.le_trans ((F2r.trans (Fr.ext F5)).size) h))
    have E13:=Ext.st E6 F9 (fun m hm=>Nat.le_trans lo3 ((O2r2.ex F5).lo m hm))
    have G14:Fr (own (.slice none 0 0)++L) w w9:=(F2r.trans (Fr.ext F5)).stp F9 N2r2
    refine o_w (v:=v9) (r_asg rfl) ?_
    refine eo_q ?_
    refine o_w (v:=.int .i64 s2.1) (r_mov rfl) ?_
    refine o_w (v:=.int .i64 (IntKind.i64.wrap (Int.tdiv s2.1 (256:Int)))) (r_quo rfl rfl rfl) ?_
    refine o_w (v:=.int .i64 (IntKind.i64.wrap (Int.tdiv s2.1 (256:Int)))) (r_asg rfl) ?_
    refine eo_nil ?_
    refine blk_n ?_
    refine sq_n ?_
    refine ec_region ?_
    refine o_w (v:=.int .i64 s2.2.2) (r_mov rfl) ?_
    refine o_w (v:=.int .i64 (IntKind.i64.wrap (s2.2.2 + (1:Int)))) (r_int rfl rfl rfl) ?_
    refine o_w (v:=.int .i64 (IntKind.i64.wrap (s2.2.2 + (1:Int)))) (r_asg rfl) ?_
    refine eo_nil ?_
    subst h
    exact lq_n ⟨_,v9,envs_self ⟨rfl,rfl,rfl,rfl,trivial⟩,rfl,G14,E13,O9,P11⟩
   ·replace h:=h.2 hc4
    refine ec_exit ?_
    refine sq_exit ?_
    subst h
    exact lq_x ⟨_,v2r2,envs_self ⟨rfl,rfl,rfl,rfl,trivial⟩,rfl,F2r,E2r,O2r2,N2r2⟩
  ·exact ⟨_,(.slice none 0 0),envs_self ⟨rfl,rfl,rfl,rfl,trivial⟩,rfl,(Fr.refl _ _),(Fr.refl _ _),O3,(fun q hq=>.inl (by first | exact List.mem_append_left _ hq | simp [hq]))⟩
  ·rintro ρ2e ds2e w2e ⟨ρ2e,v2e2,rfl,rfl,F2e,E2e,O2e2,N2e2⟩
   refine blk_hit ?_
   refine sq_n ?_
   refine ec_seq ?_
   refine ec_sr ?_
   refine o_w (v:=.int .i64 x2.1) (r_mov rfl) ?_
   refine o_w (v:=.bool (decide (0<x2.1))) (r_int rfl rfl rfl) ?_
   refine eo_nil_sq ?_
   refine ec_cond rfl (fun hc16=>?_) (fun hc16=>?_)
   ·replace h:=h.1 hc16
    refine ec_sr ?_
    refine o_w (v:=str []) (r_asg rfl) ?_
    refine o_w (v:=.int .i64 1) (r_asg rfl) ?_
    refine eo_nil_sq ?_
    refine ec_ret ?_
    refine sq_ret ?_
    subst h
    exact (end2 rfl rfl ⟨_,rfl,E2e,rfl⟩)
   ·replace h:=h.2 hc16
    refine ec_skip ?_
    refine sq_n ?_
    refine ec_sr ?_
    refine o_w (v:=v2e2) (r_mov rfl) ?_
    obtain ⟨A17,c18,eA17,H19⟩:=O2e2.still
    subst eA17
    have Zw2e_20:=Fr.refl L w2e
    refine o_w (v:=str (bstr x2.2.1)) (r_bstr slc_s_uint8 un_uint8 un_string rfl (H19.fr Zw2e_20 sI).now) ?_
    refine o_w (v:=str (bstr x2.2.1)) (r_asg rfl) ?_
    refine o_w (v:=.int .i64 0) (r_asg rfl) ?_
    refine eo_nil_sq ?_
    refine ec_ret ?_
    subst h
    exact (end2 rfl rfl ⟨_,rfl,E2e,rfl⟩)

theorem lo8_mod {n:Int} (h:0≤n):lo8 n=n % 256:=by
 obtain ⟨k,rfl⟩:=Int.eq_ofNat_of_zero_le h
 unfold lo8
 have e:(BitVec.ofInt IntKind.i64.bits (k:Int) &&& BitVec.ofInt IntKind.i64.bits (255:Int)).toNat=k % 256:=by
  show (BitVec.ofInt 64 (k:Int) &&& BitVec.ofInt 64 (255:Int)).toNat=k % 256
  rw [BitVec.toNat_and,BitVec.ofInt_natCast,BitVec.toNat_ofNat]
  have e2:(BitVec.ofInt 64 (255:Int)).toNat=2 ^ 8 - 1:=by decide
  rw [e2,Nat.and_two_pow_sub_one_eq_mod]
  omega
 rw [e,wrap64 (by omega) (by omega)]
 omega
theorem sh8_div {n:Int} (h:0≤n):sh8 n=n / 256:=by
 unfold sh8
 have e:(2:Int) ^ min ((8:Int)).toNat IntKind.i64.bits=256:=by decide
 rw [e,Int.fdiv_eq_ediv_of_nonneg _ (by decide)]
theorem refO_run (w:Int) (hw:w≤7):∀ (k i:Nat) (n:Int) (pre:List Int),((i + k:Nat):Int)=w→pre.length=i→0≤n→n≤9223372036854775807 →
  LoopR (ref01_Put_b2 w) (n,pre,(i:Int)) (restF k n,pre++bytesF k n,w)
 | 0,i,n,pre,hi,hl,h0,hn=>by
  obtain rfl:(i:Int)=w:=by omega
  exact .done ⟨fun c=>by simp at c,fun _=>by simp [restF,bytesF]⟩
 | k + 1,i,n,pre,hi,hl,h0,hn=>by
  have e1:=lo8_mod h0
  have e2:=sh8_div h0
  have ih:=refO_run w hw k (i + 1) (sh8 n) (pre++[IntKind.u8.wrap (lo8 n)]) (by omega) (by simp [hl]) (by rw [e2]; omega) (by rw [e2]; omega)
  have e3:∀ z,pre++[IntKind.u8.wrap (lo8 n)]++z=pre++(IntKind.u8.wrap (lo8 n)::z):=fun z=>by simp
  rw [e3] at ih
  refine .step ⟨fun _=>⟨⟨by show pre.length + 1≤_; omega,by show (pre.length + 1) * 1≤_; omega⟩,?_⟩,fun c=>by simp at c; omega⟩ ih
  have t1:Int.tdiv n 256=n / 256:=Int.tdiv_eq_ediv_of_nonneg h0
  have t2:Int.tmod n 256=n % 256:=Int.tmod_eq_emod_of_nonneg h0
  show _=Sum.inl (IntKind.i64.wrap (Int.tdiv n 256),pre++[IntKind.u8.wrap (Int.tmod n 256)],IntKind.i64.wrap ((i:Int) + 1))
  rw [t1,t2,e1,e2,wrap64 (n:=n / 256) (by omega) (by omega),wrap64 (n:=(i:Int) + 1) (by omega) (by omega)]
  rfl
theorem refPutO_ev (n w:Int) (hn:n≤9223372036854775807):ref01_Put_raw n w (putO n w):=by
 refine ⟨fun hc=>by unfold putO; rw [hc]; rfl,fun hc=>?_⟩
 have hc':=hc
 simp only [Bool.or_eq_false_iff,decide_eq_false_iff_not] at hc'
 refine ⟨_,refO_run w (by omega) w.toNat 0 n [] (by omega) rfl (by omega) hn,?_⟩
 unfold putO
 rw [hc]
 refine ⟨fun c=>?_,fun c=>?_⟩
 ·have c':decide (0<restF w.toNat n)=true:=c
  rw [c']; rfl
 ·have c':decide (0<restF w.toNat n)=false:=c
  rw [c']; rfl
def maxS (l:List Int):Prop:=∀ x∈l,x≤9223372036854775807
theorem maxS_nth {l:List Int} (h:maxS l) (i:Nat):nth l (i:Int)≤9223372036854775807:=by
 rw [nth_nat]
 by_cases hi:i<l.length
 ·exact h _ (getD_mem' hi)
 ·rw [List.getD_eq_getElem?_getD,List.getElem?_eq_none (by omega)]; decide
end Go.Proofs.YtdfjbkoimpjkaaaGreat