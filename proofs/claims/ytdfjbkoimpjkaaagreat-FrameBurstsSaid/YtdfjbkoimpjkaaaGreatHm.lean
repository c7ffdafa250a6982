import Derived.Test.YtdfjbkoimpjkaaaGreatCu2
import Derived.Test.YtdfjbkoimpjkaaaGreatBh
import Derived.Test.YtdfjbkoimpjkaaaGreatCt6
import Derived.Test.YtdfjbkoimpjkaaaGreatPn
import Derived.Test.YtdfjbkoimpjkaaaGreatFx
import Derived.Test.YtdfjbkoimpjkaaaGreatWn
import Derived.Test.YtdfjbkoimpjkaaaGreatSl
namespace Go.Proofs.YtdfjbkoimpjkaaaGreat
open Go Go.RowKit
set_option linter.unusedVariables false
set_option linter.unusedSimpArgs false
def octet_Get_b3 (d0:Str) (d1:Int) (d2:Int) (s3:Int × Int) (z3:(Int × Int) ⊕ (Int × Int)):Prop :=
 ((decide (s3.2<d2))=true→((0≤(IntKind.i64.wrap (d1 + s3.2))∧(IntKind.i64.wrap (d1 + s3.2))<(d0.length:Int))∧(decide (0≤(IntKind.i64.wrap ((8:Int) * s3.2)))=true∧(z3=.inl ((IntKind.i64.wrap ((BitVec.ofInt IntKind.i64.bits s3.1 ||| BitVec.ofInt IntKind.i64.bits (IntKind.i64.wrap ((IntKind.i64.wrap ((nth d0 (IntKind.i64.wrap (d1 + s3.2))).toNat:Int)) * 2 ^ min ((IntKind.i64.wrap ((8:Int) * s3.2))).toNat IntKind.i64.bits))).toNat:Int)),(IntKind.i64.wrap (s3.2 + (1:Int))))))))∧((decide (s3.2<d2))=false→(z3=.inr (s3.1,s3.2)))
def octet_Get_raw (d0:Str) (d1:Int) (d2:Int) (y:Int × Int):Prop :=
 (((decide (d2<1))||(decide (7<d2)))=true→(y=((0:Int),(1:Int))))∧(((decide (d2<1))||(decide (7<d2)))=false→(((((decide (d1<0))||(decide ((d0.length:Int)<d1)))||(decide ((IntKind.i64.wrap ((d0.length:Int) - d1))<d2)))=true→(y=((0:Int),(2:Int))))∧((((decide (d1<0))||(decide ((d0.length:Int)<d1)))||(decide ((IntKind.i64.wrap ((d0.length:Int) - d1))<d2)))=false→(∃ x3,LoopR (octet_Get_b3 d0 d1 d2) ((0:Int),(0:Int)) x3∧(y=(x3.1,(0:Int)))))))
set_option maxRecDepth 20000 in
set_option maxHeartbeats 4000000 in
theorem octet_Get_c {L:List Nat} {w:World} (d0:Str) (d1:Int) (d2:Int) (hL:Lt L w) {y:Int × Int} (h:octet_Get_raw d0 d1 d2 y) :
  Calls Tryz.prog 72 [str d0,.int .i64 d1,.int .i64 d2].toArray w (Ret fun v w'=>Ext w w'∧v=.tuple #[.int .i64 y.1,.int .i64 y.2]):=by
 unfold octet_Get_raw at h
 refine calls_ec Tryz.func72 rfl rfl rfl ?_
 refine ec_sr ?_
 iterate 2 refine o_w (v:=.int .i64 0) (r_asg rfl) ?_
 refine eo_nil_sq ?_
 refine ec_seq ?_
 refine ec_block ?_
 refine ec_sr ?_
 refine o_w (v:=.int .i64 d2) (r_mov rfl) ?_
 refine o_w (v:=.bool (decide (d2<1))) (r_int rfl rfl rfl) ?_
 refine o_w (v:=.bool (decide (d2<1))) (r_mov rfl) ?_
 refine o_vg (v:=.int .i64 d2) (want_cf (t:=13) rfl rfl) (fun hk=>(r_mov rfl)) rfl rfl ?_
 refine o_vg (v:=.bool (decide (7<d2))) (want_cf (t:=13) rfl rfl) (fun hk=>(r_int (gdT hk) rfl rfl)) rfl rfl ?_
 refine o_w (v:=.bool ((decide (d2<1))||(decide (7<d2)))) (r_pickOr rfl rfl (fun hf=>(gdT (notT hf)))) ?_
 refine o_w (v:=.bool ((decide (d2<1))||(decide (7<d2)))) (r_asg rfl) ?_
 refine eo_nil_sq ?_
 refine ec_cond rfl (fun hc1=>?_) (fun hc1=>?_)
 ·replace h:=h.1 hc1
  refine ec_sr ?_
  refine o_w (v:=.int .i64 0) (r_asg rfl) ?_
  refine o_w (v:=.int .i64 1) (r_asg rfl) ?_
  refine eo_nil_sq ?_
  refine ec_ret ?_
  refine blk_ret ?_
  refine sq_ret ?_
  subst h
  exact (end2 rfl rfl ⟨_,rfl,(Fr.refl _ _),rfl⟩)
 ·replace h:=h.2 hc1
  refine ec_sr ?_
  refine o_w (v:=.int .i64 d1) (r_mov rfl) ?_
  refine o_w (v:=.bool (decide (d1<0))) (r_int rfl rfl rfl) ?_
  refine o_w (v:=.bool (decide (d1<0))) (r_mov rfl) ?_
  refine o_vg (v:=.int .i64 d1) (want_cf (t:=20) rfl rfl) (fun hk=>(r_mov rfl)) rfl rfl ?_
  refine o_vg (v:=str d0) (want_cf (t:=20) rfl rfl) (fun hk=>(r_mov rfl)) rfl rfl ?_
  refine o_vg (v:=.int .i64 (d0.length:Int)) (want_cf (t:=20) rfl rfl) (fun hk=>(r_len_str un_string (gdT hk))) rfl rfl ?_
  refine o_vg (v:=.bool (decide ((d0.length:Int)<d1))) (want_cf (t:=20) rfl rfl) (fun hk=>(r_int (gdT hk) (gdT hk) rfl)) rfl rfl ?_
  refine o_w (v:=.bool ((decide (d1<0))||(decide ((d0.length:Int)<d1)))) (r_pickOr rfl rfl (fun hf=>(gdT (notT hf)))) ?_
  refine o_w (v:=.bool ((decide (d1<0))||(decide ((d0.length:Int)<d1)))) (r_mov rfl) ?_
  refine o_vg (v:=.int .i64 d2) (want_cf (t:=26) rfl rfl) (fun hk=>(r_mov rfl)) rfl rfl ?_
  refine o_vg (v:=str d0) (want_cf (t:=26) rfl rfl) (fun hk=>(r_mov rfl)) rfl rfl ?_
  refine o_vg (v:=.int .i64 (d0.length:Int)) (want_cf (t:=26) rfl rfl) (fun hk=>(r_len_str un_string (gdT hk))) rfl rfl ?_
  refine o_vg (v:=.int .i64 d1) (want_cf (t:=26) rfl rfl) (fun hk=>(r_mov rfl)) rfl rfl ?_
  refine o_vg (v:=.int .i64 (IntKind.i64.wrap ((d0.length:Int) - d1))) (want_cf (t:=26) rfl rfl) (fun hk=>(r_int (gdT hk) (gdT hk) rfl)) rfl rfl ?_
  refine o_vg (v:=.bool (decide ((IntKind.i64.wrap ((d0.length:Int) - d1))<d2))) (want_cf (t:=26) rfl rfl) (fun hk=>(r_int (gdT hk) (gdT hk) rfl)) rfl rfl ?_
  refine o_w (v:=.bool (((decide (d1<0))||(decide ((d0.length:Int)<d1)))||(decide ((IntKind.i64.wrap ((d0.length:Int) - d1))<d2)))) (r_pickOr rfl rfl (fun hf=>(gdT (notT hf)))) ?_
  refine o_w (v:=.bool (((decide (d1<0))||(decide ((d0.length:Int)<d1)))||(decide ((IntKind.i64.wrap ((d0.length:Int) - d1))<d2)))) (r_asg rfl) ?_
  refine eo_nil_sq ?_
  refine ec_cond rfl (fun hc2=>?_) (fun hc2=>?_)
  ·replace h:=h.1 hc2
   refine ec_sr ?_
   refine o_w (v:=.int .i64 0) (r_asg rfl) ?_
   refine o_w (v:=.int .i64 2) (r_asg rfl) ?_
   refine eo_nil_sq ?_
   refine ec_ret ?_
   refine blk_ret ?_
   refine sq_ret ?_
   subst h
   exact (end2 rfl rfl ⟨_,rfl,(Fr.refl _ _),rfl⟩)
  ·replace h:=h.2 hc2
   refine ec_skip ?_
   refine blk_n ?_
   refine sq_n ?_
   refine ec_sr ?_
   refine o_w (v:=.int .i64 0) (r_asg rfl) ?_
   refine eo_nil_sq ?_
   refine ec_seq ?_
   refine ec_sr ?_
   refine o_w (v:=.int .i64 d2) (r_mov rfl) ?_
   refine o_w (v:=.int .i64 0) (r_mov rfl) ?_
   refine eo_nil_sq ?_
   refine ec_block ?_
   obtain ⟨x3,hl3,h⟩:=h
   refine ec_loopE 1 (I:=(fun (s3:Int × Int) ρ ds w'=>∃ (ρ':Env),ρ=envs ρ' [(8,.int .i64 s3.1),(35,.int .i64 s3.2),(0,str d0),(1,.int .i64 d1),(34,.int .i64 d2)]∧ds=[]∧Fr L w w'∧Ext w w')) ?_ hl3 ?_ ?_
   ·intro s3 z3 ρ3 ds3 w3r hI3 hb3
    obtain ⟨ρ3r,rfl,rfl,F3r,E3r⟩:=hI3
    have h:=hb3
    unfold octet_Get_b3 at h
    refine ec_sr ?_
    refine o_w (v:=.bool (decide (s3.2<d2))) (r_int rfl rfl rfl) ?_
    refine eo_nil_sq ?_
    refine ec_seq ?_
    refine ec_cond rfl (fun hc4=>?_) (fun hc4=>?_)
    ·replace h:=h.1 hc4
     refine ec_skip ?_
     refine sq_n ?_
     refine ec_seq ?_
     refine ec_block ?_
     refine ec_sr ?_
     refine o_w (v:=.int .i64 s3.2) (r_mov rfl) ?_
     refine o_w (v:=.int .i64 s3.2) (r_asg rfl) ?_
     refine eo_q ?_
     refine o_w (v:=.int .i64 s3.1) (r_mov rfl) ?_
     refine o_w (v:=str d0) (r_mov rfl) ?_
     refine o_w (v:=.int .i64 d1) (r_mov rfl) ?_
     refine o_w (v:=.int .i64 s3.2) (r_mov rfl) ?_
     refine o_w (v:=.int .i64 (IntKind.i64.wrap (d1 + s3.2))) (r_int rfl rfl rfl) ?_
     obtain ⟨ha5,h⟩:=h
     refine o_w (v:=.int .u8 ((nth d0 (IntKind.i64.wrap (d1 + s3.2))).toNat:Int)) (r_ix_str un_string rfl rfl ha5.1 ha5.2) ?_
     refine o_w (v:=.int .i64 (IntKind.i64.wrap ((nth d0 (IntKind.i64.wrap (d1 + s3.2))).toNat:Int))) (r_conv un_uint8 un_int rfl) ?_
     refine o_w (v:=.int .i64 s3.2) (r_mov rfl) ?_
     refine o_w (v:=.int .i64 (IntKind.i64.wrap ((8:Int) * s3.2))) (r_int rfl rfl rfl) ?_
     obtain ⟨ha6,h⟩:=h
     refine o_w (v:=.int .i64 (IntKind.i64.wrap ((IntKind.i64.wrap ((nth d0 (IntKind.i64.wrap (d1 + s3.2))).toNat:Int)) * 2 ^ min ((IntKind.i64.wrap ((8:Int) * s3.2))).toNat IntKind.i64.bits))) (r_shl rfl rfl ha6) ?_
     refine o_w (v:=.int .i64 (IntKind.i64.wrap ((BitVec.ofInt IntKind.i64.bits s3.1 ||| BitVec.ofInt IntKind.i64.bits (IntKind.i64.wrap ((IntKind.i64.wrap ((nth d0 (IntKind.i64.wrap (d1 + s3.2))).toNat:Int)) * 2 ^ min ((IntKind.i64.wrap ((8:Int) * s3.2))).toNat IntKind.i64.bits))).toNat:Int))) (r_int rfl rfl rfl) ?_
     refine o_w (v:=.int .i64 (IntKind.i64.wrap ((BitVec.ofInt IntKind.i64.bits s3.1 ||| BitVec.ofInt IntKind.i64.bits (IntKind.i64.wrap ((IntKind.i64.wrap ((nth d0 (IntKind.i64.wrap (d1 + s3.2))).toNat:Int)) * 2 ^ min ((IntKind.i64.wrap ((8:Int) * s3.2))).toNat IntKind.i64.bits))).toNat:Int))) (r_asg rfl) ?_
     refine eo_nil ?_
     refine blk_n ?_
     refine sq_n ?_
     refine ec_region ?_
     refine o_w (v:=.int .i64 (IntKind.i64.wrap (s3.2 + (1:Int)))) (r_int rfl rfl rfl) ?_
     refine o_w (v:=.int .i64 (IntKind.i64.wrap (s3.2 + (1:Int)))) (r_mov rfl) ?_
     refine eo_nil ?_
     subst h
     exact lq_n ⟨_,envs_self ⟨rfl,rfl,rfl,rfl,rfl,trivial⟩,rfl,F3r,E3r⟩
    ·replace h:=h.2 hc4
     refine ec_exit ?_
     refine sq_exit ?_
     subst h
     exact lq_x ⟨_,envs_self ⟨rfl,rfl,rfl,rfl,rfl,trivial⟩,rfl,F3r,E3r⟩
   ·exact ⟨_,envs_self ⟨rfl,rfl,rfl,rfl,rfl,trivial⟩,rfl,(Fr.refl _ _),(Fr.refl _ _)⟩
   ·rintro ρ3e ds3e w3e ⟨ρ3e,rfl,rfl,F3e,E3e⟩
    refine blk_hit ?_
    refine sq_n ?_
    refine ec_sr ?_
    refine o_w (v:=.int .i64 x3.1) (r_mov rfl) ?_
    refine o_w (v:=.int .i64 x3.1) (r_asg rfl) ?_
    refine o_w (v:=.int .i64 0) (r_asg rfl) ?_
    refine eo_nil_sq ?_
    refine ec_ret ?_
    subst h
    exact (end2 rfl rfl ⟨_,rfl,E3e,rfl⟩)

/-- Bytes as a number, the first the least. -/
def leN : List UInt8 → Nat
  | [] => 0
  | b :: l => b.toNat + 256 * leN l
theorem leN_lt:∀ (l:List UInt8),leN l<256 ^ l.length
 | []=>by simp [leN]
 | b::l=>by
  have h1:=leN_lt l
  have h2:b.toNat<256:=b.toNat_lt
  have e:256 ^ (b::l).length=256 * 256 ^ l.length:=by rw [List.length_cons,Nat.pow_succ,Nat.mul_comm]
  rw [e]; simp only [leN]; omega
theorem leN_snoc:∀ (l:List UInt8) (b:UInt8),leN (l++[b])=leN l + b.toNat * 256 ^ l.length
 | [],b=>by simp [leN]
 | c::l,b=>by
  simp only [List.cons_append,leN,leN_snoc l b,List.length_cons,Nat.pow_succ]
  rw [Nat.mul_add,← Nat.add_assoc,Nat.mul_left_comm,Nat.mul_comm 256 (256 ^ l.length)]
def getO (s:Str) (at_ w:Int):Int × Int :=
 bif decide (w<1)||decide (7<w) then (0,1) else bif (decide (at_<0)||decide ((s.length:Int)<at_))||decide ((s.length:Int) - at_<w) then (0,2) else ((leN ((s.drop at_.toNat).take w.toNat):Int),0)
theorem pow256 (k:Nat):(256:Nat) ^ k=2 ^ (8 * k):=by rw [show (256:Nat)=2 ^ 8 from rfl,← Nat.pow_mul]
theorem or_step (n b k:Nat) (hn:n<256 ^ k) (hb:b<256) (hk:k<7) :
  IntKind.i64.wrap ((BitVec.ofInt IntKind.i64.bits (n:Int) ||| BitVec.ofInt IntKind.i64.bits (((b:Int)) * 2 ^ (8 * k))).toNat:Int)=((n + b * 256 ^ k:Nat):Int):=by
 have h7:n + b * 256 ^ k<256 ^ 7:=by
  have h1:(256:Nat) ^ (k + 1)≤256 ^ 7:=Nat.pow_le_pow_right (by decide) (by omega)
  have h2:b * 256 ^ k≤255 * 256 ^ k:=Nat.mul_le_mul_right _ (by omega)
  rw [Nat.pow_succ] at h1; omega
 have e7:(256:Nat) ^ 7=72057594037927936:=by decide
 have hbk:b * 256 ^ k<72057594037927936:=by omega
 have hcast:((b:Int)) * 2 ^ (8 * k)=((b * 256 ^ k:Nat):Int):=by rw [pow256]; simp
 have e:(BitVec.ofInt IntKind.i64.bits (n:Int) ||| BitVec.ofInt IntKind.i64.bits (((b:Int)) * 2 ^ (8 * k))).toNat=n + b * 256 ^ k:=by
  rw [hcast]
  show (BitVec.ofInt 64 ((n:Nat):Int) ||| BitVec.ofInt 64 ((b * 256 ^ k:Nat):Int)).toNat=_
  rw [BitVec.toNat_or,BitVec.ofInt_natCast,BitVec.ofInt_natCast,BitVec.toNat_ofNat,BitVec.toNat_ofNat,Nat.mod_eq_of_lt (by omega),Nat.mod_eq_of_lt (by omega)]
  have:=Nat.two_pow_add_eq_or_of_lt (b:=n) (i:=8 * k) (by rw [← pow256]; exact hn) b
  rw [pow256,Nat.mul_comm b,Nat.or_comm,← this,Nat.add_comm]
 rw [e,wrap64 (by omega) (by omega)]
theorem octGet_run (s:Str) (a w:Nat) (hw:w≤7) (hl:a + w≤s.length) (hs:s.length≤9223372036854775807):∀ (k i:Nat),i + k=w →
  LoopR (octet_Get_b3 s (a:Int) (w:Int)) ((leN ((s.drop a).take i):Int),(i:Int)) ((leN ((s.drop a).take w):Int),(w:Int))
 | 0,i,hi=>by
  obtain rfl:i=w:=by omega
  exact .done ⟨fun c=>by simp at c,fun _=>rfl⟩
 | k + 1,i,hi=>by
  have hlen:((s.drop a).take i).length=i:=by simp; omega
  have hlt:=leN_lt ((s.drop a).take i)
  rw [hlen] at hlt
  have e1:IntKind.i64.wrap ((a:Int) + (i:Int))=((a + i:Nat):Int):=by rw [wrap64 (by omega) (by omega)]; omega
  have e2:IntKind.i64.wrap ((8:Int) * (i:Int))=((8 * i:Nat):Int):=by rw [wrap64 (by omega) (by omega)]; omega
  have hb:(s.getD (a + i) default).toNat<256:=(s.getD (a + i) default).toNat_lt
  have e3:IntKind.i64.wrap ((s.getD (a + i) default).toNat:Int)=((s.getD (a + i) default).toNat:Int):=wrap64 (by omega) (by omega)
  have esn:(s.drop a).take (i + 1)=(s.drop a).take i++[s.getD (a + i) default]:=by
   rw [List.take_add_one]; simp [show a + i<s.length by omega]
  have ih:=octGet_run s a w hw hl hs k (i + 1) (by omega)
  rw [esn,leN_snoc,hlen] at ih
  refine .step ⟨fun _=>?_,fun c=>by simp at c; omega⟩ ih
  simp only [e1,e2,nth_nat,e3]
  refine ⟨⟨by omega,by omega⟩,by rw [decide_eq_true_eq]; omega,?_⟩
  have hp:(256:Nat) ^ i≤256 ^ 6:=Nat.pow_le_pow_right (by decide) (by omega)
  have e6:(256:Nat) ^ 6=281474976710656:=by decide
  have hm:(s.getD (a + i) default).toNat * 256 ^ i≤255 * 281474976710656:=Nat.le_trans (Nat.mul_le_mul_right _ (by omega)) (Nat.mul_le_mul_left _ (by omega))
  have e4:min (((8 * i:Nat):Int)).toNat IntKind.i64.bits=8 * i:=by
   show min (((8 * i:Nat):Int)).toNat 64=8 * i
   rw [Int.toNat_natCast]; omega
  rw [e4]
  have e5:IntKind.i64.wrap (((s.getD (a + i) default).toNat:Int) * 2 ^ (8 * i))=((s.getD (a + i) default).toNat:Int) * 2 ^ (8 * i):=by
   have hc:((s.getD (a + i) default).toNat:Int) * 2 ^ (8 * i)=(((s.getD (a + i) default).toNat * 256 ^ i:Nat):Int):=by rw [pow256]; simp
   rw [hc,wrap64 (by omega) (by omega)]
  rw [e5,or_step _ _ _ hlt hb (by omega),wrap64 (n:=(i:Int) + 1) (by omega) (by omega)]
  rfl
theorem octGet_ev (s:Str) (a w:Int) (hs:s.length≤9223372036854775807):octet_Get_raw s a w (getO s a w):=by
 refine ⟨fun hc=>by unfold getO; rw [hc]; rfl,fun hc=>⟨fun hd=>?_,fun hd=>?_⟩⟩
 ·unfold getO
  rw [hc]
  by_cases ha:(decide (a<0)||decide ((s.length:Int)<a))=true
  ·rw [ha]; rfl
  ·have ha':(decide (a<0)||decide ((s.length:Int)<a))=false:=by simpa using ha
   rw [ha'] at hd ⊢
   simp only [Bool.or_eq_false_iff,decide_eq_false_iff_not] at ha'
   rw [wrap64 (by omega) (by omega)] at hd
   rw [hd]; rfl
 ·simp only [Bool.or_eq_false_iff,decide_eq_false_iff_not] at hc hd
  obtain ⟨⟨hd1,hd2⟩,hd3⟩:=hd
  rw [wrap64 (by omega) (by omega)] at hd3
  obtain ⟨m,rfl⟩:=Int.eq_ofNat_of_zero_le (show 0≤a by omega)
  obtain ⟨n,rfl⟩:=Int.eq_ofNat_of_zero_le (show 0≤w by omega)
  refine ⟨_,by simpa [leN] using octGet_run s m n (by omega) (by omega) hs n 0 (by omega),?_⟩
  have h1:(decide ((n:Int)<1)||decide (7<(n:Int)))=false:=by simp; omega
  have h2:((decide ((m:Int)<0)||decide ((s.length:Int)<(m:Int)))||decide ((s.length:Int) - (m:Int)<(n:Int)))=false:=by simp; omega
  unfold getO
  rw [h1,h2]; rfl

/-- What a panic of the reader bears. -/
abbrev oddC : List PanicEntry := [{ v := .iface 115 (.agg #[]), recovered := false }]
/-- A call of the reader b, that holds s: it tells x and holds t behind that, or it panics. -/
def RdR (b : Nat) (w : World) (z : Option (Value × Str)) : Ending → World → Prop := fun e w' => match z with
  | some (v, t) => e = .returned v ∧ Fr [b] w w' ∧ Blk w' b 119 [str t]
  | none => e = .panicked oddC ∧ Fr [b] w w'
theorem fld_reader_0:Fld Tryz.prog 119 0 0:=⟨_,Tryz.underlying119,_,rfl,rfl,fnz in_string (by decide)⟩
theorem zero_odd:Zero Tryz.prog 115 (.agg #[]):=zero_of (show (Tryz.prog.info? 115).map (fun i=>(i.zero,i.size,i.bytes))=some (some (.agg #[]),0,0) by kernel_rfl)
theorem bld_odd:Bld Tryz.prog 115 [] []:=bld_struct zero_odd rfl Tryz.underlying115 (fun _=>by kernel_rfl)
theorem cf_octet_Get:CF Tryz.prog 72:=fun _ _=>by kernel_rfl
def numR (s:Str) (n:Nat):Option (Value × Str):=if s.length<n then none else some (.int .i64 (leN (s.take n):Int),s.drop n)
def textR (s:Str) (n:Int) (wd:Nat):Option (Value × Str):=if (wd:Int)<n∨s.length<wd then none else some (str (s.take n.toNat),s.drop wd)
theorem conc_odd : Tryz.prog.concrete 115=true:=by kernel_rfl
theorem getO_0 (s:Str) (n:Nat) (h1:1≤n) (h7:n≤7):getO s 0 (n:Int)=if s.length<n then (0,2) else ((leN (s.take n):Int),0):=by
 unfold getO
 have e1:(decide ((n:Int)<1)||decide (7<(n:Int)))=false:=by simp; omega
 rw [e1]
 by_cases h:s.length<n
 ·have e2:((decide ((0:Int)<0)||decide ((s.length:Int)<0))||decide ((s.length:Int) - 0<(n:Int)))=true:=by simp; omega
  rw [e2,if_pos h]; rfl
 ·have e2:((decide ((0:Int)<0)||decide ((s.length:Int)<0))||decide ((s.length:Int) - 0<(n:Int)))=false:=by simp; omega
  rw [e2,if_neg h]; simp
section
variable {ρ : Env} {w : World} {d : Option Nat} {ty : TypeId} {pos : String} {after : Array Edge} {g : Option (Nat × Bool)}
theorem cut_lo {X Y:Operand} {s:Str} {n:Nat} (hX:ev ρ X=str s) (hY:ev ρ Y=.int .i64 (n:Int)) (h:n≤s.length):RunV Tryz.prog ρ w ⟨d,.slice 9 X (some Y) none none,ty,pos,after,g⟩ (str (s.drop n)):=by
 have e:cut s (n:Int) (s.length:Int)=s.drop n:=by simp [cut]
 rw [← e]
 exact r_sl_str un_string hX ⟨_,hY⟩ rfl (by omega) (by omega) (by omega)
theorem cut_hi {X Y:Operand} {s:Str} {n:Nat} (hX:ev ρ X=str s) (hY:ev ρ Y=.int .i64 (n:Int)) (h:n≤s.length):RunV Tryz.prog ρ w ⟨d,.slice 9 X none (some Y) none,ty,pos,after,g⟩ (str (s.take n)):=by
 have e:cut s (0:Int) (n:Int)=s.take n:=by simp [cut]
 rw [← e]
 exact r_sl_str un_string hX rfl ⟨_,hY⟩ (by omega) (by omega) (by omega)
end
set_option maxRecDepth 20000 in
theorem rd_number {w:World} {b:Nat} {s:Str} (HB:Blk w b 119 [str s]) (n:Nat) (h1:1≤n) (h7:n≤7) (hs:s.length≤9223372036854775807) :
  Calls Tryz.prog 74 [.pointer (some ⟨b,0,none⟩),.int .i64 (n:Int)].toArray w (RdR b w (numR s n)):=by
 refine calls_ec Tryz.func74 rfl rfl rfl ?_
 refine ec_sr ?_
 refine o_w (v:=.int .i64 0) (r_asg rfl) ?_
 refine eo_r ?_
 refine o_w (v:=.pointer (some ⟨b,0,none⟩)) (r_mov rfl) ?_
 refine o_w (v:=.pointer (some ⟨b,0,none⟩)) (r_nilchk rfl) ?_
 refine o_w (v:=.pointer (some ⟨b,0,none⟩)) (r_fa fld_reader_0 rfl rfl) ?_
 refine o_w (v:=str s) (r_ld one_string rfl (HB.cell rfl)) ?_
 refine o_w (v:=.int .i64 (n:Int)) (r_mov rfl) ?_
 refine o_call cf_octet_Get rfl (octet_Get_c (L:=[]) s (0:Int) (n:Int) (fun _ hm=>by cases hm) (octGet_ev s 0 (n:Int) hs)) rfl rfl ?_
 rintro _ w1 ⟨F1,rfl⟩
 have B1:=HB.ex F1
 rw [getO_0 s n h1 h7]
 unfold numR
 by_cases h:s.length<n
 ·rw [if_pos h,if_pos h]
  refine o_w (v:=.tuple #[.int .i64 0,.int .i64 2]) (r_mov rfl) ?_
  refine o_w (v:=.int .i64 0) (r_ext rfl rfl) ?_
  refine o_w (v:=.int .i64 2) (r_ext rfl rfl) ?_
  refine o_w (v:=.int .i64 0) (r_asg rfl) ?_
  refine o_w (v:=.int .i64 2) (r_asg rfl) ?_
  refine eo_nil_sq ?_
  refine ec_seq ?_
  refine ec_sr ?_
  refine o_w (v:=.int .i64 2) (r_mov rfl) ?_
  refine o_w (v:=.bool true) (r_int rfl rfl rfl) ?_
  refine eo_nil_sq ?_
  refine ec_condT rfl rfl ?_
  refine ec_region ?_
  refine o_w (v:=.agg #[]) (r_build bld_odd (vs:=[]) (cells:=[]) rfl rfl) ?_
  refine o_w (v:=.iface 115 (.agg #[])) (r_mkif conc_odd rfl) ?_
  refine o_panic rfl rfl ?_
  exact ⟨rfl,rfl,Fr.ext F1⟩
 ·rw [if_neg h,if_neg h]
  refine o_w (v:=.tuple #[.int .i64 (leN (s.take n):Int),.int .i64 0]) (r_mov rfl) ?_
  refine o_w (v:=.int .i64 (leN (s.take n):Int)) (r_ext rfl rfl) ?_
  refine o_w (v:=.int .i64 0) (r_ext rfl rfl) ?_
  refine o_w (v:=.int .i64 (leN (s.take n):Int)) (r_asg rfl) ?_
  refine o_w (v:=.int .i64 0) (r_asg rfl) ?_
  refine eo_nil_sq ?_
  refine ec_seq ?_
  refine ec_sr ?_
  refine o_w (v:=.int .i64 0) (r_mov rfl) ?_
  refine o_w (v:=.bool false) (r_int rfl rfl rfl) ?_
  refine eo_nil_sq ?_
  refine ec_condF rfl rfl ?_
  refine ec_skip ?_
  refine sq_n ?_
  refine ec_sr ?_
  iterate 2 refine o_w (v:=.pointer (some ⟨b,0,none⟩)) (r_mov rfl) ?_
  refine o_w (v:=.pointer (some ⟨b,0,none⟩)) (r_nilchk rfl) ?_
  refine o_w (v:=.pointer (some ⟨b,0,none⟩)) (r_fa fld_reader_0 rfl rfl) ?_
  refine o_w (v:=str s) (r_ld one_string rfl (B1.cell rfl)) ?_
  refine o_w (v:=.int .i64 (n:Int)) (r_mov rfl) ?_
  refine o_w (v:=str (s.drop n)) (cut_lo rfl rfl (by omega)) ?_
  refine o_w (v:=.pointer (some ⟨b,0,none⟩)) (r_nilchk rfl) ?_
  refine o_w (v:=.pointer (some ⟨b,0,none⟩)) (r_fa fld_reader_0 rfl rfl) ?_
  refine o_store rfl B1 (vs:=[str (s.drop n)]) rfl sz_string rfl rfl rfl ?_
  intro w2 F2 B2
  refine eo_r ?_
  refine o_w (v:=.int .i64 (leN (s.take n):Int)) (r_mov rfl) ?_
  refine o_w (v:=.int .i64 (leN (s.take n):Int)) (r_asg rfl) ?_
  refine eo_nil_sq ?_
  refine ec_ret ?_
  exact end1 rfl ⟨rfl,(Fr.ext F1).trans F2,B2⟩
set_option maxRecDepth 20000 in
theorem rd_text {w:World} {b:Nat} {s:Str} (HB:Blk w b 119 [str s]) (n wd:Nat) (hs:s.length≤9223372036854775807) :
  Calls Tryz.prog 75 [.pointer (some ⟨b,0,none⟩),.int .i64 (n:Int),.int .i64 (wd:Int)].toArray w (RdR b w (textR s (n:Int) wd)):=by
 refine calls_ec Tryz.func75 rfl rfl rfl ?_
 refine ec_sr ?_
 refine o_w (v:=str []) (r_asg rfl) ?_
 refine eo_nil_sq ?_
 refine ec_seq ?_
 refine ec_sr ?_
 refine o_w (v:=.int .i64 (n:Int)) (r_mov rfl) ?_
 refine o_w (v:=.int .i64 (wd:Int)) (r_mov rfl) ?_
 refine o_w (v:=.bool (decide ((wd:Int)<(n:Int)))) (r_int rfl rfl rfl) ?_
 refine o_w (v:=.bool (decide ((wd:Int)<(n:Int)))) (r_mov rfl) ?_
 by_cases hc:(wd:Int)<(n:Int)
 ·have hd:decide ((wd:Int)<(n:Int))=true:=by simpa using hc
  iterate 7 refine o_no (want_f (t:=11) rfl rfl hd) rfl ?_
  refine o_w (v:=.bool true) (r_pickT rfl hd rfl) ?_
  refine eo_nil_sq ?_
  refine ec_condT rfl rfl ?_
  refine ec_region ?_
  refine o_w (v:=.agg #[]) (r_build bld_odd (vs:=[]) (cells:=[]) rfl rfl) ?_
  refine o_w (v:=.iface 115 (.agg #[])) (r_mkif conc_odd rfl) ?_
  refine o_panic rfl rfl ?_
  refine ⟨rfl,?_⟩
  unfold textR
  rw [if_pos (.inl hc)]
  exact ⟨rfl,Fr.refl _ _⟩
 ·have hd:decide ((wd:Int)<(n:Int))=false:=by simpa using hc
  refine o_v (v:=.int .i64 (wd:Int)) (r_mov rfl) (want_t (t:=11) rfl rfl hd) rfl rfl ?_
  refine o_v (v:=.pointer (some ⟨b,0,none⟩)) (r_mov rfl) (want_t (t:=11) rfl rfl hd) rfl rfl ?_
  refine o_v (v:=.pointer (some ⟨b,0,none⟩)) (r_nilchk rfl) (want_t (t:=11) rfl rfl hd) rfl rfl ?_
  refine o_v (v:=.pointer (some ⟨b,0,none⟩)) (r_fa fld_reader_0 rfl rfl) (want_t (t:=11) rfl rfl hd) rfl rfl ?_
  refine o_v (v:=str s) (r_ld one_string rfl (HB.cell rfl)) (want_t (t:=11) rfl rfl hd) rfl rfl ?_
  refine o_v (v:=.int .i64 (s.length:Int)) (r_len_str un_string rfl) (want_t (t:=11) rfl rfl hd) rfl rfl ?_
  refine o_v (v:=.bool (decide ((s.length:Int)<(wd:Int)))) (r_int rfl rfl rfl) (want_t (t:=11) rfl rfl hd) rfl rfl ?_
  refine o_w (v:=.bool (decide ((s.length:Int)<(wd:Int)))) (r_pickF rfl hd rfl) ?_
  refine eo_nil_sq ?_
  refine ec_cond rfl (fun h2=>?_) (fun h2=>?_)
  ·refine ec_region ?_
   refine o_w (v:=.agg #[]) (r_build bld_odd (vs:=[]) (cells:=[]) rfl rfl) ?_
   refine o_w (v:=.iface 115 (.agg #[])) (r_mkif conc_odd rfl) ?_
   refine o_panic rfl rfl ?_
   refine ⟨rfl,?_⟩
   unfold textR
   rw [if_pos (.inr (by simpa using h2))]
   exact ⟨rfl,Fr.refl _ _⟩
  ·have h2':wd≤s.length:=by simpa using h2
   refine ec_skip ?_
   refine sq_n ?_
   refine ec_sr ?_
   refine o_w (v:=.pointer (some ⟨b,0,none⟩)) (r_mov rfl) ?_
   refine o_w (v:=.pointer (some ⟨b,0,none⟩)) (r_nilchk rfl) ?_
   refine o_w (v:=.pointer (some ⟨b,0,none⟩)) (r_fa fld_reader_0 rfl rfl) ?_
   refine o_w (v:=str s) (r_ld one_string rfl (HB.cell rfl)) ?_
   refine o_w (v:=.int .i64 (n:Int)) (r_mov rfl) ?_
   refine o_w (v:=str (s.take n)) (cut_hi rfl rfl (by omega)) ?_
   refine o_w (v:=str (s.take n)) (r_asg rfl) ?_
   refine eo_r ?_
   iterate 2 refine o_w (v:=.pointer (some ⟨b,0,none⟩)) (r_mov rfl) ?_
   refine o_w (v:=.pointer (some ⟨b,0,none⟩)) (r_nilchk rfl) ?_
   refine o_w (v:=.pointer (some ⟨b,0,none⟩)) (r_fa fld_reader_0 rfl rfl) ?_
   refine o_w (v:=str s) (r_ld one_string rfl (HB.cell rfl)) ?_
   refine o_w (v:=.int .i64 (wd:Int)) (r_mov rfl) ?_
   refine o_w (v:=str (s.drop wd)) (cut_lo rfl rfl h2') ?_
   refine o_w (v:=.pointer (some ⟨b,0,none⟩)) (r_nilchk rfl) ?_
   refine o_w (v:=.pointer (some ⟨b,0,none⟩)) (r_fa fld_reader_0 rfl rfl) ?_
   refine o_store rfl HB (vs:=[str (s.drop wd)]) rfl sz_string rfl rfl rfl ?_
   intro w2 F2 B2
   refine eo_r ?_
   refine o_w (v:=str (s.take n)) (r_mov rfl) ?_
   refine o_w (v:=str (s.take n)) (r_asg rfl) ?_
   refine eo_nil_sq ?_
   refine ec_ret ?_
   refine end1 (v:=str (s.take n)) rfl ?_
   unfold textR
   rw [if_neg (by omega)]
   exact ⟨by simp,F2,B2⟩

theorem cf_rnumber:CF Tryz.prog 74:=fun _ _=>by kernel_rfl
theorem cf_rtext:CF Tryz.prog 75:=fun _ _=>by kernel_rfl
theorem cf_rcounts:CF Tryz.prog 90:=fun _ _=>by kernel_rfl
theorem cf_rvalue:CF Tryz.prog 76:=fun _ _=>by kernel_rfl
/-- What is read, with no panic. -/
abbrev RdN (b : Nat) (w : World) (v : Value) (t : Str) : Value → World → Prop := fun r w' => r = v ∧ Fr [b] w w' ∧ Blk w' b 119 [str t]
/-- What is read, if there is enough; otherwise a panic. -/
abbrev RdP (b : Nat) (w : World) (ok : Prop) (post : Value → World → Prop) : Ending → World → Prop := fun e w' => (∃ v, e = .returned v ∧ (ok ∧ post v w')) ∨ (∃ c, e = .panicked c ∧ (c = oddC ∧ ¬ ok ∧ Fr [b] w w'))
theorem rd_num {w:World} {b:Nat} {s:Str} (HB:Blk w b 119 [str s]) (n:Nat) (h1:1≤n) (h7:n≤7) (hs:s.length≤9223372036854775807) :
  Calls Tryz.prog 74 [.pointer (some ⟨b,0,none⟩),.int .i64 (n:Int)].toArray w (RdP b w (n≤s.length) (RdN b w (.int .i64 (leN (s.take n):Int)) (s.drop n))):=by
 refine (rd_number HB n h1 h7 hs).mono ?_
 intro e w' h
 unfold RdR numR at h
 by_cases hn:s.length<n
 ·rw [if_pos hn] at h
  exact .inr ⟨_,h.1,rfl,by omega,h.2⟩
 ·rw [if_neg hn] at h
  exact .inl ⟨_,h.1,by omega,rfl,h.2.1,h.2.2⟩
theorem rd_txt {w:World} {b:Nat} {s:Str} (HB:Blk w b 119 [str s]) (n wd:Nat) (hs:s.length≤9223372036854775807) :
  Calls Tryz.prog 75 [.pointer (some ⟨b,0,none⟩),.int .i64 (n:Int),.int .i64 (wd:Int)].toArray w (RdP b w (n≤wd∧wd≤s.length) (RdN b w (str (s.take n)) (s.drop wd))):=by
 refine (rd_text HB n wd hs).mono ?_
 intro e w' h
 unfold RdR textR at h
 by_cases hn:(wd:Int)<(n:Int)∨s.length<wd
 ·rw [if_pos hn] at h
  exact .inr ⟨_,h.1,rfl,by omega,h.2⟩
 ·rw [if_neg hn] at h
  exact .inl ⟨_,h.1,by omega,by simp,h.2.1,h.2.2⟩
theorem rowD_i64 (w:World) (n:Int):RowD (kI .i64) w [.int .i64 n] [n]:=by
 intro i hi
 have:i=0:=by simpa using hi
 subst this
 rfl
/-- Numbers of two bytes. -/
def pairs : Nat → Str → List Int
  | 0, _ => []
  | k + 1, s => (leN (s.take 2) : Int) :: pairs k (s.drop 2)
theorem pairs_snoc:∀ (k:Nat) (s:Str),pairs (k + 1) s=pairs k s++[(leN ((s.drop (2 * k)).take 2):Int)]
 | 0,s=>by simp [pairs]
 | k + 1,s=>by
  rw [pairs,pairs_snoc k (s.drop 2),pairs]
  simp [List.drop_drop,Nat.mul_add,Nat.add_comm]
theorem pairs_len:∀ (k:Nat) (s:Str),(pairs k s).length=k
 | 0,_=>rfl
 | k + 1,s=>by simp [pairs,pairs_len k]
/-- Eight rounds of two bytes each, or too few bytes. -/
def cntP (n : Nat) (i : Nat) (z : Nat ⊕ Bool) : Prop := (i < 8 → 2 * (i + 1) ≤ n → z = .inl (i + 1)) ∧ (i < 8 → n < 2 * (i + 1) → z = .inr false) ∧ (¬ i < 8 → z = .inr true)
theorem cntP_loop1 (n:Nat):∀ (k i:Nat),i + k=8→LoopR (cntP n) i (decide (16≤n)||(decide (n<2 * i)))∨n<2 * i
 | 0,i,h=>by
  by_cases hn:n<2 * i
  ·exact .inr hn
  ·refine .inl (.done ⟨fun c=>by omega,fun c=>by omega,fun _=>?_⟩)
   have:decide (16≤n)=true:=by simp; omega
   rw [this]; rfl
 | k + 1,i,h=>by
  by_cases hn:n<2 * i
  ·exact .inr hn
  ·left
   by_cases h2:n<2 * (i + 1)
   ·refine .done ⟨fun _ c=>by omega,fun _ _=>?_,fun c=>by omega⟩
    have e1:decide (16≤n)=false:=by simp; omega
    have e2:decide (n<2 * i)=false:=by simp; omega
    rw [e1,e2]; rfl
   ·rcases cntP_loop1 n k (i + 1) (by omega) with h3 | h3
    ·refine .step ⟨fun _ _=>rfl,fun _ c=>by omega,fun c=>by omega⟩ ?_
     have e1:decide (n<2 * i)=false:=by simp; omega
     have e2:decide (n<2 * (i + 1))=false:=by simp; omega
     rw [e1]; rwa [e2] at h3
    ·omega
theorem cntP_loop (n:Nat):LoopR (cntP n) 0 (decide (16≤n)):=by
 rcases cntP_loop1 n 8 0 rfl with h | h
 ·simpa using h
 ·omega
set_option maxRecDepth 20000 in
set_option maxHeartbeats 4000000 in
theorem rd_counts {L:List Nat} {w:World} {b:Nat} {s:Str} (hLt:Lt L w) (hbL:b∈L) (HB:Blk w b 119 [str s]) (hs:s.length≤9223372036854775807) :
  Calls Tryz.prog 90 [.pointer (some ⟨b,0,none⟩)].toArray w (RdP b w (16≤s.length) fun r w'=>Fr [b] w w'∧Blk w' b 119 [str (s.drop 16)]∧∃ A c,r=.slice A (pairs 8 s).length c∧Stb L w' (fun w=>SlC (kI .i64) w A c (pairs 8 s))):=by
 refine calls_ec Tryz.func90 rfl rfl rfl ?_
 refine ec_sr ?_
 refine o_w (v:=.slice none 0 0) (r_asg rfl) ?_
 refine eo_r ?_
 refine o_w (v:=.slice none 0 0) (r_asg rfl) ?_
 refine eo_nil_sq ?_
 refine ec_seq ?_
 refine ec_sr ?_
 refine o_w (v:=.int .i64 0) (r_mov rfl) ?_
 refine eo_nil_sq ?_
 refine ec_block ?_
 refine ec_loop (fun (i:Nat) ρ ds w'=>∃ (ρ':Env) (v:Value),ρ=envs ρ' [(4,.int .i64 (i:Int)),(3,v),(0,.pointer (some ⟨b,0,none⟩))]∧ds=[]∧(i≤8∧2 * i≤s.length)∧Fr [b] w w'∧Blk w' b 119 [str (s.drop (2 * i))]∧OwnS (kI .i64) w.heap.size 3 L w' v (pairs i s)) (fun (y:Bool) e ρ ds w'=>(y=true∧16≤s.length∧e=.exit 0∧(fun (i:Nat) ρ ds w'=>∃ (ρ':Env) (v:Value),ρ=envs ρ' [(4,.int .i64 (i:Int)),(3,v),(0,.pointer (some ⟨b,0,none⟩))]∧ds=[]∧(i≤8∧2 * i≤s.length)∧Fr [b] w w'∧Blk w' b 119 [str (s.drop (2 * i))]∧OwnS (kI .i64) w.heap.size 3 L w' v (pairs i s)) 8 ρ ds w')∨(y=false∧s.length<16∧∃ c,e=.panic c∧c=oddC∧ds=[]∧Fr [b] w w')) (body:=cntP s.length) ?_ (cntP_loop s.length) ?_ ?_
 ·intro i z ρ1 ds1 wr hI hb
  obtain ⟨ρr,v,rfl,rfl,hi8,Fr1,Br,Or⟩:=hI
  refine ec_sr ?_
  refine o_w (v:=.bool (decide ((i:Int)<8))) (r_int rfl rfl rfl) ?_
  refine eo_nil_sq ?_
  refine ec_seq ?_
  refine ec_cond rfl (fun hc=>?_) (fun hc=>?_)
  ·have hi:i<8:=by simp at hc; omega
   refine ec_skip ?_
   refine sq_n ?_
   refine ec_seq ?_
   refine ec_block ?_
   refine ec_region ?_
   refine o_w (v:=v) (r_mov rfl) ?_
   refine o_w (v:=.pointer (some ⟨b,0,none⟩)) (r_mov rfl) ?_
   refine o_callP cf_rnumber rfl (rd_num Br 2 (by omega) (by omega) (by rw [List.length_drop]; omega)) rfl rfl ?_ (by
    rintro _ w3 ⟨rfl,hno,F3⟩
    rw [List.length_drop] at hno
    obtain rfl:=hb.2.1 hi (by omega)
    exact ⟨(fun h=>by cases h),.inr ⟨rfl,by omega,_,rfl,rfl,rfl,Fr1.trans F3⟩⟩)
   rintro _ w3 ⟨hok,rfl,F3,B3⟩
   rw [List.length_drop] at hok
   obtain rfl:=hb.1 hi (by omega)
   have O3:=Or.fr F3 (fun m hm=>by rw [List.mem_singleton] at hm; rw [hm]; exact hbL)
   refine o_bslice slc_s_int (vs:=[.int .i64 (leN ((s.drop (2 * i)).take 2):Int)]) (cs:=[.int .i64 (leN ((s.drop (2 * i)).take 2):Int)]) rfl rfl rfl rfl rfl rfl rfl rfl ?_
   intro b4 w4 e4 F4 B4
   refine o_app (ys:=[(leN ((s.drop (2 * i)).take 2):Int)]) slc_s_int rfl rfl rfl (O3.ex F4) rfl B4 rfl rfl rfl (fun w'' _=>rowD_i64 _ _) (by rw [pairs_len]; omega) rfl rfl ?_
   intro v5 w5 F5 O5 N5
   refine o_w (v:=v5) (r_asg rfl) ?_
   refine eo_nil ?_
   refine blk_n ?_
   refine sq_n ?_
   refine ec_region ?_
   have e1:IntKind.i64.wrap ((i:Int) + (1:Int))=((i + 1:Nat):Int):=wrapS hi (by omega)
   refine o_w (v:=.int .i64 ((i + 1:Nat):Int)) (r_int rfl rfl (by show some (Value.int .i64 (IntKind.i64.wrap ((i:Int) + (1:Int))))=_; rw [e1])) ?_
   refine o_w (v:=.int .i64 ((i + 1:Nat):Int)) (r_mov rfl) ?_
   refine eo_nil ?_
   refine ⟨rfl,_,_,envs_self ⟨rfl,rfl,rfl,trivial⟩,rfl,⟨by omega,by omega⟩,?_,?_,by rw [pairs_snoc]; exact O5⟩
   ·exact ((Fr1.trans F3).trans (Fr.ext F4)).stp F5 (fun m hm=>.inr (O3.lo m hm))
   ·rw [List.drop_drop] at B3
    rw [show 2 * (i + 1)=2 * i + 2 by omega]
    exact (B3.ex F4).fr F5 (fun hm=>(O3.below b hbL).2 hm)
  ·have hi:¬ i<8:=by simp at hc; omega
   obtain rfl:=hb.2.2 hi
   obtain rfl:i=8:=by omega
   refine ec_exit ?_
   refine sq_exit ?_
   exact ⟨(fun h=>by cases h),.inl ⟨rfl,by omega,rfl,_,_,envs_self ⟨rfl,rfl,rfl,trivial⟩,rfl,hi8,Fr1,Br,Or⟩⟩
 ·exact ⟨_,_,envs_self ⟨rfl,rfl,rfl,trivial⟩,rfl,⟨by omega,by omega⟩,Fr.refl _ _,by simpa using HB,OwnS.nil (by decide) hLt⟩
 ·rintro e ρ3 ds3 w3 - (⟨_,hok,rfl,ρ3',v,rfl,rfl,_,F3,B3,O3⟩ | ⟨_,hno,c,rfl,rfl,rfl,F3⟩)
  rotate_left
  ·exact ⟨rfl,.inr ⟨_,rfl,rfl,by omega,F3⟩⟩
  obtain ⟨A,c,rfl,H⟩:=O3.still
  refine blk_hit ?_
  refine sq_n ?_
  refine ec_sr ?_
  refine o_w (v:=.slice A (pairs 8 s).length c) (r_mov rfl) ?_
  refine o_w (v:=.slice A (pairs 8 s).length c) (r_asg rfl) ?_
  refine eo_nil_sq ?_
  refine ec_ret ?_
  exact end1 rfl (.inl ⟨_,rfl,hok,F3,B3,A,c,rfl,H⟩)

def flR (s:Str):Int:=(IntKind.u64.wrap ((BitVec.ofInt IntKind.u64.bits (IntKind.u64.wrap (leN (s.take 4):Int)) ||| BitVec.ofInt IntKind.u64.bits (IntKind.u64.wrap ((IntKind.u64.wrap (leN ((s.drop 4).take 4):Int)) * 2 ^ min ((32:Int)).toNat IntKind.u64.bits))).toNat:Int))
def readV (k:Int) (s:Str):Val :=
 bif k==1 then ⟨k,(leN (s.take 4):Int),(leN ((s.drop 4).take 1):Int),((leN (((s.drop 4).drop 1).take 1):Int)==1),((((((s.drop 4).drop 1).drop 1)).drop 1).take (leN (((((s.drop 4).drop 1).drop 1)).take 1))),[],[],0⟩ else bif k==2 then ⟨k,0,0,false,[],pairs 8 s,pairs 8 (s.drop 16),0⟩ else bif k==3 then ⟨k,0,0,false,[],[],[],flR s⟩ else ⟨k,0,0,false,[],[],[],0⟩
/-- There is enough of a value's bytes. -/
def okS (k : Int) (s : Str) : Prop := (k = 1 → leN (((((s.drop 4).drop 1).drop 1)).take 1) ≤ 8 ∧ 15 ≤ s.length) ∧ (k = 2 → 32 ≤ s.length) ∧ (k = 3 → 8 ≤ s.length)
theorem Stb.weakb {L:List Nat} {x y:Nat} {w:World} {φ:World→Prop} (h:Stb (x::y::L) w φ):Stb L w φ:=fun w' ha=>h w' (fun k hk hn=>ha k hk (fun hm=>hn (List.mem_cons_of_mem _ (List.mem_cons_of_mem _ hm))))
def VS (w0:World) (b b4 b5:Nat) (t:Str) (c5:List Value) (w:World):Prop:=(b4≠b∧b5≠b∧b4≠b5∧w0.heap.size≤b5∧w0.heap.size≤b4)∧Fr [b] w0 w∧Blk w b 119 [str t]∧Blk w b4 53 [.int .i64 0,.int .i64 0,.int .i64 0,.bool false,str [],.slice none 0 0,.slice none 0 0,.int .u64 0]∧Blk w b5 53 c5
theorem VS.ex {w0 w w':World} {b b4 b5:Nat} {t:Str} {c:List Value} (h:VS w0 b b4 b5 t c w) (f:Ext w w'):VS w0 b b4 b5 t c w':=⟨h.1,h.2.1.trans (Fr.ext f),h.2.2.1.ex f,h.2.2.2.1.ex f,h.2.2.2.2.ex f⟩
theorem VS.rd {w0 w w':World} {b b4 b5:Nat} {t t':Str} {c:List Value} (h:VS w0 b b4 b5 t c w) (F:Fr [b] w w') (R:Blk w' b 119 [str t']):VS w0 b b4 b5 t' c w' :=
 ⟨h.1,h.2.1.trans F,R,h.2.2.2.1.fr F (by simpa using h.1.1),h.2.2.2.2.fr F (by simpa using h.1.2.1)⟩
theorem VS.st {w0 w w':World} {b b4 b5:Nat} {t:Str} {c c':List Value} (h:VS w0 b b4 b5 t c w) (F:Fr [b5] w w') (X:Blk w' b5 53 c'):VS w0 b b4 b5 t c' w' :=
 ⟨h.1,h.2.1.stp F (fun m hm=>by rw [List.mem_singleton] at hm; rw [hm]; exact .inr h.1.2.2.2.1),h.2.2.1.fr F (by simpa using h.1.2.1.symm),h.2.2.2.1.fr F (by simpa using h.1.2.2.1),X⟩
set_option maxRecDepth 20000 in
set_option maxHeartbeats 8000000 in
theorem rd_value {L:List Nat} {w:World} {b:Nat} {s:Str} (hL:Lt L w) (hbL:b∈L) (HB:Blk w b 119 [str s]) (k:Int) (hs:s.length≤9223372036854775807) :
  Calls Tryz.prog 76 [.pointer (some ⟨b,0,none⟩),.int .i64 k].toArray w (RdP b w (okS k s) fun r w'=>Fr [b] w w'∧∃ A1 c1 A2 c2,r=.agg (cVal (readV k s) A1 c1 A2 c2).toArray∧Stb L w' (fun w=>SlC (kI .i64) w A1 c1 (readV k s).plus)∧Stb L w' (fun w=>SlC (kI .i64) w A2 c2 (readV k s).minus)):=by
 refine calls_ec Tryz.func76 rfl rfl rfl ?_
 refine ec_sr ?_
 refine o_alloc zero_api_Value rfl rfl rfl ?_
 intro b4 w1 e4 F1 B4
 refine eo_r ?_
 refine o_w (v:=.int .i64 k) (r_mov rfl) ?_
 refine o_w (v:=.agg ([.int .i64 k,.int .i64 (0),.int .i64 (0),.bool (false),str ([]),.slice none 0 0,.slice none 0 0,.int .u64 (0)]:List Value).toArray) (r_build bld_api_Value (vs:=[(0,.int .i64 k)]) (cells:=[.int .i64 k,.int .i64 (0),.int .i64 (0),.bool (false),str ([]),.slice none 0 0,.slice none 0 0,.int .u64 (0)]) rfl rfl) ?_
 refine o_alloc zero_api_Value rfl rfl rfl ?_
 intro b5 w2 e5 F2 B5
 refine o_store rfl B5 (vs:=[.int .i64 k,.int .i64 (0),.int .i64 (0),.bool (false),str ([]),.slice none 0 0,.slice none 0 0,.int .u64 (0)]) rfl sz_api_Value rfl rfl rfl ?_
 intro w3 F3 X3
 have n4:b4≠b:=by have:=HB.lt; omega
 have n45:b4≠b5:=by have:=B4.lt; omega
 have hsz:=F1.size
 have n5:b5≠b:=by have:=HB.lt; omega
 have h5:w.heap.size≤b5:=by omega
 have H:VS w b b4 b5 s [.int .i64 k,.int .i64 (0),.int .i64 (0),.bool (false),str ([]),.slice none 0 0,.slice none 0 0,.int .u64 (0)] w3:=⟨⟨n4,n5,n45,h5,by omega⟩,(Fr.ext (F1.trans F2)).stp F3 (fun m hm=>by rw [List.mem_singleton] at hm; rw [hm]; exact .inr h5),((HB.ex F1).ex F2).fr F3 (by simpa using n5.symm),(B4.ex F2).fr F3 (by simpa using n45),X3⟩
 refine eo_nil_sq ?_
 refine ec_seq ?_
 refine ec_sr ?_
 refine o_w (v:=.int .i64 k) (r_mov rfl) ?_
 refine eo_nil_sq ?_
 refine ec_block ?_
 refine ec_sr ?_
 refine o_w (v:=.bool (k==1)) (r_int rfl rfl rfl) ?_
 refine o_w (v:=.bool (k==1)) (r_asg rfl) ?_
 refine eo_nil_sq ?_
 refine ec_cond rfl (fun hk1=>?_) (fun hk1=>?_)
 · -- a register
  have hk:k=1:=by simpa using hk1
  refine ec_sr ?_
  refine o_w (v:=.pointer (some ⟨b,0,none⟩)) (r_mov rfl) ?_
  refine o_callP cf_rnumber rfl (rd_num H.2.2.1 4 (by omega) (by omega) (by (try simp only [List.length_drop]); omega)) rfl rfl ?_ (by
    rintro _ w' ⟨rfl,hno,G⟩
    refine ⟨rfl,.inr ⟨_,rfl,rfl,fun hq=>?_,H.2.1.trans G⟩⟩
    have hq:=hq.1 hk
    (try simp only [List.length_drop] at hno); omega)
  rintro _ w' ⟨hok,rfl,G,R⟩
  replace H:=H.rd G R
  refine o_w (v:=.pointer (some ⟨b,0,none⟩)) (r_mov rfl) ?_
  refine o_callP cf_rnumber rfl (rd_num H.2.2.1 1 (by omega) (by omega) (by (try simp only [List.length_drop]); omega)) rfl rfl ?_ (by
    rintro _ w' ⟨rfl,hno,G⟩
    refine ⟨rfl,.inr ⟨_,rfl,rfl,fun hq=>?_,H.2.1.trans G⟩⟩
    have hq:=hq.1 hk
    (try simp only [List.length_drop] at hno); omega)
  rintro _ w' ⟨hok,rfl,G,R⟩
  replace H:=H.rd G R
  refine o_w (v:=.pointer (some ⟨b5,1,none⟩)) (r_fa fld_api_Value_1 rfl rfl) ?_
  refine o_store rfl H.2.2.2.2 (vs:=[.int .i64 (leN (s.take 4):Int)]) rfl sz_int rfl rfl rfl ?_
  intro w' G X
  replace H:=H.st (c':=[.int .i64 k,.int .i64 ((leN (s.take 4):Int)),.int .i64 (0),.bool (false),str ([]),.slice none 0 0,.slice none 0 0,.int .u64 (0)]) G X
  refine o_w (v:=.pointer (some ⟨b5,2,none⟩)) (r_fa fld_api_Value_2 rfl rfl) ?_
  refine o_store rfl H.2.2.2.2 (vs:=[.int .i64 (leN ((s.drop 4).take 1):Int)]) rfl sz_int rfl rfl rfl ?_
  intro w' G X
  replace H:=H.st (c':=[.int .i64 k,.int .i64 ((leN (s.take 4):Int)),.int .i64 ((leN ((s.drop 4).take 1):Int)),.bool (false),str ([]),.slice none 0 0,.slice none 0 0,.int .u64 (0)]) G X
  refine eo_r ?_
  refine o_w (v:=.pointer (some ⟨b,0,none⟩)) (r_mov rfl) ?_
  refine o_callP cf_rnumber rfl (rd_num H.2.2.1 1 (by omega) (by omega) (by (try simp only [List.length_drop]); omega)) rfl rfl ?_ (by
    rintro _ w' ⟨rfl,hno,G⟩
    refine ⟨rfl,.inr ⟨_,rfl,rfl,fun hq=>?_,H.2.1.trans G⟩⟩
    have hq:=hq.1 hk
    (try simp only [List.length_drop] at hno); omega)
  rintro _ w' ⟨hok,rfl,G,R⟩
  replace H:=H.rd G R
  refine o_w (v:=.bool ((leN (((s.drop 4).drop 1).take 1):Int)==1)) (r_int rfl rfl rfl) ?_
  refine o_w (v:=.pointer (some ⟨b5,3,none⟩)) (r_fa fld_api_Value_3 rfl rfl) ?_
  refine o_store rfl H.2.2.2.2 (vs:=[.bool ((leN (((s.drop 4).drop 1).take 1):Int)==1)]) rfl sz_bool rfl rfl rfl ?_
  intro w' G X
  replace H:=H.st (c':=[.int .i64 k,.int .i64 ((leN (s.take 4):Int)),.int .i64 ((leN ((s.drop 4).take 1):Int)),.bool (((leN (((s.drop 4).drop 1).take 1):Int)==1)),str ([]),.slice none 0 0,.slice none 0 0,.int .u64 (0)]) G X
  refine eo_q ?_
  iterate 2 refine o_w (v:=.pointer (some ⟨b,0,none⟩)) (r_mov rfl) ?_
  refine o_callP cf_rnumber rfl (rd_num H.2.2.1 1 (by omega) (by omega) (by (try simp only [List.length_drop]); omega)) rfl rfl ?_ (by
    rintro _ w' ⟨rfl,hno,G⟩
    refine ⟨rfl,.inr ⟨_,rfl,rfl,fun hq=>?_,H.2.1.trans G⟩⟩
    have hq:=hq.1 hk
    (try simp only [List.length_drop] at hno); omega)
  rintro _ w' ⟨hok,rfl,G,R⟩
  replace H:=H.rd G R
  refine o_callP cf_rtext rfl (rd_txt H.2.2.1 (leN (((((s.drop 4).drop 1).drop 1)).take 1)) 8 (by (try simp only [List.length_drop]); omega)) rfl rfl ?_ (by
    rintro _ w' ⟨rfl,hno,G⟩
    refine ⟨rfl,.inr ⟨_,rfl,rfl,fun hq=>?_,H.2.1.trans G⟩⟩
    have hq:=hq.1 hk
    (try simp only [List.length_drop] at hno); omega)
  rintro _ w' ⟨hok,rfl,G,R⟩
  replace H:=H.rd G R
  refine o_w (v:=.pointer (some ⟨b5,4,none⟩)) (r_fa fld_api_Value_4 rfl rfl) ?_
  refine o_store rfl H.2.2.2.2 (vs:=[str ((((((s.drop 4).drop 1).drop 1)).drop 1).take (leN (((((s.drop 4).drop 1).drop 1)).take 1)))]) rfl sz_string rfl rfl rfl ?_
  intro w' G X
  replace H:=H.st (c':=[.int .i64 k,.int .i64 ((leN (s.take 4):Int)),.int .i64 ((leN ((s.drop 4).take 1):Int)),.bool (((leN (((s.drop 4).drop 1).take 1):Int)==1)),str (((((((s.drop 4).drop 1).drop 1)).drop 1).take (leN (((((s.drop 4).drop 1).drop 1)).take 1)))),.slice none 0 0,.slice none 0 0,.int .u64 (0)]) G X
  refine eo_nil ?_
  refine blk_n ?_
  refine sq_n ?_
  refine ec_sr ?_
  refine o_w (v:=.agg ([.int .i64 k,.int .i64 ((leN (s.take 4):Int)),.int .i64 ((leN ((s.drop 4).take 1):Int)),.bool (((leN (((s.drop 4).drop 1).take 1):Int)==1)),str (((((((s.drop 4).drop 1).drop 1)).drop 1).take (leN (((((s.drop 4).drop 1).drop 1)).take 1)))),.slice none 0 0,.slice none 0 0,.int .u64 (0)]:List Value).toArray) (r_lda agg_api_Value rfl (vs:=[.int .i64 k,.int .i64 ((leN (s.take 4):Int)),.int .i64 ((leN ((s.drop 4).take 1):Int)),.bool (((leN (((s.drop 4).drop 1).take 1):Int)==1)),str (((((((s.drop 4).drop 1).drop 1)).drop 1).take (leN (((((s.drop 4).drop 1).drop 1)).take 1)))),.slice none 0 0,.slice none 0 0,.int .u64 (0)]) rfl (H.2.2.2.2.part (o:=0) (n:=8) rfl)) ?_
  refine o_store rfl H.2.2.2.1 (vs:=[.int .i64 k,.int .i64 ((leN (s.take 4):Int)),.int .i64 ((leN ((s.drop 4).take 1):Int)),.bool (((leN (((s.drop 4).drop 1).take 1):Int)==1)),str (((((((s.drop 4).drop 1).drop 1)).drop 1).take (leN (((((s.drop 4).drop 1).drop 1)).take 1)))),.slice none 0 0,.slice none 0 0,.int .u64 (0)]) rfl sz_api_Value rfl rfl rfl ?_
  intro w' G X
  refine eo_nil_sq ?_
  refine ec_ret ?_
  exact endr1 (rv_a rfl agg_api_Value X (vs:=[.int .i64 k,.int .i64 ((leN (s.take 4):Int)),.int .i64 ((leN ((s.drop 4).take 1):Int)),.bool (((leN (((s.drop 4).drop 1).take 1):Int)==1)),str (((((((s.drop 4).drop 1).drop 1)).drop 1).take (leN (((((s.drop 4).drop 1).drop 1)).take 1)))),.slice none 0 0,.slice none 0 0,.int .u64 (0)]) rfl rfl) (.inl ⟨_,rfl,⟨fun _=>(by (try simp only [List.length_drop] at *); omega),fun c=>absurd c (by omega),fun c=>absurd c (by omega)⟩,H.2.1.stp G (fun m hm=>by rw [List.mem_singleton] at hm; rw [hm]; exact .inr H.1.2.2.2.2),none,0,none,0,by unfold readV; rw [hk1,cond_true]; simp only [cVal,List.drop_drop,List.length_nil],by unfold readV; rw [hk1,cond_true]; exact stb_nil,by unfold readV; rw [hk1,cond_true]; exact stb_nil⟩)
 ·refine ec_seq ?_
  refine ec_region ?_
  refine o_w (v:=.bool (k==2)) (r_int rfl rfl rfl) ?_
  refine o_w (v:=.bool (k==2)) (r_asg rfl) ?_
  refine eo_nil_sq ?_
  refine ec_cond rfl (fun hk2=>?_) (fun hk2=>?_)
  · -- a counter
   have hk:k=2:=by simpa using hk2
   refine ec_region ?_
   have hLt:Lt (b5::b4::L) w3:=((hL.fr H.2.1).cons H.2.2.2.1.lt).cons H.2.2.2.2.lt
   refine o_w (v:=.pointer (some ⟨b,0,none⟩)) (r_mov rfl) ?_
   refine o_callP cf_rcounts rfl (rd_counts hLt (by simp [hbL]) H.2.2.1 (by omega)) rfl rfl ?_ (by
     rintro _ w' ⟨rfl,hno,G⟩
     refine ⟨rfl,.inr ⟨_,rfl,rfl,fun hq=>?_,H.2.1.trans G⟩⟩
     have hq:=hq.2.1 hk
     (try simp only [List.length_drop] at hno); omega)
   rintro _ wa ⟨hok,Ga,Ra,A1,c1,rfl,S1⟩
   have hLt2:=hLt.fr Ga
   replace H:=H.rd Ga Ra
   refine o_w (v:=.pointer (some ⟨b,0,none⟩)) (r_mov rfl) ?_
   refine o_callP cf_rcounts rfl (rd_counts hLt2 (by simp [hbL]) H.2.2.1 (by (try simp only [List.length_drop]); omega)) rfl rfl ?_ (by
     rintro _ w' ⟨rfl,hno,G⟩
     refine ⟨rfl,.inr ⟨_,rfl,rfl,fun hq=>?_,H.2.1.trans G⟩⟩
     have hq:=hq.2.1 hk
     (try simp only [List.length_drop] at hno); omega)
   rintro _ wb ⟨hok2,Gb,Rb,A2,c2,rfl,S2⟩
   replace H:=H.rd Gb Rb
   have S1b:=S1.fr Gb (by simp [hbL])
   refine o_w (v:=.pointer (some ⟨b5,5,none⟩)) (r_fa fld_api_Value_5 rfl rfl) ?_
   refine o_store rfl H.2.2.2.2 (vs:=[.slice A1 (pairs 8 s).length c1]) rfl sz_s_int rfl rfl rfl ?_
   intro w' G X
   replace H:=H.st (c':=[.int .i64 k,.int .i64 (0),.int .i64 (0),.bool (false),str ([]),.slice A1 (pairs 8 s).length c1,.slice none 0 0,.int .u64 (0)]) G X
   replace S1b:=S1b.fr G (by simp)
   replace S2:=S2.fr G (by simp)
   refine o_w (v:=.pointer (some ⟨b5,6,none⟩)) (r_fa fld_api_Value_6 rfl rfl) ?_
   refine o_store rfl H.2.2.2.2 (vs:=[.slice A2 (pairs 8 (s.drop 16)).length c2]) rfl sz_s_int rfl rfl rfl ?_
   intro w' G X
   replace H:=H.st (c':=[.int .i64 k,.int .i64 (0),.int .i64 (0),.bool (false),str ([]),.slice A1 (pairs 8 s).length c1,.slice A2 (pairs 8 (s.drop 16)).length c2,.int .u64 (0)]) G X
   replace S1b:=S1b.fr G (by simp)
   replace S2:=S2.fr G (by simp)
   refine eo_nil ?_
   refine blk_n ?_
   refine sq_n ?_
   refine ec_sr ?_
   refine o_w (v:=.agg ([.int .i64 k,.int .i64 (0),.int .i64 (0),.bool (false),str ([]),.slice A1 (pairs 8 s).length c1,.slice A2 (pairs 8 (s.drop 16)).length c2,.int .u64 (0)]:List Value).toArray) (r_lda agg_api_Value rfl (vs:=[.int .i64 k,.int .i64 (0),.int .i64 (0),.bool (false),str ([]),.slice A1 (pairs 8 s).length c1,.slice A2 (pairs 8 (s.drop 16)).length c2,.int .u64 (0)]) rfl (H.2.2.2.2.part (o:=0) (n:=8) rfl)) ?_
   refine o_store rfl H.2.2.2.1 (vs:=[.int .i64 k,.int .i64 (0),.int .i64 (0),.bool (false),str ([]),.slice A1 (pairs 8 s).length c1,.slice A2 (pairs 8 (s.drop 16)).length c2,.int .u64 (0)]) rfl sz_api_Value rfl rfl rfl ?_
   intro w' G X
   refine eo_nil_sq ?_
   refine ec_ret ?_
   exact endr1 (rv_a rfl agg_api_Value X (vs:=[.int .i64 k,.int .i64 (0),.int .i64 (0),.bool (false),str ([]),.slice A1 (pairs 8 s).length c1,.slice A2 (pairs 8 (s.drop 16)).length c2,.int .u64 (0)]) rfl rfl) (.inl ⟨_,rfl,⟨fun c=>absurd c (by omega),fun _=>(by (try simp only [List.length_drop] at *); omega),fun c=>absurd c (by omega)⟩,H.2.1.stp G (fun m hm=>by rw [List.mem_singleton] at hm; rw [hm]; exact .inr H.1.2.2.2.2),A1,c1,A2,c2,by unfold readV; rw [hk1,hk2,cond_false,cond_true],by unfold readV; rw [hk1,hk2,cond_false,cond_true]; exact (S1b.fr G (by simp)).weakb,by unfold readV; rw [hk1,hk2,cond_false,cond_true]; exact (S2.fr G (by simp)).weakb⟩)
  ·refine ec_seq ?_
   refine ec_region ?_
   refine o_w (v:=.bool (k==3)) (r_int rfl rfl rfl) ?_
   refine o_w (v:=.bool (k==3)) (r_asg rfl) ?_
   refine eo_nil_sq ?_
   refine ec_cond rfl (fun hk3=>?_) (fun hk3=>?_)
   · -- flags
    refine ec_sr ?_
    refine o_w (v:=.pointer (some ⟨b,0,none⟩)) (r_mov rfl) ?_
    refine o_callP cf_rnumber rfl (rd_num H.2.2.1 4 (by omega) (by omega) (by (try simp only [List.length_drop]); omega)) rfl rfl ?_ (by
      rintro _ w' ⟨rfl,hno,G⟩
      refine ⟨rfl,.inr ⟨_,rfl,rfl,fun hq=>?_,H.2.1.trans G⟩⟩
      have hq:=hq.2.2 (by simpa using hk3)
      (try simp only [List.length_drop] at hno); omega)
    rintro _ w' ⟨hok,rfl,G,R⟩
    replace H:=H.rd G R
    refine o_w (v:=.int .u64 (IntKind.u64.wrap (leN (s.take 4):Int))) (r_conv un_int un_uint64 rfl) ?_
    refine o_w (v:=.pointer (some ⟨b5,7,none⟩)) (r_fa fld_api_Value_7 rfl rfl) ?_
    refine o_store rfl H.2.2.2.2 (vs:=[.int .u64 (IntKind.u64.wrap (leN (s.take 4):Int))]) rfl sz_uint64 rfl rfl rfl ?_
    intro w' G X
    replace H:=H.st (c':=[.int .i64 k,.int .i64 (0),.int .i64 (0),.bool (false),str ([]),.slice none 0 0,.slice none 0 0,.int .u64 ((IntKind.u64.wrap (leN (s.take 4):Int)))]) G X
    refine eo_nil_sq ?_
    refine ec_anyNIP (by kernel_rfl) [[],[0],[],[2],[2,3],[2,3,4],[0,1,2,3,4,5],[],[0,1,2,3,4,5,6,7]] [40,41,42,43,44,45,46,47] [b,b5] [3,8] [[b],[b5]] [[3,4,5,6,8],[8]]
     [fun w'=>VS w b b4 b5 (s.drop 4) [.int .i64 k,.int .i64 (0),.int .i64 (0),.bool (false),str ([]),.slice none 0 0,.slice none 0 0,.int .u64 ((IntKind.u64.wrap (leN (s.take 4):Int)))] w',fun w'=>VS w b b4 b5 ((s.drop 4).drop 4) [.int .i64 k,.int .i64 (0),.int .i64 (0),.bool (false),str ([]),.slice none 0 0,.slice none 0 0,.int .u64 ((IntKind.u64.wrap (leN (s.take 4):Int)))] w'∧8≤s.length,fun w'=>VS w b b4 b5 ((s.drop 4).drop 4) [.int .i64 k,.int .i64 (0),.int .i64 (0),.bool (false),str ([]),.slice none 0 0,.slice none 0 0,.int .u64 ((IntKind.u64.wrap ((BitVec.ofInt IntKind.u64.bits (IntKind.u64.wrap (leN (s.take 4):Int)) ||| BitVec.ofInt IntKind.u64.bits (IntKind.u64.wrap ((IntKind.u64.wrap (leN ((s.drop 4).take 4):Int)) * 2 ^ min ((32:Int)).toNat IntKind.u64.bits))).toNat:Int)))] w'∧8≤s.length]
     [fun v _=>v=(.pointer (some ⟨b5,7,none⟩):Value),fun v _=>v=(.int .u64 (IntKind.u64.wrap (leN (s.take 4):Int)):Value),fun v _=>v=(.pointer (some ⟨b,0,none⟩):Value),fun v _=>v=(.int .i64 (leN ((s.drop 4).take 4):Int):Value),fun v _=>v=(.int .u64 (IntKind.u64.wrap (leN ((s.drop 4).take 4):Int)):Value),fun v _=>v=(.int .u64 (IntKind.u64.wrap ((IntKind.u64.wrap (leN ((s.drop 4).take 4):Int)) * 2 ^ min ((32:Int)).toNat IntKind.u64.bits)):Value),fun v _=>v=(.int .u64 (IntKind.u64.wrap ((BitVec.ofInt IntKind.u64.bits (IntKind.u64.wrap (leN (s.take 4):Int)) ||| BitVec.ofInt IntKind.u64.bits (IntKind.u64.wrap ((IntKind.u64.wrap (leN ((s.drop 4).take 4):Int)) * 2 ^ min ((32:Int)).toNat IntKind.u64.bits))).toNat:Int)):Value),fun v _=>v=(.pointer (some ⟨b5,7,none⟩):Value),fun _ _=>True]
     (by kernel_rfl) (fun M hM m hm=>by simp at hM; rcases hM with rfl | rfl <;> simp at hm <;> simp [hm])
     ⟨fun _ _ _ _ _ h=>h,fun _ _ _ _ _ h=>h,fun _ _ _ _ _ h=>h,fun _ _ _ _ _ h=>h,fun _ _ _ _ _ h=>h,fun _ _ _ _ _ h=>h,fun _ _ _ _ _ h=>h,fun _ _ _ _ _ h=>h,fun _ _ _ _ _ h=>h,trivial⟩
     ⟨⟨fun _ _ _ _ _ h=>h,fun _ _ _ _ _ h=>h,fun _ _ _ _ _ h=>h,fun _ _ _ _ _ h=>h,fun _ _ _ _ _ h=>h,fun _ _ _ _ _ h=>h,fun _ _ _ _ _ h=>h,fun _ _ _ _ _ h=>h,fun _ _ _ _ _ h=>h,trivial⟩,⟨fun _ _ _ _ _ h=>h,fun _ _ _ _ _ h=>h,fun _ _ _ _ _ h=>h,fun _ _ _ _ _ h=>h,fun _ _ _ _ _ h=>h,fun _ _ _ _ _ h=>h,fun _ _ _ _ _ h=>h,fun _ _ _ _ _ h=>h,fun _ _ _ _ _ h=>h,trivial⟩,trivial⟩
     ⟨fun w' w'' F h=>h.ex F,fun w' w'' F h=>⟨h.1.ex F,h.2⟩,fun w' w'' F h=>⟨h.1.ex F,h.2⟩,trivial⟩ H ?_ ?_ ?_
    ·refine ⟨?_,?_,?_,?_,?_,?_,?_,?_,?_,trivial⟩
     ·intro _ ρ w2 F2 hX hS hρ hI
      have q:ρ 5=.pointer (some ⟨b5,0,none⟩):=hρ 5 (by kernel_rfl)
      exact o_q (r_fa fld_api_Value_7 rfl q) ⟨Fr.refl _ _,rfl⟩
     ·intro _ ρ w2 F2 hX hS hρ hI
      have q:ρ 40=.pointer (some ⟨b5,7,none⟩):=hS 0 (by decide) 40 rfl
      obtain ⟨kk,hIk,hkm⟩:=hI
      have hk1':=hkm 1 8 rfl rfl
      have hB5:Blk w2 b5 53 [.int .i64 k,.int .i64 (0),.int .i64 (0),.bool (false),str ([]),.slice none 0 0,.slice none 0 0,.int .u64 ((IntKind.u64.wrap (leN (s.take 4):Int)))]:=by
       match kk,hk1',hIk with
       | 0,_,h=>exact h.2.2.2.2
       | 1,_,h=>exact h.1.2.2.2.2
      exact o_q (r_ld one_uint64 q (hB5.cell rfl)) ⟨Fr.refl _ _,rfl⟩
     ·intro _ ρ w2 F2 hX hS hρ hI
      have q:ρ 0=.pointer (some ⟨b,0,none⟩):=hρ 0 (by kernel_rfl)
      exact o_q (r_mov q) ⟨Fr.refl _ _,rfl⟩
     ·intro hT; exact absurd hT (by decide)
     ·intro _ ρ w2 F2 hX hS hρ hI
      have q:ρ 43=.int .i64 (leN ((s.drop 4).take 4):Int):=hS 3 (by decide) 43 rfl
      exact o_q (r_conv un_int un_uint64 q) ⟨Fr.refl _ _,rfl⟩
     ·intro _ ρ w2 F2 hX hS hρ hI
      have q:ρ 44=.int .u64 (IntKind.u64.wrap (leN ((s.drop 4).take 4):Int)):=hS 4 (by decide) 44 rfl
      exact o_q (r_shl q rfl rfl) ⟨Fr.refl _ _,rfl⟩
     ·intro _ ρ w2 F2 hX hS hρ hI
      have q1:ρ 41=.int .u64 (IntKind.u64.wrap (leN (s.take 4):Int)):=hS 1 (by decide) 41 rfl
      have q2:ρ 45=.int .u64 (IntKind.u64.wrap ((IntKind.u64.wrap (leN ((s.drop 4).take 4):Int)) * 2 ^ min ((32:Int)).toNat IntKind.u64.bits)):=hS 5 (by decide) 45 rfl
      exact o_q (r_int q1 q2 rfl) ⟨Fr.refl _ _,rfl⟩
     ·intro _ ρ w2 F2 hX hS hρ hI
      have q:ρ 5=.pointer (some ⟨b5,0,none⟩):=hρ 5 (by kernel_rfl)
      exact o_q (r_fa fld_api_Value_7 rfl q) ⟨Fr.refl _ _,rfl⟩
     ·intro hT; exact absurd hT (by decide)
    ·refine ⟨⟨_,rfl,?_⟩,⟨_,rfl,?_⟩,trivial⟩
     ·intro ρ w2 F2 hX hI hS hρ
      have q:ρ 42=.pointer (some ⟨b,0,none⟩):=hS 2 (by decide) 42 rfl
      have hI':VS w b b4 b5 (s.drop 4) [.int .i64 k,.int .i64 (0),.int .i64 (0),.bool (false),str ([]),.slice none 0 0,.slice none 0 0,.int .u64 ((IntKind.u64.wrap (leN (s.take 4):Int)))] w2:=hI
      refine o_callP cf_rnumber (by simp only [List.map,ev,q] <;> rfl) (rd_num hI'.2.2.1 4 (by omega) (by omega) (by (try simp only [List.length_drop]); omega)) rfl rfl ?_ (by
        rintro _ w' ⟨rfl,hno,G⟩
        refine .inr ⟨_,rfl,rfl,.inr ⟨_,rfl,rfl,fun hq=>?_,hI'.2.1.trans G⟩⟩
        have hq:=hq.2.2 (by simpa using hk3)
        (try simp only [List.length_drop] at hno); omega)
      rintro _ w' ⟨hok,rfl,G,R⟩
      exact eo_nil (.inl ⟨rfl,rfl,_,rfl,G,⟨hI'.rd G R,by simp only [List.length_drop] at hok; omega⟩,rfl⟩)
     ·intro ρ w2 F2 hX hI hS hρ
      have q1:ρ 47=.pointer (some ⟨b5,7,none⟩):=hS 7 (by decide) 47 rfl
      have q2:ρ 46=.int .u64 (IntKind.u64.wrap ((BitVec.ofInt IntKind.u64.bits (IntKind.u64.wrap (leN (s.take 4):Int)) ||| BitVec.ofInt IntKind.u64.bits (IntKind.u64.wrap ((IntKind.u64.wrap (leN ((s.drop 4).take 4):Int)) * 2 ^ min ((32:Int)).toNat IntKind.u64.bits))).toNat:Int)):=hS 6 (by decide) 46 rfl
      have hI':VS w b b4 b5 ((s.drop 4).drop 4) [.int .i64 k,.int .i64 (0),.int .i64 (0),.bool (false),str ([]),.slice none 0 0,.slice none 0 0,.int .u64 ((IntKind.u64.wrap (leN (s.take 4):Int)))] w2:=hI.1
      refine o_store (show ev ρ _=_ from q1) hI'.2.2.2.2 (vs:=[.int .u64 (IntKind.u64.wrap ((BitVec.ofInt IntKind.u64.bits (IntKind.u64.wrap (leN (s.take 4):Int)) ||| BitVec.ofInt IntKind.u64.bits (IntKind.u64.wrap ((IntKind.u64.wrap (leN ((s.drop 4).take 4):Int)) * 2 ^ min ((32:Int)).toNat IntKind.u64.bits))).toNat:Int))]) (congrArg Value.cells q2) sz_uint64 rfl rfl rfl ?_
      intro w' G X
      exact eo_nil (.inl ⟨rfl,rfl,undef,rfl,G,⟨hI'.st G X,hI.2⟩,trivial⟩)
    ·intro ρ w2 F2 hI hS hρ
     have h8:8≤s.length:=hI.2
     replace H:VS w b b4 b5 ((s.drop 4).drop 4) [.int .i64 k,.int .i64 (0),.int .i64 (0),.bool (false),str ([]),.slice none 0 0,.slice none 0 0,.int .u64 ((IntKind.u64.wrap ((BitVec.ofInt IntKind.u64.bits (IntKind.u64.wrap (leN (s.take 4):Int)) ||| BitVec.ofInt IntKind.u64.bits (IntKind.u64.wrap ((IntKind.u64.wrap (leN ((s.drop 4).take 4):Int)) * 2 ^ min ((32:Int)).toNat IntKind.u64.bits))).toNat:Int)))] w2:=hI.1
     have r4:ρ 4=.pointer (some ⟨b4,0,none⟩):=hρ 4 (by kernel_rfl)
     have r5:ρ 5=.pointer (some ⟨b5,0,none⟩):=hρ 5 (by kernel_rfl)
     refine blk_n ?_
     refine sq_n ?_
     refine ec_sr ?_
     refine o_w (v:=.agg ([.int .i64 k,.int .i64 (0),.int .i64 (0),.bool (false),str ([]),.slice none 0 0,.slice none 0 0,.int .u64 ((IntKind.u64.wrap ((BitVec.ofInt IntKind.u64.bits (IntKind.u64.wrap (leN (s.take 4):Int)) ||| BitVec.ofInt IntKind.u64.bits (IntKind.u64.wrap ((IntKind.u64.wrap (leN ((s.drop 4).take 4):Int)) * 2 ^ min ((32:Int)).toNat IntKind.u64.bits))).toNat:Int)))]:List Value).toArray) (r_lda agg_api_Value r5 (vs:=[.int .i64 k,.int .i64 (0),.int .i64 (0),.bool (false),str ([]),.slice none 0 0,.slice none 0 0,.int .u64 ((IntKind.u64.wrap ((BitVec.ofInt IntKind.u64.bits (IntKind.u64.wrap (leN (s.take 4):Int)) ||| BitVec.ofInt IntKind.u64.bits (IntKind.u64.wrap ((IntKind.u64.wrap (leN ((s.drop 4).take 4):Int)) * 2 ^ min ((32:Int)).toNat IntKind.u64.bits))).toNat:Int)))]) rfl (H.2.2.2.2.part (o:=0) (n:=8) rfl)) ?_
     refine o_store (show ev _ _=_ from r4) H.2.2.2.1 (vs:=[.int .i64 k,.int .i64 (0),.int .i64 (0),.bool (false),str ([]),.slice none 0 0,.slice none 0 0,.int .u64 ((IntKind.u64.wrap ((BitVec.ofInt IntKind.u64.bits (IntKind.u64.wrap (leN (s.take 4):Int)) ||| BitVec.ofInt IntKind.u64.bits (IntKind.u64.wrap ((IntKind.u64.wrap (leN ((s.drop 4).take 4):Int)) * 2 ^ min ((32:Int)).toNat IntKind.u64.bits))).toNat:Int)))]) rfl sz_api_Value rfl rfl rfl ?_
     intro w' G X
     refine eo_nil_sq ?_
     refine ec_ret ?_
     exact endr1 (rv_a r4 agg_api_Value X (vs:=[.int .i64 k,.int .i64 (0),.int .i64 (0),.bool (false),str ([]),.slice none 0 0,.slice none 0 0,.int .u64 ((IntKind.u64.wrap ((BitVec.ofInt IntKind.u64.bits (IntKind.u64.wrap (leN (s.take 4):Int)) ||| BitVec.ofInt IntKind.u64.bits (IntKind.u64.wrap ((IntKind.u64.wrap (leN ((s.drop 4).take 4):Int)) * 2 ^ min ((32:Int)).toNat IntKind.u64.bits))).toNat:Int)))]) rfl rfl) (.inl ⟨_,rfl,⟨fun c=>absurd c (by simpa using hk1),fun c=>absurd c (by simpa using hk2),fun _=>h8⟩,H.2.1.stp G (fun m hm=>by rw [List.mem_singleton] at hm; rw [hm]; exact .inr H.1.2.2.2.2),none,0,none,0,by unfold readV; rw [hk1,hk2,hk3]; rfl,by unfold readV; rw [hk1,hk2,hk3]; exact stb_nil,by unfold readV; rw [hk1,hk2,hk3]; exact stb_nil⟩)
   ·refine ec_skip ?_
    refine blk_n ?_
    refine sq_n ?_
    refine ec_sr ?_
    refine o_w (v:=.agg ([.int .i64 k,.int .i64 (0),.int .i64 (0),.bool (false),str ([]),.slice none 0 0,.slice none 0 0,.int .u64 (0)]:List Value).toArray) (r_lda agg_api_Value rfl (vs:=[.int .i64 k,.int .i64 (0),.int .i64 (0),.bool (false),str ([]),.slice none 0 0,.slice none 0 0,.int .u64 (0)]) rfl (H.2.2.2.2.part (o:=0) (n:=8) rfl)) ?_
    refine o_store rfl H.2.2.2.1 (vs:=[.int .i64 k,.int .i64 (0),.int .i64 (0),.bool (false),str ([]),.slice none 0 0,.slice none 0 0,.int .u64 (0)]) rfl sz_api_Value rfl rfl rfl ?_
    intro w' G X
    refine eo_nil_sq ?_
    refine ec_ret ?_
    exact endr1 (rv_a rfl agg_api_Value X (vs:=[.int .i64 k,.int .i64 (0),.int .i64 (0),.bool (false),str ([]),.slice none 0 0,.slice none 0 0,.int .u64 (0)]) rfl rfl) (.inl ⟨_,rfl,⟨fun c=>absurd c (by simpa using hk1),fun c=>absurd c (by simpa using hk2),fun c=>absurd c (by simpa using hk3)⟩,H.2.1.stp G (fun m hm=>by rw [List.mem_singleton] at hm; rw [hm]; exact .inr H.1.2.2.2.2),none,0,none,0,by unfold readV; rw [hk1,hk2,hk3]; rfl,by unfold readV; rw [hk1,hk2,hk3]; exact stb_nil,by unfold readV; rw [hk1,hk2,hk3]; exact stb_nil⟩)

def EOS (P:Program) (N:Nat) (ops:Array Oper) (Q:Exit→Act→List Frame→World→Prop) (l:List Nat) (ρ:Env) (cs:List Frame) (w:World):Prop :=
 ∀ a:Act,a.tmps.size=N→envOf a=ρ→a.defers=[]→wpOpsSIn (FW none) 0 P ops Q l a cs w
section
variable {P : Program} {N : Nat} {ops : Array Oper} {Q : Exit → Act → List Frame → World → Prop} {rest : List Nat} {ρ : Env} {cs : List Frame} {w w' : World} {i d : Nat}
theorem eos_v {op:Op} {ty:TypeId} {pos:String} {after:Array Edge} {v:Value} (ho:ops[i]?=some ⟨some d,op,ty,pos,after,none⟩) (hr:(execOp (ev ρ) ⟨some d,op,ty,pos,after,none⟩).run P w=.ok (.value v) w') (hd:Nat.blt d N=true) (h:EOS P N ops Q rest (upd ρ d v) cs w') :
  EOS P N ops Q (i::rest) ρ cs w:=fun a h1 h2 h3=>by
 unfold wpOpsSIn
 rw [ho]
 refine ⟨fun _ _=>trivial,?_⟩
 have hw:Region.wanted (⟨some d,op,ty,pos,after,none⟩:Oper) (yielded ops a.tmps)=true:=rfl
 rw [if_pos hw,← ev_envOf,h2,hr]
 exact h _ (by rw [put_size]; exact h1) (by rw [envOf_put _ _ _ (by rw [h1]; exact hd),h2]; rfl) (by rw [put_defers']; exact h3)
theorem eos_u {op:Op} {ty:TypeId} {pos:String} {after:Array Edge} (ho:ops[i]?=some ⟨none,op,ty,pos,after,none⟩) (hr:(execOp (ev ρ) ⟨none,op,ty,pos,after,none⟩).run P w=.ok .skip w') (h:EOS P N ops Q rest ρ cs w') :
  EOS P N ops Q (i::rest) ρ cs w:=fun a h1 h2 h3=>by
 unfold wpOpsSIn
 rw [ho]
 refine ⟨fun _ _=>trivial,?_⟩
 have hw:Region.wanted (⟨none,op,ty,pos,after,none⟩:Oper) (yielded ops a.tmps)=true:=rfl
 rw [if_pos hw,← ev_envOf,h2,hr]
 exact h _ h1 h2 h3
theorem eos_rec {op:Op} {ty:TypeId} {pos:String} {after:Array Edge} (ho:ops[i]?=some ⟨some d,op,ty,pos,after,none⟩) (hr:(execOp (ev ρ) ⟨some d,op,ty,pos,after,none⟩).run P w=.ok .recover w) (hc:recoverD cs=none) (hd:Nat.blt d N=true) (h:EOS P N ops Q rest (upd ρ d .nilIface) cs w) :
  EOS P N ops Q (i::rest) ρ cs w:=fun a h1 h2 h3=>by
 unfold wpOpsSIn
 rw [ho]
 refine ⟨fun _ _=>trivial,?_⟩
 have hw:Region.wanted (⟨some d,op,ty,pos,after,none⟩:Oper) (yielded ops a.tmps)=true:=rfl
 rw [if_pos hw,← ev_envOf,h2,hr]
 simp only [hc]
 exact h _ (by rw [put_size]; exact h1) (by rw [envOf_put _ _ _ (by rw [h1]; exact hd),h2]; rfl) (by rw [put_defers']; exact h3)
theorem eos_store {T:TypeId} {X Y:Operand} {b o:Nat} {e:TypeId} {c0 vs:List Value} {ty:TypeId} {pos:String} {after:Array Edge} (ho:ops[i]?=some ⟨none,.store T X Y,ty,pos,after,none⟩) (hX:ev ρ X=.pointer (some ⟨b,o,none⟩)) (hB:Blk w b e c0) (hY:(ev ρ Y).cells=vs.toArray)
  (hT:Sz P T vs.length) (h1:vs.all oneC=true) (hl:Nat.ble (o + vs.length) c0.length=true) (h:∀ w',Fr [b] w w'→Blk w' b e (setL c0 o vs)→EOS P N ops Q rest ρ cs w') :
  EOS P N ops Q (i::rest) ρ cs w:=by
 obtain ⟨j,h2,h3⟩:=hT
 obtain ⟨w',hr,hf,hb⟩:=run_storeL (P:=P) (o:=o) vs 0 c0 w hB h1 (by have:=Nat.le_of_ble_eq_true hl; omega)
 refine eos_u (w':=w') ho ?_ (h w' hf hb)
 simp [execOp,hX,Instr.storeAt,Instr.sureAddr,storeVar,hY,sizeOf,typeInfo,h2,h3,hr,program,Sem.run,Result.andThen]
theorem eos_nil (h:∀ a:Act,a.tmps.size=N→envOf a=ρ→a.defers=[]→Q .normal a cs w):EOS P N ops Q [] ρ cs w:=fun a h1 h2 h3=>by
 unfold wpOpsSIn; exact h a h1 h2 h3
end
theorem envOf_base (args:Array Value) (n:Nat):envOf { tmps:=args++Array.replicate n undef,defers:=[] }=base args:=by
 funext t
 simp only [envOf,base,Array.getD_eq_getD_getElem?,List.getD_eq_getElem?_getD,Array.getElem?_append,Array.getElem?_toList]
 by_cases h1:t<args.size
 ·simp [h1]
 ·rw [if_neg h1,Array.getElem?_eq_none (Nat.le_of_not_lt h1)]
  simp only [Array.getElem?_replicate]
  split <;> rfl
theorem un_odd:∃ fs,Tryz.prog.underlying 115=some (.struct fs):=⟨_,Tryz.underlying115⟩
theorem assert_nil (w:World) (xT:TypeId):(Instr.typeAssert .nilIface xT 115 true).run Tryz.prog w=.ok (.tuple #[.agg #[],.bool false]) w:=by
 obtain ⟨fs,hu⟩:=un_odd
 obtain ⟨i,h1,h2⟩:=zero_odd
 simp [Instr.typeAssert,run_underlying hu,zeroValue,typeInfo,h1,h2,program,Sem.run,Result.andThen]
theorem sz_odd:Sz Tryz.prog 115 0:=sz_of (show (Tryz.prog.info? 115).map (fun i=>(i.zero,i.size,i.bytes))=some (some (.agg #[]),0,0) by kernel_rfl)
set_option maxRecDepth 20000 in
set_option maxHeartbeats 4000000 in
theorem get1_idle (b2 b3:Nat) (w:World):CallsDIn (FW none) 0 Tryz.prog 73 #[.pointer (some ⟨b2,0,none⟩),.pointer (some ⟨b3,0,none⟩)] .returning w fun e u' w'=>(∃ v,e=.returned v)∧u'=.returning∧Ext w w':=by
 refine callsDIn_of_wpSIn Tryz.func73 rfl trivial fun c₀ cs hu=>?_
 apply wpSIn_seq
 apply wpSIn_region
 have hc:recoverD (c₀::cs)=none:=by simp [recoverD,hu]
 have hself:({ c₀ with mode:=.returning }:Frame)=c₀:=by rw [← hu]
 refine (?_:EOS Tryz.prog 11 _ _ [0,1,2,3,4,5,6,7] (base #[.pointer (some ⟨b2,0,none⟩),.pointer (some ⟨b3,0,none⟩)]) (c₀::cs) w) _ (by rfl) ?_ rfl
 ·refine eos_rec rfl (by rfl) hc rfl ?_
  refine eos_v (w':=w) (v:=.tuple #[.agg #[],.bool false]) rfl (by simp [execOp,ev,upd,assert_nil]) rfl ?_
  refine eos_v (w':=w) (v:=.tuple #[.agg #[],.bool false]) rfl (r_mov rfl) rfl ?_
  refine eos_v (w':=w) (v:=.agg #[]) rfl (r_ext rfl rfl) rfl ?_
  refine eos_v (w':=w) (v:=.bool false) rfl (r_ext rfl rfl) rfl ?_
  have hz:(zeroValue 115).run Tryz.prog w=.ok (.agg #[]) w:=by
   obtain ⟨i,h1,h2⟩:=zero_odd
   simp [zeroValue,typeInfo,h1,h2,program,Sem.run,Result.andThen]
  refine eos_v (w':=w.alloc (.cells #[] 115)) (v:=.pointer (some ⟨w.heap.size,0,none⟩)) rfl (by
   simp only [execOp,Instr.alloc,Sem.run_bind,hz,Result.andThen,newVar,newRow,newObj]; rfl) rfl ?_
  have hB:Blk (w.alloc (.cells #[] 115)) w.heap.size 115 []:=Blk.alloc w 115 []
  refine eos_store rfl rfl hB (vs:=[]) rfl sz_odd rfl rfl ?_
  intro w1 hf _
  have E1:Ext w w1:=Ext.st (Ext.alloc w _) hf (fun m hm=>by rw [List.mem_singleton] at hm; rw [hm]; exact Nat.le_refl _)
  refine eos_v (w':=w1) (v:=.bool false) rfl (r_asg rfl) rfl ?_
  refine eos_nil fun a h1 h2 h3=>?_
  refine wpSIn_of_wpIn rfl ?_
  refine wpIn_mono ((?hE:EC Tryz.prog none 11 _ (fun e ρ ds w'=>e=.normal∧ds=[]∧Ext w w') _ [] w1) a h1 h2 h3) ?_
  case hE =>
   refine ec_sr ?_
   refine o_w (v:=.bool false) (r_mov rfl) ?_
   refine eo_nil_sq ?_
   refine ec_condF rfl rfl ?_
   exact ec_skip ⟨rfl,rfl,E1⟩
  rintro e a' w' ⟨hs,rfl,hd,hx⟩
  exact ⟨hd,.returning,by rw [hself],.tuple #[],by (rw [← resE_envOf]; show (resE #[] _).run _ _=_; simp [resE]),⟨_,rfl⟩,rfl,hx⟩
 ·exact envOf_base _ _
section
variable {P : Program} {N : Nat} {ops : Array Oper} {Q : Exit → Act → List Frame → World → Prop} {rest : List Nat} {ρ : Env} {cs cs' : List Frame} {w : World} {i d : Nat}
theorem eos_rec2 {op:Op} {ty:TypeId} {pos:String} {after:Array Edge} {v:Value} (ho:ops[i]?=some ⟨some d,op,ty,pos,after,none⟩) (hr:(execOp (ev ρ) ⟨some d,op,ty,pos,after,none⟩).run P w=.ok .recover w) (hc:recoverD cs=some (v,cs')) (hd:Nat.blt d N=true) (h:EOS P N ops Q rest (upd ρ d v) cs' w) :
  EOS P N ops Q (i::rest) ρ cs w:=fun a h1 h2 h3=>by
 unfold wpOpsSIn
 rw [ho]
 refine ⟨fun _ _=>trivial,?_⟩
 have hw:Region.wanted (⟨some d,op,ty,pos,after,none⟩:Oper) (yielded ops a.tmps)=true:=rfl
 rw [if_pos hw,← ev_envOf,h2,hr]
 simp only [hc]
 exact h _ (by rw [put_size]; exact h1) (by rw [envOf_put _ _ _ (by rw [h1]; exact hd),h2]; rfl) (by rw [put_defers']; exact h3)
end
theorem assert_odd (w:World) (xT:TypeId):(Instr.typeAssert (.iface 115 (.agg #[])) xT 115 true).run Tryz.prog w=.ok (.tuple #[.agg #[],.bool true]) w:=by
 obtain ⟨fs,hu⟩:=un_odd
 simp [Instr.typeAssert,run_underlying hu]
/-- The panic of the reader, when it has been recovered. -/
abbrev oddD : List PanicEntry := [{ v := .iface 115 (.agg #[]), recovered := true }]
set_option maxRecDepth 20000 in
set_option maxHeartbeats 4000000 in
theorem get1_caught {b2 b3:Nat} {w:World} (B2:Blk w b2 55 (cEnt zeroE none 0 none 0)) (B3:Blk w b3 31 [.int .i64 0]) (h23:b2≠b3) :
  CallsDIn (FW none) 0 Tryz.prog 73 #[.pointer (some ⟨b2,0,none⟩),.pointer (some ⟨b3,0,none⟩)] (.panicking oddC) w fun e u' w'=>(∃ v,e=.returned v)∧u'=.panicking oddD∧Fr [b2,b3] w w'∧Blk w' b2 55 (cEnt zeroE none 0 none 0)∧Blk w' b3 31 [.int .i64 2]:=by
 refine callsDIn_of_wpSIn Tryz.func73 rfl trivial fun c₀ cs hu=>?_
 apply wpSIn_seq
 apply wpSIn_region
 have hc:recoverD (c₀::cs)=some (.iface 115 (.agg #[]),{ c₀ with mode:=.panicking oddD }::cs):=by simp [recoverD,hu]
 refine (?_:EOS Tryz.prog 11 _ _ [0,1,2,3,4,5,6,7] (base #[.pointer (some ⟨b2,0,none⟩),.pointer (some ⟨b3,0,none⟩)]) (c₀::cs) w) _ (by rfl) ?_ rfl
 ·refine eos_rec2 rfl (by rfl) hc rfl ?_
  refine eos_v (w':=w) (v:=.tuple #[.agg #[],.bool true]) rfl (by simp [execOp,ev,upd,assert_odd]) rfl ?_
  refine eos_v (w':=w) (v:=.tuple #[.agg #[],.bool true]) rfl (r_mov rfl) rfl ?_
  refine eos_v (w':=w) (v:=.agg #[]) rfl (r_ext rfl rfl) rfl ?_
  refine eos_v (w':=w) (v:=.bool true) rfl (r_ext rfl rfl) rfl ?_
  have hz:(zeroValue 115).run Tryz.prog w=.ok (.agg #[]) w:=by
   obtain ⟨i,h1,h2⟩:=zero_odd
   simp [zeroValue,typeInfo,h1,h2,program,Sem.run,Result.andThen]
  refine eos_v (w':=w.alloc (.cells #[] 115)) (v:=.pointer (some ⟨w.heap.size,0,none⟩)) rfl (by
   simp only [execOp,Instr.alloc,Sem.run_bind,hz,Result.andThen,newVar,newRow,newObj]; rfl) rfl ?_
  have hB:Blk (w.alloc (.cells #[] 115)) w.heap.size 115 []:=Blk.alloc w 115 []
  refine eos_store rfl rfl hB (vs:=[]) rfl sz_odd rfl rfl ?_
  intro w1 hf _
  have E1:Ext w w1:=Ext.st (Ext.alloc w _) hf (fun m hm=>by rw [List.mem_singleton] at hm; rw [hm]; exact Nat.le_refl _)
  refine eos_v (w':=w1) (v:=.bool true) rfl (r_asg rfl) rfl ?_
  refine eos_nil fun a h1 h2 h3=>?_
  refine wpSIn_of_wpIn rfl ?_
  refine wpIn_mono ((?hE:EC Tryz.prog none 11 _ (fun e ρ ds w'=>e=.normal∧ds=[]∧Fr [b2,b3] w w'∧Blk w' b2 55 (cEnt zeroE none 0 none 0)∧Blk w' b3 31 [.int .i64 2]) _ [] w1) a h1 h2 h3) ?_
  case hE =>
   refine ec_sr ?_
   refine o_w (v:=.bool true) (r_mov rfl) ?_
   refine eo_nil_sq ?_
   refine ec_condT rfl rfl ?_
   refine ec_region ?_
   refine o_w (v:=.agg (cEnt zeroE none 0 none 0).toArray) (r_build bld_api_Entry (vs:=[]) (cells:=cEnt zeroE none 0 none 0) rfl rfl) ?_
   refine o_store rfl (B2.ex E1) (vs:=cEnt zeroE none 0 none 0) rfl sz_api_Entry rfl rfl rfl ?_
   intro w12 F12 B212
   refine o_store rfl ((B3.ex E1).fr F12 (by simpa using h23.symm)) (vs:=[.int .i64 2]) rfl sz_api_Errno rfl rfl rfl ?_
   intro w13 F13 B313
   refine eo_nil ?_
   exact ⟨rfl,rfl,((Fr.ext E1).stp F12 (fun m hm=>.inl (by simp at hm; simp [hm]))).stp F13 (fun m hm=>.inl (by simp at hm; simp [hm])),B212.fr F13 (by simpa using h23),B313⟩
  rintro e a' w' ⟨hs,rfl,hd,hx⟩
  exact ⟨hd,.panicking oddD,rfl,.tuple #[],by (rw [← resE_envOf]; show (resE #[] _).run _ _=_; simp [resE]),⟨_,rfl⟩,rfl,hx⟩
 ·exact envOf_base _ _

theorem takeA {a b:Str} {n:Nat} (h:a.length=n):(a++b).take n=a:=by subst h; simp
theorem dropA {a b:Str} {n:Nat} (h:a.length=n):(a++b).drop n=b:=by subst h; simp
theorem lo8_nat (n:Nat):IntKind.u8.wrap (lo8 (n:Int))=((n % 256:Nat):Int):=by
 have e:(BitVec.ofInt IntKind.i64.bits (n:Int) &&& BitVec.ofInt IntKind.i64.bits (255:Int)).toNat=n % 256:=by
  rw [BitVec.toNat_and,BitVec.toNat_ofInt,BitVec.toNat_ofInt]
  have h64:IntKind.i64.bits=64:=rfl
  rw [h64]
  have e1:((n:Int) % ((2 ^ 64:Nat):Int)).toNat=n % 2 ^ 64:=by omega
  have e2:((255:Int) % ((2 ^ 64:Nat):Int)).toNat=2 ^ 8 - 1:=by decide
  rw [e1,e2,Nat.and_two_pow_sub_one_eq_mod]; omega
 unfold lo8
 rw [e,wrap64 (by omega) (by omega)]
 show (((n % 256:Nat):Int)) % 256=_
 omega
theorem sh8_nat (n:Nat):sh8 (n:Int)=((n / 256:Nat):Int):=by
 unfold sh8
 rw [show (2 ^ min ((8:Int)).toNat IntKind.i64.bits:Int)=256 from by decide,Int.fdiv_eq_ediv_of_nonneg _ (by decide)]; omega
theorem bytes_nat:∀ (k n:Nat),n<256 ^ k→restF k (n:Int)=0∧leN (bstr (bytesF k (n:Int)))=n
 | 0,n,h=>by
  obtain rfl:n=0:=by simpa using h
  exact ⟨rfl,rfl⟩
 | k + 1,n,h=>by
  have h':n / 256<256 ^ k:=by rw [Nat.pow_succ] at h; exact Nat.div_lt_of_lt_mul (by rw [Nat.mul_comm]; exact h)
  obtain ⟨i1,i2⟩:=bytes_nat k (n / 256) h'
  refine ⟨by show restF k (sh8 (n:Int))=0; rw [sh8_nat]; exact i1,?_⟩
  show leN (bstr (IntKind.u8.wrap (lo8 (n:Int))::bytesF k (sh8 (n:Int))))=n
  rw [lo8_nat,sh8_nat]
  have e:(UInt8.ofNat (((n % 256:Nat):Int)).toNat).toNat=n % 256:=by
   rw [Int.toNat_natCast]; simp
  show (UInt8.ofNat (((n % 256:Nat):Int)).toNat).toNat + 256 * leN (bstr (bytesF k ((n / 256:Nat):Int)))=n
  rw [e,i2]; omega
theorem putO_fit {n:Int} (w:Nat) (h1:1≤w) (h7:w≤7) (h0:0≤n) (hn:n<((256 ^ w:Nat):Int)):(putO n (w:Int)).2=0∧(putO n (w:Int)).1.length=w∧(leN (putO n (w:Int)).1:Int)=n:=by
 obtain ⟨m,rfl⟩:=Int.eq_ofNat_of_zero_le h0
 obtain ⟨i1,i2⟩:=bytes_nat w m (by omega)
 have e1:((decide ((w:Int)<1)||decide (7<(w:Int)))||decide ((m:Int)<0))=false:=by simp; omega
 unfold putO
 rw [e1,Int.toNat_natCast,i1]
 exact ⟨rfl,by simp [bstr,bytesF_length],by show ((leN (bstr (bytesF w (m:Int))):Nat):Int)=m; rw [i2]⟩
theorem pairs_nums:∀ (xs:List Int) (r:Str),(∀ x∈xs,0≤x∧x≤65535)→pairs xs.length (numsT xs++r)=xs∧(numsT xs).length=2 * xs.length
 | [],r,_=>⟨rfl,rfl⟩
 | x::xs,r,h=>by
  obtain ⟨h0,h1⟩:=h x (List.mem_cons_self ..)
  obtain ⟨_,p1,p2⟩:=putO_fit (n:=x) 2 (by decide) (by decide) h0 (by show x<65536; omega)
  obtain ⟨i1,i2⟩:=pairs_nums xs r (fun y hy=>h y (List.mem_cons_of_mem _ hy))
  have e:numsT (x::xs)=(putO x 2).1++numsT xs:=by simp [numsT]
  have p1':(putO x 2).1.length=2:=p1
  refine ⟨?_,by rw [e,List.length_append,i2,p1',List.length_cons]; omega⟩
  show (leN ((numsT (x::xs)++r).take 2):Int)::pairs xs.length ((numsT (x::xs)++r).drop 2)=_
  rw [e,List.append_assoc,takeA p1',dropA p1',i1]
  exact congrArg (·::xs) p2
theorem okN_in {l:List Int} (h:okN l=true):∀ x∈l,0≤x∧x≤65535:=by
 intro x hx
 have:=List.all_eq_true.1 (andL h) x hx
 simpa using this
theorem lowF_nat {n:Nat} (h:n<2 ^ 64):lowF (n:Int)=((n % 4294967296:Nat):Int):=by
 have e:(BitVec.ofInt IntKind.u64.bits (n:Int) &&& BitVec.ofInt IntKind.u64.bits (4294967295:Int)).toNat=n % 4294967296:=by
  rw [BitVec.toNat_and,BitVec.toNat_ofInt,BitVec.toNat_ofInt]
  have h64:IntKind.u64.bits=64:=rfl
  rw [h64]
  have e1:((n:Int) % ((2 ^ 64:Nat):Int)).toNat=n:=by omega
  have e2:((4294967295:Int) % ((2 ^ 64:Nat):Int)).toNat=2 ^ 32 - 1:=by decide
  rw [e1,e2,Nat.and_two_pow_sub_one_eq_mod]
 unfold lowF
 rw [e,show IntKind.u64.wrap ((n % 4294967296:Nat):Int)=((n % 4294967296:Nat):Int) from by
  show (((n % 4294967296:Nat):Int)) % 18446744073709551616=_
  omega,wrap64 (by omega) (by omega)]
theorem highF_nat {n:Nat} (h:n<2 ^ 64):highF (n:Int)=((n / 4294967296:Nat):Int):=by
 have e4:Int.fdiv (n:Int) (2 ^ min ((32:Int)).toNat IntKind.u64.bits)=((n / 4294967296:Nat):Int):=by
  rw [show (2 ^ min ((32:Int)).toNat IntKind.u64.bits:Int)=4294967296 from by decide,Int.fdiv_eq_ediv_of_nonneg _ (by decide)]; omega
 unfold highF
 rw [e4,wrap64 (by omega) (by omega)]
theorem u64_nat {n:Nat} (h:n<2 ^ 64):IntKind.u64.wrap (n:Int)=(n:Int):=by
 show (n:Int) % 18446744073709551616=_
 omega
theorem flR_eq {s:Str} {a b:Nat} (h1:leN (s.take 4)=a) (h2:leN ((s.drop 4).take 4)=b) (ha:a<4294967296) (hb:b<4294967296):flR s=((a + b * 4294967296:Nat):Int):=by
 unfold flR
 have e0:(2 ^ min ((32:Int)).toNat IntKind.u64.bits:Int)=4294967296:=by decide
 have eb:(b:Int) * 4294967296=((b * 4294967296:Nat):Int):=by omega
 have w1:=u64_nat (n:=a) (by omega)
 have w2:=u64_nat (n:=b) (by omega)
 have w3:=u64_nat (n:=b * 4294967296) (by omega)
 simp only [h1,h2,e0,w1,w2,eb,w3]
 have e:(BitVec.ofInt IntKind.u64.bits (a:Int) ||| BitVec.ofInt IntKind.u64.bits ((b * 4294967296:Nat):Int)).toNat=a + b * 4294967296:=by
  rw [BitVec.toNat_or,BitVec.ofInt_natCast,BitVec.ofInt_natCast,BitVec.toNat_ofNat,BitVec.toNat_ofNat]
  have h64:IntKind.u64.bits=64:=rfl
  rw [h64,Nat.mod_eq_of_lt (by omega),Nat.mod_eq_of_lt (by omega)]
  have:=Nat.two_pow_add_eq_or_of_lt (b:=a) (i:=32) (by omega) b
  rw [show b * 4294967296=2 ^ 32 * b by rw [Nat.mul_comm],Nat.or_comm,← this,Nat.add_comm]
 rw [e,u64_nat (by omega)]
theorem okV_reg {v:Val} (h:okV v=true) (hk:v.kind=1):0≤v.time∧v.time≤2147483647∧0≤v.node∧v.node≤7∧v.text.length≤8∧v.plus=[]∧v.minus=[]∧v.flags=0:=by
 unfold okV okR at h
 rw [hk] at h
 simp only [beq_self_eq_true,cond_true,Bool.and_eq_true,decide_eq_true_eq,beq_iff_eq] at h
 obtain ⟨h1,h2,h3,h4,h5,_,⟨h6,h7⟩,h8⟩:=h
 exact ⟨h1,h2,h3,h4,h5,h6,h7,h8⟩
theorem noReg_iff {v:Val}:noReg v=true→v.time=0∧v.node=0∧v.dead=false∧v.text=[]:=by
 unfold noReg
 simp only [Bool.and_eq_true,beq_iff_eq,Bool.not_eq_true']
 exact fun h=>h
/-- What is read of a value's bytes is the value; the bytes are 32, with zeros; a text's length is one byte. -/
theorem readV_valT {d : Val} (ho : okV d = true) (hf : inU d.flags) (z : Str) : readV d.kind (valT d ++ z) = d ∧ (valT d).length ≤ 32 ∧ (d.kind = 1 → leN (((valT d ++ z).drop 6).take 1) ≤ 8) := by
  rcases okV_kind ho with hk | hk | hk
  · obtain ⟨t0, t1, n0, n1, l8, ep, em, ef⟩ := okV_reg ho hk
    obtain ⟨_, a1, a2⟩ := putO_fit (n := d.time) 4 (by decide) (by decide) t0 (by show d.time < 4294967296; omega)
    obtain ⟨_, b1, b2⟩ := putO_fit (n := d.node) 1 (by decide) (by decide) n0 (by show d.node < 256; omega)
    obtain ⟨_, c1, c2⟩ := putO_fit (n := bif d.dead then 1 else 0) 1 (by decide) (by decide) (by cases d.dead <;> decide) (by cases d.dead <;> decide)
    obtain ⟨_, e1, e2⟩ := putO_fit (n := (d.text.length : Int)) 1 (by decide) (by decide) (by omega) (by show (d.text.length : Int) < 256; omega)
    replace a1 : (putO d.time 4).1.length = 4 := a1
    replace b1 : (putO d.node 1).1.length = 1 := b1
    replace c1 : (putO (bif d.dead then 1 else 0) 1).1.length = 1 := c1
    replace e1 : (putO (d.text.length : Int) 1).1.length = 1 := e1
    replace a2 : (leN (putO d.time 4).1 : Int) = d.time := a2
    replace b2 : (leN (putO d.node 1).1 : Int) = d.node := b2
    replace c2 : (leN (putO (bif d.dead then 1 else 0) 1).1 : Int) = bif d.dead then 1 else 0 := c2
    replace e2 : (leN (putO (d.text.length : Int) 1).1 : Int) = (d.text.length : Int) := e2
    have hv : valT d = regT d := by unfold valT; rw [hk]; rfl
    have hz := zeros_len (8 - (d.text.length : Int))
    have e2' : leN (putO (d.text.length : Int) 1).1 = d.text.length := by omega
    have ed : ((bif d.dead then (1 : Int) else 0) == (1 : Int)) = d.dead := by cases d.dead <;> rfl
    refine ⟨?_, ?_, fun _ => ?_⟩
    · rw [hv]
      unfold readV
      rw [hk]
      show (⟨1, _, _, _, _, [], [], 0⟩ : Val) = d
      unfold regT
      simp only [List.append_assoc]
      rw [takeA a1, dropA a1, takeA b1, dropA b1, takeA c1, dropA c1, takeA e1, dropA e1, e2', takeA rfl, a2, b2, c2, ed]
      obtain ⟨k, t, n, de, tx, p, m, f⟩ := d
      simp only at hk ep em ef ⊢
      subst hk ep em ef
      rfl
    · rw [hv]; unfold regT
      simp only [List.length_append, a1, b1, c1, e1, hz]; omega
    · rw [hv]; unfold regT
      rw [show 6 = 4 + (1 + 1) from rfl, ← List.drop_drop, ← List.drop_drop]
      simp only [List.append_assoc]
      rw [dropA a1, dropA b1, dropA c1, takeA e1, e2']; exact l8
  · obtain ⟨p1, p2, p3, p4⟩ := okV_cc ho hk
    obtain ⟨_, _, f0, hr⟩ := okV_c ho (by rw [hk]; rfl) (by rw [hk]; rfl)
    obtain ⟨r1, r2, r3, r4⟩ := noReg_iff hr
    have hv : valT d = cntT d := by unfold valT; rw [hk]; rfl
    obtain ⟨x1, x2⟩ := pairs_nums d.plus (numsT d.minus ++ z) (okN_in p1)
    obtain ⟨y1, y2⟩ := pairs_nums d.minus z (okN_in p2)
    rw [p3] at x1 x2
    rw [p4] at y1 y2
    refine ⟨?_, ?_, fun c => by rw [hk] at c; cases c⟩
    · rw [hv]
      unfold readV
      rw [hk]
      show (⟨2, 0, 0, false, [], pairs 8 _, pairs 8 _, 0⟩ : Val) = d
      unfold cntT
      rw [List.append_assoc, x1, dropA x2, y1]
      obtain ⟨k, t, n, de, tx, p, m, f⟩ := d
      simp only at hk r1 r2 r3 r4 f0 ⊢
      subst hk r1 r2 r3 r4 f0
      rfl
    · rw [hv]; unfold cntT; rw [List.length_append, x2, y2]; omega
  · obtain ⟨_, ep, em, hr⟩ := okV_f ho (by rw [hk]; rfl) (by rw [hk]; rfl)
    obtain ⟨r1, r2, r3, r4⟩ := noReg_iff hr
    have hv : valT d = flgT d := by unfold valT; rw [hk]; rfl
    obtain ⟨m, hm⟩ := Int.eq_ofNat_of_zero_le hf.1
    have hm64 : m < 2 ^ 64 := by have := hf.2; omega
    obtain ⟨_, a1, a2⟩ := putO_fit (n := lowF d.flags) 4 (by decide) (by decide) (by rw [hm, lowF_nat hm64]; omega) (by rw [hm, lowF_nat hm64]; show _ < (4294967296 : Int); omega)
    obtain ⟨_, b1, b2⟩ := putO_fit (n := highF d.flags) 4 (by decide) (by decide) (by rw [hm, highF_nat hm64]; omega) (by rw [hm, highF_nat hm64]; show _ < (4294967296 : Int); omega)
    replace a1 : (putO (lowF d.flags) 4).1.length = 4 := a1
    replace b1 : (putO (highF d.flags) 4).1.length = 4 := b1
    have a2' : leN (putO (lowF d.flags) 4).1 = m % 4294967296 := by
      have : (leN (putO (lowF d.flags) 4).1 : Int) = lowF d.flags := a2
      rw [hm, lowF_nat hm64] at this; rw [hm, lowF_nat hm64]; omega
    have b2' : leN (putO (highF d.flags) 4).1 = m / 4294967296 := by
      have : (leN (putO (highF d.flags) 4).1 : Int) = highF d.flags := b2
      rw [hm, highF_nat hm64] at this; rw [hm, highF_nat hm64]; omega
    refine ⟨?_, ?_, fun c => by rw [hk] at c; cases c⟩
    · rw [hv]
      unfold readV
      rw [hk]
      show (⟨3, 0, 0, false, [], [], [], flR _⟩ : Val) = d
      unfold flgT
      rw [flR_eq (a := m % 4294967296) (b := m / 4294967296) (by rw [List.append_assoc, takeA a1, a2']) (by rw [List.append_assoc, dropA a1, takeA b1, b2']) (by omega) (by omega)]
      have e : ((m % 4294967296 + m / 4294967296 * 4294967296 : Nat) : Int) = d.flags := by rw [hm]; omega
      rw [e]
      obtain ⟨k, t, n, de, tx, p, mi, f⟩ := d
      simp only at hk r1 r2 r3 r4 ep em ⊢
      subst hk r1 r2 r3 r4 ep em
      rfl
    · rw [hv]; unfold flgT; rw [List.length_append, a1, b1]; omega
theorem putT_42 {e:Ent} (h:okE e=true):(putT e).length=42:=by
 obtain ⟨h1,h8,hv⟩:=okE_val h
 have hk:0≤e.val.kind∧e.val.kind≤3:=by rcases okV_kind hv with hk | hk | hk <;> omega
 obtain ⟨_,a1,_⟩:=putO_fit (n:=e.val.kind) 1 (by decide) (by decide) hk.1 (by show e.val.kind<256; omega)
 obtain ⟨_,b1,_⟩:=putO_fit (n:=(e.key.length:Int)) 1 (by decide) (by decide) (by omega) (by show (e.key.length:Int)<256; omega)
 replace a1:(putO e.val.kind 1).1.length=1:=a1
 replace b1:(putO (e.key.length:Int) 1).1.length=1:=b1
 have z1:=zeros_len (8 - (e.key.length:Int))
 have z2:=zeros_len (32 - ((valT e.val).length:Int))
 have hl:=valT_len h
 have hh:(headT e).length=10:=by unfold headT; simp only [List.length_append,a1,b1,z1]; omega
 unfold putT; simp only [List.length_append,hh,z2]; omega

def kindG (s:Str):Int:=(leN (s.take 1):Int)
def klenG (s:Str):Nat:=leN ((s.drop 1).take 1)
def readE (s:Str):Ent:=⟨(s.drop 2).take (klenG s),readV (kindG s) (s.drop 10)⟩
/-- Nothing panics. -/
def okG0 (s : Str) : Prop := (1 ≤ s.length ∧ 1 ≤ s.length - 1 ∧ klenG s ≤ 8 ∧ 8 ≤ s.length - 1 - 1) ∧ okS (kindG s) (s.drop 10)
def okG (s:Str):Prop:=s.length≤9223372036854775807
def getE (s:Str):Ent × Int:=bif ((putE (readE s)).2 != 0)||!((putE (readE s)).1==s) then (zeroE,2) else (readE s,0)
theorem sm_readV (k:Int) (s:Str):sm (readV k s):=by
 unfold readV
 cases k==1 with
 | true=>exact ⟨Nat.zero_le _,Nat.zero_le _⟩
 | false =>
  cases k==2 with
  | true=>exact ⟨by simp [pairs_len],by simp [pairs_len]⟩
  | false=>cases k==3 <;> exact ⟨Nat.zero_le _,Nat.zero_le _⟩
/-- There is nothing to be got where something panics. -/
theorem getE_short {s : Str} (h : s.length < 42) : getE s = (zeroE, 2) := by
  unfold getE
  by_cases hd : ((putE (readE s)).2 != 0) = true
  · rw [hd]; rfl
  · have hd' : ((putE (readE s)).2 != 0) = false := by simpa using hd
    have ho : okE (readE s) = true := by
      cases h1 : okE (readE s) with
      | true => rfl
      | false => exfalso; unfold putE at hd'; rw [h1] at hd'; simp at hd'
    have h2 : (putE (readE s)).1 = putT (readE s) := by unfold putE; rw [ho]; rfl
    have hl := putT_42 ho
    have : ((putE (readE s)).1 == s) = false := by
      rw [h2, beq_eq_false_iff_ne]
      intro c; rw [c] at hl; omega
    rw [hd', this]; rfl
theorem getE_odd {s:Str} (h:okE (readE s)=false):getE s=(zeroE,2):=by
 unfold getE putE
 rw [h]; rfl
theorem getE_bad {s:Str} (h:¬ okG0 s):getE s=(zeroE,2):=by
 by_cases hl:s.length<42
 ·exact getE_short hl
 ·refine getE_odd ?_
  by_cases hk:klenG s≤8
  ·have hq:¬ okS (kindG s) (s.drop 10):=fun c=>h ⟨⟨by omega,by omega,hk,by omega⟩,c⟩
   unfold okS at hq
   have h3:kindG s=1∧¬ leN ((((((s.drop 10).drop 4).drop 1).drop 1)).take 1)≤8:=by
    by_cases h1:kindG s=1
    ·refine ⟨h1,fun c=>hq ⟨fun _=>⟨c,by rw [List.length_drop]; omega⟩,fun c=>by omega,fun c=>by omega⟩⟩
    ·exact absurd ⟨fun c=>absurd c h1,fun _=>by rw [List.length_drop]; omega,fun _=>by rw [List.length_drop]; omega⟩ hq
   have ht:(readE s).val.text.length≤8→False:=fun c=>by
    unfold readE readV at c
    rw [h3.1] at c
    simp only [beq_self_eq_true,cond_true,List.length_take,List.length_drop] at c
    have:=h3.2
    omega
   unfold okE
   cases ho:okV (readE s).val with
   | false=>simp
   | true =>
    exfalso
    refine ht (okV_text ho ?_)
    unfold readE readV
    rw [h3.1]; rfl
  ·unfold okE
   have:decide ((readE s).key.length≤8)=false:=by
    unfold readE
    simp only [List.length_take,List.length_drop,decide_eq_false_iff_not]; omega
   rw [this]; simp
def entry_Get_raw (s:Str) (y:Ent × Int):Prop:=okG s∧y=getE s
theorem entGet_ev (s:Str) (h:okG s):entry_Get_raw s (getE s):=⟨h,rfl⟩
theorem zero_reader:Zero Tryz.prog 119 (.agg #[str []]):=zero_of (show (Tryz.prog.info? 119).map (fun i=>(i.zero,i.size,i.bytes))=some (some (.agg #[str []]),1,16) by kernel_rfl)
theorem bld_reader:Bld Tryz.prog 119 [(0,1)] [str []]:=bld_struct zero_reader rfl Tryz.underlying119 (fun _=>by kernel_rfl)
theorem get_end {ρ:Env} {w w1:World} {b2 b3:Nat} {L:List Nat} {cs:List Value} {x:Ent} {n:Int} (h2:ρ 2=.pointer (some ⟨b2,0,none⟩)) (h3:ρ 3=.pointer (some ⟨b3,0,none⟩))
  (B2:Blk w1 b2 55 cs) (B3:Blk w1 b3 31 [.int .i64 n]) (hn:cs.length=9) (E:Ext w w1) (S:Stb L w1 (fun w=>kEnt.r w cs x)) :
  leaveD Tryz.prog #[ResultVar.cell 2 55,ResultVar.cell 3 31] (Ret fun v w'=>Ext w w'∧∃ (cs90:List Value),v=.tuple #[.agg cs90.toArray,.int .i64 n]∧Stb L w' (fun w=>kEnt.r w cs90 x)) ρ
   [{ target:=.fn (.func 73) [.pointer (some ⟨b2,0,none⟩),.pointer (some ⟨b3,0,none⟩)].toArray,args:=#[] }] .returning w1:=by
 have hi:(invoke (.fn (.func 73) [.pointer (some ⟨b2,0,none⟩),.pointer (some ⟨b3,0,none⟩)].toArray) #[]).run Tryz.prog w1=.ok (.enter 73 #[.pointer (some ⟨b2,0,none⟩),.pointer (some ⟨b3,0,none⟩)]) w1:=by
  simp [invoke]
 refine ⟨by simp,_,_,_,_,rfl,hi,(get1_idle b2 b3 w1).mono ?_⟩
 rintro e u w' ⟨⟨v,rfl⟩,rfl,hx⟩
 obtain ⟨_,v',h⟩:=endr2 (P:=Tryz.prog) (w:=w') (R:=Ret fun v w'=>Ext w w'∧∃ (cs90:List Value),v=.tuple #[.agg cs90.toArray,.int .i64 n]∧Stb L w' (fun w=>kEnt.r w cs90 x)) (rv_a h2 agg_api_Entry (B2.ex hx) hn (by rw [List.drop_zero,← hn,List.take_length])) (rv_c h3 one_api_Errno (B3.ex hx) rfl) ⟨_,rfl,E.trans hx,_,rfl,S.ex hx⟩
 exact ⟨v',h⟩
theorem get_panic {ρ:Env} {w w1:World} {b2 b3:Nat} {L:List Nat} (h2:ρ 2=.pointer (some ⟨b2,0,none⟩)) (h3:ρ 3=.pointer (some ⟨b3,0,none⟩))
  (B2:Blk w1 b2 55 (cEnt zeroE none 0 none 0)) (B3:Blk w1 b3 31 [.int .i64 0]) (h23:b2≠b3) (E:Ext w w1) (l2:w.heap.size≤b2) (l3:w.heap.size≤b3) {s:Str} (hb:¬ okG0 s) :
  leaveD Tryz.prog #[ResultVar.cell 2 55,ResultVar.cell 3 31] (Ret fun v w'=>Ext w w'∧∃ (cs90:List Value),v=.tuple #[.agg cs90.toArray,.int .i64 (getE s).2]∧Stb L w' (fun w=>kEnt.r w cs90 (getE s).1)) ρ
   [{ target:=.fn (.func 73) [.pointer (some ⟨b2,0,none⟩),.pointer (some ⟨b3,0,none⟩)].toArray,args:=#[] }] (.panicking oddC) w1:=by
 have hi:(invoke (.fn (.func 73) [.pointer (some ⟨b2,0,none⟩),.pointer (some ⟨b3,0,none⟩)].toArray) #[]).run Tryz.prog w1=.ok (.enter 73 #[.pointer (some ⟨b2,0,none⟩),.pointer (some ⟨b3,0,none⟩)]) w1:=by
  simp [invoke]
 rw [getE_bad hb]
 refine ⟨by simp,_,_,_,_,rfl,hi,(get1_caught B2 B3 h23).mono ?_⟩
 rintro e u w' ⟨⟨v,rfl⟩,rfl,hx,X2,X3⟩
 obtain ⟨_,v',h⟩:=endr2 (P:=Tryz.prog) (w:=w') (R:=Ret fun v w'=>Ext w w'∧∃ (cs90:List Value),v=.tuple #[.agg cs90.toArray,.int .i64 2]∧Stb L w' (fun w=>kEnt.r w cs90 zeroE)) (rv_a h2 agg_api_Entry X2 rfl rfl) (rv_c h3 one_api_Errno X3 rfl) ⟨_,rfl,Ext.st E hx (by simp; omega),_,rfl,kEnt_mk (d:=zeroE) stb_nil stb_nil⟩
 exact ⟨v',h⟩
set_option maxRecDepth 20000 in
set_option maxHeartbeats 8000000 in
theorem entry_Get_c {L:List Nat} {w:World} (s:Str) (hL:Lt L w) {y:Ent × Int} (h:entry_Get_raw s y) :
  Calls Tryz.prog 44 [str s].toArray w (Ret fun v w'=>Ext w w'∧∃ (cs90:List Value),v=.tuple #[.agg cs90.toArray,.int .i64 y.2]∧Stb L w' (fun w=>kEnt.r w cs90 y.1)):=by
 obtain ⟨hsz,rfl⟩:=h
 replace hsz:s.length≤9223372036854775807:=hsz
 refine calls_ecD Tryz.func44 rfl rfl rfl ?_
 refine ec_sr ?_
 refine o_alloc zero_api_Entry rfl rfl rfl ?_
 intro b2 w1 e2 F1 B2
 refine o_alloc zero_api_Errno rfl rfl rfl ?_
 intro b3 w2 e3 F2 B3
 refine eo_r ?_
 refine o_w (v:=.func (.func 73) #[] #[.pointer (some ⟨b2,0,none⟩),.pointer (some ⟨b3,0,none⟩)]) (r_mkfb (us:=[]) (vs:=[.pointer (some ⟨b2,0,none⟩),.pointer (some ⟨b3,0,none⟩)]) rfl rfl) ?_
 refine o_defer (caps:=[.pointer (some ⟨b2,0,none⟩),.pointer (some ⟨b3,0,none⟩)]) rfl rfl ?_
 refine eo_r ?_
 refine o_w (v:=str s) (r_mov rfl) ?_
 refine o_w (v:=.agg #[str s]) (r_build bld_reader (vs:=[(0,str s)]) (cells:=[str s]) rfl rfl) ?_
 refine o_box (cs:=[str s]) rfl rfl rfl ?_
 intro br w3 er F3 Br
 refine o_w (v:=.pointer (some ⟨br,0,none⟩)) (r_asg rfl) ?_
 have hb2:=B2.lt
 have hb3:=B3.lt
 have s1:=F1.size
 have s2:=F2.size
 have B2r:=(B2.ex F2).ex F3
 have B3r:=B3.ex F3
 have E3:Ext w w3:=(F1.trans F2).trans F3
 have hbr:w.heap.size≤br:=by omega
 have n2:b2≠br:=by omega
 have n3:b3≠br:=by omega
 have n23:b2≠b3:=by omega
 have l2:w.heap.size≤b2:=by omega
 have l3:w.heap.size≤b3:=by omega
 refine eo_r ?_
 refine o_w (v:=.pointer (some ⟨br,0,none⟩)) (r_mov rfl) ?_
 refine o_callP cf_rnumber rfl (rd_num Br 1 (by omega) (by omega) hsz) rfl rfl ?_ (by
  rintro _ w' ⟨rfl,hno,G⟩
  exact get_panic (s:=s) rfl rfl (B2r.fr G (by simpa using n2)) (B3r.fr G (by simpa using n3)) n23 (Ext.st E3 G (fun m hm=>by rw [List.mem_singleton] at hm; rw [hm]; exact hbr)) l2 l3 (fun c=>hno c.1.1))
 rintro _ w4 ⟨ok1,rfl,F4,Br4⟩
 have B24:=B2r.fr F4 (by simpa using n2)
 have B34:=B3r.fr F4 (by simpa using n3)
 have E4:Ext w w4:=Ext.st E3 F4 (fun m hm=>by rw [List.mem_singleton] at hm; rw [hm]; exact hbr)
 refine o_w (v:=.int .i64 (kindG s)) (r_asg rfl) ?_
 refine eo_r ?_
 iterate 2 refine o_w (v:=.pointer (some ⟨br,0,none⟩)) (r_mov rfl) ?_
 refine o_callP cf_rnumber rfl (rd_num Br4 1 (by omega) (by omega) (by rw [List.length_drop]; omega)) rfl rfl ?_ (by
  rintro _ w' ⟨rfl,hno,G⟩
  exact get_panic (s:=s) rfl rfl (B24.fr G (by simpa using n2)) (B34.fr G (by simpa using n3)) n23 (Ext.st E4 G (fun m hm=>by rw [List.mem_singleton] at hm; rw [hm]; exact hbr)) l2 l3 (fun c=>hno (by rw [List.length_drop]; exact c.1.2.1)))
 rintro _ w5 ⟨ok2,rfl,F5,Br5⟩
 have B25:=B24.fr F5 (by simpa using n2)
 have B35:=B34.fr F5 (by simpa using n3)
 have E5:Ext w w5:=Ext.st E4 F5 (fun m hm=>by rw [List.mem_singleton] at hm; rw [hm]; exact hbr)
 refine o_callP cf_rtext rfl (rd_txt Br5 (klenG s) 8 (by simp only [List.length_drop]; omega)) rfl rfl ?_ (by
  rintro _ w' ⟨rfl,hno,G⟩
  exact get_panic (s:=s) rfl rfl (B25.fr G (by simpa using n2)) (B35.fr G (by simpa using n3)) n23 (Ext.st E5 G (fun m hm=>by rw [List.mem_singleton] at hm; rw [hm]; exact hbr)) l2 l3 (fun c=>hno ⟨c.1.2.2.1,by simp only [List.length_drop]; exact c.1.2.2.2⟩))
 rintro _ w6 ⟨ok3,rfl,F6,Br6⟩
 have B26:=B25.fr F6 (by simpa using n2)
 have B36:=B35.fr F6 (by simpa using n3)
 have E6:Ext w w6:=Ext.st E5 F6 (fun m hm=>by rw [List.mem_singleton] at hm; rw [hm]; exact hbr)
 have hkey:((s.drop 1).drop 1).take (klenG s)=(readE s).key:=by simp [readE,List.drop_drop]
 have hrest:((s.drop 1).drop 1).drop 8=s.drop 10:=by simp [List.drop_drop]
 rw [hrest] at Br6
 rw [hkey]
 refine o_w (v:=.agg #[str (readE s).key,.int .i64 0,.int .i64 0,.int .i64 0,.bool false,str [],.slice none 0 0,.slice none 0 0,.int .u64 0]) (r_build bld_api_Entry (vs:=[(0,str (readE s).key)]) (cells:=[str (readE s).key,.int .i64 0,.int .i64 0,.int .i64 0,.bool false,str [],.slice none 0 0,.slice none 0 0,.int .u64 0]) rfl rfl) ?_
 refine o_alloc zero_api_Entry rfl rfl rfl ?_
 intro b6 w7 e6 F7 B6
 refine o_store rfl B6 (vs:=[str (readE s).key,.int .i64 0,.int .i64 0,.int .i64 0,.bool false,str [],.slice none 0 0,.slice none 0 0,.int .u64 0]) rfl sz_api_Entry rfl rfl rfl ?_
 intro w8 F8 B68
 have hB2l:=B26.lt
 have hB3l:=B36.lt
 have hBrl:=Br6.lt
 have n62:b2≠b6:=by omega
 have n63:b3≠b6:=by omega
 have n6r:br≠b6:=by omega
 have h6:w.heap.size≤b6:=by have:=E6.size; omega
 have B28:=(B26.ex F7).fr F8 (by simpa using n62)
 have B38:=(B36.ex F7).fr F8 (by simpa using n63)
 have Br8:=(Br6.ex F7).fr F8 (by simpa using n6r)
 have E8:Ext w w8:=Ext.st (E6.trans F7) F8 (fun m hm=>by rw [List.mem_singleton] at hm; rw [hm]; exact h6)
 have hL8:Lt (br::b6::b3::b2::L) w8:=(((((hL.fr E8).cons B28.lt).cons B38.lt).cons B68.lt).cons Br8.lt)
 refine eo_r ?_
 refine o_w (v:=.pointer (some ⟨br,0,none⟩)) (r_mov rfl) ?_
 refine o_w (v:=.int .i64 (kindG s)) (r_mov rfl) ?_
 refine o_callP cf_rvalue rfl (rd_value hL8 (by simp) Br8 (kindG s) (by rw [List.length_drop]; omega)) rfl rfl ?_ (by
  rintro _ w' ⟨rfl,hno,G⟩
  exact get_panic (s:=s) rfl rfl (B28.fr G (by simpa using n2)) (B38.fr G (by simpa using n3)) n23 (Ext.st E8 G (fun m hm=>by rw [List.mem_singleton] at hm; rw [hm]; exact hbr)) l2 l3 (fun c=>hno c.2))
 rintro _ w9 ⟨ok4,F9,A1,c1,A2,c2,rfl,S1,S2⟩
 have B29:=B28.fr F9 (by simpa using n2)
 have B39:=B38.fr F9 (by simpa using n3)
 have B69:=B68.fr F9 (by simpa using n6r.symm)
 have E9:Ext w w9:=Ext.st E8 F9 (fun m hm=>by rw [List.mem_singleton] at hm; rw [hm]; exact hbr)
 refine o_w (v:=.pointer (some ⟨b6,1,none⟩)) (r_fa fld_api_Entry_1 rfl rfl) ?_
 refine o_store rfl B69 (vs:=cVal (readE s).val A1 c1 A2 c2) rfl sz_api_Value rfl rfl rfl ?_
 intro w10 F10 B610
 have S1':=S1.fr F10 (by simp)
 have S2':=S2.fr F10 (by simp)
 have B210:=B29.fr F10 (by simpa using n62)
 have B310:=B39.fr F10 (by simpa using n63)
 have B6':Blk w10 b6 55 (cEnt (readE s) A1 c1 A2 c2):=B610
 have E10:Ext w w10:=Ext.st E9 F10 (fun m hm=>by rw [List.mem_singleton] at hm; rw [hm]; exact h6)
 have hbr8:=Br8.lt
 have s9:=F9.size
 have s10:=F10.size
 have hL10:Lt (br::b6::b3::b2::L) w10:=((((hL.fr E10).cons B210.lt).cons B310.lt).cons B6'.lt).cons (by omega)
 refine eo_nil_sq ?_
 refine ec_seq ?_
 refine ec_sr ?_
 refine o_w (v:=.agg (cEnt (readE s) A1 c1 A2 c2).toArray) (r_lda agg_api_Entry rfl (vs:=cEnt (readE s) A1 c1 A2 c2) rfl (B6'.part (o:=0) (n:=9) rfl)) ?_
 refine o_call cf_entry_Put rfl (entry_Put_c (readE s) (kEnt_mk (d:=readE s) S1' S2') hL10 (entPut_ev _ (sm_readV _ _))) rfl rfl ?_
 rintro _ w11 ⟨F11,rfl⟩
 have B211:=B210.ex F11
 have B311:=B310.ex F11
 have B611:=B6'.ex F11
 have S11:=(S1'.ex F11)
 have S21:=(S2'.ex F11)
 have E11:=E10.trans F11
 have hs11:=E11.size
 have hsub:∀ m∈L,m∈(br::b6::b3::b2::L):=fun m hm=>by simp [hm]
 refine o_w (v:=.tuple #[str (putE (readE s)).1,.int .i64 (putE (readE s)).2]) (r_mov rfl) ?_
 refine o_w (v:=str (putE (readE s)).1) (r_ext rfl rfl) ?_
 refine o_w (v:=.int .i64 (putE (readE s)).2) (r_ext rfl rfl) ?_
 refine o_w (v:=str (putE (readE s)).1) (r_asg rfl) ?_
 refine o_w (v:=.int .i64 (putE (readE s)).2) (r_asg rfl) ?_
 refine eo_r ?_
 refine o_w (v:=.int .i64 (putE (readE s)).2) (r_mov rfl) ?_
 refine o_w (v:=.bool ((putE (readE s)).2 != 0)) (r_int rfl rfl rfl) ?_
 refine o_w (v:=.bool ((putE (readE s)).2 != 0)) (r_mov rfl) ?_
 have hn2:b2≠b3:=n23
 by_cases hd:((putE (readE s)).2 != 0)=true
 ·iterate 3 refine o_no (want_f (t:=31) rfl rfl hd) rfl ?_
  refine o_w (v:=.bool true) (r_pickT rfl hd rfl) ?_
  refine eo_nil_sq ?_
  refine ec_condT rfl rfl ?_
  refine ec_sr ?_
  refine o_w (v:=.agg (cEnt zeroE none 0 none 0).toArray) (r_build bld_api_Entry (vs:=[]) (cells:=cEnt zeroE none 0 none 0) rfl rfl) ?_
  refine o_store rfl B211 (vs:=cEnt zeroE none 0 none 0) rfl sz_api_Entry rfl rfl rfl ?_
  intro w12 F12 B212
  refine o_store rfl (B311.fr F12 (by simpa using n23.symm)) (vs:=[.int .i64 2]) rfl sz_api_Errno rfl rfl rfl ?_
  intro w13 F13 B313
  refine eo_nil_sq ?_
  refine ec_ret ?_
  refine sq_ret ?_
  have hg:getE s=(zeroE,2):=by simp only [getE,hd,Bool.true_or,cond_true]
  rw [hg]
  exact get_end rfl rfl (B212.fr F13 (by simpa using n23)) B313 rfl (Ext.st (Ext.st E11 F12 (by simp; omega)) F13 (by simp; omega)) (kEnt_mk (d:=zeroE) stb_nil stb_nil)
 ·have hd':((putE (readE s)).2 != 0)=false:=by simpa using hd
  refine o_v (v:=str (putE (readE s)).1) (r_mov rfl) (want_t (t:=31) rfl rfl hd') rfl rfl ?_
  refine o_v (v:=str s) (r_mov rfl) (want_t (t:=31) rfl rfl hd') rfl rfl ?_
  refine o_v (v:=.bool (!((putE (readE s)).1==s))) (r_str rfl rfl rfl) (want_t (t:=31) rfl rfl hd') rfl rfl ?_
  refine o_w (v:=.bool (!((putE (readE s)).1==s))) (r_pickF rfl hd' rfl) ?_
  refine eo_nil_sq ?_
  refine ec_cond rfl (fun h2=>?_) (fun h2=>?_)
  ·refine ec_seq ?_
   refine ec_region ?_
   refine o_w (v:=.agg (cEnt zeroE none 0 none 0).toArray) (r_build bld_api_Entry (vs:=[]) (cells:=cEnt zeroE none 0 none 0) rfl rfl) ?_
   refine o_store rfl B211 (vs:=cEnt zeroE none 0 none 0) rfl sz_api_Entry rfl rfl rfl ?_
   intro w12 F12 B212
   refine o_store rfl (B311.fr F12 (by simpa using n23.symm)) (vs:=[.int .i64 2]) rfl sz_api_Errno rfl rfl rfl ?_
   intro w13 F13 B313
   refine eo_nil_sq ?_
   refine ec_ret ?_
   refine sq_ret ?_
   have hg:getE s=(zeroE,2):=by simp only [getE,hd',h2,Bool.false_or,cond_true]
   rw [hg]
   exact get_end rfl rfl (B212.fr F13 (by simpa using n23)) B313 rfl (Ext.st (Ext.st E11 F12 (by simp; omega)) F13 (by simp; omega)) (kEnt_mk (d:=zeroE) stb_nil stb_nil)
  ·refine ec_skip ?_
   refine sq_n ?_
   refine ec_sr ?_
   refine o_w (v:=.agg (cEnt (readE s) A1 c1 A2 c2).toArray) (r_lda agg_api_Entry rfl (vs:=cEnt (readE s) A1 c1 A2 c2) rfl (B611.part (o:=0) (n:=9) rfl)) ?_
   refine o_store rfl B211 (vs:=cEnt (readE s) A1 c1 A2 c2) rfl sz_api_Entry rfl rfl rfl ?_
   intro w12 F12 B212
   refine o_store rfl (B311.fr F12 (by simpa using n23.symm)) (vs:=[.int .i64 0]) rfl sz_api_Errno rfl rfl rfl ?_
   intro w13 F13 B313
   refine eo_nil_sq ?_
   refine ec_ret ?_
   have hg:getE s=(readE s,0):=by simp only [getE,hd',h2,Bool.false_or,cond_false]
   rw [hg]
   exact get_end rfl rfl (B212.fr F13 (by simpa using n23)) B313 rfl (Ext.st (Ext.st E11 F12 (by simp; omega)) F13 (by simp; omega))
    (kEnt_mk (d:=readE s) (((S11.fr F12 (by simp)).fr F13 (by simp)).weak hsub) (((S21.fr F12 (by simp)).fr F13 (by simp)).weak hsub))
section
variable {P : Program} {ρ : Env} {w : World} {d : Option Nat} {ty : TypeId} {pos : String} {after : Array Edge} {g : Option (Nat × Bool)}
theorem r_bstrB {s t e n bytes:Nat} {z:Value} {X:Operand} {b e':Nat} {cells:List Value} {l:List Int} (hs:Slc P s e n bytes z) (he:P.underlying e=some (.int .u8)) (ht:P.underlying t=some .string)
  (hX:ev ρ X=.slice (some ⟨b,0,none⟩) l.length l.length) (hB:Blk w b e' cells) (hc:cells=l.map fun n=>.int .u8 n) :
  RunV P ρ w ⟨d,.convert s t X,ty,pos,after,g⟩ (str (bstr l)):=by
 subst hc
 exact r_bstr hs he ht hX (bs_seal (k:=kI .u8) (L:=[]) hB (by simp) (by simp [kI]) (Stb.triv (rowD_u8 w l) |>.mono fun _ _=>rowD_u8 _ l)).now
end
end Go.Proofs.YtdfjbkoimpjkaaaGreat
namespace Go.Proofs.YtdfjbkoimpjkaaaGreat
open Go Go.RowKit
set_option linter.unusedVariables false

instance (s:Str):Decidable (okG s):=by unfold okG; infer_instance
instance (v:Val):Decidable (sm v):=by unfold sm; infer_instance
end Go.Proofs.YtdfjbkoimpjkaaaGreat
namespace Go.Proofs.YtdfjbkoimpjkaaaGreat
open Go Go.RowKit
set_option linter.unusedVariables false
set_option linter.unusedSimpArgs false

theorem putT_parts {e:Ent} (h:okE e=true) (hf:inU e.val.flags):(putT e).length=42∧readE (putT e)=e∧okG0 (putT e):=by
 obtain ⟨h1,h8,hv⟩:=okE_val h
 obtain ⟨v1,v2,v3⟩:=readV_valT hv hf (zeros (32 - ((valT e.val).length:Int)))
 have hk:0≤e.val.kind∧e.val.kind≤3:=by rcases okV_kind hv with hk | hk | hk <;> omega
 obtain ⟨_,a1,a2⟩:=putO_fit (n:=e.val.kind) 1 (by decide) (by decide) hk.1 (by show e.val.kind<256; omega)
 obtain ⟨_,b1,b2⟩:=putO_fit (n:=(e.key.length:Int)) 1 (by decide) (by decide) (by omega) (by show (e.key.length:Int)<256; omega)
 replace a1:(putO e.val.kind 1).1.length=1:=a1
 replace b1:(putO (e.key.length:Int) 1).1.length=1:=b1
 replace a2:(leN (putO e.val.kind 1).1:Int)=e.val.kind:=a2
 have b2':leN (putO (e.key.length:Int) 1).1=e.key.length:=by
  have:(leN (putO (e.key.length:Int) 1).1:Int)=(e.key.length:Int):=b2
  omega
 have z1:=zeros_len (8 - (e.key.length:Int))
 have z2:=zeros_len (32 - ((valT e.val).length:Int))
 have hh:(headT e).length=10:=by
  unfold headT; simp only [List.length_append,a1,b1,z1]; omega
 have hlen:(putT e).length=42:=by unfold putT; simp only [List.length_append,hh,z2]; omega
 have k1:kindG (putT e)=e.val.kind:=by
  unfold kindG putT headT
  simp only [List.append_assoc]
  rw [takeA a1,a2]
 have k2:klenG (putT e)=e.key.length:=by
  unfold klenG putT headT
  simp only [List.append_assoc]
  rw [dropA a1,takeA b1,b2']
 have k3:(putT e).drop 10=valT e.val++zeros (32 - ((valT e.val).length:Int)):=by
  unfold putT; exact dropA hh
 have k4:((putT e).drop 2).take e.key.length=e.key:=by
  unfold putT headT
  simp only [List.append_assoc]
  rw [show 2=1 + 1 from rfl,← List.drop_drop,dropA a1,dropA b1,takeA rfl]
 refine ⟨hlen,?_,⟨by omega,by omega,by omega,by omega⟩,fun hk1=>⟨?_,by rw [List.length_drop]; omega⟩,fun _=>by rw [List.length_drop]; omega,fun _=>by rw [List.length_drop]; omega⟩
 ·unfold readE
  rw [k1,k2,k3,k4,v1]
 ·rw [k1] at hk1
  have:=v3 hk1
  rw [← k3] at this
  simpa only [List.drop_drop] using this
end Go.Proofs.YtdfjbkoimpjkaaaGreat