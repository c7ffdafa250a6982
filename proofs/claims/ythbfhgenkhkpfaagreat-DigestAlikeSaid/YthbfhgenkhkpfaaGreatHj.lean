import Derived.Test.YthbfhgenkhkpfaaGreatBd
import Derived.Test.YthbfhgenkhkpfaaGreatBh
import Derived.Test.YthbfhgenkhkpfaaGreatPi
import Derived.Test.YthbfhgenkhkpfaaGreatFx
import Derived.Test.YthbfhgenkhkpfaaGreatWn
import Derived.Test.YthbfhgenkhkpfaaGreatSl
namespace Go.Proofs.YthbfhgenkhkpfaaGreat
open Go Go.RowKit
set_option linter.unusedVariables false
set_option linter.unusedSimpArgs false
def octet_Get_b3 (d0:Str) (d1:Int) (d2:Int) (s3:Int × Int) (z3:(Int × Int) ⊕ (Int × Int)):Prop :=
 ((decide (s3.2<d2))=true→((0≤(IntKind.i64.wrap (d1 + s3.2))∧(IntKind.i64.wrap (d1 + s3.2))<(d0.length:Int))∧(decide (0≤(IntKind.i64.wrap ((8:Int) * s3.2)))=true∧(z3=.inl ((IntKind.i64.wrap ((BitVec.ofInt IntKind.i64.bits s3.1 ||| BitVec.ofInt IntKind.i64.bits (IntKind.i64.wrap ((IntKind.i64.wrap ((nth d0 (IntKind.i64.wrap (d1 + s3.2))).toNat:Int)) * 2 ^ min ((IntKind.i64.wrap ((8:Int) * s3.2))).toNat IntKind.i64.bits))).toNat:Int)),(IntKind.i64.wrap (s3.2 + (1:Int))))))))∧((decide (s3.2<d2))=false→(z3=.inr (s3.1,s3.2)))
def octet_Get_raw (d0:Str) (d1:Int) (d2:Int) (y:Int × Int):Prop :=
 (((decide (d2<1))||(decide (7<d2)))=true→(y=((0:Int),(1:Int))))∧(((decide (d2<1))||(decide (7<d2)))=false→(((((decide (d1<0))||(decide ((d0.length:Int)<d1)))||(decide ((IntKind.i64.wrap ((d0.length:Int) - d1))<d2)))=true→(y=((0:Int),(2:Int))))∧((((decide (d1<0))||(decide ((d0.length:Int)<d1)))||(decide ((IntKind.i64.wrap ((d0.length:Int) - d1))<d2)))=false→(∃ x3,LoopR (octet_Get_b3 d0 d1 d2) ((0:Int),(0:Int)) x3∧(y=(x3.1,(0:Int)))))))
set_option maxRecDepth 20000 in
set_option maxHeartbeats 4000000 in
theorem octet_Get_c {L:List Nat} {w:World} (d0:Str) (d1:Int) (d2:Int) (hL:Lt L w) {y:Int × Int} (h:octet_Get_raw d0 d1 d2 y) :
  Calls Tryz.prog 43 [str d0,.int .i64 d1,.int .i64 d2].toArray w (Ret fun v w'=>Ext w w'∧v=.tuple #[.int .i64 y.1,.int .i64 y.2]):=by
 unfold octet_Get_raw at h
 refine calls_ec Tryz.func43 rfl rfl rfl ?_
 refine ec_sr ?_
 iterate 2 refine o_w (v:=.int .i64 0) (r_asg rfl) ?_
 refine eo_nil_sq ?_
 refine ec_seq ?_
 refine ec_block ?_
 refine ec_sr ?_
 refine o_w (v:=.int .i64 d2) (r_mov rfl) ?_
 refine o_w (v:=.bool (decide (d2<1))) (r_int rfl rfl rfl) ?_
 refine o_w (v:=.bool (decide (d2<1))) (r_mov rfl) ?_
 refine o_vg (v:=.int .i64 d2) (want_cf (t:=13) rfl rfl) (fun hk=>(r_mov rfl)) rfl rfl ?_
 refine o_vg (v:=.bool (decide (7<d2))) (want_cf (t:=13) rfl rfl) (fun hk=>(r_int (gdT hk) rfl rfl)) rfl rfl ?_
 refine o_w (v:=.bool ((decide (d2<1))||(decide (7<d2)))) (r_pickOr rfl rfl (fun hf=>(gdT (notT hf)))) ?_
 refine o_w (v:=.bool ((decide (d2<1))||(decide (7<d2)))) (r_asg rfl) ?_
 refine eo_nil_sq ?_
 refine ec_cond rfl (fun hc1=>?_) (fun hc1=>?_)
 ·replace h:=h.1 hc1
  refine ec_sr ?_
  refine o_w (v:=.int .i64 0) (r_asg rfl) ?_
  refine o_w (v:=.int .i64 1) (r_asg rfl) ?_
  refine eo_nil_sq ?_
  refine ec_ret ?_
  refine blk_ret ?_
  refine sq_ret ?_
  subst h
  exact (end2 rfl rfl ⟨_,rfl,(Fr.refl _ _),rfl⟩)
 ·replace h:=h.2 hc1
  refine ec_sr ?_
  refine o_w (v:=.int .i64 d1) (r_mov rfl) ?_
  refine o_w (v:=.bool (decide (d1<0))) (r_int rfl rfl rfl) ?_
  refine o_w (v:=.bool (decide (d1<0))) (r_mov rfl) ?_
  refine o_vg (v:=.int .i64 d1) (want_cf (t:=20) rfl rfl) (fun hk=>(r_mov rfl)) rfl rfl ?_
  refine o_vg (v:=str d0) (want_cf (t:=20) rfl rfl) (fun hk=>(r_mov rfl)) rfl rfl ?_
  refine o_vg (v:=.int .i64 (d0.length:Int)) (want_cf (t:=20) rfl rfl) (fun hk=>(r_len_str un_string (gdT hk))) rfl rfl ?_
  refine o_vg (v:=.bool (decide ((d0.length:Int)<d1))) (want_cf (t:=20) rfl rfl) (fun hk=>(r_int (gdT hk) (gdT hk) rfl)) rfl rfl ?_
  refine o_w (v:=.bool ((decide (d1<0))||(decide ((d0.length:Int)<d1)))) (r_pickOr rfl rfl (fun hf=>(gdT (notT hf)))) ?_
  refine o_w (v:=.bool ((decide (d1<0))||(decide ((d0.length:Int)<d1)))) (r_mov rfl) ?_
  refine o_vg (v:=.int .i64 d2) (want_cf (t:=26) rfl rfl) (fun hk=>(r_mov rfl)) rfl rfl ?_
  refine o_vg (v:=str d0) (want_cf (t:=26) rfl rfl) (fun hk=>(r_mov rfl)) rfl rfl ?_
  refine o_vg (v:=.int .i64 (d0.length:Int)) (want_cf (t:=26) rfl rfl) (fun hk=>(r_len_str un_string (gdT hk))) rfl rfl ?_
  refine o_vg (v:=.int .i64 d1) (want_cf (t:=26) rfl rfl) (fun hk=>(r_mov rfl)) rfl rfl ?_
  refine o_vg (v:=.int .i64 (IntKind.i64.wrap ((d0.length:Int) - d1))) (want_cf (t:=26) rfl rfl) (fun hk=>(r_int (gdT hk) (gdT hk) rfl)) rfl rfl ?_
  refine o_vg (v:=.bool (decide ((IntKind.i64.wrap ((d0.length:Int) - d1))<d2))) (want_cf (t:=26) rfl rfl) (fun hk=>(r_int (gdT hk) (gdT hk) rfl)) rfl rfl ?_
  refine o_w (v:=.bool (((decide (d1<0))||(decide ((d0.length:Int)<d1)))||(decide ((IntKind.i64.wrap ((d0.length:Int) - d1))<d2)))) (r_pickOr rfl rfl (fun hf=>(gdT (notT hf)))) ?_
  refine o_w (v:=.bool (((decide (d1<0))||(decide ((d0.length:Int)<d1)))||(decide ((IntKind.i64.wrap ((d0.length:Int) - d1))<d2)))) (r_asg rfl) ?_
  refine eo_nil_sq ?_
  refine ec_cond rfl (fun hc2=>?_) (fun hc2=>?_)
  ·replace h:=h.1 hc2
   refine ec_sr ?_
   refine o_w (v:=.int .i64 0) (r_asg rfl) ?_
   refine o_w (v:=.int .i64 2) (r_asg rfl) ?_
   refine eo_nil_sq ?_
   refine ec_ret ?_
   refine blk_ret ?_
   refine sq_ret ?_
   subst h
   exact (end2 rfl rfl ⟨_,rfl,(Fr.refl _ _),rfl⟩)
  ·replace h:=h.2 hc2
   refine ec_skip ?_
   refine blk_n ?_
   refine sq_n ?_
   refine ec_sr ?_
   refine o_w (v:=.int .i64 0) (r_asg rfl) ?_
   refine eo_nil_sq ?_
   refine ec_seq ?_
   refine ec_sr ?_
   refine o_w (v:=.int .i64 d2) (r_mov rfl) ?_
   refine o_w (v:=.int .i64 0) (r_mov rfl) ?_
   refine eo_nil_sq ?_
   refine ec_block ?_
   obtain ⟨x3,hl3,h⟩:=h
   refine ec_loopE 1 (I:=(fun (s3:Int × Int) ρ ds w'=>∃ (ρ':Env),ρ=envs ρ' [(8,.int .i64 s3.1),(35,.int .i64 s3.2),(0,str d0),(1,.int .i64 d1),(34,.int .i64 d2)]∧ds=[]∧Fr L w w'∧Ext w w')) ?_ hl3 ?_ ?_
   ·intro s3 z3 ρ3 ds3 w3r hI3 hb3
    obtain ⟨ρ3r,rfl,rfl,F3r,E3r⟩:=hI3
    have h:=hb3
    unfold octet_Get_b3 at h
    refine ec_sr ?_
    refine o_w (v:=.bool (decide (s3.2<d2))) (r_int rfl rfl rfl) ?_
    refine eo_nil_sq ?_
    refine ec_seq ?_
    refine ec_cond rfl (fun hc4=>?_) (fun hc4=>?_)
    ·replace h:=h.1 hc4
     refine ec_skip ?_
     refine sq_n ?_
     refine ec_seq ?_
     refine ec_block ?_
     refine ec_sr ?_
     refine o_w (v:=.int .i64 s3.2) (r_mov rfl) ?_
     refine o_w (v:=.int .i64 s3.2) (r_asg rfl) ?_
     refine eo_q ?_
     refine o_w (v:=.int .i64 s3.1) (r_mov rfl) ?_
     refine o_w (v:=str d0) (r_mov rfl) ?_
     refine o_w (v:=.int .i64 d1) (r_mov rfl) ?_
     refine o_w (v:=.int .i64 s3.2) (r_mov rfl) ?_
     refine o_w (v:=.int .i64 (IntKind.i64.wrap (d1 + s3.2))) (r_int rfl rfl rfl) ?_
     obtain ⟨ha5,h⟩:=h
     refine o_w (v:=.int .u8 ((nth d0 (IntKind.i64.wrap (d1 + s3.2))).toNat:Int)) (r_ix_str un_string rfl rfl ha5.1 ha5.2) ?_
     refine o_w (v:=.int .i64 (IntKind.i64.wrap ((nth d0 (IntKind.i64.wrap (d1 + s3.2))).toNat:Int))) (r_conv un_uint8 un_int rfl) ?_
     refine o_w (v:=.int .i64 s3.2) (r_mov rfl) ?_
     refine o_w (v:=.int .i64 (IntKind.i64.wrap ((8:Int) * s3.2))) (r_int rfl rfl rfl) ?_
     obtain ⟨ha6,h⟩:=h
     refine o_w (v:=.int .i64 (IntKind.i64.wrap ((IntKind.i64.wrap ((nth d0 (IntKind.i64.wrap (d1 + s3.2))).toNat:Int)) * 2 ^ min ((IntKind.i64.wrap ((8:Int) * s3.2))).toNat IntKind.i64.bits))) (r_shl rfl rfl ha6) ?_
     refine o_w (v:=.int .i64 (IntKind.i64.wrap ((BitVec.ofInt IntKind.i64.bits s3.1 ||| BitVec.ofInt IntKind.i64.bits (IntKind.i64.wrap ((IntKind.i64.wrap ((nth d0 (IntKind.i64.wrap (d1 + s3.2))).toNat:Int)) * 2 ^ min ((IntKind.i64.wrap ((8:Int) * s3.2))).toNat IntKind.i64.bits))).toNat:Int))) (r_int rfl rfl rfl) ?_
     refine o_w (v:=.int .i64 (IntKind.i64.wrap ((BitVec.ofInt IntKind.i64.bits s3.1 ||| BitVec.ofInt IntKind.i64.bits (IntKind.i64.wrap ((IntKind.i64.wrap ((nth d0 (IntKind.i64.wrap (d1 + s3.2))).toNat:Int)) * 2 ^ min ((IntKind.i64.wrap ((8:Int) * s3.2))).toNat IntKind.i64.bits))).toNat:Int))) (r_asg rfl) ?_
     refine eo_nil ?_
     refine blk_n ?_
     refine sq_n ?_
     refine ec_region ?_
     refine o_w (v:=.int .i64 (IntKind.i64.wrap (s3.2 + (1:Int)))) (r_int rfl rfl rfl) ?_
     refine o_w (v:=.int .i64 (IntKind.i64.wrap (s3.2 + (1:Int)))) (r_mov rfl) ?_
     refine eo_nil ?_
     subst h
     exact lq_n ⟨_,envs_self ⟨rfl,rfl,rfl,rfl,rfl,trivial⟩,rfl,F3r,E3r⟩
    ·replace h:=h.2 hc4
     refine ec_exit ?_
     refine sq_exit ?_
     subst h
     exact lq_x ⟨_,envs_self ⟨rfl,rfl,rfl,rfl,rfl,trivial⟩,rfl,F3r,E3r⟩
   ·exact ⟨_,envs_self ⟨rfl,rfl,rfl,rfl,rfl,trivial⟩,rfl,(Fr.refl _ _),(Fr.refl _ _)⟩
   ·rintro ρ3e ds3e w3e ⟨ρ3e,rfl,rfl,F3e,E3e⟩
    refine blk_hit ?_
    refine sq_n ?_
    refine ec_sr ?_
    refine o_w (v:=.int .i64 x3.1) (r_mov rfl) ?_
    refine o_w (v:=.int .i64 x3.1) (r_asg rfl) ?_
    refine o_w (v:=.int .i64 0) (r_asg rfl) ?_
    refine eo_nil_sq ?_
    refine ec_ret ?_
    subst h
    exact (end2 rfl rfl ⟨_,rfl,E3e,rfl⟩)

/-- Bytes as a number, the first the least. -/
def leN : List UInt8 → Nat
  | [] => 0
  | b :: l => b.toNat + 256 * leN l
theorem leN_lt:∀ (l:List UInt8),leN l<256 ^ l.length
 | []=>by simp [leN]
 | b::l=>by
  have h1:=leN_lt l
  have h2:b.toNat<256:=b.toNat_lt
  have e:256 ^ (b::l).length=256 * 256 ^ l.length:=by rw [List.length_cons,Nat.pow_succ,Nat.mul_comm]
  rw [e]; simp only [leN]; omega
theorem leN_snoc:∀ (l:List UInt8) (b:UInt8),leN (l++[b])=leN l + b.toNat * 256 ^ l.length
 | [],b=>by simp [leN]
 | c::l,b=>by
  simp only [List.cons_append,leN,leN_snoc l b,List.length_cons,Nat.pow_succ]
  rw [Nat.mul_add,← Nat.add_assoc,Nat.mul_left_comm,Nat.mul_comm 256 (256 ^ l.length)]
def getO (s:Str) (at_ w:Int):Int × Int :=
 bif decide (w<1)||decide (7<w) then (0,1) else bif (decide (at_<0)||decide ((s.length:Int)<at_))||decide ((s.length:Int) - at_<w) then (0,2) else ((leN ((s.drop at_.toNat).take w.toNat):Int),0)
theorem pow256 (k:Nat):(256:Nat) ^ k=2 ^ (8 * k):=by rw [show (256:Nat)=2 ^ 8 from rfl,← Nat.pow_mul]
theorem or_step (n b k:Nat) (hn:n<256 ^ k) (hb:b<256) (hk:k<7) :
  IntKind.i64.wrap ((BitVec.ofInt IntKind.i64.bits (n:Int) ||| BitVec.ofInt IntKind.i64.bits (((b:Int)) * 2 ^ (8 * k))).toNat:Int)=((n + b * 256 ^ k:Nat):Int):=by
 have h7:n + b * 256 ^ k<256 ^ 7:=by
  have h1:(256:Nat) ^ (k + 1)≤256 ^ 7:=Nat.pow_le_pow_right (by decide) (by omega)
  have h2:b * 256 ^ k≤255 * 256 ^ k:=Nat.mul_le_mul_right _ (by omega)
  rw [Nat.pow_succ] at h1; omega
 have e7:(256:Nat) ^ 7=72057594037927936:=by decide
 have hbk:b * 256 ^ k<72057594037927936:=by omega
 have hcast:((b:Int)) * 2 ^ (8 * k)=((b * 256 ^ k:Nat):Int):=by rw [pow256]; simp
 have e:(BitVec.ofInt IntKind.i64.bits (n:Int) ||| BitVec.ofInt IntKind.i64.bits (((b:Int)) * 2 ^ (8 * k))).toNat=n + b * 256 ^ k:=by
  rw [hcast]
  show (BitVec.ofInt 64 ((n:Nat):Int) ||| BitVec.ofInt 64 ((b * 256 ^ k:Nat):Int)).toNat=_
  rw [BitVec.toNat_or,BitVec.ofInt_natCast,BitVec.ofInt_natCast,BitVec.toNat_ofNat,BitVec.toNat_ofNat,Nat.mod_eq_of_lt (by omega),Nat.mod_eq_of_lt (by omega)]
  have:=Nat.two_pow_add_eq_or_of_lt (b:=n) (i:=8 * k) (by rw [← pow256]; exact hn) b
  rw [pow256,Nat.mul_comm b,Nat.or_comm,← this,Nat.add_comm]
 rw [e,wrap64 (by omega) (by omega)]
theorem octGet_run (s:Str) (a w:Nat) (hw:w≤7) (hl:a + w≤s.length) (hs:s.length≤9223372036854775807):∀ (k i:Nat),i + k=w →
  LoopR (octet_Get_b3 s (a:Int) (w:Int)) ((leN ((s.drop a).take i):Int),(i:Int)) ((leN ((s.drop a).take w):Int),(w:Int))
 | 0,i,hi=>by
  obtain rfl:i=w:=by omega
  exact .done ⟨fun c=>by simp at c,fun _=>rfl⟩
 | k + 1,i,hi=>by
  have hlen:((s.drop a).take i).length=i:=by simp; omega
  have hlt:=leN_lt ((s.drop a).take i)
  rw [hlen] at hlt
  have e1:IntKind.i64.wrap ((a:Int) + (i:Int))=((a + i:Nat):Int):=by rw [wrap64 (by omega) (by omega)]; omega
  have e2:IntKind.i64.wrap ((8:Int) * (i:Int))=((8 * i:Nat):Int):=by rw [wrap64 (by omega) (by omega)]; omega
  have hb:(s.getD (a + i) default).toNat<256:=(s.getD (a + i) default).toNat_lt
  have e3:IntKind.i64.wrap ((s.getD (a + i) default).toNat:Int)=((s.getD (a + i) default).toNat:Int):=wrap64 (by omega) (by omega)
  have esn:(s.drop a).take (i + 1)=(s.drop a).take i++[s.getD (a + i) default]:=by
   rw [List.take_add_one]; simp [show a + i<s.length by omega]
  have ih:=octGet_run s a w hw hl hs k (i + 1) (by omega)
  rw [esn,leN_snoc,hlen] at ih
  refine .step ⟨fun _=>?_,fun c=>by simp at c; omega⟩ ih
  simp only [e1,e2,nth_nat,e3]
  refine ⟨⟨by omega,by omega⟩,by rw [decide_eq_true_eq]; omega,?_⟩
  have hp:(256:Nat) ^ i≤256 ^ 6:=Nat.pow_le_pow_right (by decide) (by omega)
  have e6:(256:Nat) ^ 6=281474976710656:=by decide
  have hm:(s.getD (a + i) default).toNat * 256 ^ i≤255 * 281474976710656:=Nat.le_trans (Nat.mul_le_mul_right _ (by omega)) (Nat.mul_le_mul_left _ (by omega))
  have e4:min (((8 * i:Nat):Int)).toNat IntKind.i64.bits=8 * i:=by
   show min (((8 * i:Nat):Int)).toNat 64=8 * i
   rw [Int.toNat_natCast]; omega
  rw [e4]
  have e5:IntKind.i64.wrap (((s.getD (a + i) default).toNat:Int) * 2 ^ (8 * i))=((s.getD (a + i) default).toNat:Int) * 2 ^ (8 * i):=by
   have hc:((s.getD (a + i) default).toNat:Int) * 2 ^ (8 * i)=(((s.getD (a + i) default).toNat * 256 ^ i:Nat):Int):=by rw [pow256]; simp
   rw [hc,wrap64 (by omega) (by omega)]
  rw [e5,or_step _ _ _ hlt hb (by omega),wrap64 (n:=(i:Int) + 1) (by omega) (by omega)]
  rfl
theorem octGet_ev (s:Str) (a w:Int) (hs:s.length≤9223372036854775807):octet_Get_raw s a w (getO s a w):=by
 refine ⟨fun hc=>by unfold getO; rw [hc]; rfl,fun hc=>⟨fun hd=>?_,fun hd=>?_⟩⟩
 ·unfold getO
  rw [hc]
  by_cases ha:(decide (a<0)||decide ((s.length:Int)<a))=true
  ·rw [ha]; rfl
  ·have ha':(decide (a<0)||decide ((s.length:Int)<a))=false:=by simpa using ha
   rw [ha'] at hd ⊢
   simp only [Bool.or_eq_false_iff,decide_eq_false_iff_not] at ha'
   rw [wrap64 (by omega) (by omega)] at hd
   rw [hd]; rfl
 ·simp only [Bool.or_eq_false_iff,decide_eq_false_iff_not] at hc hd
  obtain ⟨⟨hd1,hd2⟩,hd3⟩:=hd
  rw [wrap64 (by omega) (by omega)] at hd3
  obtain ⟨m,rfl⟩:=Int.eq_ofNat_of_zero_le (show 0≤a by omega)
  obtain ⟨n,rfl⟩:=Int.eq_ofNat_of_zero_le (show 0≤w by omega)
  refine ⟨_,by simpa [leN] using octGet_run s m n (by omega) (by omega) hs n 0 (by omega),?_⟩
  have h1:(decide ((n:Int)<1)||decide (7<(n:Int)))=false:=by simp; omega
  have h2:((decide ((m:Int)<0)||decide ((s.length:Int)<(m:Int)))||decide ((s.length:Int) - (m:Int)<(n:Int)))=false:=by simp; omega
  unfold getO
  rw [h1,h2]; rfl

theorem cf_octet_Get:CF Tryz.prog 43:=fun _ _=>by kernel_rfl
section
variable {ρ : Env} {w : World} {d : Option Nat} {ty : TypeId} {pos : String} {after : Array Edge} {g : Option (Nat × Bool)}
end

section
variable {P : Program} {N : Nat} {ops : Array Oper} {Q : Exit → Act → List Frame → World → Prop} {rest : List Nat} {ρ : Env} {cs : List Frame} {w w' : World} {i d : Nat}
end
section
variable {P : Program} {N : Nat} {ops : Array Oper} {Q : Exit → Act → List Frame → World → Prop} {rest : List Nat} {ρ : Env} {cs cs' : List Frame} {w : World} {i d : Nat}
end

def okG (s:Str):Prop:=s.length≤9223372036854775807
section
variable {P : Program} {ρ : Env} {w : World} {d : Option Nat} {ty : TypeId} {pos : String} {after : Array Edge} {g : Option (Nat × Bool)}
theorem r_bstrB {s t e n bytes:Nat} {z:Value} {X:Operand} {b e':Nat} {cells:List Value} {l:List Int} (hs:Slc P s e n bytes z) (he:P.underlying e=some (.int .u8)) (ht:P.underlying t=some .string)
  (hX:ev ρ X=.slice (some ⟨b,0,none⟩) l.length l.length) (hB:Blk w b e' cells) (hc:cells=l.map fun n=>.int .u8 n) :
  RunV P ρ w ⟨d,.convert s t X,ty,pos,after,g⟩ (str (bstr l)):=by
 subst hc
 exact r_bstr hs he ht hX (bs_seal (k:=kI .u8) (L:=[]) hB (by simp) (by simp [kI]) (Stb.triv (rowD_u8 w l) |>.mono fun _ _=>rowD_u8 _ l)).now
end
end Go.Proofs.YthbfhgenkhkpfaaGreat
namespace Go.Proofs.YthbfhgenkhkpfaaGreat
open Go Go.RowKit
set_option linter.unusedVariables false

instance (s:Str):Decidable (okG s):=by unfold okG; infer_instance
instance (v:Val):Decidable (sm v):=by unfold sm; infer_instance
end Go.Proofs.YthbfhgenkhkpfaaGreat