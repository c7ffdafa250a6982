/- Digests: what each function comes to. -/
import Derived.Test.YtdfjbkoimpjkaaaGreatMb
import Derived.Test.YtdfjbkoimpjkaaaGreatWn
namespace Go.Proofs.YtdfjbkoimpjkaaaGreat
open Go Go.RowKit
set_option linter.unusedVariables false
set_option linter.unusedSimpArgs false
def digest_Get_b10 (d0:Str) (s10:Int × Int × Int × Int × Int) (z10:(Int × Int × Int × Int × Int) ⊕ (Int × Int × Int × Int × Int)):Prop :=
 ((decide (s10.1<4))=true→((d0.length≤9223372036854775807)∧(∃ x12,x12=(getO d0 (IntKind.i64.wrap ((4:Int) * s10.1)) (4:Int))∧((0≤s10.1∧s10.1<((4:Nat):Int))∧(z10=.inl ((IntKind.i64.wrap (s10.1 + (1:Int))),(nth (([s10.2.1,s10.2.2.1,s10.2.2.2.1,s10.2.2.2.2]:List Int).set s10.1.toNat x12.1) 0),(nth (([s10.2.1,s10.2.2.1,s10.2.2.2.1,s10.2.2.2.2]:List Int).set s10.1.toNat x12.1) 1),(nth (([s10.2.1,s10.2.2.1,s10.2.2.2.1,s10.2.2.2.2]:List Int).set s10.1.toNat x12.1) 2),(nth (([s10.2.1,s10.2.2.1,s10.2.2.2.1,s10.2.2.2.2]:List Int).set s10.1.toNat x12.1) 3)))))))∧((decide (s10.1<4))=false→(z10=.inr (s10.1,s10.2.1,s10.2.2.1,s10.2.2.2.1,s10.2.2.2.2)))
def digest_Get_raw (d0:Str) (y:(List Int) × Int):Prop :=
 (((d0.length:Int) != (16:Int))=true→(y=([(0:Int),(0:Int),(0:Int),(0:Int)],(2:Int))))∧(((d0.length:Int) != (16:Int))=false→(∃ x10,LoopR (digest_Get_b10 d0) ((0:Int),(0:Int),(0:Int),(0:Int),(0:Int)) x10∧(y=([x10.2.1,x10.2.2.1,x10.2.2.2.1,x10.2.2.2.2],(0:Int)))))
set_option maxRecDepth 20000 in
set_option maxHeartbeats 4000000 in
theorem digest_Get_c {L:List Nat} {w:World} (d0:Str) (hL:Lt L w) {y:(List Int) × Int} (h:digest_Get_raw d0 y) :
  Calls Tryz.prog 42 [str d0].toArray w (Ret fun v w'=>Ext w w'∧v=.tuple #[.agg #[.int .i64 (nth y.1 0),.int .i64 (nth y.1 1),.int .i64 (nth y.1 2),.int .i64 (nth y.1 3)],.int .i64 y.2]∧y.1.length=4):=by
 unfold digest_Get_raw at h
 refine calls_ec Tryz.func42 rfl rfl rfl ?_
 refine ec_sr ?_
 refine o_alloc zero_4_int rfl rfl rfl ?_
 intro b1 w1 e1 F1 B1
 have n1:w.heap.size≤b1:=Nat.le_of_eq e1.symm
 refine o_w (v:=.int .i64 0) (r_asg rfl) ?_
 refine eo_r ?_
 refine o_alloc zero_digest_sums rfl rfl rfl ?_
 intro b2 w2 e2 F2 B2
 have n2:w.heap.size≤b2:=by rw [e2]; exact F1.size
 have q3:b1<b2:=by rw [e2]; exact B1.lt
 have E4:=F1.trans F2
 refine eo_nil_sq ?_
 refine ec_seq ?_
 refine ec_sr ?_
 refine o_w (v:=str d0) (r_mov rfl) ?_
 refine o_w (v:=.int .i64 (d0.length:Int)) (r_len_str un_string rfl) ?_
 refine o_w (v:=.bool ((d0.length:Int) != (16:Int))) (r_int rfl rfl rfl) ?_
 refine eo_nil_sq ?_
 refine ec_cond rfl (fun hc6=>?_) (fun hc6=>?_)
 ·replace h:=h.1 hc6
  refine ec_sr ?_
  refine o_w (v:=.agg #[.int .i64 0,.int .i64 0,.int .i64 0,.int .i64 0]) (r_lda agg_digest_sums rfl (vs:=[.int .i64 0,.int .i64 0,.int .i64 0,.int .i64 0]) rfl (B2.part (n:=4) rfl)) ?_
  refine o_store rfl (B1.ex F2) (vs:=[.int .i64 0,.int .i64 0,.int .i64 0,.int .i64 0]) rfl sz_4_int rfl rfl rfl ?_
  intro w7 F7 B7
  have E8:=Ext.st E4 F7 (by simp; omega)
  have B7':Blk w7 b1 _ [.int .i64 0,.int .i64 0,.int .i64 0,.int .i64 0]:=B7
  refine o_w (v:=.int .i64 2) (r_asg rfl) ?_
  refine eo_nil_sq ?_
  refine ec_ret ?_
  refine sq_ret ?_
  subst h
  exact (endr2 (rv_a rfl (agg_4_int) B7' (vs:=[.int .i64 0,.int .i64 0,.int .i64 0,.int .i64 0]) rfl rfl) (rv_t rfl) ⟨_,rfl,E8,rfl,rfl⟩)
 ·replace h:=h.2 hc6
  refine ec_skip ?_
  refine sq_n ?_
  refine ec_seq ?_
  refine ec_sr ?_
  refine o_w (v:=.int .i64 0) (r_mov rfl) ?_
  refine eo_nil_sq ?_
  refine ec_block ?_
  obtain ⟨x10,hl10,h⟩:=h
  refine ec_loopE 0 (I:=(fun (s10:Int × Int × Int × Int × Int) ρ ds w'=>∃ (ρ':Env),ρ=envs ρ' [(10,.int .i64 s10.1),(0,str d0),(2,.pointer (some ⟨b1,0,none⟩)),(4,.pointer (some ⟨b2,0,none⟩))]∧ds=[]∧Fr (b2::(b1::L)) w2 w'∧Ext w w'∧Blk w' b1 22 [.int .i64 0,.int .i64 0,.int .i64 0,.int .i64 0]∧Blk w' b2 114 [.int .i64 s10.2.1,.int .i64 s10.2.2.1,.int .i64 s10.2.2.2.1,.int .i64 s10.2.2.2.2])) ?_ hl10 ?_ ?_
  ·intro s10 z10 ρ10 ds10 w10r hI10 hb10
   obtain ⟨ρ10r,rfl,rfl,F10r,E10r,B10rb1,B10rb2⟩:=hI10
   have h:=hb10
   unfold digest_Get_b10 at h
   refine ec_sr ?_
   refine o_w (v:=.bool (decide (s10.1<4))) (r_int rfl rfl rfl) ?_
   refine eo_nil_sq ?_
   refine ec_seq ?_
   refine ec_cond rfl (fun hc11=>?_) (fun hc11=>?_)
   ·replace h:=h.1 hc11
    refine ec_skip ?_
    refine sq_n ?_
    refine ec_seq ?_
    refine ec_block ?_
    refine ec_sr ?_
    refine o_w (v:=.int .i64 s10.1) (r_mov rfl) ?_
    refine o_w (v:=.int .i64 s10.1) (r_asg rfl) ?_
    refine eo_q ?_
    refine o_w (v:=.int .i64 s10.1) (r_mov rfl) ?_
    refine o_w (v:=str d0) (r_mov rfl) ?_
    refine o_w (v:=.int .i64 s10.1) (r_mov rfl) ?_
    refine o_w (v:=.int .i64 (IntKind.i64.wrap ((4:Int) * s10.1))) (r_int rfl rfl rfl) ?_
    obtain ⟨ha13,h⟩:=h
    obtain ⟨x12,hx12,h⟩:=h
    refine o_call cf_octet_Get rfl (octet_Get_c d0 (IntKind.i64.wrap ((4:Int) * s10.1)) (4:Int) (((hL.fr E10r).cons B10rb1.lt).cons B10rb2.lt) (eq_ev hx12 (octGet_ev d0 (IntKind.i64.wrap ((4:Int) * s10.1)) (4:Int) ha13))) rfl rfl ?_
    rintro _ w12 ⟨F12,rfl⟩
    have E14:=E10r.trans F12
    refine o_w (v:=.tuple #[.int .i64 x12.1,.int .i64 x12.2]) (r_mov rfl) ?_
    refine o_w (v:=.int .i64 x12.1) (r_ext rfl rfl) ?_
    refine o_w (v:=.int .i64 x12.2) (r_ext rfl rfl) ?_
    obtain ⟨ha18,h⟩:=h
    refine o_w (v:=.pointer (some ⟨b2,s10.1.toNat,none⟩)) (r_iaA un_digest_sums sz_int rfl rfl ha18) ?_
    refine o_storeV (f:=(Value.int .i64)) (m:=4) (e:=([s10.2.1,s10.2.2.1,s10.2.2.2.1,s10.2.2.2.2]:List Int)) (v:=x12.1) rfl (B10rb2.ex F12) ha18 rfl rfl int_one sz_int rfl ?_
    intro w19 F19 B19
    have E20:=Ext.st E14 F19 (by simp; omega)
    have G21:Fr (b2::(b1::L)) w2 w19:=(F10r.trans (Fr.ext F12)).stp F19 (upc (.inl mH) (fun m hm=>by cases hm))
    have B22:=(B10rb1.ex F12).fr F19 (by simp; omega)
    have B19':Blk w19 b2 _ [.int .i64 (nth (([s10.2.1,s10.2.2.1,s10.2.2.2.1,s10.2.2.2.2]:List Int).set s10.1.toNat x12.1) 0),.int .i64 (nth (([s10.2.1,s10.2.2.1,s10.2.2.2.1,s10.2.2.2.2]:List Int).set s10.1.toNat x12.1) 1),.int .i64 (nth (([s10.2.1,s10.2.2.1,s10.2.2.2.1,s10.2.2.2.2]:List Int).set s10.1.toNat x12.1) 2),.int .i64 (nth (([s10.2.1,s10.2.2.1,s10.2.2.2.1,s10.2.2.2.2]:List Int).set s10.1.toNat x12.1) 3)]:=B19
    refine eo_nil ?_
    refine blk_n ?_
    refine sq_n ?_
    refine ec_region ?_
    refine o_w (v:=.int .i64 (IntKind.i64.wrap (s10.1 + (1:Int)))) (r_int rfl rfl rfl) ?_
    refine o_w (v:=.int .i64 (IntKind.i64.wrap (s10.1 + (1:Int)))) (r_mov rfl) ?_
    refine eo_nil ?_
    subst h
    exact lq_n ⟨_,envs_self ⟨rfl,rfl,rfl,rfl,trivial⟩,rfl,G21,E20,B22,B19'⟩
   ·replace h:=h.2 hc11
    refine ec_exit ?_
    refine sq_exit ?_
    subst h
    exact lq_x ⟨_,envs_self ⟨rfl,rfl,rfl,rfl,trivial⟩,rfl,F10r,E10r,B10rb1,B10rb2⟩
  ·exact ⟨_,envs_self ⟨rfl,rfl,rfl,rfl,trivial⟩,rfl,(Fr.refl _ _),E4,(B1.ex F2),B2⟩
  ·rintro ρ10e ds10e w10e ⟨ρ10e,rfl,rfl,F10e,E10e,B10eb1,B10eb2⟩
   refine blk_hit ?_
   refine sq_n ?_
   refine ec_sr ?_
   refine o_w (v:=.agg #[.int .i64 x10.2.1,.int .i64 x10.2.2.1,.int .i64 x10.2.2.2.1,.int .i64 x10.2.2.2.2]) (r_lda agg_digest_sums rfl (vs:=[.int .i64 x10.2.1,.int .i64 x10.2.2.1,.int .i64 x10.2.2.2.1,.int .i64 x10.2.2.2.2]) rfl (B10eb2.part (n:=4) rfl)) ?_
   refine o_store rfl B10eb1 (vs:=[.int .i64 x10.2.1,.int .i64 x10.2.2.1,.int .i64 x10.2.2.2.1,.int .i64 x10.2.2.2.2]) rfl sz_4_int rfl rfl rfl ?_
   intro w23 F23 B23
   have E24:=Ext.st E10e F23 (by simp; omega)
   have B23':Blk w23 b1 _ [.int .i64 x10.2.1,.int .i64 x10.2.2.1,.int .i64 x10.2.2.2.1,.int .i64 x10.2.2.2.2]:=B23
   refine o_w (v:=.int .i64 0) (r_asg rfl) ?_
   refine eo_nil_sq ?_
   refine ec_ret ?_
   subst h
   exact (endr2 (rv_a rfl (agg_4_int) B23' (vs:=[.int .i64 x10.2.1,.int .i64 x10.2.2.1,.int .i64 x10.2.2.2.1,.int .i64 x10.2.2.2.2]) rfl rfl) (rv_t rfl) ⟨_,rfl,E24,rfl,rfl⟩)
end Go.Proofs.YtdfjbkoimpjkaaaGreat
