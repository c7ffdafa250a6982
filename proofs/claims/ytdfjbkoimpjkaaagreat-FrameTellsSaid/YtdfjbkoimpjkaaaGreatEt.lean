import Derived.Test.YtdfjbkoimpjkaaaGreatEs
namespace Go.Proofs.YtdfjbkoimpjkaaaGreat
open Go Go.RowKit
set_option linter.unusedVariables false
set_option linter.unusedSimpArgs false
def slices_EqualFunc_Entry_Same_b2 (d0:(List Ent)) (d1:(List Ent)) (s2:Int) (z2:(Int) ⊕ ((Int) ⊕ (Bool))):Prop :=
 ((decide (s2<(d0.length:Int)))=true→((0≤s2∧s2<(d0.length:Int))∧((0≤s2∧s2<(d1.length:Int))∧((sm (nth d0 s2).val)∧(((!(sameE (nth d0 s2) (nth d1 s2)))=true→(z2=.inr (.inr false)))∧((!(sameE (nth d0 s2) (nth d1 s2)))=false→(z2=.inl (IntKind.i64.wrap (s2 + (1:Int))))))))))∧((decide (s2<(d0.length:Int)))=false→(z2=.inr (.inl s2)))
def slices_EqualFunc_Entry_Same_raw (d0:(List Ent)) (d1:(List Ent)) (y:Bool):Prop :=
 (((d0.length:Int) != (d1.length:Int))=true→(y=false))∧(((d0.length:Int) != (d1.length:Int))=false→(∃ x2,LoopR (slices_EqualFunc_Entry_Same_b2 d0 d1) (0:Int) x2∧(∀ sx2,x2=.inl sx2→(y=true))∧(∀ y2,x2=.inr y2→(y=y2))))
set_option maxRecDepth 20000 in
set_option maxHeartbeats 4000000 in
theorem slices_EqualFunc_Entry_Same_c {L:List Nat} {w:World} {AP0:Option Addr} {cP0:Nat} (d0:(List Ent)) (HP0:Stb L w (fun w=>SlC kEnt w AP0 cP0 d0)) {AP1:Option Addr} {cP1:Nat} (d1:(List Ent)) (HP1:Stb L w (fun w=>SlC kEnt w AP1 cP1 d1)) (hL:Lt L w) {y:Bool} (h:slices_EqualFunc_Entry_Same_raw d0 d1 y) :
  Calls Tryz.prog 36 [.slice AP0 d0.length cP0,.slice AP1 d1.length cP1,.func (.func 37) #[] #[]].toArray w (Ret fun v w'=>Ext w w'∧v=.bool y):=by
 unfold slices_EqualFunc_Entry_Same_raw at h
 refine calls_ec Tryz.func36 rfl rfl rfl ?_
 refine ec_sr ?_
 refine o_w (v:=.bool false) (r_asg rfl) ?_
 refine eo_nil_sq ?_
 refine ec_seq ?_
 refine ec_sr ?_
 refine o_w (v:=.slice AP0 d0.length cP0) (r_mov rfl) ?_
 refine o_w (v:=.int .i64 (d0.length:Int)) (r_len_slc un_s_api_Entry rfl) ?_
 refine o_w (v:=.slice AP1 d1.length cP1) (r_mov rfl) ?_
 refine o_w (v:=.int .i64 (d1.length:Int)) (r_len_slc un_s_api_Entry rfl) ?_
 refine o_w (v:=.bool ((d0.length:Int) != (d1.length:Int))) (r_int rfl rfl rfl) ?_
 refine eo_nil_sq ?_
 refine ec_cond rfl (fun hc1=>?_) (fun hc1=>?_)
 ·replace h:=h.1 hc1
  refine ec_sr ?_
  refine o_w (v:=.bool false) (r_asg rfl) ?_
  refine eo_nil_sq ?_
  refine ec_ret ?_
  refine sq_ret ?_
  subst h
  exact (end1 rfl ⟨_,rfl,(Fr.refl _ _),rfl⟩)
 ·replace h:=h.2 hc1
  refine ec_skip ?_
  refine sq_n ?_
  refine ec_seq ?_
  refine ec_sr ?_
  refine o_w (v:=.slice AP0 d0.length cP0) (r_mov rfl) ?_
  refine o_w (v:=.int .i64 (d0.length:Int)) (r_len_slc un_s_api_Entry rfl) ?_
  refine o_w (v:=.int .i64 0) (r_mov rfl) ?_
  refine eo_nil_sq ?_
  refine ec_block ?_
  obtain ⟨x2,hl2,h⟩:=h
  refine ec_loopER 0 (I:=(fun (s2:Int) ρ ds w'=>∃ (ρ':Env),ρ=envs ρ' [(17,.int .i64 s2),(1,.slice AP1 d1.length cP1),(2,.func (.func 37) #[] #[]),(15,.slice AP0 d0.length cP0),(16,.int .i64 (d0.length:Int))]∧ds=[]∧Fr L w w'∧Ext w w')) (J:=(fun (y':Bool) ρ ds wz=>bodyE Tryz.prog #[.tmp 6] (Ret fun v w'=>Ext w w'∧v=.bool y') .ret ρ ds wz)) ?_ hl2 ?_ ?_ ?_
  ·intro s2 z2 ρ2 ds2 w2r hI2 hb2
   obtain ⟨ρ2r,rfl,rfl,F2r,E2r⟩:=hI2
   have h:=hb2
   unfold slices_EqualFunc_Entry_Same_b2 at h
   have G3:Fr L w w2r:=(Fr.refl _ _).stp F2r (fun _ h=>.inl h)
   refine ec_sr ?_
   refine o_w (v:=.bool (decide (s2<(d0.length:Int)))) (r_int rfl rfl rfl) ?_
   refine eo_nil_sq ?_
   refine ec_seq ?_
   refine ec_cond rfl (fun hc4=>?_) (fun hc4=>?_)
   ·replace h:=h.1 hc4
    refine ec_skip ?_
    refine sq_n ?_
    refine ec_seq ?_
    refine ec_block ?_
    refine ec_sr ?_
    refine o_w (v:=.int .i64 s2) (r_mov rfl) ?_
    obtain ⟨ha5,h⟩:=h
    obtain ⟨cs6,l8,H7⟩:=Stb.elem (by decide) (HP0.fr G3 sI) s2 ha5.1 ha5.2
    obtain ⟨A10,c11,A13,c14,rfl,H9,H12,H15⟩:=kEnt_open2 H7
    refine o_w (v:=.pointer (some (elemA AP0 kEnt.n s2.toNat))) (r_ia slc_s_api_Entry rfl rfl ((HP0.fr G3 sI).now.2 _ (lt_toNat ha5.1 ha5.2)).1 ha5.1 ha5.2) ?_
    refine o_w (v:=.agg (cEnt (nth d0 s2) A10 c11 A13 c14).toArray) (r_lda' agg_api_Entry rfl (elemA_spot _ _ _) (vs:=(cEnt (nth d0 s2) A10 c11 A13 c14)) rfl (H9.now.1)) ?_
    refine o_alloc zero_api_Entry rfl rfl rfl ?_
    intro b16 w16 e16 F16 B16
    have n16:w.heap.size≤b16:=by rw [e16]; exact E2r.size
    have m17:w.heap.size≤b16:=by rw [e16]; exact G3.size
    have m18:w.heap.size≤b16:=by rw [e16]; exact F2r.size
    have m19:w2r.heap.size≤b16:=Nat.le_of_eq e16.symm
    have E20:=E2r.trans F16
    have G23:Fr L w2r w16:=Fr.ext F16
    refine o_w (v:=.int .i64 s2) (r_asg rfl) ?_
    refine o_store rfl B16 (vs:=(cEnt (nth d0 s2) A10 c11 A13 c14)) rfl sz_api_Entry rfl rfl rfl ?_
    intro w24 F24 B24
    have E25:=Ext.st E20 F24 (by simp; omega)
    have G26:Fr L w w24:=(G3.trans (Fr.ext F16)).stp F24 (upc (.inr m17) (fun m hm=>by cases hm))
    have G27:Fr L w w24:=(F2r.trans (Fr.ext F16)).stp F24 (upc (.inr m18) (fun m hm=>by cases hm))
    have G28:Fr L w2r w24:=G23.stp F24 (upc (.inr m19) (fun m hm=>by cases hm))
    have B24':Blk w24 b16 _ (cEnt (nth d0 s2) A10 c11 A13 c14):=B24
    refine eo_r ?_
    refine o_w (v:=.slice AP1 d1.length cP1) (r_mov rfl) ?_
    refine o_w (v:=.int .i64 s2) (r_mov rfl) ?_
    obtain ⟨ha29,h⟩:=h
    obtain ⟨cs30,l32,H31⟩:=Stb.elem (by decide) (HP1.up G26 sI (upc (.inr m17) (fun _ h=>.inl h))) s2 ha29.1 ha29.2
    obtain ⟨A34,c35,A37,c38,rfl,H33,H36,H39⟩:=kEnt_open2 H31
    refine o_w (v:=.pointer (some (elemA AP1 kEnt.n s2.toNat))) (r_ia slc_s_api_Entry rfl rfl ((HP1.fr G26 sI).now.2 _ (lt_toNat ha29.1 ha29.2)).1 ha29.1 ha29.2) ?_
    refine o_w (v:=.agg (cEnt (nth d1 s2) A34 c35 A37 c38).toArray) (r_lda' agg_api_Entry rfl (elemA_spot _ _ _) (vs:=(cEnt (nth d1 s2) A34 c35 A37 c38)) rfl (H33.now.1)) ?_
    refine o_alloc zero_api_Entry rfl rfl rfl ?_
    intro b40 w40 e40 F40 B40
    have n40:w.heap.size≤b40:=by rw [e40]; exact E25.size
    have q41:b16<b40:=by rw [e40]; exact B24'.lt
    have m43:w.heap.size≤b40:=by rw [e40]; exact G27.size
    have m44:w2r.heap.size≤b40:=by rw [e40]; exact G28.size
    have m45:w24.heap.size≤b40:=Nat.le_of_eq e40.symm
    have E46:=E25.trans F40
    have G50:Fr (b16::L) w24 w40:=Fr.ext F40
    refine o_store rfl B40 (vs:=(cEnt (nth d1 s2) A34 c35 A37 c38)) rfl sz_api_Entry rfl rfl rfl ?_
    intro w52 F52 B52
    have E53:=Ext.st E46 F52 (by simp; omega)
    have G55:Fr L w w52:=(G27.trans (Fr.ext F40)).stp F52 (upc (.inr m43) (fun m hm=>by cases hm))
    have G56:Fr L w2r w52:=(G28.trans (Fr.ext F40)).stp F52 (upc (.inr m44) (fun m hm=>by cases hm))
    have G57:Fr (b16::L) w24 w52:=G50.stp F52 (upc (.inr m45) (fun m hm=>by cases hm))
    have B58:=(B24'.ex F40).fr F52 (by simp; omega)
    have B52':Blk w52 b40 _ (cEnt (nth d1 s2) A34 c35 A37 c38):=B52
    refine eo_r ?_
    refine o_w (v:=.func (.func 37) #[] #[]) (r_mov rfl) ?_
    refine o_w (v:=.agg (cEnt (nth d0 s2) A10 c11 A13 c14).toArray) (r_lda agg_api_Entry rfl (vs:=(cEnt (nth d0 s2) A10 c11 A13 c14)) rfl (B58.part (n:=9) rfl)) ?_
    refine o_w (v:=.agg (cEnt (nth d1 s2) A34 c35 A37 c38).toArray) (r_lda agg_api_Entry rfl (vs:=(cEnt (nth d1 s2) A34 c35 A37 c38)) rfl (B52'.part (n:=9) rfl)) ?_
    obtain ⟨ha60,h⟩:=h
    refine o_callv cf_entry_Same rfl rfl (entry_Same_c (nth d0 s2) (kEnt_mk (d:=(nth d0 s2)) (H12.up G56 sI (upc (.inr m44) (upc (.inr m19) (fun _ h=>.inl h)))) (H15.up G56 sI (upc (.inr m44) (upc (.inr m19) (fun _ h=>.inl h))))) (nth d1 s2) (kEnt_mk (d:=(nth d1 s2)) (H36.up G57 sI (upc (.inr m45) (upc (.inl mH) (fun m hm=>Or.inl (mT hm))))) (H39.up G57 sI (upc (.inr m45) (upc (.inl mH) (fun m hm=>Or.inl (mT hm)))))) (((hL.fr E53).cons B58.lt).cons B52'.lt) (entSame_ev (nth d0 s2) (nth d1 s2) ha60)) rfl rfl ?_
    rintro _ w59 ⟨F59,rfl⟩
    have E61:=E53.trans F59
    refine o_w (v:=.bool (!(sameE (nth d0 s2) (nth d1 s2)))) (r_not rfl) ?_
    refine eo_nil_sq ?_
    refine ec_cond rfl (fun hc68=>?_) (fun hc68=>?_)
    ·replace h:=h.1 hc68
     refine ec_sr ?_
     refine o_w (v:=.bool false) (r_asg rfl) ?_
     refine eo_nil_sq ?_
     refine ec_ret ?_
     refine blk_ret ?_
     refine sq_ret ?_
     subst h
     exact lqR_r (end1 rfl ⟨_,rfl,E61,rfl⟩)
    ·replace h:=h.2 hc68
     refine ec_skip ?_
     refine blk_n ?_
     refine sq_n ?_
     refine ec_region ?_
     refine o_w (v:=.int .i64 (IntKind.i64.wrap (s2 + (1:Int)))) (r_int rfl rfl rfl) ?_
     refine o_w (v:=.int .i64 (IntKind.i64.wrap (s2 + (1:Int)))) (r_mov rfl) ?_
     refine eo_nil ?_
     subst h
     exact lqR_n ⟨_,envs_self ⟨rfl,rfl,rfl,rfl,rfl,trivial⟩,rfl,(G55.trans (Fr.ext F59)),E61⟩
   ·replace h:=h.2 hc4
    refine ec_exit ?_
    refine sq_exit ?_
    subst h
    exact lqR_x ⟨_,envs_self ⟨rfl,rfl,rfl,rfl,rfl,trivial⟩,rfl,F2r,E2r⟩
  ·exact ⟨_,envs_self ⟨rfl,rfl,rfl,rfl,rfl,trivial⟩,rfl,(Fr.refl _ _),(Fr.refl _ _)⟩
  ·rintro sx2 rfl ρ2e ds2e w2e ⟨ρ2e,rfl,rfl,F2e,E2e⟩
   replace h:=h.1 _ rfl
   refine blk_hit ?_
   refine sq_n ?_
   refine ec_sr ?_
   refine o_w (v:=.bool true) (r_asg rfl) ?_
   refine eo_nil_sq ?_
   refine ec_ret ?_
   subst h
   exact (end1 rfl ⟨_,rfl,E2e,rfl⟩)
  ·rintro y2 rfl ρ2q ds2q w2q hJ
   have hy:=h.2 _ rfl
   subst hy
   refine blk_ret ?_
   refine sq_ret ?_
   exact hJ

theorem loop_run {S R:Type} {body:S→S ⊕ R→Prop} (m:S→Nat) (Inv:S→Prop) (Pq:R→Prop)
  (step:∀ s,Inv s→(∃ s',body s (.inl s')∧Inv s'∧m s'<m s)∨(∃ x,body s (.inr x)∧Pq x)) (s:S) (h:Inv s):∃ x,LoopR body s x∧Pq x:=by
 have key:∀ n s,m s<n→Inv s→∃ x,LoopR body s x∧Pq x:=by
  intro n
  induction n with
  | zero=>intro s hm; omega
  | succ n ih =>
   intro s hm hi
   rcases step s hi with ⟨s',hb,hi',hm'⟩ | ⟨x,hb,hp⟩
   ·obtain ⟨x,hl,hp⟩:=ih s' (by omega) hi'; exact ⟨x,.step hb hl,hp⟩
   ·exact ⟨x,.done hb,hp⟩
 exact key _ s (Nat.lt_succ_self _) h

/-! ### names in order -/
/-! ### sorted places -/
theorem getD_mem' {T:Type} [Inhabited T] {l:List T} {i:Nat} (h:i<l.length):l.getD i default∈l:=by simp [h]
/-! ### of arena itself -/
theorem checkE_odd (e:Ent):(checkE e != 0)=!okE e:=checkE_ne e
def oddE (d:List Ent):Bool:=!d.all okE
theorem eqFunc_ev (a b:List Ent) (ha:sml a):slices_EqualFunc_Entry_Same_raw a b (allE a b):=by
 refine ⟨fun h=>allE_len (fun e=>by simp [e] at h),fun h=>?_⟩
 have hl:a.length=b.length:=by
  have:¬ (a.length:Int)≠b.length:=by simpa using h
  omega
 have hla:=ha.1
 obtain ⟨x,hx,h2⟩:=loop_scan (body:=slices_EqualFunc_Entry_Same_b2 a b) a.length (fun i=>sameE (a.getD i default) (b.getD i default)) (fun _=>false)
  (fun i hi hp=>⟨fun _=>⟨⟨by omega,by omega⟩,⟨by omega,by omega⟩,ha.2 _ (by rw [nth_nat]; exact getD_mem hi),fun h=>(by rw [nth_nat,nth_nat,hp] at h; cases h),fun _=>by rw [wrapS hi (by omega)]⟩,fun h=>by simp at h; omega⟩)
  (fun i hi hp=>⟨fun _=>⟨⟨by omega,by omega⟩,⟨by omega,by omega⟩,ha.2 _ (by rw [nth_nat]; exact getD_mem hi),fun _=>rfl,fun h=>(by rw [nth_nat,nth_nat,hp] at h; cases h)⟩,fun h=>by simp at h; omega⟩)
  ⟨fun h=>by simp at h,fun _=>rfl⟩
 refine ⟨x,hx,fun s e=>?_,fun y e=>?_⟩
 ·rcases h2 with ⟨_,h3⟩ | ⟨i,_,_,_,h6⟩
  ·exact allE_nth hl h3
  ·rw [e] at h6; cases h6
 ·rcases h2 with ⟨h3,_⟩ | ⟨i,_,h4,_,h6⟩
  ·rw [e] at h3; cases h3
  ·rw [e] at h6; cases h6; exact allE_no h4
end Go.Proofs.YtdfjbkoimpjkaaaGreat