/- The least counter: its numbers lie in blocks of one's own. -/
import Derived.Test.YtdojgmmpcdbeoaaWj
import Derived.Test.YtdojgmmpcdbeoaaGa3
namespace Go.Proofs.Ytdojgmmpcdbeoaa
open Go Go.RowKit
set_option linter.unusedVariables false
set_option linter.unusedSimpArgs false

abbrev Z8:List Int:=List.replicate 8 (0:Int)
abbrev intC (e:List Int):List Value:=arC (Value.int .i64) 8 e
/-- A counter whose numbers lie in two blocks. -/
abbrev cntC (b1 b2 : Nat) : List Value := [.int .i64 2, .int .i64 0, .int .i64 0, .bool false, str [], .slice (some ⟨b1, 0, none⟩) 8 8, .slice (some ⟨b2, 0, none⟩) 8 8, .int .u64 0]
/-- What the least counter is, as it lies there. -/
abbrev LstC (w : World) (b1 b2 : Nat) (w' : World) : Prop := Ext w w' ∧ Blk w' b1 3 (intC Z8) ∧ Blk w' b2 3 (intC Z8) ∧ w.heap.size ≤ b1 ∧ w.heap.size ≤ b2 ∧ b1 ≠ b2
set_option maxRecDepth 20000 in
set_option maxHeartbeats 4000000 in
theorem counter_leastB {w:World}:Calls Try.prog 62 [.agg #[]].toArray w (Ret fun v w'=>∃ b1 b2,v=.agg (cntC b1 b2).toArray∧LstC w b1 b2 w'):=by
 refine calls_ec Try.func62 rfl rfl rfl ?_
 refine ec_sr ?_
 refine o_box (cs:=[]) rfl rfl rfl ?_
 intro b21 w21 e21 F21 B21
 refine o_alloc zero_api_Value rfl rfl rfl ?_
 intro b24 w24 e24 F24 B24
 have E24:Ext w w24:=F21.trans F24
 have n24:w.heap.size≤b24:=by rw [e24]; exact F21.size
 refine eo_nil_sq ?_
 refine ec_seq ?_
 refine ec_anyO (n:=4) (by kernel_rfl) rfl (fun w3 F3=>?_)
 have E3:Ext w w3:=E24.trans F3
 have B3:=B24.ex F3
 have l24:=B3.lt
 -- behind both
 have tail:∀ (b1 b2:Nat) (w2 w4:World) (ρ':Env),Ext w w2→Fr [b24] w2 w4→Blk w4 b24 25 (cntC b1 b2)→ρ' 2=.pointer (some ⟨b24,0,none⟩) →
   Blk w2 b1 3 (intC Z8)→Blk w2 b2 3 (intC Z8)→w3.heap.size≤b1→w3.heap.size≤b2→b1≠b2 →
   sq Try.prog none 6 .ret (bodyE Try.prog #[.cell 2 25] (Ret fun v w'=>∃ b1 b2,v=.agg (cntC b1 b2).toArray∧LstC w b1 b2 w')) .normal ρ' [] w4:=by
  intro b1 b2 w2 w4 ρ' E F B h2 X1 X2 l1 l2 hn
  have s3:=E3.size
  refine sq_n ?_
  refine ec_ret ?_
  refine endr1 (rv_a h2 agg_api_Value B (vs:=cntC b1 b2) rfl rfl) ⟨_,rfl,b1,b2,rfl,Ext.st E F (fun m hm=>by rw [List.mem_singleton] at hm; rw [hm]; exact n24),X1.fr F (by simp; omega),X2.fr F (by simp; omega),by omega,by omega,hn⟩
 refine ord_cons 0 [1] (by kernel_rfl) ⟨⟨_,rfl,?_⟩,⟨_,rfl,?_⟩,trivial⟩
 ·refine o_makeB 8 slc_s_int rfl rfl (by decide) (cs:=intC Z8) (by kernel_rfl) rfl rfl ?_
  intro ba wa ea Fa Ba
  refine eo_nil ?_
  refine ord_cons 1 [] (by kernel_rfl) ⟨⟨_,rfl,?_⟩,trivial⟩
  refine o_makeB 8 slc_s_int rfl rfl (by decide) (cs:=intC Z8) (by kernel_rfl) rfl rfl ?_
  intro bb wb eb Fb Bb
  have la:=Ba.lt
  refine eo_nil ?_
  refine ord_cons 2 [] (by kernel_rfl) ⟨⟨_,rfl,?_⟩,trivial⟩
  refine o_w (v:=.agg (cntC ba bb).toArray) (r_build bld_api_Value (vs:=[(0,.int .i64 2),(5,.slice (some ⟨ba,0,none⟩) 8 8),(6,.slice (some ⟨bb,0,none⟩) 8 8)]) (cells:=cntC ba bb) rfl rfl) ?_
  refine eo_nil ?_
  refine ord_cons 3 [] (by kernel_rfl) ⟨⟨_,rfl,?_⟩,trivial⟩
  refine o_store rfl ((B3.ex Fa).ex Fb) (vs:=cntC ba bb) rfl sz_api_Value rfl rfl rfl ?_
  intro w4 F4 B4
  refine eo_nil ?_
  refine ord_end (by kernel_rfl) ?_
  have sa:=Fa.size
  exact tail ba bb wb w4 _ ((E3.trans Fa).trans Fb) F4 B4 rfl (Ba.ex Fb) Bb (by omega) (by omega) (by omega)
 ·refine o_makeB 8 slc_s_int rfl rfl (by decide) (cs:=intC Z8) (by kernel_rfl) rfl rfl ?_
  intro ba wa ea Fa Ba
  refine eo_nil ?_
  refine ord_cons 0 [] (by kernel_rfl) ⟨⟨_,rfl,?_⟩,trivial⟩
  refine o_makeB 8 slc_s_int rfl rfl (by decide) (cs:=intC Z8) (by kernel_rfl) rfl rfl ?_
  intro bb wb eb Fb Bb
  have la:=Ba.lt
  refine eo_nil ?_
  refine ord_cons 2 [] (by kernel_rfl) ⟨⟨_,rfl,?_⟩,trivial⟩
  refine o_w (v:=.agg (cntC bb ba).toArray) (r_build bld_api_Value (vs:=[(0,.int .i64 2),(5,.slice (some ⟨bb,0,none⟩) 8 8),(6,.slice (some ⟨ba,0,none⟩) 8 8)]) (cells:=cntC bb ba) rfl rfl) ?_
  refine eo_nil ?_
  refine ord_cons 3 [] (by kernel_rfl) ⟨⟨_,rfl,?_⟩,trivial⟩
  refine o_store rfl ((B3.ex Fa).ex Fb) (vs:=cntC bb ba) rfl sz_api_Value rfl rfl rfl ?_
  intro w4 F4 B4
  refine eo_nil ?_
  refine ord_end (by kernel_rfl) ?_
  have sa:=Fa.size
  exact tail bb ba wb w4 _ ((E3.trans Fa).trans Fb) F4 B4 rfl Bb (Ba.ex Fb) (by omega) (by omega) (by omega)
set_option maxRecDepth 20000 in
set_option maxHeartbeats 4000000 in
theorem value_LeastC_c {w:World}:Calls Try.prog 15 [.int .i64 2].toArray w (Ret fun v w'=>∃ b1 b2,v=.tuple #[.agg (cntC b1 b2).toArray,.int .i64 0]∧LstC w b1 b2 w'):=by
 refine calls_ec Try.func15 rfl rfl rfl ?_
 refine ec_sr ?_
 refine o_alloc zero_api_Value rfl rfl rfl ?_
 intro b1 w1 e1 F1 B1
 have n1:w.heap.size≤b1:=Nat.le_of_eq e1.symm
 refine o_w (v:=.int .i64 0) (r_asg rfl) ?_
 refine eo_r ?_
 refine o_w (v:=.int .i64 2) (r_mov rfl) ?_
 refine o_inl (vs:=[.int .i64 2]) (caps:=[]) cf_value_kinds rfl rfl rfl rfl ?_
 refine calls_ec Try.func27 rfl rfl rfl ?_
 refine ec_sr ?_
 refine o_w (v:=.nilIface) (r_asg rfl) ?_
 refine o_w (v:=.bool false) (r_asg rfl) ?_
 refine eo_nil_sq ?_
 refine ec_seq ?_
 refine ec_sr ?_
 refine o_w (v:=.int .i64 2) (r_mov rfl) ?_
 refine eo_nil_sq ?_
 refine ec_block ?_
 refine ec_sr ?_
 refine o_w (v:=.bool false) (r_int rfl rfl rfl) ?_
 refine o_w (v:=.bool false) (r_asg rfl) ?_
 refine eo_nil_sq ?_
 refine ec_condF rfl rfl ?_
 refine ec_sr ?_
 refine o_w (v:=.bool true) (r_int rfl rfl rfl) ?_
 refine o_w (v:=.bool true) (r_asg rfl) ?_
 refine eo_nil_sq ?_
 refine ec_condT rfl rfl ?_
 refine ec_sr ?_
 refine o_w (v:=.agg #[]) (r_build bld_value_counter (vs:=[]) (cells:=[]) rfl rfl) ?_
 refine o_w (v:=.iface 54 (.agg #[])) (r_mkif conc_value_counter rfl) ?_
 refine o_w (v:=.iface 54 (.agg #[])) (r_asg rfl) ?_
 refine o_w (v:=.bool true) (r_asg rfl) ?_
 refine eo_nil_sq ?_
 refine ec_ret ?_
 refine blk_ret ?_
 refine sq_ret ?_
 refine end2 (v:=.iface 54 (.agg #[])) (x:=.bool true) rfl rfl ⟨_,rfl,?_⟩
 refine o_w (v:=.tuple #[.iface 54 (.agg #[]),.bool true]) (r_mov rfl) ?_
 refine o_w (v:=.iface 54 (.agg #[])) (r_ext rfl rfl) ?_
 refine o_w (v:=.bool true) (r_ext rfl rfl) ?_
 refine o_w (v:=.iface 54 (.agg #[])) (r_asg rfl) ?_
 refine o_w (v:=.bool true) (r_asg rfl) ?_
 refine eo_nil_sq ?_
 refine ec_seq ?_
 refine ec_sr ?_
 refine o_w (v:=.bool true) (r_mov rfl) ?_
 refine o_w (r_not rfl) ?_
 refine eo_nil_sq ?_
 refine ec_condF rfl rfl ?_
 refine ec_skip ?_
 refine sq_n ?_
 refine ec_sr ?_
 refine o_w (v:=.iface 54 (.agg #[])) (r_mov rfl) ?_
 refine o_callI (vs:=[]) mf_value_counter_ouroboros_value_least rfl rfl (counter_leastB) rfl rfl ?_
 rintro _ w9 ⟨ba,bb,rfl,E9,Ba,Bb,la,lb,hn⟩
 have B9:=B1.ex E9
 have l1:=B1.lt
 have s1:=F1.size
 refine o_store rfl B9 (vs:=cntC ba bb) rfl sz_api_Value rfl rfl rfl ?_
 intro w10 F10 B10
 have E10:Ext w w10:=Ext.st (F1.trans E9) F10 (by simp; omega)
 refine o_w (v:=.int .i64 0) (r_asg rfl) ?_
 refine eo_nil_sq ?_
 refine ec_ret ?_
 exact (endr2 (rv_a rfl (agg_api_Value) B10 (vs:=cntC ba bb) rfl rfl) (rv_t rfl) ⟨_,rfl,ba,bb,rfl,E10,Ba.fr F10 (by simp; omega),Bb.fr F10 (by simp; omega),by omega,by omega,hn⟩)
end Go.Proofs.Ytdojgmmpcdbeoaa
