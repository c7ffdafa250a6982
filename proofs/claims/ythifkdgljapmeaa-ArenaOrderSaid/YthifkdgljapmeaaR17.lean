/- ArenaOrder is true, whatever the input, and the input reads as it did. -/
import Derived.Test.YthifkdgljapmeaaKt
import Derived.Test.YthifkdgljapmeaaSe17
namespace Go.Proofs.Ythifkdgljapmeaa
open Go Go.ChangeShapes Go.WideShapes Go.ChangeAt Go.RowKit
set_option linter.unusedVariables false
set_option maxRecDepth 100000 in
theorem arenaOrder_lifted (os:Os) (started:os.Started) (H:Type) (enc:TypeId × Value→H) :
  ReturnsInHanded {} Try.checked os 6 .any (Rows.arenaOrderSpec.pre6 enc Try.prog Try.f6 Rows.arenaOrderRow.domain false) (Rows.arenaOrderSpec.post enc Try.prog Try.f6 false true false false):=by
 refine returnsInHanded_of_change (C:=Try.checked) own_knob started (by kernel_rfl) Try.func6
  (ChangeSpec.witness6 (enc:=enc) (C:=Try.checked) false ⟨#[],#[.agg #[.int .i64 0,.slice none 0 0,.slice none 0 0],.slice none 0 0,.int .u8 0],[]⟩ 8 (by kernel_rfl) (by kernel_rfl) (by kernel_rfl) (by kernel_rfl)) ?_
 intro W base args ds gs before hval0 hW hcnd _
 have hval:∀ (j:Nat) t v,Try.f6.params[j]?=some t→args[j]?=some v→Value.okWide Try.prog W .any base t v:=hval0
 have hW':=hW
 obtain ⟨p,q,hA0,hV,rfl,hfz,hnd⟩:=hW
 have hA:DataW.TrodAll enc Try.prog W 0 (fun _=>true) true Try.f6.params.toList args.toList ds p:=hA0
 rw [Try.params6] at hA hval
 obtain ⟨v0,vs0,d0,ds0,p0,q0,hargs,rfl,rfl,h0,r0⟩:=trodAll_cons hA
 obtain ⟨v1,vs1,d1,ds1,p1,q1,rfl,rfl,rfl,h1,r1⟩:=trodAll_cons r0
 obtain ⟨v2,vs2,d2,ds2,p2,q2,rfl,rfl,rfl,h2,r2⟩:=trodAll_cons r1
 obtain ⟨rfl,rfl,rfl⟩:=trodAll_nil r2
 obtain rfl:args=#[v0,v1,v2]:=by cases args; simp_all
 obtain ⟨rfl,rfl⟩:=trodVars_none hV
 have k0:=h0
 have k1:=h1
 have lt0:∀ x∈p0,x.block<W.heap.size:=by obtain ⟨m,hm⟩:=k0; exact DataW.trod_lt m _ _ _ hm
 have lt1:∀ x∈p1,x.block<W.heap.size:=by obtain ⟨m,hm⟩:=k1; exact DataW.trod_lt m _ _ _ hm
 obtain ⟨cs0,rfl,hsz0⟩:=okWide_struct Try.underlying25 (hval 0 _ v0 rfl rfl)
 obtain ⟨x0,_,g0,S0⟩:∃ d,cs0.toList.length=kArena.n∧GArena d∧Stb [] W (fun w=>kArena.r w cs0.toList d):=by obtain ⟨m,hm⟩:=h0; exact opens_Arena H enc _ _ _ _ _ _ _ hm
 obtain ⟨A1,len1,c1,rfl⟩:=okWide_slice Try.underlying22 (hval 1 _ v1 rfl rfl)
 obtain ⟨x1,_,g1,S1⟩:∃ d,[Value.slice A1 len1 c1].length=(kSl kEnt).n∧Gs_api_Entry d∧Stb [] W (fun w=>(kSl kEnt).r w [Value.slice A1 len1 c1] d):=by obtain ⟨m,hm⟩:=h1; exact opens_s_api_Entry H enc _ _ _ _ _ _ _ hm
 obtain ⟨A1',c1',e1,S1'⟩:=Stb.sl S1
 cases e1
 obtain ⟨a2,rfl,rfl,rfl,w2⟩:=open_int un_uint8 (hval 2 _ v2 rfl rfl) h2
 clear hA0 hval0
 have hc:=law_any (law08_ArenaOrder_c (L:=[]) x0 S0 x1 S1' a2 (lt_nil W) (arenaOrder_ev x0 x1 a2 g0 g1 w2))
 try simp only [Array.toArray_toList] at hc
 refine hc.mono fun e W' ⟨he,bel⟩=>?_
 subst he
 exact ⟨_,rfl,_,_,_,[],_,[],hW',trodAll_mk1 (shut_bool un_bool _),(trodAll_cons_mk (Below.trod laid_out (by kernel_rfl) (of_decide_eq_true (by kernel_rfl)) k0 bel lt0) (trodAll_cons_mk (Below.trod laid_out (by kernel_rfl) (of_decide_eq_true (by kernel_rfl)) k1 bel lt1) (trodAll_cons_mk (shut_int un_uint8 w2) trodAll_mk0))),rfl,bel.frame _,fun h=>by cases h⟩
theorem arenaOrder_closed:joinedFacts Try.prog 6 Try.f6 Rows.arenaOrderSpec Rows.arenaOrderRow=true:=by kernel_rfl
theorem arenaOrder_holds:Rows.ArenaOrderSaid :=
 OpenClaim.holds_of_wide 6 Try.f6 rfl rfl rfl rfl rfl rfl rfl ⟨rfl,rfl,rfl,rfl,rfl⟩ rfl rfl rfl rfl rfl (by kernel_rfl) Try.func6 arenaOrder_closed
  (of_decide_eq_true (by kernel_rfl)) (by unfold Func.isWrapper; first | (rw [if_pos (by decide +kernel)]; kernel_rfl) | (rw [if_neg (by decide +kernel)]; exact ⟨rfl,rfl⟩))
  (fun os started H enc _=>arenaOrder_lifted os started H enc)
#print axioms arenaOrder_holds
end Go.Proofs.Ythifkdgljapmeaa
