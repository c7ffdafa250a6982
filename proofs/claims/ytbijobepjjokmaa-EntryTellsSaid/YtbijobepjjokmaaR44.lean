/- EntryTells is true, whatever the input, and the input reads as it did. -/
import Derived.Test.YtbijobepjjokmaaKt
import Derived.Test.YtbijobepjjokmaaSq4
namespace Go.Proofs.Ytbijobepjjokmaa
open Go Go.ChangeShapes Go.WideShapes Go.ChangeAt Go.RowKit
set_option linter.unusedVariables false
set_option maxRecDepth 100000 in
theorem entryTells_lifted (os:Os) (started:os.Started) (H:Type) (enc:TypeId × Value→H) :
  ReturnsInHanded {} Try.checked os 3 .any (Rows.entryTellsSpec.pre6 enc Try.prog Try.f3 Rows.entryTellsRow.domain false) (Rows.entryTellsSpec.post enc Try.prog Try.f3 false true false false):=by
 refine returnsInHanded_of_change (C:=Try.checked) own_knob started (by kernel_rfl) Try.func3
  (ChangeSpec.witness6 (enc:=enc) (C:=Try.checked) false ⟨#[],#[.agg #[.string ByteArray.empty,.int .i64 0,.int .i64 0,.int .i64 0,.bool false,.string ByteArray.empty,.slice none 0 0,.slice none 0 0,.int .u64 0],.agg #[.string ByteArray.empty,.int .i64 0,.int .i64 0,.int .i64 0,.bool false,.string ByteArray.empty,.slice none 0 0,.slice none 0 0,.int .u64 0]],[]⟩ 8 (by kernel_rfl) (by kernel_rfl) (by kernel_rfl) (by kernel_rfl)) ?_
 intro W base args ds gs before hval0 hW hcnd _
 have hval:∀ (j:Nat) t v,Try.f3.params[j]?=some t→args[j]?=some v→Value.okWide Try.prog W .any base t v:=hval0
 have hW':=hW
 obtain ⟨p,q,hA0,hV,rfl,hfz,hnd⟩:=hW
 have hA:DataW.TrodAll enc Try.prog W 0 (fun _=>true) true Try.f3.params.toList args.toList ds p:=hA0
 rw [Try.params3] at hA hval
 obtain ⟨v0,vs0,d0,ds0,p0,q0,hargs,rfl,rfl,h0,r0⟩:=trodAll_cons hA
 obtain ⟨v1,vs1,d1,ds1,p1,q1,rfl,rfl,rfl,h1,r1⟩:=trodAll_cons r0
 obtain ⟨rfl,rfl,rfl⟩:=trodAll_nil r1
 obtain rfl:args=#[v0,v1]:=by cases args; simp_all
 obtain ⟨rfl,rfl⟩:=trodVars_none hV
 have k0:=h0
 have k1:=h1
 have lt0:∀ x∈p0,x.block<W.heap.size:=by obtain ⟨m,hm⟩:=k0; exact DataW.trod_lt m _ _ _ hm
 have lt1:∀ x∈p1,x.block<W.heap.size:=by obtain ⟨m,hm⟩:=k1; exact DataW.trod_lt m _ _ _ hm
 obtain ⟨cs0,rfl,hsz0⟩:=okWide_struct Try.underlying27 (hval 0 _ v0 rfl rfl)
 obtain ⟨x0,_,g0,S0⟩:∃ d,cs0.toList.length=kEnt.n∧GEnt d∧Stb [] W (fun w=>kEnt.r w cs0.toList d):=by obtain ⟨m,hm⟩:=h0; exact opens_Ent H enc _ _ _ _ _ _ _ hm
 obtain ⟨cs1,rfl,hsz1⟩:=okWide_struct Try.underlying27 (hval 1 _ v1 rfl rfl)
 obtain ⟨x1,_,g1,S1⟩:∃ d,cs1.toList.length=kEnt.n∧GEnt d∧Stb [] W (fun w=>kEnt.r w cs1.toList d):=by obtain ⟨m,hm⟩:=h1; exact opens_Ent H enc _ _ _ _ _ _ _ hm
 clear hA0 hval0
 have hc:=law_any (law07_EntryTells_c (L:=[]) x0 S0 x1 S1 (lt_nil W) (entryTells_ev x0 x1 g0 g1))
 simp only [Array.toArray_toList] at hc
 refine hc.mono fun e W' ⟨he,bel⟩=>?_
 subst he
 exact ⟨_,rfl,_,_,_,[],_,[],hW',trodAll_mk1 (shut_bool un_bool _),(trodAll_cons_mk (Below.trod laid_out (by kernel_rfl) (of_decide_eq_true (by kernel_rfl)) k0 bel lt0) (trodAll_cons_mk (Below.trod laid_out (by kernel_rfl) (of_decide_eq_true (by kernel_rfl)) k1 bel lt1) trodAll_mk0)),rfl,bel.frame _,fun h=>by cases h⟩
theorem entryTells_closed:joinedFacts Try.prog 3 Try.f3 Rows.entryTellsSpec Rows.entryTellsRow=true:=by kernel_rfl
theorem entryTells_holds:Rows.EntryTellsSaid :=
 OpenClaim.holds_of_wide 3 Try.f3 rfl rfl rfl rfl rfl rfl rfl ⟨rfl,rfl,rfl,rfl,rfl⟩ rfl rfl rfl rfl rfl (by kernel_rfl) Try.func3 entryTells_closed
  (of_decide_eq_true (by kernel_rfl)) (by unfold Func.isWrapper; first | (rw [if_pos (by decide +kernel)]; kernel_rfl) | (rw [if_neg (by decide +kernel)]; exact ⟨rfl,rfl⟩))
  (fun os started H enc _=>entryTells_lifted os started H enc)
#print axioms entryTells_holds
end Go.Proofs.Ytbijobepjjokmaa
