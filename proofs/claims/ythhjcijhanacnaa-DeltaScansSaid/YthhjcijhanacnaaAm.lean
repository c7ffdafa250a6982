/- What a merge comes to. -/
import Derived.Test.YthhjcijhanacnaaAr
namespace Go.Proofs.Ythhjcijhanacnaa
open Go Go.RowKit
set_option linter.unusedVariables false
set_option linter.unusedSimpArgs false

/-! ### all slots, in order -/
theorem idx_ok {a:Arena} (h:arOk a=true):∀ i∈idxR a.slots,0≤i∧i<(a.slots.length:Int):=fun i hi=>idR_mem.1 ((idxR_perm _).mem_iff.1 hi)
theorem allA_eq {a:Arena} (h:arOk a=true):allA a=(idxR a.slots).map (nth a.slots):=by unfold allA; rw [h,(arOk_iff.1 h).2.2.2]; rfl
theorem allA_mem {a:Arena} (h:arOk a=true) {x:Ent}:x∈allA a↔x∈a.slots:=by
 rw [allA_eq h,List.mem_map]
 constructor
 ·rintro ⟨i,hi,rfl⟩
  have:=idx_ok h i hi
  exact getD_mem' (by omega)
 ·intro hx
  obtain ⟨i,hi,rfl⟩:=mem_getD hx
  exact ⟨(i:Int),(idxR_perm _).mem_iff.2 (idR_mem.2 ⟨by omega,by omega⟩),rfl⟩
/-! ### room -/
end Go.Proofs.Ythhjcijhanacnaa
