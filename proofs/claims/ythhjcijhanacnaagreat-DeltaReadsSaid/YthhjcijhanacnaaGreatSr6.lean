/- DeltaReads: what is read of any arena, by any key, is just what the document says. -/
import Derived.Test.YthhjcijhanacnaaGreatGiReads
import Derived.Test.YthhjcijhanacnaaGreatSe10
namespace Go.Proofs.YthhjcijhanacnaaGreat
open Go Go.RowKit
set_option linter.unusedVariables false
set_option linter.unusedSimpArgs false

theorem scan_sml {a:Arena} (h:sma a):sml (scanU a):=sml_sub (all_sml h) (fun e he=>by
 unfold scanU liveL at he
 exact (List.mem_filter.1 he).1) (by
 have:=List.length_filter_le (fun e:Ent=>!e.val.dead) (allA a)
 have h2:(allA a).length≤1000000:=allA_len
 unfold scanU liveL; omega)
theorem deltaReads_row (a:Arena) (key:Str) (g0:GArena a) (g1:shortL key):law09_DeltaReads_raw a key true:=by
 refine ⟨fun h=>(by cases h),fun _=>⟨fun _=>rfl,fun f1=>?_⟩⟩
 have fa:fewA a=true:=by revert f1; cases fewA a <;> simp
 have sa:=fewA_sma fa
 refine ⟨sa,_,rfl,sa,_,rfl,sa,_,rfl,sa,_,rfl,sa,_,rfl,sa,_,rfl,sa,_,rfl,sa,_,rfl,scan_sml sa,?_⟩
 simp only [allE_self,beq_self_eq_true,Bool.and_self]
end Go.Proofs.YthhjcijhanacnaaGreat
