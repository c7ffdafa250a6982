/- PushTells: what is told, what is told back, and any buffer behind that. -/
import Derived.Test.YthfkbabgkacfnaaGreatGfTells
import Derived.Test.YthfkbabgkacfnaaGreatSp0
import Derived.Test.YthfkbabgkacfnaaGreatSf4
namespace Go.Proofs.YthfkbabgkacfnaaGreat
open Go Go.RowKit
set_option linter.unusedVariables false
set_option linter.unusedSimpArgs false

theorem sameF_self (f:Frm):sameF f f=true:=by unfold sameF; simp [allE_self]
theorem sums_send (b:Buf) (a:Arena) (m c:Int):(sendP b a m c).1.sums.length=4:=by
 unfold sendP; cases noSend (mendB b a m) c <;> rfl
theorem sums_heard (f:Frm):(heardP f).1.sums.length=4:=by
 unfold heardP
 cases isP f 1 with
 | false=>rfl
 | true=>cases decide ((2147483647:Int)<uptoP f) <;> rfl
theorem smB_done {b:Buf} (a:Arena) (m:Int) (f:Frm) (hb:smB b):smB (doneP b a m f):=by
 unfold doneP
 cases isP f 2 with
 | false=>exact smB_mend a m hb
 | true=>exact Nat.le_trans (names_ack b a m _ _) hb
theorem maxS_of {l:List Int} (h:∀ n∈l,inI n):maxS l:=fun n hn=>by have:=h n hn; unfold inI at this; omega
theorem pushTells_ev (b:Buf) (a:Arena) (m c:Int) (f:Frm) (gb:GBuf b) (ga:GArena a) (wm:inK .i64 m) (wc:inK .i64 c) (gf:GFrm f):law17_PushTells_raw b a m c f true:=by
 refine ⟨fun h=>(by cases h),fun _=>⟨fun _=>by decide,fun _=>rfl,fun f1=>?_⟩⟩
 have f2:fewB b=true∧fewA a=true∧entriesB f.entries 12=true:=by revert f1; cases fewB b <;> cases fewA a <;> cases entriesB f.entries 12 <;> simp
 obtain ⟨f3,f4,f5⟩:=f2
 have s0:=fewB_smB f3
 have sa:=fewA_sma f4
 have sf:=entriesB_sml f5 (by decide)
 have lf:f.entries.length≤1000000:=sf.1
 have ms:=maxS_of gf.2.2.2.1.2
 have ls:=gf.2.2.2.1.1
 have sd:=smB_done a m f s0
 have h1:=sml_send (b:=b) (a:=a) m c s0 sa
 have h2:=sml_heard f
 have h3:=sums_send b a m c
 have h4:=sums_heard f
 repeat' first
  | (refine ⟨_,rfl,?_⟩)
  | (refine ⟨by first | exact s0 | exact sa | exact sf | exact lf | exact ms | exact ls | exact sd | exact h1 | exact h2 | exact h3 | exact h4,?_⟩)
  | fail
 simp [ofB,ofF,sameF_self,sameB_self]
end Go.Proofs.YthfkbabgkacfnaaGreat
