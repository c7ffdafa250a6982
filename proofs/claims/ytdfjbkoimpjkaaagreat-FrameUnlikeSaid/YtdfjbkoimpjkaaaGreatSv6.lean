/- FrameUnlike: frames that are not alike have other bytes; the first byte is the kind. -/
import Derived.Test.YtdfjbkoimpjkaaaGreatGkUnlike
import Derived.Test.YtdfjbkoimpjkaaaGreatVq
namespace Go.Proofs.YtdfjbkoimpjkaaaGreat
open Go Go.RowKit
set_option linter.unusedVariables false
set_option linter.unusedSimpArgs false

theorem first_kind {f:Frm} (ho:okFr f=true):IntKind.i64.wrap ((nth (sealC (bodyF f)) (0:Int)).toNat:Int)=f.kind:=by
 obtain ⟨⟨k1,k2⟩,_⟩:=head_parts ho
 have e:∃ t,sealC (bodyF f)=numF f.kind 1++t:=by
  refine ⟨numF f.a 4++(numF f.b 4++((putD f.sums).1++(numF (f.entries.length:Int) 1++((f.entries.map entT).flatten++(putO (sumC (bodyF f)) 4).1)))),?_⟩
  unfold sealC
  simp only [bodyF,headB,List.append_assoc]
 obtain ⟨t,e⟩:=e
 rw [e]
 match h:numF f.kind 1,k1 with
 | [c],_ =>
  rw [h] at k2
  have k2':((c.toNat + 256 * leN []:Nat):Int)=f.kind:=k2
  have hc:=byte_lt c
  show IntKind.i64.wrap ((c.toNat:Nat):Int)=_
  rw [IntKind.wrap_i64]
  simp only [leN] at k2'
  omega
theorem frameUnlike_row (a b:Frm) (ga:GFrm a) (gb:GFrm b):law14_FrameUnlike_raw a b true:=by
 refine ⟨fun h=>(by cases h),fun _=>⟨by decide,fun _=>by decide,fun _=>rfl,fun f1=>?_⟩⟩
 have sa:=gs_sml ga.2.2.2.2
 have sb:=gs_sml gb.2.2.2.2
 refine ⟨sa,_,rfl,sb,_,rfl,fun h=>?_,fun h=>?_⟩
 ·cases hoa:okFr a with
  | false=>rw [putFr_no hoa]; rfl
  | true =>
   cases hob:okFr b with
   | false=>rw [putFr_no hob]; simp
   | true =>
    exfalso
    rw [putFr_ok hoa,putFr_ok hob] at h
    have hl:=seal_len (bodyF a)
    simp at h; omega
 ·have hoa:okFr a=true:=by
   cases ho:okFr a with
   | true=>rfl
   | false=>rw [putFr_no ho] at h; exact absurd h (by simp)
  have hob:okFr b=true:=by
   cases ho:okFr b with
   | true=>rfl
   | false=>rw [putFr_no ho] at h; exact absurd h (by simp)
  have hl:=seal_len (bodyF a)
  rw [putFr_ok hoa,putFr_ok hob]
  refine ⟨⟨by omega,by show (0:Int)<((sealC (bodyF a)).length:Int); omega⟩,fun _=>sa,?_⟩
  show true=((IntKind.i64.wrap ((nth (sealC (bodyF a)) (0:Int)).toNat:Int)==a.kind)&&((sealC (bodyF a)==sealC (bodyF b))==sameF a b))
  rw [first_kind hoa]
  have hs:(sealC (bodyF a)==sealC (bodyF b))=sameF a b:=by
   rw [Bool.eq_iff_iff,beq_iff_eq,same_iff ga.2.2.2.1.1 gb.2.2.2.1.1]
   constructor
   ·intro e
    have h1:=get_putF hoa ga.2.2.2.1.1 (gs_inU ga.2.2.2.2)
    have h2:=get_putF hob gb.2.2.2.1.1 (gs_inU gb.2.2.2.2)
    rw [e,h2] at h1
    exact (congrArg Prod.fst h1).symm
   ·rintro rfl; rfl
  rw [hs]; simp
end Go.Proofs.YtdfjbkoimpjkaaaGreat
