/- FrameBursts: a frame of which bits were turned in four bytes that stand next to each other is none. -/
import Derived.Test.YtdfjbkoimpjkaaaGreatGkBursts
import Derived.Test.YtdfjbkoimpjkaaaGreatVq
import Derived.Test.YtdfjbkoimpjkaaaGreatSf6
namespace Go.Proofs.YtdfjbkoimpjkaaaGreat
open Go Go.RowKit
set_option linter.unusedVariables false
set_option linter.unusedSimpArgs false

theorem xorO_L:∀ (a b:Str),b.length≤a.length→xorO a b=xorL a (b++List.replicate (a.length - b.length) 0)
 | [],[],_=>rfl
 | [],_::_,h=>by simp at h
 | x::a,[],_=>by
  rw [List.nil_append,xorO]
  exact (xorL_zeros (x::a) _ rfl).symm
 | x::a,y::b,h=>by
  have ih:=xorO_L a b (by simpa using h)
  have e:(x::a).length - (y::b).length=a.length - b.length:=by simp
  rw [e]
  show (x ^^^ y)::xorO a b=(x ^^^ y)::xorL a (b++List.replicate (a.length - b.length) 0)
  rw [ih]
theorem bstr_zeros (k:Nat):bstr (List.replicate k (0:Int))=List.replicate k 0:=by simp [bstr]
theorem byte_0 {n:Int} (h:0≤n∧n<256) (e:UInt8.ofNat n.toNat=0):n=0:=by
 have h1:=congrArg UInt8.toNat e
 have h2:(UInt8.ofNat n.toNat).toNat=n.toNat % 256:=by simp
 rw [h2] at h1
 have h3:(0:UInt8).toNat=0:=rfl
 omega
theorem frameBursts_row (f:Frm) (n:Int) (l:List Int) (gf:GFrm f) (wn:inK .u16 n) (gl:l.length=4∧∀ x∈l,inK .u8 x):law14_FrameBursts_raw f n l true:=by
 refine ⟨fun h=>(by cases h),fun _=>⟨by decide,gs_sml gf.2.2.2.2,_,rfl,fun h=>?_,fun h=>?_⟩⟩
 ·cases ho:okFr f with
  | false=>rw [putFr_no ho]; simp
  | true =>
   rw [putFr_ok ho] at h ⊢
   have hl:=seal_len (bodyF f)
   cases he:entriesB f.entries (12:Int) with
   | false=>rfl
   | true =>
    exfalso
    rw [he] at h
    simp at h; omega
 ·have ho:okFr f=true:=by
   cases ho:okFr f with
   | true=>rfl
   | false=>rw [putFr_no ho] at h; exact absurd h (by simp)
  rw [putFr_ok ho]
  have hb:=body_len ho
  have h8:=(okF_parts ho).2.2.2.2.1
  have hsl:(sealC (bodyF f)).length=30 + 42 * f.entries.length:=by rw [seal_len,hb]; omega
  obtain ⟨hn0,hn1⟩:=inK_u16 wn
  obtain ⟨m,rfl⟩:=Int.eq_ofNat_of_zero_le hn0
  have e1:IntKind.i64.wrap (((sealC (bodyF f)).length:Int) - (3:Int))=(((sealC (bodyF f)).length - 3:Nat):Int):=by rw [IntKind.wrap_i64]; omega
  have e2:IntKind.i64.wrap ((m:Nat):Int)=((m:Nat):Int):=by rw [IntKind.wrap_i64]; omega
  have e3:Int.tmod ((m:Nat):Int) (((sealC (bodyF f)).length - 3:Nat):Int)=((m % ((sealC (bodyF f)).length - 3):Nat):Int):=rfl
  simp only [e1,e2,e3,Int.toNat_natCast,bstr_zeros]
  have hk:m % ((sealC (bodyF f)).length - 3)<(sealC (bodyF f)).length - 3:=Nat.mod_lt _ (by omega)
  generalize hK:m % ((sealC (bodyF f)).length - 3)=k at hk
  have ob:∀ i:Nat,i<4→0≤nth l (i:Int)∧nth l (i:Int)<256:=fun i hi=>by
   rw [nth_nat]
   exact inK_u8 (gl.2 _ (getD_mem (by omega)))
  have o0:=ob 0 (by decide)
  have o1:=ob 1 (by decide)
  have o2:=ob 2 (by decide)
  have o3:=ob 3 (by decide)
  generalize hd:bstr ([(nth l 0),(nth l 1),(nth l 2),(nth l 3)]:List Int)=d
  have hd4:d.length=4:=by rw [← hd]; rfl
  have hzl:(List.replicate k (0:UInt8)++d).length=k + 4:=by simp [hd4]
  refine ⟨?_,⟨by omega,by omega,by omega⟩,by rw [List.length_replicate,hd4]; omega,by omega,by rw [hzl]; omega,_,rfl,?_⟩
  ·rw [beq_eq_false_iff_ne]; omega
  ·have hx:=xorO_L (sealC (bodyF f)) (List.replicate k 0++d) (by rw [hzl]; omega)
   rw [hzl] at hx
   refine ⟨by rw [xorO_len]; omega,_,rfl,?_⟩
   rw [hx]
   generalize hM:(sealC (bodyF f)).length - (k + 4)=mm
   have hg:=get_putF ho gf.2.2.2.1.1 (gs_inU gf.2.2.2.2)
   cases hz:((nth l 0)==0)&&(((nth l 1)==0)&&(((nth l 2)==0)&&(((nth l 3)==0)&&true))) with
   | true =>
    simp only [Bool.and_eq_true,beq_iff_eq] at hz
    obtain ⟨z0,z1,z2,z3,_⟩:=hz
    rw [z0,z1,z2,z3] at hd
    have hd0:d=List.replicate 4 0:=by rw [← hd]; rfl
    have he:List.replicate k (0:UInt8)++d++List.replicate mm 0=List.replicate (sealC (bodyF f)).length 0:=by
     rw [hd0,List.replicate_append_replicate,List.replicate_append_replicate]
     congr 1; omega
    rw [he,xorL_zeros _ _ rfl,hg]; rfl
   | false =>
    rcases getFr_two (xorL (sealC (bodyF f)) (List.replicate k 0++d++List.replicate mm 0)) with ⟨_,_,_,hop⟩ | e
    ·exfalso
     have hs:(openC (sealC (bodyF f))).2=0:=by rw [open_seal]
     have hdz:=burst k mm d hd4 (by omega) rfl (sealed_sum hs) (sealed_sum hop)
     rw [← hd] at hdz
     have hq:[UInt8.ofNat (nth l 0).toNat,UInt8.ofNat (nth l 1).toNat,UInt8.ofNat (nth l 2).toNat,UInt8.ofNat (nth l 3).toNat]=[(0:UInt8),0,0,0]:=hdz
     simp only [List.cons.injEq,and_true] at hq
     obtain ⟨q0,q1,q2,q3⟩:=hq
     have z0:nth l 0=0:=byte_0 o0 q0
     have z1:nth l 1=0:=byte_0 o1 q1
     have z2:nth l 2=0:=byte_0 o2 q2
     have z3:nth l 3=0:=byte_0 o3 q3
     rw [z0,z1,z2,z3] at hz
     exact absurd hz (by decide)
    ·rw [e]; rfl
end Go.Proofs.YtdfjbkoimpjkaaaGreat
