/- The iterator of buffer: the first names. -/
import Derived.Test.YthfkbabgkacfnaaFi
namespace Go.Proofs.Ythfkbabgkacfnaa
open Go Go.RowKit
set_option linter.unusedVariables false
set_option linter.unusedSimpArgs false

theorem first_names_ev (b:Buf) (n:Int) (h:b.names.length≤1000000):buffer_Buffer_first_1_raw b n (b.names.take n.toNat):=by
 obtain ⟨x,hx,hp⟩:=loop_run (body:=buffer_Buffer_first_1_b4 b n) (fun s=>b.names.length - s.1.toNat) (fun s=>∃ i:Nat,i≤b.names.length∧s=((i:Int),(b.names.take n.toNat).drop i)) (fun x=>∀ s,x=.inl s→s.2=[]) (by
  rintro s ⟨i,hi,rfl⟩
  have hl:(b.names.take n.toNat).length=min n.toNat b.names.length:=by simp
  by_cases hlt:i<b.names.length
  ·by_cases hn:n≤(i:Int)
   ·have e0:(b.names.take n.toNat).drop i=[]:=List.drop_eq_nil_of_le (by rw [hl]; omega)
    refine .inr ⟨_,⟨fun _=>⟨⟨by simp,by simpa using hlt⟩,fun _=>⟨e0,rfl⟩,fun c=>by simp at c; omega⟩,fun c=>by simp at c; omega⟩,fun s e=>by cases e⟩
   ·have e0:(b.names.take n.toNat).drop i=nth b.names (i:Int)::(b.names.take n.toNat).drop (i + 1):=by
     rw [List.drop_eq_getElem_cons (by rw [hl]; omega),nth_nat]
     congr 1
     simp [hlt]
    refine .inl ⟨(((i + 1:Nat):Int),(b.names.take n.toNat).drop (i + 1)),⟨fun _=>⟨⟨by simp,by simpa using hlt⟩,fun c=>by simp at c; omega,fun _=>⟨_,e0,?_,trivial⟩⟩,fun c=>by simp at c; omega⟩,⟨i + 1,by omega,rfl⟩,by simp; omega⟩
    rw [wrapS hlt (by omega)]
  ·obtain rfl:i=b.names.length:=by omega
   refine .inr ⟨_,⟨fun c=>by simp at c,fun _=>rfl⟩,fun s e=>?_⟩
   cases e
   exact List.drop_eq_nil_of_le (by rw [hl]; omega)) ((0:Int),b.names.take n.toNat) ⟨0,by omega,by simp⟩
 exact ⟨x,hx,hp,fun _ _=>trivial⟩
theorem first_it {L:List Nat} {w:World} {bP1:Nat} {csP1:List Value} (d1:Buf) (HB1:Stb L w (fun w=>Blk w bP1 24 csP1)) (HP1:Stb L w (fun w=>kBuf.r w csP1 d1)) {bP2:Nat} (d2:Int) (HB2:Stb L w (fun w=>Blk w bP2 3 [.int .i64 d2])) (hL:Lt L w) (h:d1.names.length≤1000000) :
  IterC Try.prog 61 [.pointer (some ⟨bP1,0,none⟩),.pointer (some ⟨bP2,0,none⟩)] (d1.names.take d2.toNat) buffer_Buffer_first_1_X L w:=buffer_Buffer_first_1_it d1 HB1 HP1 d2 HB2 hL (first_names_ev d1 d2 h)
end Go.Proofs.Ythfkbabgkacfnaa
