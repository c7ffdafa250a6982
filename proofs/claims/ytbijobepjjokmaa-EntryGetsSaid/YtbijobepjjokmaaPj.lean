/- A number's bytes: the iterator of octet. -/
import Derived.Test.YtbijobepjjokmaaPi
import Derived.Test.YtbijobepjjokmaaFs
namespace Go.Proofs.Ytbijobepjjokmaa
open Go Go.RowKit
set_option linter.unusedVariables false
set_option linter.unusedSimpArgs false

def lo8 (n:Int):Int:=(IntKind.i64.wrap ((BitVec.ofInt IntKind.i64.bits n &&& BitVec.ofInt IntKind.i64.bits (255:Int)).toNat:Int))
def sh8 (n:Int):Int:=(Int.fdiv n (2 ^ min ((8:Int)).toNat IntKind.i64.bits))
def partsF:Nat→Int→Int→List (Int × Int)
 | 0,i,n=>[(i,n)]
 | k + 1,i,n=>(i,lo8 n)::partsF k (i + 1) (sh8 n)
def partsL (n w:Int):List (Int × Int):=partsF w.toNat 0 n

theorem parts_ev (w n:Int) (h:0≤w∧w≤7):octet_parts_1_raw w n (partsL n w):=by
 obtain ⟨x,hx,hp⟩:=loop_run (body:=octet_parts_1_b1 w) (fun s=>(w - s.1).toNat) (fun s=>∃ (k i:Nat) (m:Int),k + i=w.toNat∧s=((i:Int),m,partsF k (i:Int) m)) (fun x=>∃ m,x=.inl (w,m,[(w,m)])) (by
  rintro s ⟨k,i,m,hk,rfl⟩
  cases k with
  | zero =>
   have e:(i:Int)=w:=by omega
   refine .inr ⟨.inl ((i:Int),m,[((i:Int),m)]),⟨fun c=>by simp at c; omega,fun _=>rfl⟩,m,by rw [e]⟩
  | succ k =>
   refine .inl ⟨(((i + 1:Nat):Int),sh8 m,partsF k ((i + 1:Nat):Int) (sh8 m)),⟨fun _=>⟨partsF k ((i:Int) + 1) (sh8 m),rfl,?_,trivial⟩,fun c=>by simp at c; omega⟩,⟨k,i + 1,sh8 m,by omega,rfl⟩,by simp; omega⟩
   have e:IntKind.i64.wrap ((i:Int) + (1:Int))=((i + 1:Nat):Int):=wrapS (n:=i + 1) (by omega) (by omega)
   show _=Sum.inl (IntKind.i64.wrap ((i:Int) + (1:Int)),sh8 m,_)
   rw [e]; rfl) ((0:Int),n,partsL n w) ⟨w.toNat,0,n,by omega,rfl⟩
 obtain ⟨m,rfl⟩:=hp
 refine ⟨_,hx,fun s e=>?_,fun _ _=>trivial⟩
 cases e
 exact ⟨[],rfl,rfl,trivial⟩
theorem parts_it {L:List Nat} {w:World} {bP1:Nat} (d1:Int) (HB1:Stb L w (fun w=>Blk w bP1 3 [.int .i64 d1])) {bP2:Nat} (d2:Int) (HB2:Blk w bP2 3 [.int .i64 d2]) (hpbP2:bP2∈L) (hL:Lt L w) (h:0≤d1∧d1≤7) :
  IterCP Try.prog 67 [.pointer (some ⟨bP1,0,none⟩),.pointer (some ⟨bP2,0,none⟩)] (partsL d2 d1) octet_parts_1_X L [bP2] w:=octet_parts_1_it d1 HB1 d2 HB2 hpbP2 hL (parts_ev d1 d2 h)
end Go.Proofs.Ytbijobepjjokmaa
