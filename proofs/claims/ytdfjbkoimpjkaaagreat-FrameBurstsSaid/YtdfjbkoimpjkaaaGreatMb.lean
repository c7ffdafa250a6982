import Derived.Test.YtdfjbkoimpjkaaaGreatHm
import Derived.Test.YtdfjbkoimpjkaaaGreatCt6
import Derived.Test.YtdfjbkoimpjkaaaGreatPn
import Derived.Test.YtdfjbkoimpjkaaaGreatFx
import Derived.Test.YtdfjbkoimpjkaaaGreatJd
namespace Go.Proofs.YtdfjbkoimpjkaaaGreat
open Go Go.RowKit
set_option linter.unusedVariables false
set_option linter.unusedSimpArgs false
theorem un_digest_sums : Tryz.prog.underlying 114=some (.array 4 3):=Tryz.underlying114
theorem in_digest_sums:(Tryz.prog.info? 114).map (fun i=>(i.zero,i.size,i.bytes))=some (some (.agg #[.int .i64 0,.int .i64 0,.int .i64 0,.int .i64 0]),4,32):=by kernel_rfl
theorem zero_digest_sums:Zero Tryz.prog 114 (.agg #[.int .i64 0,.int .i64 0,.int .i64 0,.int .i64 0]):=zero_of in_digest_sums
theorem sz_digest_sums:Sz Tryz.prog 114 4:=sz_of in_digest_sums
theorem agg_digest_sums:Agg Tryz.prog 114 4:=⟨⟨_,Tryz.underlying114,trivial⟩,sz_digest_sums⟩
theorem cf_digest_Get:CF Tryz.prog 42:=fun _ _=>by kernel_rfl

/-- One bit, on whole numbers. -/
def bN (x : Nat) : Nat := (x / 2) ^^^ (if x % 2 = 1 then 3988292384 else 0)
def b4 (x:Nat):Nat:=bN (bN (bN (bN x)))
theorem xdiv (a b k:Nat):(a ^^^ b) / 2 ^ k=a / 2 ^ k ^^^ b / 2 ^ k:=by
 rw [← Nat.shiftRight_eq_div_pow,← Nat.shiftRight_eq_div_pow,← Nat.shiftRight_eq_div_pow,Nat.shiftRight_xor_distrib]
theorem bN_xor (a b:Nat):bN (a ^^^ b)=bN a ^^^ bN b:=by
 unfold bN
 have h1:(a ^^^ b) / 2=a / 2 ^^^ b / 2:=by simpa using xdiv a b 1
 have h2:(a ^^^ b) % 2=(a % 2) ^^^ (b % 2):=by simpa using Nat.xor_mod_two_pow (a:=a) (b:=b) (n:=1)
 rw [h1,h2]
 have ha:a % 2=0∨a % 2=1:=by omega
 have hb:b % 2=0∨b % 2=1:=by omega
 have comm:∀ x y z u:Nat,(x ^^^ y) ^^^ (z ^^^ u)=(x ^^^ z) ^^^ (y ^^^ u):=fun x y z u=>by
  rw [Nat.xor_assoc,Nat.xor_assoc]; congr 1; rw [← Nat.xor_assoc,Nat.xor_comm y z,Nat.xor_assoc]
 rcases ha with ha | ha <;> rcases hb with hb | hb <;> rw [ha,hb,comm] <;> simp
theorem bN_even (y:Nat):bN (2 * y)=y:=by
 unfold bN
 rw [if_neg (by omega),Nat.xor_zero]; omega
theorem b4_xor (a b:Nat):b4 (a ^^^ b)=b4 a ^^^ b4 b:=by unfold b4; rw [bN_xor,bN_xor,bN_xor,bN_xor]
theorem b4_16 (h:Nat):b4 (16 * h)=h:=by
 unfold b4
 rw [show 16 * h=2 * (2 * (2 * (2 * h))) by omega,bN_even,bN_even,bN_even,bN_even]
theorem split16 (m:Nat):m=(16 * (m / 16)) ^^^ (m % 16):=by
 apply Nat.eq_of_testBit_eq
 intro i
 rw [Nat.testBit_xor]
 have h1:16 * (m / 16)=2 ^ 4 * (m / 16):=by omega
 have h2:m % 16=m % 2 ^ 4:=rfl
 rw [h1,h2,Nat.testBit_mod_two_pow,Nat.testBit_two_pow_mul]
 have h3:m / 16=m >>> 4:=by rw [Nat.shiftRight_eq_div_pow]
 rw [h3,Nat.testBit_shiftRight]
 by_cases hi:i<4
 ·have:¬ (4≤i):=by omega
  simp [hi,this]
 ·have h4:4≤i:=by omega
  simp [hi,h4,Nat.add_sub_cancel' h4]
theorem b4_split (m:Nat):b4 m=(m / 16) ^^^ b4 (m % 16):=by
 conv=>lhs; rw [split16 m]
 rw [b4_xor,b4_16]
def stN (n p:Nat):Nat:=b4 ((n ^^^ p) % 16) ^^^ (n / 16)
theorem stN_b4 (n p:Nat) (hp:p<16):stN n p=b4 (n ^^^ p):=by
 rw [b4_split (n ^^^ p)]
 have:(n ^^^ p) / 16=n / 16:=by
  have:=xdiv n p 4
  rw [show (2:Nat) ^ 4=16 from rfl] at this
  rw [this,Nat.div_eq_of_lt hp,Nat.xor_zero]
 rw [this]; unfold stN; rw [Nat.xor_comm]
def byN (n c:Nat):Nat:=stN (stN n (c % 16)) (c / 16)
def onN (n:Nat) (s:Str):Nat:=s.foldl (fun n c=>byN n c.toNat) n
theorem bN_lt {x:Nat} (h:x<4294967296):bN x<4294967296:=by
 unfold bN
 have h1:x / 2<2 ^ 32:=by omega
 split
 ·exact Nat.xor_lt_two_pow h1 (by decide)
 ·exact Nat.xor_lt_two_pow h1 (by decide)
theorem b4_lt {x:Nat} (h:x<4294967296):b4 x<4294967296:=bN_lt (bN_lt (bN_lt (bN_lt h)))
theorem stN_lt {n p:Nat} (h:n<4294967296):stN n p<4294967296:=by
 unfold stN
 have h1:b4 ((n ^^^ p) % 16)<2 ^ 32:=b4_lt (by omega)
 have h2:n / 16<2 ^ 32:=by omega
 exact Nat.xor_lt_two_pow h1 h2
theorem byN_lt {n c:Nat} (h:n<4294967296):byN n c<4294967296:=stN_lt (stN_lt h)
theorem onN_lt:∀ (s:Str) {n:Nat},n<4294967296→onN n s<4294967296
 | [],n,h=>h
 | c::s,n,h=>onN_lt s (byN_lt h)

/-! ### the walk's numbers -/
theorem bvN {n:Nat} (h:n<4294967296):(BitVec.ofInt IntKind.u32.bits (n:Int)).toNat=n:=by
 rw [show IntKind.u32.bits=32 from rfl,BitVec.toNat_ofInt]; omega
theorem u32N {n:Nat} (h:n<4294967296):IntKind.u32.wrap (n:Int)=(n:Int):=by rw [IntKind.wrap_u32]; omega
theorem xorN {a b:Nat} (ha:a<4294967296) (hb:b<4294967296):xorW (a:Int) (b:Int)=((a ^^^ b:Nat):Int):=by
 unfold xorW
 rw [BitVec.toNat_xor,bvN ha,bvN hb]
 exact u32N (Nat.xor_lt_two_pow (n:=32) ha hb)
theorem andN {a k:Nat} (ha:a<4294967296) (hk:k<32):andW (a:Int) ((2 ^ k - 1:Nat):Int)=((a % 2 ^ k:Nat):Int):=by
 have h2:(2:Nat) ^ k≤2 ^ 31:=Nat.pow_le_pow_right (by decide) (by omega)
 have h3:(2:Nat) ^ 31=2147483648:=rfl
 unfold andW
 rw [BitVec.toNat_and,bvN ha,bvN (by omega),Nat.and_two_pow_sub_one_eq_mod]
 exact u32N (Nat.lt_of_le_of_lt (Nat.mod_le _ _) ha)
theorem bitW_N {x:Nat} (h:x<4294967296):bitW (x:Int)=(bN x:Int):=by
 unfold bitW bN
 have h1:andW (x:Int) 1=((x % 2:Nat):Int):=andN (k:=1) h (by decide)
 have h2:(x:Int).fdiv 2=((x / 2:Nat):Int):=by rw [Int.fdiv_eq_ediv_of_nonneg _ (by decide)]; rfl
 rw [h1,h2]
 by_cases hx:x % 2=1
 ·rw [if_pos hx,show (((x % 2:Nat):Int)==1)=true by rw [hx]; rfl]
  exact xorN (b:=3988292384) (by omega) (by decide)
 ·rw [if_neg hx,show (((x % 2:Nat):Int)==1)=false by rw [show x % 2=0 by omega]; rfl,Nat.xor_zero]; rfl
theorem rowF_N {x:Nat} (h:x<16):rowF x=(b4 x:Int):=by
 unfold rowF b4
 have h0:x<4294967296:=by omega
 rw [bitW_N h0,bitW_N (bN_lt h0),bitW_N (bN_lt (bN_lt h0)),bitW_N (bN_lt (bN_lt (bN_lt h0)))]
theorem stepF_N {n p:Nat} (hn:n<4294967296) (hp:p<16):stepF (n:Int) (p:Int)=(stN n p:Int):=by
 unfold stepF stN
 rw [u32N (by omega),xorN hn (by omega)]
 have hx:n ^^^ p<4294967296:=Nat.xor_lt_two_pow (n:=32) hn (by omega)
 rw [show andW ((n ^^^ p:Nat):Int) 15=(((n ^^^ p) % 16:Nat):Int) from andN (k:=4) hx (by decide)]
 rw [Int.toNat_natCast,rowF_N (Nat.mod_lt _ (by decide))]
 rw [show (n:Int).fdiv 16=((n / 16:Nat):Int) by rw [Int.fdiv_eq_ediv_of_nonneg _ (by decide)]; rfl]
 exact xorN (b4_lt (by omega)) (by omega)
theorem and8_N {c:Nat} (hc:c<256):and8 (c:Int) 15=((c % 16:Nat):Int):=by
 unfold and8
 rw [BitVec.toNat_and,show IntKind.u8.bits=8 from rfl,BitVec.toNat_ofInt,BitVec.toNat_ofInt]
 rw [show ((c:Int) % ((2 ^ 8:Nat):Int)).toNat=c by omega,show ((15:Int) % ((2 ^ 8:Nat):Int)).toNat=2 ^ 4 - 1 by decide,Nat.and_two_pow_sub_one_eq_mod,IntKind.wrap_u8]
 omega
theorem byteF_N {n c:Nat} (hn:n<4294967296) (hc:c<256):byteF (n:Int) (c:Int)=(byN n c:Int):=by
 unfold byteF byN
 rw [and8_N hc,show (c:Int).fdiv 16=((c / 16:Nat):Int) by rw [Int.fdiv_eq_ediv_of_nonneg _ (by decide)]; rfl,stepF_N hn (Nat.mod_lt _ (by decide)),stepF_N (stN_lt hn) (by omega)]
theorem byte_lt (c:UInt8):c.toNat<256:=c.toBitVec.isLt
theorem onF_N:∀ (s:Str) {n:Nat},n<4294967296→onF (n:Int) s=(onN n s:Int)
 | [],n,h=>rfl
 | c::s,n,h=>by
  show onF (byteF (n:Int) (c.toNat:Int)) s=_
  rw [byteF_N h (byte_lt c)]
  exact onF_N s (byN_lt h)
/-- The sum of a text. -/
def crcN (s : Str) : Nat := 4294967295 ^^^ onN 4294967295 s
theorem crcN_lt (s:Str):crcN s<4294967296:=Nat.xor_lt_two_pow (n:=32) (by decide) (onN_lt s (by decide))
theorem sumC_N (s:Str):sumC s=(crcN s:Int):=by
 unfold sumC crcN
 rw [show (4294967295:Int)=((4294967295:Nat):Int) from rfl,onF_N s (by decide)]
 have h:=xorN (a:=4294967295) (b:=onN 4294967295 s) (by decide) (onN_lt s (by decide))
 have h2:=crcN_lt s
 unfold crcN at h2
 unfold xorW at h
 rw [show IntKind.u32.max=((4294967295:Nat):Int) from rfl,h,IntKind.wrap_i64]
 omega

/-! ### the document's -/
def crc_Sum_raw (s:Str) (y:Int):Prop:=s.length≤9223372036854775807∧y=sumC s
theorem crcSum_ev (s:Str) (hs:s.length≤9223372036854775807):crc_Sum_raw s (sumC s):=⟨hs,rfl⟩
theorem crc_Sum_c {L:List Nat} {w:World} (d0:Str) (hL:Lt L w) {y:Int} (h:crc_Sum_raw d0 y) :
  Calls Tryz.prog 82 [str d0].toArray w (Ret fun v w'=>Ext w w'∧v=.int .i64 y):=by
 obtain ⟨hs,rfl⟩:=h
 exact crc_Sum_c0 d0 hs
end Go.Proofs.YtdfjbkoimpjkaaaGreat