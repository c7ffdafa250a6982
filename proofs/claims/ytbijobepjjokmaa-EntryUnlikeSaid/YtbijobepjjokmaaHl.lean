/- What Put writes of an entry, Get reads: in plain Lean. -/
import Derived.Test.YtbijobepjjokmaaWh
import Derived.Test.YtbijobepjjokmaaSl
namespace Go.Proofs.Ytbijobepjjokmaa
open Go Go.RowKit
set_option linter.unusedVariables false
set_option linter.unusedSimpArgs false

theorem takeA {a b:Str} {n:Nat} (h:a.length=n):(a++b).take n=a:=by subst h; simp
theorem dropA {a b:Str} {n:Nat} (h:a.length=n):(a++b).drop n=b:=by subst h; simp
theorem lo8_nat (n:Nat):IntKind.u8.wrap (lo8 (n:Int))=((n % 256:Nat):Int):=by
 have e:(BitVec.ofInt IntKind.i64.bits (n:Int) &&& BitVec.ofInt IntKind.i64.bits (255:Int)).toNat=n % 256:=by
  rw [BitVec.toNat_and,BitVec.toNat_ofInt,BitVec.toNat_ofInt]
  have h64:IntKind.i64.bits=64:=rfl
  rw [h64]
  have e1:((n:Int) % ((2 ^ 64:Nat):Int)).toNat=n % 2 ^ 64:=by omega
  have e2:((255:Int) % ((2 ^ 64:Nat):Int)).toNat=2 ^ 8 - 1:=by decide
  rw [e1,e2,Nat.and_two_pow_sub_one_eq_mod]; omega
 unfold lo8
 rw [e,wrap64 (by omega) (by omega)]
 show (((n % 256:Nat):Int)) % 256=_
 omega
theorem sh8_nat (n:Nat):sh8 (n:Int)=((n / 256:Nat):Int):=by
 unfold sh8
 rw [show (2 ^ min ((8:Int)).toNat IntKind.i64.bits:Int)=256 from by decide,Int.fdiv_eq_ediv_of_nonneg _ (by decide)]; omega
theorem bytes_nat:∀ (k n:Nat),n<256 ^ k→restF k (n:Int)=0∧leN (bstr (bytesF k (n:Int)))=n
 | 0,n,h=>by
  obtain rfl:n=0:=by simpa using h
  exact ⟨rfl,rfl⟩
 | k + 1,n,h=>by
  have h':n / 256<256 ^ k:=by rw [Nat.pow_succ] at h; exact Nat.div_lt_of_lt_mul (by rw [Nat.mul_comm]; exact h)
  obtain ⟨i1,i2⟩:=bytes_nat k (n / 256) h'
  refine ⟨by show restF k (sh8 (n:Int))=0; rw [sh8_nat]; exact i1,?_⟩
  show leN (bstr (IntKind.u8.wrap (lo8 (n:Int))::bytesF k (sh8 (n:Int))))=n
  rw [lo8_nat,sh8_nat]
  have e:(UInt8.ofNat (((n % 256:Nat):Int)).toNat).toNat=n % 256:=by
   rw [Int.toNat_natCast]; simp
  show (UInt8.ofNat (((n % 256:Nat):Int)).toNat).toNat + 256 * leN (bstr (bytesF k ((n / 256:Nat):Int)))=n
  rw [e,i2]; omega
theorem putO_fit {n:Int} (w:Nat) (h1:1≤w) (h7:w≤7) (h0:0≤n) (hn:n<((256 ^ w:Nat):Int)):(putO n (w:Int)).2=0∧(putO n (w:Int)).1.length=w∧(leN (putO n (w:Int)).1:Int)=n:=by
 obtain ⟨m,rfl⟩:=Int.eq_ofNat_of_zero_le h0
 obtain ⟨i1,i2⟩:=bytes_nat w m (by omega)
 have e1:((decide ((w:Int)<1)||decide (7<(w:Int)))||decide ((m:Int)<0))=false:=by simp; omega
 unfold putO
 rw [e1,Int.toNat_natCast,i1]
 exact ⟨rfl,by simp [bstr,bytesF_length],by show ((leN (bstr (bytesF w (m:Int))):Nat):Int)=m; rw [i2]⟩
theorem pairs_nums:∀ (xs:List Int) (r:Str),(∀ x∈xs,0≤x∧x≤65535)→pairs xs.length (numsT xs++r)=xs∧(numsT xs).length=2 * xs.length
 | [],r,_=>⟨rfl,rfl⟩
 | x::xs,r,h=>by
  obtain ⟨h0,h1⟩:=h x (List.mem_cons_self ..)
  obtain ⟨_,p1,p2⟩:=putO_fit (n:=x) 2 (by decide) (by decide) h0 (by show x<65536; omega)
  obtain ⟨i1,i2⟩:=pairs_nums xs r (fun y hy=>h y (List.mem_cons_of_mem _ hy))
  have e:numsT (x::xs)=(putO x 2).1++numsT xs:=by simp [numsT]
  have p1':(putO x 2).1.length=2:=p1
  refine ⟨?_,by rw [e,List.length_append,i2,p1',List.length_cons]; omega⟩
  show (leN ((numsT (x::xs)++r).take 2):Int)::pairs xs.length ((numsT (x::xs)++r).drop 2)=_
  rw [e,List.append_assoc,takeA p1',dropA p1',i1]
  exact congrArg (·::xs) p2
theorem okN_in {l:List Int} (h:okN l=true):∀ x∈l,0≤x∧x≤65535:=by
 intro x hx
 have:=List.all_eq_true.1 (andL h) x hx
 simpa using this
theorem lowF_nat {n:Nat} (h:n<2 ^ 64):lowF (n:Int)=((n % 4294967296:Nat):Int):=by
 have e:(BitVec.ofInt IntKind.u64.bits (n:Int) &&& BitVec.ofInt IntKind.u64.bits (4294967295:Int)).toNat=n % 4294967296:=by
  rw [BitVec.toNat_and,BitVec.toNat_ofInt,BitVec.toNat_ofInt]
  have h64:IntKind.u64.bits=64:=rfl
  rw [h64]
  have e1:((n:Int) % ((2 ^ 64:Nat):Int)).toNat=n:=by omega
  have e2:((4294967295:Int) % ((2 ^ 64:Nat):Int)).toNat=2 ^ 32 - 1:=by decide
  rw [e1,e2,Nat.and_two_pow_sub_one_eq_mod]
 unfold lowF
 rw [e,show IntKind.u64.wrap ((n % 4294967296:Nat):Int)=((n % 4294967296:Nat):Int) from by
  show (((n % 4294967296:Nat):Int)) % 18446744073709551616=_
  omega,wrap64 (by omega) (by omega)]
theorem highF_nat {n:Nat} (h:n<2 ^ 64):highF (n:Int)=((n / 4294967296:Nat):Int):=by
 have e4:Int.fdiv (n:Int) (2 ^ min ((32:Int)).toNat IntKind.u64.bits)=((n / 4294967296:Nat):Int):=by
  rw [show (2 ^ min ((32:Int)).toNat IntKind.u64.bits:Int)=4294967296 from by decide,Int.fdiv_eq_ediv_of_nonneg _ (by decide)]; omega
 unfold highF
 rw [e4,wrap64 (by omega) (by omega)]
theorem u64_nat {n:Nat} (h:n<2 ^ 64):IntKind.u64.wrap (n:Int)=(n:Int):=by
 show (n:Int) % 18446744073709551616=_
 omega
theorem flR_eq {s:Str} {a b:Nat} (h1:leN (s.take 4)=a) (h2:leN ((s.drop 4).take 4)=b) (ha:a<4294967296) (hb:b<4294967296):flR s=((a + b * 4294967296:Nat):Int):=by
 unfold flR
 have e0:(2 ^ min ((32:Int)).toNat IntKind.u64.bits:Int)=4294967296:=by decide
 have eb:(b:Int) * 4294967296=((b * 4294967296:Nat):Int):=by omega
 have w1:=u64_nat (n:=a) (by omega)
 have w2:=u64_nat (n:=b) (by omega)
 have w3:=u64_nat (n:=b * 4294967296) (by omega)
 simp only [h1,h2,e0,w1,w2,eb,w3]
 have e:(BitVec.ofInt IntKind.u64.bits (a:Int) ||| BitVec.ofInt IntKind.u64.bits ((b * 4294967296:Nat):Int)).toNat=a + b * 4294967296:=by
  rw [BitVec.toNat_or,BitVec.ofInt_natCast,BitVec.ofInt_natCast,BitVec.toNat_ofNat,BitVec.toNat_ofNat]
  have h64:IntKind.u64.bits=64:=rfl
  rw [h64,Nat.mod_eq_of_lt (by omega),Nat.mod_eq_of_lt (by omega)]
  have:=Nat.two_pow_add_eq_or_of_lt (b:=a) (i:=32) (by omega) b
  rw [show b * 4294967296=2 ^ 32 * b by rw [Nat.mul_comm],Nat.or_comm,← this,Nat.add_comm]
 rw [e,u64_nat (by omega)]
theorem okV_reg {v:Val} (h:okV v=true) (hk:v.kind=1):0≤v.time∧v.time≤2147483647∧0≤v.node∧v.node≤7∧v.text.length≤8∧v.plus=[]∧v.minus=[]∧v.flags=0:=by
 unfold okV okR at h
 rw [hk] at h
 simp only [beq_self_eq_true,cond_true,Bool.and_eq_true,decide_eq_true_eq,beq_iff_eq] at h
 obtain ⟨h1,h2,h3,h4,h5,_,⟨h6,h7⟩,h8⟩:=h
 exact ⟨h1,h2,h3,h4,h5,h6,h7,h8⟩
theorem noReg_iff {v:Val}:noReg v=true→v.time=0∧v.node=0∧v.dead=false∧v.text=[]:=by
 unfold noReg
 simp only [Bool.and_eq_true,beq_iff_eq,Bool.not_eq_true']
 exact fun h=>h
/-- What is read of a value's bytes is the value; the bytes are 32, with zeros; a text's length is one byte. -/
theorem readV_valT {d : Val} (ho : okV d = true) (hf : inU d.flags) (z : Str) : readV d.kind (valT d ++ z) = d ∧ (valT d).length ≤ 32 ∧ (d.kind = 1 → leN (((valT d ++ z).drop 6).take 1) ≤ 8) := by
  rcases okV_kind ho with hk | hk | hk
  · obtain ⟨t0, t1, n0, n1, l8, ep, em, ef⟩ := okV_reg ho hk
    obtain ⟨_, a1, a2⟩ := putO_fit (n := d.time) 4 (by decide) (by decide) t0 (by show d.time < 4294967296; omega)
    obtain ⟨_, b1, b2⟩ := putO_fit (n := d.node) 1 (by decide) (by decide) n0 (by show d.node < 256; omega)
    obtain ⟨_, c1, c2⟩ := putO_fit (n := bif d.dead then 1 else 0) 1 (by decide) (by decide) (by cases d.dead <;> decide) (by cases d.dead <;> decide)
    obtain ⟨_, e1, e2⟩ := putO_fit (n := (d.text.length : Int)) 1 (by decide) (by decide) (by omega) (by show (d.text.length : Int) < 256; omega)
    replace a1 : (putO d.time 4).1.length = 4 := a1
    replace b1 : (putO d.node 1).1.length = 1 := b1
    replace c1 : (putO (bif d.dead then 1 else 0) 1).1.length = 1 := c1
    replace e1 : (putO (d.text.length : Int) 1).1.length = 1 := e1
    replace a2 : (leN (putO d.time 4).1 : Int) = d.time := a2
    replace b2 : (leN (putO d.node 1).1 : Int) = d.node := b2
    replace c2 : (leN (putO (bif d.dead then 1 else 0) 1).1 : Int) = bif d.dead then 1 else 0 := c2
    replace e2 : (leN (putO (d.text.length : Int) 1).1 : Int) = (d.text.length : Int) := e2
    have hv : valT d = regT d := by unfold valT; rw [hk]; rfl
    have hz := zeros_len (8 - (d.text.length : Int))
    have e2' : leN (putO (d.text.length : Int) 1).1 = d.text.length := by omega
    have ed : ((bif d.dead then (1 : Int) else 0) == (1 : Int)) = d.dead := by cases d.dead <;> rfl
    refine ⟨?_, ?_, fun _ => ?_⟩
    · rw [hv]
      unfold readV
      rw [hk]
      show (⟨1, _, _, _, _, [], [], 0⟩ : Val) = d
      unfold regT
      simp only [List.append_assoc]
      rw [takeA a1, dropA a1, takeA b1, dropA b1, takeA c1, dropA c1, takeA e1, dropA e1, e2', takeA rfl, a2, b2, c2, ed]
      obtain ⟨k, t, n, de, tx, p, m, f⟩ := d
      simp only at hk ep em ef ⊢
      subst hk ep em ef
      rfl
    · rw [hv]; unfold regT
      simp only [List.length_append, a1, b1, c1, e1, hz]; omega
    · rw [hv]; unfold regT
      rw [show 6 = 4 + (1 + 1) from rfl, ← List.drop_drop, ← List.drop_drop]
      simp only [List.append_assoc]
      rw [dropA a1, dropA b1, dropA c1, takeA e1, e2']; exact l8
  · obtain ⟨p1, p2, p3, p4⟩ := okV_cc ho hk
    obtain ⟨_, _, f0, hr⟩ := okV_c ho (by rw [hk]; rfl) (by rw [hk]; rfl)
    obtain ⟨r1, r2, r3, r4⟩ := noReg_iff hr
    have hv : valT d = cntT d := by unfold valT; rw [hk]; rfl
    obtain ⟨x1, x2⟩ := pairs_nums d.plus (numsT d.minus ++ z) (okN_in p1)
    obtain ⟨y1, y2⟩ := pairs_nums d.minus z (okN_in p2)
    rw [p3] at x1 x2
    rw [p4] at y1 y2
    refine ⟨?_, ?_, fun c => by rw [hk] at c; cases c⟩
    · rw [hv]
      unfold readV
      rw [hk]
      show (⟨2, 0, 0, false, [], pairs 8 _, pairs 8 _, 0⟩ : Val) = d
      unfold cntT
      rw [List.append_assoc, x1, dropA x2, y1]
      obtain ⟨k, t, n, de, tx, p, m, f⟩ := d
      simp only at hk r1 r2 r3 r4 f0 ⊢
      subst hk r1 r2 r3 r4 f0
      rfl
    · rw [hv]; unfold cntT; rw [List.length_append, x2, y2]; omega
  · obtain ⟨_, ep, em, hr⟩ := okV_f ho (by rw [hk]; rfl) (by rw [hk]; rfl)
    obtain ⟨r1, r2, r3, r4⟩ := noReg_iff hr
    have hv : valT d = flgT d := by unfold valT; rw [hk]; rfl
    obtain ⟨m, hm⟩ := Int.eq_ofNat_of_zero_le hf.1
    have hm64 : m < 2 ^ 64 := by have := hf.2; omega
    obtain ⟨_, a1, a2⟩ := putO_fit (n := lowF d.flags) 4 (by decide) (by decide) (by rw [hm, lowF_nat hm64]; omega) (by rw [hm, lowF_nat hm64]; show _ < (4294967296 : Int); omega)
    obtain ⟨_, b1, b2⟩ := putO_fit (n := highF d.flags) 4 (by decide) (by decide) (by rw [hm, highF_nat hm64]; omega) (by rw [hm, highF_nat hm64]; show _ < (4294967296 : Int); omega)
    replace a1 : (putO (lowF d.flags) 4).1.length = 4 := a1
    replace b1 : (putO (highF d.flags) 4).1.length = 4 := b1
    have a2' : leN (putO (lowF d.flags) 4).1 = m % 4294967296 := by
      have : (leN (putO (lowF d.flags) 4).1 : Int) = lowF d.flags := a2
      rw [hm, lowF_nat hm64] at this; rw [hm, lowF_nat hm64]; omega
    have b2' : leN (putO (highF d.flags) 4).1 = m / 4294967296 := by
      have : (leN (putO (highF d.flags) 4).1 : Int) = highF d.flags := b2
      rw [hm, highF_nat hm64] at this; rw [hm, highF_nat hm64]; omega
    refine ⟨?_, ?_, fun c => by rw [hk] at c; cases c⟩
    · rw [hv]
      unfold readV
      rw [hk]
      show (⟨3, 0, 0, false, [], [], [], flR _⟩ : Val) = d
      unfold flgT
      rw [flR_eq (a := m % 4294967296) (b := m / 4294967296) (by rw [List.append_assoc, takeA a1, a2']) (by rw [List.append_assoc, dropA a1, takeA b1, b2']) (by omega) (by omega)]
      have e : ((m % 4294967296 + m / 4294967296 * 4294967296 : Nat) : Int) = d.flags := by rw [hm]; omega
      rw [e]
      obtain ⟨k, t, n, de, tx, p, mi, f⟩ := d
      simp only at hk r1 r2 r3 r4 ep em ⊢
      subst hk r1 r2 r3 r4 ep em
      rfl
    · rw [hv]; unfold flgT; rw [List.length_append, a1, b1]; omega
theorem putT_parts {e:Ent} (h:okE e=true) (hf:inU e.val.flags):(putT e).length=42∧readE (putT e)=e∧okG (putT e):=by
 obtain ⟨h1,h8,hv⟩:=okE_val h
 obtain ⟨v1,v2,v3⟩:=readV_valT hv hf (zeros (32 - ((valT e.val).length:Int)))
 have hk:0≤e.val.kind∧e.val.kind≤3:=by rcases okV_kind hv with hk | hk | hk <;> omega
 obtain ⟨_,a1,a2⟩:=putO_fit (n:=e.val.kind) 1 (by decide) (by decide) hk.1 (by show e.val.kind<256; omega)
 obtain ⟨_,b1,b2⟩:=putO_fit (n:=(e.key.length:Int)) 1 (by decide) (by decide) (by omega) (by show (e.key.length:Int)<256; omega)
 replace a1:(putO e.val.kind 1).1.length=1:=a1
 replace b1:(putO (e.key.length:Int) 1).1.length=1:=b1
 replace a2:(leN (putO e.val.kind 1).1:Int)=e.val.kind:=a2
 have b2':leN (putO (e.key.length:Int) 1).1=e.key.length:=by
  have:(leN (putO (e.key.length:Int) 1).1:Int)=(e.key.length:Int):=b2
  omega
 have z1:=zeros_len (8 - (e.key.length:Int))
 have z2:=zeros_len (32 - ((valT e.val).length:Int))
 have hh:(headT e).length=10:=by
  unfold headT; simp only [List.length_append,a1,b1,z1]; omega
 have hlen:(putT e).length=42:=by unfold putT; simp only [List.length_append,hh,z2]; omega
 have k1:kindG (putT e)=e.val.kind:=by
  unfold kindG putT headT
  simp only [List.append_assoc]
  rw [takeA a1,a2]
 have k2:klenG (putT e)=e.key.length:=by
  unfold klenG putT headT
  simp only [List.append_assoc]
  rw [dropA a1,takeA b1,b2']
 have k3:(putT e).drop 10=valT e.val++zeros (32 - ((valT e.val).length:Int)):=by
  unfold putT; exact dropA hh
 have k4:((putT e).drop 2).take e.key.length=e.key:=by
  unfold putT headT
  simp only [List.append_assoc]
  rw [show 2=1 + 1 from rfl,← List.drop_drop,dropA a1,dropA b1,takeA rfl]
 refine ⟨hlen,?_,by omega,by omega,by omega,fun hk1=>?_⟩
 ·unfold readE
  rw [k1,k2,k3,k4,v1]
 ·rw [k3]
  rw [k1] at hk1
  exact v3 hk1
theorem putT_inj {a b:Ent} (ha:okE a=true) (hb:okE b=true) (fa:inU a.val.flags) (fb:inU b.val.flags) (h:putT a=putT b):a=b:=by
 rw [← (putT_parts ha fa).2.1,← (putT_parts hb fb).2.1,h]
end Go.Proofs.Ytbijobepjjokmaa
