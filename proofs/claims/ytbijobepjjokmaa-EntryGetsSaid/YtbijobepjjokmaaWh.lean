/- entry.Get: what is deferred. -/
import Derived.Test.YtbijobepjjokmaaHf
import Derived.Test.YtbijobepjjokmaaSl
namespace Go.Proofs.Ytbijobepjjokmaa
open Go Go.RowKit
set_option linter.unusedVariables false
set_option linter.unusedSimpArgs false

def EOS (P:Program) (N:Nat) (ops:Array Oper) (Q:Exit→Act→List Frame→World→Prop) (l:List Nat) (ρ:Env) (cs:List Frame) (w:World):Prop :=
 ∀ a:Act,a.tmps.size=N→envOf a=ρ→a.defers=[]→wpOpsSIn (FW none) 0 P ops Q l a cs w
section
variable {P : Program} {N : Nat} {ops : Array Oper} {Q : Exit → Act → List Frame → World → Prop} {rest : List Nat} {ρ : Env} {cs : List Frame} {w w' : World} {i d : Nat}
theorem eos_v {op:Op} {ty:TypeId} {pos:String} {after:Array Edge} {v:Value} (ho:ops[i]?=some ⟨some d,op,ty,pos,after,none⟩) (hr:(execOp (ev ρ) ⟨some d,op,ty,pos,after,none⟩).run P w=.ok (.value v) w') (hd:Nat.blt d N=true) (h:EOS P N ops Q rest (upd ρ d v) cs w') :
  EOS P N ops Q (i::rest) ρ cs w:=fun a h1 h2 h3=>by
 unfold wpOpsSIn
 rw [ho]
 refine ⟨fun _ _=>trivial,?_⟩
 have hw:Region.wanted (⟨some d,op,ty,pos,after,none⟩:Oper) (yielded ops a.tmps)=true:=rfl
 rw [if_pos hw,← ev_envOf,h2,hr]
 exact h _ (by rw [put_size]; exact h1) (by rw [envOf_put _ _ _ (by rw [h1]; exact hd),h2]; rfl) (by rw [put_defers']; exact h3)
theorem eos_u {op:Op} {ty:TypeId} {pos:String} {after:Array Edge} (ho:ops[i]?=some ⟨none,op,ty,pos,after,none⟩) (hr:(execOp (ev ρ) ⟨none,op,ty,pos,after,none⟩).run P w=.ok .skip w') (h:EOS P N ops Q rest ρ cs w') :
  EOS P N ops Q (i::rest) ρ cs w:=fun a h1 h2 h3=>by
 unfold wpOpsSIn
 rw [ho]
 refine ⟨fun _ _=>trivial,?_⟩
 have hw:Region.wanted (⟨none,op,ty,pos,after,none⟩:Oper) (yielded ops a.tmps)=true:=rfl
 rw [if_pos hw,← ev_envOf,h2,hr]
 exact h _ h1 h2 h3
theorem eos_rec {op:Op} {ty:TypeId} {pos:String} {after:Array Edge} (ho:ops[i]?=some ⟨some d,op,ty,pos,after,none⟩) (hr:(execOp (ev ρ) ⟨some d,op,ty,pos,after,none⟩).run P w=.ok .recover w) (hc:recoverD cs=none) (hd:Nat.blt d N=true) (h:EOS P N ops Q rest (upd ρ d .nilIface) cs w) :
  EOS P N ops Q (i::rest) ρ cs w:=fun a h1 h2 h3=>by
 unfold wpOpsSIn
 rw [ho]
 refine ⟨fun _ _=>trivial,?_⟩
 have hw:Region.wanted (⟨some d,op,ty,pos,after,none⟩:Oper) (yielded ops a.tmps)=true:=rfl
 rw [if_pos hw,← ev_envOf,h2,hr]
 simp only [hc]
 exact h _ (by rw [put_size]; exact h1) (by rw [envOf_put _ _ _ (by rw [h1]; exact hd),h2]; rfl) (by rw [put_defers']; exact h3)
theorem eos_store {T:TypeId} {X Y:Operand} {b o:Nat} {e:TypeId} {c0 vs:List Value} {ty:TypeId} {pos:String} {after:Array Edge} (ho:ops[i]?=some ⟨none,.store T X Y,ty,pos,after,none⟩) (hX:ev ρ X=.pointer (some ⟨b,o,none⟩)) (hB:Blk w b e c0) (hY:(ev ρ Y).cells=vs.toArray)
  (hT:Sz P T vs.length) (h1:vs.all oneC=true) (hl:Nat.ble (o + vs.length) c0.length=true) (h:∀ w',Fr [b] w w'→Blk w' b e (setL c0 o vs)→EOS P N ops Q rest ρ cs w') :
  EOS P N ops Q (i::rest) ρ cs w:=by
 obtain ⟨j,h2,h3⟩:=hT
 obtain ⟨w',hr,hf,hb⟩:=run_storeL (P:=P) (o:=o) vs 0 c0 w hB h1 (by have:=Nat.le_of_ble_eq_true hl; omega)
 refine eos_u (w':=w') ho ?_ (h w' hf hb)
 simp [execOp,hX,Instr.storeAt,Instr.sureAddr,storeVar,hY,sizeOf,typeInfo,h2,h3,hr,program,Sem.run,Result.andThen]
theorem eos_nil (h:∀ a:Act,a.tmps.size=N→envOf a=ρ→a.defers=[]→Q .normal a cs w):EOS P N ops Q [] ρ cs w:=fun a h1 h2 h3=>by
 unfold wpOpsSIn; exact h a h1 h2 h3
end
theorem envOf_base (args:Array Value) (n:Nat):envOf { tmps:=args++Array.replicate n undef,defers:=[] }=base args:=by
 funext t
 simp only [envOf,base,Array.getD_eq_getD_getElem?,List.getD_eq_getElem?_getD,Array.getElem?_append,Array.getElem?_toList]
 by_cases h1:t<args.size
 ·simp [h1]
 ·rw [if_neg h1,Array.getElem?_eq_none (Nat.le_of_not_lt h1)]
  simp only [Array.getElem?_replicate]
  split <;> rfl
theorem un_odd:∃ fs,Try.prog.underlying 63=some (.struct fs):=⟨_,Try.underlying63⟩
theorem assert_nil (w:World) (xT:TypeId):(Instr.typeAssert .nilIface xT 63 true).run Try.prog w=.ok (.tuple #[.agg #[],.bool false]) w:=by
 obtain ⟨fs,hu⟩:=un_odd
 obtain ⟨i,h1,h2⟩:=zero_odd
 simp [Instr.typeAssert,run_underlying hu,zeroValue,typeInfo,h1,h2,program,Sem.run,Result.andThen]
theorem sz_odd:Sz Try.prog 63 0:=sz_of (show (Try.prog.info? 63).map (fun i=>(i.zero,i.size,i.bytes))=some (some (.agg #[]),0,0) by kernel_rfl)
set_option maxRecDepth 20000 in
set_option maxHeartbeats 4000000 in
theorem get1_idle (b2 b3:Nat) (w:World):CallsDIn (FW none) 0 Try.prog 41 #[.pointer (some ⟨b2,0,none⟩),.pointer (some ⟨b3,0,none⟩)] .returning w fun e u' w'=>(∃ v,e=.returned v)∧u'=.returning∧Ext w w':=by
 refine callsDIn_of_wpSIn Try.func41 rfl trivial fun c₀ cs hu=>?_
 apply wpSIn_seq
 apply wpSIn_region
 have hc:recoverD (c₀::cs)=none:=by simp [recoverD,hu]
 have hself:({ c₀ with mode:=.returning }:Frame)=c₀:=by rw [← hu]
 refine (?_:EOS Try.prog 11 _ _ [0,1,2,3,4,5,6,7] (base #[.pointer (some ⟨b2,0,none⟩),.pointer (some ⟨b3,0,none⟩)]) (c₀::cs) w) _ (by rfl) ?_ rfl
 ·refine eos_rec rfl (by rfl) hc rfl ?_
  refine eos_v (w':=w) (v:=.tuple #[.agg #[],.bool false]) rfl (by simp [execOp,ev,upd,assert_nil]) rfl ?_
  refine eos_v (w':=w) (v:=.tuple #[.agg #[],.bool false]) rfl (r_mov rfl) rfl ?_
  refine eos_v (w':=w) (v:=.agg #[]) rfl (r_ext rfl rfl) rfl ?_
  refine eos_v (w':=w) (v:=.bool false) rfl (r_ext rfl rfl) rfl ?_
  have hz:(zeroValue 63).run Try.prog w=.ok (.agg #[]) w:=by
   obtain ⟨i,h1,h2⟩:=zero_odd
   simp [zeroValue,typeInfo,h1,h2,program,Sem.run,Result.andThen]
  refine eos_v (w':=w.alloc (.cells #[] 63)) (v:=.pointer (some ⟨w.heap.size,0,none⟩)) rfl (by
   simp only [execOp,Instr.alloc,Sem.run_bind,hz,Result.andThen,newVar,newRow,newObj]; rfl) rfl ?_
  have hB:Blk (w.alloc (.cells #[] 63)) w.heap.size 63 []:=Blk.alloc w 63 []
  refine eos_store rfl rfl hB (vs:=[]) rfl sz_odd rfl rfl ?_
  intro w1 hf _
  have E1:Ext w w1:=Ext.st (Ext.alloc w _) hf (fun m hm=>by rw [List.mem_singleton] at hm; rw [hm]; exact Nat.le_refl _)
  refine eos_v (w':=w1) (v:=.bool false) rfl (r_asg rfl) rfl ?_
  refine eos_nil fun a h1 h2 h3=>?_
  refine wpSIn_of_wpIn rfl ?_
  refine wpIn_mono ((?hE:EC Try.prog none 11 _ (fun e ρ ds w'=>e=.normal∧ds=[]∧Ext w w') _ [] w1) a h1 h2 h3) ?_
  case hE =>
   refine ec_seq ?_
   refine ec_region ?_
   refine o_w (v:=.bool false) (r_mov rfl) ?_
   refine eo_nil_sq ?_
   refine ec_condF rfl rfl ?_
   exact ec_skip ⟨rfl,rfl,E1⟩
  rintro e a' w' ⟨hs,rfl,hd,hx⟩
  exact ⟨hd,.returning,by rw [hself],.tuple #[],by (rw [← resE_envOf]; show (resE #[] _).run _ _=_; simp [resE]),⟨_,rfl⟩,rfl,hx⟩
 ·exact envOf_base _ _
section
variable {P : Program} {N : Nat} {ops : Array Oper} {Q : Exit → Act → List Frame → World → Prop} {rest : List Nat} {ρ : Env} {cs cs' : List Frame} {w : World} {i d : Nat}
theorem eos_rec2 {op:Op} {ty:TypeId} {pos:String} {after:Array Edge} {v:Value} (ho:ops[i]?=some ⟨some d,op,ty,pos,after,none⟩) (hr:(execOp (ev ρ) ⟨some d,op,ty,pos,after,none⟩).run P w=.ok .recover w) (hc:recoverD cs=some (v,cs')) (hd:Nat.blt d N=true) (h:EOS P N ops Q rest (upd ρ d v) cs' w) :
  EOS P N ops Q (i::rest) ρ cs w:=fun a h1 h2 h3=>by
 unfold wpOpsSIn
 rw [ho]
 refine ⟨fun _ _=>trivial,?_⟩
 have hw:Region.wanted (⟨some d,op,ty,pos,after,none⟩:Oper) (yielded ops a.tmps)=true:=rfl
 rw [if_pos hw,← ev_envOf,h2,hr]
 simp only [hc]
 exact h _ (by rw [put_size]; exact h1) (by rw [envOf_put _ _ _ (by rw [h1]; exact hd),h2]; rfl) (by rw [put_defers']; exact h3)
end
theorem assert_odd (w:World) (xT:TypeId):(Instr.typeAssert (.iface 63 (.agg #[])) xT 63 true).run Try.prog w=.ok (.tuple #[.agg #[],.bool true]) w:=by
 obtain ⟨fs,hu⟩:=un_odd
 simp [Instr.typeAssert,run_underlying hu]
/-- The panic of the reader, when it has been recovered. -/
abbrev oddD : List PanicEntry := [{ v := .iface 63 (.agg #[]), recovered := true }]
set_option maxRecDepth 20000 in
set_option maxHeartbeats 4000000 in
theorem get1_caught {b2 b3:Nat} {w:World} (B2:Blk w b2 27 (cEnt zeroE none 0 none 0)) (B3:Blk w b3 30 [.int .i64 0]) (h23:b2≠b3) :
  CallsDIn (FW none) 0 Try.prog 41 #[.pointer (some ⟨b2,0,none⟩),.pointer (some ⟨b3,0,none⟩)] (.panicking oddC) w fun e u' w'=>(∃ v,e=.returned v)∧u'=.panicking oddD∧Fr [b2,b3] w w'∧Blk w' b2 27 (cEnt zeroE none 0 none 0)∧Blk w' b3 30 [.int .i64 2]:=by
 refine callsDIn_of_wpSIn Try.func41 rfl trivial fun c₀ cs hu=>?_
 apply wpSIn_seq
 apply wpSIn_region
 have hc:recoverD (c₀::cs)=some (.iface 63 (.agg #[]),{ c₀ with mode:=.panicking oddD }::cs):=by simp [recoverD,hu]
 refine (?_:EOS Try.prog 11 _ _ [0,1,2,3,4,5,6,7] (base #[.pointer (some ⟨b2,0,none⟩),.pointer (some ⟨b3,0,none⟩)]) (c₀::cs) w) _ (by rfl) ?_ rfl
 ·refine eos_rec2 rfl (by rfl) hc rfl ?_
  refine eos_v (w':=w) (v:=.tuple #[.agg #[],.bool true]) rfl (by simp [execOp,ev,upd,assert_odd]) rfl ?_
  refine eos_v (w':=w) (v:=.tuple #[.agg #[],.bool true]) rfl (r_mov rfl) rfl ?_
  refine eos_v (w':=w) (v:=.agg #[]) rfl (r_ext rfl rfl) rfl ?_
  refine eos_v (w':=w) (v:=.bool true) rfl (r_ext rfl rfl) rfl ?_
  have hz:(zeroValue 63).run Try.prog w=.ok (.agg #[]) w:=by
   obtain ⟨i,h1,h2⟩:=zero_odd
   simp [zeroValue,typeInfo,h1,h2,program,Sem.run,Result.andThen]
  refine eos_v (w':=w.alloc (.cells #[] 63)) (v:=.pointer (some ⟨w.heap.size,0,none⟩)) rfl (by
   simp only [execOp,Instr.alloc,Sem.run_bind,hz,Result.andThen,newVar,newRow,newObj]; rfl) rfl ?_
  have hB:Blk (w.alloc (.cells #[] 63)) w.heap.size 63 []:=Blk.alloc w 63 []
  refine eos_store rfl rfl hB (vs:=[]) rfl sz_odd rfl rfl ?_
  intro w1 hf _
  have E1:Ext w w1:=Ext.st (Ext.alloc w _) hf (fun m hm=>by rw [List.mem_singleton] at hm; rw [hm]; exact Nat.le_refl _)
  refine eos_v (w':=w1) (v:=.bool true) rfl (r_asg rfl) rfl ?_
  refine eos_nil fun a h1 h2 h3=>?_
  refine wpSIn_of_wpIn rfl ?_
  refine wpIn_mono ((?hE:EC Try.prog none 11 _ (fun e ρ ds w'=>e=.normal∧ds=[]∧Fr [b2,b3] w w'∧Blk w' b2 27 (cEnt zeroE none 0 none 0)∧Blk w' b3 30 [.int .i64 2]) _ [] w1) a h1 h2 h3) ?_
  case hE =>
   refine ec_seq ?_
   refine ec_region ?_
   refine o_w (v:=.bool true) (r_mov rfl) ?_
   refine eo_nil_sq ?_
   refine ec_condT rfl rfl ?_
   refine ec_region ?_
   refine o_w (v:=.agg (cEnt zeroE none 0 none 0).toArray) (r_build bld_api_Entry (vs:=[]) (cells:=cEnt zeroE none 0 none 0) rfl rfl) ?_
   refine o_store rfl (B2.ex E1) (vs:=cEnt zeroE none 0 none 0) rfl sz_api_Entry rfl rfl rfl ?_
   intro w12 F12 B212
   refine o_store rfl ((B3.ex E1).fr F12 (by simpa using h23.symm)) (vs:=[.int .i64 2]) rfl sz_api_Errno rfl rfl rfl ?_
   intro w13 F13 B313
   refine eo_nil ?_
   exact ⟨rfl,rfl,((Fr.ext E1).stp F12 (fun m hm=>.inl (by simp at hm; simp [hm]))).stp F13 (fun m hm=>.inl (by simp at hm; simp [hm])),B212.fr F13 (by simpa using h23),B313⟩
  rintro e a' w' ⟨hs,rfl,hd,hx⟩
  exact ⟨hd,.panicking oddD,rfl,.tuple #[],by (rw [← resE_envOf]; show (resE #[] _).run _ _=_; simp [resE]),⟨_,rfl⟩,rfl,hx⟩
 ·exact envOf_base _ _
end Go.Proofs.Ytbijobepjjokmaa

/- What is written of a value is read: in plain Lean. -/
namespace Go.Proofs.Ytbijobepjjokmaa
open Go Go.RowKit
set_option linter.unusedVariables false
set_option linter.unusedSimpArgs false

theorem takeA {a b:Str} {n:Nat} (h:a.length=n):(a++b).take n=a:=by subst h; simp
theorem dropA {a b:Str} {n:Nat} (h:a.length=n):(a++b).drop n=b:=by subst h; simp
theorem lo8_nat (n:Nat):IntKind.u8.wrap (lo8 (n:Int))=((n % 256:Nat):Int):=by
 have e:(BitVec.ofInt IntKind.i64.bits (n:Int) &&& BitVec.ofInt IntKind.i64.bits (255:Int)).toNat=n % 256:=by
  rw [BitVec.toNat_and,BitVec.toNat_ofInt,BitVec.toNat_ofInt]
  have h64:IntKind.i64.bits=64:=rfl
  rw [h64]
  have e1:((n:Int) % ((2 ^ 64:Nat):Int)).toNat=n % 2 ^ 64:=by omega
  have e2:((255:Int) % ((2 ^ 64:Nat):Int)).toNat=2 ^ 8 - 1:=by decide
  rw [e1,e2,Nat.and_two_pow_sub_one_eq_mod]; omega
 unfold lo8
 rw [e,wrap64 (by omega) (by omega)]
 show (((n % 256:Nat):Int)) % 256=_
 omega
theorem sh8_nat (n:Nat):sh8 (n:Int)=((n / 256:Nat):Int):=by
 unfold sh8
 rw [show (2 ^ min ((8:Int)).toNat IntKind.i64.bits:Int)=256 from by decide,Int.fdiv_eq_ediv_of_nonneg _ (by decide)]; omega
theorem bytes_nat:∀ (k n:Nat),n<256 ^ k→restF k (n:Int)=0∧leN (bstr (bytesF k (n:Int)))=n
 | 0,n,h=>by
  obtain rfl:n=0:=by simpa using h
  exact ⟨rfl,rfl⟩
 | k + 1,n,h=>by
  have h':n / 256<256 ^ k:=by rw [Nat.pow_succ] at h; exact Nat.div_lt_of_lt_mul (by rw [Nat.mul_comm]; exact h)
  obtain ⟨i1,i2⟩:=bytes_nat k (n / 256) h'
  refine ⟨by show restF k (sh8 (n:Int))=0; rw [sh8_nat]; exact i1,?_⟩
  show leN (bstr (IntKind.u8.wrap (lo8 (n:Int))::bytesF k (sh8 (n:Int))))=n
  rw [lo8_nat,sh8_nat]
  have e:(UInt8.ofNat (((n % 256:Nat):Int)).toNat).toNat=n % 256:=by
   rw [Int.toNat_natCast]; simp
  show (UInt8.ofNat (((n % 256:Nat):Int)).toNat).toNat + 256 * leN (bstr (bytesF k ((n / 256:Nat):Int)))=n
  rw [e,i2]; omega
theorem putO_fit {n:Int} (w:Nat) (h1:1≤w) (h7:w≤7) (h0:0≤n) (hn:n<((256 ^ w:Nat):Int)):(putO n (w:Int)).2=0∧(putO n (w:Int)).1.length=w∧(leN (putO n (w:Int)).1:Int)=n:=by
 obtain ⟨m,rfl⟩:=Int.eq_ofNat_of_zero_le h0
 obtain ⟨i1,i2⟩:=bytes_nat w m (by omega)
 have e1:((decide ((w:Int)<1)||decide (7<(w:Int)))||decide ((m:Int)<0))=false:=by simp; omega
 unfold putO
 rw [e1,Int.toNat_natCast,i1]
 exact ⟨rfl,by simp [bstr,bytesF_length],by show ((leN (bstr (bytesF w (m:Int))):Nat):Int)=m; rw [i2]⟩
theorem pairs_nums:∀ (xs:List Int) (r:Str),(∀ x∈xs,0≤x∧x≤65535)→pairs xs.length (numsT xs++r)=xs∧(numsT xs).length=2 * xs.length
 | [],r,_=>⟨rfl,rfl⟩
 | x::xs,r,h=>by
  obtain ⟨h0,h1⟩:=h x (List.mem_cons_self ..)
  obtain ⟨_,p1,p2⟩:=putO_fit (n:=x) 2 (by decide) (by decide) h0 (by show x<65536; omega)
  obtain ⟨i1,i2⟩:=pairs_nums xs r (fun y hy=>h y (List.mem_cons_of_mem _ hy))
  have e:numsT (x::xs)=(putO x 2).1++numsT xs:=by simp [numsT]
  have p1':(putO x 2).1.length=2:=p1
  refine ⟨?_,by rw [e,List.length_append,i2,p1',List.length_cons]; omega⟩
  show (leN ((numsT (x::xs)++r).take 2):Int)::pairs xs.length ((numsT (x::xs)++r).drop 2)=_
  rw [e,List.append_assoc,takeA p1',dropA p1',i1]
  exact congrArg (·::xs) p2
theorem okN_in {l:List Int} (h:okN l=true):∀ x∈l,0≤x∧x≤65535:=by
 intro x hx
 have:=List.all_eq_true.1 (andL h) x hx
 simpa using this
theorem lowF_nat {n:Nat} (h:n<2 ^ 64):lowF (n:Int)=((n % 4294967296:Nat):Int):=by
 have e:(BitVec.ofInt IntKind.u64.bits (n:Int) &&& BitVec.ofInt IntKind.u64.bits (4294967295:Int)).toNat=n % 4294967296:=by
  rw [BitVec.toNat_and,BitVec.toNat_ofInt,BitVec.toNat_ofInt]
  have h64:IntKind.u64.bits=64:=rfl
  rw [h64]
  have e1:((n:Int) % ((2 ^ 64:Nat):Int)).toNat=n:=by omega
  have e2:((4294967295:Int) % ((2 ^ 64:Nat):Int)).toNat=2 ^ 32 - 1:=by decide
  rw [e1,e2,Nat.and_two_pow_sub_one_eq_mod]
 unfold lowF
 rw [e,show IntKind.u64.wrap ((n % 4294967296:Nat):Int)=((n % 4294967296:Nat):Int) from by
  show (((n % 4294967296:Nat):Int)) % 18446744073709551616=_
  omega,wrap64 (by omega) (by omega)]
theorem highF_nat {n:Nat} (h:n<2 ^ 64):highF (n:Int)=((n / 4294967296:Nat):Int):=by
 have e4:Int.fdiv (n:Int) (2 ^ min ((32:Int)).toNat IntKind.u64.bits)=((n / 4294967296:Nat):Int):=by
  rw [show (2 ^ min ((32:Int)).toNat IntKind.u64.bits:Int)=4294967296 from by decide,Int.fdiv_eq_ediv_of_nonneg _ (by decide)]; omega
 unfold highF
 rw [e4,wrap64 (by omega) (by omega)]
theorem u64_nat {n:Nat} (h:n<2 ^ 64):IntKind.u64.wrap (n:Int)=(n:Int):=by
 show (n:Int) % 18446744073709551616=_
 omega
theorem flR_eq {s:Str} {a b:Nat} (h1:leN (s.take 4)=a) (h2:leN ((s.drop 4).take 4)=b) (ha:a<4294967296) (hb:b<4294967296):flR s=((a + b * 4294967296:Nat):Int):=by
 unfold flR
 have e0:(2 ^ min ((32:Int)).toNat IntKind.u64.bits:Int)=4294967296:=by decide
 have eb:(b:Int) * 4294967296=((b * 4294967296:Nat):Int):=by omega
 have w1:=u64_nat (n:=a) (by omega)
 have w2:=u64_nat (n:=b) (by omega)
 have w3:=u64_nat (n:=b * 4294967296) (by omega)
 simp only [h1,h2,e0,w1,w2,eb,w3]
 have e:(BitVec.ofInt IntKind.u64.bits (a:Int) ||| BitVec.ofInt IntKind.u64.bits ((b * 4294967296:Nat):Int)).toNat=a + b * 4294967296:=by
  rw [BitVec.toNat_or,BitVec.ofInt_natCast,BitVec.ofInt_natCast,BitVec.toNat_ofNat,BitVec.toNat_ofNat]
  have h64:IntKind.u64.bits=64:=rfl
  rw [h64,Nat.mod_eq_of_lt (by omega),Nat.mod_eq_of_lt (by omega)]
  have:=Nat.two_pow_add_eq_or_of_lt (b:=a) (i:=32) (by omega) b
  rw [show b * 4294967296=2 ^ 32 * b by rw [Nat.mul_comm],Nat.or_comm,← this,Nat.add_comm]
 rw [e,u64_nat (by omega)]
theorem okV_reg {v:Val} (h:okV v=true) (hk:v.kind=1):0≤v.time∧v.time≤2147483647∧0≤v.node∧v.node≤7∧v.text.length≤8∧v.plus=[]∧v.minus=[]∧v.flags=0:=by
 unfold okV okR at h
 rw [hk] at h
 simp only [beq_self_eq_true,cond_true,Bool.and_eq_true,decide_eq_true_eq,beq_iff_eq] at h
 obtain ⟨h1,h2,h3,h4,h5,_,⟨h6,h7⟩,h8⟩:=h
 exact ⟨h1,h2,h3,h4,h5,h6,h7,h8⟩
theorem noReg_iff {v:Val}:noReg v=true→v.time=0∧v.node=0∧v.dead=false∧v.text=[]:=by
 unfold noReg
 simp only [Bool.and_eq_true,beq_iff_eq,Bool.not_eq_true']
 exact fun h=>h
/-- What is read of a value's bytes is the value; the bytes are 32, with zeros; a text's length is one byte. -/
theorem readV_valT {d : Val} (ho : okV d = true) (hf : inU d.flags) (z : Str) : readV d.kind (valT d ++ z) = d ∧ (valT d).length ≤ 32 ∧ (d.kind = 1 → leN (((valT d ++ z).drop 6).take 1) ≤ 8) := by
  rcases okV_kind ho with hk | hk | hk
  · obtain ⟨t0, t1, n0, n1, l8, ep, em, ef⟩ := okV_reg ho hk
    obtain ⟨_, a1, a2⟩ := putO_fit (n := d.time) 4 (by decide) (by decide) t0 (by show d.time < 4294967296; omega)
    obtain ⟨_, b1, b2⟩ := putO_fit (n := d.node) 1 (by decide) (by decide) n0 (by show d.node < 256; omega)
    obtain ⟨_, c1, c2⟩ := putO_fit (n := bif d.dead then 1 else 0) 1 (by decide) (by decide) (by cases d.dead <;> decide) (by cases d.dead <;> decide)
    obtain ⟨_, e1, e2⟩ := putO_fit (n := (d.text.length : Int)) 1 (by decide) (by decide) (by omega) (by show (d.text.length : Int) < 256; omega)
    replace a1 : (putO d.time 4).1.length = 4 := a1
    replace b1 : (putO d.node 1).1.length = 1 := b1
    replace c1 : (putO (bif d.dead then 1 else 0) 1).1.length = 1 := c1
    replace e1 : (putO (d.text.length : Int) 1).1.length = 1 := e1
    replace a2 : (leN (putO d.time 4).1 : Int) = d.time := a2
    replace b2 : (leN (putO d.node 1).1 : Int) = d.node := b2
    replace c2 : (leN (putO (bif d.dead then 1 else 0) 1).1 : Int) = bif d.dead then 1 else 0 := c2
    replace e2 : (leN (putO (d.text.length : Int) 1).1 : Int) = (d.text.length : Int) := e2
    have hv : valT d = regT d := by unfold valT; rw [hk]; rfl
    have hz := zeros_len (8 - (d.text.length : Int))
    have e2' : leN (putO (d.text.length : Int) 1).1 = d.text.length := by omega
    have ed : ((bif d.dead then (1 : Int) else 0) == (1 : Int)) = d.dead := by cases d.dead <;> rfl
    refine ⟨?_, ?_, fun _ => ?_⟩
    · rw [hv]
      unfold readV
      rw [hk]
      show (⟨1, _, _, _, _, [], [], 0⟩ : Val) = d
      unfold regT
      simp only [List.append_assoc]
      rw [takeA a1, dropA a1, takeA b1, dropA b1, takeA c1, dropA c1, takeA e1, dropA e1, e2', takeA rfl, a2, b2, c2, ed]
      obtain ⟨k, t, n, de, tx, p, m, f⟩ := d
      simp only at hk ep em ef ⊢
      subst hk ep em ef
      rfl
    · rw [hv]; unfold regT
      simp only [List.length_append, a1, b1, c1, e1, hz]; omega
    · rw [hv]; unfold regT
      rw [show 6 = 4 + (1 + 1) from rfl, ← List.drop_drop, ← List.drop_drop]
      simp only [List.append_assoc]
      rw [dropA a1, dropA b1, dropA c1, takeA e1, e2']; exact l8
  · obtain ⟨p1, p2, p3, p4⟩ := okV_cc ho hk
    obtain ⟨_, _, f0, hr⟩ := okV_c ho (by rw [hk]; rfl) (by rw [hk]; rfl)
    obtain ⟨r1, r2, r3, r4⟩ := noReg_iff hr
    have hv : valT d = cntT d := by unfold valT; rw [hk]; rfl
    obtain ⟨x1, x2⟩ := pairs_nums d.plus (numsT d.minus ++ z) (okN_in p1)
    obtain ⟨y1, y2⟩ := pairs_nums d.minus z (okN_in p2)
    rw [p3] at x1 x2
    rw [p4] at y1 y2
    refine ⟨?_, ?_, fun c => by rw [hk] at c; cases c⟩
    · rw [hv]
      unfold readV
      rw [hk]
      show (⟨2, 0, 0, false, [], pairs 8 _, pairs 8 _, 0⟩ : Val) = d
      unfold cntT
      rw [List.append_assoc, x1, dropA x2, y1]
      obtain ⟨k, t, n, de, tx, p, m, f⟩ := d
      simp only at hk r1 r2 r3 r4 f0 ⊢
      subst hk r1 r2 r3 r4 f0
      rfl
    · rw [hv]; unfold cntT; rw [List.length_append, x2, y2]; omega
  · obtain ⟨_, ep, em, hr⟩ := okV_f ho (by rw [hk]; rfl) (by rw [hk]; rfl)
    obtain ⟨r1, r2, r3, r4⟩ := noReg_iff hr
    have hv : valT d = flgT d := by unfold valT; rw [hk]; rfl
    obtain ⟨m, hm⟩ := Int.eq_ofNat_of_zero_le hf.1
    have hm64 : m < 2 ^ 64 := by have := hf.2; omega
    obtain ⟨_, a1, a2⟩ := putO_fit (n := lowF d.flags) 4 (by decide) (by decide) (by rw [hm, lowF_nat hm64]; omega) (by rw [hm, lowF_nat hm64]; show _ < (4294967296 : Int); omega)
    obtain ⟨_, b1, b2⟩ := putO_fit (n := highF d.flags) 4 (by decide) (by decide) (by rw [hm, highF_nat hm64]; omega) (by rw [hm, highF_nat hm64]; show _ < (4294967296 : Int); omega)
    replace a1 : (putO (lowF d.flags) 4).1.length = 4 := a1
    replace b1 : (putO (highF d.flags) 4).1.length = 4 := b1
    have a2' : leN (putO (lowF d.flags) 4).1 = m % 4294967296 := by
      have : (leN (putO (lowF d.flags) 4).1 : Int) = lowF d.flags := a2
      rw [hm, lowF_nat hm64] at this; rw [hm, lowF_nat hm64]; omega
    have b2' : leN (putO (highF d.flags) 4).1 = m / 4294967296 := by
      have : (leN (putO (highF d.flags) 4).1 : Int) = highF d.flags := b2
      rw [hm, highF_nat hm64] at this; rw [hm, highF_nat hm64]; omega
    refine ⟨?_, ?_, fun c => by rw [hk] at c; cases c⟩
    · rw [hv]
      unfold readV
      rw [hk]
      show (⟨3, 0, 0, false, [], [], [], flR _⟩ : Val) = d
      unfold flgT
      rw [flR_eq (a := m % 4294967296) (b := m / 4294967296) (by rw [List.append_assoc, takeA a1, a2']) (by rw [List.append_assoc, dropA a1, takeA b1, b2']) (by omega) (by omega)]
      have e : ((m % 4294967296 + m / 4294967296 * 4294967296 : Nat) : Int) = d.flags := by rw [hm]; omega
      rw [e]
      obtain ⟨k, t, n, de, tx, p, mi, f⟩ := d
      simp only at hk r1 r2 r3 r4 ep em ⊢
      subst hk r1 r2 r3 r4 ep em
      rfl
    · rw [hv]; unfold flgT; rw [List.length_append, a1, b1]; omega
theorem putT_42 {e:Ent} (h:okE e=true):(putT e).length=42:=by
 obtain ⟨h1,h8,hv⟩:=okE_val h
 have hk:0≤e.val.kind∧e.val.kind≤3:=by rcases okV_kind hv with hk | hk | hk <;> omega
 obtain ⟨_,a1,_⟩:=putO_fit (n:=e.val.kind) 1 (by decide) (by decide) hk.1 (by show e.val.kind<256; omega)
 obtain ⟨_,b1,_⟩:=putO_fit (n:=(e.key.length:Int)) 1 (by decide) (by decide) (by omega) (by show (e.key.length:Int)<256; omega)
 replace a1:(putO e.val.kind 1).1.length=1:=a1
 replace b1:(putO (e.key.length:Int) 1).1.length=1:=b1
 have z1:=zeros_len (8 - (e.key.length:Int))
 have z2:=zeros_len (32 - ((valT e.val).length:Int))
 have hl:=valT_len h
 have hh:(headT e).length=10:=by unfold headT; simp only [List.length_append,a1,b1,z1]; omega
 unfold putT; simp only [List.length_append,hh,z2]; omega
theorem inU_readV (k:Int) (s:Str):inU (readV k s).flags:=by
 unfold readV
 cases k==1 with
 | true=>exact (show inU (0:Int) from ⟨by decide,by decide⟩)
 | false =>
  cases k==2 with
  | true=>exact (show inU (0:Int) from ⟨by decide,by decide⟩)
  | false =>
   cases k==3 with
   | true =>
    show inU (flR s)
    unfold flR inU
    constructor
    ·exact Int.emod_nonneg _ (by decide)
    ·exact Int.emod_lt_of_pos _ (by decide)
   | false=>exact (show inU (0:Int) from ⟨by decide,by decide⟩)
end Go.Proofs.Ytbijobepjjokmaa

/- entry.Get. -/
namespace Go.Proofs.Ytbijobepjjokmaa
open Go Go.RowKit
set_option linter.unusedVariables false
set_option linter.unusedSimpArgs false

def kindG (s:Str):Int:=(leN (s.take 1):Int)
def klenG (s:Str):Nat:=leN ((s.drop 1).take 1)
def readE (s:Str):Ent:=⟨(s.drop 2).take (klenG s),readV (kindG s) (s.drop 10)⟩
/-- Nothing panics. -/
def okG0 (s : Str) : Prop := (1 ≤ s.length ∧ 1 ≤ s.length - 1 ∧ klenG s ≤ 8 ∧ 8 ≤ s.length - 1 - 1) ∧ okS (kindG s) (s.drop 10)
def okG (s:Str):Prop:=s.length≤9223372036854775807
def getE (s:Str):Ent × Int:=bif ((putE (readE s)).2 != 0)||!((putE (readE s)).1==s) then (zeroE,2) else (readE s,0)
theorem sm_readV (k:Int) (s:Str):sm (readV k s):=by
 unfold readV
 cases k==1 with
 | true=>exact ⟨Nat.zero_le _,Nat.zero_le _⟩
 | false =>
  cases k==2 with
  | true=>exact ⟨by simp [pairs_len],by simp [pairs_len]⟩
  | false=>cases k==3 <;> exact ⟨Nat.zero_le _,Nat.zero_le _⟩
/-- There is nothing to be got where something panics. -/
theorem getE_short {s : Str} (h : s.length < 42) : getE s = (zeroE, 2) := by
  unfold getE
  by_cases hd : ((putE (readE s)).2 != 0) = true
  · rw [hd]; rfl
  · have hd' : ((putE (readE s)).2 != 0) = false := by simpa using hd
    have ho : okE (readE s) = true := by
      cases h1 : okE (readE s) with
      | true => rfl
      | false => exfalso; unfold putE at hd'; rw [h1] at hd'; simp at hd'
    have h2 : (putE (readE s)).1 = putT (readE s) := by unfold putE; rw [ho]; rfl
    have hl := putT_42 ho
    have : ((putE (readE s)).1 == s) = false := by
      rw [h2, beq_eq_false_iff_ne]
      intro c; rw [c] at hl; omega
    rw [hd', this]; rfl
theorem getE_odd {s:Str} (h:okE (readE s)=false):getE s=(zeroE,2):=by
 unfold getE putE
 rw [h]; rfl
theorem getE_bad {s:Str} (h:¬ okG0 s):getE s=(zeroE,2):=by
 by_cases hl:s.length<42
 ·exact getE_short hl
 ·refine getE_odd ?_
  by_cases hk:klenG s≤8
  ·have hq:¬ okS (kindG s) (s.drop 10):=fun c=>h ⟨⟨by omega,by omega,hk,by omega⟩,c⟩
   unfold okS at hq
   have h3:kindG s=1∧¬ leN ((((((s.drop 10).drop 4).drop 1).drop 1)).take 1)≤8:=by
    by_cases h1:kindG s=1
    ·refine ⟨h1,fun c=>hq ⟨fun _=>⟨c,by rw [List.length_drop]; omega⟩,fun c=>by omega,fun c=>by omega⟩⟩
    ·exact absurd ⟨fun c=>absurd c h1,fun _=>by rw [List.length_drop]; omega,fun _=>by rw [List.length_drop]; omega⟩ hq
   have ht:(readE s).val.text.length≤8→False:=fun c=>by
    unfold readE readV at c
    rw [h3.1] at c
    simp only [beq_self_eq_true,cond_true,List.length_take,List.length_drop] at c
    have:=h3.2
    omega
   unfold okE
   cases ho:okV (readE s).val with
   | false=>simp
   | true =>
    exfalso
    refine ht (okV_text ho ?_)
    unfold readE readV
    rw [h3.1]; rfl
  ·unfold okE
   have:decide ((readE s).key.length≤8)=false:=by
    unfold readE
    simp only [List.length_take,List.length_drop,decide_eq_false_iff_not]; omega
   rw [this]; simp
def entry_Get_raw (s:Str) (y:Ent × Int):Prop:=okG s∧y=getE s
theorem entGet_ev (s:Str) (h:okG s):entry_Get_raw s (getE s):=⟨h,rfl⟩
theorem zero_reader:Zero Try.prog 67 (.agg #[str []]):=zero_of (show (Try.prog.info? 67).map (fun i=>(i.zero,i.size,i.bytes))=some (some (.agg #[str []]),1,16) by kernel_rfl)
theorem bld_reader:Bld Try.prog 67 [(0,1)] [str []]:=bld_struct zero_reader rfl Try.underlying67 (fun _=>by kernel_rfl)
theorem cf_entry_Put:CF Try.prog 12:=fun _ _=>by kernel_rfl
theorem get_end {ρ:Env} {w w1:World} {b2 b3:Nat} {L:List Nat} {cs:List Value} {x:Ent} {n:Int} (h2:ρ 2=.pointer (some ⟨b2,0,none⟩)) (h3:ρ 3=.pointer (some ⟨b3,0,none⟩))
  (B2:Blk w1 b2 27 cs) (B3:Blk w1 b3 30 [.int .i64 n]) (hn:cs.length=9) (E:Ext w w1) (S:Stb L w1 (fun w=>kEnt.r w cs x)) :
  leaveD Try.prog #[ResultVar.cell 2 27,ResultVar.cell 3 30] (Ret fun v w'=>Ext w w'∧∃ (cs90:List Value),v=.tuple #[.agg cs90.toArray,.int .i64 n]∧Stb L w' (fun w=>kEnt.r w cs90 x)) ρ
   [{ target:=.fn (.func 41) [.pointer (some ⟨b2,0,none⟩),.pointer (some ⟨b3,0,none⟩)].toArray,args:=#[] }] .returning w1:=by
 have hi:(invoke (.fn (.func 41) [.pointer (some ⟨b2,0,none⟩),.pointer (some ⟨b3,0,none⟩)].toArray) #[]).run Try.prog w1=.ok (.enter 41 #[.pointer (some ⟨b2,0,none⟩),.pointer (some ⟨b3,0,none⟩)]) w1:=by
  simp [invoke]
 refine ⟨by simp,_,_,_,_,rfl,hi,(get1_idle b2 b3 w1).mono ?_⟩
 rintro e u w' ⟨⟨v,rfl⟩,rfl,hx⟩
 obtain ⟨_,v',h⟩:=endr2 (P:=Try.prog) (w:=w') (R:=Ret fun v w'=>Ext w w'∧∃ (cs90:List Value),v=.tuple #[.agg cs90.toArray,.int .i64 n]∧Stb L w' (fun w=>kEnt.r w cs90 x)) (rv_a h2 agg_api_Entry (B2.ex hx) hn (by rw [List.drop_zero,← hn,List.take_length])) (rv_c h3 one_api_Errno (B3.ex hx) rfl) ⟨_,rfl,E.trans hx,_,rfl,S.ex hx⟩
 exact ⟨v',h⟩
theorem get_panic {ρ:Env} {w w1:World} {b2 b3:Nat} {L:List Nat} (h2:ρ 2=.pointer (some ⟨b2,0,none⟩)) (h3:ρ 3=.pointer (some ⟨b3,0,none⟩))
  (B2:Blk w1 b2 27 (cEnt zeroE none 0 none 0)) (B3:Blk w1 b3 30 [.int .i64 0]) (h23:b2≠b3) (E:Ext w w1) (l2:w.heap.size≤b2) (l3:w.heap.size≤b3) {s:Str} (hb:¬ okG0 s) :
  leaveD Try.prog #[ResultVar.cell 2 27,ResultVar.cell 3 30] (Ret fun v w'=>Ext w w'∧∃ (cs90:List Value),v=.tuple #[.agg cs90.toArray,.int .i64 (getE s).2]∧Stb L w' (fun w=>kEnt.r w cs90 (getE s).1)) ρ
   [{ target:=.fn (.func 41) [.pointer (some ⟨b2,0,none⟩),.pointer (some ⟨b3,0,none⟩)].toArray,args:=#[] }] (.panicking oddC) w1:=by
 have hi:(invoke (.fn (.func 41) [.pointer (some ⟨b2,0,none⟩),.pointer (some ⟨b3,0,none⟩)].toArray) #[]).run Try.prog w1=.ok (.enter 41 #[.pointer (some ⟨b2,0,none⟩),.pointer (some ⟨b3,0,none⟩)]) w1:=by
  simp [invoke]
 rw [getE_bad hb]
 refine ⟨by simp,_,_,_,_,rfl,hi,(get1_caught B2 B3 h23).mono ?_⟩
 rintro e u w' ⟨⟨v,rfl⟩,rfl,hx,X2,X3⟩
 obtain ⟨_,v',h⟩:=endr2 (P:=Try.prog) (w:=w') (R:=Ret fun v w'=>Ext w w'∧∃ (cs90:List Value),v=.tuple #[.agg cs90.toArray,.int .i64 2]∧Stb L w' (fun w=>kEnt.r w cs90 zeroE)) (rv_a h2 agg_api_Entry X2 rfl rfl) (rv_c h3 one_api_Errno X3 rfl) ⟨_,rfl,Ext.st E hx (by simp; omega),_,rfl,kEnt_mk (d:=zeroE) stb_nil stb_nil⟩
 exact ⟨v',h⟩
set_option maxRecDepth 20000 in
set_option maxHeartbeats 8000000 in
theorem entry_Get_c {L:List Nat} {w:World} (s:Str) (hL:Lt L w) {y:Ent × Int} (h:entry_Get_raw s y) :
  Calls Try.prog 21 [str s].toArray w (Ret fun v w'=>Ext w w'∧∃ (cs90:List Value),v=.tuple #[.agg cs90.toArray,.int .i64 y.2]∧Stb L w' (fun w=>kEnt.r w cs90 y.1)):=by
 obtain ⟨hsz,rfl⟩:=h
 replace hsz:s.length≤9223372036854775807:=hsz
 refine calls_ecD Try.func21 rfl rfl rfl ?_
 refine ec_seq ?_
 refine ec_region ?_
 refine o_alloc zero_api_Entry rfl rfl rfl ?_
 intro b2 w1 e2 F1 B2
 refine o_alloc zero_api_Errno rfl rfl rfl ?_
 intro b3 w2 e3 F2 B3
 refine eo_nil_sq ?_
 refine ec_seq ?_
 refine ec_region ?_
 refine o_w (v:=.func (.func 41) #[] #[.pointer (some ⟨b2,0,none⟩),.pointer (some ⟨b3,0,none⟩)]) (r_mkfb (us:=[]) (vs:=[.pointer (some ⟨b2,0,none⟩),.pointer (some ⟨b3,0,none⟩)]) rfl rfl) ?_
 refine o_defer (caps:=[.pointer (some ⟨b2,0,none⟩),.pointer (some ⟨b3,0,none⟩)]) rfl rfl ?_
 refine eo_nil_sq ?_
 refine ec_seq ?_
 refine ec_region ?_
 refine o_w (v:=str s) (r_mov rfl) ?_
 refine o_w (v:=.agg #[str s]) (r_build bld_reader (vs:=[(0,str s)]) (cells:=[str s]) rfl rfl) ?_
 refine o_box (cs:=[str s]) rfl rfl rfl ?_
 intro br w3 er F3 Br
 refine o_w (v:=.pointer (some ⟨br,0,none⟩)) (r_asg rfl) ?_
 have hb2:=B2.lt
 have hb3:=B3.lt
 have s1:=F1.size
 have s2:=F2.size
 have B2r:=(B2.ex F2).ex F3
 have B3r:=B3.ex F3
 have E3:Ext w w3:=(F1.trans F2).trans F3
 have hbr:w.heap.size≤br:=by omega
 have n2:b2≠br:=by omega
 have n3:b3≠br:=by omega
 have n23:b2≠b3:=by omega
 have l2:w.heap.size≤b2:=by omega
 have l3:w.heap.size≤b3:=by omega
 refine eo_nil_sq ?_
 refine ec_seq ?_
 refine ec_region ?_
 refine o_w (v:=.pointer (some ⟨br,0,none⟩)) (r_mov rfl) ?_
 refine o_callP cf_rnumber rfl (rd_num Br 1 (by omega) (by omega) hsz) rfl rfl ?_ (by
  rintro _ w' ⟨rfl,hno,G⟩
  exact get_panic (s:=s) rfl rfl (B2r.fr G (by simpa using n2)) (B3r.fr G (by simpa using n3)) n23 (Ext.st E3 G (fun m hm=>by rw [List.mem_singleton] at hm; rw [hm]; exact hbr)) l2 l3 (fun c=>hno c.1.1))
 rintro _ w4 ⟨ok1,rfl,F4,Br4⟩
 have B24:=B2r.fr F4 (by simpa using n2)
 have B34:=B3r.fr F4 (by simpa using n3)
 have E4:Ext w w4:=Ext.st E3 F4 (fun m hm=>by rw [List.mem_singleton] at hm; rw [hm]; exact hbr)
 refine o_w (v:=.int .i64 (kindG s)) (r_asg rfl) ?_
 refine eo_nil_sq ?_
 refine ec_seq ?_
 refine ec_region ?_
 iterate 2 refine o_w (v:=.pointer (some ⟨br,0,none⟩)) (r_mov rfl) ?_
 refine o_callP cf_rnumber rfl (rd_num Br4 1 (by omega) (by omega) (by rw [List.length_drop]; omega)) rfl rfl ?_ (by
  rintro _ w' ⟨rfl,hno,G⟩
  exact get_panic (s:=s) rfl rfl (B24.fr G (by simpa using n2)) (B34.fr G (by simpa using n3)) n23 (Ext.st E4 G (fun m hm=>by rw [List.mem_singleton] at hm; rw [hm]; exact hbr)) l2 l3 (fun c=>hno (by rw [List.length_drop]; exact c.1.2.1)))
 rintro _ w5 ⟨ok2,rfl,F5,Br5⟩
 have B25:=B24.fr F5 (by simpa using n2)
 have B35:=B34.fr F5 (by simpa using n3)
 have E5:Ext w w5:=Ext.st E4 F5 (fun m hm=>by rw [List.mem_singleton] at hm; rw [hm]; exact hbr)
 refine o_callP cf_rtext rfl (rd_txt Br5 (klenG s) 8 (by simp only [List.length_drop]; omega)) rfl rfl ?_ (by
  rintro _ w' ⟨rfl,hno,G⟩
  exact get_panic (s:=s) rfl rfl (B25.fr G (by simpa using n2)) (B35.fr G (by simpa using n3)) n23 (Ext.st E5 G (fun m hm=>by rw [List.mem_singleton] at hm; rw [hm]; exact hbr)) l2 l3 (fun c=>hno ⟨c.1.2.2.1,by simp only [List.length_drop]; exact c.1.2.2.2⟩))
 rintro _ w6 ⟨ok3,rfl,F6,Br6⟩
 have B26:=B25.fr F6 (by simpa using n2)
 have B36:=B35.fr F6 (by simpa using n3)
 have E6:Ext w w6:=Ext.st E5 F6 (fun m hm=>by rw [List.mem_singleton] at hm; rw [hm]; exact hbr)
 have hkey:((s.drop 1).drop 1).take (klenG s)=(readE s).key:=by simp [readE,List.drop_drop]
 have hrest:((s.drop 1).drop 1).drop 8=s.drop 10:=by simp [List.drop_drop]
 rw [hrest] at Br6
 rw [hkey]
 refine o_w (v:=.agg #[str (readE s).key,.int .i64 0,.int .i64 0,.int .i64 0,.bool false,str [],.slice none 0 0,.slice none 0 0,.int .u64 0]) (r_build bld_api_Entry (vs:=[(0,str (readE s).key)]) (cells:=[str (readE s).key,.int .i64 0,.int .i64 0,.int .i64 0,.bool false,str [],.slice none 0 0,.slice none 0 0,.int .u64 0]) rfl rfl) ?_
 refine o_alloc zero_api_Entry rfl rfl rfl ?_
 intro b6 w7 e6 F7 B6
 refine o_store rfl B6 (vs:=[str (readE s).key,.int .i64 0,.int .i64 0,.int .i64 0,.bool false,str [],.slice none 0 0,.slice none 0 0,.int .u64 0]) rfl sz_api_Entry rfl rfl rfl ?_
 intro w8 F8 B68
 have hB2l:=B26.lt
 have hB3l:=B36.lt
 have hBrl:=Br6.lt
 have n62:b2≠b6:=by omega
 have n63:b3≠b6:=by omega
 have n6r:br≠b6:=by omega
 have h6:w.heap.size≤b6:=by have:=E6.size; omega
 have B28:=(B26.ex F7).fr F8 (by simpa using n62)
 have B38:=(B36.ex F7).fr F8 (by simpa using n63)
 have Br8:=(Br6.ex F7).fr F8 (by simpa using n6r)
 have E8:Ext w w8:=Ext.st (E6.trans F7) F8 (fun m hm=>by rw [List.mem_singleton] at hm; rw [hm]; exact h6)
 have hL8:Lt (br::b6::b3::b2::L) w8:=(((((hL.fr E8).cons B28.lt).cons B38.lt).cons B68.lt).cons Br8.lt)
 refine eo_nil_sq ?_
 refine ec_seq ?_
 refine ec_region ?_
 refine o_w (v:=.pointer (some ⟨br,0,none⟩)) (r_mov rfl) ?_
 refine o_w (v:=.int .i64 (kindG s)) (r_mov rfl) ?_
 refine o_callP cf_rvalue rfl (rd_value hL8 (by simp) Br8 (kindG s) (by rw [List.length_drop]; omega)) rfl rfl ?_ (by
  rintro _ w' ⟨rfl,hno,G⟩
  exact get_panic (s:=s) rfl rfl (B28.fr G (by simpa using n2)) (B38.fr G (by simpa using n3)) n23 (Ext.st E8 G (fun m hm=>by rw [List.mem_singleton] at hm; rw [hm]; exact hbr)) l2 l3 (fun c=>hno c.2))
 rintro _ w9 ⟨ok4,F9,A1,c1,A2,c2,rfl,S1,S2⟩
 have B29:=B28.fr F9 (by simpa using n2)
 have B39:=B38.fr F9 (by simpa using n3)
 have B69:=B68.fr F9 (by simpa using n6r.symm)
 have E9:Ext w w9:=Ext.st E8 F9 (fun m hm=>by rw [List.mem_singleton] at hm; rw [hm]; exact hbr)
 refine o_w (v:=.pointer (some ⟨b6,1,none⟩)) (r_fa fld_api_Entry_1 rfl rfl) ?_
 refine o_store rfl B69 (vs:=cVal (readE s).val A1 c1 A2 c2) rfl sz_api_Value rfl rfl rfl ?_
 intro w10 F10 B610
 have S1':=S1.fr F10 (by simp)
 have S2':=S2.fr F10 (by simp)
 have B210:=B29.fr F10 (by simpa using n62)
 have B310:=B39.fr F10 (by simpa using n63)
 have B6':Blk w10 b6 27 (cEnt (readE s) A1 c1 A2 c2):=B610
 have E10:Ext w w10:=Ext.st E9 F10 (fun m hm=>by rw [List.mem_singleton] at hm; rw [hm]; exact h6)
 have hbr8:=Br8.lt
 have s9:=F9.size
 have s10:=F10.size
 have hL10:Lt (br::b6::b3::b2::L) w10:=((((hL.fr E10).cons B210.lt).cons B310.lt).cons B6'.lt).cons (by omega)
 refine eo_nil_sq ?_
 iterate 2 refine ec_seq ?_
 refine ec_region ?_
 refine o_w (v:=.agg (cEnt (readE s) A1 c1 A2 c2).toArray) (r_lda agg_api_Entry rfl (vs:=cEnt (readE s) A1 c1 A2 c2) rfl (B6'.part (o:=0) (n:=9) rfl)) ?_
 refine o_call cf_entry_Put rfl (entry_Put_c (readE s) (kEnt_mk (d:=readE s) S1' S2') hL10 (entPut_ev _ (sm_readV _ _))) rfl rfl ?_
 rintro _ w11 ⟨F11,rfl⟩
 have B211:=B210.ex F11
 have B311:=B310.ex F11
 have B611:=B6'.ex F11
 have S11:=(S1'.ex F11)
 have S21:=(S2'.ex F11)
 have E11:=E10.trans F11
 have hs11:=E11.size
 have hsub:∀ m∈L,m∈(br::b6::b3::b2::L):=fun m hm=>by simp [hm]
 refine o_w (v:=.tuple #[str (putE (readE s)).1,.int .i64 (putE (readE s)).2]) (r_mov rfl) ?_
 refine o_w (v:=str (putE (readE s)).1) (r_ext rfl rfl) ?_
 refine o_w (v:=.int .i64 (putE (readE s)).2) (r_ext rfl rfl) ?_
 refine o_w (v:=str (putE (readE s)).1) (r_asg rfl) ?_
 refine o_w (v:=.int .i64 (putE (readE s)).2) (r_asg rfl) ?_
 refine eo_nil_sq ?_
 refine ec_seq ?_
 refine ec_region ?_
 refine o_w (v:=.int .i64 (putE (readE s)).2) (r_mov rfl) ?_
 refine o_w (v:=.bool ((putE (readE s)).2 != 0)) (r_int rfl rfl rfl) ?_
 refine o_w (v:=.bool ((putE (readE s)).2 != 0)) (r_mov rfl) ?_
 have hn2:b2≠b3:=n23
 by_cases hd:((putE (readE s)).2 != 0)=true
 ·iterate 3 refine o_no (want_f (t:=31) rfl rfl hd) rfl ?_
  refine o_w (v:=.bool true) (r_pickT rfl hd rfl) ?_
  refine eo_nil_sq ?_
  refine ec_condT rfl rfl ?_
  refine ec_seq ?_
  refine ec_region ?_
  refine o_w (v:=.agg (cEnt zeroE none 0 none 0).toArray) (r_build bld_api_Entry (vs:=[]) (cells:=cEnt zeroE none 0 none 0) rfl rfl) ?_
  refine o_store rfl B211 (vs:=cEnt zeroE none 0 none 0) rfl sz_api_Entry rfl rfl rfl ?_
  intro w12 F12 B212
  refine o_store rfl (B311.fr F12 (by simpa using n23.symm)) (vs:=[.int .i64 2]) rfl sz_api_Errno rfl rfl rfl ?_
  intro w13 F13 B313
  refine eo_nil_sq ?_
  refine ec_ret ?_
  refine sq_ret ?_
  have hg:getE s=(zeroE,2):=by simp only [getE,hd,Bool.true_or,cond_true]
  rw [hg]
  exact get_end rfl rfl (B212.fr F13 (by simpa using n23)) B313 rfl (Ext.st (Ext.st E11 F12 (by simp; omega)) F13 (by simp; omega)) (kEnt_mk (d:=zeroE) stb_nil stb_nil)
 ·have hd':((putE (readE s)).2 != 0)=false:=by simpa using hd
  refine o_v (v:=str (putE (readE s)).1) (r_mov rfl) (want_t (t:=31) rfl rfl hd') rfl rfl ?_
  refine o_v (v:=str s) (r_mov rfl) (want_t (t:=31) rfl rfl hd') rfl rfl ?_
  refine o_v (v:=.bool (!((putE (readE s)).1==s))) (r_str rfl rfl rfl) (want_t (t:=31) rfl rfl hd') rfl rfl ?_
  refine o_w (v:=.bool (!((putE (readE s)).1==s))) (r_pickF rfl hd' rfl) ?_
  refine eo_nil_sq ?_
  refine ec_cond rfl (fun h2=>?_) (fun h2=>?_)
  ·refine ec_seq ?_
   refine ec_region ?_
   refine o_w (v:=.agg (cEnt zeroE none 0 none 0).toArray) (r_build bld_api_Entry (vs:=[]) (cells:=cEnt zeroE none 0 none 0) rfl rfl) ?_
   refine o_store rfl B211 (vs:=cEnt zeroE none 0 none 0) rfl sz_api_Entry rfl rfl rfl ?_
   intro w12 F12 B212
   refine o_store rfl (B311.fr F12 (by simpa using n23.symm)) (vs:=[.int .i64 2]) rfl sz_api_Errno rfl rfl rfl ?_
   intro w13 F13 B313
   refine eo_nil_sq ?_
   refine ec_ret ?_
   refine sq_ret ?_
   have hg:getE s=(zeroE,2):=by simp only [getE,hd',h2,Bool.false_or,cond_true]
   rw [hg]
   exact get_end rfl rfl (B212.fr F13 (by simpa using n23)) B313 rfl (Ext.st (Ext.st E11 F12 (by simp; omega)) F13 (by simp; omega)) (kEnt_mk (d:=zeroE) stb_nil stb_nil)
  ·refine ec_skip ?_
   refine sq_n ?_
   refine ec_seq ?_
   refine ec_region ?_
   refine o_w (v:=.agg (cEnt (readE s) A1 c1 A2 c2).toArray) (r_lda agg_api_Entry rfl (vs:=cEnt (readE s) A1 c1 A2 c2) rfl (B611.part (o:=0) (n:=9) rfl)) ?_
   refine o_store rfl B211 (vs:=cEnt (readE s) A1 c1 A2 c2) rfl sz_api_Entry rfl rfl rfl ?_
   intro w12 F12 B212
   refine o_store rfl (B311.fr F12 (by simpa using n23.symm)) (vs:=[.int .i64 0]) rfl sz_api_Errno rfl rfl rfl ?_
   intro w13 F13 B313
   refine eo_nil_sq ?_
   refine ec_ret ?_
   have hg:getE s=(readE s,0):=by simp only [getE,hd',h2,Bool.false_or,cond_false]
   rw [hg]
   exact get_end rfl rfl (B212.fr F13 (by simpa using n23)) B313 rfl (Ext.st (Ext.st E11 F12 (by simp; omega)) F13 (by simp; omega))
    (kEnt_mk (d:=readE s) (((S11.fr F12 (by simp)).fr F13 (by simp)).weak hsub) (((S21.fr F12 (by simp)).fr F13 (by simp)).weak hsub))
end Go.Proofs.Ytbijobepjjokmaa

/- The text of a slice literal of bytes. -/
namespace Go.Proofs.Ytbijobepjjokmaa
open Go Go.RowKit
set_option linter.unusedVariables false
set_option linter.unusedSimpArgs false
section
variable {P : Program} {ρ : Env} {w : World} {d : Option Nat} {ty : TypeId} {pos : String} {after : Array Edge} {g : Option (Nat × Bool)}
theorem r_bstrB {s t e n bytes:Nat} {z:Value} {X:Operand} {b e':Nat} {cells:List Value} {l:List Int} (hs:Slc P s e n bytes z) (he:P.underlying e=some (.int .u8)) (ht:P.underlying t=some .string)
  (hX:ev ρ X=.slice (some ⟨b,0,none⟩) l.length l.length) (hB:Blk w b e' cells) (hc:cells=l.map fun n=>.int .u8 n) :
  RunV P ρ w ⟨d,.convert s t X,ty,pos,after,g⟩ (str (bstr l)):=by
 subst hc
 exact r_bstr hs he ht hX (bs_seal (k:=kI .u8) (L:=[]) hB (by simp) (by simp [kI]) (Stb.triv (rowD_u8 w l) |>.mono fun _ _=>rowD_u8 _ l)).now
end
end Go.Proofs.Ytbijobepjjokmaa
