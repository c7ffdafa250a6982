import Derived.Test.YtdfjbkoimpjkaaaGreatCt2
import Derived.Test.YtdfjbkoimpjkaaaGreatWn
import Derived.Laws.BitsLemmas
namespace Go.Proofs.YtdfjbkoimpjkaaaGreat
open Go Go.RowKit
set_option linter.unusedVariables false
set_option linter.unusedSimpArgs false
theorem un_uint32 : Tryz.prog.underlying 134=some (.int .u32):=Tryz.underlying134
theorem in_uint32:(Tryz.prog.info? 134).map (fun i=>(i.zero,i.size,i.bytes))=some (some (.int .u32 0),1,4):=by kernel_rfl
theorem sz_uint32:Sz Tryz.prog 134 1:=sz_of in_uint32
theorem one_uint32:One Tryz.prog 134:=⟨⟨_,Tryz.underlying134,trivial⟩,sz_uint32⟩
theorem in_int32:(Tryz.prog.info? 21).map (fun i=>(i.zero,i.size,i.bytes))=some (some (.int .i32 0),1,4):=by kernel_rfl
theorem one_int32:One Tryz.prog 21:=⟨⟨_,Tryz.underlying21,trivial⟩,sz_of in_int32⟩
theorem in_16_uint32:(Tryz.prog.info? 162).map (fun i=>i.size)=some 16:=by kernel_rfl
theorem in_syncOnce:(Tryz.prog.info? 161).map (fun i=>i.size)=some 3:=by kernel_rfl
theorem in_atomicBool:(Tryz.prog.info? 155).map (fun i=>i.size)=some 1:=by kernel_rfl
theorem in_syncMutex:(Tryz.prog.info? 159).map (fun i=>i.size)=some 2:=by kernel_rfl
theorem in_isyncMutex:(Tryz.prog.info? 157).map (fun i=>i.size)=some 2:=by kernel_rfl
theorem szn {P:Program} {e:TypeId} {n:Nat} (h:(P.info? e).map (fun i=>i.size)=some n) (hn:n≠0):∃ i,P.info? e=some i∧i.size≠0:=by
 cases hi:P.info? e with
 | none=>rw [hi] at h; cases h
 | some i=>rw [hi] at h; exact ⟨i,rfl,by cases h; exact hn⟩
theorem fld_table_0:Fld Tryz.prog 164 0 0:=⟨_,Tryz.underlying164,_,rfl,rfl,szn in_syncOnce (by decide)⟩
theorem fld_table_1:Fld Tryz.prog 164 1 3:=⟨_,Tryz.underlying164,_,rfl,rfl,szn in_16_uint32 (by decide)⟩
theorem fld_once_1:Fld Tryz.prog 161 1 0:=⟨_,Tryz.underlying161,_,rfl,rfl,szn in_atomicBool (by decide)⟩
theorem fld_once_2:Fld Tryz.prog 161 2 1:=⟨_,Tryz.underlying161,_,rfl,rfl,szn in_syncMutex (by decide)⟩
theorem fld_bool_1:Fld Tryz.prog 155 1 0:=⟨_,Tryz.underlying155,_,rfl,rfl,fnz in_uint32 (by decide)⟩
theorem fld_mutex_1:Fld Tryz.prog 159 1 0:=⟨_,Tryz.underlying159,_,rfl,rfl,szn in_isyncMutex (by decide)⟩
theorem fld_imutex_0:Fld Tryz.prog 157 0 0:=⟨_,Tryz.underlying157,_,rfl,rfl,fnz in_int32 (by decide)⟩
theorem in_table:(Tryz.prog.info? 164).map (fun i=>(i.zero,i.size))=some (some (.agg #[.int .u32 0,.int .i32 0,.int .u32 0,.int .u32 0,.int .u32 0,.int .u32 0,.int .u32 0,.int .u32 0,.int .u32 0,.int .u32 0,.int .u32 0,.int .u32 0,.int .u32 0,.int .u32 0,.int .u32 0,.int .u32 0,.int .u32 0,.int .u32 0,.int .u32 0]),19):=by kernel_rfl
theorem cf_crc_Sum:CF Tryz.prog 82:=fun _ _=>by kernel_rfl
theorem cf_crc_on:CF Tryz.prog 98:=fun _ _=>by kernel_rfl
theorem cf_table_step:CF Tryz.prog 103:=fun _ _=>by kernel_rfl
theorem cf_table_fill:CF Tryz.prog 106:=fun _ _=>by kernel_rfl
theorem cf_once_Do:CF Tryz.prog 105:=fun _ _=>by kernel_rfl
theorem cf_once_doSlow:CF Tryz.prog 108:=fun _ _=>by kernel_rfl
theorem cf_bool_Load:CF Tryz.prog 107:=fun _ _=>by kernel_rfl
theorem cf_bool_Store:CF Tryz.prog 112:=fun _ _=>by kernel_rfl
theorem cf_b32:CF Tryz.prog 116:=fun _ _=>by kernel_rfl
theorem cf_mutex_Lock:CF Tryz.prog 110:=fun _ _=>by kernel_rfl
theorem cf_mutex_Unlock:CF Tryz.prog 111:=fun _ _=>by kernel_rfl
theorem cf_imutex_Lock:CF Tryz.prog 113:=fun _ _=>by kernel_rfl
theorem cf_imutex_Unlock:CF Tryz.prog 114:=fun _ _=>by kernel_rfl
theorem ext_disable (w:World):(callFunc 117 #[]).run Tryz.prog w=.ok (.value (.tuple #[])) w:=run_call_mark0 Tryz.func117 (by kernel_rfl) (by kernel_rfl) (by kernel_rfl) .disable (by kernel_rfl) w
theorem ext_enable (w:World):(callFunc 119 #[]).run Tryz.prog w=.ok (.value (.tuple #[])) w:=run_call_mark0 Tryz.func119 (by kernel_rfl) (by kernel_rfl) (by kernel_rfl) .enable (by kernel_rfl) w
theorem ext_acquire (a:Addr) (w:World):(callFunc 120 #[.pointer (some a)]).run Tryz.prog w=.ok (.value (.tuple #[])) w:=run_call_marked Tryz.func120 (by kernel_rfl) (by kernel_rfl) (by kernel_rfl) .acquire (by kernel_rfl) a w
theorem ext_release (a:Addr) (w:World):(callFunc 122 #[.pointer (some a)]).run Tryz.prog w=.ok (.value (.tuple #[])) w:=run_call_marked Tryz.func122 (by kernel_rfl) (by kernel_rfl) (by kernel_rfl) .releaseMerge (by kernel_rfl) a w
theorem ext_load {a:Addr} {x:Int} {w:World} (hc:w.cell? a=some (.int .u32 x)):(callFunc 109 #[.pointer (some a)]).run Tryz.prog w=.ok (.value (.int .u32 x)) w:=run_call_load Tryz.func109 (by kernel_rfl) (by kernel_rfl) (by kernel_rfl) .u32 (by kernel_rfl) hc
theorem ext_store {a:Addr} {y:Int} {u:Value} {w:World} (hc:w.cell? a=some u) (hz:w.frozen? a=false):(callFunc 115 #[.pointer (some a),.int .u32 y]).run Tryz.prog w=.ok (.value (.tuple #[])) (w.setCell a (.int .u32 y)):=run_call_store Tryz.func115 (by kernel_rfl) (by kernel_rfl) (by kernel_rfl) (by kernel_rfl) hc hz
theorem ext_cas {a:Addr} {x y:Int} {w:World} (hc:w.cell? a=some (.int .i32 x)) (hz:w.frozen? a=false):(callFunc 118 #[.pointer (some a),.int .i32 x,.int .i32 y]).run Tryz.prog w=.ok (.value (.bool true)) (w.setCell a (.int .i32 y)):=run_call_cas_hit Tryz.func118 (by kernel_rfl) (by kernel_rfl) (by kernel_rfl) .i32 (by kernel_rfl) hc hz
theorem ext_dec {a:Addr} {w:World} (hc:w.cell? a=some (.int .i32 1)) (hz:w.frozen? a=false):(callFunc 123 #[.pointer (some a),.int .i32 (-1)]).run Tryz.prog w=.ok (.value (.int .i32 0)) (w.setCell a (.int .i32 0)):=run_call_add Tryz.func123 (by kernel_rfl) (by kernel_rfl) (by kernel_rfl) .i32 (by kernel_rfl) (y:=-1) (s:=0) hc hz (by simp [go_sem]; rfl)

section
variable {w : World} {b : Nat} {e : TypeId} {cs : List Value}
set_option maxRecDepth 20000 in
theorem bool_Load_c {x:Int} (hB:Blk w b e cs) (h:cs[0]?=some (.int .u32 x)):Calls Tryz.prog 107 #[.pointer (some ⟨b,0,none⟩)] w (Ret fun v w'=>w'=w∧v=.bool (x != 0)):=by
 refine calls_ec (N:=8) Tryz.func107 rfl rfl rfl ?_
 refine ec_seq (ec_region ?_)
 refine o_w (v:=.bool false) (r_asg rfl) ?_
 refine eo_nil_sq ?_
 refine ec_seq (ec_region ?_)
 refine o_w (v:=.pointer (some ⟨b,0,none⟩)) (r_mov rfl) ?_
 refine o_w (v:=.pointer (some ⟨b,0,none⟩)) (r_nilchk rfl) ?_
 refine o_w (v:=.pointer (some ⟨b,0,none⟩)) (r_fa fld_bool_1 rfl rfl) ?_
 refine o_extW (vs:=[.pointer (some ⟨b,0,none⟩)]) rfl (ext_load (hB.cell h)) rfl rfl ?_
 refine o_w (v:=.bool (x != 0)) (r_int rfl rfl rfl) ?_
 refine o_w (v:=.bool (x != 0)) (r_asg rfl) ?_
 refine eo_nil_sq ?_
 exact ec_ret (end1 rfl ⟨_,rfl,rfl,rfl⟩)
set_option maxRecDepth 20000 in
theorem imutex_Lock_c (hB:Blk w b e cs) (h:cs[1]?=some (.int .i32 0)):Calls Tryz.prog 113 #[.pointer (some ⟨b,1,none⟩)] w (Ret fun _ w'=>Fr [b] w w'∧Blk w' b e (cs.set 1 (.int .i32 1))):=by
 refine calls_ec (N:=13) Tryz.func113 rfl rfl rfl ?_
 have hlt:1<cs.length:=by
  rcases Nat.lt_or_ge 1 cs.length with h1 | h1
  ·exact h1
  ·rw [List.getElem?_eq_none h1] at h; cases h
 obtain ⟨F,B⟩:=setc hB (o:=1) (.int .i32 1)
 have hc:(w.setCell ⟨b,1,none⟩ (.int .i32 1)).cell? ⟨b,1,none⟩=some (.int .i32 1):=B.cell (by simp [hlt])
 refine ec_seq (ec_region ?_)
 refine o_extW (vs:=[]) rfl (ext_disable _) rfl rfl ?_
 refine eo_nil_sq ?_
 refine ec_seq (ec_seq (ec_region ?_))
 refine o_w (v:=.pointer (some ⟨b,1,none⟩)) (r_mov rfl) ?_
 refine o_w (v:=.pointer (some ⟨b,1,none⟩)) (r_nilchk rfl) ?_
 refine o_w (v:=.pointer (some ⟨b,1,none⟩)) (r_fa fld_imutex_0 rfl rfl) ?_
 refine o_extW (vs:=[.pointer (some ⟨b,1,none⟩),.int .i32 0,.int .i32 1]) rfl (ext_cas (hB.cell h) hB.frozen) rfl rfl ?_
 refine eo_nil_sq ?_
 refine ec_cond_t rfl ?_
 refine ec_seq (ec_cond_t rfl ?_)
 refine ec_seq (ec_region ?_)
 refine o_extW (vs:=[]) rfl (ext_enable _) rfl rfl ?_
 refine eo_q ?_
 refine o_w (v:=.pointer (some ⟨b,1,none⟩)) (r_mov rfl) ?_
 obtain ⟨i,hi,hn⟩:=szn in_isyncMutex (by decide)
 refine o_w (v:=.pointer (some ⟨b,1,none⟩)) (r_toU (t:=157) (by kernel_rfl) Tryz.underlying149 hi hn rfl B (by simp [Nat.blt_eq]; omega)) ?_
 refine o_extW (vs:=[.pointer (some ⟨b,1,none⟩)]) rfl (ext_acquire _ _) rfl rfl ?_
 refine eo_nil_sq ?_
 exact ec_ret (end0r ⟨_,rfl,F,B⟩)
set_option maxRecDepth 20000 in
theorem mutex_Lock_c (hB:Blk w b e cs) (h:cs[1]?=some (.int .i32 0)):Calls Tryz.prog 110 #[.pointer (some ⟨b,1,none⟩)] w (Ret fun _ w'=>Fr [b] w w'∧Blk w' b e (cs.set 1 (.int .i32 1))):=by
 refine calls_ec (N:=6) Tryz.func110 rfl rfl rfl ?_
 refine ec_region ?_
 refine o_w (v:=.pointer (some ⟨b,1,none⟩)) (r_mov rfl) ?_
 refine o_w (v:=.pointer (some ⟨b,1,none⟩)) (r_nilchk rfl) ?_
 refine o_w (v:=.pointer (some ⟨b,1,none⟩)) (r_fa fld_mutex_1 rfl rfl) ?_
 refine o_call cf_imutex_Lock (vs:=[.pointer (some ⟨b,1,none⟩)]) rfl (imutex_Lock_c hB h) rfl rfl ?_
 rintro v w' ⟨F,B⟩
 exact eo_nil (end0 ⟨_,rfl,F,B⟩)
set_option maxRecDepth 20000 in
theorem imutex_Unlock_c (hB:Blk w b e cs) (h:cs[1]?=some (.int .i32 1)):Calls Tryz.prog 114 #[.pointer (some ⟨b,1,none⟩)] w (Ret fun _ w'=>Fr [b] w w'∧Blk w' b e (cs.set 1 (.int .i32 0))):=by
 refine calls_ec (N:=21) Tryz.func114 rfl rfl rfl ?_
 have hlt:1<cs.length:=by
  rcases Nat.lt_or_ge 1 cs.length with h1 | h1
  ·exact h1
  ·rw [List.getElem?_eq_none h1] at h; cases h
 obtain ⟨F,B⟩:=setc hB (o:=1) (.int .i32 0)
 refine ec_seq (ec_cond_t rfl ?_)
 refine ec_seq (ec_region ?_)
 refine o_w (v:=.pointer (some ⟨b,1,none⟩)) (r_mov rfl) ?_
 refine o_w (v:=.pointer (some ⟨b,1,none⟩)) (r_nilchk rfl) ?_
 refine o_w (v:=.pointer (some ⟨b,1,none⟩)) (r_fa fld_imutex_0 rfl rfl) ?_
 refine o_w (v:=.int .i32 1) (r_ld one_int32 rfl (hB.cell h)) ?_
 refine eo_nil_sq ?_
 refine ec_seq (ec_region ?_)
 refine o_w (v:=.pointer (some ⟨b,1,none⟩)) (r_mov rfl) ?_
 obtain ⟨i,hi,hn⟩:=szn in_isyncMutex (by decide)
 refine o_w (v:=.pointer (some ⟨b,1,none⟩)) (r_toU (t:=157) (by kernel_rfl) Tryz.underlying149 hi hn rfl hB (by simp [Nat.blt_eq]; omega)) ?_
 refine o_extW (vs:=[.pointer (some ⟨b,1,none⟩)]) rfl (ext_release _ _) rfl rfl ?_
 refine eo_q ?_
 refine o_extW (vs:=[]) rfl (ext_disable _) rfl rfl ?_
 refine eo_nil_sq ?_
 refine ec_seq (ec_region ?_)
 refine o_w (v:=.pointer (some ⟨b,1,none⟩)) (r_mov rfl) ?_
 refine o_w (v:=.pointer (some ⟨b,1,none⟩)) (r_nilchk rfl) ?_
 refine o_w (v:=.pointer (some ⟨b,1,none⟩)) (r_fa fld_imutex_0 rfl rfl) ?_
 refine o_extW (vs:=[.pointer (some ⟨b,1,none⟩),.int .i32 (-1)]) rfl (ext_dec (hB.cell h) hB.frozen) rfl rfl ?_
 refine o_w (v:=.int .i32 0) (r_asg rfl) ?_
 refine eo_nil_sq ?_
 refine ec_seq (ec_seq (ec_region ?_))
 refine o_w (v:=.int .i32 0) (r_mov rfl) ?_
 refine o_w (v:=.bool false) (r_int rfl rfl rfl) ?_
 refine eo_nil_sq ?_
 refine ec_cond_f rfl ?_
 refine ec_skip ?_
 refine sq_n (ec_region ?_)
 refine o_extW (vs:=[]) rfl (ext_enable _) rfl rfl ?_
 exact eo_nil (end0 ⟨_,rfl,F,B⟩)
set_option maxRecDepth 20000 in
theorem mutex_Unlock_D {u:FrameMode} (hB:Blk w b e cs) (h:cs[1]?=some (.int .i32 1)):CallsDIn (FW none) 0 Tryz.prog 111 #[.pointer (some ⟨b,1,none⟩)] u w (fun e' u' w'=>u'=u∧Ret (fun _ w'=>Fr [b] w w'∧Blk w' b e (cs.set 1 (.int .i32 0))) e' w'):=by
 refine callsD_ec (N:=6) Tryz.func111 rfl rfl rfl ?_
 refine ec_region ?_
 refine o_w (v:=.pointer (some ⟨b,1,none⟩)) (r_mov rfl) ?_
 refine o_w (v:=.pointer (some ⟨b,1,none⟩)) (r_nilchk rfl) ?_
 refine o_w (v:=.pointer (some ⟨b,1,none⟩)) (r_fa fld_mutex_1 rfl rfl) ?_
 refine o_call cf_imutex_Unlock (vs:=[.pointer (some ⟨b,1,none⟩)]) rfl (imutex_Unlock_c hB h) rfl rfl ?_
 rintro v w' ⟨F,B⟩
 exact eo_nil (end0 ⟨_,rfl,F,B⟩)
end

def andW (x y:Int):Int:=IntKind.u32.wrap (BitVec.ofInt IntKind.u32.bits x &&& BitVec.ofInt IntKind.u32.bits y).toNat
def xorW (x y:Int):Int:=IntKind.u32.wrap (BitVec.ofInt IntKind.u32.bits x ^^^ BitVec.ofInt IntKind.u32.bits y).toNat
/-- One bit of a row. -/
def bitW (x : Int) : Int := bif andW x 1 == 1 then xorW (x.fdiv 2) 3988292384 else x.fdiv 2
def rowF (j:Nat):Int:=bitW (bitW (bitW (bitW (j:Int))))
def rowV (n:Nat):List Value:=(List.range n).map fun j=>.int .u32 (rowF j)

theorem setL_snoc:∀ (vs:List Value) (cs:List Value) (o:Nat) (v:Value),setL cs o (vs++[v])=(setL cs o vs).set (o + vs.length) v
 | [],cs,o,v=>by simp [setL]
 | u::vs,cs,o,v=>by
  simp only [List.cons_append,setL,setL_snoc vs,List.length_cons]
  rw [show o + 1 + vs.length=o + (vs.length + 1) by omega]
theorem rowV_succ (n:Nat):rowV (n + 1)=rowV n++[.int .u32 (rowF n)]:=by simp [rowV,List.range_succ]
theorem rowV_len (n:Nat):(rowV n).length=n:=by simp [rowV]
theorem u32_small {i:Nat} (h:i<16):IntKind.u32.wrap (i:Int)=(i:Int):=by rw [IntKind.wrap_u32]; omega
section
variable {P : Program} {ρ : Env} {w : World} {d : Nat} {ty : TypeId} {pos : String} {after : Array Edge} {g : Option (Nat × Bool)}
theorem r_iaO {t el:TypeId} {m:Nat} {X I:Operand} {b o:Nat} {k:IntKind} {i:Int} (hT:P.underlying t=some (.array m el)) (hs:Sz P el 1) (hX:ev ρ X=.pointer (some ⟨b,o,none⟩)) (hI:ev ρ I=.int k i) (h:0≤i∧i<(m:Int)) :
  RunV P ρ w ⟨some d,.indexAddr t X I,ty,pos,after,g⟩ (.pointer (some ⟨b,o + i.toNat,none⟩)):=by
 obtain ⟨j,h2,h3⟩:=hs
 have hadd:(⟨b,o,none⟩:Addr).add i.toNat=⟨b,o + i.toNat,none⟩:=by
  unfold Addr.add; split <;> simp_all
 simp [RunV,execOp,hX,hI,Instr.indexAt,asIntOf,Instr.sureAddr,run_underlying hT,sizeOf,typeInfo,h2,h3,h.1,h.2,hadd]
theorem r_shrM {X Y:Operand} {t t':TypeId} {k':IntKind} {x y m:Int} (hX:ev ρ X=.int .u32 x) (hY:ev ρ Y=.int k' y) (hy:decide (0≤y)=true) (hm:(2:Int) ^ min y.toNat IntKind.u32.bits=m) :
  RunV P ρ w ⟨some d,.binOp .shr t X Y t',ty,pos,after,g⟩ (.int .u32 (x.fdiv m)):=by subst hm; exact r_shr hX hY hy
theorem r_convS {X:Operand} {s t:TypeId} {sd:TypeDesc} {i:Nat} (hi:i<16) (hs:P.underlying s=some sd) (ht:P.underlying t=some (.int .u32)) (hX:ev ρ X=.int .i64 (i:Int)) :
  RunV P ρ w ⟨some d,.convert s t X,ty,pos,after,g⟩ (.int .u32 (i:Int)):=by
 have:=r_conv (P:=P) (ρ:=ρ) (w:=w) (d:=some d) (ty:=ty) (pos:=pos) (after:=after) (g:=g) hs ht hX
 rwa [u32_small hi] at this
end
def bitB:Int × Int→(Int × Int) ⊕ (Int × Int)→Prop:=fun s y=>(s.1<4∧y=.inl (s.1 + 1,bitW s.2))∨(¬ s.1<4∧y=.inr s)
def rowB:Nat→Nat ⊕ Nat→Prop:=fun s y=>(s<16∧y=.inl (s + 1))∨(¬ s<16∧y=.inr s)
theorem bits4 (x:Int):LoopR bitB (0,x) (4,bitW (bitW (bitW (bitW x)))) :=
 .step (.inl ⟨(by decide:(0:Int)<4),rfl⟩) (.step (.inl ⟨(by decide:(0 + 1:Int)<4),rfl⟩) (.step (.inl ⟨(by decide:(0 + 1 + 1:Int)<4),rfl⟩) (.step (.inl ⟨(by decide:(0 + 1 + 1 + 1:Int)<4),rfl⟩) (.done (.inr ⟨(by decide:¬ (0 + 1 + 1 + 1 + 1:Int)<4),rfl⟩)))))
theorem rows16:LoopR rowB 0 16:=by
 have:∀ k,k≤16→LoopR rowB k 16→LoopR rowB 0 16:=by
  intro k
  induction k with
  | zero=>intro _ h; exact h
  | succ k ih=>intro hk h; exact ih (by omega) (.step (.inl ⟨by omega,rfl⟩) h)
 exact this 16 (Nat.le_refl _) (.done (.inr ⟨by omega,rfl⟩))
theorem i64_small {i:Int} (h:0≤i) (h1:i<17):IntKind.i64.wrap i=i:=by rw [IntKind.wrap_i64]; omega

section
variable {w : World} {b : Nat} {e : TypeId} {cs : List Value}
set_option maxRecDepth 20000 in
theorem b32_c (w:World):Calls Tryz.prog 116 #[.bool true] w (Ret fun v w'=>w'=w∧v=.int .u32 1):=by
 refine calls_ec (N:=4) Tryz.func116 rfl rfl rfl ?_
 refine ec_seq (ec_region ?_)
 refine o_w (v:=.int .u32 0) (r_asg rfl) ?_
 refine eo_nil_sq ?_
 refine ec_seq (ec_seq (ec_region ?_))
 refine o_w (v:=.bool true) (r_mov rfl) ?_
 refine eo_nil_sq ?_
 refine ec_cond_t rfl ?_
 refine ec_seq (ec_region ?_)
 refine o_w (v:=.int .u32 1) (r_asg rfl) ?_
 refine eo_nil_sq ?_
 exact ec_ret (end1 rfl ⟨_,rfl,rfl,rfl⟩)
set_option maxRecDepth 20000 in
theorem bool_Store_D {u:FrameMode} {v0:Value} (hB:Blk w b e cs) (h:cs[0]?=some v0):CallsDIn (FW none) 0 Tryz.prog 112 #[.pointer (some ⟨b,0,none⟩),.bool true] u w (fun e' u' w'=>u'=u∧Ret (fun _ w'=>Fr [b] w w'∧Blk w' b e (cs.set 0 (.int .u32 1))) e' w'):=by
 refine callsD_ec (N:=10) Tryz.func112 rfl rfl rfl ?_
 refine ec_anyN (by kernel_rfl) [[],[0],[0,1],[],[3],[0,1,2,3,4]] [4,5,6,7,8,9] [b] [5] [[b]] [[5]] [fun w'=>Blk w' b e cs,fun w'=>Blk w' b e (cs.set 0 (.int .u32 1))]
  [fun v _=>v=(.pointer (some ⟨b,0,none⟩):Value),fun v _=>v=(.pointer (some ⟨b,0,none⟩):Value),fun v _=>v=(.pointer (some ⟨b,0,none⟩):Value),fun v _=>v=(.bool true:Value),fun v _=>v=(.int .u32 1:Value),fun _ _=>True] (by kernel_rfl) (allM1 sI (fun _ h=>by cases h))
  ⟨fun _ _ _ _ _ h=>h,fun _ _ _ _ _ h=>h,fun _ _ _ _ _ h=>h,fun _ _ _ _ _ h=>h,fun _ _ _ _ _ h=>h,fun _ _ _ _ _ h=>h,trivial⟩
  ⟨⟨fun _ _ _ _ _ h=>h,fun _ _ _ _ _ h=>h,fun _ _ _ _ _ h=>h,fun _ _ _ _ _ h=>h,fun _ _ _ _ _ h=>h,fun _ _ _ _ _ h=>h,trivial⟩,trivial⟩
  ⟨fun w' w'' F h=>Blk.ex h F,fun w' w'' F h=>Blk.ex h F,trivial⟩ hB ?_ ?_ ?_
 ·refine ⟨?_,?_,?_,?_,?_,?_,trivial⟩
  ·intro _ ρ w1 F _ hS hρ
   have q0:ρ 0=.pointer (some ⟨b,0,none⟩):=hρ 0 (by kernel_rfl)
   exact o_q (r_mov q0) ⟨Fr.refl _ _,rfl⟩
  ·intro _ ρ w1 F _ hS hρ
   have q4:ρ 4=.pointer (some ⟨b,0,none⟩):=hS 0 (by decide) 4 rfl
   exact o_q (r_nilchk q4) ⟨Fr.refl _ _,rfl⟩
  ·intro _ ρ w1 F _ hS hρ
   have q5:ρ 5=.pointer (some ⟨b,0,none⟩):=hS 1 (by decide) 5 rfl
   exact o_q (r_fa fld_bool_1 rfl q5) ⟨Fr.refl _ _,rfl⟩
  ·intro _ ρ w1 F _ hS hρ
   have q1:ρ 1=.bool true:=hρ 1 (by kernel_rfl)
   exact o_q (r_mov q1) ⟨Fr.refl _ _,rfl⟩
  ·intro _ ρ w1 F _ hS hρ
   have q7:ρ 7=.bool true:=hS 3 (by decide) 7 rfl
   refine o_call cf_b32 (vs:=[.bool true]) (by simp only [List.map,ev,q7]) (b32_c _) rfl rfl ?_
   rintro v w2 ⟨rfl,rfl⟩
   exact eo_nil ⟨rfl,rfl,_,rfl,Fr.refl _ _,rfl⟩
  ·intro hT; exact absurd hT (by decide)
 ·refine ⟨⟨_,rfl,?_⟩,trivial⟩
  intro ρ w1 F _ hI hS hρ
  have q6:ρ 6=.pointer (some ⟨b,0,none⟩):=hS 2 (by decide) 6 rfl
  have q8:ρ 8=.int .u32 1:=hS 4 (by decide) 8 rfl
  have hB1:Blk w1 b e cs:=hI
  obtain ⟨F2,B2⟩:=setc hB1 (o:=0) (.int .u32 1)
  refine o_extW (vs:=[.pointer (some ⟨b,0,none⟩),.int .u32 1]) (by simp only [List.map,ev,q6,q8]) (ext_store (hB1.cell h) hB1.frozen) rfl rfl ?_
  exact eo_nil ⟨rfl,rfl,_,rfl,F2,B2,trivial⟩
 ·intro ρ w1 F hI hS hρ
  exact end0 ⟨_,rfl,F,hI⟩

set_option maxRecDepth 20000 in
set_option maxHeartbeats 1000000 in
theorem table_fill_c (hB:Blk w b e cs) (hl:cs.length=19):Calls Tryz.prog 106 #[.pointer (some ⟨b,0,none⟩)] w (Ret fun _ w'=>Fr [b] w w'∧Blk w' b e (setL cs 3 (rowV 16))):=by
 refine calls_ec (N:=28) Tryz.func106 rfl rfl rfl ?_
 refine ec_seq (ec_region ?_)
 refine o_w (v:=.int .i64 0) (r_mov rfl) ?_
 refine eo_nil_sq ?_
 refine ec_block ?_
 refine ec_loopE (S:=Nat) (body:=rowB) (s:=0) (y:=16) 0 (I:=fun i ρ ds w'=>i≤16∧ds=[]∧ρ 5=.int .i64 (i:Int)∧ρ 0=.pointer (some ⟨b,0,none⟩)∧Fr [b] w w'∧Blk w' b e (setL cs 3 (rowV i))) ?_ rows16 ⟨by omega,rfl,rfl,rfl,Fr.refl _ _,hB⟩ ?_
 ·rintro i x ρ ds w1 ⟨hi,rfl,h5,h0,F1,B1⟩ hb
  refine ec_seq (ec_region ?_)
  refine o_w (v:=.bool (decide ((i:Int)<16))) (r_int (show ev ρ _=_ from h5) rfl rfl) ?_
  refine eo_nil_sq ?_
  rcases hb with ⟨hlt,rfl⟩ | ⟨hlt,rfl⟩
  ·refine ec_seq (ec_cond_t (by simp only [ev,upd]; simp; omega) ?_)
   refine ec_skip ?_
   refine sq_n (ec_seq (ec_block ?_))
   refine ec_seq (ec_region ?_)
   refine o_w (v:=.int .i64 (i:Int)) (r_mov (show ev _ _=_ from h5)) ?_
   refine o_w (v:=.int .i64 (i:Int)) (r_asg rfl) ?_
   refine eo_nil_sq ?_
   refine ec_seq (ec_region ?_)
   refine o_w (v:=.int .i64 (i:Int)) (r_mov rfl) ?_
   refine o_w (v:=.int .u32 (i:Int)) (r_convS hlt un_int un_uint32 rfl) ?_
   refine o_w (v:=.int .u32 (i:Int)) (r_asg rfl) ?_
   refine eo_nil_sq ?_
   refine ec_seq (ec_seq (ec_region ?_))
   refine o_w (v:=.int .i64 0) (r_mov rfl) ?_
   refine eo_nil_sq ?_
   refine ec_block ?_
   refine ec_loopE (S:=Int × Int) (body:=bitB) (s:=(0,(i:Int))) (y:=(4,rowF i)) 2 (I:=fun s ρ ds w'=>0≤s.1∧ds=[]∧w'=w1∧ρ 10=.int .i64 s.1∧ρ 3=.int .u32 s.2∧ρ 5=.int .i64 (i:Int)∧ρ 2=.int .i64 (i:Int)∧ρ 0=.pointer (some ⟨b,0,none⟩)) ?_ (bits4 _) ⟨Int.le_refl _,rfl,rfl,rfl,rfl,h5,rfl,h0⟩ ?_
   ·rintro ⟨k,x⟩ y ρ ds w2 ⟨hk,rfl,rfl,q10,q3,q5,q2,q0⟩ hb
    simp only at hk q10 q3 hb
    refine ec_seq (ec_region ?_)
    refine o_w (v:=.bool (decide (k<4))) (r_int (show ev ρ _=_ from q10) rfl rfl) ?_
    refine eo_nil_sq ?_
    rcases hb with ⟨hlt,rfl⟩ | ⟨hlt,rfl⟩
    ·refine ec_seq (ec_cond_t (by simp only [ev,upd]; simp; omega) ?_)
     refine ec_skip ?_
     refine sq_n (ec_seq (ec_block ?_))
     refine ec_seq (ec_region ?_)
     refine o_w (v:=.int .u32 x) (r_mov (show ev _ _=_ from q3)) ?_
     refine o_w (v:=.int .u32 (andW x 1)) (r_int rfl rfl rfl) ?_
     refine o_w (v:=.int .u32 (andW x 1)) (r_asg rfl) ?_
     refine eo_nil_sq ?_
     refine ec_seq (ec_region ?_)
     refine o_w (v:=.int .u32 x) (r_mov (show ev _ _=_ from q3)) ?_
     refine o_w (v:=.int .u32 (x.fdiv 2)) (r_shrM rfl rfl rfl rfl) ?_
     refine o_w (v:=.int .u32 (x.fdiv 2)) (r_asg rfl) ?_
     refine eo_nil_sq ?_
     refine ec_seq (ec_region ?_)
     refine o_w (v:=.int .u32 (andW x 1)) (r_mov rfl) ?_
     refine o_w (v:=.bool (andW x 1==1)) (r_int rfl rfl rfl) ?_
     refine eo_nil_sq ?_
     refine ec_cond (t:=andW x 1==1) rfl (fun ht=>?_) (fun ht=>?_)
     ·refine ec_region ?_
      refine o_w (v:=.int .u32 (x.fdiv 2)) (r_mov rfl) ?_
      refine o_w (v:=.int .u32 (xorW (x.fdiv 2) 3988292384)) (r_int rfl rfl rfl) ?_
      refine o_w (v:=.int .u32 (xorW (x.fdiv 2) 3988292384)) (r_asg rfl) ?_
      refine eo_nil ?_
      refine blk_n (sq_n (ec_region ?_))
      refine o_w (v:=.int .i64 (IntKind.i64.wrap (k + 1))) (r_int (show ev _ _=_ from q10) rfl rfl) ?_
      refine o_w (v:=.int .i64 (IntKind.i64.wrap (k + 1))) (r_mov rfl) ?_
      refine eo_nil (lq_n ⟨by show 0≤k + 1; omega,rfl,rfl,?_,?_,q5,q2,q0⟩)
      ·rw [i64_small (i:=k + 1) (by omega) (by omega)]; rfl
      ·have:bitW x=xorW (x.fdiv 2) 3988292384:=by unfold bitW; rw [ht]; rfl
       show _=Value.int .u32 (bitW x); rw [this]; rfl
     ·refine ec_skip ?_
      refine blk_n (sq_n (ec_region ?_))
      refine o_w (v:=.int .i64 (IntKind.i64.wrap (k + 1))) (r_int (show ev _ _=_ from q10) rfl rfl) ?_
      refine o_w (v:=.int .i64 (IntKind.i64.wrap (k + 1))) (r_mov rfl) ?_
      refine eo_nil (lq_n ⟨by show 0≤k + 1; omega,rfl,rfl,?_,?_,q5,q2,q0⟩)
      ·rw [i64_small (i:=k + 1) (by omega) (by omega)]; rfl
      ·have:bitW x=x.fdiv 2:=by unfold bitW; rw [ht]; rfl
       show _=Value.int .u32 (bitW x); rw [this]; rfl
    ·refine ec_seq (ec_cond_f (by simp only [ev,upd]; simp; omega) ?_)
     exact ec_exit (sq_exit (lq_x ⟨hk,rfl,rfl,q10,q3,q5,q2,q0⟩))
   ·rintro ρ ds w2 ⟨hk,rfl,rfl,q10,q3,q5,q2,q0⟩
    refine blk_hit ?_
    refine sq_n (ec_region ?_)
    refine o_w (v:=.pointer (some ⟨b,0,none⟩)) (r_mov (show ev _ _=_ from q0)) ?_
    refine o_w (v:=.int .i64 (i:Int)) (r_mov (show ev _ _=_ from q2)) ?_
    refine o_w (v:=.int .u32 (rowF i)) (r_mov (show ev _ _=_ from q3)) ?_
    refine o_w (v:=.pointer (some ⟨b,0,none⟩)) (r_nilchk rfl) ?_
    refine o_w (v:=.pointer (some ⟨b,3,none⟩)) (r_fa fld_table_1 rfl rfl) ?_
    refine o_w (v:=.pointer (some ⟨b,3 + i,none⟩)) (r_iaO (i:=(i:Int)) Tryz.underlying162 sz_uint32 rfl rfl ⟨by omega,by omega⟩) ?_
    refine o_store (vs:=[.int .u32 (rowF i)]) rfl B1 rfl sz_uint32 rfl (by simp [setL_length,hl,Nat.ble_eq]; omega) rfl ?_
    intro w3 F3 B3
    refine eo_nil ?_
    refine blk_n (sq_n (ec_region ?_))
    refine o_w (v:=.int .i64 (IntKind.i64.wrap ((i:Int) + 1))) (r_int (show ev _ _=_ from q5) rfl rfl) ?_
    refine o_w (v:=.int .i64 (IntKind.i64.wrap ((i:Int) + 1))) (r_mov rfl) ?_
    refine eo_nil (lq_n ⟨by omega,rfl,?_,q0,F1.trans F3,?_⟩)
    ·rw [i64_small (i:=(i:Int) + 1) (by omega) (by omega)]; rfl
    ·rw [rowV_succ,setL_snoc,rowV_len]; exact B3
  ·refine ec_seq (ec_cond_f (by simp only [ev,upd]; simp; omega) ?_)
   exact ec_exit (sq_exit (lq_x ⟨hi,rfl,h5,h0,F1,B1⟩))
 ·rintro ρ ds w1 ⟨hi,rfl,h5,h0,F1,B1⟩
  exact blk_hit (end0 ⟨_,rfl,F1,B1⟩)
end

def rows0:List Value:=[.int .u32 0,.int .u32 0,.int .u32 0,.int .u32 0,.int .u32 0,.int .u32 0,.int .u32 0,.int .u32 0,.int .u32 0,.int .u32 0,.int .u32 0,.int .u32 0,.int .u32 0,.int .u32 0,.int .u32 0,.int .u32 0]
def tab0:List Value:=[.int .u32 0,.int .i32 0,.int .u32 0,.int .u32 0,.int .u32 0,.int .u32 0,.int .u32 0,.int .u32 0,.int .u32 0,.int .u32 0,.int .u32 0,.int .u32 0,.int .u32 0,.int .u32 0,.int .u32 0,.int .u32 0,.int .u32 0,.int .u32 0,.int .u32 0]
def tab1:List Value:=[.int .u32 1,.int .i32 0,.int .u32 0]++rowV 16
theorem tab1_at (i:Nat) (h:i<16):tab1[3 + i]?=some (.int .u32 (rowF i)):=by
 unfold tab1
 rw [List.getElem?_append_right (by simp)]
 simp [rowV,h]
theorem setL_row (c0 c1 c2:Value) (vs:List Value) (h:vs.length=16) (rs:List Value) (hr:rs.length=16):setL (c0::c1::c2::rs) 3 vs=c0::c1::c2::vs:=by
 match vs,h,rs,hr with
 | [_,_,_,_,_,_,_,_,_,_,_,_,_,_,_,_],_,[_,_,_,_,_,_,_,_,_,_,_,_,_,_,_,_],_=>rfl
def TB (w:World) (b:Nat):Prop:=Blk w b 164 tab0∨Blk w b 164 tab1
theorem TB.ex {w w':World} {b:Nat} (h:TB w b) (F:Ext w w'):TB w' b:=h.imp (fun h=>h.ex F) (fun h=>h.ex F)
def stepF (n p:Int):Int:=xorW (rowF (andW (xorW n (IntKind.u32.wrap p)) 15).toNat) (n.fdiv 16)
theorem and15 (x:Int):0≤andW x 15∧andW x 15<16:=by
 unfold andW
 rw [IntKind.wrap_u32]
 have h:(BitVec.ofInt IntKind.u32.bits x &&& BitVec.ofInt IntKind.u32.bits 15).toNat≤15:=by
  rw [BitVec.toNat_and]
  exact Nat.le_trans Nat.and_le_right (by decide)
 omega
abbrev fillV (b:Nat):Value:=.func (.func 106) #[.pointer (some ⟨b,0,none⟩)] #[]
section
variable {w : World} {b : Nat}
set_option maxRecDepth 20000 in
theorem once_doSlow_c (hB:Blk w b 164 tab0):Calls Tryz.prog 108 #[.pointer (some ⟨b,0,none⟩),fillV b] w (Ret fun _ w'=>Fr [b] w w'∧Blk w' b 164 tab1):=by
 refine calls_ecD (N:=21) Tryz.func108 rfl rfl rfl ?_
 refine ec_seq (ec_region ?_)
 refine o_w (v:=.pointer (some ⟨b,0,none⟩)) (r_mov rfl) ?_
 refine o_w (v:=.pointer (some ⟨b,0,none⟩)) (r_nilchk rfl) ?_
 refine o_w (v:=.pointer (some ⟨b,1,none⟩)) (r_fa fld_once_2 rfl rfl) ?_
 refine o_call cf_mutex_Lock (vs:=[.pointer (some ⟨b,1,none⟩)]) rfl (mutex_Lock_c hB rfl) rfl rfl ?_
 rintro _ w1 ⟨F1,B1⟩
 refine eo_nil_sq ?_
 refine ec_seq (ec_region ?_)
 refine o_w (v:=.pointer (some ⟨b,0,none⟩)) (r_mov rfl) ?_
 refine o_w (v:=.pointer (some ⟨b,0,none⟩)) (r_nilchk rfl) ?_
 refine o_w (v:=.pointer (some ⟨b,1,none⟩)) (r_fa fld_once_2 rfl rfl) ?_
 refine o_deferA (vs:=[.pointer (some ⟨b,1,none⟩)]) rfl rfl ?_
 refine eo_nil_sq ?_
 refine ec_seq (ec_region ?_)
 refine o_w (v:=.pointer (some ⟨b,0,none⟩)) (r_mov rfl) ?_
 refine o_w (v:=.pointer (some ⟨b,0,none⟩)) (r_nilchk rfl) ?_
 refine o_w (v:=.pointer (some ⟨b,0,none⟩)) (r_fa fld_once_1 rfl rfl) ?_
 refine o_call cf_bool_Load (vs:=[.pointer (some ⟨b,0,none⟩)]) rfl (bool_Load_c B1 (x:=0) rfl) rfl rfl ?_
 rintro _ _ ⟨rfl,rfl⟩
 refine o_w (v:=.bool (!((0:Int) != 0))) (r_not rfl) ?_
 refine eo_nil_sq ?_
 refine ec_cond_t rfl ?_
 refine ec_seq (ec_region ?_)
 refine o_w (v:=.pointer (some ⟨b,0,none⟩)) (r_mov rfl) ?_
 refine o_w (v:=.pointer (some ⟨b,0,none⟩)) (r_nilchk rfl) ?_
 refine o_w (v:=.pointer (some ⟨b,0,none⟩)) (r_fa fld_once_1 rfl rfl) ?_
 refine o_deferA (vs:=[.pointer (some ⟨b,0,none⟩),.bool true]) rfl rfl ?_
 refine eo_q ?_
 refine o_w (v:=fillV b) (r_mov rfl) ?_
 refine o_callb cf_table_fill (us:=[.pointer (some ⟨b,0,none⟩)]) (vs:=[]) (caps:=[]) rfl rfl (table_fill_c B1 rfl) rfl rfl ?_
 rintro _ w2 ⟨F2,B2⟩
 rw [show tab0.set 1 (.int .i32 1)=.int .u32 0::.int .i32 1::.int .u32 0::rows0 from rfl,setL_row _ _ _ _ (rowV_len 16) _ rfl] at B2
 refine eo_nil ?_
 refine ⟨by simp,_,_,_,_,rfl,(by simp [invoke,cf_bool_Store _ _]),(bool_Store_D B2 rfl).mono ?_⟩
 rintro e1 u1 w3 ⟨rfl,v3,rfl,F3,B3⟩
 refine ⟨by simp [settle],_,_,_,_,rfl,(by simp [invoke,cf_mutex_Unlock _ _]),(mutex_Unlock_D B3 rfl).mono ?_⟩
 rintro e2 u2 w4 ⟨rfl,v4,rfl,F4,B4⟩
 exact ⟨.tuple #[],by simp [resE],.tuple #[],rfl,((F1.trans F2).trans F3).trans F4,B4⟩
set_option maxRecDepth 20000 in
theorem once_Do_c (hT:TB w b):Calls Tryz.prog 105 #[.pointer (some ⟨b,0,none⟩),fillV b] w (Ret fun _ w'=>Fr [b] w w'∧Blk w' b 164 tab1):=by
 refine calls_ec (N:=12) Tryz.func105 rfl rfl rfl ?_
 refine ec_seq (ec_region ?_)
 refine o_w (v:=.pointer (some ⟨b,0,none⟩)) (r_mov rfl) ?_
 refine o_w (v:=.pointer (some ⟨b,0,none⟩)) (r_nilchk rfl) ?_
 refine o_w (v:=.pointer (some ⟨b,0,none⟩)) (r_fa fld_once_1 rfl rfl) ?_
 rcases hT with hB | hB
 ·refine o_call cf_bool_Load (vs:=[.pointer (some ⟨b,0,none⟩)]) rfl (bool_Load_c hB (x:=0) rfl) rfl rfl ?_
  rintro _ _ ⟨rfl,rfl⟩
  refine o_w (v:=.bool (!((0:Int) != 0))) (r_not rfl) ?_
  refine eo_nil_sq ?_
  refine ec_cond_t rfl ?_
  refine ec_region ?_
  refine o_w (v:=.pointer (some ⟨b,0,none⟩)) (r_mov rfl) ?_
  refine o_w (v:=fillV b) (r_mov rfl) ?_
  refine o_call cf_once_doSlow (vs:=[.pointer (some ⟨b,0,none⟩),fillV b]) rfl (once_doSlow_c hB) rfl rfl ?_
  rintro _ w1 ⟨F1,B1⟩
  exact eo_nil (end0 ⟨_,rfl,F1,B1⟩)
 ·refine o_call cf_bool_Load (vs:=[.pointer (some ⟨b,0,none⟩)]) rfl (bool_Load_c hB (x:=1) rfl) rfl rfl ?_
  rintro _ _ ⟨rfl,rfl⟩
  refine o_w (v:=.bool (!((1:Int) != 0))) (r_not rfl) ?_
  refine eo_nil_sq ?_
  refine ec_cond_f rfl ?_
  exact ec_skip (end0 ⟨_,rfl,Fr.refl _ _,hB⟩)
set_option maxRecDepth 20000 in
theorem table_step_c (hT:TB w b) (n p:Int):Calls Tryz.prog 103 #[.pointer (some ⟨b,0,none⟩),.int .u32 n,.int .u8 p] w (Ret fun v w'=>(Fr [b] w w'∧Blk w' b 164 tab1)∧v=.int .u32 (stepF n p)):=by
 refine calls_ec (N:=26) Tryz.func103 rfl rfl rfl ?_
 refine ec_seq (ec_region ?_)
 refine o_w (v:=.int .u32 0) (r_asg rfl) ?_
 refine eo_nil_sq ?_
 refine ec_seq (ec_region ?_)
 refine o_w (v:=.pointer (some ⟨b,0,none⟩)) (r_mov rfl) ?_
 refine o_w (v:=.pointer (some ⟨b,0,none⟩)) (r_nilchk rfl) ?_
 refine o_w (v:=.pointer (some ⟨b,0,none⟩)) (r_fa fld_table_0 rfl rfl) ?_
 refine o_w (v:=.pointer (some ⟨b,0,none⟩)) (r_mov rfl) ?_
 refine o_w (v:=fillV b) (r_mkfb (us:=[.pointer (some ⟨b,0,none⟩)]) (vs:=[]) rfl rfl) ?_
 refine o_call cf_once_Do (vs:=[.pointer (some ⟨b,0,none⟩),fillV b]) rfl (once_Do_c hT) rfl rfl ?_
 rintro _ w1 ⟨F1,B1⟩
 refine eo_nil_sq ?_
 have hx:=and15 (xorW n (IntKind.u32.wrap p))
 refine ec_seq (ec_region ?_)
 refine o_w (v:=.pointer (some ⟨b,0,none⟩)) (r_mov rfl) ?_
 refine o_w (v:=.int .u32 n) (r_mov rfl) ?_
 refine o_w (v:=.int .u8 p) (r_mov rfl) ?_
 refine o_w (v:=.int .u32 (IntKind.u32.wrap p)) (r_conv un_uint8 un_uint32 rfl) ?_
 refine o_w (v:=.int .u32 (xorW n (IntKind.u32.wrap p))) (r_int rfl rfl rfl) ?_
 refine o_w (v:=.int .u32 (andW (xorW n (IntKind.u32.wrap p)) 15)) (r_int rfl rfl rfl) ?_
 refine o_w (v:=.pointer (some ⟨b,0,none⟩)) (r_nilchk rfl) ?_
 refine o_w (v:=.pointer (some ⟨b,3,none⟩)) (r_fa fld_table_1 rfl rfl) ?_
 refine o_w (v:=.pointer (some ⟨b,3 + (andW (xorW n (IntKind.u32.wrap p)) 15).toNat,none⟩)) (r_iaO Tryz.underlying162 sz_uint32 rfl rfl hx) ?_
 refine o_w (v:=.int .u32 (rowF (andW (xorW n (IntKind.u32.wrap p)) 15).toNat)) (r_ld one_uint32 rfl (B1.cell (tab1_at _ (by omega)))) ?_
 refine o_w (v:=.int .u32 n) (r_mov rfl) ?_
 refine o_w (v:=.int .u32 (n.fdiv 16)) (r_shrM rfl rfl rfl rfl) ?_
 refine o_w (v:=.int .u32 (stepF n p)) (r_int rfl rfl rfl) ?_
 refine o_w (v:=.int .u32 (stepF n p)) (r_asg rfl) ?_
 refine eo_nil_sq ?_
 exact ec_ret (end1 rfl ⟨_,rfl,⟨F1,B1⟩,rfl⟩)
end

def and8 (x y:Int):Int:=IntKind.u8.wrap (BitVec.ofInt IntKind.u8.bits x &&& BitVec.ofInt IntKind.u8.bits y).toNat
/-- Behind a byte. -/
def byteF (n c : Int) : Int := stepF (stepF n (and8 c 15)) (c.fdiv 16)
def onF (n:Int) (s:Str):Int:=s.foldl (fun n c=>byteF n (c.toNat:Int)) n
def sumC (s:Str):Int:=IntKind.i64.wrap (IntKind.u32.wrap (BitVec.ofInt IntKind.u32.bits IntKind.u32.max ^^^ BitVec.ofInt IntKind.u32.bits (onF 4294967295 s)).toNat)
theorem onF_succ (n:Int) (s:Str) {i:Nat} (h:i<s.length):onF n (s.take (i + 1))=byteF (onF n (s.take i)) ((nth s (i:Int)).toNat:Int):=by
 have:s.take (i + 1)=s.take i++[nth s (i:Int)]:=by
  rw [List.take_succ_eq_append_getElem h]
  simp [nth,h]
 rw [this]; unfold onF; rw [List.foldl_append]; rfl
def cntC (L:Nat):Nat→Nat ⊕ Nat→Prop:=fun s y=>(s<L∧y=.inl (s + 1))∨(¬ s<L∧y=.inr s)
theorem cntsC (L:Nat):LoopR (cntC L) 0 L:=by
 have:∀ k,k≤L→LoopR (cntC L) k L→LoopR (cntC L) 0 L:=by
  intro k
  induction k with
  | zero=>intro _ h; exact h
  | succ k ih=>intro hk h; exact ih (by omega) (.step (.inl ⟨by omega,rfl⟩) h)
 exact this L (Nat.le_refl _) (.done (.inr ⟨by omega,rfl⟩))
theorem i64_nat {i L:Nat} (h:i<L) (hL:L≤9223372036854775807):IntKind.i64.wrap ((i:Int) + 1)=((i + 1:Nat):Int):=by rw [IntKind.wrap_i64]; omega
set_option maxRecDepth 20000 in
theorem zero_table:Zero Tryz.prog 164 (.agg tab0.toArray):=by
 have h:=in_table
 cases hi : Tryz.prog.info? 164 with
 | none=>rw [hi] at h; cases h
 | some i=>rw [hi] at h; simp only [Option.map_some,Option.some.injEq,Prod.mk.injEq] at h; exact ⟨i,hi,h.1.trans rfl⟩
set_option maxRecDepth 20000 in
theorem bld_table:Bld Tryz.prog 164 [(0,3),(3,16)] tab0:=bld_struct zero_table rfl Tryz.underlying164 (fun _=>by kernel_rfl)

section
variable {P : Program} {ρ : Env} {w : World} {d : Nat} {ty : TypeId} {pos : String} {after : Array Edge} {g : Option (Nat × Bool)}
theorem r_shr8 {X Y:Operand} {t t':TypeId} {k':IntKind} {x y m:Int} (hX:ev ρ X=.int .u8 x) (hY:ev ρ Y=.int k' y) (hy:decide (0≤y)=true) (hm:(2:Int) ^ min y.toNat IntKind.u8.bits=m) :
  RunV P ρ w ⟨some d,.binOp .shr t X Y t',ty,pos,after,g⟩ (.int .u8 (x.fdiv m)):=by subst hm; exact r_shr hX hY hy
end
section
variable {w : World}
set_option maxRecDepth 20000 in
theorem crc_on_c (n:Int) (s:Str) (hs:s.length≤9223372036854775807):Calls Tryz.prog 98 [.int .u32 n,str s].toArray w (Ret fun v w'=>Ext w w'∧v=.int .u32 (onF n s)):=by
 refine calls_ec (N:=29) Tryz.func98 rfl rfl rfl ?_
 refine ec_seq (ec_region ?_)
 refine o_w (v:=.int .u32 0) (r_asg rfl) ?_
 refine eo_nil_sq ?_
 refine ec_seq (ec_region ?_)
 refine o_w (v:=.agg tab0.toArray) (r_build bld_table (vs:=[]) rfl rfl) ?_
 refine o_box (cs:=tab0) rfl rfl rfl ?_
 intro b w1 eb E1 B1
 refine o_w (v:=.pointer (some ⟨b,0,none⟩)) (r_asg rfl) ?_
 refine eo_nil_sq ?_
 refine ec_seq (ec_seq (ec_region ?_))
 refine o_w (v:=str s) (r_mov rfl) ?_
 refine o_w (v:=.int .i64 (s.length:Int)) (r_len_str un_string rfl) ?_
 refine o_w (v:=.int .i64 0) (r_mov rfl) ?_
 refine eo_nil_sq ?_
 refine ec_block ?_
 have nb:w.heap.size≤b:=by rw [eb]; exact Nat.le_refl _
 refine ec_loopE (S:=Nat) (body:=cntC s.length) (s:=0) (y:=s.length) 0 (I:=fun i ρ ds w'=>i≤s.length∧ds=[]∧ρ 0=.int .u32 (onF n (s.take i))∧ρ 1=str s∧ρ 5=.pointer (some ⟨b,0,none⟩)∧ρ 10=.int .i64 (s.length:Int)∧ρ 11=.int .i64 (i:Int)∧Ext w w'∧TB w' b) ?_ (cntsC _) ⟨Nat.zero_le _,rfl,rfl,rfl,rfl,rfl,rfl,E1,.inl B1⟩ ?_
 ·rintro i x ρ ds w2 ⟨hi,rfl,q0,q1,q5,q10,q11,E2,T2⟩ hb
  refine ec_seq (ec_region ?_)
  refine o_w (v:=.bool (decide ((i:Int)<(s.length:Int)))) (r_int (show ev ρ _=_ from q11) (show ev ρ _=_ from q10) rfl) ?_
  refine eo_nil_sq ?_
  rcases hb with ⟨hlt,rfl⟩ | ⟨hlt,rfl⟩
  ·refine ec_seq (ec_cond_t (by simp only [ev,upd]; simp; omega) ?_)
   refine ec_skip ?_
   refine sq_n (ec_seq (ec_block ?_))
   refine ec_seq (ec_region ?_)
   refine o_w (v:=.int .i64 (i:Int)) (r_mov (show ev _ _=_ from q11)) ?_
   refine o_w (v:=.int .i64 (i:Int)) (r_asg rfl) ?_
   refine eo_nil_sq ?_
   have hlb:b<w2.heap.size:=by rcases T2 with h | h <;> exact h.lt
   refine ec_anyN (by kernel_rfl) [[],[],[],[],[],[3,4],[3,4,5],[1,2,3,4,5,6],[],[],[8,9],[8,9,10],[0,1,2,3,4,5,6,7,8,9,10,11],[0,1,2,3,4,5,6,7,8,9,10,11,12]] [14,15,16,17,18,19,20,21,22,23,24,25,26,0] [b] [7,12] [[b],[b]] [[7,12,13],[12,13]]
    [fun w'=>TB w' b,fun w'=>TB w' b,fun w'=>TB w' b]
    [fun v _=>v=(.pointer (some ⟨b,0,none⟩):Value),fun v _=>v=(.pointer (some ⟨b,0,none⟩):Value),fun v _=>v=(.int .u32 (onF n (s.take i)):Value),fun v _=>v=(str s:Value),fun v _=>v=(.int .i64 (i:Int):Value),fun v _=>v=(.int .u8 ((nth s (i:Int)).toNat:Int):Value),fun v _=>v=(.int .u8 (and8 ((nth s (i:Int)).toNat:Int) 15):Value),fun v _=>v=(.int .u32 (stepF (onF n (s.take i)) (and8 ((nth s (i:Int)).toNat:Int) 15)):Value),fun v _=>v=(str s:Value),fun v _=>v=(.int .i64 (i:Int):Value),fun v _=>v=(.int .u8 ((nth s (i:Int)).toNat:Int):Value),fun v _=>v=(.int .u8 (((nth s (i:Int)).toNat:Int).fdiv 16):Value),fun v _=>v=(.int .u32 (byteF (onF n (s.take i)) ((nth s (i:Int)).toNat:Int)):Value),fun v _=>v=(.int .u32 (byteF (onF n (s.take i)) ((nth s (i:Int)).toNat:Int)):Value)] (by kernel_rfl) (allM1 sI (allM1 sI (fun _ h=>by cases h)))
    ⟨fun _ _ _ _ _ h=>h,fun _ _ _ _ _ h=>h,fun _ _ _ _ _ h=>h,fun _ _ _ _ _ h=>h,fun _ _ _ _ _ h=>h,fun _ _ _ _ _ h=>h,fun _ _ _ _ _ h=>h,fun _ _ _ _ _ h=>h,fun _ _ _ _ _ h=>h,fun _ _ _ _ _ h=>h,fun _ _ _ _ _ h=>h,fun _ _ _ _ _ h=>h,fun _ _ _ _ _ h=>h,fun _ _ _ _ _ h=>h,trivial⟩
    ⟨⟨fun _ _ _ _ _ h=>h,fun _ _ _ _ _ h=>h,fun _ _ _ _ _ h=>h,fun _ _ _ _ _ h=>h,fun _ _ _ _ _ h=>h,fun _ _ _ _ _ h=>h,fun _ _ _ _ _ h=>h,fun _ _ _ _ _ h=>h,fun _ _ _ _ _ h=>h,fun _ _ _ _ _ h=>h,fun _ _ _ _ _ h=>h,fun _ _ _ _ _ h=>h,fun _ _ _ _ _ h=>h,fun _ _ _ _ _ h=>h,trivial⟩,⟨fun _ _ _ _ _ h=>h,fun _ _ _ _ _ h=>h,fun _ _ _ _ _ h=>h,fun _ _ _ _ _ h=>h,fun _ _ _ _ _ h=>h,fun _ _ _ _ _ h=>h,fun _ _ _ _ _ h=>h,fun _ _ _ _ _ h=>h,fun _ _ _ _ _ h=>h,fun _ _ _ _ _ h=>h,fun _ _ _ _ _ h=>h,fun _ _ _ _ _ h=>h,fun _ _ _ _ _ h=>h,fun _ _ _ _ _ h=>h,trivial⟩,trivial⟩
    ⟨fun w' w'' F h=>TB.ex h F,fun w' w'' F h=>TB.ex h F,fun w' w'' F h=>TB.ex h F,trivial⟩ T2 ?_ ?_ ?_
   ·refine ⟨?_,?_,?_,?_,?_,?_,?_,?_,?_,?_,?_,?_,?_,?_,trivial⟩
    ·intro _ ρ1 w3 F _ hS hρ
     have p:ρ1 5=.pointer (some ⟨b,0,none⟩):=(hρ 5 (by kernel_rfl)).trans q5
     exact o_q (r_mov p) ⟨Fr.refl _ _,rfl⟩
    ·intro _ ρ1 w3 F _ hS hρ
     have p:ρ1 5=.pointer (some ⟨b,0,none⟩):=(hρ 5 (by kernel_rfl)).trans q5
     exact o_q (r_mov p) ⟨Fr.refl _ _,rfl⟩
    ·intro _ ρ1 w3 F _ hS hρ
     have p:ρ1 0=.int .u32 (onF n (s.take i)):=(hρ 0 (by kernel_rfl)).trans q0
     exact o_q (r_mov p) ⟨Fr.refl _ _,rfl⟩
    ·intro _ ρ1 w3 F _ hS hρ
     have p:ρ1 1=str s:=(hρ 1 (by kernel_rfl)).trans q1
     exact o_q (r_mov p) ⟨Fr.refl _ _,rfl⟩
    ·intro _ ρ1 w3 F _ hS hρ
     have p:ρ1 6=.int .i64 (i:Int):=hρ 6 (by kernel_rfl)
     exact o_q (r_mov p) ⟨Fr.refl _ _,rfl⟩
    ·intro _ ρ1 w3 F _ hS hρ
     have p17:ρ1 17=str s:=hS 3 (by decide) 17 rfl
     have p18:ρ1 18=.int .i64 (i:Int):=hS 4 (by decide) 18 rfl
     exact o_q (r_ix_str un_string p17 p18 (by omega) (by omega)) ⟨Fr.refl _ _,rfl⟩
    ·intro _ ρ1 w3 F _ hS hρ
     have p:ρ1 19=.int .u8 ((nth s (i:Int)).toNat:Int):=hS 5 (by decide) 19 rfl
     exact o_q (r_int (show ev ρ1 _=_ from p) rfl rfl) ⟨Fr.refl _ _,rfl⟩
    ·intro hT; exact absurd hT (by decide)
    ·intro _ ρ1 w3 F _ hS hρ
     have p:ρ1 1=str s:=(hρ 1 (by kernel_rfl)).trans q1
     exact o_q (r_mov p) ⟨Fr.refl _ _,rfl⟩
    ·intro _ ρ1 w3 F _ hS hρ
     have p:ρ1 6=.int .i64 (i:Int):=hρ 6 (by kernel_rfl)
     exact o_q (r_mov p) ⟨Fr.refl _ _,rfl⟩
    ·intro _ ρ1 w3 F _ hS hρ
     have p17:ρ1 22=str s:=hS 8 (by decide) 22 rfl
     have p18:ρ1 23=.int .i64 (i:Int):=hS 9 (by decide) 23 rfl
     exact o_q (r_ix_str un_string p17 p18 (by omega) (by omega)) ⟨Fr.refl _ _,rfl⟩
    ·intro _ ρ1 w3 F _ hS hρ
     have p:ρ1 24=.int .u8 ((nth s (i:Int)).toNat:Int):=hS 10 (by decide) 24 rfl
     exact o_q (r_shr8 (show ev ρ1 _=_ from p) rfl rfl rfl) ⟨Fr.refl _ _,rfl⟩
    ·intro hT; exact absurd hT (by decide)
    ·intro _ ρ1 w3 F _ hS hρ
     have p:ρ1 26=.int .u32 (byteF (onF n (s.take i)) ((nth s (i:Int)).toNat:Int)):=hS 12 (by decide) 26 rfl
     exact o_q (r_asg p) ⟨Fr.refl _ _,rfl⟩
   ·refine ⟨⟨_,rfl,?_⟩,⟨_,rfl,?_⟩,trivial⟩
    ·intro ρ1 w3 F _ hI hS hρ
     have p15:ρ1 15=.pointer (some ⟨b,0,none⟩):=hS 1 (by decide) 15 rfl
     have p16:ρ1 16=.int .u32 (onF n (s.take i)):=hS 2 (by decide) 16 rfl
     have p20:ρ1 20=.int .u8 (and8 ((nth s (i:Int)).toNat:Int) 15):=hS 6 (by decide) 20 rfl
     refine o_call cf_table_step (vs:=[.pointer (some ⟨b,0,none⟩),.int .u32 (onF n (s.take i)),.int .u8 (and8 ((nth s (i:Int)).toNat:Int) 15)]) (by simp only [List.map,ev,p15,p16,p20]) (table_step_c hI _ _) rfl rfl ?_
     rintro _ w4 ⟨⟨F4,B4⟩,rfl⟩
     exact eo_nil ⟨rfl,rfl,_,rfl,F4,.inr B4,rfl⟩
    ·intro ρ1 w3 F _ hI hS hρ
     have p14:ρ1 14=.pointer (some ⟨b,0,none⟩):=hS 0 (by decide) 14 rfl
     have p21:ρ1 21=.int .u32 (stepF (onF n (s.take i)) (and8 ((nth s (i:Int)).toNat:Int) 15)):=hS 7 (by decide) 21 rfl
     have p25:ρ1 25=.int .u8 (((nth s (i:Int)).toNat:Int).fdiv 16):=hS 11 (by decide) 25 rfl
     refine o_call cf_table_step (vs:=[.pointer (some ⟨b,0,none⟩),.int .u32 (stepF (onF n (s.take i)) (and8 ((nth s (i:Int)).toNat:Int) 15)),.int .u8 (((nth s (i:Int)).toNat:Int).fdiv 16)]) (by simp only [List.map,ev,p14,p21,p25]) (table_step_c hI _ _) rfl rfl ?_
     rintro _ w4 ⟨⟨F4,B4⟩,rfl⟩
     exact eo_nil ⟨rfl,rfl,_,rfl,F4,.inr B4,rfl⟩
   ·intro ρ1 w3 F hI hS hρ
    have p0:ρ1 0=.int .u32 (byteF (onF n (s.take i)) ((nth s (i:Int)).toNat:Int)):=hS 13 0 rfl
    have p1:ρ1 1=str s:=(hρ 1 (by kernel_rfl)).trans q1
    have p5:ρ1 5=.pointer (some ⟨b,0,none⟩):=(hρ 5 (by kernel_rfl)).trans q5
    have p10:ρ1 10=.int .i64 (s.length:Int):=(hρ 10 (by kernel_rfl)).trans q10
    have p11:ρ1 11=.int .i64 (i:Int):=(hρ 11 (by kernel_rfl)).trans q11
    refine blk_n (sq_n (ec_region ?_))
    refine o_w (v:=.int .i64 (IntKind.i64.wrap ((i:Int) + 1))) (r_int (show ev _ _=_ from p11) rfl rfl) ?_
    refine o_w (v:=.int .i64 (IntKind.i64.wrap ((i:Int) + 1))) (r_mov rfl) ?_
    refine eo_nil (lq_n ⟨by omega,rfl,?_,p1,p5,p10,?_,Ext.st E2 F (fun m hm=>by rw [List.mem_singleton] at hm; rw [hm]; exact nb),hI⟩)
    ·rw [onF_succ n s hlt]; exact p0
    ·rw [i64_nat hlt hs]; rfl
  ·refine ec_seq (ec_cond_f (by simp only [ev,upd]; simp; omega) ?_)
   exact ec_exit (sq_exit (lq_x ⟨hi,rfl,q0,q1,q5,q10,q11,E2,T2⟩))
 ·rintro ρ ds w2 ⟨hi,rfl,q0,q1,q5,q10,q11,E2,T2⟩
  rw [List.take_length] at q0
  refine blk_hit (sq_n (ec_seq (ec_region ?_)))
  refine o_w (v:=.int .u32 (onF n s)) (r_mov (show ev _ _=_ from q0)) ?_
  refine o_w (v:=.int .u32 (onF n s)) (r_asg rfl) ?_
  refine eo_nil_sq ?_
  exact ec_ret (end1 rfl ⟨_,rfl,E2,rfl⟩)
set_option maxRecDepth 20000 in
theorem crc_Sum_c0 (s:Str) (hs:s.length≤9223372036854775807):Calls Tryz.prog 82 [str s].toArray w (Ret fun v w'=>Ext w w'∧v=.int .i64 (sumC s)):=by
 refine calls_ec (N:=7) Tryz.func82 rfl rfl rfl ?_
 refine ec_seq (ec_region ?_)
 refine o_w (v:=.int .i64 0) (r_asg rfl) ?_
 refine eo_nil_sq ?_
 refine ec_seq (ec_region ?_)
 refine o_w (v:=str s) (r_mov rfl) ?_
 refine o_call cf_crc_on (vs:=[.int .u32 4294967295,str s]) rfl (crc_on_c _ s hs) rfl rfl ?_
 rintro _ w1 ⟨E1,rfl⟩
 refine o_w (v:=.int .u32 (IntKind.u32.wrap (BitVec.ofInt IntKind.u32.bits IntKind.u32.max ^^^ BitVec.ofInt IntKind.u32.bits (onF 4294967295 s)).toNat)) (r_com rfl) ?_
 refine o_w (v:=.int .i64 (sumC s)) (r_conv un_uint32 un_int rfl) ?_
 refine o_w (v:=.int .i64 (sumC s)) (r_asg rfl) ?_
 refine eo_nil_sq ?_
 exact ec_ret (end1 rfl ⟨_,rfl,E1,rfl⟩)
end
end Go.Proofs.YtdfjbkoimpjkaaaGreat