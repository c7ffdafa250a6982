import Derived.Test.YtdfjbkoimpjkaaaGreatVh
import Derived.Test.YtdfjbkoimpjkaaaGreatHk
namespace Go.Proofs.YtdfjbkoimpjkaaaGreat
open Go Go.RowKit
set_option linter.unusedVariables false
set_option linter.unusedSimpArgs false

abbrev oddCF:List PanicEntry:=[{ v:=.iface 75 (.agg #[]),recovered:=false }]
theorem fld_readerF_0:Fld Tryz.prog 81 0 0:=⟨_,Tryz.underlying81,_,rfl,rfl,fnz in_string (by decide)⟩
theorem zero_oddF:Zero Tryz.prog 75 (.agg #[]):=zero_of (show (Tryz.prog.info? 75).map (fun i=>(i.zero,i.size,i.bytes))=some (some (.agg #[]),0,0) by kernel_rfl)
theorem bld_oddF:Bld Tryz.prog 75 [] []:=bld_struct zero_oddF rfl Tryz.underlying75 (fun _=>by kernel_rfl)
theorem conc_oddF : Tryz.prog.concrete 75=true:=by kernel_rfl
theorem un_oddF:∃ fs,Tryz.prog.underlying 75=some (.struct fs):=⟨_,Tryz.underlying75⟩
theorem assert_nilF (w:World) (xT:TypeId):(Instr.typeAssert .nilIface xT 75 true).run Tryz.prog w=.ok (.tuple #[.agg #[],.bool false]) w:=by
 obtain ⟨fs,hu⟩:=un_oddF
 obtain ⟨i,h1,h2⟩:=zero_oddF
 simp [Instr.typeAssert,run_underlying hu,zeroValue,typeInfo,h1,h2,program,Sem.run,Result.andThen]
theorem sz_oddF:Sz Tryz.prog 75 0:=sz_of (show (Tryz.prog.info? 75).map (fun i=>(i.zero,i.size,i.bytes))=some (some (.agg #[]),0,0) by kernel_rfl)
set_option maxRecDepth 20000 in
set_option maxHeartbeats 4000000 in
theorem get1_idleF (b2 b3:Nat) (w:World):CallsDIn (FW none) 0 Tryz.prog 38 #[.pointer (some ⟨b2,0,none⟩),.pointer (some ⟨b3,0,none⟩)] .returning w fun e u' w'=>(∃ v,e=.returned v)∧u'=.returning∧Ext w w':=by
 refine callsDIn_of_wpSIn Tryz.func38 rfl trivial fun c₀ cs hu=>?_
 apply wpSIn_seq
 apply wpSIn_region
 have hc:recoverD (c₀::cs)=none:=by simp [recoverD,hu]
 have hself:({ c₀ with mode:=.returning }:Frame)=c₀:=by rw [← hu]
 refine (?_:EOS Tryz.prog 11 _ _ [0,1,2,3,4,5,6,7] (base #[.pointer (some ⟨b2,0,none⟩),.pointer (some ⟨b3,0,none⟩)]) (c₀::cs) w) _ (by rfl) ?_ rfl
 ·refine eos_rec rfl (by rfl) hc rfl ?_
  refine eos_v (w':=w) (v:=.tuple #[.agg #[],.bool false]) rfl (by simp [execOp,ev,upd,assert_nilF]) rfl ?_
  refine eos_v (w':=w) (v:=.tuple #[.agg #[],.bool false]) rfl (r_mov rfl) rfl ?_
  refine eos_v (w':=w) (v:=.agg #[]) rfl (r_ext rfl rfl) rfl ?_
  refine eos_v (w':=w) (v:=.bool false) rfl (r_ext rfl rfl) rfl ?_
  have hz:(zeroValue 75).run Tryz.prog w=.ok (.agg #[]) w:=by
   obtain ⟨i,h1,h2⟩:=zero_oddF
   simp [zeroValue,typeInfo,h1,h2,program,Sem.run,Result.andThen]
  refine eos_v (w':=w.alloc (.cells #[] 75)) (v:=.pointer (some ⟨w.heap.size,0,none⟩)) rfl (by
   simp only [execOp,Instr.alloc,Sem.run_bind,hz,Result.andThen,newVar,newRow,newObj]; rfl) rfl ?_
  have hB:Blk (w.alloc (.cells #[] 75)) w.heap.size 75 []:=Blk.alloc w 75 []
  refine eos_store rfl rfl hB (vs:=[]) rfl sz_oddF rfl rfl ?_
  intro w1 hf _
  have E1:Ext w w1:=Ext.st (Ext.alloc w _) hf (fun m hm=>by rw [List.mem_singleton] at hm; rw [hm]; exact Nat.le_refl _)
  refine eos_v (w':=w1) (v:=.bool false) rfl (r_asg rfl) rfl ?_
  refine eos_nil fun a h1 h2 h3=>?_
  refine wpSIn_of_wpIn rfl ?_
  refine wpIn_mono ((?hE:EC Tryz.prog none 11 _ (fun e ρ ds w'=>e=.normal∧ds=[]∧Ext w w') _ [] w1) a h1 h2 h3) ?_
  case hE =>
   refine ec_sr ?_
   refine o_w (v:=.bool false) (r_mov rfl) ?_
   refine eo_nil_sq ?_
   refine ec_condF rfl rfl ?_
   exact ec_skip ⟨rfl,rfl,E1⟩
  rintro e a' w' ⟨hs,rfl,hd,hx⟩
  exact ⟨hd,.returning,by rw [hself],.tuple #[],by (rw [← resE_envOf]; show (resE #[] _).run _ _=_; simp [resE]),⟨_,rfl⟩,rfl,hx⟩
 ·exact envOf_base _ _
theorem assert_oddF (w:World) (xT:TypeId):(Instr.typeAssert (.iface 75 (.agg #[])) xT 75 true).run Tryz.prog w=.ok (.tuple #[.agg #[],.bool true]) w:=by
 obtain ⟨fs,hu⟩:=un_oddF
 simp [Instr.typeAssert,run_underlying hu]
abbrev oddDF:List PanicEntry:=[{ v:=.iface 75 (.agg #[]),recovered:=true }]
set_option maxRecDepth 20000 in
set_option maxHeartbeats 4000000 in
theorem get1_caughtF {b2 b3:Nat} {w:World} (B2:Blk w b2 25 (cFrm frm0 none 0)) (B3:Blk w b3 31 [.int .i64 0]) (h23:b2≠b3) :
  CallsDIn (FW none) 0 Tryz.prog 38 #[.pointer (some ⟨b2,0,none⟩),.pointer (some ⟨b3,0,none⟩)] (.panicking oddCF) w fun e u' w'=>(∃ v,e=.returned v)∧u'=.panicking oddDF∧Fr [b2,b3] w w'∧Blk w' b2 25 (cFrm frm0 none 0)∧Blk w' b3 31 [.int .i64 2]:=by
 refine callsDIn_of_wpSIn Tryz.func38 rfl trivial fun c₀ cs hu=>?_
 apply wpSIn_seq
 apply wpSIn_region
 have hc:recoverD (c₀::cs)=some (.iface 75 (.agg #[]),{ c₀ with mode:=.panicking oddDF }::cs):=by simp [recoverD,hu]
 refine (?_:EOS Tryz.prog 11 _ _ [0,1,2,3,4,5,6,7] (base #[.pointer (some ⟨b2,0,none⟩),.pointer (some ⟨b3,0,none⟩)]) (c₀::cs) w) _ (by rfl) ?_ rfl
 ·refine eos_rec2 rfl (by rfl) hc rfl ?_
  refine eos_v (w':=w) (v:=.tuple #[.agg #[],.bool true]) rfl (by simp [execOp,ev,upd,assert_oddF]) rfl ?_
  refine eos_v (w':=w) (v:=.tuple #[.agg #[],.bool true]) rfl (r_mov rfl) rfl ?_
  refine eos_v (w':=w) (v:=.agg #[]) rfl (r_ext rfl rfl) rfl ?_
  refine eos_v (w':=w) (v:=.bool true) rfl (r_ext rfl rfl) rfl ?_
  have hz:(zeroValue 75).run Tryz.prog w=.ok (.agg #[]) w:=by
   obtain ⟨i,h1,h2⟩:=zero_oddF
   simp [zeroValue,typeInfo,h1,h2,program,Sem.run,Result.andThen]
  refine eos_v (w':=w.alloc (.cells #[] 75)) (v:=.pointer (some ⟨w.heap.size,0,none⟩)) rfl (by
   simp only [execOp,Instr.alloc,Sem.run_bind,hz,Result.andThen,newVar,newRow,newObj]; rfl) rfl ?_
  have hB:Blk (w.alloc (.cells #[] 75)) w.heap.size 75 []:=Blk.alloc w 75 []
  refine eos_store rfl rfl hB (vs:=[]) rfl sz_oddF rfl rfl ?_
  intro w1 hf _
  have E1:Ext w w1:=Ext.st (Ext.alloc w _) hf (fun m hm=>by rw [List.mem_singleton] at hm; rw [hm]; exact Nat.le_refl _)
  refine eos_v (w':=w1) (v:=.bool true) rfl (r_asg rfl) rfl ?_
  refine eos_nil fun a h1 h2 h3=>?_
  refine wpSIn_of_wpIn rfl ?_
  refine wpIn_mono ((?hE:EC Tryz.prog none 11 _ (fun e ρ ds w'=>e=.normal∧ds=[]∧Fr [b2,b3] w w'∧Blk w' b2 25 (cFrm frm0 none 0)∧Blk w' b3 31 [.int .i64 2]) _ [] w1) a h1 h2 h3) ?_
  case hE =>
   refine ec_sr ?_
   refine o_w (v:=.bool true) (r_mov rfl) ?_
   refine eo_nil_sq ?_
   refine ec_condT rfl rfl ?_
   refine ec_region ?_
   refine o_w (v:=.agg (cFrm frm0 none 0).toArray) (r_build bld_frame_Frame (vs:=[]) (cells:=cFrm frm0 none 0) rfl rfl) ?_
   refine o_store rfl (B2.ex E1) (vs:=cFrm frm0 none 0) rfl sz_frame_Frame rfl rfl rfl ?_
   intro w12 F12 B212
   refine o_store rfl ((B3.ex E1).fr F12 (by simpa using h23.symm)) (vs:=[.int .i64 2]) rfl sz_api_Errno rfl rfl rfl ?_
   intro w13 F13 B313
   refine eo_nil ?_
   exact ⟨rfl,rfl,((Fr.ext E1).stp F12 (fun m hm=>.inl (by simp at hm; simp [hm]))).stp F13 (fun m hm=>.inl (by simp at hm; simp [hm])),B212.fr F13 (by simpa using h23),B313⟩
  rintro e a' w' ⟨hs,rfl,hd,hx⟩
  exact ⟨hd,.panicking oddDF,rfl,.tuple #[],by (rw [← resE_envOf]; show (resE #[] _).run _ _=_; simp [resE]),⟨_,rfl⟩,rfl,hx⟩
 ·exact envOf_base _ _
theorem zero_readerF:Zero Tryz.prog 81 (.agg #[str []]):=zero_of (show (Tryz.prog.info? 81).map (fun i=>(i.zero,i.size,i.bytes))=some (some (.agg #[str []]),1,16) by kernel_rfl)
theorem bld_readerF:Bld Tryz.prog 81 [(0,1)] [str []]:=bld_struct zero_readerF rfl Tryz.underlying81 (fun _=>by kernel_rfl)
theorem get_endF {ρ:Env} {w w1:World} {b2 b3:Nat} {L:List Nat} {cs:List Value} {x:Frm} {n:Int} (h2:ρ 2=.pointer (some ⟨b2,0,none⟩)) (h3:ρ 3=.pointer (some ⟨b3,0,none⟩))
  (B2:Blk w1 b2 25 cs) (B3:Blk w1 b3 31 [.int .i64 n]) (hn:cs.length=8) (E:Ext w w1) (S:Stb L w1 (fun w=>kFrm.r w cs x)) :
  leaveD Tryz.prog #[ResultVar.cell 2 25,ResultVar.cell 3 31] (Ret fun v w'=>Ext w w'∧∃ (cs90:List Value),v=.tuple #[.agg cs90.toArray,.int .i64 n]∧Stb L w' (fun w=>kFrm.r w cs90 x)) ρ
   [{ target:=.fn (.func 38) [.pointer (some ⟨b2,0,none⟩),.pointer (some ⟨b3,0,none⟩)].toArray,args:=#[] }] .returning w1:=by
 have hi:(invoke (.fn (.func 38) [.pointer (some ⟨b2,0,none⟩),.pointer (some ⟨b3,0,none⟩)].toArray) #[]).run Tryz.prog w1=.ok (.enter 38 #[.pointer (some ⟨b2,0,none⟩),.pointer (some ⟨b3,0,none⟩)]) w1:=by
  simp [invoke]
 refine ⟨by simp,_,_,_,_,rfl,hi,(get1_idleF b2 b3 w1).mono ?_⟩
 rintro e u w' ⟨⟨v,rfl⟩,rfl,hx⟩
 obtain ⟨_,v',h⟩:=endr2 (P:=Tryz.prog) (w:=w') (R:=Ret fun v w'=>Ext w w'∧∃ (cs90:List Value),v=.tuple #[.agg cs90.toArray,.int .i64 n]∧Stb L w' (fun w=>kFrm.r w cs90 x)) (rv_a h2 agg_frame_Frame (B2.ex hx) hn (by rw [List.drop_zero,← hn,List.take_length])) (rv_c h3 one_api_Errno (B3.ex hx) rfl) ⟨_,rfl,E.trans hx,_,rfl,S.ex hx⟩
 exact ⟨v',h⟩
theorem get_panicF {ρ:Env} {w w1:World} {b2 b3:Nat} {L:List Nat} (h2:ρ 2=.pointer (some ⟨b2,0,none⟩)) (h3:ρ 3=.pointer (some ⟨b3,0,none⟩))
  (B2:Blk w1 b2 25 (cFrm frm0 none 0)) (B3:Blk w1 b3 31 [.int .i64 0]) (h23:b2≠b3) (E:Ext w w1) (l2:w.heap.size≤b2) (l3:w.heap.size≤b3) {s:Str} (hb:getFr s=(frm0,2)) :
  leaveD Tryz.prog #[ResultVar.cell 2 25,ResultVar.cell 3 31] (Ret fun v w'=>Ext w w'∧∃ (cs90:List Value),v=.tuple #[.agg cs90.toArray,.int .i64 (getFr s).2]∧Stb L w' (fun w=>kFrm.r w cs90 (getFr s).1)) ρ
   [{ target:=.fn (.func 38) [.pointer (some ⟨b2,0,none⟩),.pointer (some ⟨b3,0,none⟩)].toArray,args:=#[] }] (.panicking oddCF) w1:=by
 have hi:(invoke (.fn (.func 38) [.pointer (some ⟨b2,0,none⟩),.pointer (some ⟨b3,0,none⟩)].toArray) #[]).run Tryz.prog w1=.ok (.enter 38 #[.pointer (some ⟨b2,0,none⟩),.pointer (some ⟨b3,0,none⟩)]) w1:=by
  simp [invoke]
 rw [hb]
 refine ⟨by simp,_,_,_,_,rfl,hi,(get1_caughtF B2 B3 h23).mono ?_⟩
 rintro e u w' ⟨⟨v,rfl⟩,rfl,hx,X2,X3⟩
 obtain ⟨_,v',h⟩:=endr2 (P:=Tryz.prog) (w:=w') (R:=Ret fun v w'=>Ext w w'∧∃ (cs90:List Value),v=.tuple #[.agg cs90.toArray,.int .i64 2]∧Stb L w' (fun w=>kFrm.r w cs90 frm0)) (rv_a h2 agg_frame_Frame X2 rfl rfl) (rv_c h3 one_api_Errno X3 rfl) ⟨_,rfl,Ext.st E hx (by simp; omega),_,rfl,kFrm_mk (d:=frm0) stb_nil rfl⟩
 exact ⟨v',h⟩
theorem cf_rtextF:CF Tryz.prog 43:=fun _ _=>by kernel_rfl
theorem cf_rnumberF:CF Tryz.prog 41:=fun _ _=>by kernel_rfl
theorem cf_need:CF Tryz.prog 40:=fun _ _=>by kernel_rfl
abbrev RdNF (b:Nat) (w:World) (v:Value) (t:Str):Value→World→Prop:=fun r w'=>r=v∧Fr [b] w w'∧Blk w' b 81 [str t]
abbrev RdPF (b:Nat) (w:World) (ok:Prop) (post:Value→World→Prop):Ending→World→Prop:=fun e w'=>(∃ v,e=.returned v∧(ok∧post v w'))∨(∃ c,e=.panicked c∧(c=oddCF∧¬ ok∧Fr [b] w w'))
theorem need_c (n:Int) (w:World):Calls Tryz.prog 40 [.int .i64 n].toArray w (fun e w'=>(∃ v,e=.returned v∧(n=0∧v=.tuple #[]∧Ext w w'))∨(∃ c,e=.panicked c∧(c=oddCF∧¬ n=0∧Ext w w'))):=by
 refine calls_ec Tryz.func40 rfl rfl rfl ?_
 refine ec_sr ?_
 refine o_w (v:=.int .i64 n) (r_mov rfl) ?_
 refine o_w (v:=.bool (n != 0)) (r_int rfl rfl rfl) ?_
 refine eo_nil_sq ?_
 refine ec_cond rfl (fun hc=>?_) (fun hc=>?_)
 ·have hn:¬ n=0:=by simpa using hc
  refine ec_region ?_
  refine o_w (v:=.agg #[]) (r_build bld_oddF (vs:=[]) (cells:=[]) rfl rfl) ?_
  refine o_w (v:=.iface 75 (.agg #[])) (r_mkif conc_oddF rfl) ?_
  refine o_panic rfl rfl ?_
  exact ⟨rfl,.inr ⟨_,rfl,rfl,hn,Fr.refl _ _⟩⟩
 ·have hn:n=0:=by simpa using hc
  refine ec_skip ?_
  exact end0 (.inl ⟨_,rfl,hn,rfl,Fr.refl _ _⟩)
set_option maxRecDepth 20000 in
theorem rdF_text {w:World} {b:Nat} {s:Str} (HB:Blk w b 81 [str s]) (n:Nat) (hs:s.length≤9223372036854775807) :
  Calls Tryz.prog 43 [.pointer (some ⟨b,0,none⟩),.int .i64 (n:Int)].toArray w (RdPF b w (n≤s.length) (RdNF b w (str (s.take n)) (s.drop n))):=by
 refine calls_ec Tryz.func43 rfl rfl rfl ?_
 refine ec_sr ?_
 refine o_w (v:=str []) (r_asg rfl) ?_
 refine eo_nil_sq ?_
 refine ec_seq ?_
 refine ec_sr ?_
 refine o_w (v:=.int .i64 (n:Int)) (r_mov rfl) ?_
 refine o_w (v:=.pointer (some ⟨b,0,none⟩)) (r_mov rfl) ?_
 refine o_w (v:=.pointer (some ⟨b,0,none⟩)) (r_nilchk rfl) ?_
 refine o_w (v:=.pointer (some ⟨b,0,none⟩)) (r_fa fld_readerF_0 rfl rfl) ?_
 refine o_w (v:=str s) (r_ld one_string rfl (HB.cell rfl)) ?_
 refine o_w (v:=.int .i64 (s.length:Int)) (r_len_str un_string rfl) ?_
 refine o_w (v:=.bool (decide ((s.length:Int)<(n:Int)))) (r_int rfl rfl rfl) ?_
 refine eo_nil_sq ?_
 refine ec_cond rfl (fun hc=>?_) (fun hc=>?_)
 ·have hn:¬ n≤s.length:=by simp at hc; omega
  refine ec_region ?_
  refine o_w (v:=.agg #[]) (r_build bld_oddF (vs:=[]) (cells:=[]) rfl rfl) ?_
  refine o_w (v:=.iface 75 (.agg #[])) (r_mkif conc_oddF rfl) ?_
  refine o_panic rfl rfl ?_
  exact ⟨rfl,.inr ⟨_,rfl,rfl,hn,Fr.refl _ _⟩⟩
 ·have hn:n≤s.length:=by simp at hc; omega
  refine ec_skip ?_
  refine sq_n ?_
  refine ec_sr ?_
  refine o_w (v:=.pointer (some ⟨b,0,none⟩)) (r_mov rfl) ?_
  refine o_w (v:=.pointer (some ⟨b,0,none⟩)) (r_nilchk rfl) ?_
  refine o_w (v:=.pointer (some ⟨b,0,none⟩)) (r_fa fld_readerF_0 rfl rfl) ?_
  refine o_w (v:=str s) (r_ld one_string rfl (HB.cell rfl)) ?_
  refine o_w (v:=.int .i64 (n:Int)) (r_mov rfl) ?_
  refine o_w (v:=str (s.take n)) (cut_hi rfl rfl hn) ?_
  refine o_w (v:=str (s.take n)) (r_asg rfl) ?_
  refine eo_r ?_
  iterate 2 refine o_w (v:=.pointer (some ⟨b,0,none⟩)) (r_mov rfl) ?_
  refine o_w (v:=.pointer (some ⟨b,0,none⟩)) (r_nilchk rfl) ?_
  refine o_w (v:=.pointer (some ⟨b,0,none⟩)) (r_fa fld_readerF_0 rfl rfl) ?_
  refine o_w (v:=str s) (r_ld one_string rfl (HB.cell rfl)) ?_
  refine o_w (v:=.int .i64 (n:Int)) (r_mov rfl) ?_
  refine o_w (v:=str (s.drop n)) (cut_lo rfl rfl hn) ?_
  refine o_w (v:=.pointer (some ⟨b,0,none⟩)) (r_nilchk rfl) ?_
  refine o_w (v:=.pointer (some ⟨b,0,none⟩)) (r_fa fld_readerF_0 rfl rfl) ?_
  refine o_store rfl HB (vs:=[str (s.drop n)]) rfl sz_string rfl rfl rfl ?_
  intro w2 F2 B2
  refine eo_r ?_
  refine o_w (v:=str (s.take n)) (r_mov rfl) ?_
  refine o_w (v:=str (s.take n)) (r_asg rfl) ?_
  refine eo_nil_sq ?_
  refine ec_ret ?_
  exact end1 rfl (.inl ⟨_,rfl,hn,rfl,F2,B2⟩)
set_option maxRecDepth 20000 in
theorem rdF_num {w:World} {b:Nat} {s:Str} (HB:Blk w b 81 [str s]) (n:Nat) (h1:1≤n) (h7:n≤7) (hs:s.length≤9223372036854775807) :
  Calls Tryz.prog 41 [.pointer (some ⟨b,0,none⟩),.int .i64 (n:Int)].toArray w (RdPF b w (n≤s.length) (RdNF b w (.int .i64 (leN (s.take n):Int)) (s.drop n))):=by
 refine calls_ec Tryz.func41 rfl rfl rfl ?_
 refine ec_sr ?_
 refine o_w (v:=.int .i64 0) (r_asg rfl) ?_
 refine eo_r ?_
 refine o_w (v:=.pointer (some ⟨b,0,none⟩)) (r_mov rfl) ?_
 refine o_w (v:=.int .i64 (n:Int)) (r_mov rfl) ?_
 refine o_callP cf_rtextF rfl (rdF_text HB n hs) rfl rfl ?_ (by
  rintro _ w' ⟨rfl,hno,G⟩
  exact ⟨rfl,.inr ⟨_,rfl,rfl,hno,G⟩⟩)
 rintro _ w1 ⟨hok,rfl,F1,B1⟩
 refine o_w (v:=.int .i64 (n:Int)) (r_mov rfl) ?_
 refine o_call cf_octet_Get rfl (octet_Get_c (L:=[]) (s.take n) (0:Int) (n:Int) (fun _ hm=>by cases hm) (octGet_ev (s.take n) 0 (n:Int) (by rw [List.length_take]; omega))) rfl rfl ?_
 rintro _ w2 ⟨F2,rfl⟩
 have hlt:(s.take n).length=n:=by rw [List.length_take]; omega
 have hg:getO (s.take n) 0 (n:Int)=((leN (s.take n):Int),0):=by
  rw [getO_0 (s.take n) n h1 h7,if_neg (by omega),List.take_take,Nat.min_self]
 rw [hg]
 refine o_w (v:=.tuple #[.int .i64 (leN (s.take n):Int),.int .i64 0]) (r_mov rfl) ?_
 refine o_w (v:=.int .i64 (leN (s.take n):Int)) (r_ext rfl rfl) ?_
 refine o_w (v:=.int .i64 0) (r_ext rfl rfl) ?_
 refine o_w (v:=.int .i64 (leN (s.take n):Int)) (r_asg rfl) ?_
 refine o_w (v:=.int .i64 0) (r_asg rfl) ?_
 refine eo_r ?_
 refine o_w (v:=.int .i64 0) (r_mov rfl) ?_
 refine o_callP cf_need rfl (need_c 0 w2) rfl rfl ?_ (by
  rintro _ w' ⟨rfl,hno,G⟩
  exact absurd rfl hno)
 rintro _ w3 ⟨_,rfl,F3⟩
 refine eo_r ?_
 refine o_w (v:=.int .i64 (leN (s.take n):Int)) (r_mov rfl) ?_
 refine o_w (v:=.int .i64 (leN (s.take n):Int)) (r_asg rfl) ?_
 refine eo_nil_sq ?_
 refine ec_ret ?_
 exact end1 rfl (.inl ⟨_,rfl,hok,rfl,(F1.trans (Fr.ext F2)).trans (Fr.ext F3),(B1.ex F2).ex F3⟩)

def frame_Get_raw (s:Str) (y:Frm × Int):Prop:=s.length≤1000000000∧y=getFr s
theorem frGet_ev (s:Str) (h:s.length≤1000000000):frame_Get_raw s (getFr s):=⟨h,rfl⟩
/-- The blocks that frame.Get makes. -/
structure DD (w : World) (b2 b3 br b7 : Nat) : Prop where
  n23 : b2 ≠ b3
  n2r : b2 ≠ br
  n3r : b3 ≠ br
  n27 : b2 ≠ b7
  n37 : b3 ≠ b7
  nr7 : br ≠ b7
  l2 : w.heap.size ≤ b2
  l3 : w.heap.size ≤ b3
  lr : w.heap.size ≤ br
  l7 : w.heap.size ≤ b7
structure GI (w:World) (b2 b3 br b7:Nat) (t:Str) (c7:List Value) (w':World):Prop where
 E:Ext w w'
 B2:Blk w' b2 25 (cFrm frm0 none 0)
 B3:Blk w' b3 31 [.int .i64 0]
 Br:Blk w' br 81 [str t]
 B7:Blk w' b7 25 c7
section
variable {w w' w'' : World} {b2 b3 br b7 : Nat} {t t' : Str} {c7 c8 : List Value}
theorem GI.ex (h:GI w b2 b3 br b7 t c7 w') (f:Ext w' w''):GI w b2 b3 br b7 t c7 w'':=⟨h.E.trans f,h.B2.ex f,h.B3.ex f,h.Br.ex f,h.B7.ex f⟩
theorem GI.rd (h:GI w b2 b3 br b7 t c7 w') (d:DD w b2 b3 br b7) (F:Fr [br] w' w'') (B:Blk w'' br 81 [str t']):GI w b2 b3 br b7 t' c7 w'' :=
 ⟨Ext.st h.E F (fun m hm=>by rw [List.mem_singleton] at hm; rw [hm]; exact d.lr),h.B2.fr F (by simpa using d.n2r),h.B3.fr F (by simpa using d.n3r),B,h.B7.fr F (by simpa using d.nr7.symm)⟩
theorem GI.st (h:GI w b2 b3 br b7 t c7 w') (d:DD w b2 b3 br b7) (F:Fr [b7] w' w'') (B:Blk w'' b7 25 c8):GI w b2 b3 br b7 t c8 w'' :=
 ⟨Ext.st h.E F (fun m hm=>by rw [List.mem_singleton] at hm; rw [hm]; exact d.l7),h.B2.fr F (by simpa using d.n27),h.B3.fr F (by simpa using d.n37),h.Br.fr F (by simpa using d.nr7),B⟩
theorem GI.lt {L:List Nat} (h:GI w b2 b3 br b7 t c7 w') (hL:Lt L w):Lt (br::b7::b3::b2::L) w':=((((hL.fr h.E).cons h.B2.lt).cons h.B3.lt).cons h.B7.lt).cons h.Br.lt
theorem GI.own {L:List Nat} {B:Nat} {v:Value} {l:List Ent} (h:GI w b2 b3 br b7 t c7 w') (hB:w.heap.size≤B) (hO:OwnS kEnt B 55 (br::b7::b3::b2::L) w' v l) (F:Fr (own v) w' w''):GI w b2 b3 br b7 t c7 w'' :=
 ⟨Ext.st h.E F (fun m hm=>Nat.le_trans hB (hO.lo m hm)),h.B2.fr F (hO.below b2 (by simp)).2,h.B3.fr F (hO.below b3 (by simp)).2,h.Br.fr F (hO.below br (by simp)).2,h.B7.fr F (hO.below b7 (by simp)).2⟩
theorem GI.pan {ρ:Env} {L:List Nat} {s:Str} (h:GI w b2 b3 br b7 t c7 w') (d:DD w b2 b3 br b7) (F:Fr [br] w' w'') (h2:ρ 2=.pointer (some ⟨b2,0,none⟩)) (h3:ρ 3=.pointer (some ⟨b3,0,none⟩)) (hb:getFr s=(frm0,2)) :
  leaveD Tryz.prog #[ResultVar.cell 2 25,ResultVar.cell 3 31] (Ret fun v w'=>Ext w w'∧∃ (cs90:List Value),v=.tuple #[.agg cs90.toArray,.int .i64 (getFr s).2]∧Stb L w' (fun w=>kFrm.r w cs90 (getFr s).1)) ρ
   [{ target:=.fn (.func 38) [.pointer (some ⟨b2,0,none⟩),.pointer (some ⟨b3,0,none⟩)].toArray,args:=#[] }] (.panicking oddCF) w'' :=
 get_panicF h2 h3 (h.B2.fr F (by simpa using d.n2r)) (h.B3.fr F (by simpa using d.n3r)) d.n23 (Ext.st h.E F (fun m hm=>by rw [List.mem_singleton] at hm; rw [hm]; exact d.lr)) d.l2 d.l3 hb
end
/-- So many rounds, or one that is bad. -/
def cntQ (n : Nat) (bad : Nat → Bool) (i : Nat) (z : Nat ⊕ Bool) : Prop := (i < n → bad i = false → z = .inl (i + 1)) ∧ (i < n → bad i = true → z = .inr false) ∧ (¬ i < n → z = .inr true)
theorem cntQ_loop (n:Nat) (bad:Nat→Bool):∀ k i,i + k=n→∃ y,LoopR (cntQ n bad) i y∧(y=true→∀ j,i≤j→j<n→bad j=false)∧(y=false→∃ j,j<n∧bad j=true)
 | 0,i,h=>⟨true,.done ⟨fun c=>by omega,fun c=>by omega,fun _=>rfl⟩,fun _ j h1 h2=>by omega,fun c=>by cases c⟩
 | k + 1,i,h=>by
  cases hb:bad i with
  | true=>exact ⟨false,.done ⟨fun _ c=>(by rw [hb] at c; cases c),fun _ _=>rfl,fun c=>by omega⟩,fun c=>(by cases c),fun _=>⟨i,by omega,hb⟩⟩
  | false =>
   obtain ⟨y,h1,h2,h3⟩:=cntQ_loop n bad k (i + 1) (by omega)
   refine ⟨y,.step ⟨fun _ _=>rfl,fun _ c=>(by rw [hb] at c; cases c),fun c=>by omega⟩ h1,fun e j hj1 hj2=>?_,h3⟩
   rcases Nat.lt_or_ge i j with hj | hj
   ·exact h2 e j (by omega) hj2
   ·rw [show j=i by omega]; exact hb
theorem cf_crc_Open:CF Tryz.prog 39:=fun _ _=>by kernel_rfl
abbrev xC (t:Str) (v:Value):List Value:=[.int .i64 (leN (t.take 1):Int),.int .i64 (leN ((t.drop 1).take 4):Int),.int .i64 (leN ((t.drop 5).take 4):Int),.int .i64 (nth (getD ((t.drop 9).take 16)).1 0),.int .i64 (nth (getD ((t.drop 9).take 16)).1 1),.int .i64 (nth (getD ((t.drop 9).take 16)).1 2),.int .i64 (nth (getD ((t.drop 9).take 16)).1 3),v]
set_option maxRecDepth 20000 in
set_option maxHeartbeats 8000000 in
theorem frame_Get_c {L:List Nat} {w:World} (s:Str) (hL:Lt L w) {y:Frm × Int} (h:frame_Get_raw s y) :
  Calls Tryz.prog 18 [str s].toArray w (Ret fun v w'=>Ext w w'∧∃ (cs90:List Value),v=.tuple #[.agg cs90.toArray,.int .i64 y.2]∧Stb L w' (fun w=>kFrm.r w cs90 y.1)):=by
 obtain ⟨hsz,rfl⟩:=h
 refine calls_ecD Tryz.func18 rfl rfl rfl ?_
 refine ec_sr ?_
 refine o_alloc zero_frame_Frame rfl rfl rfl ?_
 intro b2 w1 e2 F1 B2
 refine o_alloc zero_api_Errno rfl rfl rfl ?_
 intro b3 w2 e3 F2 B3
 refine eo_r ?_
 refine o_w (v:=.func (.func 38) #[] #[.pointer (some ⟨b2,0,none⟩),.pointer (some ⟨b3,0,none⟩)]) (r_mkfb (us:=[]) (vs:=[.pointer (some ⟨b2,0,none⟩),.pointer (some ⟨b3,0,none⟩)]) rfl rfl) ?_
 refine o_defer (caps:=[.pointer (some ⟨b2,0,none⟩),.pointer (some ⟨b3,0,none⟩)]) rfl rfl ?_
 refine eo_r ?_
 refine o_w (v:=str s) (r_mov rfl) ?_
 have E2:Ext w w2:=F1.trans F2
 refine o_call cf_crc_Open rfl (crc_Open_c s (hL.fr E2) (crcOpen_ev s hsz)) rfl rfl ?_
 rintro _ w3 ⟨F3,rfl⟩
 have B23:Blk w3 b2 25 (cFrm frm0 none 0):=(B2.ex F2).ex F3
 have B33:Blk w3 b3 31 [.int .i64 0]:=B3.ex F3
 have E3:Ext w w3:=E2.trans F3
 have hb2:=B2.lt
 have hb3:=B3.lt
 have s1:=F1.size
 have s2:=F2.size
 have s3:=F3.size
 have l2:w.heap.size≤b2:=by omega
 have l3:w.heap.size≤b3:=by omega
 have n23:b2≠b3:=by omega
 refine o_w (v:=.tuple #[str (openC s).1,.int .i64 (openC s).2]) (r_mov rfl) ?_
 refine o_w (v:=str (openC s).1) (r_ext rfl rfl) ?_
 refine o_w (v:=.int .i64 (openC s).2) (r_ext rfl rfl) ?_
 refine o_w (v:=str (openC s).1) (r_asg rfl) ?_
 refine o_w (v:=.int .i64 (openC s).2) (r_asg rfl) ?_
 refine eo_r ?_
 refine o_w (v:=.int .i64 (openC s).2) (r_mov rfl) ?_
 refine o_callP cf_need rfl (need_c (openC s).2 w3) rfl rfl ?_ (by
  rintro _ w' ⟨rfl,hno,G⟩
  exact get_panicF rfl rfl (B23.ex G) (B33.ex G) n23 (E3.trans G) l2 l3 (getFr_open hno))
 rintro _ w4 ⟨hop,rfl,F4⟩
 refine eo_nil_sq ?_
 refine ec_seq ?_
 have htl:(openC s).1.length≤1000000000:=by
  unfold openC
  cases decide ((s.length:Int)<4) with
  | true=>exact Nat.zero_le _
  | false =>
   cases !(sealC (s.take (s.length - 4))==s) with
   | true=>exact Nat.zero_le _
   | false=>show (s.take (s.length - 4)).length≤_; rw [List.length_take]; omega
 generalize ht:(openC s).1=t at htl
 refine ec_region ?_
 refine o_w (v:=str t) (r_mov rfl) ?_
 refine o_w (v:=.agg #[str t]) (r_build bld_readerF (vs:=[(0,str t)]) (cells:=[str t]) rfl rfl) ?_
 refine o_box (cs:=[str t]) rfl rfl rfl ?_
 intro br w5 er F5 Br5
 refine o_w (v:=.pointer (some ⟨br,0,none⟩)) (r_asg rfl) ?_
 have B25:=(B23.ex F4).ex F5
 have B35:=(B33.ex F4).ex F5
 have E5:Ext w w5:=(E3.trans F4).trans F5
 have s4:=F4.size
 have s5:=F5.size
 have lr:w.heap.size≤br:=by omega
 have n2r:b2≠br:=by omega
 have n3r:b3≠br:=by omega
 have pan:∀ {ρ:Env} {w1 w2:World},Blk w1 b2 25 (cFrm frm0 none 0)→Blk w1 b3 31 [.int .i64 0]→Ext w w1→Fr [br] w1 w2→ρ 2=.pointer (some ⟨b2,0,none⟩)→ρ 3=.pointer (some ⟨b3,0,none⟩)→getFr s=(frm0,2) →
   leaveD Tryz.prog #[ResultVar.cell 2 25,ResultVar.cell 3 31] (Ret fun v w'=>Ext w w'∧∃ (cs90:List Value),v=.tuple #[.agg cs90.toArray,.int .i64 (getFr s).2]∧Stb L w' (fun w=>kFrm.r w cs90 (getFr s).1)) ρ
   [{ target:=.fn (.func 38) [.pointer (some ⟨b2,0,none⟩),.pointer (some ⟨b3,0,none⟩)].toArray,args:=#[] }] (.panicking oddCF) w2 :=
  fun X2 X3 E G h2 h3 hb=>get_panicF h2 h3 (X2.fr G (by simpa using n2r)) (X3.fr G (by simpa using n3r)) n23 (Ext.st E G (fun m hm=>by rw [List.mem_singleton] at hm; rw [hm]; exact lr)) l2 l3 hb
 have ex_rd:∀ {w1 w2:World},Ext w w1→Fr [br] w1 w2→Ext w w2:=fun E G=>Ext.st E G (fun m hm=>by rw [List.mem_singleton] at hm; rw [hm]; exact lr)
 refine eo_r ?_
 refine o_w (v:=.pointer (some ⟨br,0,none⟩)) (r_mov rfl) ?_
 refine o_callP cf_rnumberF rfl (rdF_num Br5 1 (by omega) (by omega) (by omega)) rfl rfl ?_ (by
  rintro _ w' ⟨rfl,hno,G⟩
  exact pan B25 B35 E5 G rfl rfl (getFr_short (by rw [ht]; omega)))
 rintro _ w6 ⟨ok1,rfl,F6,Br6⟩
 have B26:=B25.fr F6 (by simpa using n2r)
 have B36:=B35.fr F6 (by simpa using n3r)
 have E6:=ex_rd E5 F6
 refine o_w (v:=.pointer (some ⟨br,0,none⟩)) (r_mov rfl) ?_
 refine o_callP cf_rnumberF rfl (rdF_num Br6 4 (by omega) (by omega) (by rw [List.length_drop]; omega)) rfl rfl ?_ (by
  rintro _ w' ⟨rfl,hno,G⟩
  exact pan B26 B36 E6 G rfl rfl (getFr_short (by rw [ht]; rw [List.length_drop] at hno; omega)))
 rintro _ w7 ⟨ok2,rfl,F7,Br7⟩
 have B27:=B26.fr F7 (by simpa using n2r)
 have B37:=B36.fr F7 (by simpa using n3r)
 have E7:=ex_rd E6 F7
 rw [List.drop_drop] at Br7
 refine o_w (v:=.pointer (some ⟨br,0,none⟩)) (r_mov rfl) ?_
 refine o_callP cf_rnumberF rfl (rdF_num Br7 4 (by omega) (by omega) (by rw [List.length_drop]; omega)) rfl rfl ?_ (by
  rintro _ w' ⟨rfl,hno,G⟩
  exact pan B27 B37 E7 G rfl rfl (getFr_short (by rw [ht]; rw [List.length_drop] at hno; omega)))
 rintro _ w8 ⟨ok3,rfl,F8,Br8⟩
 have B28:=B27.fr F8 (by simpa using n2r)
 have B38:=B37.fr F8 (by simpa using n3r)
 have E8:=ex_rd E7 F8
 rw [List.drop_drop] at Br8
 refine o_w (v:=.agg #[.int .i64 (leN (t.take 1):Int),.int .i64 (leN ((t.drop 1).take 4):Int),.int .i64 (leN ((t.drop 5).take 4):Int),.int .i64 0,.int .i64 0,.int .i64 0,.int .i64 0,.slice none 0 0]) (r_build bld_frame_Frame (vs:=[(0,.int .i64 (leN (t.take 1):Int)),(1,.int .i64 (leN ((t.drop 1).take 4):Int)),(2,.int .i64 (leN ((t.drop 5).take 4):Int))]) (cells:=[.int .i64 (leN (t.take 1):Int),.int .i64 (leN ((t.drop 1).take 4):Int),.int .i64 (leN ((t.drop 5).take 4):Int),.int .i64 0,.int .i64 0,.int .i64 0,.int .i64 0,.slice none 0 0]) rfl rfl) ?_
 refine o_alloc zero_frame_Frame rfl rfl rfl ?_
 intro b7 w9 e7 F9 B9
 refine o_store rfl B9 (vs:=[.int .i64 (leN (t.take 1):Int),.int .i64 (leN ((t.drop 1).take 4):Int),.int .i64 (leN ((t.drop 5).take 4):Int),.int .i64 0,.int .i64 0,.int .i64 0,.int .i64 0,.slice none 0 0]) rfl sz_frame_Frame rfl rfl rfl ?_
 intro w10 F10 B710
 have s8:=E8.size
 have k2:=B28.lt
 have k3:=B38.lt
 have kr:=Br8.lt
 have d:DD w b2 b3 br b7:=⟨n23,n2r,n3r,by omega,by omega,by omega,l2,l3,lr,by omega⟩
 have E10:Ext w8 w10:=Ext.st F9 F10 (fun m hm=>by rw [List.mem_singleton] at hm; omega)
 have G10:GI w b2 b3 br b7 (t.drop 9) [.int .i64 (leN (t.take 1):Int),.int .i64 (leN ((t.drop 1).take 4):Int),.int .i64 (leN ((t.drop 5).take 4):Int),.int .i64 0,.int .i64 0,.int .i64 0,.int .i64 0,.slice none 0 0] w10 :=
  ⟨E8.trans E10,B28.ex E10,B38.ex E10,Br8.ex E10,B710⟩
 refine eo_r ?_
 refine o_w (v:=.pointer (some ⟨br,0,none⟩)) (r_mov rfl) ?_
 refine o_callP cf_rtextF rfl (rdF_text G10.Br 16 (by rw [List.length_drop]; omega)) rfl rfl ?_ (by
  rintro _ w' ⟨rfl,hno,G⟩
  exact pan G10.B2 G10.B3 G10.E G rfl rfl (getFr_short (by rw [ht]; rw [List.length_drop] at hno; omega)))
 rintro _ w11 ⟨ok4,rfl,F11,Br11⟩
 rw [List.drop_drop] at Br11
 rw [List.length_drop] at ok4
 have G11:=G10.rd d F11 Br11
 refine o_call cf_digest_Get rfl (digest_Get_c ((t.drop 9).take 16) (G11.lt hL) (digGet_ev ((t.drop 9).take 16))) rfl rfl ?_
 rintro _ w12 ⟨F12,rfl,_⟩
 have G12:=G11.ex F12
 have hD:(getD ((t.drop 9).take 16)).2=0:=by rw [getD_ok (by rw [List.length_take,List.length_drop]; omega)]
 refine o_w (v:=.tuple #[.agg #[.int .i64 (nth (getD ((t.drop 9).take 16)).1 0),.int .i64 (nth (getD ((t.drop 9).take 16)).1 1),.int .i64 (nth (getD ((t.drop 9).take 16)).1 2),.int .i64 (nth (getD ((t.drop 9).take 16)).1 3)],.int .i64 (getD ((t.drop 9).take 16)).2]) (r_mov rfl) ?_
 refine o_w (v:=.agg #[.int .i64 (nth (getD ((t.drop 9).take 16)).1 0),.int .i64 (nth (getD ((t.drop 9).take 16)).1 1),.int .i64 (nth (getD ((t.drop 9).take 16)).1 2),.int .i64 (nth (getD ((t.drop 9).take 16)).1 3)]) (r_ext rfl rfl) ?_
 refine o_w (v:=.int .i64 (getD ((t.drop 9).take 16)).2) (r_ext rfl rfl) ?_
 refine o_w (v:=.pointer (some ⟨b7,3,none⟩)) (r_fa fld_frame_Frame_3 rfl rfl) ?_
 refine o_store rfl G12.B7 (vs:=[.int .i64 (nth (getD ((t.drop 9).take 16)).1 0),.int .i64 (nth (getD ((t.drop 9).take 16)).1 1),.int .i64 (nth (getD ((t.drop 9).take 16)).1 2),.int .i64 (nth (getD ((t.drop 9).take 16)).1 3)]) rfl sz_4_int rfl rfl rfl ?_
 intro w13 F13 B713
 have G13:GI w b2 b3 br b7 (t.drop 25) (xC t (.slice none 0 0)) w13:=G12.st d F13 B713
 refine o_w (v:=.int .i64 (getD ((t.drop 9).take 16)).2) (r_asg rfl) ?_
 refine eo_r ?_
 refine o_w (v:=.int .i64 (getD ((t.drop 9).take 16)).2) (r_mov rfl) ?_
 refine o_callP cf_need rfl (need_c (getD ((t.drop 9).take 16)).2 w13) rfl rfl ?_ (by
  rintro _ w' ⟨rfl,hno,G⟩
  exact absurd hD hno)
 rintro _ w14 ⟨_,rfl,F14⟩
 have G14:=G13.ex F14
 refine eo_nil_sq ?_
 refine ec_seq ?_
 refine ec_sr ?_
 refine o_w (v:=.pointer (some ⟨br,0,none⟩)) (r_mov rfl) ?_
 refine o_callP cf_rnumberF rfl (rdF_num G14.Br 1 (by omega) (by omega) (by rw [List.length_drop]; omega)) rfl rfl ?_ (by
  rintro _ w' ⟨rfl,hno,G⟩
  exact pan G14.B2 G14.B3 G14.E G rfl rfl (getFr_short (by rw [ht]; rw [List.length_drop] at hno; omega)))
 rintro _ w15 ⟨ok5,rfl,F15,Br15⟩
 rw [List.drop_drop] at Br15
 rw [List.length_drop] at ok5
 have G15:=G14.rd d F15 Br15
 refine o_w (v:=.int .i64 0) (r_mov rfl) ?_
 have hn:leN ((t.drop 25).take 1)=cntG t:=rfl
 rw [hn]
 have hn256:=cntG_lt t
 generalize hN:cntG t=n at hn256
 refine eo_nil_sq ?_
 refine ec_block ?_
 let bad:Nat→Bool:=fun j=>decide (t.length<26 + 42 * (j + 1))||!((getE (((t.drop 26).drop (42 * j)).take 42)).2==0)
 have hbad:∀ j,j<n→bad j=true→getFr s=(frm0,2):=fun j hj hb=>by
  have hb':(decide (t.length<26 + 42 * (j + 1))||!((getE (((t.drop 26).drop (42 * j)).take 42)).2==0))=true:=hb
  rcases Bool.or_eq_true_iff.1 hb' with h1 | h1
  ·refine getFr_len ?_
   rw [ht,hN]
   have:=of_decide_eq_true h1
   omega
  ·refine getFr_ent (j:=j) (by rw [ht,hN]; exact hj) ?_
   rw [ht]
   simpa using h1
 obtain ⟨y,hloop,hyt,hyf⟩:=cntQ_loop n bad n 0 (by omega)
 let I:Nat→Env→List Deferred→World→Prop:=fun i ρ ds w'=>∃ (ρ':Env) (v:Value),ρ=envs ρ' [(39,.int .i64 (i:Int)),(38,.int .i64 (n:Int)),(6,.pointer (some ⟨br,0,none⟩)),(7,.pointer (some ⟨b7,0,none⟩)),(2,.pointer (some ⟨b2,0,none⟩)),(3,.pointer (some ⟨b3,0,none⟩))] ∧
  ds=[{ target:=.fn (.func 38) [.pointer (some ⟨b2,0,none⟩),.pointer (some ⟨b3,0,none⟩)].toArray,args:=#[] }]∧(i≤n∧∀ j,j<i→bad j=false)∧GI w b2 b3 br b7 ((t.drop 26).drop (42 * i)) (xC t v) w'∧OwnS kEnt w15.heap.size 55 (br::b7::b3::b2::L) w' v (entsG i (t.drop 26))
 refine ec_loop I (fun (y:Bool) e ρ ds w'=>(y=true∧e=.exit 0∧I n ρ ds w')∨(y=false∧∃ c,e=.panic c∧c=oddCF∧ds=[{ target:=.fn (.func 38) [.pointer (some ⟨b2,0,none⟩),.pointer (some ⟨b3,0,none⟩)].toArray,args:=#[] }]∧ρ 2=.pointer (some ⟨b2,0,none⟩)∧ρ 3=.pointer (some ⟨b3,0,none⟩) ∧
  ∃ wx,Blk wx b2 25 (cFrm frm0 none 0)∧Blk wx b3 31 [.int .i64 0]∧Ext w wx∧Fr [br] wx w')) (body:=cntQ n bad) ?_ hloop ?_ ?_
 ·intro i z ρ1 ds1 wr hI hb
  obtain ⟨ρr,v,rfl,rfl,⟨hin,hpre⟩,Gr,Or⟩:=hI
  refine ec_sr ?_
  refine o_w (v:=.bool (decide ((i:Int)<(n:Int)))) (r_int rfl rfl rfl) ?_
  refine eo_nil_sq ?_
  refine ec_seq ?_
  refine ec_cond rfl (fun hc=>?_) (fun hc=>?_)
  ·have hi:i<n:=by simpa using hc
   refine ec_skip ?_
   refine sq_n ?_
   refine ec_seq ?_
   refine ec_block ?_
   refine ec_sr ?_
   refine o_w (v:=.pointer (some ⟨br,0,none⟩)) (r_mov rfl) ?_
   refine o_callP cf_rtextF rfl (rdF_text Gr.Br 42 (by simp only [List.length_drop]; omega)) rfl rfl ?_ (by
    rintro _ w' ⟨rfl,hno,G⟩
    simp only [List.length_drop] at hno
    have hbi:bad i=true:=by show (decide (t.length<26 + 42 * (i + 1))||_)=true; rw [show decide (t.length<26 + 42 * (i + 1))=true by simp; omega]; rfl
    obtain rfl:=hb.2.1 hi hbi
    exact ⟨(fun h=>by cases h),.inr ⟨rfl,_,rfl,rfl,rfl,rfl,rfl,wr,Gr.B2,Gr.B3,Gr.E,G⟩⟩)
   rintro _ w16 ⟨hok,rfl,F16,Br16⟩
   simp only [List.length_drop] at hok
   have G16:=Gr.rd d F16 Br16
   have O16:=Or.fr F16 (fun m hm=>by rw [List.mem_singleton] at hm; rw [hm]; simp)
   have hLx:Lt (own v++(br::b7::b3::b2::L)) w16:=(G16.lt hL).own O16
   refine o_call cf_entry_Get rfl (entry_Get_c (L:=own v++(br::b7::b3::b2::L)) (((t.drop 26).drop (42 * i)).take 42) hLx (entGet_ev _ (by unfold okG; rw [List.length_take]; omega))) rfl rfl ?_
   rintro _ w17 ⟨F17,cs,rfl,S17⟩
   generalize hX:getE (((t.drop 26).drop (42 * i)).take 42)=X at S17
   obtain ⟨A1,c1,A2,c2,rfl,H1,H2⟩:=kEnt_open S17
   refine o_w (v:=.tuple #[.agg (cEnt X.1 A1 c1 A2 c2).toArray,.int .i64 X.2]) (r_mov rfl) ?_
   refine o_w (v:=.agg (cEnt X.1 A1 c1 A2 c2).toArray) (r_ext rfl rfl) ?_
   refine o_w (v:=.int .i64 X.2) (r_ext rfl rfl) ?_
   refine o_alloc zero_api_Entry rfl rfl rfl ?_
   intro b8 w18 e8 F18 B18
   refine o_store rfl B18 (vs:=cEnt X.1 A1 c1 A2 c2) rfl sz_api_Entry rfl rfl rfl ?_
   intro w19 F19 B19
   have B19':Blk w19 b8 55 (cEnt X.1 A1 c1 A2 c2):=B19
   have E19:Ext w17 w19:=Ext.st F18 F19 (fun m hm=>by rw [List.mem_singleton] at hm; omega)
   have G19:=(G16.ex F17).ex E19
   have O19:=(O16.ex F17).ex E19
   refine o_w (v:=.int .i64 X.2) (r_asg rfl) ?_
   refine eo_r ?_
   refine o_w (v:=.int .i64 X.2) (r_mov rfl) ?_
   refine o_callP cf_need rfl (need_c X.2 w19) rfl rfl ?_ (by
    rintro _ w' ⟨rfl,hno,G⟩
    have hbi:bad i=true:=by show (_||!((getE (((t.drop 26).drop (42 * i)).take 42)).2==0))=true; rw [hX,show (X.2==0)=false by simpa using hno]; simp
    obtain rfl:=hb.2.1 hi hbi
    exact ⟨(fun h=>by cases h),.inr ⟨rfl,_,rfl,rfl,rfl,rfl,rfl,w',G19.B2.ex G,G19.B3.ex G,G19.E.trans G,Fr.refl _ _⟩⟩)
   rintro _ w20 ⟨hX0,rfl,F20⟩
   have hbi:bad i=false:=by show (decide (t.length<26 + 42 * (i + 1))||!((getE (((t.drop 26).drop (42 * i)).take 42)).2==0))=false; rw [hX,hX0,show decide (t.length<26 + 42 * (i + 1))=false by simp; omega]; rfl
   obtain rfl:=hb.1 hi hbi
   have G20:=G19.ex F20
   have O20:=O19.ex F20
   have hel:=entsG_len i (t.drop 26)
   refine eo_q ?_
   refine o_w (v:=.pointer (some ⟨b7,7,none⟩)) (r_fa fld_frame_Frame_4 rfl rfl) ?_
   refine o_w (v:=v) (r_ld one_s_api_Entry rfl (G20.B7.cell rfl)) ?_
   refine o_w (v:=.agg (cEnt X.1 A1 c1 A2 c2).toArray) (r_lda agg_api_Entry rfl (vs:=cEnt X.1 A1 c1 A2 c2) rfl ((B19'.ex F20).part (n:=9) rfl)) ?_
   refine o_bslice slc_s_api_Entry rfl (vs:=[.agg (cEnt X.1 A1 c1 A2 c2).toArray]) rfl rfl rfl (cs:=cEnt X.1 A1 c1 A2 c2) rfl rfl rfl rfl ?_
   intro b9 w21 e9 F21 B21
   have E21:=(E19.trans F20).trans F21
   refine o_app slc_s_api_Entry rfl rfl rfl (O20.ex F21) rfl B21 (ys:=([X.1]:List Ent)) rfl rfl rfl (rowd1 (cs:=cEnt X.1 A1 c1 A2 c2) (kEnt_mk (d:=X.1) (H1.ex E21) (H2.ex E21)) rfl) (by rw [hel]; omega) rfl rfl ?_
   intro v' w22 F22 O22 N22
   have G22:=(G20.ex F21).own (by have:=G15.E.size; omega) (O20.ex F21) F22
   refine o_w (v:=.pointer (some ⟨b7,7,none⟩)) (r_fa fld_frame_Frame_4 rfl rfl) ?_
   obtain ⟨A',c',rfl⟩:=O22.shape
   refine o_store rfl G22.B7 (vs:=[.slice A' (entsG i (t.drop 26)++[X.1]).length c']) rfl sz_s_api_Entry rfl rfl rfl ?_
   intro w23 F23 B23
   have G23:GI w b2 b3 br b7 (((t.drop 26).drop (42 * i)).drop 42) (xC t (.slice A' (entsG i (t.drop 26)++[X.1]).length c')) w23:=G22.st d F23 B23
   have O23:=O22.fr F23 (fun m hm=>by rw [List.mem_singleton] at hm; rw [hm]; simp)
   rw [List.drop_drop,show 42 * i + 42=42 * (i + 1) by omega] at G23
   rw [← hX,← entsG_snoc] at G23 O23
   refine eo_nil ?_
   refine blk_n ?_
   refine sq_n ?_
   refine ec_region ?_
   have e3:IntKind.i64.wrap ((i:Int) + (1:Int))=((i + 1:Nat):Int):=by rw [IntKind.wrap_i64]; omega
   refine o_w (v:=.int .i64 ((i + 1:Nat):Int)) (r_int rfl rfl (by show some (Value.int .i64 (IntKind.i64.wrap ((i:Int) + (1:Int))))=_; rw [e3])) ?_
   refine o_w (v:=.int .i64 ((i + 1:Nat):Int)) (r_mov rfl) ?_
   refine eo_nil ?_
   refine ⟨rfl,_,_,envs_self ⟨rfl,rfl,rfl,rfl,rfl,rfl,trivial⟩,rfl,⟨by omega,fun j hj=>?_⟩,G23,O23⟩
   rcases Nat.lt_or_ge j i with h | h
   ·exact hpre j h
   ·rw [show j=i by omega]; exact hbi
  ·have hi:¬ i<n:=by simpa using hc
   obtain rfl:=hb.2.2 hi
   obtain rfl:i=n:=by omega
   refine ec_exit ?_
   refine sq_exit ?_
   exact ⟨(fun h=>by cases h),.inl ⟨rfl,rfl,_,_,envs_self ⟨rfl,rfl,rfl,rfl,rfl,rfl,trivial⟩,rfl,⟨hin,hpre⟩,Gr,Or⟩⟩
 ·refine ⟨_,.slice none 0 0,envs_self ⟨rfl,rfl,rfl,rfl,rfl,rfl,trivial⟩,rfl,⟨by omega,fun j hj=>by omega⟩,by simpa using G15,OwnS.nil (by decide) (G15.lt hL)⟩
 rintro e ρ3 ds3 w30 he (⟨hy,rfl,hI⟩ | ⟨hy,c,rfl,rfl,rfl,h2,h3,wx,X2,X3,EX,GX⟩)
 ·obtain ⟨ρ3',v,rfl,rfl,⟨_,hall⟩,G30,O30⟩:=hI
  refine blk_hit ?_
  refine sq_n ?_
  refine ec_seq ?_
  refine ec_sr ?_
  have hlen:((t.drop 26).drop (42 * n)).length=t.length - 26 - 42 * n:=by simp only [List.length_drop]
  generalize hR:(t.drop 26).drop (42 * n)=R at G30 hlen
  refine o_w (v:=.pointer (some ⟨br,0,none⟩)) (r_mov rfl) ?_
  refine o_w (v:=.pointer (some ⟨br,0,none⟩)) (r_nilchk rfl) ?_
  refine o_w (v:=.pointer (some ⟨br,0,none⟩)) (r_fa fld_readerF_0 rfl rfl) ?_
  refine o_w (v:=str R) (r_ld one_string rfl (G30.Br.cell rfl)) ?_
  refine o_w (v:=.bool (!(R==([]:Str)))) (r_str rfl rfl rfl) ?_
  have hle:26 + 42 * n≤t.length:=by
   rcases Nat.eq_zero_or_pos n with h0 | h0
   ·omega
   ·have h1:(decide (t.length<26 + 42 * (n - 1 + 1))||!((getE (((t.drop 26).drop (42 * (n - 1))).take 42)).2==0))=false:=hall (n - 1) (by omega)
    have:=of_decide_eq_false (Bool.or_eq_false_iff.1 h1).1
    omega
  refine eo_nil_sq ?_
  refine ec_cond rfl (fun hc=>?_) (fun hc=>?_)
  ·have hR0:R≠[]:=by simpa using hc
   refine ec_region ?_
   refine o_callP cf_need rfl (need_c 2 w30) rfl rfl ?_ (by
    rintro _ w' ⟨rfl,hno,G⟩
    refine pan (G30.B2.ex G) (G30.B3.ex G) (G30.E.trans G) (Fr.refl _ _) rfl rfl (getFr_len ?_)
    rw [ht,hN]
    intro c
    exact hR0 (List.eq_nil_of_length_eq_zero (by omega)))
   rintro _ w31 ⟨c,_⟩
   exact absurd c (by decide)
  ·have hR0:R=[]:=by simpa using hc
   have htl2:t.length=26 + 42 * n:=by rw [hR0] at hlen; simp at hlen; omega
   refine ec_skip ?_
   refine sq_n ?_
   refine ec_seq ?_
   obtain ⟨A,c,rfl,HA⟩:=O30.still
   have hxr:xC t (.slice A (entsG n (t.drop 26)).length c)=cFrm (readF t) A c:=by unfold readF; rw [hN]
   have hents:(readF t).entries=entsG n (t.drop 26):=by unfold readF; rw [hN]
   have HA':Stb (br::b7::b3::b2::L) w30 (fun w=>SlC kEnt w A c (readF t).entries):=by rw [hents]; exact HA
   rw [hxr] at G30
   refine ec_region ?_
   refine o_w (v:=.agg (cFrm (readF t) A c).toArray) (r_lda agg_frame_Frame rfl (vs:=cFrm (readF t) A c) rfl (G30.B7.part (o:=0) (n:=8) rfl)) ?_
   refine o_call cf_frame_Check rfl (frame_Check_c (readF t) (kFrm_mk (d:=readF t) HA' (getD_len _)) (G30.lt hL) (frCheck_ev _ (sml_readF t) (readF_len t))) rfl rfl ?_
   rintro _ w31 ⟨F31,rfl⟩
   have G31:=G30.ex F31
   refine o_callP cf_need rfl (need_c (checkF (readF t)) w31) rfl rfl ?_ (by
    rintro _ w' ⟨rfl,hno,G⟩
    refine pan (G31.B2.ex G) (G31.B3.ex G) (G31.E.trans G) (Fr.refl _ _) rfl rfl (getFr_check ?_)
    rw [ht]
    unfold okFr; simpa using hno)
   rintro _ w32 ⟨hck,rfl,F32⟩
   have G32:=G31.ex F32
   have hg:getFr s=(readF t,0):=by
    have:=getFr_ok (s:=s) hop (by rw [ht,hN]; exact htl2) (fun j hj=>by
     rw [ht,hN] at hj
     have h1:(decide (t.length<26 + 42 * (j + 1))||!((getE (((t.drop 26).drop (42 * j)).take 42)).2==0))=false:=hall j hj
     rw [ht]
     simpa using (Bool.or_eq_false_iff.1 h1).2) (by rw [ht]; unfold okFr; simpa using hck)
    rw [ht] at this; exact this
   rw [hg]
   refine eo_r ?_
   refine o_w (v:=.agg (cFrm (readF t) A c).toArray) (r_lda agg_frame_Frame rfl (vs:=cFrm (readF t) A c) rfl (G32.B7.part (o:=0) (n:=8) rfl)) ?_
   refine o_store rfl G32.B2 (vs:=cFrm (readF t) A c) rfl sz_frame_Frame rfl rfl rfl ?_
   intro w33 F33 B233
   refine o_store rfl (G32.B3.fr F33 (by simpa using n23.symm)) (vs:=[.int .i64 0]) rfl sz_api_Errno rfl rfl rfl ?_
   intro w34 F34 B334
   have E34:Ext w w34:=Ext.st (Ext.st G32.E F33 (by simp; omega)) F34 (by simp; omega)
   refine eo_nil_sq ?_
   refine ec_ret ?_
   have HB:Stb (br::b7::b3::b2::L) w34 (fun w=>SlC kEnt w A c (readF t).entries):=(((HA'.ex F31).ex F32).fr F33 (by simp)).fr F34 (by simp)
   exact get_endF (cs:=cFrm (readF t) A c) rfl rfl (B233.fr F34 (by simpa using n23)) B334 rfl E34 (kFrm_mk (d:=readF t) (HB.up (Fr.refl [] _) (fun _ h=>by cases h) (fun m hm=>.inl (by simp [hm]))) (getD_len _))
 ·obtain ⟨j,hj,hbj⟩:=hyf hy
  exact pan X2 X3 EX GX h2 h3 (hbad j hj hbj)
end Go.Proofs.YtdfjbkoimpjkaaaGreat