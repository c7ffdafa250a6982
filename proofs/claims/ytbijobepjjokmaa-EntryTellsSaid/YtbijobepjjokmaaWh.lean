/- entry.Get where nothing panics: what is deferred. -/
import Derived.Test.YtbijobepjjokmaaHf
namespace Go.Proofs.Ytbijobepjjokmaa
open Go Go.RowKit
set_option linter.unusedVariables false
set_option linter.unusedSimpArgs false

def EOS (P:Program) (N:Nat) (ops:Array Oper) (Q:Exit→Act→List Frame→World→Prop) (l:List Nat) (ρ:Env) (cs:List Frame) (w:World):Prop :=
 ∀ a:Act,a.tmps.size=N→envOf a=ρ→a.defers=[]→wpOpsSIn (FW none) 0 P ops Q l a cs w
section
variable {P : Program} {N : Nat} {ops : Array Oper} {Q : Exit → Act → List Frame → World → Prop} {rest : List Nat} {ρ : Env} {cs : List Frame} {w w' : World} {i d : Nat}
theorem eos_v {op:Op} {ty:TypeId} {pos:String} {after:Array Edge} {v:Value} (ho:ops[i]?=some ⟨some d,op,ty,pos,after,none⟩) (hr:(execOp (ev ρ) ⟨some d,op,ty,pos,after,none⟩).run P w=.ok (.value v) w') (hd:Nat.blt d N=true) (h:EOS P N ops Q rest (upd ρ d v) cs w') :
  EOS P N ops Q (i::rest) ρ cs w:=fun a h1 h2 h3=>by
 unfold wpOpsSIn
 rw [ho]
 refine ⟨fun _ _=>trivial,?_⟩
 have hw:Region.wanted (⟨some d,op,ty,pos,after,none⟩:Oper) (yielded ops a.tmps)=true:=rfl
 rw [if_pos hw,← ev_envOf,h2,hr]
 exact h _ (by rw [put_size]; exact h1) (by rw [envOf_put _ _ _ (by rw [h1]; exact hd),h2]; rfl) (by rw [put_defers']; exact h3)
theorem eos_u {op:Op} {ty:TypeId} {pos:String} {after:Array Edge} (ho:ops[i]?=some ⟨none,op,ty,pos,after,none⟩) (hr:(execOp (ev ρ) ⟨none,op,ty,pos,after,none⟩).run P w=.ok .skip w') (h:EOS P N ops Q rest ρ cs w') :
  EOS P N ops Q (i::rest) ρ cs w:=fun a h1 h2 h3=>by
 unfold wpOpsSIn
 rw [ho]
 refine ⟨fun _ _=>trivial,?_⟩
 have hw:Region.wanted (⟨none,op,ty,pos,after,none⟩:Oper) (yielded ops a.tmps)=true:=rfl
 rw [if_pos hw,← ev_envOf,h2,hr]
 exact h _ h1 h2 h3
theorem eos_rec {op:Op} {ty:TypeId} {pos:String} {after:Array Edge} (ho:ops[i]?=some ⟨some d,op,ty,pos,after,none⟩) (hr:(execOp (ev ρ) ⟨some d,op,ty,pos,after,none⟩).run P w=.ok .recover w) (hc:recoverD cs=none) (hd:Nat.blt d N=true) (h:EOS P N ops Q rest (upd ρ d .nilIface) cs w) :
  EOS P N ops Q (i::rest) ρ cs w:=fun a h1 h2 h3=>by
 unfold wpOpsSIn
 rw [ho]
 refine ⟨fun _ _=>trivial,?_⟩
 have hw:Region.wanted (⟨some d,op,ty,pos,after,none⟩:Oper) (yielded ops a.tmps)=true:=rfl
 rw [if_pos hw,← ev_envOf,h2,hr]
 simp only [hc]
 exact h _ (by rw [put_size]; exact h1) (by rw [envOf_put _ _ _ (by rw [h1]; exact hd),h2]; rfl) (by rw [put_defers']; exact h3)
theorem eos_store {T:TypeId} {X Y:Operand} {b o:Nat} {e:TypeId} {c0 vs:List Value} {ty:TypeId} {pos:String} {after:Array Edge} (ho:ops[i]?=some ⟨none,.store T X Y,ty,pos,after,none⟩) (hX:ev ρ X=.pointer (some ⟨b,o,none⟩)) (hB:Blk w b e c0) (hY:(ev ρ Y).cells=vs.toArray)
  (hT:Sz P T vs.length) (h1:vs.all oneC=true) (hl:Nat.ble (o + vs.length) c0.length=true) (h:∀ w',Fr [b] w w'→Blk w' b e (setL c0 o vs)→EOS P N ops Q rest ρ cs w') :
  EOS P N ops Q (i::rest) ρ cs w:=by
 obtain ⟨j,h2,h3⟩:=hT
 obtain ⟨w',hr,hf,hb⟩:=run_storeL (P:=P) (o:=o) vs 0 c0 w hB h1 (by have:=Nat.le_of_ble_eq_true hl; omega)
 refine eos_u (w':=w') ho ?_ (h w' hf hb)
 simp [execOp,hX,Instr.storeAt,Instr.sureAddr,storeVar,hY,sizeOf,typeInfo,h2,h3,hr,program,Sem.run,Result.andThen]
theorem eos_nil (h:∀ a:Act,a.tmps.size=N→envOf a=ρ→a.defers=[]→Q .normal a cs w):EOS P N ops Q [] ρ cs w:=fun a h1 h2 h3=>by
 unfold wpOpsSIn; exact h a h1 h2 h3
end
theorem envOf_base (args:Array Value) (n:Nat):envOf { tmps:=args++Array.replicate n undef,defers:=[] }=base args:=by
 funext t
 simp only [envOf,base,Array.getD_eq_getD_getElem?,List.getD_eq_getElem?_getD,Array.getElem?_append,Array.getElem?_toList]
 by_cases h1:t<args.size
 ·simp [h1]
 ·rw [if_neg h1,Array.getElem?_eq_none (Nat.le_of_not_lt h1)]
  simp only [Array.getElem?_replicate]
  split <;> rfl
theorem un_odd:∃ fs,Try.prog.underlying 63=some (.struct fs):=⟨_,Try.underlying63⟩
theorem assert_nil (w:World) (xT:TypeId):(Instr.typeAssert .nilIface xT 63 true).run Try.prog w=.ok (.tuple #[.agg #[],.bool false]) w:=by
 obtain ⟨fs,hu⟩:=un_odd
 obtain ⟨i,h1,h2⟩:=zero_odd
 simp [Instr.typeAssert,run_underlying hu,zeroValue,typeInfo,h1,h2,program,Sem.run,Result.andThen]
theorem sz_odd:Sz Try.prog 63 0:=sz_of (show (Try.prog.info? 63).map (fun i=>(i.zero,i.size,i.bytes))=some (some (.agg #[]),0,0) by kernel_rfl)
set_option maxRecDepth 20000 in
set_option maxHeartbeats 4000000 in
theorem get1_idle (b2 b3:Nat) (w:World):CallsDIn (FW none) 0 Try.prog 41 #[.pointer (some ⟨b2,0,none⟩),.pointer (some ⟨b3,0,none⟩)] .returning w fun e u' w'=>(∃ v,e=.returned v)∧u'=.returning∧Ext w w':=by
 refine callsDIn_of_wpSIn Try.func41 rfl trivial fun c₀ cs hu=>?_
 apply wpSIn_seq
 apply wpSIn_region
 have hc:recoverD (c₀::cs)=none:=by simp [recoverD,hu]
 have hself:({ c₀ with mode:=.returning }:Frame)=c₀:=by rw [← hu]
 refine (?_:EOS Try.prog 11 _ _ [0,1,2,3,4,5,6,7] (base #[.pointer (some ⟨b2,0,none⟩),.pointer (some ⟨b3,0,none⟩)]) (c₀::cs) w) _ (by rfl) ?_ rfl
 ·refine eos_rec rfl (by rfl) hc rfl ?_
  refine eos_v (w':=w) (v:=.tuple #[.agg #[],.bool false]) rfl (by simp [execOp,ev,upd,assert_nil]) rfl ?_
  refine eos_v (w':=w) (v:=.tuple #[.agg #[],.bool false]) rfl (r_mov rfl) rfl ?_
  refine eos_v (w':=w) (v:=.agg #[]) rfl (r_ext rfl rfl) rfl ?_
  refine eos_v (w':=w) (v:=.bool false) rfl (r_ext rfl rfl) rfl ?_
  have hz:(zeroValue 63).run Try.prog w=.ok (.agg #[]) w:=by
   obtain ⟨i,h1,h2⟩:=zero_odd
   simp [zeroValue,typeInfo,h1,h2,program,Sem.run,Result.andThen]
  refine eos_v (w':=w.alloc (.cells #[] 63)) (v:=.pointer (some ⟨w.heap.size,0,none⟩)) rfl (by
   simp only [execOp,Instr.alloc,Sem.run_bind,hz,Result.andThen,newVar,newRow,newObj]; rfl) rfl ?_
  have hB:Blk (w.alloc (.cells #[] 63)) w.heap.size 63 []:=Blk.alloc w 63 []
  refine eos_store rfl rfl hB (vs:=[]) rfl sz_odd rfl rfl ?_
  intro w1 hf _
  have E1:Ext w w1:=Ext.st (Ext.alloc w _) hf (fun m hm=>by rw [List.mem_singleton] at hm; rw [hm]; exact Nat.le_refl _)
  refine eos_v (w':=w1) (v:=.bool false) rfl (r_asg rfl) rfl ?_
  refine eos_nil fun a h1 h2 h3=>?_
  refine wpSIn_of_wpIn rfl ?_
  refine wpIn_mono ((?hE:EC Try.prog none 11 _ (fun e ρ ds w'=>e=.normal∧ds=[]∧Ext w w') _ [] w1) a h1 h2 h3) ?_
  case hE =>
   refine ec_seq ?_
   refine ec_region ?_
   refine o_w (v:=.bool false) (r_mov rfl) ?_
   refine eo_nil_sq ?_
   refine ec_condF rfl rfl ?_
   exact ec_skip ⟨rfl,rfl,E1⟩
  rintro e a' w' ⟨hs,rfl,hd,hx⟩
  exact ⟨hd,.returning,by rw [hself],.tuple #[],by (rw [← resE_envOf]; show (resE #[] _).run _ _=_; simp [resE]),⟨_,rfl⟩,rfl,hx⟩
 ·exact envOf_base _ _
end Go.Proofs.Ytbijobepjjokmaa

/- entry.Get where nothing panics. -/
namespace Go.Proofs.Ytbijobepjjokmaa
open Go Go.RowKit
set_option linter.unusedVariables false
set_option linter.unusedSimpArgs false

def kindG (s:Str):Int:=(leN (s.take 1):Int)
def klenG (s:Str):Nat:=leN ((s.drop 1).take 1)
def readE (s:Str):Ent:=⟨(s.drop 2).take (klenG s),readV (kindG s) (s.drop 10)⟩
/-- Nothing panics. -/
def okG (s : Str) : Prop := 42 ≤ s.length ∧ s.length ≤ 9223372036854775807 ∧ klenG s ≤ 8 ∧ (kindG s = 1 → leN (((s.drop 10).drop 6).take 1) ≤ 8)
def getE (s:Str):Ent × Int:=bif ((putE (readE s)).2 != 0)||!((putE (readE s)).1==s) then (zeroE,2) else (readE s,0)
theorem sm_readV (k:Int) (s:Str):sm (readV k s):=by
 unfold readV
 cases k==1 with
 | true=>exact ⟨Nat.zero_le _,Nat.zero_le _⟩
 | false =>
  cases k==2 with
  | true=>exact ⟨by simp [pairs_len],by simp [pairs_len]⟩
  | false=>cases k==3 <;> exact ⟨Nat.zero_le _,Nat.zero_le _⟩
def entry_Get_raw (s:Str) (y:Ent × Int):Prop:=okG s∧y=getE s
theorem entGet_ev (s:Str) (h:okG s):entry_Get_raw s (getE s):=⟨h,rfl⟩
theorem zero_reader:Zero Try.prog 67 (.agg #[str []]):=zero_of (show (Try.prog.info? 67).map (fun i=>(i.zero,i.size,i.bytes))=some (some (.agg #[str []]),1,16) by kernel_rfl)
theorem bld_reader:Bld Try.prog 67 [(0,1)] [str []]:=bld_struct zero_reader rfl Try.underlying67 (fun _=>by kernel_rfl)
theorem cf_entry_Put:CF Try.prog 12:=fun _ _=>by kernel_rfl
theorem get_end {ρ:Env} {w w1:World} {b2 b3:Nat} {L:List Nat} {cs:List Value} {x:Ent} {n:Int} (h2:ρ 2=.pointer (some ⟨b2,0,none⟩)) (h3:ρ 3=.pointer (some ⟨b3,0,none⟩))
  (B2:Blk w1 b2 27 cs) (B3:Blk w1 b3 30 [.int .i64 n]) (hn:cs.length=9) (E:Ext w w1) (S:Stb L w1 (fun w=>kEnt.r w cs x)) :
  leaveD Try.prog #[ResultVar.cell 2 27,ResultVar.cell 3 30] (Ret fun v w'=>Ext w w'∧∃ (cs90:List Value),v=.tuple #[.agg cs90.toArray,.int .i64 n]∧Stb L w' (fun w=>kEnt.r w cs90 x)) ρ
   [{ target:=.fn (.func 41) [.pointer (some ⟨b2,0,none⟩),.pointer (some ⟨b3,0,none⟩)].toArray,args:=#[] }] .returning w1:=by
 have hi:(invoke (.fn (.func 41) [.pointer (some ⟨b2,0,none⟩),.pointer (some ⟨b3,0,none⟩)].toArray) #[]).run Try.prog w1=.ok (.enter 41 #[.pointer (some ⟨b2,0,none⟩),.pointer (some ⟨b3,0,none⟩)]) w1:=by
  simp [invoke]
 refine ⟨by simp,_,_,_,_,rfl,hi,(get1_idle b2 b3 w1).mono ?_⟩
 rintro e u w' ⟨⟨v,rfl⟩,rfl,hx⟩
 obtain ⟨_,v',h⟩:=endr2 (P:=Try.prog) (w:=w') (R:=Ret fun v w'=>Ext w w'∧∃ (cs90:List Value),v=.tuple #[.agg cs90.toArray,.int .i64 n]∧Stb L w' (fun w=>kEnt.r w cs90 x)) (rv_a h2 agg_api_Entry (B2.ex hx) hn (by rw [List.drop_zero,← hn,List.take_length])) (rv_c h3 one_api_Errno (B3.ex hx) rfl) ⟨_,rfl,E.trans hx,_,rfl,S.ex hx⟩
 exact ⟨v',h⟩
set_option maxRecDepth 20000 in
set_option maxHeartbeats 8000000 in
theorem entry_Get_c {L:List Nat} {w:World} (s:Str) (hL:Lt L w) {y:Ent × Int} (h:entry_Get_raw s y) :
  Calls Try.prog 21 [str s].toArray w (Ret fun v w'=>Ext w w'∧∃ (cs90:List Value),v=.tuple #[.agg cs90.toArray,.int .i64 y.2]∧Stb L w' (fun w=>kEnt.r w cs90 y.1)):=by
 obtain ⟨⟨h42,hsz,hkl,htl⟩,rfl⟩:=h
 refine calls_ecD Try.func21 rfl rfl rfl ?_
 refine ec_seq ?_
 refine ec_region ?_
 refine o_alloc zero_api_Entry rfl rfl rfl ?_
 intro b2 w1 e2 F1 B2
 refine o_alloc zero_api_Errno rfl rfl rfl ?_
 intro b3 w2 e3 F2 B3
 refine eo_nil_sq ?_
 refine ec_seq ?_
 refine ec_region ?_
 refine o_w (v:=.func (.func 41) #[] #[.pointer (some ⟨b2,0,none⟩),.pointer (some ⟨b3,0,none⟩)]) (r_mkfb (us:=[]) (vs:=[.pointer (some ⟨b2,0,none⟩),.pointer (some ⟨b3,0,none⟩)]) rfl rfl) ?_
 refine o_defer (caps:=[.pointer (some ⟨b2,0,none⟩),.pointer (some ⟨b3,0,none⟩)]) rfl rfl ?_
 refine eo_nil_sq ?_
 refine ec_seq ?_
 refine ec_region ?_
 refine o_w (v:=str s) (r_mov rfl) ?_
 refine o_w (v:=.agg #[str s]) (r_build bld_reader (vs:=[(0,str s)]) (cells:=[str s]) rfl rfl) ?_
 refine o_box (cs:=[str s]) rfl rfl rfl ?_
 intro br w3 er F3 Br
 refine o_w (v:=.pointer (some ⟨br,0,none⟩)) (r_asg rfl) ?_
 have hb2:=B2.lt
 have hb3:=B3.lt
 have s1:=F1.size
 have s2:=F2.size
 have B2r:=(B2.ex F2).ex F3
 have B3r:=B3.ex F3
 have E3:Ext w w3:=(F1.trans F2).trans F3
 have hbr:w.heap.size≤br:=by omega
 have n2:b2≠br:=by omega
 have n3:b3≠br:=by omega
 have n23:b2≠b3:=by omega
 refine eo_nil_sq ?_
 refine ec_seq ?_
 refine ec_region ?_
 refine o_w (v:=.pointer (some ⟨br,0,none⟩)) (r_mov rfl) ?_
 refine o_call cf_rnumber rfl (rd_num Br 1 (by omega) (by omega) hsz (by omega)) rfl rfl ?_
 rintro _ w4 ⟨rfl,F4,Br4⟩
 have B24:=B2r.fr F4 (by simpa using n2)
 have B34:=B3r.fr F4 (by simpa using n3)
 have E4:Ext w w4:=Ext.st E3 F4 (fun m hm=>by rw [List.mem_singleton] at hm; rw [hm]; exact hbr)
 refine o_w (v:=.int .i64 (kindG s)) (r_asg rfl) ?_
 refine eo_nil_sq ?_
 refine ec_seq ?_
 refine ec_region ?_
 iterate 2 refine o_w (v:=.pointer (some ⟨br,0,none⟩)) (r_mov rfl) ?_
 refine o_call cf_rnumber rfl (rd_num Br4 1 (by omega) (by omega) (by rw [List.length_drop]; omega) (by rw [List.length_drop]; omega)) rfl rfl ?_
 rintro _ w5 ⟨rfl,F5,Br5⟩
 have B25:=B24.fr F5 (by simpa using n2)
 have B35:=B34.fr F5 (by simpa using n3)
 have E5:Ext w w5:=Ext.st E4 F5 (fun m hm=>by rw [List.mem_singleton] at hm; rw [hm]; exact hbr)
 refine o_call cf_rtext rfl (rd_txt Br5 (klenG s) 8 (by simp only [List.length_drop]; omega) hkl (by simp only [List.length_drop]; omega)) rfl rfl ?_
 rintro _ w6 ⟨rfl,F6,Br6⟩
 have B26:=B25.fr F6 (by simpa using n2)
 have B36:=B35.fr F6 (by simpa using n3)
 have E6:Ext w w6:=Ext.st E5 F6 (fun m hm=>by rw [List.mem_singleton] at hm; rw [hm]; exact hbr)
 have hkey:((s.drop 1).drop 1).take (klenG s)=(readE s).key:=by simp [readE,List.drop_drop]
 have hrest:((s.drop 1).drop 1).drop 8=s.drop 10:=by simp [List.drop_drop]
 rw [hrest] at Br6
 rw [hkey]
 refine o_w (v:=.agg #[str (readE s).key,.int .i64 0,.int .i64 0,.int .i64 0,.bool false,str [],.slice none 0 0,.slice none 0 0,.int .u64 0]) (r_build bld_api_Entry (vs:=[(0,str (readE s).key)]) (cells:=[str (readE s).key,.int .i64 0,.int .i64 0,.int .i64 0,.bool false,str [],.slice none 0 0,.slice none 0 0,.int .u64 0]) rfl rfl) ?_
 refine o_alloc zero_api_Entry rfl rfl rfl ?_
 intro b6 w7 e6 F7 B6
 refine o_store rfl B6 (vs:=[str (readE s).key,.int .i64 0,.int .i64 0,.int .i64 0,.bool false,str [],.slice none 0 0,.slice none 0 0,.int .u64 0]) rfl sz_api_Entry rfl rfl rfl ?_
 intro w8 F8 B68
 have hB2l:=B26.lt
 have hB3l:=B36.lt
 have hBrl:=Br6.lt
 have n62:b2≠b6:=by omega
 have n63:b3≠b6:=by omega
 have n6r:br≠b6:=by omega
 have h6:w.heap.size≤b6:=by have:=E6.size; omega
 have B28:=(B26.ex F7).fr F8 (by simpa using n62)
 have B38:=(B36.ex F7).fr F8 (by simpa using n63)
 have Br8:=(Br6.ex F7).fr F8 (by simpa using n6r)
 have E8:Ext w w8:=Ext.st (E6.trans F7) F8 (fun m hm=>by rw [List.mem_singleton] at hm; rw [hm]; exact h6)
 have hL8:Lt (br::b6::b3::b2::L) w8:=(((((hL.fr E8).cons B28.lt).cons B38.lt).cons B68.lt).cons Br8.lt)
 refine eo_nil_sq ?_
 refine ec_seq ?_
 refine ec_region ?_
 refine o_w (v:=.pointer (some ⟨br,0,none⟩)) (r_mov rfl) ?_
 refine o_w (v:=.int .i64 (kindG s)) (r_mov rfl) ?_
 refine o_call cf_rvalue rfl (rd_value hL8 (by simp) Br8 (kindG s) (by rw [List.length_drop]; omega) (by rw [List.length_drop]; omega) htl) rfl rfl ?_
 rintro _ w9 ⟨F9,A1,c1,A2,c2,rfl,S1,S2⟩
 have B29:=B28.fr F9 (by simpa using n2)
 have B39:=B38.fr F9 (by simpa using n3)
 have B69:=B68.fr F9 (by simpa using n6r.symm)
 have E9:Ext w w9:=Ext.st E8 F9 (fun m hm=>by rw [List.mem_singleton] at hm; rw [hm]; exact hbr)
 refine o_w (v:=.pointer (some ⟨b6,1,none⟩)) (r_fa fld_api_Entry_1 rfl rfl) ?_
 refine o_store rfl B69 (vs:=cVal (readE s).val A1 c1 A2 c2) rfl sz_api_Value rfl rfl rfl ?_
 intro w10 F10 B610
 have S1':=S1.fr F10 (by simp)
 have S2':=S2.fr F10 (by simp)
 have B210:=B29.fr F10 (by simpa using n62)
 have B310:=B39.fr F10 (by simpa using n63)
 have B6':Blk w10 b6 27 (cEnt (readE s) A1 c1 A2 c2):=B610
 have E10:Ext w w10:=Ext.st E9 F10 (fun m hm=>by rw [List.mem_singleton] at hm; rw [hm]; exact h6)
 have hbr8:=Br8.lt
 have s9:=F9.size
 have s10:=F10.size
 have hL10:Lt (br::b6::b3::b2::L) w10:=((((hL.fr E10).cons B210.lt).cons B310.lt).cons B6'.lt).cons (by omega)
 refine eo_nil_sq ?_
 iterate 2 refine ec_seq ?_
 refine ec_region ?_
 refine o_w (v:=.agg (cEnt (readE s) A1 c1 A2 c2).toArray) (r_lda agg_api_Entry rfl (vs:=cEnt (readE s) A1 c1 A2 c2) rfl (B6'.part (o:=0) (n:=9) rfl)) ?_
 refine o_call cf_entry_Put rfl (entry_Put_c (readE s) (kEnt_mk (d:=readE s) S1' S2') hL10 (entPut_ev _ (sm_readV _ _))) rfl rfl ?_
 rintro _ w11 ⟨F11,rfl⟩
 have B211:=B210.ex F11
 have B311:=B310.ex F11
 have B611:=B6'.ex F11
 have S11:=(S1'.ex F11)
 have S21:=(S2'.ex F11)
 have E11:=E10.trans F11
 have hs11:=E11.size
 have hsub:∀ m∈L,m∈(br::b6::b3::b2::L):=fun m hm=>by simp [hm]
 refine o_w (v:=.tuple #[str (putE (readE s)).1,.int .i64 (putE (readE s)).2]) (r_mov rfl) ?_
 refine o_w (v:=str (putE (readE s)).1) (r_ext rfl rfl) ?_
 refine o_w (v:=.int .i64 (putE (readE s)).2) (r_ext rfl rfl) ?_
 refine o_w (v:=str (putE (readE s)).1) (r_asg rfl) ?_
 refine o_w (v:=.int .i64 (putE (readE s)).2) (r_asg rfl) ?_
 refine eo_nil_sq ?_
 refine ec_seq ?_
 refine ec_region ?_
 refine o_w (v:=.int .i64 (putE (readE s)).2) (r_mov rfl) ?_
 refine o_w (v:=.bool ((putE (readE s)).2 != 0)) (r_int rfl rfl rfl) ?_
 refine o_w (v:=.bool ((putE (readE s)).2 != 0)) (r_mov rfl) ?_
 have hn2:b2≠b3:=n23
 by_cases hd:((putE (readE s)).2 != 0)=true
 ·iterate 3 refine o_no (want_f (t:=31) rfl rfl hd) rfl ?_
  refine o_w (v:=.bool true) (r_pickT rfl hd rfl) ?_
  refine eo_nil_sq ?_
  refine ec_condT rfl rfl ?_
  refine ec_seq ?_
  refine ec_region ?_
  refine o_w (v:=.agg (cEnt zeroE none 0 none 0).toArray) (r_build bld_api_Entry (vs:=[]) (cells:=cEnt zeroE none 0 none 0) rfl rfl) ?_
  refine o_store rfl B211 (vs:=cEnt zeroE none 0 none 0) rfl sz_api_Entry rfl rfl rfl ?_
  intro w12 F12 B212
  refine o_store rfl (B311.fr F12 (by simpa using n23.symm)) (vs:=[.int .i64 2]) rfl sz_api_Errno rfl rfl rfl ?_
  intro w13 F13 B313
  refine eo_nil_sq ?_
  refine ec_ret ?_
  refine sq_ret ?_
  have hg:getE s=(zeroE,2):=by simp only [getE,hd,Bool.true_or,cond_true]
  rw [hg]
  exact get_end rfl rfl (B212.fr F13 (by simpa using n23)) B313 rfl (Ext.st (Ext.st E11 F12 (by simp; omega)) F13 (by simp; omega)) (kEnt_mk (d:=zeroE) stb_nil stb_nil)
 ·have hd':((putE (readE s)).2 != 0)=false:=by simpa using hd
  refine o_v (v:=str (putE (readE s)).1) (r_mov rfl) (want_t (t:=31) rfl rfl hd') rfl rfl ?_
  refine o_v (v:=str s) (r_mov rfl) (want_t (t:=31) rfl rfl hd') rfl rfl ?_
  refine o_v (v:=.bool (!((putE (readE s)).1==s))) (r_str rfl rfl rfl) (want_t (t:=31) rfl rfl hd') rfl rfl ?_
  refine o_w (v:=.bool (!((putE (readE s)).1==s))) (r_pickF rfl hd' rfl) ?_
  refine eo_nil_sq ?_
  refine ec_cond rfl (fun h2=>?_) (fun h2=>?_)
  ·refine ec_seq ?_
   refine ec_region ?_
   refine o_w (v:=.agg (cEnt zeroE none 0 none 0).toArray) (r_build bld_api_Entry (vs:=[]) (cells:=cEnt zeroE none 0 none 0) rfl rfl) ?_
   refine o_store rfl B211 (vs:=cEnt zeroE none 0 none 0) rfl sz_api_Entry rfl rfl rfl ?_
   intro w12 F12 B212
   refine o_store rfl (B311.fr F12 (by simpa using n23.symm)) (vs:=[.int .i64 2]) rfl sz_api_Errno rfl rfl rfl ?_
   intro w13 F13 B313
   refine eo_nil_sq ?_
   refine ec_ret ?_
   refine sq_ret ?_
   have hg:getE s=(zeroE,2):=by simp only [getE,hd',h2,Bool.false_or,cond_true]
   rw [hg]
   exact get_end rfl rfl (B212.fr F13 (by simpa using n23)) B313 rfl (Ext.st (Ext.st E11 F12 (by simp; omega)) F13 (by simp; omega)) (kEnt_mk (d:=zeroE) stb_nil stb_nil)
  ·refine ec_skip ?_
   refine sq_n ?_
   refine ec_seq ?_
   refine ec_region ?_
   refine o_w (v:=.agg (cEnt (readE s) A1 c1 A2 c2).toArray) (r_lda agg_api_Entry rfl (vs:=cEnt (readE s) A1 c1 A2 c2) rfl (B611.part (o:=0) (n:=9) rfl)) ?_
   refine o_store rfl B211 (vs:=cEnt (readE s) A1 c1 A2 c2) rfl sz_api_Entry rfl rfl rfl ?_
   intro w12 F12 B212
   refine o_store rfl (B311.fr F12 (by simpa using n23.symm)) (vs:=[.int .i64 0]) rfl sz_api_Errno rfl rfl rfl ?_
   intro w13 F13 B313
   refine eo_nil_sq ?_
   refine ec_ret ?_
   have hg:getE s=(readE s,0):=by simp only [getE,hd',h2,Bool.false_or,cond_false]
   rw [hg]
   exact get_end rfl rfl (B212.fr F13 (by simpa using n23)) B313 rfl (Ext.st (Ext.st E11 F12 (by simp; omega)) F13 (by simp; omega))
    (kEnt_mk (d:=readE s) (((S11.fr F12 (by simp)).fr F13 (by simp)).weak hsub) (((S21.fr F12 (by simp)).fr F13 (by simp)).weak hsub))
end Go.Proofs.Ytbijobepjjokmaa

/- The text of a slice literal of bytes. -/
namespace Go.Proofs.Ytbijobepjjokmaa
open Go Go.RowKit
set_option linter.unusedVariables false
set_option linter.unusedSimpArgs false
section
variable {P : Program} {ρ : Env} {w : World} {d : Option Nat} {ty : TypeId} {pos : String} {after : Array Edge} {g : Option (Nat × Bool)}
theorem r_bstrB {s t e n bytes:Nat} {z:Value} {X:Operand} {b e':Nat} {cells:List Value} {l:List Int} (hs:Slc P s e n bytes z) (he:P.underlying e=some (.int .u8)) (ht:P.underlying t=some .string)
  (hX:ev ρ X=.slice (some ⟨b,0,none⟩) l.length l.length) (hB:Blk w b e' cells) (hc:cells=l.map fun n=>.int .u8 n) :
  RunV P ρ w ⟨d,.convert s t X,ty,pos,after,g⟩ (str (bstr l)):=by
 subst hc
 exact r_bstr hs he ht hX (bs_seal (k:=kI .u8) (L:=[]) hB (by simp) (by simp [kI]) (Stb.triv (rowD_u8 w l) |>.mono fun _ _=>rowD_u8 _ l)).now
end
end Go.Proofs.Ytbijobepjjokmaa
