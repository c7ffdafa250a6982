/- (*strings.Builder).WriteString, Len on a writer. -/
import Derived.Test.YtbijobepjjokmaaCt2
import Derived.Test.YtbijobepjjokmaaWb
namespace Go.Proofs.Ytbijobepjjokmaa
open Go Go.RowKit
set_option linter.unusedVariables false
set_option linter.unusedSimpArgs false

theorem un_s_uint8 : Try.prog.underlying 44=some (.slice 5):=Try.underlying44
theorem in_s_uint8:(Try.prog.info? 44).map (fun i=>(i.zero,i.size,i.bytes))=some (some (.slice none 0 0),1,24):=by kernel_rfl
theorem sz_s_uint8:Sz Try.prog 44 1:=sz_of in_s_uint8
theorem one_s_uint8:One Try.prog 44:=⟨⟨_,Try.underlying44,trivial⟩,sz_s_uint8⟩
theorem slc_s_uint8:Slc Try.prog 44 5 1 1 (.int .u8 0):=⟨un_s_uint8,info_parts' in_uint8⟩
theorem in_p_Builder:(Try.prog.info? 47).map (fun i=>(i.zero,i.size,i.bytes))=some (some (.pointer none),1,8):=by kernel_rfl
theorem sz_p_Builder:Sz Try.prog 47 1:=sz_of in_p_Builder
theorem one_p_Builder:One Try.prog 47:=⟨⟨_,Try.underlying47,trivial⟩,sz_p_Builder⟩
theorem in_Builder:(Try.prog.info? 49).map (fun i=>(i.zero,i.size,i.bytes))=some (some (.agg #[.pointer none,.slice none 0 0]),2,32):=by kernel_rfl
theorem fld_Builder_0:Fld Try.prog 49 0 0:=⟨_,Try.underlying49,_,rfl,rfl,fnz in_p_Builder (by decide)⟩
theorem fld_Builder_1:Fld Try.prog 49 1 1:=⟨_,Try.underlying49,_,rfl,rfl,fnz in_s_uint8 (by decide)⟩
theorem lies_Builder:liesAt Try.prog Try.prog.depth 51 (2 / Try.prog.cellsOf 51) 0 49 1=true:=by kernel_rfl
theorem cf_copyCheck:CF Try.prog 65:=fun _ _=>by kernel_rfl
theorem cf_WriteString:CF Try.prog 53:=fun _ _=>by kernel_rfl
theorem cf_BLen:CF Try.prog 29:=fun _ _=>by kernel_rfl
theorem noesc (x:Value) (w:World):(callFunc 68 #[x]).run Try.prog w=.ok (.value x) w:=by
 rw [run_callFunc_extern Try.func68 (by kernel_rfl) (by kernel_rfl) (by kernel_rfl) (e:=Extern.AbiNoEscape.same) (by kernel_rfl),Lib.run_noEscape]
 rfl

theorem cc_c {w:World} {b:Nat} {p v:Value} (HB:Blk w b 51 [p,v]) (hp:p=.pointer none∨p=.pointer (some ⟨b,0,none⟩)) :
  Calls Try.prog 65 [.pointer (some ⟨b,0,none⟩)].toArray w (Ret fun r w'=>r=.tuple #[]∧Fr [b] w w'∧Blk w' b 51 [.pointer (some ⟨b,0,none⟩),v]):=by
 obtain ⟨j,hj,hz,hs,hb⟩:=info_parts' in_Builder
 have hpt : Try.prog.underlying 47=some (.pointer 49):=Try.underlying47
 refine calls_ec Try.func65 rfl rfl rfl ?_
 refine ec_seq ?_
 refine ec_region ?_
 refine o_w (v:=.pointer (some ⟨b,0,none⟩)) (r_mov rfl) ?_
 refine o_w (v:=.pointer (some ⟨b,0,none⟩)) (r_nilchk rfl) ?_
 refine o_w (v:=.pointer (some ⟨b,0,none⟩)) (r_fa fld_Builder_0 rfl rfl) ?_
 refine o_w (v:=p) (r_ld one_p_Builder rfl (HB.cell rfl)) ?_
 rcases hp with rfl | rfl
 ·refine o_w (v:=.bool true) (r_pnil (p:=none) (by kernel_rfl) rfl rfl) ?_
  refine eo_nil_sq ?_
  refine ec_condT rfl rfl ?_
  refine ec_region ?_
  iterate 2 refine o_w (v:=.pointer (some ⟨b,0,none⟩)) (r_mov rfl) ?_
  refine o_w (v:=.pointer (some ⟨b,0,none⟩)) (r_toU hpt Try.underlying101 hj (by rw [hs]; decide) rfl HB rfl) ?_
  refine o_ext (v:=.pointer (some ⟨b,0,none⟩)) (by rfl) (noesc _ _) rfl rfl ?_
  refine o_w (v:=.pointer (some ⟨b,0,none⟩)) (r_fromU Try.underlying101 hpt hj rfl HB lies_Builder) ?_
  refine o_w (v:=.pointer (some ⟨b,0,none⟩)) (r_nilchk rfl) ?_
  refine o_w (v:=.pointer (some ⟨b,0,none⟩)) (r_fa fld_Builder_0 rfl rfl) ?_
  refine o_store rfl HB (vs:=[.pointer (some ⟨b,0,none⟩)]) rfl sz_p_Builder rfl rfl rfl ?_
  intro w1 F1 B1
  refine eo_nil ?_
  exact end0 ⟨_,rfl,rfl,F1,B1⟩
 ·refine o_w (v:=.bool false) (r_pnil (p:=some ⟨b,0,none⟩) (by kernel_rfl) rfl rfl) ?_
  refine eo_nil_sq ?_
  refine ec_condF rfl rfl ?_
  refine ec_seq ?_
  refine ec_region ?_
  refine o_w (v:=.pointer (some ⟨b,0,none⟩)) (r_mov rfl) ?_
  refine o_w (v:=.pointer (some ⟨b,0,none⟩)) (r_nilchk rfl) ?_
  refine o_w (v:=.pointer (some ⟨b,0,none⟩)) (r_fa fld_Builder_0 rfl rfl) ?_
  refine o_w (v:=.pointer (some ⟨b,0,none⟩)) (r_ld one_p_Builder rfl (HB.cell rfl)) ?_
  refine o_w (v:=.pointer (some ⟨b,0,none⟩)) (r_mov rfl) ?_
  refine o_w (v:=.bool false) (r_pself hpt hj rfl rfl) ?_
  refine eo_nil_sq ?_
  refine ec_condF rfl rfl ?_
  refine ec_skip ?_
  exact end0 ⟨_,rfl,rfl,Fr.refl _ _,HB⟩
theorem wstr_c {L:List Nat} {w:World} {b B:Nat} {p v:Value} {l:List Int} (s:Str) (HB:Blk w b 51 [p,v]) (hp:p=.pointer none∨p=.pointer (some ⟨b,0,none⟩)) (hO:OwnS (kI .u8) B 5 L w v l) (hbL:b∈L)
  (hsz:l.length + s.length≤140737488355328) :
  Calls Try.prog 53 [.pointer (some ⟨b,0,none⟩),str s].toArray w (Ret fun r w'=>r=.tuple #[.int .i64 (s.length:Int),.nilIface]∧Fr (b::own v) w w'∧∃ v',Blk w' b 51 [.pointer (some ⟨b,0,none⟩),v'] ∧
   OwnS (kI .u8) B 5 L w' v' (l++ints s)∧∀ q∈own v',q∈own v∨w.heap.size≤q):=by
 refine calls_ec Try.func53 rfl rfl rfl ?_
 refine ec_seq ?_
 refine ec_region ?_
 refine o_w (v:=.int .i64 (0:Int)) (r_asg rfl) ?_
 refine o_w (v:=.nilIface) (r_asg rfl) ?_
 refine eo_nil_sq ?_
 refine ec_seq ?_
 refine ec_region ?_
 refine o_w (v:=.pointer (some ⟨b,0,none⟩)) (r_mov rfl) ?_
 refine o_call cf_copyCheck rfl (cc_c HB hp) rfl rfl ?_
 rintro _ w1 ⟨rfl,F1,B1⟩
 have O1:=hO.fr F1 (fun m hm=>by rw [List.mem_singleton] at hm; rw [hm]; exact hbL)
 refine eo_nil_sq ?_
 refine ec_seq ?_
 refine ec_region ?_
 iterate 2 refine o_w (v:=.pointer (some ⟨b,0,none⟩)) (r_mov rfl) ?_
 refine o_w (v:=.pointer (some ⟨b,0,none⟩)) (r_nilchk rfl) ?_
 refine o_w (v:=.pointer (some ⟨b,1,none⟩)) (r_fa fld_Builder_1 rfl rfl) ?_
 refine o_w (v:=v) (r_ld one_s_uint8 rfl (B1.cell rfl)) ?_
 refine o_w (v:=str s) (r_mov rfl) ?_
 refine o_appS slc_s_uint8 rfl un_string rfl O1 rfl hsz rfl rfl ?_
 intro v' w2 F2 O2 N2
 have B2:=B1.fr F2 (fun hm=>(O1.below b hbL).2 hm)
 refine o_w (v:=.pointer (some ⟨b,0,none⟩)) (r_nilchk rfl) ?_
 refine o_w (v:=.pointer (some ⟨b,1,none⟩)) (r_fa fld_Builder_1 rfl rfl) ?_
 obtain ⟨A,c,rfl⟩:=O2.shape
 refine o_store rfl B2 (vs:=[.slice A (l++ints s).length c]) rfl sz_s_uint8 rfl rfl rfl ?_
 intro w3 F3 B3
 have O3:=O2.fr F3 (fun m hm=>by rw [List.mem_singleton] at hm; rw [hm]; exact hbL)
 have FF:Fr (b::own v) w w3:=((F1.mono (fun m hm=>by rw [List.mem_singleton] at hm; rw [hm]; exact List.mem_cons_self)).trans (F2.mono (fun m hm=>List.mem_cons_of_mem _ hm))).trans (F3.mono (fun m hm=>by rw [List.mem_singleton] at hm; rw [hm]; exact List.mem_cons_self))
 refine eo_nil_sq ?_
 refine ec_seq ?_
 refine ec_region ?_
 refine o_w (v:=str s) (r_mov rfl) ?_
 refine o_w (v:=.int .i64 (s.length:Int)) (r_len_str un_string rfl) ?_
 refine o_w (v:=.int .i64 (s.length:Int)) (r_asg rfl) ?_
 refine o_w (v:=.nilIface) (r_asg rfl) ?_
 refine eo_nil_sq ?_
 refine ec_ret ?_
 exact end2 rfl rfl ⟨_,rfl,rfl,FF,_,B3,O3,fun q hq=>(N2 q hq).elim .inl (fun h=>.inr (Nat.le_trans F1.size h))⟩
theorem blen_c {L:List Nat} {w:World} {b B:Nat} {p v:Value} {l:List Int} (HB:Blk w b 51 [p,v]) (hO:OwnS (kI .u8) B 5 L w v l) :
  Calls Try.prog 29 [.pointer (some ⟨b,0,none⟩)].toArray w (Ret fun r w'=>Ext w w'∧r=.int .i64 (l.length:Int)):=by
 obtain ⟨A,c,rfl⟩:=hO.shape
 refine calls_ec Try.func29 rfl rfl rfl ?_
 refine ec_seq ?_
 refine ec_region ?_
 refine o_w (v:=.int .i64 (0:Int)) (r_asg rfl) ?_
 refine eo_nil_sq ?_
 refine ec_seq ?_
 refine ec_region ?_
 refine o_w (v:=.pointer (some ⟨b,0,none⟩)) (r_mov rfl) ?_
 refine o_w (v:=.pointer (some ⟨b,0,none⟩)) (r_nilchk rfl) ?_
 refine o_w (v:=.pointer (some ⟨b,1,none⟩)) (r_fa fld_Builder_1 rfl rfl) ?_
 refine o_w (v:=.slice A l.length c) (r_ld one_s_uint8 rfl (HB.cell rfl)) ?_
 refine o_w (v:=.int .i64 (l.length:Int)) (r_len_slc un_s_uint8 rfl) ?_
 refine o_w (v:=.int .i64 (l.length:Int)) (r_asg rfl) ?_
 refine eo_nil_sq ?_
 refine ec_ret ?_
 exact end1 rfl ⟨_,rfl,Fr.refl _ _,rfl⟩
end Go.Proofs.Ytbijobepjjokmaa
