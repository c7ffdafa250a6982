import Derived.Test.YtdfjbkoimpjkaaaGreatCt2
import Derived.Test.YtdfjbkoimpjkaaaGreatWn
import Derived.Lib.UnsafeStr
namespace Go.Proofs.YtdfjbkoimpjkaaaGreat
open Go Go.RowKit
set_option linter.unusedVariables false
set_option linter.unusedSimpArgs false

theorem un_s_uint8 : Tryz.prog.underlying 48=some (.slice 5):=Tryz.underlying48
theorem in_s_uint8:(Tryz.prog.info? 48).map (fun i=>(i.zero,i.size,i.bytes))=some (some (.slice none 0 0),1,24):=by kernel_rfl
theorem sz_s_uint8:Sz Tryz.prog 48 1:=sz_of in_s_uint8
theorem one_s_uint8:One Tryz.prog 48:=⟨⟨_,Tryz.underlying48,trivial⟩,sz_s_uint8⟩
theorem slc_s_uint8:Slc Tryz.prog 48 5 1 1 (.int .u8 0):=⟨un_s_uint8,info_parts' in_uint8⟩
theorem in_p_Builder:(Tryz.prog.info? 94).map (fun i=>(i.zero,i.size,i.bytes))=some (some (.pointer none),1,8):=by kernel_rfl
theorem sz_p_Builder:Sz Tryz.prog 94 1:=sz_of in_p_Builder
theorem one_p_Builder:One Tryz.prog 94:=⟨⟨_,Tryz.underlying94,trivial⟩,sz_p_Builder⟩
theorem in_Builder:(Tryz.prog.info? 96).map (fun i=>(i.zero,i.size,i.bytes))=some (some (.agg #[.pointer none,.slice none 0 0]),2,32):=by kernel_rfl
theorem fld_Builder_0:Fld Tryz.prog 96 0 0:=⟨_,Tryz.underlying96,_,rfl,rfl,fnz in_p_Builder (by decide)⟩
theorem fld_Builder_1:Fld Tryz.prog 96 1 1:=⟨_,Tryz.underlying96,_,rfl,rfl,fnz in_s_uint8 (by decide)⟩
theorem lies_Builder:liesAt Tryz.prog Tryz.prog.depth 98 (2 / Tryz.prog.cellsOf 98) 0 96 1=true:=by kernel_rfl
theorem cf_copyCheck:CF Tryz.prog 97:=fun _ _=>by kernel_rfl
theorem cf_WriteString:CF Tryz.prog 81:=fun _ _=>by kernel_rfl
theorem cf_BLen:CF Tryz.prog 57:=fun _ _=>by kernel_rfl
theorem noesc (x:Value) (w:World):(callFunc 102 #[x]).run Tryz.prog w=.ok (.value x) w:=by
 rw [run_callFunc_extern Tryz.func102 (by kernel_rfl) (by kernel_rfl) (by kernel_rfl) (e:=Extern.AbiNoEscape.same) (by kernel_rfl),Lib.run_noEscape]
 rfl

theorem cc_c {w:World} {b:Nat} {p v:Value} (HB:Blk w b 98 [p,v]) (hp:p=.pointer none∨p=.pointer (some ⟨b,0,none⟩)) :
  Calls Tryz.prog 97 [.pointer (some ⟨b,0,none⟩)].toArray w (Ret fun r w'=>r=.tuple #[]∧Fr [b] w w'∧Blk w' b 98 [.pointer (some ⟨b,0,none⟩),v]):=by
 obtain ⟨j,hj,hz,hs,hb⟩:=info_parts' in_Builder
 have hpt : Tryz.prog.underlying 94=some (.pointer 96):=Tryz.underlying94
 refine calls_ec Tryz.func97 rfl rfl rfl ?_
 refine ec_sr ?_
 refine o_w (v:=.pointer (some ⟨b,0,none⟩)) (r_mov rfl) ?_
 refine o_w (v:=.pointer (some ⟨b,0,none⟩)) (r_nilchk rfl) ?_
 refine o_w (v:=.pointer (some ⟨b,0,none⟩)) (r_fa fld_Builder_0 rfl rfl) ?_
 refine o_w (v:=p) (r_ld one_p_Builder rfl (HB.cell rfl)) ?_
 rcases hp with rfl | rfl
 ·refine o_w (v:=.bool true) (r_pnil (p:=none) (by kernel_rfl) rfl rfl) ?_
  refine eo_nil_sq ?_
  refine ec_condT rfl rfl ?_
  refine ec_region ?_
  iterate 2 refine o_w (v:=.pointer (some ⟨b,0,none⟩)) (r_mov rfl) ?_
  refine o_w (v:=.pointer (some ⟨b,0,none⟩)) (r_toU hpt Tryz.underlying149 hj (by rw [hs]; decide) rfl HB rfl) ?_
  refine o_ext (v:=.pointer (some ⟨b,0,none⟩)) (by rfl) (noesc _ _) rfl rfl ?_
  refine o_w (v:=.pointer (some ⟨b,0,none⟩)) (r_fromU Tryz.underlying149 hpt hj rfl HB lies_Builder) ?_
  refine o_w (v:=.pointer (some ⟨b,0,none⟩)) (r_nilchk rfl) ?_
  refine o_w (v:=.pointer (some ⟨b,0,none⟩)) (r_fa fld_Builder_0 rfl rfl) ?_
  refine o_store rfl HB (vs:=[.pointer (some ⟨b,0,none⟩)]) rfl sz_p_Builder rfl rfl rfl ?_
  intro w1 F1 B1
  refine eo_nil ?_
  exact end0 ⟨_,rfl,rfl,F1,B1⟩
 ·refine o_w (v:=.bool false) (r_pnil (p:=some ⟨b,0,none⟩) (by kernel_rfl) rfl rfl) ?_
  refine eo_nil_sq ?_
  refine ec_condF rfl rfl ?_
  refine ec_sr ?_
  refine o_w (v:=.pointer (some ⟨b,0,none⟩)) (r_mov rfl) ?_
  refine o_w (v:=.pointer (some ⟨b,0,none⟩)) (r_nilchk rfl) ?_
  refine o_w (v:=.pointer (some ⟨b,0,none⟩)) (r_fa fld_Builder_0 rfl rfl) ?_
  refine o_w (v:=.pointer (some ⟨b,0,none⟩)) (r_ld one_p_Builder rfl (HB.cell rfl)) ?_
  refine o_w (v:=.pointer (some ⟨b,0,none⟩)) (r_mov rfl) ?_
  refine o_w (v:=.bool false) (r_pself hpt hj rfl rfl) ?_
  refine eo_nil_sq ?_
  refine ec_condF rfl rfl ?_
  refine ec_skip ?_
  exact end0 ⟨_,rfl,rfl,Fr.refl _ _,HB⟩
theorem wstr_c {L:List Nat} {w:World} {b B:Nat} {p v:Value} {l:List Int} (s:Str) (HB:Blk w b 98 [p,v]) (hp:p=.pointer none∨p=.pointer (some ⟨b,0,none⟩)) (hO:OwnS (kI .u8) B 5 L w v l) (hbL:b∈L)
  (hsz:l.length + s.length≤140737488355328) :
  Calls Tryz.prog 81 [.pointer (some ⟨b,0,none⟩),str s].toArray w (Ret fun r w'=>r=.tuple #[.int .i64 (s.length:Int),.nilIface]∧Fr (b::own v) w w'∧∃ v',Blk w' b 98 [.pointer (some ⟨b,0,none⟩),v'] ∧
   OwnS (kI .u8) B 5 L w' v' (l++ints s)∧∀ q∈own v',q∈own v∨w.heap.size≤q):=by
 refine calls_ec Tryz.func81 rfl rfl rfl ?_
 refine ec_sr ?_
 refine o_w (v:=.int .i64 0) (r_asg rfl) ?_
 refine o_w (v:=.nilIface) (r_asg rfl) ?_
 refine eo_r ?_
 refine o_w (v:=.pointer (some ⟨b,0,none⟩)) (r_mov rfl) ?_
 refine o_call cf_copyCheck rfl (cc_c HB hp) rfl rfl ?_
 rintro _ w1 ⟨rfl,F1,B1⟩
 have O1:=hO.fr F1 (fun m hm=>by rw [List.mem_singleton] at hm; rw [hm]; exact hbL)
 refine eo_r ?_
 iterate 2 refine o_w (v:=.pointer (some ⟨b,0,none⟩)) (r_mov rfl) ?_
 refine o_w (v:=.pointer (some ⟨b,0,none⟩)) (r_nilchk rfl) ?_
 refine o_w (v:=.pointer (some ⟨b,1,none⟩)) (r_fa fld_Builder_1 rfl rfl) ?_
 refine o_w (v:=v) (r_ld one_s_uint8 rfl (B1.cell rfl)) ?_
 refine o_w (v:=str s) (r_mov rfl) ?_
 refine o_appS slc_s_uint8 rfl un_string rfl O1 rfl hsz rfl rfl ?_
 intro v' w2 F2 O2 N2
 have B2:=B1.fr F2 (fun hm=>(O1.below b hbL).2 hm)
 refine o_w (v:=.pointer (some ⟨b,0,none⟩)) (r_nilchk rfl) ?_
 refine o_w (v:=.pointer (some ⟨b,1,none⟩)) (r_fa fld_Builder_1 rfl rfl) ?_
 obtain ⟨A,c,rfl⟩:=O2.shape
 refine o_store rfl B2 (vs:=[.slice A (l++ints s).length c]) rfl sz_s_uint8 rfl rfl rfl ?_
 intro w3 F3 B3
 have O3:=O2.fr F3 (fun m hm=>by rw [List.mem_singleton] at hm; rw [hm]; exact hbL)
 have FF:Fr (b::own v) w w3:=((F1.mono (fun m hm=>by rw [List.mem_singleton] at hm; rw [hm]; exact List.mem_cons_self)).trans (F2.mono (fun m hm=>List.mem_cons_of_mem _ hm))).trans (F3.mono (fun m hm=>by rw [List.mem_singleton] at hm; rw [hm]; exact List.mem_cons_self))
 refine eo_r ?_
 refine o_w (v:=str s) (r_mov rfl) ?_
 refine o_w (v:=.int .i64 (s.length:Int)) (r_len_str un_string rfl) ?_
 refine o_w (v:=.int .i64 (s.length:Int)) (r_asg rfl) ?_
 refine o_w (v:=.nilIface) (r_asg rfl) ?_
 refine eo_nil_sq ?_
 refine ec_ret ?_
 exact end2 rfl rfl ⟨_,rfl,rfl,FF,_,B3,O3,fun q hq=>(N2 q hq).elim .inl (fun h=>.inr (Nat.le_trans F1.size h))⟩
theorem blen_c {L:List Nat} {w:World} {b B:Nat} {p v:Value} {l:List Int} (HB:Blk w b 98 [p,v]) (hO:OwnS (kI .u8) B 5 L w v l) :
  Calls Tryz.prog 57 [.pointer (some ⟨b,0,none⟩)].toArray w (Ret fun r w'=>Ext w w'∧r=.int .i64 (l.length:Int)):=by
 obtain ⟨A,c,rfl⟩:=hO.shape
 refine calls_ec Tryz.func57 rfl rfl rfl ?_
 refine ec_sr ?_
 refine o_w (v:=.int .i64 0) (r_asg rfl) ?_
 refine eo_r ?_
 refine o_w (v:=.pointer (some ⟨b,0,none⟩)) (r_mov rfl) ?_
 refine o_w (v:=.pointer (some ⟨b,0,none⟩)) (r_nilchk rfl) ?_
 refine o_w (v:=.pointer (some ⟨b,1,none⟩)) (r_fa fld_Builder_1 rfl rfl) ?_
 refine o_w (v:=.slice A l.length c) (r_ld one_s_uint8 rfl (HB.cell rfl)) ?_
 refine o_w (v:=.int .i64 (l.length:Int)) (r_len_slc un_s_uint8 rfl) ?_
 refine o_w (v:=.int .i64 (l.length:Int)) (r_asg rfl) ?_
 refine eo_nil_sq ?_
 refine ec_ret ?_
 exact end1 rfl ⟨_,rfl,Fr.refl _ _,rfl⟩

theorem Fr.freeze (w:World) (g n:Nat):Fr [g] w (w.freeze ⟨g,0,none⟩ n):=by
 unfold World.freeze
 split
 ·exact Fr.refl _ _
 ·exact ⟨rfl,rfl,rfl,by simp,fun k hk hn=>by
   simp only [Array.getElem?_modify]
   rw [if_neg (by simpa [eq_comm] using hn)]⟩
theorem addr_add0 (g j:Nat):(⟨g,0,none⟩:Addr).add j=⟨g,j,none⟩:=by unfold Addr.add; split <;> simp_all
theorem cells_uint8 : Tryz.prog.cellsOf 5=1:=by kernel_rfl
theorem un_p_uint8 : Tryz.prog.underlying 130=some (.pointer 5):=Tryz.underlying130
set_option maxRecDepth 20000 in
set_option maxHeartbeats 4000000 in
theorem bstr_c {L : List Nat} {w : World} {b B : Nat} {p v : Value} {s : Str} (HB : Blk w b 98 [p, v]) (hO : OwnS (kI .u8) B 5 L w v (ints s)) (hbL : b ∈ L) (hs : s ≠ []) (hsz : s.length ≤ 9223372036854775807) :
    Calls Tryz.prog 61 [.pointer (some ⟨b, 0, none⟩)].toArray w (Ret fun r w' => Fr (own v) w w' ∧ r = str s) := by
  have hs0 : s.length ≠ 0 := by simpa using hs
  obtain ⟨hp, hb, hB, xs, ⟨hxl, hrow⟩, hd⟩ := hO
  rcases hrow with ⟨_, h0⟩ | ⟨g, cap, cur, rfl, hbg, hg, hnc, hcm, hcs, htake⟩
  · rw [ints_length] at h0; exact absurd h0 hs0
  have hcap : cap ≠ 0 := by rw [ints_length] at hnc; omega
  have hcs' : cur.size = cap := by simpa [kI] using hcs
  have hxs : xs = (ints s).map fun n => Value.int .u8 n := by
    have h1 := hd.now
    have hl : xs.length = (ints s).length := by simpa [kI] using hxl
    apply List.ext_getElem (by simpa using hl)
    intro i h2 h3
    have h4 := h1 i (by simpa using h3)
    have h5 : ((xs.drop (i * 1)).take 1) = [.int .u8 ((ints s).getD i default)] := h4
    rw [Nat.mul_one, List.drop_eq_getElem_cons h2] at h5
    simp only [List.take_succ_cons, List.take_zero, List.cons.injEq, and_true] at h5
    rw [h5]
    have h6 : i < (ints s).length := by simpa using h3
    simp [h6]
  have hbg' : b ≠ g := fun e => (hb b hbL).2 (by rw [e]; exact List.mem_singleton.2 rfl)
  refine calls_ec Tryz.func61 rfl rfl rfl ?_
  refine ec_sr ?_
  refine o_v (v := str []) (r_asg rfl) rfl rfl rfl ?_
  refine eo_nil_sq ?_
  refine ec_seq ?_
  let V : Value := .slice (some ⟨g, 0, none⟩) (ints s).length cap
  refine ec_anyN (by kernel_rfl) [[], [0], [0, 1], [0, 1, 2], [0, 1, 2, 3], [], [5], [5, 6], [5, 6, 7], [5, 6, 7, 8], [0, 1, 2, 3, 4, 5, 6, 7, 8, 9], [0, 1, 2, 3, 4, 5, 6, 7, 8, 9, 10]] [3, 4, 5, 6, 7, 8, 9, 10, 11, 12, 13, 2] ([g]) [10] [[g]] [[10, 11]]
    [fun w' => w'.heap[g]? = some (.cells cur 5 (0, 0)), fun _ => True]
    [fun v _ => v = (.pointer (some ⟨b, 0, none⟩) : Value), fun v _ => v = (.pointer (some ⟨b, 0, none⟩) : Value), fun v _ => v = (.pointer (some ⟨b, 1, none⟩) : Value), fun v _ => v = V, fun v _ => v = (.pointer (some ⟨g, 0, none⟩) : Value),
     fun v _ => v = (.pointer (some ⟨b, 0, none⟩) : Value), fun v _ => v = (.pointer (some ⟨b, 0, none⟩) : Value), fun v _ => v = (.pointer (some ⟨b, 1, none⟩) : Value), fun v _ => v = V, fun v _ => v = (.int .i64 ((ints s).length : Int) : Value), fun v _ => v = str s, fun v _ => v = str s]
    (by kernel_rfl) (allM1 (fun m hm => hm) (fun _ h => by cases h))
    ⟨fun _ _ _ _ _ h => h, fun _ _ _ _ _ h => h, fun _ _ _ _ _ h => h, fun _ _ _ _ _ h => h, fun _ _ _ _ _ h => h, fun _ _ _ _ _ h => h, fun _ _ _ _ _ h => h, fun _ _ _ _ _ h => h, fun _ _ _ _ _ h => h, fun _ _ _ _ _ h => h, fun _ _ _ _ _ h => h, fun _ _ _ _ _ h => h, trivial⟩
    ⟨⟨fun _ _ _ _ _ h => h, fun _ _ _ _ _ h => h, fun _ _ _ _ _ h => h, fun _ _ _ _ _ h => h, fun _ _ _ _ _ h => h, fun _ _ _ _ _ h => h, fun _ _ _ _ _ h => h, fun _ _ _ _ _ h => h, fun _ _ _ _ _ h => h, fun _ _ _ _ _ h => h, fun _ _ _ _ _ h => h, fun _ _ _ _ _ h => h, trivial⟩, trivial⟩
    ⟨fun w' w'' F h => (F.block g (Array.getElem?_eq_some_iff.1 h).1 (by simp)).trans h, fun _ _ _ h => h, trivial⟩ hg ?_ ?_ ?_
  · refine ⟨?_, ?_, ?_, ?_, ?_, ?_, ?_, ?_, ?_, ?_, ?_, ?_, trivial⟩
    · intro _ ρ w1 F1 hX hS hρ
      have q0 : ρ 0 = .pointer (some ⟨b, 0, none⟩) := hρ 0 (by kernel_rfl)
      exact o_v (r_mov q0) rfl rfl rfl (eo_nil ⟨rfl, rfl, _, rfl, Fr.refl _ _, rfl⟩)
    · intro _ ρ w1 F1 hX hS hρ
      have q : ρ 3 = .pointer (some ⟨b, 0, none⟩) := hS 0 (by decide) 3 rfl
      exact o_v (r_nilchk q) rfl rfl rfl (eo_nil ⟨rfl, rfl, _, rfl, Fr.refl _ _, rfl⟩)
    · intro _ ρ w1 F1 hX hS hρ
      have q : ρ 4 = .pointer (some ⟨b, 0, none⟩) := hS 1 (by decide) 4 rfl
      exact o_v (r_fa fld_Builder_1 rfl q) rfl rfl rfl (eo_nil ⟨rfl, rfl, _, rfl, Fr.refl _ _, rfl⟩)
    · intro _ ρ w1 F1 hX hS hρ
      have q : ρ 5 = .pointer (some ⟨b, 1, none⟩) := hS 2 (by decide) 5 rfl
      exact o_v (r_ld one_s_uint8 q ((HB.fr F1 (by simpa using hbg')).cell rfl)) rfl rfl rfl (eo_nil ⟨rfl, rfl, _, rfl, Fr.refl _ _, rfl⟩)
    · intro _ ρ w1 F1 hX hS hρ
      have q : ρ 6 = V := hS 3 (by decide) 6 rfl
      refine o_v (v := .pointer (some ⟨g, 0, none⟩)) ?_ rfl rfl rfl (eo_nil ⟨rfl, rfl, _, rfl, Fr.refl _ _, rfl⟩)
      have := Lib.run_unsafeSliceData_row (P := Tryz.prog) w1 #[48] 130 ⟨g, 0, none⟩ (ints s).length cap hcap
      simp [RunV, execOp, resolve, invoke, builtin, ev, q, V, this]
    · intro _ ρ w1 F1 hX hS hρ
      have q0 : ρ 0 = .pointer (some ⟨b, 0, none⟩) := hρ 0 (by kernel_rfl)
      exact o_v (r_mov q0) rfl rfl rfl (eo_nil ⟨rfl, rfl, _, rfl, Fr.refl _ _, rfl⟩)
    · intro _ ρ w1 F1 hX hS hρ
      have q : ρ 8 = .pointer (some ⟨b, 0, none⟩) := hS 5 (by decide) 8 rfl
      exact o_v (r_nilchk q) rfl rfl rfl (eo_nil ⟨rfl, rfl, _, rfl, Fr.refl _ _, rfl⟩)
    · intro _ ρ w1 F1 hX hS hρ
      have q : ρ 9 = .pointer (some ⟨b, 0, none⟩) := hS 6 (by decide) 9 rfl
      exact o_v (r_fa fld_Builder_1 rfl q) rfl rfl rfl (eo_nil ⟨rfl, rfl, _, rfl, Fr.refl _ _, rfl⟩)
    · intro _ ρ w1 F1 hX hS hρ
      have q : ρ 10 = .pointer (some ⟨b, 1, none⟩) := hS 7 (by decide) 10 rfl
      exact o_v (r_ld one_s_uint8 q ((HB.fr F1 (by simpa using hbg')).cell rfl)) rfl rfl rfl (eo_nil ⟨rfl, rfl, _, rfl, Fr.refl _ _, rfl⟩)
    · intro _ ρ w1 F1 hX hS hρ
      have q : ρ 11 = V := hS 8 (by decide) 11 rfl
      exact o_v (r_len_slc un_s_uint8 q) rfl rfl rfl (eo_nil ⟨rfl, rfl, _, rfl, Fr.refl _ _, rfl⟩)
    · intro hT; exact absurd hT (by decide)
    · intro _ ρ w1 F1 hX hS hρ
      have q : ρ 13 = str s := hS 10 (by decide) 13 rfl
      exact o_v (r_asg q) rfl rfl rfl (eo_nil ⟨rfl, rfl, _, rfl, Fr.refl _ _, rfl⟩)
  · refine ⟨⟨_, rfl, ?_⟩, trivial⟩
    intro ρ w1 F1 hX hI hS hρ
    have q7 : ρ 7 = .pointer (some ⟨g, 0, none⟩) := hS 4 (by decide) 7 rfl
    have q12 : ρ 12 = .int .i64 ((ints s).length : Int) := hS 9 (by decide) 12 rfl
    have hU := Lib.run_unsafeString_row (P := Tryz.prog) w1 130 3 9 5 un_p_uint8 cells_uint8 g cur.size (by
        have hI' : w1.heap[g]? = some (.cells cur 5 (0, 0)) := hI
        simp [World.shape?, hI']) s hs (by rw [ints_length] at hnc; omega) hsz (fun j x hx => by
        have hI' : w1.heap[g]? = some (.cells cur 5 (0, 0)) := hI
        have hjl : j < s.length := (List.getElem?_eq_some_iff.1 hx).1
        rw [addr_add0, Lib.cell_of_heap hI' j]
        have h1 : cur.toList.take ((ints s).length * 1) = xs := by simpa [kI] using htake
        have h2 : (cur.toList.take ((ints s).length * 1))[j]? = some (.int .u8 x.toNat) := by
          rw [h1, hxs]; simp [ints, hx]
        rw [List.getElem?_take, if_pos (by rw [ints_length]; omega)] at h2
        simpa using h2)
    refine eo_val (o := ⟨some 13, .call { callee := .builtin .unsafeString, args := #[.tmp 7, .tmp 12], argTypes := #[130, 3] }, _, _, _, none⟩) rfl rfl rfl (v := str s) (w' := w1.freeze ⟨g, 0, none⟩ s.length) ?_ (eo_nil ⟨rfl, rfl, _, rfl, Fr.freeze _ _ _, trivial, rfl⟩)
    rw [ints_length] at q12
    simp [execOp, resolve, invoke, builtin, ev, q7, q12, hU, str]
  · intro ρ w1 F1 hI hS hρ
    have q2 : ρ 2 = str s := hS 11 2 rfl
    refine sq_n ?_
    refine ec_ret ?_
    exact end1 q2 ⟨_, rfl, F1, rfl⟩
theorem cf_ref07_Put:CF Tryz.prog 29:=fun _ _=>by kernel_rfl
theorem cf_ref07_bit:CF Tryz.prog 84:=fun _ _=>by kernel_rfl
theorem cf_ref07_data:CF Tryz.prog 66:=fun _ _=>by kernel_rfl
theorem cf_ref07_num:CF Tryz.prog 64:=fun _ _=>by kernel_rfl
theorem cf_ref07_nums:CF Tryz.prog 85:=fun _ _=>by kernel_rfl
theorem cf_ref07_pad:CF Tryz.prog 65:=fun _ _=>by kernel_rfl
theorem cf_entry_Get:CF Tryz.prog 44:=fun _ _=>by kernel_rfl
theorem cf_entry_Put:CF Tryz.prog 26:=fun _ _=>by kernel_rfl
end Go.Proofs.YtdfjbkoimpjkaaaGreat