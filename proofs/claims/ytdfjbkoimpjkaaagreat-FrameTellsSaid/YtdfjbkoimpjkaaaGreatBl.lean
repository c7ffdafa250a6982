import Derived.Test.YtdfjbkoimpjkaaaGreatCu2
import Derived.Test.YtdfjbkoimpjkaaaGreatWn
import Derived.Lib.MakeNoZero
import Derived.Laws.CopyRow
import Derived.Test.YtdfjbkoimpjkaaaGreatBh
namespace Go.Proofs.YtdfjbkoimpjkaaaGreat
open Go Go.RowKit
set_option linter.unusedVariables false
set_option linter.unusedSimpArgs false

theorem liesJ:liesAt Tryz.prog Tryz.prog.depth 96 (2 / Tryz.prog.cellsOf 96) 0 96 1=true:=by kernel_rfl
theorem ccJ_c {w:World} {b:Nat} {p v:Value} (HB:Blk w b 96 [p,v]) (hp:p=.pointer none∨p=.pointer (some ⟨b,0,none⟩)) :
  Calls Tryz.prog 97 [.pointer (some ⟨b,0,none⟩)].toArray w (Ret fun r w'=>r=.tuple #[]∧Fr [b] w w'∧Blk w' b 96 [.pointer (some ⟨b,0,none⟩),v]):=by
 obtain ⟨j,hj,hz,hs,hb⟩:=info_parts' in_Builder
 have hpt : Tryz.prog.underlying 94=some (.pointer 96):=Tryz.underlying94
 refine calls_ec Tryz.func97 rfl rfl rfl ?_
 refine ec_sr ?_
 refine o_w (v:=.pointer (some ⟨b,0,none⟩)) (r_mov rfl) ?_
 refine o_w (v:=.pointer (some ⟨b,0,none⟩)) (r_nilchk rfl) ?_
 refine o_w (v:=.pointer (some ⟨b,0,none⟩)) (r_fa fld_Builder_0 rfl rfl) ?_
 refine o_w (v:=p) (r_ld one_p_Builder rfl (HB.cell rfl)) ?_
 rcases hp with rfl | rfl
 ·refine o_w (v:=.bool true) (r_pnil (p:=none) (by kernel_rfl) rfl rfl) ?_
  refine eo_nil_sq ?_
  refine ec_condT rfl rfl ?_
  refine ec_region ?_
  iterate 2 refine o_w (v:=.pointer (some ⟨b,0,none⟩)) (r_mov rfl) ?_
  refine o_w (v:=.pointer (some ⟨b,0,none⟩)) (r_toU hpt Tryz.underlying149 hj (by rw [hs]; decide) rfl HB rfl) ?_
  refine o_ext (v:=.pointer (some ⟨b,0,none⟩)) (by rfl) (noesc _ _) rfl rfl ?_
  refine o_w (v:=.pointer (some ⟨b,0,none⟩)) (r_fromU Tryz.underlying149 hpt hj rfl HB liesJ) ?_
  refine o_w (v:=.pointer (some ⟨b,0,none⟩)) (r_nilchk rfl) ?_
  refine o_w (v:=.pointer (some ⟨b,0,none⟩)) (r_fa fld_Builder_0 rfl rfl) ?_
  refine o_store rfl HB (vs:=[.pointer (some ⟨b,0,none⟩)]) rfl sz_p_Builder rfl rfl rfl ?_
  intro w1 F1 B1
  refine eo_nil ?_
  exact end0 ⟨_,rfl,rfl,F1,B1⟩
 ·refine o_w (v:=.bool false) (r_pnil (p:=some ⟨b,0,none⟩) (by kernel_rfl) rfl rfl) ?_
  refine eo_nil_sq ?_
  refine ec_condF rfl rfl ?_
  refine ec_sr ?_
  refine o_w (v:=.pointer (some ⟨b,0,none⟩)) (r_mov rfl) ?_
  refine o_w (v:=.pointer (some ⟨b,0,none⟩)) (r_nilchk rfl) ?_
  refine o_w (v:=.pointer (some ⟨b,0,none⟩)) (r_fa fld_Builder_0 rfl rfl) ?_
  refine o_w (v:=.pointer (some ⟨b,0,none⟩)) (r_ld one_p_Builder rfl (HB.cell rfl)) ?_
  refine o_w (v:=.pointer (some ⟨b,0,none⟩)) (r_mov rfl) ?_
  refine o_w (v:=.bool false) (r_pself hpt hj rfl rfl) ?_
  refine eo_nil_sq ?_
  refine ec_condF rfl rfl ?_
  refine ec_skip ?_
  exact end0 ⟨_,rfl,rfl,Fr.refl _ _,HB⟩
theorem wstrJ_c {L:List Nat} {w:World} {b B:Nat} {p v:Value} {l:List Int} (s:Str) (HB:Blk w b 96 [p,v]) (hp:p=.pointer none∨p=.pointer (some ⟨b,0,none⟩)) (hO:OwnS (kI .u8) B 5 L w v l) (hbL:b∈L)
  (hsz:l.length + s.length≤140737488355328) :
  Calls Tryz.prog 81 [.pointer (some ⟨b,0,none⟩),str s].toArray w (Ret fun r w'=>r=.tuple #[.int .i64 (s.length:Int),.nilIface]∧Fr (b::own v) w w'∧∃ v',Blk w' b 96 [.pointer (some ⟨b,0,none⟩),v'] ∧
   OwnS (kI .u8) B 5 L w' v' (l++ints s)∧∀ q∈own v',q∈own v∨w.heap.size≤q):=by
 refine calls_ec Tryz.func81 rfl rfl rfl ?_
 refine ec_sr ?_
 refine o_w (v:=.int .i64 0) (r_asg rfl) ?_
 refine o_w (v:=.nilIface) (r_asg rfl) ?_
 refine eo_r ?_
 refine o_w (v:=.pointer (some ⟨b,0,none⟩)) (r_mov rfl) ?_
 refine o_call cf_copyCheck rfl (ccJ_c HB hp) rfl rfl ?_
 rintro _ w1 ⟨rfl,F1,B1⟩
 have O1:=hO.fr F1 (fun m hm=>by rw [List.mem_singleton] at hm; rw [hm]; exact hbL)
 refine eo_r ?_
 iterate 2 refine o_w (v:=.pointer (some ⟨b,0,none⟩)) (r_mov rfl) ?_
 refine o_w (v:=.pointer (some ⟨b,0,none⟩)) (r_nilchk rfl) ?_
 refine o_w (v:=.pointer (some ⟨b,1,none⟩)) (r_fa fld_Builder_1 rfl rfl) ?_
 refine o_w (v:=v) (r_ld one_s_uint8 rfl (B1.cell rfl)) ?_
 refine o_w (v:=str s) (r_mov rfl) ?_
 refine o_appS slc_s_uint8 rfl un_string rfl O1 rfl hsz rfl rfl ?_
 intro v' w2 F2 O2 N2
 have B2:=B1.fr F2 (fun hm=>(O1.below b hbL).2 hm)
 refine o_w (v:=.pointer (some ⟨b,0,none⟩)) (r_nilchk rfl) ?_
 refine o_w (v:=.pointer (some ⟨b,1,none⟩)) (r_fa fld_Builder_1 rfl rfl) ?_
 obtain ⟨A,c,rfl⟩:=O2.shape
 refine o_store rfl B2 (vs:=[.slice A (l++ints s).length c]) rfl sz_s_uint8 rfl rfl rfl ?_
 intro w3 F3 B3
 have O3:=O2.fr F3 (fun m hm=>by rw [List.mem_singleton] at hm; rw [hm]; exact hbL)
 have FF:Fr (b::own v) w w3:=((F1.mono (fun m hm=>by rw [List.mem_singleton] at hm; rw [hm]; exact List.mem_cons_self)).trans (F2.mono (fun m hm=>List.mem_cons_of_mem _ hm))).trans (F3.mono (fun m hm=>by rw [List.mem_singleton] at hm; rw [hm]; exact List.mem_cons_self))
 refine eo_r ?_
 refine o_w (v:=str s) (r_mov rfl) ?_
 refine o_w (v:=.int .i64 (s.length:Int)) (r_len_str un_string rfl) ?_
 refine o_w (v:=.int .i64 (s.length:Int)) (r_asg rfl) ?_
 refine o_w (v:=.nilIface) (r_asg rfl) ?_
 refine eo_nil_sq ?_
 refine ec_ret ?_
 exact end2 rfl rfl ⟨_,rfl,rfl,FF,_,B3,O3,fun q hq=>(N2 q hq).elim .inl (fun h=>.inr (Nat.le_trans F1.size h))⟩
set_option maxRecDepth 20000 in
set_option maxHeartbeats 4000000 in
theorem bstrJ_c {L : List Nat} {w : World} {b B : Nat} {p v : Value} {s : Str} (HB : Blk w b 96 [p, v]) (hO : OwnS (kI .u8) B 5 L w v (ints s)) (hbL : b ∈ L) (hs : s ≠ []) (hsz : s.length ≤ 9223372036854775807) :
    Calls Tryz.prog 61 [.pointer (some ⟨b, 0, none⟩)].toArray w (Ret fun r w' => Fr (own v) w w' ∧ r = str s) := by
  have hs0 : s.length ≠ 0 := by simpa using hs
  obtain ⟨hp, hb, hB, xs, ⟨hxl, hrow⟩, hd⟩ := hO
  rcases hrow with ⟨_, h0⟩ | ⟨g, cap, cur, rfl, hbg, hg, hnc, hcm, hcs, htake⟩
  · rw [ints_length] at h0; exact absurd h0 hs0
  have hcap : cap ≠ 0 := by rw [ints_length] at hnc; omega
  have hcs' : cur.size = cap := by simpa [kI] using hcs
  have hxs : xs = (ints s).map fun n => Value.int .u8 n := by
    have h1 := hd.now
    have hl : xs.length = (ints s).length := by simpa [kI] using hxl
    apply List.ext_getElem (by simpa using hl)
    intro i h2 h3
    have h4 := h1 i (by simpa using h3)
    have h5 : ((xs.drop (i * 1)).take 1) = [.int .u8 ((ints s).getD i default)] := h4
    rw [Nat.mul_one, List.drop_eq_getElem_cons h2] at h5
    simp only [List.take_succ_cons, List.take_zero, List.cons.injEq, and_true] at h5
    rw [h5]
    have h6 : i < (ints s).length := by simpa using h3
    simp [h6]
  have hbg' : b ≠ g := fun e => (hb b hbL).2 (by rw [e]; exact List.mem_singleton.2 rfl)
  refine calls_ec Tryz.func61 rfl rfl rfl ?_
  refine ec_sr ?_
  refine o_v (v := str []) (r_asg rfl) rfl rfl rfl ?_
  refine eo_nil_sq ?_
  refine ec_seq ?_
  let V : Value := .slice (some ⟨g, 0, none⟩) (ints s).length cap
  refine ec_anyN (by kernel_rfl) [[], [0], [0, 1], [0, 1, 2], [0, 1, 2, 3], [], [5], [5, 6], [5, 6, 7], [5, 6, 7, 8], [0, 1, 2, 3, 4, 5, 6, 7, 8, 9], [0, 1, 2, 3, 4, 5, 6, 7, 8, 9, 10]] [3, 4, 5, 6, 7, 8, 9, 10, 11, 12, 13, 2] ([g]) [10] [[g]] [[10, 11]]
    [fun w' => w'.heap[g]? = some (.cells cur 5 (0, 0)), fun _ => True]
    [fun v _ => v = (.pointer (some ⟨b, 0, none⟩) : Value), fun v _ => v = (.pointer (some ⟨b, 0, none⟩) : Value), fun v _ => v = (.pointer (some ⟨b, 1, none⟩) : Value), fun v _ => v = V, fun v _ => v = (.pointer (some ⟨g, 0, none⟩) : Value),
     fun v _ => v = (.pointer (some ⟨b, 0, none⟩) : Value), fun v _ => v = (.pointer (some ⟨b, 0, none⟩) : Value), fun v _ => v = (.pointer (some ⟨b, 1, none⟩) : Value), fun v _ => v = V, fun v _ => v = (.int .i64 ((ints s).length : Int) : Value), fun v _ => v = str s, fun v _ => v = str s]
    (by kernel_rfl) (allM1 (fun m hm => hm) (fun _ h => by cases h))
    ⟨fun _ _ _ _ _ h => h, fun _ _ _ _ _ h => h, fun _ _ _ _ _ h => h, fun _ _ _ _ _ h => h, fun _ _ _ _ _ h => h, fun _ _ _ _ _ h => h, fun _ _ _ _ _ h => h, fun _ _ _ _ _ h => h, fun _ _ _ _ _ h => h, fun _ _ _ _ _ h => h, fun _ _ _ _ _ h => h, fun _ _ _ _ _ h => h, trivial⟩
    ⟨⟨fun _ _ _ _ _ h => h, fun _ _ _ _ _ h => h, fun _ _ _ _ _ h => h, fun _ _ _ _ _ h => h, fun _ _ _ _ _ h => h, fun _ _ _ _ _ h => h, fun _ _ _ _ _ h => h, fun _ _ _ _ _ h => h, fun _ _ _ _ _ h => h, fun _ _ _ _ _ h => h, fun _ _ _ _ _ h => h, fun _ _ _ _ _ h => h, trivial⟩, trivial⟩
    ⟨fun w' w'' F h => (F.block g (Array.getElem?_eq_some_iff.1 h).1 (by simp)).trans h, fun _ _ _ h => h, trivial⟩ hg ?_ ?_ ?_
  · refine ⟨?_, ?_, ?_, ?_, ?_, ?_, ?_, ?_, ?_, ?_, ?_, ?_, trivial⟩
    · intro _ ρ w1 F1 hX hS hρ
      have q0 : ρ 0 = .pointer (some ⟨b, 0, none⟩) := hρ 0 (by kernel_rfl)
      exact o_v (r_mov q0) rfl rfl rfl (eo_nil ⟨rfl, rfl, _, rfl, Fr.refl _ _, rfl⟩)
    · intro _ ρ w1 F1 hX hS hρ
      have q : ρ 3 = .pointer (some ⟨b, 0, none⟩) := hS 0 (by decide) 3 rfl
      exact o_v (r_nilchk q) rfl rfl rfl (eo_nil ⟨rfl, rfl, _, rfl, Fr.refl _ _, rfl⟩)
    · intro _ ρ w1 F1 hX hS hρ
      have q : ρ 4 = .pointer (some ⟨b, 0, none⟩) := hS 1 (by decide) 4 rfl
      exact o_v (r_fa fld_Builder_1 rfl q) rfl rfl rfl (eo_nil ⟨rfl, rfl, _, rfl, Fr.refl _ _, rfl⟩)
    · intro _ ρ w1 F1 hX hS hρ
      have q : ρ 5 = .pointer (some ⟨b, 1, none⟩) := hS 2 (by decide) 5 rfl
      exact o_v (r_ld one_s_uint8 q ((HB.fr F1 (by simpa using hbg')).cell rfl)) rfl rfl rfl (eo_nil ⟨rfl, rfl, _, rfl, Fr.refl _ _, rfl⟩)
    · intro _ ρ w1 F1 hX hS hρ
      have q : ρ 6 = V := hS 3 (by decide) 6 rfl
      refine o_v (v := .pointer (some ⟨g, 0, none⟩)) ?_ rfl rfl rfl (eo_nil ⟨rfl, rfl, _, rfl, Fr.refl _ _, rfl⟩)
      have := Lib.run_unsafeSliceData_row (P := Tryz.prog) w1 #[48] 130 ⟨g, 0, none⟩ (ints s).length cap hcap
      simp [RunV, execOp, resolve, invoke, builtin, ev, q, V, this]
    · intro _ ρ w1 F1 hX hS hρ
      have q0 : ρ 0 = .pointer (some ⟨b, 0, none⟩) := hρ 0 (by kernel_rfl)
      exact o_v (r_mov q0) rfl rfl rfl (eo_nil ⟨rfl, rfl, _, rfl, Fr.refl _ _, rfl⟩)
    · intro _ ρ w1 F1 hX hS hρ
      have q : ρ 8 = .pointer (some ⟨b, 0, none⟩) := hS 5 (by decide) 8 rfl
      exact o_v (r_nilchk q) rfl rfl rfl (eo_nil ⟨rfl, rfl, _, rfl, Fr.refl _ _, rfl⟩)
    · intro _ ρ w1 F1 hX hS hρ
      have q : ρ 9 = .pointer (some ⟨b, 0, none⟩) := hS 6 (by decide) 9 rfl
      exact o_v (r_fa fld_Builder_1 rfl q) rfl rfl rfl (eo_nil ⟨rfl, rfl, _, rfl, Fr.refl _ _, rfl⟩)
    · intro _ ρ w1 F1 hX hS hρ
      have q : ρ 10 = .pointer (some ⟨b, 1, none⟩) := hS 7 (by decide) 10 rfl
      exact o_v (r_ld one_s_uint8 q ((HB.fr F1 (by simpa using hbg')).cell rfl)) rfl rfl rfl (eo_nil ⟨rfl, rfl, _, rfl, Fr.refl _ _, rfl⟩)
    · intro _ ρ w1 F1 hX hS hρ
      have q : ρ 11 = V := hS 8 (by decide) 11 rfl
      exact o_v (r_len_slc un_s_uint8 q) rfl rfl rfl (eo_nil ⟨rfl, rfl, _, rfl, Fr.refl _ _, rfl⟩)
    · intro hT; exact absurd hT (by decide)
    · intro _ ρ w1 F1 hX hS hρ
      have q : ρ 13 = str s := hS 10 (by decide) 13 rfl
      exact o_v (r_asg q) rfl rfl rfl (eo_nil ⟨rfl, rfl, _, rfl, Fr.refl _ _, rfl⟩)
  · refine ⟨⟨_, rfl, ?_⟩, trivial⟩
    intro ρ w1 F1 hX hI hS hρ
    have q7 : ρ 7 = .pointer (some ⟨g, 0, none⟩) := hS 4 (by decide) 7 rfl
    have q12 : ρ 12 = .int .i64 ((ints s).length : Int) := hS 9 (by decide) 12 rfl
    have hU := Lib.run_unsafeString_row (P := Tryz.prog) w1 130 3 9 5 un_p_uint8 cells_uint8 g cur.size (by
        have hI' : w1.heap[g]? = some (.cells cur 5 (0, 0)) := hI
        simp [World.shape?, hI']) s hs (by rw [ints_length] at hnc; omega) hsz (fun j x hx => by
        have hI' : w1.heap[g]? = some (.cells cur 5 (0, 0)) := hI
        have hjl : j < s.length := (List.getElem?_eq_some_iff.1 hx).1
        rw [addr_add0, Lib.cell_of_heap hI' j]
        have h1 : cur.toList.take ((ints s).length * 1) = xs := by simpa [kI] using htake
        have h2 : (cur.toList.take ((ints s).length * 1))[j]? = some (.int .u8 x.toNat) := by
          rw [h1, hxs]; simp [ints, hx]
        rw [List.getElem?_take, if_pos (by rw [ints_length]; omega)] at h2
        simpa using h2)
    refine eo_val (o := ⟨some 13, .call { callee := .builtin .unsafeString, args := #[.tmp 7, .tmp 12], argTypes := #[130, 3] }, _, _, _, none⟩) rfl rfl rfl (v := str s) (w' := w1.freeze ⟨g, 0, none⟩ s.length) ?_ (eo_nil ⟨rfl, rfl, _, rfl, Fr.freeze _ _ _, trivial, rfl⟩)
    rw [ints_length] at q12
    simp [execOp, resolve, invoke, builtin, ev, q7, q12, hU, str]
  · intro ρ w1 F1 hI hS hρ
    have q2 : ρ 2 = str s := hS 11 2 rfl
    refine sq_n ?_
    refine ec_ret ?_
    exact end1 q2 ⟨_, rfl, F1, rfl⟩

theorem nozero (n:Nat) (hn:n≤1000000) (w:World):∃ cs:Array Value,(callFunc 104 #[.int .i64 (n:Int)]).run Tryz.prog w=.ok (.value (.slice (some ⟨w.heap.size,0,none⟩) n cs.size)) (w.drew.drew.alloc (.cells cs 5))∧n≤cs.size∧cs.size≤maxLen:=by
 obtain ⟨cs,h1,h2,h3⟩:=Lib.run_makeNoZero (P:=Tryz.prog) w #[3] 48 5 un_s_uint8 n (by omega)
 refine ⟨cs,?_,h2,h3 (by unfold maxLen; omega)⟩
 rw [run_callFunc_extern Tryz.func104 (by kernel_rfl) (by kernel_rfl) (by kernel_rfl) (e:=Extern.BytealgMakeNoZero.makeNoZero #[3] #[48]) (by kernel_rfl),h1]
 rfl
theorem ext_nozero (w:World) (cs:Array Value) (e:TypeId):Ext w (w.drew.drew.alloc (.cells cs e)):=((Ext.drew w).trans (Ext.drew w.drew)).trans (Ext.alloc w.drew.drew _)
section
variable {P : Program} {ρ : Env} {w : World} {d : Option Nat} {ty : TypeId} {pos : String} {after : Array Edge} {g : Option (Nat × Bool)}
theorem r_cap_slc {X:Operand} {t e:TypeId} {A:Option Addr} {n c:Nat} (ht:P.underlying t=some (.slice e)) (hX:ev ρ X=.slice A n c) :
  RunV P ρ w ⟨d,.call { callee:=.builtin .cap,args:=#[X],argTypes:=#[t] },ty,pos,after,g⟩ (.int .i64 c):=by
 simp [RunV,execOp,hX,resolve,invoke,builtin,Builtin.cap_,run_underlying ht,goInt]
theorem r_sl_none {t E n bytes:Nat} {z:Value} {X H:Operand} {b c len:Nat} (hT:Slc P t E n bytes z) (hX:ev ρ X=.slice (some ⟨b,0,none⟩) len c) (hH:ev ρ H=.int .i64 0) (hc:1≤c) :
  RunV P ρ w ⟨d,.slice t X none (some H) none,ty,pos,after,g⟩ (.slice (some ⟨b,0,none⟩) 0 c):=by
 obtain ⟨hu,j,q2,q3,q4,q5⟩:=hT
 have hsr:(sizeOf E).run P w=.ok n w:=by simp [sizeOf,typeInfo,q2,q4,program,Sem.run,Result.andThen]
 have hne:¬ c=0:=by omega
 simp [RunV,execOp,hX,hH,Instr.sliceAt,Instr.slice,run_underlying hu,Instr.sliceBounds,Instr.sliceBound,asIntOf,hsr,hne,addr_add0]
theorem r_copy0 {X Y:Operand} {t u e:TypeId} {a:Addr} {n c:Nat} (hu:P.underlying t=some (.slice e)) (hs:((P.info? e).map (·.size)).isSome=true) (hX:ev ρ X=.slice (some a) n c) (hY:ev ρ Y=.slice none 0 0) :
  RunV P ρ w ⟨d,.call { callee:=.builtin .copy,args:=#[X,Y],argTypes:=#[t,u] },ty,pos,after,g⟩ (.int .i64 0):=by
 have:=run_copy_nil (P:=P) w t u ty e a n c hu hs
 simp [RunV,execOp,hX,hY,resolve,invoke,builtin,this,goInt]
end
/-- Room for n bytes at g. -/
def NewB (lo n m : Nat) (v : Value) (w : World) : Prop := ∃ g c cs, v = .slice (some ⟨g, 0, none⟩) m c ∧ lo ≤ g ∧ w.heap[g]? = some (.cells cs 5 (0, 0)) ∧ cs.size = c ∧ n ≤ c ∧ c ≤ maxLen
theorem NewB.ex {lo n m:Nat} {v:Value} {w w':World} (f:Ext w w') (h:NewB lo n m v w):NewB lo n m v w':=by
 obtain ⟨g,c,cs,rfl,h1,h2,h3⟩:=h
 exact ⟨g,c,cs,rfl,h1,(f.block g (Array.getElem?_eq_some_iff.1 h2).1 (by simp)).trans h2,h3⟩
set_option maxRecDepth 20000 in
set_option maxHeartbeats 4000000 in
theorem growJ_c {L : List Nat} {w : World} {b n : Nat} {p : Value} (HB : Blk w b 96 [p, .slice none 0 0]) (hL : Lt L w) (hbL : b ∈ L) (h1 : 1 ≤ n) (hn : n ≤ 1000000) :
    Calls Tryz.prog 99 [.pointer (some ⟨b, 0, none⟩), .int .i64 (n : Int)].toArray w (Ret fun r w' => r = .tuple #[] ∧ Fr [b] w w' ∧ ∃ v', Blk w' b 96 [p, v'] ∧ OwnS (kI .u8) w.heap.size 5 L w' v' [] ∧ ∀ q ∈ own v', w.heap.size ≤ q) := by
  refine calls_ec Tryz.func99 rfl rfl rfl ?_
  refine ec_seq ?_
  refine ec_any0 (by kernel_rfl) [[], [0], [0, 1], [0, 1, 2], [0, 1, 2, 3], [0, 1, 2, 3, 4], [], [0, 1, 2, 3, 4, 5, 6], [0, 1, 2, 3, 4, 5, 6, 7], [], [9], [9, 10], [9, 10, 11], [9, 10, 11, 12], [0, 1, 2, 3, 4, 5, 6, 7, 8, 9, 10, 11, 12, 13], [0, 1, 2, 3, 4, 5, 6, 7, 8, 9, 10, 11, 12, 13, 14]] [5, 6, 7, 8, 9, 10, 11, 12, 13, 14, 15, 16, 17, 18, 19, 4]
    [fun v _ => v = (.pointer (some ⟨b, 0, none⟩) : Value), fun v _ => v = (.pointer (some ⟨b, 0, none⟩) : Value), fun v _ => v = (.pointer (some ⟨b, 1, none⟩) : Value), fun v _ => v = (.slice none 0 0 : Value), fun v _ => v = (.int .i64 0 : Value), fun v _ => v = (.int .i64 0 : Value),
     fun v _ => v = (.int .i64 (n : Int) : Value), fun v _ => v = (.int .i64 (n : Int) : Value), fun v w' => NewB w.heap.size n n v w', fun v _ => v = (.pointer (some ⟨b, 0, none⟩) : Value), fun v _ => v = (.pointer (some ⟨b, 0, none⟩) : Value), fun v _ => v = (.pointer (some ⟨b, 1, none⟩) : Value), fun v _ => v = (.slice none 0 0 : Value), fun v _ => v = (.int .i64 0 : Value),
     fun v w' => NewB w.heap.size n 0 v w', fun v w' => NewB w.heap.size n 0 v w']
    (by kernel_rfl)
    ⟨fun _ _ _ _ _ h => h, fun _ _ _ _ _ h => h, fun _ _ _ _ _ h => h, fun _ _ _ _ _ h => h, fun _ _ _ _ _ h => h, fun _ _ _ _ _ h => h, fun _ _ _ _ _ h => h, fun _ _ _ _ _ h => h, fun _ _ _ _ f h => NewB.ex f h, fun _ _ _ _ _ h => h, fun _ _ _ _ _ h => h, fun _ _ _ _ _ h => h, fun _ _ _ _ _ h => h, fun _ _ _ _ _ h => h, fun _ _ _ _ f h => NewB.ex f h, fun _ _ _ _ f h => NewB.ex f h, trivial⟩ ?_ ?_
  · refine ⟨?_, ?_, ?_, ?_, ?_, ?_, ?_, ?_, ?_, ?_, ?_, ?_, ?_, ?_, ?_, ?_, trivial⟩
    · intro ρ w1 F1 hS hρ
      have q0 : ρ 0 = .pointer (some ⟨b, 0, none⟩) := hρ 0 (by kernel_rfl)
      exact o_v (r_mov q0) rfl rfl rfl (eo_nil ⟨rfl, rfl, _, rfl, Fr.refl _ _, rfl⟩)
    · intro ρ w1 F1 hS hρ
      have q : ρ 5 = .pointer (some ⟨b, 0, none⟩) := hS 0 (by decide) 5 rfl
      exact o_v (r_nilchk q) rfl rfl rfl (eo_nil ⟨rfl, rfl, _, rfl, Fr.refl _ _, rfl⟩)
    · intro ρ w1 F1 hS hρ
      have q : ρ 6 = .pointer (some ⟨b, 0, none⟩) := hS 1 (by decide) 6 rfl
      exact o_v (r_fa fld_Builder_1 rfl q) rfl rfl rfl (eo_nil ⟨rfl, rfl, _, rfl, Fr.refl _ _, rfl⟩)
    · intro ρ w1 F1 hS hρ
      have q : ρ 7 = .pointer (some ⟨b, 1, none⟩) := hS 2 (by decide) 7 rfl
      exact o_v (r_ld one_s_uint8 q ((HB.ex F1).cell rfl)) rfl rfl rfl (eo_nil ⟨rfl, rfl, _, rfl, Fr.refl _ _, rfl⟩)
    · intro ρ w1 F1 hS hρ
      have q : ρ 8 = .slice none 0 0 := hS 3 (by decide) 8 rfl
      exact o_v (r_cap_slc un_s_uint8 q) rfl rfl rfl (eo_nil ⟨rfl, rfl, _, rfl, Fr.refl _ _, rfl⟩)
    · intro ρ w1 F1 hS hρ
      have q : ρ 9 = .int .i64 0 := hS 4 (by decide) 9 rfl
      exact o_v (v := .int .i64 0) (r_int rfl q rfl) rfl rfl rfl (eo_nil ⟨rfl, rfl, _, rfl, Fr.refl _ _, rfl⟩)
    · intro ρ w1 F1 hS hρ
      have q1 : ρ 1 = .int .i64 (n : Int) := hρ 1 (by kernel_rfl)
      exact o_v (r_mov q1) rfl rfl rfl (eo_nil ⟨rfl, rfl, _, rfl, Fr.refl _ _, rfl⟩)
    · intro ρ w1 F1 hS hρ
      have q1 : ρ 10 = .int .i64 0 := hS 5 (by decide) 10 rfl
      have q2 : ρ 11 = .int .i64 (n : Int) := hS 6 (by decide) 11 rfl
      have e0 : IntKind.i64.wrap ((0 : Int) + (n : Int)) = (n : Int) := by rw [IntKind.wrap_i64]; omega
      exact o_v (v := .int .i64 (n : Int)) (r_int q1 q2 (by show some (Value.int .i64 (IntKind.i64.wrap ((0 : Int) + (n : Int)))) = _; rw [e0])) rfl rfl rfl (eo_nil ⟨rfl, rfl, _, rfl, Fr.refl _ _, rfl⟩)
    · intro ρ w1 F1 hS hρ
      have q : ρ 12 = .int .i64 (n : Int) := hS 7 (by decide) 12 rfl
      obtain ⟨cs, hr, hc, hm⟩ := nozero n hn w1
      refine o_extW (vs := [.int .i64 (n : Int)]) (by show [ρ 12] = _; rw [q]) hr rfl rfl (eo_nil ⟨rfl, rfl, _, rfl, ext_nozero w1 cs _, ?_⟩)
      exact ⟨w1.heap.size, cs.size, cs, rfl, F1.size, by simp [World.alloc, World.drew, -World.alloc_eq, -World.drew_eq], rfl, hc, hm⟩
    · intro ρ w1 F1 hS hρ
      have q0 : ρ 0 = .pointer (some ⟨b, 0, none⟩) := hρ 0 (by kernel_rfl)
      exact o_v (r_mov q0) rfl rfl rfl (eo_nil ⟨rfl, rfl, _, rfl, Fr.refl _ _, rfl⟩)
    · intro ρ w1 F1 hS hρ
      have q : ρ 14 = .pointer (some ⟨b, 0, none⟩) := hS 9 (by decide) 14 rfl
      exact o_v (r_nilchk q) rfl rfl rfl (eo_nil ⟨rfl, rfl, _, rfl, Fr.refl _ _, rfl⟩)
    · intro ρ w1 F1 hS hρ
      have q : ρ 15 = .pointer (some ⟨b, 0, none⟩) := hS 10 (by decide) 15 rfl
      exact o_v (r_fa fld_Builder_1 rfl q) rfl rfl rfl (eo_nil ⟨rfl, rfl, _, rfl, Fr.refl _ _, rfl⟩)
    · intro ρ w1 F1 hS hρ
      have q : ρ 16 = .pointer (some ⟨b, 1, none⟩) := hS 11 (by decide) 16 rfl
      exact o_v (r_ld one_s_uint8 q ((HB.ex F1).cell rfl)) rfl rfl rfl (eo_nil ⟨rfl, rfl, _, rfl, Fr.refl _ _, rfl⟩)
    · intro ρ w1 F1 hS hρ
      have q : ρ 17 = .slice none 0 0 := hS 12 (by decide) 17 rfl
      exact o_v (r_len_slc un_s_uint8 q) rfl rfl rfl (eo_nil ⟨rfl, rfl, _, rfl, Fr.refl _ _, rfl⟩)
    · intro ρ w1 F1 hS hρ
      obtain ⟨g, c, cs, q, g1, g2, g3, g4, g5⟩ : NewB w.heap.size n n (ρ 13) w1 := hS 8 (by decide) 13 rfl
      have q2 : ρ 18 = .int .i64 0 := hS 13 (by decide) 18 rfl
      exact o_v (r_sl_none slc_s_uint8 q q2 (by omega)) rfl rfl rfl (eo_nil ⟨rfl, rfl, _, rfl, Fr.refl _ _, g, c, cs, rfl, g1, g2, g3, g4, g5⟩)
    · intro ρ w1 F1 hS hρ
      have q : NewB w.heap.size n 0 (ρ 19) w1 := hS 14 (by decide) 19 rfl
      exact o_v (r_asg rfl) rfl rfl rfl (eo_nil ⟨rfl, rfl, _, rfl, Fr.refl _ _, q⟩)
  intro ρ w1 F1 hS hρ
  obtain ⟨g, c, cs, q4, g1, g2, g3, g4, g5⟩ : NewB w.heap.size n 0 (ρ 4) w1 := hS 15 4 rfl
  have q0 : ρ 0 = .pointer (some ⟨b, 0, none⟩) := hρ 0 (by kernel_rfl)
  obtain ⟨ρ', rfl⟩ : ∃ ρ', ρ = envs ρ' [(4, .slice (some ⟨g, 0, none⟩) 0 c), (0, .pointer (some ⟨b, 0, none⟩))] := ⟨ρ, envs_self ⟨q4, q0, trivial⟩⟩
  have B1 := HB.ex F1
  refine sq_n ?_
  refine ec_sr ?_
  refine o_v (v := .slice (some ⟨g, 0, none⟩) 0 c) (r_mov rfl) rfl rfl rfl ?_
  refine o_v (v := .pointer (some ⟨b, 0, none⟩)) (r_mov rfl) rfl rfl rfl ?_
  refine o_v (v := .pointer (some ⟨b, 0, none⟩)) (r_nilchk rfl) rfl rfl rfl ?_
  refine o_v (v := .pointer (some ⟨b, 1, none⟩)) (r_fa fld_Builder_1 rfl rfl) rfl rfl rfl ?_
  refine o_v (v := .slice none 0 0) (r_ld one_s_uint8 rfl (B1.cell rfl)) rfl rfl rfl ?_
  refine o_v (v := .int .i64 0) (r_copy0 un_s_uint8 (by kernel_rfl) rfl rfl) rfl rfl rfl ?_
  refine eo_q ?_
  refine o_v (v := .pointer (some ⟨b, 0, none⟩)) (r_mov rfl) rfl rfl rfl ?_
  refine o_v (v := .slice (some ⟨g, 0, none⟩) 0 c) (r_mov rfl) rfl rfl rfl ?_
  refine o_v (v := .pointer (some ⟨b, 0, none⟩)) (r_nilchk rfl) rfl rfl rfl ?_
  refine o_v (v := .pointer (some ⟨b, 1, none⟩)) (r_fa fld_Builder_1 rfl rfl) rfl rfl rfl ?_
  refine o_store rfl B1 (vs := [.slice (some ⟨g, 0, none⟩) 0 c]) rfl sz_s_uint8 rfl rfl rfl ?_
  intro w3 F3 B3
  have hb := HB.lt
  have hg := (Array.getElem?_eq_some_iff.1 g2).1
  refine eo_nil ?_
  refine end0 ⟨_, rfl, rfl, (Fr.ext F1).trans F3, _, B3, ⟨by decide, fun m hm => ⟨Nat.lt_of_lt_of_le (hL m hm) (Nat.le_trans F1.size F3.size), fun hq => ?_⟩, Nat.le_trans F1.size F3.size, [], ⟨by simp, .inr ⟨g, c, cs, rfl, g1, (F3.block g hg (by simp; omega)).trans g2, Nat.zero_le _, g5, by simpa [kI] using g3, by simp⟩⟩, fun _ _ i hi => by simp at hi⟩, fun q hq => ?_⟩
  · have : m = g := by simpa [own, Value.ownBlock] using hq
    have := hL m hm; omega
  · have : q = g := by simpa [own, Value.ownBlock] using hq
    omega
theorem cf_grow:CF Tryz.prog 99:=fun _ _=>by kernel_rfl
theorem cf_Grow:CF Tryz.prog 83:=fun _ _=>by kernel_rfl
theorem cf_BString:CF Tryz.prog 61:=fun _ _=>by kernel_rfl
set_option maxRecDepth 20000 in
set_option maxHeartbeats 4000000 in
theorem GrowJ_c {L : List Nat} {w : World} {b n : Nat} (HB : Blk w b 96 [.pointer none, .slice none 0 0]) (hL : Lt L w) (hbL : b ∈ L) (h1 : 1 ≤ n) (hn : n ≤ 1000000) :
    Calls Tryz.prog 83 [.pointer (some ⟨b, 0, none⟩), .int .i64 (n : Int)].toArray w (Ret fun r w' => r = .tuple #[] ∧ Fr [b] w w' ∧ ∃ v', Blk w' b 96 [.pointer (some ⟨b, 0, none⟩), v'] ∧ OwnS (kI .u8) w.heap.size 5 L w' v' [] ∧ ∀ q ∈ own v', w.heap.size ≤ q) := by
  refine calls_ec Tryz.func83 rfl rfl rfl ?_
  refine ec_sr ?_
  refine o_v (v := .pointer (some ⟨b, 0, none⟩)) (r_mov rfl) rfl rfl rfl ?_
  refine o_call cf_copyCheck rfl (ccJ_c HB (.inl rfl)) rfl rfl ?_
  rintro _ w1 ⟨rfl, F1, B1⟩
  have hL1 : Lt L w1 := fun m hm => Nat.lt_of_lt_of_le (hL m hm) F1.size
  refine eo_nil_sq ?_
  refine ec_seq ?_
  refine ec_sr ?_
  refine o_v (v := .int .i64 (n : Int)) (r_mov rfl) rfl rfl rfl ?_
  refine o_v (v := .bool false) (r_int rfl rfl (by show some (Value.bool (decide ((n : Int) < 0))) = _; simp)) rfl rfl rfl ?_
  refine eo_nil_sq ?_
  refine ec_condF rfl rfl ?_
  refine ec_skip ?_
  refine sq_n ?_
  refine ec_seq ?_
  refine ec_any0 (by kernel_rfl) [[], [0], [0, 1], [0, 1, 2], [0, 1, 2, 3], [], [5], [5, 6], [5, 6, 7], [5, 6, 7, 8], [0, 1, 2, 3, 4, 5, 6, 7, 8, 9], [], [0, 1, 2, 3, 4, 5, 6, 7, 8, 9, 10, 11]] [9, 10, 11, 12, 13, 14, 15, 16, 17, 18, 19, 20, 21]
    [fun v _ => v = (.pointer (some ⟨b, 0, none⟩) : Value), fun v _ => v = (.pointer (some ⟨b, 0, none⟩) : Value), fun v _ => v = (.pointer (some ⟨b, 1, none⟩) : Value), fun v _ => v = (.slice none 0 0 : Value), fun v _ => v = (.int .i64 0 : Value),
     fun v _ => v = (.pointer (some ⟨b, 0, none⟩) : Value), fun v _ => v = (.pointer (some ⟨b, 0, none⟩) : Value), fun v _ => v = (.pointer (some ⟨b, 1, none⟩) : Value), fun v _ => v = (.slice none 0 0 : Value), fun v _ => v = (.int .i64 0 : Value),
     fun v _ => v = (.int .i64 0 : Value), fun v _ => v = (.int .i64 (n : Int) : Value), fun v _ => v = (.bool true : Value)]
    (by kernel_rfl)
    ⟨fun _ _ _ _ _ h => h, fun _ _ _ _ _ h => h, fun _ _ _ _ _ h => h, fun _ _ _ _ _ h => h, fun _ _ _ _ _ h => h, fun _ _ _ _ _ h => h, fun _ _ _ _ _ h => h, fun _ _ _ _ _ h => h, fun _ _ _ _ _ h => h, fun _ _ _ _ _ h => h, fun _ _ _ _ _ h => h, fun _ _ _ _ _ h => h, fun _ _ _ _ _ h => h, trivial⟩ ?_ ?_
  · refine ⟨?_, ?_, ?_, ?_, ?_, ?_, ?_, ?_, ?_, ?_, ?_, ?_, ?_, trivial⟩
    · intro ρ w2 F2 hS hρ
      have q0 : ρ 0 = .pointer (some ⟨b, 0, none⟩) := hρ 0 (by kernel_rfl)
      exact o_v (r_mov q0) rfl rfl rfl (eo_nil ⟨rfl, rfl, _, rfl, Fr.refl _ _, rfl⟩)
    · intro ρ w2 F2 hS hρ
      have q : ρ 9 = .pointer (some ⟨b, 0, none⟩) := hS 0 (by decide) 9 rfl
      exact o_v (r_nilchk q) rfl rfl rfl (eo_nil ⟨rfl, rfl, _, rfl, Fr.refl _ _, rfl⟩)
    · intro ρ w2 F2 hS hρ
      have q : ρ 10 = .pointer (some ⟨b, 0, none⟩) := hS 1 (by decide) 10 rfl
      exact o_v (r_fa fld_Builder_1 rfl q) rfl rfl rfl (eo_nil ⟨rfl, rfl, _, rfl, Fr.refl _ _, rfl⟩)
    · intro ρ w2 F2 hS hρ
      have q : ρ 11 = .pointer (some ⟨b, 1, none⟩) := hS 2 (by decide) 11 rfl
      exact o_v (r_ld one_s_uint8 q ((B1.ex F2).cell rfl)) rfl rfl rfl (eo_nil ⟨rfl, rfl, _, rfl, Fr.refl _ _, rfl⟩)
    · intro ρ w2 F2 hS hρ
      have q : ρ 12 = .slice none 0 0 := hS 3 (by decide) 12 rfl
      exact o_v (r_cap_slc un_s_uint8 q) rfl rfl rfl (eo_nil ⟨rfl, rfl, _, rfl, Fr.refl _ _, rfl⟩)
    · intro ρ w2 F2 hS hρ
      have q0 : ρ 0 = .pointer (some ⟨b, 0, none⟩) := hρ 0 (by kernel_rfl)
      exact o_v (r_mov q0) rfl rfl rfl (eo_nil ⟨rfl, rfl, _, rfl, Fr.refl _ _, rfl⟩)
    · intro ρ w2 F2 hS hρ
      have q : ρ 14 = .pointer (some ⟨b, 0, none⟩) := hS 5 (by decide) 14 rfl
      exact o_v (r_nilchk q) rfl rfl rfl (eo_nil ⟨rfl, rfl, _, rfl, Fr.refl _ _, rfl⟩)
    · intro ρ w2 F2 hS hρ
      have q : ρ 15 = .pointer (some ⟨b, 0, none⟩) := hS 6 (by decide) 15 rfl
      exact o_v (r_fa fld_Builder_1 rfl q) rfl rfl rfl (eo_nil ⟨rfl, rfl, _, rfl, Fr.refl _ _, rfl⟩)
    · intro ρ w2 F2 hS hρ
      have q : ρ 16 = .pointer (some ⟨b, 1, none⟩) := hS 7 (by decide) 16 rfl
      exact o_v (r_ld one_s_uint8 q ((B1.ex F2).cell rfl)) rfl rfl rfl (eo_nil ⟨rfl, rfl, _, rfl, Fr.refl _ _, rfl⟩)
    · intro ρ w2 F2 hS hρ
      have q : ρ 17 = .slice none 0 0 := hS 8 (by decide) 17 rfl
      exact o_v (r_len_slc un_s_uint8 q) rfl rfl rfl (eo_nil ⟨rfl, rfl, _, rfl, Fr.refl _ _, rfl⟩)
    · intro ρ w2 F2 hS hρ
      have q1 : ρ 13 = .int .i64 0 := hS 4 (by decide) 13 rfl
      have q2 : ρ 18 = .int .i64 0 := hS 9 (by decide) 18 rfl
      exact o_v (v := .int .i64 0) (r_int q1 q2 rfl) rfl rfl rfl (eo_nil ⟨rfl, rfl, _, rfl, Fr.refl _ _, rfl⟩)
    · intro ρ w2 F2 hS hρ
      have q1 : ρ 1 = .int .i64 (n : Int) := hρ 1 (by kernel_rfl)
      exact o_v (r_mov q1) rfl rfl rfl (eo_nil ⟨rfl, rfl, _, rfl, Fr.refl _ _, rfl⟩)
    · intro ρ w2 F2 hS hρ
      have q1 : ρ 19 = .int .i64 0 := hS 10 (by decide) 19 rfl
      have q2 : ρ 20 = .int .i64 (n : Int) := hS 11 (by decide) 20 rfl
      exact o_v (v := .bool true) (r_int q1 q2 (by show some (Value.bool (decide ((0 : Int) < (n : Int)))) = _; simp; omega)) rfl rfl rfl (eo_nil ⟨rfl, rfl, _, rfl, Fr.refl _ _, rfl⟩)
  intro ρ w2 F2 hS hρ
  have q21 : ρ 21 = .bool true := hS 12 21 rfl
  have q0 : ρ 0 = .pointer (some ⟨b, 0, none⟩) := hρ 0 (by kernel_rfl)
  have q1 : ρ 1 = .int .i64 (n : Int) := hρ 1 (by kernel_rfl)
  obtain ⟨ρ', rfl⟩ : ∃ ρ', ρ = envs ρ' [(21, .bool true), (0, .pointer (some ⟨b, 0, none⟩)), (1, .int .i64 (n : Int))] := ⟨ρ, envs_self ⟨q21, q0, q1, trivial⟩⟩
  refine sq_n ?_
  refine ec_condT rfl rfl ?_
  refine ec_region ?_
  refine o_v (v := .pointer (some ⟨b, 0, none⟩)) (r_mov rfl) rfl rfl rfl ?_
  refine o_v (v := .int .i64 (n : Int)) (r_mov rfl) rfl rfl rfl ?_
  refine o_call cf_grow rfl (growJ_c (B1.ex F2) (hL1.fr F2) hbL h1 hn) rfl rfl ?_
  rintro _ w3 ⟨rfl, F3, v', B3, O3, N3⟩
  refine eo_nil ?_
  have h12 := Nat.le_trans F1.size F2.size
  exact end0 ⟨_, rfl, rfl, (F1.trans (Fr.ext F2)).trans F3, v', B3, O3.mono h12 hL, fun q hq => Nat.le_trans h12 (N3 q hq)⟩

def strings_Join_raw (d:List Str) (s y:Str):Prop:=s=[]∧2≤d.length∧d.length≤1000000∧1≤d.flatten.length∧d.flatten.length≤1000000∧y=d.flatten
theorem slc_s_string:Slc Tryz.prog 60 9 1 16 (str []):=⟨Tryz.underlying60,info_parts' in_string⟩
theorem un_s_string : Tryz.prog.underlying 60=some (.slice 9):=Tryz.underlying60
theorem zero_Builder:Zero Tryz.prog 96 (.agg #[.pointer none,.slice none 0 0]):=zero_of in_Builder
theorem intsJ_app (s t:Str):ints (s++t)=ints s++ints t:=by simp [ints]
/-- A builder at b that holds l, behind the world w0. -/
def JB (B : Nat) (L : List Nat) (w0 : World) (b : Nat) (l : Str) (w : World) : Prop :=
  Ext w0 w ∧ ∃ v, Blk w b 96 [.pointer (some ⟨b, 0, none⟩), v] ∧ OwnS (kI .u8) B 5 (b :: L) w v (ints l) ∧ ∀ q ∈ own v, w0.heap.size ≤ q
theorem JB.ex {B b:Nat} {L:List Nat} {w0 w w':World} {l:Str} (h:JB B L w0 b l w) (f:Ext w w'):JB B L w0 b l w':=by
 obtain ⟨E,v,h1,h2,h3⟩:=h
 exact ⟨E.trans f,v,h1.ex f,h2.ex f,h3⟩
theorem JB.write {B b:Nat} {L:List Nat} {w0 w:World} {l:Str} (h:JB B L w0 b l w) (hb:w0.heap.size≤b) (s:Str) (hsz:l.length + s.length≤140737488355328) :
  Calls Tryz.prog 81 [.pointer (some ⟨b,0,none⟩),str s].toArray w (Ret fun r w'=>r=.tuple #[.int .i64 (s.length:Int),.nilIface]∧JB B L w0 b (l++s) w'):=by
 obtain ⟨E,v,h1,h2,h3⟩:=h
 refine (wstrJ_c s h1 (.inr rfl) h2 List.mem_cons_self (by rw [ints_length]; exact hsz)).mono ?_
 rintro e w' ⟨r,rfl,rfl,F,v',B1,O1,N1⟩
 have hsz:=E.size
 refine ⟨_,rfl,rfl,Ext.st E F (fun m hm=>?_),v',B1,by rw [intsJ_app]; exact O1,fun q hq=>(N1 q hq).elim (h3 q) (fun h=>by omega)⟩
 rcases List.mem_cons.1 hm with rfl | hm
 ·exact hb
 ·exact h3 m hm
theorem nth_flat (d:List Str) {i:Nat} (h:i<d.length):(d.take (i + 1)).flatten=(d.take i).flatten++nth d (i:Int):=by
 rw [List.take_add_one,show d[i]?.toList=[nth d (i:Int)] by rw [nth_nat]; simp [h]]
 simp
theorem flat_le (d:List Str) (i:Nat):(d.take i).flatten.length≤d.flatten.length:=by
 conv=>rhs; rw [← List.take_append_drop i d]
 rw [List.flatten_append,List.length_append]; omega
set_option maxRecDepth 20000 in
set_option maxHeartbeats 8000000 in
theorem strings_Join_c {L:List Nat} {w:World} {A:Option Addr} {c:Nat} (d:List Str) (HP:Stb L w (fun w=>SlC kS w A c d)) (s:Str) (hL:Lt L w) {y:Str} (h:strings_Join_raw d s y) :
  Calls Tryz.prog 63 [.slice A d.length c,str s].toArray w (Ret fun v w'=>Ext w w'∧v=str y):=by
 obtain ⟨rfl,h2,hN,hf1,hf,rfl⟩:=h
 have hcap:d.length≤c:=HP.now.1
 refine calls_ec Tryz.func63 rfl rfl rfl ?_
 refine ec_sr ?_
 refine o_w (v:=str []) (r_asg rfl) ?_
 refine eo_nil_sq ?_
 refine ec_seq ?_
 refine ec_sr ?_
 refine o_w (v:=.slice A d.length c) (r_mov rfl) ?_
 refine o_w (v:=.int .i64 (d.length:Int)) (r_len_slc un_s_string rfl) ?_
 refine eo_nil_sq ?_
 refine ec_block ?_
 refine ec_sr ?_
 refine o_w (v:=.bool false) (r_int rfl rfl (by show some (Value.bool ((d.length:Int)==0))=_; rw [show ((d.length:Int)==0)=false by rw [beq_eq_false_iff_ne]; omega])) ?_
 refine o_w (v:=.bool false) (r_asg rfl) ?_
 refine eo_nil_sq ?_
 refine ec_condF rfl rfl ?_
 refine ec_sr ?_
 refine o_w (v:=.bool false) (r_int rfl rfl (by show some (Value.bool ((d.length:Int)==1))=_; rw [show ((d.length:Int)==1)=false by rw [beq_eq_false_iff_ne]; omega])) ?_
 refine o_w (v:=.bool false) (r_asg rfl) ?_
 refine eo_nil_sq ?_
 refine ec_condF rfl rfl ?_
 refine ec_skip ?_
 refine blk_n ?_
 refine sq_n ?_
 refine ec_sr ?_
 refine o_w (v:=.int .i64 0) (r_asg rfl) ?_
 refine eo_nil_sq ?_
 refine ec_seq ?_
 refine ec_sr ?_
 refine o_w (v:=str []) (r_mov rfl) ?_
 refine o_w (v:=.int .i64 (([]:Str).length:Int)) (r_len_str un_string rfl) ?_
 refine o_w (v:=.bool false) (r_int rfl rfl rfl) ?_
 refine eo_nil_sq ?_
 refine ec_condF rfl rfl ?_
 refine ec_skip ?_
 refine sq_n ?_
 refine ec_seq ?_
 refine ec_sr ?_
 refine o_w (v:=.slice A d.length c) (r_mov rfl) ?_
 refine o_w (v:=.int .i64 (d.length:Int)) (r_len_slc un_s_string rfl) ?_
 refine o_w (v:=.int .i64 0) (r_mov rfl) ?_
 refine eo_nil_sq ?_
 refine ec_block ?_
 refine ec_loopE 1 (I:=(fun (i:Nat) ρ ds w'=>∃ (ρ':Env),ρ=envs ρ' [(41,.int .i64 (i:Int)),(5,.int .i64 ((d.take i).flatten.length:Int)),(0,.slice A d.length c),(1,str []),(39,.slice A d.length c),(40,.int .i64 (d.length:Int))]∧ds=[]∧Ext w w')) ?_ (cnt_loop d.length d.length 0 (by omega)) ?_ ?_
 ·intro i z ρ1 ds1 wr hI hb
  obtain ⟨ρr,rfl,rfl,Er⟩:=hI
  refine ec_sr ?_
  refine o_w (v:=.bool (decide ((i:Int)<(d.length:Int)))) (r_int rfl rfl rfl) ?_
  refine eo_nil_sq ?_
  refine ec_seq ?_
  refine ec_cond rfl (fun hc=>?_) (fun hc=>?_)
  ·have hi:i<d.length:=by simpa using hc
   obtain rfl:=hb.1 hi
   refine ec_skip ?_
   refine sq_n ?_
   refine ec_seq ?_
   refine ec_block ?_
   refine ec_seq ?_
   have HPr:=HP.ex Er
   obtain ⟨cs,_,H⟩:=Stb.elem (by decide) HPr (i:Int) (by omega) (by omega)
   obtain ⟨rfl,H'⟩:=kS_open2 H
   refine ec_region ?_
   refine o_w (r_ia slc_s_string rfl rfl (HPr.now.2 _ (lt_toNat (i:=(i:Int)) (by omega) (by omega))).1 (by omega) (by omega)) ?_
   refine o_w (v:=str (nth d (i:Int))) (r_ld' one_string rfl (elemA_spot _ _ _) (H'.now.1.at0 (elemA_spot _ _ _))) ?_
   refine o_w (v:=str (nth d (i:Int))) (r_asg rfl) ?_
   refine eo_nil_sq ?_
   have hfl:=flat_le d i
   have hfs:=nth_flat d hi
   have hfl2:=flat_le d (i + 1)
   rw [hfs,List.length_append] at hfl2
   refine ec_seq ?_
   refine ec_sr ?_
   refine o_w (v:=str (nth d (i:Int))) (r_mov rfl) ?_
   refine o_w (v:=.int .i64 ((nth d (i:Int)).length:Int)) (r_len_str un_string rfl) ?_
   refine o_w (v:=.int .i64 ((d.take i).flatten.length:Int)) (r_mov rfl) ?_
   have e1:IntKind.i64.wrap ((9223372036854775807:Int) - ((d.take i).flatten.length:Int))=(9223372036854775807:Int) - ((d.take i).flatten.length:Int):=by rw [IntKind.wrap_i64]; omega
   refine o_w (v:=.int .i64 ((9223372036854775807:Int) - ((d.take i).flatten.length:Int))) (r_int rfl rfl (by show some (Value.int .i64 (IntKind.i64.wrap ((9223372036854775807:Int) - ((d.take i).flatten.length:Int))))=_; rw [e1])) ?_
   refine o_w (v:=.bool false) (r_int rfl rfl (by show some (Value.bool (decide ((9223372036854775807:Int) - ((d.take i).flatten.length:Int)<((nth d (i:Int)).length:Int))))=_; rw [show decide ((9223372036854775807:Int) - ((d.take i).flatten.length:Int)<((nth d (i:Int)).length:Int))=false by rw [decide_eq_false_iff_not]; omega])) ?_
   refine eo_nil_sq ?_
   refine ec_condF rfl rfl ?_
   refine ec_skip ?_
   refine sq_n ?_
   refine ec_region ?_
   refine o_w (v:=.int .i64 ((d.take i).flatten.length:Int)) (r_mov rfl) ?_
   refine o_w (v:=str (nth d (i:Int))) (r_mov rfl) ?_
   refine o_w (v:=.int .i64 ((nth d (i:Int)).length:Int)) (r_len_str un_string rfl) ?_
   have e2:IntKind.i64.wrap (((d.take i).flatten.length:Int) + ((nth d (i:Int)).length:Int))=((d.take (i + 1)).flatten.length:Int):=by rw [IntKind.wrap_i64,hfs,List.length_append]; omega
   refine o_w (v:=.int .i64 ((d.take (i + 1)).flatten.length:Int)) (r_int rfl rfl (by show some (Value.int .i64 (IntKind.i64.wrap (((d.take i).flatten.length:Int) + ((nth d (i:Int)).length:Int))))=_; rw [e2])) ?_
   refine o_w (v:=.int .i64 ((d.take (i + 1)).flatten.length:Int)) (r_asg rfl) ?_
   refine eo_nil ?_
   refine blk_n ?_
   refine sq_n ?_
   refine ec_region ?_
   have e3:IntKind.i64.wrap ((i:Int) + (1:Int))=((i + 1:Nat):Int):=by rw [IntKind.wrap_i64]; omega
   refine o_w (v:=.int .i64 ((i + 1:Nat):Int)) (r_int rfl rfl (by show some (Value.int .i64 (IntKind.i64.wrap ((i:Int) + (1:Int))))=_; rw [e3])) ?_
   refine o_w (v:=.int .i64 ((i + 1:Nat):Int)) (r_mov rfl) ?_
   refine eo_nil ?_
   exact lq_n ⟨_,envs_self ⟨rfl,rfl,rfl,rfl,rfl,rfl,trivial⟩,rfl,Er⟩
  ·have hi:¬ i<d.length:=by simpa using hc
   obtain rfl:=hb.2 hi
   refine ec_exit ?_
   refine sq_exit ?_
   exact lq_x ⟨_,envs_self ⟨rfl,rfl,rfl,rfl,rfl,rfl,trivial⟩,rfl,Er⟩
 ·exact ⟨_,envs_self ⟨rfl,rfl,rfl,rfl,rfl,rfl,trivial⟩,rfl,Fr.refl _ _⟩
 rintro ρ3 ds3 w3 ⟨ρ3',rfl,rfl,E3⟩
 rw [List.take_length]
 have hL3:=hL.fr E3
 refine blk_hit ?_
 refine sq_n ?_
 refine ec_sr ?_
 refine o_alloc zero_Builder rfl rfl rfl ?_
 intro b w4 eb F4 B4
 have hb:w.heap.size≤b:=by have:=E3.size; omega
 have hL4:Lt (b::L) w4:=(hL3.fr F4).cons B4.lt
 refine eo_r ?_
 refine o_w (v:=.int .i64 (d.flatten.length:Int)) (r_mov rfl) ?_
 refine o_call cf_Grow rfl (GrowJ_c B4 hL4 List.mem_cons_self hf1 hf) rfl rfl ?_
 rintro _ w5 ⟨rfl,F5,v5,B5,O5,N5⟩
 have E4:Ext w w4:=E3.trans F4
 have E5:Ext w w5:=Ext.st E4 F5 (fun m hm=>by rw [List.mem_singleton] at hm; rw [hm]; exact hb)
 have J5:JB w4.heap.size L w b [] w5:=⟨E5,v5,B5,O5,fun q hq=>Nat.le_trans E4.size (N5 q hq)⟩
 have h0:0<d.length:=by omega
 refine eo_nil_sq ?_
 refine ec_seq ?_
 have HP5:=HP.ex E5
 obtain ⟨cs0,_,H0⟩:=Stb.elem (by decide) HP5 (0:Int) (by omega) (by omega)
 obtain ⟨rfl,H0'⟩:=kS_open2 H0
 have hfd:nth d 0++(d.drop 1).flatten=d.flatten:=by
  obtain ⟨x,d',rfl⟩:∃ x d',d=x::d':=by
   cases d with
   | nil=>simp at h0
   | cons x d'=>exact ⟨x,d',rfl⟩
  rfl
 have hfl:=congrArg List.length hfd
 rw [List.length_append] at hfl
 refine ec_region ?_
 refine o_w (v:=.slice A d.length c) (r_mov rfl) ?_
 refine o_w (r_ia slc_s_string rfl rfl (HP5.now.2 _ (lt_toNat (i:=(0:Int)) (by omega) (by omega))).1 (by omega) (by omega)) ?_
 refine o_w (v:=str (nth d (0:Int))) (r_ld' one_string rfl (elemA_spot _ _ _) (H0'.now.1.at0 (elemA_spot _ _ _))) ?_
 refine o_call cf_WriteString rfl (J5.write hb (nth d (0:Int)) (by simp; omega)) rfl rfl ?_
 rintro _ w6 ⟨rfl,J6⟩
 rw [List.nil_append] at J6
 refine eo_nil_sq ?_
 refine ec_seq ?_
 refine ec_sr ?_
 refine o_w (v:=.slice A d.length c) (r_mov rfl) ?_
 have HC:=HP.cutL (l:=1) (h:=(d.length:Int)) (by omega) (by omega) (by omega)
 have hcl:cutL d 1 (d.length:Int)=d.drop 1:=by unfold cutL; simp
 refine o_w (v:=.slice (slA A c 1 1) (cutL d 1 (d.length:Int)).length (c - 1)) (r_sl_slc (d:=d) (l:=1) (h:=(d.length:Int)) slc_s_string rfl rfl ⟨_,rfl⟩ rfl (by omega) (by omega) (by omega) hcap) ?_
 rw [hcl] at HC ⊢
 generalize hd1:d.drop 1=d1 at HC hfd hfl ⊢
 have hd1l:d1.length=d.length - 1:=by rw [← hd1,List.length_drop]
 refine o_w (v:=.int .i64 (d1.length:Int)) (r_len_slc un_s_string rfl) ?_
 refine o_w (v:=.int .i64 0) (r_mov rfl) ?_
 refine eo_nil_sq ?_
 refine ec_block ?_
 refine ec_loopE 3 (I:=(fun (i:Nat) ρ ds w'=>∃ (ρ':Env),ρ=envs ρ' [(65,.int .i64 (i:Int)),(8,.pointer (some ⟨b,0,none⟩)),(1,str []),(63,.slice (slA A c 1 1) d1.length (c - 1)),(64,.int .i64 (d1.length:Int))]∧ds=[]∧JB w4.heap.size L w b (nth d 0++(d1.take i).flatten) w')) ?_ (cnt_loop d1.length d1.length 0 (by omega)) ?_ ?_
 ·intro i z ρ1 ds1 wr hI hb2
  obtain ⟨ρr,rfl,rfl,Jr⟩:=hI
  refine ec_sr ?_
  refine o_w (v:=.bool (decide ((i:Int)<(d1.length:Int)))) (r_int rfl rfl rfl) ?_
  refine eo_nil_sq ?_
  refine ec_seq ?_
  refine ec_cond rfl (fun hc=>?_) (fun hc=>?_)
  ·have hi:i<d1.length:=by simpa using hc
   obtain rfl:=hb2.1 hi
   refine ec_skip ?_
   refine sq_n ?_
   refine ec_seq ?_
   refine ec_block ?_
   refine ec_seq ?_
   have HPr:=HC.ex Jr.1
   obtain ⟨cs,_,H⟩:=Stb.elem (by decide) HPr (i:Int) (by omega) (by omega)
   obtain ⟨rfl,H'⟩:=kS_open2 H
   refine ec_region ?_
   refine o_w (r_ia slc_s_string rfl rfl (HPr.now.2 _ (lt_toNat (i:=(i:Int)) (by omega) (by omega))).1 (by omega) (by omega)) ?_
   refine o_w (v:=str (nth d1 (i:Int))) (r_ld' one_string rfl (elemA_spot _ _ _) (H'.now.1.at0 (elemA_spot _ _ _))) ?_
   refine o_w (v:=str (nth d1 (i:Int))) (r_asg rfl) ?_
   refine eo_nil_sq ?_
   have hfi:=flat_le d1 i
   have hfs:=nth_flat d1 hi
   have hfl2:=flat_le d1 (i + 1)
   rw [hfs,List.length_append] at hfl2
   refine ec_sr ?_
   refine o_w (v:=str []) (r_mov rfl) ?_
   refine o_call cf_WriteString rfl (Jr.write hb [] (by simp only [List.length_append,List.length_nil]; omega)) rfl rfl ?_
   rintro _ w7 ⟨rfl,J7⟩
   rw [List.append_nil] at J7
   refine eo_q ?_
   refine o_w (v:=str (nth d1 (i:Int))) (r_mov rfl) ?_
   refine o_call cf_WriteString rfl (J7.write hb (nth d1 (i:Int)) (by simp only [List.length_append]; omega)) rfl rfl ?_
   rintro _ w8 ⟨rfl,J8⟩
   rw [List.append_assoc,← hfs] at J8
   refine eo_nil ?_
   refine blk_n ?_
   refine sq_n ?_
   refine ec_region ?_
   have e3:IntKind.i64.wrap ((i:Int) + (1:Int))=((i + 1:Nat):Int):=by rw [IntKind.wrap_i64]; omega
   refine o_w (v:=.int .i64 ((i + 1:Nat):Int)) (r_int rfl rfl (by show some (Value.int .i64 (IntKind.i64.wrap ((i:Int) + (1:Int))))=_; rw [e3])) ?_
   refine o_w (v:=.int .i64 ((i + 1:Nat):Int)) (r_mov rfl) ?_
   refine eo_nil ?_
   exact lq_n ⟨_,envs_self ⟨rfl,rfl,rfl,rfl,rfl,trivial⟩,rfl,J8⟩
  ·have hi:¬ i<d1.length:=by simpa using hc
   obtain rfl:=hb2.2 hi
   refine ec_exit ?_
   refine sq_exit ?_
   exact lq_x ⟨_,envs_self ⟨rfl,rfl,rfl,rfl,rfl,trivial⟩,rfl,Jr⟩
 ·exact ⟨_,envs_self ⟨rfl,rfl,rfl,rfl,rfl,trivial⟩,rfl,by simpa using J6⟩
 rintro ρ9 ds9 w9 ⟨ρ9',rfl,rfl,J9⟩
 rw [List.take_length,hfd] at J9
 obtain ⟨E9,v9,B9,O9,N9⟩:=J9
 refine blk_hit ?_
 refine sq_n ?_
 refine ec_sr ?_
 refine o_call cf_BString rfl (bstrJ_c B9 O9 List.mem_cons_self (by intro e; rw [e] at hf1; simp at hf1) (by omega)) rfl rfl ?_
 rintro _ w10 ⟨F10,rfl⟩
 refine o_w (v:=str d.flatten) (r_asg rfl) ?_
 refine eo_nil_sq ?_
 refine ec_ret ?_
 exact end1 rfl ⟨_,rfl,Ext.st E9 F10 (fun m hm=>N9 m hm),rfl⟩
end Go.Proofs.YtdfjbkoimpjkaaaGreat