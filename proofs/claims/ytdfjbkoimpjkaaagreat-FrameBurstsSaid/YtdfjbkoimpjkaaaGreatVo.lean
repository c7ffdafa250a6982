/- octet.Xor: the bits that just one of two texts has. -/
import Derived.Test.YtdfjbkoimpjkaaaGreatVe
import Derived.Test.YtdfjbkoimpjkaaaGreatVa
import Derived.Test.YtdfjbkoimpjkaaaGreatBl
import Derived.Lib.ConvBytes
import Derived.Laws.IdiomStrings
namespace Go.Proofs.YtdfjbkoimpjkaaaGreat
open Go Go.RowKit
set_option linter.unusedVariables false
set_option linter.unusedSimpArgs false

def xorO:Str→Str→Str
 | [],_=>[]
 | x::a,[]=>x::a
 | x::a,y::b=>(x ^^^ y)::xorO a b
theorem xorO_len:∀ a b:Str,(xorO a b).length=a.length
 | [],_=>by simp [xorO]
 | x::a,[]=>rfl
 | x::a,y::b=>by simp [xorO,xorO_len a b]
theorem xorO_nil (a:Str):xorO a []=a:=by cases a <;> rfl
theorem xorO_step:∀ (a b:Str) (i:Nat),i<a.length→i<b.length→xorO a (b.take (i + 1))=(xorO a (b.take i)).set i (a.getD i 0 ^^^ b.getD i 0)
 | [],_,i,h,_=>by simp at h
 | _::_,[],i,_,h=>by simp at h
 | x::a,y::b,0,_,_=>by simp [xorO,xorO_nil]
 | x::a,y::b,i + 1,h1,h2=>by
  have ih:=xorO_step a b i (by simpa using h1) (by simpa using h2)
  simp only [List.take_succ_cons,xorO,List.getD_cons_succ,List.set_cons_succ,ih]
theorem xorO_min (a b:Str):xorO a (b.take (min a.length b.length))=xorO a b:=by
 induction a generalizing b with
 | nil=>simp [xorO]
 | cons x a ih =>
  cases b with
  | nil=>simp
  | cons y b=>simp only [List.length_cons,Nat.succ_min_succ,List.take_succ_cons,xorO,ih]
/-- The bytes s at g, in room for c. -/
def XB (g c : Nat) (s : Str) (w : World) : Prop := ∃ cur : Array Value, w.heap[g]? = some (.cells cur 5 (cur.size, cur.size + 1)) ∧ cur.size = c ∧ s.length ≤ c ∧ ∀ (j : Nat) (b : UInt8), s[j]? = some b → cur[j]? = some (Value.int .u8 (b.toNat : Int))
theorem XB.ex {g c:Nat} {s:Str} {w w':World} (h:XB g c s w) (f:Ext w w'):XB g c s w':=by
 obtain ⟨cur,h1,h2⟩:=h
 exact ⟨cur,(f.block g (Array.getElem?_eq_some_iff.1 h1).1 (by simp)).trans h1,h2⟩
theorem XB.cell {g c j:Nat} {s:Str} {w:World} {b:UInt8} (h:XB g c s w) (hj:s[j]?=some b):w.cell? ⟨g,j,none⟩=some (.int .u8 (b.toNat:Int)):=by
 obtain ⟨cur,h1,h2,h3,h4⟩:=h
 simp [World.cell?,h1,h4 j b hj]
theorem XB_store {P:Program} {g c i:Nat} {s:Str} {w:World} {b:UInt8} (h:XB g c s w) (hi:i<s.length) :
  (store ⟨g,i,none⟩ (.int .u8 (b.toNat:Int))).run P w=.ok () (w.setCell ⟨g,i,none⟩ (.int .u8 (b.toNat:Int)))∧XB g c (s.set i b) (w.setCell ⟨g,i,none⟩ (.int .u8 (b.toNat:Int))):=by
 have hc:=h.cell (j:=i) (b:=s[i]) (by simp [hi])
 obtain ⟨cur,h1,h2,h3,h4⟩:=h
 have hf:w.frozen? ⟨g,i,none⟩=false:=by
  unfold World.frozen?
  rw [h1]
  show (decide (cur.size≤i)&&decide (i<cur.size + 1))=false
  rw [show decide (cur.size≤i)=false by simp; omega]; rfl
 refine ⟨?_,cur.setIfInBounds i (.int .u8 (b.toNat:Int)),?_,by simp [h2],by simp [h3],fun j b' hj=>?_⟩
 ·unfold store
  simp [Sem.run,hc,hf]
 ·obtain ⟨hlt,hk⟩:=Array.getElem?_eq_some_iff.1 h1
  show (w.heap.modify g _)[g]?=_
  rw [Array.getElem?_eq_getElem (by rw [Array.size_modify]; exact hlt),Array.getElem_modify_self,hk]
  simp
 ·rw [Array.getElem?_setIfInBounds]
  rw [List.getElem?_set] at hj
  by_cases hij:i=j
  ·subst hij
   rw [if_pos rfl,if_pos hi] at hj
   cases hj
   rw [if_pos rfl,if_pos (by omega)]
  ·rw [if_neg hij] at hj ⊢
   exact h4 j b' hj
section
variable {P : Program} {r : Option Nat} {N : Nat} {ops : Array Oper} {Q : Post} {rest : List Oper} {ρ : Env} {ds : List Deferred} {w : World} {ty : TypeId} {pos : String} {after : Array Edge} {g0 : Option (Nat × Bool)}
theorem o_storeX {T:TypeId} {X Y:Operand} {g c i:Nat} {s:Str} {b:UInt8} (hX:ev ρ X=.pointer (some ⟨g,i,none⟩)) (hB:XB g c s w) (hY:ev ρ Y=.int .u8 (b.toNat:Int)) (hT:Sz P T 1) (hi:i<s.length) (hg:wantE ops ρ g0=true)
  (h:∀ w',Fr [g] w w'→XB g c (s.set i b) w'→EO P r N ops Q rest ρ ds w') :
  EO P r N ops Q (⟨none,.store T X Y,ty,pos,after,g0⟩::rest) ρ ds w:=by
 obtain ⟨j,h2,h3⟩:=hT
 obtain ⟨hr,hb⟩:=XB_store (P:=P) (b:=b) hB hi
 refine eo_unit (o:=⟨none,.store T X Y,ty,pos,after,g0⟩) hg rfl rfl ?_ (h _ (Fr.setCell w ⟨g,i,none⟩ _) hb)
 have hadd:(⟨g,i,none⟩:Addr).add 0=⟨g,i,none⟩:=by unfold Addr.add; split <;> simp_all
 have hc:(Value.int IntKind.u8 (b.toNat:Int)).cells=#[.int .u8 (b.toNat:Int)]:=rfl
 simp [execOp,hX,hY,Instr.storeAt,Instr.sureAddr,storeVar,hc,storeCells,hadd,sizeOf,typeInfo,h2,h3,hr,program,Sem.run,Result.andThen]
end
theorem Fr.freezeA (w:World) (a:Addr) (n:Nat):Fr [a.block] w (w.freeze a n):=by
 unfold World.freeze
 split
 ·exact Fr.refl _ _
 ·exact ⟨rfl,rfl,rfl,by simp,fun k hk hn=>by
   simp only [Array.getElem?_modify]
   rw [if_neg (by simpa [eq_comm] using hn)]⟩
theorem run_cvt (s:Str) (w:World):∃ c w',(convert 9 48 (str s)).run Tryz.prog w=.ok (.slice (some ⟨w.heap.size,0,none⟩) s.length c) w'∧Ext w w'∧XB w.heap.size c s w':=by
 have h:=Lib.run_convert_string_bytes (P:=Tryz.prog) w 9 48 5 ⟨s.toArray⟩ un_string un_s_uint8 (by exact un_uint8)
 have hsz:(⟨s.toArray⟩:ByteArray).size=s.length:=by simp [ByteArray.size]
 have hge:=grownCap_ge w (⟨s.toArray⟩:ByteArray).size 0 5
 rw [hsz] at h
 refine ⟨_,_,h,Ext.st ((Ext.drew w).trans (Ext.alloc _ _)) (Fr.freezeA _ _ _) (fun m hm=>by rw [List.mem_singleton] at hm; rw [hm]; exact Nat.le_refl _),_,Lib.bytesWorld_at_new w _ _,?_,?_,fun j b hj=>?_⟩
 ·simp only [Lib.bytesCells,Array.size_append,Array.size_map,Array.size_replicate]
  rw [hsz] at hge ⊢
  show s.toArray.size + _=_
  rw [List.size_toArray]; omega
 ·rw [hsz] at hge; omega
 ·have hlt:=(List.getElem?_eq_some_iff.1 hj).1
  simp [Lib.bytesCells,Array.getElem?_append,hlt,hj]
  obtain ⟨_,h2⟩:=List.getElem?_eq_some_iff.1 hj
  rw [h2]
theorem o_cvt {r:Option Nat} {N:Nat} {ops:Array Oper} {Q:Post} {rest:List Oper} {ρ:Env} {ds:List Deferred} {w:World} {ty:TypeId} {pos:String} {after:Array Edge} {g0:Option (Nat × Bool)} {d:Nat} {X:Operand} {s:Str} (hX:ev ρ X=str s) (hg:wantE ops ρ g0=true) (hd:Nat.blt d N=true)
  (h:∀ g c w',g=w.heap.size→Ext w w'→XB g c s w'→EO Tryz.prog r N ops Q rest (upd ρ d (.slice (some ⟨g,0,none⟩) s.length c)) ds w') :
  EO Tryz.prog r N ops Q (⟨some d,.convert 9 48 X,ty,pos,after,g0⟩::rest) ρ ds w:=by
 obtain ⟨c,w',h1,h2,h3⟩:=run_cvt s w
 refine eo_val (o:=⟨some d,.convert 9 48 X,ty,pos,after,g0⟩) hg rfl hd ?_ (h w.heap.size c w' rfl h2 h3)
 simp [execOp,hX,h1]
theorem xor_byte (x y:UInt8):octet_Xor_1_raw (x.toNat:Int) (y.toNat:Int) ((x ^^^ y).toNat:Int):=by
 unfold octet_Xor_1_raw
 have hx:=byte_lt x
 have hy:=byte_lt y
 have h:(BitVec.ofInt IntKind.u8.bits (x.toNat:Int) ^^^ BitVec.ofInt IntKind.u8.bits (y.toNat:Int)).toNat=(x ^^^ y).toNat:=by
  rw [BitVec.toNat_xor,UInt8.toNat_xor,show IntKind.u8.bits=8 from rfl,BitVec.toNat_ofInt,BitVec.toNat_ofInt]
  congr 1 <;> omega
 rw [h,IntKind.wrap_u8]
 have:=byte_lt (x ^^^ y)
 omega
theorem cf_Xor1:CF Tryz.prog 50:=fun _ _=>by kernel_rfl
theorem cf_mix:CF Tryz.prog 49:=fun _ _=>by kernel_rfl
theorem nth_toNat (l:Str) (i:Nat):nth l (i:Int)=l.getD i 0:=nth_nat l i
set_option maxRecDepth 20000 in
set_option maxHeartbeats 4000000 in
theorem mix_c {w : World} (a b : Str) (ha : a.length ≤ 1000000000) (hb : b.length ≤ 1000000000) :
    Calls Tryz.prog 49 [str a, str b, .func (.func 50) #[] #[]].toArray w (Ret fun v w' => Ext w w' ∧ v = str (xorO a b)) := by
  refine calls_ec Tryz.func49 rfl rfl rfl ?_
  refine ec_sr ?_
  refine o_v (v := str []) (r_asg rfl) rfl rfl rfl ?_
  refine eo_r ?_
  refine o_v (v := str a) (r_mov rfl) rfl rfl rfl ?_
  refine o_cvt rfl rfl rfl ?_
  intro g c w1 eg F1 X1
  refine o_v (v := .slice (some ⟨g, 0, none⟩) a.length c) (r_asg rfl) rfl rfl rfl ?_
  refine eo_nil_sq ?_
  refine ec_seq ?_
  refine ec_sr ?_
  refine o_v (v := str a) (r_mov rfl) rfl rfl rfl ?_
  refine o_v (v := .int .i64 (a.length : Int)) (r_len_str un_string rfl) rfl rfl rfl ?_
  refine o_v (v := str b) (r_mov rfl) rfl rfl rfl ?_
  refine o_v (v := .int .i64 (b.length : Int)) (r_len_str un_string rfl) rfl rfl rfl ?_
  refine o_v (v := .int .i64 (min (a.length : Int) (b.length : Int))) (r_min rfl rfl) rfl rfl rfl ?_
  refine o_v (v := .int .i64 (0 : Int)) (r_mov rfl) rfl rfl rfl ?_
  refine eo_nil_sq ?_
  refine ec_block ?_
  have hmin : min (a.length : Int) (b.length : Int) = ((min a.length b.length : Nat) : Int) := by omega
  rw [hmin]
  generalize hm : min a.length b.length = m
  have hma : m ≤ a.length := by omega
  have hmb : m ≤ b.length := by omega
  refine ec_loopE 0 (I := (fun (i : Nat) ρ ds w' => ∃ (ρ' : Env), ρ = envs ρ' [(16, .int .i64 (i : Int)), (15, .int .i64 (m : Int)), (0, str a), (1, str b), (2, .func (.func 50) #[] #[]), (7, .slice (some ⟨g, 0, none⟩) a.length c)] ∧ ds = [] ∧ Ext w w' ∧ XB g c (xorO a (b.take i)) w')) ?_ (cnt_loop m m 0 (by omega)) ?_ ?_
  · intro i z ρ1 ds1 wr hI hb1
    obtain ⟨ρr, rfl, rfl, Er, Xr⟩ := hI
    refine ec_sr ?_
    refine o_v (v := .bool (decide ((i : Int) < (m : Int)))) (r_int rfl rfl rfl) rfl rfl rfl ?_
    refine eo_nil_sq ?_
    refine ec_seq ?_
    refine ec_cond rfl (fun hc => ?_) (fun hc => ?_)
    · have hi : i < m := by simpa using hc
      obtain rfl := hb1.1 hi
      refine ec_skip ?_
      refine sq_n ?_
      refine ec_seq ?_
      refine ec_block ?_
      refine ec_sr ?_
      refine o_v (v := .int .i64 (i : Int)) (r_mov rfl) rfl rfl rfl ?_
      refine o_v (v := .int .i64 (i : Int)) (r_asg rfl) rfl rfl rfl ?_
      refine eo_nil_sq ?_
      have hai : i < a.length := by omega
      have hbi : i < b.length := by omega
      have hlen := xorO_len a (b.take i)
      have hst := xorO_step a b i hai hbi
      refine ec_anyN (by kernel_rfl) [[], [], [], [], [], [3, 4], [], [], [6, 7], [2, 3, 4, 5, 6, 7, 8], [0, 1, 2, 3, 4, 5, 6, 7, 8, 9], [0, 1, 2, 3, 4, 5, 6, 7, 8, 9, 10]] [19, 20, 21, 22, 23, 24, 25, 26, 27, 28, 29] [g] [11] [[g]] [[11]]
        [fun w' => XB g c (xorO a (b.take i)) w', fun w' => XB g c (xorO a (b.take (i + 1))) w']
        [fun v _ => v = (.slice (some ⟨g, 0, none⟩) a.length c : Value), fun v _ => v = (.int .i64 (i : Int) : Value), fun v _ => v = (.func (.func 50) #[] #[] : Value), fun v _ => v = str a, fun v _ => v = (.int .i64 (i : Int) : Value), fun v _ => v = (.int .u8 ((a.getD i 0).toNat : Int) : Value),
         fun v _ => v = str b, fun v _ => v = (.int .i64 (i : Int) : Value), fun v _ => v = (.int .u8 ((b.getD i 0).toNat : Int) : Value), fun v _ => v = (.int .u8 ((a.getD i 0 ^^^ b.getD i 0).toNat : Int) : Value), fun v _ => v = (.pointer (some ⟨g, i, none⟩) : Value), fun _ _ => True]
        (by kernel_rfl) (allM1 (fun m hm => hm) (fun _ h => by cases h))
        ⟨fun _ _ _ _ _ h => h, fun _ _ _ _ _ h => h, fun _ _ _ _ _ h => h, fun _ _ _ _ _ h => h, fun _ _ _ _ _ h => h, fun _ _ _ _ _ h => h, fun _ _ _ _ _ h => h, fun _ _ _ _ _ h => h, fun _ _ _ _ _ h => h, fun _ _ _ _ _ h => h, fun _ _ _ _ _ h => h, fun _ _ _ _ _ h => h, trivial⟩
        ⟨⟨fun _ _ _ _ _ h => h, fun _ _ _ _ _ h => h, fun _ _ _ _ _ h => h, fun _ _ _ _ _ h => h, fun _ _ _ _ _ h => h, fun _ _ _ _ _ h => h, fun _ _ _ _ _ h => h, fun _ _ _ _ _ h => h, fun _ _ _ _ _ h => h, fun _ _ _ _ _ h => h, fun _ _ _ _ _ h => h, fun _ _ _ _ _ h => h, trivial⟩, trivial⟩
        ⟨fun _ _ f h => h.ex f, fun _ _ f h => h.ex f, trivial⟩ Xr ?_ ?_ ?_
      · refine ⟨?_, ?_, ?_, ?_, ?_, ?_, ?_, ?_, ?_, ?_, ?_, ?_, trivial⟩
        · intro _ ρ w2 F2 hX hS hρ
          have q : ρ 7 = .slice (some ⟨g, 0, none⟩) a.length c := hρ 7 (by kernel_rfl)
          exact o_v (r_mov q) rfl rfl rfl (eo_nil ⟨rfl, rfl, _, rfl, Fr.refl _ _, rfl⟩)
        · intro _ ρ w2 F2 hX hS hρ
          have q : ρ 8 = .int .i64 (i : Int) := hρ 8 (by kernel_rfl)
          exact o_v (r_mov q) rfl rfl rfl (eo_nil ⟨rfl, rfl, _, rfl, Fr.refl _ _, rfl⟩)
        · intro _ ρ w2 F2 hX hS hρ
          have q : ρ 2 = .func (.func 50) #[] #[] := hρ 2 (by kernel_rfl)
          exact o_v (r_mov q) rfl rfl rfl (eo_nil ⟨rfl, rfl, _, rfl, Fr.refl _ _, rfl⟩)
        · intro _ ρ w2 F2 hX hS hρ
          have q : ρ 0 = str a := hρ 0 (by kernel_rfl)
          exact o_v (r_mov q) rfl rfl rfl (eo_nil ⟨rfl, rfl, _, rfl, Fr.refl _ _, rfl⟩)
        · intro _ ρ w2 F2 hX hS hρ
          have q : ρ 8 = .int .i64 (i : Int) := hρ 8 (by kernel_rfl)
          exact o_v (r_mov q) rfl rfl rfl (eo_nil ⟨rfl, rfl, _, rfl, Fr.refl _ _, rfl⟩)
        · intro _ ρ w2 F2 hX hS hρ
          have q1 : ρ 22 = str a := hS 3 (by decide) 22 rfl
          have q2 : ρ 23 = .int .i64 (i : Int) := hS 4 (by decide) 23 rfl
          refine o_v (r_ix_str un_string q1 q2 (by omega) (by omega)) rfl rfl rfl (eo_nil ⟨rfl, rfl, _, rfl, Fr.refl _ _, ?_⟩)
          show Value.int .u8 ((nth a (i : Int)).toNat : Int) = _
          rw [nth_toNat]
        · intro _ ρ w2 F2 hX hS hρ
          have q : ρ 1 = str b := hρ 1 (by kernel_rfl)
          exact o_v (r_mov q) rfl rfl rfl (eo_nil ⟨rfl, rfl, _, rfl, Fr.refl _ _, rfl⟩)
        · intro _ ρ w2 F2 hX hS hρ
          have q : ρ 8 = .int .i64 (i : Int) := hρ 8 (by kernel_rfl)
          exact o_v (r_mov q) rfl rfl rfl (eo_nil ⟨rfl, rfl, _, rfl, Fr.refl _ _, rfl⟩)
        · intro _ ρ w2 F2 hX hS hρ
          have q1 : ρ 25 = str b := hS 6 (by decide) 25 rfl
          have q2 : ρ 26 = .int .i64 (i : Int) := hS 7 (by decide) 26 rfl
          refine o_v (r_ix_str un_string q1 q2 (by omega) (by omega)) rfl rfl rfl (eo_nil ⟨rfl, rfl, _, rfl, Fr.refl _ _, ?_⟩)
          show Value.int .u8 ((nth b (i : Int)).toNat : Int) = _
          rw [nth_toNat]
        · intro _ ρ w2 F2 hX hS hρ
          have q0 : ρ 21 = .func (.func 50) #[] #[] := hS 2 (by decide) 21 rfl
          have q1 : ρ 24 = .int .u8 ((a.getD i 0).toNat : Int) := hS 5 (by decide) 24 rfl
          have q2 : ρ 27 = .int .u8 ((b.getD i 0).toNat : Int) := hS 8 (by decide) 27 rfl
          refine o_callv cf_Xor1 q0 (vs := [.int .u8 ((a.getD i 0).toNat : Int), .int .u8 ((b.getD i 0).toNat : Int)]) (by show [ρ 24, ρ 27] = _; rw [q1, q2]) (octet_Xor_1_c (L := []) _ _ (fun _ hm => by cases hm) (xor_byte (a.getD i 0) (b.getD i 0))) rfl rfl ?_
          rintro _ w3 ⟨F3, rfl⟩
          exact eo_nil ⟨rfl, rfl, _, rfl, F3, rfl⟩
        · intro _ ρ w2 F2 hX hS hρ
          have q1 : ρ 19 = .slice (some ⟨g, 0, none⟩) a.length c := hS 0 (by decide) 19 rfl
          have q2 : ρ 20 = .int .i64 (i : Int) := hS 1 (by decide) 20 rfl
          exact o_v (r_ia' slc_s_uint8 q1 q2 (by omega) hai) rfl rfl rfl (eo_nil ⟨rfl, rfl, _, rfl, Fr.refl _ _, rfl⟩)
        · intro hT; exact absurd hT (by decide)
      · refine ⟨⟨_, rfl, ?_⟩, trivial⟩
        intro ρ w2 F2 hX hI hS hρ
        have hI' : XB g c (xorO a (b.take i)) w2 := hI
        have q1 : ρ 29 = .pointer (some ⟨g, i, none⟩) := hS 10 (by decide) 29 rfl
        have q2 : ρ 28 = .int .u8 ((a.getD i 0 ^^^ b.getD i 0).toNat : Int) := hS 9 (by decide) 28 rfl
        refine o_storeX q1 hI' q2 sz_uint8 (by omega) rfl ?_
        intro w3 F3 X3
        rw [← hst] at X3
        exact eo_nil ⟨rfl, rfl, .nilIface, rfl, F3, X3, trivial⟩
      · intro ρ w2 F2 hI hS hρ
        have hI' : XB g c (xorO a (b.take (i + 1))) w2 := hI
        have q16 : ρ 16 = .int .i64 (i : Int) := hρ 16 (by kernel_rfl)
        have q15 : ρ 15 = .int .i64 (m : Int) := hρ 15 (by kernel_rfl)
        have q0 : ρ 0 = str a := hρ 0 (by kernel_rfl)
        have q1 : ρ 1 = str b := hρ 1 (by kernel_rfl)
        have q2 : ρ 2 = .func (.func 50) #[] #[] := hρ 2 (by kernel_rfl)
        have q7 : ρ 7 = .slice (some ⟨g, 0, none⟩) a.length c := hρ 7 (by kernel_rfl)
        obtain ⟨ρ', rfl⟩ : ∃ ρ', ρ = envs ρ' [(16, .int .i64 (i : Int)), (15, .int .i64 (m : Int)), (0, str a), (1, str b), (2, .func (.func 50) #[] #[]), (7, .slice (some ⟨g, 0, none⟩) a.length c)] := ⟨ρ, envs_self ⟨q16, q15, q0, q1, q2, q7, trivial⟩⟩
        have E2 : Ext w w2 := Ext.st Er F2 (fun m hm => by rw [List.mem_singleton] at hm; omega)
        refine blk_n ?_
        refine sq_n ?_
        refine ec_region ?_
        have e3 : IntKind.i64.wrap ((i : Int) + (1 : Int)) = ((i + 1 : Nat) : Int) := by rw [IntKind.wrap_i64]; omega
        refine o_v (v := .int .i64 ((i + 1 : Nat) : Int)) (r_int rfl rfl (by show some (Value.int .i64 (IntKind.i64.wrap ((i : Int) + (1 : Int)))) = _; rw [e3])) rfl rfl rfl ?_
        refine o_v (v := .int .i64 ((i + 1 : Nat) : Int)) (r_mov rfl) rfl rfl rfl ?_
        refine eo_nil ?_
        exact lq_n ⟨_, envs_self ⟨rfl, rfl, rfl, rfl, rfl, rfl, trivial⟩, rfl, E2, hI'⟩
    · have hi : ¬ i < m := by simpa using hc
      obtain rfl := hb1.2 hi
      refine ec_exit ?_
      refine sq_exit ?_
      exact lq_x ⟨_, envs_self ⟨rfl, rfl, rfl, rfl, rfl, rfl, trivial⟩, rfl, Er, Xr⟩
  · exact ⟨_, envs_self ⟨rfl, rfl, rfl, rfl, rfl, rfl, trivial⟩, rfl, F1, by rw [List.take_zero, xorO_nil]; exact X1⟩
  rintro ρ3 ds3 w3 ⟨ρ3', rfl, rfl, E3, X3⟩
  rw [← hm, xorO_min] at X3
  refine blk_hit ?_
  refine sq_n ?_
  refine ec_sr ?_
  refine o_v (v := .slice (some ⟨g, 0, none⟩) a.length c) (r_mov rfl) rfl rfl rfl ?_
  have hback := run_convert_bytes_back (P := Tryz.prog) w3 48 9 5 ⟨g, 0, none⟩ c (xorO a b) un_s_uint8 un_uint8 un_string (fun j hj => by
    rw [addr_add0]
    exact X3.cell (by simp [hj]))
  rw [xorO_len] at hback
  refine o_v (v := str (xorO a b)) (by
    simp only [RunV, execOp, Sem.run_bind]
    refine (congrArg (fun z => Result.andThen z _) hback).trans ?_
    rfl) rfl rfl rfl ?_
  refine o_v (v := str (xorO a b)) (r_asg rfl) rfl rfl rfl ?_
  refine eo_nil_sq ?_
  refine ec_ret ?_
  exact end1 rfl ⟨_, rfl, E3, rfl⟩
def octet_Xor_raw (a b y:Str):Prop:=a.length≤1000000000∧b.length≤1000000000∧y=xorO a b
theorem octXor_ev (a b:Str) (ha:a.length≤1000000000) (hb:b.length≤1000000000):octet_Xor_raw a b (xorO a b):=⟨ha,hb,rfl⟩
theorem octet_Xor_c {L:List Nat} {w:World} (a b:Str) (hL:Lt L w) {y:Str} (h:octet_Xor_raw a b y) :
  Calls Tryz.prog 20 [str a,str b].toArray w (Ret fun v w'=>Ext w w'∧v=str y):=by
 obtain ⟨ha,hb,rfl⟩:=h
 refine calls_ec Tryz.func20 rfl rfl rfl ?_
 refine ec_sr ?_
 refine o_w (v:=str []) (r_asg rfl) ?_
 refine eo_r ?_
 refine o_w (v:=str a) (r_mov rfl) ?_
 refine o_w (v:=str b) (r_mov rfl) ?_
 refine o_call cf_mix rfl (mix_c a b ha hb) rfl rfl ?_
 rintro _ w1 ⟨F1,rfl⟩
 refine o_w (v:=str (xorO a b)) (r_asg rfl) ?_
 refine eo_nil_sq ?_
 refine ec_ret ?_
 exact end1 rfl ⟨_,rfl,F1,rfl⟩
end Go.Proofs.YtdfjbkoimpjkaaaGreat
