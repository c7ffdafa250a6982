/- ArenaOrder: entries in any order come to one arena. -/
import Derived.Test.YthifkdgljapmeaaGd7
import Derived.Test.YthifkdgljapmeaaSe10
import Derived.Test.YthifkdgljapmeaaAo
namespace Go.Proofs.Ythifkdgljapmeaa
open Go Go.RowKit
set_option linter.unusedVariables false
set_option linter.unusedSimpArgs false

theorem inK_u8 {n:Int} (h:inK .u8 n):0≤n∧n<256:=by
 have h:(decide (IntKind.u8.min≤n)&&decide (n≤IntKind.u8.max))=true:=h
 simp only [Bool.and_eq_true,decide_eq_true_eq] at h
 have e1:IntKind.u8.min=0:=by decide
 have e2:IntKind.u8.max=255:=by decide
 rw [e1,e2] at h; omega
/-- The entries, turned about. -/
def turnL (l : List Ent) (n k : Nat) : List Ent := (List.range k).map fun i => nth l (((i * 7 + n) % l.length : Nat) : Int)
theorem turnL_snoc (l:List Ent) (n k:Nat):turnL l n (k + 1)=turnL l n k++[nth l (((k * 7 + n) % l.length:Nat):Int)]:=by
 unfold turnL; rw [List.range_succ,List.map_append]; rfl
theorem turnL_len (l:List Ent) (n k:Nat):(turnL l n k).length=k:=by simp [turnL]
theorem turnL_mem (l:List Ent) (n:Nat):∀ x∈turnL l n l.length,x∈l:=fun x hx=>by
 obtain ⟨i,hi,rfl⟩:=List.mem_map.1 hx
 have hi:i<l.length:=by simpa using hi
 rw [nth_nat]
 exact getD_mem' (Nat.mod_lt _ (by omega))
theorem order_loop (l:List Ent) (n:Nat) (hn:n<256) (h8:l.length≤8):∀ k i,i + k=l.length→LoopR (law08_ArenaOrder_b59 l (n:Int)) (turnL l n i,(i:Int)) (turnL l n l.length,(l.length:Int))
 | 0,i,h=>by
  obtain rfl:i=l.length:=by omega
  exact .done ⟨fun c=>by simp at c,fun _=>rfl⟩
 | k + 1,i,h=>by
  have ih:=order_loop l n hn h8 k (i + 1) (by omega)
  rw [turnL_snoc] at ih
  have e1:IntKind.i64.wrap ((i:Int) * (7:Int))=((i * 7:Nat):Int):=by rw [IntKind.wrap_i64]; omega
  have e2:IntKind.i64.wrap ((n:Nat):Int)=((n:Nat):Int):=by rw [IntKind.wrap_i64]; omega
  have e3:IntKind.i64.wrap (((i * 7:Nat):Int) + ((n:Nat):Int))=((i * 7 + n:Nat):Int):=by rw [IntKind.wrap_i64]; omega
  have e4:Int.tmod ((i * 7 + n:Nat):Int) ((l.length:Nat):Int)=(((i * 7 + n) % l.length:Nat):Int):=rfl
  have e5:IntKind.i64.wrap ((i:Int) + (1:Int))=((i + 1:Nat):Int):=by rw [IntKind.wrap_i64]; omega
  have hm:(i * 7 + n) % l.length<l.length:=Nat.mod_lt _ (by omega)
  have hl:=turnL_len l n i
  refine .step ⟨fun _=>?_,fun c=>by simp at c; omega⟩ ih
  simp only [e1,e2,e3,e4,e5]
  refine ⟨by rw [beq_eq_false_iff_ne]; omega,⟨by omega,by omega⟩,by rw [hl]; omega,trivial⟩
theorem odd_no {a:Arena} {l:List Ent} (h:NoErr a l):(mergeA a l).2.2=0:=by
 have h1:=(fold_spec l a 0 0).2.1
 have h2:=of_decide_eq_false (merge_odd.2 h)
 have h1:(0:Int)≤(mergeA a l).2.2:=h1
 omega
theorem order_all {a:Arena} {l m:List Ent} (ho:arOk a=true) (sa:sma a) (sl:sml l) (wa:wfa a) (wl:wfl l) (hm:∀ x∈m,x∈l) (h8:l.length≤8) (m8:m.length≤8) :
  (m.length + l.length≤9223372036854775807∧(m.length + l.length) * 120≤140737488355328)∧(sma a∧(sml (m++l)∧(wfl (m++l)∧(∃ x116,x116=(mergeA a (m++l))∧(((decide (0<(mergeA a l).2.2))=true→(true=(decide (0<x116.2.2))))∧((decide (0<(mergeA a l).2.2))=false→(((x116.2.2==0)=true→(((alikeA (mergeA a l).1 x116.1)=true→(sma (mergeA a l).1∧(sma x116.1∧(sma (mergeA a l).1∧(∃ x169,x169=(allA (mergeA a l).1)∧(sma x116.1∧(∃ x174,x174=(allA x116.1)∧(sml x169∧(true=(allE x169 x174))))))))))∧((alikeA (mergeA a l).1 x116.1)=false→(sma (mergeA a l).1∧(sma x116.1∧(true=false))))))∧((x116.2.2==0)=false→(true=false))))))))):=by
 have hM:∀ x∈m++l,x∈l:=fun x hx=>(List.mem_append.1 hx).elim (hm x) id
 have hL:∀ x∈l,x∈m++l:=fun x hx=>List.mem_append_right _ hx
 have wM:wfl (m++l):=wfl_app wl hM
 have sM:sml (m++l):=⟨by rw [List.length_append]; omega,fun x hx=>sl.2 x (hM x hx)⟩
 have sj:=sma_merge sa sl
 have sk:=sma_merge sa sM
 refine ⟨by omega,sa,sM,wM,_,rfl,fun h=>?_,fun h=>?_⟩
 ·cases hd:decide (0<(mergeA a (m++l)).2.2) with
  | true=>rfl
  | false =>
   have:=merge_odd.2 (order_room ho wa wM wl hL (merge_odd.1 hd))
   rw [this] at h; cases h
 ·have h1:=merge_odd.1 h
  have h2:=order_room ho wa wl wM hM h1
  have h3:=odd_no h2
  have b1:=order_below ho wa wl wM hM h1
  have b2:=order_below ho wa wM wl hL h2
  have ha:alikeA (mergeA a l).1 (mergeA a (m++l)).1=true:=by
   rw [merge_1,merge_1]; unfold alikeA; rw [b1,b2]; rfl
  have hall:allA (mergeA a l).1=allA (mergeA a (m++l)).1:=by
   rw [merge_1,merge_1]; exact alike_all (run_wfa l wa wl) (run_wfa (m++l) wa wM) b2 b1
  exact ⟨fun _=>⟨fun _=>⟨sj,sk,sj,_,rfl,sk,_,rfl,all_sml sj,by rw [hall,allE_self]⟩,fun c=>by rw [ha] at c; cases c⟩,fun c=>by rw [h3] at c; cases c⟩
theorem arenaOrder_ev (a:Arena) (l:List Ent) (n:Int) (ga:GArena a) (gl:Gs_api_Entry l) (gn:inK .u8 n):law08_ArenaOrder_raw a l n true:=by
 obtain ⟨hn0,hn1⟩:=inK_u8 gn
 obtain ⟨k,rfl⟩:=Int.eq_ofNat_of_zero_le hn0
 refine ⟨fun h=>(by cases h),fun _=>⟨fun _=>by decide,fun c=>?_,fun f1=>rfl,fun f1=>?_⟩⟩
 ·have f2:fewA a=true:=by revert c; cases fewA a <;> simp
  exact fewA_sma f2
 have f2:fewA a=true∧entriesB l 8=true∧arOk a=true:=by rw [checkA_ne] at f1; revert f1; cases fewA a <;> cases entriesB l 8 <;> cases arOk a <;> simp
 obtain ⟨f3,f4,ho⟩:=f2
 have sa:=fewA_sma f3
 have sl:=entriesB_sml f4 (by decide)
 have wa:wfa a:=wfl_of ga.2.1
 have wl:wfl l:=wfl_of gl
 have h8:l.length≤8:=by
  have:(l.length:Int)≤8:=by unfold entriesB at f4; simpa using andL f4
  omega
 have hloop:LoopR (law08_ArenaOrder_b59 l (k:Int)) (([]:List Ent),(0:Int)) (turnL l k l.length,(l.length:Int)):=order_loop l k (by omega) h8 l.length 0 (by omega)
 exact ⟨sa,sl,wl,_,rfl,_,hloop,fun _=>order_all ho sa sl wa wl (fun x hx=>hx) h8 h8,fun _=>order_all ho sa sl wa wl (turnL_mem l k) h8 (by show (turnL l k l.length).length≤8; rw [turnL_len]; exact h8)⟩
end Go.Proofs.Ythifkdgljapmeaa
