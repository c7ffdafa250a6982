/- DigestAlike: arenas that are alike have the same sums. -/
import Derived.Test.YthbfhgenkhkpfaaGreatGjAlike
import Derived.Test.YthbfhgenkhkpfaaGreatSu6
namespace Go.Proofs.YthbfhgenkhkpfaaGreat
open Go Go.RowKit
set_option linter.unusedVariables false
set_option linter.unusedSimpArgs false
theorem sumB_perm (k:Int) {l m:List Ent} (h:l.Perm m):sumB k l=sumB k m:=by
 induction h with
 | nil=>rfl
 | cons x _ ih=>simp only [sumB,ih]
 | swap x y l=>simp only [sumB]; rw [← Nat.xor_assoc,← Nat.xor_assoc,Nat.xor_comm (bif bktE y==k then crcE y else 0)]
 | trans _ _ ih1 ih2=>exact ih1.trans ih2
theorem idR_map (l:List Ent):(idR l.length).map (nth l)=l:=by
 apply List.ext_getElem (by rw [List.length_map,idR_length])
 intro i h1 h2
 simp [idR,nth,h2]
theorem all_perm {a:Arena} (h:arOk a=true):(allA a).Perm a.slots:=by
 rw [allA_eq h]
 have:=(idxR_perm a.slots).map (nth a.slots)
 rwa [idR_map] at this
theorem back_loop (x25:Arena × Int × Int) (h8:x25.1.slots.length≤12):∀ n,n≤x25.1.slots.length→LoopR (law10_DigestAlike_b69 x25) ((x25.1.slots.drop n).reverse,(n:Int) - 1) (x25.1.slots.reverse,-1)
 | 0,_=>by
  rw [List.drop_zero]
  exact .done ⟨fun c=>by simp at c,fun _=>rfl⟩
 | n + 1,hn=>by
  refine .step (s':=((x25.1.slots.drop n).reverse,(n:Int) - 1)) ⟨fun _=>⟨⟨by omega,by omega⟩,⟨?_,?_⟩,?_⟩,fun c=>by simp at c⟩ (back_loop x25 h8 n (by omega))
  ·show (x25.1.slots.drop (n + 1)).reverse.length + 1≤_
   rw [List.length_reverse,List.length_drop]; omega
  ·show ((x25.1.slots.drop (n + 1)).reverse.length + 1) * 120≤_
   rw [List.length_reverse,List.length_drop]; omega
  ·show Sum.inl _=Sum.inl ((x25.1.slots.drop (n + 1)).reverse++[nth x25.1.slots (((n + 1:Nat):Int) - 1)],IntKind.i64.wrap (((n + 1:Nat):Int) - 1 - 1))
   rw [show ((n + 1:Nat):Int) - 1=(n:Int) by omega,nth_nat,wrap64 (by omega) (by omega)]
   have:x25.1.slots.drop n=x25.1.slots.getD n default::x25.1.slots.drop (n + 1):=by
    rw [List.drop_eq_getElem_cons (by omega)]; simp [show n<x25.1.slots.length by omega]
   rw [this,List.reverse_cons]
theorem run_bad {a:Arena} (h:arOk a=false):∀ (l:List Ent),runA a l=a
 | []=>rfl
 | e::l=>by
  have he:(joinA a e).1=a:=by unfold joinA; rw [h]; rfl
  show runA (joinA a e).1 l=a
  rw [he]; exact run_bad h l
theorem few12 {a:Arena} (h:fewA a=true):a.slots.length≤12:=by
 unfold fewA at h
 have h1:=andL h
 have h3:(a.slots.length:Int)≤12:=by unfold entriesB at h1; simpa using andL h1
 omega
theorem digestAlike_row (a:Arena) (l:List Ent) (ga:GArena a) (gl:Gs_api_Entry l):law10_DigestAlike_raw a l true:=by
 refine ⟨fun h=>(by cases h),fun _=>⟨fun _=>by decide,fun _=>rfl,fun f1=>?_⟩⟩
 have f1:=of_not f1
 have sa:=fewA_sma (andL f1)
 have sl:=entriesB_sml (andR f1) (by decide)
 have wa:wfa a:=wfl_of ga.2.1
 have wl:wfl l:=wfl_of gl
 have sb:=sma_merge sa sl
 have hb1:(mergeA a l).1=runA a l:=merge_1 a l
 have wb:wfa (mergeA a l).1:=by rw [hb1]; exact run_wfa l wa wl
 have hL:(mergeA a l).1.slots.length≤12:=by
  rw [hb1]
  cases ho:arOk a with
  | false=>rw [run_bad ho]; exact few12 (andL f1)
  | true=>have:=(ok_slots8 (run_arOk l ho)).1; omega
 have s0:sma (⟨(mergeA a l).1.cap,[],[]⟩:Arena):=⟨⟨Nat.zero_le _,fun e h=>by cases h⟩,Nat.zero_le _,Nat.zero_le _⟩
 have sback:sml (mergeA a l).1.slots.reverse:=⟨by rw [List.length_reverse]; omega,fun e he=>sb.1.2 e (List.mem_reverse.1 he)⟩
 have wback:wfl (mergeA a l).1.slots.reverse:=fun e he=>wb e (List.mem_reverse.1 he)
 have w0:wfa (⟨(mergeA a l).1.cap,[],[]⟩:Arena):=fun e h=>by cases h
 have sc:=sma_merge s0 sback
 have hloop:=back_loop (mergeA a l) hL (mergeA a l).1.slots.length (Nat.le_refl _)
 rw [List.drop_length] at hloop
 refine ⟨sa,sl,wl,_,rfl,((mergeA a l).1.slots.reverse,-1),?_,s0,sback,wback,_,rfl,sb,sc,?_⟩
 ·rw [wrap64 (by omega) (by omega)]; exact hloop
 have hc1:(mergeA ⟨(mergeA a l).1.cap,[],[]⟩ (mergeA a l).1.slots.reverse).1=runA ⟨(mergeA a l).1.cap,[],[]⟩ (mergeA a l).1.slots.reverse:=merge_1 _ _
 cases hob:arOk (mergeA a l).1 with
 | false =>
  have hna:alikeA (mergeA a l).1 (mergeA ⟨(mergeA a l).1.cap,[],[]⟩ (mergeA a l).1.slots.reverse).1=false:=by
   unfold alikeA belowA; rw [hob]; rfl
  exact ⟨fun _=>⟨sb,by rw [checkA_ne,hob]; rfl⟩,fun c=>by rw [hna] at c; cases c⟩
 | true =>
  have hcap:=(arOk_iff.1 hob).1
  have ho0:arOk (⟨(mergeA a l).1.cap,[],[]⟩:Arena)=true:=arOk_iff.2 ⟨⟨hcap.1,hcap.2.1,(show (0:Int)≤(mergeA a l).1.cap by omega)⟩,fun e h=>(by cases h),(arOk_iff.1 (show arOk (⟨1,[],[]⟩:Arena)=true by decide)).2.2.1,rfl⟩
  have hmem:∀ x∈(mergeA a l).1.slots.reverse,okE x=true∧∃ f∈(mergeA a l).1.slots,nameE x f=true:=fun x hx=>⟨(ok_slots8 hob).2 x (List.mem_reverse.1 hx),x,List.mem_reverse.1 hx,nameE_self x⟩
  have hNo:=run_room _ ho0 w0 wback hob rfl (fun x h=>by cases h) hmem
  have hoc:=run_arOk (mergeA a l).1.slots.reverse ho0
  have wc:=run_wfa (mergeA a l).1.slots.reverse w0 wback
  have hbc:belowA (mergeA a l).1 (runA ⟨(mergeA a l).1.cap,[],[]⟩ (mergeA a l).1.slots.reverse)=true:=belowA_iff.2 ⟨hob,hoc,fun x hx=>(run_there _ w0 wback hNo x (List.mem_reverse.2 hx)).2⟩
  have hcb:belowA (runA ⟨(mergeA a l).1.cap,[],[]⟩ (mergeA a l).1.slots.reverse) (mergeA a l).1=true :=
   run_least _ w0 wback wb (belowA_iff.2 ⟨ho0,hob,fun x h=>by cases h⟩) (fun x hx=>Blw.self (List.mem_reverse.1 hx) ((ok_slots8 hob).2 x (List.mem_reverse.1 hx)) (wb x (List.mem_reverse.1 hx)))
  have hal:=alike_all wb wc hbc hcb
  have hperm:(mergeA a l).1.slots.Perm (runA ⟨(mergeA a l).1.cap,[],[]⟩ (mergeA a l).1.slots.reverse).slots:=by
   have h1:=(all_perm hob).symm
   rw [hal] at h1
   exact h1.trans (all_perm hoc)
  have hsum:sumsD (mergeA a l).1=sumsD (mergeA ⟨(mergeA a l).1.cap,[],[]⟩ (mergeA a l).1.slots.reverse).1:=by
   rw [hc1,sumsD_ok hob,sumsD_ok hoc]
   unfold sums4
   rw [sumB_perm 0 hperm,sumB_perm 1 hperm,sumB_perm 2 hperm,sumB_perm 3 hperm]
  have hya:alikeA (mergeA a l).1 (mergeA ⟨(mergeA a l).1.cap,[],[]⟩ (mergeA a l).1.slots.reverse).1=true:=by
   rw [hc1]; unfold alikeA; rw [hbc,hcb]; rfl
  refine ⟨fun c=>(by rw [hya] at c; cases c),fun _=>⟨fun _=>⟨sb,_,rfl,sumsD_length _,sc,_,rfl,sumsD_length _,sb,_,rfl,sumsD_length _,sc,_,rfl,sumsD_length _,?_⟩,fun c=>?_⟩⟩
  ·rw [hsum,dif_self]; rfl
  ·exfalso; rw [hsum] at c; simp at c
end Go.Proofs.YthbfhgenkhkpfaaGreat
