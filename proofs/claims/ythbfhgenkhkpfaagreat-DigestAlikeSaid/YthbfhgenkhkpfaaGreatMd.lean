/- Digests: what each function comes to. -/
import Derived.Test.YthbfhgenkhkpfaaGreatMl
namespace Go.Proofs.YthbfhgenkhkpfaaGreat
open Go Go.RowKit
set_option linter.unusedVariables false
set_option linter.unusedSimpArgs false
def digest_Sums_b29 (s29:Int × Int × Int × Int) (y29:(Int × Ent)) (z29:(Int × Int × Int × Int) ⊕ (Int × Int × Int × Int)):Prop :=
 (sm y29.2.val)∧(∃ x104,x104=(putE y29.2)∧((0≤y29.1∧y29.1<((4:Nat):Int))∧(x104.1.length≤9223372036854775807∧((0≤y29.1∧y29.1<((4:Nat):Int))∧(z29=.inl ((nth (([s29.1,s29.2.1,s29.2.2.1,s29.2.2.2]:List Int).set y29.1.toNat (IntKind.i64.wrap ((BitVec.ofInt IntKind.i64.bits (nth [s29.1,s29.2.1,s29.2.2.1,s29.2.2.2] y29.1) ^^^ BitVec.ofInt IntKind.i64.bits (sumC x104.1)).toNat:Int))) 0),(nth (([s29.1,s29.2.1,s29.2.2.1,s29.2.2.2]:List Int).set y29.1.toNat (IntKind.i64.wrap ((BitVec.ofInt IntKind.i64.bits (nth [s29.1,s29.2.1,s29.2.2.1,s29.2.2.2] y29.1) ^^^ BitVec.ofInt IntKind.i64.bits (sumC x104.1)).toNat:Int))) 1),(nth (([s29.1,s29.2.1,s29.2.2.1,s29.2.2.2]:List Int).set y29.1.toNat (IntKind.i64.wrap ((BitVec.ofInt IntKind.i64.bits (nth [s29.1,s29.2.1,s29.2.2.1,s29.2.2.2] y29.1) ^^^ BitVec.ofInt IntKind.i64.bits (sumC x104.1)).toNat:Int))) 2),(nth (([s29.1,s29.2.1,s29.2.2.1,s29.2.2.2]:List Int).set y29.1.toNat (IntKind.i64.wrap ((BitVec.ofInt IntKind.i64.bits (nth [s29.1,s29.2.1,s29.2.2.1,s29.2.2.2] y29.1) ^^^ BitVec.ofInt IntKind.i64.bits (sumC x104.1)).toNat:Int))) 3)))))))
def digest_Sums_raw (d0:Arena) (y:(List Int)):Prop :=
 (sma d0)∧(∃ x29,ItR (digest_Sums_b29) ((0:Int),(0:Int),(0:Int),(0:Int)) (slotsD d0) x29∧(∀ sx29,x29=.inl sx29→(y=[sx29.1,sx29.2.1,sx29.2.2.1,sx29.2.2.2]))∧(∀ yx29,x29=.inr yx29→False))
set_option maxRecDepth 20000 in
set_option maxHeartbeats 4000000 in
theorem digest_Sums_c {L:List Nat} {w:World} {csP0:List Value} (d0:Arena) (HP0:Stb L w (fun w=>kArena.r w csP0 d0)) (hL:Lt L w) {y:(List Int)} (h:digest_Sums_raw d0 y) :
  Calls Tryz.prog 18 [.agg csP0.toArray].toArray w (Ret fun v w'=>Ext w w'∧v=.agg #[.int .i64 (nth y 0),.int .i64 (nth y 1),.int .i64 (nth y 2),.int .i64 (nth y 3)]∧y.length=4):=by
 obtain ⟨A1,c2,A4,c5,rfl,H3,H6⟩:=kArena_open HP0
 unfold digest_Sums_raw at h
 refine calls_ecM Tryz.func18 rfl rfl rfl ?_
 refine ec_sr ?_
 refine o_box (cs:=(cArena d0 A1 c2 A4 c5)) rfl rfl rfl ?_
 intro b7 w7 e7 F7 B7
 have S7:=B7.stb (nin hL e7)
 have G8:Fr L w w7:=Fr.ext F7
 refine o_alloc zero_4_int rfl rfl rfl ?_
 intro b9 w9 e9 F9 B9
 have n9:w.heap.size≤b9:=by rw [e9]; exact F7.size
 have m10:w.heap.size≤b9:=by rw [e9]; exact G8.size
 have E12:=F7.trans F9
 have G14:Fr L w7 w9:=Fr.ext F9
 refine eo_r ?_
 refine o_alloc zero_digest_sums rfl rfl rfl ?_
 intro b15 w15 e15 F15 B15
 have n15:w.heap.size≤b15:=by rw [e15]; exact E12.size
 have q16:b9<b15:=by rw [e15]; exact B9.lt
 have m17:w.heap.size≤b15:=by rw [e15]; exact (G8.trans (Fr.ext F9)).size
 have E19:=E12.trans F15
 refine eo_nil_sq ?_
 refine ec_seq ?_
 refine ec_sr ?_
 refine o_w (v:=.agg (cArena d0 A1 c2 A4 c5).toArray) (r_lda agg_api_Arena rfl (vs:=(cArena d0 A1 c2 A4 c5)) rfl ((S7.fr (G14.trans (Fr.ext F15)) sI).now.part (n:=3) rfl)) ?_
 refine o_inl (vs:=[.agg (cArena d0 A1 c2 A4 c5).toArray]) (caps:=[]) cf_digest_slots rfl rfl rfl rfl ?_
 refine calls_ec Tryz.func40 rfl rfl rfl ?_
 refine ec_sr ?_
 refine o_box (cs:=(cArena d0 A1 c2 A4 c5)) rfl rfl rfl ?_
 intro b23 w23 e23 F23 B23
 have S23:=B23.stb (nin (((hL.fr E19).cons (B9.ex F15).lt).cons B15.lt) e23)
 have E24:=E19.trans F23
 refine o_w (v:=.nilFunc) (r_asg rfl) ?_
 refine eo_r ?_
 refine o_w (r_mkfn' (vs:=[.pointer (some ⟨b23,0,none⟩)]) rfl) ?_
 refine o_w (v:=.func (.func 72) #[] #[.pointer (some ⟨b23,0,none⟩)]) (r_asg rfl) ?_
 refine eo_nil_sq ?_
 refine ec_ret ?_
 refine end1 (v:=.func (.func 72) #[] #[.pointer (some ⟨b23,0,none⟩)]) rfl ⟨_,rfl,?_⟩
 refine eo_nil_sq ?_
 refine ec_block ?_
 obtain ⟨ha30,h⟩:=h
 refine ec_range (ps:=[10,11]) (gf:=72) (lb:=[.pointer (some ⟨b23,0,none⟩)]) rfl cf_digest_slots_1 ?_
 intro D29 l29 rec29 w29 eD29 e29 hr29 F29 BD29 BL29
 have n29:w.heap.size≤D29:=by rw [eD29]; exact E24.size
 have nl29:w.heap.size≤l29:=by omega
 have nd29:D29<l29:=by omega
 have q31:b9<D29:=by rw [eD29]; exact ((B9.ex F15).ex F23).lt
 have q32:b15<D29:=by rw [eD29]; exact (B15.ex F23).lt
 have m33:w.heap.size≤D29:=by rw [eD29]; exact (((G8.trans (Fr.ext F9)).trans (Fr.ext F15)).trans (Fr.ext F23)).size
 have m34:w.heap.size≤l29:=by omega
 have m37:w23.heap.size≤D29:=Nat.le_of_eq eD29.symm
 have m38:w23.heap.size≤l29:=by omega
 have E39:=E24.trans F29
 have G40:=(((G8.trans (Fr.ext F9)).trans (Fr.ext F15)).trans (Fr.ext F23)).trans (Fr.ext F29)
 have G42:Fr (b15::(b9::L)) w23 w29:=Fr.ext F29
 obtain ⟨x29,hl29,h⟩:=h
 refine range_run (S:=Int × Int × Int × Int) (R:=Int × Int × Int × Int) (slots_it d0 (S23.up G42 sI (upc (.inr m38) (upc (.inr m37) (upc (.inl mH) (upc (.inl (mT mH)) (fun m hm=>Or.inl (mT (mT hm)))))))) (kArena_mk (d:=d0) (H3.up G40 sI (upc (.inr m34) (upc (.inr m33) (upc (.inr m17) (upc (.inr m10) (fun _ h=>.inl h)))))) (H6.up G40 sI (upc (.inr m34) (upc (.inr m33) (upc (.inr m17) (upc (.inr m10) (fun _ h=>.inl h))))))) (((((hL.fr E39).cons (((B9.ex F15).ex F23).ex F29).lt).cons ((B15.ex F23).ex F29).lt).cons BD29.lt).cons BL29.lt) ha30) (fun (s29:Int × Int × Int × Int) T w'=>T=(l29::(D29::(b15::(b9::L))))∧Fr (l29::(D29::(b15::(b9::L)))) w29 w'∧Ext w w'∧Blk w' b15 69 [.int .i64 s29.1,.int .i64 s29.2.1,.int .i64 s29.2.2.1,.int .i64 s29.2.2.2]∧Blk w' b9 26 [.int .i64 0,.int .i64 0,.int .i64 0,.int .i64 0]∧Lp w' D29 (.deferred (some []))∧Lp w' l29 (.loop (rec29 .ready none))) (fun (s29:Int × Int × Int × Int) w'=>Fr (l29::(D29::(b15::(b9::L)))) w29 w'∧Ext w w'∧Blk w' b15 69 [.int .i64 s29.1,.int .i64 s29.2.1,.int .i64 s29.2.2.1,.int .i64 s29.2.2.2]∧Blk w' b9 26 [.int .i64 0,.int .i64 0,.int .i64 0,.int .i64 0]∧Lp w' D29 (.deferred (some []))∧Lp w' l29 (.loop (rec29 .done (some .ret)))) hl29 ((l29::(D29::(b15::(b9::L))))) sI (fun _ h=>by cases h) ⟨rfl,(Fr.refl _ _),E39,((B15.ex F23).ex F29),(((B9.ex F15).ex F23).ex F29),BD29,BL29⟩ (fun _ _ w' w'' h f=>by obtain ⟨rfl,F,E,B29ib15,B29ib9,B29iD29,B29il29⟩:=h; exact ⟨rfl,F.trans (Fr.ext f),E.trans f,B29ib15.ex f,B29ib9.ex f,B29iD29.ex f,B29il29.ex f⟩) (fun _ w' w'' h f=>by obtain ⟨F,E,B29ib15,B29ib9,B29iD29,B29il29⟩:=h; exact ⟨F.trans (Fr.ext f),E.trans f,B29ib15.ex f,B29ib9.ex f,B29iD29.ex f,B29il29.ex f⟩) (fun _ _ w' h=>by obtain ⟨rfl,F,E,B29ib15,B29ib9,B29iD29,B29il29⟩:=h; exact (((((hL.fr E).cons B29ib9.lt).cons B29ib15.lt).cons B29iD29.lt).cons B29il29.lt)) ?_ ?_ ?_
 ·intro s29 y29 z29 T29 w29r vs29 hI29 hX29 hb29
  obtain ⟨rfl,F29r,E29r,B29rb15,B29rb9,B29rD29,B29rl29⟩:=hI29
  have h:=hb29
  unfold digest_Sums_b29 at h
  obtain ⟨cs49,rfl,HX48⟩:=hX29
  obtain ⟨A50,c51,A53,c54,rfl,H52,H55⟩:=kEnt_open HX48
  refine range_round (ps:=[10,11]) hr29 B29rl29 rfl rfl ?_
  refine ec_sr ?_
  refine o_w (v:=.int .i64 y29.1) (r_asg rfl) ?_
  refine eo_q ?_
  refine o_alloc zero_api_Entry rfl rfl rfl ?_
  intro b56 w56 e56 F56 B56
  have n56:w.heap.size≤b56:=by rw [e56]; exact E29r.size
  have q57:b9<b56:=by rw [e56]; exact B29rb9.lt
  have q58:b15<b56:=by rw [e56]; exact B29rb15.lt
  have q59:l29<b56:=by rw [e56]; exact B29rl29.lt
  have q60:D29<b56:=by rw [e56]; exact B29rD29.lt
  have m64:w29.heap.size≤b56:=by rw [e56]; exact F29r.size
  have m65:w29r.heap.size≤b56:=Nat.le_of_eq e56.symm
  have m66:w29r.heap.size≤b56:=Nat.le_of_eq e56.symm
  have E67:=E29r.trans F56
  have G72:Fr (l29::(D29::(b15::(b9::L)))) w29r w56:=Fr.ext F56
  have G73:Fr (l29::(D29::(b15::(b9::L)))) w29r w56:=Fr.ext F56
  refine o_store rfl B56 (vs:=(cEnt y29.2 A50 c51 A53 c54)) rfl sz_api_Entry rfl rfl rfl ?_
  intro w78 F78 B78
  have E79:=Ext.st E67 F78 (by simp; omega)
  have G83:Fr (l29::(D29::(b15::(b9::L)))) w29 w78:=(F29r.trans (Fr.ext F56)).stp F78 (upc (.inr m64) (fun m hm=>by cases hm))
  have G84:Fr (l29::(D29::(b15::(b9::L)))) w29r w78:=G72.stp F78 (upc (.inr m65) (fun m hm=>by cases hm))
  have G85:Fr (l29::(D29::(b15::(b9::L)))) w29r w78:=G73.stp F78 (upc (.inr m66) (fun m hm=>by cases hm))
  have B86:=(B29rb9.ex F56).fr F78 (by simp; omega)
  have B87:=(B29rb15.ex F56).fr F78 (by simp; omega)
  have B88:=(B29rl29.ex F56).fr F78 (by simp; omega)
  have B89:=(B29rD29.ex F56).fr F78 (by simp; omega)
  have B78':Blk w78 b56 _ (cEnt y29.2 A50 c51 A53 c54):=B78
  refine eo_nil ?_
  refine ⟨rfl,rfl,B88,fun w90 F91 BL92=>?_⟩
  have E93:=Ext.st E79 F91 (by simp; omega)
  have G97:Fr (l29::(D29::(b15::(b9::L)))) w29 w90:=G83.stp F91 (upc (.inl mH) (fun m hm=>by cases hm))
  have G98:Fr (l29::(D29::(b15::(b9::L)))) w29r w90:=G84.stp F91 (upc (.inl mH) (fun m hm=>by cases hm))
  have G99:Fr (l29::(D29::(b15::(b9::L)))) w29r w90:=G85.stp F91 (upc (.inl mH) (fun m hm=>by cases hm))
  have B100:=B86.fr F91 (by simp; omega)
  have B101:=B87.fr F91 (by simp; omega)
  have B102:=B89.fr F91 (by simp; omega)
  have B103:=B78'.fr F91 (by simp; omega)
  refine ec_block ?_
  refine ec_sr ?_
  refine o_w (v:=.agg (cEnt y29.2 A50 c51 A53 c54).toArray) (r_lda agg_api_Entry rfl (vs:=(cEnt y29.2 A50 c51 A53 c54)) rfl (B103.part (n:=9) rfl)) ?_
  obtain ⟨ha105,h⟩:=h
  obtain ⟨x104,hx104,h⟩:=h
  refine o_call cf_entry_Put rfl (entry_Put_c y29.2 (kEnt_mk (d:=y29.2) (H52.up G99 sI (upc (.inr m66) (upc (.inl mH) (upc (.inl (mT mH)) (upc (.inl (mT (mT mH))) (upc (.inl (mT (mT (mT mH)))) (fun m hm=>Or.inl (mT (mT (mT (mT hm))))))))))) (H55.up G99 sI (upc (.inr m66) (upc (.inl mH) (upc (.inl (mT mH)) (upc (.inl (mT (mT mH))) (upc (.inl (mT (mT (mT mH)))) (fun m hm=>Or.inl (mT (mT (mT (mT hm)))))))))))) ((((((hL.fr E93).cons B100.lt).cons B101.lt).cons B102.lt).cons BL92.lt).cons B103.lt) (eq_ev hx104 (entPut_ev y29.2 ha105))) rfl rfl ?_
  rintro _ w104 ⟨F104,rfl⟩
  have E106:=E93.trans F104
  refine o_w (v:=.tuple #[str x104.1,.int .i64 x104.2]) (r_mov rfl) ?_
  refine o_w (v:=str x104.1) (r_ext rfl rfl) ?_
  refine o_w (v:=.int .i64 x104.2) (r_ext rfl rfl) ?_
  refine o_w (v:=str x104.1) (r_asg rfl) ?_
  refine o_w (v:=.int .i64 x104.2) (r_asg rfl) ?_
  refine eo_nil_sq ?_
  obtain ⟨ha121,h⟩:=h
  obtain ⟨ha123,h⟩:=h
  obtain ⟨ha124,h⟩:=h
  have qb120_b15:b15<w104.heap.size:=(B101.ex F104).lt
  refine ec_anyN (by kernel_rfl) [[],[0],[0,1],[],[3],[0,1,2,3,4],[0,1,2,3,4,5],[0,1,2,3,4,5,6]] [17,18,19,20,21,22,23] (b15::[]) [7] [[b15]] [[7]] [fun w'=>Blk w' b15 69 [.int .i64 s29.1,.int .i64 s29.2.1,.int .i64 s29.2.2.1,.int .i64 s29.2.2.2],fun w'=>Blk w' b15 69 [.int .i64 (nth (([s29.1,s29.2.1,s29.2.2.1,s29.2.2.2]:List Int).set y29.1.toNat (IntKind.i64.wrap ((BitVec.ofInt IntKind.i64.bits (nth [s29.1,s29.2.1,s29.2.2.1,s29.2.2.2] y29.1) ^^^ BitVec.ofInt IntKind.i64.bits (sumC x104.1)).toNat:Int))) 0),.int .i64 (nth (([s29.1,s29.2.1,s29.2.2.1,s29.2.2.2]:List Int).set y29.1.toNat (IntKind.i64.wrap ((BitVec.ofInt IntKind.i64.bits (nth [s29.1,s29.2.1,s29.2.2.1,s29.2.2.2] y29.1) ^^^ BitVec.ofInt IntKind.i64.bits (sumC x104.1)).toNat:Int))) 1),.int .i64 (nth (([s29.1,s29.2.1,s29.2.2.1,s29.2.2.2]:List Int).set y29.1.toNat (IntKind.i64.wrap ((BitVec.ofInt IntKind.i64.bits (nth [s29.1,s29.2.1,s29.2.2.1,s29.2.2.2] y29.1) ^^^ BitVec.ofInt IntKind.i64.bits (sumC x104.1)).toNat:Int))) 2),.int .i64 (nth (([s29.1,s29.2.1,s29.2.2.1,s29.2.2.2]:List Int).set y29.1.toNat (IntKind.i64.wrap ((BitVec.ofInt IntKind.i64.bits (nth [s29.1,s29.2.1,s29.2.2.1,s29.2.2.2] y29.1) ^^^ BitVec.ofInt IntKind.i64.bits (sumC x104.1)).toNat:Int))) 3)]] [fun v _=>v=(.int .i64 y29.1:Value),fun v _=>v=(.pointer (some ⟨b15,y29.1.toNat,none⟩):Value),fun v _=>v=(.int .i64 (nth [s29.1,s29.2.1,s29.2.2.1,s29.2.2.2] y29.1):Value),fun v _=>v=(str x104.1:Value),fun v _=>v=(.int .i64 (sumC x104.1):Value),fun v _=>v=(.int .i64 (IntKind.i64.wrap ((BitVec.ofInt IntKind.i64.bits (nth [s29.1,s29.2.1,s29.2.2.1,s29.2.2.2] y29.1) ^^^ BitVec.ofInt IntKind.i64.bits (sumC x104.1)).toNat:Int)):Value),fun v _=>v=(.pointer (some ⟨b15,y29.1.toNat,none⟩):Value),fun _ _=>True] (by kernel_rfl) (allM1 (fun m hm=>by first | exact hm | (simp at hm ⊢; simp [hm]; done) | simp_all) (fun _ h=>by cases h)) ⟨fun _ _ _ _ _ h=>h,fun _ _ _ _ _ h=>h,fun _ _ _ _ _ h=>h,fun _ _ _ _ _ h=>h,fun _ _ _ _ _ h=>h,fun _ _ _ _ _ h=>h,fun _ _ _ _ _ h=>h,fun _ _ _ _ _ h=>h,trivial⟩ ⟨⟨fun _ _ _ _ _ h=>h,fun _ _ _ _ _ h=>h,fun _ _ _ _ _ h=>h,fun _ _ _ _ _ h=>h,fun _ _ _ _ _ h=>h,fun _ _ _ _ _ h=>h,fun _ _ _ _ _ h=>h,(fun h=>absurd h (by decide)),trivial⟩,trivial⟩ ⟨fun w' w'' F h=>by have hB120_b15:=h; exact (hB120_b15.ex F),fun w' w'' F h=>by have hB120_b15:=h; exact (hB120_b15.ex F),trivial⟩ (B101.ex F104) ?_ ?_ ?_
  ·refine ⟨?_,?_,?_,?_,?_,?_,?_,?_,trivial⟩
   ·intro _ ρ w120o F120o hX hS hρ
    have F120o:=hX 7 rfl rfl
    have q4:ρ 4=.int .i64 y29.1:=hρ 4 (by kernel_rfl)
    exact o_q (r_mov q4) ⟨Fr.refl _ _,rfl⟩
   ·intro _ ρ w120o F120o hX hS hρ
    have F120o:=hX 7 rfl rfl
    have q3:ρ 3=.pointer (some ⟨b15,0,none⟩):=hρ 3 (by kernel_rfl)
    have q17:ρ 17=.int .i64 y29.1:=hS 0 (by decide) 17 rfl
    exact o_q (r_iaA un_digest_sums sz_int q3 q17 ha121) ⟨Fr.refl _ _,rfl⟩
   ·intro _ ρ w120o F120o hX hS hρ
    have F120o:=hX 7 rfl rfl
    have q18:ρ 18=.pointer (some ⟨b15,y29.1.toNat,none⟩):=hS 1 (by decide) 18 rfl
    exact o_q (r_ld one_int q18 (Blk.cellV (f:=(Value.int .i64)) (m:=4) (e:=[s29.1,s29.2.1,s29.2.2.1,s29.2.2.2]) ((B101.ex F104).ex F120o) ha121)) ⟨Fr.refl _ _,rfl⟩
   ·intro _ ρ w120o F120o hX hS hρ
    have F120o:=hX 7 rfl rfl
    have q6:ρ 6=str x104.1:=hρ 6 (by kernel_rfl)
    exact o_q (r_mov q6) ⟨Fr.refl _ _,rfl⟩
   ·intro _ ρ w120o F120o hX hS hρ
    have F120o:=hX 7 rfl rfl
    have E137:=E106.trans F120o
    have q20:ρ 20=str x104.1:=hS 3 (by decide) 20 rfl
    refine o_call cf_crc_Sum (by simp only [List.map,ev,q20] <;> rfl) (crc_Sum_c x104.1 ((((((hL.fr E137).cons ((B100.ex F104).ex F120o).lt).cons ((B101.ex F104).ex F120o).lt).cons ((B102.ex F104).ex F120o).lt).cons ((BL92.ex F104).ex F120o).lt).cons ((B103.ex F104).ex F120o).lt) (crcSum_ev x104.1 ha123)) rfl rfl ?_
    rintro _ w' ⟨F,rfl⟩
    exact eo_nil ⟨rfl,rfl,_,rfl,F,rfl⟩
   ·intro _ ρ w120o F120o hX hS hρ
    have F120o:=hX 7 rfl rfl
    have q19:ρ 19=.int .i64 (nth [s29.1,s29.2.1,s29.2.2.1,s29.2.2.2] y29.1):=hS 2 (by decide) 19 rfl
    have q21:ρ 21=.int .i64 (sumC x104.1):=hS 4 (by decide) 21 rfl
    exact o_q (r_int q19 q21 rfl) ⟨Fr.refl _ _,rfl⟩
   ·intro _ ρ w120o F120o hX hS hρ
    have F120o:=hX 7 rfl rfl
    have q3:ρ 3=.pointer (some ⟨b15,0,none⟩):=hρ 3 (by kernel_rfl)
    have q17:ρ 17=.int .i64 y29.1:=hS 0 (by decide) 17 rfl
    exact o_q (r_iaA un_digest_sums sz_int q3 q17 ha124) ⟨Fr.refl _ _,rfl⟩
   ·intro hT; exact absurd hT (by decide)
  ·refine ⟨⟨_,rfl,?_⟩,trivial⟩
   ·intro ρ w120o F120o hX hI hS hρ
    have hB120_b15:=hI
    have q22:ρ 22=.int .i64 (IntKind.i64.wrap ((BitVec.ofInt IntKind.i64.bits (nth [s29.1,s29.2.1,s29.2.2.1,s29.2.2.2] y29.1) ^^^ BitVec.ofInt IntKind.i64.bits (sumC x104.1)).toNat:Int)):=hS 5 (by decide) 22 rfl
    have q23:ρ 23=.pointer (some ⟨b15,y29.1.toNat,none⟩):=hS 6 (by decide) 23 rfl
    refine o_storeV (f:=(Value.int .i64)) (m:=4) (e:=([s29.1,s29.2.1,s29.2.2.1,s29.2.2.2]:List Int)) (v:=(IntKind.i64.wrap ((BitVec.ofInt IntKind.i64.bits (nth [s29.1,s29.2.1,s29.2.2.1,s29.2.2.2] y29.1) ^^^ BitVec.ofInt IntKind.i64.bits (sumC x104.1)).toNat:Int))) (show ev ρ _=_ from q23) hB120_b15 ha124 rfl q22 int_one sz_int rfl ?_
    intro w' F B2
    exact eo_nil ⟨rfl,rfl,undef,rfl,F,B2,trivial⟩
  ·intro ρ w120 F120 hI hS hρ
   have hB120_b15:=hI
   obtain ⟨ρ',rfl⟩:∃ ρ',ρ=envs (ovr [17,18,19,20,21,22,23] ρ' _) []:=⟨ρ,ovr_self hρ trivial⟩
   have E161:Ext w w120:=Ext.st E106 F120 (upc n15 (fun m hm=>by cases hm))
   have G165:Fr (l29::(D29::(b15::(b9::L)))) w29 w120:=Fr.stp (G97.trans (Fr.ext F104)) F120 (upc (.inl (by simp)) (fun m hm=>by cases hm))
   have G166:Fr (l29::(D29::(b15::(b9::L)))) w29r w120:=Fr.stp (G98.trans (Fr.ext F104)) F120 (upc (.inl (by simp)) (fun m hm=>by cases hm))
   have B168:=(B100.ex F104).fr F120 (fun hm=>(show ∀ m∈_,m≠b9 from (upc (by omega) (fun m hm=>by cases hm))) _ hm rfl)
   have B169:=(BL92.ex F104).fr F120 (fun hm=>(show ∀ m∈_,m≠l29 from (upc (by omega) (fun m hm=>by cases hm))) _ hm rfl)
   have B170:=(B102.ex F104).fr F120 (fun hm=>(show ∀ m∈_,m≠D29 from (upc (by omega) (fun m hm=>by cases hm))) _ hm rfl)
   refine blk_n ?_
   subst h
   refine ⟨none,rfl,B169,fun w172 F173 BL174=>?_⟩
   have E175:=Ext.st E161 F173 (by simp; omega)
   have G179:Fr (l29::(D29::(b15::(b9::L)))) w29 w172:=G165.stp F173 (upc (.inl mH) (fun m hm=>by cases hm))
   have G180:Fr (l29::(D29::(b15::(b9::L)))) w29r w172:=G166.stp F173 (upc (.inl mH) (fun m hm=>by cases hm))
   have B182:=B168.fr F173 (by simp; omega)
   have B183:=hB120_b15.fr F173 (by simp; omega)
   have B184:=B170.fr F173 (by simp; omega)
   exact ⟨rfl,_,⟨rfl,G179,E175,B183,B182,B184,BL174⟩,G180,(upc (.inl mH) (upc (.inl (mT mH)) (upc (.inl (mT (mT mH))) (upc (.inl (mT (mT (mT mH)))) (fun m hm=>Or.inl (mT (mT (mT (mT hm)))))))))⟩
 ·rintro sx29 rfl T29 w29e v29 hI29
  replace h:=h.1 _ rfl
  obtain ⟨rfl,F29e,E29e,B29eb15,B29eb9,B29eD29,B29el29⟩:=hI29
  refine ⟨⟨_,rfl⟩,none,B29el29,fun w189 F190=>?_⟩
  have E191:=Ext.st E29e F190 (by simp; omega)
  have B195:=B29eb9.fr F190 (by simp; omega)
  have B196:=B29eb15.fr F190 (by simp; omega)
  have B197:=B29eD29.fr F190 (by simp; omega)
  refine blk_n ?_
  refine sq_n ?_
  refine ec_sr ?_
  refine o_w (v:=.agg #[.int .i64 sx29.1,.int .i64 sx29.2.1,.int .i64 sx29.2.2.1,.int .i64 sx29.2.2.2]) (r_lda agg_digest_sums rfl (vs:=[.int .i64 sx29.1,.int .i64 sx29.2.1,.int .i64 sx29.2.2.1,.int .i64 sx29.2.2.2]) rfl (B196.part (n:=4) rfl)) ?_
  refine o_store rfl B195 (vs:=[.int .i64 sx29.1,.int .i64 sx29.2.1,.int .i64 sx29.2.2.1,.int .i64 sx29.2.2.2]) rfl sz_4_int rfl rfl rfl ?_
  intro w198 F198 B198
  have E199:=Ext.st E191 F198 (by simp; omega)
  have B204:=B197.fr F198 (by simp; omega)
  have B198':Blk w198 b9 _ [.int .i64 sx29.1,.int .i64 sx29.2.1,.int .i64 sx29.2.2.1,.int .i64 sx29.2.2.2]:=B198
  refine eo_nil_sq ?_
  refine ec_ret ?_
  refine marksS B204 (fun w205 F205=>?_)
  have E206:=Ext.st E199 F205 (by simp; omega)
  have B210:=B198'.fr F205 (by simp; omega)
  subst h
  exact marks0 ((endr1 (rv_a rfl (agg_4_int) B210 (vs:=[.int .i64 sx29.1,.int .i64 sx29.2.1,.int .i64 sx29.2.2.1,.int .i64 sx29.2.2.2]) rfl rfl) ⟨_,rfl,E206,rfl,rfl⟩))
 ·rintro yx29 rfl; exact (h.2 _ rfl).elim
def digest_In_b55 (d1:Int) (d2:Int) (s55:List Ent) (y55:(Int × Ent)) (z55:(List Ent) ⊕ (List Ent)):Prop :=
 (((decide (0≤d1))&&(decide (d1≤15)))=true→decide (0≤y55.1)=true)∧(((((decide (0≤d1))&&(decide (d1≤15)))&&((IntKind.i64.wrap ((BitVec.ofInt IntKind.i64.bits (Int.fdiv d1 (2 ^ min (y55.1).toNat IntKind.i64.bits)) &&& BitVec.ofInt IntKind.i64.bits (1:Int)).toNat:Int))==1))=true→(((decide ((s55.length:Int)<d2))=true→((s55.length + 1≤9223372036854775807∧(s55.length + 1) * 120≤140737488355328)∧(z55=.inl (s55++([y55.2]:List Ent)))))∧((decide ((s55.length:Int)<d2))=false→(z55=.inl s55))))∧((((decide (0≤d1))&&(decide (d1≤15)))&&((IntKind.i64.wrap ((BitVec.ofInt IntKind.i64.bits (Int.fdiv d1 (2 ^ min (y55.1).toNat IntKind.i64.bits)) &&& BitVec.ofInt IntKind.i64.bits (1:Int)).toNat:Int))==1))=false→(z55=.inl s55)))
def digest_In_raw (d0:Arena) (d1:Int) (d2:Int) (y:(List Ent)):Prop :=
 (sma d0)∧(∃ x55,ItR (digest_In_b55 d1 d2) ([]:List Ent) (slotsD d0) x55∧(∀ sx55,x55=.inl sx55→(y=sx55))∧(∀ yx55,x55=.inr yx55→False))
set_option maxRecDepth 20000 in
set_option maxHeartbeats 4000000 in
theorem digest_In_c {L:List Nat} {w:World} {csP0:List Value} (d0:Arena) (HP0:Stb L w (fun w=>kArena.r w csP0 d0)) (d1:Int) (d2:Int) (hL:Lt L w) {y:(List Ent)} (h:digest_In_raw d0 d1 d2 y) :
  Calls Tryz.prog 15 [.agg csP0.toArray,.int .i64 d1,.int .i64 d2].toArray w (Ret fun v w'=>Ext w w'∧∃ (A90:Option Addr) (c90:Nat),v=.slice A90 (y).length c90∧Stb L w' (fun w=>SlC kEnt w A90 c90 y)):=by
 obtain ⟨A1,c2,A4,c5,rfl,H3,H6⟩:=kArena_open HP0
 unfold digest_In_raw at h
 refine calls_ecM Tryz.func15 rfl rfl rfl ?_
 refine ec_sr ?_
 refine o_box (cs:=(cArena d0 A1 c2 A4 c5)) rfl rfl rfl ?_
 intro b7 w7 e7 F7 B7
 have S7:=B7.stb (nin hL e7)
 have G8:Fr L w w7:=Fr.ext F7
 refine o_box (cs:=[.int .i64 d1]) rfl rfl rfl ?_
 intro b9 w9 e9 F9 B9
 have S9:=B9.stb (nin (hL.fr F7) e9)
 have E10:=F7.trans F9
 have G12:Fr L w7 w9:=Fr.ext F9
 refine o_box (cs:=[.int .i64 d2]) rfl rfl rfl ?_
 intro b13 w13 e13 F13 B13
 have S13:=B13.stb (nin (hL.fr E10) e13)
 have E14:=E10.trans F13
 have G17:Fr L w9 w13:=Fr.ext F13
 refine o_w (v:=.slice none ([]:List Ent).length 0) (r_asg rfl) ?_
 refine eo_r ?_
 refine o_alloc zero_s_api_Entry rfl rfl rfl ?_
 intro b18 w18 e18 F18 B18
 have n18:w.heap.size≤b18:=by rw [e18]; exact E14.size
 have m19:w.heap.size≤b18:=by rw [e18]; exact ((G8.trans (Fr.ext F9)).trans (Fr.ext F13)).size
 have m21:w9.heap.size≤b18:=by rw [e18]; exact G17.size
 have m22:w13.heap.size≤b18:=Nat.le_of_eq e18.symm
 have E23:=E14.trans F18
 have G27:Fr L w13 w18:=Fr.ext F18
 refine eo_r ?_
 refine o_w (r_mkfn' (vs:=[.pointer (some ⟨b9,0,none⟩)]) rfl) ?_
 refine o_alloc zero_func_int_bool rfl rfl rfl ?_
 intro b28 w28 e28 F28 B28
 have n28:w.heap.size≤b28:=by rw [e28]; exact E23.size
 have q29:b18<b28:=by rw [e28]; exact B18.lt
 have m30:w.heap.size≤b28:=by rw [e28]; exact (((G8.trans (Fr.ext F9)).trans (Fr.ext F13)).trans (Fr.ext F18)).size
 have m31:w7.heap.size≤b28:=by rw [e28]; exact ((G12.trans (Fr.ext F13)).trans (Fr.ext F18)).size
 have m32:w9.heap.size≤b28:=by rw [e28]; exact (G17.trans (Fr.ext F18)).size
 have m33:w13.heap.size≤b28:=by rw [e28]; exact G27.size
 have E34:=E23.trans F28
 have G35:=(((G8.trans (Fr.ext F9)).trans (Fr.ext F13)).trans (Fr.ext F18)).trans (Fr.ext F28)
 refine o_store rfl B28 (vs:=[.func (.func 39) #[] #[.pointer (some ⟨b9,0,none⟩)]]) rfl sz_func_int_bool rfl rfl rfl ?_
 intro w40 F40 B40
 have E41:=Ext.st E34 F40 (by simp; omega)
 have G42:Fr L w w40:=G35.stp F40 (upc (.inr m30) (fun m hm=>by cases hm))
 have G43:Fr L w7 w40:=(((G12.trans (Fr.ext F13)).trans (Fr.ext F18)).trans (Fr.ext F28)).stp F40 (upc (.inr m31) (fun m hm=>by cases hm))
 have G44:Fr L w9 w40:=((G17.trans (Fr.ext F18)).trans (Fr.ext F28)).stp F40 (upc (.inr m32) (fun m hm=>by cases hm))
 have G45:Fr L w13 w40:=(G27.trans (Fr.ext F28)).stp F40 (upc (.inr m33) (fun m hm=>by cases hm))
 have B46:=(B18.ex F28).fr F40 (by simp; omega)
 have B40':Blk w40 b28 _ [.func (.func 39) #[] #[.pointer (some ⟨b9,0,none⟩)]]:=B40
 refine eo_nil_sq ?_
 refine ec_seq ?_
 refine ec_sr ?_
 refine o_w (v:=.agg (cArena d0 A1 c2 A4 c5).toArray) (r_lda agg_api_Arena rfl (vs:=(cArena d0 A1 c2 A4 c5)) rfl ((S7.fr G43 sI).now.part (n:=3) rfl)) ?_
 refine o_inl (vs:=[.agg (cArena d0 A1 c2 A4 c5).toArray]) (caps:=[]) cf_digest_slots rfl rfl rfl rfl ?_
 refine calls_ec Tryz.func40 rfl rfl rfl ?_
 refine ec_sr ?_
 refine o_box (cs:=(cArena d0 A1 c2 A4 c5)) rfl rfl rfl ?_
 intro b47 w47 e47 F47 B47
 have S47:=B47.stb (nin (((hL.fr E41).cons B46.lt).cons B40'.lt) e47)
 have E48:=E41.trans F47
 refine o_w (v:=.nilFunc) (r_asg rfl) ?_
 refine eo_r ?_
 refine o_w (r_mkfn' (vs:=[.pointer (some ⟨b47,0,none⟩)]) rfl) ?_
 refine o_w (v:=.func (.func 72) #[] #[.pointer (some ⟨b47,0,none⟩)]) (r_asg rfl) ?_
 refine eo_nil_sq ?_
 refine ec_ret ?_
 refine end1 (v:=.func (.func 72) #[] #[.pointer (some ⟨b47,0,none⟩)]) rfl ⟨_,rfl,?_⟩
 refine eo_nil_sq ?_
 refine ec_block ?_
 obtain ⟨ha56,h⟩:=h
 refine ec_range (ps:=[14,15]) (gf:=72) (lb:=[.pointer (some ⟨b47,0,none⟩)]) rfl cf_digest_slots_1 ?_
 intro D55 l55 rec55 w55 eD55 e55 hr55 F55 BD55 BL55
 have n55:w.heap.size≤D55:=by rw [eD55]; exact E48.size
 have nl55:w.heap.size≤l55:=by omega
 have nd55:D55<l55:=by omega
 have q57:b18<D55:=by rw [eD55]; exact (B46.ex F47).lt
 have q58:b28<D55:=by rw [eD55]; exact (B40'.ex F47).lt
 have m59:w.heap.size≤D55:=by rw [eD55]; exact (G42.trans (Fr.ext F47)).size
 have m60:w.heap.size≤l55:=by omega
 have m63:w9.heap.size≤D55:=by rw [eD55]; exact (G44.trans (Fr.ext F47)).size
 have m64:w9.heap.size≤l55:=by omega
 have m65:w13.heap.size≤D55:=by rw [eD55]; exact (G45.trans (Fr.ext F47)).size
 have m66:w13.heap.size≤l55:=by omega
 have m67:w47.heap.size≤D55:=Nat.le_of_eq eD55.symm
 have m68:w47.heap.size≤l55:=by omega
 have E69:=E48.trans F55
 have G74:Fr (b28::(b18::L)) w47 w55:=Fr.ext F55
 have lo77:w.heap.size≤w55.heap.size:=E69.size
 have O77:=OwnS.nil (k:=kEnt) (e:=45) (by decide) (((((hL.fr E69).cons ((B46.ex F47).ex F55).lt).cons ((B40'.ex F47).ex F55).lt).cons BD55.lt).cons BL55.lt)
 obtain ⟨x55,hl55,h⟩:=h
 refine range_run (S:=List Ent) (R:=List Ent) (slots_it d0 (S47.up G74 sI (upo (fun m hm=>by cases hm) (upc (.inr m68) (upc (.inr m67) (upc (.inl mH) (upc (.inl (mT mH)) (fun m hm=>Or.inl (mT (mT hm))))))))) (kArena_mk (d:=d0) (H3.up ((G42.trans (Fr.ext F47)).trans (Fr.ext F55)) sI (upo (fun m hm=>by cases hm) (upc (.inr m60) (upc (.inr m59) (upc (.inr m30) (upc (.inr m19) (fun _ h=>.inl h))))))) (H6.up ((G42.trans (Fr.ext F47)).trans (Fr.ext F55)) sI (upo (fun m hm=>by cases hm) (upc (.inr m60) (upc (.inr m59) (upc (.inr m30) (upc (.inr m19) (fun _ h=>.inl h)))))))) ((((((hL.fr E69).cons ((B46.ex F47).ex F55).lt).cons ((B40'.ex F47).ex F55).lt).cons BD55.lt).cons BL55.lt).own O77) ha56) (fun (s55:List Ent) T w'=>∃ (v55i1:Value),T=(own v55i1++(l55::(D55::(b28::(b18::L)))))∧Fr (own (.slice none 0 0)++(l55::(D55::(b28::(b18::L))))) w55 w'∧Ext w w'∧OwnS kEnt (w55.heap.size) 45 (l55::(D55::(b28::(b18::L)))) w' v55i1 s55∧(∀ q∈own v55i1,q∈(own (.slice none 0 0)++(l55::(D55::(b28::(b18::L)))))∨w55.heap.size≤q)∧Blk w' b18 22 [v55i1]∧Blk w' b28 66 [.func (.func 39) #[] #[.pointer (some ⟨b9,0,none⟩)]]∧Lp w' D55 (.deferred (some []))∧Lp w' l55 (.loop (rec55 .ready none))) (fun (s55:List Ent) w'=>∃ (v55i1:Value),Fr (own (.slice none 0 0)++(l55::(D55::(b28::(b18::L))))) w55 w'∧Ext w w'∧OwnS kEnt (w55.heap.size) 45 (l55::(D55::(b28::(b18::L)))) w' v55i1 s55∧(∀ q∈own v55i1,q∈(own (.slice none 0 0)++(l55::(D55::(b28::(b18::L)))))∨w55.heap.size≤q)∧Blk w' b18 22 [v55i1]∧Blk w' b28 66 [.func (.func 39) #[] #[.pointer (some ⟨b9,0,none⟩)]]∧Lp w' D55 (.deferred (some []))∧Lp w' l55 (.loop (rec55 .done (some .ret)))) hl55 ((own (.slice none 0 0)++(l55::(D55::(b28::(b18::L)))))) sI (fun _ h=>by cases h) ⟨(.slice none 0 0),rfl,(Fr.refl _ _),E69,O77,(fun q hq=>.inl (by first | exact List.mem_append_left _ hq | simp [hq])),((B46.ex F47).ex F55),((B40'.ex F47).ex F55),BD55,BL55⟩ (fun _ _ w' w'' h f=>by obtain ⟨v55i1,rfl,F,E,O55i1,N55i1,B55ib18,B55ib28,B55iD55,B55il55⟩:=h; exact ⟨v55i1,rfl,F.trans (Fr.ext f),E.trans f,O55i1.ex f,N55i1,B55ib18.ex f,B55ib28.ex f,B55iD55.ex f,B55il55.ex f⟩) (fun _ w' w'' h f=>by obtain ⟨v55i1,F,E,O55i1,N55i1,B55ib18,B55ib28,B55iD55,B55il55⟩:=h; exact ⟨v55i1,F.trans (Fr.ext f),E.trans f,O55i1.ex f,N55i1,B55ib18.ex f,B55ib28.ex f,B55iD55.ex f,B55il55.ex f⟩) (fun _ _ w' h=>by obtain ⟨v55i1,rfl,F,E,O55i1,N55i1,B55ib18,B55ib28,B55iD55,B55il55⟩:=h; exact ((((((hL.fr E).cons B55ib18.lt).cons B55ib28.lt).cons B55iD55.lt).cons B55il55.lt).own O55i1)) ?_ ?_ ?_
 ·intro s55 y55 z55 T55 w55r vs55 hI55 hX55 hb55
  obtain ⟨v55r1,rfl,F55r,E55r,O55r1,N55r1,B55rb18,B55rb28,B55rD55,B55rl55⟩:=hI55
  have h:=hb55
  unfold digest_In_b55 at h
  have G80:Fr L w9 w55r:=((G44.trans (Fr.ext F47)).trans (Fr.ext F55)).stp F55r (upo (fun m hm=>by cases hm) (upc (.inr m64) (upc (.inr m63) (upc (.inr m32) (upc (.inr m21) (fun _ h=>.inl h))))))
  have G81:Fr L w13 w55r:=((G45.trans (Fr.ext F47)).trans (Fr.ext F55)).stp F55r (upo (fun m hm=>by cases hm) (upc (.inr m66) (upc (.inr m65) (upc (.inr m33) (upc (.inr m22) (fun _ h=>.inl h))))))
  obtain ⟨cs89,rfl,HX88⟩:=hX55
  obtain ⟨A90,c91,A93,c94,rfl,H92,H95⟩:=kEnt_open HX88
  refine range_round (ps:=[14,15]) hr55 B55rl55 rfl rfl ?_
  refine ec_sr ?_
  refine o_w (v:=.int .i64 y55.1) (r_asg rfl) ?_
  refine eo_q ?_
  refine o_alloc zero_api_Entry rfl rfl rfl ?_
  intro b96 w96 e96 F96 B96
  have n96:w.heap.size≤b96:=by rw [e96]; exact E55r.size
  have q97:b18<b96:=by rw [e96]; exact B55rb18.lt
  have q98:b28<b96:=by rw [e96]; exact B55rb28.lt
  have q99:l55<b96:=by rw [e96]; exact B55rl55.lt
  have q100:D55<b96:=by rw [e96]; exact B55rD55.lt
  have m103:w9.heap.size≤b96:=by rw [e96]; exact G80.size
  have m104:w13.heap.size≤b96:=by rw [e96]; exact G81.size
  have m106:w55.heap.size≤b96:=by rw [e96]; exact F55r.size
  have m107:w55r.heap.size≤b96:=Nat.le_of_eq e96.symm
  have m108:w55r.heap.size≤b96:=Nat.le_of_eq e96.symm
  have Ob109:=O55r1.born F96 (Nat.le_of_eq e96.symm) B96.lt
  have E110:=E55r.trans F96
  have G117:Fr (own v55r1++(l55::(D55::(b28::(b18::L))))) w55r w96:=Fr.ext F96
  have G118:Fr (own v55r1++(l55::(D55::(b28::(b18::L))))) w55r w96:=Fr.ext F96
  refine o_store rfl B96 (vs:=(cEnt y55.2 A90 c91 A93 c94)) rfl sz_api_Entry rfl rfl rfl ?_
  intro w124 F124 B124
  have E125:=Ext.st E110 F124 (by simp; omega)
  have G128:Fr L w9 w124:=(G80.trans (Fr.ext F96)).stp F124 (upc (.inr m103) (fun m hm=>by cases hm))
  have G129:Fr L w13 w124:=(G81.trans (Fr.ext F96)).stp F124 (upc (.inr m104) (fun m hm=>by cases hm))
  have G131:Fr (own (.slice none 0 0)++(l55::(D55::(b28::(b18::L))))) w55 w124:=(F55r.trans (Fr.ext F96)).stp F124 (upc (.inr m106) (fun m hm=>by cases hm))
  have G132:Fr (own v55r1++(l55::(D55::(b28::(b18::L))))) w55r w124:=G117.stp F124 (upc (.inr m107) (fun m hm=>by cases hm))
  have G133:Fr (own v55r1++(l55::(D55::(b28::(b18::L))))) w55r w124:=G118.stp F124 (upc (.inr m108) (fun m hm=>by cases hm))
  have B134:=(B55rb18.ex F96).fr F124 (by simp; omega)
  have B135:=(B55rb28.ex F96).fr F124 (by simp; omega)
  have B136:=(B55rl55.ex F96).fr F124 (by simp; omega)
  have B137:=(B55rD55.ex F96).fr F124 (by simp; omega)
  have O138:=Ob109.fr F124 (by simp)
  have B124':Blk w124 b96 _ (cEnt y55.2 A90 c91 A93 c94):=B124
  refine eo_nil ?_
  refine ⟨rfl,rfl,B136,fun w139 F140 BL141=>?_⟩
  have E142:=Ext.st E125 F140 (by simp; omega)
  have G145:Fr L w9 w139:=G128.stp F140 (upc (.inr m64) (fun m hm=>by cases hm))
  have G146:Fr L w13 w139:=G129.stp F140 (upc (.inr m66) (fun m hm=>by cases hm))
  have G148:Fr (own (.slice none 0 0)++(l55::(D55::(b28::(b18::L))))) w55 w139:=G131.stp F140 (upc (.inl (List.mem_append_right _ mH)) (fun m hm=>by cases hm))
  have G149:Fr (own v55r1++(l55::(D55::(b28::(b18::L))))) w55r w139:=G132.stp F140 (upc (.inl (List.mem_append_right _ mH)) (fun m hm=>by cases hm))
  have G150:Fr (own v55r1++(l55::(D55::(b28::(b18::L))))) w55r w139:=G133.stp F140 (upc (.inl (List.mem_append_right _ mH)) (fun m hm=>by cases hm))
  have B151:=B134.fr F140 (by simp; omega)
  have B152:=B135.fr F140 (by simp; omega)
  have B153:=B137.fr F140 (by simp; omega)
  have B154:=B124'.fr F140 (by simp; omega)
  have O155:=O138.fr F140 (by simp)
  refine ec_block ?_
  refine ec_sr ?_
  refine o_w (v:=.func (.func 39) #[] #[.pointer (some ⟨b9,0,none⟩)]) (r_ld one_func_int_bool rfl (B152.cell rfl)) ?_
  refine o_w (v:=.int .i64 y55.1) (r_mov rfl) ?_
  refine o_inl (vs:=[.int .i64 y55.1]) (caps:=[.pointer (some ⟨b9,0,none⟩)]) cf_digest_In_1 rfl rfl rfl rfl ?_
  refine calls_ec Tryz.func39 rfl rfl rfl ?_
  refine ec_sr ?_
  refine o_w (v:=.bool false) (r_asg rfl) ?_
  refine eo_r ?_
  refine o_w (v:=.int .i64 d1) (r_ld one_int rfl ((S9.fr G145 sI).now.cell rfl)) ?_
  refine o_w (v:=.bool (decide (0≤d1))) (r_int rfl rfl rfl) ?_
  refine o_w (v:=.bool (decide (0≤d1))) (r_mov rfl) ?_
  refine o_vg (v:=.int .i64 d1) (want_ct (t:=6) rfl rfl) (fun hk=>(r_ld one_int rfl ((S9.fr G145 sI).now.cell rfl))) rfl rfl ?_
  refine o_vg (v:=.bool (decide (d1≤15))) (want_ct (t:=6) rfl rfl) (fun hk=>(r_int (gdT (u:=undef) hk) rfl rfl)) rfl rfl ?_
  refine o_w (v:=.bool ((decide (0≤d1))&&(decide (d1≤15)))) (r_pickAnd rfl (fun ht=>(gdT (u:=undef) ht)) rfl) ?_
  refine o_w (v:=.bool ((decide (0≤d1))&&(decide (d1≤15)))) (r_mov rfl) ?_
  refine o_vg (v:=.int .i64 d1) (want_ct (t:=10) rfl rfl) (fun hk=>(r_ld one_int rfl ((S9.fr G145 sI).now.cell rfl))) rfl rfl ?_
  refine o_vg (v:=.int .i64 y55.1) (want_ct (t:=10) rfl rfl) (fun hk=>(r_mov rfl)) rfl rfl ?_
  obtain ⟨ha157,h⟩:=h
  refine o_vg (v:=.int .i64 (Int.fdiv d1 (2 ^ min (y55.1).toNat IntKind.i64.bits))) (want_ct (t:=10) rfl rfl) (fun hk=>(r_shr (gdT (u:=undef) hk) (gdT (u:=undef) hk) (ha157 hk))) rfl rfl ?_
  refine o_vg (v:=.int .i64 (IntKind.i64.wrap ((BitVec.ofInt IntKind.i64.bits (Int.fdiv d1 (2 ^ min (y55.1).toNat IntKind.i64.bits)) &&& BitVec.ofInt IntKind.i64.bits (1:Int)).toNat:Int))) (want_ct (t:=10) rfl rfl) (fun hk=>(r_int (gdT (u:=undef) hk) rfl rfl)) rfl rfl ?_
  refine o_vg (v:=.bool ((IntKind.i64.wrap ((BitVec.ofInt IntKind.i64.bits (Int.fdiv d1 (2 ^ min (y55.1).toNat IntKind.i64.bits)) &&& BitVec.ofInt IntKind.i64.bits (1:Int)).toNat:Int))==1)) (want_ct (t:=10) rfl rfl) (fun hk=>(r_int (gdT (u:=undef) hk) rfl rfl)) rfl rfl ?_
  refine o_w (v:=.bool (((decide (0≤d1))&&(decide (d1≤15)))&&((IntKind.i64.wrap ((BitVec.ofInt IntKind.i64.bits (Int.fdiv d1 (2 ^ min (y55.1).toNat IntKind.i64.bits)) &&& BitVec.ofInt IntKind.i64.bits (1:Int)).toNat:Int))==1))) (r_pickAnd rfl (fun ht=>(gdT (u:=undef) ht)) rfl) ?_
  refine o_w (v:=.bool (((decide (0≤d1))&&(decide (d1≤15)))&&((IntKind.i64.wrap ((BitVec.ofInt IntKind.i64.bits (Int.fdiv d1 (2 ^ min (y55.1).toNat IntKind.i64.bits)) &&& BitVec.ofInt IntKind.i64.bits (1:Int)).toNat:Int))==1))) (r_asg rfl) ?_
  refine eo_nil_sq ?_
  refine ec_ret ?_
  refine end1 (v:=.bool (((decide (0≤d1))&&(decide (d1≤15)))&&((IntKind.i64.wrap ((BitVec.ofInt IntKind.i64.bits (Int.fdiv d1 (2 ^ min (y55.1).toNat IntKind.i64.bits)) &&& BitVec.ofInt IntKind.i64.bits (1:Int)).toNat:Int))==1))) rfl ⟨_,rfl,?_⟩
  refine o_w (v:=.bool (((decide (0≤d1))&&(decide (d1≤15)))&&((IntKind.i64.wrap ((BitVec.ofInt IntKind.i64.bits (Int.fdiv d1 (2 ^ min (y55.1).toNat IntKind.i64.bits)) &&& BitVec.ofInt IntKind.i64.bits (1:Int)).toNat:Int))==1))) (r_mov rfl) ?_
  rcases Bool.eq_false_or_eq_true (((decide (0≤d1))&&(decide (d1≤15)))&&((IntKind.i64.wrap ((BitVec.ofInt IntKind.i64.bits (Int.fdiv d1 (2 ^ min (y55.1).toNat IntKind.i64.bits)) &&& BitVec.ofInt IntKind.i64.bits (1:Int)).toNat:Int))==1)) with hc158 | hc158
  ·replace h:=h.1 hc158
   refine o_v (v:=v55r1) (r_ld one_s_api_Entry rfl (B151.cell rfl)) (want_t (t:=19) rfl rfl hc158) rfl rfl ?_
   obtain ⟨A159,c160,rfl⟩:=O155.shape
   refine o_v (v:=.int .i64 (s55.length:Int)) (r_len_slc un_s_api_Entry rfl) (want_t (t:=19) rfl rfl hc158) rfl rfl ?_
   refine o_v (v:=.int .i64 d2) (r_ld one_int rfl ((S13.fr G146 sI).now.cell rfl)) (want_t (t:=19) rfl rfl hc158) rfl rfl ?_
   refine o_v (v:=.bool (decide ((s55.length:Int)<d2))) (r_int rfl rfl rfl) (want_t (t:=19) rfl rfl hc158) rfl rfl ?_
   refine o_w (v:=.bool (decide ((s55.length:Int)<d2))) (r_pickT rfl hc158 rfl) ?_
   refine eo_nil_sq ?_
   refine ec_cond rfl (fun hc161=>?_) (fun hc161=>?_)
   ·replace h:=h.1 hc161
    refine ec_region ?_
    refine o_w (v:=(.slice A159 s55.length c160)) (r_ld one_s_api_Entry rfl (B151.cell rfl)) ?_
    refine o_w (v:=.agg (cEnt y55.2 A90 c91 A93 c94).toArray) (r_lda agg_api_Entry rfl (vs:=(cEnt y55.2 A90 c91 A93 c94)) rfl (B154.part (n:=9) rfl)) ?_
    refine o_bslice slc_s_api_Entry rfl (vs:=[.agg (cEnt y55.2 A90 c91 A93 c94).toArray]) rfl rfl rfl (cs:=[str y55.2.key,.int .i64 y55.2.val.kind,.int .i64 y55.2.val.time,.int .i64 y55.2.val.node,.bool y55.2.val.dead,str y55.2.val.text,.slice A90 y55.2.val.plus.length c91,.slice A93 y55.2.val.minus.length c94,.int .u64 y55.2.val.flags]) rfl rfl rfl rfl ?_
    intro b162 w162 e162 F162 B162
    have N162:=nin (((((((hL.fr E142).cons B151.lt).cons B152.lt).cons B153.lt).cons BL141.lt).own O155).cons B154.lt) e162
    have S162:=B162.stb N162
    have E163:=E142.trans F162
    obtain ⟨ha179,h⟩:=h
    refine o_app slc_s_api_Entry rfl rfl rfl (O155.ex F162) rfl S162.now (ys:=([y55.2]:List Ent)) rfl rfl rfl (rowd1 (cs:=(cEnt y55.2 A90 c91 A93 c94)) (kEnt_mk (d:=y55.2) (H92.up (G150.trans (Fr.ext F162)) sI (upo (fun m hm=>Or.inl (List.mem_append_left _ hm)) (upc (.inr m108) (upc (.inl (List.mem_append_right _ mH)) (upc (.inl (List.mem_append_right _ (mT mH))) (upc (.inl (List.mem_append_right _ (mT (mT mH)))) (upc (.inl (List.mem_append_right _ (mT (mT (mT mH))))) (fun m hm=>Or.inl (List.mem_append_right _ (mT (mT (mT (mT hm))))))))))))) (H95.up (G150.trans (Fr.ext F162)) sI (upo (fun m hm=>Or.inl (List.mem_append_left _ hm)) (upc (.inr m108) (upc (.inl (List.mem_append_right _ mH)) (upc (.inl (List.mem_append_right _ (mT mH))) (upc (.inl (List.mem_append_right _ (mT (mT mH)))) (upc (.inl (List.mem_append_right _ (mT (mT (mT mH))))) (fun m hm=>Or.inl (List.mem_append_right _ (mT (mT (mT (mT hm)))))))))))))) rfl) ha179 rfl rfl ?_
    intro v178 w178 F178 O178 N178
    have P185:∀ m∈own v178,m∈(own (.slice none 0 0)++(l55::(D55::(b28::(b18::L)))))∨w55.heap.size≤m:=fun m hm=>(N178 m hm).elim (fun h=>(show ∀ m∈own (.slice A159 s55.length c160),m∈(own (.slice none 0 0)++(l55::(D55::(b28::(b18::L)))))∨w55.heap.size≤m from N55r1) m h) (fun h=>.inr (Nat.le_trans ((G148.trans (Fr.ext F162)).size) h))
    have P186:∀ m∈own v178,m∈(own (.slice A159 s55.length c160)++(l55::(D55::(b28::(b18::L)))))∨w55r.heap.size≤m:=fun m hm=>(N178 m hm).elim (fun h=>(show ∀ m∈own (.slice A159 s55.length c160),m∈(own (.slice A159 s55.length c160)++(l55::(D55::(b28::(b18::L)))))∨w55r.heap.size≤m from (fun m hm=>.inl (List.mem_append_left _ hm))) m h) (fun h=>.inr (Nat.le_trans ((G149.trans (Fr.ext F162)).size) h))
    have E189:=Ext.st E163 F178 (fun m hm=>Nat.le_trans lo77 ((O155.ex F162).lo m hm))
    have G195:Fr (own (.slice none 0 0)++(l55::(D55::(b28::(b18::L))))) w55 w178:=(G148.trans (Fr.ext F162)).stp F178 N55r1
    have G196:Fr (own (.slice A159 s55.length c160)++(l55::(D55::(b28::(b18::L))))) w55r w178:=(G149.trans (Fr.ext F162)).stp F178 (fun m hm=>.inl (List.mem_append_left _ hm))
    have B199:=(B151.ex F162).fr F178 (fun hm=>((O155.ex F162).below b18 (by simp)).2 hm)
    have B200:=(B152.ex F162).fr F178 (fun hm=>((O155.ex F162).below b28 (by simp)).2 hm)
    have B201:=(BL141.ex F162).fr F178 (fun hm=>((O155.ex F162).below l55 (by simp)).2 hm)
    have B202:=(B153.ex F162).fr F178 (fun hm=>((O155.ex F162).below D55 (by simp)).2 hm)
    obtain ⟨A204,c205,rfl⟩:=O178.shape
    refine o_store rfl B199 (vs:=[(.slice A204 (s55++([y55.2]:List Ent)).length c205)]) rfl sz_s_api_Entry rfl rfl rfl ?_
    intro w206 F206 B206
    have E207:=Ext.st E189 F206 (by simp; omega)
    have G213:Fr (own (.slice none 0 0)++(l55::(D55::(b28::(b18::L))))) w55 w206:=G195.stp F206 (upc (.inl (List.mem_append_right _ (mT (mT (mT mH))))) (fun m hm=>by cases hm))
    have G214:Fr (own (.slice A159 s55.length c160)++(l55::(D55::(b28::(b18::L))))) w55r w206:=G196.stp F206 (upc (.inl (List.mem_append_right _ (mT (mT (mT mH))))) (fun m hm=>by cases hm))
    have B217:=B200.fr F206 (by simp; omega)
    have B218:=B201.fr F206 (by simp; omega)
    have B219:=B202.fr F206 (by simp; omega)
    have O221:=O178.fr F206 (by simp)
    have B206':Blk w206 b18 _ [(.slice A204 (s55++([y55.2]:List Ent)).length c205)]:=B206
    refine eo_nil ?_
    refine blk_n ?_
    subst h
    refine ⟨none,rfl,B218,fun w222 F223 BL224=>?_⟩
    have E225:=Ext.st E207 F223 (by simp; omega)
    have G231:Fr (own (.slice none 0 0)++(l55::(D55::(b28::(b18::L))))) w55 w222:=G213.stp F223 (upc (.inl (List.mem_append_right _ mH)) (fun m hm=>by cases hm))
    have G232:Fr (own (.slice A159 s55.length c160)++(l55::(D55::(b28::(b18::L))))) w55r w222:=G214.stp F223 (upc (.inl (List.mem_append_right _ mH)) (fun m hm=>by cases hm))
    have B235:=B206'.fr F223 (by simp; omega)
    have B236:=B217.fr F223 (by simp; omega)
    have B237:=B219.fr F223 (by simp; omega)
    have O239:=O221.fr F223 (by simp)
    exact ⟨rfl,_,⟨(.slice A204 (s55++([y55.2]:List Ent)).length c205),rfl,G231,E225,(O239.weak (fun m hm=>by simp at hm ⊢; first | exact hm | exact .inr hm | simp [hm] | (rcases hm with h | h <;> simp [h]) | simp_all)),P185,B235,B236,B237,BL224⟩,G232,(upo P186 (upc (.inl (List.mem_append_right _ mH)) (upc (.inl (List.mem_append_right _ (mT mH))) (upc (.inl (List.mem_append_right _ (mT (mT mH)))) (upc (.inl (List.mem_append_right _ (mT (mT (mT mH))))) (fun m hm=>Or.inl (List.mem_append_right _ (mT (mT (mT (mT hm)))))))))))⟩
   ·replace h:=h.2 hc161
    refine ec_skip ?_
    refine blk_n ?_
    subst h
    refine ⟨none,rfl,BL141,fun w240 F241 BL242=>?_⟩
    have E243:=Ext.st E142 F241 (by simp; omega)
    have G249:Fr (own (.slice none 0 0)++(l55::(D55::(b28::(b18::L))))) w55 w240:=G148.stp F241 (upc (.inl (List.mem_append_right _ mH)) (fun m hm=>by cases hm))
    have G250:Fr (own (.slice A159 s55.length c160)++(l55::(D55::(b28::(b18::L))))) w55r w240:=G149.stp F241 (upc (.inl (List.mem_append_right _ mH)) (fun m hm=>by cases hm))
    have B252:=B151.fr F241 (by simp; omega)
    have B253:=B152.fr F241 (by simp; omega)
    have B254:=B153.fr F241 (by simp; omega)
    have O256:=O155.fr F241 (by simp)
    exact ⟨rfl,_,⟨(.slice A159 s55.length c160),rfl,G249,E243,(O256.weak (fun m hm=>by simp at hm ⊢; first | exact hm | exact .inr hm | simp [hm] | (rcases hm with h | h <;> simp [h]) | simp_all)),N55r1,B252,B253,B254,BL242⟩,G250,(upo (fun m hm=>Or.inl (List.mem_append_left _ hm)) (upc (.inl (List.mem_append_right _ mH)) (upc (.inl (List.mem_append_right _ (mT mH))) (upc (.inl (List.mem_append_right _ (mT (mT mH)))) (upc (.inl (List.mem_append_right _ (mT (mT (mT mH))))) (fun m hm=>Or.inl (List.mem_append_right _ (mT (mT (mT (mT hm)))))))))))⟩
  ·replace h:=h.2 hc158
   iterate 4 refine o_no (want_f (t:=19) rfl rfl hc158) rfl ?_
   refine o_w (v:=.bool false) (r_pickF rfl hc158 rfl) ?_
   refine eo_nil_sq ?_
   refine ec_condF rfl rfl ?_
   refine ec_skip ?_
   refine blk_n ?_
   subst h
   refine ⟨none,rfl,BL141,fun w257 F258 BL259=>?_⟩
   have E260:=Ext.st E142 F258 (by simp; omega)
   have G266:Fr (own (.slice none 0 0)++(l55::(D55::(b28::(b18::L))))) w55 w257:=G148.stp F258 (upc (.inl (List.mem_append_right _ mH)) (fun m hm=>by cases hm))
   have G267:Fr (own v55r1++(l55::(D55::(b28::(b18::L))))) w55r w257:=G149.stp F258 (upc (.inl (List.mem_append_right _ mH)) (fun m hm=>by cases hm))
   have B269:=B151.fr F258 (by simp; omega)
   have B270:=B152.fr F258 (by simp; omega)
   have B271:=B153.fr F258 (by simp; omega)
   have O273:=O155.fr F258 (by simp)
   exact ⟨rfl,_,⟨v55r1,rfl,G266,E260,(O273.weak (fun m hm=>by simp at hm ⊢; first | exact hm | exact .inr hm | simp [hm] | (rcases hm with h | h <;> simp [h]) | simp_all)),N55r1,B269,B270,B271,BL259⟩,G267,(upo (fun m hm=>Or.inl (List.mem_append_left _ hm)) (upc (.inl (List.mem_append_right _ mH)) (upc (.inl (List.mem_append_right _ (mT mH))) (upc (.inl (List.mem_append_right _ (mT (mT mH)))) (upc (.inl (List.mem_append_right _ (mT (mT (mT mH))))) (fun m hm=>Or.inl (List.mem_append_right _ (mT (mT (mT (mT hm)))))))))))⟩
 ·rintro sx55 rfl T55 w55e v55 hI55
  replace h:=h.1 _ rfl
  obtain ⟨v55e1,rfl,F55e,E55e,O55e1,N55e1,B55eb18,B55eb28,B55eD55,B55el55⟩:=hI55
  refine ⟨⟨_,rfl⟩,none,B55el55,fun w284 F285=>?_⟩
  have E286:=Ext.st E55e F285 (by simp; omega)
  have B292:=B55eb18.fr F285 (by simp; omega)
  have B294:=B55eD55.fr F285 (by simp; omega)
  have O295:=O55e1.fr F285 (by simp)
  refine blk_n ?_
  refine sq_n ?_
  refine ec_sr ?_
  refine o_w (v:=v55e1) (r_ld one_s_api_Entry rfl (B292.cell rfl)) ?_
  refine o_w (v:=v55e1) (r_asg rfl) ?_
  refine eo_nil_sq ?_
  refine ec_ret ?_
  refine marksS B294 (fun w296 F296=>?_)
  have E297:=Ext.st E286 F296 (by simp; omega)
  have O305:=O295.fr F296 (by simp)
  obtain ⟨A306,c307,eA306,H308⟩:=O305.still
  subst eA306
  have Zw296_309:=Fr.refl (l55::(D55::(b28::(b18::L)))) w296
  replace h:=h.symm
  subst h
  exact marks0 ((end1 rfl ⟨_,rfl,E297,_,_,rfl,(H308.up Zw296_309 sI (fun m hm=>Or.inl (mT (mT (mT (mT hm))))))⟩))
 ·rintro yx55 rfl; exact (h.2 _ rfl).elim
def digest_Differ_b6 (d0:(List Int)) (d1:(List Int)) (s6:Int × Int) (z6:(Int × Int) ⊕ (Int × Int)):Prop :=
 ((decide (s6.2<4))=true→((0≤s6.2∧s6.2<((4:Nat):Int))∧((0≤s6.2∧s6.2<((4:Nat):Int))∧((((nth d0 s6.2) != (nth d1 s6.2))=true→(decide (0≤s6.2)=true∧(z6=.inl ((IntKind.i64.wrap ((BitVec.ofInt IntKind.i64.bits s6.1 ||| BitVec.ofInt IntKind.i64.bits (IntKind.i64.wrap ((1:Int) * 2 ^ min (s6.2).toNat IntKind.i64.bits))).toNat:Int)),(IntKind.i64.wrap (s6.2 + (1:Int)))))))∧(((nth d0 s6.2) != (nth d1 s6.2))=false→(z6=.inl (s6.1,(IntKind.i64.wrap (s6.2 + (1:Int))))))))))∧((decide (s6.2<4))=false→(z6=.inr (s6.1,s6.2)))
def digest_Differ_raw (d0:(List Int)) (d1:(List Int)) (y:Int):Prop :=
 ((((nth d0 0)==(nth d1 0))&&(((nth d0 1)==(nth d1 1))&&(((nth d0 2)==(nth d1 2))&&(((nth d0 3)==(nth d1 3))&&true))))=true→(y=(0:Int)))∧((((nth d0 0)==(nth d1 0))&&(((nth d0 1)==(nth d1 1))&&(((nth d0 2)==(nth d1 2))&&(((nth d0 3)==(nth d1 3))&&true))))=false→(∃ x6,LoopR (digest_Differ_b6 d0 d1) ((0:Int),(0:Int)) x6∧(y=x6.1)))
set_option maxRecDepth 20000 in
set_option maxHeartbeats 4000000 in
theorem digest_Differ_c {L:List Nat} {w:World} (d0:(List Int)) (hlP0:d0.length=4) (d1:(List Int)) (hlP1:d1.length=4) (hL:Lt L w) {y:Int} (h:digest_Differ_raw d0 d1 y) :
  Calls Tryz.prog 19 [(.agg #[.int .i64 (nth d0 0),.int .i64 (nth d0 1),.int .i64 (nth d0 2),.int .i64 (nth d0 3)]:Value),(.agg #[.int .i64 (nth d1 0),.int .i64 (nth d1 1),.int .i64 (nth d1 2),.int .i64 (nth d1 3)]:Value)].toArray w (Ret fun v w'=>Ext w w'∧v=.int .i64 y):=by
 unfold digest_Differ_raw at h
 refine calls_ec Tryz.func19 rfl rfl rfl ?_
 refine ec_sr ?_
 refine o_box (cs:=[.int .i64 (nth d0 0),.int .i64 (nth d0 1),.int .i64 (nth d0 2),.int .i64 (nth d0 3)]) rfl rfl rfl ?_
 intro b1 w1 e1 F1 B1
 have S1:=B1.stb (nin hL e1)
 refine o_box (cs:=[.int .i64 (nth d1 0),.int .i64 (nth d1 1),.int .i64 (nth d1 2),.int .i64 (nth d1 3)]) rfl rfl rfl ?_
 intro b2 w2 e2 F2 B2
 have S2:=B2.stb (nin (hL.fr F1) e2)
 have E3:=F1.trans F2
 have G4:Fr L w1 w2:=Fr.ext F2
 refine o_w (v:=.int .i64 0) (r_asg rfl) ?_
 refine eo_r ?_
 refine o_w (v:=.int .i64 0) (r_asg rfl) ?_
 refine eo_nil_sq ?_
 refine ec_seq ?_
 refine ec_sr ?_
 refine o_w (v:=.agg #[.int .i64 (nth d0 0),.int .i64 (nth d0 1),.int .i64 (nth d0 2),.int .i64 (nth d0 3)]) (r_lda agg_4_int rfl (vs:=[.int .i64 (nth d0 0),.int .i64 (nth d0 1),.int .i64 (nth d0 2),.int .i64 (nth d0 3)]) rfl ((S1.fr G4 sI).now.part (n:=4) rfl)) ?_
 refine o_w (v:=.agg #[.int .i64 (nth d1 0),.int .i64 (nth d1 1),.int .i64 (nth d1 2),.int .i64 (nth d1 3)]) (r_lda agg_4_int rfl (vs:=[.int .i64 (nth d1 0),.int .i64 (nth d1 1),.int .i64 (nth d1 2),.int .i64 (nth d1 3)]) rfl (S2.now.part (n:=4) rfl)) ?_
 refine o_w (v:=.bool (((nth d0 0)==(nth d1 0))&&(((nth d0 1)==(nth d1 1))&&(((nth d0 2)==(nth d1 2))&&(((nth d0 3)==(nth d1 3))&&true))))) (r_eqSt eqg_4_int (eqs_4_int (nth d0 0) (nth d0 1) (nth d0 2) (nth d0 3) (nth d1 0) (nth d1 1) (nth d1 2) (nth d1 3)) rfl rfl) ?_
 refine eo_nil_sq ?_
 refine ec_cond rfl (fun hc5=>?_) (fun hc5=>?_)
 ·replace h:=h.1 hc5
  refine ec_sr ?_
  refine o_w (v:=.int .i64 0) (r_mov rfl) ?_
  refine o_w (v:=.int .i64 0) (r_asg rfl) ?_
  refine eo_nil_sq ?_
  refine ec_ret ?_
  refine sq_ret ?_
  subst h
  exact (end1 rfl ⟨_,rfl,E3,rfl⟩)
 ·replace h:=h.2 hc5
  refine ec_skip ?_
  refine sq_n ?_
  refine ec_seq ?_
  refine ec_sr ?_
  refine o_w (v:=.agg #[.int .i64 (nth d0 0),.int .i64 (nth d0 1),.int .i64 (nth d0 2),.int .i64 (nth d0 3)]) (r_lda agg_4_int rfl (vs:=[.int .i64 (nth d0 0),.int .i64 (nth d0 1),.int .i64 (nth d0 2),.int .i64 (nth d0 3)]) rfl ((S1.fr G4 sI).now.part (n:=4) rfl)) ?_
  refine o_w (v:=.int .i64 0) (r_mov rfl) ?_
  refine eo_nil_sq ?_
  refine ec_block ?_
  obtain ⟨x6,hl6,h⟩:=h
  refine ec_loopE 0 (I:=(fun (s6:Int × Int) ρ ds w'=>∃ (ρ':Env),ρ=envs ρ' [(5,.int .i64 s6.1),(13,.int .i64 s6.2),(3,.pointer (some ⟨b2,0,none⟩)),(12,.agg #[.int .i64 (nth d0 0),.int .i64 (nth d0 1),.int .i64 (nth d0 2),.int .i64 (nth d0 3)])]∧ds=[]∧Fr L w2 w'∧Ext w w')) ?_ hl6 ?_ ?_
  ·intro s6 z6 ρ6 ds6 w6r hI6 hb6
   obtain ⟨ρ6r,rfl,rfl,F6r,E6r⟩:=hI6
   have h:=hb6
   unfold digest_Differ_b6 at h
   have G8:Fr L w2 w6r:=(Fr.refl _ _).stp F6r (fun _ h=>.inl h)
   refine ec_sr ?_
   refine o_w (v:=.bool (decide (s6.2<4))) (r_int rfl rfl rfl) ?_
   refine eo_nil_sq ?_
   refine ec_seq ?_
   refine ec_cond rfl (fun hc9=>?_) (fun hc9=>?_)
   ·replace h:=h.1 hc9
    refine ec_skip ?_
    refine sq_n ?_
    refine ec_seq ?_
    refine ec_block ?_
    refine ec_sr ?_
    refine o_w (v:=.int .i64 s6.2) (r_mov rfl) ?_
    obtain ⟨ha10,h⟩:=h
    refine o_w (v:=.int .i64 (nth d0 s6.2)) (r_ixA (f:=(Value.int .i64)) (e:=d0) (m:=4) un_4_int one_int sz_int rfl rfl ha10) ?_
    refine o_w (v:=.int .i64 s6.2) (r_asg rfl) ?_
    refine o_w (v:=.int .i64 (nth d0 s6.2)) (r_asg rfl) ?_
    refine eo_r ?_
    refine o_w (v:=.int .i64 (nth d0 s6.2)) (r_mov rfl) ?_
    refine o_w (v:=.int .i64 s6.2) (r_mov rfl) ?_
    obtain ⟨ha11,h⟩:=h
    refine o_w (v:=.pointer (some ⟨b2,s6.2.toNat,none⟩)) (r_iaA un_4_int sz_int rfl rfl ha11) ?_
    refine o_w (v:=.int .i64 (nth d1 s6.2)) (r_ld one_int rfl (Blk.cellV (f:=(Value.int .i64)) (m:=4) (e:=d1) (S2.fr G8 sI).now ha11)) ?_
    refine o_w (v:=.bool ((nth d0 s6.2) != (nth d1 s6.2))) (r_int rfl rfl rfl) ?_
    refine eo_nil_sq ?_
    refine ec_cond rfl (fun hc12=>?_) (fun hc12=>?_)
    ·replace h:=h.1 hc12
     refine ec_region ?_
     refine o_w (v:=.int .i64 s6.1) (r_mov rfl) ?_
     refine o_w (v:=.int .i64 s6.2) (r_mov rfl) ?_
     obtain ⟨ha13,h⟩:=h
     refine o_w (v:=.int .i64 (IntKind.i64.wrap ((1:Int) * 2 ^ min (s6.2).toNat IntKind.i64.bits))) (r_shl rfl rfl ha13) ?_
     refine o_w (v:=.int .i64 (IntKind.i64.wrap ((BitVec.ofInt IntKind.i64.bits s6.1 ||| BitVec.ofInt IntKind.i64.bits (IntKind.i64.wrap ((1:Int) * 2 ^ min (s6.2).toNat IntKind.i64.bits))).toNat:Int))) (r_int rfl rfl rfl) ?_
     refine o_w (v:=.int .i64 (IntKind.i64.wrap ((BitVec.ofInt IntKind.i64.bits s6.1 ||| BitVec.ofInt IntKind.i64.bits (IntKind.i64.wrap ((1:Int) * 2 ^ min (s6.2).toNat IntKind.i64.bits))).toNat:Int))) (r_asg rfl) ?_
     refine eo_nil ?_
     refine blk_n ?_
     refine sq_n ?_
     refine ec_region ?_
     refine o_w (v:=.int .i64 (IntKind.i64.wrap (s6.2 + (1:Int)))) (r_int rfl rfl rfl) ?_
     refine o_w (v:=.int .i64 (IntKind.i64.wrap (s6.2 + (1:Int)))) (r_mov rfl) ?_
     refine eo_nil ?_
     subst h
     exact lq_n ⟨_,envs_self ⟨rfl,rfl,rfl,rfl,trivial⟩,rfl,F6r,E6r⟩
    ·replace h:=h.2 hc12
     refine ec_skip ?_
     refine blk_n ?_
     refine sq_n ?_
     refine ec_region ?_
     refine o_w (v:=.int .i64 (IntKind.i64.wrap (s6.2 + (1:Int)))) (r_int rfl rfl rfl) ?_
     refine o_w (v:=.int .i64 (IntKind.i64.wrap (s6.2 + (1:Int)))) (r_mov rfl) ?_
     refine eo_nil ?_
     subst h
     exact lq_n ⟨_,envs_self ⟨rfl,rfl,rfl,rfl,trivial⟩,rfl,F6r,E6r⟩
   ·replace h:=h.2 hc9
    refine ec_exit ?_
    refine sq_exit ?_
    subst h
    exact lq_x ⟨_,envs_self ⟨rfl,rfl,rfl,rfl,trivial⟩,rfl,F6r,E6r⟩
  ·exact ⟨_,envs_self ⟨rfl,rfl,rfl,rfl,trivial⟩,rfl,(Fr.refl _ _),E3⟩
  ·rintro ρ6e ds6e w6e ⟨ρ6e,rfl,rfl,F6e,E6e⟩
   refine blk_hit ?_
   refine sq_n ?_
   refine ec_sr ?_
   refine o_w (v:=.int .i64 x6.1) (r_mov rfl) ?_
   refine o_w (v:=.int .i64 x6.1) (r_asg rfl) ?_
   refine eo_nil_sq ?_
   refine ec_ret ?_
   subst h
   exact (end1 rfl ⟨_,rfl,E6e,rfl⟩)
def digest_Get_b10 (d0:Str) (s10:Int × Int × Int × Int × Int) (z10:(Int × Int × Int × Int × Int) ⊕ (Int × Int × Int × Int × Int)):Prop :=
 ((decide (s10.1<4))=true→((d0.length≤9223372036854775807)∧(∃ x12,x12=(getO d0 (IntKind.i64.wrap ((4:Int) * s10.1)) (4:Int))∧((0≤s10.1∧s10.1<((4:Nat):Int))∧(z10=.inl ((IntKind.i64.wrap (s10.1 + (1:Int))),(nth (([s10.2.1,s10.2.2.1,s10.2.2.2.1,s10.2.2.2.2]:List Int).set s10.1.toNat x12.1) 0),(nth (([s10.2.1,s10.2.2.1,s10.2.2.2.1,s10.2.2.2.2]:List Int).set s10.1.toNat x12.1) 1),(nth (([s10.2.1,s10.2.2.1,s10.2.2.2.1,s10.2.2.2.2]:List Int).set s10.1.toNat x12.1) 2),(nth (([s10.2.1,s10.2.2.1,s10.2.2.2.1,s10.2.2.2.2]:List Int).set s10.1.toNat x12.1) 3)))))))∧((decide (s10.1<4))=false→(z10=.inr (s10.1,s10.2.1,s10.2.2.1,s10.2.2.2.1,s10.2.2.2.2)))
def digest_Get_raw (d0:Str) (y:(List Int) × Int):Prop :=
 (((d0.length:Int) != (16:Int))=true→(y=([(0:Int),(0:Int),(0:Int),(0:Int)],(2:Int))))∧(((d0.length:Int) != (16:Int))=false→(∃ x10,LoopR (digest_Get_b10 d0) ((0:Int),(0:Int),(0:Int),(0:Int),(0:Int)) x10∧(y=([x10.2.1,x10.2.2.1,x10.2.2.2.1,x10.2.2.2.2],(0:Int)))))
set_option maxRecDepth 20000 in
set_option maxHeartbeats 4000000 in
theorem digest_Get_c {L:List Nat} {w:World} (d0:Str) (hL:Lt L w) {y:(List Int) × Int} (h:digest_Get_raw d0 y) :
  Calls Tryz.prog 22 [str d0].toArray w (Ret fun v w'=>Ext w w'∧v=.tuple #[.agg #[.int .i64 (nth y.1 0),.int .i64 (nth y.1 1),.int .i64 (nth y.1 2),.int .i64 (nth y.1 3)],.int .i64 y.2]∧y.1.length=4):=by
 unfold digest_Get_raw at h
 refine calls_ec Tryz.func22 rfl rfl rfl ?_
 refine ec_sr ?_
 refine o_alloc zero_4_int rfl rfl rfl ?_
 intro b1 w1 e1 F1 B1
 have n1:w.heap.size≤b1:=Nat.le_of_eq e1.symm
 refine o_w (v:=.int .i64 0) (r_asg rfl) ?_
 refine eo_r ?_
 refine o_alloc zero_digest_sums rfl rfl rfl ?_
 intro b2 w2 e2 F2 B2
 have n2:w.heap.size≤b2:=by rw [e2]; exact F1.size
 have q3:b1<b2:=by rw [e2]; exact B1.lt
 have E4:=F1.trans F2
 refine eo_nil_sq ?_
 refine ec_seq ?_
 refine ec_sr ?_
 refine o_w (v:=str d0) (r_mov rfl) ?_
 refine o_w (v:=.int .i64 (d0.length:Int)) (r_len_str un_string rfl) ?_
 refine o_w (v:=.bool ((d0.length:Int) != (16:Int))) (r_int rfl rfl rfl) ?_
 refine eo_nil_sq ?_
 refine ec_cond rfl (fun hc6=>?_) (fun hc6=>?_)
 ·replace h:=h.1 hc6
  refine ec_sr ?_
  refine o_w (v:=.agg #[.int .i64 0,.int .i64 0,.int .i64 0,.int .i64 0]) (r_lda agg_digest_sums rfl (vs:=[.int .i64 0,.int .i64 0,.int .i64 0,.int .i64 0]) rfl (B2.part (n:=4) rfl)) ?_
  refine o_store rfl (B1.ex F2) (vs:=[.int .i64 0,.int .i64 0,.int .i64 0,.int .i64 0]) rfl sz_4_int rfl rfl rfl ?_
  intro w7 F7 B7
  have E8:=Ext.st E4 F7 (by simp; omega)
  have B7':Blk w7 b1 _ [.int .i64 0,.int .i64 0,.int .i64 0,.int .i64 0]:=B7
  refine o_w (v:=.int .i64 2) (r_asg rfl) ?_
  refine eo_nil_sq ?_
  refine ec_ret ?_
  refine sq_ret ?_
  subst h
  exact (endr2 (rv_a rfl (agg_4_int) B7' (vs:=[.int .i64 0,.int .i64 0,.int .i64 0,.int .i64 0]) rfl rfl) (rv_t rfl) ⟨_,rfl,E8,rfl,rfl⟩)
 ·replace h:=h.2 hc6
  refine ec_skip ?_
  refine sq_n ?_
  refine ec_seq ?_
  refine ec_sr ?_
  refine o_w (v:=.int .i64 0) (r_mov rfl) ?_
  refine eo_nil_sq ?_
  refine ec_block ?_
  obtain ⟨x10,hl10,h⟩:=h
  refine ec_loopE 0 (I:=(fun (s10:Int × Int × Int × Int × Int) ρ ds w'=>∃ (ρ':Env),ρ=envs ρ' [(10,.int .i64 s10.1),(0,str d0),(2,.pointer (some ⟨b1,0,none⟩)),(4,.pointer (some ⟨b2,0,none⟩))]∧ds=[]∧Fr (b2::(b1::L)) w2 w'∧Ext w w'∧Blk w' b1 26 [.int .i64 0,.int .i64 0,.int .i64 0,.int .i64 0]∧Blk w' b2 69 [.int .i64 s10.2.1,.int .i64 s10.2.2.1,.int .i64 s10.2.2.2.1,.int .i64 s10.2.2.2.2])) ?_ hl10 ?_ ?_
  ·intro s10 z10 ρ10 ds10 w10r hI10 hb10
   obtain ⟨ρ10r,rfl,rfl,F10r,E10r,B10rb1,B10rb2⟩:=hI10
   have h:=hb10
   unfold digest_Get_b10 at h
   refine ec_sr ?_
   refine o_w (v:=.bool (decide (s10.1<4))) (r_int rfl rfl rfl) ?_
   refine eo_nil_sq ?_
   refine ec_seq ?_
   refine ec_cond rfl (fun hc11=>?_) (fun hc11=>?_)
   ·replace h:=h.1 hc11
    refine ec_skip ?_
    refine sq_n ?_
    refine ec_seq ?_
    refine ec_block ?_
    refine ec_sr ?_
    refine o_w (v:=.int .i64 s10.1) (r_mov rfl) ?_
    refine o_w (v:=.int .i64 s10.1) (r_asg rfl) ?_
    refine eo_q ?_
    refine o_w (v:=.int .i64 s10.1) (r_mov rfl) ?_
    refine o_w (v:=str d0) (r_mov rfl) ?_
    refine o_w (v:=.int .i64 s10.1) (r_mov rfl) ?_
    refine o_w (v:=.int .i64 (IntKind.i64.wrap ((4:Int) * s10.1))) (r_int rfl rfl rfl) ?_
    obtain ⟨ha13,h⟩:=h
    obtain ⟨x12,hx12,h⟩:=h
    refine o_call cf_octet_Get rfl (octet_Get_c d0 (IntKind.i64.wrap ((4:Int) * s10.1)) (4:Int) (((hL.fr E10r).cons B10rb1.lt).cons B10rb2.lt) (eq_ev hx12 (octGet_ev d0 (IntKind.i64.wrap ((4:Int) * s10.1)) (4:Int) ha13))) rfl rfl ?_
    rintro _ w12 ⟨F12,rfl⟩
    have E14:=E10r.trans F12
    refine o_w (v:=.tuple #[.int .i64 x12.1,.int .i64 x12.2]) (r_mov rfl) ?_
    refine o_w (v:=.int .i64 x12.1) (r_ext rfl rfl) ?_
    refine o_w (v:=.int .i64 x12.2) (r_ext rfl rfl) ?_
    obtain ⟨ha18,h⟩:=h
    refine o_w (v:=.pointer (some ⟨b2,s10.1.toNat,none⟩)) (r_iaA un_digest_sums sz_int rfl rfl ha18) ?_
    refine o_storeV (f:=(Value.int .i64)) (m:=4) (e:=([s10.2.1,s10.2.2.1,s10.2.2.2.1,s10.2.2.2.2]:List Int)) (v:=x12.1) rfl (B10rb2.ex F12) ha18 rfl rfl int_one sz_int rfl ?_
    intro w19 F19 B19
    have E20:=Ext.st E14 F19 (by simp; omega)
    have G21:Fr (b2::(b1::L)) w2 w19:=(F10r.trans (Fr.ext F12)).stp F19 (upc (.inl mH) (fun m hm=>by cases hm))
    have B22:=(B10rb1.ex F12).fr F19 (by simp; omega)
    have B19':Blk w19 b2 _ [.int .i64 (nth (([s10.2.1,s10.2.2.1,s10.2.2.2.1,s10.2.2.2.2]:List Int).set s10.1.toNat x12.1) 0),.int .i64 (nth (([s10.2.1,s10.2.2.1,s10.2.2.2.1,s10.2.2.2.2]:List Int).set s10.1.toNat x12.1) 1),.int .i64 (nth (([s10.2.1,s10.2.2.1,s10.2.2.2.1,s10.2.2.2.2]:List Int).set s10.1.toNat x12.1) 2),.int .i64 (nth (([s10.2.1,s10.2.2.1,s10.2.2.2.1,s10.2.2.2.2]:List Int).set s10.1.toNat x12.1) 3)]:=B19
    refine eo_nil ?_
    refine blk_n ?_
    refine sq_n ?_
    refine ec_region ?_
    refine o_w (v:=.int .i64 (IntKind.i64.wrap (s10.1 + (1:Int)))) (r_int rfl rfl rfl) ?_
    refine o_w (v:=.int .i64 (IntKind.i64.wrap (s10.1 + (1:Int)))) (r_mov rfl) ?_
    refine eo_nil ?_
    subst h
    exact lq_n ⟨_,envs_self ⟨rfl,rfl,rfl,rfl,trivial⟩,rfl,G21,E20,B22,B19'⟩
   ·replace h:=h.2 hc11
    refine ec_exit ?_
    refine sq_exit ?_
    subst h
    exact lq_x ⟨_,envs_self ⟨rfl,rfl,rfl,rfl,trivial⟩,rfl,F10r,E10r,B10rb1,B10rb2⟩
  ·exact ⟨_,envs_self ⟨rfl,rfl,rfl,rfl,trivial⟩,rfl,(Fr.refl _ _),E4,(B1.ex F2),B2⟩
  ·rintro ρ10e ds10e w10e ⟨ρ10e,rfl,rfl,F10e,E10e,B10eb1,B10eb2⟩
   refine blk_hit ?_
   refine sq_n ?_
   refine ec_sr ?_
   refine o_w (v:=.agg #[.int .i64 x10.2.1,.int .i64 x10.2.2.1,.int .i64 x10.2.2.2.1,.int .i64 x10.2.2.2.2]) (r_lda agg_digest_sums rfl (vs:=[.int .i64 x10.2.1,.int .i64 x10.2.2.1,.int .i64 x10.2.2.2.1,.int .i64 x10.2.2.2.2]) rfl (B10eb2.part (n:=4) rfl)) ?_
   refine o_store rfl B10eb1 (vs:=[.int .i64 x10.2.1,.int .i64 x10.2.2.1,.int .i64 x10.2.2.2.1,.int .i64 x10.2.2.2.2]) rfl sz_4_int rfl rfl rfl ?_
   intro w23 F23 B23
   have E24:=Ext.st E10e F23 (by simp; omega)
   have B23':Blk w23 b1 _ [.int .i64 x10.2.1,.int .i64 x10.2.2.1,.int .i64 x10.2.2.2.1,.int .i64 x10.2.2.2.2]:=B23
   refine o_w (v:=.int .i64 0) (r_asg rfl) ?_
   refine eo_nil_sq ?_
   refine ec_ret ?_
   subst h
   exact (endr2 (rv_a rfl (agg_4_int) B23' (vs:=[.int .i64 x10.2.1,.int .i64 x10.2.2.1,.int .i64 x10.2.2.2.1,.int .i64 x10.2.2.2.2]) rfl rfl) (rv_t rfl) ⟨_,rfl,E24,rfl,rfl⟩)
end Go.Proofs.YthbfhgenkhkpfaaGreat
