/- Frames as bytes; the references. -/
import Derived.Test.YtdfjbkoimpjkaaaGreatVe
namespace Go.Proofs.YtdfjbkoimpjkaaaGreat
open Go Go.RowKit
set_option linter.unusedVariables false
set_option linter.unusedSimpArgs false
def frame_seal_raw (d0:(List Str)) (y:Str):Prop :=
 ∃ x1,strings_Join_raw d0 ([]:Str) x1∧((x1.length≤1000000000)∧(y=(sealC x1)))
set_option maxRecDepth 20000 in
set_option maxHeartbeats 4000000 in
theorem frame_seal_c {L:List Nat} {w:World} {AP0:Option Addr} {cP0:Nat} (d0:(List Str)) (HP0:Stb L w (fun w=>SlC kS w AP0 cP0 d0)) (hL:Lt L w) {y:Str} (h:frame_seal_raw d0 y) :
  Calls Tryz.prog 27 [.slice AP0 d0.length cP0].toArray w (Ret fun v w'=>Ext w w'∧v=str y):=by
 unfold frame_seal_raw at h
 refine calls_ec Tryz.func27 rfl rfl rfl ?_
 refine ec_sr ?_
 refine o_w (v:=str []) (r_asg rfl) ?_
 refine eo_r ?_
 refine o_w (v:=.slice AP0 d0.length cP0) (r_mov rfl) ?_
 obtain ⟨x1,hx1,h⟩:=h
 refine o_call cf_strings_Join rfl (strings_Join_c d0 HP0 ([]:Str) hL hx1) rfl rfl ?_
 rintro _ w1 ⟨F1,rfl⟩
 obtain ⟨ha4,h⟩:=h
 refine o_call cf_crc_Seal rfl (crc_Seal_c x1 (hL.fr F1) (crcSeal_ev x1 ha4)) rfl rfl ?_
 rintro _ w3 ⟨F3,rfl⟩
 have E5:=F1.trans F3
 refine o_w (v:=str (sealC x1)) (r_asg rfl) ?_
 refine eo_nil_sq ?_
 refine ec_ret ?_
 subst h
 exact (end1 rfl ⟨_,rfl,E5,rfl⟩)
/-- A new literal: a block that holds these. -/
def LitB (lo : Nat) (vs : List Value) (v : Value) (w : World) : Prop := ∃ b, v = .slice (some ⟨b, 0, none⟩) vs.length vs.length ∧ lo ≤ b ∧ Blk w b 9 vs
theorem LitB.ex {lo:Nat} {vs:List Value} {v:Value} {w w':World} (f:Ext w w') (h:LitB lo vs v w):LitB lo vs v w':=by
 obtain ⟨b,rfl,h1,h2⟩:=h
 exact ⟨b,rfl,h1,h2.ex f⟩
def frame_Put_b41 (d0:Frm) (s41:List Str × Int) (z41:(List Str × Int) ⊕ (List Str × Int)):Prop :=
 ((decide (s41.2<(d0.entries.length:Int)))=true→((0≤s41.2∧s41.2<(d0.entries.length:Int))∧((sm (nth d0.entries s41.2).val)∧(∃ x77,x77=(putE (nth d0.entries s41.2))∧((s41.1.length + 1≤9223372036854775807∧(s41.1.length + 1) * 16≤140737488355328)∧(z41=.inl ((s41.1++([x77.1]:List Str)),(IntKind.i64.wrap (s41.2 + (1:Int))))))))))∧((decide (s41.2<(d0.entries.length:Int)))=false→(z41=.inr (s41.1,s41.2)))
def frame_Put_raw (d0:Frm) (y:Str × Int):Prop :=
 (sml d0.entries)∧(True∧((((checkF d0) != (0:Int))=true→(y=(([]:Str),(2:Int))))∧(((checkF d0) != (0:Int))=false→(∃ x14,x14=(putD d0.sums)∧(∃ x41,LoopR (frame_Put_b41 d0) (([(numF d0.kind (1:Int)),(numF d0.a (4:Int)),(numF d0.b (4:Int)),x14.1,(numF (d0.entries.length:Int) (1:Int))]:List Str),(0:Int)) x41∧(∃ x112,frame_seal_raw x41.1 x112∧(y=(x112,(0:Int)))))))))
set_option maxRecDepth 20000 in
set_option maxHeartbeats 4000000 in
theorem frame_Put_c {L:List Nat} {w:World} {csP0:List Value} (d0:Frm) (HP0:Stb L w (fun w=>kFrm.r w csP0 d0)) (hL:Lt L w) {y:Str × Int} (h:frame_Put_raw d0 y) :
  Calls Tryz.prog 13 [.agg csP0.toArray].toArray w (Ret fun v w'=>Ext w w'∧v=.tuple #[str y.1,.int .i64 y.2]):=by
 obtain ⟨A2,c3,rfl,H4,hl1⟩:=kFrm_open HP0
 unfold frame_Put_raw at h
 refine calls_ec Tryz.func13 rfl rfl rfl ?_
 refine ec_sr ?_
 refine o_box (cs:=(cFrm d0 A2 c3)) rfl rfl rfl ?_
 intro b5 w5 e5 F5 B5
 have S5:=B5.stb (nin hL e5)
 have G6:Fr L w w5:=Fr.ext F5
 refine o_w (v:=str []) (r_asg rfl) ?_
 refine o_w (v:=.int .i64 0) (r_asg rfl) ?_
 refine eo_nil_sq ?_
 refine ec_seq ?_
 refine ec_sr ?_
 refine o_w (v:=.agg (cFrm d0 A2 c3).toArray) (r_lda agg_frame_Frame rfl (vs:=(cFrm d0 A2 c3)) rfl (S5.now.part (n:=8) rfl)) ?_
 obtain ⟨ha8,h⟩:=h
 obtain ⟨ha9,h⟩:=h
 refine o_call cf_frame_Check rfl (frame_Check_c d0 (kFrm_mk (d:=d0) (H4.fr G6 sI) hl1) (hL.fr F5) (frCheckB_ev d0 ha8 ha9)) rfl rfl ?_
 rintro _ w7 ⟨F7,rfl⟩
 have E10:=F5.trans F7
 have G12:Fr L w5 w7:=Fr.ext F7
 refine o_w (v:=.bool ((checkF d0) != (0:Int))) (r_int rfl rfl rfl) ?_
 refine eo_nil_sq ?_
 refine ec_cond rfl (fun hc13=>?_) (fun hc13=>?_)
 ·replace h:=h.1 hc13
  refine ec_sr ?_
  refine o_w (v:=str []) (r_asg rfl) ?_
  refine o_w (v:=.int .i64 2) (r_asg rfl) ?_
  refine eo_nil_sq ?_
  refine ec_ret ?_
  refine sq_ret ?_
  subst h
  exact (end2 rfl rfl ⟨_,rfl,E10,rfl⟩)
 ·replace h:=h.2 hc13
  refine ec_skip ?_
  refine sq_n ?_
  refine ec_sr ?_
  refine o_w (v:=.pointer (some ⟨b5,3,none⟩)) (r_fa fld_frame_Frame_3 rfl rfl) ?_
  refine o_w (v:=.agg #[.int .i64 (nth d0.sums 0),.int .i64 (nth d0.sums 1),.int .i64 (nth d0.sums 2),.int .i64 (nth d0.sums 3)]) (r_lda agg_4_int rfl (vs:=[.int .i64 (nth d0.sums 0),.int .i64 (nth d0.sums 1),.int .i64 (nth d0.sums 2),.int .i64 (nth d0.sums 3)]) rfl ((S5.fr G12 sI).now.part (n:=4) rfl)) ?_
  obtain ⟨x14,hx14,h⟩:=h
  refine o_call cf_digest_Put rfl (digest_Put_c d0.sums hl1 (hL.fr E10) (eq_ev hx14 (digPut_ev d0.sums))) rfl rfl ?_
  rintro _ w14 ⟨F14,rfl⟩
  have E15:=E10.trans F14
  refine o_w (v:=.tuple #[str x14.1,.int .i64 x14.2]) (r_mov rfl) ?_
  refine o_w (v:=str x14.1) (r_ext rfl rfl) ?_
  refine o_w (v:=.int .i64 x14.2) (r_ext rfl rfl) ?_
  refine o_w (v:=str x14.1) (r_asg rfl) ?_
  refine o_w (v:=.int .i64 x14.2) (r_asg rfl) ?_
  refine eo_nil_sq ?_
  refine ec_seq ?_
  refine ec_any0 (by kernel_rfl) [[],[0],[0,1],[],[3],[0,1,2,3,4],[],[6],[0,1,2,3,4,5,6,7],[],[],[10],[10,11],[0,1,2,3,4,5,6,7,8,10,11,12],[0,1,2,3,4,5,6,7,8,9,10,11,12,13],[0,1,2,3,4,5,6,7,8,9,10,11,12,13,14]] [20,21,22,23,24,25,26,27,28,29,30,31,32,33,34,6]
     [fun v _=>v=(.pointer (some ⟨b5,0,none⟩):Value),fun v _=>v=(.int .i64 d0.kind:Value),fun v _=>v=(str (numF d0.kind (1:Int)):Value),fun v _=>v=(.pointer (some ⟨b5,1,none⟩):Value),fun v _=>v=(.int .i64 d0.a:Value),fun v _=>v=(str (numF d0.a (4:Int)):Value),fun v _=>v=(.pointer (some ⟨b5,2,none⟩):Value),fun v _=>v=(.int .i64 d0.b:Value),fun v _=>v=(str (numF d0.b (4:Int)):Value),fun v _=>v=(str x14.1:Value),fun v _=>v=(.pointer (some ⟨b5,7,none⟩):Value),fun v _=>v=(.slice A2 d0.entries.length c3:Value),fun v _=>v=(.int .i64 (d0.entries.length:Int):Value),fun v _=>v=(str (numF (d0.entries.length:Int) (1:Int)):Value),fun v w4=>LitB w14.heap.size [str (numF d0.kind (1:Int)),str (numF d0.a (4:Int)),str (numF d0.b (4:Int)),str x14.1,str (numF (d0.entries.length:Int) (1:Int))] v w4,fun v w4=>LitB w14.heap.size [str (numF d0.kind (1:Int)),str (numF d0.a (4:Int)),str (numF d0.b (4:Int)),str x14.1,str (numF (d0.entries.length:Int) (1:Int))] v w4]
     (by kernel_rfl) ⟨fun _ _ _ _ _ h=>h,fun _ _ _ _ _ h=>h,fun _ _ _ _ _ h=>h,fun _ _ _ _ _ h=>h,fun _ _ _ _ _ h=>h,fun _ _ _ _ _ h=>h,fun _ _ _ _ _ h=>h,fun _ _ _ _ _ h=>h,fun _ _ _ _ _ h=>h,fun _ _ _ _ _ h=>h,fun _ _ _ _ _ h=>h,fun _ _ _ _ _ h=>h,fun _ _ _ _ _ h=>h,fun _ _ _ _ _ h=>h,fun _ _ _ _ f h=>LitB.ex f h,fun _ _ _ _ f h=>LitB.ex f h,trivial⟩ ?_ ?_
  ·refine ⟨?_,?_,?_,?_,?_,?_,?_,?_,?_,?_,?_,?_,?_,?_,?_,?_,trivial⟩
   ·intro ρ w1 F1 hS hρ
    have q:ρ 1=.pointer (some ⟨b5,0,none⟩):=hρ 1 (by kernel_rfl)
    exact o_q (r_fa fld_frame_Frame_0 rfl q) ⟨Fr.refl _ _,rfl⟩
   ·intro ρ w1 F1 hS hρ
    have q:ρ 20=.pointer (some ⟨b5,0,none⟩):=hS 0 (by decide) 20 rfl
    exact o_q (r_ld one_int q ((S5.fr (G12.trans ((Fr.ext F14).trans (Fr.ext F1))) sI).now.cell rfl)) ⟨Fr.refl _ _,rfl⟩
   ·intro ρ w1 F1 hS hρ
    have q:ρ 21=.int .i64 d0.kind:=hS 1 (by decide) 21 rfl
    refine o_call cf_frame_number (vs:=[.int .i64 d0.kind,.int .i64 1]) (by show [ρ 21,Value.int .i64 1]=_; rw [q]) (frame_number_c d0.kind (1:Int) ((hL.fr E15).fr F1) (frNum_ev d0.kind (1:Int))) rfl rfl ?_
    rintro _ w2 ⟨F2,rfl⟩
    exact eo_nil ⟨rfl,rfl,_,rfl,F2,rfl⟩
   ·intro ρ w1 F1 hS hρ
    have q:ρ 1=.pointer (some ⟨b5,0,none⟩):=hρ 1 (by kernel_rfl)
    exact o_q (r_fa fld_frame_Frame_1 rfl q) ⟨Fr.refl _ _,rfl⟩
   ·intro ρ w1 F1 hS hρ
    have q:ρ 23=.pointer (some ⟨b5,1,none⟩):=hS 3 (by decide) 23 rfl
    exact o_q (r_ld one_int q ((S5.fr (G12.trans ((Fr.ext F14).trans (Fr.ext F1))) sI).now.cell rfl)) ⟨Fr.refl _ _,rfl⟩
   ·intro ρ w1 F1 hS hρ
    have q:ρ 24=.int .i64 d0.a:=hS 4 (by decide) 24 rfl
    refine o_call cf_frame_number (vs:=[.int .i64 d0.a,.int .i64 4]) (by show [ρ 24,Value.int .i64 4]=_; rw [q]) (frame_number_c d0.a (4:Int) ((hL.fr E15).fr F1) (frNum_ev d0.a (4:Int))) rfl rfl ?_
    rintro _ w2 ⟨F2,rfl⟩
    exact eo_nil ⟨rfl,rfl,_,rfl,F2,rfl⟩
   ·intro ρ w1 F1 hS hρ
    have q:ρ 1=.pointer (some ⟨b5,0,none⟩):=hρ 1 (by kernel_rfl)
    exact o_q (r_fa fld_frame_Frame_2 rfl q) ⟨Fr.refl _ _,rfl⟩
   ·intro ρ w1 F1 hS hρ
    have q:ρ 26=.pointer (some ⟨b5,2,none⟩):=hS 6 (by decide) 26 rfl
    exact o_q (r_ld one_int q ((S5.fr (G12.trans ((Fr.ext F14).trans (Fr.ext F1))) sI).now.cell rfl)) ⟨Fr.refl _ _,rfl⟩
   ·intro ρ w1 F1 hS hρ
    have q:ρ 27=.int .i64 d0.b:=hS 7 (by decide) 27 rfl
    refine o_call cf_frame_number (vs:=[.int .i64 d0.b,.int .i64 4]) (by show [ρ 27,Value.int .i64 4]=_; rw [q]) (frame_number_c d0.b (4:Int) ((hL.fr E15).fr F1) (frNum_ev d0.b (4:Int))) rfl rfl ?_
    rintro _ w2 ⟨F2,rfl⟩
    exact eo_nil ⟨rfl,rfl,_,rfl,F2,rfl⟩
   ·intro ρ w1 F1 hS hρ
    have q:ρ 4=str x14.1:=hρ 4 (by kernel_rfl)
    exact o_q (r_mov q) ⟨Fr.refl _ _,rfl⟩
   ·intro ρ w1 F1 hS hρ
    have q:ρ 1=.pointer (some ⟨b5,0,none⟩):=hρ 1 (by kernel_rfl)
    exact o_q (r_fa fld_frame_Frame_4 rfl q) ⟨Fr.refl _ _,rfl⟩
   ·intro ρ w1 F1 hS hρ
    have q:ρ 30=.pointer (some ⟨b5,7,none⟩):=hS 10 (by decide) 30 rfl
    exact o_q (r_ld one_s_api_Entry q ((S5.fr (G12.trans ((Fr.ext F14).trans (Fr.ext F1))) sI).now.cell rfl)) ⟨Fr.refl _ _,rfl⟩
   ·intro ρ w1 F1 hS hρ
    have q:ρ 31=.slice A2 d0.entries.length c3:=hS 11 (by decide) 31 rfl
    exact o_q (r_len_slc un_s_api_Entry q) ⟨Fr.refl _ _,rfl⟩
   ·intro ρ w1 F1 hS hρ
    have q:ρ 32=.int .i64 (d0.entries.length:Int):=hS 12 (by decide) 32 rfl
    refine o_call cf_frame_number (vs:=[.int .i64 (d0.entries.length:Int),.int .i64 1]) (by show [ρ 32,Value.int .i64 1]=_; rw [q]) (frame_number_c (d0.entries.length:Int) (1:Int) ((hL.fr E15).fr F1) (frNum_ev (d0.entries.length:Int) (1:Int))) rfl rfl ?_
    rintro _ w2 ⟨F2,rfl⟩
    exact eo_nil ⟨rfl,rfl,_,rfl,F2,rfl⟩
   ·intro ρ w1 F1 hS hρ
    have q0:ρ 22=str (numF d0.kind (1:Int)):=hS 2 (by decide) 22 rfl
    have q1:ρ 25=str (numF d0.a (4:Int)):=hS 5 (by decide) 25 rfl
    have q2:ρ 28=str (numF d0.b (4:Int)):=hS 8 (by decide) 28 rfl
    have q3:ρ 29=str x14.1:=hS 9 (by decide) 29 rfl
    have q4:ρ 33=str (numF (d0.entries.length:Int) (1:Int)):=hS 13 (by decide) 33 rfl
    refine o_bslice slc_s_string rfl (vs:=[str (numF d0.kind (1:Int)),str (numF d0.a (4:Int)),str (numF d0.b (4:Int)),str x14.1,str (numF (d0.entries.length:Int) (1:Int))]) (by show [(0,ρ 22),(1,ρ 25),(2,ρ 28),(3,ρ 29),(4,ρ 33)]=_; rw [q0,q1,q2,q3,q4]; rfl) rfl rfl (cs:=[str (numF d0.kind (1:Int)),str (numF d0.a (4:Int)),str (numF d0.b (4:Int)),str x14.1,str (numF (d0.entries.length:Int) (1:Int))]) rfl rfl rfl rfl ?_
    intro b w2 e F B
    exact eo_nil ⟨rfl,rfl,_,rfl,F,b,rfl,by rw [e]; exact F1.size,B⟩
   ·intro ρ w1 F1 hS hρ
    have q:LitB w14.heap.size [str (numF d0.kind (1:Int)),str (numF d0.a (4:Int)),str (numF d0.b (4:Int)),str x14.1,str (numF (d0.entries.length:Int) (1:Int))] (ρ 34) w1:=hS 14 (by decide) 34 rfl
    exact o_q (r_asg rfl) ⟨Fr.refl _ _,q⟩
  intro ρ4 w34 F34 hS hρ
  obtain ⟨b34,q6,e34,B34⟩:LitB w14.heap.size [str (numF d0.kind (1:Int)),str (numF d0.a (4:Int)),str (numF d0.b (4:Int)),str x14.1,str (numF (d0.entries.length:Int) (1:Int))] (ρ4 6) w34:=hS 15 6 rfl
  have q1:ρ4 1=.pointer (some ⟨b5,0,none⟩):=hρ 1 (by kernel_rfl)
  obtain ⟨ρ4',rfl⟩:∃ ρ',ρ4=envs ρ' [(6,.slice (some ⟨b34,0,none⟩) 5 5),(1,.pointer (some ⟨b5,0,none⟩))]:=⟨ρ4,envs_self ⟨q6,q1,trivial⟩⟩
  have F18:Ext w14 w14:=Fr.refl _ _
  have F22:Ext w14 w14:=Fr.refl _ _
  have F26:Ext w14 w14:=Fr.refl _ _
  have F30:Ext w14 w14:=Fr.refl _ _
  have N34:b34∉L:=fun hm=>by have:=(hL.fr E15) b34 hm; omega
  have E19:=E15.trans F18
  have E23:=E19.trans F22
  have G24:=(((G6.trans (Fr.ext F7)).trans (Fr.ext F14)).trans (Fr.ext F18)).trans (Fr.ext F22)
  have E27:=E23.trans F26
  have G29:=(((G12.trans (Fr.ext F14)).trans (Fr.ext F18)).trans (Fr.ext F22)).trans (Fr.ext F26)
  have E31:=E27.trans F30
  have S34:=B34.stb N34
  have E35:=E31.trans F34
  have lo38:w.heap.size≤w14.heap.size:=E31.size
  have O38:OwnS kS (w14.heap.size) 9 L w34 (.slice (some ⟨b34,0,none⟩) 5 5) ([(numF d0.kind (1:Int)),(numF d0.a (4:Int)),(numF d0.b (4:Int)),x14.1,(numF (d0.entries.length:Int) (1:Int))]:List Str):=bs_own (by decide) (hL.fr E31) e34 S34.now rfl rfl (rowd_cons (cs:=[str (numF d0.kind (1:Int))]) (fun _ _=>rfl) rfl (rowd_cons (cs:=[str (numF d0.a (4:Int))]) (fun _ _=>rfl) rfl (rowd_cons (cs:=[str (numF d0.b (4:Int))]) (fun _ _=>rfl) rfl (rowd_cons (cs:=[str x14.1]) (fun _ _=>rfl) rfl (rowd1 (cs:=[str (numF (d0.entries.length:Int) (1:Int))]) (fun _ _=>rfl) rfl)))))
  have P39:∀ m∈own (.slice (some ⟨b34,0,none⟩) 5 5),m∈L∨w.heap.size≤m:=fun m hm=>.inr (by have h1:m=b34:=(by simpa [own,Value.ownBlock] using hm); rw [h1]; exact Nat.le_trans (((G24.trans (Fr.ext F26)).trans (Fr.ext F30)).size) e34)
  refine sq_n ?_
  refine ec_seq ?_
  refine ec_sr ?_
  refine o_w (v:=.pointer (some ⟨b5,7,none⟩)) (r_fa fld_frame_Frame_4 rfl rfl) ?_
  refine o_w (v:=.slice A2 d0.entries.length c3) (r_ld one_s_api_Entry rfl ((S5.fr ((G29.trans (Fr.ext F30)).trans (Fr.ext F34)) sI).now.cell rfl)) ?_
  refine o_w (v:=.int .i64 (d0.entries.length:Int)) (r_len_slc un_s_api_Entry rfl) ?_
  refine o_w (v:=.int .i64 0) (r_mov rfl) ?_
  refine eo_nil_sq ?_
  refine ec_block ?_
  obtain ⟨x41,hl41,h⟩:=h
  refine ec_loopE 0 (I:=(fun (s41:List Str × Int) ρ ds w'=>∃ (ρ':Env) (v41i1:Value),ρ=envs ρ' [(6,v41i1),(38,.int .i64 s41.2),(36,.slice A2 d0.entries.length c3),(37,.int .i64 (d0.entries.length:Int))]∧ds=[]∧Fr (own (.slice (some ⟨b34,0,none⟩) 5 5)++L) w34 w'∧Ext w w'∧OwnS kS (w14.heap.size) 9 L w' v41i1 s41.1∧(∀ q∈own v41i1,q∈(own (.slice (some ⟨b34,0,none⟩) 5 5)++L)∨w34.heap.size≤q))) ?_ hl41 ?_ ?_
  ·intro s41 z41 ρ41 ds41 w41r hI41 hb41
   obtain ⟨ρ41r,v41r1,rfl,rfl,F41r,E41r,O41r1,N41r1⟩:=hI41
   have h:=hb41
   unfold frame_Put_b41 at h
   have G42:Fr L w w41r:=(((G24.trans (Fr.ext F26)).trans (Fr.ext F30)).trans (Fr.ext F34)).stp F41r (upo P39 (fun _ h=>.inl h))
   have P44:∀ m∈own v41r1,m∈L∨w.heap.size≤m:=fun m hm=>(N41r1 m hm).elim (fun h=>(show ∀ m∈(own (.slice (some ⟨b34,0,none⟩) 5 5)++L),m∈L∨w.heap.size≤m from (upo P39 (fun _ h=>.inl h))) m h) (fun h=>.inr (Nat.le_trans ((((G24.trans (Fr.ext F26)).trans (Fr.ext F30)).trans (Fr.ext F34)).size) h))
   refine ec_sr ?_
   refine o_w (v:=.bool (decide (s41.2<(d0.entries.length:Int)))) (r_int rfl rfl rfl) ?_
   refine eo_nil_sq ?_
   refine ec_seq ?_
   refine ec_cond rfl (fun hc46=>?_) (fun hc46=>?_)
   ·replace h:=h.1 hc46
    refine ec_skip ?_
    refine sq_n ?_
    refine ec_seq ?_
    refine ec_block ?_
    refine ec_sr ?_
    obtain ⟨ha47,h⟩:=h
    obtain ⟨cs48,l50,H49⟩:=Stb.elem (by decide) (H4.up G42 sI (upo P44 (fun _ h=>.inl h))) s41.2 ha47.1 ha47.2
    obtain ⟨A52,c53,A55,c56,rfl,H51,H54,H57⟩:=kEnt_open2 H49
    refine o_w (v:=.pointer (some (elemA A2 kEnt.n s41.2.toNat))) (r_ia slc_s_api_Entry rfl rfl ((H4.fr G42 sI).now.2 _ (lt_toNat ha47.1 ha47.2)).1 ha47.1 ha47.2) ?_
    refine o_w (v:=.agg (cEnt (nth d0.entries s41.2) A52 c53 A55 c56).toArray) (r_lda' agg_api_Entry rfl (elemA_spot _ _ _) (vs:=(cEnt (nth d0.entries s41.2) A52 c53 A55 c56)) rfl (H51.now.1)) ?_
    refine o_alloc zero_api_Entry rfl rfl rfl ?_
    intro b58 w58 e58 F58 B58
    have n58:w.heap.size≤b58:=by rw [e58]; exact E41r.size
    have m61:w34.heap.size≤b58:=by rw [e58]; exact F41r.size
    have m62:w41r.heap.size≤b58:=Nat.le_of_eq e58.symm
    have Ob63:=O41r1.born F58 (Nat.le_of_eq e58.symm) B58.lt
    have E64:=E41r.trans F58
    have G68:Fr (own v41r1++L) w41r w58:=Fr.ext F58
    refine o_store rfl B58 (vs:=(cEnt (nth d0.entries s41.2) A52 c53 A55 c56)) rfl sz_api_Entry rfl rfl rfl ?_
    intro w70 F70 B70
    have E71:=Ext.st E64 F70 (by simp; omega)
    have G74:Fr (own (.slice (some ⟨b34,0,none⟩) 5 5)++L) w34 w70:=(F41r.trans (Fr.ext F58)).stp F70 (upc (.inr m61) (fun m hm=>by cases hm))
    have G75:Fr (own v41r1++L) w41r w70:=G68.stp F70 (upc (.inr m62) (fun m hm=>by cases hm))
    have O76:=Ob63.fr F70 (by simp)
    have B70':Blk w70 b58 _ (cEnt (nth d0.entries s41.2) A52 c53 A55 c56):=B70
    refine eo_r ?_
    refine o_w (v:=.agg (cEnt (nth d0.entries s41.2) A52 c53 A55 c56).toArray) (r_lda agg_api_Entry rfl (vs:=(cEnt (nth d0.entries s41.2) A52 c53 A55 c56)) rfl (B70'.part (n:=9) rfl)) ?_
    obtain ⟨ha78,h⟩:=h
    obtain ⟨x77,hx77,h⟩:=h
    refine o_call cf_entry_Put rfl (entry_Put_c (nth d0.entries s41.2) (kEnt_mk (d:=(nth d0.entries s41.2)) (H54.up G75 sI (upc (.inr m62) (upo (fun m hm=>Or.inl (List.mem_append_left _ hm)) (fun m hm=>Or.inl (List.mem_append_right _ hm))))) (H57.up G75 sI (upc (.inr m62) (upo (fun m hm=>Or.inl (List.mem_append_left _ hm)) (fun m hm=>Or.inl (List.mem_append_right _ hm)))))) (((hL.fr E71).own O76).cons B70'.lt) (eq_ev hx77 (entPut_ev (nth d0.entries s41.2) ha78))) rfl rfl ?_
    rintro _ w77 ⟨F77,rfl⟩
    have E79:=E71.trans F77
    refine o_w (v:=.tuple #[str x77.1,.int .i64 x77.2]) (r_mov rfl) ?_
    refine o_w (v:=str x77.1) (r_ext rfl rfl) ?_
    refine o_w (v:=.int .i64 x77.2) (r_ext rfl rfl) ?_
    refine o_w (v:=str x77.1) (r_asg rfl) ?_
    refine o_w (v:=.int .i64 x77.2) (r_asg rfl) ?_
    refine eo_q ?_
    refine o_w (v:=v41r1) (r_mov rfl) ?_
    refine o_w (v:=str x77.1) (r_mov rfl) ?_
    refine o_bslice slc_s_string rfl (vs:=[str x77.1]) rfl rfl rfl (cs:=[str x77.1]) rfl rfl rfl rfl ?_
    intro b86 w86 e86 F86 B86
    have N86:=nin (((hL.fr E79).own (O76.ex F77)).cons (B70'.ex F77).lt) e86
    have S86:=B86.stb N86
    have E87:=E79.trans F86
    obtain ⟨ha95,h⟩:=h
    refine o_app slc_s_string rfl rfl rfl ((O76.ex F77).ex F86) rfl S86.now (ys:=([x77.1]:List Str)) rfl rfl rfl (rowd1 (cs:=[str x77.1]) (fun _ _=>rfl) rfl) ha95 rfl rfl ?_
    intro v94 w94 F94 O94 N94
    have P98:∀ m∈own v94,m∈(own (.slice (some ⟨b34,0,none⟩) 5 5)++L)∨w34.heap.size≤m:=fun m hm=>(N94 m hm).elim (fun h=>(show ∀ m∈own v41r1,m∈(own (.slice (some ⟨b34,0,none⟩) 5 5)++L)∨w34.heap.size≤m from N41r1) m h) (fun h=>.inr (Nat.le_trans (((G74.trans (Fr.ext F77)).trans (Fr.ext F86)).size) h))
    have E101:=Ext.st E87 F94 (fun m hm=>Nat.le_trans lo38 (((O76.ex F77).ex F86).lo m hm))
    have G104:Fr (own (.slice (some ⟨b34,0,none⟩) 5 5)++L) w34 w94:=((G74.trans (Fr.ext F77)).trans (Fr.ext F86)).stp F94 N41r1
    refine o_w (v:=v94) (r_asg rfl) ?_
    refine eo_nil ?_
    refine blk_n ?_
    refine sq_n ?_
    refine ec_region ?_
    refine o_w (v:=.int .i64 (IntKind.i64.wrap (s41.2 + (1:Int)))) (r_int rfl rfl rfl) ?_
    refine o_w (v:=.int .i64 (IntKind.i64.wrap (s41.2 + (1:Int)))) (r_mov rfl) ?_
    refine eo_nil ?_
    subst h
    exact lq_n ⟨_,v94,envs_self ⟨rfl,rfl,rfl,rfl,trivial⟩,rfl,G104,E101,(O94.weak (fun m hm=>by simp at hm ⊢; first | exact hm | exact .inr hm | simp [hm] | (rcases hm with h | h <;> simp [h]) | simp_all)),P98⟩
   ·replace h:=h.2 hc46
    refine ec_exit ?_
    refine sq_exit ?_
    subst h
    exact lq_x ⟨_,v41r1,envs_self ⟨rfl,rfl,rfl,rfl,trivial⟩,rfl,F41r,E41r,O41r1,N41r1⟩
  ·exact ⟨_,(.slice (some ⟨b34,0,none⟩) 5 5),envs_self ⟨rfl,rfl,rfl,rfl,trivial⟩,rfl,(Fr.refl _ _),E35,O38,(fun q hq=>.inl (by first | exact List.mem_append_left _ hq | simp [hq]))⟩
  ·rintro ρ41e ds41e w41e ⟨ρ41e,v41e1,rfl,rfl,F41e,E41e,O41e1,N41e1⟩
   refine blk_hit ?_
   refine sq_n ?_
   refine ec_sr ?_
   refine o_w (v:=v41e1) (r_mov rfl) ?_
   obtain ⟨A113,c114,eA113,H115⟩:=O41e1.still
   subst eA113
   have Zw41e_116:=Fr.refl L w41e
   obtain ⟨x112,hx112,h⟩:=h
   refine o_call cf_frame_seal rfl (frame_seal_c x41.1 (H115.fr Zw41e_116 sI) (hL.fr E41e) hx112) rfl rfl ?_
   rintro _ w112 ⟨F112,rfl⟩
   have E118:=E41e.trans F112
   refine o_w (v:=str x112) (r_asg rfl) ?_
   refine o_w (v:=.int .i64 0) (r_asg rfl) ?_
   refine eo_nil_sq ?_
   refine ec_ret ?_
   subst h
   exact (end2 rfl rfl ⟨_,rfl,E118,rfl⟩)
def ref14_get_raw (d0:Str) (d1:Int) (d2:Int) (y:Int):Prop :=
 (d0.length≤9223372036854775807)∧(∃ x1,x1=(getO d0 d1 d2)∧(y=x1.1))
set_option maxRecDepth 20000 in
set_option maxHeartbeats 4000000 in
theorem ref14_get_c {L:List Nat} {w:World} (d0:Str) (d1:Int) (d2:Int) (hL:Lt L w) {y:Int} (h:ref14_get_raw d0 d1 d2 y) :
  Calls Tryz.prog 47 [str d0,.int .i64 d1,.int .i64 d2].toArray w (Ret fun v w'=>Ext w w'∧v=.int .i64 y):=by
 unfold ref14_get_raw at h
 refine calls_ec Tryz.func47 rfl rfl rfl ?_
 refine ec_sr ?_
 refine o_w (v:=.int .i64 0) (r_asg rfl) ?_
 refine eo_r ?_
 refine o_w (v:=str d0) (r_mov rfl) ?_
 refine o_w (v:=.int .i64 d1) (r_mov rfl) ?_
 refine o_w (v:=.int .i64 d2) (r_mov rfl) ?_
 obtain ⟨ha2,h⟩:=h
 obtain ⟨x1,hx1,h⟩:=h
 refine o_call cf_ref01_Get rfl (ref01_Get_c d0 d1 d2 hL (eq_ev hx1 (refGet_ev d0 d1 d2 ha2))) rfl rfl ?_
 rintro _ w1 ⟨F1,rfl⟩
 refine o_w (v:=.tuple #[.int .i64 x1.1,.int .i64 x1.2]) (r_mov rfl) ?_
 refine o_w (v:=.int .i64 x1.1) (r_ext rfl rfl) ?_
 refine o_w (v:=.int .i64 x1.2) (r_ext rfl rfl) ?_
 refine o_w (v:=.int .i64 x1.1) (r_asg rfl) ?_
 refine o_w (v:=.int .i64 x1.2) (r_asg rfl) ?_
 refine eo_r ?_
 refine o_w (v:=.int .i64 x1.1) (r_mov rfl) ?_
 refine o_w (v:=.int .i64 x1.1) (r_asg rfl) ?_
 refine eo_nil_sq ?_
 refine ec_ret ?_
 subst h
 exact (end1 rfl ⟨_,rfl,F1,rfl⟩)
def ref14_Get_b55 (x2:Str × Int) (x45:Int) (s55:Int × Int × Int × Int × Int × Int × Int × Int × List Ent × List Ent) (z55:(Int × Int × Int × Int × Int × Int × Int × Int × List Ent × List Ent) ⊕ ((Int × Int × Int × Int × Int × Int × Int × Int × List Ent × List Ent) ⊕ (Frm × Int))):Prop :=
 ((decide (s55.1<x45))=true→((0≤(IntKind.i64.wrap ((26:Int) + (IntKind.i64.wrap ((42:Int) * s55.1))))∧(IntKind.i64.wrap ((26:Int) + (IntKind.i64.wrap ((42:Int) * s55.1))))≤(IntKind.i64.wrap ((68:Int) + (IntKind.i64.wrap ((42:Int) * s55.1))))∧(IntKind.i64.wrap ((68:Int) + (IntKind.i64.wrap ((42:Int) * s55.1))))≤(x2.1.length:Int))∧(∃ x59,x59=(getE (cut x2.1 (IntKind.i64.wrap ((26:Int) + (IntKind.i64.wrap ((42:Int) * s55.1)))) (IntKind.i64.wrap ((68:Int) + (IntKind.i64.wrap ((42:Int) * s55.1))))))∧(((x59.2 != (0:Int))=true→(z55=.inr (.inr ((⟨(0:Int),(0:Int),(0:Int),[(0:Int),(0:Int),(0:Int),(0:Int)],([]:List Ent)⟩:Frm),(2:Int)))))∧((x59.2 != (0:Int))=false→((s55.2.2.2.2.2.2.2.2.2.length + 1≤9223372036854775807∧(s55.2.2.2.2.2.2.2.2.2.length + 1) * 120≤140737488355328)∧(z55=.inl ((IntKind.i64.wrap (s55.1 + (1:Int))),s55.2.1,s55.2.2.1,s55.2.2.2.1,s55.2.2.2.2.1,s55.2.2.2.2.2.1,s55.2.2.2.2.2.2.1,s55.2.2.2.2.2.2.2.1,s55.2.2.2.2.2.2.2.2.1,(s55.2.2.2.2.2.2.2.2.2++([x59.1]:List Ent))))))))))∧((decide (s55.1<x45))=false→(z55=.inr (.inl (s55.1,s55.2.1,s55.2.2.1,s55.2.2.2.1,s55.2.2.2.2.1,s55.2.2.2.2.2.1,s55.2.2.2.2.2.2.1,s55.2.2.2.2.2.2.2.1,s55.2.2.2.2.2.2.2.2.1,s55.2.2.2.2.2.2.2.2.2))))
def ref14_Get_raw (d0:Str) (y:Frm × Int):Prop :=
 (d0.length≤1000000000)∧(∃ x2,x2=(openC d0)∧((((x2.2 != (0:Int))||(decide ((x2.1.length:Int)<26)))=true→(y=((⟨(0:Int),(0:Int),(0:Int),[(0:Int),(0:Int),(0:Int),(0:Int)],([]:List Ent)⟩:Frm),(2:Int))))∧(((x2.2 != (0:Int))||(decide ((x2.1.length:Int)<26)))=false→((0≤(9:Int)∧(9:Int)≤25∧(25:Int)≤(x2.1.length:Int))∧(∃ x10,x10=(getD (cut x2.1 (9:Int) (25:Int)))∧(∃ x22,ref14_get_raw x2.1 (0:Int) (1:Int) x22∧(∃ x23,ref14_get_raw x2.1 (1:Int) (4:Int) x23∧(∃ x24,ref14_get_raw x2.1 (5:Int) (4:Int) x24∧(∃ x45,ref14_get_raw x2.1 (25:Int) (1:Int) x45∧((((x2.1.length:Int) != (IntKind.i64.wrap ((26:Int) + (IntKind.i64.wrap ((42:Int) * x45)))))=true→(y=((⟨(0:Int),(0:Int),(0:Int),[(0:Int),(0:Int),(0:Int),(0:Int)],([]:List Ent)⟩:Frm),(2:Int))))∧(((x2.1.length:Int) != (IntKind.i64.wrap ((26:Int) + (IntKind.i64.wrap ((42:Int) * x45)))))=false→(∃ x55,LoopR (ref14_Get_b55 x2 x45) ((0:Int),(0:Int),(0:Int),(0:Int),(0:Int),(0:Int),(0:Int),(0:Int),([]:List Ent),([]:List Ent)) x55∧(∀ sx55,x55=.inl sx55→((sml (⟨x22,x23,x24,x10.1,sx55.2.2.2.2.2.2.2.2.2⟩:Frm).entries)∧(((⟨x22,x23,x24,x10.1,sx55.2.2.2.2.2.2.2.2.2⟩:Frm).entries.length≤1000000)∧((maxS (⟨x22,x23,x24,x10.1,sx55.2.2.2.2.2.2.2.2.2⟩:Frm).sums)∧(∃ x147,x147=(okFr (⟨x22,x23,x24,x10.1,sx55.2.2.2.2.2.2.2.2.2⟩:Frm))∧(((!x147)=true→(y=((⟨(0:Int),(0:Int),(0:Int),[(0:Int),(0:Int),(0:Int),(0:Int)],([]:List Ent)⟩:Frm),(2:Int))))∧((!x147)=false→(y=((⟨x22,x23,x24,x10.1,sx55.2.2.2.2.2.2.2.2.2⟩:Frm),(0:Int))))))))))∧(∀ y55,x55=.inr y55→(y=y55))))))))))))))
set_option maxRecDepth 20000 in
set_option maxHeartbeats 4000000 in
theorem ref14_Get_c {L:List Nat} {w:World} (d0:Str) (hL:Lt L w) {y:Frm × Int} (h:ref14_Get_raw d0 y) :
  Calls Tryz.prog 19 [str d0].toArray w (Ret fun v w'=>Ext w w'∧∃ (cs90:List Value),v=.tuple #[.agg cs90.toArray,.int .i64 y.2]∧Stb L w' (fun w=>kFrm.r w cs90 y.1)):=by
 unfold ref14_Get_raw at h
 refine calls_ec Tryz.func19 rfl rfl rfl ?_
 refine ec_sr ?_
 refine o_alloc zero_ouroborosref14_Frame rfl rfl rfl ?_
 intro b1 w1 e1 F1 B1
 have n1:w.heap.size≤b1:=Nat.le_of_eq e1.symm
 refine o_w (v:=.int .i64 0) (r_asg rfl) ?_
 refine eo_r ?_
 refine o_w (v:=str d0) (r_mov rfl) ?_
 obtain ⟨ha3,h⟩:=h
 obtain ⟨x2,hx2,h⟩:=h
 refine o_call cf_ref02_Open rfl (ref02_Open_c d0 ((hL.fr F1).cons B1.lt) (eq_ev hx2 (refOpen_ev d0 ha3))) rfl rfl ?_
 rintro _ w2 ⟨F2,rfl⟩
 have E4:=F1.trans F2
 refine o_w (v:=.tuple #[str x2.1,.int .i64 x2.2]) (r_mov rfl) ?_
 refine o_w (v:=str x2.1) (r_ext rfl rfl) ?_
 refine o_w (v:=.int .i64 x2.2) (r_ext rfl rfl) ?_
 refine o_w (v:=str x2.1) (r_asg rfl) ?_
 refine o_w (v:=.int .i64 x2.2) (r_asg rfl) ?_
 refine eo_nil_sq ?_
 refine ec_seq ?_
 refine ec_sr ?_
 refine o_w (v:=.int .i64 x2.2) (r_mov rfl) ?_
 refine o_w (v:=.bool (x2.2 != (0:Int))) (r_int rfl rfl rfl) ?_
 refine o_w (v:=.bool (x2.2 != (0:Int))) (r_mov rfl) ?_
 refine o_vg (v:=str x2.1) (want_cf (t:=20) rfl rfl) (fun hk=>(r_mov rfl)) rfl rfl ?_
 refine o_vg (v:=.int .i64 (x2.1.length:Int)) (want_cf (t:=20) rfl rfl) (fun hk=>(r_len_str un_string (gdT (u:=undef) hk))) rfl rfl ?_
 refine o_vg (v:=.bool (decide ((x2.1.length:Int)<26))) (want_cf (t:=20) rfl rfl) (fun hk=>(r_int (gdT (u:=undef) hk) rfl rfl)) rfl rfl ?_
 refine o_w (v:=.bool ((x2.2 != (0:Int))||(decide ((x2.1.length:Int)<26)))) (r_pickOr rfl rfl (fun hf=>(gdT (u:=undef) (notT hf)))) ?_
 refine eo_nil_sq ?_
 refine ec_cond rfl (fun hc6=>?_) (fun hc6=>?_)
 ·replace h:=h.1 hc6
  refine ec_sr ?_
  refine o_w (v:=.agg #[.int .i64 0,.int .i64 0,.int .i64 0,.int .i64 0,.int .i64 0,.int .i64 0,.int .i64 0,.slice none ([]:List Ent).length 0]) (r_build bld_ouroborosref14_Frame (vs:=[]) (cells:=[.int .i64 0,.int .i64 0,.int .i64 0,.int .i64 0,.int .i64 0,.int .i64 0,.int .i64 0,.slice none ([]:List Ent).length 0]) rfl rfl) ?_
  refine o_store rfl (B1.ex F2) (vs:=[.int .i64 0,.int .i64 0,.int .i64 0,.int .i64 0,.int .i64 0,.int .i64 0,.int .i64 0,.slice none ([]:List Ent).length 0]) rfl sz_ouroborosref14_Frame rfl rfl rfl ?_
  intro w7 F7 B7
  have E8:=Ext.st E4 F7 (by simp; omega)
  have B7':Blk w7 b1 _ [.int .i64 0,.int .i64 0,.int .i64 0,.int .i64 0,.int .i64 0,.int .i64 0,.int .i64 0,.slice none ([]:List Ent).length 0]:=B7
  refine o_w (v:=.int .i64 2) (r_asg rfl) ?_
  refine eo_nil_sq ?_
  refine ec_ret ?_
  refine sq_ret ?_
  subst h
  exact (endr2 (rv_a rfl (agg_ouroborosref14_Frame) B7' (vs:=[.int .i64 0,.int .i64 0,.int .i64 0,.int .i64 0,.int .i64 0,.int .i64 0,.int .i64 0,.slice none ([]:List Ent).length 0]) rfl rfl) (rv_t rfl) ⟨_,rfl,E8,_,rfl,(kFrm_mk (d:=(⟨(0:Int),(0:Int),(0:Int),[(0:Int),(0:Int),(0:Int),(0:Int)],([]:List Ent)⟩:Frm)) stb_nil rfl)⟩)
 ·replace h:=h.2 hc6
  refine ec_skip ?_
  refine sq_n ?_
  refine ec_sr ?_
  refine o_w (v:=str x2.1) (r_mov rfl) ?_
  obtain ⟨ha9,h⟩:=h
  refine o_w (v:=str (cut x2.1 (9:Int) (25:Int))) (r_sl_str un_string rfl ⟨_,rfl⟩ ⟨_,rfl⟩ ha9.1 ha9.2.1 ha9.2.2) ?_
  obtain ⟨x10,hx10,h⟩:=h
  refine o_call cf_ref10_Get rfl (ref10_Get_c (cut x2.1 (9:Int) (25:Int)) ((hL.fr E4).cons (B1.ex F2).lt) (eq_ev hx10 (refGetD_ev (cut x2.1 (9:Int) (25:Int))))) rfl rfl ?_
  rintro _ w10 ⟨F10,rfl,hl11⟩
  have E12:=E4.trans F10
  refine o_w (v:=.tuple #[.agg #[.int .i64 (nth x10.1 0),.int .i64 (nth x10.1 1),.int .i64 (nth x10.1 2),.int .i64 (nth x10.1 3)],.int .i64 x10.2]) (r_mov rfl) ?_
  refine o_w (v:=.agg #[.int .i64 (nth x10.1 0),.int .i64 (nth x10.1 1),.int .i64 (nth x10.1 2),.int .i64 (nth x10.1 3)]) (r_ext rfl rfl) ?_
  refine o_w (v:=.int .i64 x10.2) (r_ext rfl rfl) ?_
  refine o_alloc zero_4_int rfl rfl rfl ?_
  intro b14 w14 e14 F14 B14
  have n14:w.heap.size≤b14:=by rw [e14]; exact E12.size
  have q15:b1<b14:=by rw [e14]; exact ((B1.ex F2).ex F10).lt
  have E16:=E12.trans F14
  refine o_store rfl B14 (vs:=[.int .i64 (nth x10.1 0),.int .i64 (nth x10.1 1),.int .i64 (nth x10.1 2),.int .i64 (nth x10.1 3)]) rfl sz_4_int rfl rfl rfl ?_
  intro w18 F18 B18
  have E19:=Ext.st E16 F18 (by simp; omega)
  have B20:=(((B1.ex F2).ex F10).ex F14).fr F18 (by simp; omega)
  have B18':Blk w18 b14 _ [.int .i64 (nth x10.1 0),.int .i64 (nth x10.1 1),.int .i64 (nth x10.1 2),.int .i64 (nth x10.1 3)]:=B18
  refine o_w (v:=.int .i64 x10.2) (r_asg rfl) ?_
  refine eo_nil_sq ?_
  refine ec_seq ?_
  obtain ⟨x22,hx22,h⟩:=h
  obtain ⟨x23,hx23,h⟩:=h
  obtain ⟨x24,hx24,h⟩:=h
  refine ec_anyGN (by kernel_rfl) [[],[0],[],[0,1,2],[],[0,1,2,3,4],[],[0,1,2,3,4,5,6],[],[0,1,2,3,4,5,6,7,8]] [8,32,33,34,35,36,37,38,39] [] [9] 8 0 (fun g w=>∀ b,g=gOf b→Blk w b 29 [.int .i64 0,.int .i64 0,.int .i64 0,.int .i64 0,.int .i64 0,.int .i64 0,.int .i64 0,.slice none ([]:List Ent).length 0]) (fun g21=>[own g21]) [[9]] (fun g21=>[fun w'=>(∀ b,g21=gOf b→Blk w' b 29 [.int .i64 0,.int .i64 0,.int .i64 0,.int .i64 0,.int .i64 0,.int .i64 0,.int .i64 0,.slice none ([]:List Ent).length 0]),fun w'=>(∀ b,g21=gOf b→Blk w' b 29 [.int .i64 x22,.int .i64 x23,.int .i64 x24,.int .i64 (nth x10.1 0),.int .i64 (nth x10.1 1),.int .i64 (nth x10.1 2),.int .i64 (nth x10.1 3),.slice none ([]:List Ent).length 0])]) (fun g21=>[fun v _=>v=(str x2.1:Value),fun v _=>v=(.int .i64 x22:Value),fun v _=>v=(str x2.1:Value),fun v _=>v=(.int .i64 x23:Value),fun v _=>v=(str x2.1:Value),fun v _=>v=(.int .i64 x24:Value),fun v _=>v=(.agg #[.int .i64 (nth x10.1 0),.int .i64 (nth x10.1 1),.int .i64 (nth x10.1 2),.int .i64 (nth x10.1 3)]:Value),fun v _=>v=(.agg #[.int .i64 x22,.int .i64 x23,.int .i64 x24,.int .i64 (nth x10.1 0),.int .i64 (nth x10.1 1),.int .i64 (nth x10.1 2),.int .i64 (nth x10.1 3),.slice none ([]:List Ent).length 0]:Value),fun v w'=>∃ b21_8,v=(.pointer (some ⟨b21_8,0,none⟩):Value)∧g21=gOf b21_8∧w18.heap.size≤b21_8,fun _ _=>True]) (by kernel_rfl) (fun _=>rfl) (fun _=>rfl) (fun g21=>(allM1 (φ:=fun M=>∀ m∈M,m∈[]∨m∈own g21) (fun m hm=>.inr hm) (fun _ h=>by cases h))) (fun g21=>⟨fun _ _ _ _ _ h=>h,fun _ _ _ _ _ h=>h,fun _ _ _ _ _ h=>h,fun _ _ _ _ _ h=>h,fun _ _ _ _ _ h=>h,fun _ _ _ _ _ h=>h,fun _ _ _ _ _ h=>h,fun _ _ _ _ _ h=>h,fun _ v w' w'' F h=>by obtain ⟨b21_8,hv,heb21_8,lob21_8⟩:=h; exact ⟨b21_8,hv,heb21_8,lob21_8⟩,fun _ _ _ _ _ h=>h,trivial⟩) (fun g21=>⟨⟨fun _ _ _ _ _ _ h=>h,fun _ _ _ _ _ _ h=>h,fun _ _ _ _ _ _ h=>h,fun _ _ _ _ _ _ h=>h,fun _ _ _ _ _ _ h=>h,fun _ _ _ _ _ _ h=>h,fun _ _ _ _ _ _ h=>h,fun _ _ _ _ _ _ h=>h,fun _ v w' w'' hg21 F h=>by obtain ⟨b21_8,hv,heb21_8,lob21_8⟩:=h; exact ⟨b21_8,hv,heb21_8,lob21_8⟩,(fun h=>absurd h (by decide)),trivial⟩,trivial⟩) (fun g w hw hg=>⟨fun _ _ _ _ h=>h,fun _ _ _ _ h=>h,fun _ _ _ _ h=>h,fun _ _ _ _ h=>h,fun _ _ _ _ h=>h,fun _ _ _ _ h=>h,fun _ _ _ _ h=>h,fun _ _ _ _ h=>h,(fun h=>absurd h (by decide)),fun _ _ _ _ h=>h,trivial⟩) (fun g21=>⟨fun w' w'' F h=>by have hG21:=h; exact (fun b e=>(hG21 b e).ex F),fun w' w'' F h=>by have hG21:=h; exact (fun b e=>(hG21 b e).ex F),trivial⟩) (fun b e=>absurd e gNil_ne) (fun k hk g w w' hw hg F hX hI=>match k,hk,hI with | 0,_,hI=>by have hG21:=hI; exact hX | k + 1,hk,_=>absurd hk (by omega)) ?_ ?_ ?_ ?_
  ·refine ⟨?_,?_,?_,?_,?_,?_,?_,?_,?_,?_,trivial⟩
   ·intro _ _ g21 ρ w21o hg21 F21o hX hS hρ
    have F21o:=hX 9 rfl rfl
    have q4:ρ 4=str x2.1:=hρ 4 (by kernel_rfl)
    exact o_q (r_mov q4) ⟨Fr.refl _ _,rfl⟩
   ·intro _ _ g21 ρ w21o hg21 F21o hX hS hρ
    have F21o:=hX 9 rfl rfl
    have E25:=E19.trans F21o
    have q32:ρ 32=str x2.1:=hS 0 (by decide) 32 rfl
    refine o_call cf_ref14_get (by simp only [List.map,ev,q32] <;> rfl) (ref14_get_c x2.1 (0:Int) (1:Int) (lt_ghost (((hL.fr E25).cons (B20.ex F21o).lt).cons (B18'.ex F21o).lt) hg21) hx22) rfl rfl ?_
    rintro _ w' ⟨F,rfl⟩
    exact eo_nil ⟨rfl,rfl,_,rfl,F,rfl⟩
   ·intro _ _ g21 ρ w21o hg21 F21o hX hS hρ
    have F21o:=hX 9 rfl rfl
    have q4:ρ 4=str x2.1:=hρ 4 (by kernel_rfl)
    exact o_q (r_mov q4) ⟨Fr.refl _ _,rfl⟩
   ·intro _ _ g21 ρ w21o hg21 F21o hX hS hρ
    have F21o:=hX 9 rfl rfl
    have E28:=E19.trans F21o
    have q34:ρ 34=str x2.1:=hS 2 (by decide) 34 rfl
    refine o_call cf_ref14_get (by simp only [List.map,ev,q34] <;> rfl) (ref14_get_c x2.1 (1:Int) (4:Int) (lt_ghost (((hL.fr E28).cons (B20.ex F21o).lt).cons (B18'.ex F21o).lt) hg21) hx23) rfl rfl ?_
    rintro _ w' ⟨F,rfl⟩
    exact eo_nil ⟨rfl,rfl,_,rfl,F,rfl⟩
   ·intro _ _ g21 ρ w21o hg21 F21o hX hS hρ
    have F21o:=hX 9 rfl rfl
    have q4:ρ 4=str x2.1:=hρ 4 (by kernel_rfl)
    exact o_q (r_mov q4) ⟨Fr.refl _ _,rfl⟩
   ·intro _ _ g21 ρ w21o hg21 F21o hX hS hρ
    have F21o:=hX 9 rfl rfl
    have E31:=E19.trans F21o
    have q36:ρ 36=str x2.1:=hS 4 (by decide) 36 rfl
    refine o_call cf_ref14_get (by simp only [List.map,ev,q36] <;> rfl) (ref14_get_c x2.1 (5:Int) (4:Int) (lt_ghost (((hL.fr E31).cons (B20.ex F21o).lt).cons (B18'.ex F21o).lt) hg21) hx24) rfl rfl ?_
    rintro _ w' ⟨F,rfl⟩
    exact eo_nil ⟨rfl,rfl,_,rfl,F,rfl⟩
   ·intro _ _ g21 ρ w21o hg21 F21o hX hS hρ
    have F21o:=hX 9 rfl rfl
    have q6:ρ 6=.pointer (some ⟨b14,0,none⟩):=hρ 6 (by kernel_rfl)
    exact o_q (r_lda agg_4_int q6 (vs:=[.int .i64 (nth x10.1 0),.int .i64 (nth x10.1 1),.int .i64 (nth x10.1 2),.int .i64 (nth x10.1 3)]) rfl ((B18'.ex F21o).part (n:=4) rfl)) ⟨Fr.refl _ _,rfl⟩
   ·intro _ _ g21 ρ w21o hg21 F21o hX hS hρ
    have F21o:=hX 9 rfl rfl
    have q33:ρ 33=.int .i64 x22:=hS 1 (by decide) 33 rfl
    have q35:ρ 35=.int .i64 x23:=hS 3 (by decide) 35 rfl
    have q37:ρ 37=.int .i64 x24:=hS 5 (by decide) 37 rfl
    have q38:ρ 38=.agg #[.int .i64 (nth x10.1 0),.int .i64 (nth x10.1 1),.int .i64 (nth x10.1 2),.int .i64 (nth x10.1 3)]:=hS 6 (by decide) 38 rfl
    exact o_q (r_build bld_ouroborosref14_Frame (vs:=[(0,.int .i64 x22),(1,.int .i64 x23),(2,.int .i64 x24),(3,.agg #[.int .i64 (nth x10.1 0),.int .i64 (nth x10.1 1),.int .i64 (nth x10.1 2),.int .i64 (nth x10.1 3)])]) (cells:=[.int .i64 x22,.int .i64 x23,.int .i64 x24,.int .i64 (nth x10.1 0),.int .i64 (nth x10.1 1),.int .i64 (nth x10.1 2),.int .i64 (nth x10.1 3),.slice none ([]:List Ent).length 0]) (by simp only [List.map,ev,q33,q35,q37,q38]) rfl) ⟨Fr.refl _ _,rfl⟩
   ·intro _ hT; exact absurd hT (by decide)
   ·intro hT; exact absurd hT (by decide)
  ·intro o ho ρ w21o F21o hX hS hρ; cases Option.some.inj ho; refine o_alloc zero_ouroborosref14_Frame rfl rfl rfl ?_; intro b w' e F B; subst e
   exact eo_nil ⟨rfl,rfl,_,rfl,F,gOf _,(fun m hm=>by rw [own_gOf,List.mem_singleton] at hm; subst hm; exact ⟨Nat.le_refl _,B.lt⟩),(fun b e=>by obtain rfl:=gOf_inj e; exact B),_,rfl,rfl,F21o.size⟩
  ·refine ⟨⟨_,rfl,?_⟩,trivial⟩
   ·intro g21 ρ w21o hg21 F21o hX hI hS hρ
    have hG21:=hI
    obtain ⟨b21_8,q8,heb21_8,lob21_8⟩:=hS 8 (by decide) 8 rfl
    have q39:ρ 39=.agg #[.int .i64 x22,.int .i64 x23,.int .i64 x24,.int .i64 (nth x10.1 0),.int .i64 (nth x10.1 1),.int .i64 (nth x10.1 2),.int .i64 (nth x10.1 3),.slice none ([]:List Ent).length 0]:=hS 7 (by decide) 39 rfl
    subst heb21_8
    have hB21_b21_8:=hG21 _ rfl
    refine o_store (show ev ρ _=_ from q8) hB21_b21_8 (vs:=[.int .i64 x22,.int .i64 x23,.int .i64 x24,.int .i64 (nth x10.1 0),.int .i64 (nth x10.1 1),.int .i64 (nth x10.1 2),.int .i64 (nth x10.1 3),.slice none ([]:List Ent).length 0]) (congrArg Value.cells q39) sz_ouroborosref14_Frame rfl rfl rfl ?_
    intro w' F B2
    exact eo_nil ⟨rfl,rfl,undef,rfl,F,(fun b e=>by obtain rfl:=gOf_inj e; exact B2),trivial⟩
  ·intro g21 ρ w21 hg21 F21 hI hS hρ
   have hG21:=hI
   obtain ⟨b21_8,q8,heb21_8,lob21_8⟩:=hS 8 8 rfl
   subst heb21_8
   have hB21_b21_8:=hG21 _ rfl
   obtain ⟨ρ',rfl⟩:∃ ρ',ρ=envs (ovr [8,32,33,34,35,36,37,38,39] ρ' _) [(8,.pointer (some ⟨b21_8,0,none⟩))]:=⟨ρ,ovr_self hρ ⟨q8,trivial⟩⟩
   have n21_8:w.heap.size≤b21_8:=Nat.le_trans E19.size lob21_8
   have q40:b1<b21_8:=Nat.lt_of_lt_of_le B20.lt lob21_8
   have q41:b14<b21_8:=Nat.lt_of_lt_of_le B18'.lt lob21_8
   have E42:=E19.trans F21
   refine sq_n ?_
   refine ec_sr ?_
   refine o_w (v:=str x2.1) (r_mov rfl) ?_
   obtain ⟨x45,hx45,h⟩:=h
   refine o_call cf_ref14_get rfl (ref14_get_c x2.1 (25:Int) (1:Int) ((((hL.fr E42).cons (B20.ex F21).lt).cons (B18'.ex F21).lt).cons hB21_b21_8.lt) hx45) rfl rfl ?_
   rintro _ w45 ⟨F45,rfl⟩
   have E46:=E42.trans F45
   refine o_w (v:=.int .i64 x45) (r_asg rfl) ?_
   refine eo_nil_sq ?_
   refine ec_seq ?_
   refine ec_sr ?_
   refine o_w (v:=str x2.1) (r_mov rfl) ?_
   refine o_w (v:=.int .i64 (x2.1.length:Int)) (r_len_str un_string rfl) ?_
   refine o_w (v:=.int .i64 x45) (r_mov rfl) ?_
   refine o_w (v:=.int .i64 (IntKind.i64.wrap ((42:Int) * x45))) (r_int rfl rfl rfl) ?_
   refine o_w (v:=.int .i64 (IntKind.i64.wrap ((26:Int) + (IntKind.i64.wrap ((42:Int) * x45))))) (r_int rfl rfl rfl) ?_
   refine o_w (v:=.bool ((x2.1.length:Int) != (IntKind.i64.wrap ((26:Int) + (IntKind.i64.wrap ((42:Int) * x45)))))) (r_int rfl rfl rfl) ?_
   refine eo_nil_sq ?_
   refine ec_cond rfl (fun hc50=>?_) (fun hc50=>?_)
   ·replace h:=h.1 hc50
    refine ec_sr ?_
    refine o_w (v:=.agg #[.int .i64 0,.int .i64 0,.int .i64 0,.int .i64 0,.int .i64 0,.int .i64 0,.int .i64 0,.slice none ([]:List Ent).length 0]) (r_build bld_ouroborosref14_Frame (vs:=[]) (cells:=[.int .i64 0,.int .i64 0,.int .i64 0,.int .i64 0,.int .i64 0,.int .i64 0,.int .i64 0,.slice none ([]:List Ent).length 0]) rfl rfl) ?_
    refine o_store rfl ((B20.ex F21).ex F45) (vs:=[.int .i64 0,.int .i64 0,.int .i64 0,.int .i64 0,.int .i64 0,.int .i64 0,.int .i64 0,.slice none ([]:List Ent).length 0]) rfl sz_ouroborosref14_Frame rfl rfl rfl ?_
    intro w51 F51 B51
    have E52:=Ext.st E46 F51 (by simp; omega)
    have B51':Blk w51 b1 _ [.int .i64 0,.int .i64 0,.int .i64 0,.int .i64 0,.int .i64 0,.int .i64 0,.int .i64 0,.slice none ([]:List Ent).length 0]:=B51
    refine o_w (v:=.int .i64 2) (r_asg rfl) ?_
    refine eo_nil_sq ?_
    refine ec_ret ?_
    refine sq_ret ?_
    subst h
    exact (endr2 (rv_a rfl (agg_ouroborosref14_Frame) B51' (vs:=[.int .i64 0,.int .i64 0,.int .i64 0,.int .i64 0,.int .i64 0,.int .i64 0,.int .i64 0,.slice none ([]:List Ent).length 0]) rfl rfl) (rv_t rfl) ⟨_,rfl,E52,_,rfl,(kFrm_mk (d:=(⟨(0:Int),(0:Int),(0:Int),[(0:Int),(0:Int),(0:Int),(0:Int)],([]:List Ent)⟩:Frm)) stb_nil rfl)⟩)
   ·replace h:=h.2 hc50
    refine ec_skip ?_
    refine sq_n ?_
    refine ec_seq ?_
    refine ec_sr ?_
    refine o_w (v:=.int .i64 0) (r_asg rfl) ?_
    refine eo_nil_sq ?_
    refine ec_block ?_
    have lo56:w.heap.size≤w45.heap.size:=E46.size
    have O56:=OwnS.nil (k:=kEnt) (e:=55) (by decide) ((((hL.fr E46).cons ((B20.ex F21).ex F45).lt).cons ((B18'.ex F21).ex F45).lt).cons (hB21_b21_8.ex F45).lt)
    obtain ⟨x55,hl55,h⟩:=h
    refine ec_loopER 0 (I:=(fun (s55:Int × Int × Int × Int × Int × Int × Int × Int × List Ent × List Ent) ρ ds w'=>∃ (ρ':Env) (A55i9:Option Addr) (c55i9:Nat) (v55i10:Value),ρ=envs ρ' [(10,.int .i64 s55.1),(2,.pointer (some ⟨b1,0,none⟩)),(4,str x2.1),(8,.pointer (some ⟨b21_8,0,none⟩)),(9,.int .i64 x45)]∧ds=[]∧Fr (own (.slice none 0 0)++(b21_8::(b14::(b1::L)))) w45 w'∧Ext w w'∧Stb (own v55i10++(b21_8::(b14::(b1::L)))) w' (fun w=>SlC kEnt w A55i9 c55i9 s55.2.2.2.2.2.2.2.2.1)∧OwnS kEnt (w45.heap.size) 55 (b21_8::(b14::(b1::L))) w' v55i10 s55.2.2.2.2.2.2.2.2.2∧(∀ q∈own v55i10,q∈(own (.slice none 0 0)++(b21_8::(b14::(b1::L))))∨w45.heap.size≤q)∧Blk w' b1 29 [.int .i64 s55.2.1,.int .i64 s55.2.2.1,.int .i64 s55.2.2.2.1,.int .i64 s55.2.2.2.2.1,.int .i64 s55.2.2.2.2.2.1,.int .i64 s55.2.2.2.2.2.2.1,.int .i64 s55.2.2.2.2.2.2.2.1,.slice A55i9 s55.2.2.2.2.2.2.2.2.1.length c55i9]∧Blk w' b14 22 [.int .i64 (nth x10.1 0),.int .i64 (nth x10.1 1),.int .i64 (nth x10.1 2),.int .i64 (nth x10.1 3)]∧Blk w' b21_8 29 [.int .i64 x22,.int .i64 x23,.int .i64 x24,.int .i64 (nth x10.1 0),.int .i64 (nth x10.1 1),.int .i64 (nth x10.1 2),.int .i64 (nth x10.1 3),v55i10])) (J:=(fun (y':Frm × Int) ρ ds wz=>bodyE Tryz.prog #[.cell 2 29,.tmp 3] (Ret fun v w'=>Ext w w'∧∃ (cs90:List Value),v=.tuple #[.agg cs90.toArray,.int .i64 y'.2]∧Stb L w' (fun w=>kFrm.r w cs90 y'.1)) .ret ρ ds wz)) ?_ hl55 ?_ ?_ ?_
    ·intro s55 z55 ρ55 ds55 w55r hI55 hb55
     obtain ⟨ρ55r,A55r9,c55r9,v55r10,rfl,rfl,F55r,E55r,H55r9,O55r10,N55r10,B55rb1,B55rb14,B55rb21_8⟩:=hI55
     have h:=hb55
     unfold ref14_Get_b55 at h
     refine ec_seq ?_
     refine ec_sr ?_
     refine o_w (v:=.int .i64 s55.1) (r_mov rfl) ?_
     refine o_w (v:=.int .i64 x45) (r_mov rfl) ?_
     refine o_w (v:=.bool (decide (s55.1<x45))) (r_int rfl rfl rfl) ?_
     refine eo_nil_sq ?_
     refine ec_cond rfl (fun hc57=>?_) (fun hc57=>?_)
     ·replace h:=h.1 hc57
      refine ec_skip ?_
      refine sq_n ?_
      refine ec_seq ?_
      refine ec_block ?_
      refine ec_sr ?_
      refine o_w (v:=str x2.1) (r_mov rfl) ?_
      refine o_w (v:=.int .i64 s55.1) (r_mov rfl) ?_
      refine o_w (v:=.int .i64 (IntKind.i64.wrap ((42:Int) * s55.1))) (r_int rfl rfl rfl) ?_
      refine o_w (v:=.int .i64 (IntKind.i64.wrap ((26:Int) + (IntKind.i64.wrap ((42:Int) * s55.1))))) (r_int rfl rfl rfl) ?_
      refine o_w (v:=.int .i64 s55.1) (r_mov rfl) ?_
      refine o_w (v:=.int .i64 (IntKind.i64.wrap ((42:Int) * s55.1))) (r_int rfl rfl rfl) ?_
      refine o_w (v:=.int .i64 (IntKind.i64.wrap ((68:Int) + (IntKind.i64.wrap ((42:Int) * s55.1))))) (r_int rfl rfl rfl) ?_
      obtain ⟨ha58,h⟩:=h
      refine o_w (v:=str (cut x2.1 (IntKind.i64.wrap ((26:Int) + (IntKind.i64.wrap ((42:Int) * s55.1)))) (IntKind.i64.wrap ((68:Int) + (IntKind.i64.wrap ((42:Int) * s55.1)))))) (r_sl_str un_string rfl ⟨_,rfl⟩ ⟨_,rfl⟩ ha58.1 ha58.2.1 ha58.2.2) ?_
      obtain ⟨x59,hx59,h⟩:=h
      refine o_call cf_ref07_Get rfl (ref07_Get_c (cut x2.1 (IntKind.i64.wrap ((26:Int) + (IntKind.i64.wrap ((42:Int) * s55.1)))) (IntKind.i64.wrap ((68:Int) + (IntKind.i64.wrap ((42:Int) * s55.1))))) (((((hL.fr E55r).cons B55rb1.lt).cons B55rb14.lt).cons B55rb21_8.lt).own O55r10) (eq_ev hx59 (refGetE_ev (cut x2.1 (IntKind.i64.wrap ((26:Int) + (IntKind.i64.wrap ((42:Int) * s55.1)))) (IntKind.i64.wrap ((68:Int) + (IntKind.i64.wrap ((42:Int) * s55.1)))))))) rfl rfl ?_
      rintro _ w59 ⟨F59,cs60,rfl,H61⟩
      have E62:=E55r.trans F59
      have G63:Fr (own v55r10++(b21_8::(b14::(b1::L)))) w55r w59:=Fr.ext F59
      obtain ⟨A69,c70,A72,c73,rfl,H71,H74⟩:=kEnt_open H61
      refine o_w (v:=.tuple #[.agg (cEnt x59.1 A69 c70 A72 c73).toArray,.int .i64 x59.2]) (r_mov rfl) ?_
      refine o_w (v:=.agg (cEnt x59.1 A69 c70 A72 c73).toArray) (r_ext rfl rfl) ?_
      refine o_w (v:=.int .i64 x59.2) (r_ext rfl rfl) ?_
      refine o_alloc zero_api_Entry rfl rfl rfl ?_
      intro b75 w75 e75 F75 B75
      have n75:w.heap.size≤b75:=by rw [e75]; exact E62.size
      have q76:b1<b75:=by rw [e75]; exact (B55rb1.ex F59).lt
      have q77:b14<b75:=by rw [e75]; exact (B55rb14.ex F59).lt
      have q78:b21_8<b75:=by rw [e75]; exact (B55rb21_8.ex F59).lt
      have m79:w55r.heap.size≤b75:=by rw [e75]; exact G63.size
      have m80:w45.heap.size≤b75:=by rw [e75]; exact (F55r.trans (Fr.ext F59)).size
      have m81:w59.heap.size≤b75:=Nat.le_of_eq e75.symm
      have Ob82:=(O55r10.ex F59).born F75 (Nat.le_of_eq e75.symm) B75.lt
      have E83:=E62.trans F75
      have G86:Fr (own v55r10++(b21_8::(b14::(b1::L)))) w59 w75:=Fr.ext F75
      refine o_store rfl B75 (vs:=(cEnt x59.1 A69 c70 A72 c73)) rfl sz_api_Entry rfl rfl rfl ?_
      intro w91 F91 B91
      have E92:=Ext.st E83 F91 (by simp; omega)
      have G93:Fr (own v55r10++(b21_8::(b14::(b1::L)))) w55r w91:=(G63.trans (Fr.ext F75)).stp F91 (upc (.inr m79) (fun m hm=>by cases hm))
      have G94:Fr (own (.slice none 0 0)++(b21_8::(b14::(b1::L)))) w45 w91:=((F55r.trans (Fr.ext F59)).trans (Fr.ext F75)).stp F91 (upc (.inr m80) (fun m hm=>by cases hm))
      have G95:Fr (own v55r10++(b21_8::(b14::(b1::L)))) w59 w91:=G86.stp F91 (upc (.inr m81) (fun m hm=>by cases hm))
      have B96:=((B55rb1.ex F59).ex F75).fr F91 (by simp; omega)
      have B97:=((B55rb14.ex F59).ex F75).fr F91 (by simp; omega)
      have B98:=((B55rb21_8.ex F59).ex F75).fr F91 (by simp; omega)
      have O99:=Ob82.fr F91 (by simp)
      have B91':Blk w91 b75 _ (cEnt x59.1 A69 c70 A72 c73):=B91
      refine o_w (v:=.int .i64 x59.2) (r_asg rfl) ?_
      refine eo_nil_sq ?_
      refine ec_seq ?_
      refine ec_sr ?_
      refine o_w (v:=.int .i64 x59.2) (r_mov rfl) ?_
      refine o_w (v:=.bool (x59.2 != (0:Int))) (r_int rfl rfl rfl) ?_
      refine eo_nil_sq ?_
      refine ec_cond rfl (fun hc100=>?_) (fun hc100=>?_)
      ·replace h:=h.1 hc100
       refine ec_sr ?_
       refine o_w (v:=.agg #[.int .i64 0,.int .i64 0,.int .i64 0,.int .i64 0,.int .i64 0,.int .i64 0,.int .i64 0,.slice none ([]:List Ent).length 0]) (r_build bld_ouroborosref14_Frame (vs:=[]) (cells:=[.int .i64 0,.int .i64 0,.int .i64 0,.int .i64 0,.int .i64 0,.int .i64 0,.int .i64 0,.slice none ([]:List Ent).length 0]) rfl rfl) ?_
       refine o_store rfl B96 (vs:=[.int .i64 0,.int .i64 0,.int .i64 0,.int .i64 0,.int .i64 0,.int .i64 0,.int .i64 0,.slice none ([]:List Ent).length 0]) rfl sz_ouroborosref14_Frame rfl rfl rfl ?_
       intro w101 F101 B101
       have E102:=Ext.st E92 F101 (by simp; omega)
       have B101':Blk w101 b1 _ [.int .i64 0,.int .i64 0,.int .i64 0,.int .i64 0,.int .i64 0,.int .i64 0,.int .i64 0,.slice none ([]:List Ent).length 0]:=B101
       refine o_w (v:=.int .i64 2) (r_asg rfl) ?_
       refine eo_nil_sq ?_
       refine ec_ret ?_
       refine sq_ret ?_
       refine blk_ret ?_
       refine sq_ret ?_
       subst h
       exact lqR_r (endr2 (rv_a rfl (agg_ouroborosref14_Frame) B101' (vs:=[.int .i64 0,.int .i64 0,.int .i64 0,.int .i64 0,.int .i64 0,.int .i64 0,.int .i64 0,.slice none ([]:List Ent).length 0]) rfl rfl) (rv_t rfl) ⟨_,rfl,E102,_,rfl,(kFrm_mk (d:=(⟨(0:Int),(0:Int),(0:Int),[(0:Int),(0:Int),(0:Int),(0:Int)],([]:List Ent)⟩:Frm)) stb_nil rfl)⟩)
      ·replace h:=h.2 hc100
       refine ec_skip ?_
       refine sq_n ?_
       refine ec_region ?_
       refine o_w (v:=.pointer (some ⟨b21_8,7,none⟩)) (r_fa fld_ouroborosref14_Frame_4 rfl rfl) ?_
       refine o_w (v:=v55r10) (r_ld one_s_api_Entry rfl (B98.cell rfl)) ?_
       refine o_w (v:=.agg (cEnt x59.1 A69 c70 A72 c73).toArray) (r_lda agg_api_Entry rfl (vs:=(cEnt x59.1 A69 c70 A72 c73)) rfl (B91'.part (n:=9) rfl)) ?_
       refine o_bslice slc_s_api_Entry rfl (vs:=[.agg (cEnt x59.1 A69 c70 A72 c73).toArray]) rfl rfl rfl (cs:=[str x59.1.key,.int .i64 x59.1.val.kind,.int .i64 x59.1.val.time,.int .i64 x59.1.val.node,.bool x59.1.val.dead,str x59.1.val.text,.slice A69 x59.1.val.plus.length c70,.slice A72 x59.1.val.minus.length c73,.int .u64 x59.1.val.flags]) rfl rfl rfl rfl ?_
       intro b110 w110 e110 F110 B110
       have N110:=nin ((((((hL.fr E92).cons B96.lt).cons B97.lt).cons B98.lt).own O99).cons B91'.lt) e110
       have S110:=B110.stb N110
       have E111:=E92.trans F110
       obtain ⟨ha121,h⟩:=h
       refine o_app slc_s_api_Entry rfl rfl rfl (O99.ex F110) rfl S110.now (ys:=([x59.1]:List Ent)) rfl rfl rfl (rowd1 (cs:=(cEnt x59.1 A69 c70 A72 c73)) (kEnt_mk (d:=x59.1) (H71.up (G95.trans (Fr.ext F110)) sI (upo (fun m hm=>Or.inl (List.mem_append_left _ hm)) (upc (.inr m81) (upc (.inl (List.mem_append_right _ mH)) (upc (.inl (List.mem_append_right _ (mT mH))) (upc (.inl (List.mem_append_right _ (mT (mT mH)))) (fun m hm=>Or.inl (List.mem_append_right _ (mT (mT (mT hm))))))))))) (H74.up (G95.trans (Fr.ext F110)) sI (upo (fun m hm=>Or.inl (List.mem_append_left _ hm)) (upc (.inr m81) (upc (.inl (List.mem_append_right _ mH)) (upc (.inl (List.mem_append_right _ (mT mH))) (upc (.inl (List.mem_append_right _ (mT (mT mH)))) (fun m hm=>Or.inl (List.mem_append_right _ (mT (mT (mT hm)))))))))))) rfl) ha121 rfl rfl ?_
       intro v120 w120 F120 O120 N120
       have P122:∀ m∈own v120,m∈(own v55r10++(b21_8::(b14::(b1::L))))∨w55r.heap.size≤m:=fun m hm=>(N120 m hm).elim (fun h=>(show ∀ m∈own v55r10,m∈(own v55r10++(b21_8::(b14::(b1::L))))∨w55r.heap.size≤m from (fun m hm=>.inl (List.mem_append_left _ hm))) m h) (fun h=>.inr (Nat.le_trans ((G93.trans (Fr.ext F110)).size) h))
       have P123:∀ m∈own v120,m∈(own (.slice none 0 0)++(b21_8::(b14::(b1::L))))∨w45.heap.size≤m:=fun m hm=>(N120 m hm).elim (fun h=>(show ∀ m∈own v55r10,m∈(own (.slice none 0 0)++(b21_8::(b14::(b1::L))))∨w45.heap.size≤m from N55r10) m h) (fun h=>.inr (Nat.le_trans ((G94.trans (Fr.ext F110)).size) h))
       have E126:=Ext.st E111 F120 (fun m hm=>Nat.le_trans lo56 ((O99.ex F110).lo m hm))
       have G127:Fr (own v55r10++(b21_8::(b14::(b1::L)))) w55r w120:=(G93.trans (Fr.ext F110)).stp F120 (fun m hm=>.inl (List.mem_append_left _ hm))
       have G128:Fr (own (.slice none 0 0)++(b21_8::(b14::(b1::L)))) w45 w120:=(G94.trans (Fr.ext F110)).stp F120 N55r10
       have B131:=(B96.ex F110).fr F120 (fun hm=>((O99.ex F110).below b1 (by simp)).2 hm)
       have B132:=(B97.ex F110).fr F120 (fun hm=>((O99.ex F110).below b14 (by simp)).2 hm)
       have B133:=(B98.ex F110).fr F120 (fun hm=>((O99.ex F110).below b21_8 (by simp)).2 hm)
       refine o_w (v:=.pointer (some ⟨b21_8,7,none⟩)) (r_fa fld_ouroborosref14_Frame_4 rfl rfl) ?_
       obtain ⟨A135,c136,rfl⟩:=O120.shape
       refine o_store rfl B133 (vs:=[(.slice A135 (s55.2.2.2.2.2.2.2.2.2++([x59.1]:List Ent)).length c136)]) rfl sz_s_api_Entry rfl rfl rfl ?_
       intro w137 F137 B137
       have E138:=Ext.st E126 F137 (by simp; omega)
       have G139:Fr (own v55r10++(b21_8::(b14::(b1::L)))) w55r w137:=G127.stp F137 (upc (.inl (List.mem_append_right _ mH)) (fun m hm=>by cases hm))
       have G140:Fr (own (.slice none 0 0)++(b21_8::(b14::(b1::L)))) w45 w137:=G128.stp F137 (upc (.inl (List.mem_append_right _ mH)) (fun m hm=>by cases hm))
       have B143:=B131.fr F137 (by simp; omega)
       have B144:=B132.fr F137 (by simp; omega)
       have O146:=O120.fr F137 (by simp)
       have B137':Blk w137 b21_8 _ [.int .i64 x22,.int .i64 x23,.int .i64 x24,.int .i64 (nth x10.1 0),.int .i64 (nth x10.1 1),.int .i64 (nth x10.1 2),.int .i64 (nth x10.1 3),(.slice A135 (s55.2.2.2.2.2.2.2.2.2++([x59.1]:List Ent)).length c136)]:=B137
       refine eo_nil ?_
       refine blk_n ?_
       refine sq_n ?_
       refine ec_region ?_
       refine o_w (v:=.int .i64 s55.1) (r_mov rfl) ?_
       refine o_w (v:=.int .i64 (IntKind.i64.wrap (s55.1 + (1:Int)))) (r_int rfl rfl rfl) ?_
       refine o_w (v:=.int .i64 (IntKind.i64.wrap (s55.1 + (1:Int)))) (r_asg rfl) ?_
       refine eo_nil ?_
       subst h
       exact lqR_n ⟨_,A55r9,c55r9,(.slice A135 (s55.2.2.2.2.2.2.2.2.2++([x59.1]:List Ent)).length c136),envs_self ⟨rfl,rfl,rfl,rfl,rfl,trivial⟩,rfl,G140,E138,(H55r9.up G139 sI (upo P122 (upc (.inl (List.mem_append_right _ mH)) (upc (.inl (List.mem_append_right _ (mT mH))) (upc (.inl (List.mem_append_right _ (mT (mT mH)))) (fun m hm=>Or.inl (List.mem_append_right _ (mT (mT (mT hm)))))))))),(O146.weak (fun m hm=>by simp at hm ⊢; first | exact hm | exact .inr hm | simp [hm] | (rcases hm with h | h <;> simp [h]) | simp_all)),P123,B143,B144,B137'⟩
     ·replace h:=h.2 hc57
      refine ec_exit ?_
      refine sq_exit ?_
      subst h
      exact lqR_x ⟨_,A55r9,c55r9,v55r10,envs_self ⟨rfl,rfl,rfl,rfl,rfl,trivial⟩,rfl,F55r,E55r,H55r9,O55r10,N55r10,B55rb1,B55rb14,B55rb21_8⟩
    ·exact ⟨_,none,0,(.slice none 0 0),envs_self ⟨rfl,rfl,rfl,rfl,rfl,trivial⟩,rfl,(Fr.refl _ _),E46,stb_nil,O56,(fun q hq=>.inl (by first | exact List.mem_append_left _ hq | simp [hq])),((B20.ex F21).ex F45),((B18'.ex F21).ex F45),(hB21_b21_8.ex F45)⟩
    ·rintro sx55 rfl ρ55e ds55e w55e ⟨ρ55e,A55e9,c55e9,v55e10,rfl,rfl,F55e,E55e,H55e9,O55e10,N55e10,B55eb1,B55eb14,B55eb21_8⟩
     replace h:=h.1 _ rfl
     refine blk_hit ?_
     refine sq_n ?_
     refine ec_seq ?_
     refine ec_sr ?_
     refine o_w (v:=.agg #[.int .i64 x22,.int .i64 x23,.int .i64 x24,.int .i64 (nth x10.1 0),.int .i64 (nth x10.1 1),.int .i64 (nth x10.1 2),.int .i64 (nth x10.1 3),v55e10]) (r_lda agg_ouroborosref14_Frame rfl (vs:=[.int .i64 x22,.int .i64 x23,.int .i64 x24,.int .i64 (nth x10.1 0),.int .i64 (nth x10.1 1),.int .i64 (nth x10.1 2),.int .i64 (nth x10.1 3),v55e10]) rfl (B55eb21_8.part (n:=8) rfl)) ?_
     obtain ⟨A148,c149,eA148,H150⟩:=O55e10.still
     subst eA148
     have Zw55e_151:=Fr.refl (b21_8::(b14::(b1::L))) w55e
     obtain ⟨ha153,h⟩:=h
     obtain ⟨ha154,h⟩:=h
     obtain ⟨ha155,h⟩:=h
     obtain ⟨x147,hx147,h⟩:=h
     refine o_call cf_ref14_Check rfl (ref14_Check_c (⟨x22,x23,x24,x10.1,sx55.2.2.2.2.2.2.2.2.2⟩:Frm) (kFrm_mk (d:=(⟨x22,x23,x24,x10.1,sx55.2.2.2.2.2.2.2.2.2⟩:Frm)) (H150.fr Zw55e_151 sI) (by first | rfl | exact hl11)) ((((hL.fr E55e).cons B55eb1.lt).cons B55eb14.lt).cons B55eb21_8.lt) (eq_ev hx147 (refCheckF_ev (⟨x22,x23,x24,x10.1,sx55.2.2.2.2.2.2.2.2.2⟩:Frm) ha153 ha154 ha155))) rfl rfl ?_
     rintro _ w147 ⟨F147,rfl⟩
     have E156:=E55e.trans F147
     refine o_w (v:=.bool (!x147)) (r_not rfl) ?_
     refine eo_nil_sq ?_
     refine ec_cond rfl (fun hc162=>?_) (fun hc162=>?_)
     ·replace h:=h.1 hc162
      refine ec_sr ?_
      refine o_w (v:=.agg #[.int .i64 0,.int .i64 0,.int .i64 0,.int .i64 0,.int .i64 0,.int .i64 0,.int .i64 0,.slice none ([]:List Ent).length 0]) (r_build bld_ouroborosref14_Frame (vs:=[]) (cells:=[.int .i64 0,.int .i64 0,.int .i64 0,.int .i64 0,.int .i64 0,.int .i64 0,.int .i64 0,.slice none ([]:List Ent).length 0]) rfl rfl) ?_
      refine o_store rfl (B55eb1.ex F147) (vs:=[.int .i64 0,.int .i64 0,.int .i64 0,.int .i64 0,.int .i64 0,.int .i64 0,.int .i64 0,.slice none ([]:List Ent).length 0]) rfl sz_ouroborosref14_Frame rfl rfl rfl ?_
      intro w163 F163 B163
      have E164:=Ext.st E156 F163 (by simp; omega)
      have B163':Blk w163 b1 _ [.int .i64 0,.int .i64 0,.int .i64 0,.int .i64 0,.int .i64 0,.int .i64 0,.int .i64 0,.slice none ([]:List Ent).length 0]:=B163
      refine o_w (v:=.int .i64 2) (r_asg rfl) ?_
      refine eo_nil_sq ?_
      refine ec_ret ?_
      refine sq_ret ?_
      subst h
      exact (endr2 (rv_a rfl (agg_ouroborosref14_Frame) B163' (vs:=[.int .i64 0,.int .i64 0,.int .i64 0,.int .i64 0,.int .i64 0,.int .i64 0,.int .i64 0,.slice none ([]:List Ent).length 0]) rfl rfl) (rv_t rfl) ⟨_,rfl,E164,_,rfl,(kFrm_mk (d:=(⟨(0:Int),(0:Int),(0:Int),[(0:Int),(0:Int),(0:Int),(0:Int)],([]:List Ent)⟩:Frm)) stb_nil rfl)⟩)
     ·replace h:=h.2 hc162
      refine ec_skip ?_
      refine sq_n ?_
      refine ec_sr ?_
      refine o_w (v:=.agg #[.int .i64 x22,.int .i64 x23,.int .i64 x24,.int .i64 (nth x10.1 0),.int .i64 (nth x10.1 1),.int .i64 (nth x10.1 2),.int .i64 (nth x10.1 3),.slice A148 sx55.2.2.2.2.2.2.2.2.2.length c149]) (r_lda agg_ouroborosref14_Frame rfl (vs:=[.int .i64 x22,.int .i64 x23,.int .i64 x24,.int .i64 (nth x10.1 0),.int .i64 (nth x10.1 1),.int .i64 (nth x10.1 2),.int .i64 (nth x10.1 3),.slice A148 sx55.2.2.2.2.2.2.2.2.2.length c149]) rfl ((B55eb21_8.ex F147).part (n:=8) rfl)) ?_
      refine o_store rfl (B55eb1.ex F147) (vs:=[.int .i64 x22,.int .i64 x23,.int .i64 x24,.int .i64 (nth x10.1 0),.int .i64 (nth x10.1 1),.int .i64 (nth x10.1 2),.int .i64 (nth x10.1 3),.slice A148 sx55.2.2.2.2.2.2.2.2.2.length c149]) rfl sz_ouroborosref14_Frame rfl rfl rfl ?_
      intro w169 F169 B169
      have E170:=Ext.st E156 F169 (by simp; omega)
      have G172:Fr (b21_8::(b14::(b1::L))) w55e w169:=(Zw55e_151.trans (Fr.ext F147)).stp F169 (upc (.inl (mT (mT mH))) (fun m hm=>by cases hm))
      have B169':Blk w169 b1 _ [.int .i64 x22,.int .i64 x23,.int .i64 x24,.int .i64 (nth x10.1 0),.int .i64 (nth x10.1 1),.int .i64 (nth x10.1 2),.int .i64 (nth x10.1 3),.slice A148 sx55.2.2.2.2.2.2.2.2.2.length c149]:=B169
      refine o_w (v:=.int .i64 0) (r_asg rfl) ?_
      refine eo_nil_sq ?_
      refine ec_ret ?_
      subst h
      exact (endr2 (rv_a rfl (agg_ouroborosref14_Frame) B169' (vs:=[.int .i64 x22,.int .i64 x23,.int .i64 x24,.int .i64 (nth x10.1 0),.int .i64 (nth x10.1 1),.int .i64 (nth x10.1 2),.int .i64 (nth x10.1 3),.slice A148 sx55.2.2.2.2.2.2.2.2.2.length c149]) rfl rfl) (rv_t rfl) ⟨_,rfl,E170,_,rfl,(kFrm_mk (d:=(⟨x22,x23,x24,x10.1,sx55.2.2.2.2.2.2.2.2.2⟩:Frm)) (H150.up G172 sI (fun m hm=>Or.inl (mT (mT (mT hm))))) (by first | rfl | exact hl11))⟩)
    ·rintro y55 rfl ρ55q ds55q w55q hJ
     have hy:=h.2 _ rfl
     subst hy
     refine blk_ret ?_
     refine sq_ret ?_
     exact hJ
end Go.Proofs.YtdfjbkoimpjkaaaGreat
