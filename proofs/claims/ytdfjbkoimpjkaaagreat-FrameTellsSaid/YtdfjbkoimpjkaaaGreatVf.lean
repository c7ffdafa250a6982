/- Frames as bytes; the references. -/
import Derived.Test.YtdfjbkoimpjkaaaGreatVe
namespace Go.Proofs.YtdfjbkoimpjkaaaGreat
open Go Go.RowKit
set_option linter.unusedVariables false
set_option linter.unusedSimpArgs false
def frame_seal_raw (d0:(List Str)) (y:Str):Prop :=
 ∃ x1,strings_Join_raw d0 ([]:Str) x1∧((x1.length≤1000000000)∧(y=(sealC x1)))
set_option maxRecDepth 20000 in
set_option maxHeartbeats 4000000 in
theorem frame_seal_c {L:List Nat} {w:World} {AP0:Option Addr} {cP0:Nat} (d0:(List Str)) (HP0:Stb L w (fun w=>SlC kS w AP0 cP0 d0)) (hL:Lt L w) {y:Str} (h:frame_seal_raw d0 y) :
  Calls Tryz.prog 27 [.slice AP0 d0.length cP0].toArray w (Ret fun v w'=>Ext w w'∧v=str y):=by
 unfold frame_seal_raw at h
 refine calls_ec Tryz.func27 rfl rfl rfl ?_
 refine ec_sr ?_
 refine o_w (v:=str []) (r_asg rfl) ?_
 refine eo_r ?_
 refine o_w (v:=.slice AP0 d0.length cP0) (r_mov rfl) ?_
 obtain ⟨x1,hx1,h⟩:=h
 refine o_call cf_strings_Join rfl (strings_Join_c d0 HP0 ([]:Str) hL hx1) rfl rfl ?_
 rintro _ w1 ⟨F1,rfl⟩
 obtain ⟨ha4,h⟩:=h
 refine o_call cf_crc_Seal rfl (crc_Seal_c x1 (hL.fr F1) (crcSeal_ev x1 ha4)) rfl rfl ?_
 rintro _ w3 ⟨F3,rfl⟩
 have E5:=F1.trans F3
 refine o_w (v:=str (sealC x1)) (r_asg rfl) ?_
 refine eo_nil_sq ?_
 refine ec_ret ?_
 subst h
 exact (end1 rfl ⟨_,rfl,E5,rfl⟩)
/-- A new literal: a block that holds these. -/
def LitB (lo : Nat) (vs : List Value) (v : Value) (w : World) : Prop := ∃ b, v = .slice (some ⟨b, 0, none⟩) vs.length vs.length ∧ lo ≤ b ∧ Blk w b 9 vs
theorem LitB.ex {lo:Nat} {vs:List Value} {v:Value} {w w':World} (f:Ext w w') (h:LitB lo vs v w):LitB lo vs v w':=by
 obtain ⟨b,rfl,h1,h2⟩:=h
 exact ⟨b,rfl,h1,h2.ex f⟩
def frame_Put_b41 (d0:Frm) (s41:List Str × Int) (z41:(List Str × Int) ⊕ (List Str × Int)):Prop :=
 ((decide (s41.2<(d0.entries.length:Int)))=true→((0≤s41.2∧s41.2<(d0.entries.length:Int))∧((sm (nth d0.entries s41.2).val)∧(∃ x77,x77=(putE (nth d0.entries s41.2))∧((s41.1.length + 1≤9223372036854775807∧(s41.1.length + 1) * 16≤140737488355328)∧(z41=.inl ((s41.1++([x77.1]:List Str)),(IntKind.i64.wrap (s41.2 + (1:Int))))))))))∧((decide (s41.2<(d0.entries.length:Int)))=false→(z41=.inr (s41.1,s41.2)))
def frame_Put_raw (d0:Frm) (y:Str × Int):Prop :=
 (sml d0.entries)∧(True∧((((checkF d0) != (0:Int))=true→(y=(([]:Str),(2:Int))))∧(((checkF d0) != (0:Int))=false→(∃ x14,x14=(putD d0.sums)∧(∃ x41,LoopR (frame_Put_b41 d0) (([(numF d0.kind (1:Int)),(numF d0.a (4:Int)),(numF d0.b (4:Int)),x14.1,(numF (d0.entries.length:Int) (1:Int))]:List Str),(0:Int)) x41∧(∃ x112,frame_seal_raw x41.1 x112∧(y=(x112,(0:Int)))))))))
set_option maxRecDepth 20000 in
set_option maxHeartbeats 4000000 in
theorem frame_Put_c {L:List Nat} {w:World} {csP0:List Value} (d0:Frm) (HP0:Stb L w (fun w=>kFrm.r w csP0 d0)) (hL:Lt L w) {y:Str × Int} (h:frame_Put_raw d0 y) :
  Calls Tryz.prog 13 [.agg csP0.toArray].toArray w (Ret fun v w'=>Ext w w'∧v=.tuple #[str y.1,.int .i64 y.2]):=by
 obtain ⟨A2,c3,rfl,H4,hl1⟩:=kFrm_open HP0
 unfold frame_Put_raw at h
 refine calls_ec Tryz.func13 rfl rfl rfl ?_
 refine ec_sr ?_
 refine o_box (cs:=(cFrm d0 A2 c3)) rfl rfl rfl ?_
 intro b5 w5 e5 F5 B5
 have S5:=B5.stb (nin hL e5)
 have G6:Fr L w w5:=Fr.ext F5
 refine o_w (v:=str []) (r_asg rfl) ?_
 refine o_w (v:=.int .i64 0) (r_asg rfl) ?_
 refine eo_nil_sq ?_
 refine ec_seq ?_
 refine ec_sr ?_
 refine o_w (v:=.agg (cFrm d0 A2 c3).toArray) (r_lda agg_frame_Frame rfl (vs:=(cFrm d0 A2 c3)) rfl (S5.now.part (n:=8) rfl)) ?_
 obtain ⟨ha8,h⟩:=h
 obtain ⟨ha9,h⟩:=h
 refine o_call cf_frame_Check rfl (frame_Check_c d0 (kFrm_mk (d:=d0) (H4.fr G6 sI) hl1) (hL.fr F5) (frCheckB_ev d0 ha8 ha9)) rfl rfl ?_
 rintro _ w7 ⟨F7,rfl⟩
 have E10:=F5.trans F7
 have G12:Fr L w5 w7:=Fr.ext F7
 refine o_w (v:=.bool ((checkF d0) != (0:Int))) (r_int rfl rfl rfl) ?_
 refine eo_nil_sq ?_
 refine ec_cond rfl (fun hc13=>?_) (fun hc13=>?_)
 ·replace h:=h.1 hc13
  refine ec_sr ?_
  refine o_w (v:=str []) (r_asg rfl) ?_
  refine o_w (v:=.int .i64 2) (r_asg rfl) ?_
  refine eo_nil_sq ?_
  refine ec_ret ?_
  refine sq_ret ?_
  subst h
  exact (end2 rfl rfl ⟨_,rfl,E10,rfl⟩)
 ·replace h:=h.2 hc13
  refine ec_skip ?_
  refine sq_n ?_
  refine ec_sr ?_
  refine o_w (v:=.pointer (some ⟨b5,3,none⟩)) (r_fa fld_frame_Frame_3 rfl rfl) ?_
  refine o_w (v:=.agg #[.int .i64 (nth d0.sums 0),.int .i64 (nth d0.sums 1),.int .i64 (nth d0.sums 2),.int .i64 (nth d0.sums 3)]) (r_lda agg_4_int rfl (vs:=[.int .i64 (nth d0.sums 0),.int .i64 (nth d0.sums 1),.int .i64 (nth d0.sums 2),.int .i64 (nth d0.sums 3)]) rfl ((S5.fr G12 sI).now.part (n:=4) rfl)) ?_
  obtain ⟨x14,hx14,h⟩:=h
  refine o_call cf_digest_Put rfl (digest_Put_c d0.sums hl1 (hL.fr E10) (eq_ev hx14 (digPut_ev d0.sums))) rfl rfl ?_
  rintro _ w14 ⟨F14,rfl⟩
  have E15:=E10.trans F14
  refine o_w (v:=.tuple #[str x14.1,.int .i64 x14.2]) (r_mov rfl) ?_
  refine o_w (v:=str x14.1) (r_ext rfl rfl) ?_
  refine o_w (v:=.int .i64 x14.2) (r_ext rfl rfl) ?_
  refine o_w (v:=str x14.1) (r_asg rfl) ?_
  refine o_w (v:=.int .i64 x14.2) (r_asg rfl) ?_
  refine eo_nil_sq ?_
  refine ec_seq ?_
  refine ec_any0 (by kernel_rfl) [[],[0],[0,1],[],[3],[0,1,2,3,4],[],[6],[0,1,2,3,4,5,6,7],[],[],[10],[10,11],[0,1,2,3,4,5,6,7,8,10,11,12],[0,1,2,3,4,5,6,7,8,9,10,11,12,13],[0,1,2,3,4,5,6,7,8,9,10,11,12,13,14]] [20,21,22,23,24,25,26,27,28,29,30,31,32,33,34,6]
     [fun v _=>v=(.pointer (some ⟨b5,0,none⟩):Value),fun v _=>v=(.int .i64 d0.kind:Value),fun v _=>v=(str (numF d0.kind (1:Int)):Value),fun v _=>v=(.pointer (some ⟨b5,1,none⟩):Value),fun v _=>v=(.int .i64 d0.a:Value),fun v _=>v=(str (numF d0.a (4:Int)):Value),fun v _=>v=(.pointer (some ⟨b5,2,none⟩):Value),fun v _=>v=(.int .i64 d0.b:Value),fun v _=>v=(str (numF d0.b (4:Int)):Value),fun v _=>v=(str x14.1:Value),fun v _=>v=(.pointer (some ⟨b5,7,none⟩):Value),fun v _=>v=(.slice A2 d0.entries.length c3:Value),fun v _=>v=(.int .i64 (d0.entries.length:Int):Value),fun v _=>v=(str (numF (d0.entries.length:Int) (1:Int)):Value),fun v w4=>LitB w14.heap.size [str (numF d0.kind (1:Int)),str (numF d0.a (4:Int)),str (numF d0.b (4:Int)),str x14.1,str (numF (d0.entries.length:Int) (1:Int))] v w4,fun v w4=>LitB w14.heap.size [str (numF d0.kind (1:Int)),str (numF d0.a (4:Int)),str (numF d0.b (4:Int)),str x14.1,str (numF (d0.entries.length:Int) (1:Int))] v w4]
     (by kernel_rfl) ⟨fun _ _ _ _ _ h=>h,fun _ _ _ _ _ h=>h,fun _ _ _ _ _ h=>h,fun _ _ _ _ _ h=>h,fun _ _ _ _ _ h=>h,fun _ _ _ _ _ h=>h,fun _ _ _ _ _ h=>h,fun _ _ _ _ _ h=>h,fun _ _ _ _ _ h=>h,fun _ _ _ _ _ h=>h,fun _ _ _ _ _ h=>h,fun _ _ _ _ _ h=>h,fun _ _ _ _ _ h=>h,fun _ _ _ _ _ h=>h,fun _ _ _ _ f h=>LitB.ex f h,fun _ _ _ _ f h=>LitB.ex f h,trivial⟩ ?_ ?_
  ·refine ⟨?_,?_,?_,?_,?_,?_,?_,?_,?_,?_,?_,?_,?_,?_,?_,?_,trivial⟩
   ·intro ρ w1 F1 hS hρ
    have q:ρ 1=.pointer (some ⟨b5,0,none⟩):=hρ 1 (by kernel_rfl)
    exact o_q (r_fa fld_frame_Frame_0 rfl q) ⟨Fr.refl _ _,rfl⟩
   ·intro ρ w1 F1 hS hρ
    have q:ρ 20=.pointer (some ⟨b5,0,none⟩):=hS 0 (by decide) 20 rfl
    exact o_q (r_ld one_int q ((S5.fr (G12.trans ((Fr.ext F14).trans (Fr.ext F1))) sI).now.cell rfl)) ⟨Fr.refl _ _,rfl⟩
   ·intro ρ w1 F1 hS hρ
    have q:ρ 21=.int .i64 d0.kind:=hS 1 (by decide) 21 rfl
    refine o_call cf_frame_number (vs:=[.int .i64 d0.kind,.int .i64 1]) (by show [ρ 21,Value.int .i64 1]=_; rw [q]) (frame_number_c d0.kind (1:Int) ((hL.fr E15).fr F1) (frNum_ev d0.kind (1:Int))) rfl rfl ?_
    rintro _ w2 ⟨F2,rfl⟩
    exact eo_nil ⟨rfl,rfl,_,rfl,F2,rfl⟩
   ·intro ρ w1 F1 hS hρ
    have q:ρ 1=.pointer (some ⟨b5,0,none⟩):=hρ 1 (by kernel_rfl)
    exact o_q (r_fa fld_frame_Frame_1 rfl q) ⟨Fr.refl _ _,rfl⟩
   ·intro ρ w1 F1 hS hρ
    have q:ρ 23=.pointer (some ⟨b5,1,none⟩):=hS 3 (by decide) 23 rfl
    exact o_q (r_ld one_int q ((S5.fr (G12.trans ((Fr.ext F14).trans (Fr.ext F1))) sI).now.cell rfl)) ⟨Fr.refl _ _,rfl⟩
   ·intro ρ w1 F1 hS hρ
    have q:ρ 24=.int .i64 d0.a:=hS 4 (by decide) 24 rfl
    refine o_call cf_frame_number (vs:=[.int .i64 d0.a,.int .i64 4]) (by show [ρ 24,Value.int .i64 4]=_; rw [q]) (frame_number_c d0.a (4:Int) ((hL.fr E15).fr F1) (frNum_ev d0.a (4:Int))) rfl rfl ?_
    rintro _ w2 ⟨F2,rfl⟩
    exact eo_nil ⟨rfl,rfl,_,rfl,F2,rfl⟩
   ·intro ρ w1 F1 hS hρ
    have q:ρ 1=.pointer (some ⟨b5,0,none⟩):=hρ 1 (by kernel_rfl)
    exact o_q (r_fa fld_frame_Frame_2 rfl q) ⟨Fr.refl _ _,rfl⟩
   ·intro ρ w1 F1 hS hρ
    have q:ρ 26=.pointer (some ⟨b5,2,none⟩):=hS 6 (by decide) 26 rfl
    exact o_q (r_ld one_int q ((S5.fr (G12.trans ((Fr.ext F14).trans (Fr.ext F1))) sI).now.cell rfl)) ⟨Fr.refl _ _,rfl⟩
   ·intro ρ w1 F1 hS hρ
    have q:ρ 27=.int .i64 d0.b:=hS 7 (by decide) 27 rfl
    refine o_call cf_frame_number (vs:=[.int .i64 d0.b,.int .i64 4]) (by show [ρ 27,Value.int .i64 4]=_; rw [q]) (frame_number_c d0.b (4:Int) ((hL.fr E15).fr F1) (frNum_ev d0.b (4:Int))) rfl rfl ?_
    rintro _ w2 ⟨F2,rfl⟩
    exact eo_nil ⟨rfl,rfl,_,rfl,F2,rfl⟩
   ·intro ρ w1 F1 hS hρ
    have q:ρ 4=str x14.1:=hρ 4 (by kernel_rfl)
    exact o_q (r_mov q) ⟨Fr.refl _ _,rfl⟩
   ·intro ρ w1 F1 hS hρ
    have q:ρ 1=.pointer (some ⟨b5,0,none⟩):=hρ 1 (by kernel_rfl)
    exact o_q (r_fa fld_frame_Frame_4 rfl q) ⟨Fr.refl _ _,rfl⟩
   ·intro ρ w1 F1 hS hρ
    have q:ρ 30=.pointer (some ⟨b5,7,none⟩):=hS 10 (by decide) 30 rfl
    exact o_q (r_ld one_s_api_Entry q ((S5.fr (G12.trans ((Fr.ext F14).trans (Fr.ext F1))) sI).now.cell rfl)) ⟨Fr.refl _ _,rfl⟩
   ·intro ρ w1 F1 hS hρ
    have q:ρ 31=.slice A2 d0.entries.length c3:=hS 11 (by decide) 31 rfl
    exact o_q (r_len_slc un_s_api_Entry q) ⟨Fr.refl _ _,rfl⟩
   ·intro ρ w1 F1 hS hρ
    have q:ρ 32=.int .i64 (d0.entries.length:Int):=hS 12 (by decide) 32 rfl
    refine o_call cf_frame_number (vs:=[.int .i64 (d0.entries.length:Int),.int .i64 1]) (by show [ρ 32,Value.int .i64 1]=_; rw [q]) (frame_number_c (d0.entries.length:Int) (1:Int) ((hL.fr E15).fr F1) (frNum_ev (d0.entries.length:Int) (1:Int))) rfl rfl ?_
    rintro _ w2 ⟨F2,rfl⟩
    exact eo_nil ⟨rfl,rfl,_,rfl,F2,rfl⟩
   ·intro ρ w1 F1 hS hρ
    have q0:ρ 22=str (numF d0.kind (1:Int)):=hS 2 (by decide) 22 rfl
    have q1:ρ 25=str (numF d0.a (4:Int)):=hS 5 (by decide) 25 rfl
    have q2:ρ 28=str (numF d0.b (4:Int)):=hS 8 (by decide) 28 rfl
    have q3:ρ 29=str x14.1:=hS 9 (by decide) 29 rfl
    have q4:ρ 33=str (numF (d0.entries.length:Int) (1:Int)):=hS 13 (by decide) 33 rfl
    refine o_bslice slc_s_string rfl (vs:=[str (numF d0.kind (1:Int)),str (numF d0.a (4:Int)),str (numF d0.b (4:Int)),str x14.1,str (numF (d0.entries.length:Int) (1:Int))]) (by show [(0,ρ 22),(1,ρ 25),(2,ρ 28),(3,ρ 29),(4,ρ 33)]=_; rw [q0,q1,q2,q3,q4]; rfl) rfl rfl (cs:=[str (numF d0.kind (1:Int)),str (numF d0.a (4:Int)),str (numF d0.b (4:Int)),str x14.1,str (numF (d0.entries.length:Int) (1:Int))]) rfl rfl rfl rfl ?_
    intro b w2 e F B
    exact eo_nil ⟨rfl,rfl,_,rfl,F,b,rfl,by rw [e]; exact F1.size,B⟩
   ·intro ρ w1 F1 hS hρ
    have q:LitB w14.heap.size [str (numF d0.kind (1:Int)),str (numF d0.a (4:Int)),str (numF d0.b (4:Int)),str x14.1,str (numF (d0.entries.length:Int) (1:Int))] (ρ 34) w1:=hS 14 (by decide) 34 rfl
    exact o_q (r_asg rfl) ⟨Fr.refl _ _,q⟩
  intro ρ4 w34 F34 hS hρ
  obtain ⟨b34,q6,e34,B34⟩:LitB w14.heap.size [str (numF d0.kind (1:Int)),str (numF d0.a (4:Int)),str (numF d0.b (4:Int)),str x14.1,str (numF (d0.entries.length:Int) (1:Int))] (ρ4 6) w34:=hS 15 6 rfl
  have q1:ρ4 1=.pointer (some ⟨b5,0,none⟩):=hρ 1 (by kernel_rfl)
  obtain ⟨ρ4',rfl⟩:∃ ρ',ρ4=envs ρ' [(6,.slice (some ⟨b34,0,none⟩) 5 5),(1,.pointer (some ⟨b5,0,none⟩))]:=⟨ρ4,envs_self ⟨q6,q1,trivial⟩⟩
  have F18:Ext w14 w14:=Fr.refl _ _
  have F22:Ext w14 w14:=Fr.refl _ _
  have F26:Ext w14 w14:=Fr.refl _ _
  have F30:Ext w14 w14:=Fr.refl _ _
  have N34:b34∉L:=fun hm=>by have:=(hL.fr E15) b34 hm; omega
  have E19:=E15.trans F18
  have E23:=E19.trans F22
  have G24:=(((G6.trans (Fr.ext F7)).trans (Fr.ext F14)).trans (Fr.ext F18)).trans (Fr.ext F22)
  have E27:=E23.trans F26
  have G29:=(((G12.trans (Fr.ext F14)).trans (Fr.ext F18)).trans (Fr.ext F22)).trans (Fr.ext F26)
  have E31:=E27.trans F30
  have S34:=B34.stb N34
  have E35:=E31.trans F34
  have lo38:w.heap.size≤w14.heap.size:=E31.size
  have O38:OwnS kS (w14.heap.size) 9 L w34 (.slice (some ⟨b34,0,none⟩) 5 5) ([(numF d0.kind (1:Int)),(numF d0.a (4:Int)),(numF d0.b (4:Int)),x14.1,(numF (d0.entries.length:Int) (1:Int))]:List Str):=bs_own (by decide) (hL.fr E31) e34 S34.now rfl rfl (rowd_cons (cs:=[str (numF d0.kind (1:Int))]) (fun _ _=>rfl) rfl (rowd_cons (cs:=[str (numF d0.a (4:Int))]) (fun _ _=>rfl) rfl (rowd_cons (cs:=[str (numF d0.b (4:Int))]) (fun _ _=>rfl) rfl (rowd_cons (cs:=[str x14.1]) (fun _ _=>rfl) rfl (rowd1 (cs:=[str (numF (d0.entries.length:Int) (1:Int))]) (fun _ _=>rfl) rfl)))))
  have P39:∀ m∈own (.slice (some ⟨b34,0,none⟩) 5 5),m∈L∨w.heap.size≤m:=fun m hm=>.inr (by have h1:m=b34:=(by simpa [own,Value.ownBlock] using hm); rw [h1]; exact Nat.le_trans (((G24.trans (Fr.ext F26)).trans (Fr.ext F30)).size) e34)
  refine sq_n ?_
  refine ec_seq ?_
  refine ec_sr ?_
  refine o_w (v:=.pointer (some ⟨b5,7,none⟩)) (r_fa fld_frame_Frame_4 rfl rfl) ?_
  refine o_w (v:=.slice A2 d0.entries.length c3) (r_ld one_s_api_Entry rfl ((S5.fr ((G29.trans (Fr.ext F30)).trans (Fr.ext F34)) sI).now.cell rfl)) ?_
  refine o_w (v:=.int .i64 (d0.entries.length:Int)) (r_len_slc un_s_api_Entry rfl) ?_
  refine o_w (v:=.int .i64 0) (r_mov rfl) ?_
  refine eo_nil_sq ?_
  refine ec_block ?_
  obtain ⟨x41,hl41,h⟩:=h
  refine ec_loopE 0 (I:=(fun (s41:List Str × Int) ρ ds w'=>∃ (ρ':Env) (v41i1:Value),ρ=envs ρ' [(6,v41i1),(38,.int .i64 s41.2),(36,.slice A2 d0.entries.length c3),(37,.int .i64 (d0.entries.length:Int))]∧ds=[]∧Fr (own (.slice (some ⟨b34,0,none⟩) 5 5)++L) w34 w'∧Ext w w'∧OwnS kS (w14.heap.size) 9 L w' v41i1 s41.1∧(∀ q∈own v41i1,q∈(own (.slice (some ⟨b34,0,none⟩) 5 5)++L)∨w34.heap.size≤q))) ?_ hl41 ?_ ?_
  ·intro s41 z41 ρ41 ds41 w41r hI41 hb41
   obtain ⟨ρ41r,v41r1,rfl,rfl,F41r,E41r,O41r1,N41r1⟩:=hI41
   have h:=hb41
   unfold frame_Put_b41 at h
   have G42:Fr L w w41r:=(((G24.trans (Fr.ext F26)).trans (Fr.ext F30)).trans (Fr.ext F34)).stp F41r (upo P39 (fun _ h=>.inl h))
   have P44:∀ m∈own v41r1,m∈L∨w.heap.size≤m:=fun m hm=>(N41r1 m hm).elim (fun h=>(show ∀ m∈(own (.slice (some ⟨b34,0,none⟩) 5 5)++L),m∈L∨w.heap.size≤m from (upo P39 (fun _ h=>.inl h))) m h) (fun h=>.inr (Nat.le_trans ((((G24.trans (Fr.ext F26)).trans (Fr.ext F30)).trans (Fr.ext F34)).size) h))
   refine ec_sr ?_
   refine o_w (v:=.bool (decide (s41.2<(d0.entries.length:Int)))) (r_int rfl rfl rfl) ?_
   refine eo_nil_sq ?_
   refine ec_seq ?_
   refine ec_cond rfl (fun hc46=>?_) (fun hc46=>?_)
   ·replace h:=h.1 hc46
    refine ec_skip ?_
    refine sq_n ?_
    refine ec_seq ?_
    refine ec_block ?_
    refine ec_sr ?_
    obtain ⟨ha47,h⟩:=h
    obtain ⟨cs48,l50,H49⟩:=Stb.elem (by decide) (H4.up G42 sI (upo P44 (fun _ h=>.inl h))) s41.2 ha47.1 ha47.2
    obtain ⟨A52,c53,A55,c56,rfl,H51,H54,H57⟩:=kEnt_open2 H49
    refine o_w (v:=.pointer (some (elemA A2 kEnt.n s41.2.toNat))) (r_ia slc_s_api_Entry rfl rfl ((H4.fr G42 sI).now.2 _ (lt_toNat ha47.1 ha47.2)).1 ha47.1 ha47.2) ?_
    refine o_w (v:=.agg (cEnt (nth d0.entries s41.2) A52 c53 A55 c56).toArray) (r_lda' agg_api_Entry rfl (elemA_spot _ _ _) (vs:=(cEnt (nth d0.entries s41.2) A52 c53 A55 c56)) rfl (H51.now.1)) ?_
    refine o_alloc zero_api_Entry rfl rfl rfl ?_
    intro b58 w58 e58 F58 B58
    have n58:w.heap.size≤b58:=by rw [e58]; exact E41r.size
    have m61:w34.heap.size≤b58:=by rw [e58]; exact F41r.size
    have m62:w41r.heap.size≤b58:=Nat.le_of_eq e58.symm
    have Ob63:=O41r1.born F58 (Nat.le_of_eq e58.symm) B58.lt
    have E64:=E41r.trans F58
    have G68:Fr (own v41r1++L) w41r w58:=Fr.ext F58
    refine o_store rfl B58 (vs:=(cEnt (nth d0.entries s41.2) A52 c53 A55 c56)) rfl sz_api_Entry rfl rfl rfl ?_
    intro w70 F70 B70
    have E71:=Ext.st E64 F70 (by simp; omega)
    have G74:Fr (own (.slice (some ⟨b34,0,none⟩) 5 5)++L) w34 w70:=(F41r.trans (Fr.ext F58)).stp F70 (upc (.inr m61) (fun m hm=>by cases hm))
    have G75:Fr (own v41r1++L) w41r w70:=G68.stp F70 (upc (.inr m62) (fun m hm=>by cases hm))
    have O76:=Ob63.fr F70 (by simp)
    have B70':Blk w70 b58 _ (cEnt (nth d0.entries s41.2) A52 c53 A55 c56):=B70
    refine eo_r ?_
    refine o_w (v:=.agg (cEnt (nth d0.entries s41.2) A52 c53 A55 c56).toArray) (r_lda agg_api_Entry rfl (vs:=(cEnt (nth d0.entries s41.2) A52 c53 A55 c56)) rfl (B70'.part (n:=9) rfl)) ?_
    obtain ⟨ha78,h⟩:=h
    obtain ⟨x77,hx77,h⟩:=h
    refine o_call cf_entry_Put rfl (entry_Put_c (nth d0.entries s41.2) (kEnt_mk (d:=(nth d0.entries s41.2)) (H54.up G75 sI (upc (.inr m62) (upo (fun m hm=>Or.inl (List.mem_append_left _ hm)) (fun m hm=>Or.inl (List.mem_append_right _ hm))))) (H57.up G75 sI (upc (.inr m62) (upo (fun m hm=>Or.inl (List.mem_append_left _ hm)) (fun m hm=>Or.inl (List.mem_append_right _ hm)))))) (((hL.fr E71).own O76).cons B70'.lt) (eq_ev hx77 (entPut_ev (nth d0.entries s41.2) ha78))) rfl rfl ?_
    rintro _ w77 ⟨F77,rfl⟩
    have E79:=E71.trans F77
    refine o_w (v:=.tuple #[str x77.1,.int .i64 x77.2]) (r_mov rfl) ?_
    refine o_w (v:=str x77.1) (r_ext rfl rfl) ?_
    refine o_w (v:=.int .i64 x77.2) (r_ext rfl rfl) ?_
    refine o_w (v:=str x77.1) (r_asg rfl) ?_
    refine o_w (v:=.int .i64 x77.2) (r_asg rfl) ?_
    refine eo_q ?_
    refine o_w (v:=v41r1) (r_mov rfl) ?_
    refine o_w (v:=str x77.1) (r_mov rfl) ?_
    refine o_bslice slc_s_string rfl (vs:=[str x77.1]) rfl rfl rfl (cs:=[str x77.1]) rfl rfl rfl rfl ?_
    intro b86 w86 e86 F86 B86
    have N86:=nin (((hL.fr E79).own (O76.ex F77)).cons (B70'.ex F77).lt) e86
    have S86:=B86.stb N86
    have E87:=E79.trans F86
    obtain ⟨ha95,h⟩:=h
    refine o_app slc_s_string rfl rfl rfl ((O76.ex F77).ex F86) rfl S86.now (ys:=([x77.1]:List Str)) rfl rfl rfl (rowd1 (cs:=[str x77.1]) (fun _ _=>rfl) rfl) ha95 rfl rfl ?_
    intro v94 w94 F94 O94 N94
    have P98:∀ m∈own v94,m∈(own (.slice (some ⟨b34,0,none⟩) 5 5)++L)∨w34.heap.size≤m:=fun m hm=>(N94 m hm).elim (fun h=>(show ∀ m∈own v41r1,m∈(own (.slice (some ⟨b34,0,none⟩) 5 5)++L)∨w34.heap.size≤m from N41r1) m h) (fun h=>.inr (Nat.le_trans (((G74.trans (Fr.ext F77)).trans (Fr.ext F86)).size) h))
    have E101:=Ext.st E87 F94 (fun m hm=>Nat.le_trans lo38 (((O76.ex F77).ex F86).lo m hm))
    have G104:Fr (own (.slice (some ⟨b34,0,none⟩) 5 5)++L) w34 w94:=((G74.trans (Fr.ext F77)).trans (Fr.ext F86)).stp F94 N41r1
    refine o_w (v:=v94) (r_asg rfl) ?_
    refine eo_nil ?_
    refine blk_n ?_
    refine sq_n ?_
    refine ec_region ?_
    refine o_w (v:=.int .i64 (IntKind.i64.wrap (s41.2 + (1:Int)))) (r_int rfl rfl rfl) ?_
    refine o_w (v:=.int .i64 (IntKind.i64.wrap (s41.2 + (1:Int)))) (r_mov rfl) ?_
    refine eo_nil ?_
    subst h
    exact lq_n ⟨_,v94,envs_self ⟨rfl,rfl,rfl,rfl,trivial⟩,rfl,G104,E101,(O94.weak (fun m hm=>by simp at hm ⊢; first | exact hm | exact .inr hm | simp [hm] | (rcases hm with h | h <;> simp [h]) | simp_all)),P98⟩
   ·replace h:=h.2 hc46
    refine ec_exit ?_
    refine sq_exit ?_
    subst h
    exact lq_x ⟨_,v41r1,envs_self ⟨rfl,rfl,rfl,rfl,trivial⟩,rfl,F41r,E41r,O41r1,N41r1⟩
  ·exact ⟨_,(.slice (some ⟨b34,0,none⟩) 5 5),envs_self ⟨rfl,rfl,rfl,rfl,trivial⟩,rfl,(Fr.refl _ _),E35,O38,(fun q hq=>.inl (by first | exact List.mem_append_left _ hq | simp [hq]))⟩
  ·rintro ρ41e ds41e w41e ⟨ρ41e,v41e1,rfl,rfl,F41e,E41e,O41e1,N41e1⟩
   refine blk_hit ?_
   refine sq_n ?_
   refine ec_sr ?_
   refine o_w (v:=v41e1) (r_mov rfl) ?_
   obtain ⟨A113,c114,eA113,H115⟩:=O41e1.still
   subst eA113
   have Zw41e_116:=Fr.refl L w41e
   obtain ⟨x112,hx112,h⟩:=h
   refine o_call cf_frame_seal rfl (frame_seal_c x41.1 (H115.fr Zw41e_116 sI) (hL.fr E41e) hx112) rfl rfl ?_
   rintro _ w112 ⟨F112,rfl⟩
   have E118:=E41e.trans F112
   refine o_w (v:=str x112) (r_asg rfl) ?_
   refine o_w (v:=.int .i64 0) (r_asg rfl) ?_
   refine eo_nil_sq ?_
   refine ec_ret ?_
   subst h
   exact (end2 rfl rfl ⟨_,rfl,E118,rfl⟩)
def ref14_Put_b64 (d0:Frm) (s64:Str × Int) (z64:(Str × Int) ⊕ (Str × Int)):Prop :=
 ((decide (s64.2<(d0.entries.length:Int)))=true→((0≤s64.2∧s64.2<(d0.entries.length:Int))∧((sm (nth d0.entries s64.2).val)∧((WfV (nth d0.entries s64.2).val)∧(∃ x79,x79=(putE (nth d0.entries s64.2))∧(s64.1.length + x79.1.length≤9223372036854775807∧(z64=.inl ((s64.1++x79.1),(IntKind.i64.wrap (s64.2 + (1:Int)))))))))))∧((decide (s64.2<(d0.entries.length:Int)))=false→(z64=.inr (s64.1,s64.2)))
def ref14_Put_raw (d0:Frm) (y:Str × Int):Prop :=
 (sml d0.entries)∧((d0.entries.length≤1000000)∧((maxS d0.sums)∧(((!(okFr d0))=true→(y=(([]:Str),(2:Int))))∧((!(okFr d0))=false→((maxS d0.sums)∧(∃ x15,x15=(putD d0.sums)∧(d0.kind≤9223372036854775807∧(d0.a≤9223372036854775807∧((numF d0.kind (1:Int)).length + (numF d0.a (4:Int)).length≤9223372036854775807∧(d0.b≤9223372036854775807∧(((numF d0.kind (1:Int))++(numF d0.a (4:Int))).length + (numF d0.b (4:Int)).length≤9223372036854775807∧((((numF d0.kind (1:Int))++(numF d0.a (4:Int)))++(numF d0.b (4:Int))).length + x15.1.length≤9223372036854775807∧((d0.entries.length:Int)≤9223372036854775807∧(((((numF d0.kind (1:Int))++(numF d0.a (4:Int)))++(numF d0.b (4:Int)))++x15.1).length + (numF (d0.entries.length:Int) (1:Int)).length≤9223372036854775807∧(∃ x64,LoopR (ref14_Put_b64 d0) ((((((numF d0.kind (1:Int))++(numF d0.a (4:Int)))++(numF d0.b (4:Int)))++x15.1)++(numF (d0.entries.length:Int) (1:Int))),(0:Int)) x64∧((x64.1.length≤1000000000)∧(y=((sealC x64.1),(0:Int)))))))))))))))))))
set_option maxRecDepth 20000 in
set_option maxHeartbeats 4000000 in
theorem ref14_Put_c {L:List Nat} {w:World} {csP0:List Value} (d0:Frm) (HP0:Stb L w (fun w=>kFrm.r w csP0 d0)) (hL:Lt L w) {y:Str × Int} (h:ref14_Put_raw d0 y) :
  Calls Tryz.prog 14 [.agg csP0.toArray].toArray w (Ret fun v w'=>Ext w w'∧v=.tuple #[str y.1,.int .i64 y.2]):=by
 obtain ⟨A2,c3,rfl,H4,hl1⟩:=kFrm_open HP0
 unfold ref14_Put_raw at h
 refine calls_ec Tryz.func14 rfl rfl rfl ?_
 refine ec_sr ?_
 refine o_box (cs:=(cFrm d0 A2 c3)) rfl rfl rfl ?_
 intro b5 w5 e5 F5 B5
 have S5:=B5.stb (nin hL e5)
 have G6:Fr L w w5:=Fr.ext F5
 refine o_w (v:=str []) (r_asg rfl) ?_
 refine o_w (v:=.int .i64 0) (r_asg rfl) ?_
 refine eo_nil_sq ?_
 refine ec_seq ?_
 refine ec_sr ?_
 refine o_w (v:=.agg (cFrm d0 A2 c3).toArray) (r_lda agg_ouroborosref14_Frame rfl (vs:=(cFrm d0 A2 c3)) rfl (S5.now.part (n:=8) rfl)) ?_
 obtain ⟨ha8,h⟩:=h
 obtain ⟨ha9,h⟩:=h
 obtain ⟨ha10,h⟩:=h
 refine o_call cf_ref14_Check rfl (ref14_Check_c d0 (kFrm_mk (d:=d0) (H4.fr G6 sI) hl1) (hL.fr F5) (refCheckF_ev d0 ha8 ha9 ha10)) rfl rfl ?_
 rintro _ w7 ⟨F7,rfl⟩
 have E11:=F5.trans F7
 have G13:Fr L w5 w7:=Fr.ext F7
 refine o_w (v:=.bool (!(okFr d0))) (r_not rfl) ?_
 refine eo_nil_sq ?_
 refine ec_cond rfl (fun hc14=>?_) (fun hc14=>?_)
 ·replace h:=h.1 hc14
  refine ec_sr ?_
  refine o_w (v:=str []) (r_asg rfl) ?_
  refine o_w (v:=.int .i64 2) (r_asg rfl) ?_
  refine eo_nil_sq ?_
  refine ec_ret ?_
  refine sq_ret ?_
  subst h
  exact (end2 rfl rfl ⟨_,rfl,E11,rfl⟩)
 ·replace h:=h.2 hc14
  refine ec_skip ?_
  refine sq_n ?_
  refine ec_sr ?_
  refine o_w (v:=.pointer (some ⟨b5,3,none⟩)) (r_fa fld_ouroborosref14_Frame_3 rfl rfl) ?_
  refine o_w (v:=.agg #[.int .i64 (nth d0.sums 0),.int .i64 (nth d0.sums 1),.int .i64 (nth d0.sums 2),.int .i64 (nth d0.sums 3)]) (r_lda agg_4_int rfl (vs:=[.int .i64 (nth d0.sums 0),.int .i64 (nth d0.sums 1),.int .i64 (nth d0.sums 2),.int .i64 (nth d0.sums 3)]) rfl ((S5.fr G13 sI).now.part (n:=4) rfl)) ?_
  obtain ⟨ha16,h⟩:=h
  obtain ⟨x15,hx15,h⟩:=h
  refine o_call cf_ref10_Put rfl (ref10_Put_c d0.sums hl1 (hL.fr E11) (eq_ev hx15 (refPutD_ev d0.sums ha16))) rfl rfl ?_
  rintro _ w15 ⟨F15,rfl⟩
  have E17:=E11.trans F15
  refine o_w (v:=.tuple #[str x15.1,.int .i64 x15.2]) (r_mov rfl) ?_
  refine o_w (v:=str x15.1) (r_ext rfl rfl) ?_
  refine o_w (v:=.int .i64 x15.2) (r_ext rfl rfl) ?_
  refine o_w (v:=str x15.1) (r_asg rfl) ?_
  refine o_w (v:=.int .i64 x15.2) (r_asg rfl) ?_
  refine eo_nil_sq ?_
  refine ec_seq ?_
  obtain ⟨ha26,h⟩:=h
  obtain ⟨ha28,h⟩:=h
  obtain ⟨ha29,h⟩:=h
  obtain ⟨ha31,h⟩:=h
  obtain ⟨ha32,h⟩:=h
  obtain ⟨ha33,h⟩:=h
  obtain ⟨ha35,h⟩:=h
  obtain ⟨ha36,h⟩:=h
  refine ec_any0 (by kernel_rfl) [[],[0],[0,1],[],[3],[0,1,2,3,4],[0,1,2,3,4,5],[],[7],[0,1,2,3,4,5,7,8],[0,1,2,3,4,5,6,7,8,9],[],[0,1,2,3,4,5,6,7,8,9,10,11],[],[13],[13,14],[0,1,2,3,4,5,7,8,9,13,14,15],[0,1,2,3,4,5,6,7,8,9,10,11,12,13,14,15,16],[0,1,2,3,4,5,6,7,8,9,10,11,12,13,14,15,16,17]] [6,19,20,21,22,23,24,25,26,27,28,29,30,31,32,33,34,35,36] [fun v _=>v=(.pointer (some ⟨b5,0,none⟩):Value),fun v _=>v=(.int .i64 d0.kind:Value),fun v _=>v=(str (numF d0.kind (1:Int)):Value),fun v _=>v=(.pointer (some ⟨b5,1,none⟩):Value),fun v _=>v=(.int .i64 d0.a:Value),fun v _=>v=(str (numF d0.a (4:Int)):Value),fun v _=>v=(str ((numF d0.kind (1:Int))++(numF d0.a (4:Int))):Value),fun v _=>v=(.pointer (some ⟨b5,2,none⟩):Value),fun v _=>v=(.int .i64 d0.b:Value),fun v _=>v=(str (numF d0.b (4:Int)):Value),fun v _=>v=(str (((numF d0.kind (1:Int))++(numF d0.a (4:Int)))++(numF d0.b (4:Int))):Value),fun v _=>v=(str x15.1:Value),fun v _=>v=(str ((((numF d0.kind (1:Int))++(numF d0.a (4:Int)))++(numF d0.b (4:Int)))++x15.1):Value),fun v _=>v=(.pointer (some ⟨b5,7,none⟩):Value),fun v _=>v=(.slice A2 d0.entries.length c3:Value),fun v _=>v=(.int .i64 (d0.entries.length:Int):Value),fun v _=>v=(str (numF (d0.entries.length:Int) (1:Int)):Value),fun v _=>v=(str (((((numF d0.kind (1:Int))++(numF d0.a (4:Int)))++(numF d0.b (4:Int)))++x15.1)++(numF (d0.entries.length:Int) (1:Int))):Value),fun v _=>v=(str (((((numF d0.kind (1:Int))++(numF d0.a (4:Int)))++(numF d0.b (4:Int)))++x15.1)++(numF (d0.entries.length:Int) (1:Int))):Value)] (by kernel_rfl) ⟨fun _ _ _ _ _ h=>h,fun _ _ _ _ _ h=>h,fun _ _ _ _ _ h=>h,fun _ _ _ _ _ h=>h,fun _ _ _ _ _ h=>h,fun _ _ _ _ _ h=>h,fun _ _ _ _ _ h=>h,fun _ _ _ _ _ h=>h,fun _ _ _ _ _ h=>h,fun _ _ _ _ _ h=>h,fun _ _ _ _ _ h=>h,fun _ _ _ _ _ h=>h,fun _ _ _ _ _ h=>h,fun _ _ _ _ _ h=>h,fun _ _ _ _ _ h=>h,fun _ _ _ _ _ h=>h,fun _ _ _ _ _ h=>h,fun _ _ _ _ _ h=>h,fun _ _ _ _ _ h=>h,trivial⟩ ?_ ?_
  ·refine ⟨?_,?_,?_,?_,?_,?_,?_,?_,?_,?_,?_,?_,?_,?_,?_,?_,?_,?_,?_,trivial⟩
   ·intro ρ w24o F24o hS hρ
    have q1:ρ 1=.pointer (some ⟨b5,0,none⟩):=hρ 1 (by kernel_rfl)
    exact o_q (r_fa fld_ouroborosref14_Frame_0 rfl q1) ⟨Fr.refl _ _,rfl⟩
   ·intro ρ w24o F24o hS hρ
    have q19:ρ 19=.pointer (some ⟨b5,0,none⟩):=hS 0 (by decide) 19 rfl
    exact o_q (r_ld one_int q19 ((S5.fr ((G13.trans (Fr.ext F15)).trans (Fr.ext F24o)) sI).now.cell rfl)) ⟨Fr.refl _ _,rfl⟩
   ·intro ρ w24o F24o hS hρ
    have E40:=E17.trans F24o
    have q20:ρ 20=.int .i64 d0.kind:=hS 1 (by decide) 20 rfl
    refine o_call cf_ref14_num (by simp only [List.map,ev,q20] <;> rfl) (ref14_num_c d0.kind (1:Int) (hL.fr E40) (refNum_ev d0.kind (1:Int) ha26)) rfl rfl ?_
    rintro _ w' ⟨F,rfl⟩
    exact eo_nil ⟨rfl,rfl,_,rfl,F,rfl⟩
   ·intro ρ w24o F24o hS hρ
    have q1:ρ 1=.pointer (some ⟨b5,0,none⟩):=hρ 1 (by kernel_rfl)
    exact o_q (r_fa fld_ouroborosref14_Frame_1 rfl q1) ⟨Fr.refl _ _,rfl⟩
   ·intro ρ w24o F24o hS hρ
    have q22:ρ 22=.pointer (some ⟨b5,1,none⟩):=hS 3 (by decide) 22 rfl
    exact o_q (r_ld one_int q22 ((S5.fr ((G13.trans (Fr.ext F15)).trans (Fr.ext F24o)) sI).now.cell rfl)) ⟨Fr.refl _ _,rfl⟩
   ·intro ρ w24o F24o hS hρ
    have E46:=E17.trans F24o
    have q23:ρ 23=.int .i64 d0.a:=hS 4 (by decide) 23 rfl
    refine o_call cf_ref14_num (by simp only [List.map,ev,q23] <;> rfl) (ref14_num_c d0.a (4:Int) (hL.fr E46) (refNum_ev d0.a (4:Int) ha28)) rfl rfl ?_
    rintro _ w' ⟨F,rfl⟩
    exact eo_nil ⟨rfl,rfl,_,rfl,F,rfl⟩
   ·intro ρ w24o F24o hS hρ
    have q21:ρ 21=str (numF d0.kind (1:Int)):=hS 2 (by decide) 21 rfl
    have q24:ρ 24=str (numF d0.a (4:Int)):=hS 5 (by decide) 24 rfl
    exact o_q (r_cat q21 q24 ha29) ⟨Fr.refl _ _,rfl⟩
   ·intro ρ w24o F24o hS hρ
    have q1:ρ 1=.pointer (some ⟨b5,0,none⟩):=hρ 1 (by kernel_rfl)
    exact o_q (r_fa fld_ouroborosref14_Frame_2 rfl q1) ⟨Fr.refl _ _,rfl⟩
   ·intro ρ w24o F24o hS hρ
    have q26:ρ 26=.pointer (some ⟨b5,2,none⟩):=hS 7 (by decide) 26 rfl
    exact o_q (r_ld one_int q26 ((S5.fr ((G13.trans (Fr.ext F15)).trans (Fr.ext F24o)) sI).now.cell rfl)) ⟨Fr.refl _ _,rfl⟩
   ·intro ρ w24o F24o hS hρ
    have E52:=E17.trans F24o
    have q27:ρ 27=.int .i64 d0.b:=hS 8 (by decide) 27 rfl
    refine o_call cf_ref14_num (by simp only [List.map,ev,q27] <;> rfl) (ref14_num_c d0.b (4:Int) (hL.fr E52) (refNum_ev d0.b (4:Int) ha31)) rfl rfl ?_
    rintro _ w' ⟨F,rfl⟩
    exact eo_nil ⟨rfl,rfl,_,rfl,F,rfl⟩
   ·intro ρ w24o F24o hS hρ
    have q25:ρ 25=str ((numF d0.kind (1:Int))++(numF d0.a (4:Int))):=hS 6 (by decide) 25 rfl
    have q28:ρ 28=str (numF d0.b (4:Int)):=hS 9 (by decide) 28 rfl
    exact o_q (r_cat q25 q28 ha32) ⟨Fr.refl _ _,rfl⟩
   ·intro ρ w24o F24o hS hρ
    have q4:ρ 4=str x15.1:=hρ 4 (by kernel_rfl)
    exact o_q (r_mov q4) ⟨Fr.refl _ _,rfl⟩
   ·intro ρ w24o F24o hS hρ
    have q29:ρ 29=str (((numF d0.kind (1:Int))++(numF d0.a (4:Int)))++(numF d0.b (4:Int))):=hS 10 (by decide) 29 rfl
    have q30:ρ 30=str x15.1:=hS 11 (by decide) 30 rfl
    exact o_q (r_cat q29 q30 ha33) ⟨Fr.refl _ _,rfl⟩
   ·intro ρ w24o F24o hS hρ
    have q1:ρ 1=.pointer (some ⟨b5,0,none⟩):=hρ 1 (by kernel_rfl)
    exact o_q (r_fa fld_ouroborosref14_Frame_4 rfl q1) ⟨Fr.refl _ _,rfl⟩
   ·intro ρ w24o F24o hS hρ
    have q32:ρ 32=.pointer (some ⟨b5,7,none⟩):=hS 13 (by decide) 32 rfl
    exact o_q (r_ld one_s_api_Entry q32 ((S5.fr ((G13.trans (Fr.ext F15)).trans (Fr.ext F24o)) sI).now.cell rfl)) ⟨Fr.refl _ _,rfl⟩
   ·intro ρ w24o F24o hS hρ
    have q33:ρ 33=.slice A2 d0.entries.length c3:=hS 14 (by decide) 33 rfl
    exact o_q (r_len_slc un_s_api_Entry q33) ⟨Fr.refl _ _,rfl⟩
   ·intro ρ w24o F24o hS hρ
    have E58:=E17.trans F24o
    have q34:ρ 34=.int .i64 (d0.entries.length:Int):=hS 15 (by decide) 34 rfl
    refine o_call cf_ref14_num (by simp only [List.map,ev,q34] <;> rfl) (ref14_num_c (d0.entries.length:Int) (1:Int) (hL.fr E58) (refNum_ev (d0.entries.length:Int) (1:Int) ha35)) rfl rfl ?_
    rintro _ w' ⟨F,rfl⟩
    exact eo_nil ⟨rfl,rfl,_,rfl,F,rfl⟩
   ·intro ρ w24o F24o hS hρ
    have q31:ρ 31=str ((((numF d0.kind (1:Int))++(numF d0.a (4:Int)))++(numF d0.b (4:Int)))++x15.1):=hS 12 (by decide) 31 rfl
    have q35:ρ 35=str (numF (d0.entries.length:Int) (1:Int)):=hS 16 (by decide) 35 rfl
    exact o_q (r_cat q31 q35 ha36) ⟨Fr.refl _ _,rfl⟩
   ·intro ρ w24o F24o hS hρ
    have q36:ρ 36=str (((((numF d0.kind (1:Int))++(numF d0.a (4:Int)))++(numF d0.b (4:Int)))++x15.1)++(numF (d0.entries.length:Int) (1:Int))):=hS 17 (by decide) 36 rfl
    exact o_q (r_asg q36) ⟨Fr.refl _ _,rfl⟩
  ·intro ρ w24 F24 hS hρ
   have q6:ρ 6=str (((((numF d0.kind (1:Int))++(numF d0.a (4:Int)))++(numF d0.b (4:Int)))++x15.1)++(numF (d0.entries.length:Int) (1:Int))):=hS 18 6 rfl
   obtain ⟨ρ',rfl⟩:∃ ρ',ρ=envs (ovr [6,19,20,21,22,23,24,25,26,27,28,29,30,31,32,33,34,35,36] ρ' _) [(6,str (((((numF d0.kind (1:Int))++(numF d0.a (4:Int)))++(numF d0.b (4:Int)))++x15.1)++(numF (d0.entries.length:Int) (1:Int))))]:=⟨ρ,ovr_self hρ ⟨q6,trivial⟩⟩
   have E61:=E17.trans F24
   refine sq_n ?_
   refine ec_seq ?_
   refine ec_sr ?_
   refine o_w (v:=.int .i64 0) (r_asg rfl) ?_
   refine eo_nil_sq ?_
   refine ec_block ?_
   obtain ⟨x64,hl64,h⟩:=h
   refine ec_loopE 0 (I:=(fun (s64:Str × Int) ρ ds w'=>∃ (ρ':Env),ρ=envs ρ' [(6,str s64.1),(7,.int .i64 s64.2),(1,.pointer (some ⟨b5,0,none⟩))]∧ds=[]∧Fr L w24 w'∧Ext w w')) ?_ hl64 ?_ ?_
   ·intro s64 z64 ρ64 ds64 w64r hI64 hb64
    obtain ⟨ρ64r,rfl,rfl,F64r,E64r⟩:=hI64
    have h:=hb64
    unfold ref14_Put_b64 at h
    have G65:Fr L w w64r:=(((G6.trans (Fr.ext F7)).trans (Fr.ext F15)).trans (Fr.ext F24)).stp F64r (fun _ h=>.inl h)
    have G66:Fr L w5 w64r:=((G13.trans (Fr.ext F15)).trans (Fr.ext F24)).stp F64r (fun _ h=>.inl h)
    refine ec_seq ?_
    refine ec_sr ?_
    refine o_w (v:=.int .i64 s64.2) (r_mov rfl) ?_
    refine o_w (v:=.pointer (some ⟨b5,7,none⟩)) (r_fa fld_ouroborosref14_Frame_4 rfl rfl) ?_
    refine o_w (v:=.slice A2 d0.entries.length c3) (r_ld one_s_api_Entry rfl ((S5.fr G66 sI).now.cell rfl)) ?_
    refine o_w (v:=.int .i64 (d0.entries.length:Int)) (r_len_slc un_s_api_Entry rfl) ?_
    refine o_w (v:=.bool (decide (s64.2<(d0.entries.length:Int)))) (r_int rfl rfl rfl) ?_
    refine eo_nil_sq ?_
    refine ec_cond rfl (fun hc67=>?_) (fun hc67=>?_)
    ·replace h:=h.1 hc67
     refine ec_skip ?_
     refine sq_n ?_
     refine ec_seq ?_
     refine ec_block ?_
     refine ec_sr ?_
     refine o_w (v:=.pointer (some ⟨b5,7,none⟩)) (r_fa fld_ouroborosref14_Frame_4 rfl rfl) ?_
     refine o_w (v:=.slice A2 d0.entries.length c3) (r_ld one_s_api_Entry rfl ((S5.fr G66 sI).now.cell rfl)) ?_
     refine o_w (v:=.int .i64 s64.2) (r_mov rfl) ?_
     obtain ⟨ha68,h⟩:=h
     obtain ⟨cs69,l71,H70⟩:=Stb.elem (by decide) (H4.fr G65 sI) s64.2 ha68.1 ha68.2
     obtain ⟨A73,c74,A76,c77,rfl,H72,H75,H78⟩:=kEnt_open2 H70
     refine o_w (v:=.pointer (some (elemA A2 kEnt.n s64.2.toNat))) (r_ia slc_s_api_Entry rfl rfl ((H4.fr G65 sI).now.2 _ (lt_toNat ha68.1 ha68.2)).1 ha68.1 ha68.2) ?_
     refine o_w (v:=.agg (cEnt (nth d0.entries s64.2) A73 c74 A76 c77).toArray) (r_lda' agg_api_Entry rfl (elemA_spot _ _ _) (vs:=(cEnt (nth d0.entries s64.2) A73 c74 A76 c77)) rfl (H72.now.1)) ?_
     obtain ⟨ha80,h⟩:=h
     obtain ⟨ha81,h⟩:=h
     obtain ⟨x79,hx79,h⟩:=h
     refine o_call cf_ref07_Put rfl (ref07_Put_c (nth d0.entries s64.2) (kEnt_mk (d:=(nth d0.entries s64.2)) H75 H78) (hL.fr E64r) (eq_ev hx79 (refPutE_ev (nth d0.entries s64.2) ha80 ha81))) rfl rfl ?_
     rintro _ w79 ⟨F79,rfl⟩
     have E82:=E64r.trans F79
     refine o_w (v:=.tuple #[str x79.1,.int .i64 x79.2]) (r_mov rfl) ?_
     refine o_w (v:=str x79.1) (r_ext rfl rfl) ?_
     refine o_w (v:=.int .i64 x79.2) (r_ext rfl rfl) ?_
     refine o_w (v:=str x79.1) (r_asg rfl) ?_
     refine o_w (v:=.int .i64 x79.2) (r_asg rfl) ?_
     refine eo_q ?_
     refine o_w (v:=str s64.1) (r_mov rfl) ?_
     refine o_w (v:=str x79.1) (r_mov rfl) ?_
     obtain ⟨ha87,h⟩:=h
     refine o_w (v:=str (s64.1++x79.1)) (r_cat rfl rfl ha87) ?_
     refine o_w (v:=str (s64.1++x79.1)) (r_asg rfl) ?_
     refine eo_nil ?_
     refine blk_n ?_
     refine sq_n ?_
     refine ec_region ?_
     refine o_w (v:=.int .i64 s64.2) (r_mov rfl) ?_
     refine o_w (v:=.int .i64 (IntKind.i64.wrap (s64.2 + (1:Int)))) (r_int rfl rfl rfl) ?_
     refine o_w (v:=.int .i64 (IntKind.i64.wrap (s64.2 + (1:Int)))) (r_asg rfl) ?_
     refine eo_nil ?_
     subst h
     exact lq_n ⟨_,envs_self ⟨rfl,rfl,rfl,trivial⟩,rfl,(F64r.trans (Fr.ext F79)),E82⟩
    ·replace h:=h.2 hc67
     refine ec_exit ?_
     refine sq_exit ?_
     subst h
     exact lq_x ⟨_,envs_self ⟨rfl,rfl,rfl,trivial⟩,rfl,F64r,E64r⟩
   ·exact ⟨_,envs_self ⟨rfl,rfl,rfl,trivial⟩,rfl,(Fr.refl _ _),E61⟩
   ·rintro ρ64e ds64e w64e ⟨ρ64e,rfl,rfl,F64e,E64e⟩
    refine blk_hit ?_
    refine sq_n ?_
    refine ec_sr ?_
    refine o_w (v:=str x64.1) (r_mov rfl) ?_
    obtain ⟨ha91,h⟩:=h
    refine o_call cf_ref02_Seal rfl (ref02_Seal_c x64.1 (hL.fr E64e) (refSeal_ev x64.1 ha91)) rfl rfl ?_
    rintro _ w90 ⟨F90,rfl⟩
    have E92:=E64e.trans F90
    refine o_w (v:=str (sealC x64.1)) (r_asg rfl) ?_
    refine o_w (v:=.int .i64 0) (r_asg rfl) ?_
    refine eo_nil_sq ?_
    refine ec_ret ?_
    subst h
    exact (end2 rfl rfl ⟨_,rfl,E92,rfl⟩)
end Go.Proofs.YtdfjbkoimpjkaaaGreat
