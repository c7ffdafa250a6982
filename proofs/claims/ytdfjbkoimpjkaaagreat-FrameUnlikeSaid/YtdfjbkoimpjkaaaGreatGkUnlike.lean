/- The law FrameUnlike: what it comes to. -/
import Derived.Test.YtdfjbkoimpjkaaaGreatVn
namespace Go.Proofs.YtdfjbkoimpjkaaaGreat
open Go Go.RowKit
set_option linter.unusedVariables false
set_option linter.unusedSimpArgs false
def law14_FrameUnlike_raw (d0:Frm) (d1:Frm) (y:Bool):Prop :=
 ((!(worksV))=true→(y=false))∧((!(worksV))=false→((((12:Int):Int)≤100)∧(((entriesB d0.entries (12:Int))=true→((12:Int):Int)≤100)∧(((!((entriesB d0.entries (12:Int))&&(entriesB d1.entries (12:Int))))=true→(y=(worksV)))∧((!((entriesB d0.entries (12:Int))&&(entriesB d1.entries (12:Int))))=false→((sml d0.entries)∧(∃ x35,x35=(putFr d0)∧((sml d1.entries)∧(∃ x41,x41=(putFr d1)∧(((((x35.2 != (0:Int))||(x41.2 != (0:Int)))||(decide ((x35.1.length:Int)<1)))=true→(y=((x35.2 != (0:Int))||(x41.2 != (0:Int)))))∧((((x35.2 != (0:Int))||(x41.2 != (0:Int)))||(decide ((x35.1.length:Int)<1)))=false→((0≤(0:Int)∧(0:Int)<(x35.1.length:Int))∧((((IntKind.i64.wrap ((nth x35.1 (0:Int)).toNat:Int))==d0.kind)=true→sml d0.entries)∧(y=(((IntKind.i64.wrap ((nth x35.1 (0:Int)).toNat:Int))==d0.kind)&&((x35.1==x41.1)==(sameF d0 d1)))))))))))))))))
set_option maxRecDepth 20000 in
set_option maxHeartbeats 4000000 in
theorem law14_FrameUnlike_c {L:List Nat} {w:World} {csP0:List Value} (d0:Frm) (HP0:Stb L w (fun w=>kFrm.r w csP0 d0)) {csP1:List Value} (d1:Frm) (HP1:Stb L w (fun w=>kFrm.r w csP1 d1)) (hL:Lt L w) {y:Bool} (h:law14_FrameUnlike_raw d0 d1 y) :
  Calls Tryz.prog 7 [.agg csP0.toArray,.agg csP1.toArray].toArray w (Ret fun v w'=>Ext w w'∧v=.bool y):=by
 obtain ⟨A2,c3,rfl,H4,hl1⟩:=kFrm_open HP0
 obtain ⟨A6,c7,rfl,H8,hl5⟩:=kFrm_open HP1
 unfold law14_FrameUnlike_raw at h
 refine calls_ec Tryz.func7 rfl rfl rfl ?_
 refine ec_sr ?_
 refine o_box (cs:=(cFrm d0 A2 c3)) rfl rfl rfl ?_
 intro b9 w9 e9 F9 B9
 have S9:=B9.stb (nin hL e9)
 have G10:Fr L w w9:=Fr.ext F9
 refine o_box (cs:=(cFrm d1 A6 c7)) rfl rfl rfl ?_
 intro b11 w11 e11 F11 B11
 have S11:=B11.stb (nin (hL.fr F9) e11)
 have E12:=F9.trans F11
 have G14:Fr L w9 w11:=Fr.ext F11
 refine o_w (v:=.bool false) (r_asg rfl) ?_
 refine eo_r ?_
 refine o_call cf_law14_works rfl (law14_works_c (hL.fr E12) (works14_ev)) rfl rfl ?_
 rintro _ w15 ⟨F15,rfl⟩
 have E16:=E12.trans F15
 have G19:Fr L w11 w15:=Fr.ext F15
 refine o_w (v:=.bool (worksV)) (r_asg rfl) ?_
 refine eo_nil_sq ?_
 refine ec_seq ?_
 refine ec_sr ?_
 refine o_w (v:=.bool (worksV)) (r_mov rfl) ?_
 refine o_w (v:=.bool (!(worksV))) (r_not rfl) ?_
 refine eo_nil_sq ?_
 refine ec_cond rfl (fun hc20=>?_) (fun hc20=>?_)
 ·replace h:=h.1 hc20
  refine ec_sr ?_
  refine o_w (v:=.bool false) (r_asg rfl) ?_
  refine eo_nil_sq ?_
  refine ec_ret ?_
  refine sq_ret ?_
  subst h
  exact (end1 rfl ⟨_,rfl,E16,rfl⟩)
 ·replace h:=h.2 hc20
  refine ec_skip ?_
  refine sq_n ?_
  refine ec_sr ?_
  refine o_w (v:=.pointer (some ⟨b9,7,none⟩)) (r_fa fld_frame_Frame_4 rfl rfl) ?_
  refine o_w (v:=.slice A2 d0.entries.length c3) (r_ld one_s_api_Entry rfl ((S9.fr (G14.trans (Fr.ext F15)) sI).now.cell rfl)) ?_
  obtain ⟨ha23,h⟩:=h
  refine o_call cf_law08_Entries rfl (law08_Entries_c d0.entries (H4.fr ((G10.trans (Fr.ext F11)).trans (Fr.ext F15)) sI) (12:Int) (hL.fr E16) (entries_ev d0.entries (12:Int) ha23)) rfl rfl ?_
  rintro _ w22 ⟨F22,rfl⟩
  have E24:=E16.trans F22
  refine o_w (v:=.bool (entriesB d0.entries (12:Int))) (r_mov rfl) ?_
  refine o_vg (v:=.pointer (some ⟨b11,7,none⟩)) (want_ct (t:=17) rfl rfl) (fun hk=>(r_fa fld_frame_Frame_4 rfl rfl)) rfl rfl ?_
  refine o_vg (v:=.slice A6 d1.entries.length c7) (want_ct (t:=17) rfl rfl) (fun hk=>(r_ld one_s_api_Entry (gdT (u:=undef) hk) ((S11.fr (G19.trans (Fr.ext F22)) sI).now.cell rfl))) rfl rfl ?_
  obtain ⟨ha29,h⟩:=h
  refine o_callg (V:=.bool (entriesB d1.entries (12:Int))) cf_law08_Entries (want_ct (t:=17) rfl rfl) (fun hk=>(mapv2 (gdT (u:=undef) hk) rfl)) (fun hk=>(law08_Entries_c d1.entries (H8.fr (((G10.trans (Fr.ext F11)).trans (Fr.ext F15)).trans (Fr.ext F22)) sI) (12:Int) (hL.fr E24) (entries_ev d1.entries (12:Int) (ha29 hk)))) rfl ?_
  intro w28 F28
  have E30:=E24.trans F28
  have G31:=(((G10.trans (Fr.ext F11)).trans (Fr.ext F15)).trans (Fr.ext F22)).trans (Fr.ext F28)
  refine o_w (v:=.bool ((entriesB d0.entries (12:Int))&&(entriesB d1.entries (12:Int)))) (r_pickAnd rfl (fun ht=>(gdT (u:=undef) ht)) rfl) ?_
  refine o_w (v:=.bool ((entriesB d0.entries (12:Int))&&(entriesB d1.entries (12:Int)))) (r_asg rfl) ?_
  refine eo_nil_sq ?_
  refine ec_seq ?_
  refine ec_sr ?_
  refine o_w (v:=.bool ((entriesB d0.entries (12:Int))&&(entriesB d1.entries (12:Int)))) (r_mov rfl) ?_
  refine o_w (v:=.bool (!((entriesB d0.entries (12:Int))&&(entriesB d1.entries (12:Int))))) (r_not rfl) ?_
  refine eo_nil_sq ?_
  refine ec_cond rfl (fun hc34=>?_) (fun hc34=>?_)
  ·replace h:=h.1 hc34
   refine ec_sr ?_
   refine o_w (v:=.bool (worksV)) (r_mov rfl) ?_
   refine o_w (v:=.bool (worksV)) (r_asg rfl) ?_
   refine eo_nil_sq ?_
   refine ec_ret ?_
   refine sq_ret ?_
   subst h
   exact (end1 rfl ⟨_,rfl,E30,rfl⟩)
  ·replace h:=h.2 hc34
   refine ec_skip ?_
   refine sq_n ?_
   refine ec_sr ?_
   refine o_w (v:=.agg (cFrm d0 A2 c3).toArray) (r_lda agg_frame_Frame rfl (vs:=(cFrm d0 A2 c3)) rfl ((S9.fr (((G14.trans (Fr.ext F15)).trans (Fr.ext F22)).trans (Fr.ext F28)) sI).now.part (n:=8) rfl)) ?_
   obtain ⟨ha36,h⟩:=h
   obtain ⟨x35,hx35,h⟩:=h
   refine o_call cf_frame_Put rfl (frame_Put_c d0 (kFrm_mk (d:=d0) (H4.fr G31 sI) hl1) (hL.fr E30) (eq_ev hx35 (frPut_ev d0 ha36))) rfl rfl ?_
   rintro _ w35 ⟨F35,rfl⟩
   have E37:=E30.trans F35
   have G39:=(((G14.trans (Fr.ext F15)).trans (Fr.ext F22)).trans (Fr.ext F28)).trans (Fr.ext F35)
   refine o_w (v:=.tuple #[str x35.1,.int .i64 x35.2]) (r_mov rfl) ?_
   refine o_w (v:=str x35.1) (r_ext rfl rfl) ?_
   refine o_w (v:=.int .i64 x35.2) (r_ext rfl rfl) ?_
   refine o_w (v:=str x35.1) (r_asg rfl) ?_
   refine o_w (v:=.int .i64 x35.2) (r_asg rfl) ?_
   refine eo_r ?_
   refine o_w (v:=.agg (cFrm d1 A6 c7).toArray) (r_lda agg_frame_Frame rfl (vs:=(cFrm d1 A6 c7)) rfl ((S11.fr (((G19.trans (Fr.ext F22)).trans (Fr.ext F28)).trans (Fr.ext F35)) sI).now.part (n:=8) rfl)) ?_
   obtain ⟨ha42,h⟩:=h
   obtain ⟨x41,hx41,h⟩:=h
   refine o_call cf_frame_Put rfl (frame_Put_c d1 (kFrm_mk (d:=d1) (H8.fr (G31.trans (Fr.ext F35)) sI) hl5) (hL.fr E37) (eq_ev hx41 (frPut_ev d1 ha42))) rfl rfl ?_
   rintro _ w41 ⟨F41,rfl⟩
   have E43:=E37.trans F41
   have G46:=(((G19.trans (Fr.ext F22)).trans (Fr.ext F28)).trans (Fr.ext F35)).trans (Fr.ext F41)
   refine o_w (v:=.tuple #[str x41.1,.int .i64 x41.2]) (r_mov rfl) ?_
   refine o_w (v:=str x41.1) (r_ext rfl rfl) ?_
   refine o_w (v:=.int .i64 x41.2) (r_ext rfl rfl) ?_
   refine o_w (v:=str x41.1) (r_asg rfl) ?_
   refine o_w (v:=.int .i64 x41.2) (r_asg rfl) ?_
   refine eo_nil_sq ?_
   refine ec_seq ?_
   refine ec_sr ?_
   refine o_w (v:=.int .i64 x35.2) (r_mov rfl) ?_
   refine o_w (v:=.bool (x35.2 != (0:Int))) (r_int rfl rfl rfl) ?_
   refine o_w (v:=.bool (x35.2 != (0:Int))) (r_mov rfl) ?_
   refine o_vg (v:=.int .i64 x41.2) (want_cf (t:=37) rfl rfl) (fun hk=>(r_mov rfl)) rfl rfl ?_
   refine o_vg (v:=.bool (x41.2 != (0:Int))) (want_cf (t:=37) rfl rfl) (fun hk=>(r_int (gdT (u:=undef) hk) rfl rfl)) rfl rfl ?_
   refine o_w (v:=.bool ((x35.2 != (0:Int))||(x41.2 != (0:Int)))) (r_pickOr rfl rfl (fun hf=>(gdT (u:=undef) (notT hf)))) ?_
   refine o_w (v:=.bool ((x35.2 != (0:Int))||(x41.2 != (0:Int)))) (r_mov rfl) ?_
   refine o_vg (v:=str x35.1) (want_cf (t:=41) rfl rfl) (fun hk=>(r_mov rfl)) rfl rfl ?_
   refine o_vg (v:=.int .i64 (x35.1.length:Int)) (want_cf (t:=41) rfl rfl) (fun hk=>(r_len_str un_string (gdT (u:=undef) hk))) rfl rfl ?_
   refine o_vg (v:=.bool (decide ((x35.1.length:Int)<1))) (want_cf (t:=41) rfl rfl) (fun hk=>(r_int (gdT (u:=undef) hk) rfl rfl)) rfl rfl ?_
   refine o_w (v:=.bool (((x35.2 != (0:Int))||(x41.2 != (0:Int)))||(decide ((x35.1.length:Int)<1)))) (r_pickOr rfl rfl (fun hf=>(gdT (u:=undef) (notT hf)))) ?_
   refine eo_nil_sq ?_
   refine ec_cond rfl (fun hc47=>?_) (fun hc47=>?_)
   ·replace h:=h.1 hc47
    refine ec_sr ?_
    iterate 2 refine o_w (v:=.bool (worksV)) (r_mov rfl) ?_
    refine o_v (v:=.int .i64 x35.2) (r_mov rfl) (want_t (t:=47) rfl rfl (of_not hc20)) rfl rfl ?_
    refine o_v (v:=.bool (x35.2 != (0:Int))) (r_int rfl rfl rfl) (want_t (t:=47) rfl rfl (of_not hc20)) rfl rfl ?_
    refine o_v (v:=.bool (x35.2 != (0:Int))) (r_mov rfl) (want_t (t:=47) rfl rfl (of_not hc20)) rfl rfl ?_
    refine o_vg (v:=.int .i64 x41.2) (want_cf (t:=50) rfl rfl) (fun hk=>(r_mov rfl)) rfl rfl ?_
    refine o_vg (v:=.bool (x41.2 != (0:Int))) (want_cf (t:=50) rfl rfl) (fun hk=>(r_int (gdT (u:=undef) hk) rfl rfl)) rfl rfl ?_
    refine o_v (v:=.bool ((x35.2 != (0:Int))||(x41.2 != (0:Int)))) (r_pickOr rfl rfl (fun hf=>(gdT (u:=undef) (notT hf)))) (want_t (t:=47) rfl rfl (of_not hc20)) rfl rfl ?_
    refine o_w (v:=.bool ((x35.2 != (0:Int))||(x41.2 != (0:Int)))) (r_pickT rfl (of_not hc20) rfl) ?_
    refine o_w (v:=.bool ((x35.2 != (0:Int))||(x41.2 != (0:Int)))) (r_asg rfl) ?_
    refine eo_nil_sq ?_
    refine ec_ret ?_
    refine sq_ret ?_
    subst h
    exact (end1 rfl ⟨_,rfl,E43,rfl⟩)
   ·replace h:=h.2 hc47
    refine ec_skip ?_
    refine sq_n ?_
    refine ec_seq ?_
    obtain ⟨ha55,h⟩:=h
    obtain ⟨ha57,h⟩:=h
    refine ec_any0 (by kernel_rfl) [[],[0],[0,1],[0,1,2],[0,1,2,3],[0,1],[0,1,5],[0,1,2,3,4,5,6],[0,1,2,3,4,5,6,7],[0,1,2,3,4,5,6,7,8],[0,1,2,3,4,5,6,7,8,9],[0,1,2,3,4,5,6,7,8,9],[0,1,2,3,4,5,6,7,8,9,10,11],[0,1,2,3,4,5,6,7,8,9],[0,1,2,3,4,5,6,7,8,9],[0,1,2,3,4,5,6,7,8,9,13,14],[0,1,2,3,4,5,6,7,8,9,10,11,12,13,14,15],[0,1,2,3,4,5,6,7,8,9,10,11,12,13,14,15,16],[0,1,2,3,4,5,6,7,8,9,10,11,12,13,14,15,16,17]] [4,55,56,57,58,59,60,61,62,63,64,65,66,67,68,69,70,71,72] [fun v _=>v=(.bool (worksV):Value),fun v _=>v=(.bool (worksV):Value),fun v _=>v=(str x35.1:Value),fun v _=>v=(.int .u8 ((nth x35.1 (0:Int)).toNat:Int):Value),fun v _=>v=(.int .i64 (IntKind.i64.wrap ((nth x35.1 (0:Int)).toNat:Int)):Value),fun v _=>v=(.pointer (some ⟨b9,0,none⟩):Value),fun v _=>v=(.int .i64 d0.kind:Value),fun v _=>v=(.bool ((IntKind.i64.wrap ((nth x35.1 (0:Int)).toNat:Int))==d0.kind):Value),fun v _=>v=(.bool ((IntKind.i64.wrap ((nth x35.1 (0:Int)).toNat:Int))==d0.kind):Value),fun v _=>v=(.bool ((IntKind.i64.wrap ((nth x35.1 (0:Int)).toNat:Int))==d0.kind):Value),fun v _=>v=((bif ((IntKind.i64.wrap ((nth x35.1 (0:Int)).toNat:Int))==d0.kind) then (str x35.1:Value) else undef):Value),fun v _=>v=((bif ((IntKind.i64.wrap ((nth x35.1 (0:Int)).toNat:Int))==d0.kind) then (str x41.1:Value) else undef):Value),fun v _=>v=((bif ((IntKind.i64.wrap ((nth x35.1 (0:Int)).toNat:Int))==d0.kind) then (.bool (x35.1==x41.1):Value) else undef):Value),fun v _=>v=((bif ((IntKind.i64.wrap ((nth x35.1 (0:Int)).toNat:Int))==d0.kind) then (.agg (cFrm d0 A2 c3).toArray:Value) else undef):Value),fun v _=>v=((bif ((IntKind.i64.wrap ((nth x35.1 (0:Int)).toNat:Int))==d0.kind) then (.agg (cFrm d1 A6 c7).toArray:Value) else undef):Value),fun v _=>v=((bif ((IntKind.i64.wrap ((nth x35.1 (0:Int)).toNat:Int))==d0.kind) then (.bool (sameF d0 d1):Value) else undef):Value),fun v _=>v=((bif ((IntKind.i64.wrap ((nth x35.1 (0:Int)).toNat:Int))==d0.kind) then (.bool ((x35.1==x41.1)==(sameF d0 d1)):Value) else undef):Value),fun v _=>v=(.bool (((IntKind.i64.wrap ((nth x35.1 (0:Int)).toNat:Int))==d0.kind)&&((x35.1==x41.1)==(sameF d0 d1))):Value),fun v _=>v=(.bool (((IntKind.i64.wrap ((nth x35.1 (0:Int)).toNat:Int))==d0.kind)&&((x35.1==x41.1)==(sameF d0 d1))):Value)] (by kernel_rfl) ⟨fun _ _ _ _ _ h=>h,fun _ _ _ _ _ h=>h,fun _ _ _ _ _ h=>h,fun _ _ _ _ _ h=>h,fun _ _ _ _ _ h=>h,fun _ _ _ _ _ h=>h,fun _ _ _ _ _ h=>h,fun _ _ _ _ _ h=>h,fun _ _ _ _ _ h=>h,fun _ _ _ _ _ h=>h,fun _ _ _ _ _ h=>h,fun _ _ _ _ _ h=>h,fun _ _ _ _ _ h=>h,fun _ _ _ _ _ h=>h,fun _ _ _ _ _ h=>h,fun _ _ _ _ _ h=>h,fun _ _ _ _ _ h=>h,fun _ _ _ _ _ h=>h,fun _ _ _ _ _ h=>h,trivial⟩ ?_ ?_
    ·refine ⟨?_,?_,?_,?_,?_,?_,?_,?_,?_,?_,?_,?_,?_,?_,?_,?_,?_,?_,?_,trivial⟩
     ·intro ρ w54o F54o hS hρ
      have q5:ρ 5=.bool (worksV):=hρ 5 (by kernel_rfl)
      exact o_q (r_mov q5) ⟨Fr.refl _ _,rfl⟩
     ·intro ρ w54o F54o hS hρ
      have q55:ρ 55=.bool (worksV):=hS 0 (by decide) 55 rfl
      exact o_q (r_mov q55) ⟨Fr.refl _ _,rfl⟩
     ·intro ρ w54o F54o hS hρ
      have q7:ρ 7=str x35.1:=hρ 7 (by kernel_rfl)
      have q56:ρ 56=.bool (worksV):=hS 1 (by decide) 56 rfl
      exact o_v (r_mov q7) (want_t (t:=56) rfl q56 (of_not hc20)) rfl rfl (eo_nil ⟨rfl,rfl,_,rfl,Fr.refl _ _,rfl⟩)
     ·intro ρ w54o F54o hS hρ
      have q56:ρ 56=.bool (worksV):=hS 1 (by decide) 56 rfl
      have q57:ρ 57=str x35.1:=hS 2 (by decide) 57 rfl
      exact o_v (r_ix_str un_string q57 rfl ha55.1 ha55.2) (want_t (t:=56) rfl q56 (of_not hc20)) rfl rfl (eo_nil ⟨rfl,rfl,_,rfl,Fr.refl _ _,rfl⟩)
     ·intro ρ w54o F54o hS hρ
      have q56:ρ 56=.bool (worksV):=hS 1 (by decide) 56 rfl
      have q58:ρ 58=.int .u8 ((nth x35.1 (0:Int)).toNat:Int):=hS 3 (by decide) 58 rfl
      exact o_v (r_conv un_uint8 un_int q58) (want_t (t:=56) rfl q56 (of_not hc20)) rfl rfl (eo_nil ⟨rfl,rfl,_,rfl,Fr.refl _ _,rfl⟩)
     ·intro ρ w54o F54o hS hρ
      have q2:ρ 2=.pointer (some ⟨b9,0,none⟩):=hρ 2 (by kernel_rfl)
      have q56:ρ 56=.bool (worksV):=hS 1 (by decide) 56 rfl
      exact o_v (r_fa fld_frame_Frame_0 rfl q2) (want_t (t:=56) rfl q56 (of_not hc20)) rfl rfl (eo_nil ⟨rfl,rfl,_,rfl,Fr.refl _ _,rfl⟩)
     ·intro ρ w54o F54o hS hρ
      have q56:ρ 56=.bool (worksV):=hS 1 (by decide) 56 rfl
      have q60:ρ 60=.pointer (some ⟨b9,0,none⟩):=hS 5 (by decide) 60 rfl
      exact o_v (r_ld one_int q60 ((S9.fr ((G39.trans (Fr.ext F41)).trans (Fr.ext F54o)) sI).now.cell rfl)) (want_t (t:=56) rfl q56 (of_not hc20)) rfl rfl (eo_nil ⟨rfl,rfl,_,rfl,Fr.refl _ _,rfl⟩)
     ·intro ρ w54o F54o hS hρ
      have q56:ρ 56=.bool (worksV):=hS 1 (by decide) 56 rfl
      have q59:ρ 59=.int .i64 (IntKind.i64.wrap ((nth x35.1 (0:Int)).toNat:Int)):=hS 4 (by decide) 59 rfl
      have q61:ρ 61=.int .i64 d0.kind:=hS 6 (by decide) 61 rfl
      exact o_v (r_int q59 q61 rfl) (want_t (t:=56) rfl q56 (of_not hc20)) rfl rfl (eo_nil ⟨rfl,rfl,_,rfl,Fr.refl _ _,rfl⟩)
     ·intro ρ w54o F54o hS hρ
      have q56:ρ 56=.bool (worksV):=hS 1 (by decide) 56 rfl
      have q62:ρ 62=.bool ((IntKind.i64.wrap ((nth x35.1 (0:Int)).toNat:Int))==d0.kind):=hS 7 (by decide) 62 rfl
      exact o_q (r_pickT q56 (of_not hc20) q62) ⟨Fr.refl _ _,rfl⟩
     ·intro ρ w54o F54o hS hρ
      have q63:ρ 63=.bool ((IntKind.i64.wrap ((nth x35.1 (0:Int)).toNat:Int))==d0.kind):=hS 8 (by decide) 63 rfl
      exact o_q (r_mov q63) ⟨Fr.refl _ _,rfl⟩
     ·intro ρ w54o F54o hS hρ
      have q7:ρ 7=str x35.1:=hρ 7 (by kernel_rfl)
      have q64:ρ 64=.bool ((IntKind.i64.wrap ((nth x35.1 (0:Int)).toNat:Int))==d0.kind):=hS 9 (by decide) 64 rfl
      exact o_vg (want_ct (t:=64) rfl q64) (fun hk=>(r_mov q7)) rfl rfl (eo_nil ⟨rfl,rfl,_,rfl,Fr.refl _ _,rfl⟩)
     ·intro ρ w54o F54o hS hρ
      have q9:ρ 9=str x41.1:=hρ 9 (by kernel_rfl)
      have q64:ρ 64=.bool ((IntKind.i64.wrap ((nth x35.1 (0:Int)).toNat:Int))==d0.kind):=hS 9 (by decide) 64 rfl
      exact o_vg (want_ct (t:=64) rfl q64) (fun hk=>(r_mov q9)) rfl rfl (eo_nil ⟨rfl,rfl,_,rfl,Fr.refl _ _,rfl⟩)
     ·intro ρ w54o F54o hS hρ
      have q64:ρ 64=.bool ((IntKind.i64.wrap ((nth x35.1 (0:Int)).toNat:Int))==d0.kind):=hS 9 (by decide) 64 rfl
      have q65:ρ 65=(bif ((IntKind.i64.wrap ((nth x35.1 (0:Int)).toNat:Int))==d0.kind) then (str x35.1:Value) else undef):=hS 10 (by decide) 65 rfl
      have q66:ρ 66=(bif ((IntKind.i64.wrap ((nth x35.1 (0:Int)).toNat:Int))==d0.kind) then (str x41.1:Value) else undef):=hS 11 (by decide) 66 rfl
      exact o_vg (want_ct (t:=64) rfl q64) (fun hk=>(r_str (q65.trans (gdT (u:=undef) hk)) (q66.trans (gdT (u:=undef) hk)) rfl)) rfl rfl (eo_nil ⟨rfl,rfl,_,rfl,Fr.refl _ _,rfl⟩)
     ·intro ρ w54o F54o hS hρ
      have q2:ρ 2=.pointer (some ⟨b9,0,none⟩):=hρ 2 (by kernel_rfl)
      have q64:ρ 64=.bool ((IntKind.i64.wrap ((nth x35.1 (0:Int)).toNat:Int))==d0.kind):=hS 9 (by decide) 64 rfl
      exact o_vg (want_ct (t:=64) rfl q64) (fun hk=>(r_lda agg_frame_Frame q2 (vs:=(cFrm d0 A2 c3)) rfl ((S9.fr ((G39.trans (Fr.ext F41)).trans (Fr.ext F54o)) sI).now.part (n:=8) rfl))) rfl rfl (eo_nil ⟨rfl,rfl,_,rfl,Fr.refl _ _,rfl⟩)
     ·intro ρ w54o F54o hS hρ
      have q3:ρ 3=.pointer (some ⟨b11,0,none⟩):=hρ 3 (by kernel_rfl)
      have q64:ρ 64=.bool ((IntKind.i64.wrap ((nth x35.1 (0:Int)).toNat:Int))==d0.kind):=hS 9 (by decide) 64 rfl
      exact o_vg (want_ct (t:=64) rfl q64) (fun hk=>(r_lda agg_frame_Frame q3 (vs:=(cFrm d1 A6 c7)) rfl ((S11.fr (G46.trans (Fr.ext F54o)) sI).now.part (n:=8) rfl))) rfl rfl (eo_nil ⟨rfl,rfl,_,rfl,Fr.refl _ _,rfl⟩)
     ·intro ρ w54o F54o hS hρ
      have E70:=E43.trans F54o
      have q64:ρ 64=.bool ((IntKind.i64.wrap ((nth x35.1 (0:Int)).toNat:Int))==d0.kind):=hS 9 (by decide) 64 rfl
      have q68:ρ 68=(bif ((IntKind.i64.wrap ((nth x35.1 (0:Int)).toNat:Int))==d0.kind) then (.agg (cFrm d0 A2 c3).toArray:Value) else undef):=hS 13 (by decide) 68 rfl
      have q69:ρ 69=(bif ((IntKind.i64.wrap ((nth x35.1 (0:Int)).toNat:Int))==d0.kind) then (.agg (cFrm d1 A6 c7).toArray:Value) else undef):=hS 14 (by decide) 69 rfl
      refine o_callg (V:=.bool (sameF d0 d1)) cf_frame_Same (want_ct (t:=64) rfl q64) (fun hk=>(mapv2 (q68.trans (gdT (u:=undef) hk)) (q69.trans (gdT (u:=undef) hk)))) (fun hk=>(frame_Same_c d0 (kFrm_mk (d:=d0) (H4.fr (((G31.trans (Fr.ext F35)).trans (Fr.ext F41)).trans (Fr.ext F54o)) sI) hl1) d1 (kFrm_mk (d:=d1) (H8.fr (((G31.trans (Fr.ext F35)).trans (Fr.ext F41)).trans (Fr.ext F54o)) sI) hl5) (hL.fr E70) (frSame_ev d0 d1 (ha57 hk)))) rfl ?_
      intro w' F
      exact eo_nil ⟨rfl,rfl,_,rfl,F,rfl⟩
     ·intro ρ w54o F54o hS hρ
      have q64:ρ 64=.bool ((IntKind.i64.wrap ((nth x35.1 (0:Int)).toNat:Int))==d0.kind):=hS 9 (by decide) 64 rfl
      have q67:ρ 67=(bif ((IntKind.i64.wrap ((nth x35.1 (0:Int)).toNat:Int))==d0.kind) then (.bool (x35.1==x41.1):Value) else undef):=hS 12 (by decide) 67 rfl
      have q70:ρ 70=(bif ((IntKind.i64.wrap ((nth x35.1 (0:Int)).toNat:Int))==d0.kind) then (.bool (sameF d0 d1):Value) else undef):=hS 15 (by decide) 70 rfl
      exact o_vg (want_ct (t:=64) rfl q64) (fun hk=>(r_boolEq un_bool (q67.trans (gdT (u:=undef) hk)) (q70.trans (gdT (u:=undef) hk)))) rfl rfl (eo_nil ⟨rfl,rfl,_,rfl,Fr.refl _ _,rfl⟩)
     ·intro ρ w54o F54o hS hρ
      have q64:ρ 64=.bool ((IntKind.i64.wrap ((nth x35.1 (0:Int)).toNat:Int))==d0.kind):=hS 9 (by decide) 64 rfl
      have q71:ρ 71=(bif ((IntKind.i64.wrap ((nth x35.1 (0:Int)).toNat:Int))==d0.kind) then (.bool ((x35.1==x41.1)==(sameF d0 d1)):Value) else undef):=hS 16 (by decide) 71 rfl
      exact o_q (r_pickAnd q64 (fun ht=>(q71.trans (gdT (u:=undef) ht))) rfl) ⟨Fr.refl _ _,rfl⟩
     ·intro ρ w54o F54o hS hρ
      have q72:ρ 72=.bool (((IntKind.i64.wrap ((nth x35.1 (0:Int)).toNat:Int))==d0.kind)&&((x35.1==x41.1)==(sameF d0 d1))):=hS 17 (by decide) 72 rfl
      exact o_q (r_asg q72) ⟨Fr.refl _ _,rfl⟩
    ·intro ρ w54 F54 hS hρ
     have q4:ρ 4=.bool (((IntKind.i64.wrap ((nth x35.1 (0:Int)).toNat:Int))==d0.kind)&&((x35.1==x41.1)==(sameF d0 d1))):=hS 18 4 rfl
     obtain ⟨ρ',rfl⟩:∃ ρ',ρ=envs (ovr [4,55,56,57,58,59,60,61,62,63,64,65,66,67,68,69,70,71,72] ρ' _) [(4,.bool (((IntKind.i64.wrap ((nth x35.1 (0:Int)).toNat:Int))==d0.kind)&&((x35.1==x41.1)==(sameF d0 d1))))]:=⟨ρ,ovr_self hρ ⟨q4,trivial⟩⟩
     have E74:=E43.trans F54
     refine sq_n ?_
     refine ec_ret ?_
     subst h
     exact (end1 rfl ⟨_,rfl,E74,rfl⟩)
end Go.Proofs.YtdfjbkoimpjkaaaGreat
