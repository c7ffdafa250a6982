/- The law FrameBursts: what it comes to. -/
import Derived.Test.YtdfjbkoimpjkaaaGreatVn
namespace Go.Proofs.YtdfjbkoimpjkaaaGreat
open Go Go.RowKit
set_option linter.unusedVariables false
set_option linter.unusedSimpArgs false
def law14_FrameBursts_raw (d0:Frm) (d1:Int) (d2:(List Int)) (y:Bool):Prop :=
 ((!(worksV))=true→(y=false))∧((!(worksV))=false→((((12:Int):Int)≤100)∧((sml d0.entries)∧(∃ x23,x23=(putFr d0)∧(((((!(entriesB d0.entries (12:Int)))||(x23.2 != (0:Int)))||(decide ((x23.1.length:Int)<4)))=true→(y=((!(entriesB d0.entries (12:Int)))||(x23.2 != (0:Int)))))∧((((!(entriesB d0.entries (12:Int)))||(x23.2 != (0:Int)))||(decide ((x23.1.length:Int)<4)))=false→(((IntKind.i64.wrap ((x23.1.length:Int) - (3:Int)))==0)=false∧((0≤(Int.tmod (IntKind.i64.wrap d1) (IntKind.i64.wrap ((x23.1.length:Int) - (3:Int))))∧(Int.tmod (IntKind.i64.wrap d1) (IntKind.i64.wrap ((x23.1.length:Int) - (3:Int)))) * 1≤281474976710656∧(Int.tmod (IntKind.i64.wrap d1) (IntKind.i64.wrap ((x23.1.length:Int) - (3:Int))))≤9223372036854775807)∧((bstr (List.replicate ((Int.tmod (IntKind.i64.wrap d1) (IntKind.i64.wrap ((x23.1.length:Int) - (3:Int))))).toNat (0:Int))).length + (bstr ([(nth d2 0),(nth d2 1),(nth d2 2),(nth d2 3)]:List Int)).length≤9223372036854775807∧(x23.1.length≤1000000000∧(((bstr (List.replicate ((Int.tmod (IntKind.i64.wrap d1) (IntKind.i64.wrap ((x23.1.length:Int) - (3:Int))))).toNat (0:Int)))++(bstr ([(nth d2 0),(nth d2 1),(nth d2 2),(nth d2 3)]:List Int))).length≤1000000000∧(∃ x35,x35=(xorO x23.1 ((bstr (List.replicate ((Int.tmod (IntKind.i64.wrap d1) (IntKind.i64.wrap ((x23.1.length:Int) - (3:Int))))).toNat (0:Int)))++(bstr ([(nth d2 0),(nth d2 1),(nth d2 2),(nth d2 3)]:List Int))))∧((x35.length≤1000000000)∧(∃ x66,x66=(getFr x35)∧(y=((x66.2==0)==(((nth d2 0)==0)&&(((nth d2 1)==0)&&(((nth d2 2)==0)&&(((nth d2 3)==0)&&true))))))))))))))))))))
set_option maxRecDepth 20000 in
set_option maxHeartbeats 4000000 in
theorem law14_FrameBursts_c {L:List Nat} {w:World} {csP0:List Value} (d0:Frm) (HP0:Stb L w (fun w=>kFrm.r w csP0 d0)) (d1:Int) (d2:(List Int)) (hlP2:d2.length=4) (hL:Lt L w) {y:Bool} (h:law14_FrameBursts_raw d0 d1 d2 y) :
  Calls Tryz.prog 8 [.agg csP0.toArray,.int .u16 d1,(.agg #[.int .u8 (nth d2 0),.int .u8 (nth d2 1),.int .u8 (nth d2 2),.int .u8 (nth d2 3)]:Value)].toArray w (Ret fun v w'=>Ext w w'∧v=.bool y):=by
 obtain ⟨A2,c3,rfl,H4,hl1⟩:=kFrm_open HP0
 unfold law14_FrameBursts_raw at h
 refine calls_ec Tryz.func8 rfl rfl rfl ?_
 refine ec_sr ?_
 refine o_box (cs:=(cFrm d0 A2 c3)) rfl rfl rfl ?_
 intro b5 w5 e5 F5 B5
 have S5:=B5.stb (nin hL e5)
 have G6:Fr L w w5:=Fr.ext F5
 refine o_box (cs:=[.int .u8 (nth d2 0),.int .u8 (nth d2 1),.int .u8 (nth d2 2),.int .u8 (nth d2 3)]) rfl rfl rfl ?_
 intro b7 w7 e7 F7 B7
 have S7:=B7.stb (nin (hL.fr F5) e7)
 have E8:=F5.trans F7
 have G10:Fr L w5 w7:=Fr.ext F7
 refine o_w (v:=.bool false) (r_asg rfl) ?_
 refine eo_r ?_
 refine o_call cf_law14_works rfl (law14_works_c (hL.fr E8) (works14_ev)) rfl rfl ?_
 rintro _ w11 ⟨F11,rfl⟩
 have E12:=E8.trans F11
 have G15:Fr L w7 w11:=Fr.ext F11
 refine o_w (v:=.bool (worksV)) (r_asg rfl) ?_
 refine eo_nil_sq ?_
 refine ec_seq ?_
 refine ec_sr ?_
 refine o_w (v:=.bool (worksV)) (r_mov rfl) ?_
 refine o_w (v:=.bool (!(worksV))) (r_not rfl) ?_
 refine eo_nil_sq ?_
 refine ec_cond rfl (fun hc16=>?_) (fun hc16=>?_)
 ·replace h:=h.1 hc16
  refine ec_sr ?_
  refine o_w (v:=.bool false) (r_asg rfl) ?_
  refine eo_nil_sq ?_
  refine ec_ret ?_
  refine sq_ret ?_
  subst h
  exact (end1 rfl ⟨_,rfl,E12,rfl⟩)
 ·replace h:=h.2 hc16
  refine ec_skip ?_
  refine sq_n ?_
  refine ec_sr ?_
  refine o_w (v:=.pointer (some ⟨b5,7,none⟩)) (r_fa fld_frame_Frame_4 rfl rfl) ?_
  refine o_w (v:=.slice A2 d0.entries.length c3) (r_ld one_s_api_Entry rfl ((S5.fr (G10.trans (Fr.ext F11)) sI).now.cell rfl)) ?_
  obtain ⟨ha18,h⟩:=h
  refine o_call cf_law08_Entries rfl (law08_Entries_c d0.entries (H4.fr ((G6.trans (Fr.ext F7)).trans (Fr.ext F11)) sI) (12:Int) (hL.fr E12) (entries_ev d0.entries (12:Int) ha18)) rfl rfl ?_
  rintro _ w17 ⟨F17,rfl⟩
  have E19:=E12.trans F17
  refine o_w (v:=.bool (entriesB d0.entries (12:Int))) (r_asg rfl) ?_
  refine eo_r ?_
  refine o_w (v:=.agg (cFrm d0 A2 c3).toArray) (r_lda agg_frame_Frame rfl (vs:=(cFrm d0 A2 c3)) rfl ((S5.fr ((G10.trans (Fr.ext F11)).trans (Fr.ext F17)) sI).now.part (n:=8) rfl)) ?_
  obtain ⟨ha24,h⟩:=h
  obtain ⟨x23,hx23,h⟩:=h
  refine o_call cf_frame_Put rfl (frame_Put_c d0 (kFrm_mk (d:=d0) (H4.fr (((G6.trans (Fr.ext F7)).trans (Fr.ext F11)).trans (Fr.ext F17)) sI) hl1) (hL.fr E19) (eq_ev hx23 (frPut_ev d0 ha24))) rfl rfl ?_
  rintro _ w23 ⟨F23,rfl⟩
  have E25:=E19.trans F23
  refine o_w (v:=.tuple #[str x23.1,.int .i64 x23.2]) (r_mov rfl) ?_
  refine o_w (v:=str x23.1) (r_ext rfl rfl) ?_
  refine o_w (v:=.int .i64 x23.2) (r_ext rfl rfl) ?_
  refine o_w (v:=str x23.1) (r_asg rfl) ?_
  refine o_w (v:=.int .i64 x23.2) (r_asg rfl) ?_
  refine eo_nil_sq ?_
  refine ec_seq ?_
  refine ec_sr ?_
  refine o_w (v:=.bool (entriesB d0.entries (12:Int))) (r_mov rfl) ?_
  refine o_w (v:=.bool (!(entriesB d0.entries (12:Int)))) (r_not rfl) ?_
  refine o_w (v:=.bool (!(entriesB d0.entries (12:Int)))) (r_mov rfl) ?_
  refine o_vg (v:=.int .i64 x23.2) (want_cf (t:=28) rfl rfl) (fun hk=>(r_mov rfl)) rfl rfl ?_
  refine o_vg (v:=.bool (x23.2 != (0:Int))) (want_cf (t:=28) rfl rfl) (fun hk=>(r_int (gdT (u:=undef) hk) rfl rfl)) rfl rfl ?_
  refine o_w (v:=.bool ((!(entriesB d0.entries (12:Int)))||(x23.2 != (0:Int)))) (r_pickOr rfl rfl (fun hf=>(gdT (u:=undef) (notT hf)))) ?_
  refine o_w (v:=.bool ((!(entriesB d0.entries (12:Int)))||(x23.2 != (0:Int)))) (r_mov rfl) ?_
  refine o_vg (v:=str x23.1) (want_cf (t:=32) rfl rfl) (fun hk=>(r_mov rfl)) rfl rfl ?_
  refine o_vg (v:=.int .i64 (x23.1.length:Int)) (want_cf (t:=32) rfl rfl) (fun hk=>(r_len_str un_string (gdT (u:=undef) hk))) rfl rfl ?_
  refine o_vg (v:=.bool (decide ((x23.1.length:Int)<4))) (want_cf (t:=32) rfl rfl) (fun hk=>(r_int (gdT (u:=undef) hk) rfl rfl)) rfl rfl ?_
  refine o_w (v:=.bool (((!(entriesB d0.entries (12:Int)))||(x23.2 != (0:Int)))||(decide ((x23.1.length:Int)<4)))) (r_pickOr rfl rfl (fun hf=>(gdT (u:=undef) (notT hf)))) ?_
  refine eo_nil_sq ?_
  refine ec_cond rfl (fun hc29=>?_) (fun hc29=>?_)
  ·replace h:=h.1 hc29
   refine ec_sr ?_
   iterate 2 refine o_w (v:=.bool (worksV)) (r_mov rfl) ?_
   refine o_v (v:=.bool (entriesB d0.entries (12:Int))) (r_mov rfl) (want_t (t:=38) rfl rfl (of_not hc16)) rfl rfl ?_
   refine o_v (v:=.bool (!(entriesB d0.entries (12:Int)))) (r_not rfl) (want_t (t:=38) rfl rfl (of_not hc16)) rfl rfl ?_
   refine o_v (v:=.bool (!(entriesB d0.entries (12:Int)))) (r_mov rfl) (want_t (t:=38) rfl rfl (of_not hc16)) rfl rfl ?_
   refine o_vg (v:=.int .i64 x23.2) (want_cf (t:=41) rfl rfl) (fun hk=>(r_mov rfl)) rfl rfl ?_
   refine o_vg (v:=.bool (x23.2 != (0:Int))) (want_cf (t:=41) rfl rfl) (fun hk=>(r_int (gdT (u:=undef) hk) rfl rfl)) rfl rfl ?_
   refine o_v (v:=.bool ((!(entriesB d0.entries (12:Int)))||(x23.2 != (0:Int)))) (r_pickOr rfl rfl (fun hf=>(gdT (u:=undef) (notT hf)))) (want_t (t:=38) rfl rfl (of_not hc16)) rfl rfl ?_
   refine o_w (v:=.bool ((!(entriesB d0.entries (12:Int)))||(x23.2 != (0:Int)))) (r_pickT rfl (of_not hc16) rfl) ?_
   refine o_w (v:=.bool ((!(entriesB d0.entries (12:Int)))||(x23.2 != (0:Int)))) (r_asg rfl) ?_
   refine eo_nil_sq ?_
   refine ec_ret ?_
   refine sq_ret ?_
   subst h
   exact (end1 rfl ⟨_,rfl,E25,rfl⟩)
  ·replace h:=h.2 hc29
   refine ec_skip ?_
   refine sq_n ?_
   refine ec_sr ?_
   refine o_w (v:=.int .u16 d1) (r_mov rfl) ?_
   refine o_w (v:=.int .i64 (IntKind.i64.wrap d1)) (r_conv un_uint16 un_int rfl) ?_
   refine o_w (v:=str x23.1) (r_mov rfl) ?_
   refine o_w (v:=.int .i64 (x23.1.length:Int)) (r_len_str un_string rfl) ?_
   refine o_w (v:=.int .i64 (IntKind.i64.wrap ((x23.1.length:Int) - (3:Int)))) (r_int rfl rfl rfl) ?_
   obtain ⟨ha30,h⟩:=h
   refine o_w (v:=.int .i64 (Int.tmod (IntKind.i64.wrap d1) (IntKind.i64.wrap ((x23.1.length:Int) - (3:Int))))) (r_rem rfl rfl ha30) ?_
   refine o_w (v:=.int .i64 (Int.tmod (IntKind.i64.wrap d1) (IntKind.i64.wrap ((x23.1.length:Int) - (3:Int))))) (r_asg rfl) ?_
   refine eo_nil_sq ?_
   refine ec_seq ?_
   obtain ⟨ha33,h⟩:=h
   obtain ⟨ha34,h⟩:=h
   obtain ⟨ha36,h⟩:=h
   obtain ⟨ha37,h⟩:=h
   obtain ⟨x35,hx35,h⟩:=h
   refine ec_any0 (by kernel_rfl) [[],[],[1],[1,2],[],[4],[],[6],[],[8],[],[10],[4,5,6,7,8,9,10,11],[4,5,6,7,8,9,10,11,12],[1,2,3,4,5,6,7,8,9,10,11,12,13],[0,1,2,3,4,5,6,7,8,9,10,11,12,13,14],[0,1,2,3,4,5,6,7,8,9,10,11,12,13,14,15]] [12,52,53,54,55,56,57,58,59,60,61,62,63,64,65,66,67] [fun v _=>v=(str x23.1:Value),fun v _=>v=(.int .i64 (Int.tmod (IntKind.i64.wrap d1) (IntKind.i64.wrap ((x23.1.length:Int) - (3:Int)))):Value),fun v w'=>∃ A32 c32,v=(.slice A32 (List.replicate ((Int.tmod (IntKind.i64.wrap d1) (IntKind.i64.wrap ((x23.1.length:Int) - (3:Int))))).toNat (0:Int)).length c32:Value)∧Stb L w' (fun w=>SlC (kI .u8) w A32 c32 (List.replicate ((Int.tmod (IntKind.i64.wrap d1) (IntKind.i64.wrap ((x23.1.length:Int) - (3:Int))))).toNat (0:Int))),fun v _=>v=(str (bstr (List.replicate ((Int.tmod (IntKind.i64.wrap d1) (IntKind.i64.wrap ((x23.1.length:Int) - (3:Int))))).toNat (0:Int))):Value),fun v _=>v=(.pointer (some ⟨b7,0,none⟩):Value),fun v _=>v=(.int .u8 (nth d2 0):Value),fun v _=>v=(.pointer (some ⟨b7,1,none⟩):Value),fun v _=>v=(.int .u8 (nth d2 1):Value),fun v _=>v=(.pointer (some ⟨b7,2,none⟩):Value),fun v _=>v=(.int .u8 (nth d2 2):Value),fun v _=>v=(.pointer (some ⟨b7,3,none⟩):Value),fun v _=>v=(.int .u8 (nth d2 3):Value),fun v w'=>∃ b31_12,v=(.slice (some ⟨b31_12,0,none⟩) 4 4:Value)∧Blk w' b31_12 5 [.int .u8 (nth d2 0),.int .u8 (nth d2 1),.int .u8 (nth d2 2),.int .u8 (nth d2 3)]∧w23.heap.size≤b31_12,fun v _=>v=(str (bstr ([(nth d2 0),(nth d2 1),(nth d2 2),(nth d2 3)]:List Int)):Value),fun v _=>v=(str ((bstr (List.replicate ((Int.tmod (IntKind.i64.wrap d1) (IntKind.i64.wrap ((x23.1.length:Int) - (3:Int))))).toNat (0:Int)))++(bstr ([(nth d2 0),(nth d2 1),(nth d2 2),(nth d2 3)]:List Int))):Value),fun v _=>v=(str x35:Value),fun v _=>v=(str x35:Value)] (by kernel_rfl) ⟨fun _ _ _ _ _ h=>h,fun _ _ _ _ _ h=>h,fun _ v w' w'' F h=>by obtain ⟨A32,c32,hv,H32⟩:=h; exact ⟨A32,c32,hv,(H32.ex F)⟩,fun _ _ _ _ _ h=>h,fun _ _ _ _ _ h=>h,fun _ _ _ _ _ h=>h,fun _ _ _ _ _ h=>h,fun _ _ _ _ _ h=>h,fun _ _ _ _ _ h=>h,fun _ _ _ _ _ h=>h,fun _ _ _ _ _ h=>h,fun _ _ _ _ _ h=>h,fun _ v w' w'' F h=>by obtain ⟨b31_12,hv,B31_12,qB31_12⟩:=h; exact ⟨b31_12,hv,(B31_12.ex F),qB31_12⟩,fun _ _ _ _ _ h=>h,fun _ _ _ _ _ h=>h,fun _ _ _ _ _ h=>h,fun _ _ _ _ _ h=>h,trivial⟩ ?_ ?_
   ·refine ⟨?_,?_,?_,?_,?_,?_,?_,?_,?_,?_,?_,?_,?_,?_,?_,?_,?_,trivial⟩
    ·intro ρ w31o F31o hS hρ
     have q9:ρ 9=str x23.1:=hρ 9 (by kernel_rfl)
     exact o_q (r_mov q9) ⟨Fr.refl _ _,rfl⟩
    ·intro ρ w31o F31o hS hρ
     have q11:ρ 11=.int .i64 (Int.tmod (IntKind.i64.wrap d1) (IntKind.i64.wrap ((x23.1.length:Int) - (3:Int)))):=hρ 11 (by kernel_rfl)
     exact o_q (r_mov q11) ⟨Fr.refl _ _,rfl⟩
    ·intro ρ w31o F31o hS hρ
     have E38:=E25.trans F31o
     have q53:ρ 53=.int .i64 (Int.tmod (IntKind.i64.wrap d1) (IntKind.i64.wrap ((x23.1.length:Int) - (3:Int)))):=hS 1 (by decide) 53 rfl
     refine o_make1 (k:=(kI .u8)) slc_s_uint8 rfl rfl (z:=(0:Int)) (fun _=>rfl) (show ev ρ _=_ from q53) (show ev ρ _=_ from q53) ha33 (hL.fr E38) rfl rfl (by decide) ?_
     intro A c w' F H
     exact eo_nil ⟨rfl,rfl,_,rfl,F,A,c,rfl,H⟩
    ·intro ρ w31o F31o hS hρ
     obtain ⟨A32,c32,q54,H32⟩:=hS 2 (by decide) 54 rfl
     exact o_q (r_bstr slc_s_uint8 un_uint8 un_string q54 H32.now) ⟨Fr.refl _ _,rfl⟩
    ·intro ρ w31o F31o hS hρ
     have q5:ρ 5=.pointer (some ⟨b7,0,none⟩):=hρ 5 (by kernel_rfl)
     exact o_q (r_iaA un_4_uint8 sz_uint8 q5 rfl (by decide)) ⟨Fr.refl _ _,rfl⟩
    ·intro ρ w31o F31o hS hρ
     have q56:ρ 56=.pointer (some ⟨b7,0,none⟩):=hS 4 (by decide) 56 rfl
     exact o_q (r_ld one_uint8 q56 ((S7.fr (((G15.trans (Fr.ext F17)).trans (Fr.ext F23)).trans (Fr.ext F31o)) sI).now.cell rfl)) ⟨Fr.refl _ _,rfl⟩
    ·intro ρ w31o F31o hS hρ
     have q5:ρ 5=.pointer (some ⟨b7,0,none⟩):=hρ 5 (by kernel_rfl)
     exact o_q (r_iaA un_4_uint8 sz_uint8 q5 rfl (by decide)) ⟨Fr.refl _ _,rfl⟩
    ·intro ρ w31o F31o hS hρ
     have q58:ρ 58=.pointer (some ⟨b7,1,none⟩):=hS 6 (by decide) 58 rfl
     exact o_q (r_ld one_uint8 q58 ((S7.fr (((G15.trans (Fr.ext F17)).trans (Fr.ext F23)).trans (Fr.ext F31o)) sI).now.cell rfl)) ⟨Fr.refl _ _,rfl⟩
    ·intro ρ w31o F31o hS hρ
     have q5:ρ 5=.pointer (some ⟨b7,0,none⟩):=hρ 5 (by kernel_rfl)
     exact o_q (r_iaA un_4_uint8 sz_uint8 q5 rfl (by decide)) ⟨Fr.refl _ _,rfl⟩
    ·intro ρ w31o F31o hS hρ
     have q60:ρ 60=.pointer (some ⟨b7,2,none⟩):=hS 8 (by decide) 60 rfl
     exact o_q (r_ld one_uint8 q60 ((S7.fr (((G15.trans (Fr.ext F17)).trans (Fr.ext F23)).trans (Fr.ext F31o)) sI).now.cell rfl)) ⟨Fr.refl _ _,rfl⟩
    ·intro ρ w31o F31o hS hρ
     have q5:ρ 5=.pointer (some ⟨b7,0,none⟩):=hρ 5 (by kernel_rfl)
     exact o_q (r_iaA un_4_uint8 sz_uint8 q5 rfl (by decide)) ⟨Fr.refl _ _,rfl⟩
    ·intro ρ w31o F31o hS hρ
     have q62:ρ 62=.pointer (some ⟨b7,3,none⟩):=hS 10 (by decide) 62 rfl
     exact o_q (r_ld one_uint8 q62 ((S7.fr (((G15.trans (Fr.ext F17)).trans (Fr.ext F23)).trans (Fr.ext F31o)) sI).now.cell rfl)) ⟨Fr.refl _ _,rfl⟩
    ·intro ρ w31o F31o hS hρ
     have q57:ρ 57=.int .u8 (nth d2 0):=hS 5 (by decide) 57 rfl
     have q59:ρ 59=.int .u8 (nth d2 1):=hS 7 (by decide) 59 rfl
     have q61:ρ 61=.int .u8 (nth d2 2):=hS 9 (by decide) 61 rfl
     have q63:ρ 63=.int .u8 (nth d2 3):=hS 11 (by decide) 63 rfl
     refine o_bslice slc_s_uint8 rfl (vs:=[.int .u8 (nth d2 0),.int .u8 (nth d2 1),.int .u8 (nth d2 2),.int .u8 (nth d2 3)]) (by simp only [List.map,ev,idx,q57,q59,q61,q63]) rfl rfl (cs:=[.int .u8 (nth d2 0),.int .u8 (nth d2 1),.int .u8 (nth d2 2),.int .u8 (nth d2 3)]) rfl rfl rfl rfl ?_
     intro b w' e F B
     exact eo_nil ⟨rfl,rfl,_,rfl,F,b,rfl,B,by rw [e]; exact F31o.size⟩
    ·intro ρ w31o F31o hS hρ
     obtain ⟨b31_12,q64,B31_12,qB31_12⟩:=hS 12 (by decide) 64 rfl
     exact o_q (r_bstrB (l:=([(nth d2 0),(nth d2 1),(nth d2 2),(nth d2 3)]:List Int)) slc_s_uint8 un_uint8 un_string q64 B31_12 rfl) ⟨Fr.refl _ _,rfl⟩
    ·intro ρ w31o F31o hS hρ
     have q55:ρ 55=str (bstr (List.replicate ((Int.tmod (IntKind.i64.wrap d1) (IntKind.i64.wrap ((x23.1.length:Int) - (3:Int))))).toNat (0:Int))):=hS 3 (by decide) 55 rfl
     have q65:ρ 65=str (bstr ([(nth d2 0),(nth d2 1),(nth d2 2),(nth d2 3)]:List Int)):=hS 13 (by decide) 65 rfl
     exact o_q (r_cat q55 q65 ha34) ⟨Fr.refl _ _,rfl⟩
    ·intro ρ w31o F31o hS hρ
     have E58:=E25.trans F31o
     have q52:ρ 52=str x23.1:=hS 0 (by decide) 52 rfl
     have q66:ρ 66=str ((bstr (List.replicate ((Int.tmod (IntKind.i64.wrap d1) (IntKind.i64.wrap ((x23.1.length:Int) - (3:Int))))).toNat (0:Int)))++(bstr ([(nth d2 0),(nth d2 1),(nth d2 2),(nth d2 3)]:List Int))):=hS 14 (by decide) 66 rfl
     refine o_call cf_octet_Xor (by simp only [List.map,ev,q52,q66] <;> rfl) (octet_Xor_c x23.1 ((bstr (List.replicate ((Int.tmod (IntKind.i64.wrap d1) (IntKind.i64.wrap ((x23.1.length:Int) - (3:Int))))).toNat (0:Int)))++(bstr ([(nth d2 0),(nth d2 1),(nth d2 2),(nth d2 3)]:List Int))) (hL.fr E58) (eq_ev hx35 (octXor_ev x23.1 ((bstr (List.replicate ((Int.tmod (IntKind.i64.wrap d1) (IntKind.i64.wrap ((x23.1.length:Int) - (3:Int))))).toNat (0:Int)))++(bstr ([(nth d2 0),(nth d2 1),(nth d2 2),(nth d2 3)]:List Int))) ha36 ha37))) rfl rfl ?_
     rintro _ w' ⟨F,rfl⟩
     exact eo_nil ⟨rfl,rfl,_,rfl,F,rfl⟩
    ·intro ρ w31o F31o hS hρ
     have q67:ρ 67=str x35:=hS 15 (by decide) 67 rfl
     exact o_q (r_asg q67) ⟨Fr.refl _ _,rfl⟩
   ·intro ρ w31 F31 hS hρ
    have q12:ρ 12=str x35:=hS 16 12 rfl
    obtain ⟨ρ',rfl⟩:∃ ρ',ρ=envs (ovr [12,52,53,54,55,56,57,58,59,60,61,62,63,64,65,66,67] ρ' _) [(12,str x35)]:=⟨ρ,ovr_self hρ ⟨q12,trivial⟩⟩
    have E62:=E25.trans F31
    refine sq_n ?_
    refine ec_sr ?_
    refine o_w (v:=str x35) (r_mov rfl) ?_
    obtain ⟨ha67,h⟩:=h
    obtain ⟨x66,hx66,h⟩:=h
    refine o_call cf_frame_Get rfl (frame_Get_c x35 (hL.fr E62) (eq_ev hx66 (frGet_ev x35 ha67))) rfl rfl ?_
    rintro _ w66 ⟨F66,cs68,rfl,H69⟩
    have E70:=E62.trans F66
    have G73:=(((G15.trans (Fr.ext F17)).trans (Fr.ext F23)).trans (Fr.ext F31)).trans (Fr.ext F66)
    obtain ⟨A76,c77,rfl,H78,hl75⟩:=kFrm_open H69
    refine o_w (v:=.tuple #[.agg (cFrm x66.1 A76 c77).toArray,.int .i64 x66.2]) (r_mov rfl) ?_
    refine o_w (v:=.agg (cFrm x66.1 A76 c77).toArray) (r_ext rfl rfl) ?_
    refine o_w (v:=.int .i64 x66.2) (r_ext rfl rfl) ?_
    refine o_alloc zero_frame_Frame rfl rfl rfl ?_
    intro b79 w79 e79 F79 B79
    have n79:w.heap.size≤b79:=by rw [e79]; exact E70.size
    have m82:w7.heap.size≤b79:=by rw [e79]; exact G73.size
    have E85:=E70.trans F79
    refine o_store rfl B79 (vs:=(cFrm x66.1 A76 c77)) rfl sz_frame_Frame rfl rfl rfl ?_
    intro w91 F91 B91
    have E92:=Ext.st E85 F91 (by simp; omega)
    have G95:Fr L w7 w91:=(G73.trans (Fr.ext F79)).stp F91 (upc (.inr m82) (fun m hm=>by cases hm))
    refine o_w (v:=.int .i64 x66.2) (r_asg rfl) ?_
    refine eo_r ?_
    iterate 2 refine o_w (v:=.bool (worksV)) (r_mov rfl) ?_
    refine o_v (v:=.int .i64 x66.2) (r_mov rfl) (want_t (t:=74) rfl rfl (of_not hc16)) rfl rfl ?_
    refine o_v (v:=.bool (x66.2==0)) (r_int rfl rfl rfl) (want_t (t:=74) rfl rfl (of_not hc16)) rfl rfl ?_
    refine o_v (v:=.agg #[.int .u8 (nth d2 0),.int .u8 (nth d2 1),.int .u8 (nth d2 2),.int .u8 (nth d2 3)]) (r_lda agg_4_uint8 rfl (vs:=[.int .u8 (nth d2 0),.int .u8 (nth d2 1),.int .u8 (nth d2 2),.int .u8 (nth d2 3)]) rfl ((S7.fr G95 sI).now.part (n:=4) rfl)) (want_t (t:=74) rfl rfl (of_not hc16)) rfl rfl ?_
    refine o_v (v:=.agg #[.int .u8 0,.int .u8 0,.int .u8 0,.int .u8 0]) (r_build bld_4_uint8 (vs:=[]) (cells:=[.int .u8 0,.int .u8 0,.int .u8 0,.int .u8 0]) rfl rfl) (want_t (t:=74) rfl rfl (of_not hc16)) rfl rfl ?_
    refine o_v (v:=.bool (((nth d2 0)==0)&&(((nth d2 1)==0)&&(((nth d2 2)==0)&&(((nth d2 3)==0)&&true))))) (r_eqSt eqg_4_uint8 (eqs_4_uint8 (nth d2 0) (nth d2 1) (nth d2 2) (nth d2 3) (0:Int) (0:Int) (0:Int) (0:Int)) rfl rfl) (want_t (t:=74) rfl rfl (of_not hc16)) rfl rfl ?_
    refine o_v (v:=.bool ((x66.2==0)==(((nth d2 0)==0)&&(((nth d2 1)==0)&&(((nth d2 2)==0)&&(((nth d2 3)==0)&&true)))))) (r_boolEq un_bool rfl rfl) (want_t (t:=74) rfl rfl (of_not hc16)) rfl rfl ?_
    refine o_w (v:=.bool ((x66.2==0)==(((nth d2 0)==0)&&(((nth d2 1)==0)&&(((nth d2 2)==0)&&(((nth d2 3)==0)&&true)))))) (r_pickT rfl (of_not hc16) rfl) ?_
    refine o_w (v:=.bool ((x66.2==0)==(((nth d2 0)==0)&&(((nth d2 1)==0)&&(((nth d2 2)==0)&&(((nth d2 3)==0)&&true)))))) (r_asg rfl) ?_
    refine eo_nil_sq ?_
    refine ec_ret ?_
    subst h
    exact (end1 rfl ⟨_,rfl,E92,rfl⟩)
end Go.Proofs.YtdfjbkoimpjkaaaGreat
