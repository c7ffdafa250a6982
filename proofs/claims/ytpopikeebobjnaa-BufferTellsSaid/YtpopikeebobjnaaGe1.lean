/- The law BufferTells: what it comes to. -/
import Derived.Test.YtpopikeebobjnaaFx
namespace Go.Proofs.Ytpopikeebobjnaa
open Go Go.RowKit
set_option linter.unusedVariables false
set_option linter.unusedSimpArgs false
def law16_BufferTells_raw (d0:Buf) (d1:Buf) (d2:Arena) (d3:Int) (d4:Ent) (d5:Int) (d6:Int) (y:Bool):Prop :=
 ((!(worksV))=true→(y=false))∧((!(worksV))=false→(((!((((fewB d0)&&(fewB d1))&&(fewA d2))&&(fewE d4)))=true→(y=(worksV)))∧((!((((fewB d0)&&(fewB d1))&&(fewA d2))&&(fewE d4)))=false→(smB d0∧(∃ x77,x77=(ofB d0)∧(smB x77∧(sma d2∧(∃ x118,x118=(resetB d0)∧(smB x118∧(∃ x122,x122=(ofB x118)∧(smB d0∧(∃ x127,x127=(ofB d0)∧(∃ x132,x132=(resetB x127)∧(smB x122∧(smB d0∧(sma d2∧(∃ x203,x203=(mendB d0 d2 d3)∧(smB x203∧(∃ x209,x209=(ofB x203)∧(smB d0∧(∃ x214,x214=(ofB d0)∧(smB x214∧(sma d2∧(∃ x219,x219=(mendB x214 d2 d3)∧(smB x209∧(smN d0∧(sma d2∧(∃ x316,x316=(noteB d0 d2 d3 d4)∧(smB x316∧(∃ x322,x322=(ofB x316)∧(smB d0∧(∃ x327,x327=(ofB d0)∧(smN x327∧(sma d2∧(∃ x332,x332=(noteB x327 d2 d3 d4)∧(smB x322∧(smB d0∧(sma d2∧(∃ x457,x457=(ackB d0 d2 d3 d5 d6)∧(smB x457∧(∃ x463,x463=(ofB x457)∧(smB d0∧(∃ x468,x468=(ofB d0)∧(smB x468∧(sma d2∧(∃ x473,x473=(ackB x468 d2 d3 d5 d6)∧(smB x463∧(smB d0∧(sma d2∧(∃ x590,x590=(someB d0 d2 d3 d6)∧(smB d0∧(∃ x596,x596=(ofB d0)∧(smB x596∧(sma d2∧(∃ x601,x601=(someB x596 d2 d3 d6)∧(sml x590∧(smB d0∧(∃ x711,x711=(ofB d0)∧(smB d1∧(∃ x716,x716=(ofB d1)∧(smB x711∧((smB d0)∧((sma d2)∧((((((((((checkB d0 d2 d3)==(0:Int))==(okB x77 d2 d3))&&(sameB x122 x132))&&(sameB x209 x219))&&(sameB x322 x332))&&(sameB x463 x473))&&(allE x590 x601))=true→smB d0)∧(y=(((((((((checkB d0 d2 d3)==(0:Int))==(okB x77 d2 d3))&&(sameB x122 x132))&&(sameB x209 x219))&&(sameB x322 x332))&&(sameB x463 x473))&&(allE x590 x601))&&((sameB d0 d1)==(sameB x711 x716))))))))))))))))))))))))))))))))))))))))))))))))))))))))))))))))))))
set_option maxRecDepth 20000 in
set_option maxHeartbeats 4000000 in
theorem law16_BufferTells_c {L:List Nat} {w:World} {csP0:List Value} (d0:Buf) (HP0:Stb L w (fun w=>kBuf.r w csP0 d0)) {csP1:List Value} (d1:Buf) (HP1:Stb L w (fun w=>kBuf.r w csP1 d1)) {csP2:List Value} (d2:Arena) (HP2:Stb L w (fun w=>kArena.r w csP2 d2)) (d3:Int) {csP4:List Value} (d4:Ent) (HP4:Stb L w (fun w=>kEnt.r w csP4 d4)) (d5:Int) (d6:Int) (hL:Lt L w) {y:Bool} (h:law16_BufferTells_raw d0 d1 d2 d3 d4 d5 d6 y) :
  Calls Try.prog 3 [.agg csP0.toArray,.agg csP1.toArray,.agg csP2.toArray,.int .i64 d3,.agg csP4.toArray,.int .i64 d5,.int .i64 d6].toArray w (Ret fun v w'=>Ext w w'∧v=.bool y):=by
 obtain ⟨A1,c2,rfl,H3⟩:=kBuf_open HP0
 obtain ⟨A4,c5,rfl,H6⟩:=kBuf_open HP1
 obtain ⟨A7,c8,A10,c11,rfl,H9,H12⟩:=kArena_open HP2
 obtain ⟨A13,c14,A16,c17,rfl,H15,H18⟩:=kEnt_open HP4
 unfold law16_BufferTells_raw at h
 refine calls_ec Try.func3 rfl rfl rfl ?_
 refine ec_seq ?_
 refine ec_region ?_
 refine o_box (cs:=(cBuf d0 A1 c2)) rfl rfl rfl ?_
 intro b19 w19 e19 F19 B19
 have S19:=B19.stb (nin hL e19)
 have G20:Fr L w w19:=Fr.ext F19
 refine o_box (cs:=(cBuf d1 A4 c5)) rfl rfl rfl ?_
 intro b21 w21 e21 F21 B21
 have S21:=B21.stb (nin (hL.fr F19) e21)
 have E22:=F19.trans F21
 have G24:Fr L w19 w21:=Fr.ext F21
 refine o_box (cs:=(cArena d2 A7 c8 A10 c11)) rfl rfl rfl ?_
 intro b25 w25 e25 F25 B25
 have S25:=B25.stb (nin (hL.fr E22) e25)
 have E26:=E22.trans F25
 have G29:Fr L w21 w25:=Fr.ext F25
 refine o_box (cs:=(cEnt d4 A13 c14 A16 c17)) rfl rfl rfl ?_
 intro b30 w30 e30 F30 B30
 have S30:=B30.stb (nin (hL.fr E26) e30)
 have E31:=E26.trans F30
 have G35:Fr L w25 w30:=Fr.ext F30
 refine o_w (v:=.bool false) (r_asg rfl) ?_
 refine eo_nil_sq ?_
 refine ec_seq ?_
 refine ec_region ?_
 refine o_call cf_law16_works rfl (law16_works_c (hL.fr E31) (works16_ev)) rfl rfl ?_
 rintro _ w36 ⟨F36,rfl⟩
 have E37:=E31.trans F36
 have G38:=(((G20.trans (Fr.ext F21)).trans (Fr.ext F25)).trans (Fr.ext F30)).trans (Fr.ext F36)
 have G42:Fr L w30 w36:=Fr.ext F36
 refine o_w (v:=.bool (worksV)) (r_asg rfl) ?_
 refine eo_nil_sq ?_
 iterate 2 refine ec_seq ?_
 refine ec_region ?_
 refine o_w (v:=.bool (worksV)) (r_mov rfl) ?_
 refine o_w (v:=.bool (!(worksV))) (r_not rfl) ?_
 refine eo_nil_sq ?_
 refine ec_cond rfl (fun hc43=>?_) (fun hc43=>?_)
 ·replace h:=h.1 hc43
  refine ec_seq ?_
  refine ec_region ?_
  refine o_w (v:=.bool false) (r_asg rfl) ?_
  refine eo_nil_sq ?_
  refine ec_ret ?_
  refine sq_ret ?_
  subst h
  exact (end1 rfl ⟨_,rfl,E37,rfl⟩)
 ·replace h:=h.2 hc43
  refine ec_skip ?_
  refine sq_n ?_
  refine ec_seq ?_
  refine ec_region ?_
  refine o_w (v:=.agg (cBuf d0 A1 c2).toArray) (r_lda agg_buffer_Buffer rfl (vs:=(cBuf d0 A1 c2)) rfl ((S19.fr (((G24.trans (Fr.ext F25)).trans (Fr.ext F30)).trans (Fr.ext F36)) (fun _ h=>h)).now.part (n:=3) rfl)) ?_
  refine o_call cf_law16_Few rfl (law16_Few_c d0 (kBuf_mk (d:=d0) (H3.fr G38 (fun _ h=>h))) (hL.fr E37) (fewB_ev d0)) rfl rfl ?_
  rintro _ w47 ⟨F47,rfl⟩
  have E48:=E37.trans F47
  have G50:=(((G24.trans (Fr.ext F25)).trans (Fr.ext F30)).trans (Fr.ext F36)).trans (Fr.ext F47)
  refine o_w (v:=.bool (fewB d0)) (r_mov rfl) ?_
  refine o_vg (v:=.agg (cBuf d1 A4 c5).toArray) (want_ct (t:=29) rfl rfl) (fun hk=>(r_lda agg_buffer_Buffer rfl (vs:=(cBuf d1 A4 c5)) rfl ((S21.fr (((G29.trans (Fr.ext F30)).trans (Fr.ext F36)).trans (Fr.ext F47)) (fun _ h=>h)).now.part (n:=3) rfl))) rfl rfl ?_
  refine o_callg (V:=.bool (fewB d1)) cf_law16_Few (want_ct (t:=29) rfl rfl) (fun hk=>(mapv1 (gdT hk))) (fun hk=>(law16_Few_c d1 (kBuf_mk (d:=d1) (H6.fr (G38.trans (Fr.ext F47)) (fun _ h=>h))) (hL.fr E48) (fewB_ev d1))) rfl ?_
  intro w54 F54
  have E55:=E48.trans F54
  have G58:=(((G29.trans (Fr.ext F30)).trans (Fr.ext F36)).trans (Fr.ext F47)).trans (Fr.ext F54)
  refine o_w (v:=.bool ((fewB d0)&&(fewB d1))) (r_pickAnd rfl (fun ht=>(gdT ht)) rfl) ?_
  refine o_w (v:=.bool ((fewB d0)&&(fewB d1))) (r_mov rfl) ?_
  refine o_vg (v:=.agg (cArena d2 A7 c8 A10 c11).toArray) (want_ct (t:=33) rfl rfl) (fun hk=>(r_lda agg_api_Arena rfl (vs:=(cArena d2 A7 c8 A10 c11)) rfl ((S25.fr (((G35.trans (Fr.ext F36)).trans (Fr.ext F47)).trans (Fr.ext F54)) (fun _ h=>h)).now.part (n:=3) rfl))) rfl rfl ?_
  refine o_callg (V:=.bool (fewA d2)) cf_law08_Few (want_ct (t:=33) rfl rfl) (fun hk=>(mapv1 (gdT hk))) (fun hk=>(law08_Few_c d2 (kArena_mk (d:=d2) (H9.fr ((G38.trans (Fr.ext F47)).trans (Fr.ext F54)) (fun _ h=>h)) (H12.fr ((G38.trans (Fr.ext F47)).trans (Fr.ext F54)) (fun _ h=>h))) (hL.fr E55) (fewA_ev d2))) rfl ?_
  intro w61 F61
  have E62:=E55.trans F61
  have G66:=(((G35.trans (Fr.ext F36)).trans (Fr.ext F47)).trans (Fr.ext F54)).trans (Fr.ext F61)
  refine o_w (v:=.bool (((fewB d0)&&(fewB d1))&&(fewA d2))) (r_pickAnd rfl (fun ht=>(gdT ht)) rfl) ?_
  refine o_w (v:=.bool (((fewB d0)&&(fewB d1))&&(fewA d2))) (r_mov rfl) ?_
  refine o_vg (v:=.agg (cEnt d4 A13 c14 A16 c17).toArray) (want_ct (t:=37) rfl rfl) (fun hk=>(r_lda agg_api_Entry rfl (vs:=(cEnt d4 A13 c14 A16 c17)) rfl ((S30.fr (((G42.trans (Fr.ext F47)).trans (Fr.ext F54)).trans (Fr.ext F61)) (fun _ h=>h)).now.part (n:=9) rfl))) rfl rfl ?_
  refine o_callg (V:=.bool (fewE d4)) cf_law07_Few (want_ct (t:=37) rfl rfl) (fun hk=>(mapv1 (gdT hk))) (fun hk=>(law07_Few_c d4 (kEnt_mk (d:=d4) (H15.fr (((G38.trans (Fr.ext F47)).trans (Fr.ext F54)).trans (Fr.ext F61)) (fun _ h=>h)) (H18.fr (((G38.trans (Fr.ext F47)).trans (Fr.ext F54)).trans (Fr.ext F61)) (fun _ h=>h))) (hL.fr E62) (fewE_ev d4))) rfl ?_
  intro w68 F68
  have E69:=E62.trans F68
  have G70:=(((G38.trans (Fr.ext F47)).trans (Fr.ext F54)).trans (Fr.ext F61)).trans (Fr.ext F68)
  have G74:=(((G42.trans (Fr.ext F47)).trans (Fr.ext F54)).trans (Fr.ext F61)).trans (Fr.ext F68)
  refine o_w (v:=.bool ((((fewB d0)&&(fewB d1))&&(fewA d2))&&(fewE d4))) (r_pickAnd rfl (fun ht=>(gdT ht)) rfl) ?_
  refine o_w (v:=.bool ((((fewB d0)&&(fewB d1))&&(fewA d2))&&(fewE d4))) (r_asg rfl) ?_
  refine eo_nil_sq ?_
  iterate 2 refine ec_seq ?_
  refine ec_region ?_
  refine o_w (v:=.bool ((((fewB d0)&&(fewB d1))&&(fewA d2))&&(fewE d4))) (r_mov rfl) ?_
  refine o_w (v:=.bool (!((((fewB d0)&&(fewB d1))&&(fewA d2))&&(fewE d4)))) (r_not rfl) ?_
  refine eo_nil_sq ?_
  refine ec_cond rfl (fun hc75=>?_) (fun hc75=>?_)
  ·replace h:=h.1 hc75
   refine ec_seq ?_
   refine ec_region ?_
   refine o_w (v:=.bool (worksV)) (r_mov rfl) ?_
   refine o_w (v:=.bool (worksV)) (r_asg rfl) ?_
   refine eo_nil_sq ?_
   refine ec_ret ?_
   refine sq_ret ?_
   subst h
   exact (end1 rfl ⟨_,rfl,E69,rfl⟩)
  ·replace h:=h.2 hc75
   refine ec_skip ?_
   refine sq_n ?_
   refine ec_seq ?_
   obtain ⟨ha78,h⟩:=h
   obtain ⟨x77,hx77,h⟩:=h
   obtain ⟨ha83,h⟩:=h
   obtain ⟨ha84,h⟩:=h
   refine ec_any0 (by kernel_rfl) [[],[0],[],[],[0,1,2,3],[0,1,2,3,4]] [17,44,45,46,47,48] [fun v _=>v=(.agg (cBuf d0 A1 c2).toArray:Value),fun v w'=>∃ A79 c80,v=(.agg (cBuf x77 A79 c80).toArray:Value)∧Stb L w' (fun w=>SlC kNm w A79 c80 x77.names),fun v _=>v=(.agg (cArena d2 A7 c8 A10 c11).toArray:Value),fun v _=>v=(.int .i64 d3:Value),fun v _=>v=(.bool (okB x77 d2 d3):Value),fun v _=>v=(.bool (okB x77 d2 d3):Value)] (by kernel_rfl) ⟨fun _ _ _ _ _ h=>h,fun _ v w' w'' F h=>by obtain ⟨A79,c80,hv,H81⟩:=h; exact ⟨A79,c80,hv,(H81.ex F)⟩,fun _ _ _ _ _ h=>h,fun _ _ _ _ _ h=>h,fun _ _ _ _ _ h=>h,fun _ _ _ _ _ h=>h,trivial⟩ ?_ ?_
   ·refine ⟨?_,?_,?_,?_,?_,?_,trivial⟩
    ·intro ρ w76o F76o hS hρ
     have G87:=(((G50.trans (Fr.ext F54)).trans (Fr.ext F61)).trans (Fr.ext F68)).trans (Fr.ext F76o)
     have q7:ρ 7=.pointer (some ⟨b19,0,none⟩):=hρ 7 (by kernel_rfl)
     exact o_q (r_lda agg_buffer_Buffer q7 (vs:=(cBuf d0 A1 c2)) rfl ((S19.fr G87 (fun _ h=>h)).now.part (n:=3) rfl)) ⟨Fr.refl _ _,rfl⟩
    ·intro ρ w76o F76o hS hρ
     have E91:=E69.trans F76o
     have q44:ρ 44=.agg (cBuf d0 A1 c2).toArray:=hS 0 (by decide) 44 rfl
     refine o_call cf_law16_Of (by simp only [List.map,ev,q44] <;> rfl) (law16_Of_c d0 (kBuf_mk (d:=d0) (H3.fr (G70.trans (Fr.ext F76o)) (fun _ h=>h))) (hL.fr E91) (eq_ev hx77 (ofB_ev d0 ha78))) rfl rfl ?_
     rintro _ w' ⟨F,cs97,rfl,H98⟩
     obtain ⟨A79,c80,rfl,H81⟩:=kBuf_open H98
     exact eo_nil ⟨rfl,rfl,_,rfl,F,⟨A79,c80,rfl,H81⟩⟩
    ·intro ρ w76o F76o hS hρ
     have q9:ρ 9=.pointer (some ⟨b25,0,none⟩):=hρ 9 (by kernel_rfl)
     exact o_q (r_lda agg_api_Arena q9 (vs:=(cArena d2 A7 c8 A10 c11)) rfl ((S25.fr ((G66.trans (Fr.ext F68)).trans (Fr.ext F76o)) (fun _ h=>h)).now.part (n:=3) rfl)) ⟨Fr.refl _ _,rfl⟩
    ·intro ρ w76o F76o hS hρ
     have q3:ρ 3=.int .i64 d3:=hρ 3 (by kernel_rfl)
     exact o_q (r_mov q3) ⟨Fr.refl _ _,rfl⟩
    ·intro ρ w76o F76o hS hρ
     have E105:=E69.trans F76o
     obtain ⟨A79,c80,q45,H81⟩:=hS 1 (by decide) 45 rfl
     have q46:ρ 46=.agg (cArena d2 A7 c8 A10 c11).toArray:=hS 2 (by decide) 46 rfl
     have q47:ρ 47=.int .i64 d3:=hS 3 (by decide) 47 rfl
     refine o_call cf_ref16_Check (by simp only [List.map,ev,q45,q46,q47] <;> rfl) (ref16_Check_c x77 (kBuf_mk (d:=x77) H81) d2 (kArena_mk (d:=d2) (H9.fr (G70.trans (Fr.ext F76o)) (fun _ h=>h)) (H12.fr (G70.trans (Fr.ext F76o)) (fun _ h=>h))) d3 (hL.fr E105) (refCheckB_ev x77 d2 d3 ha83 ha84)) rfl rfl ?_
     rintro _ w' ⟨F,rfl⟩
     exact eo_nil ⟨rfl,rfl,_,rfl,F,rfl⟩
    ·intro ρ w76o F76o hS hρ
     have q48:ρ 48=.bool (okB x77 d2 d3):=hS 4 (by decide) 48 rfl
     exact o_q (r_asg q48) ⟨Fr.refl _ _,rfl⟩
   ·intro ρ w76 F76 hS hρ
    have q17:ρ 17=.bool (okB x77 d2 d3):=hS 5 17 rfl
    obtain ⟨ρ',rfl⟩:∃ ρ',ρ=envs (ovr [17,44,45,46,47,48] ρ' _) [(17,.bool (okB x77 d2 d3))]:=⟨ρ,ovr_self hρ ⟨q17,trivial⟩⟩
    have E111:=E69.trans F76
    have G113:=(((G50.trans (Fr.ext F54)).trans (Fr.ext F61)).trans (Fr.ext F68)).trans (Fr.ext F76)
    refine sq_n ?_
    refine ec_seq ?_
    obtain ⟨x118,hx118,h⟩:=h
    obtain ⟨ha123,h⟩:=h
    obtain ⟨x122,hx122,h⟩:=h
    obtain ⟨ha128,h⟩:=h
    obtain ⟨x127,hx127,h⟩:=h
    obtain ⟨x132,hx132,h⟩:=h
    obtain ⟨ha137,h⟩:=h
    refine ec_any0 (by kernel_rfl) [[],[0],[0,1],[],[0,1,2,3],[0,1,2,3,4],[0,1,2,3,4,5],[0,1,2,3,4,5,6]] [18,49,50,51,52,53,54,55] [fun v _=>v=(.agg (cBuf d0 A1 c2).toArray:Value),fun v w'=>∃ A119 c120,v=(.agg (cBuf x118 A119 c120).toArray:Value)∧Stb L w' (fun w=>SlC kNm w A119 c120 x118.names),fun v w'=>∃ A124 c125,v=(.agg (cBuf x122 A124 c125).toArray:Value)∧Stb L w' (fun w=>SlC kNm w A124 c125 x122.names),fun v _=>v=(.agg (cBuf d0 A1 c2).toArray:Value),fun v w'=>∃ A129 c130,v=(.agg (cBuf x127 A129 c130).toArray:Value)∧Stb L w' (fun w=>SlC kNm w A129 c130 x127.names),fun v w'=>∃ A133 c134,v=(.agg (cBuf x132 A133 c134).toArray:Value)∧Stb L w' (fun w=>SlC kNm w A133 c134 x132.names),fun v _=>v=(.bool (sameB x122 x132):Value),fun v _=>v=(.bool (sameB x122 x132):Value)] (by kernel_rfl) ⟨fun _ _ _ _ _ h=>h,fun _ v w' w'' F h=>by obtain ⟨A119,c120,hv,H121⟩:=h; exact ⟨A119,c120,hv,(H121.ex F)⟩,fun _ v w' w'' F h=>by obtain ⟨A124,c125,hv,H126⟩:=h; exact ⟨A124,c125,hv,(H126.ex F)⟩,fun _ _ _ _ _ h=>h,fun _ v w' w'' F h=>by obtain ⟨A129,c130,hv,H131⟩:=h; exact ⟨A129,c130,hv,(H131.ex F)⟩,fun _ v w' w'' F h=>by obtain ⟨A133,c134,hv,H135⟩:=h; exact ⟨A133,c134,hv,(H135.ex F)⟩,fun _ _ _ _ _ h=>h,fun _ _ _ _ _ h=>h,trivial⟩ ?_ ?_
    ·refine ⟨?_,?_,?_,?_,?_,?_,?_,?_,trivial⟩
     ·intro ρ w117o F117o hS hρ
      have q7:ρ 7=.pointer (some ⟨b19,0,none⟩):=hρ 7 (by kernel_rfl)
      exact o_q (r_lda agg_buffer_Buffer q7 (vs:=(cBuf d0 A1 c2)) rfl ((S19.fr (G113.trans (Fr.ext F117o)) (fun _ h=>h)).now.part (n:=3) rfl)) ⟨Fr.refl _ _,rfl⟩
     ·intro ρ w117o F117o hS hρ
      have E145:=E111.trans F117o
      have q49:ρ 49=.agg (cBuf d0 A1 c2).toArray:=hS 0 (by decide) 49 rfl
      refine o_call cf_buffer_Reset (by simp only [List.map,ev,q49] <;> rfl) (buffer_Reset_c d0 (kBuf_mk (d:=d0) (H3.fr ((G70.trans (Fr.ext F76)).trans (Fr.ext F117o)) (fun _ h=>h))) (hL.fr E145) (eq_ev hx118 (bufReset_ev d0))) rfl rfl ?_
      rintro _ w' ⟨F,cs152,rfl,H153⟩
      obtain ⟨A119,c120,rfl,H121⟩:=kBuf_open H153
      exact eo_nil ⟨rfl,rfl,_,rfl,F,⟨A119,c120,rfl,H121⟩⟩
     ·intro ρ w117o F117o hS hρ
      have E154:=E111.trans F117o
      obtain ⟨A119,c120,q50,H121⟩:=hS 1 (by decide) 50 rfl
      refine o_call cf_law16_Of (by simp only [List.map,ev,q50] <;> rfl) (law16_Of_c x118 (kBuf_mk (d:=x118) H121) (hL.fr E154) (eq_ev hx122 (ofB_ev x118 ha123))) rfl rfl ?_
      rintro _ w' ⟨F,cs161,rfl,H162⟩
      obtain ⟨A124,c125,rfl,H126⟩:=kBuf_open H162
      exact eo_nil ⟨rfl,rfl,_,rfl,F,⟨A124,c125,rfl,H126⟩⟩
     ·intro ρ w117o F117o hS hρ
      have q7:ρ 7=.pointer (some ⟨b19,0,none⟩):=hρ 7 (by kernel_rfl)
      exact o_q (r_lda agg_buffer_Buffer q7 (vs:=(cBuf d0 A1 c2)) rfl ((S19.fr (G113.trans (Fr.ext F117o)) (fun _ h=>h)).now.part (n:=3) rfl)) ⟨Fr.refl _ _,rfl⟩
     ·intro ρ w117o F117o hS hρ
      have E170:=E111.trans F117o
      have q52:ρ 52=.agg (cBuf d0 A1 c2).toArray:=hS 3 (by decide) 52 rfl
      refine o_call cf_law16_Of (by simp only [List.map,ev,q52] <;> rfl) (law16_Of_c d0 (kBuf_mk (d:=d0) (H3.fr ((G70.trans (Fr.ext F76)).trans (Fr.ext F117o)) (fun _ h=>h))) (hL.fr E170) (eq_ev hx127 (ofB_ev d0 ha128))) rfl rfl ?_
      rintro _ w' ⟨F,cs177,rfl,H178⟩
      obtain ⟨A129,c130,rfl,H131⟩:=kBuf_open H178
      exact eo_nil ⟨rfl,rfl,_,rfl,F,⟨A129,c130,rfl,H131⟩⟩
     ·intro ρ w117o F117o hS hρ
      have E179:=E111.trans F117o
      obtain ⟨A129,c130,q53,H131⟩:=hS 4 (by decide) 53 rfl
      refine o_call cf_ref16_Reset (by simp only [List.map,ev,q53] <;> rfl) (ref16_Reset_c x127 (kBuf_mk (d:=x127) H131) (hL.fr E179) (eq_ev hx132 (refReset_ev x127))) rfl rfl ?_
      rintro _ w' ⟨F,cs186,rfl,H187⟩
      obtain ⟨A133,c134,rfl,H135⟩:=kBuf_open H187
      exact eo_nil ⟨rfl,rfl,_,rfl,F,⟨A133,c134,rfl,H135⟩⟩
     ·intro ρ w117o F117o hS hρ
      have E188:=E111.trans F117o
      obtain ⟨A124,c125,q51,H126⟩:=hS 2 (by decide) 51 rfl
      obtain ⟨A133,c134,q54,H135⟩:=hS 5 (by decide) 54 rfl
      refine o_call cf_ref16_Same (by simp only [List.map,ev,q51,q54] <;> rfl) (ref16_Same_c x122 (kBuf_mk (d:=x122) H126) x132 (kBuf_mk (d:=x132) H135) (hL.fr E188) (refSameB_ev x122 x132 ha137)) rfl rfl ?_
      rintro _ w' ⟨F,rfl⟩
      exact eo_nil ⟨rfl,rfl,_,rfl,F,rfl⟩
     ·intro ρ w117o F117o hS hρ
      have q55:ρ 55=.bool (sameB x122 x132):=hS 6 (by decide) 55 rfl
      exact o_q (r_asg q55) ⟨Fr.refl _ _,rfl⟩
    ·intro ρ w117 F117 hS hρ
     have q18:ρ 18=.bool (sameB x122 x132):=hS 7 18 rfl
     obtain ⟨ρ',rfl⟩:∃ ρ',ρ=envs (ovr [18,49,50,51,52,53,54,55] ρ' _) [(18,.bool (sameB x122 x132))]:=⟨ρ,ovr_self hρ ⟨q18,trivial⟩⟩
     have E195:=E111.trans F117
     have G198:=(((G58.trans (Fr.ext F61)).trans (Fr.ext F68)).trans (Fr.ext F76)).trans (Fr.ext F117)
     refine sq_n ?_
     refine ec_seq ?_
     obtain ⟨ha204,h⟩:=h
     obtain ⟨ha205,h⟩:=h
     obtain ⟨x203,hx203,h⟩:=h
     obtain ⟨ha210,h⟩:=h
     obtain ⟨x209,hx209,h⟩:=h
     obtain ⟨ha215,h⟩:=h
     obtain ⟨x214,hx214,h⟩:=h
     obtain ⟨ha220,h⟩:=h
     obtain ⟨ha221,h⟩:=h
     obtain ⟨x219,hx219,h⟩:=h
     obtain ⟨ha226,h⟩:=h
     refine ec_any0 (by kernel_rfl) [[],[],[],[0,1,2],[0,1,2,3],[],[0,1,2,3,4,5],[],[],[0,1,2,3,4,5,6,7,8],[0,1,2,3,4,5,6,7,8,9],[0,1,2,3,4,5,6,7,8,9,10]] [19,56,57,58,59,60,61,62,63,64,65,66] [fun v _=>v=(.agg (cBuf d0 A1 c2).toArray:Value),fun v _=>v=(.agg (cArena d2 A7 c8 A10 c11).toArray:Value),fun v _=>v=(.int .i64 d3:Value),fun v w'=>∃ A206 c207,v=(.agg (cBuf x203 A206 c207).toArray:Value)∧Stb L w' (fun w=>SlC kNm w A206 c207 x203.names),fun v w'=>∃ A211 c212,v=(.agg (cBuf x209 A211 c212).toArray:Value)∧Stb L w' (fun w=>SlC kNm w A211 c212 x209.names),fun v _=>v=(.agg (cBuf d0 A1 c2).toArray:Value),fun v w'=>∃ A216 c217,v=(.agg (cBuf x214 A216 c217).toArray:Value)∧Stb L w' (fun w=>SlC kNm w A216 c217 x214.names),fun v _=>v=(.agg (cArena d2 A7 c8 A10 c11).toArray:Value),fun v _=>v=(.int .i64 d3:Value),fun v w'=>∃ A222 c223,v=(.agg (cBuf x219 A222 c223).toArray:Value)∧Stb L w' (fun w=>SlC kNm w A222 c223 x219.names),fun v _=>v=(.bool (sameB x209 x219):Value),fun v _=>v=(.bool (sameB x209 x219):Value)] (by kernel_rfl) ⟨fun _ _ _ _ _ h=>h,fun _ _ _ _ _ h=>h,fun _ _ _ _ _ h=>h,fun _ v w' w'' F h=>by obtain ⟨A206,c207,hv,H208⟩:=h; exact ⟨A206,c207,hv,(H208.ex F)⟩,fun _ v w' w'' F h=>by obtain ⟨A211,c212,hv,H213⟩:=h; exact ⟨A211,c212,hv,(H213.ex F)⟩,fun _ _ _ _ _ h=>h,fun _ v w' w'' F h=>by obtain ⟨A216,c217,hv,H218⟩:=h; exact ⟨A216,c217,hv,(H218.ex F)⟩,fun _ _ _ _ _ h=>h,fun _ _ _ _ _ h=>h,fun _ v w' w'' F h=>by obtain ⟨A222,c223,hv,H224⟩:=h; exact ⟨A222,c223,hv,(H224.ex F)⟩,fun _ _ _ _ _ h=>h,fun _ _ _ _ _ h=>h,trivial⟩ ?_ ?_
     ·refine ⟨?_,?_,?_,?_,?_,?_,?_,?_,?_,?_,?_,?_,trivial⟩
      ·intro ρ w202o F202o hS hρ
       have q7:ρ 7=.pointer (some ⟨b19,0,none⟩):=hρ 7 (by kernel_rfl)
       exact o_q (r_lda agg_buffer_Buffer q7 (vs:=(cBuf d0 A1 c2)) rfl ((S19.fr ((G113.trans (Fr.ext F117)).trans (Fr.ext F202o)) (fun _ h=>h)).now.part (n:=3) rfl)) ⟨Fr.refl _ _,rfl⟩
      ·intro ρ w202o F202o hS hρ
       have G239:=(((G66.trans (Fr.ext F68)).trans (Fr.ext F76)).trans (Fr.ext F117)).trans (Fr.ext F202o)
       have q9:ρ 9=.pointer (some ⟨b25,0,none⟩):=hρ 9 (by kernel_rfl)
       exact o_q (r_lda agg_api_Arena q9 (vs:=(cArena d2 A7 c8 A10 c11)) rfl ((S25.fr G239 (fun _ h=>h)).now.part (n:=3) rfl)) ⟨Fr.refl _ _,rfl⟩
      ·intro ρ w202o F202o hS hρ
       have q3:ρ 3=.int .i64 d3:=hρ 3 (by kernel_rfl)
       exact o_q (r_mov q3) ⟨Fr.refl _ _,rfl⟩
      ·intro ρ w202o F202o hS hρ
       have E243:=E195.trans F202o
       have q56:ρ 56=.agg (cBuf d0 A1 c2).toArray:=hS 0 (by decide) 56 rfl
       have q57:ρ 57=.agg (cArena d2 A7 c8 A10 c11).toArray:=hS 1 (by decide) 57 rfl
       have q58:ρ 58=.int .i64 d3:=hS 2 (by decide) 58 rfl
       refine o_call cf_buffer_Mend (by simp only [List.map,ev,q56,q57,q58] <;> rfl) (buffer_Mend_c d0 (kBuf_mk (d:=d0) (H3.fr (((G70.trans (Fr.ext F76)).trans (Fr.ext F117)).trans (Fr.ext F202o)) (fun _ h=>h))) d2 (kArena_mk (d:=d2) (H9.fr (((G70.trans (Fr.ext F76)).trans (Fr.ext F117)).trans (Fr.ext F202o)) (fun _ h=>h)) (H12.fr (((G70.trans (Fr.ext F76)).trans (Fr.ext F117)).trans (Fr.ext F202o)) (fun _ h=>h))) d3 (hL.fr E243) (eq_ev hx203 (bufMend_ev d0 d2 d3 ha204 ha205))) rfl rfl ?_
       rintro _ w' ⟨F,cs251,rfl,H252⟩
       obtain ⟨A206,c207,rfl,H208⟩:=kBuf_open H252
       exact eo_nil ⟨rfl,rfl,_,rfl,F,⟨A206,c207,rfl,H208⟩⟩
      ·intro ρ w202o F202o hS hρ
       have E253:=E195.trans F202o
       obtain ⟨A206,c207,q59,H208⟩:=hS 3 (by decide) 59 rfl
       refine o_call cf_law16_Of (by simp only [List.map,ev,q59] <;> rfl) (law16_Of_c x203 (kBuf_mk (d:=x203) H208) (hL.fr E253) (eq_ev hx209 (ofB_ev x203 ha210))) rfl rfl ?_
       rintro _ w' ⟨F,cs261,rfl,H262⟩
       obtain ⟨A211,c212,rfl,H213⟩:=kBuf_open H262
       exact eo_nil ⟨rfl,rfl,_,rfl,F,⟨A211,c212,rfl,H213⟩⟩
      ·intro ρ w202o F202o hS hρ
       have q7:ρ 7=.pointer (some ⟨b19,0,none⟩):=hρ 7 (by kernel_rfl)
       exact o_q (r_lda agg_buffer_Buffer q7 (vs:=(cBuf d0 A1 c2)) rfl ((S19.fr ((G113.trans (Fr.ext F117)).trans (Fr.ext F202o)) (fun _ h=>h)).now.part (n:=3) rfl)) ⟨Fr.refl _ _,rfl⟩
      ·intro ρ w202o F202o hS hρ
       have E271:=E195.trans F202o
       have q61:ρ 61=.agg (cBuf d0 A1 c2).toArray:=hS 5 (by decide) 61 rfl
       refine o_call cf_law16_Of (by simp only [List.map,ev,q61] <;> rfl) (law16_Of_c d0 (kBuf_mk (d:=d0) (H3.fr (((G70.trans (Fr.ext F76)).trans (Fr.ext F117)).trans (Fr.ext F202o)) (fun _ h=>h))) (hL.fr E271) (eq_ev hx214 (ofB_ev d0 ha215))) rfl rfl ?_
       rintro _ w' ⟨F,cs279,rfl,H280⟩
       obtain ⟨A216,c217,rfl,H218⟩:=kBuf_open H280
       exact eo_nil ⟨rfl,rfl,_,rfl,F,⟨A216,c217,rfl,H218⟩⟩
      ·intro ρ w202o F202o hS hρ
       have G285:=(((G66.trans (Fr.ext F68)).trans (Fr.ext F76)).trans (Fr.ext F117)).trans (Fr.ext F202o)
       have q9:ρ 9=.pointer (some ⟨b25,0,none⟩):=hρ 9 (by kernel_rfl)
       exact o_q (r_lda agg_api_Arena q9 (vs:=(cArena d2 A7 c8 A10 c11)) rfl ((S25.fr G285 (fun _ h=>h)).now.part (n:=3) rfl)) ⟨Fr.refl _ _,rfl⟩
      ·intro ρ w202o F202o hS hρ
       have q3:ρ 3=.int .i64 d3:=hρ 3 (by kernel_rfl)
       exact o_q (r_mov q3) ⟨Fr.refl _ _,rfl⟩
      ·intro ρ w202o F202o hS hρ
       have E289:=E195.trans F202o
       obtain ⟨A216,c217,q62,H218⟩:=hS 6 (by decide) 62 rfl
       have q63:ρ 63=.agg (cArena d2 A7 c8 A10 c11).toArray:=hS 7 (by decide) 63 rfl
       have q64:ρ 64=.int .i64 d3:=hS 8 (by decide) 64 rfl
       refine o_call cf_ref16_Mend (by simp only [List.map,ev,q62,q63,q64] <;> rfl) (ref16_Mend_c x214 (kBuf_mk (d:=x214) H218) d2 (kArena_mk (d:=d2) (H9.fr (((G70.trans (Fr.ext F76)).trans (Fr.ext F117)).trans (Fr.ext F202o)) (fun _ h=>h)) (H12.fr (((G70.trans (Fr.ext F76)).trans (Fr.ext F117)).trans (Fr.ext F202o)) (fun _ h=>h))) d3 (hL.fr E289) (eq_ev hx219 (refMend_ev x214 d2 d3 ha220 ha221))) rfl rfl ?_
       rintro _ w' ⟨F,cs297,rfl,H298⟩
       obtain ⟨A222,c223,rfl,H224⟩:=kBuf_open H298
       exact eo_nil ⟨rfl,rfl,_,rfl,F,⟨A222,c223,rfl,H224⟩⟩
      ·intro ρ w202o F202o hS hρ
       have E299:=E195.trans F202o
       obtain ⟨A211,c212,q60,H213⟩:=hS 4 (by decide) 60 rfl
       obtain ⟨A222,c223,q65,H224⟩:=hS 9 (by decide) 65 rfl
       refine o_call cf_ref16_Same (by simp only [List.map,ev,q60,q65] <;> rfl) (ref16_Same_c x209 (kBuf_mk (d:=x209) H213) x219 (kBuf_mk (d:=x219) H224) (hL.fr E299) (refSameB_ev x209 x219 ha226)) rfl rfl ?_
       rintro _ w' ⟨F,rfl⟩
       exact eo_nil ⟨rfl,rfl,_,rfl,F,rfl⟩
      ·intro ρ w202o F202o hS hρ
       have q66:ρ 66=.bool (sameB x209 x219):=hS 10 (by decide) 66 rfl
       exact o_q (r_asg q66) ⟨Fr.refl _ _,rfl⟩
     ·intro ρ w202 F202 hS hρ
      have q19:ρ 19=.bool (sameB x209 x219):=hS 11 19 rfl
      obtain ⟨ρ',rfl⟩:∃ ρ',ρ=envs (ovr [19,56,57,58,59,60,61,62,63,64,65,66] ρ' _) [(19,.bool (sameB x209 x219))]:=⟨ρ,ovr_self hρ ⟨q19,trivial⟩⟩
      have E307:=E195.trans F202
      have G311:=(((G66.trans (Fr.ext F68)).trans (Fr.ext F76)).trans (Fr.ext F117)).trans (Fr.ext F202)
      refine sq_n ?_
      refine ec_seq ?_
      obtain ⟨ha317,h⟩:=h
      obtain ⟨ha318,h⟩:=h
      obtain ⟨x316,hx316,h⟩:=h
      obtain ⟨ha323,h⟩:=h
      obtain ⟨x322,hx322,h⟩:=h
      obtain ⟨ha328,h⟩:=h
      obtain ⟨x327,hx327,h⟩:=h
      obtain ⟨ha333,h⟩:=h
      obtain ⟨ha334,h⟩:=h
      obtain ⟨x332,hx332,h⟩:=h
      obtain ⟨ha339,h⟩:=h
      refine ec_any0 (by kernel_rfl) [[],[],[],[],[0,1,2,3],[0,1,2,3,4],[],[0,1,2,3,4,5,6],[],[],[],[0,1,2,3,4,5,6,7,8,9,10],[0,1,2,3,4,5,6,7,8,9,10,11],[0,1,2,3,4,5,6,7,8,9,10,11,12]] [20,67,68,69,70,71,72,73,74,75,76,77,78,79] [fun v _=>v=(.agg (cBuf d0 A1 c2).toArray:Value),fun v _=>v=(.agg (cArena d2 A7 c8 A10 c11).toArray:Value),fun v _=>v=(.int .i64 d3:Value),fun v _=>v=(.agg (cEnt d4 A13 c14 A16 c17).toArray:Value),fun v w'=>∃ A319 c320,v=(.agg (cBuf x316 A319 c320).toArray:Value)∧Stb L w' (fun w=>SlC kNm w A319 c320 x316.names),fun v w'=>∃ A324 c325,v=(.agg (cBuf x322 A324 c325).toArray:Value)∧Stb L w' (fun w=>SlC kNm w A324 c325 x322.names),fun v _=>v=(.agg (cBuf d0 A1 c2).toArray:Value),fun v w'=>∃ A329 c330,v=(.agg (cBuf x327 A329 c330).toArray:Value)∧Stb L w' (fun w=>SlC kNm w A329 c330 x327.names),fun v _=>v=(.agg (cArena d2 A7 c8 A10 c11).toArray:Value),fun v _=>v=(.int .i64 d3:Value),fun v _=>v=(.agg (cEnt d4 A13 c14 A16 c17).toArray:Value),fun v w'=>∃ A335 c336,v=(.agg (cBuf x332 A335 c336).toArray:Value)∧Stb L w' (fun w=>SlC kNm w A335 c336 x332.names),fun v _=>v=(.bool (sameB x322 x332):Value),fun v _=>v=(.bool (sameB x322 x332):Value)] (by kernel_rfl) ⟨fun _ _ _ _ _ h=>h,fun _ _ _ _ _ h=>h,fun _ _ _ _ _ h=>h,fun _ _ _ _ _ h=>h,fun _ v w' w'' F h=>by obtain ⟨A319,c320,hv,H321⟩:=h; exact ⟨A319,c320,hv,(H321.ex F)⟩,fun _ v w' w'' F h=>by obtain ⟨A324,c325,hv,H326⟩:=h; exact ⟨A324,c325,hv,(H326.ex F)⟩,fun _ _ _ _ _ h=>h,fun _ v w' w'' F h=>by obtain ⟨A329,c330,hv,H331⟩:=h; exact ⟨A329,c330,hv,(H331.ex F)⟩,fun _ _ _ _ _ h=>h,fun _ _ _ _ _ h=>h,fun _ _ _ _ _ h=>h,fun _ v w' w'' F h=>by obtain ⟨A335,c336,hv,H337⟩:=h; exact ⟨A335,c336,hv,(H337.ex F)⟩,fun _ _ _ _ _ h=>h,fun _ _ _ _ _ h=>h,trivial⟩ ?_ ?_
      ·refine ⟨?_,?_,?_,?_,?_,?_,?_,?_,?_,?_,?_,?_,?_,?_,trivial⟩
       ·intro ρ w315o F315o hS hρ
        have G342:=((G113.trans (Fr.ext F117)).trans (Fr.ext F202)).trans (Fr.ext F315o)
        have q7:ρ 7=.pointer (some ⟨b19,0,none⟩):=hρ 7 (by kernel_rfl)
        exact o_q (r_lda agg_buffer_Buffer q7 (vs:=(cBuf d0 A1 c2)) rfl ((S19.fr G342 (fun _ h=>h)).now.part (n:=3) rfl)) ⟨Fr.refl _ _,rfl⟩
       ·intro ρ w315o F315o hS hρ
        have q9:ρ 9=.pointer (some ⟨b25,0,none⟩):=hρ 9 (by kernel_rfl)
        exact o_q (r_lda agg_api_Arena q9 (vs:=(cArena d2 A7 c8 A10 c11)) rfl ((S25.fr (G311.trans (Fr.ext F315o)) (fun _ h=>h)).now.part (n:=3) rfl)) ⟨Fr.refl _ _,rfl⟩
       ·intro ρ w315o F315o hS hρ
        have q3:ρ 3=.int .i64 d3:=hρ 3 (by kernel_rfl)
        exact o_q (r_mov q3) ⟨Fr.refl _ _,rfl⟩
       ·intro ρ w315o F315o hS hρ
        have G363:=(((G74.trans (Fr.ext F76)).trans (Fr.ext F117)).trans (Fr.ext F202)).trans (Fr.ext F315o)
        have q11:ρ 11=.pointer (some ⟨b30,0,none⟩):=hρ 11 (by kernel_rfl)
        exact o_q (r_lda agg_api_Entry q11 (vs:=(cEnt d4 A13 c14 A16 c17)) rfl ((S30.fr G363 (fun _ h=>h)).now.part (n:=9) rfl)) ⟨Fr.refl _ _,rfl⟩
       ·intro ρ w315o F315o hS hρ
        have E367:=E307.trans F315o
        have G368:=(((G70.trans (Fr.ext F76)).trans (Fr.ext F117)).trans (Fr.ext F202)).trans (Fr.ext F315o)
        have q67:ρ 67=.agg (cBuf d0 A1 c2).toArray:=hS 0 (by decide) 67 rfl
        have q68:ρ 68=.agg (cArena d2 A7 c8 A10 c11).toArray:=hS 1 (by decide) 68 rfl
        have q69:ρ 69=.int .i64 d3:=hS 2 (by decide) 69 rfl
        have q70:ρ 70=.agg (cEnt d4 A13 c14 A16 c17).toArray:=hS 3 (by decide) 70 rfl
        refine o_call cf_buffer_Note (by simp only [List.map,ev,q67,q68,q69,q70] <;> rfl) (buffer_Note_c d0 (kBuf_mk (d:=d0) (H3.fr G368 (fun _ h=>h))) d2 (kArena_mk (d:=d2) (H9.fr G368 (fun _ h=>h)) (H12.fr G368 (fun _ h=>h))) d3 d4 (kEnt_mk (d:=d4) (H15.fr G368 (fun _ h=>h)) (H18.fr G368 (fun _ h=>h))) (hL.fr E367) (eq_ev hx316 (bufNote_ev d0 d2 d3 d4 ha317 ha318))) rfl rfl ?_
        rintro _ w' ⟨F,cs376,rfl,H377⟩
        obtain ⟨A319,c320,rfl,H321⟩:=kBuf_open H377
        exact eo_nil ⟨rfl,rfl,_,rfl,F,⟨A319,c320,rfl,H321⟩⟩
       ·intro ρ w315o F315o hS hρ
        have E378:=E307.trans F315o
        obtain ⟨A319,c320,q71,H321⟩:=hS 4 (by decide) 71 rfl
        refine o_call cf_law16_Of (by simp only [List.map,ev,q71] <;> rfl) (law16_Of_c x316 (kBuf_mk (d:=x316) H321) (hL.fr E378) (eq_ev hx322 (ofB_ev x316 ha323))) rfl rfl ?_
        rintro _ w' ⟨F,cs387,rfl,H388⟩
        obtain ⟨A324,c325,rfl,H326⟩:=kBuf_open H388
        exact eo_nil ⟨rfl,rfl,_,rfl,F,⟨A324,c325,rfl,H326⟩⟩
       ·intro ρ w315o F315o hS hρ
        have G391:=((G113.trans (Fr.ext F117)).trans (Fr.ext F202)).trans (Fr.ext F315o)
        have q7:ρ 7=.pointer (some ⟨b19,0,none⟩):=hρ 7 (by kernel_rfl)
        exact o_q (r_lda agg_buffer_Buffer q7 (vs:=(cBuf d0 A1 c2)) rfl ((S19.fr G391 (fun _ h=>h)).now.part (n:=3) rfl)) ⟨Fr.refl _ _,rfl⟩
       ·intro ρ w315o F315o hS hρ
        have E398:=E307.trans F315o
        have G399:=(((G70.trans (Fr.ext F76)).trans (Fr.ext F117)).trans (Fr.ext F202)).trans (Fr.ext F315o)
        have q73:ρ 73=.agg (cBuf d0 A1 c2).toArray:=hS 6 (by decide) 73 rfl
        refine o_call cf_law16_Of (by simp only [List.map,ev,q73] <;> rfl) (law16_Of_c d0 (kBuf_mk (d:=d0) (H3.fr G399 (fun _ h=>h))) (hL.fr E398) (eq_ev hx327 (ofB_ev d0 ha328))) rfl rfl ?_
        rintro _ w' ⟨F,cs407,rfl,H408⟩
        obtain ⟨A329,c330,rfl,H331⟩:=kBuf_open H408
        exact eo_nil ⟨rfl,rfl,_,rfl,F,⟨A329,c330,rfl,H331⟩⟩
       ·intro ρ w315o F315o hS hρ
        have q9:ρ 9=.pointer (some ⟨b25,0,none⟩):=hρ 9 (by kernel_rfl)
        exact o_q (r_lda agg_api_Arena q9 (vs:=(cArena d2 A7 c8 A10 c11)) rfl ((S25.fr (G311.trans (Fr.ext F315o)) (fun _ h=>h)).now.part (n:=3) rfl)) ⟨Fr.refl _ _,rfl⟩
       ·intro ρ w315o F315o hS hρ
        have q3:ρ 3=.int .i64 d3:=hρ 3 (by kernel_rfl)
        exact o_q (r_mov q3) ⟨Fr.refl _ _,rfl⟩
       ·intro ρ w315o F315o hS hρ
        have G423:=(((G74.trans (Fr.ext F76)).trans (Fr.ext F117)).trans (Fr.ext F202)).trans (Fr.ext F315o)
        have q11:ρ 11=.pointer (some ⟨b30,0,none⟩):=hρ 11 (by kernel_rfl)
        exact o_q (r_lda agg_api_Entry q11 (vs:=(cEnt d4 A13 c14 A16 c17)) rfl ((S30.fr G423 (fun _ h=>h)).now.part (n:=9) rfl)) ⟨Fr.refl _ _,rfl⟩
       ·intro ρ w315o F315o hS hρ
        have E427:=E307.trans F315o
        have G428:=(((G70.trans (Fr.ext F76)).trans (Fr.ext F117)).trans (Fr.ext F202)).trans (Fr.ext F315o)
        obtain ⟨A329,c330,q74,H331⟩:=hS 7 (by decide) 74 rfl
        have q75:ρ 75=.agg (cArena d2 A7 c8 A10 c11).toArray:=hS 8 (by decide) 75 rfl
        have q76:ρ 76=.int .i64 d3:=hS 9 (by decide) 76 rfl
        have q77:ρ 77=.agg (cEnt d4 A13 c14 A16 c17).toArray:=hS 10 (by decide) 77 rfl
        refine o_call cf_ref16_Note (by simp only [List.map,ev,q74,q75,q76,q77] <;> rfl) (ref16_Note_c x327 (kBuf_mk (d:=x327) H331) d2 (kArena_mk (d:=d2) (H9.fr G428 (fun _ h=>h)) (H12.fr G428 (fun _ h=>h))) d3 d4 (kEnt_mk (d:=d4) (H15.fr G428 (fun _ h=>h)) (H18.fr G428 (fun _ h=>h))) (hL.fr E427) (eq_ev hx332 (refNote_ev x327 d2 d3 d4 ha333 ha334))) rfl rfl ?_
        rintro _ w' ⟨F,cs436,rfl,H437⟩
        obtain ⟨A335,c336,rfl,H337⟩:=kBuf_open H437
        exact eo_nil ⟨rfl,rfl,_,rfl,F,⟨A335,c336,rfl,H337⟩⟩
       ·intro ρ w315o F315o hS hρ
        have E438:=E307.trans F315o
        obtain ⟨A324,c325,q72,H326⟩:=hS 5 (by decide) 72 rfl
        obtain ⟨A335,c336,q78,H337⟩:=hS 11 (by decide) 78 rfl
        refine o_call cf_ref16_Same (by simp only [List.map,ev,q72,q78] <;> rfl) (ref16_Same_c x322 (kBuf_mk (d:=x322) H326) x332 (kBuf_mk (d:=x332) H337) (hL.fr E438) (refSameB_ev x322 x332 ha339)) rfl rfl ?_
        rintro _ w' ⟨F,rfl⟩
        exact eo_nil ⟨rfl,rfl,_,rfl,F,rfl⟩
       ·intro ρ w315o F315o hS hρ
        have q79:ρ 79=.bool (sameB x322 x332):=hS 12 (by decide) 79 rfl
        exact o_q (r_asg q79) ⟨Fr.refl _ _,rfl⟩
      ·intro ρ w315 F315 hS hρ
       have q20:ρ 20=.bool (sameB x322 x332):=hS 13 20 rfl
       obtain ⟨ρ',rfl⟩:∃ ρ',ρ=envs (ovr [20,67,68,69,70,71,72,73,74,75,76,77,78,79] ρ' _) [(20,.bool (sameB x322 x332))]:=⟨ρ,ovr_self hρ ⟨q20,trivial⟩⟩
       have E447:=E307.trans F315
       have G448:=(((G70.trans (Fr.ext F76)).trans (Fr.ext F117)).trans (Fr.ext F202)).trans (Fr.ext F315)
       have G449:=((G113.trans (Fr.ext F117)).trans (Fr.ext F202)).trans (Fr.ext F315)
       refine sq_n ?_
       refine ec_seq ?_
       obtain ⟨ha458,h⟩:=h
       obtain ⟨ha459,h⟩:=h
       obtain ⟨x457,hx457,h⟩:=h
       obtain ⟨ha464,h⟩:=h
       obtain ⟨x463,hx463,h⟩:=h
       obtain ⟨ha469,h⟩:=h
       obtain ⟨x468,hx468,h⟩:=h
       obtain ⟨ha474,h⟩:=h
       obtain ⟨ha475,h⟩:=h
       obtain ⟨x473,hx473,h⟩:=h
       obtain ⟨ha480,h⟩:=h
       refine ec_any0 (by kernel_rfl) [[],[],[],[],[],[0,1,2,3,4],[0,1,2,3,4,5],[],[0,1,2,3,4,5,6,7],[],[],[],[],[0,1,2,3,4,5,6,7,8,9,10,11,12],[0,1,2,3,4,5,6,7,8,9,10,11,12,13],[0,1,2,3,4,5,6,7,8,9,10,11,12,13,14]] [21,80,81,82,83,84,85,86,87,88,89,90,91,92,93,94] [fun v _=>v=(.agg (cBuf d0 A1 c2).toArray:Value),fun v _=>v=(.agg (cArena d2 A7 c8 A10 c11).toArray:Value),fun v _=>v=(.int .i64 d3:Value),fun v _=>v=(.int .i64 d5:Value),fun v _=>v=(.int .i64 d6:Value),fun v w'=>∃ A460 c461,v=(.agg (cBuf x457 A460 c461).toArray:Value)∧Stb L w' (fun w=>SlC kNm w A460 c461 x457.names),fun v w'=>∃ A465 c466,v=(.agg (cBuf x463 A465 c466).toArray:Value)∧Stb L w' (fun w=>SlC kNm w A465 c466 x463.names),fun v _=>v=(.agg (cBuf d0 A1 c2).toArray:Value),fun v w'=>∃ A470 c471,v=(.agg (cBuf x468 A470 c471).toArray:Value)∧Stb L w' (fun w=>SlC kNm w A470 c471 x468.names),fun v _=>v=(.agg (cArena d2 A7 c8 A10 c11).toArray:Value),fun v _=>v=(.int .i64 d3:Value),fun v _=>v=(.int .i64 d5:Value),fun v _=>v=(.int .i64 d6:Value),fun v w'=>∃ A476 c477,v=(.agg (cBuf x473 A476 c477).toArray:Value)∧Stb L w' (fun w=>SlC kNm w A476 c477 x473.names),fun v _=>v=(.bool (sameB x463 x473):Value),fun v _=>v=(.bool (sameB x463 x473):Value)] (by kernel_rfl) ⟨fun _ _ _ _ _ h=>h,fun _ _ _ _ _ h=>h,fun _ _ _ _ _ h=>h,fun _ _ _ _ _ h=>h,fun _ _ _ _ _ h=>h,fun _ v w' w'' F h=>by obtain ⟨A460,c461,hv,H462⟩:=h; exact ⟨A460,c461,hv,(H462.ex F)⟩,fun _ v w' w'' F h=>by obtain ⟨A465,c466,hv,H467⟩:=h; exact ⟨A465,c466,hv,(H467.ex F)⟩,fun _ _ _ _ _ h=>h,fun _ v w' w'' F h=>by obtain ⟨A470,c471,hv,H472⟩:=h; exact ⟨A470,c471,hv,(H472.ex F)⟩,fun _ _ _ _ _ h=>h,fun _ _ _ _ _ h=>h,fun _ _ _ _ _ h=>h,fun _ _ _ _ _ h=>h,fun _ v w' w'' F h=>by obtain ⟨A476,c477,hv,H478⟩:=h; exact ⟨A476,c477,hv,(H478.ex F)⟩,fun _ _ _ _ _ h=>h,fun _ _ _ _ _ h=>h,trivial⟩ ?_ ?_
       ·refine ⟨?_,?_,?_,?_,?_,?_,?_,?_,?_,?_,?_,?_,?_,?_,?_,?_,trivial⟩
        ·intro ρ w456o F456o hS hρ
         have q7:ρ 7=.pointer (some ⟨b19,0,none⟩):=hρ 7 (by kernel_rfl)
         exact o_q (r_lda agg_buffer_Buffer q7 (vs:=(cBuf d0 A1 c2)) rfl ((S19.fr (G449.trans (Fr.ext F456o)) (fun _ h=>h)).now.part (n:=3) rfl)) ⟨Fr.refl _ _,rfl⟩
        ·intro ρ w456o F456o hS hρ
         have q9:ρ 9=.pointer (some ⟨b25,0,none⟩):=hρ 9 (by kernel_rfl)
         exact o_q (r_lda agg_api_Arena q9 (vs:=(cArena d2 A7 c8 A10 c11)) rfl ((S25.fr ((G311.trans (Fr.ext F315)).trans (Fr.ext F456o)) (fun _ h=>h)).now.part (n:=3) rfl)) ⟨Fr.refl _ _,rfl⟩
        ·intro ρ w456o F456o hS hρ
         have q3:ρ 3=.int .i64 d3:=hρ 3 (by kernel_rfl)
         exact o_q (r_mov q3) ⟨Fr.refl _ _,rfl⟩
        ·intro ρ w456o F456o hS hρ
         have q5:ρ 5=.int .i64 d5:=hρ 5 (by kernel_rfl)
         exact o_q (r_mov q5) ⟨Fr.refl _ _,rfl⟩
        ·intro ρ w456o F456o hS hρ
         have q6:ρ 6=.int .i64 d6:=hρ 6 (by kernel_rfl)
         exact o_q (r_mov q6) ⟨Fr.refl _ _,rfl⟩
        ·intro ρ w456o F456o hS hρ
         have E501:=E447.trans F456o
         have q80:ρ 80=.agg (cBuf d0 A1 c2).toArray:=hS 0 (by decide) 80 rfl
         have q81:ρ 81=.agg (cArena d2 A7 c8 A10 c11).toArray:=hS 1 (by decide) 81 rfl
         have q82:ρ 82=.int .i64 d3:=hS 2 (by decide) 82 rfl
         have q83:ρ 83=.int .i64 d5:=hS 3 (by decide) 83 rfl
         have q84:ρ 84=.int .i64 d6:=hS 4 (by decide) 84 rfl
         refine o_call cf_buffer_Ack (by simp only [List.map,ev,q80,q81,q82,q83,q84] <;> rfl) (buffer_Ack_c d0 (kBuf_mk (d:=d0) (H3.fr (G448.trans (Fr.ext F456o)) (fun _ h=>h))) d2 (kArena_mk (d:=d2) (H9.fr (G448.trans (Fr.ext F456o)) (fun _ h=>h)) (H12.fr (G448.trans (Fr.ext F456o)) (fun _ h=>h))) d3 d5 d6 (hL.fr E501) (eq_ev hx457 (bufAck_ev d0 d2 d3 d5 d6 ha458 ha459))) rfl rfl ?_
         rintro _ w' ⟨F,cs511,rfl,H512⟩
         obtain ⟨A460,c461,rfl,H462⟩:=kBuf_open H512
         exact eo_nil ⟨rfl,rfl,_,rfl,F,⟨A460,c461,rfl,H462⟩⟩
        ·intro ρ w456o F456o hS hρ
         have E513:=E447.trans F456o
         obtain ⟨A460,c461,q85,H462⟩:=hS 5 (by decide) 85 rfl
         refine o_call cf_law16_Of (by simp only [List.map,ev,q85] <;> rfl) (law16_Of_c x457 (kBuf_mk (d:=x457) H462) (hL.fr E513) (eq_ev hx463 (ofB_ev x457 ha464))) rfl rfl ?_
         rintro _ w' ⟨F,cs523,rfl,H524⟩
         obtain ⟨A465,c466,rfl,H467⟩:=kBuf_open H524
         exact eo_nil ⟨rfl,rfl,_,rfl,F,⟨A465,c466,rfl,H467⟩⟩
        ·intro ρ w456o F456o hS hρ
         have q7:ρ 7=.pointer (some ⟨b19,0,none⟩):=hρ 7 (by kernel_rfl)
         exact o_q (r_lda agg_buffer_Buffer q7 (vs:=(cBuf d0 A1 c2)) rfl ((S19.fr (G449.trans (Fr.ext F456o)) (fun _ h=>h)).now.part (n:=3) rfl)) ⟨Fr.refl _ _,rfl⟩
        ·intro ρ w456o F456o hS hρ
         have E535:=E447.trans F456o
         have q87:ρ 87=.agg (cBuf d0 A1 c2).toArray:=hS 7 (by decide) 87 rfl
         refine o_call cf_law16_Of (by simp only [List.map,ev,q87] <;> rfl) (law16_Of_c d0 (kBuf_mk (d:=d0) (H3.fr (G448.trans (Fr.ext F456o)) (fun _ h=>h))) (hL.fr E535) (eq_ev hx468 (ofB_ev d0 ha469))) rfl rfl ?_
         rintro _ w' ⟨F,cs545,rfl,H546⟩
         obtain ⟨A470,c471,rfl,H472⟩:=kBuf_open H546
         exact eo_nil ⟨rfl,rfl,_,rfl,F,⟨A470,c471,rfl,H472⟩⟩
        ·intro ρ w456o F456o hS hρ
         have q9:ρ 9=.pointer (some ⟨b25,0,none⟩):=hρ 9 (by kernel_rfl)
         exact o_q (r_lda agg_api_Arena q9 (vs:=(cArena d2 A7 c8 A10 c11)) rfl ((S25.fr ((G311.trans (Fr.ext F315)).trans (Fr.ext F456o)) (fun _ h=>h)).now.part (n:=3) rfl)) ⟨Fr.refl _ _,rfl⟩
        ·intro ρ w456o F456o hS hρ
         have q3:ρ 3=.int .i64 d3:=hρ 3 (by kernel_rfl)
         exact o_q (r_mov q3) ⟨Fr.refl _ _,rfl⟩
        ·intro ρ w456o F456o hS hρ
         have q5:ρ 5=.int .i64 d5:=hρ 5 (by kernel_rfl)
         exact o_q (r_mov q5) ⟨Fr.refl _ _,rfl⟩
        ·intro ρ w456o F456o hS hρ
         have q6:ρ 6=.int .i64 d6:=hρ 6 (by kernel_rfl)
         exact o_q (r_mov q6) ⟨Fr.refl _ _,rfl⟩
        ·intro ρ w456o F456o hS hρ
         have E557:=E447.trans F456o
         obtain ⟨A470,c471,q88,H472⟩:=hS 8 (by decide) 88 rfl
         have q89:ρ 89=.agg (cArena d2 A7 c8 A10 c11).toArray:=hS 9 (by decide) 89 rfl
         have q90:ρ 90=.int .i64 d3:=hS 10 (by decide) 90 rfl
         have q91:ρ 91=.int .i64 d5:=hS 11 (by decide) 91 rfl
         have q92:ρ 92=.int .i64 d6:=hS 12 (by decide) 92 rfl
         refine o_call cf_ref16_Ack (by simp only [List.map,ev,q88,q89,q90,q91,q92] <;> rfl) (ref16_Ack_c x468 (kBuf_mk (d:=x468) H472) d2 (kArena_mk (d:=d2) (H9.fr (G448.trans (Fr.ext F456o)) (fun _ h=>h)) (H12.fr (G448.trans (Fr.ext F456o)) (fun _ h=>h))) d3 d5 d6 (hL.fr E557) (eq_ev hx473 (refAck_ev x468 d2 d3 d5 d6 ha474 ha475))) rfl rfl ?_
         rintro _ w' ⟨F,cs567,rfl,H568⟩
         obtain ⟨A476,c477,rfl,H478⟩:=kBuf_open H568
         exact eo_nil ⟨rfl,rfl,_,rfl,F,⟨A476,c477,rfl,H478⟩⟩
        ·intro ρ w456o F456o hS hρ
         have E569:=E447.trans F456o
         obtain ⟨A465,c466,q86,H467⟩:=hS 6 (by decide) 86 rfl
         obtain ⟨A476,c477,q93,H478⟩:=hS 13 (by decide) 93 rfl
         refine o_call cf_ref16_Same (by simp only [List.map,ev,q86,q93] <;> rfl) (ref16_Same_c x463 (kBuf_mk (d:=x463) H467) x473 (kBuf_mk (d:=x473) H478) (hL.fr E569) (refSameB_ev x463 x473 ha480)) rfl rfl ?_
         rintro _ w' ⟨F,rfl⟩
         exact eo_nil ⟨rfl,rfl,_,rfl,F,rfl⟩
        ·intro ρ w456o F456o hS hρ
         have q94:ρ 94=.bool (sameB x463 x473):=hS 14 (by decide) 94 rfl
         exact o_q (r_asg q94) ⟨Fr.refl _ _,rfl⟩
       ·intro ρ w456 F456 hS hρ
        have q21:ρ 21=.bool (sameB x463 x473):=hS 15 21 rfl
        obtain ⟨ρ',rfl⟩:∃ ρ',ρ=envs (ovr [21,80,81,82,83,84,85,86,87,88,89,90,91,92,93,94] ρ' _) [(21,.bool (sameB x463 x473))]:=⟨ρ,ovr_self hρ ⟨q21,trivial⟩⟩
        have E579:=E447.trans F456
        have G582:=((G198.trans (Fr.ext F202)).trans (Fr.ext F315)).trans (Fr.ext F456)
        refine sq_n ?_
        refine ec_seq ?_
        obtain ⟨ha591,h⟩:=h
        obtain ⟨ha592,h⟩:=h
        obtain ⟨x590,hx590,h⟩:=h
        obtain ⟨ha597,h⟩:=h
        obtain ⟨x596,hx596,h⟩:=h
        obtain ⟨ha602,h⟩:=h
        obtain ⟨ha603,h⟩:=h
        obtain ⟨x601,hx601,h⟩:=h
        obtain ⟨ha608,h⟩:=h
        refine ec_any0 (by kernel_rfl) [[],[],[],[],[0,1,2,3],[],[0,1,2,3,4,5],[],[],[],[0,1,2,3,4,5,6,7,8,9],[0,1,2,3,4,5,6,7,8,9,10],[0,1,2,3,4,5,6,7,8,9,10,11]] [22,95,96,97,98,99,100,101,102,103,104,105,106] [fun v _=>v=(.agg (cBuf d0 A1 c2).toArray:Value),fun v _=>v=(.agg (cArena d2 A7 c8 A10 c11).toArray:Value),fun v _=>v=(.int .i64 d3:Value),fun v _=>v=(.int .i64 d6:Value),fun v w'=>∃ A593 c594,v=(.slice A593 x590.length c594:Value)∧Stb L w' (fun w=>SlC kEnt w A593 c594 x590),fun v _=>v=(.agg (cBuf d0 A1 c2).toArray:Value),fun v w'=>∃ A598 c599,v=(.agg (cBuf x596 A598 c599).toArray:Value)∧Stb L w' (fun w=>SlC kNm w A598 c599 x596.names),fun v _=>v=(.agg (cArena d2 A7 c8 A10 c11).toArray:Value),fun v _=>v=(.int .i64 d3:Value),fun v _=>v=(.int .i64 d6:Value),fun v w'=>∃ A604 c605,v=(.slice A604 x601.length c605:Value)∧Stb L w' (fun w=>SlC kEnt w A604 c605 x601),fun v _=>v=(.bool (allE x590 x601):Value),fun v _=>v=(.bool (allE x590 x601):Value)] (by kernel_rfl) ⟨fun _ _ _ _ _ h=>h,fun _ _ _ _ _ h=>h,fun _ _ _ _ _ h=>h,fun _ _ _ _ _ h=>h,fun _ v w' w'' F h=>by obtain ⟨A593,c594,hv,H595⟩:=h; exact ⟨A593,c594,hv,(H595.ex F)⟩,fun _ _ _ _ _ h=>h,fun _ v w' w'' F h=>by obtain ⟨A598,c599,hv,H600⟩:=h; exact ⟨A598,c599,hv,(H600.ex F)⟩,fun _ _ _ _ _ h=>h,fun _ _ _ _ _ h=>h,fun _ _ _ _ _ h=>h,fun _ v w' w'' F h=>by obtain ⟨A604,c605,hv,H606⟩:=h; exact ⟨A604,c605,hv,(H606.ex F)⟩,fun _ _ _ _ _ h=>h,fun _ _ _ _ _ h=>h,trivial⟩ ?_ ?_
        ·refine ⟨?_,?_,?_,?_,?_,?_,?_,?_,?_,?_,?_,?_,?_,trivial⟩
         ·intro ρ w589o F589o hS hρ
          have q7:ρ 7=.pointer (some ⟨b19,0,none⟩):=hρ 7 (by kernel_rfl)
          exact o_q (r_lda agg_buffer_Buffer q7 (vs:=(cBuf d0 A1 c2)) rfl ((S19.fr ((G449.trans (Fr.ext F456)).trans (Fr.ext F589o)) (fun _ h=>h)).now.part (n:=3) rfl)) ⟨Fr.refl _ _,rfl⟩
         ·intro ρ w589o F589o hS hρ
          have G624:=((G311.trans (Fr.ext F315)).trans (Fr.ext F456)).trans (Fr.ext F589o)
          have q9:ρ 9=.pointer (some ⟨b25,0,none⟩):=hρ 9 (by kernel_rfl)
          exact o_q (r_lda agg_api_Arena q9 (vs:=(cArena d2 A7 c8 A10 c11)) rfl ((S25.fr G624 (fun _ h=>h)).now.part (n:=3) rfl)) ⟨Fr.refl _ _,rfl⟩
         ·intro ρ w589o F589o hS hρ
          have q3:ρ 3=.int .i64 d3:=hρ 3 (by kernel_rfl)
          exact o_q (r_mov q3) ⟨Fr.refl _ _,rfl⟩
         ·intro ρ w589o F589o hS hρ
          have q6:ρ 6=.int .i64 d6:=hρ 6 (by kernel_rfl)
          exact o_q (r_mov q6) ⟨Fr.refl _ _,rfl⟩
         ·intro ρ w589o F589o hS hρ
          have E631:=E579.trans F589o
          have q95:ρ 95=.agg (cBuf d0 A1 c2).toArray:=hS 0 (by decide) 95 rfl
          have q96:ρ 96=.agg (cArena d2 A7 c8 A10 c11).toArray:=hS 1 (by decide) 96 rfl
          have q97:ρ 97=.int .i64 d3:=hS 2 (by decide) 97 rfl
          have q98:ρ 98=.int .i64 d6:=hS 3 (by decide) 98 rfl
          refine o_call cf_buffer_Some (by simp only [List.map,ev,q95,q96,q97,q98] <;> rfl) (buffer_Some_c d0 (kBuf_mk (d:=d0) (H3.fr ((G448.trans (Fr.ext F456)).trans (Fr.ext F589o)) (fun _ h=>h))) d2 (kArena_mk (d:=d2) (H9.fr ((G448.trans (Fr.ext F456)).trans (Fr.ext F589o)) (fun _ h=>h)) (H12.fr ((G448.trans (Fr.ext F456)).trans (Fr.ext F589o)) (fun _ h=>h))) d3 d6 (hL.fr E631) (eq_ev hx590 (bufSome_ev d0 d2 d3 d6 ha591 ha592))) rfl rfl ?_
          rintro _ w' ⟨F,A593,c594,rfl,H595⟩
          exact eo_nil ⟨rfl,rfl,_,rfl,F,⟨A593,c594,rfl,H595⟩⟩
         ·intro ρ w589o F589o hS hρ
          have q7:ρ 7=.pointer (some ⟨b19,0,none⟩):=hρ 7 (by kernel_rfl)
          exact o_q (r_lda agg_buffer_Buffer q7 (vs:=(cBuf d0 A1 c2)) rfl ((S19.fr ((G449.trans (Fr.ext F456)).trans (Fr.ext F589o)) (fun _ h=>h)).now.part (n:=3) rfl)) ⟨Fr.refl _ _,rfl⟩
         ·intro ρ w589o F589o hS hρ
          have E653:=E579.trans F589o
          have q100:ρ 100=.agg (cBuf d0 A1 c2).toArray:=hS 5 (by decide) 100 rfl
          refine o_call cf_law16_Of (by simp only [List.map,ev,q100] <;> rfl) (law16_Of_c d0 (kBuf_mk (d:=d0) (H3.fr ((G448.trans (Fr.ext F456)).trans (Fr.ext F589o)) (fun _ h=>h))) (hL.fr E653) (eq_ev hx596 (ofB_ev d0 ha597))) rfl rfl ?_
          rintro _ w' ⟨F,cs664,rfl,H665⟩
          obtain ⟨A598,c599,rfl,H600⟩:=kBuf_open H665
          exact eo_nil ⟨rfl,rfl,_,rfl,F,⟨A598,c599,rfl,H600⟩⟩
         ·intro ρ w589o F589o hS hρ
          have G670:=((G311.trans (Fr.ext F315)).trans (Fr.ext F456)).trans (Fr.ext F589o)
          have q9:ρ 9=.pointer (some ⟨b25,0,none⟩):=hρ 9 (by kernel_rfl)
          exact o_q (r_lda agg_api_Arena q9 (vs:=(cArena d2 A7 c8 A10 c11)) rfl ((S25.fr G670 (fun _ h=>h)).now.part (n:=3) rfl)) ⟨Fr.refl _ _,rfl⟩
         ·intro ρ w589o F589o hS hρ
          have q3:ρ 3=.int .i64 d3:=hρ 3 (by kernel_rfl)
          exact o_q (r_mov q3) ⟨Fr.refl _ _,rfl⟩
         ·intro ρ w589o F589o hS hρ
          have q6:ρ 6=.int .i64 d6:=hρ 6 (by kernel_rfl)
          exact o_q (r_mov q6) ⟨Fr.refl _ _,rfl⟩
         ·intro ρ w589o F589o hS hρ
          have E677:=E579.trans F589o
          obtain ⟨A598,c599,q101,H600⟩:=hS 6 (by decide) 101 rfl
          have q102:ρ 102=.agg (cArena d2 A7 c8 A10 c11).toArray:=hS 7 (by decide) 102 rfl
          have q103:ρ 103=.int .i64 d3:=hS 8 (by decide) 103 rfl
          have q104:ρ 104=.int .i64 d6:=hS 9 (by decide) 104 rfl
          refine o_call cf_ref16_Some (by simp only [List.map,ev,q101,q102,q103,q104] <;> rfl) (ref16_Some_c x596 (kBuf_mk (d:=x596) H600) d2 (kArena_mk (d:=d2) (H9.fr ((G448.trans (Fr.ext F456)).trans (Fr.ext F589o)) (fun _ h=>h)) (H12.fr ((G448.trans (Fr.ext F456)).trans (Fr.ext F589o)) (fun _ h=>h))) d3 d6 (hL.fr E677) (eq_ev hx601 (refSome_ev x596 d2 d3 d6 ha602 ha603))) rfl rfl ?_
          rintro _ w' ⟨F,A604,c605,rfl,H606⟩
          exact eo_nil ⟨rfl,rfl,_,rfl,F,⟨A604,c605,rfl,H606⟩⟩
         ·intro ρ w589o F589o hS hρ
          have E688:=E579.trans F589o
          obtain ⟨A593,c594,q99,H595⟩:=hS 4 (by decide) 99 rfl
          obtain ⟨A604,c605,q105,H606⟩:=hS 10 (by decide) 105 rfl
          refine o_call cf_ref07_All (by simp only [List.map,ev,q99,q105] <;> rfl) (ref07_All_c x590 H595 x601 H606 (hL.fr E688) (refAll_ev x590 x601 ha608)) rfl rfl ?_
          rintro _ w' ⟨F,rfl⟩
          exact eo_nil ⟨rfl,rfl,_,rfl,F,rfl⟩
         ·intro ρ w589o F589o hS hρ
          have q106:ρ 106=.bool (allE x590 x601):=hS 11 (by decide) 106 rfl
          exact o_q (r_asg q106) ⟨Fr.refl _ _,rfl⟩
        ·intro ρ w589 F589 hS hρ
         have q22:ρ 22=.bool (allE x590 x601):=hS 12 22 rfl
         obtain ⟨ρ',rfl⟩:∃ ρ',ρ=envs (ovr [22,95,96,97,98,99,100,101,102,103,104,105,106] ρ' _) [(22,.bool (allE x590 x601))]:=⟨ρ,ovr_self hρ ⟨q22,trivial⟩⟩
         have E699:=E579.trans F589
         have G703:=((G311.trans (Fr.ext F315)).trans (Fr.ext F456)).trans (Fr.ext F589)
         refine sq_n ?_
         refine ec_seq ?_
         obtain ⟨ha712,h⟩:=h
         obtain ⟨x711,hx711,h⟩:=h
         obtain ⟨ha717,h⟩:=h
         obtain ⟨x716,hx716,h⟩:=h
         obtain ⟨ha722,h⟩:=h
         refine ec_any0 (by kernel_rfl) [[],[0],[],[0,1,2],[0,1,2,3],[0,1,2,3,4]] [23,107,108,109,110,111] [fun v _=>v=(.agg (cBuf d0 A1 c2).toArray:Value),fun v w'=>∃ A713 c714,v=(.agg (cBuf x711 A713 c714).toArray:Value)∧Stb L w' (fun w=>SlC kNm w A713 c714 x711.names),fun v _=>v=(.agg (cBuf d1 A4 c5).toArray:Value),fun v w'=>∃ A718 c719,v=(.agg (cBuf x716 A718 c719).toArray:Value)∧Stb L w' (fun w=>SlC kNm w A718 c719 x716.names),fun v _=>v=(.bool (sameB x711 x716):Value),fun v _=>v=(.bool (sameB x711 x716):Value)] (by kernel_rfl) ⟨fun _ _ _ _ _ h=>h,fun _ v w' w'' F h=>by obtain ⟨A713,c714,hv,H715⟩:=h; exact ⟨A713,c714,hv,(H715.ex F)⟩,fun _ _ _ _ _ h=>h,fun _ v w' w'' F h=>by obtain ⟨A718,c719,hv,H720⟩:=h; exact ⟨A718,c719,hv,(H720.ex F)⟩,fun _ _ _ _ _ h=>h,fun _ _ _ _ _ h=>h,trivial⟩ ?_ ?_
         ·refine ⟨?_,?_,?_,?_,?_,?_,trivial⟩
          ·intro ρ w710o F710o hS hρ
           have G725:=((G449.trans (Fr.ext F456)).trans (Fr.ext F589)).trans (Fr.ext F710o)
           have q7:ρ 7=.pointer (some ⟨b19,0,none⟩):=hρ 7 (by kernel_rfl)
           exact o_q (r_lda agg_buffer_Buffer q7 (vs:=(cBuf d0 A1 c2)) rfl ((S19.fr G725 (fun _ h=>h)).now.part (n:=3) rfl)) ⟨Fr.refl _ _,rfl⟩
          ·intro ρ w710o F710o hS hρ
           have E735:=E699.trans F710o
           have G736:=((G448.trans (Fr.ext F456)).trans (Fr.ext F589)).trans (Fr.ext F710o)
           have q107:ρ 107=.agg (cBuf d0 A1 c2).toArray:=hS 0 (by decide) 107 rfl
           refine o_call cf_law16_Of (by simp only [List.map,ev,q107] <;> rfl) (law16_Of_c d0 (kBuf_mk (d:=d0) (H3.fr G736 (fun _ h=>h))) (hL.fr E735) (eq_ev hx711 (ofB_ev d0 ha712))) rfl rfl ?_
           rintro _ w' ⟨F,cs747,rfl,H748⟩
           obtain ⟨A713,c714,rfl,H715⟩:=kBuf_open H748
           exact eo_nil ⟨rfl,rfl,_,rfl,F,⟨A713,c714,rfl,H715⟩⟩
          ·intro ρ w710o F710o hS hρ
           have q8:ρ 8=.pointer (some ⟨b21,0,none⟩):=hρ 8 (by kernel_rfl)
           exact o_q (r_lda agg_buffer_Buffer q8 (vs:=(cBuf d1 A4 c5)) rfl ((S21.fr ((G582.trans (Fr.ext F589)).trans (Fr.ext F710o)) (fun _ h=>h)).now.part (n:=3) rfl)) ⟨Fr.refl _ _,rfl⟩
          ·intro ρ w710o F710o hS hρ
           have E761:=E699.trans F710o
           have G762:=((G448.trans (Fr.ext F456)).trans (Fr.ext F589)).trans (Fr.ext F710o)
           have q109:ρ 109=.agg (cBuf d1 A4 c5).toArray:=hS 2 (by decide) 109 rfl
           refine o_call cf_law16_Of (by simp only [List.map,ev,q109] <;> rfl) (law16_Of_c d1 (kBuf_mk (d:=d1) (H6.fr G762 (fun _ h=>h))) (hL.fr E761) (eq_ev hx716 (ofB_ev d1 ha717))) rfl rfl ?_
           rintro _ w' ⟨F,cs773,rfl,H774⟩
           obtain ⟨A718,c719,rfl,H720⟩:=kBuf_open H774
           exact eo_nil ⟨rfl,rfl,_,rfl,F,⟨A718,c719,rfl,H720⟩⟩
          ·intro ρ w710o F710o hS hρ
           have E775:=E699.trans F710o
           obtain ⟨A713,c714,q108,H715⟩:=hS 1 (by decide) 108 rfl
           obtain ⟨A718,c719,q110,H720⟩:=hS 3 (by decide) 110 rfl
           refine o_call cf_ref16_Same (by simp only [List.map,ev,q108,q110] <;> rfl) (ref16_Same_c x711 (kBuf_mk (d:=x711) H715) x716 (kBuf_mk (d:=x716) H720) (hL.fr E775) (refSameB_ev x711 x716 ha722)) rfl rfl ?_
           rintro _ w' ⟨F,rfl⟩
           exact eo_nil ⟨rfl,rfl,_,rfl,F,rfl⟩
          ·intro ρ w710o F710o hS hρ
           have q111:ρ 111=.bool (sameB x711 x716):=hS 4 (by decide) 111 rfl
           exact o_q (r_asg q111) ⟨Fr.refl _ _,rfl⟩
         ·intro ρ w710 F710 hS hρ
          have q23:ρ 23=.bool (sameB x711 x716):=hS 5 23 rfl
          obtain ⟨ρ',rfl⟩:∃ ρ',ρ=envs (ovr [23,107,108,109,110,111] ρ' _) [(23,.bool (sameB x711 x716))]:=⟨ρ,ovr_self hρ ⟨q23,trivial⟩⟩
          have E787:=E699.trans F710
          have G788:=((G448.trans (Fr.ext F456)).trans (Fr.ext F589)).trans (Fr.ext F710)
          have G789:=((G449.trans (Fr.ext F456)).trans (Fr.ext F589)).trans (Fr.ext F710)
          refine sq_n ?_
          refine ec_seq ?_
          refine ec_region ?_
          iterate 2 refine o_w (v:=.bool (worksV)) (r_mov rfl) ?_
          refine o_v (v:=.agg (cBuf d0 A1 c2).toArray) (r_lda agg_buffer_Buffer rfl (vs:=(cBuf d0 A1 c2)) rfl ((S19.fr G789 (fun _ h=>h)).now.part (n:=3) rfl)) (want_t (t:=113) rfl rfl (of_not hc43)) rfl rfl ?_
          refine o_v (v:=.agg (cArena d2 A7 c8 A10 c11).toArray) (r_lda agg_api_Arena rfl (vs:=(cArena d2 A7 c8 A10 c11)) rfl ((S25.fr (G703.trans (Fr.ext F710)) (fun _ h=>h)).now.part (n:=3) rfl)) (want_t (t:=113) rfl rfl (of_not hc43)) rfl rfl ?_
          refine o_v (v:=.int .i64 d3) (r_mov rfl) (want_t (t:=113) rfl rfl (of_not hc43)) rfl rfl ?_
          obtain ⟨ha801,h⟩:=h
          obtain ⟨ha802,h⟩:=h
          refine o_call cf_buffer_Check rfl (buffer_Check_c d0 (kBuf_mk (d:=d0) (H3.fr G788 (fun _ h=>h))) d2 (kArena_mk (d:=d2) (H9.fr G788 (fun _ h=>h)) (H12.fr G788 (fun _ h=>h))) d3 (hL.fr E787) (bufCheck_ev d0 d2 d3 ha801 ha802)) (want_t (t:=113) rfl rfl (of_not hc43)) rfl ?_
          rintro _ w800 ⟨F800,rfl⟩
          have E803:=E787.trans F800
          have G806:=((G582.trans (Fr.ext F589)).trans (Fr.ext F710)).trans (Fr.ext F800)
          refine o_v (v:=.bool ((checkB d0 d2 d3)==(0:Int))) (r_int rfl rfl rfl) (want_t (t:=113) rfl rfl (of_not hc43)) rfl rfl ?_
          refine o_v (v:=.bool (okB x77 d2 d3)) (r_mov rfl) (want_t (t:=113) rfl rfl (of_not hc43)) rfl rfl ?_
          refine o_v (v:=.bool (((checkB d0 d2 d3)==(0:Int))==(okB x77 d2 d3))) (r_boolEq un_bool rfl rfl) (want_t (t:=113) rfl rfl (of_not hc43)) rfl rfl ?_
          refine o_w (v:=.bool (((checkB d0 d2 d3)==(0:Int))==(okB x77 d2 d3))) (r_pickT rfl (of_not hc43) rfl) ?_
          refine o_w (v:=.bool (((checkB d0 d2 d3)==(0:Int))==(okB x77 d2 d3))) (r_mov rfl) ?_
          refine o_vg (v:=.bool (sameB x122 x132)) (want_ct (t:=122) rfl rfl) (fun hk=>(r_mov rfl)) rfl rfl ?_
          refine o_w (v:=.bool ((((checkB d0 d2 d3)==(0:Int))==(okB x77 d2 d3))&&(sameB x122 x132))) (r_pickAnd rfl (fun ht=>(gdT ht)) rfl) ?_
          refine o_w (v:=.bool ((((checkB d0 d2 d3)==(0:Int))==(okB x77 d2 d3))&&(sameB x122 x132))) (r_mov rfl) ?_
          refine o_vg (v:=.bool (sameB x209 x219)) (want_ct (t:=125) rfl rfl) (fun hk=>(r_mov rfl)) rfl rfl ?_
          refine o_w (v:=.bool (((((checkB d0 d2 d3)==(0:Int))==(okB x77 d2 d3))&&(sameB x122 x132))&&(sameB x209 x219))) (r_pickAnd rfl (fun ht=>(gdT ht)) rfl) ?_
          refine o_w (v:=.bool (((((checkB d0 d2 d3)==(0:Int))==(okB x77 d2 d3))&&(sameB x122 x132))&&(sameB x209 x219))) (r_mov rfl) ?_
          refine o_vg (v:=.bool (sameB x322 x332)) (want_ct (t:=128) rfl rfl) (fun hk=>(r_mov rfl)) rfl rfl ?_
          refine o_w (v:=.bool ((((((checkB d0 d2 d3)==(0:Int))==(okB x77 d2 d3))&&(sameB x122 x132))&&(sameB x209 x219))&&(sameB x322 x332))) (r_pickAnd rfl (fun ht=>(gdT ht)) rfl) ?_
          refine o_w (v:=.bool ((((((checkB d0 d2 d3)==(0:Int))==(okB x77 d2 d3))&&(sameB x122 x132))&&(sameB x209 x219))&&(sameB x322 x332))) (r_mov rfl) ?_
          refine o_vg (v:=.bool (sameB x463 x473)) (want_ct (t:=131) rfl rfl) (fun hk=>(r_mov rfl)) rfl rfl ?_
          refine o_w (v:=.bool (((((((checkB d0 d2 d3)==(0:Int))==(okB x77 d2 d3))&&(sameB x122 x132))&&(sameB x209 x219))&&(sameB x322 x332))&&(sameB x463 x473))) (r_pickAnd rfl (fun ht=>(gdT ht)) rfl) ?_
          refine o_w (v:=.bool (((((((checkB d0 d2 d3)==(0:Int))==(okB x77 d2 d3))&&(sameB x122 x132))&&(sameB x209 x219))&&(sameB x322 x332))&&(sameB x463 x473))) (r_mov rfl) ?_
          refine o_vg (v:=.bool (allE x590 x601)) (want_ct (t:=134) rfl rfl) (fun hk=>(r_mov rfl)) rfl rfl ?_
          refine o_w (v:=.bool ((((((((checkB d0 d2 d3)==(0:Int))==(okB x77 d2 d3))&&(sameB x122 x132))&&(sameB x209 x219))&&(sameB x322 x332))&&(sameB x463 x473))&&(allE x590 x601))) (r_pickAnd rfl (fun ht=>(gdT ht)) rfl) ?_
          refine o_w (v:=.bool ((((((((checkB d0 d2 d3)==(0:Int))==(okB x77 d2 d3))&&(sameB x122 x132))&&(sameB x209 x219))&&(sameB x322 x332))&&(sameB x463 x473))&&(allE x590 x601))) (r_mov rfl) ?_
          refine o_vg (v:=.agg (cBuf d0 A1 c2).toArray) (want_ct (t:=137) rfl rfl) (fun hk=>(r_lda agg_buffer_Buffer rfl (vs:=(cBuf d0 A1 c2)) rfl ((S19.fr (G789.trans (Fr.ext F800)) (fun _ h=>h)).now.part (n:=3) rfl))) rfl rfl ?_
          refine o_vg (v:=.agg (cBuf d1 A4 c5).toArray) (want_ct (t:=137) rfl rfl) (fun hk=>(r_lda agg_buffer_Buffer rfl (vs:=(cBuf d1 A4 c5)) rfl ((S21.fr G806 (fun _ h=>h)).now.part (n:=3) rfl))) rfl rfl ?_
          obtain ⟨ha817,h⟩:=h
          refine o_callg (V:=.bool (sameB d0 d1)) cf_buffer_Same (want_ct (t:=137) rfl rfl) (fun hk=>(mapv2 (gdT hk) (gdT hk))) (fun hk=>(buffer_Same_c d0 (kBuf_mk (d:=d0) (H3.fr (G788.trans (Fr.ext F800)) (fun _ h=>h))) d1 (kBuf_mk (d:=d1) (H6.fr (G788.trans (Fr.ext F800)) (fun _ h=>h))) (hL.fr E803) (bufSame_ev d0 d1 (ha817 hk)))) rfl ?_
          intro w816 F816
          have E818:=E803.trans F816
          refine o_vg (v:=.bool (sameB x711 x716)) (want_ct (t:=137) rfl rfl) (fun hk=>(r_mov rfl)) rfl rfl ?_
          refine o_vg (v:=.bool ((sameB d0 d1)==(sameB x711 x716))) (want_ct (t:=137) rfl rfl) (fun hk=>(r_boolEq un_bool (gdT hk) (gdT hk))) rfl rfl ?_
          refine o_w (v:=.bool (((((((((checkB d0 d2 d3)==(0:Int))==(okB x77 d2 d3))&&(sameB x122 x132))&&(sameB x209 x219))&&(sameB x322 x332))&&(sameB x463 x473))&&(allE x590 x601))&&((sameB d0 d1)==(sameB x711 x716)))) (r_pickAnd rfl (fun ht=>(gdT ht)) rfl) ?_
          refine o_w (v:=.bool (((((((((checkB d0 d2 d3)==(0:Int))==(okB x77 d2 d3))&&(sameB x122 x132))&&(sameB x209 x219))&&(sameB x322 x332))&&(sameB x463 x473))&&(allE x590 x601))&&((sameB d0 d1)==(sameB x711 x716)))) (r_asg rfl) ?_
          refine eo_nil_sq ?_
          refine ec_ret ?_
          subst h
          exact (end1 rfl ⟨_,rfl,E818,rfl⟩)
end Go.Proofs.Ytpopikeebobjnaa
