/- The law PushTells: what it comes to. -/
import Derived.Test.YthfkbabgkacfnaaGreatQo
namespace Go.Proofs.YthfkbabgkacfnaaGreat
open Go Go.RowKit
set_option linter.unusedVariables false
set_option linter.unusedSimpArgs false
def law17_PushTells_raw (d0:Buf) (d1:Arena) (d2:Int) (d3:Int) (d4:Frm) (y:Bool):Prop :=
 ((!(worksV))=true→(y=false))∧((!(worksV))=false→((((fewB d0)&&(fewA d1))=true→((12:Int):Int)≤100)∧(((!(((fewB d0)&&(fewA d1))&&(entriesB d4.entries (12:Int))))=true→(y=(worksV)))∧((!(((fewB d0)&&(fewA d1))&&(entriesB d4.entries (12:Int))))=false→((smB d0)∧((sma d1)∧(∃ x54,x54=(sendP d0 d1 d2 d3)∧(smB d0∧(∃ x88,x88=(ofB d0)∧(smB x88∧(sma d1∧(∃ x93,x93=(sendP x88 d1 d2 d3)∧((sml d4.entries)∧((d4.entries.length≤1000000)∧(∃ x151,x151=(heardP d4)∧(∃ x200,x200=(ofF d4)∧((sml x200.entries)∧((x200.entries.length≤1000000)∧((maxS x200.sums)∧(∃ x218,x218=(heardP x200)∧(smB d0∧(sma d1∧(sml d4.entries∧(d4.entries.length≤1000000∧(∃ x281,x281=(doneP d0 d1 d2 d4)∧(smB x281∧(∃ x289,x289=(ofB x281)∧(smB d0∧(∃ x294,x294=(ofB d0)∧(∃ x299,x299=(ofF d4)∧(x299.sums.length=4∧(smB x294∧(sma d1∧(sml x299.entries∧(x299.entries.length≤1000000∧(maxS x299.sums∧(∃ x304,x304=(doneP x294 d1 d2 x299)∧(smB x289∧(∃ x508,x508=(ofF x54.1)∧(x508.sums.length=4∧(x93.1.sums.length=4∧(sml x508.entries∧(∃ x594,x594=(ofF x151.1)∧(x594.sums.length=4∧(sml x594.entries∧(y=(((((sameF x508 x93.1)&&(x54.2==x93.2))&&(sameF x594 x218.1))&&(x151.2==x218.2))&&(sameB x289 x304))))))))))))))))))))))))))))))))))))))))))))))))
set_option maxRecDepth 20000 in
set_option maxHeartbeats 4000000 in
theorem law17_PushTells_c {L:List Nat} {w:World} {csP0:List Value} (d0:Buf) (HP0:Stb L w (fun w=>kBuf.r w csP0 d0)) {csP1:List Value} (d1:Arena) (HP1:Stb L w (fun w=>kArena.r w csP1 d1)) (d2:Int) (d3:Int) {csP4:List Value} (d4:Frm) (HP4:Stb L w (fun w=>kFrm.r w csP4 d4)) (hL:Lt L w) {y:Bool} (h:law17_PushTells_raw d0 d1 d2 d3 d4 y) :
  Calls Tryz.prog 3 [.agg csP0.toArray,.agg csP1.toArray,.int .i64 d2,.int .i64 d3,.agg csP4.toArray].toArray w (Ret fun v w'=>Ext w w'∧v=.bool y):=by
 obtain ⟨A1,c2,rfl,H3⟩:=kBuf_open HP0
 obtain ⟨A4,c5,A7,c8,rfl,H6,H9⟩:=kArena_open HP1
 obtain ⟨A11,c12,rfl,H13,hl10⟩:=kFrm_open HP4
 unfold law17_PushTells_raw at h
 refine calls_ec Tryz.func3 rfl rfl rfl ?_
 refine ec_seq ?_
 refine ec_region ?_
 refine o_box (cs:=(cBuf d0 A1 c2)) rfl rfl rfl ?_
 intro b14 w14 e14 F14 B14
 have S14:=B14.stb (nin hL e14)
 have G15:Fr L w w14:=Fr.ext F14
 refine o_box (cs:=(cArena d1 A4 c5 A7 c8)) rfl rfl rfl ?_
 intro b16 w16 e16 F16 B16
 have S16:=B16.stb (nin (hL.fr F14) e16)
 have E17:=F14.trans F16
 have G19:Fr L w14 w16:=Fr.ext F16
 refine o_box (cs:=(cFrm d4 A11 c12)) rfl rfl rfl ?_
 intro b20 w20 e20 F20 B20
 have S20:=B20.stb (nin (hL.fr E17) e20)
 have E21:=E17.trans F20
 have G24:Fr L w16 w20:=Fr.ext F20
 refine o_w (v:=.bool false) (r_asg rfl) ?_
 refine eo_nil_sq ?_
 refine ec_seq ?_
 refine ec_region ?_
 refine o_call cf_law17_works rfl (law17_works_c (hL.fr E21) (works17_ev)) rfl rfl ?_
 rintro _ w25 ⟨F25,rfl⟩
 have E26:=E21.trans F25
 have G30:Fr L w20 w25:=Fr.ext F25
 refine o_w (v:=.bool (worksV)) (r_asg rfl) ?_
 refine eo_nil_sq ?_
 iterate 2 refine ec_seq ?_
 refine ec_region ?_
 refine o_w (v:=.bool (worksV)) (r_mov rfl) ?_
 refine o_w (v:=.bool (!(worksV))) (r_not rfl) ?_
 refine eo_nil_sq ?_
 refine ec_cond rfl (fun hc31=>?_) (fun hc31=>?_)
 ·replace h:=h.1 hc31
  refine ec_seq ?_
  refine ec_region ?_
  refine o_w (v:=.bool false) (r_asg rfl) ?_
  refine eo_nil_sq ?_
  refine ec_ret ?_
  refine sq_ret ?_
  subst h
  exact (end1 rfl ⟨_,rfl,E26,rfl⟩)
 ·replace h:=h.2 hc31
  refine ec_skip ?_
  refine sq_n ?_
  refine ec_seq ?_
  refine ec_region ?_
  refine o_w (v:=.agg (cBuf d0 A1 c2).toArray) (r_lda agg_buffer_Buffer rfl (vs:=(cBuf d0 A1 c2)) rfl ((S14.fr ((G19.trans (Fr.ext F20)).trans (Fr.ext F25)) (fun _ h=>h)).now.part (n:=3) rfl)) ?_
  refine o_call cf_law16_Few rfl (law16_Few_c d0 (kBuf_mk (d:=d0) (H3.fr (((G15.trans (Fr.ext F16)).trans (Fr.ext F20)).trans (Fr.ext F25)) (fun _ h=>h))) (hL.fr E26) (fewB_ev d0)) rfl rfl ?_
  rintro _ w34 ⟨F34,rfl⟩
  have E35:=E26.trans F34
  have G36:=(((G15.trans (Fr.ext F16)).trans (Fr.ext F20)).trans (Fr.ext F25)).trans (Fr.ext F34)
  refine o_w (v:=.bool (fewB d0)) (r_mov rfl) ?_
  refine o_vg (v:=.agg (cArena d1 A4 c5 A7 c8).toArray) (want_ct (t:=29) rfl rfl) (fun hk=>(r_lda agg_api_Arena rfl (vs:=(cArena d1 A4 c5 A7 c8)) rfl ((S16.fr ((G24.trans (Fr.ext F25)).trans (Fr.ext F34)) (fun _ h=>h)).now.part (n:=3) rfl))) rfl rfl ?_
  refine o_callg (V:=.bool (fewA d1)) cf_law08_Few (want_ct (t:=29) rfl rfl) (fun hk=>(mapv1 (gdT hk))) (fun hk=>(law08_Few_c d1 (kArena_mk (d:=d1) (H6.fr G36 (fun _ h=>h)) (H9.fr G36 (fun _ h=>h))) (hL.fr E35) (fewA_ev d1))) rfl ?_
  intro w40 F40
  have E41:=E35.trans F40
  have G43:=(((G19.trans (Fr.ext F20)).trans (Fr.ext F25)).trans (Fr.ext F34)).trans (Fr.ext F40)
  refine o_w (v:=.bool ((fewB d0)&&(fewA d1))) (r_pickAnd rfl (fun ht=>(gdT ht)) rfl) ?_
  refine o_w (v:=.bool ((fewB d0)&&(fewA d1))) (r_mov rfl) ?_
  refine o_vg (v:=.pointer (some ⟨b20,7,none⟩)) (want_ct (t:=33) rfl rfl) (fun hk=>(r_fa fld_frame_Frame_4 rfl rfl)) rfl rfl ?_
  refine o_vg (v:=.slice A11 d4.entries.length c12) (want_ct (t:=33) rfl rfl) (fun hk=>(r_ld one_s_api_Entry (gdT hk) ((S20.fr ((G30.trans (Fr.ext F34)).trans (Fr.ext F40)) (fun _ h=>h)).now.cell rfl))) rfl rfl ?_
  obtain ⟨ha47,h⟩:=h
  refine o_callg (V:=.bool (entriesB d4.entries (12:Int))) cf_law08_Entries (want_ct (t:=33) rfl rfl) (fun hk=>(mapv2 (gdT hk) rfl)) (fun hk=>(law08_Entries_c d4.entries (H13.fr (G36.trans (Fr.ext F40)) (fun _ h=>h)) (12:Int) (hL.fr E41) (entries_ev d4.entries (12:Int) (ha47 hk)))) rfl ?_
  intro w46 F46
  have E48:=E41.trans F46
  have G51:=(((G24.trans (Fr.ext F25)).trans (Fr.ext F34)).trans (Fr.ext F40)).trans (Fr.ext F46)
  refine o_w (v:=.bool (((fewB d0)&&(fewA d1))&&(entriesB d4.entries (12:Int)))) (r_pickAnd rfl (fun ht=>(gdT ht)) rfl) ?_
  refine o_w (v:=.bool (((fewB d0)&&(fewA d1))&&(entriesB d4.entries (12:Int)))) (r_asg rfl) ?_
  refine eo_nil_sq ?_
  iterate 2 refine ec_seq ?_
  refine ec_region ?_
  refine o_w (v:=.bool (((fewB d0)&&(fewA d1))&&(entriesB d4.entries (12:Int)))) (r_mov rfl) ?_
  refine o_w (v:=.bool (!(((fewB d0)&&(fewA d1))&&(entriesB d4.entries (12:Int))))) (r_not rfl) ?_
  refine eo_nil_sq ?_
  refine ec_cond rfl (fun hc53=>?_) (fun hc53=>?_)
  ·replace h:=h.1 hc53
   refine ec_seq ?_
   refine ec_region ?_
   refine o_w (v:=.bool (worksV)) (r_mov rfl) ?_
   refine o_w (v:=.bool (worksV)) (r_asg rfl) ?_
   refine eo_nil_sq ?_
   refine ec_ret ?_
   refine sq_ret ?_
   subst h
   exact (end1 rfl ⟨_,rfl,E48,rfl⟩)
  ·replace h:=h.2 hc53
   refine ec_skip ?_
   refine sq_n ?_
   refine ec_seq ?_
   refine ec_region ?_
   refine o_w (v:=.agg (cBuf d0 A1 c2).toArray) (r_lda agg_buffer_Buffer rfl (vs:=(cBuf d0 A1 c2)) rfl ((S14.fr (G43.trans (Fr.ext F46)) (fun _ h=>h)).now.part (n:=3) rfl)) ?_
   refine o_w (v:=.agg (cArena d1 A4 c5 A7 c8).toArray) (r_lda agg_api_Arena rfl (vs:=(cArena d1 A4 c5 A7 c8)) rfl ((S16.fr G51 (fun _ h=>h)).now.part (n:=3) rfl)) ?_
   refine o_w (v:=.int .i64 d2) (r_mov rfl) ?_
   refine o_w (v:=.int .i64 d3) (r_mov rfl) ?_
   obtain ⟨ha55,h⟩:=h
   obtain ⟨ha56,h⟩:=h
   obtain ⟨x54,hx54,h⟩:=h
   refine o_call cf_push_Send rfl (push_Send_c d0 (kBuf_mk (d:=d0) (H3.fr ((G36.trans (Fr.ext F40)).trans (Fr.ext F46)) (fun _ h=>h))) d1 (kArena_mk (d:=d1) (H6.fr ((G36.trans (Fr.ext F40)).trans (Fr.ext F46)) (fun _ h=>h)) (H9.fr ((G36.trans (Fr.ext F40)).trans (Fr.ext F46)) (fun _ h=>h))) d2 d3 (hL.fr E48) (eq_ev hx54 (puSend_ev d0 d1 d2 d3 ha55 ha56))) rfl rfl ?_
   rintro _ w54 ⟨F54,cs57,rfl,H58⟩
   have E59:=E48.trans F54
   have G63:=(((G30.trans (Fr.ext F34)).trans (Fr.ext F40)).trans (Fr.ext F46)).trans (Fr.ext F54)
   obtain ⟨A65,c66,rfl,H67,hl64⟩:=kFrm_open H58
   refine o_w (v:=.tuple #[.agg (cFrm x54.1 A65 c66).toArray,.bool x54.2]) (r_mov rfl) ?_
   refine o_w (v:=.agg (cFrm x54.1 A65 c66).toArray) (r_ext rfl rfl) ?_
   refine o_w (v:=.bool x54.2) (r_ext rfl rfl) ?_
   refine o_alloc zero_frame_Frame rfl rfl rfl ?_
   intro b68 w68 e68 F68 B68
   have n68:w.heap.size≤b68:=by rw [e68]; exact E59.size
   have m69:w.heap.size≤b68:=by rw [e68]; exact (((G36.trans (Fr.ext F40)).trans (Fr.ext F46)).trans (Fr.ext F54)).size
   have m70:w14.heap.size≤b68:=by rw [e68]; exact ((G43.trans (Fr.ext F46)).trans (Fr.ext F54)).size
   have m71:w16.heap.size≤b68:=by rw [e68]; exact (G51.trans (Fr.ext F54)).size
   have m72:w20.heap.size≤b68:=by rw [e68]; exact G63.size
   have m73:w54.heap.size≤b68:=Nat.le_of_eq e68.symm
   have E74:=E59.trans F68
   have G75:=(((G36.trans (Fr.ext F40)).trans (Fr.ext F46)).trans (Fr.ext F54)).trans (Fr.ext F68)
   have G79:Fr L w54 w68:=Fr.ext F68
   refine o_store rfl B68 (vs:=(cFrm x54.1 A65 c66)) rfl sz_frame_Frame rfl rfl rfl ?_
   intro w80 F80 B80
   have E81:=Ext.st E74 F80 (by simp; omega)
   have G82:Fr L w w80:=G75.stp F80 (upc (.inr m69) (fun m hm=>by cases hm))
   have G83:Fr L w14 w80:=(((G43.trans (Fr.ext F46)).trans (Fr.ext F54)).trans (Fr.ext F68)).stp F80 (upc (.inr m70) (fun m hm=>by cases hm))
   have G84:Fr L w16 w80:=((G51.trans (Fr.ext F54)).trans (Fr.ext F68)).stp F80 (upc (.inr m71) (fun m hm=>by cases hm))
   have G85:Fr L w20 w80:=(G63.trans (Fr.ext F68)).stp F80 (upc (.inr m72) (fun m hm=>by cases hm))
   have G86:Fr L w54 w80:=G79.stp F80 (upc (.inr m73) (fun m hm=>by cases hm))
   have B80':Blk w80 b68 _ (cFrm x54.1 A65 c66):=B80
   refine o_w (v:=.bool x54.2) (r_asg rfl) ?_
   refine eo_nil_sq ?_
   refine ec_seq ?_
   obtain ⟨ha89,h⟩:=h
   obtain ⟨x88,hx88,h⟩:=h
   obtain ⟨ha94,h⟩:=h
   obtain ⟨ha95,h⟩:=h
   obtain ⟨x93,hx93,h⟩:=h
   refine ec_anyGN (by kernel_rfl) [[],[0],[],[],[],[0,1,2,3,4],[0,1,2,3,4,5],[0,1,2,3,4,5,6],[0,1,2,3,4,5,6],[],[0,1,2,3,4,5,6,7,9],[0,1,2,3,4,5,6,7,8,9,10]] [15,16,49,50,51,52,53,54,55,56,57] [] [10] 9 0 (fun g w=>∀ b,g=gOf b→Blk w b 38 [.int .i64 (0:Int),.int .i64 (0:Int),.int .i64 (0:Int),.int .i64 (0:Int),.int .i64 (0:Int),.int .i64 (0:Int),.int .i64 (0:Int),.slice none ([]:List Ent).length 0]) (fun g87=>[own g87]) [[10,11]] (fun g87=>[fun w'=>(∀ b,g87=gOf b→Blk w' b 38 [.int .i64 (0:Int),.int .i64 (0:Int),.int .i64 (0:Int),.int .i64 (0:Int),.int .i64 (0:Int),.int .i64 (0:Int),.int .i64 (0:Int),.slice none ([]:List Ent).length 0]),fun w'=>∃ A96 c97,Stb (own g87++(b68::L)) w' (fun w=>SlC kEnt w A96 c97 x93.1.entries)∧(∀ b,g87=gOf b→Blk w' b 38 (cFrm x93.1 A96 c97))]) (fun g87=>[fun v _=>v=(.agg (cBuf d0 A1 c2).toArray:Value),fun v w'=>∃ A90 c91,v=(.agg (cBuf x88 A90 c91).toArray:Value)∧Stb (own g87++(b68::L)) w' (fun w=>SlC kNm w A90 c91 x88.names),fun v _=>v=(.agg (cArena d1 A4 c5 A7 c8).toArray:Value),fun v _=>v=(.int .i64 d2:Value),fun v _=>v=(.int .i64 d3:Value),fun v w'=>∃ A96 c97,v=(.tuple #[.agg (cFrm x93.1 A96 c97).toArray,.bool x93.2]:Value)∧Stb (own g87++(b68::L)) w' (fun w=>SlC kEnt w A96 c97 x93.1.entries),fun v w'=>∃ A96 c97,v=(.tuple #[.agg (cFrm x93.1 A96 c97).toArray,.bool x93.2]:Value)∧Stb (own g87++(b68::L)) w' (fun w=>SlC kEnt w A96 c97 x93.1.entries),fun v w'=>∃ A96 c97,v=(.agg (cFrm x93.1 A96 c97).toArray:Value)∧Stb (own g87++(b68::L)) w' (fun w=>SlC kEnt w A96 c97 x93.1.entries),fun v _=>v=(.bool x93.2:Value),fun v w'=>∃ b87_9,v=(.pointer (some ⟨b87_9,0,none⟩):Value)∧g87=gOf b87_9∧w80.heap.size≤b87_9,fun _ _=>True,fun v _=>v=(.bool x93.2:Value)]) (by kernel_rfl) (fun _=>rfl) (fun _=>rfl) (fun g87=>(allM1 (φ:=fun M=>∀ m∈M,m∈[]∨m∈own g87) (fun m hm=>.inr hm) (fun _ h=>by cases h))) (fun g87=>⟨fun _ _ _ _ _ h=>h,fun _ v w' w'' F h=>by obtain ⟨A90,c91,hv,H92⟩:=h; exact ⟨A90,c91,hv,(H92.ex F)⟩,fun _ _ _ _ _ h=>h,fun _ _ _ _ _ h=>h,fun _ _ _ _ _ h=>h,fun _ v w' w'' F h=>by obtain ⟨A96,c97,hv,H98⟩:=h; exact ⟨A96,c97,hv,(H98.ex F)⟩,fun _ v w' w'' F h=>by obtain ⟨A96,c97,hv,H98⟩:=h; exact ⟨A96,c97,hv,(H98.ex F)⟩,fun _ v w' w'' F h=>by obtain ⟨A96,c97,hv,H98⟩:=h; exact ⟨A96,c97,hv,(H98.ex F)⟩,fun _ _ _ _ _ h=>h,fun _ v w' w'' F h=>by obtain ⟨b87_9,hv,heb87_9,lob87_9⟩:=h; exact ⟨b87_9,hv,heb87_9,lob87_9⟩,fun _ _ _ _ _ h=>h,fun _ _ _ _ _ h=>h,trivial⟩) (fun g87=>⟨⟨fun _ _ _ _ _ _ h=>h,fun _ v w' w'' hg87 F h=>by obtain ⟨A90,c91,hv,H92⟩:=h; exact ⟨A90,c91,hv,(H92.fr F (fun m hm=>List.mem_append_left _ hm))⟩,fun _ _ _ _ _ _ h=>h,fun _ _ _ _ _ _ h=>h,fun _ _ _ _ _ _ h=>h,fun _ v w' w'' hg87 F h=>by obtain ⟨A96,c97,hv,H98⟩:=h; exact ⟨A96,c97,hv,(H98.fr F (fun m hm=>List.mem_append_left _ hm))⟩,fun _ v w' w'' hg87 F h=>by obtain ⟨A96,c97,hv,H98⟩:=h; exact ⟨A96,c97,hv,(H98.fr F (fun m hm=>List.mem_append_left _ hm))⟩,fun _ v w' w'' hg87 F h=>by obtain ⟨A96,c97,hv,H98⟩:=h; exact ⟨A96,c97,hv,(H98.fr F (fun m hm=>List.mem_append_left _ hm))⟩,fun _ _ _ _ _ _ h=>h,fun _ v w' w'' hg87 F h=>by obtain ⟨b87_9,hv,heb87_9,lob87_9⟩:=h; exact ⟨b87_9,hv,heb87_9,lob87_9⟩,(fun h=>absurd h (by decide)),(fun h=>absurd h (by decide)),trivial⟩,trivial⟩) (fun g w hw hg=>⟨fun _ _ _ _ h=>h,fun _ v w' F h=>by obtain ⟨A90,c91,hv,H92⟩:=h; exact ⟨A90,c91,hv,(stb_born H92 hg F)⟩,fun _ _ _ _ h=>h,fun _ _ _ _ h=>h,fun _ _ _ _ h=>h,fun _ v w' F h=>by obtain ⟨A96,c97,hv,H98⟩:=h; exact ⟨A96,c97,hv,(stb_born H98 hg F)⟩,fun _ v w' F h=>by obtain ⟨A96,c97,hv,H98⟩:=h; exact ⟨A96,c97,hv,(stb_born H98 hg F)⟩,fun _ v w' F h=>by obtain ⟨A96,c97,hv,H98⟩:=h; exact ⟨A96,c97,hv,(stb_born H98 hg F)⟩,fun _ _ _ _ h=>h,(fun h=>absurd h (by decide)),fun _ _ _ _ h=>h,fun _ _ _ _ h=>h,trivial⟩) (fun g87=>⟨fun w' w'' F h=>by have hG87:=h; exact (fun b e=>(hG87 b e).ex F),fun w' w'' F h=>by obtain ⟨A96,c97,H98,hG87⟩:=h; exact ⟨A96,c97,(H98.ex F),(fun b e=>(hG87 b e).ex F)⟩,trivial⟩) (fun b e=>absurd e gNil_ne) (fun k hk g w w' hw hg F hX hI=>match k,hk,hI with | 0,_,hI=>by have hG87:=hI; exact hX | k + 1,hk,_=>absurd hk (by omega)) ?_ ?_ ?_ ?_
   ·refine ⟨?_,?_,?_,?_,?_,?_,?_,?_,?_,?_,?_,?_,trivial⟩
    ·intro _ _ g87 ρ w87o hg87 F87o hX hS hρ
     have F87o:=hX 10 rfl rfl
     have q5:ρ 5=.pointer (some ⟨b14,0,none⟩):=hρ 5 (by kernel_rfl)
     exact o_q (r_lda agg_buffer_Buffer q5 (vs:=(cBuf d0 A1 c2)) rfl ((S14.fr (G83.trans (Fr.ext F87o)) (fun _ h=>h)).now.part (n:=3) rfl)) ⟨Fr.refl _ _,rfl⟩
    ·intro _ _ g87 ρ w87o hg87 F87o hX hS hρ
     have F87o:=hX 10 rfl rfl
     have E106:=E81.trans F87o
     have q50:ρ 50=.agg (cBuf d0 A1 c2).toArray:=hS 0 (by decide) 50 rfl
     refine o_call cf_law16_Of (by simp only [List.map,ev,q50] <;> rfl) (law16_Of_c d0 (kBuf_mk (d:=d0) (H3.up (G82.trans (Fr.ext F87o)) (fun _ h=>h) (upo (fun m hm=>.inr (Nat.le_trans (G82.size) (hg87 m hm).1)) (upc (.inr m69) (fun _ h=>.inl h))))) (lt_ghost ((hL.fr E106).cons (B80'.ex F87o).lt) hg87) (eq_ev hx88 (ofB_ev d0 ha89))) rfl rfl ?_
     rintro _ w' ⟨F,cs113,rfl,H114⟩
     obtain ⟨A90,c91,rfl,H92⟩:=kBuf_open H114
     exact eo_nil ⟨rfl,rfl,_,rfl,F,⟨A90,c91,rfl,H92⟩⟩
    ·intro _ _ g87 ρ w87o hg87 F87o hX hS hρ
     have F87o:=hX 10 rfl rfl
     have q6:ρ 6=.pointer (some ⟨b16,0,none⟩):=hρ 6 (by kernel_rfl)
     exact o_q (r_lda agg_api_Arena q6 (vs:=(cArena d1 A4 c5 A7 c8)) rfl ((S16.fr (G84.trans (Fr.ext F87o)) (fun _ h=>h)).now.part (n:=3) rfl)) ⟨Fr.refl _ _,rfl⟩
    ·intro _ _ g87 ρ w87o hg87 F87o hX hS hρ
     have F87o:=hX 10 rfl rfl
     have q2:ρ 2=.int .i64 d2:=hρ 2 (by kernel_rfl)
     exact o_q (r_mov q2) ⟨Fr.refl _ _,rfl⟩
    ·intro _ _ g87 ρ w87o hg87 F87o hX hS hρ
     have F87o:=hX 10 rfl rfl
     have q3:ρ 3=.int .i64 d3:=hρ 3 (by kernel_rfl)
     exact o_q (r_mov q3) ⟨Fr.refl _ _,rfl⟩
    ·intro _ _ g87 ρ w87o hg87 F87o hX hS hρ
     have F87o:=hX 10 rfl rfl
     have E122:=E81.trans F87o
     obtain ⟨A90,c91,q51,H92⟩:=hS 1 (by decide) 51 rfl
     have q52:ρ 52=.agg (cArena d1 A4 c5 A7 c8).toArray:=hS 2 (by decide) 52 rfl
     have q53:ρ 53=.int .i64 d2:=hS 3 (by decide) 53 rfl
     have q54:ρ 54=.int .i64 d3:=hS 4 (by decide) 54 rfl
     refine o_call cf_ref17_Send (by simp only [List.map,ev,q51,q52,q53,q54] <;> rfl) (ref17_Send_c x88 (kBuf_mk (d:=x88) H92) d1 (kArena_mk (d:=d1) (H6.up (G82.trans (Fr.ext F87o)) (fun _ h=>h) (upo (fun m hm=>.inr (Nat.le_trans (G82.size) (hg87 m hm).1)) (upc (.inr m69) (fun _ h=>.inl h)))) (H9.up (G82.trans (Fr.ext F87o)) (fun _ h=>h) (upo (fun m hm=>.inr (Nat.le_trans (G82.size) (hg87 m hm).1)) (upc (.inr m69) (fun _ h=>.inl h))))) d2 d3 (lt_ghost ((hL.fr E122).cons (B80'.ex F87o).lt) hg87) (eq_ev hx93 (refSend_ev x88 d1 d2 d3 ha94 ha95))) rfl rfl ?_
     rintro _ w' ⟨F,cs129,rfl,H130⟩
     obtain ⟨A96,c97,rfl,H98,_⟩:=kFrm_open H130
     exact eo_nil ⟨rfl,rfl,_,rfl,F,⟨A96,c97,rfl,H98⟩⟩
    ·intro _ _ g87 ρ w87o hg87 F87o hX hS hρ
     have F87o:=hX 10 rfl rfl
     obtain ⟨A96,c97,q55,H98⟩:=hS 5 (by decide) 55 rfl
     exact o_q (r_mov q55) ⟨Fr.refl _ _,⟨A96,c97,rfl,H98⟩⟩
    ·intro _ _ g87 ρ w87o hg87 F87o hX hS hρ
     have F87o:=hX 10 rfl rfl
     obtain ⟨A96,c97,q49,H98⟩:=hS 6 (by decide) 49 rfl
     exact o_q (r_ext q49 rfl) ⟨Fr.refl _ _,⟨A96,c97,rfl,H98⟩⟩
    ·intro _ _ g87 ρ w87o hg87 F87o hX hS hρ
     obtain ⟨A96,c97,q49,H98⟩:=hS 6 (by decide) 49 rfl
     exact o_q (r_ext q49 rfl) ⟨Fr.refl _ _,rfl⟩
    ·intro _ hT; exact absurd hT (by decide)
    ·intro hT; exact absurd hT (by decide)
    ·intro _ _ g87 ρ w87o hg87 F87o hX hS hρ
     have q57:ρ 57=.bool x93.2:=hS 8 (by decide) 57 rfl
     exact o_q (r_asg q57) ⟨Fr.refl _ _,rfl⟩
   ·intro o ho ρ w87o F87o hX hS hρ; cases Option.some.inj ho; refine o_alloc zero_ouroborosref14_Frame rfl rfl rfl ?_; intro b w' e F B; subst e
    exact eo_nil ⟨rfl,rfl,_,rfl,F,gOf _,(fun m hm=>by rw [own_gOf,List.mem_singleton] at hm; subst hm; exact ⟨Nat.le_refl _,B.lt⟩),(fun b e=>by obtain rfl:=gOf_inj e; exact B),_,rfl,rfl,F87o.size⟩
   ·refine ⟨⟨_,rfl,?_⟩,trivial⟩
    ·intro g87 ρ w87o hg87 F87o hX hI hS hρ
     have hG87:=hI
     obtain ⟨b87_9,q15,heb87_9,lob87_9⟩:=hS 9 (by decide) 15 rfl
     obtain ⟨A96,c97,q56,H98⟩:=hS 7 (by decide) 56 rfl
     subst heb87_9
     have hB87_b87_9:=hG87 _ rfl
     refine o_store (show ev ρ _=_ from q15) hB87_b87_9 (vs:=[.int .i64 x93.1.kind,.int .i64 x93.1.a,.int .i64 x93.1.b,.int .i64 (nth x93.1.sums 0),.int .i64 (nth x93.1.sums 1),.int .i64 (nth x93.1.sums 2),.int .i64 (nth x93.1.sums 3),.slice A96 x93.1.entries.length c97]) (congrArg Value.cells q56) sz_ouroborosref14_Frame rfl rfl rfl ?_
     intro w' F B2
     exact eo_nil ⟨rfl,rfl,undef,rfl,F,⟨A96,c97,(H98.fr F (fun m hm=>List.mem_append_left _ hm)),(fun b e=>by obtain rfl:=gOf_inj e; exact B2)⟩,trivial⟩
   ·intro g87 ρ w87 hg87 F87 hI hS hρ
    obtain ⟨A96,c97,H98,hG87⟩:=hI
    obtain ⟨b87_9,q15,heb87_9,lob87_9⟩:=hS 9 15 rfl
    subst heb87_9
    have hB87_b87_9:=hG87 _ rfl
    have q16:ρ 16=.bool x93.2:=hS 11 16 rfl
    have H98:Stb (b87_9::(b68::L)) w87 (fun w=>SlC kEnt w A96 c97 x93.1.entries):=H98
    obtain ⟨ρ',rfl⟩:∃ ρ',ρ=envs (ovr [15,16,49,50,51,52,53,54,55,56,57] ρ' _) [(15,.pointer (some ⟨b87_9,0,none⟩)),(16,.bool x93.2)]:=⟨ρ,ovr_self hρ ⟨q15,q16,trivial⟩⟩
    have n87_9:w.heap.size≤b87_9:=Nat.le_trans E81.size lob87_9
    have q138:b68<b87_9:=Nat.lt_of_lt_of_le B80'.lt lob87_9
    have m139:w.heap.size≤b87_9:=Nat.le_trans G82.size lob87_9
    have m143:w54.heap.size≤b87_9:=Nat.le_trans G86.size lob87_9
    have E144:=E81.trans F87
    have Z87:=Fr.refl (b87_9::(b68::L)) w87
    refine sq_n ?_
    refine ec_seq ?_
    refine ec_region ?_
    refine o_w (v:=.agg (cFrm d4 A11 c12).toArray) (r_lda agg_frame_Frame rfl (vs:=(cFrm d4 A11 c12)) rfl ((S20.fr (G85.trans (Fr.ext F87)) (fun _ h=>h)).now.part (n:=8) rfl)) ?_
    obtain ⟨ha152,h⟩:=h
    obtain ⟨ha153,h⟩:=h
    obtain ⟨x151,hx151,h⟩:=h
    refine o_call cf_push_Heard rfl (push_Heard_c d4 (kFrm_mk (d:=d4) (H13.up (G82.trans (Fr.ext F87)) (fun _ h=>h) (upc (.inr m139) (upc (.inr m69) (fun _ h=>.inl h)))) hl10) (((hL.fr E144).cons (B80'.ex F87).lt).cons hB87_b87_9.lt) (eq_ev hx151 (puHeard_ev d4 ha152 ha153))) rfl rfl ?_
    rintro _ w151 ⟨F151,cs154,rfl,H155⟩
    have E156:=E144.trans F151
    obtain ⟨A166,c167,rfl,H168,hl165⟩:=kFrm_open H155
    refine o_w (v:=.tuple #[.agg (cFrm x151.1 A166 c167).toArray,.bool x151.2]) (r_mov rfl) ?_
    refine o_w (v:=.agg (cFrm x151.1 A166 c167).toArray) (r_ext rfl rfl) ?_
    refine o_w (v:=.bool x151.2) (r_ext rfl rfl) ?_
    refine o_alloc zero_frame_Frame rfl rfl rfl ?_
    intro b169 w169 e169 F169 B169
    have n169:w.heap.size≤b169:=by rw [e169]; exact E156.size
    have q170:b68<b169:=by rw [e169]; exact ((B80'.ex F87).ex F151).lt
    have q171:b87_9<b169:=by rw [e169]; exact (hB87_b87_9.ex F151).lt
    have m172:w.heap.size≤b169:=by rw [e169]; exact ((G82.trans (Fr.ext F87)).trans (Fr.ext F151)).size
    have m173:w14.heap.size≤b169:=by rw [e169]; exact ((G83.trans (Fr.ext F87)).trans (Fr.ext F151)).size
    have m174:w16.heap.size≤b169:=by rw [e169]; exact ((G84.trans (Fr.ext F87)).trans (Fr.ext F151)).size
    have m175:w20.heap.size≤b169:=by rw [e169]; exact ((G85.trans (Fr.ext F87)).trans (Fr.ext F151)).size
    have m176:w54.heap.size≤b169:=by rw [e169]; exact ((G86.trans (Fr.ext F87)).trans (Fr.ext F151)).size
    have m177:w87.heap.size≤b169:=by rw [e169]; exact (Z87.trans (Fr.ext F151)).size
    have m178:w151.heap.size≤b169:=Nat.le_of_eq e169.symm
    have E179:=E156.trans F169
    have G186:Fr (b87_9::(b68::L)) w151 w169:=Fr.ext F169
    refine o_store rfl B169 (vs:=(cFrm x151.1 A166 c167)) rfl sz_frame_Frame rfl rfl rfl ?_
    intro w189 F189 B189
    have E190:=Ext.st E179 F189 (by simp; omega)
    have G191:Fr L w w189:=(((G82.trans (Fr.ext F87)).trans (Fr.ext F151)).trans (Fr.ext F169)).stp F189 (upc (.inr m172) (fun m hm=>by cases hm))
    have G192:Fr L w14 w189:=(((G83.trans (Fr.ext F87)).trans (Fr.ext F151)).trans (Fr.ext F169)).stp F189 (upc (.inr m173) (fun m hm=>by cases hm))
    have G193:Fr L w16 w189:=(((G84.trans (Fr.ext F87)).trans (Fr.ext F151)).trans (Fr.ext F169)).stp F189 (upc (.inr m174) (fun m hm=>by cases hm))
    have G194:Fr L w20 w189:=(((G85.trans (Fr.ext F87)).trans (Fr.ext F151)).trans (Fr.ext F169)).stp F189 (upc (.inr m175) (fun m hm=>by cases hm))
    have G195:Fr L w54 w189:=(((G86.trans (Fr.ext F87)).trans (Fr.ext F151)).trans (Fr.ext F169)).stp F189 (upc (.inr m176) (fun m hm=>by cases hm))
    have G196:Fr (b87_9::(b68::L)) w87 w189:=((Z87.trans (Fr.ext F151)).trans (Fr.ext F169)).stp F189 (upc (.inr m177) (fun m hm=>by cases hm))
    have G197:Fr (b87_9::(b68::L)) w151 w189:=G186.stp F189 (upc (.inr m178) (fun m hm=>by cases hm))
    have B198:=(((B80'.ex F87).ex F151).ex F169).fr F189 (by simp; omega)
    have B199:=((hB87_b87_9.ex F151).ex F169).fr F189 (by simp; omega)
    have B189':Blk w189 b169 _ (cFrm x151.1 A166 c167):=B189
    refine o_w (v:=.bool x151.2) (r_asg rfl) ?_
    refine eo_nil_sq ?_
    refine ec_seq ?_
    refine ec_region ?_
    refine o_w (v:=.agg (cFrm d4 A11 c12).toArray) (r_lda agg_frame_Frame rfl (vs:=(cFrm d4 A11 c12)) rfl ((S20.fr G194 (fun _ h=>h)).now.part (n:=8) rfl)) ?_
    obtain ⟨x200,hx200,h⟩:=h
    refine o_call cf_law14_Of rfl (law14_Of_c d4 (kFrm_mk (d:=d4) (H13.up G191 (fun _ h=>h) (upc (.inr m172) (upc (.inr m139) (upc (.inr m69) (fun _ h=>.inl h))))) hl10) ((((hL.fr E190).cons B198.lt).cons B199.lt).cons B189'.lt) (eq_ev hx200 (ofF_ev d4))) rfl rfl ?_
    rintro _ w200 ⟨F200,cs201,rfl,H202⟩
    have E203:=E190.trans F200
    obtain ⟨A215,c216,rfl,H217,hl214⟩:=kFrm_open H202
    obtain ⟨ha219,h⟩:=h
    obtain ⟨ha220,h⟩:=h
    obtain ⟨ha221,h⟩:=h
    obtain ⟨x218,hx218,h⟩:=h
    refine o_call cf_ref17_Heard rfl (ref17_Heard_c x200 (kFrm_mk (d:=x200) H217 hl214) ((((hL.fr E203).cons (B198.ex F200).lt).cons (B199.ex F200).lt).cons (B189'.ex F200).lt) (eq_ev hx218 (refHeard_ev x200 ha219 ha220 ha221))) rfl rfl ?_
    rintro _ w218 ⟨F218,cs222,rfl,H223⟩
    have E224:=E203.trans F218
    obtain ⟨A237,c238,rfl,H239,hl236⟩:=kFrm_open H223
    refine o_w (v:=.tuple #[.agg (cFrm x218.1 A237 c238).toArray,.bool x218.2]) (r_mov rfl) ?_
    refine o_w (v:=.agg (cFrm x218.1 A237 c238).toArray) (r_ext rfl rfl) ?_
    refine o_w (v:=.bool x218.2) (r_ext rfl rfl) ?_
    refine o_alloc zero_ouroborosref14_Frame rfl rfl rfl ?_
    intro b240 w240 e240 F240 B240
    have n240:w.heap.size≤b240:=by rw [e240]; exact E224.size
    have q241:b68<b240:=by rw [e240]; exact ((B198.ex F200).ex F218).lt
    have q242:b87_9<b240:=by rw [e240]; exact ((B199.ex F200).ex F218).lt
    have q243:b169<b240:=by rw [e240]; exact ((B189'.ex F200).ex F218).lt
    have m244:w.heap.size≤b240:=by rw [e240]; exact ((G191.trans (Fr.ext F200)).trans (Fr.ext F218)).size
    have m245:w14.heap.size≤b240:=by rw [e240]; exact ((G192.trans (Fr.ext F200)).trans (Fr.ext F218)).size
    have m246:w16.heap.size≤b240:=by rw [e240]; exact ((G193.trans (Fr.ext F200)).trans (Fr.ext F218)).size
    have m247:w20.heap.size≤b240:=by rw [e240]; exact ((G194.trans (Fr.ext F200)).trans (Fr.ext F218)).size
    have m248:w54.heap.size≤b240:=by rw [e240]; exact ((G195.trans (Fr.ext F200)).trans (Fr.ext F218)).size
    have m249:w87.heap.size≤b240:=by rw [e240]; exact ((G196.trans (Fr.ext F200)).trans (Fr.ext F218)).size
    have m250:w151.heap.size≤b240:=by rw [e240]; exact ((G197.trans (Fr.ext F200)).trans (Fr.ext F218)).size
    have m252:w218.heap.size≤b240:=Nat.le_of_eq e240.symm
    have E253:=E224.trans F240
    have G254:=((G191.trans (Fr.ext F200)).trans (Fr.ext F218)).trans (Fr.ext F240)
    have G255:=((G192.trans (Fr.ext F200)).trans (Fr.ext F218)).trans (Fr.ext F240)
    have G256:=((G193.trans (Fr.ext F200)).trans (Fr.ext F218)).trans (Fr.ext F240)
    have G257:=((G194.trans (Fr.ext F200)).trans (Fr.ext F218)).trans (Fr.ext F240)
    have G258:=((G195.trans (Fr.ext F200)).trans (Fr.ext F218)).trans (Fr.ext F240)
    have G259:=((G196.trans (Fr.ext F200)).trans (Fr.ext F218)).trans (Fr.ext F240)
    have G260:=((G197.trans (Fr.ext F200)).trans (Fr.ext F218)).trans (Fr.ext F240)
    have G262:Fr (b169::(b87_9::(b68::L))) w218 w240:=Fr.ext F240
    refine o_store rfl B240 (vs:=(cFrm x218.1 A237 c238)) rfl sz_ouroborosref14_Frame rfl rfl rfl ?_
    intro w266 F266 B266
    have E267:=Ext.st E253 F266 (by simp; omega)
    have G268:Fr L w w266:=G254.stp F266 (upc (.inr m244) (fun m hm=>by cases hm))
    have G269:Fr L w14 w266:=G255.stp F266 (upc (.inr m245) (fun m hm=>by cases hm))
    have G270:Fr L w16 w266:=G256.stp F266 (upc (.inr m246) (fun m hm=>by cases hm))
    have G271:Fr L w20 w266:=G257.stp F266 (upc (.inr m247) (fun m hm=>by cases hm))
    have G272:Fr L w54 w266:=G258.stp F266 (upc (.inr m248) (fun m hm=>by cases hm))
    have G273:Fr (b87_9::(b68::L)) w87 w266:=G259.stp F266 (upc (.inr m249) (fun m hm=>by cases hm))
    have G274:Fr (b87_9::(b68::L)) w151 w266:=G260.stp F266 (upc (.inr m250) (fun m hm=>by cases hm))
    have G276:Fr (b169::(b87_9::(b68::L))) w218 w266:=G262.stp F266 (upc (.inr m252) (fun m hm=>by cases hm))
    have B277:=(((B198.ex F200).ex F218).ex F240).fr F266 (by simp; omega)
    have B278:=(((B199.ex F200).ex F218).ex F240).fr F266 (by simp; omega)
    have B279:=(((B189'.ex F200).ex F218).ex F240).fr F266 (by simp; omega)
    have B266':Blk w266 b240 _ (cFrm x218.1 A237 c238):=B266
    refine o_w (v:=.bool x218.2) (r_asg rfl) ?_
    refine eo_nil_sq ?_
    refine ec_seq ?_
    obtain ⟨ha282,h⟩:=h
    obtain ⟨ha283,h⟩:=h
    obtain ⟨ha284,h⟩:=h
    obtain ⟨ha285,h⟩:=h
    obtain ⟨x281,hx281,h⟩:=h
    obtain ⟨ha290,h⟩:=h
    obtain ⟨x289,hx289,h⟩:=h
    obtain ⟨ha295,h⟩:=h
    obtain ⟨x294,hx294,h⟩:=h
    obtain ⟨x299,hx299,h⟩:=h
    obtain ⟨ha303,h⟩:=h
    obtain ⟨ha305,h⟩:=h
    obtain ⟨ha306,h⟩:=h
    obtain ⟨ha307,h⟩:=h
    obtain ⟨ha308,h⟩:=h
    obtain ⟨ha309,h⟩:=h
    obtain ⟨x304,hx304,h⟩:=h
    obtain ⟨ha314,h⟩:=h
    refine ec_any0 (by kernel_rfl) [[],[],[],[],[0,1,2,3],[0,1,2,3,4],[],[0,1,2,3,4,5,6],[],[],[],[0,1,2,3,4,5,6,7,10],[0,1,2,3,4,5,6,7,8,9,10,11],[0,1,2,3,4,5,6,7,8,9,10,11,12],[0,1,2,3,4,5,6,7,8,9,10,11,12,13]] [21,69,70,71,72,73,74,75,76,77,78,79,80,81,82] [fun v _=>v=(.agg (cBuf d0 A1 c2).toArray:Value),fun v _=>v=(.agg (cArena d1 A4 c5 A7 c8).toArray:Value),fun v _=>v=(.int .i64 d2:Value),fun v _=>v=(.agg (cFrm d4 A11 c12).toArray:Value),fun v w'=>∃ A286 c287,v=(.agg (cBuf x281 A286 c287).toArray:Value)∧Stb (b240::(b169::(b87_9::(b68::L)))) w' (fun w=>SlC kNm w A286 c287 x281.names),fun v w'=>∃ A291 c292,v=(.agg (cBuf x289 A291 c292).toArray:Value)∧Stb (b240::(b169::(b87_9::(b68::L)))) w' (fun w=>SlC kNm w A291 c292 x289.names),fun v _=>v=(.agg (cBuf d0 A1 c2).toArray:Value),fun v w'=>∃ A296 c297,v=(.agg (cBuf x294 A296 c297).toArray:Value)∧Stb (b240::(b169::(b87_9::(b68::L)))) w' (fun w=>SlC kNm w A296 c297 x294.names),fun v _=>v=(.agg (cArena d1 A4 c5 A7 c8).toArray:Value),fun v _=>v=(.int .i64 d2:Value),fun v _=>v=(.agg (cFrm d4 A11 c12).toArray:Value),fun v w'=>∃ A300 c301,v=(.agg (cFrm x299 A300 c301).toArray:Value)∧Stb (b240::(b169::(b87_9::(b68::L)))) w' (fun w=>SlC kEnt w A300 c301 x299.entries),fun v w'=>∃ A310 c311,v=(.agg (cBuf x304 A310 c311).toArray:Value)∧Stb (b240::(b169::(b87_9::(b68::L)))) w' (fun w=>SlC kNm w A310 c311 x304.names),fun v _=>v=(.bool (sameB x289 x304):Value),fun v _=>v=(.bool (sameB x289 x304):Value)] (by kernel_rfl) ⟨fun _ _ _ _ _ h=>h,fun _ _ _ _ _ h=>h,fun _ _ _ _ _ h=>h,fun _ _ _ _ _ h=>h,fun _ v w' w'' F h=>by obtain ⟨A286,c287,hv,H288⟩:=h; exact ⟨A286,c287,hv,(H288.ex F)⟩,fun _ v w' w'' F h=>by obtain ⟨A291,c292,hv,H293⟩:=h; exact ⟨A291,c292,hv,(H293.ex F)⟩,fun _ _ _ _ _ h=>h,fun _ v w' w'' F h=>by obtain ⟨A296,c297,hv,H298⟩:=h; exact ⟨A296,c297,hv,(H298.ex F)⟩,fun _ _ _ _ _ h=>h,fun _ _ _ _ _ h=>h,fun _ _ _ _ _ h=>h,fun _ v w' w'' F h=>by obtain ⟨A300,c301,hv,H302⟩:=h; exact ⟨A300,c301,hv,(H302.ex F)⟩,fun _ v w' w'' F h=>by obtain ⟨A310,c311,hv,H312⟩:=h; exact ⟨A310,c311,hv,(H312.ex F)⟩,fun _ _ _ _ _ h=>h,fun _ _ _ _ _ h=>h,trivial⟩ ?_ ?_
    ·refine ⟨?_,?_,?_,?_,?_,?_,?_,?_,?_,?_,?_,?_,?_,?_,?_,trivial⟩
     ·intro ρ w280o F280o hS hρ
      have q5:ρ 5=.pointer (some ⟨b14,0,none⟩):=hρ 5 (by kernel_rfl)
      exact o_q (r_lda agg_buffer_Buffer q5 (vs:=(cBuf d0 A1 c2)) rfl ((S14.fr (G269.trans (Fr.ext F280o)) (fun _ h=>h)).now.part (n:=3) rfl)) ⟨Fr.refl _ _,rfl⟩
     ·intro ρ w280o F280o hS hρ
      have q6:ρ 6=.pointer (some ⟨b16,0,none⟩):=hρ 6 (by kernel_rfl)
      exact o_q (r_lda agg_api_Arena q6 (vs:=(cArena d1 A4 c5 A7 c8)) rfl ((S16.fr (G270.trans (Fr.ext F280o)) (fun _ h=>h)).now.part (n:=3) rfl)) ⟨Fr.refl _ _,rfl⟩
     ·intro ρ w280o F280o hS hρ
      have q2:ρ 2=.int .i64 d2:=hρ 2 (by kernel_rfl)
      exact o_q (r_mov q2) ⟨Fr.refl _ _,rfl⟩
     ·intro ρ w280o F280o hS hρ
      have q9:ρ 9=.pointer (some ⟨b20,0,none⟩):=hρ 9 (by kernel_rfl)
      exact o_q (r_lda agg_frame_Frame q9 (vs:=(cFrm d4 A11 c12)) rfl ((S20.fr (G271.trans (Fr.ext F280o)) (fun _ h=>h)).now.part (n:=8) rfl)) ⟨Fr.refl _ _,rfl⟩
     ·intro ρ w280o F280o hS hρ
      have E357:=E267.trans F280o
      have q69:ρ 69=.agg (cBuf d0 A1 c2).toArray:=hS 0 (by decide) 69 rfl
      have q70:ρ 70=.agg (cArena d1 A4 c5 A7 c8).toArray:=hS 1 (by decide) 70 rfl
      have q71:ρ 71=.int .i64 d2:=hS 2 (by decide) 71 rfl
      have q72:ρ 72=.agg (cFrm d4 A11 c12).toArray:=hS 3 (by decide) 72 rfl
      refine o_call cf_push_Done (by simp only [List.map,ev,q69,q70,q71,q72] <;> rfl) (push_Done_c d0 (kBuf_mk (d:=d0) (H3.up (G268.trans (Fr.ext F280o)) (fun _ h=>h) (upc (.inr m244) (upc (.inr m172) (upc (.inr m139) (upc (.inr m69) (fun _ h=>.inl h))))))) d1 (kArena_mk (d:=d1) (H6.up (G268.trans (Fr.ext F280o)) (fun _ h=>h) (upc (.inr m244) (upc (.inr m172) (upc (.inr m139) (upc (.inr m69) (fun _ h=>.inl h)))))) (H9.up (G268.trans (Fr.ext F280o)) (fun _ h=>h) (upc (.inr m244) (upc (.inr m172) (upc (.inr m139) (upc (.inr m69) (fun _ h=>.inl h))))))) d2 d4 (kFrm_mk (d:=d4) (H13.up (G268.trans (Fr.ext F280o)) (fun _ h=>h) (upc (.inr m244) (upc (.inr m172) (upc (.inr m139) (upc (.inr m69) (fun _ h=>.inl h)))))) hl10) (((((hL.fr E357).cons (B277.ex F280o).lt).cons (B278.ex F280o).lt).cons (B279.ex F280o).lt).cons (B266'.ex F280o).lt) (eq_ev hx281 (puDone_ev d0 d1 d2 d4 ha282 ha283 ha284 ha285))) rfl rfl ?_
      rintro _ w' ⟨F,cs371,rfl,H372⟩
      obtain ⟨A286,c287,rfl,H288⟩:=kBuf_open H372
      exact eo_nil ⟨rfl,rfl,_,rfl,F,⟨A286,c287,rfl,H288⟩⟩
     ·intro ρ w280o F280o hS hρ
      have E373:=E267.trans F280o
      obtain ⟨A286,c287,q73,H288⟩:=hS 4 (by decide) 73 rfl
      refine o_call cf_law16_Of (by simp only [List.map,ev,q73] <;> rfl) (law16_Of_c x281 (kBuf_mk (d:=x281) H288) (((((hL.fr E373).cons (B277.ex F280o).lt).cons (B278.ex F280o).lt).cons (B279.ex F280o).lt).cons (B266'.ex F280o).lt) (eq_ev hx289 (ofB_ev x281 ha290))) rfl rfl ?_
      rintro _ w' ⟨F,cs387,rfl,H388⟩
      obtain ⟨A291,c292,rfl,H293⟩:=kBuf_open H388
      exact eo_nil ⟨rfl,rfl,_,rfl,F,⟨A291,c292,rfl,H293⟩⟩
     ·intro ρ w280o F280o hS hρ
      have q5:ρ 5=.pointer (some ⟨b14,0,none⟩):=hρ 5 (by kernel_rfl)
      exact o_q (r_lda agg_buffer_Buffer q5 (vs:=(cBuf d0 A1 c2)) rfl ((S14.fr (G269.trans (Fr.ext F280o)) (fun _ h=>h)).now.part (n:=3) rfl)) ⟨Fr.refl _ _,rfl⟩
     ·intro ρ w280o F280o hS hρ
      have E403:=E267.trans F280o
      have q75:ρ 75=.agg (cBuf d0 A1 c2).toArray:=hS 6 (by decide) 75 rfl
      refine o_call cf_law16_Of (by simp only [List.map,ev,q75] <;> rfl) (law16_Of_c d0 (kBuf_mk (d:=d0) (H3.up (G268.trans (Fr.ext F280o)) (fun _ h=>h) (upc (.inr m244) (upc (.inr m172) (upc (.inr m139) (upc (.inr m69) (fun _ h=>.inl h))))))) (((((hL.fr E403).cons (B277.ex F280o).lt).cons (B278.ex F280o).lt).cons (B279.ex F280o).lt).cons (B266'.ex F280o).lt) (eq_ev hx294 (ofB_ev d0 ha295))) rfl rfl ?_
      rintro _ w' ⟨F,cs417,rfl,H418⟩
      obtain ⟨A296,c297,rfl,H298⟩:=kBuf_open H418
      exact eo_nil ⟨rfl,rfl,_,rfl,F,⟨A296,c297,rfl,H298⟩⟩
     ·intro ρ w280o F280o hS hρ
      have q6:ρ 6=.pointer (some ⟨b16,0,none⟩):=hρ 6 (by kernel_rfl)
      exact o_q (r_lda agg_api_Arena q6 (vs:=(cArena d1 A4 c5 A7 c8)) rfl ((S16.fr (G270.trans (Fr.ext F280o)) (fun _ h=>h)).now.part (n:=3) rfl)) ⟨Fr.refl _ _,rfl⟩
     ·intro ρ w280o F280o hS hρ
      have q2:ρ 2=.int .i64 d2:=hρ 2 (by kernel_rfl)
      exact o_q (r_mov q2) ⟨Fr.refl _ _,rfl⟩
     ·intro ρ w280o F280o hS hρ
      have q9:ρ 9=.pointer (some ⟨b20,0,none⟩):=hρ 9 (by kernel_rfl)
      exact o_q (r_lda agg_frame_Frame q9 (vs:=(cFrm d4 A11 c12)) rfl ((S20.fr (G271.trans (Fr.ext F280o)) (fun _ h=>h)).now.part (n:=8) rfl)) ⟨Fr.refl _ _,rfl⟩
     ·intro ρ w280o F280o hS hρ
      have E447:=E267.trans F280o
      have q79:ρ 79=.agg (cFrm d4 A11 c12).toArray:=hS 10 (by decide) 79 rfl
      refine o_call cf_law14_Of (by simp only [List.map,ev,q79] <;> rfl) (law14_Of_c d4 (kFrm_mk (d:=d4) (H13.up (G268.trans (Fr.ext F280o)) (fun _ h=>h) (upc (.inr m244) (upc (.inr m172) (upc (.inr m139) (upc (.inr m69) (fun _ h=>.inl h)))))) hl10) (((((hL.fr E447).cons (B277.ex F280o).lt).cons (B278.ex F280o).lt).cons (B279.ex F280o).lt).cons (B266'.ex F280o).lt) (eq_ev hx299 (ofF_ev d4))) rfl rfl ?_
      rintro _ w' ⟨F,cs461,rfl,H462⟩
      obtain ⟨A300,c301,rfl,H302,_⟩:=kFrm_open H462
      exact eo_nil ⟨rfl,rfl,_,rfl,F,⟨A300,c301,rfl,H302⟩⟩
     ·intro ρ w280o F280o hS hρ
      have E463:=E267.trans F280o
      obtain ⟨A296,c297,q76,H298⟩:=hS 7 (by decide) 76 rfl
      have q77:ρ 77=.agg (cArena d1 A4 c5 A7 c8).toArray:=hS 8 (by decide) 77 rfl
      have q78:ρ 78=.int .i64 d2:=hS 9 (by decide) 78 rfl
      obtain ⟨A300,c301,q80,H302⟩:=hS 11 (by decide) 80 rfl
      refine o_call cf_ref17_Done (by simp only [List.map,ev,q76,q77,q78,q80] <;> rfl) (ref17_Done_c x294 (kBuf_mk (d:=x294) H298) d1 (kArena_mk (d:=d1) (H6.up (G268.trans (Fr.ext F280o)) (fun _ h=>h) (upc (.inr m244) (upc (.inr m172) (upc (.inr m139) (upc (.inr m69) (fun _ h=>.inl h)))))) (H9.up (G268.trans (Fr.ext F280o)) (fun _ h=>h) (upc (.inr m244) (upc (.inr m172) (upc (.inr m139) (upc (.inr m69) (fun _ h=>.inl h))))))) d2 x299 (kFrm_mk (d:=x299) H302 ha303) (((((hL.fr E463).cons (B277.ex F280o).lt).cons (B278.ex F280o).lt).cons (B279.ex F280o).lt).cons (B266'.ex F280o).lt) (eq_ev hx304 (refDone_ev x294 d1 d2 x299 ha305 ha306 ha307 ha308 ha309))) rfl rfl ?_
      rintro _ w' ⟨F,cs477,rfl,H478⟩
      obtain ⟨A310,c311,rfl,H312⟩:=kBuf_open H478
      exact eo_nil ⟨rfl,rfl,_,rfl,F,⟨A310,c311,rfl,H312⟩⟩
     ·intro ρ w280o F280o hS hρ
      have E479:=E267.trans F280o
      obtain ⟨A291,c292,q74,H293⟩:=hS 5 (by decide) 74 rfl
      obtain ⟨A310,c311,q81,H312⟩:=hS 12 (by decide) 81 rfl
      refine o_call cf_ref16_Same (by simp only [List.map,ev,q74,q81] <;> rfl) (ref16_Same_c x289 (kBuf_mk (d:=x289) H293) x304 (kBuf_mk (d:=x304) H312) (((((hL.fr E479).cons (B277.ex F280o).lt).cons (B278.ex F280o).lt).cons (B279.ex F280o).lt).cons (B266'.ex F280o).lt) (refSameB_ev x289 x304 ha314)) rfl rfl ?_
      rintro _ w' ⟨F,rfl⟩
      exact eo_nil ⟨rfl,rfl,_,rfl,F,rfl⟩
     ·intro ρ w280o F280o hS hρ
      have q82:ρ 82=.bool (sameB x289 x304):=hS 13 (by decide) 82 rfl
      exact o_q (r_asg q82) ⟨Fr.refl _ _,rfl⟩
    ·intro ρ w280 F280 hS hρ
     have q21:ρ 21=.bool (sameB x289 x304):=hS 14 21 rfl
     obtain ⟨ρ',rfl⟩:∃ ρ',ρ=envs (ovr [21,69,70,71,72,73,74,75,76,77,78,79,80,81,82] ρ' _) [(21,.bool (sameB x289 x304))]:=⟨ρ,ovr_self hρ ⟨q21,trivial⟩⟩
     have E493:=E267.trans F280
     refine sq_n ?_
     refine ec_seq ?_
     obtain ⟨x508,hx508,h⟩:=h
     obtain ⟨ha512,h⟩:=h
     obtain ⟨ha513,h⟩:=h
     obtain ⟨ha515,h⟩:=h
     refine ec_any0 (by kernel_rfl) [[],[0],[],[0,1,2],[0,1,2,3]] [22,83,84,85,86] [fun v _=>v=(.agg (cFrm x54.1 A65 c66).toArray:Value),fun v w'=>∃ A509 c510,v=(.agg (cFrm x508 A509 c510).toArray:Value)∧Stb (b240::(b169::(b87_9::(b68::L)))) w' (fun w=>SlC kEnt w A509 c510 x508.entries),fun v _=>v=(.agg (cFrm x93.1 A96 c97).toArray:Value),fun v _=>v=(.bool (sameF x508 x93.1):Value),fun v _=>v=(.bool (sameF x508 x93.1):Value)] (by kernel_rfl) ⟨fun _ _ _ _ _ h=>h,fun _ v w' w'' F h=>by obtain ⟨A509,c510,hv,H511⟩:=h; exact ⟨A509,c510,hv,(H511.ex F)⟩,fun _ _ _ _ _ h=>h,fun _ _ _ _ _ h=>h,fun _ _ _ _ _ h=>h,trivial⟩ ?_ ?_
     ·refine ⟨?_,?_,?_,?_,?_,trivial⟩
      ·intro ρ w507o F507o hS hρ
       have q13:ρ 13=.pointer (some ⟨b68,0,none⟩):=hρ 13 (by kernel_rfl)
       exact o_q (r_lda agg_frame_Frame q13 (vs:=(cFrm x54.1 A65 c66)) rfl (((B277.ex F280).ex F507o).part (n:=8) rfl)) ⟨Fr.refl _ _,rfl⟩
      ·intro ρ w507o F507o hS hρ
       have E531:=E493.trans F507o
       have q83:ρ 83=.agg (cFrm x54.1 A65 c66).toArray:=hS 0 (by decide) 83 rfl
       refine o_call cf_law14_Of (by simp only [List.map,ev,q83] <;> rfl) (law14_Of_c x54.1 (kFrm_mk (d:=x54.1) (H67.up ((G272.trans (Fr.ext F280)).trans (Fr.ext F507o)) (fun _ h=>h) (upc (.inr m248) (upc (.inr m176) (upc (.inr m143) (upc (.inr m73) (fun _ h=>.inl h)))))) hl64) (((((hL.fr E531).cons ((B277.ex F280).ex F507o).lt).cons ((B278.ex F280).ex F507o).lt).cons ((B279.ex F280).ex F507o).lt).cons ((B266'.ex F280).ex F507o).lt) (eq_ev hx508 (ofF_ev x54.1))) rfl rfl ?_
       rintro _ w' ⟨F,cs546,rfl,H547⟩
       obtain ⟨A509,c510,rfl,H511,_⟩:=kFrm_open H547
       exact eo_nil ⟨rfl,rfl,_,rfl,F,⟨A509,c510,rfl,H511⟩⟩
      ·intro ρ w507o F507o hS hρ
       have q15:ρ 15=.pointer (some ⟨b87_9,0,none⟩):=hρ 15 (by kernel_rfl)
       exact o_q (r_lda agg_ouroborosref14_Frame q15 (vs:=(cFrm x93.1 A96 c97)) rfl (((B278.ex F280).ex F507o).part (n:=8) rfl)) ⟨Fr.refl _ _,rfl⟩
      ·intro ρ w507o F507o hS hρ
       have E563:=E493.trans F507o
       obtain ⟨A509,c510,q84,H511⟩:=hS 1 (by decide) 84 rfl
       have q85:ρ 85=.agg (cFrm x93.1 A96 c97).toArray:=hS 2 (by decide) 85 rfl
       refine o_call cf_ref14_Same (by simp only [List.map,ev,q84,q85] <;> rfl) (ref14_Same_c x508 (kFrm_mk (d:=x508) H511 ha512) x93.1 (kFrm_mk (d:=x93.1) (H98.up ((G273.trans (Fr.ext F280)).trans (Fr.ext F507o)) (fun _ h=>h) (upc (.inr m249) (upc (.inr m177) (upc (.inl (List.Mem.head _)) (upc (.inl (List.Mem.tail _ (List.Mem.head _))) (fun m hm=>Or.inl (List.Mem.tail _ (List.Mem.tail _ hm)))))))) ha513) (((((hL.fr E563).cons ((B277.ex F280).ex F507o).lt).cons ((B278.ex F280).ex F507o).lt).cons ((B279.ex F280).ex F507o).lt).cons ((B266'.ex F280).ex F507o).lt) (refSameF_ev x508 x93.1 ha515)) rfl rfl ?_
       rintro _ w' ⟨F,rfl⟩
       exact eo_nil ⟨rfl,rfl,_,rfl,F,rfl⟩
      ·intro ρ w507o F507o hS hρ
       have q86:ρ 86=.bool (sameF x508 x93.1):=hS 3 (by decide) 86 rfl
       exact o_q (r_asg q86) ⟨Fr.refl _ _,rfl⟩
     ·intro ρ w507 F507 hS hρ
      have q22:ρ 22=.bool (sameF x508 x93.1):=hS 4 22 rfl
      obtain ⟨ρ',rfl⟩:∃ ρ',ρ=envs (ovr [22,83,84,85,86] ρ' _) [(22,.bool (sameF x508 x93.1))]:=⟨ρ,ovr_self hρ ⟨q22,trivial⟩⟩
      have E578:=E493.trans F507
      refine sq_n ?_
      refine ec_seq ?_
      obtain ⟨x594,hx594,h⟩:=h
      obtain ⟨ha598,h⟩:=h
      obtain ⟨ha600,h⟩:=h
      refine ec_any0 (by kernel_rfl) [[],[0],[],[0,1,2],[0,1,2,3]] [23,87,88,89,90] [fun v _=>v=(.agg (cFrm x151.1 A166 c167).toArray:Value),fun v w'=>∃ A595 c596,v=(.agg (cFrm x594 A595 c596).toArray:Value)∧Stb (b240::(b169::(b87_9::(b68::L)))) w' (fun w=>SlC kEnt w A595 c596 x594.entries),fun v _=>v=(.agg (cFrm x218.1 A237 c238).toArray:Value),fun v _=>v=(.bool (sameF x594 x218.1):Value),fun v _=>v=(.bool (sameF x594 x218.1):Value)] (by kernel_rfl) ⟨fun _ _ _ _ _ h=>h,fun _ v w' w'' F h=>by obtain ⟨A595,c596,hv,H597⟩:=h; exact ⟨A595,c596,hv,(H597.ex F)⟩,fun _ _ _ _ _ h=>h,fun _ _ _ _ _ h=>h,fun _ _ _ _ _ h=>h,trivial⟩ ?_ ?_
      ·refine ⟨?_,?_,?_,?_,?_,trivial⟩
       ·intro ρ w593o F593o hS hρ
        have q17:ρ 17=.pointer (some ⟨b169,0,none⟩):=hρ 17 (by kernel_rfl)
        exact o_q (r_lda agg_frame_Frame q17 (vs:=(cFrm x151.1 A166 c167)) rfl ((((B279.ex F280).ex F507).ex F593o).part (n:=8) rfl)) ⟨Fr.refl _ _,rfl⟩
       ·intro ρ w593o F593o hS hρ
        have E617:=E578.trans F593o
        have G624:=((G274.trans (Fr.ext F280)).trans (Fr.ext F507)).trans (Fr.ext F593o)
        have q87:ρ 87=.agg (cFrm x151.1 A166 c167).toArray:=hS 0 (by decide) 87 rfl
        refine o_call cf_law14_Of (by simp only [List.map,ev,q87] <;> rfl) (law14_Of_c x151.1 (kFrm_mk (d:=x151.1) (H168.up G624 (fun _ h=>h) (upc (.inr m250) (upc (.inr m178) (upc (.inl (List.Mem.head _)) (upc (.inl (List.Mem.tail _ (List.Mem.head _))) (fun m hm=>Or.inl (List.Mem.tail _ (List.Mem.tail _ hm)))))))) hl165) (((((hL.fr E617).cons (((B277.ex F280).ex F507).ex F593o).lt).cons (((B278.ex F280).ex F507).ex F593o).lt).cons (((B279.ex F280).ex F507).ex F593o).lt).cons (((B266'.ex F280).ex F507).ex F593o).lt) (eq_ev hx594 (ofF_ev x151.1))) rfl rfl ?_
        rintro _ w' ⟨F,cs633,rfl,H634⟩
        obtain ⟨A595,c596,rfl,H597,_⟩:=kFrm_open H634
        exact eo_nil ⟨rfl,rfl,_,rfl,F,⟨A595,c596,rfl,H597⟩⟩
       ·intro ρ w593o F593o hS hρ
        have q19:ρ 19=.pointer (some ⟨b240,0,none⟩):=hρ 19 (by kernel_rfl)
        exact o_q (r_lda agg_ouroborosref14_Frame q19 (vs:=(cFrm x218.1 A237 c238)) rfl ((((B266'.ex F280).ex F507).ex F593o).part (n:=8) rfl)) ⟨Fr.refl _ _,rfl⟩
       ·intro ρ w593o F593o hS hρ
        have E651:=E578.trans F593o
        have G660:=((G276.trans (Fr.ext F280)).trans (Fr.ext F507)).trans (Fr.ext F593o)
        obtain ⟨A595,c596,q88,H597⟩:=hS 1 (by decide) 88 rfl
        have q89:ρ 89=.agg (cFrm x218.1 A237 c238).toArray:=hS 2 (by decide) 89 rfl
        refine o_call cf_ref14_Same (by simp only [List.map,ev,q88,q89] <;> rfl) (ref14_Same_c x594 (kFrm_mk (d:=x594) H597 ha598) x218.1 (kFrm_mk (d:=x218.1) (H239.up G660 (fun _ h=>h) (upc (.inr m252) (upc (.inl (List.Mem.head _)) (upc (.inl (List.Mem.tail _ (List.Mem.head _))) (upc (.inl (List.Mem.tail _ (List.Mem.tail _ (List.Mem.head _)))) (fun m hm=>Or.inl (List.Mem.tail _ (List.Mem.tail _ (List.Mem.tail _ hm))))))))) hl236) (((((hL.fr E651).cons (((B277.ex F280).ex F507).ex F593o).lt).cons (((B278.ex F280).ex F507).ex F593o).lt).cons (((B279.ex F280).ex F507).ex F593o).lt).cons (((B266'.ex F280).ex F507).ex F593o).lt) (refSameF_ev x594 x218.1 ha600)) rfl rfl ?_
        rintro _ w' ⟨F,rfl⟩
        exact eo_nil ⟨rfl,rfl,_,rfl,F,rfl⟩
       ·intro ρ w593o F593o hS hρ
        have q90:ρ 90=.bool (sameF x594 x218.1):=hS 3 (by decide) 90 rfl
        exact o_q (r_asg q90) ⟨Fr.refl _ _,rfl⟩
      ·intro ρ w593 F593 hS hρ
       have q23:ρ 23=.bool (sameF x594 x218.1):=hS 4 23 rfl
       obtain ⟨ρ',rfl⟩:∃ ρ',ρ=envs (ovr [23,87,88,89,90] ρ' _) [(23,.bool (sameF x594 x218.1))]:=⟨ρ,ovr_self hρ ⟨q23,trivial⟩⟩
       have E667:=E578.trans F593
       refine sq_n ?_
       refine ec_seq ?_
       refine ec_region ?_
       iterate 2 refine o_w (v:=.bool (worksV)) (r_mov rfl) ?_
       refine o_v (v:=.bool (sameF x508 x93.1)) (r_mov rfl) (want_t (t:=92) rfl rfl (of_not hc31)) rfl rfl ?_
       refine o_w (v:=.bool (sameF x508 x93.1)) (r_pickT rfl (of_not hc31) rfl) ?_
       refine o_w (v:=.bool (sameF x508 x93.1)) (r_mov rfl) ?_
       refine o_vg (v:=.bool x54.2) (want_ct (t:=95) rfl rfl) (fun hk=>(r_mov rfl)) rfl rfl ?_
       refine o_vg (v:=.bool x93.2) (want_ct (t:=95) rfl rfl) (fun hk=>(r_mov rfl)) rfl rfl ?_
       refine o_vg (v:=.bool (x54.2==x93.2)) (want_ct (t:=95) rfl rfl) (fun hk=>(r_boolEq un_bool (gdT hk) (gdT hk))) rfl rfl ?_
       refine o_w (v:=.bool ((sameF x508 x93.1)&&(x54.2==x93.2))) (r_pickAnd rfl (fun ht=>(gdT ht)) rfl) ?_
       refine o_w (v:=.bool ((sameF x508 x93.1)&&(x54.2==x93.2))) (r_mov rfl) ?_
       refine o_vg (v:=.bool (sameF x594 x218.1)) (want_ct (t:=100) rfl rfl) (fun hk=>(r_mov rfl)) rfl rfl ?_
       refine o_w (v:=.bool (((sameF x508 x93.1)&&(x54.2==x93.2))&&(sameF x594 x218.1))) (r_pickAnd rfl (fun ht=>(gdT ht)) rfl) ?_
       refine o_w (v:=.bool (((sameF x508 x93.1)&&(x54.2==x93.2))&&(sameF x594 x218.1))) (r_mov rfl) ?_
       refine o_vg (v:=.bool x151.2) (want_ct (t:=103) rfl rfl) (fun hk=>(r_mov rfl)) rfl rfl ?_
       refine o_vg (v:=.bool x218.2) (want_ct (t:=103) rfl rfl) (fun hk=>(r_mov rfl)) rfl rfl ?_
       refine o_vg (v:=.bool (x151.2==x218.2)) (want_ct (t:=103) rfl rfl) (fun hk=>(r_boolEq un_bool (gdT hk) (gdT hk))) rfl rfl ?_
       refine o_w (v:=.bool ((((sameF x508 x93.1)&&(x54.2==x93.2))&&(sameF x594 x218.1))&&(x151.2==x218.2))) (r_pickAnd rfl (fun ht=>(gdT ht)) rfl) ?_
       refine o_w (v:=.bool ((((sameF x508 x93.1)&&(x54.2==x93.2))&&(sameF x594 x218.1))&&(x151.2==x218.2))) (r_mov rfl) ?_
       refine o_vg (v:=.bool (sameB x289 x304)) (want_ct (t:=108) rfl rfl) (fun hk=>(r_mov rfl)) rfl rfl ?_
       refine o_w (v:=.bool (((((sameF x508 x93.1)&&(x54.2==x93.2))&&(sameF x594 x218.1))&&(x151.2==x218.2))&&(sameB x289 x304))) (r_pickAnd rfl (fun ht=>(gdT ht)) rfl) ?_
       refine o_w (v:=.bool (((((sameF x508 x93.1)&&(x54.2==x93.2))&&(sameF x594 x218.1))&&(x151.2==x218.2))&&(sameB x289 x304))) (r_asg rfl) ?_
       refine eo_nil_sq ?_
       refine ec_ret ?_
       subst h
       exact (end1 rfl ⟨_,rfl,E667,rfl⟩)
end Go.Proofs.YthfkbabgkacfnaaGreat
