/- The law PushOrder: what it comes to. -/
import Derived.Test.YthfkbabgkacfnaaPx
namespace Go.Proofs.Ythfkbabgkacfnaa
open Go Go.RowKit
set_option linter.unusedVariables false
set_option linter.unusedSimpArgs false
def law17_PushOrder_b70 (d1:Arena) (d2:Int) (x42:Buf) (s70:Int × Int × Int × List Nm) (z70:(Int × Int × Int × List Nm) ⊕ ((Int × Int × Int × List Nm) ⊕ (Bool))):Prop :=
 ((decide (s70.1<(x42.names.length:Int)))=true→((smB (⟨s70.2.1,s70.2.2.1,s70.2.2.2⟩:Buf))∧((sma d1)∧(∃ x75,x75=(sendP (⟨s70.2.1,s70.2.2.1,s70.2.2.2⟩:Buf) d1 (IntKind.i64.wrap ((Int.tmod (IntKind.i64.wrap d2) (8:Int)) + (1:Int))) (1:Int))∧((sml x75.1.entries)∧((x75.1.entries.length≤1000000)∧(∃ x120,x120=(heardP x75.1)∧(((!x75.2)=true→(z70=.inr (.inr false)))∧((!x75.2)=false→(((!x120.2)=true→(z70=.inr (.inr false)))∧((!x120.2)=false→(((x75.1.b != (IntKind.i64.wrap (x42.first + s70.1)))=true→(z70=.inr (.inr false)))∧((x75.1.b != (IntKind.i64.wrap (x42.first + s70.1)))=false→(((x75.1.a != x42.epoch)=true→(z70=.inr (.inr false)))∧((x75.1.a != x42.epoch)=false→((((x75.1.entries.length:Int) != (1:Int))=true→(z70=.inr (.inr false)))∧(((x75.1.entries.length:Int) != (1:Int))=false→(((!(((nth x75.1.entries (0:Int)).key)==((nth x42.names s70.1).key)))=true→((0≤(0:Int)∧(0:Int)<(x75.1.entries.length:Int))∧((0≤s70.1∧s70.1<(x42.names.length:Int))∧(z70=.inr (.inr false)))))∧((!(((nth x75.1.entries (0:Int)).key)==((nth x42.names s70.1).key)))=false→((0≤(0:Int)∧(0:Int)<(x75.1.entries.length:Int))∧((0≤s70.1∧s70.1<(x42.names.length:Int))∧((0≤(0:Int)∧(0:Int)<(x75.1.entries.length:Int))∧((0≤s70.1∧s70.1<(x42.names.length:Int))∧((((((nth x75.1.entries (0:Int)).val).kind) != ((nth x42.names s70.1).kind))=true→(z70=.inr (.inr false)))∧(((((nth x75.1.entries (0:Int)).val).kind) != ((nth x42.names s70.1).kind))=false→((smB (⟨s70.2.1,s70.2.2.1,s70.2.2.2⟩:Buf))∧((sma d1)∧((sml x120.1.entries)∧((x120.1.entries.length≤1000000)∧(∃ x1022,x1022=(doneP (⟨s70.2.1,s70.2.2.1,s70.2.2.2⟩:Buf) d1 (IntKind.i64.wrap ((Int.tmod (IntKind.i64.wrap d2) (8:Int)) + (1:Int))) x120.1)∧(z70=.inl ((IntKind.i64.wrap (s70.1 + (1:Int))),x1022.epoch,x1022.first,x1022.names))))))))))))))))))))))))))))))))∧((decide (s70.1<(x42.names.length:Int)))=false→(z70=.inr (.inl (s70.1,s70.2.1,s70.2.2.1,s70.2.2.2))))
def law17_PushOrder_raw (d0:Buf) (d1:Arena) (d2:Int) (y:Bool):Prop :=
 ((!(worksV))=true→(y=false))∧((!(worksV))=false→(((!(!((fewB d0)&&(fewA d1))))=true→sma d1)∧((((!((fewB d0)&&(fewA d1)))||((checkA d1) != (0:Int)))=true→(y=(worksV)))∧(((!((fewB d0)&&(fewA d1)))||((checkA d1) != (0:Int)))=false→((smB d0)∧((sma d1)∧(∃ x42,x42=(mendB d0 d1 (IntKind.i64.wrap ((Int.tmod (IntKind.i64.wrap d2) (8:Int)) + (1:Int))))∧(∃ x70,LoopR (law17_PushOrder_b70 d1 d2 x42) ((0:Int),d0.epoch,d0.first,d0.names) x70∧(∀ sx70,x70=.inl sx70→((smB (⟨sx70.2.1,sx70.2.2.1,sx70.2.2.2⟩:Buf))∧((sma d1)∧(∃ x1062,x1062=(sendP (⟨sx70.2.1,sx70.2.2.1,sx70.2.2.2⟩:Buf) d1 (IntKind.i64.wrap ((Int.tmod (IntKind.i64.wrap d2) (8:Int)) + (1:Int))) (1:Int))∧(y=(!x1062.2))))))∧(∀ y70,x70=.inr y70→(y=y70))))))))))
set_option maxRecDepth 20000 in
set_option maxHeartbeats 4000000 in
theorem law17_PushOrder_c {L:List Nat} {w:World} {csP0:List Value} (d0:Buf) (HP0:Stb L w (fun w=>kBuf.r w csP0 d0)) {csP1:List Value} (d1:Arena) (HP1:Stb L w (fun w=>kArena.r w csP1 d1)) (d2:Int) (hL:Lt L w) {y:Bool} (h:law17_PushOrder_raw d0 d1 d2 y) :
  Calls Try.prog 4 [.agg csP0.toArray,.agg csP1.toArray,.int .u8 d2].toArray w (Ret fun v w'=>Ext w w'∧v=.bool y):=by
 obtain ⟨A1,c2,rfl,H3⟩:=kBuf_open HP0
 obtain ⟨A4,c5,A7,c8,rfl,H6,H9⟩:=kArena_open HP1
 unfold law17_PushOrder_raw at h
 refine calls_ec Try.func4 rfl rfl rfl ?_
 refine ec_seq ?_
 refine ec_region ?_
 refine o_box (cs:=(cBuf d0 A1 c2)) rfl rfl rfl ?_
 intro b10 w10 e10 F10 B10
 have n10:w.heap.size≤b10:=Nat.le_of_eq e10.symm
 have m11:w.heap.size≤b10:=Nat.le_of_eq e10.symm
 have G12:Fr L w w10:=Fr.ext F10
 refine o_box (cs:=(cArena d1 A4 c5 A7 c8)) rfl rfl rfl ?_
 intro b13 w13 e13 F13 B13
 have S13:=B13.stb (nin ((hL.fr F10).cons B10.lt) e13)
 have E14:=F10.trans F13
 refine o_w (v:=.bool false) (r_asg rfl) ?_
 refine eo_nil_sq ?_
 refine ec_seq ?_
 refine ec_region ?_
 refine o_call cf_law17_works rfl (law17_works_c ((hL.fr E14).cons (B10.ex F13).lt) (works17_ev)) rfl rfl ?_
 rintro _ w17 ⟨F17,rfl⟩
 have E18:=E14.trans F17
 have G20:Fr (b10::L) w13 w17:=Fr.ext F17
 refine o_w (v:=.bool (worksV)) (r_asg rfl) ?_
 refine eo_nil_sq ?_
 iterate 2 refine ec_seq ?_
 refine ec_region ?_
 refine o_w (v:=.bool (worksV)) (r_mov rfl) ?_
 refine o_w (v:=.bool (!(worksV))) (r_not rfl) ?_
 refine eo_nil_sq ?_
 refine ec_cond rfl (fun hc22=>?_) (fun hc22=>?_)
 ·replace h:=h.1 hc22
  refine ec_seq ?_
  refine ec_region ?_
  refine o_w (v:=.bool false) (r_asg rfl) ?_
  refine eo_nil_sq ?_
  refine ec_ret ?_
  refine sq_ret ?_
  subst h
  exact (end1 rfl ⟨_,rfl,E18,rfl⟩)
 ·replace h:=h.2 hc22
  refine ec_skip ?_
  refine sq_n ?_
  refine ec_seq ?_
  refine ec_region ?_
  refine o_w (v:=.agg (cBuf d0 A1 c2).toArray) (r_lda agg_buffer_Buffer rfl (vs:=(cBuf d0 A1 c2)) rfl (((B10.ex F13).ex F17).part (n:=3) rfl)) ?_
  refine o_call cf_law16_Few rfl (law16_Few_c d0 (kBuf_mk (d:=d0) (H3.up ((G12.trans (Fr.ext F13)).trans (Fr.ext F17)) (fun _ h=>h) (upc (.inr m11) (fun _ h=>.inl h)))) ((hL.fr E18).cons ((B10.ex F13).ex F17).lt) (fewB_ev d0)) rfl rfl ?_
  rintro _ w24 ⟨F24,rfl⟩
  have E25:=E18.trans F24
  refine o_w (v:=.bool (fewB d0)) (r_mov rfl) ?_
  refine o_vg (v:=.agg (cArena d1 A4 c5 A7 c8).toArray) (want_ct (t:=23) rfl rfl) (fun hk=>(r_lda agg_api_Arena rfl (vs:=(cArena d1 A4 c5 A7 c8)) rfl ((S13.fr (G20.trans (Fr.ext F24)) (fun _ h=>h)).now.part (n:=3) rfl))) rfl rfl ?_
  refine o_callg (V:=.bool (fewA d1)) cf_law08_Few (want_ct (t:=23) rfl rfl) (fun hk=>(mapv1 (gdT hk))) (fun hk=>(law08_Few_c d1 (kArena_mk (d:=d1) (H6.up (((G12.trans (Fr.ext F13)).trans (Fr.ext F17)).trans (Fr.ext F24)) (fun _ h=>h) (upc (.inr m11) (fun _ h=>.inl h))) (H9.up (((G12.trans (Fr.ext F13)).trans (Fr.ext F17)).trans (Fr.ext F24)) (fun _ h=>h) (upc (.inr m11) (fun _ h=>.inl h)))) ((hL.fr E25).cons (((B10.ex F13).ex F17).ex F24).lt) (fewA_ev d1))) rfl ?_
  intro w29 F29
  have E30:=E25.trans F29
  have G31:=(((G12.trans (Fr.ext F13)).trans (Fr.ext F17)).trans (Fr.ext F24)).trans (Fr.ext F29)
  refine o_w (v:=.bool ((fewB d0)&&(fewA d1))) (r_pickAnd rfl (fun ht=>(gdT ht)) rfl) ?_
  refine o_w (v:=.bool ((fewB d0)&&(fewA d1))) (r_asg rfl) ?_
  refine eo_nil_sq ?_
  refine ec_seq ?_
  refine ec_region ?_
  refine o_w (v:=.int .u8 d2) (r_mov rfl) ?_
  refine o_w (v:=.int .i64 (IntKind.i64.wrap d2)) (r_conv un_uint8 un_int rfl) ?_
  refine o_w (v:=.int .i64 (Int.tmod (IntKind.i64.wrap d2) (8:Int))) (r_rem rfl rfl rfl) ?_
  refine o_w (v:=.int .i64 (IntKind.i64.wrap ((Int.tmod (IntKind.i64.wrap d2) (8:Int)) + (1:Int)))) (r_int rfl rfl rfl) ?_
  refine o_w (v:=.int .i64 (IntKind.i64.wrap ((Int.tmod (IntKind.i64.wrap d2) (8:Int)) + (1:Int)))) (r_asg rfl) ?_
  refine eo_nil_sq ?_
  iterate 2 refine ec_seq ?_
  refine ec_region ?_
  refine o_w (v:=.bool ((fewB d0)&&(fewA d1))) (r_mov rfl) ?_
  refine o_w (v:=.bool (!((fewB d0)&&(fewA d1)))) (r_not rfl) ?_
  refine o_w (v:=.bool (!((fewB d0)&&(fewA d1)))) (r_mov rfl) ?_
  refine o_vg (v:=.agg (cArena d1 A4 c5 A7 c8).toArray) (want_cf (t:=33) rfl rfl) (fun hk=>(r_lda agg_api_Arena rfl (vs:=(cArena d1 A4 c5 A7 c8)) rfl ((S13.fr ((G20.trans (Fr.ext F24)).trans (Fr.ext F29)) (fun _ h=>h)).now.part (n:=3) rfl))) rfl rfl ?_
  obtain ⟨ha36,h⟩:=h
  refine o_callg (V:=.int .i64 (checkA d1)) cf_arena_Check (want_cf (t:=33) rfl rfl) (fun hk=>(mapv1 (gdT hk))) (fun hk=>(arena_Check_c d1 (kArena_mk (d:=d1) (H6.up G31 (fun _ h=>h) (upc (.inr m11) (fun _ h=>.inl h))) (H9.up G31 (fun _ h=>h) (upc (.inr m11) (fun _ h=>.inl h)))) ((hL.fr E30).cons ((((B10.ex F13).ex F17).ex F24).ex F29).lt) (arCheck_ev d1 (ha36 hk)))) rfl ?_
  intro w35 F35
  have E37:=E30.trans F35
  refine o_vg (v:=.bool ((checkA d1) != (0:Int))) (want_cf (t:=33) rfl rfl) (fun hk=>(r_int (gdT hk) rfl rfl)) rfl rfl ?_
  refine o_w (v:=.bool ((!((fewB d0)&&(fewA d1)))||((checkA d1) != (0:Int)))) (r_pickOr rfl rfl (fun hf=>(gdT (notT hf)))) ?_
  refine eo_nil_sq ?_
  refine ec_cond rfl (fun hc41=>?_) (fun hc41=>?_)
  ·replace h:=h.1 hc41
   refine ec_seq ?_
   refine ec_region ?_
   refine o_w (v:=.bool (worksV)) (r_mov rfl) ?_
   refine o_w (v:=.bool (worksV)) (r_asg rfl) ?_
   refine eo_nil_sq ?_
   refine ec_ret ?_
   refine sq_ret ?_
   subst h
   exact (end1 rfl ⟨_,rfl,E37,rfl⟩)
  ·replace h:=h.2 hc41
   refine ec_skip ?_
   refine sq_n ?_
   refine ec_seq ?_
   refine ec_region ?_
   refine o_w (v:=.agg (cBuf d0 A1 c2).toArray) (r_lda agg_buffer_Buffer rfl (vs:=(cBuf d0 A1 c2)) rfl ((((((B10.ex F13).ex F17).ex F24).ex F29).ex F35).part (n:=3) rfl)) ?_
   refine o_w (v:=.agg (cArena d1 A4 c5 A7 c8).toArray) (r_lda agg_api_Arena rfl (vs:=(cArena d1 A4 c5 A7 c8)) rfl ((S13.fr (((G20.trans (Fr.ext F24)).trans (Fr.ext F29)).trans (Fr.ext F35)) (fun _ h=>h)).now.part (n:=3) rfl)) ?_
   refine o_w (v:=.int .i64 (IntKind.i64.wrap ((Int.tmod (IntKind.i64.wrap d2) (8:Int)) + (1:Int)))) (r_mov rfl) ?_
   obtain ⟨ha43,h⟩:=h
   obtain ⟨ha44,h⟩:=h
   obtain ⟨x42,hx42,h⟩:=h
   refine o_call cf_buffer_Mend rfl (buffer_Mend_c d0 (kBuf_mk (d:=d0) (H3.up (G31.trans (Fr.ext F35)) (fun _ h=>h) (upc (.inr m11) (fun _ h=>.inl h)))) d1 (kArena_mk (d:=d1) (H6.up (G31.trans (Fr.ext F35)) (fun _ h=>h) (upc (.inr m11) (fun _ h=>.inl h))) (H9.up (G31.trans (Fr.ext F35)) (fun _ h=>h) (upc (.inr m11) (fun _ h=>.inl h)))) (IntKind.i64.wrap ((Int.tmod (IntKind.i64.wrap d2) (8:Int)) + (1:Int))) ((hL.fr E37).cons (((((B10.ex F13).ex F17).ex F24).ex F29).ex F35).lt) (eq_ev hx42 (bufMend_ev d0 d1 (IntKind.i64.wrap ((Int.tmod (IntKind.i64.wrap d2) (8:Int)) + (1:Int))) ha43 ha44))) rfl rfl ?_
   rintro _ w42 ⟨F42,cs45,rfl,H46⟩
   have E47:=E37.trans F42
   have G49:=(((G20.trans (Fr.ext F24)).trans (Fr.ext F29)).trans (Fr.ext F35)).trans (Fr.ext F42)
   obtain ⟨A51,c52,rfl,H53⟩:=kBuf_open H46
   refine o_alloc zero_buffer_Buffer rfl rfl rfl ?_
   intro b54 w54 e54 F54 B54
   have n54:w.heap.size≤b54:=by rw [e54]; exact E47.size
   have q55:b10<b54:=by rw [e54]; exact ((((((B10.ex F13).ex F17).ex F24).ex F29).ex F35).ex F42).lt
   have m56:w.heap.size≤b54:=by rw [e54]; exact ((G31.trans (Fr.ext F35)).trans (Fr.ext F42)).size
   have m57:w13.heap.size≤b54:=by rw [e54]; exact G49.size
   have m58:w42.heap.size≤b54:=Nat.le_of_eq e54.symm
   have E59:=E47.trans F54
   have G62:Fr (b10::L) w42 w54:=Fr.ext F54
   refine o_store rfl B54 (vs:=(cBuf x42 A51 c52)) rfl sz_buffer_Buffer rfl rfl rfl ?_
   intro w64 F64 B64
   have E65:=Ext.st E59 F64 (by simp; omega)
   have G66:Fr L w w64:=(((G31.trans (Fr.ext F35)).trans (Fr.ext F42)).trans (Fr.ext F54)).stp F64 (upc (.inr m56) (fun m hm=>by cases hm))
   have G67:Fr (b10::L) w13 w64:=(G49.trans (Fr.ext F54)).stp F64 (upc (.inr m57) (fun m hm=>by cases hm))
   have G68:Fr (b10::L) w42 w64:=G62.stp F64 (upc (.inr m58) (fun m hm=>by cases hm))
   have B69:=(((((((B10.ex F13).ex F17).ex F24).ex F29).ex F35).ex F42).ex F54).fr F64 (by simp; omega)
   have B64':Blk w64 b54 _ (cBuf x42 A51 c52):=B64
   refine eo_nil_sq ?_
   iterate 2 refine ec_seq ?_
   refine ec_region ?_
   refine o_w (v:=.int .i64 (0:Int)) (r_asg rfl) ?_
   refine eo_nil_sq ?_
   refine ec_block ?_
   obtain ⟨x70,hl70,h⟩:=h
   refine ec_loopER 0 (I:=(fun (s70:Int × Int × Int × List Nm) ρ ds w'=>∃ (ρ':Env) (A70i4:Option Addr) (c70i4:Nat),ρ=envs ρ' [(11,.int .i64 s70.1),(3,.pointer (some ⟨b10,0,none⟩)),(4,.pointer (some ⟨b13,0,none⟩)),(7,.bool (worksV)),(9,.int .i64 (IntKind.i64.wrap ((Int.tmod (IntKind.i64.wrap d2) (8:Int)) + (1:Int)))),(10,.pointer (some ⟨b54,0,none⟩))]∧ds=[]∧Fr (b54::(b10::L)) w64 w'∧Ext w w'∧Stb (b54::(b10::L)) w' (fun w=>SlC kNm w A70i4 c70i4 s70.2.2.2)∧Blk w' b10 24 [.int .i64 s70.2.1,.int .i64 s70.2.2.1,.slice A70i4 s70.2.2.2.length c70i4]∧Blk w' b54 24 (cBuf x42 A51 c52))) (J:=(fun (y':Bool) ρ ds wz=>bodyE Try.prog #[.tmp 6] (Ret fun v w'=>Ext w w'∧v=.bool y') .ret ρ ds wz)) ?_ hl70 ?_ ?_ ?_
   ·intro s70 z70 ρ70 ds70 w70r hI70 hb70
    obtain ⟨ρ70r,A70r4,c70r4,rfl,rfl,F70r,E70r,H70r4,B70rb10,B70rb54⟩:=hI70
    have h:=hb70
    unfold law17_PushOrder_b70 at h
    have G71:Fr L w w70r:=G66.stp F70r (upc (.inr m56) (upc (.inr m11) (fun _ h=>.inl h)))
    have G72:Fr (b10::L) w13 w70r:=G67.stp F70r (upc (.inr m57) (upc (.inl (List.Mem.head _)) (fun m hm=>Or.inl (List.Mem.tail _ hm))))
    have G73:Fr (b10::L) w42 w70r:=G68.stp F70r (upc (.inr m58) (upc (.inl (List.Mem.head _)) (fun m hm=>Or.inl (List.Mem.tail _ hm))))
    iterate 2 refine ec_seq ?_
    refine ec_region ?_
    refine o_w (v:=.int .i64 s70.1) (r_mov rfl) ?_
    refine o_w (v:=.pointer (some ⟨b54,2,none⟩)) (r_fa fld_buffer_Buffer_2 rfl rfl) ?_
    refine o_w (v:=.slice A51 x42.names.length c52) (r_ld one_s_buffer_Name rfl (B70rb54.cell rfl)) ?_
    refine o_w (v:=.int .i64 (x42.names.length:Int)) (r_len_slc un_s_buffer_Name rfl) ?_
    refine o_w (v:=.bool (decide (s70.1<(x42.names.length:Int)))) (r_int rfl rfl rfl) ?_
    refine eo_nil_sq ?_
    refine ec_cond rfl (fun hc74=>?_) (fun hc74=>?_)
    ·replace h:=h.1 hc74
     refine ec_skip ?_
     refine sq_n ?_
     refine ec_seq ?_
     refine ec_block ?_
     refine ec_seq ?_
     refine ec_region ?_
     refine o_w (v:=.agg #[.int .i64 s70.2.1,.int .i64 s70.2.2.1,.slice A70r4 s70.2.2.2.length c70r4]) (r_lda agg_buffer_Buffer rfl (vs:=[.int .i64 s70.2.1,.int .i64 s70.2.2.1,.slice A70r4 s70.2.2.2.length c70r4]) rfl (B70rb10.part (n:=3) rfl)) ?_
     refine o_w (v:=.agg (cArena d1 A4 c5 A7 c8).toArray) (r_lda agg_api_Arena rfl (vs:=(cArena d1 A4 c5 A7 c8)) rfl ((S13.fr G72 (fun _ h=>h)).now.part (n:=3) rfl)) ?_
     refine o_w (v:=.int .i64 (IntKind.i64.wrap ((Int.tmod (IntKind.i64.wrap d2) (8:Int)) + (1:Int)))) (r_mov rfl) ?_
     obtain ⟨ha76,h⟩:=h
     obtain ⟨ha77,h⟩:=h
     obtain ⟨x75,hx75,h⟩:=h
     refine o_call cf_push_Send rfl (push_Send_c (⟨s70.2.1,s70.2.2.1,s70.2.2.2⟩:Buf) (kBuf_mk (d:=(⟨s70.2.1,s70.2.2.1,s70.2.2.2⟩:Buf)) H70r4) d1 (kArena_mk (d:=d1) (H6.up G71 (fun _ h=>h) (upc (.inr m56) (upc (.inr m11) (fun _ h=>.inl h)))) (H9.up G71 (fun _ h=>h) (upc (.inr m56) (upc (.inr m11) (fun _ h=>.inl h))))) (IntKind.i64.wrap ((Int.tmod (IntKind.i64.wrap d2) (8:Int)) + (1:Int))) (1:Int) (((hL.fr E70r).cons B70rb10.lt).cons B70rb54.lt) (eq_ev hx75 (puSend_ev (⟨s70.2.1,s70.2.2.1,s70.2.2.2⟩:Buf) d1 (IntKind.i64.wrap ((Int.tmod (IntKind.i64.wrap d2) (8:Int)) + (1:Int))) (1:Int) ha76 ha77))) rfl rfl ?_
     rintro _ w75 ⟨F75,cs78,rfl,H79⟩
     have E80:=E70r.trans F75
     have G84:Fr (b54::(b10::L)) w70r w75:=Fr.ext F75
     obtain ⟨A89,c90,rfl,H91,hl88⟩:=kFrm_open H79
     refine o_w (v:=.tuple #[.agg (cFrm x75.1 A89 c90).toArray,.bool x75.2]) (r_mov rfl) ?_
     refine o_w (v:=.agg (cFrm x75.1 A89 c90).toArray) (r_ext rfl rfl) ?_
     refine o_w (v:=.bool x75.2) (r_ext rfl rfl) ?_
     refine o_alloc zero_frame_Frame rfl rfl rfl ?_
     intro b92 w92 e92 F92 B92
     have n92:w.heap.size≤b92:=by rw [e92]; exact E80.size
     have q93:b10<b92:=by rw [e92]; exact (B70rb10.ex F75).lt
     have q94:b54<b92:=by rw [e92]; exact (B70rb54.ex F75).lt
     have m95:w.heap.size≤b92:=by rw [e92]; exact (G71.trans (Fr.ext F75)).size
     have m96:w13.heap.size≤b92:=by rw [e92]; exact (G72.trans (Fr.ext F75)).size
     have m97:w42.heap.size≤b92:=by rw [e92]; exact (G73.trans (Fr.ext F75)).size
     have m98:w70r.heap.size≤b92:=by rw [e92]; exact G84.size
     have m99:w64.heap.size≤b92:=by rw [e92]; exact (F70r.trans (Fr.ext F75)).size
     have m100:w75.heap.size≤b92:=Nat.le_of_eq e92.symm
     have E101:=E80.trans F92
     have G107:Fr (b54::(b10::L)) w75 w92:=Fr.ext F92
     refine o_store rfl B92 (vs:=(cFrm x75.1 A89 c90)) rfl sz_frame_Frame rfl rfl rfl ?_
     intro w110 F110 B110
     have E111:=Ext.st E101 F110 (by simp; omega)
     have G112:Fr L w w110:=((G71.trans (Fr.ext F75)).trans (Fr.ext F92)).stp F110 (upc (.inr m95) (fun m hm=>by cases hm))
     have G113:Fr (b10::L) w13 w110:=((G72.trans (Fr.ext F75)).trans (Fr.ext F92)).stp F110 (upc (.inr m96) (fun m hm=>by cases hm))
     have G114:Fr (b10::L) w42 w110:=((G73.trans (Fr.ext F75)).trans (Fr.ext F92)).stp F110 (upc (.inr m97) (fun m hm=>by cases hm))
     have G115:Fr (b54::(b10::L)) w70r w110:=(G84.trans (Fr.ext F92)).stp F110 (upc (.inr m98) (fun m hm=>by cases hm))
     have G116:Fr (b54::(b10::L)) w64 w110:=((F70r.trans (Fr.ext F75)).trans (Fr.ext F92)).stp F110 (upc (.inr m99) (fun m hm=>by cases hm))
     have G117:Fr (b54::(b10::L)) w75 w110:=G107.stp F110 (upc (.inr m100) (fun m hm=>by cases hm))
     have B118:=((B70rb10.ex F75).ex F92).fr F110 (by simp; omega)
     have B119:=((B70rb54.ex F75).ex F92).fr F110 (by simp; omega)
     have B110':Blk w110 b92 _ (cFrm x75.1 A89 c90):=B110
     refine o_w (v:=.bool x75.2) (r_asg rfl) ?_
     refine eo_nil_sq ?_
     refine ec_seq ?_
     refine ec_region ?_
     refine o_w (v:=.agg (cFrm x75.1 A89 c90).toArray) (r_lda agg_frame_Frame rfl (vs:=(cFrm x75.1 A89 c90)) rfl (B110'.part (n:=8) rfl)) ?_
     obtain ⟨ha121,h⟩:=h
     obtain ⟨ha122,h⟩:=h
     obtain ⟨x120,hx120,h⟩:=h
     refine o_call cf_push_Heard rfl (push_Heard_c x75.1 (kFrm_mk (d:=x75.1) (H91.up G117 (fun _ h=>h) (upc (.inr m100) (upc (.inl (List.Mem.head _)) (upc (.inl (List.Mem.tail _ (List.Mem.head _))) (fun m hm=>Or.inl (List.Mem.tail _ (List.Mem.tail _ hm))))))) hl88) ((((hL.fr E111).cons B118.lt).cons B119.lt).cons B110'.lt) (eq_ev hx120 (puHeard_ev x75.1 ha121 ha122))) rfl rfl ?_
     rintro _ w120 ⟨F120,cs123,rfl,H124⟩
     have E125:=E111.trans F120
     obtain ⟨A136,c137,rfl,H138,hl135⟩:=kFrm_open H124
     refine o_w (v:=.tuple #[.agg (cFrm x120.1 A136 c137).toArray,.bool x120.2]) (r_mov rfl) ?_
     refine o_w (v:=.agg (cFrm x120.1 A136 c137).toArray) (r_ext rfl rfl) ?_
     refine o_w (v:=.bool x120.2) (r_ext rfl rfl) ?_
     refine o_alloc zero_frame_Frame rfl rfl rfl ?_
     intro b139 w139 e139 F139 B139
     have n139:w.heap.size≤b139:=by rw [e139]; exact E125.size
     have q140:b10<b139:=by rw [e139]; exact (B118.ex F120).lt
     have q141:b54<b139:=by rw [e139]; exact (B119.ex F120).lt
     have q142:b92<b139:=by rw [e139]; exact (B110'.ex F120).lt
     have m143:w.heap.size≤b139:=by rw [e139]; exact (G112.trans (Fr.ext F120)).size
     have m144:w13.heap.size≤b139:=by rw [e139]; exact (G113.trans (Fr.ext F120)).size
     have m145:w42.heap.size≤b139:=by rw [e139]; exact (G114.trans (Fr.ext F120)).size
     have m146:w70r.heap.size≤b139:=by rw [e139]; exact (G115.trans (Fr.ext F120)).size
     have m147:w64.heap.size≤b139:=by rw [e139]; exact (G116.trans (Fr.ext F120)).size
     have m148:w75.heap.size≤b139:=by rw [e139]; exact (G117.trans (Fr.ext F120)).size
     have m149:w120.heap.size≤b139:=Nat.le_of_eq e139.symm
     have E150:=E125.trans F139
     have G157:Fr (b92::(b54::(b10::L))) w120 w139:=Fr.ext F139
     refine o_store rfl B139 (vs:=(cFrm x120.1 A136 c137)) rfl sz_frame_Frame rfl rfl rfl ?_
     intro w161 F161 B161
     have E162:=Ext.st E150 F161 (by simp; omega)
     have G163:Fr L w w161:=((G112.trans (Fr.ext F120)).trans (Fr.ext F139)).stp F161 (upc (.inr m143) (fun m hm=>by cases hm))
     have G164:Fr (b10::L) w13 w161:=((G113.trans (Fr.ext F120)).trans (Fr.ext F139)).stp F161 (upc (.inr m144) (fun m hm=>by cases hm))
     have G165:Fr (b10::L) w42 w161:=((G114.trans (Fr.ext F120)).trans (Fr.ext F139)).stp F161 (upc (.inr m145) (fun m hm=>by cases hm))
     have G166:Fr (b54::(b10::L)) w70r w161:=((G115.trans (Fr.ext F120)).trans (Fr.ext F139)).stp F161 (upc (.inr m146) (fun m hm=>by cases hm))
     have G167:Fr (b54::(b10::L)) w64 w161:=((G116.trans (Fr.ext F120)).trans (Fr.ext F139)).stp F161 (upc (.inr m147) (fun m hm=>by cases hm))
     have G168:Fr (b54::(b10::L)) w75 w161:=((G117.trans (Fr.ext F120)).trans (Fr.ext F139)).stp F161 (upc (.inr m148) (fun m hm=>by cases hm))
     have G169:Fr (b92::(b54::(b10::L))) w120 w161:=G157.stp F161 (upc (.inr m149) (fun m hm=>by cases hm))
     have B170:=((B118.ex F120).ex F139).fr F161 (by simp; omega)
     have B171:=((B119.ex F120).ex F139).fr F161 (by simp; omega)
     have B172:=((B110'.ex F120).ex F139).fr F161 (by simp; omega)
     have B161':Blk w161 b139 _ (cFrm x120.1 A136 c137):=B161
     refine o_w (v:=.bool x120.2) (r_asg rfl) ?_
     refine eo_nil_sq ?_
     iterate 2 refine ec_seq ?_
     rcases Bool.eq_false_or_eq_true (!x75.2) with hc195 | hc195
     ·replace h:=h.1 hc195
      refine ec_any0 (by kernel_rfl) [[],[0],[0,1],[0,1,2],[0,1,2,3],[0,1,2,3,4],[0,1,2,3,4,5],[0,1,2,3,4,5,6],[0,1,2,3,4,5,6,7],[0,1,2,3,4,5,6],[0,1,2,3,4,5,6,9],[0,1,2,3,4,5,6],[0,1,2,3,4,5,6,9,10,11],[0,1,2,3,4,5,6,7,8,9,10,11,12],[0,1,2,3,4,5,6,7,8,9,10,11,12,13],[0,1,2,3,4,5,6,7,8,9,10,11,12,13,14],[0,1,2,3,4,5,6,7,8,9,10,11,12,13,14,15],[0,1,2,3,4,5,6,7,8,9,10,11,12,13,14,15,16],[0,1,2,3,4,5,6,7,8,9,10,11,12,13,14,15],[0,1,2,3,4,5,6,7,8,9,10,11,12,13,14,15,18],[0,1,2,3,4,5,6,7,8,9,10,11,12,13,14,15,16,17,18,19],[0,1,2,3,4,5,6,7,8,9,10,11,12,13,14,15,16,17,18,19,20],[0,1,2,3,4,5,6,7,8,9,10,11,12,13,14,15,16,17,18,19,20,21],[0,1,2,3,4,5,6,7,8,9,10,11,12,13,14,15,16,17,18,19,20,21,22],[0,1,2,3,4,5,6,7,8,9,10,11,12,13,14,15,16,17,18,19,20,21,22,23],[0,1,2,3,4,5,6,7,8,9,10,11,12,13,14,15,16,17,18,19,20,21,22,23,24],[0,1,2,3,4,5,6,7,8,9,10,11,12,13,14,15,16,17,18,19,20,21,22,23,24,25],[0,1,2,3,4,5,6,7,8,9,10,11,12,13,14,15,16,17,18,19,20,21,22,23,24,25,26],[0,1,2,3,4,5,6,7,8,9,10,11,12,13,14,15,16,17,18,19,20,21,22,23,24,25,26,27],[0,1,2,3,4,5,6,7,8,9,10,11,12,13,14,15,16,17,18,19,20,21,22,23,24,25,26,27,28],[0,1,2,3,4,5,6,7,8,9,10,11,12,13,14,15,16,17,18,19,20,21,22,23,24,25,26,27,28,29],[0,1,2,3,4,5,6,7,8,9,10,11,12,13,14,15,16,17,18,19,20,21,22,23,24,25,26,27,28,29,30],[0,1,2,3,4,5,6,7,8,9,10,11,12,13,14,15,16,17,18,19,20,21,22,23,24,25,26,27,28,29,30,31],[0,1,2,3,4,5,6,7,8,9,10,11,12,13,14,15,16,17,18,19,20,21,22,23,24,25,26,27,28,29,30,31,32],[0,1,2,3,4,5,6,7,8,9,10,11,12,13,14,15,16,17,18,19,20,21,22,23,24,25,26,27,28],[0,1,2,3,4,5,6,7,8,9,10,11,12,13,14,15,16,17,18,19,20,21,22,23,24,25,26,27,28,34],[0,1,2,3,4,5,6,7,8,9,10,11,12,13,14,15,16,17,18,19,20,21,22,23,24,25,26,27,28],[0,1,2,3,4,5,6,7,8,9,10,11,12,13,14,15,16,17,18,19,20,21,22,23,24,25,26,27,28,34,35,36],[0,1,2,3,4,5,6,7,8,9,10,11,12,13,14,15,16,17,18,19,20,21,22,23,24,25,26,27,28,34,35,36,37],[0,1,2,3,4,5,6,7,8,9,10,11,12,13,14,15,16,17,18,19,20,21,22,23,24,25,26,27,28,34,35,36,37,38],[0,1,2,3,4,5,6,7,8,9,10,11,12,13,14,15,16,17,18,19,20,21,22,23,24,25,26,27,28,29,30,31,32,33,34,35,36,37,38,39],[0,1,2,3,4,5,6,7,8,9,10,11,12,13,14,15,16,17,18,19,20,21,22,23,24,25,26,27,28,29,30,31,32,33,34,35,36,37,38,39,40],[0,1,2,3,4,5,6,7,8,9,10,11,12,13,14,15,16,17,18,19,20,21,22,23,24,25,26,27,28,29,30,31,32,33,34,35,36,37,38,39,40,41],[0,1,2,3,4,5,6,7,8,9,10,11,12,13,14,15,16,17,18,19,20,21,22,23,24,25,26,27,28,29,30,31,32,33,34,35,36,37,38,39,40,41,42],[0,1,2,3,4,5,6,7,8,9,10,11,12,13,14,15,16,17,18,19,20,21,22,23,24,25,26,27,28,29,30,31,32,33,34,35,36,37,38,39,40,41,42,43],[0,1,2,3,4,5,6,7,8,9,10,11,12,13,14,15,16,17,18,19,20,21,22,23,24,25,26,27,28,29,30,31,32,33,34,35,36,37,38,39,40,41,42,43,44],[0,1,2,3,4,5,6,7,8,9,10,11,12,13,14,15,16,17,18,19,20,21,22,23,24,25,26,27,28,29,30,31,32,33,34,35,36,37,38,39,40,41,42,43,44,45],[0,1,2,3,4,5,6,7,8,9,10,11,12,13,14,15,16,17,18,19,20,21,22,23,24,25,26,27,28,29,30,31,32,33,34,35,36,37,38,39,40,41,42,43,44,45,46],[0,1,2,3,4,5,6,7,8,9,10,11,12,13,14,15,16,17,18,19,20,21,22,23,24,25,26,27,28,29,30,31,32,33,34,35,36,37,38,39,40,41,42,43,44,45,46,47],[0,1,2,3,4,5,6,7,8,9,10,11,12,13,14,15,16,17,18,19,20,21,22,23,24,25,26,27,28,29,30,31,32,33,34,35,36,37,38,39,40,41,42],[0,1,2,3,4,5,6,7,8,9,10,11,12,13,14,15,16,17,18,19,20,21,22,23,24,25,26,27,28,29,30,31,32,33,34,35,36,37,38,39,40,41,42,49],[0,1,2,3,4,5,6,7,8,9,10,11,12,13,14,15,16,17,18,19,20,21,22,23,24,25,26,27,28,29,30,31,32,33,34,35,36,37,38,39,40,41,42],[0,1,2,3,4,5,6,7,8,9,10,11,12,13,14,15,16,17,18,19,20,21,22,23,24,25,26,27,28,29,30,31,32,33,34,35,36,37,38,39,40,41,42,49,50,51],[0,1,2,3,4,5,6,7,8,9,10,11,12,13,14,15,16,17,18,19,20,21,22,23,24,25,26,27,28,29,30,31,32,33,34,35,36,37,38,39,40,41,42,49,50,51,52],[0,1,2,3,4,5,6,7,8,9,10,11,12,13,14,15,16,17,18,19,20,21,22,23,24,25,26,27,28,29,30,31,32,33,34,35,36,37,38,39,40,41,42,49,50,51,52,53],[0,1,2,3,4,5,6,7,8,9,10,11,12,13,14,15,16,17,18,19,20,21,22,23,24,25,26,27,28,29,30,31,32,33,34,35,36,37,38,39,40,41,42,43,44,45,46,47,48,49,50,51,52,53,54],[0,1,2,3,4,5,6,7,8,9,10,11,12,13,14,15,16,17,18,19,20,21,22,23,24,25,26,27,28,29,30,31,32,33,34,35,36,37,38,39,40,41,42,43,44,45,46,47,48,49,50,51,52,53,54,55]] [62,63,64,65,66,67,68,69,70,71,72,73,74,75,76,77,78,79,80,81,82,83,84,85,86,87,88,89,90,91,92,93,94,95,96,97,98,99,100,101,102,103,104,105,106,107,108,109,110,111,112,113,114,115,116,117,118] [fun v _=>v=(.bool x75.2:Value),fun v _=>v=(.bool (!x75.2):Value),fun v _=>v=(.bool (!x75.2):Value),fun v _=>v=((undef:Value):Value),fun v _=>v=((undef:Value):Value),fun v _=>v=(.bool true:Value),fun v _=>v=(.bool true:Value),fun v _=>v=((undef:Value):Value),fun v _=>v=((undef:Value):Value),fun v _=>v=((undef:Value):Value),fun v _=>v=((undef:Value):Value),fun v _=>v=((undef:Value):Value),fun v _=>v=((undef:Value):Value),fun v _=>v=((undef:Value):Value),fun v _=>v=(.bool true:Value),fun v _=>v=(.bool true:Value),fun v _=>v=((undef:Value):Value),fun v _=>v=((undef:Value):Value),fun v _=>v=((undef:Value):Value),fun v _=>v=((undef:Value):Value),fun v _=>v=((undef:Value):Value),fun v _=>v=(.bool true:Value),fun v _=>v=(.bool true:Value),fun v _=>v=((undef:Value):Value),fun v _=>v=((undef:Value):Value),fun v _=>v=((undef:Value):Value),fun v _=>v=((undef:Value):Value),fun v _=>v=(.bool true:Value),fun v _=>v=(.bool true:Value),fun v _=>v=((undef:Value):Value),fun v _=>v=((undef:Value):Value),fun v _=>v=((undef:Value):Value),fun v _=>v=((undef:Value):Value),fun v _=>v=((undef:Value):Value),fun v _=>v=((undef:Value):Value),fun v _=>v=((undef:Value):Value),fun v _=>v=((undef:Value):Value),fun v _=>v=((undef:Value):Value),fun v _=>v=((undef:Value):Value),fun v _=>v=((undef:Value):Value),fun v _=>v=((undef:Value):Value),fun v _=>v=(.bool true:Value),fun v _=>v=(.bool true:Value),fun v _=>v=((undef:Value):Value),fun v _=>v=((undef:Value):Value),fun v _=>v=((undef:Value):Value),fun v _=>v=((undef:Value):Value),fun v _=>v=((undef:Value):Value),fun v _=>v=((undef:Value):Value),fun v _=>v=((undef:Value):Value),fun v _=>v=((undef:Value):Value),fun v _=>v=((undef:Value):Value),fun v _=>v=((undef:Value):Value),fun v _=>v=((undef:Value):Value),fun v _=>v=((undef:Value):Value),fun v _=>v=((undef:Value):Value),fun v _=>v=(.bool true:Value)] (by kernel_rfl) ⟨fun _ _ _ _ _ h=>h,fun _ _ _ _ _ h=>h,fun _ _ _ _ _ h=>h,fun _ _ _ _ _ h=>h,fun _ _ _ _ _ h=>h,fun _ _ _ _ _ h=>h,fun _ _ _ _ _ h=>h,fun _ _ _ _ _ h=>h,fun _ _ _ _ _ h=>h,fun _ _ _ _ _ h=>h,fun _ _ _ _ _ h=>h,fun _ _ _ _ _ h=>h,fun _ _ _ _ _ h=>h,fun _ _ _ _ _ h=>h,fun _ _ _ _ _ h=>h,fun _ _ _ _ _ h=>h,fun _ _ _ _ _ h=>h,fun _ _ _ _ _ h=>h,fun _ _ _ _ _ h=>h,fun _ _ _ _ _ h=>h,fun _ _ _ _ _ h=>h,fun _ _ _ _ _ h=>h,fun _ _ _ _ _ h=>h,fun _ _ _ _ _ h=>h,fun _ _ _ _ _ h=>h,fun _ _ _ _ _ h=>h,fun _ _ _ _ _ h=>h,fun _ _ _ _ _ h=>h,fun _ _ _ _ _ h=>h,fun _ _ _ _ _ h=>h,fun _ _ _ _ _ h=>h,fun _ _ _ _ _ h=>h,fun _ _ _ _ _ h=>h,fun _ _ _ _ _ h=>h,fun _ _ _ _ _ h=>h,fun _ _ _ _ _ h=>h,fun _ _ _ _ _ h=>h,fun _ _ _ _ _ h=>h,fun _ _ _ _ _ h=>h,fun _ _ _ _ _ h=>h,fun _ _ _ _ _ h=>h,fun _ _ _ _ _ h=>h,fun _ _ _ _ _ h=>h,fun _ _ _ _ _ h=>h,fun _ _ _ _ _ h=>h,fun _ _ _ _ _ h=>h,fun _ _ _ _ _ h=>h,fun _ _ _ _ _ h=>h,fun _ _ _ _ _ h=>h,fun _ _ _ _ _ h=>h,fun _ _ _ _ _ h=>h,fun _ _ _ _ _ h=>h,fun _ _ _ _ _ h=>h,fun _ _ _ _ _ h=>h,fun _ _ _ _ _ h=>h,fun _ _ _ _ _ h=>h,fun _ _ _ _ _ h=>h,trivial⟩ ?_ ?_
      ·refine ⟨?_,?_,?_,?_,?_,?_,?_,?_,?_,?_,?_,?_,?_,?_,?_,?_,?_,?_,?_,?_,?_,?_,?_,?_,?_,?_,?_,?_,?_,?_,?_,?_,?_,?_,?_,?_,?_,?_,?_,?_,?_,?_,?_,?_,?_,?_,?_,?_,?_,?_,?_,?_,?_,?_,?_,?_,?_,trivial⟩
       ·intro ρ w196o F196o hS hρ
        have q13:ρ 13=.bool x75.2:=hρ 13 (by kernel_rfl)
        exact o_q (r_mov q13) ⟨Fr.refl _ _,rfl⟩
       ·intro ρ w196o F196o hS hρ
        have q62:ρ 62=.bool x75.2:=hS 0 (by decide) 62 rfl
        exact o_q (r_not q62) ⟨Fr.refl _ _,rfl⟩
       ·intro ρ w196o F196o hS hρ
        have q63:ρ 63=.bool (!x75.2):=hS 1 (by decide) 63 rfl
        exact o_q (r_mov q63) ⟨Fr.refl _ _,rfl⟩
       ·intro ρ w196o F196o hS hρ
        have q15:ρ 15=.bool x120.2:=hρ 15 (by kernel_rfl)
        have q64:ρ 64=.bool (!x75.2):=hS 2 (by decide) 64 rfl
        exact o_no (want_f (t:=64) rfl q64 hc195) rfl (eo_nil ⟨rfl,rfl,undef,rfl,Fr.refl _ _,rfl⟩)
       ·intro ρ w196o F196o hS hρ
        have q64:ρ 64=.bool (!x75.2):=hS 2 (by decide) 64 rfl
        have q65:ρ 65=(undef:Value):=hS 3 (by decide) 65 rfl
        exact o_no (want_f (t:=64) rfl q64 hc195) rfl (eo_nil ⟨rfl,rfl,undef,rfl,Fr.refl _ _,rfl⟩)
       ·intro ρ w196o F196o hS hρ
        have q64:ρ 64=.bool (!x75.2):=hS 2 (by decide) 64 rfl
        have q66:ρ 66=(undef:Value):=hS 4 (by decide) 66 rfl
        exact o_q (r_pickT q64 hc195 rfl) ⟨Fr.refl _ _,rfl⟩
       ·intro ρ w196o F196o hS hρ
        have q67:ρ 67=.bool true:=hS 5 (by decide) 67 rfl
        exact o_q (r_mov q67) ⟨Fr.refl _ _,rfl⟩
       ·intro ρ w196o F196o hS hρ
        have q12:ρ 12=.pointer (some ⟨b92,0,none⟩):=hρ 12 (by kernel_rfl)
        have q68:ρ 68=.bool true:=hS 6 (by decide) 68 rfl
        exact o_no (want_f (t:=68) rfl q68 rfl) rfl (eo_nil ⟨rfl,rfl,undef,rfl,Fr.refl _ _,rfl⟩)
       ·intro ρ w196o F196o hS hρ
        have q68:ρ 68=.bool true:=hS 6 (by decide) 68 rfl
        have q69:ρ 69=(undef:Value):=hS 7 (by decide) 69 rfl
        exact o_no (want_f (t:=68) rfl q68 rfl) rfl (eo_nil ⟨rfl,rfl,undef,rfl,Fr.refl _ _,rfl⟩)
       ·intro ρ w196o F196o hS hρ
        have q10:ρ 10=.pointer (some ⟨b54,0,none⟩):=hρ 10 (by kernel_rfl)
        have q68:ρ 68=.bool true:=hS 6 (by decide) 68 rfl
        exact o_no (want_f (t:=68) rfl q68 rfl) rfl (eo_nil ⟨rfl,rfl,undef,rfl,Fr.refl _ _,rfl⟩)
       ·intro ρ w196o F196o hS hρ
        have q68:ρ 68=.bool true:=hS 6 (by decide) 68 rfl
        have q71:ρ 71=(undef:Value):=hS 9 (by decide) 71 rfl
        exact o_no (want_f (t:=68) rfl q68 rfl) rfl (eo_nil ⟨rfl,rfl,undef,rfl,Fr.refl _ _,rfl⟩)
       ·intro ρ w196o F196o hS hρ
        have q11:ρ 11=.int .i64 s70.1:=hρ 11 (by kernel_rfl)
        have q68:ρ 68=.bool true:=hS 6 (by decide) 68 rfl
        exact o_no (want_f (t:=68) rfl q68 rfl) rfl (eo_nil ⟨rfl,rfl,undef,rfl,Fr.refl _ _,rfl⟩)
       ·intro ρ w196o F196o hS hρ
        have q68:ρ 68=.bool true:=hS 6 (by decide) 68 rfl
        have q72:ρ 72=(undef:Value):=hS 10 (by decide) 72 rfl
        have q73:ρ 73=(undef:Value):=hS 11 (by decide) 73 rfl
        exact o_no (want_f (t:=68) rfl q68 rfl) rfl (eo_nil ⟨rfl,rfl,undef,rfl,Fr.refl _ _,rfl⟩)
       ·intro ρ w196o F196o hS hρ
        have q68:ρ 68=.bool true:=hS 6 (by decide) 68 rfl
        have q70:ρ 70=(undef:Value):=hS 8 (by decide) 70 rfl
        have q74:ρ 74=(undef:Value):=hS 12 (by decide) 74 rfl
        exact o_no (want_f (t:=68) rfl q68 rfl) rfl (eo_nil ⟨rfl,rfl,undef,rfl,Fr.refl _ _,rfl⟩)
       ·intro ρ w196o F196o hS hρ
        have q68:ρ 68=.bool true:=hS 6 (by decide) 68 rfl
        have q75:ρ 75=(undef:Value):=hS 13 (by decide) 75 rfl
        exact o_q (r_pickT q68 rfl rfl) ⟨Fr.refl _ _,rfl⟩
       ·intro ρ w196o F196o hS hρ
        have q76:ρ 76=.bool true:=hS 14 (by decide) 76 rfl
        exact o_q (r_mov q76) ⟨Fr.refl _ _,rfl⟩
       ·intro ρ w196o F196o hS hρ
        have q12:ρ 12=.pointer (some ⟨b92,0,none⟩):=hρ 12 (by kernel_rfl)
        have q77:ρ 77=.bool true:=hS 15 (by decide) 77 rfl
        exact o_no (want_f (t:=77) rfl q77 rfl) rfl (eo_nil ⟨rfl,rfl,undef,rfl,Fr.refl _ _,rfl⟩)
       ·intro ρ w196o F196o hS hρ
        have q77:ρ 77=.bool true:=hS 15 (by decide) 77 rfl
        have q78:ρ 78=(undef:Value):=hS 16 (by decide) 78 rfl
        exact o_no (want_f (t:=77) rfl q77 rfl) rfl (eo_nil ⟨rfl,rfl,undef,rfl,Fr.refl _ _,rfl⟩)
       ·intro ρ w196o F196o hS hρ
        have q10:ρ 10=.pointer (some ⟨b54,0,none⟩):=hρ 10 (by kernel_rfl)
        have q77:ρ 77=.bool true:=hS 15 (by decide) 77 rfl
        exact o_no (want_f (t:=77) rfl q77 rfl) rfl (eo_nil ⟨rfl,rfl,undef,rfl,Fr.refl _ _,rfl⟩)
       ·intro ρ w196o F196o hS hρ
        have q77:ρ 77=.bool true:=hS 15 (by decide) 77 rfl
        have q80:ρ 80=(undef:Value):=hS 18 (by decide) 80 rfl
        exact o_no (want_f (t:=77) rfl q77 rfl) rfl (eo_nil ⟨rfl,rfl,undef,rfl,Fr.refl _ _,rfl⟩)
       ·intro ρ w196o F196o hS hρ
        have q77:ρ 77=.bool true:=hS 15 (by decide) 77 rfl
        have q79:ρ 79=(undef:Value):=hS 17 (by decide) 79 rfl
        have q81:ρ 81=(undef:Value):=hS 19 (by decide) 81 rfl
        exact o_no (want_f (t:=77) rfl q77 rfl) rfl (eo_nil ⟨rfl,rfl,undef,rfl,Fr.refl _ _,rfl⟩)
       ·intro ρ w196o F196o hS hρ
        have q77:ρ 77=.bool true:=hS 15 (by decide) 77 rfl
        have q82:ρ 82=(undef:Value):=hS 20 (by decide) 82 rfl
        exact o_q (r_pickT q77 rfl rfl) ⟨Fr.refl _ _,rfl⟩
       ·intro ρ w196o F196o hS hρ
        have q83:ρ 83=.bool true:=hS 21 (by decide) 83 rfl
        exact o_q (r_mov q83) ⟨Fr.refl _ _,rfl⟩
       ·intro ρ w196o F196o hS hρ
        have q12:ρ 12=.pointer (some ⟨b92,0,none⟩):=hρ 12 (by kernel_rfl)
        have q84:ρ 84=.bool true:=hS 22 (by decide) 84 rfl
        exact o_no (want_f (t:=84) rfl q84 rfl) rfl (eo_nil ⟨rfl,rfl,undef,rfl,Fr.refl _ _,rfl⟩)
       ·intro ρ w196o F196o hS hρ
        have q84:ρ 84=.bool true:=hS 22 (by decide) 84 rfl
        have q85:ρ 85=(undef:Value):=hS 23 (by decide) 85 rfl
        exact o_no (want_f (t:=84) rfl q84 rfl) rfl (eo_nil ⟨rfl,rfl,undef,rfl,Fr.refl _ _,rfl⟩)
       ·intro ρ w196o F196o hS hρ
        have q84:ρ 84=.bool true:=hS 22 (by decide) 84 rfl
        have q86:ρ 86=(undef:Value):=hS 24 (by decide) 86 rfl
        exact o_no (want_f (t:=84) rfl q84 rfl) rfl (eo_nil ⟨rfl,rfl,undef,rfl,Fr.refl _ _,rfl⟩)
       ·intro ρ w196o F196o hS hρ
        have q84:ρ 84=.bool true:=hS 22 (by decide) 84 rfl
        have q87:ρ 87=(undef:Value):=hS 25 (by decide) 87 rfl
        exact o_no (want_f (t:=84) rfl q84 rfl) rfl (eo_nil ⟨rfl,rfl,undef,rfl,Fr.refl _ _,rfl⟩)
       ·intro ρ w196o F196o hS hρ
        have q84:ρ 84=.bool true:=hS 22 (by decide) 84 rfl
        have q88:ρ 88=(undef:Value):=hS 26 (by decide) 88 rfl
        exact o_q (r_pickT q84 rfl rfl) ⟨Fr.refl _ _,rfl⟩
       ·intro ρ w196o F196o hS hρ
        have q89:ρ 89=.bool true:=hS 27 (by decide) 89 rfl
        exact o_q (r_mov q89) ⟨Fr.refl _ _,rfl⟩
       ·intro ρ w196o F196o hS hρ
        have q12:ρ 12=.pointer (some ⟨b92,0,none⟩):=hρ 12 (by kernel_rfl)
        have q90:ρ 90=.bool true:=hS 28 (by decide) 90 rfl
        exact o_no (want_f (t:=90) rfl q90 rfl) rfl (eo_nil ⟨rfl,rfl,undef,rfl,Fr.refl _ _,rfl⟩)
       ·intro ρ w196o F196o hS hρ
        have q90:ρ 90=.bool true:=hS 28 (by decide) 90 rfl
        have q91:ρ 91=(undef:Value):=hS 29 (by decide) 91 rfl
        exact o_no (want_f (t:=90) rfl q90 rfl) rfl (eo_nil ⟨rfl,rfl,undef,rfl,Fr.refl _ _,rfl⟩)
       ·intro ρ w196o F196o hS hρ
        have q90:ρ 90=.bool true:=hS 28 (by decide) 90 rfl
        have q92:ρ 92=(undef:Value):=hS 30 (by decide) 92 rfl
        exact o_no (want_f (t:=90) rfl q90 rfl) rfl (eo_nil ⟨rfl,rfl,undef,rfl,Fr.refl _ _,rfl⟩)
       ·intro ρ w196o F196o hS hρ
        have q90:ρ 90=.bool true:=hS 28 (by decide) 90 rfl
        have q93:ρ 93=(undef:Value):=hS 31 (by decide) 93 rfl
        exact o_no (want_f (t:=90) rfl q90 rfl) rfl (eo_nil ⟨rfl,rfl,undef,rfl,Fr.refl _ _,rfl⟩)
       ·intro ρ w196o F196o hS hρ
        have q90:ρ 90=.bool true:=hS 28 (by decide) 90 rfl
        have q94:ρ 94=(undef:Value):=hS 32 (by decide) 94 rfl
        exact o_no (want_f (t:=90) rfl q90 rfl) rfl (eo_nil ⟨rfl,rfl,undef,rfl,Fr.refl _ _,rfl⟩)
       ·intro ρ w196o F196o hS hρ
        have q10:ρ 10=.pointer (some ⟨b54,0,none⟩):=hρ 10 (by kernel_rfl)
        have q90:ρ 90=.bool true:=hS 28 (by decide) 90 rfl
        exact o_no (want_f (t:=90) rfl q90 rfl) rfl (eo_nil ⟨rfl,rfl,undef,rfl,Fr.refl _ _,rfl⟩)
       ·intro ρ w196o F196o hS hρ
        have q90:ρ 90=.bool true:=hS 28 (by decide) 90 rfl
        have q96:ρ 96=(undef:Value):=hS 34 (by decide) 96 rfl
        exact o_no (want_f (t:=90) rfl q90 rfl) rfl (eo_nil ⟨rfl,rfl,undef,rfl,Fr.refl _ _,rfl⟩)
       ·intro ρ w196o F196o hS hρ
        have q11:ρ 11=.int .i64 s70.1:=hρ 11 (by kernel_rfl)
        have q90:ρ 90=.bool true:=hS 28 (by decide) 90 rfl
        exact o_no (want_f (t:=90) rfl q90 rfl) rfl (eo_nil ⟨rfl,rfl,undef,rfl,Fr.refl _ _,rfl⟩)
       ·intro ρ w196o F196o hS hρ
        have q90:ρ 90=.bool true:=hS 28 (by decide) 90 rfl
        have q97:ρ 97=(undef:Value):=hS 35 (by decide) 97 rfl
        have q98:ρ 98=(undef:Value):=hS 36 (by decide) 98 rfl
        exact o_no (want_f (t:=90) rfl q90 rfl) rfl (eo_nil ⟨rfl,rfl,undef,rfl,Fr.refl _ _,rfl⟩)
       ·intro ρ w196o F196o hS hρ
        have q90:ρ 90=.bool true:=hS 28 (by decide) 90 rfl
        have q99:ρ 99=(undef:Value):=hS 37 (by decide) 99 rfl
        exact o_no (want_f (t:=90) rfl q90 rfl) rfl (eo_nil ⟨rfl,rfl,undef,rfl,Fr.refl _ _,rfl⟩)
       ·intro ρ w196o F196o hS hρ
        have q90:ρ 90=.bool true:=hS 28 (by decide) 90 rfl
        have q100:ρ 100=(undef:Value):=hS 38 (by decide) 100 rfl
        exact o_no (want_f (t:=90) rfl q90 rfl) rfl (eo_nil ⟨rfl,rfl,undef,rfl,Fr.refl _ _,rfl⟩)
       ·intro ρ w196o F196o hS hρ
        have q90:ρ 90=.bool true:=hS 28 (by decide) 90 rfl
        have q95:ρ 95=(undef:Value):=hS 33 (by decide) 95 rfl
        have q101:ρ 101=(undef:Value):=hS 39 (by decide) 101 rfl
        exact o_no (want_f (t:=90) rfl q90 rfl) rfl (eo_nil ⟨rfl,rfl,undef,rfl,Fr.refl _ _,rfl⟩)
       ·intro ρ w196o F196o hS hρ
        have q90:ρ 90=.bool true:=hS 28 (by decide) 90 rfl
        have q102:ρ 102=(undef:Value):=hS 40 (by decide) 102 rfl
        exact o_q (r_pickT q90 rfl rfl) ⟨Fr.refl _ _,rfl⟩
       ·intro ρ w196o F196o hS hρ
        have q103:ρ 103=.bool true:=hS 41 (by decide) 103 rfl
        exact o_q (r_mov q103) ⟨Fr.refl _ _,rfl⟩
       ·intro ρ w196o F196o hS hρ
        have q12:ρ 12=.pointer (some ⟨b92,0,none⟩):=hρ 12 (by kernel_rfl)
        have q104:ρ 104=.bool true:=hS 42 (by decide) 104 rfl
        exact o_no (want_f (t:=104) rfl q104 rfl) rfl (eo_nil ⟨rfl,rfl,undef,rfl,Fr.refl _ _,rfl⟩)
       ·intro ρ w196o F196o hS hρ
        have q104:ρ 104=.bool true:=hS 42 (by decide) 104 rfl
        have q105:ρ 105=(undef:Value):=hS 43 (by decide) 105 rfl
        exact o_no (want_f (t:=104) rfl q104 rfl) rfl (eo_nil ⟨rfl,rfl,undef,rfl,Fr.refl _ _,rfl⟩)
       ·intro ρ w196o F196o hS hρ
        have q104:ρ 104=.bool true:=hS 42 (by decide) 104 rfl
        have q106:ρ 106=(undef:Value):=hS 44 (by decide) 106 rfl
        exact o_no (want_f (t:=104) rfl q104 rfl) rfl (eo_nil ⟨rfl,rfl,undef,rfl,Fr.refl _ _,rfl⟩)
       ·intro ρ w196o F196o hS hρ
        have q104:ρ 104=.bool true:=hS 42 (by decide) 104 rfl
        have q107:ρ 107=(undef:Value):=hS 45 (by decide) 107 rfl
        exact o_no (want_f (t:=104) rfl q104 rfl) rfl (eo_nil ⟨rfl,rfl,undef,rfl,Fr.refl _ _,rfl⟩)
       ·intro ρ w196o F196o hS hρ
        have q104:ρ 104=.bool true:=hS 42 (by decide) 104 rfl
        have q108:ρ 108=(undef:Value):=hS 46 (by decide) 108 rfl
        exact o_no (want_f (t:=104) rfl q104 rfl) rfl (eo_nil ⟨rfl,rfl,undef,rfl,Fr.refl _ _,rfl⟩)
       ·intro ρ w196o F196o hS hρ
        have q104:ρ 104=.bool true:=hS 42 (by decide) 104 rfl
        have q109:ρ 109=(undef:Value):=hS 47 (by decide) 109 rfl
        exact o_no (want_f (t:=104) rfl q104 rfl) rfl (eo_nil ⟨rfl,rfl,undef,rfl,Fr.refl _ _,rfl⟩)
       ·intro ρ w196o F196o hS hρ
        have q10:ρ 10=.pointer (some ⟨b54,0,none⟩):=hρ 10 (by kernel_rfl)
        have q104:ρ 104=.bool true:=hS 42 (by decide) 104 rfl
        exact o_no (want_f (t:=104) rfl q104 rfl) rfl (eo_nil ⟨rfl,rfl,undef,rfl,Fr.refl _ _,rfl⟩)
       ·intro ρ w196o F196o hS hρ
        have q104:ρ 104=.bool true:=hS 42 (by decide) 104 rfl
        have q111:ρ 111=(undef:Value):=hS 49 (by decide) 111 rfl
        exact o_no (want_f (t:=104) rfl q104 rfl) rfl (eo_nil ⟨rfl,rfl,undef,rfl,Fr.refl _ _,rfl⟩)
       ·intro ρ w196o F196o hS hρ
        have q11:ρ 11=.int .i64 s70.1:=hρ 11 (by kernel_rfl)
        have q104:ρ 104=.bool true:=hS 42 (by decide) 104 rfl
        exact o_no (want_f (t:=104) rfl q104 rfl) rfl (eo_nil ⟨rfl,rfl,undef,rfl,Fr.refl _ _,rfl⟩)
       ·intro ρ w196o F196o hS hρ
        have q104:ρ 104=.bool true:=hS 42 (by decide) 104 rfl
        have q112:ρ 112=(undef:Value):=hS 50 (by decide) 112 rfl
        have q113:ρ 113=(undef:Value):=hS 51 (by decide) 113 rfl
        exact o_no (want_f (t:=104) rfl q104 rfl) rfl (eo_nil ⟨rfl,rfl,undef,rfl,Fr.refl _ _,rfl⟩)
       ·intro ρ w196o F196o hS hρ
        have q104:ρ 104=.bool true:=hS 42 (by decide) 104 rfl
        have q114:ρ 114=(undef:Value):=hS 52 (by decide) 114 rfl
        exact o_no (want_f (t:=104) rfl q104 rfl) rfl (eo_nil ⟨rfl,rfl,undef,rfl,Fr.refl _ _,rfl⟩)
       ·intro ρ w196o F196o hS hρ
        have q104:ρ 104=.bool true:=hS 42 (by decide) 104 rfl
        have q115:ρ 115=(undef:Value):=hS 53 (by decide) 115 rfl
        exact o_no (want_f (t:=104) rfl q104 rfl) rfl (eo_nil ⟨rfl,rfl,undef,rfl,Fr.refl _ _,rfl⟩)
       ·intro ρ w196o F196o hS hρ
        have q104:ρ 104=.bool true:=hS 42 (by decide) 104 rfl
        have q110:ρ 110=(undef:Value):=hS 48 (by decide) 110 rfl
        have q116:ρ 116=(undef:Value):=hS 54 (by decide) 116 rfl
        exact o_no (want_f (t:=104) rfl q104 rfl) rfl (eo_nil ⟨rfl,rfl,undef,rfl,Fr.refl _ _,rfl⟩)
       ·intro ρ w196o F196o hS hρ
        have q104:ρ 104=.bool true:=hS 42 (by decide) 104 rfl
        have q117:ρ 117=(undef:Value):=hS 55 (by decide) 117 rfl
        exact o_q (r_pickT q104 rfl rfl) ⟨Fr.refl _ _,rfl⟩
      ·intro ρ w196 F196 hS hρ
       have q118:ρ 118=.bool true:=hS 56 118 rfl
       obtain ⟨ρ',rfl⟩:∃ ρ',ρ=envs (ovr [62,63,64,65,66,67,68,69,70,71,72,73,74,75,76,77,78,79,80,81,82,83,84,85,86,87,88,89,90,91,92,93,94,95,96,97,98,99,100,101,102,103,104,105,106,107,108,109,110,111,112,113,114,115,116,117,118] ρ' _) [(118,.bool true)]:=⟨ρ,ovr_self hρ ⟨q118,trivial⟩⟩
       have E197:=E162.trans F196
       refine sq_n ?_
       refine ec_condT rfl rfl ?_
       refine ec_seq ?_
       refine ec_region ?_
       refine o_w (v:=.bool false) (r_asg rfl) ?_
       refine eo_nil_sq ?_
       refine ec_ret ?_
       refine sq_ret ?_
       refine blk_ret ?_
       refine sq_ret ?_
       subst h
       exact lqR_r (end1 rfl ⟨_,rfl,E197,rfl⟩)
     ·replace h:=h.2 hc195
      rcases Bool.eq_false_or_eq_true (!x120.2) with hc220 | hc220
      ·replace h:=h.1 hc220
       refine ec_any0 (by kernel_rfl) [[],[0],[0,1],[0,1,2],[0,1,2,3],[0,1,2,3,4],[0,1,2,3,4,5],[0,1,2,3,4,5,6],[0,1,2,3,4,5,6,7],[0,1,2,3,4,5,6],[0,1,2,3,4,5,6,9],[0,1,2,3,4,5,6],[0,1,2,3,4,5,6,9,10,11],[0,1,2,3,4,5,6,7,8,9,10,11,12],[0,1,2,3,4,5,6,7,8,9,10,11,12,13],[0,1,2,3,4,5,6,7,8,9,10,11,12,13,14],[0,1,2,3,4,5,6,7,8,9,10,11,12,13,14,15],[0,1,2,3,4,5,6,7,8,9,10,11,12,13,14,15,16],[0,1,2,3,4,5,6,7,8,9,10,11,12,13,14,15],[0,1,2,3,4,5,6,7,8,9,10,11,12,13,14,15,18],[0,1,2,3,4,5,6,7,8,9,10,11,12,13,14,15,16,17,18,19],[0,1,2,3,4,5,6,7,8,9,10,11,12,13,14,15,16,17,18,19,20],[0,1,2,3,4,5,6,7,8,9,10,11,12,13,14,15,16,17,18,19,20,21],[0,1,2,3,4,5,6,7,8,9,10,11,12,13,14,15,16,17,18,19,20,21,22],[0,1,2,3,4,5,6,7,8,9,10,11,12,13,14,15,16,17,18,19,20,21,22,23],[0,1,2,3,4,5,6,7,8,9,10,11,12,13,14,15,16,17,18,19,20,21,22,23,24],[0,1,2,3,4,5,6,7,8,9,10,11,12,13,14,15,16,17,18,19,20,21,22,23,24,25],[0,1,2,3,4,5,6,7,8,9,10,11,12,13,14,15,16,17,18,19,20,21,22,23,24,25,26],[0,1,2,3,4,5,6,7,8,9,10,11,12,13,14,15,16,17,18,19,20,21,22,23,24,25,26,27],[0,1,2,3,4,5,6,7,8,9,10,11,12,13,14,15,16,17,18,19,20,21,22,23,24,25,26,27,28],[0,1,2,3,4,5,6,7,8,9,10,11,12,13,14,15,16,17,18,19,20,21,22,23,24,25,26,27,28,29],[0,1,2,3,4,5,6,7,8,9,10,11,12,13,14,15,16,17,18,19,20,21,22,23,24,25,26,27,28,29,30],[0,1,2,3,4,5,6,7,8,9,10,11,12,13,14,15,16,17,18,19,20,21,22,23,24,25,26,27,28,29,30,31],[0,1,2,3,4,5,6,7,8,9,10,11,12,13,14,15,16,17,18,19,20,21,22,23,24,25,26,27,28,29,30,31,32],[0,1,2,3,4,5,6,7,8,9,10,11,12,13,14,15,16,17,18,19,20,21,22,23,24,25,26,27,28],[0,1,2,3,4,5,6,7,8,9,10,11,12,13,14,15,16,17,18,19,20,21,22,23,24,25,26,27,28,34],[0,1,2,3,4,5,6,7,8,9,10,11,12,13,14,15,16,17,18,19,20,21,22,23,24,25,26,27,28],[0,1,2,3,4,5,6,7,8,9,10,11,12,13,14,15,16,17,18,19,20,21,22,23,24,25,26,27,28,34,35,36],[0,1,2,3,4,5,6,7,8,9,10,11,12,13,14,15,16,17,18,19,20,21,22,23,24,25,26,27,28,34,35,36,37],[0,1,2,3,4,5,6,7,8,9,10,11,12,13,14,15,16,17,18,19,20,21,22,23,24,25,26,27,28,34,35,36,37,38],[0,1,2,3,4,5,6,7,8,9,10,11,12,13,14,15,16,17,18,19,20,21,22,23,24,25,26,27,28,29,30,31,32,33,34,35,36,37,38,39],[0,1,2,3,4,5,6,7,8,9,10,11,12,13,14,15,16,17,18,19,20,21,22,23,24,25,26,27,28,29,30,31,32,33,34,35,36,37,38,39,40],[0,1,2,3,4,5,6,7,8,9,10,11,12,13,14,15,16,17,18,19,20,21,22,23,24,25,26,27,28,29,30,31,32,33,34,35,36,37,38,39,40,41],[0,1,2,3,4,5,6,7,8,9,10,11,12,13,14,15,16,17,18,19,20,21,22,23,24,25,26,27,28,29,30,31,32,33,34,35,36,37,38,39,40,41,42],[0,1,2,3,4,5,6,7,8,9,10,11,12,13,14,15,16,17,18,19,20,21,22,23,24,25,26,27,28,29,30,31,32,33,34,35,36,37,38,39,40,41,42,43],[0,1,2,3,4,5,6,7,8,9,10,11,12,13,14,15,16,17,18,19,20,21,22,23,24,25,26,27,28,29,30,31,32,33,34,35,36,37,38,39,40,41,42,43,44],[0,1,2,3,4,5,6,7,8,9,10,11,12,13,14,15,16,17,18,19,20,21,22,23,24,25,26,27,28,29,30,31,32,33,34,35,36,37,38,39,40,41,42,43,44,45],[0,1,2,3,4,5,6,7,8,9,10,11,12,13,14,15,16,17,18,19,20,21,22,23,24,25,26,27,28,29,30,31,32,33,34,35,36,37,38,39,40,41,42,43,44,45,46],[0,1,2,3,4,5,6,7,8,9,10,11,12,13,14,15,16,17,18,19,20,21,22,23,24,25,26,27,28,29,30,31,32,33,34,35,36,37,38,39,40,41,42,43,44,45,46,47],[0,1,2,3,4,5,6,7,8,9,10,11,12,13,14,15,16,17,18,19,20,21,22,23,24,25,26,27,28,29,30,31,32,33,34,35,36,37,38,39,40,41,42],[0,1,2,3,4,5,6,7,8,9,10,11,12,13,14,15,16,17,18,19,20,21,22,23,24,25,26,27,28,29,30,31,32,33,34,35,36,37,38,39,40,41,42,49],[0,1,2,3,4,5,6,7,8,9,10,11,12,13,14,15,16,17,18,19,20,21,22,23,24,25,26,27,28,29,30,31,32,33,34,35,36,37,38,39,40,41,42],[0,1,2,3,4,5,6,7,8,9,10,11,12,13,14,15,16,17,18,19,20,21,22,23,24,25,26,27,28,29,30,31,32,33,34,35,36,37,38,39,40,41,42,49,50,51],[0,1,2,3,4,5,6,7,8,9,10,11,12,13,14,15,16,17,18,19,20,21,22,23,24,25,26,27,28,29,30,31,32,33,34,35,36,37,38,39,40,41,42,49,50,51,52],[0,1,2,3,4,5,6,7,8,9,10,11,12,13,14,15,16,17,18,19,20,21,22,23,24,25,26,27,28,29,30,31,32,33,34,35,36,37,38,39,40,41,42,49,50,51,52,53],[0,1,2,3,4,5,6,7,8,9,10,11,12,13,14,15,16,17,18,19,20,21,22,23,24,25,26,27,28,29,30,31,32,33,34,35,36,37,38,39,40,41,42,43,44,45,46,47,48,49,50,51,52,53,54],[0,1,2,3,4,5,6,7,8,9,10,11,12,13,14,15,16,17,18,19,20,21,22,23,24,25,26,27,28,29,30,31,32,33,34,35,36,37,38,39,40,41,42,43,44,45,46,47,48,49,50,51,52,53,54,55]] [62,63,64,65,66,67,68,69,70,71,72,73,74,75,76,77,78,79,80,81,82,83,84,85,86,87,88,89,90,91,92,93,94,95,96,97,98,99,100,101,102,103,104,105,106,107,108,109,110,111,112,113,114,115,116,117,118] [fun v _=>v=(.bool x75.2:Value),fun v _=>v=(.bool (!x75.2):Value),fun v _=>v=(.bool (!x75.2):Value),fun v _=>v=(.bool x120.2:Value),fun v _=>v=(.bool (!x120.2):Value),fun v _=>v=(.bool (!x120.2):Value),fun v _=>v=(.bool (!x120.2):Value),fun v _=>v=((undef:Value):Value),fun v _=>v=((undef:Value):Value),fun v _=>v=((undef:Value):Value),fun v _=>v=((undef:Value):Value),fun v _=>v=((undef:Value):Value),fun v _=>v=((undef:Value):Value),fun v _=>v=((undef:Value):Value),fun v _=>v=(.bool true:Value),fun v _=>v=(.bool true:Value),fun v _=>v=((undef:Value):Value),fun v _=>v=((undef:Value):Value),fun v _=>v=((undef:Value):Value),fun v _=>v=((undef:Value):Value),fun v _=>v=((undef:Value):Value),fun v _=>v=(.bool true:Value),fun v _=>v=(.bool true:Value),fun v _=>v=((undef:Value):Value),fun v _=>v=((undef:Value):Value),fun v _=>v=((undef:Value):Value),fun v _=>v=((undef:Value):Value),fun v _=>v=(.bool true:Value),fun v _=>v=(.bool true:Value),fun v _=>v=((undef:Value):Value),fun v _=>v=((undef:Value):Value),fun v _=>v=((undef:Value):Value),fun v _=>v=((undef:Value):Value),fun v _=>v=((undef:Value):Value),fun v _=>v=((undef:Value):Value),fun v _=>v=((undef:Value):Value),fun v _=>v=((undef:Value):Value),fun v _=>v=((undef:Value):Value),fun v _=>v=((undef:Value):Value),fun v _=>v=((undef:Value):Value),fun v _=>v=((undef:Value):Value),fun v _=>v=(.bool true:Value),fun v _=>v=(.bool true:Value),fun v _=>v=((undef:Value):Value),fun v _=>v=((undef:Value):Value),fun v _=>v=((undef:Value):Value),fun v _=>v=((undef:Value):Value),fun v _=>v=((undef:Value):Value),fun v _=>v=((undef:Value):Value),fun v _=>v=((undef:Value):Value),fun v _=>v=((undef:Value):Value),fun v _=>v=((undef:Value):Value),fun v _=>v=((undef:Value):Value),fun v _=>v=((undef:Value):Value),fun v _=>v=((undef:Value):Value),fun v _=>v=((undef:Value):Value),fun v _=>v=(.bool true:Value)] (by kernel_rfl) ⟨fun _ _ _ _ _ h=>h,fun _ _ _ _ _ h=>h,fun _ _ _ _ _ h=>h,fun _ _ _ _ _ h=>h,fun _ _ _ _ _ h=>h,fun _ _ _ _ _ h=>h,fun _ _ _ _ _ h=>h,fun _ _ _ _ _ h=>h,fun _ _ _ _ _ h=>h,fun _ _ _ _ _ h=>h,fun _ _ _ _ _ h=>h,fun _ _ _ _ _ h=>h,fun _ _ _ _ _ h=>h,fun _ _ _ _ _ h=>h,fun _ _ _ _ _ h=>h,fun _ _ _ _ _ h=>h,fun _ _ _ _ _ h=>h,fun _ _ _ _ _ h=>h,fun _ _ _ _ _ h=>h,fun _ _ _ _ _ h=>h,fun _ _ _ _ _ h=>h,fun _ _ _ _ _ h=>h,fun _ _ _ _ _ h=>h,fun _ _ _ _ _ h=>h,fun _ _ _ _ _ h=>h,fun _ _ _ _ _ h=>h,fun _ _ _ _ _ h=>h,fun _ _ _ _ _ h=>h,fun _ _ _ _ _ h=>h,fun _ _ _ _ _ h=>h,fun _ _ _ _ _ h=>h,fun _ _ _ _ _ h=>h,fun _ _ _ _ _ h=>h,fun _ _ _ _ _ h=>h,fun _ _ _ _ _ h=>h,fun _ _ _ _ _ h=>h,fun _ _ _ _ _ h=>h,fun _ _ _ _ _ h=>h,fun _ _ _ _ _ h=>h,fun _ _ _ _ _ h=>h,fun _ _ _ _ _ h=>h,fun _ _ _ _ _ h=>h,fun _ _ _ _ _ h=>h,fun _ _ _ _ _ h=>h,fun _ _ _ _ _ h=>h,fun _ _ _ _ _ h=>h,fun _ _ _ _ _ h=>h,fun _ _ _ _ _ h=>h,fun _ _ _ _ _ h=>h,fun _ _ _ _ _ h=>h,fun _ _ _ _ _ h=>h,fun _ _ _ _ _ h=>h,fun _ _ _ _ _ h=>h,fun _ _ _ _ _ h=>h,fun _ _ _ _ _ h=>h,fun _ _ _ _ _ h=>h,fun _ _ _ _ _ h=>h,trivial⟩ ?_ ?_
       ·refine ⟨?_,?_,?_,?_,?_,?_,?_,?_,?_,?_,?_,?_,?_,?_,?_,?_,?_,?_,?_,?_,?_,?_,?_,?_,?_,?_,?_,?_,?_,?_,?_,?_,?_,?_,?_,?_,?_,?_,?_,?_,?_,?_,?_,?_,?_,?_,?_,?_,?_,?_,?_,?_,?_,?_,?_,?_,?_,trivial⟩
        ·intro ρ w221o F221o hS hρ
         have q13:ρ 13=.bool x75.2:=hρ 13 (by kernel_rfl)
         exact o_q (r_mov q13) ⟨Fr.refl _ _,rfl⟩
        ·intro ρ w221o F221o hS hρ
         have q62:ρ 62=.bool x75.2:=hS 0 (by decide) 62 rfl
         exact o_q (r_not q62) ⟨Fr.refl _ _,rfl⟩
        ·intro ρ w221o F221o hS hρ
         have q63:ρ 63=.bool (!x75.2):=hS 1 (by decide) 63 rfl
         exact o_q (r_mov q63) ⟨Fr.refl _ _,rfl⟩
        ·intro ρ w221o F221o hS hρ
         have q15:ρ 15=.bool x120.2:=hρ 15 (by kernel_rfl)
         have q64:ρ 64=.bool (!x75.2):=hS 2 (by decide) 64 rfl
         exact o_v (r_mov q15) (want_t (t:=64) rfl q64 hc195) rfl rfl (eo_nil ⟨rfl,rfl,_,rfl,Fr.refl _ _,rfl⟩)
        ·intro ρ w221o F221o hS hρ
         have q64:ρ 64=.bool (!x75.2):=hS 2 (by decide) 64 rfl
         have q65:ρ 65=.bool x120.2:=hS 3 (by decide) 65 rfl
         exact o_v (r_not q65) (want_t (t:=64) rfl q64 hc195) rfl rfl (eo_nil ⟨rfl,rfl,_,rfl,Fr.refl _ _,rfl⟩)
        ·intro ρ w221o F221o hS hρ
         have q64:ρ 64=.bool (!x75.2):=hS 2 (by decide) 64 rfl
         have q66:ρ 66=.bool (!x120.2):=hS 4 (by decide) 66 rfl
         exact o_q (r_pickF q64 hc195 q66) ⟨Fr.refl _ _,rfl⟩
        ·intro ρ w221o F221o hS hρ
         have q67:ρ 67=.bool (!x120.2):=hS 5 (by decide) 67 rfl
         exact o_q (r_mov q67) ⟨Fr.refl _ _,rfl⟩
        ·intro ρ w221o F221o hS hρ
         have q12:ρ 12=.pointer (some ⟨b92,0,none⟩):=hρ 12 (by kernel_rfl)
         have q68:ρ 68=.bool (!x120.2):=hS 6 (by decide) 68 rfl
         exact o_no (want_f (t:=68) rfl q68 hc220) rfl (eo_nil ⟨rfl,rfl,undef,rfl,Fr.refl _ _,rfl⟩)
        ·intro ρ w221o F221o hS hρ
         have q68:ρ 68=.bool (!x120.2):=hS 6 (by decide) 68 rfl
         have q69:ρ 69=(undef:Value):=hS 7 (by decide) 69 rfl
         exact o_no (want_f (t:=68) rfl q68 hc220) rfl (eo_nil ⟨rfl,rfl,undef,rfl,Fr.refl _ _,rfl⟩)
        ·intro ρ w221o F221o hS hρ
         have q10:ρ 10=.pointer (some ⟨b54,0,none⟩):=hρ 10 (by kernel_rfl)
         have q68:ρ 68=.bool (!x120.2):=hS 6 (by decide) 68 rfl
         exact o_no (want_f (t:=68) rfl q68 hc220) rfl (eo_nil ⟨rfl,rfl,undef,rfl,Fr.refl _ _,rfl⟩)
        ·intro ρ w221o F221o hS hρ
         have q68:ρ 68=.bool (!x120.2):=hS 6 (by decide) 68 rfl
         have q71:ρ 71=(undef:Value):=hS 9 (by decide) 71 rfl
         exact o_no (want_f (t:=68) rfl q68 hc220) rfl (eo_nil ⟨rfl,rfl,undef,rfl,Fr.refl _ _,rfl⟩)
        ·intro ρ w221o F221o hS hρ
         have q11:ρ 11=.int .i64 s70.1:=hρ 11 (by kernel_rfl)
         have q68:ρ 68=.bool (!x120.2):=hS 6 (by decide) 68 rfl
         exact o_no (want_f (t:=68) rfl q68 hc220) rfl (eo_nil ⟨rfl,rfl,undef,rfl,Fr.refl _ _,rfl⟩)
        ·intro ρ w221o F221o hS hρ
         have q68:ρ 68=.bool (!x120.2):=hS 6 (by decide) 68 rfl
         have q72:ρ 72=(undef:Value):=hS 10 (by decide) 72 rfl
         have q73:ρ 73=(undef:Value):=hS 11 (by decide) 73 rfl
         exact o_no (want_f (t:=68) rfl q68 hc220) rfl (eo_nil ⟨rfl,rfl,undef,rfl,Fr.refl _ _,rfl⟩)
        ·intro ρ w221o F221o hS hρ
         have q68:ρ 68=.bool (!x120.2):=hS 6 (by decide) 68 rfl
         have q70:ρ 70=(undef:Value):=hS 8 (by decide) 70 rfl
         have q74:ρ 74=(undef:Value):=hS 12 (by decide) 74 rfl
         exact o_no (want_f (t:=68) rfl q68 hc220) rfl (eo_nil ⟨rfl,rfl,undef,rfl,Fr.refl _ _,rfl⟩)
        ·intro ρ w221o F221o hS hρ
         have q68:ρ 68=.bool (!x120.2):=hS 6 (by decide) 68 rfl
         have q75:ρ 75=(undef:Value):=hS 13 (by decide) 75 rfl
         exact o_q (r_pickT q68 hc220 rfl) ⟨Fr.refl _ _,rfl⟩
        ·intro ρ w221o F221o hS hρ
         have q76:ρ 76=.bool true:=hS 14 (by decide) 76 rfl
         exact o_q (r_mov q76) ⟨Fr.refl _ _,rfl⟩
        ·intro ρ w221o F221o hS hρ
         have q12:ρ 12=.pointer (some ⟨b92,0,none⟩):=hρ 12 (by kernel_rfl)
         have q77:ρ 77=.bool true:=hS 15 (by decide) 77 rfl
         exact o_no (want_f (t:=77) rfl q77 rfl) rfl (eo_nil ⟨rfl,rfl,undef,rfl,Fr.refl _ _,rfl⟩)
        ·intro ρ w221o F221o hS hρ
         have q77:ρ 77=.bool true:=hS 15 (by decide) 77 rfl
         have q78:ρ 78=(undef:Value):=hS 16 (by decide) 78 rfl
         exact o_no (want_f (t:=77) rfl q77 rfl) rfl (eo_nil ⟨rfl,rfl,undef,rfl,Fr.refl _ _,rfl⟩)
        ·intro ρ w221o F221o hS hρ
         have q10:ρ 10=.pointer (some ⟨b54,0,none⟩):=hρ 10 (by kernel_rfl)
         have q77:ρ 77=.bool true:=hS 15 (by decide) 77 rfl
         exact o_no (want_f (t:=77) rfl q77 rfl) rfl (eo_nil ⟨rfl,rfl,undef,rfl,Fr.refl _ _,rfl⟩)
        ·intro ρ w221o F221o hS hρ
         have q77:ρ 77=.bool true:=hS 15 (by decide) 77 rfl
         have q80:ρ 80=(undef:Value):=hS 18 (by decide) 80 rfl
         exact o_no (want_f (t:=77) rfl q77 rfl) rfl (eo_nil ⟨rfl,rfl,undef,rfl,Fr.refl _ _,rfl⟩)
        ·intro ρ w221o F221o hS hρ
         have q77:ρ 77=.bool true:=hS 15 (by decide) 77 rfl
         have q79:ρ 79=(undef:Value):=hS 17 (by decide) 79 rfl
         have q81:ρ 81=(undef:Value):=hS 19 (by decide) 81 rfl
         exact o_no (want_f (t:=77) rfl q77 rfl) rfl (eo_nil ⟨rfl,rfl,undef,rfl,Fr.refl _ _,rfl⟩)
        ·intro ρ w221o F221o hS hρ
         have q77:ρ 77=.bool true:=hS 15 (by decide) 77 rfl
         have q82:ρ 82=(undef:Value):=hS 20 (by decide) 82 rfl
         exact o_q (r_pickT q77 rfl rfl) ⟨Fr.refl _ _,rfl⟩
        ·intro ρ w221o F221o hS hρ
         have q83:ρ 83=.bool true:=hS 21 (by decide) 83 rfl
         exact o_q (r_mov q83) ⟨Fr.refl _ _,rfl⟩
        ·intro ρ w221o F221o hS hρ
         have q12:ρ 12=.pointer (some ⟨b92,0,none⟩):=hρ 12 (by kernel_rfl)
         have q84:ρ 84=.bool true:=hS 22 (by decide) 84 rfl
         exact o_no (want_f (t:=84) rfl q84 rfl) rfl (eo_nil ⟨rfl,rfl,undef,rfl,Fr.refl _ _,rfl⟩)
        ·intro ρ w221o F221o hS hρ
         have q84:ρ 84=.bool true:=hS 22 (by decide) 84 rfl
         have q85:ρ 85=(undef:Value):=hS 23 (by decide) 85 rfl
         exact o_no (want_f (t:=84) rfl q84 rfl) rfl (eo_nil ⟨rfl,rfl,undef,rfl,Fr.refl _ _,rfl⟩)
        ·intro ρ w221o F221o hS hρ
         have q84:ρ 84=.bool true:=hS 22 (by decide) 84 rfl
         have q86:ρ 86=(undef:Value):=hS 24 (by decide) 86 rfl
         exact o_no (want_f (t:=84) rfl q84 rfl) rfl (eo_nil ⟨rfl,rfl,undef,rfl,Fr.refl _ _,rfl⟩)
        ·intro ρ w221o F221o hS hρ
         have q84:ρ 84=.bool true:=hS 22 (by decide) 84 rfl
         have q87:ρ 87=(undef:Value):=hS 25 (by decide) 87 rfl
         exact o_no (want_f (t:=84) rfl q84 rfl) rfl (eo_nil ⟨rfl,rfl,undef,rfl,Fr.refl _ _,rfl⟩)
        ·intro ρ w221o F221o hS hρ
         have q84:ρ 84=.bool true:=hS 22 (by decide) 84 rfl
         have q88:ρ 88=(undef:Value):=hS 26 (by decide) 88 rfl
         exact o_q (r_pickT q84 rfl rfl) ⟨Fr.refl _ _,rfl⟩
        ·intro ρ w221o F221o hS hρ
         have q89:ρ 89=.bool true:=hS 27 (by decide) 89 rfl
         exact o_q (r_mov q89) ⟨Fr.refl _ _,rfl⟩
        ·intro ρ w221o F221o hS hρ
         have q12:ρ 12=.pointer (some ⟨b92,0,none⟩):=hρ 12 (by kernel_rfl)
         have q90:ρ 90=.bool true:=hS 28 (by decide) 90 rfl
         exact o_no (want_f (t:=90) rfl q90 rfl) rfl (eo_nil ⟨rfl,rfl,undef,rfl,Fr.refl _ _,rfl⟩)
        ·intro ρ w221o F221o hS hρ
         have q90:ρ 90=.bool true:=hS 28 (by decide) 90 rfl
         have q91:ρ 91=(undef:Value):=hS 29 (by decide) 91 rfl
         exact o_no (want_f (t:=90) rfl q90 rfl) rfl (eo_nil ⟨rfl,rfl,undef,rfl,Fr.refl _ _,rfl⟩)
        ·intro ρ w221o F221o hS hρ
         have q90:ρ 90=.bool true:=hS 28 (by decide) 90 rfl
         have q92:ρ 92=(undef:Value):=hS 30 (by decide) 92 rfl
         exact o_no (want_f (t:=90) rfl q90 rfl) rfl (eo_nil ⟨rfl,rfl,undef,rfl,Fr.refl _ _,rfl⟩)
        ·intro ρ w221o F221o hS hρ
         have q90:ρ 90=.bool true:=hS 28 (by decide) 90 rfl
         have q93:ρ 93=(undef:Value):=hS 31 (by decide) 93 rfl
         exact o_no (want_f (t:=90) rfl q90 rfl) rfl (eo_nil ⟨rfl,rfl,undef,rfl,Fr.refl _ _,rfl⟩)
        ·intro ρ w221o F221o hS hρ
         have q90:ρ 90=.bool true:=hS 28 (by decide) 90 rfl
         have q94:ρ 94=(undef:Value):=hS 32 (by decide) 94 rfl
         exact o_no (want_f (t:=90) rfl q90 rfl) rfl (eo_nil ⟨rfl,rfl,undef,rfl,Fr.refl _ _,rfl⟩)
        ·intro ρ w221o F221o hS hρ
         have q10:ρ 10=.pointer (some ⟨b54,0,none⟩):=hρ 10 (by kernel_rfl)
         have q90:ρ 90=.bool true:=hS 28 (by decide) 90 rfl
         exact o_no (want_f (t:=90) rfl q90 rfl) rfl (eo_nil ⟨rfl,rfl,undef,rfl,Fr.refl _ _,rfl⟩)
        ·intro ρ w221o F221o hS hρ
         have q90:ρ 90=.bool true:=hS 28 (by decide) 90 rfl
         have q96:ρ 96=(undef:Value):=hS 34 (by decide) 96 rfl
         exact o_no (want_f (t:=90) rfl q90 rfl) rfl (eo_nil ⟨rfl,rfl,undef,rfl,Fr.refl _ _,rfl⟩)
        ·intro ρ w221o F221o hS hρ
         have q11:ρ 11=.int .i64 s70.1:=hρ 11 (by kernel_rfl)
         have q90:ρ 90=.bool true:=hS 28 (by decide) 90 rfl
         exact o_no (want_f (t:=90) rfl q90 rfl) rfl (eo_nil ⟨rfl,rfl,undef,rfl,Fr.refl _ _,rfl⟩)
        ·intro ρ w221o F221o hS hρ
         have q90:ρ 90=.bool true:=hS 28 (by decide) 90 rfl
         have q97:ρ 97=(undef:Value):=hS 35 (by decide) 97 rfl
         have q98:ρ 98=(undef:Value):=hS 36 (by decide) 98 rfl
         exact o_no (want_f (t:=90) rfl q90 rfl) rfl (eo_nil ⟨rfl,rfl,undef,rfl,Fr.refl _ _,rfl⟩)
        ·intro ρ w221o F221o hS hρ
         have q90:ρ 90=.bool true:=hS 28 (by decide) 90 rfl
         have q99:ρ 99=(undef:Value):=hS 37 (by decide) 99 rfl
         exact o_no (want_f (t:=90) rfl q90 rfl) rfl (eo_nil ⟨rfl,rfl,undef,rfl,Fr.refl _ _,rfl⟩)
        ·intro ρ w221o F221o hS hρ
         have q90:ρ 90=.bool true:=hS 28 (by decide) 90 rfl
         have q100:ρ 100=(undef:Value):=hS 38 (by decide) 100 rfl
         exact o_no (want_f (t:=90) rfl q90 rfl) rfl (eo_nil ⟨rfl,rfl,undef,rfl,Fr.refl _ _,rfl⟩)
        ·intro ρ w221o F221o hS hρ
         have q90:ρ 90=.bool true:=hS 28 (by decide) 90 rfl
         have q95:ρ 95=(undef:Value):=hS 33 (by decide) 95 rfl
         have q101:ρ 101=(undef:Value):=hS 39 (by decide) 101 rfl
         exact o_no (want_f (t:=90) rfl q90 rfl) rfl (eo_nil ⟨rfl,rfl,undef,rfl,Fr.refl _ _,rfl⟩)
        ·intro ρ w221o F221o hS hρ
         have q90:ρ 90=.bool true:=hS 28 (by decide) 90 rfl
         have q102:ρ 102=(undef:Value):=hS 40 (by decide) 102 rfl
         exact o_q (r_pickT q90 rfl rfl) ⟨Fr.refl _ _,rfl⟩
        ·intro ρ w221o F221o hS hρ
         have q103:ρ 103=.bool true:=hS 41 (by decide) 103 rfl
         exact o_q (r_mov q103) ⟨Fr.refl _ _,rfl⟩
        ·intro ρ w221o F221o hS hρ
         have q12:ρ 12=.pointer (some ⟨b92,0,none⟩):=hρ 12 (by kernel_rfl)
         have q104:ρ 104=.bool true:=hS 42 (by decide) 104 rfl
         exact o_no (want_f (t:=104) rfl q104 rfl) rfl (eo_nil ⟨rfl,rfl,undef,rfl,Fr.refl _ _,rfl⟩)
        ·intro ρ w221o F221o hS hρ
         have q104:ρ 104=.bool true:=hS 42 (by decide) 104 rfl
         have q105:ρ 105=(undef:Value):=hS 43 (by decide) 105 rfl
         exact o_no (want_f (t:=104) rfl q104 rfl) rfl (eo_nil ⟨rfl,rfl,undef,rfl,Fr.refl _ _,rfl⟩)
        ·intro ρ w221o F221o hS hρ
         have q104:ρ 104=.bool true:=hS 42 (by decide) 104 rfl
         have q106:ρ 106=(undef:Value):=hS 44 (by decide) 106 rfl
         exact o_no (want_f (t:=104) rfl q104 rfl) rfl (eo_nil ⟨rfl,rfl,undef,rfl,Fr.refl _ _,rfl⟩)
        ·intro ρ w221o F221o hS hρ
         have q104:ρ 104=.bool true:=hS 42 (by decide) 104 rfl
         have q107:ρ 107=(undef:Value):=hS 45 (by decide) 107 rfl
         exact o_no (want_f (t:=104) rfl q104 rfl) rfl (eo_nil ⟨rfl,rfl,undef,rfl,Fr.refl _ _,rfl⟩)
        ·intro ρ w221o F221o hS hρ
         have q104:ρ 104=.bool true:=hS 42 (by decide) 104 rfl
         have q108:ρ 108=(undef:Value):=hS 46 (by decide) 108 rfl
         exact o_no (want_f (t:=104) rfl q104 rfl) rfl (eo_nil ⟨rfl,rfl,undef,rfl,Fr.refl _ _,rfl⟩)
        ·intro ρ w221o F221o hS hρ
         have q104:ρ 104=.bool true:=hS 42 (by decide) 104 rfl
         have q109:ρ 109=(undef:Value):=hS 47 (by decide) 109 rfl
         exact o_no (want_f (t:=104) rfl q104 rfl) rfl (eo_nil ⟨rfl,rfl,undef,rfl,Fr.refl _ _,rfl⟩)
        ·intro ρ w221o F221o hS hρ
         have q10:ρ 10=.pointer (some ⟨b54,0,none⟩):=hρ 10 (by kernel_rfl)
         have q104:ρ 104=.bool true:=hS 42 (by decide) 104 rfl
         exact o_no (want_f (t:=104) rfl q104 rfl) rfl (eo_nil ⟨rfl,rfl,undef,rfl,Fr.refl _ _,rfl⟩)
        ·intro ρ w221o F221o hS hρ
         have q104:ρ 104=.bool true:=hS 42 (by decide) 104 rfl
         have q111:ρ 111=(undef:Value):=hS 49 (by decide) 111 rfl
         exact o_no (want_f (t:=104) rfl q104 rfl) rfl (eo_nil ⟨rfl,rfl,undef,rfl,Fr.refl _ _,rfl⟩)
        ·intro ρ w221o F221o hS hρ
         have q11:ρ 11=.int .i64 s70.1:=hρ 11 (by kernel_rfl)
         have q104:ρ 104=.bool true:=hS 42 (by decide) 104 rfl
         exact o_no (want_f (t:=104) rfl q104 rfl) rfl (eo_nil ⟨rfl,rfl,undef,rfl,Fr.refl _ _,rfl⟩)
        ·intro ρ w221o F221o hS hρ
         have q104:ρ 104=.bool true:=hS 42 (by decide) 104 rfl
         have q112:ρ 112=(undef:Value):=hS 50 (by decide) 112 rfl
         have q113:ρ 113=(undef:Value):=hS 51 (by decide) 113 rfl
         exact o_no (want_f (t:=104) rfl q104 rfl) rfl (eo_nil ⟨rfl,rfl,undef,rfl,Fr.refl _ _,rfl⟩)
        ·intro ρ w221o F221o hS hρ
         have q104:ρ 104=.bool true:=hS 42 (by decide) 104 rfl
         have q114:ρ 114=(undef:Value):=hS 52 (by decide) 114 rfl
         exact o_no (want_f (t:=104) rfl q104 rfl) rfl (eo_nil ⟨rfl,rfl,undef,rfl,Fr.refl _ _,rfl⟩)
        ·intro ρ w221o F221o hS hρ
         have q104:ρ 104=.bool true:=hS 42 (by decide) 104 rfl
         have q115:ρ 115=(undef:Value):=hS 53 (by decide) 115 rfl
         exact o_no (want_f (t:=104) rfl q104 rfl) rfl (eo_nil ⟨rfl,rfl,undef,rfl,Fr.refl _ _,rfl⟩)
        ·intro ρ w221o F221o hS hρ
         have q104:ρ 104=.bool true:=hS 42 (by decide) 104 rfl
         have q110:ρ 110=(undef:Value):=hS 48 (by decide) 110 rfl
         have q116:ρ 116=(undef:Value):=hS 54 (by decide) 116 rfl
         exact o_no (want_f (t:=104) rfl q104 rfl) rfl (eo_nil ⟨rfl,rfl,undef,rfl,Fr.refl _ _,rfl⟩)
        ·intro ρ w221o F221o hS hρ
         have q104:ρ 104=.bool true:=hS 42 (by decide) 104 rfl
         have q117:ρ 117=(undef:Value):=hS 55 (by decide) 117 rfl
         exact o_q (r_pickT q104 rfl rfl) ⟨Fr.refl _ _,rfl⟩
       ·intro ρ w221 F221 hS hρ
        have q65:ρ 65=.bool x120.2:=hS 3 65 rfl
        have q66:ρ 66=.bool (!x120.2):=hS 4 66 rfl
        have q118:ρ 118=.bool true:=hS 56 118 rfl
        obtain ⟨ρ',rfl⟩:∃ ρ',ρ=envs (ovr [62,63,64,65,66,67,68,69,70,71,72,73,74,75,76,77,78,79,80,81,82,83,84,85,86,87,88,89,90,91,92,93,94,95,96,97,98,99,100,101,102,103,104,105,106,107,108,109,110,111,112,113,114,115,116,117,118] ρ' _) [(65,.bool x120.2),(66,.bool (!x120.2)),(118,.bool true)]:=⟨ρ,ovr_self hρ ⟨q65,q66,q118,trivial⟩⟩
        have E222:=E162.trans F221
        refine sq_n ?_
        refine ec_condT rfl rfl ?_
        refine ec_seq ?_
        refine ec_region ?_
        refine o_w (v:=.bool false) (r_asg rfl) ?_
        refine eo_nil_sq ?_
        refine ec_ret ?_
        refine sq_ret ?_
        refine blk_ret ?_
        refine sq_ret ?_
        subst h
        exact lqR_r (end1 rfl ⟨_,rfl,E222,rfl⟩)
      ·replace h:=h.2 hc220
       rcases Bool.eq_false_or_eq_true (x75.1.b != (IntKind.i64.wrap (x42.first + s70.1))) with hc245 | hc245
       ·replace h:=h.1 hc245
        refine ec_any0 (by kernel_rfl) [[],[0],[0,1],[0,1,2],[0,1,2,3],[0,1,2,3,4],[0,1,2,3,4,5],[0,1,2,3,4,5,6],[0,1,2,3,4,5,6,7],[0,1,2,3,4,5,6],[0,1,2,3,4,5,6,9],[0,1,2,3,4,5,6],[0,1,2,3,4,5,6,9,10,11],[0,1,2,3,4,5,6,7,8,9,10,11,12],[0,1,2,3,4,5,6,7,8,9,10,11,12,13],[0,1,2,3,4,5,6,7,8,9,10,11,12,13,14],[0,1,2,3,4,5,6,7,8,9,10,11,12,13,14,15],[0,1,2,3,4,5,6,7,8,9,10,11,12,13,14,15,16],[0,1,2,3,4,5,6,7,8,9,10,11,12,13,14,15],[0,1,2,3,4,5,6,7,8,9,10,11,12,13,14,15,18],[0,1,2,3,4,5,6,7,8,9,10,11,12,13,14,15,16,17,18,19],[0,1,2,3,4,5,6,7,8,9,10,11,12,13,14,15,16,17,18,19,20],[0,1,2,3,4,5,6,7,8,9,10,11,12,13,14,15,16,17,18,19,20,21],[0,1,2,3,4,5,6,7,8,9,10,11,12,13,14,15,16,17,18,19,20,21,22],[0,1,2,3,4,5,6,7,8,9,10,11,12,13,14,15,16,17,18,19,20,21,22,23],[0,1,2,3,4,5,6,7,8,9,10,11,12,13,14,15,16,17,18,19,20,21,22,23,24],[0,1,2,3,4,5,6,7,8,9,10,11,12,13,14,15,16,17,18,19,20,21,22,23,24,25],[0,1,2,3,4,5,6,7,8,9,10,11,12,13,14,15,16,17,18,19,20,21,22,23,24,25,26],[0,1,2,3,4,5,6,7,8,9,10,11,12,13,14,15,16,17,18,19,20,21,22,23,24,25,26,27],[0,1,2,3,4,5,6,7,8,9,10,11,12,13,14,15,16,17,18,19,20,21,22,23,24,25,26,27,28],[0,1,2,3,4,5,6,7,8,9,10,11,12,13,14,15,16,17,18,19,20,21,22,23,24,25,26,27,28,29],[0,1,2,3,4,5,6,7,8,9,10,11,12,13,14,15,16,17,18,19,20,21,22,23,24,25,26,27,28,29,30],[0,1,2,3,4,5,6,7,8,9,10,11,12,13,14,15,16,17,18,19,20,21,22,23,24,25,26,27,28,29,30,31],[0,1,2,3,4,5,6,7,8,9,10,11,12,13,14,15,16,17,18,19,20,21,22,23,24,25,26,27,28,29,30,31,32],[0,1,2,3,4,5,6,7,8,9,10,11,12,13,14,15,16,17,18,19,20,21,22,23,24,25,26,27,28],[0,1,2,3,4,5,6,7,8,9,10,11,12,13,14,15,16,17,18,19,20,21,22,23,24,25,26,27,28,34],[0,1,2,3,4,5,6,7,8,9,10,11,12,13,14,15,16,17,18,19,20,21,22,23,24,25,26,27,28],[0,1,2,3,4,5,6,7,8,9,10,11,12,13,14,15,16,17,18,19,20,21,22,23,24,25,26,27,28,34,35,36],[0,1,2,3,4,5,6,7,8,9,10,11,12,13,14,15,16,17,18,19,20,21,22,23,24,25,26,27,28,34,35,36,37],[0,1,2,3,4,5,6,7,8,9,10,11,12,13,14,15,16,17,18,19,20,21,22,23,24,25,26,27,28,34,35,36,37,38],[0,1,2,3,4,5,6,7,8,9,10,11,12,13,14,15,16,17,18,19,20,21,22,23,24,25,26,27,28,29,30,31,32,33,34,35,36,37,38,39],[0,1,2,3,4,5,6,7,8,9,10,11,12,13,14,15,16,17,18,19,20,21,22,23,24,25,26,27,28,29,30,31,32,33,34,35,36,37,38,39,40],[0,1,2,3,4,5,6,7,8,9,10,11,12,13,14,15,16,17,18,19,20,21,22,23,24,25,26,27,28,29,30,31,32,33,34,35,36,37,38,39,40,41],[0,1,2,3,4,5,6,7,8,9,10,11,12,13,14,15,16,17,18,19,20,21,22,23,24,25,26,27,28,29,30,31,32,33,34,35,36,37,38,39,40,41,42],[0,1,2,3,4,5,6,7,8,9,10,11,12,13,14,15,16,17,18,19,20,21,22,23,24,25,26,27,28,29,30,31,32,33,34,35,36,37,38,39,40,41,42,43],[0,1,2,3,4,5,6,7,8,9,10,11,12,13,14,15,16,17,18,19,20,21,22,23,24,25,26,27,28,29,30,31,32,33,34,35,36,37,38,39,40,41,42,43,44],[0,1,2,3,4,5,6,7,8,9,10,11,12,13,14,15,16,17,18,19,20,21,22,23,24,25,26,27,28,29,30,31,32,33,34,35,36,37,38,39,40,41,42,43,44,45],[0,1,2,3,4,5,6,7,8,9,10,11,12,13,14,15,16,17,18,19,20,21,22,23,24,25,26,27,28,29,30,31,32,33,34,35,36,37,38,39,40,41,42,43,44,45,46],[0,1,2,3,4,5,6,7,8,9,10,11,12,13,14,15,16,17,18,19,20,21,22,23,24,25,26,27,28,29,30,31,32,33,34,35,36,37,38,39,40,41,42,43,44,45,46,47],[0,1,2,3,4,5,6,7,8,9,10,11,12,13,14,15,16,17,18,19,20,21,22,23,24,25,26,27,28,29,30,31,32,33,34,35,36,37,38,39,40,41,42],[0,1,2,3,4,5,6,7,8,9,10,11,12,13,14,15,16,17,18,19,20,21,22,23,24,25,26,27,28,29,30,31,32,33,34,35,36,37,38,39,40,41,42,49],[0,1,2,3,4,5,6,7,8,9,10,11,12,13,14,15,16,17,18,19,20,21,22,23,24,25,26,27,28,29,30,31,32,33,34,35,36,37,38,39,40,41,42],[0,1,2,3,4,5,6,7,8,9,10,11,12,13,14,15,16,17,18,19,20,21,22,23,24,25,26,27,28,29,30,31,32,33,34,35,36,37,38,39,40,41,42,49,50,51],[0,1,2,3,4,5,6,7,8,9,10,11,12,13,14,15,16,17,18,19,20,21,22,23,24,25,26,27,28,29,30,31,32,33,34,35,36,37,38,39,40,41,42,49,50,51,52],[0,1,2,3,4,5,6,7,8,9,10,11,12,13,14,15,16,17,18,19,20,21,22,23,24,25,26,27,28,29,30,31,32,33,34,35,36,37,38,39,40,41,42,49,50,51,52,53],[0,1,2,3,4,5,6,7,8,9,10,11,12,13,14,15,16,17,18,19,20,21,22,23,24,25,26,27,28,29,30,31,32,33,34,35,36,37,38,39,40,41,42,43,44,45,46,47,48,49,50,51,52,53,54],[0,1,2,3,4,5,6,7,8,9,10,11,12,13,14,15,16,17,18,19,20,21,22,23,24,25,26,27,28,29,30,31,32,33,34,35,36,37,38,39,40,41,42,43,44,45,46,47,48,49,50,51,52,53,54,55]] [62,63,64,65,66,67,68,69,70,71,72,73,74,75,76,77,78,79,80,81,82,83,84,85,86,87,88,89,90,91,92,93,94,95,96,97,98,99,100,101,102,103,104,105,106,107,108,109,110,111,112,113,114,115,116,117,118] [fun v _=>v=(.bool x75.2:Value),fun v _=>v=(.bool (!x75.2):Value),fun v _=>v=(.bool (!x75.2):Value),fun v _=>v=(.bool x120.2:Value),fun v _=>v=(.bool (!x120.2):Value),fun v _=>v=(.bool (!x120.2):Value),fun v _=>v=(.bool (!x120.2):Value),fun v _=>v=(.pointer (some ⟨b92,2,none⟩):Value),fun v _=>v=(.int .i64 x75.1.b:Value),fun v _=>v=(.pointer (some ⟨b54,1,none⟩):Value),fun v _=>v=(.int .i64 x42.first:Value),fun v _=>v=(.int .i64 s70.1:Value),fun v _=>v=(.int .i64 (IntKind.i64.wrap (x42.first + s70.1)):Value),fun v _=>v=(.bool (x75.1.b != (IntKind.i64.wrap (x42.first + s70.1))):Value),fun v _=>v=(.bool (x75.1.b != (IntKind.i64.wrap (x42.first + s70.1))):Value),fun v _=>v=(.bool (x75.1.b != (IntKind.i64.wrap (x42.first + s70.1))):Value),fun v _=>v=((undef:Value):Value),fun v _=>v=((undef:Value):Value),fun v _=>v=((undef:Value):Value),fun v _=>v=((undef:Value):Value),fun v _=>v=((undef:Value):Value),fun v _=>v=(.bool true:Value),fun v _=>v=(.bool true:Value),fun v _=>v=((undef:Value):Value),fun v _=>v=((undef:Value):Value),fun v _=>v=((undef:Value):Value),fun v _=>v=((undef:Value):Value),fun v _=>v=(.bool true:Value),fun v _=>v=(.bool true:Value),fun v _=>v=((undef:Value):Value),fun v _=>v=((undef:Value):Value),fun v _=>v=((undef:Value):Value),fun v _=>v=((undef:Value):Value),fun v _=>v=((undef:Value):Value),fun v _=>v=((undef:Value):Value),fun v _=>v=((undef:Value):Value),fun v _=>v=((undef:Value):Value),fun v _=>v=((undef:Value):Value),fun v _=>v=((undef:Value):Value),fun v _=>v=((undef:Value):Value),fun v _=>v=((undef:Value):Value),fun v _=>v=(.bool true:Value),fun v _=>v=(.bool true:Value),fun v _=>v=((undef:Value):Value),fun v _=>v=((undef:Value):Value),fun v _=>v=((undef:Value):Value),fun v _=>v=((undef:Value):Value),fun v _=>v=((undef:Value):Value),fun v _=>v=((undef:Value):Value),fun v _=>v=((undef:Value):Value),fun v _=>v=((undef:Value):Value),fun v _=>v=((undef:Value):Value),fun v _=>v=((undef:Value):Value),fun v _=>v=((undef:Value):Value),fun v _=>v=((undef:Value):Value),fun v _=>v=((undef:Value):Value),fun v _=>v=(.bool true:Value)] (by kernel_rfl) ⟨fun _ _ _ _ _ h=>h,fun _ _ _ _ _ h=>h,fun _ _ _ _ _ h=>h,fun _ _ _ _ _ h=>h,fun _ _ _ _ _ h=>h,fun _ _ _ _ _ h=>h,fun _ _ _ _ _ h=>h,fun _ _ _ _ _ h=>h,fun _ _ _ _ _ h=>h,fun _ _ _ _ _ h=>h,fun _ _ _ _ _ h=>h,fun _ _ _ _ _ h=>h,fun _ _ _ _ _ h=>h,fun _ _ _ _ _ h=>h,fun _ _ _ _ _ h=>h,fun _ _ _ _ _ h=>h,fun _ _ _ _ _ h=>h,fun _ _ _ _ _ h=>h,fun _ _ _ _ _ h=>h,fun _ _ _ _ _ h=>h,fun _ _ _ _ _ h=>h,fun _ _ _ _ _ h=>h,fun _ _ _ _ _ h=>h,fun _ _ _ _ _ h=>h,fun _ _ _ _ _ h=>h,fun _ _ _ _ _ h=>h,fun _ _ _ _ _ h=>h,fun _ _ _ _ _ h=>h,fun _ _ _ _ _ h=>h,fun _ _ _ _ _ h=>h,fun _ _ _ _ _ h=>h,fun _ _ _ _ _ h=>h,fun _ _ _ _ _ h=>h,fun _ _ _ _ _ h=>h,fun _ _ _ _ _ h=>h,fun _ _ _ _ _ h=>h,fun _ _ _ _ _ h=>h,fun _ _ _ _ _ h=>h,fun _ _ _ _ _ h=>h,fun _ _ _ _ _ h=>h,fun _ _ _ _ _ h=>h,fun _ _ _ _ _ h=>h,fun _ _ _ _ _ h=>h,fun _ _ _ _ _ h=>h,fun _ _ _ _ _ h=>h,fun _ _ _ _ _ h=>h,fun _ _ _ _ _ h=>h,fun _ _ _ _ _ h=>h,fun _ _ _ _ _ h=>h,fun _ _ _ _ _ h=>h,fun _ _ _ _ _ h=>h,fun _ _ _ _ _ h=>h,fun _ _ _ _ _ h=>h,fun _ _ _ _ _ h=>h,fun _ _ _ _ _ h=>h,fun _ _ _ _ _ h=>h,fun _ _ _ _ _ h=>h,trivial⟩ ?_ ?_
        ·refine ⟨?_,?_,?_,?_,?_,?_,?_,?_,?_,?_,?_,?_,?_,?_,?_,?_,?_,?_,?_,?_,?_,?_,?_,?_,?_,?_,?_,?_,?_,?_,?_,?_,?_,?_,?_,?_,?_,?_,?_,?_,?_,?_,?_,?_,?_,?_,?_,?_,?_,?_,?_,?_,?_,?_,?_,?_,?_,trivial⟩
         ·intro ρ w246o F246o hS hρ
          have q13:ρ 13=.bool x75.2:=hρ 13 (by kernel_rfl)
          exact o_q (r_mov q13) ⟨Fr.refl _ _,rfl⟩
         ·intro ρ w246o F246o hS hρ
          have q62:ρ 62=.bool x75.2:=hS 0 (by decide) 62 rfl
          exact o_q (r_not q62) ⟨Fr.refl _ _,rfl⟩
         ·intro ρ w246o F246o hS hρ
          have q63:ρ 63=.bool (!x75.2):=hS 1 (by decide) 63 rfl
          exact o_q (r_mov q63) ⟨Fr.refl _ _,rfl⟩
         ·intro ρ w246o F246o hS hρ
          have q15:ρ 15=.bool x120.2:=hρ 15 (by kernel_rfl)
          have q64:ρ 64=.bool (!x75.2):=hS 2 (by decide) 64 rfl
          exact o_v (r_mov q15) (want_t (t:=64) rfl q64 hc195) rfl rfl (eo_nil ⟨rfl,rfl,_,rfl,Fr.refl _ _,rfl⟩)
         ·intro ρ w246o F246o hS hρ
          have q64:ρ 64=.bool (!x75.2):=hS 2 (by decide) 64 rfl
          have q65:ρ 65=.bool x120.2:=hS 3 (by decide) 65 rfl
          exact o_v (r_not q65) (want_t (t:=64) rfl q64 hc195) rfl rfl (eo_nil ⟨rfl,rfl,_,rfl,Fr.refl _ _,rfl⟩)
         ·intro ρ w246o F246o hS hρ
          have q64:ρ 64=.bool (!x75.2):=hS 2 (by decide) 64 rfl
          have q66:ρ 66=.bool (!x120.2):=hS 4 (by decide) 66 rfl
          exact o_q (r_pickF q64 hc195 q66) ⟨Fr.refl _ _,rfl⟩
         ·intro ρ w246o F246o hS hρ
          have q67:ρ 67=.bool (!x120.2):=hS 5 (by decide) 67 rfl
          exact o_q (r_mov q67) ⟨Fr.refl _ _,rfl⟩
         ·intro ρ w246o F246o hS hρ
          have q12:ρ 12=.pointer (some ⟨b92,0,none⟩):=hρ 12 (by kernel_rfl)
          have q68:ρ 68=.bool (!x120.2):=hS 6 (by decide) 68 rfl
          exact o_v (r_fa fld_frame_Frame_2 rfl q12) (want_t (t:=68) rfl q68 hc220) rfl rfl (eo_nil ⟨rfl,rfl,_,rfl,Fr.refl _ _,rfl⟩)
         ·intro ρ w246o F246o hS hρ
          have q68:ρ 68=.bool (!x120.2):=hS 6 (by decide) 68 rfl
          have q69:ρ 69=.pointer (some ⟨b92,2,none⟩):=hS 7 (by decide) 69 rfl
          exact o_v (r_ld one_int q69 ((B172.ex F246o).cell rfl)) (want_t (t:=68) rfl q68 hc220) rfl rfl (eo_nil ⟨rfl,rfl,_,rfl,Fr.refl _ _,rfl⟩)
         ·intro ρ w246o F246o hS hρ
          have q10:ρ 10=.pointer (some ⟨b54,0,none⟩):=hρ 10 (by kernel_rfl)
          have q68:ρ 68=.bool (!x120.2):=hS 6 (by decide) 68 rfl
          exact o_v (r_fa fld_buffer_Buffer_1 rfl q10) (want_t (t:=68) rfl q68 hc220) rfl rfl (eo_nil ⟨rfl,rfl,_,rfl,Fr.refl _ _,rfl⟩)
         ·intro ρ w246o F246o hS hρ
          have q68:ρ 68=.bool (!x120.2):=hS 6 (by decide) 68 rfl
          have q71:ρ 71=.pointer (some ⟨b54,1,none⟩):=hS 9 (by decide) 71 rfl
          exact o_v (r_ld one_int q71 ((B171.ex F246o).cell rfl)) (want_t (t:=68) rfl q68 hc220) rfl rfl (eo_nil ⟨rfl,rfl,_,rfl,Fr.refl _ _,rfl⟩)
         ·intro ρ w246o F246o hS hρ
          have q11:ρ 11=.int .i64 s70.1:=hρ 11 (by kernel_rfl)
          have q68:ρ 68=.bool (!x120.2):=hS 6 (by decide) 68 rfl
          exact o_v (r_mov q11) (want_t (t:=68) rfl q68 hc220) rfl rfl (eo_nil ⟨rfl,rfl,_,rfl,Fr.refl _ _,rfl⟩)
         ·intro ρ w246o F246o hS hρ
          have q68:ρ 68=.bool (!x120.2):=hS 6 (by decide) 68 rfl
          have q72:ρ 72=.int .i64 x42.first:=hS 10 (by decide) 72 rfl
          have q73:ρ 73=.int .i64 s70.1:=hS 11 (by decide) 73 rfl
          exact o_v (r_int q72 q73 rfl) (want_t (t:=68) rfl q68 hc220) rfl rfl (eo_nil ⟨rfl,rfl,_,rfl,Fr.refl _ _,rfl⟩)
         ·intro ρ w246o F246o hS hρ
          have q68:ρ 68=.bool (!x120.2):=hS 6 (by decide) 68 rfl
          have q70:ρ 70=.int .i64 x75.1.b:=hS 8 (by decide) 70 rfl
          have q74:ρ 74=.int .i64 (IntKind.i64.wrap (x42.first + s70.1)):=hS 12 (by decide) 74 rfl
          exact o_v (r_int q70 q74 rfl) (want_t (t:=68) rfl q68 hc220) rfl rfl (eo_nil ⟨rfl,rfl,_,rfl,Fr.refl _ _,rfl⟩)
         ·intro ρ w246o F246o hS hρ
          have q68:ρ 68=.bool (!x120.2):=hS 6 (by decide) 68 rfl
          have q75:ρ 75=.bool (x75.1.b != (IntKind.i64.wrap (x42.first + s70.1))):=hS 13 (by decide) 75 rfl
          exact o_q (r_pickF q68 hc220 q75) ⟨Fr.refl _ _,rfl⟩
         ·intro ρ w246o F246o hS hρ
          have q76:ρ 76=.bool (x75.1.b != (IntKind.i64.wrap (x42.first + s70.1))):=hS 14 (by decide) 76 rfl
          exact o_q (r_mov q76) ⟨Fr.refl _ _,rfl⟩
         ·intro ρ w246o F246o hS hρ
          have q12:ρ 12=.pointer (some ⟨b92,0,none⟩):=hρ 12 (by kernel_rfl)
          have q77:ρ 77=.bool (x75.1.b != (IntKind.i64.wrap (x42.first + s70.1))):=hS 15 (by decide) 77 rfl
          exact o_no (want_f (t:=77) rfl q77 hc245) rfl (eo_nil ⟨rfl,rfl,undef,rfl,Fr.refl _ _,rfl⟩)
         ·intro ρ w246o F246o hS hρ
          have q77:ρ 77=.bool (x75.1.b != (IntKind.i64.wrap (x42.first + s70.1))):=hS 15 (by decide) 77 rfl
          have q78:ρ 78=(undef:Value):=hS 16 (by decide) 78 rfl
          exact o_no (want_f (t:=77) rfl q77 hc245) rfl (eo_nil ⟨rfl,rfl,undef,rfl,Fr.refl _ _,rfl⟩)
         ·intro ρ w246o F246o hS hρ
          have q10:ρ 10=.pointer (some ⟨b54,0,none⟩):=hρ 10 (by kernel_rfl)
          have q77:ρ 77=.bool (x75.1.b != (IntKind.i64.wrap (x42.first + s70.1))):=hS 15 (by decide) 77 rfl
          exact o_no (want_f (t:=77) rfl q77 hc245) rfl (eo_nil ⟨rfl,rfl,undef,rfl,Fr.refl _ _,rfl⟩)
         ·intro ρ w246o F246o hS hρ
          have q77:ρ 77=.bool (x75.1.b != (IntKind.i64.wrap (x42.first + s70.1))):=hS 15 (by decide) 77 rfl
          have q80:ρ 80=(undef:Value):=hS 18 (by decide) 80 rfl
          exact o_no (want_f (t:=77) rfl q77 hc245) rfl (eo_nil ⟨rfl,rfl,undef,rfl,Fr.refl _ _,rfl⟩)
         ·intro ρ w246o F246o hS hρ
          have q77:ρ 77=.bool (x75.1.b != (IntKind.i64.wrap (x42.first + s70.1))):=hS 15 (by decide) 77 rfl
          have q79:ρ 79=(undef:Value):=hS 17 (by decide) 79 rfl
          have q81:ρ 81=(undef:Value):=hS 19 (by decide) 81 rfl
          exact o_no (want_f (t:=77) rfl q77 hc245) rfl (eo_nil ⟨rfl,rfl,undef,rfl,Fr.refl _ _,rfl⟩)
         ·intro ρ w246o F246o hS hρ
          have q77:ρ 77=.bool (x75.1.b != (IntKind.i64.wrap (x42.first + s70.1))):=hS 15 (by decide) 77 rfl
          have q82:ρ 82=(undef:Value):=hS 20 (by decide) 82 rfl
          exact o_q (r_pickT q77 hc245 rfl) ⟨Fr.refl _ _,rfl⟩
         ·intro ρ w246o F246o hS hρ
          have q83:ρ 83=.bool true:=hS 21 (by decide) 83 rfl
          exact o_q (r_mov q83) ⟨Fr.refl _ _,rfl⟩
         ·intro ρ w246o F246o hS hρ
          have q12:ρ 12=.pointer (some ⟨b92,0,none⟩):=hρ 12 (by kernel_rfl)
          have q84:ρ 84=.bool true:=hS 22 (by decide) 84 rfl
          exact o_no (want_f (t:=84) rfl q84 rfl) rfl (eo_nil ⟨rfl,rfl,undef,rfl,Fr.refl _ _,rfl⟩)
         ·intro ρ w246o F246o hS hρ
          have q84:ρ 84=.bool true:=hS 22 (by decide) 84 rfl
          have q85:ρ 85=(undef:Value):=hS 23 (by decide) 85 rfl
          exact o_no (want_f (t:=84) rfl q84 rfl) rfl (eo_nil ⟨rfl,rfl,undef,rfl,Fr.refl _ _,rfl⟩)
         ·intro ρ w246o F246o hS hρ
          have q84:ρ 84=.bool true:=hS 22 (by decide) 84 rfl
          have q86:ρ 86=(undef:Value):=hS 24 (by decide) 86 rfl
          exact o_no (want_f (t:=84) rfl q84 rfl) rfl (eo_nil ⟨rfl,rfl,undef,rfl,Fr.refl _ _,rfl⟩)
         ·intro ρ w246o F246o hS hρ
          have q84:ρ 84=.bool true:=hS 22 (by decide) 84 rfl
          have q87:ρ 87=(undef:Value):=hS 25 (by decide) 87 rfl
          exact o_no (want_f (t:=84) rfl q84 rfl) rfl (eo_nil ⟨rfl,rfl,undef,rfl,Fr.refl _ _,rfl⟩)
         ·intro ρ w246o F246o hS hρ
          have q84:ρ 84=.bool true:=hS 22 (by decide) 84 rfl
          have q88:ρ 88=(undef:Value):=hS 26 (by decide) 88 rfl
          exact o_q (r_pickT q84 rfl rfl) ⟨Fr.refl _ _,rfl⟩
         ·intro ρ w246o F246o hS hρ
          have q89:ρ 89=.bool true:=hS 27 (by decide) 89 rfl
          exact o_q (r_mov q89) ⟨Fr.refl _ _,rfl⟩
         ·intro ρ w246o F246o hS hρ
          have q12:ρ 12=.pointer (some ⟨b92,0,none⟩):=hρ 12 (by kernel_rfl)
          have q90:ρ 90=.bool true:=hS 28 (by decide) 90 rfl
          exact o_no (want_f (t:=90) rfl q90 rfl) rfl (eo_nil ⟨rfl,rfl,undef,rfl,Fr.refl _ _,rfl⟩)
         ·intro ρ w246o F246o hS hρ
          have q90:ρ 90=.bool true:=hS 28 (by decide) 90 rfl
          have q91:ρ 91=(undef:Value):=hS 29 (by decide) 91 rfl
          exact o_no (want_f (t:=90) rfl q90 rfl) rfl (eo_nil ⟨rfl,rfl,undef,rfl,Fr.refl _ _,rfl⟩)
         ·intro ρ w246o F246o hS hρ
          have q90:ρ 90=.bool true:=hS 28 (by decide) 90 rfl
          have q92:ρ 92=(undef:Value):=hS 30 (by decide) 92 rfl
          exact o_no (want_f (t:=90) rfl q90 rfl) rfl (eo_nil ⟨rfl,rfl,undef,rfl,Fr.refl _ _,rfl⟩)
         ·intro ρ w246o F246o hS hρ
          have q90:ρ 90=.bool true:=hS 28 (by decide) 90 rfl
          have q93:ρ 93=(undef:Value):=hS 31 (by decide) 93 rfl
          exact o_no (want_f (t:=90) rfl q90 rfl) rfl (eo_nil ⟨rfl,rfl,undef,rfl,Fr.refl _ _,rfl⟩)
         ·intro ρ w246o F246o hS hρ
          have q90:ρ 90=.bool true:=hS 28 (by decide) 90 rfl
          have q94:ρ 94=(undef:Value):=hS 32 (by decide) 94 rfl
          exact o_no (want_f (t:=90) rfl q90 rfl) rfl (eo_nil ⟨rfl,rfl,undef,rfl,Fr.refl _ _,rfl⟩)
         ·intro ρ w246o F246o hS hρ
          have q10:ρ 10=.pointer (some ⟨b54,0,none⟩):=hρ 10 (by kernel_rfl)
          have q90:ρ 90=.bool true:=hS 28 (by decide) 90 rfl
          exact o_no (want_f (t:=90) rfl q90 rfl) rfl (eo_nil ⟨rfl,rfl,undef,rfl,Fr.refl _ _,rfl⟩)
         ·intro ρ w246o F246o hS hρ
          have q90:ρ 90=.bool true:=hS 28 (by decide) 90 rfl
          have q96:ρ 96=(undef:Value):=hS 34 (by decide) 96 rfl
          exact o_no (want_f (t:=90) rfl q90 rfl) rfl (eo_nil ⟨rfl,rfl,undef,rfl,Fr.refl _ _,rfl⟩)
         ·intro ρ w246o F246o hS hρ
          have q11:ρ 11=.int .i64 s70.1:=hρ 11 (by kernel_rfl)
          have q90:ρ 90=.bool true:=hS 28 (by decide) 90 rfl
          exact o_no (want_f (t:=90) rfl q90 rfl) rfl (eo_nil ⟨rfl,rfl,undef,rfl,Fr.refl _ _,rfl⟩)
         ·intro ρ w246o F246o hS hρ
          have q90:ρ 90=.bool true:=hS 28 (by decide) 90 rfl
          have q97:ρ 97=(undef:Value):=hS 35 (by decide) 97 rfl
          have q98:ρ 98=(undef:Value):=hS 36 (by decide) 98 rfl
          exact o_no (want_f (t:=90) rfl q90 rfl) rfl (eo_nil ⟨rfl,rfl,undef,rfl,Fr.refl _ _,rfl⟩)
         ·intro ρ w246o F246o hS hρ
          have q90:ρ 90=.bool true:=hS 28 (by decide) 90 rfl
          have q99:ρ 99=(undef:Value):=hS 37 (by decide) 99 rfl
          exact o_no (want_f (t:=90) rfl q90 rfl) rfl (eo_nil ⟨rfl,rfl,undef,rfl,Fr.refl _ _,rfl⟩)
         ·intro ρ w246o F246o hS hρ
          have q90:ρ 90=.bool true:=hS 28 (by decide) 90 rfl
          have q100:ρ 100=(undef:Value):=hS 38 (by decide) 100 rfl
          exact o_no (want_f (t:=90) rfl q90 rfl) rfl (eo_nil ⟨rfl,rfl,undef,rfl,Fr.refl _ _,rfl⟩)
         ·intro ρ w246o F246o hS hρ
          have q90:ρ 90=.bool true:=hS 28 (by decide) 90 rfl
          have q95:ρ 95=(undef:Value):=hS 33 (by decide) 95 rfl
          have q101:ρ 101=(undef:Value):=hS 39 (by decide) 101 rfl
          exact o_no (want_f (t:=90) rfl q90 rfl) rfl (eo_nil ⟨rfl,rfl,undef,rfl,Fr.refl _ _,rfl⟩)
         ·intro ρ w246o F246o hS hρ
          have q90:ρ 90=.bool true:=hS 28 (by decide) 90 rfl
          have q102:ρ 102=(undef:Value):=hS 40 (by decide) 102 rfl
          exact o_q (r_pickT q90 rfl rfl) ⟨Fr.refl _ _,rfl⟩
         ·intro ρ w246o F246o hS hρ
          have q103:ρ 103=.bool true:=hS 41 (by decide) 103 rfl
          exact o_q (r_mov q103) ⟨Fr.refl _ _,rfl⟩
         ·intro ρ w246o F246o hS hρ
          have q12:ρ 12=.pointer (some ⟨b92,0,none⟩):=hρ 12 (by kernel_rfl)
          have q104:ρ 104=.bool true:=hS 42 (by decide) 104 rfl
          exact o_no (want_f (t:=104) rfl q104 rfl) rfl (eo_nil ⟨rfl,rfl,undef,rfl,Fr.refl _ _,rfl⟩)
         ·intro ρ w246o F246o hS hρ
          have q104:ρ 104=.bool true:=hS 42 (by decide) 104 rfl
          have q105:ρ 105=(undef:Value):=hS 43 (by decide) 105 rfl
          exact o_no (want_f (t:=104) rfl q104 rfl) rfl (eo_nil ⟨rfl,rfl,undef,rfl,Fr.refl _ _,rfl⟩)
         ·intro ρ w246o F246o hS hρ
          have q104:ρ 104=.bool true:=hS 42 (by decide) 104 rfl
          have q106:ρ 106=(undef:Value):=hS 44 (by decide) 106 rfl
          exact o_no (want_f (t:=104) rfl q104 rfl) rfl (eo_nil ⟨rfl,rfl,undef,rfl,Fr.refl _ _,rfl⟩)
         ·intro ρ w246o F246o hS hρ
          have q104:ρ 104=.bool true:=hS 42 (by decide) 104 rfl
          have q107:ρ 107=(undef:Value):=hS 45 (by decide) 107 rfl
          exact o_no (want_f (t:=104) rfl q104 rfl) rfl (eo_nil ⟨rfl,rfl,undef,rfl,Fr.refl _ _,rfl⟩)
         ·intro ρ w246o F246o hS hρ
          have q104:ρ 104=.bool true:=hS 42 (by decide) 104 rfl
          have q108:ρ 108=(undef:Value):=hS 46 (by decide) 108 rfl
          exact o_no (want_f (t:=104) rfl q104 rfl) rfl (eo_nil ⟨rfl,rfl,undef,rfl,Fr.refl _ _,rfl⟩)
         ·intro ρ w246o F246o hS hρ
          have q104:ρ 104=.bool true:=hS 42 (by decide) 104 rfl
          have q109:ρ 109=(undef:Value):=hS 47 (by decide) 109 rfl
          exact o_no (want_f (t:=104) rfl q104 rfl) rfl (eo_nil ⟨rfl,rfl,undef,rfl,Fr.refl _ _,rfl⟩)
         ·intro ρ w246o F246o hS hρ
          have q10:ρ 10=.pointer (some ⟨b54,0,none⟩):=hρ 10 (by kernel_rfl)
          have q104:ρ 104=.bool true:=hS 42 (by decide) 104 rfl
          exact o_no (want_f (t:=104) rfl q104 rfl) rfl (eo_nil ⟨rfl,rfl,undef,rfl,Fr.refl _ _,rfl⟩)
         ·intro ρ w246o F246o hS hρ
          have q104:ρ 104=.bool true:=hS 42 (by decide) 104 rfl
          have q111:ρ 111=(undef:Value):=hS 49 (by decide) 111 rfl
          exact o_no (want_f (t:=104) rfl q104 rfl) rfl (eo_nil ⟨rfl,rfl,undef,rfl,Fr.refl _ _,rfl⟩)
         ·intro ρ w246o F246o hS hρ
          have q11:ρ 11=.int .i64 s70.1:=hρ 11 (by kernel_rfl)
          have q104:ρ 104=.bool true:=hS 42 (by decide) 104 rfl
          exact o_no (want_f (t:=104) rfl q104 rfl) rfl (eo_nil ⟨rfl,rfl,undef,rfl,Fr.refl _ _,rfl⟩)
         ·intro ρ w246o F246o hS hρ
          have q104:ρ 104=.bool true:=hS 42 (by decide) 104 rfl
          have q112:ρ 112=(undef:Value):=hS 50 (by decide) 112 rfl
          have q113:ρ 113=(undef:Value):=hS 51 (by decide) 113 rfl
          exact o_no (want_f (t:=104) rfl q104 rfl) rfl (eo_nil ⟨rfl,rfl,undef,rfl,Fr.refl _ _,rfl⟩)
         ·intro ρ w246o F246o hS hρ
          have q104:ρ 104=.bool true:=hS 42 (by decide) 104 rfl
          have q114:ρ 114=(undef:Value):=hS 52 (by decide) 114 rfl
          exact o_no (want_f (t:=104) rfl q104 rfl) rfl (eo_nil ⟨rfl,rfl,undef,rfl,Fr.refl _ _,rfl⟩)
         ·intro ρ w246o F246o hS hρ
          have q104:ρ 104=.bool true:=hS 42 (by decide) 104 rfl
          have q115:ρ 115=(undef:Value):=hS 53 (by decide) 115 rfl
          exact o_no (want_f (t:=104) rfl q104 rfl) rfl (eo_nil ⟨rfl,rfl,undef,rfl,Fr.refl _ _,rfl⟩)
         ·intro ρ w246o F246o hS hρ
          have q104:ρ 104=.bool true:=hS 42 (by decide) 104 rfl
          have q110:ρ 110=(undef:Value):=hS 48 (by decide) 110 rfl
          have q116:ρ 116=(undef:Value):=hS 54 (by decide) 116 rfl
          exact o_no (want_f (t:=104) rfl q104 rfl) rfl (eo_nil ⟨rfl,rfl,undef,rfl,Fr.refl _ _,rfl⟩)
         ·intro ρ w246o F246o hS hρ
          have q104:ρ 104=.bool true:=hS 42 (by decide) 104 rfl
          have q117:ρ 117=(undef:Value):=hS 55 (by decide) 117 rfl
          exact o_q (r_pickT q104 rfl rfl) ⟨Fr.refl _ _,rfl⟩
        ·intro ρ w246 F246 hS hρ
         have q65:ρ 65=.bool x120.2:=hS 3 65 rfl
         have q66:ρ 66=.bool (!x120.2):=hS 4 66 rfl
         have q69:ρ 69=.pointer (some ⟨b92,2,none⟩):=hS 7 69 rfl
         have q70:ρ 70=.int .i64 x75.1.b:=hS 8 70 rfl
         have q71:ρ 71=.pointer (some ⟨b54,1,none⟩):=hS 9 71 rfl
         have q72:ρ 72=.int .i64 x42.first:=hS 10 72 rfl
         have q73:ρ 73=.int .i64 s70.1:=hS 11 73 rfl
         have q74:ρ 74=.int .i64 (IntKind.i64.wrap (x42.first + s70.1)):=hS 12 74 rfl
         have q75:ρ 75=.bool (x75.1.b != (IntKind.i64.wrap (x42.first + s70.1))):=hS 13 75 rfl
         have q118:ρ 118=.bool true:=hS 56 118 rfl
         obtain ⟨ρ',rfl⟩:∃ ρ',ρ=envs (ovr [62,63,64,65,66,67,68,69,70,71,72,73,74,75,76,77,78,79,80,81,82,83,84,85,86,87,88,89,90,91,92,93,94,95,96,97,98,99,100,101,102,103,104,105,106,107,108,109,110,111,112,113,114,115,116,117,118] ρ' _) [(65,.bool x120.2),(66,.bool (!x120.2)),(69,.pointer (some ⟨b92,2,none⟩)),(70,.int .i64 x75.1.b),(71,.pointer (some ⟨b54,1,none⟩)),(72,.int .i64 x42.first),(73,.int .i64 s70.1),(74,.int .i64 (IntKind.i64.wrap (x42.first + s70.1))),(75,.bool (x75.1.b != (IntKind.i64.wrap (x42.first + s70.1)))),(118,.bool true)]:=⟨ρ,ovr_self hρ ⟨q65,q66,q69,q70,q71,q72,q73,q74,q75,q118,trivial⟩⟩
         have E271:=E162.trans F246
         refine sq_n ?_
         refine ec_condT rfl rfl ?_
         refine ec_seq ?_
         refine ec_region ?_
         refine o_w (v:=.bool false) (r_asg rfl) ?_
         refine eo_nil_sq ?_
         refine ec_ret ?_
         refine sq_ret ?_
         refine blk_ret ?_
         refine sq_ret ?_
         subst h
         exact lqR_r (end1 rfl ⟨_,rfl,E271,rfl⟩)
       ·replace h:=h.2 hc245
        rcases Bool.eq_false_or_eq_true (x75.1.a != x42.epoch) with hc294 | hc294
        ·replace h:=h.1 hc294
         refine ec_any0 (by kernel_rfl) [[],[0],[0,1],[0,1,2],[0,1,2,3],[0,1,2,3,4],[0,1,2,3,4,5],[0,1,2,3,4,5,6],[0,1,2,3,4,5,6,7],[0,1,2,3,4,5,6],[0,1,2,3,4,5,6,9],[0,1,2,3,4,5,6],[0,1,2,3,4,5,6,9,10,11],[0,1,2,3,4,5,6,7,8,9,10,11,12],[0,1,2,3,4,5,6,7,8,9,10,11,12,13],[0,1,2,3,4,5,6,7,8,9,10,11,12,13,14],[0,1,2,3,4,5,6,7,8,9,10,11,12,13,14,15],[0,1,2,3,4,5,6,7,8,9,10,11,12,13,14,15,16],[0,1,2,3,4,5,6,7,8,9,10,11,12,13,14,15],[0,1,2,3,4,5,6,7,8,9,10,11,12,13,14,15,18],[0,1,2,3,4,5,6,7,8,9,10,11,12,13,14,15,16,17,18,19],[0,1,2,3,4,5,6,7,8,9,10,11,12,13,14,15,16,17,18,19,20],[0,1,2,3,4,5,6,7,8,9,10,11,12,13,14,15,16,17,18,19,20,21],[0,1,2,3,4,5,6,7,8,9,10,11,12,13,14,15,16,17,18,19,20,21,22],[0,1,2,3,4,5,6,7,8,9,10,11,12,13,14,15,16,17,18,19,20,21,22,23],[0,1,2,3,4,5,6,7,8,9,10,11,12,13,14,15,16,17,18,19,20,21,22,23,24],[0,1,2,3,4,5,6,7,8,9,10,11,12,13,14,15,16,17,18,19,20,21,22,23,24,25],[0,1,2,3,4,5,6,7,8,9,10,11,12,13,14,15,16,17,18,19,20,21,22,23,24,25,26],[0,1,2,3,4,5,6,7,8,9,10,11,12,13,14,15,16,17,18,19,20,21,22,23,24,25,26,27],[0,1,2,3,4,5,6,7,8,9,10,11,12,13,14,15,16,17,18,19,20,21,22,23,24,25,26,27,28],[0,1,2,3,4,5,6,7,8,9,10,11,12,13,14,15,16,17,18,19,20,21,22,23,24,25,26,27,28,29],[0,1,2,3,4,5,6,7,8,9,10,11,12,13,14,15,16,17,18,19,20,21,22,23,24,25,26,27,28,29,30],[0,1,2,3,4,5,6,7,8,9,10,11,12,13,14,15,16,17,18,19,20,21,22,23,24,25,26,27,28,29,30,31],[0,1,2,3,4,5,6,7,8,9,10,11,12,13,14,15,16,17,18,19,20,21,22,23,24,25,26,27,28,29,30,31,32],[0,1,2,3,4,5,6,7,8,9,10,11,12,13,14,15,16,17,18,19,20,21,22,23,24,25,26,27,28],[0,1,2,3,4,5,6,7,8,9,10,11,12,13,14,15,16,17,18,19,20,21,22,23,24,25,26,27,28,34],[0,1,2,3,4,5,6,7,8,9,10,11,12,13,14,15,16,17,18,19,20,21,22,23,24,25,26,27,28],[0,1,2,3,4,5,6,7,8,9,10,11,12,13,14,15,16,17,18,19,20,21,22,23,24,25,26,27,28,34,35,36],[0,1,2,3,4,5,6,7,8,9,10,11,12,13,14,15,16,17,18,19,20,21,22,23,24,25,26,27,28,34,35,36,37],[0,1,2,3,4,5,6,7,8,9,10,11,12,13,14,15,16,17,18,19,20,21,22,23,24,25,26,27,28,34,35,36,37,38],[0,1,2,3,4,5,6,7,8,9,10,11,12,13,14,15,16,17,18,19,20,21,22,23,24,25,26,27,28,29,30,31,32,33,34,35,36,37,38,39],[0,1,2,3,4,5,6,7,8,9,10,11,12,13,14,15,16,17,18,19,20,21,22,23,24,25,26,27,28,29,30,31,32,33,34,35,36,37,38,39,40],[0,1,2,3,4,5,6,7,8,9,10,11,12,13,14,15,16,17,18,19,20,21,22,23,24,25,26,27,28,29,30,31,32,33,34,35,36,37,38,39,40,41],[0,1,2,3,4,5,6,7,8,9,10,11,12,13,14,15,16,17,18,19,20,21,22,23,24,25,26,27,28,29,30,31,32,33,34,35,36,37,38,39,40,41,42],[0,1,2,3,4,5,6,7,8,9,10,11,12,13,14,15,16,17,18,19,20,21,22,23,24,25,26,27,28,29,30,31,32,33,34,35,36,37,38,39,40,41,42,43],[0,1,2,3,4,5,6,7,8,9,10,11,12,13,14,15,16,17,18,19,20,21,22,23,24,25,26,27,28,29,30,31,32,33,34,35,36,37,38,39,40,41,42,43,44],[0,1,2,3,4,5,6,7,8,9,10,11,12,13,14,15,16,17,18,19,20,21,22,23,24,25,26,27,28,29,30,31,32,33,34,35,36,37,38,39,40,41,42,43,44,45],[0,1,2,3,4,5,6,7,8,9,10,11,12,13,14,15,16,17,18,19,20,21,22,23,24,25,26,27,28,29,30,31,32,33,34,35,36,37,38,39,40,41,42,43,44,45,46],[0,1,2,3,4,5,6,7,8,9,10,11,12,13,14,15,16,17,18,19,20,21,22,23,24,25,26,27,28,29,30,31,32,33,34,35,36,37,38,39,40,41,42,43,44,45,46,47],[0,1,2,3,4,5,6,7,8,9,10,11,12,13,14,15,16,17,18,19,20,21,22,23,24,25,26,27,28,29,30,31,32,33,34,35,36,37,38,39,40,41,42],[0,1,2,3,4,5,6,7,8,9,10,11,12,13,14,15,16,17,18,19,20,21,22,23,24,25,26,27,28,29,30,31,32,33,34,35,36,37,38,39,40,41,42,49],[0,1,2,3,4,5,6,7,8,9,10,11,12,13,14,15,16,17,18,19,20,21,22,23,24,25,26,27,28,29,30,31,32,33,34,35,36,37,38,39,40,41,42],[0,1,2,3,4,5,6,7,8,9,10,11,12,13,14,15,16,17,18,19,20,21,22,23,24,25,26,27,28,29,30,31,32,33,34,35,36,37,38,39,40,41,42,49,50,51],[0,1,2,3,4,5,6,7,8,9,10,11,12,13,14,15,16,17,18,19,20,21,22,23,24,25,26,27,28,29,30,31,32,33,34,35,36,37,38,39,40,41,42,49,50,51,52],[0,1,2,3,4,5,6,7,8,9,10,11,12,13,14,15,16,17,18,19,20,21,22,23,24,25,26,27,28,29,30,31,32,33,34,35,36,37,38,39,40,41,42,49,50,51,52,53],[0,1,2,3,4,5,6,7,8,9,10,11,12,13,14,15,16,17,18,19,20,21,22,23,24,25,26,27,28,29,30,31,32,33,34,35,36,37,38,39,40,41,42,43,44,45,46,47,48,49,50,51,52,53,54],[0,1,2,3,4,5,6,7,8,9,10,11,12,13,14,15,16,17,18,19,20,21,22,23,24,25,26,27,28,29,30,31,32,33,34,35,36,37,38,39,40,41,42,43,44,45,46,47,48,49,50,51,52,53,54,55]] [62,63,64,65,66,67,68,69,70,71,72,73,74,75,76,77,78,79,80,81,82,83,84,85,86,87,88,89,90,91,92,93,94,95,96,97,98,99,100,101,102,103,104,105,106,107,108,109,110,111,112,113,114,115,116,117,118] [fun v _=>v=(.bool x75.2:Value),fun v _=>v=(.bool (!x75.2):Value),fun v _=>v=(.bool (!x75.2):Value),fun v _=>v=(.bool x120.2:Value),fun v _=>v=(.bool (!x120.2):Value),fun v _=>v=(.bool (!x120.2):Value),fun v _=>v=(.bool (!x120.2):Value),fun v _=>v=(.pointer (some ⟨b92,2,none⟩):Value),fun v _=>v=(.int .i64 x75.1.b:Value),fun v _=>v=(.pointer (some ⟨b54,1,none⟩):Value),fun v _=>v=(.int .i64 x42.first:Value),fun v _=>v=(.int .i64 s70.1:Value),fun v _=>v=(.int .i64 (IntKind.i64.wrap (x42.first + s70.1)):Value),fun v _=>v=(.bool (x75.1.b != (IntKind.i64.wrap (x42.first + s70.1))):Value),fun v _=>v=(.bool (x75.1.b != (IntKind.i64.wrap (x42.first + s70.1))):Value),fun v _=>v=(.bool (x75.1.b != (IntKind.i64.wrap (x42.first + s70.1))):Value),fun v _=>v=(.pointer (some ⟨b92,1,none⟩):Value),fun v _=>v=(.int .i64 x75.1.a:Value),fun v _=>v=(.pointer (some ⟨b54,0,none⟩):Value),fun v _=>v=(.int .i64 x42.epoch:Value),fun v _=>v=(.bool (x75.1.a != x42.epoch):Value),fun v _=>v=(.bool (x75.1.a != x42.epoch):Value),fun v _=>v=(.bool (x75.1.a != x42.epoch):Value),fun v _=>v=((undef:Value):Value),fun v _=>v=((undef:Value):Value),fun v _=>v=((undef:Value):Value),fun v _=>v=((undef:Value):Value),fun v _=>v=(.bool true:Value),fun v _=>v=(.bool true:Value),fun v _=>v=((undef:Value):Value),fun v _=>v=((undef:Value):Value),fun v _=>v=((undef:Value):Value),fun v _=>v=((undef:Value):Value),fun v _=>v=((undef:Value):Value),fun v _=>v=((undef:Value):Value),fun v _=>v=((undef:Value):Value),fun v _=>v=((undef:Value):Value),fun v _=>v=((undef:Value):Value),fun v _=>v=((undef:Value):Value),fun v _=>v=((undef:Value):Value),fun v _=>v=((undef:Value):Value),fun v _=>v=(.bool true:Value),fun v _=>v=(.bool true:Value),fun v _=>v=((undef:Value):Value),fun v _=>v=((undef:Value):Value),fun v _=>v=((undef:Value):Value),fun v _=>v=((undef:Value):Value),fun v _=>v=((undef:Value):Value),fun v _=>v=((undef:Value):Value),fun v _=>v=((undef:Value):Value),fun v _=>v=((undef:Value):Value),fun v _=>v=((undef:Value):Value),fun v _=>v=((undef:Value):Value),fun v _=>v=((undef:Value):Value),fun v _=>v=((undef:Value):Value),fun v _=>v=((undef:Value):Value),fun v _=>v=(.bool true:Value)] (by kernel_rfl) ⟨fun _ _ _ _ _ h=>h,fun _ _ _ _ _ h=>h,fun _ _ _ _ _ h=>h,fun _ _ _ _ _ h=>h,fun _ _ _ _ _ h=>h,fun _ _ _ _ _ h=>h,fun _ _ _ _ _ h=>h,fun _ _ _ _ _ h=>h,fun _ _ _ _ _ h=>h,fun _ _ _ _ _ h=>h,fun _ _ _ _ _ h=>h,fun _ _ _ _ _ h=>h,fun _ _ _ _ _ h=>h,fun _ _ _ _ _ h=>h,fun _ _ _ _ _ h=>h,fun _ _ _ _ _ h=>h,fun _ _ _ _ _ h=>h,fun _ _ _ _ _ h=>h,fun _ _ _ _ _ h=>h,fun _ _ _ _ _ h=>h,fun _ _ _ _ _ h=>h,fun _ _ _ _ _ h=>h,fun _ _ _ _ _ h=>h,fun _ _ _ _ _ h=>h,fun _ _ _ _ _ h=>h,fun _ _ _ _ _ h=>h,fun _ _ _ _ _ h=>h,fun _ _ _ _ _ h=>h,fun _ _ _ _ _ h=>h,fun _ _ _ _ _ h=>h,fun _ _ _ _ _ h=>h,fun _ _ _ _ _ h=>h,fun _ _ _ _ _ h=>h,fun _ _ _ _ _ h=>h,fun _ _ _ _ _ h=>h,fun _ _ _ _ _ h=>h,fun _ _ _ _ _ h=>h,fun _ _ _ _ _ h=>h,fun _ _ _ _ _ h=>h,fun _ _ _ _ _ h=>h,fun _ _ _ _ _ h=>h,fun _ _ _ _ _ h=>h,fun _ _ _ _ _ h=>h,fun _ _ _ _ _ h=>h,fun _ _ _ _ _ h=>h,fun _ _ _ _ _ h=>h,fun _ _ _ _ _ h=>h,fun _ _ _ _ _ h=>h,fun _ _ _ _ _ h=>h,fun _ _ _ _ _ h=>h,fun _ _ _ _ _ h=>h,fun _ _ _ _ _ h=>h,fun _ _ _ _ _ h=>h,fun _ _ _ _ _ h=>h,fun _ _ _ _ _ h=>h,fun _ _ _ _ _ h=>h,fun _ _ _ _ _ h=>h,trivial⟩ ?_ ?_
         ·refine ⟨?_,?_,?_,?_,?_,?_,?_,?_,?_,?_,?_,?_,?_,?_,?_,?_,?_,?_,?_,?_,?_,?_,?_,?_,?_,?_,?_,?_,?_,?_,?_,?_,?_,?_,?_,?_,?_,?_,?_,?_,?_,?_,?_,?_,?_,?_,?_,?_,?_,?_,?_,?_,?_,?_,?_,?_,?_,trivial⟩
          ·intro ρ w295o F295o hS hρ
           have q13:ρ 13=.bool x75.2:=hρ 13 (by kernel_rfl)
           exact o_q (r_mov q13) ⟨Fr.refl _ _,rfl⟩
          ·intro ρ w295o F295o hS hρ
           have q62:ρ 62=.bool x75.2:=hS 0 (by decide) 62 rfl
           exact o_q (r_not q62) ⟨Fr.refl _ _,rfl⟩
          ·intro ρ w295o F295o hS hρ
           have q63:ρ 63=.bool (!x75.2):=hS 1 (by decide) 63 rfl
           exact o_q (r_mov q63) ⟨Fr.refl _ _,rfl⟩
          ·intro ρ w295o F295o hS hρ
           have q15:ρ 15=.bool x120.2:=hρ 15 (by kernel_rfl)
           have q64:ρ 64=.bool (!x75.2):=hS 2 (by decide) 64 rfl
           exact o_v (r_mov q15) (want_t (t:=64) rfl q64 hc195) rfl rfl (eo_nil ⟨rfl,rfl,_,rfl,Fr.refl _ _,rfl⟩)
          ·intro ρ w295o F295o hS hρ
           have q64:ρ 64=.bool (!x75.2):=hS 2 (by decide) 64 rfl
           have q65:ρ 65=.bool x120.2:=hS 3 (by decide) 65 rfl
           exact o_v (r_not q65) (want_t (t:=64) rfl q64 hc195) rfl rfl (eo_nil ⟨rfl,rfl,_,rfl,Fr.refl _ _,rfl⟩)
          ·intro ρ w295o F295o hS hρ
           have q64:ρ 64=.bool (!x75.2):=hS 2 (by decide) 64 rfl
           have q66:ρ 66=.bool (!x120.2):=hS 4 (by decide) 66 rfl
           exact o_q (r_pickF q64 hc195 q66) ⟨Fr.refl _ _,rfl⟩
          ·intro ρ w295o F295o hS hρ
           have q67:ρ 67=.bool (!x120.2):=hS 5 (by decide) 67 rfl
           exact o_q (r_mov q67) ⟨Fr.refl _ _,rfl⟩
          ·intro ρ w295o F295o hS hρ
           have q12:ρ 12=.pointer (some ⟨b92,0,none⟩):=hρ 12 (by kernel_rfl)
           have q68:ρ 68=.bool (!x120.2):=hS 6 (by decide) 68 rfl
           exact o_v (r_fa fld_frame_Frame_2 rfl q12) (want_t (t:=68) rfl q68 hc220) rfl rfl (eo_nil ⟨rfl,rfl,_,rfl,Fr.refl _ _,rfl⟩)
          ·intro ρ w295o F295o hS hρ
           have q68:ρ 68=.bool (!x120.2):=hS 6 (by decide) 68 rfl
           have q69:ρ 69=.pointer (some ⟨b92,2,none⟩):=hS 7 (by decide) 69 rfl
           exact o_v (r_ld one_int q69 ((B172.ex F295o).cell rfl)) (want_t (t:=68) rfl q68 hc220) rfl rfl (eo_nil ⟨rfl,rfl,_,rfl,Fr.refl _ _,rfl⟩)
          ·intro ρ w295o F295o hS hρ
           have q10:ρ 10=.pointer (some ⟨b54,0,none⟩):=hρ 10 (by kernel_rfl)
           have q68:ρ 68=.bool (!x120.2):=hS 6 (by decide) 68 rfl
           exact o_v (r_fa fld_buffer_Buffer_1 rfl q10) (want_t (t:=68) rfl q68 hc220) rfl rfl (eo_nil ⟨rfl,rfl,_,rfl,Fr.refl _ _,rfl⟩)
          ·intro ρ w295o F295o hS hρ
           have q68:ρ 68=.bool (!x120.2):=hS 6 (by decide) 68 rfl
           have q71:ρ 71=.pointer (some ⟨b54,1,none⟩):=hS 9 (by decide) 71 rfl
           exact o_v (r_ld one_int q71 ((B171.ex F295o).cell rfl)) (want_t (t:=68) rfl q68 hc220) rfl rfl (eo_nil ⟨rfl,rfl,_,rfl,Fr.refl _ _,rfl⟩)
          ·intro ρ w295o F295o hS hρ
           have q11:ρ 11=.int .i64 s70.1:=hρ 11 (by kernel_rfl)
           have q68:ρ 68=.bool (!x120.2):=hS 6 (by decide) 68 rfl
           exact o_v (r_mov q11) (want_t (t:=68) rfl q68 hc220) rfl rfl (eo_nil ⟨rfl,rfl,_,rfl,Fr.refl _ _,rfl⟩)
          ·intro ρ w295o F295o hS hρ
           have q68:ρ 68=.bool (!x120.2):=hS 6 (by decide) 68 rfl
           have q72:ρ 72=.int .i64 x42.first:=hS 10 (by decide) 72 rfl
           have q73:ρ 73=.int .i64 s70.1:=hS 11 (by decide) 73 rfl
           exact o_v (r_int q72 q73 rfl) (want_t (t:=68) rfl q68 hc220) rfl rfl (eo_nil ⟨rfl,rfl,_,rfl,Fr.refl _ _,rfl⟩)
          ·intro ρ w295o F295o hS hρ
           have q68:ρ 68=.bool (!x120.2):=hS 6 (by decide) 68 rfl
           have q70:ρ 70=.int .i64 x75.1.b:=hS 8 (by decide) 70 rfl
           have q74:ρ 74=.int .i64 (IntKind.i64.wrap (x42.first + s70.1)):=hS 12 (by decide) 74 rfl
           exact o_v (r_int q70 q74 rfl) (want_t (t:=68) rfl q68 hc220) rfl rfl (eo_nil ⟨rfl,rfl,_,rfl,Fr.refl _ _,rfl⟩)
          ·intro ρ w295o F295o hS hρ
           have q68:ρ 68=.bool (!x120.2):=hS 6 (by decide) 68 rfl
           have q75:ρ 75=.bool (x75.1.b != (IntKind.i64.wrap (x42.first + s70.1))):=hS 13 (by decide) 75 rfl
           exact o_q (r_pickF q68 hc220 q75) ⟨Fr.refl _ _,rfl⟩
          ·intro ρ w295o F295o hS hρ
           have q76:ρ 76=.bool (x75.1.b != (IntKind.i64.wrap (x42.first + s70.1))):=hS 14 (by decide) 76 rfl
           exact o_q (r_mov q76) ⟨Fr.refl _ _,rfl⟩
          ·intro ρ w295o F295o hS hρ
           have q12:ρ 12=.pointer (some ⟨b92,0,none⟩):=hρ 12 (by kernel_rfl)
           have q77:ρ 77=.bool (x75.1.b != (IntKind.i64.wrap (x42.first + s70.1))):=hS 15 (by decide) 77 rfl
           exact o_v (r_fa fld_frame_Frame_1 rfl q12) (want_t (t:=77) rfl q77 hc245) rfl rfl (eo_nil ⟨rfl,rfl,_,rfl,Fr.refl _ _,rfl⟩)
          ·intro ρ w295o F295o hS hρ
           have q77:ρ 77=.bool (x75.1.b != (IntKind.i64.wrap (x42.first + s70.1))):=hS 15 (by decide) 77 rfl
           have q78:ρ 78=.pointer (some ⟨b92,1,none⟩):=hS 16 (by decide) 78 rfl
           exact o_v (r_ld one_int q78 ((B172.ex F295o).cell rfl)) (want_t (t:=77) rfl q77 hc245) rfl rfl (eo_nil ⟨rfl,rfl,_,rfl,Fr.refl _ _,rfl⟩)
          ·intro ρ w295o F295o hS hρ
           have q10:ρ 10=.pointer (some ⟨b54,0,none⟩):=hρ 10 (by kernel_rfl)
           have q77:ρ 77=.bool (x75.1.b != (IntKind.i64.wrap (x42.first + s70.1))):=hS 15 (by decide) 77 rfl
           exact o_v (r_fa fld_buffer_Buffer_0 rfl q10) (want_t (t:=77) rfl q77 hc245) rfl rfl (eo_nil ⟨rfl,rfl,_,rfl,Fr.refl _ _,rfl⟩)
          ·intro ρ w295o F295o hS hρ
           have q77:ρ 77=.bool (x75.1.b != (IntKind.i64.wrap (x42.first + s70.1))):=hS 15 (by decide) 77 rfl
           have q80:ρ 80=.pointer (some ⟨b54,0,none⟩):=hS 18 (by decide) 80 rfl
           exact o_v (r_ld one_int q80 ((B171.ex F295o).cell rfl)) (want_t (t:=77) rfl q77 hc245) rfl rfl (eo_nil ⟨rfl,rfl,_,rfl,Fr.refl _ _,rfl⟩)
          ·intro ρ w295o F295o hS hρ
           have q77:ρ 77=.bool (x75.1.b != (IntKind.i64.wrap (x42.first + s70.1))):=hS 15 (by decide) 77 rfl
           have q79:ρ 79=.int .i64 x75.1.a:=hS 17 (by decide) 79 rfl
           have q81:ρ 81=.int .i64 x42.epoch:=hS 19 (by decide) 81 rfl
           exact o_v (r_int q79 q81 rfl) (want_t (t:=77) rfl q77 hc245) rfl rfl (eo_nil ⟨rfl,rfl,_,rfl,Fr.refl _ _,rfl⟩)
          ·intro ρ w295o F295o hS hρ
           have q77:ρ 77=.bool (x75.1.b != (IntKind.i64.wrap (x42.first + s70.1))):=hS 15 (by decide) 77 rfl
           have q82:ρ 82=.bool (x75.1.a != x42.epoch):=hS 20 (by decide) 82 rfl
           exact o_q (r_pickF q77 hc245 q82) ⟨Fr.refl _ _,rfl⟩
          ·intro ρ w295o F295o hS hρ
           have q83:ρ 83=.bool (x75.1.a != x42.epoch):=hS 21 (by decide) 83 rfl
           exact o_q (r_mov q83) ⟨Fr.refl _ _,rfl⟩
          ·intro ρ w295o F295o hS hρ
           have q12:ρ 12=.pointer (some ⟨b92,0,none⟩):=hρ 12 (by kernel_rfl)
           have q84:ρ 84=.bool (x75.1.a != x42.epoch):=hS 22 (by decide) 84 rfl
           exact o_no (want_f (t:=84) rfl q84 hc294) rfl (eo_nil ⟨rfl,rfl,undef,rfl,Fr.refl _ _,rfl⟩)
          ·intro ρ w295o F295o hS hρ
           have q84:ρ 84=.bool (x75.1.a != x42.epoch):=hS 22 (by decide) 84 rfl
           have q85:ρ 85=(undef:Value):=hS 23 (by decide) 85 rfl
           exact o_no (want_f (t:=84) rfl q84 hc294) rfl (eo_nil ⟨rfl,rfl,undef,rfl,Fr.refl _ _,rfl⟩)
          ·intro ρ w295o F295o hS hρ
           have q84:ρ 84=.bool (x75.1.a != x42.epoch):=hS 22 (by decide) 84 rfl
           have q86:ρ 86=(undef:Value):=hS 24 (by decide) 86 rfl
           exact o_no (want_f (t:=84) rfl q84 hc294) rfl (eo_nil ⟨rfl,rfl,undef,rfl,Fr.refl _ _,rfl⟩)
          ·intro ρ w295o F295o hS hρ
           have q84:ρ 84=.bool (x75.1.a != x42.epoch):=hS 22 (by decide) 84 rfl
           have q87:ρ 87=(undef:Value):=hS 25 (by decide) 87 rfl
           exact o_no (want_f (t:=84) rfl q84 hc294) rfl (eo_nil ⟨rfl,rfl,undef,rfl,Fr.refl _ _,rfl⟩)
          ·intro ρ w295o F295o hS hρ
           have q84:ρ 84=.bool (x75.1.a != x42.epoch):=hS 22 (by decide) 84 rfl
           have q88:ρ 88=(undef:Value):=hS 26 (by decide) 88 rfl
           exact o_q (r_pickT q84 hc294 rfl) ⟨Fr.refl _ _,rfl⟩
          ·intro ρ w295o F295o hS hρ
           have q89:ρ 89=.bool true:=hS 27 (by decide) 89 rfl
           exact o_q (r_mov q89) ⟨Fr.refl _ _,rfl⟩
          ·intro ρ w295o F295o hS hρ
           have q12:ρ 12=.pointer (some ⟨b92,0,none⟩):=hρ 12 (by kernel_rfl)
           have q90:ρ 90=.bool true:=hS 28 (by decide) 90 rfl
           exact o_no (want_f (t:=90) rfl q90 rfl) rfl (eo_nil ⟨rfl,rfl,undef,rfl,Fr.refl _ _,rfl⟩)
          ·intro ρ w295o F295o hS hρ
           have q90:ρ 90=.bool true:=hS 28 (by decide) 90 rfl
           have q91:ρ 91=(undef:Value):=hS 29 (by decide) 91 rfl
           exact o_no (want_f (t:=90) rfl q90 rfl) rfl (eo_nil ⟨rfl,rfl,undef,rfl,Fr.refl _ _,rfl⟩)
          ·intro ρ w295o F295o hS hρ
           have q90:ρ 90=.bool true:=hS 28 (by decide) 90 rfl
           have q92:ρ 92=(undef:Value):=hS 30 (by decide) 92 rfl
           exact o_no (want_f (t:=90) rfl q90 rfl) rfl (eo_nil ⟨rfl,rfl,undef,rfl,Fr.refl _ _,rfl⟩)
          ·intro ρ w295o F295o hS hρ
           have q90:ρ 90=.bool true:=hS 28 (by decide) 90 rfl
           have q93:ρ 93=(undef:Value):=hS 31 (by decide) 93 rfl
           exact o_no (want_f (t:=90) rfl q90 rfl) rfl (eo_nil ⟨rfl,rfl,undef,rfl,Fr.refl _ _,rfl⟩)
          ·intro ρ w295o F295o hS hρ
           have q90:ρ 90=.bool true:=hS 28 (by decide) 90 rfl
           have q94:ρ 94=(undef:Value):=hS 32 (by decide) 94 rfl
           exact o_no (want_f (t:=90) rfl q90 rfl) rfl (eo_nil ⟨rfl,rfl,undef,rfl,Fr.refl _ _,rfl⟩)
          ·intro ρ w295o F295o hS hρ
           have q10:ρ 10=.pointer (some ⟨b54,0,none⟩):=hρ 10 (by kernel_rfl)
           have q90:ρ 90=.bool true:=hS 28 (by decide) 90 rfl
           exact o_no (want_f (t:=90) rfl q90 rfl) rfl (eo_nil ⟨rfl,rfl,undef,rfl,Fr.refl _ _,rfl⟩)
          ·intro ρ w295o F295o hS hρ
           have q90:ρ 90=.bool true:=hS 28 (by decide) 90 rfl
           have q96:ρ 96=(undef:Value):=hS 34 (by decide) 96 rfl
           exact o_no (want_f (t:=90) rfl q90 rfl) rfl (eo_nil ⟨rfl,rfl,undef,rfl,Fr.refl _ _,rfl⟩)
          ·intro ρ w295o F295o hS hρ
           have q11:ρ 11=.int .i64 s70.1:=hρ 11 (by kernel_rfl)
           have q90:ρ 90=.bool true:=hS 28 (by decide) 90 rfl
           exact o_no (want_f (t:=90) rfl q90 rfl) rfl (eo_nil ⟨rfl,rfl,undef,rfl,Fr.refl _ _,rfl⟩)
          ·intro ρ w295o F295o hS hρ
           have q90:ρ 90=.bool true:=hS 28 (by decide) 90 rfl
           have q97:ρ 97=(undef:Value):=hS 35 (by decide) 97 rfl
           have q98:ρ 98=(undef:Value):=hS 36 (by decide) 98 rfl
           exact o_no (want_f (t:=90) rfl q90 rfl) rfl (eo_nil ⟨rfl,rfl,undef,rfl,Fr.refl _ _,rfl⟩)
          ·intro ρ w295o F295o hS hρ
           have q90:ρ 90=.bool true:=hS 28 (by decide) 90 rfl
           have q99:ρ 99=(undef:Value):=hS 37 (by decide) 99 rfl
           exact o_no (want_f (t:=90) rfl q90 rfl) rfl (eo_nil ⟨rfl,rfl,undef,rfl,Fr.refl _ _,rfl⟩)
          ·intro ρ w295o F295o hS hρ
           have q90:ρ 90=.bool true:=hS 28 (by decide) 90 rfl
           have q100:ρ 100=(undef:Value):=hS 38 (by decide) 100 rfl
           exact o_no (want_f (t:=90) rfl q90 rfl) rfl (eo_nil ⟨rfl,rfl,undef,rfl,Fr.refl _ _,rfl⟩)
          ·intro ρ w295o F295o hS hρ
           have q90:ρ 90=.bool true:=hS 28 (by decide) 90 rfl
           have q95:ρ 95=(undef:Value):=hS 33 (by decide) 95 rfl
           have q101:ρ 101=(undef:Value):=hS 39 (by decide) 101 rfl
           exact o_no (want_f (t:=90) rfl q90 rfl) rfl (eo_nil ⟨rfl,rfl,undef,rfl,Fr.refl _ _,rfl⟩)
          ·intro ρ w295o F295o hS hρ
           have q90:ρ 90=.bool true:=hS 28 (by decide) 90 rfl
           have q102:ρ 102=(undef:Value):=hS 40 (by decide) 102 rfl
           exact o_q (r_pickT q90 rfl rfl) ⟨Fr.refl _ _,rfl⟩
          ·intro ρ w295o F295o hS hρ
           have q103:ρ 103=.bool true:=hS 41 (by decide) 103 rfl
           exact o_q (r_mov q103) ⟨Fr.refl _ _,rfl⟩
          ·intro ρ w295o F295o hS hρ
           have q12:ρ 12=.pointer (some ⟨b92,0,none⟩):=hρ 12 (by kernel_rfl)
           have q104:ρ 104=.bool true:=hS 42 (by decide) 104 rfl
           exact o_no (want_f (t:=104) rfl q104 rfl) rfl (eo_nil ⟨rfl,rfl,undef,rfl,Fr.refl _ _,rfl⟩)
          ·intro ρ w295o F295o hS hρ
           have q104:ρ 104=.bool true:=hS 42 (by decide) 104 rfl
           have q105:ρ 105=(undef:Value):=hS 43 (by decide) 105 rfl
           exact o_no (want_f (t:=104) rfl q104 rfl) rfl (eo_nil ⟨rfl,rfl,undef,rfl,Fr.refl _ _,rfl⟩)
          ·intro ρ w295o F295o hS hρ
           have q104:ρ 104=.bool true:=hS 42 (by decide) 104 rfl
           have q106:ρ 106=(undef:Value):=hS 44 (by decide) 106 rfl
           exact o_no (want_f (t:=104) rfl q104 rfl) rfl (eo_nil ⟨rfl,rfl,undef,rfl,Fr.refl _ _,rfl⟩)
          ·intro ρ w295o F295o hS hρ
           have q104:ρ 104=.bool true:=hS 42 (by decide) 104 rfl
           have q107:ρ 107=(undef:Value):=hS 45 (by decide) 107 rfl
           exact o_no (want_f (t:=104) rfl q104 rfl) rfl (eo_nil ⟨rfl,rfl,undef,rfl,Fr.refl _ _,rfl⟩)
          ·intro ρ w295o F295o hS hρ
           have q104:ρ 104=.bool true:=hS 42 (by decide) 104 rfl
           have q108:ρ 108=(undef:Value):=hS 46 (by decide) 108 rfl
           exact o_no (want_f (t:=104) rfl q104 rfl) rfl (eo_nil ⟨rfl,rfl,undef,rfl,Fr.refl _ _,rfl⟩)
          ·intro ρ w295o F295o hS hρ
           have q104:ρ 104=.bool true:=hS 42 (by decide) 104 rfl
           have q109:ρ 109=(undef:Value):=hS 47 (by decide) 109 rfl
           exact o_no (want_f (t:=104) rfl q104 rfl) rfl (eo_nil ⟨rfl,rfl,undef,rfl,Fr.refl _ _,rfl⟩)
          ·intro ρ w295o F295o hS hρ
           have q10:ρ 10=.pointer (some ⟨b54,0,none⟩):=hρ 10 (by kernel_rfl)
           have q104:ρ 104=.bool true:=hS 42 (by decide) 104 rfl
           exact o_no (want_f (t:=104) rfl q104 rfl) rfl (eo_nil ⟨rfl,rfl,undef,rfl,Fr.refl _ _,rfl⟩)
          ·intro ρ w295o F295o hS hρ
           have q104:ρ 104=.bool true:=hS 42 (by decide) 104 rfl
           have q111:ρ 111=(undef:Value):=hS 49 (by decide) 111 rfl
           exact o_no (want_f (t:=104) rfl q104 rfl) rfl (eo_nil ⟨rfl,rfl,undef,rfl,Fr.refl _ _,rfl⟩)
          ·intro ρ w295o F295o hS hρ
           have q11:ρ 11=.int .i64 s70.1:=hρ 11 (by kernel_rfl)
           have q104:ρ 104=.bool true:=hS 42 (by decide) 104 rfl
           exact o_no (want_f (t:=104) rfl q104 rfl) rfl (eo_nil ⟨rfl,rfl,undef,rfl,Fr.refl _ _,rfl⟩)
          ·intro ρ w295o F295o hS hρ
           have q104:ρ 104=.bool true:=hS 42 (by decide) 104 rfl
           have q112:ρ 112=(undef:Value):=hS 50 (by decide) 112 rfl
           have q113:ρ 113=(undef:Value):=hS 51 (by decide) 113 rfl
           exact o_no (want_f (t:=104) rfl q104 rfl) rfl (eo_nil ⟨rfl,rfl,undef,rfl,Fr.refl _ _,rfl⟩)
          ·intro ρ w295o F295o hS hρ
           have q104:ρ 104=.bool true:=hS 42 (by decide) 104 rfl
           have q114:ρ 114=(undef:Value):=hS 52 (by decide) 114 rfl
           exact o_no (want_f (t:=104) rfl q104 rfl) rfl (eo_nil ⟨rfl,rfl,undef,rfl,Fr.refl _ _,rfl⟩)
          ·intro ρ w295o F295o hS hρ
           have q104:ρ 104=.bool true:=hS 42 (by decide) 104 rfl
           have q115:ρ 115=(undef:Value):=hS 53 (by decide) 115 rfl
           exact o_no (want_f (t:=104) rfl q104 rfl) rfl (eo_nil ⟨rfl,rfl,undef,rfl,Fr.refl _ _,rfl⟩)
          ·intro ρ w295o F295o hS hρ
           have q104:ρ 104=.bool true:=hS 42 (by decide) 104 rfl
           have q110:ρ 110=(undef:Value):=hS 48 (by decide) 110 rfl
           have q116:ρ 116=(undef:Value):=hS 54 (by decide) 116 rfl
           exact o_no (want_f (t:=104) rfl q104 rfl) rfl (eo_nil ⟨rfl,rfl,undef,rfl,Fr.refl _ _,rfl⟩)
          ·intro ρ w295o F295o hS hρ
           have q104:ρ 104=.bool true:=hS 42 (by decide) 104 rfl
           have q117:ρ 117=(undef:Value):=hS 55 (by decide) 117 rfl
           exact o_q (r_pickT q104 rfl rfl) ⟨Fr.refl _ _,rfl⟩
         ·intro ρ w295 F295 hS hρ
          have q65:ρ 65=.bool x120.2:=hS 3 65 rfl
          have q66:ρ 66=.bool (!x120.2):=hS 4 66 rfl
          have q69:ρ 69=.pointer (some ⟨b92,2,none⟩):=hS 7 69 rfl
          have q70:ρ 70=.int .i64 x75.1.b:=hS 8 70 rfl
          have q71:ρ 71=.pointer (some ⟨b54,1,none⟩):=hS 9 71 rfl
          have q72:ρ 72=.int .i64 x42.first:=hS 10 72 rfl
          have q73:ρ 73=.int .i64 s70.1:=hS 11 73 rfl
          have q74:ρ 74=.int .i64 (IntKind.i64.wrap (x42.first + s70.1)):=hS 12 74 rfl
          have q75:ρ 75=.bool (x75.1.b != (IntKind.i64.wrap (x42.first + s70.1))):=hS 13 75 rfl
          have q78:ρ 78=.pointer (some ⟨b92,1,none⟩):=hS 16 78 rfl
          have q79:ρ 79=.int .i64 x75.1.a:=hS 17 79 rfl
          have q80:ρ 80=.pointer (some ⟨b54,0,none⟩):=hS 18 80 rfl
          have q81:ρ 81=.int .i64 x42.epoch:=hS 19 81 rfl
          have q82:ρ 82=.bool (x75.1.a != x42.epoch):=hS 20 82 rfl
          have q118:ρ 118=.bool true:=hS 56 118 rfl
          obtain ⟨ρ',rfl⟩:∃ ρ',ρ=envs (ovr [62,63,64,65,66,67,68,69,70,71,72,73,74,75,76,77,78,79,80,81,82,83,84,85,86,87,88,89,90,91,92,93,94,95,96,97,98,99,100,101,102,103,104,105,106,107,108,109,110,111,112,113,114,115,116,117,118] ρ' _) [(65,.bool x120.2),(66,.bool (!x120.2)),(69,.pointer (some ⟨b92,2,none⟩)),(70,.int .i64 x75.1.b),(71,.pointer (some ⟨b54,1,none⟩)),(72,.int .i64 x42.first),(73,.int .i64 s70.1),(74,.int .i64 (IntKind.i64.wrap (x42.first + s70.1))),(75,.bool (x75.1.b != (IntKind.i64.wrap (x42.first + s70.1)))),(78,.pointer (some ⟨b92,1,none⟩)),(79,.int .i64 x75.1.a),(80,.pointer (some ⟨b54,0,none⟩)),(81,.int .i64 x42.epoch),(82,.bool (x75.1.a != x42.epoch)),(118,.bool true)]:=⟨ρ,ovr_self hρ ⟨q65,q66,q69,q70,q71,q72,q73,q74,q75,q78,q79,q80,q81,q82,q118,trivial⟩⟩
          have E344:=E162.trans F295
          refine sq_n ?_
          refine ec_condT rfl rfl ?_
          refine ec_seq ?_
          refine ec_region ?_
          refine o_w (v:=.bool false) (r_asg rfl) ?_
          refine eo_nil_sq ?_
          refine ec_ret ?_
          refine sq_ret ?_
          refine blk_ret ?_
          refine sq_ret ?_
          subst h
          exact lqR_r (end1 rfl ⟨_,rfl,E344,rfl⟩)
        ·replace h:=h.2 hc294
         rcases Bool.eq_false_or_eq_true ((x75.1.entries.length:Int) != (1:Int)) with hc367 | hc367
         ·replace h:=h.1 hc367
          refine ec_any0 (by kernel_rfl) [[],[0],[0,1],[0,1,2],[0,1,2,3],[0,1,2,3,4],[0,1,2,3,4,5],[0,1,2,3,4,5,6],[0,1,2,3,4,5,6,7],[0,1,2,3,4,5,6],[0,1,2,3,4,5,6,9],[0,1,2,3,4,5,6],[0,1,2,3,4,5,6,9,10,11],[0,1,2,3,4,5,6,7,8,9,10,11,12],[0,1,2,3,4,5,6,7,8,9,10,11,12,13],[0,1,2,3,4,5,6,7,8,9,10,11,12,13,14],[0,1,2,3,4,5,6,7,8,9,10,11,12,13,14,15],[0,1,2,3,4,5,6,7,8,9,10,11,12,13,14,15,16],[0,1,2,3,4,5,6,7,8,9,10,11,12,13,14,15],[0,1,2,3,4,5,6,7,8,9,10,11,12,13,14,15,18],[0,1,2,3,4,5,6,7,8,9,10,11,12,13,14,15,16,17,18,19],[0,1,2,3,4,5,6,7,8,9,10,11,12,13,14,15,16,17,18,19,20],[0,1,2,3,4,5,6,7,8,9,10,11,12,13,14,15,16,17,18,19,20,21],[0,1,2,3,4,5,6,7,8,9,10,11,12,13,14,15,16,17,18,19,20,21,22],[0,1,2,3,4,5,6,7,8,9,10,11,12,13,14,15,16,17,18,19,20,21,22,23],[0,1,2,3,4,5,6,7,8,9,10,11,12,13,14,15,16,17,18,19,20,21,22,23,24],[0,1,2,3,4,5,6,7,8,9,10,11,12,13,14,15,16,17,18,19,20,21,22,23,24,25],[0,1,2,3,4,5,6,7,8,9,10,11,12,13,14,15,16,17,18,19,20,21,22,23,24,25,26],[0,1,2,3,4,5,6,7,8,9,10,11,12,13,14,15,16,17,18,19,20,21,22,23,24,25,26,27],[0,1,2,3,4,5,6,7,8,9,10,11,12,13,14,15,16,17,18,19,20,21,22,23,24,25,26,27,28],[0,1,2,3,4,5,6,7,8,9,10,11,12,13,14,15,16,17,18,19,20,21,22,23,24,25,26,27,28,29],[0,1,2,3,4,5,6,7,8,9,10,11,12,13,14,15,16,17,18,19,20,21,22,23,24,25,26,27,28,29,30],[0,1,2,3,4,5,6,7,8,9,10,11,12,13,14,15,16,17,18,19,20,21,22,23,24,25,26,27,28,29,30,31],[0,1,2,3,4,5,6,7,8,9,10,11,12,13,14,15,16,17,18,19,20,21,22,23,24,25,26,27,28,29,30,31,32],[0,1,2,3,4,5,6,7,8,9,10,11,12,13,14,15,16,17,18,19,20,21,22,23,24,25,26,27,28],[0,1,2,3,4,5,6,7,8,9,10,11,12,13,14,15,16,17,18,19,20,21,22,23,24,25,26,27,28,34],[0,1,2,3,4,5,6,7,8,9,10,11,12,13,14,15,16,17,18,19,20,21,22,23,24,25,26,27,28],[0,1,2,3,4,5,6,7,8,9,10,11,12,13,14,15,16,17,18,19,20,21,22,23,24,25,26,27,28,34,35,36],[0,1,2,3,4,5,6,7,8,9,10,11,12,13,14,15,16,17,18,19,20,21,22,23,24,25,26,27,28,34,35,36,37],[0,1,2,3,4,5,6,7,8,9,10,11,12,13,14,15,16,17,18,19,20,21,22,23,24,25,26,27,28,34,35,36,37,38],[0,1,2,3,4,5,6,7,8,9,10,11,12,13,14,15,16,17,18,19,20,21,22,23,24,25,26,27,28,29,30,31,32,33,34,35,36,37,38,39],[0,1,2,3,4,5,6,7,8,9,10,11,12,13,14,15,16,17,18,19,20,21,22,23,24,25,26,27,28,29,30,31,32,33,34,35,36,37,38,39,40],[0,1,2,3,4,5,6,7,8,9,10,11,12,13,14,15,16,17,18,19,20,21,22,23,24,25,26,27,28,29,30,31,32,33,34,35,36,37,38,39,40,41],[0,1,2,3,4,5,6,7,8,9,10,11,12,13,14,15,16,17,18,19,20,21,22,23,24,25,26,27,28,29,30,31,32,33,34,35,36,37,38,39,40,41,42],[0,1,2,3,4,5,6,7,8,9,10,11,12,13,14,15,16,17,18,19,20,21,22,23,24,25,26,27,28,29,30,31,32,33,34,35,36,37,38,39,40,41,42,43],[0,1,2,3,4,5,6,7,8,9,10,11,12,13,14,15,16,17,18,19,20,21,22,23,24,25,26,27,28,29,30,31,32,33,34,35,36,37,38,39,40,41,42,43,44],[0,1,2,3,4,5,6,7,8,9,10,11,12,13,14,15,16,17,18,19,20,21,22,23,24,25,26,27,28,29,30,31,32,33,34,35,36,37,38,39,40,41,42,43,44,45],[0,1,2,3,4,5,6,7,8,9,10,11,12,13,14,15,16,17,18,19,20,21,22,23,24,25,26,27,28,29,30,31,32,33,34,35,36,37,38,39,40,41,42,43,44,45,46],[0,1,2,3,4,5,6,7,8,9,10,11,12,13,14,15,16,17,18,19,20,21,22,23,24,25,26,27,28,29,30,31,32,33,34,35,36,37,38,39,40,41,42,43,44,45,46,47],[0,1,2,3,4,5,6,7,8,9,10,11,12,13,14,15,16,17,18,19,20,21,22,23,24,25,26,27,28,29,30,31,32,33,34,35,36,37,38,39,40,41,42],[0,1,2,3,4,5,6,7,8,9,10,11,12,13,14,15,16,17,18,19,20,21,22,23,24,25,26,27,28,29,30,31,32,33,34,35,36,37,38,39,40,41,42,49],[0,1,2,3,4,5,6,7,8,9,10,11,12,13,14,15,16,17,18,19,20,21,22,23,24,25,26,27,28,29,30,31,32,33,34,35,36,37,38,39,40,41,42],[0,1,2,3,4,5,6,7,8,9,10,11,12,13,14,15,16,17,18,19,20,21,22,23,24,25,26,27,28,29,30,31,32,33,34,35,36,37,38,39,40,41,42,49,50,51],[0,1,2,3,4,5,6,7,8,9,10,11,12,13,14,15,16,17,18,19,20,21,22,23,24,25,26,27,28,29,30,31,32,33,34,35,36,37,38,39,40,41,42,49,50,51,52],[0,1,2,3,4,5,6,7,8,9,10,11,12,13,14,15,16,17,18,19,20,21,22,23,24,25,26,27,28,29,30,31,32,33,34,35,36,37,38,39,40,41,42,49,50,51,52,53],[0,1,2,3,4,5,6,7,8,9,10,11,12,13,14,15,16,17,18,19,20,21,22,23,24,25,26,27,28,29,30,31,32,33,34,35,36,37,38,39,40,41,42,43,44,45,46,47,48,49,50,51,52,53,54],[0,1,2,3,4,5,6,7,8,9,10,11,12,13,14,15,16,17,18,19,20,21,22,23,24,25,26,27,28,29,30,31,32,33,34,35,36,37,38,39,40,41,42,43,44,45,46,47,48,49,50,51,52,53,54,55]] [62,63,64,65,66,67,68,69,70,71,72,73,74,75,76,77,78,79,80,81,82,83,84,85,86,87,88,89,90,91,92,93,94,95,96,97,98,99,100,101,102,103,104,105,106,107,108,109,110,111,112,113,114,115,116,117,118] [fun v _=>v=(.bool x75.2:Value),fun v _=>v=(.bool (!x75.2):Value),fun v _=>v=(.bool (!x75.2):Value),fun v _=>v=(.bool x120.2:Value),fun v _=>v=(.bool (!x120.2):Value),fun v _=>v=(.bool (!x120.2):Value),fun v _=>v=(.bool (!x120.2):Value),fun v _=>v=(.pointer (some ⟨b92,2,none⟩):Value),fun v _=>v=(.int .i64 x75.1.b:Value),fun v _=>v=(.pointer (some ⟨b54,1,none⟩):Value),fun v _=>v=(.int .i64 x42.first:Value),fun v _=>v=(.int .i64 s70.1:Value),fun v _=>v=(.int .i64 (IntKind.i64.wrap (x42.first + s70.1)):Value),fun v _=>v=(.bool (x75.1.b != (IntKind.i64.wrap (x42.first + s70.1))):Value),fun v _=>v=(.bool (x75.1.b != (IntKind.i64.wrap (x42.first + s70.1))):Value),fun v _=>v=(.bool (x75.1.b != (IntKind.i64.wrap (x42.first + s70.1))):Value),fun v _=>v=(.pointer (some ⟨b92,1,none⟩):Value),fun v _=>v=(.int .i64 x75.1.a:Value),fun v _=>v=(.pointer (some ⟨b54,0,none⟩):Value),fun v _=>v=(.int .i64 x42.epoch:Value),fun v _=>v=(.bool (x75.1.a != x42.epoch):Value),fun v _=>v=(.bool (x75.1.a != x42.epoch):Value),fun v _=>v=(.bool (x75.1.a != x42.epoch):Value),fun v _=>v=(.pointer (some ⟨b92,7,none⟩):Value),fun v _=>v=(.slice A89 x75.1.entries.length c90:Value),fun v _=>v=(.int .i64 (x75.1.entries.length:Int):Value),fun v _=>v=(.bool ((x75.1.entries.length:Int) != (1:Int)):Value),fun v _=>v=(.bool ((x75.1.entries.length:Int) != (1:Int)):Value),fun v _=>v=(.bool ((x75.1.entries.length:Int) != (1:Int)):Value),fun v _=>v=((undef:Value):Value),fun v _=>v=((undef:Value):Value),fun v _=>v=((undef:Value):Value),fun v _=>v=((undef:Value):Value),fun v _=>v=((undef:Value):Value),fun v _=>v=((undef:Value):Value),fun v _=>v=((undef:Value):Value),fun v _=>v=((undef:Value):Value),fun v _=>v=((undef:Value):Value),fun v _=>v=((undef:Value):Value),fun v _=>v=((undef:Value):Value),fun v _=>v=((undef:Value):Value),fun v _=>v=(.bool true:Value),fun v _=>v=(.bool true:Value),fun v _=>v=((undef:Value):Value),fun v _=>v=((undef:Value):Value),fun v _=>v=((undef:Value):Value),fun v _=>v=((undef:Value):Value),fun v _=>v=((undef:Value):Value),fun v _=>v=((undef:Value):Value),fun v _=>v=((undef:Value):Value),fun v _=>v=((undef:Value):Value),fun v _=>v=((undef:Value):Value),fun v _=>v=((undef:Value):Value),fun v _=>v=((undef:Value):Value),fun v _=>v=((undef:Value):Value),fun v _=>v=((undef:Value):Value),fun v _=>v=(.bool true:Value)] (by kernel_rfl) ⟨fun _ _ _ _ _ h=>h,fun _ _ _ _ _ h=>h,fun _ _ _ _ _ h=>h,fun _ _ _ _ _ h=>h,fun _ _ _ _ _ h=>h,fun _ _ _ _ _ h=>h,fun _ _ _ _ _ h=>h,fun _ _ _ _ _ h=>h,fun _ _ _ _ _ h=>h,fun _ _ _ _ _ h=>h,fun _ _ _ _ _ h=>h,fun _ _ _ _ _ h=>h,fun _ _ _ _ _ h=>h,fun _ _ _ _ _ h=>h,fun _ _ _ _ _ h=>h,fun _ _ _ _ _ h=>h,fun _ _ _ _ _ h=>h,fun _ _ _ _ _ h=>h,fun _ _ _ _ _ h=>h,fun _ _ _ _ _ h=>h,fun _ _ _ _ _ h=>h,fun _ _ _ _ _ h=>h,fun _ _ _ _ _ h=>h,fun _ _ _ _ _ h=>h,fun _ _ _ _ _ h=>h,fun _ _ _ _ _ h=>h,fun _ _ _ _ _ h=>h,fun _ _ _ _ _ h=>h,fun _ _ _ _ _ h=>h,fun _ _ _ _ _ h=>h,fun _ _ _ _ _ h=>h,fun _ _ _ _ _ h=>h,fun _ _ _ _ _ h=>h,fun _ _ _ _ _ h=>h,fun _ _ _ _ _ h=>h,fun _ _ _ _ _ h=>h,fun _ _ _ _ _ h=>h,fun _ _ _ _ _ h=>h,fun _ _ _ _ _ h=>h,fun _ _ _ _ _ h=>h,fun _ _ _ _ _ h=>h,fun _ _ _ _ _ h=>h,fun _ _ _ _ _ h=>h,fun _ _ _ _ _ h=>h,fun _ _ _ _ _ h=>h,fun _ _ _ _ _ h=>h,fun _ _ _ _ _ h=>h,fun _ _ _ _ _ h=>h,fun _ _ _ _ _ h=>h,fun _ _ _ _ _ h=>h,fun _ _ _ _ _ h=>h,fun _ _ _ _ _ h=>h,fun _ _ _ _ _ h=>h,fun _ _ _ _ _ h=>h,fun _ _ _ _ _ h=>h,fun _ _ _ _ _ h=>h,fun _ _ _ _ _ h=>h,trivial⟩ ?_ ?_
          ·refine ⟨?_,?_,?_,?_,?_,?_,?_,?_,?_,?_,?_,?_,?_,?_,?_,?_,?_,?_,?_,?_,?_,?_,?_,?_,?_,?_,?_,?_,?_,?_,?_,?_,?_,?_,?_,?_,?_,?_,?_,?_,?_,?_,?_,?_,?_,?_,?_,?_,?_,?_,?_,?_,?_,?_,?_,?_,?_,trivial⟩
           ·intro ρ w368o F368o hS hρ
            have q13:ρ 13=.bool x75.2:=hρ 13 (by kernel_rfl)
            exact o_q (r_mov q13) ⟨Fr.refl _ _,rfl⟩
           ·intro ρ w368o F368o hS hρ
            have q62:ρ 62=.bool x75.2:=hS 0 (by decide) 62 rfl
            exact o_q (r_not q62) ⟨Fr.refl _ _,rfl⟩
           ·intro ρ w368o F368o hS hρ
            have q63:ρ 63=.bool (!x75.2):=hS 1 (by decide) 63 rfl
            exact o_q (r_mov q63) ⟨Fr.refl _ _,rfl⟩
           ·intro ρ w368o F368o hS hρ
            have q15:ρ 15=.bool x120.2:=hρ 15 (by kernel_rfl)
            have q64:ρ 64=.bool (!x75.2):=hS 2 (by decide) 64 rfl
            exact o_v (r_mov q15) (want_t (t:=64) rfl q64 hc195) rfl rfl (eo_nil ⟨rfl,rfl,_,rfl,Fr.refl _ _,rfl⟩)
           ·intro ρ w368o F368o hS hρ
            have q64:ρ 64=.bool (!x75.2):=hS 2 (by decide) 64 rfl
            have q65:ρ 65=.bool x120.2:=hS 3 (by decide) 65 rfl
            exact o_v (r_not q65) (want_t (t:=64) rfl q64 hc195) rfl rfl (eo_nil ⟨rfl,rfl,_,rfl,Fr.refl _ _,rfl⟩)
           ·intro ρ w368o F368o hS hρ
            have q64:ρ 64=.bool (!x75.2):=hS 2 (by decide) 64 rfl
            have q66:ρ 66=.bool (!x120.2):=hS 4 (by decide) 66 rfl
            exact o_q (r_pickF q64 hc195 q66) ⟨Fr.refl _ _,rfl⟩
           ·intro ρ w368o F368o hS hρ
            have q67:ρ 67=.bool (!x120.2):=hS 5 (by decide) 67 rfl
            exact o_q (r_mov q67) ⟨Fr.refl _ _,rfl⟩
           ·intro ρ w368o F368o hS hρ
            have q12:ρ 12=.pointer (some ⟨b92,0,none⟩):=hρ 12 (by kernel_rfl)
            have q68:ρ 68=.bool (!x120.2):=hS 6 (by decide) 68 rfl
            exact o_v (r_fa fld_frame_Frame_2 rfl q12) (want_t (t:=68) rfl q68 hc220) rfl rfl (eo_nil ⟨rfl,rfl,_,rfl,Fr.refl _ _,rfl⟩)
           ·intro ρ w368o F368o hS hρ
            have q68:ρ 68=.bool (!x120.2):=hS 6 (by decide) 68 rfl
            have q69:ρ 69=.pointer (some ⟨b92,2,none⟩):=hS 7 (by decide) 69 rfl
            exact o_v (r_ld one_int q69 ((B172.ex F368o).cell rfl)) (want_t (t:=68) rfl q68 hc220) rfl rfl (eo_nil ⟨rfl,rfl,_,rfl,Fr.refl _ _,rfl⟩)
           ·intro ρ w368o F368o hS hρ
            have q10:ρ 10=.pointer (some ⟨b54,0,none⟩):=hρ 10 (by kernel_rfl)
            have q68:ρ 68=.bool (!x120.2):=hS 6 (by decide) 68 rfl
            exact o_v (r_fa fld_buffer_Buffer_1 rfl q10) (want_t (t:=68) rfl q68 hc220) rfl rfl (eo_nil ⟨rfl,rfl,_,rfl,Fr.refl _ _,rfl⟩)
           ·intro ρ w368o F368o hS hρ
            have q68:ρ 68=.bool (!x120.2):=hS 6 (by decide) 68 rfl
            have q71:ρ 71=.pointer (some ⟨b54,1,none⟩):=hS 9 (by decide) 71 rfl
            exact o_v (r_ld one_int q71 ((B171.ex F368o).cell rfl)) (want_t (t:=68) rfl q68 hc220) rfl rfl (eo_nil ⟨rfl,rfl,_,rfl,Fr.refl _ _,rfl⟩)
           ·intro ρ w368o F368o hS hρ
            have q11:ρ 11=.int .i64 s70.1:=hρ 11 (by kernel_rfl)
            have q68:ρ 68=.bool (!x120.2):=hS 6 (by decide) 68 rfl
            exact o_v (r_mov q11) (want_t (t:=68) rfl q68 hc220) rfl rfl (eo_nil ⟨rfl,rfl,_,rfl,Fr.refl _ _,rfl⟩)
           ·intro ρ w368o F368o hS hρ
            have q68:ρ 68=.bool (!x120.2):=hS 6 (by decide) 68 rfl
            have q72:ρ 72=.int .i64 x42.first:=hS 10 (by decide) 72 rfl
            have q73:ρ 73=.int .i64 s70.1:=hS 11 (by decide) 73 rfl
            exact o_v (r_int q72 q73 rfl) (want_t (t:=68) rfl q68 hc220) rfl rfl (eo_nil ⟨rfl,rfl,_,rfl,Fr.refl _ _,rfl⟩)
           ·intro ρ w368o F368o hS hρ
            have q68:ρ 68=.bool (!x120.2):=hS 6 (by decide) 68 rfl
            have q70:ρ 70=.int .i64 x75.1.b:=hS 8 (by decide) 70 rfl
            have q74:ρ 74=.int .i64 (IntKind.i64.wrap (x42.first + s70.1)):=hS 12 (by decide) 74 rfl
            exact o_v (r_int q70 q74 rfl) (want_t (t:=68) rfl q68 hc220) rfl rfl (eo_nil ⟨rfl,rfl,_,rfl,Fr.refl _ _,rfl⟩)
           ·intro ρ w368o F368o hS hρ
            have q68:ρ 68=.bool (!x120.2):=hS 6 (by decide) 68 rfl
            have q75:ρ 75=.bool (x75.1.b != (IntKind.i64.wrap (x42.first + s70.1))):=hS 13 (by decide) 75 rfl
            exact o_q (r_pickF q68 hc220 q75) ⟨Fr.refl _ _,rfl⟩
           ·intro ρ w368o F368o hS hρ
            have q76:ρ 76=.bool (x75.1.b != (IntKind.i64.wrap (x42.first + s70.1))):=hS 14 (by decide) 76 rfl
            exact o_q (r_mov q76) ⟨Fr.refl _ _,rfl⟩
           ·intro ρ w368o F368o hS hρ
            have q12:ρ 12=.pointer (some ⟨b92,0,none⟩):=hρ 12 (by kernel_rfl)
            have q77:ρ 77=.bool (x75.1.b != (IntKind.i64.wrap (x42.first + s70.1))):=hS 15 (by decide) 77 rfl
            exact o_v (r_fa fld_frame_Frame_1 rfl q12) (want_t (t:=77) rfl q77 hc245) rfl rfl (eo_nil ⟨rfl,rfl,_,rfl,Fr.refl _ _,rfl⟩)
           ·intro ρ w368o F368o hS hρ
            have q77:ρ 77=.bool (x75.1.b != (IntKind.i64.wrap (x42.first + s70.1))):=hS 15 (by decide) 77 rfl
            have q78:ρ 78=.pointer (some ⟨b92,1,none⟩):=hS 16 (by decide) 78 rfl
            exact o_v (r_ld one_int q78 ((B172.ex F368o).cell rfl)) (want_t (t:=77) rfl q77 hc245) rfl rfl (eo_nil ⟨rfl,rfl,_,rfl,Fr.refl _ _,rfl⟩)
           ·intro ρ w368o F368o hS hρ
            have q10:ρ 10=.pointer (some ⟨b54,0,none⟩):=hρ 10 (by kernel_rfl)
            have q77:ρ 77=.bool (x75.1.b != (IntKind.i64.wrap (x42.first + s70.1))):=hS 15 (by decide) 77 rfl
            exact o_v (r_fa fld_buffer_Buffer_0 rfl q10) (want_t (t:=77) rfl q77 hc245) rfl rfl (eo_nil ⟨rfl,rfl,_,rfl,Fr.refl _ _,rfl⟩)
           ·intro ρ w368o F368o hS hρ
            have q77:ρ 77=.bool (x75.1.b != (IntKind.i64.wrap (x42.first + s70.1))):=hS 15 (by decide) 77 rfl
            have q80:ρ 80=.pointer (some ⟨b54,0,none⟩):=hS 18 (by decide) 80 rfl
            exact o_v (r_ld one_int q80 ((B171.ex F368o).cell rfl)) (want_t (t:=77) rfl q77 hc245) rfl rfl (eo_nil ⟨rfl,rfl,_,rfl,Fr.refl _ _,rfl⟩)
           ·intro ρ w368o F368o hS hρ
            have q77:ρ 77=.bool (x75.1.b != (IntKind.i64.wrap (x42.first + s70.1))):=hS 15 (by decide) 77 rfl
            have q79:ρ 79=.int .i64 x75.1.a:=hS 17 (by decide) 79 rfl
            have q81:ρ 81=.int .i64 x42.epoch:=hS 19 (by decide) 81 rfl
            exact o_v (r_int q79 q81 rfl) (want_t (t:=77) rfl q77 hc245) rfl rfl (eo_nil ⟨rfl,rfl,_,rfl,Fr.refl _ _,rfl⟩)
           ·intro ρ w368o F368o hS hρ
            have q77:ρ 77=.bool (x75.1.b != (IntKind.i64.wrap (x42.first + s70.1))):=hS 15 (by decide) 77 rfl
            have q82:ρ 82=.bool (x75.1.a != x42.epoch):=hS 20 (by decide) 82 rfl
            exact o_q (r_pickF q77 hc245 q82) ⟨Fr.refl _ _,rfl⟩
           ·intro ρ w368o F368o hS hρ
            have q83:ρ 83=.bool (x75.1.a != x42.epoch):=hS 21 (by decide) 83 rfl
            exact o_q (r_mov q83) ⟨Fr.refl _ _,rfl⟩
           ·intro ρ w368o F368o hS hρ
            have q12:ρ 12=.pointer (some ⟨b92,0,none⟩):=hρ 12 (by kernel_rfl)
            have q84:ρ 84=.bool (x75.1.a != x42.epoch):=hS 22 (by decide) 84 rfl
            exact o_v (r_fa fld_frame_Frame_4 rfl q12) (want_t (t:=84) rfl q84 hc294) rfl rfl (eo_nil ⟨rfl,rfl,_,rfl,Fr.refl _ _,rfl⟩)
           ·intro ρ w368o F368o hS hρ
            have q84:ρ 84=.bool (x75.1.a != x42.epoch):=hS 22 (by decide) 84 rfl
            have q85:ρ 85=.pointer (some ⟨b92,7,none⟩):=hS 23 (by decide) 85 rfl
            exact o_v (r_ld one_s_api_Entry q85 ((B172.ex F368o).cell rfl)) (want_t (t:=84) rfl q84 hc294) rfl rfl (eo_nil ⟨rfl,rfl,_,rfl,Fr.refl _ _,rfl⟩)
           ·intro ρ w368o F368o hS hρ
            have q84:ρ 84=.bool (x75.1.a != x42.epoch):=hS 22 (by decide) 84 rfl
            have q86:ρ 86=.slice A89 x75.1.entries.length c90:=hS 24 (by decide) 86 rfl
            exact o_v (r_len_slc un_s_api_Entry q86) (want_t (t:=84) rfl q84 hc294) rfl rfl (eo_nil ⟨rfl,rfl,_,rfl,Fr.refl _ _,rfl⟩)
           ·intro ρ w368o F368o hS hρ
            have q84:ρ 84=.bool (x75.1.a != x42.epoch):=hS 22 (by decide) 84 rfl
            have q87:ρ 87=.int .i64 (x75.1.entries.length:Int):=hS 25 (by decide) 87 rfl
            exact o_v (r_int q87 rfl rfl) (want_t (t:=84) rfl q84 hc294) rfl rfl (eo_nil ⟨rfl,rfl,_,rfl,Fr.refl _ _,rfl⟩)
           ·intro ρ w368o F368o hS hρ
            have q84:ρ 84=.bool (x75.1.a != x42.epoch):=hS 22 (by decide) 84 rfl
            have q88:ρ 88=.bool ((x75.1.entries.length:Int) != (1:Int)):=hS 26 (by decide) 88 rfl
            exact o_q (r_pickF q84 hc294 q88) ⟨Fr.refl _ _,rfl⟩
           ·intro ρ w368o F368o hS hρ
            have q89:ρ 89=.bool ((x75.1.entries.length:Int) != (1:Int)):=hS 27 (by decide) 89 rfl
            exact o_q (r_mov q89) ⟨Fr.refl _ _,rfl⟩
           ·intro ρ w368o F368o hS hρ
            have q12:ρ 12=.pointer (some ⟨b92,0,none⟩):=hρ 12 (by kernel_rfl)
            have q90:ρ 90=.bool ((x75.1.entries.length:Int) != (1:Int)):=hS 28 (by decide) 90 rfl
            exact o_no (want_f (t:=90) rfl q90 hc367) rfl (eo_nil ⟨rfl,rfl,undef,rfl,Fr.refl _ _,rfl⟩)
           ·intro ρ w368o F368o hS hρ
            have q90:ρ 90=.bool ((x75.1.entries.length:Int) != (1:Int)):=hS 28 (by decide) 90 rfl
            have q91:ρ 91=(undef:Value):=hS 29 (by decide) 91 rfl
            exact o_no (want_f (t:=90) rfl q90 hc367) rfl (eo_nil ⟨rfl,rfl,undef,rfl,Fr.refl _ _,rfl⟩)
           ·intro ρ w368o F368o hS hρ
            have q90:ρ 90=.bool ((x75.1.entries.length:Int) != (1:Int)):=hS 28 (by decide) 90 rfl
            have q92:ρ 92=(undef:Value):=hS 30 (by decide) 92 rfl
            exact o_no (want_f (t:=90) rfl q90 hc367) rfl (eo_nil ⟨rfl,rfl,undef,rfl,Fr.refl _ _,rfl⟩)
           ·intro ρ w368o F368o hS hρ
            have q90:ρ 90=.bool ((x75.1.entries.length:Int) != (1:Int)):=hS 28 (by decide) 90 rfl
            have q93:ρ 93=(undef:Value):=hS 31 (by decide) 93 rfl
            exact o_no (want_f (t:=90) rfl q90 hc367) rfl (eo_nil ⟨rfl,rfl,undef,rfl,Fr.refl _ _,rfl⟩)
           ·intro ρ w368o F368o hS hρ
            have q90:ρ 90=.bool ((x75.1.entries.length:Int) != (1:Int)):=hS 28 (by decide) 90 rfl
            have q94:ρ 94=(undef:Value):=hS 32 (by decide) 94 rfl
            exact o_no (want_f (t:=90) rfl q90 hc367) rfl (eo_nil ⟨rfl,rfl,undef,rfl,Fr.refl _ _,rfl⟩)
           ·intro ρ w368o F368o hS hρ
            have q10:ρ 10=.pointer (some ⟨b54,0,none⟩):=hρ 10 (by kernel_rfl)
            have q90:ρ 90=.bool ((x75.1.entries.length:Int) != (1:Int)):=hS 28 (by decide) 90 rfl
            exact o_no (want_f (t:=90) rfl q90 hc367) rfl (eo_nil ⟨rfl,rfl,undef,rfl,Fr.refl _ _,rfl⟩)
           ·intro ρ w368o F368o hS hρ
            have q90:ρ 90=.bool ((x75.1.entries.length:Int) != (1:Int)):=hS 28 (by decide) 90 rfl
            have q96:ρ 96=(undef:Value):=hS 34 (by decide) 96 rfl
            exact o_no (want_f (t:=90) rfl q90 hc367) rfl (eo_nil ⟨rfl,rfl,undef,rfl,Fr.refl _ _,rfl⟩)
           ·intro ρ w368o F368o hS hρ
            have q11:ρ 11=.int .i64 s70.1:=hρ 11 (by kernel_rfl)
            have q90:ρ 90=.bool ((x75.1.entries.length:Int) != (1:Int)):=hS 28 (by decide) 90 rfl
            exact o_no (want_f (t:=90) rfl q90 hc367) rfl (eo_nil ⟨rfl,rfl,undef,rfl,Fr.refl _ _,rfl⟩)
           ·intro ρ w368o F368o hS hρ
            have q90:ρ 90=.bool ((x75.1.entries.length:Int) != (1:Int)):=hS 28 (by decide) 90 rfl
            have q97:ρ 97=(undef:Value):=hS 35 (by decide) 97 rfl
            have q98:ρ 98=(undef:Value):=hS 36 (by decide) 98 rfl
            exact o_no (want_f (t:=90) rfl q90 hc367) rfl (eo_nil ⟨rfl,rfl,undef,rfl,Fr.refl _ _,rfl⟩)
           ·intro ρ w368o F368o hS hρ
            have q90:ρ 90=.bool ((x75.1.entries.length:Int) != (1:Int)):=hS 28 (by decide) 90 rfl
            have q99:ρ 99=(undef:Value):=hS 37 (by decide) 99 rfl
            exact o_no (want_f (t:=90) rfl q90 hc367) rfl (eo_nil ⟨rfl,rfl,undef,rfl,Fr.refl _ _,rfl⟩)
           ·intro ρ w368o F368o hS hρ
            have q90:ρ 90=.bool ((x75.1.entries.length:Int) != (1:Int)):=hS 28 (by decide) 90 rfl
            have q100:ρ 100=(undef:Value):=hS 38 (by decide) 100 rfl
            exact o_no (want_f (t:=90) rfl q90 hc367) rfl (eo_nil ⟨rfl,rfl,undef,rfl,Fr.refl _ _,rfl⟩)
           ·intro ρ w368o F368o hS hρ
            have q90:ρ 90=.bool ((x75.1.entries.length:Int) != (1:Int)):=hS 28 (by decide) 90 rfl
            have q95:ρ 95=(undef:Value):=hS 33 (by decide) 95 rfl
            have q101:ρ 101=(undef:Value):=hS 39 (by decide) 101 rfl
            exact o_no (want_f (t:=90) rfl q90 hc367) rfl (eo_nil ⟨rfl,rfl,undef,rfl,Fr.refl _ _,rfl⟩)
           ·intro ρ w368o F368o hS hρ
            have q90:ρ 90=.bool ((x75.1.entries.length:Int) != (1:Int)):=hS 28 (by decide) 90 rfl
            have q102:ρ 102=(undef:Value):=hS 40 (by decide) 102 rfl
            exact o_q (r_pickT q90 hc367 rfl) ⟨Fr.refl _ _,rfl⟩
           ·intro ρ w368o F368o hS hρ
            have q103:ρ 103=.bool true:=hS 41 (by decide) 103 rfl
            exact o_q (r_mov q103) ⟨Fr.refl _ _,rfl⟩
           ·intro ρ w368o F368o hS hρ
            have q12:ρ 12=.pointer (some ⟨b92,0,none⟩):=hρ 12 (by kernel_rfl)
            have q104:ρ 104=.bool true:=hS 42 (by decide) 104 rfl
            exact o_no (want_f (t:=104) rfl q104 rfl) rfl (eo_nil ⟨rfl,rfl,undef,rfl,Fr.refl _ _,rfl⟩)
           ·intro ρ w368o F368o hS hρ
            have q104:ρ 104=.bool true:=hS 42 (by decide) 104 rfl
            have q105:ρ 105=(undef:Value):=hS 43 (by decide) 105 rfl
            exact o_no (want_f (t:=104) rfl q104 rfl) rfl (eo_nil ⟨rfl,rfl,undef,rfl,Fr.refl _ _,rfl⟩)
           ·intro ρ w368o F368o hS hρ
            have q104:ρ 104=.bool true:=hS 42 (by decide) 104 rfl
            have q106:ρ 106=(undef:Value):=hS 44 (by decide) 106 rfl
            exact o_no (want_f (t:=104) rfl q104 rfl) rfl (eo_nil ⟨rfl,rfl,undef,rfl,Fr.refl _ _,rfl⟩)
           ·intro ρ w368o F368o hS hρ
            have q104:ρ 104=.bool true:=hS 42 (by decide) 104 rfl
            have q107:ρ 107=(undef:Value):=hS 45 (by decide) 107 rfl
            exact o_no (want_f (t:=104) rfl q104 rfl) rfl (eo_nil ⟨rfl,rfl,undef,rfl,Fr.refl _ _,rfl⟩)
           ·intro ρ w368o F368o hS hρ
            have q104:ρ 104=.bool true:=hS 42 (by decide) 104 rfl
            have q108:ρ 108=(undef:Value):=hS 46 (by decide) 108 rfl
            exact o_no (want_f (t:=104) rfl q104 rfl) rfl (eo_nil ⟨rfl,rfl,undef,rfl,Fr.refl _ _,rfl⟩)
           ·intro ρ w368o F368o hS hρ
            have q104:ρ 104=.bool true:=hS 42 (by decide) 104 rfl
            have q109:ρ 109=(undef:Value):=hS 47 (by decide) 109 rfl
            exact o_no (want_f (t:=104) rfl q104 rfl) rfl (eo_nil ⟨rfl,rfl,undef,rfl,Fr.refl _ _,rfl⟩)
           ·intro ρ w368o F368o hS hρ
            have q10:ρ 10=.pointer (some ⟨b54,0,none⟩):=hρ 10 (by kernel_rfl)
            have q104:ρ 104=.bool true:=hS 42 (by decide) 104 rfl
            exact o_no (want_f (t:=104) rfl q104 rfl) rfl (eo_nil ⟨rfl,rfl,undef,rfl,Fr.refl _ _,rfl⟩)
           ·intro ρ w368o F368o hS hρ
            have q104:ρ 104=.bool true:=hS 42 (by decide) 104 rfl
            have q111:ρ 111=(undef:Value):=hS 49 (by decide) 111 rfl
            exact o_no (want_f (t:=104) rfl q104 rfl) rfl (eo_nil ⟨rfl,rfl,undef,rfl,Fr.refl _ _,rfl⟩)
           ·intro ρ w368o F368o hS hρ
            have q11:ρ 11=.int .i64 s70.1:=hρ 11 (by kernel_rfl)
            have q104:ρ 104=.bool true:=hS 42 (by decide) 104 rfl
            exact o_no (want_f (t:=104) rfl q104 rfl) rfl (eo_nil ⟨rfl,rfl,undef,rfl,Fr.refl _ _,rfl⟩)
           ·intro ρ w368o F368o hS hρ
            have q104:ρ 104=.bool true:=hS 42 (by decide) 104 rfl
            have q112:ρ 112=(undef:Value):=hS 50 (by decide) 112 rfl
            have q113:ρ 113=(undef:Value):=hS 51 (by decide) 113 rfl
            exact o_no (want_f (t:=104) rfl q104 rfl) rfl (eo_nil ⟨rfl,rfl,undef,rfl,Fr.refl _ _,rfl⟩)
           ·intro ρ w368o F368o hS hρ
            have q104:ρ 104=.bool true:=hS 42 (by decide) 104 rfl
            have q114:ρ 114=(undef:Value):=hS 52 (by decide) 114 rfl
            exact o_no (want_f (t:=104) rfl q104 rfl) rfl (eo_nil ⟨rfl,rfl,undef,rfl,Fr.refl _ _,rfl⟩)
           ·intro ρ w368o F368o hS hρ
            have q104:ρ 104=.bool true:=hS 42 (by decide) 104 rfl
            have q115:ρ 115=(undef:Value):=hS 53 (by decide) 115 rfl
            exact o_no (want_f (t:=104) rfl q104 rfl) rfl (eo_nil ⟨rfl,rfl,undef,rfl,Fr.refl _ _,rfl⟩)
           ·intro ρ w368o F368o hS hρ
            have q104:ρ 104=.bool true:=hS 42 (by decide) 104 rfl
            have q110:ρ 110=(undef:Value):=hS 48 (by decide) 110 rfl
            have q116:ρ 116=(undef:Value):=hS 54 (by decide) 116 rfl
            exact o_no (want_f (t:=104) rfl q104 rfl) rfl (eo_nil ⟨rfl,rfl,undef,rfl,Fr.refl _ _,rfl⟩)
           ·intro ρ w368o F368o hS hρ
            have q104:ρ 104=.bool true:=hS 42 (by decide) 104 rfl
            have q117:ρ 117=(undef:Value):=hS 55 (by decide) 117 rfl
            exact o_q (r_pickT q104 rfl rfl) ⟨Fr.refl _ _,rfl⟩
          ·intro ρ w368 F368 hS hρ
           have q65:ρ 65=.bool x120.2:=hS 3 65 rfl
           have q66:ρ 66=.bool (!x120.2):=hS 4 66 rfl
           have q69:ρ 69=.pointer (some ⟨b92,2,none⟩):=hS 7 69 rfl
           have q70:ρ 70=.int .i64 x75.1.b:=hS 8 70 rfl
           have q71:ρ 71=.pointer (some ⟨b54,1,none⟩):=hS 9 71 rfl
           have q72:ρ 72=.int .i64 x42.first:=hS 10 72 rfl
           have q73:ρ 73=.int .i64 s70.1:=hS 11 73 rfl
           have q74:ρ 74=.int .i64 (IntKind.i64.wrap (x42.first + s70.1)):=hS 12 74 rfl
           have q75:ρ 75=.bool (x75.1.b != (IntKind.i64.wrap (x42.first + s70.1))):=hS 13 75 rfl
           have q78:ρ 78=.pointer (some ⟨b92,1,none⟩):=hS 16 78 rfl
           have q79:ρ 79=.int .i64 x75.1.a:=hS 17 79 rfl
           have q80:ρ 80=.pointer (some ⟨b54,0,none⟩):=hS 18 80 rfl
           have q81:ρ 81=.int .i64 x42.epoch:=hS 19 81 rfl
           have q82:ρ 82=.bool (x75.1.a != x42.epoch):=hS 20 82 rfl
           have q85:ρ 85=.pointer (some ⟨b92,7,none⟩):=hS 23 85 rfl
           have q86:ρ 86=.slice A89 x75.1.entries.length c90:=hS 24 86 rfl
           have q87:ρ 87=.int .i64 (x75.1.entries.length:Int):=hS 25 87 rfl
           have q88:ρ 88=.bool ((x75.1.entries.length:Int) != (1:Int)):=hS 26 88 rfl
           have q118:ρ 118=.bool true:=hS 56 118 rfl
           obtain ⟨ρ',rfl⟩:∃ ρ',ρ=envs (ovr [62,63,64,65,66,67,68,69,70,71,72,73,74,75,76,77,78,79,80,81,82,83,84,85,86,87,88,89,90,91,92,93,94,95,96,97,98,99,100,101,102,103,104,105,106,107,108,109,110,111,112,113,114,115,116,117,118] ρ' _) [(65,.bool x120.2),(66,.bool (!x120.2)),(69,.pointer (some ⟨b92,2,none⟩)),(70,.int .i64 x75.1.b),(71,.pointer (some ⟨b54,1,none⟩)),(72,.int .i64 x42.first),(73,.int .i64 s70.1),(74,.int .i64 (IntKind.i64.wrap (x42.first + s70.1))),(75,.bool (x75.1.b != (IntKind.i64.wrap (x42.first + s70.1)))),(78,.pointer (some ⟨b92,1,none⟩)),(79,.int .i64 x75.1.a),(80,.pointer (some ⟨b54,0,none⟩)),(81,.int .i64 x42.epoch),(82,.bool (x75.1.a != x42.epoch)),(85,.pointer (some ⟨b92,7,none⟩)),(86,.slice A89 x75.1.entries.length c90),(87,.int .i64 (x75.1.entries.length:Int)),(88,.bool ((x75.1.entries.length:Int) != (1:Int))),(118,.bool true)]:=⟨ρ,ovr_self hρ ⟨q65,q66,q69,q70,q71,q72,q73,q74,q75,q78,q79,q80,q81,q82,q85,q86,q87,q88,q118,trivial⟩⟩
           have E429:=E162.trans F368
           refine sq_n ?_
           refine ec_condT rfl rfl ?_
           refine ec_seq ?_
           refine ec_region ?_
           refine o_w (v:=.bool false) (r_asg rfl) ?_
           refine eo_nil_sq ?_
           refine ec_ret ?_
           refine sq_ret ?_
           refine blk_ret ?_
           refine sq_ret ?_
           subst h
           exact lqR_r (end1 rfl ⟨_,rfl,E429,rfl⟩)
         ·replace h:=h.2 hc367
          rcases Bool.eq_false_or_eq_true (!(((nth x75.1.entries (0:Int)).key)==((nth x42.names s70.1).key))) with hc484 | hc484
          ·replace h:=h.1 hc484
           obtain ⟨ha518,h⟩:=h
           obtain ⟨cs519,l521,H520⟩:=Stb.elem (by decide) (H91.up G168 (fun _ h=>h) (upc (.inr m148) (upc (.inr m100) (upc (.inl (List.Mem.head _)) (upc (.inl (List.Mem.tail _ (List.Mem.head _))) (fun m hm=>Or.inl (List.Mem.tail _ (List.Mem.tail _ hm)))))))) (0:Int) ha518.1 ha518.2
           obtain ⟨A523,c524,A526,c527,rfl,H522,H525,H528⟩:=kEnt_open2 H520
           obtain ⟨ha529,h⟩:=h
           obtain ⟨cs530,l532,H531⟩:=Stb.elem (by decide) (H53.up G165 (fun _ h=>h) (upc (.inr m145) (upc (.inr m97) (upc (.inr m58) (upc (.inl (List.Mem.head _)) (fun m hm=>Or.inl (List.Mem.tail _ hm))))))) s70.1 ha529.1 ha529.2
           obtain ⟨rfl,H533⟩:=kNm_open2 H531
           refine ec_any0 (by kernel_rfl) [[],[0],[0,1],[0,1,2],[0,1,2,3],[0,1,2,3,4],[0,1,2,3,4,5],[0,1,2,3,4,5,6],[0,1,2,3,4,5,6,7],[0,1,2,3,4,5,6],[0,1,2,3,4,5,6,9],[0,1,2,3,4,5,6],[0,1,2,3,4,5,6,9,10,11],[0,1,2,3,4,5,6,7,8,9,10,11,12],[0,1,2,3,4,5,6,7,8,9,10,11,12,13],[0,1,2,3,4,5,6,7,8,9,10,11,12,13,14],[0,1,2,3,4,5,6,7,8,9,10,11,12,13,14,15],[0,1,2,3,4,5,6,7,8,9,10,11,12,13,14,15,16],[0,1,2,3,4,5,6,7,8,9,10,11,12,13,14,15],[0,1,2,3,4,5,6,7,8,9,10,11,12,13,14,15,18],[0,1,2,3,4,5,6,7,8,9,10,11,12,13,14,15,16,17,18,19],[0,1,2,3,4,5,6,7,8,9,10,11,12,13,14,15,16,17,18,19,20],[0,1,2,3,4,5,6,7,8,9,10,11,12,13,14,15,16,17,18,19,20,21],[0,1,2,3,4,5,6,7,8,9,10,11,12,13,14,15,16,17,18,19,20,21,22],[0,1,2,3,4,5,6,7,8,9,10,11,12,13,14,15,16,17,18,19,20,21,22,23],[0,1,2,3,4,5,6,7,8,9,10,11,12,13,14,15,16,17,18,19,20,21,22,23,24],[0,1,2,3,4,5,6,7,8,9,10,11,12,13,14,15,16,17,18,19,20,21,22,23,24,25],[0,1,2,3,4,5,6,7,8,9,10,11,12,13,14,15,16,17,18,19,20,21,22,23,24,25,26],[0,1,2,3,4,5,6,7,8,9,10,11,12,13,14,15,16,17,18,19,20,21,22,23,24,25,26,27],[0,1,2,3,4,5,6,7,8,9,10,11,12,13,14,15,16,17,18,19,20,21,22,23,24,25,26,27,28],[0,1,2,3,4,5,6,7,8,9,10,11,12,13,14,15,16,17,18,19,20,21,22,23,24,25,26,27,28,29],[0,1,2,3,4,5,6,7,8,9,10,11,12,13,14,15,16,17,18,19,20,21,22,23,24,25,26,27,28,29,30],[0,1,2,3,4,5,6,7,8,9,10,11,12,13,14,15,16,17,18,19,20,21,22,23,24,25,26,27,28,29,30,31],[0,1,2,3,4,5,6,7,8,9,10,11,12,13,14,15,16,17,18,19,20,21,22,23,24,25,26,27,28,29,30,31,32],[0,1,2,3,4,5,6,7,8,9,10,11,12,13,14,15,16,17,18,19,20,21,22,23,24,25,26,27,28],[0,1,2,3,4,5,6,7,8,9,10,11,12,13,14,15,16,17,18,19,20,21,22,23,24,25,26,27,28,34],[0,1,2,3,4,5,6,7,8,9,10,11,12,13,14,15,16,17,18,19,20,21,22,23,24,25,26,27,28],[0,1,2,3,4,5,6,7,8,9,10,11,12,13,14,15,16,17,18,19,20,21,22,23,24,25,26,27,28,34,35,36],[0,1,2,3,4,5,6,7,8,9,10,11,12,13,14,15,16,17,18,19,20,21,22,23,24,25,26,27,28,34,35,36,37],[0,1,2,3,4,5,6,7,8,9,10,11,12,13,14,15,16,17,18,19,20,21,22,23,24,25,26,27,28,34,35,36,37,38],[0,1,2,3,4,5,6,7,8,9,10,11,12,13,14,15,16,17,18,19,20,21,22,23,24,25,26,27,28,29,30,31,32,33,34,35,36,37,38,39],[0,1,2,3,4,5,6,7,8,9,10,11,12,13,14,15,16,17,18,19,20,21,22,23,24,25,26,27,28,29,30,31,32,33,34,35,36,37,38,39,40],[0,1,2,3,4,5,6,7,8,9,10,11,12,13,14,15,16,17,18,19,20,21,22,23,24,25,26,27,28,29,30,31,32,33,34,35,36,37,38,39,40,41],[0,1,2,3,4,5,6,7,8,9,10,11,12,13,14,15,16,17,18,19,20,21,22,23,24,25,26,27,28,29,30,31,32,33,34,35,36,37,38,39,40,41,42],[0,1,2,3,4,5,6,7,8,9,10,11,12,13,14,15,16,17,18,19,20,21,22,23,24,25,26,27,28,29,30,31,32,33,34,35,36,37,38,39,40,41,42,43],[0,1,2,3,4,5,6,7,8,9,10,11,12,13,14,15,16,17,18,19,20,21,22,23,24,25,26,27,28,29,30,31,32,33,34,35,36,37,38,39,40,41,42,43,44],[0,1,2,3,4,5,6,7,8,9,10,11,12,13,14,15,16,17,18,19,20,21,22,23,24,25,26,27,28,29,30,31,32,33,34,35,36,37,38,39,40,41,42,43,44,45],[0,1,2,3,4,5,6,7,8,9,10,11,12,13,14,15,16,17,18,19,20,21,22,23,24,25,26,27,28,29,30,31,32,33,34,35,36,37,38,39,40,41,42,43,44,45,46],[0,1,2,3,4,5,6,7,8,9,10,11,12,13,14,15,16,17,18,19,20,21,22,23,24,25,26,27,28,29,30,31,32,33,34,35,36,37,38,39,40,41,42,43,44,45,46,47],[0,1,2,3,4,5,6,7,8,9,10,11,12,13,14,15,16,17,18,19,20,21,22,23,24,25,26,27,28,29,30,31,32,33,34,35,36,37,38,39,40,41,42],[0,1,2,3,4,5,6,7,8,9,10,11,12,13,14,15,16,17,18,19,20,21,22,23,24,25,26,27,28,29,30,31,32,33,34,35,36,37,38,39,40,41,42,49],[0,1,2,3,4,5,6,7,8,9,10,11,12,13,14,15,16,17,18,19,20,21,22,23,24,25,26,27,28,29,30,31,32,33,34,35,36,37,38,39,40,41,42],[0,1,2,3,4,5,6,7,8,9,10,11,12,13,14,15,16,17,18,19,20,21,22,23,24,25,26,27,28,29,30,31,32,33,34,35,36,37,38,39,40,41,42,49,50,51],[0,1,2,3,4,5,6,7,8,9,10,11,12,13,14,15,16,17,18,19,20,21,22,23,24,25,26,27,28,29,30,31,32,33,34,35,36,37,38,39,40,41,42,49,50,51,52],[0,1,2,3,4,5,6,7,8,9,10,11,12,13,14,15,16,17,18,19,20,21,22,23,24,25,26,27,28,29,30,31,32,33,34,35,36,37,38,39,40,41,42,49,50,51,52,53],[0,1,2,3,4,5,6,7,8,9,10,11,12,13,14,15,16,17,18,19,20,21,22,23,24,25,26,27,28,29,30,31,32,33,34,35,36,37,38,39,40,41,42,43,44,45,46,47,48,49,50,51,52,53,54],[0,1,2,3,4,5,6,7,8,9,10,11,12,13,14,15,16,17,18,19,20,21,22,23,24,25,26,27,28,29,30,31,32,33,34,35,36,37,38,39,40,41,42,43,44,45,46,47,48,49,50,51,52,53,54,55]] [62,63,64,65,66,67,68,69,70,71,72,73,74,75,76,77,78,79,80,81,82,83,84,85,86,87,88,89,90,91,92,93,94,95,96,97,98,99,100,101,102,103,104,105,106,107,108,109,110,111,112,113,114,115,116,117,118] [fun v _=>v=(.bool x75.2:Value),fun v _=>v=(.bool (!x75.2):Value),fun v _=>v=(.bool (!x75.2):Value),fun v _=>v=(.bool x120.2:Value),fun v _=>v=(.bool (!x120.2):Value),fun v _=>v=(.bool (!x120.2):Value),fun v _=>v=(.bool (!x120.2):Value),fun v _=>v=(.pointer (some ⟨b92,2,none⟩):Value),fun v _=>v=(.int .i64 x75.1.b:Value),fun v _=>v=(.pointer (some ⟨b54,1,none⟩):Value),fun v _=>v=(.int .i64 x42.first:Value),fun v _=>v=(.int .i64 s70.1:Value),fun v _=>v=(.int .i64 (IntKind.i64.wrap (x42.first + s70.1)):Value),fun v _=>v=(.bool (x75.1.b != (IntKind.i64.wrap (x42.first + s70.1))):Value),fun v _=>v=(.bool (x75.1.b != (IntKind.i64.wrap (x42.first + s70.1))):Value),fun v _=>v=(.bool (x75.1.b != (IntKind.i64.wrap (x42.first + s70.1))):Value),fun v _=>v=(.pointer (some ⟨b92,1,none⟩):Value),fun v _=>v=(.int .i64 x75.1.a:Value),fun v _=>v=(.pointer (some ⟨b54,0,none⟩):Value),fun v _=>v=(.int .i64 x42.epoch:Value),fun v _=>v=(.bool (x75.1.a != x42.epoch):Value),fun v _=>v=(.bool (x75.1.a != x42.epoch):Value),fun v _=>v=(.bool (x75.1.a != x42.epoch):Value),fun v _=>v=(.pointer (some ⟨b92,7,none⟩):Value),fun v _=>v=(.slice A89 x75.1.entries.length c90:Value),fun v _=>v=(.int .i64 (x75.1.entries.length:Int):Value),fun v _=>v=(.bool ((x75.1.entries.length:Int) != (1:Int)):Value),fun v _=>v=(.bool ((x75.1.entries.length:Int) != (1:Int)):Value),fun v _=>v=(.bool ((x75.1.entries.length:Int) != (1:Int)):Value),fun v _=>v=(.pointer (some ⟨b92,7,none⟩):Value),fun v _=>v=(.slice A89 x75.1.entries.length c90:Value),fun v _=>v=(.pointer (some (elemA A89 kEnt.n (0:Int).toNat)):Value),fun v _=>v=(.pointer (some (ad (elemA A89 kEnt.n (0:Int).toNat) 0)):Value),fun v _=>v=(str ((nth x75.1.entries (0:Int)).key):Value),fun v _=>v=(.pointer (some ⟨b54,2,none⟩):Value),fun v _=>v=(.slice A51 x42.names.length c52:Value),fun v _=>v=(.int .i64 s70.1:Value),fun v _=>v=(.pointer (some (elemA A51 kNm.n s70.1.toNat)):Value),fun v _=>v=(.pointer (some (ad (elemA A51 kNm.n s70.1.toNat) 1)):Value),fun v _=>v=(str ((nth x42.names s70.1).key):Value),fun v _=>v=(.bool (!(((nth x75.1.entries (0:Int)).key)==((nth x42.names s70.1).key))):Value),fun v _=>v=(.bool (!(((nth x75.1.entries (0:Int)).key)==((nth x42.names s70.1).key))):Value),fun v _=>v=(.bool (!(((nth x75.1.entries (0:Int)).key)==((nth x42.names s70.1).key))):Value),fun v _=>v=((undef:Value):Value),fun v _=>v=((undef:Value):Value),fun v _=>v=((undef:Value):Value),fun v _=>v=((undef:Value):Value),fun v _=>v=((undef:Value):Value),fun v _=>v=((undef:Value):Value),fun v _=>v=((undef:Value):Value),fun v _=>v=((undef:Value):Value),fun v _=>v=((undef:Value):Value),fun v _=>v=((undef:Value):Value),fun v _=>v=((undef:Value):Value),fun v _=>v=((undef:Value):Value),fun v _=>v=((undef:Value):Value),fun v _=>v=(.bool true:Value)] (by kernel_rfl) ⟨fun _ _ _ _ _ h=>h,fun _ _ _ _ _ h=>h,fun _ _ _ _ _ h=>h,fun _ _ _ _ _ h=>h,fun _ _ _ _ _ h=>h,fun _ _ _ _ _ h=>h,fun _ _ _ _ _ h=>h,fun _ _ _ _ _ h=>h,fun _ _ _ _ _ h=>h,fun _ _ _ _ _ h=>h,fun _ _ _ _ _ h=>h,fun _ _ _ _ _ h=>h,fun _ _ _ _ _ h=>h,fun _ _ _ _ _ h=>h,fun _ _ _ _ _ h=>h,fun _ _ _ _ _ h=>h,fun _ _ _ _ _ h=>h,fun _ _ _ _ _ h=>h,fun _ _ _ _ _ h=>h,fun _ _ _ _ _ h=>h,fun _ _ _ _ _ h=>h,fun _ _ _ _ _ h=>h,fun _ _ _ _ _ h=>h,fun _ _ _ _ _ h=>h,fun _ _ _ _ _ h=>h,fun _ _ _ _ _ h=>h,fun _ _ _ _ _ h=>h,fun _ _ _ _ _ h=>h,fun _ _ _ _ _ h=>h,fun _ _ _ _ _ h=>h,fun _ _ _ _ _ h=>h,fun _ _ _ _ _ h=>h,fun _ _ _ _ _ h=>h,fun _ _ _ _ _ h=>h,fun _ _ _ _ _ h=>h,fun _ _ _ _ _ h=>h,fun _ _ _ _ _ h=>h,fun _ _ _ _ _ h=>h,fun _ _ _ _ _ h=>h,fun _ _ _ _ _ h=>h,fun _ _ _ _ _ h=>h,fun _ _ _ _ _ h=>h,fun _ _ _ _ _ h=>h,fun _ _ _ _ _ h=>h,fun _ _ _ _ _ h=>h,fun _ _ _ _ _ h=>h,fun _ _ _ _ _ h=>h,fun _ _ _ _ _ h=>h,fun _ _ _ _ _ h=>h,fun _ _ _ _ _ h=>h,fun _ _ _ _ _ h=>h,fun _ _ _ _ _ h=>h,fun _ _ _ _ _ h=>h,fun _ _ _ _ _ h=>h,fun _ _ _ _ _ h=>h,fun _ _ _ _ _ h=>h,fun _ _ _ _ _ h=>h,trivial⟩ ?_ ?_
           ·refine ⟨?_,?_,?_,?_,?_,?_,?_,?_,?_,?_,?_,?_,?_,?_,?_,?_,?_,?_,?_,?_,?_,?_,?_,?_,?_,?_,?_,?_,?_,?_,?_,?_,?_,?_,?_,?_,?_,?_,?_,?_,?_,?_,?_,?_,?_,?_,?_,?_,?_,?_,?_,?_,?_,?_,?_,?_,?_,trivial⟩
            ·intro ρ w517o F517o hS hρ
             have q13:ρ 13=.bool x75.2:=hρ 13 (by kernel_rfl)
             exact o_q (r_mov q13) ⟨Fr.refl _ _,rfl⟩
            ·intro ρ w517o F517o hS hρ
             have q62:ρ 62=.bool x75.2:=hS 0 (by decide) 62 rfl
             exact o_q (r_not q62) ⟨Fr.refl _ _,rfl⟩
            ·intro ρ w517o F517o hS hρ
             have q63:ρ 63=.bool (!x75.2):=hS 1 (by decide) 63 rfl
             exact o_q (r_mov q63) ⟨Fr.refl _ _,rfl⟩
            ·intro ρ w517o F517o hS hρ
             have q15:ρ 15=.bool x120.2:=hρ 15 (by kernel_rfl)
             have q64:ρ 64=.bool (!x75.2):=hS 2 (by decide) 64 rfl
             exact o_v (r_mov q15) (want_t (t:=64) rfl q64 hc195) rfl rfl (eo_nil ⟨rfl,rfl,_,rfl,Fr.refl _ _,rfl⟩)
            ·intro ρ w517o F517o hS hρ
             have q64:ρ 64=.bool (!x75.2):=hS 2 (by decide) 64 rfl
             have q65:ρ 65=.bool x120.2:=hS 3 (by decide) 65 rfl
             exact o_v (r_not q65) (want_t (t:=64) rfl q64 hc195) rfl rfl (eo_nil ⟨rfl,rfl,_,rfl,Fr.refl _ _,rfl⟩)
            ·intro ρ w517o F517o hS hρ
             have q64:ρ 64=.bool (!x75.2):=hS 2 (by decide) 64 rfl
             have q66:ρ 66=.bool (!x120.2):=hS 4 (by decide) 66 rfl
             exact o_q (r_pickF q64 hc195 q66) ⟨Fr.refl _ _,rfl⟩
            ·intro ρ w517o F517o hS hρ
             have q67:ρ 67=.bool (!x120.2):=hS 5 (by decide) 67 rfl
             exact o_q (r_mov q67) ⟨Fr.refl _ _,rfl⟩
            ·intro ρ w517o F517o hS hρ
             have q12:ρ 12=.pointer (some ⟨b92,0,none⟩):=hρ 12 (by kernel_rfl)
             have q68:ρ 68=.bool (!x120.2):=hS 6 (by decide) 68 rfl
             exact o_v (r_fa fld_frame_Frame_2 rfl q12) (want_t (t:=68) rfl q68 hc220) rfl rfl (eo_nil ⟨rfl,rfl,_,rfl,Fr.refl _ _,rfl⟩)
            ·intro ρ w517o F517o hS hρ
             have q68:ρ 68=.bool (!x120.2):=hS 6 (by decide) 68 rfl
             have q69:ρ 69=.pointer (some ⟨b92,2,none⟩):=hS 7 (by decide) 69 rfl
             exact o_v (r_ld one_int q69 ((B172.ex F517o).cell rfl)) (want_t (t:=68) rfl q68 hc220) rfl rfl (eo_nil ⟨rfl,rfl,_,rfl,Fr.refl _ _,rfl⟩)
            ·intro ρ w517o F517o hS hρ
             have q10:ρ 10=.pointer (some ⟨b54,0,none⟩):=hρ 10 (by kernel_rfl)
             have q68:ρ 68=.bool (!x120.2):=hS 6 (by decide) 68 rfl
             exact o_v (r_fa fld_buffer_Buffer_1 rfl q10) (want_t (t:=68) rfl q68 hc220) rfl rfl (eo_nil ⟨rfl,rfl,_,rfl,Fr.refl _ _,rfl⟩)
            ·intro ρ w517o F517o hS hρ
             have q68:ρ 68=.bool (!x120.2):=hS 6 (by decide) 68 rfl
             have q71:ρ 71=.pointer (some ⟨b54,1,none⟩):=hS 9 (by decide) 71 rfl
             exact o_v (r_ld one_int q71 ((B171.ex F517o).cell rfl)) (want_t (t:=68) rfl q68 hc220) rfl rfl (eo_nil ⟨rfl,rfl,_,rfl,Fr.refl _ _,rfl⟩)
            ·intro ρ w517o F517o hS hρ
             have q11:ρ 11=.int .i64 s70.1:=hρ 11 (by kernel_rfl)
             have q68:ρ 68=.bool (!x120.2):=hS 6 (by decide) 68 rfl
             exact o_v (r_mov q11) (want_t (t:=68) rfl q68 hc220) rfl rfl (eo_nil ⟨rfl,rfl,_,rfl,Fr.refl _ _,rfl⟩)
            ·intro ρ w517o F517o hS hρ
             have q68:ρ 68=.bool (!x120.2):=hS 6 (by decide) 68 rfl
             have q72:ρ 72=.int .i64 x42.first:=hS 10 (by decide) 72 rfl
             have q73:ρ 73=.int .i64 s70.1:=hS 11 (by decide) 73 rfl
             exact o_v (r_int q72 q73 rfl) (want_t (t:=68) rfl q68 hc220) rfl rfl (eo_nil ⟨rfl,rfl,_,rfl,Fr.refl _ _,rfl⟩)
            ·intro ρ w517o F517o hS hρ
             have q68:ρ 68=.bool (!x120.2):=hS 6 (by decide) 68 rfl
             have q70:ρ 70=.int .i64 x75.1.b:=hS 8 (by decide) 70 rfl
             have q74:ρ 74=.int .i64 (IntKind.i64.wrap (x42.first + s70.1)):=hS 12 (by decide) 74 rfl
             exact o_v (r_int q70 q74 rfl) (want_t (t:=68) rfl q68 hc220) rfl rfl (eo_nil ⟨rfl,rfl,_,rfl,Fr.refl _ _,rfl⟩)
            ·intro ρ w517o F517o hS hρ
             have q68:ρ 68=.bool (!x120.2):=hS 6 (by decide) 68 rfl
             have q75:ρ 75=.bool (x75.1.b != (IntKind.i64.wrap (x42.first + s70.1))):=hS 13 (by decide) 75 rfl
             exact o_q (r_pickF q68 hc220 q75) ⟨Fr.refl _ _,rfl⟩
            ·intro ρ w517o F517o hS hρ
             have q76:ρ 76=.bool (x75.1.b != (IntKind.i64.wrap (x42.first + s70.1))):=hS 14 (by decide) 76 rfl
             exact o_q (r_mov q76) ⟨Fr.refl _ _,rfl⟩
            ·intro ρ w517o F517o hS hρ
             have q12:ρ 12=.pointer (some ⟨b92,0,none⟩):=hρ 12 (by kernel_rfl)
             have q77:ρ 77=.bool (x75.1.b != (IntKind.i64.wrap (x42.first + s70.1))):=hS 15 (by decide) 77 rfl
             exact o_v (r_fa fld_frame_Frame_1 rfl q12) (want_t (t:=77) rfl q77 hc245) rfl rfl (eo_nil ⟨rfl,rfl,_,rfl,Fr.refl _ _,rfl⟩)
            ·intro ρ w517o F517o hS hρ
             have q77:ρ 77=.bool (x75.1.b != (IntKind.i64.wrap (x42.first + s70.1))):=hS 15 (by decide) 77 rfl
             have q78:ρ 78=.pointer (some ⟨b92,1,none⟩):=hS 16 (by decide) 78 rfl
             exact o_v (r_ld one_int q78 ((B172.ex F517o).cell rfl)) (want_t (t:=77) rfl q77 hc245) rfl rfl (eo_nil ⟨rfl,rfl,_,rfl,Fr.refl _ _,rfl⟩)
            ·intro ρ w517o F517o hS hρ
             have q10:ρ 10=.pointer (some ⟨b54,0,none⟩):=hρ 10 (by kernel_rfl)
             have q77:ρ 77=.bool (x75.1.b != (IntKind.i64.wrap (x42.first + s70.1))):=hS 15 (by decide) 77 rfl
             exact o_v (r_fa fld_buffer_Buffer_0 rfl q10) (want_t (t:=77) rfl q77 hc245) rfl rfl (eo_nil ⟨rfl,rfl,_,rfl,Fr.refl _ _,rfl⟩)
            ·intro ρ w517o F517o hS hρ
             have q77:ρ 77=.bool (x75.1.b != (IntKind.i64.wrap (x42.first + s70.1))):=hS 15 (by decide) 77 rfl
             have q80:ρ 80=.pointer (some ⟨b54,0,none⟩):=hS 18 (by decide) 80 rfl
             exact o_v (r_ld one_int q80 ((B171.ex F517o).cell rfl)) (want_t (t:=77) rfl q77 hc245) rfl rfl (eo_nil ⟨rfl,rfl,_,rfl,Fr.refl _ _,rfl⟩)
            ·intro ρ w517o F517o hS hρ
             have q77:ρ 77=.bool (x75.1.b != (IntKind.i64.wrap (x42.first + s70.1))):=hS 15 (by decide) 77 rfl
             have q79:ρ 79=.int .i64 x75.1.a:=hS 17 (by decide) 79 rfl
             have q81:ρ 81=.int .i64 x42.epoch:=hS 19 (by decide) 81 rfl
             exact o_v (r_int q79 q81 rfl) (want_t (t:=77) rfl q77 hc245) rfl rfl (eo_nil ⟨rfl,rfl,_,rfl,Fr.refl _ _,rfl⟩)
            ·intro ρ w517o F517o hS hρ
             have q77:ρ 77=.bool (x75.1.b != (IntKind.i64.wrap (x42.first + s70.1))):=hS 15 (by decide) 77 rfl
             have q82:ρ 82=.bool (x75.1.a != x42.epoch):=hS 20 (by decide) 82 rfl
             exact o_q (r_pickF q77 hc245 q82) ⟨Fr.refl _ _,rfl⟩
            ·intro ρ w517o F517o hS hρ
             have q83:ρ 83=.bool (x75.1.a != x42.epoch):=hS 21 (by decide) 83 rfl
             exact o_q (r_mov q83) ⟨Fr.refl _ _,rfl⟩
            ·intro ρ w517o F517o hS hρ
             have q12:ρ 12=.pointer (some ⟨b92,0,none⟩):=hρ 12 (by kernel_rfl)
             have q84:ρ 84=.bool (x75.1.a != x42.epoch):=hS 22 (by decide) 84 rfl
             exact o_v (r_fa fld_frame_Frame_4 rfl q12) (want_t (t:=84) rfl q84 hc294) rfl rfl (eo_nil ⟨rfl,rfl,_,rfl,Fr.refl _ _,rfl⟩)
            ·intro ρ w517o F517o hS hρ
             have q84:ρ 84=.bool (x75.1.a != x42.epoch):=hS 22 (by decide) 84 rfl
             have q85:ρ 85=.pointer (some ⟨b92,7,none⟩):=hS 23 (by decide) 85 rfl
             exact o_v (r_ld one_s_api_Entry q85 ((B172.ex F517o).cell rfl)) (want_t (t:=84) rfl q84 hc294) rfl rfl (eo_nil ⟨rfl,rfl,_,rfl,Fr.refl _ _,rfl⟩)
            ·intro ρ w517o F517o hS hρ
             have q84:ρ 84=.bool (x75.1.a != x42.epoch):=hS 22 (by decide) 84 rfl
             have q86:ρ 86=.slice A89 x75.1.entries.length c90:=hS 24 (by decide) 86 rfl
             exact o_v (r_len_slc un_s_api_Entry q86) (want_t (t:=84) rfl q84 hc294) rfl rfl (eo_nil ⟨rfl,rfl,_,rfl,Fr.refl _ _,rfl⟩)
            ·intro ρ w517o F517o hS hρ
             have q84:ρ 84=.bool (x75.1.a != x42.epoch):=hS 22 (by decide) 84 rfl
             have q87:ρ 87=.int .i64 (x75.1.entries.length:Int):=hS 25 (by decide) 87 rfl
             exact o_v (r_int q87 rfl rfl) (want_t (t:=84) rfl q84 hc294) rfl rfl (eo_nil ⟨rfl,rfl,_,rfl,Fr.refl _ _,rfl⟩)
            ·intro ρ w517o F517o hS hρ
             have q84:ρ 84=.bool (x75.1.a != x42.epoch):=hS 22 (by decide) 84 rfl
             have q88:ρ 88=.bool ((x75.1.entries.length:Int) != (1:Int)):=hS 26 (by decide) 88 rfl
             exact o_q (r_pickF q84 hc294 q88) ⟨Fr.refl _ _,rfl⟩
            ·intro ρ w517o F517o hS hρ
             have q89:ρ 89=.bool ((x75.1.entries.length:Int) != (1:Int)):=hS 27 (by decide) 89 rfl
             exact o_q (r_mov q89) ⟨Fr.refl _ _,rfl⟩
            ·intro ρ w517o F517o hS hρ
             have q12:ρ 12=.pointer (some ⟨b92,0,none⟩):=hρ 12 (by kernel_rfl)
             have q90:ρ 90=.bool ((x75.1.entries.length:Int) != (1:Int)):=hS 28 (by decide) 90 rfl
             exact o_v (r_fa fld_frame_Frame_4 rfl q12) (want_t (t:=90) rfl q90 hc367) rfl rfl (eo_nil ⟨rfl,rfl,_,rfl,Fr.refl _ _,rfl⟩)
            ·intro ρ w517o F517o hS hρ
             have q90:ρ 90=.bool ((x75.1.entries.length:Int) != (1:Int)):=hS 28 (by decide) 90 rfl
             have q91:ρ 91=.pointer (some ⟨b92,7,none⟩):=hS 29 (by decide) 91 rfl
             exact o_v (r_ld one_s_api_Entry q91 ((B172.ex F517o).cell rfl)) (want_t (t:=90) rfl q90 hc367) rfl rfl (eo_nil ⟨rfl,rfl,_,rfl,Fr.refl _ _,rfl⟩)
            ·intro ρ w517o F517o hS hρ
             have q90:ρ 90=.bool ((x75.1.entries.length:Int) != (1:Int)):=hS 28 (by decide) 90 rfl
             have q92:ρ 92=.slice A89 x75.1.entries.length c90:=hS 30 (by decide) 92 rfl
             exact o_v (r_ia slc_s_api_Entry q92 rfl ((H91.fr (G168.trans (Fr.ext F517o)) (fun _ h=>h)).now.2 _ (lt_toNat ha518.1 ha518.2)).1 ha518.1 ha518.2) (want_t (t:=90) rfl q90 hc367) rfl rfl (eo_nil ⟨rfl,rfl,_,rfl,Fr.refl _ _,rfl⟩)
            ·intro ρ w517o F517o hS hρ
             have q90:ρ 90=.bool ((x75.1.entries.length:Int) != (1:Int)):=hS 28 (by decide) 90 rfl
             have q93:ρ 93=.pointer (some (elemA A89 kEnt.n (0:Int).toNat)):=hS 31 (by decide) 93 rfl
             exact o_v (r_fad fld_api_Entry_0 (elemA_spot _ _ _) q93) (want_t (t:=90) rfl q90 hc367) rfl rfl (eo_nil ⟨rfl,rfl,_,rfl,Fr.refl _ _,rfl⟩)
            ·intro ρ w517o F517o hS hρ
             have G633:Fr (b139::(b92::(b54::(b10::L)))) w161 w517o:=Fr.ext F517o
             have q90:ρ 90=.bool ((x75.1.entries.length:Int) != (1:Int)):=hS 28 (by decide) 90 rfl
             have q94:ρ 94=.pointer (some (ad (elemA A89 kEnt.n (0:Int).toNat) 0)):=hS 32 (by decide) 94 rfl
             exact o_v (r_ld' one_string q94 rfl ((H522.fr G633 (fun _ h=>h)).now.1.at (j:=0) rfl)) (want_t (t:=90) rfl q90 hc367) rfl rfl (eo_nil ⟨rfl,rfl,_,rfl,Fr.refl _ _,rfl⟩)
            ·intro ρ w517o F517o hS hρ
             have q10:ρ 10=.pointer (some ⟨b54,0,none⟩):=hρ 10 (by kernel_rfl)
             have q90:ρ 90=.bool ((x75.1.entries.length:Int) != (1:Int)):=hS 28 (by decide) 90 rfl
             exact o_v (r_fa fld_buffer_Buffer_2 rfl q10) (want_t (t:=90) rfl q90 hc367) rfl rfl (eo_nil ⟨rfl,rfl,_,rfl,Fr.refl _ _,rfl⟩)
            ·intro ρ w517o F517o hS hρ
             have q90:ρ 90=.bool ((x75.1.entries.length:Int) != (1:Int)):=hS 28 (by decide) 90 rfl
             have q96:ρ 96=.pointer (some ⟨b54,2,none⟩):=hS 34 (by decide) 96 rfl
             exact o_v (r_ld one_s_buffer_Name q96 ((B171.ex F517o).cell rfl)) (want_t (t:=90) rfl q90 hc367) rfl rfl (eo_nil ⟨rfl,rfl,_,rfl,Fr.refl _ _,rfl⟩)
            ·intro ρ w517o F517o hS hρ
             have q11:ρ 11=.int .i64 s70.1:=hρ 11 (by kernel_rfl)
             have q90:ρ 90=.bool ((x75.1.entries.length:Int) != (1:Int)):=hS 28 (by decide) 90 rfl
             exact o_v (r_mov q11) (want_t (t:=90) rfl q90 hc367) rfl rfl (eo_nil ⟨rfl,rfl,_,rfl,Fr.refl _ _,rfl⟩)
            ·intro ρ w517o F517o hS hρ
             have q90:ρ 90=.bool ((x75.1.entries.length:Int) != (1:Int)):=hS 28 (by decide) 90 rfl
             have q97:ρ 97=.slice A51 x42.names.length c52:=hS 35 (by decide) 97 rfl
             have q98:ρ 98=.int .i64 s70.1:=hS 36 (by decide) 98 rfl
             exact o_v (r_ia slc_s_buffer_Name q97 q98 ((H53.fr (G165.trans (Fr.ext F517o)) (fun _ h=>h)).now.2 _ (lt_toNat ha529.1 ha529.2)).1 ha529.1 ha529.2) (want_t (t:=90) rfl q90 hc367) rfl rfl (eo_nil ⟨rfl,rfl,_,rfl,Fr.refl _ _,rfl⟩)
            ·intro ρ w517o F517o hS hρ
             have q90:ρ 90=.bool ((x75.1.entries.length:Int) != (1:Int)):=hS 28 (by decide) 90 rfl
             have q99:ρ 99=.pointer (some (elemA A51 kNm.n s70.1.toNat)):=hS 37 (by decide) 99 rfl
             exact o_v (r_fad fld_buffer_Name_1 (elemA_spot _ _ _) q99) (want_t (t:=90) rfl q90 hc367) rfl rfl (eo_nil ⟨rfl,rfl,_,rfl,Fr.refl _ _,rfl⟩)
            ·intro ρ w517o F517o hS hρ
             have G672:Fr (b139::(b92::(b54::(b10::L)))) w161 w517o:=Fr.ext F517o
             have q90:ρ 90=.bool ((x75.1.entries.length:Int) != (1:Int)):=hS 28 (by decide) 90 rfl
             have q100:ρ 100=.pointer (some (ad (elemA A51 kNm.n s70.1.toNat) 1)):=hS 38 (by decide) 100 rfl
             exact o_v (r_ld' one_string q100 rfl ((H533.fr G672 (fun _ h=>h)).now.1.at (j:=1) rfl)) (want_t (t:=90) rfl q90 hc367) rfl rfl (eo_nil ⟨rfl,rfl,_,rfl,Fr.refl _ _,rfl⟩)
            ·intro ρ w517o F517o hS hρ
             have q90:ρ 90=.bool ((x75.1.entries.length:Int) != (1:Int)):=hS 28 (by decide) 90 rfl
             have q95:ρ 95=str ((nth x75.1.entries (0:Int)).key):=hS 33 (by decide) 95 rfl
             have q101:ρ 101=str ((nth x42.names s70.1).key):=hS 39 (by decide) 101 rfl
             exact o_v (r_str q95 q101 rfl) (want_t (t:=90) rfl q90 hc367) rfl rfl (eo_nil ⟨rfl,rfl,_,rfl,Fr.refl _ _,rfl⟩)
            ·intro ρ w517o F517o hS hρ
             have q90:ρ 90=.bool ((x75.1.entries.length:Int) != (1:Int)):=hS 28 (by decide) 90 rfl
             have q102:ρ 102=.bool (!(((nth x75.1.entries (0:Int)).key)==((nth x42.names s70.1).key))):=hS 40 (by decide) 102 rfl
             exact o_q (r_pickF q90 hc367 q102) ⟨Fr.refl _ _,rfl⟩
            ·intro ρ w517o F517o hS hρ
             have q103:ρ 103=.bool (!(((nth x75.1.entries (0:Int)).key)==((nth x42.names s70.1).key))):=hS 41 (by decide) 103 rfl
             exact o_q (r_mov q103) ⟨Fr.refl _ _,rfl⟩
            ·intro ρ w517o F517o hS hρ
             have q12:ρ 12=.pointer (some ⟨b92,0,none⟩):=hρ 12 (by kernel_rfl)
             have q104:ρ 104=.bool (!(((nth x75.1.entries (0:Int)).key)==((nth x42.names s70.1).key))):=hS 42 (by decide) 104 rfl
             exact o_no (want_f (t:=104) rfl q104 hc484) rfl (eo_nil ⟨rfl,rfl,undef,rfl,Fr.refl _ _,rfl⟩)
            ·intro ρ w517o F517o hS hρ
             have q104:ρ 104=.bool (!(((nth x75.1.entries (0:Int)).key)==((nth x42.names s70.1).key))):=hS 42 (by decide) 104 rfl
             have q105:ρ 105=(undef:Value):=hS 43 (by decide) 105 rfl
             exact o_no (want_f (t:=104) rfl q104 hc484) rfl (eo_nil ⟨rfl,rfl,undef,rfl,Fr.refl _ _,rfl⟩)
            ·intro ρ w517o F517o hS hρ
             have q104:ρ 104=.bool (!(((nth x75.1.entries (0:Int)).key)==((nth x42.names s70.1).key))):=hS 42 (by decide) 104 rfl
             have q106:ρ 106=(undef:Value):=hS 44 (by decide) 106 rfl
             exact o_no (want_f (t:=104) rfl q104 hc484) rfl (eo_nil ⟨rfl,rfl,undef,rfl,Fr.refl _ _,rfl⟩)
            ·intro ρ w517o F517o hS hρ
             have q104:ρ 104=.bool (!(((nth x75.1.entries (0:Int)).key)==((nth x42.names s70.1).key))):=hS 42 (by decide) 104 rfl
             have q107:ρ 107=(undef:Value):=hS 45 (by decide) 107 rfl
             exact o_no (want_f (t:=104) rfl q104 hc484) rfl (eo_nil ⟨rfl,rfl,undef,rfl,Fr.refl _ _,rfl⟩)
            ·intro ρ w517o F517o hS hρ
             have q104:ρ 104=.bool (!(((nth x75.1.entries (0:Int)).key)==((nth x42.names s70.1).key))):=hS 42 (by decide) 104 rfl
             have q108:ρ 108=(undef:Value):=hS 46 (by decide) 108 rfl
             exact o_no (want_f (t:=104) rfl q104 hc484) rfl (eo_nil ⟨rfl,rfl,undef,rfl,Fr.refl _ _,rfl⟩)
            ·intro ρ w517o F517o hS hρ
             have q104:ρ 104=.bool (!(((nth x75.1.entries (0:Int)).key)==((nth x42.names s70.1).key))):=hS 42 (by decide) 104 rfl
             have q109:ρ 109=(undef:Value):=hS 47 (by decide) 109 rfl
             exact o_no (want_f (t:=104) rfl q104 hc484) rfl (eo_nil ⟨rfl,rfl,undef,rfl,Fr.refl _ _,rfl⟩)
            ·intro ρ w517o F517o hS hρ
             have q10:ρ 10=.pointer (some ⟨b54,0,none⟩):=hρ 10 (by kernel_rfl)
             have q104:ρ 104=.bool (!(((nth x75.1.entries (0:Int)).key)==((nth x42.names s70.1).key))):=hS 42 (by decide) 104 rfl
             exact o_no (want_f (t:=104) rfl q104 hc484) rfl (eo_nil ⟨rfl,rfl,undef,rfl,Fr.refl _ _,rfl⟩)
            ·intro ρ w517o F517o hS hρ
             have q104:ρ 104=.bool (!(((nth x75.1.entries (0:Int)).key)==((nth x42.names s70.1).key))):=hS 42 (by decide) 104 rfl
             have q111:ρ 111=(undef:Value):=hS 49 (by decide) 111 rfl
             exact o_no (want_f (t:=104) rfl q104 hc484) rfl (eo_nil ⟨rfl,rfl,undef,rfl,Fr.refl _ _,rfl⟩)
            ·intro ρ w517o F517o hS hρ
             have q11:ρ 11=.int .i64 s70.1:=hρ 11 (by kernel_rfl)
             have q104:ρ 104=.bool (!(((nth x75.1.entries (0:Int)).key)==((nth x42.names s70.1).key))):=hS 42 (by decide) 104 rfl
             exact o_no (want_f (t:=104) rfl q104 hc484) rfl (eo_nil ⟨rfl,rfl,undef,rfl,Fr.refl _ _,rfl⟩)
            ·intro ρ w517o F517o hS hρ
             have q104:ρ 104=.bool (!(((nth x75.1.entries (0:Int)).key)==((nth x42.names s70.1).key))):=hS 42 (by decide) 104 rfl
             have q112:ρ 112=(undef:Value):=hS 50 (by decide) 112 rfl
             have q113:ρ 113=(undef:Value):=hS 51 (by decide) 113 rfl
             exact o_no (want_f (t:=104) rfl q104 hc484) rfl (eo_nil ⟨rfl,rfl,undef,rfl,Fr.refl _ _,rfl⟩)
            ·intro ρ w517o F517o hS hρ
             have q104:ρ 104=.bool (!(((nth x75.1.entries (0:Int)).key)==((nth x42.names s70.1).key))):=hS 42 (by decide) 104 rfl
             have q114:ρ 114=(undef:Value):=hS 52 (by decide) 114 rfl
             exact o_no (want_f (t:=104) rfl q104 hc484) rfl (eo_nil ⟨rfl,rfl,undef,rfl,Fr.refl _ _,rfl⟩)
            ·intro ρ w517o F517o hS hρ
             have q104:ρ 104=.bool (!(((nth x75.1.entries (0:Int)).key)==((nth x42.names s70.1).key))):=hS 42 (by decide) 104 rfl
             have q115:ρ 115=(undef:Value):=hS 53 (by decide) 115 rfl
             exact o_no (want_f (t:=104) rfl q104 hc484) rfl (eo_nil ⟨rfl,rfl,undef,rfl,Fr.refl _ _,rfl⟩)
            ·intro ρ w517o F517o hS hρ
             have q104:ρ 104=.bool (!(((nth x75.1.entries (0:Int)).key)==((nth x42.names s70.1).key))):=hS 42 (by decide) 104 rfl
             have q110:ρ 110=(undef:Value):=hS 48 (by decide) 110 rfl
             have q116:ρ 116=(undef:Value):=hS 54 (by decide) 116 rfl
             exact o_no (want_f (t:=104) rfl q104 hc484) rfl (eo_nil ⟨rfl,rfl,undef,rfl,Fr.refl _ _,rfl⟩)
            ·intro ρ w517o F517o hS hρ
             have q104:ρ 104=.bool (!(((nth x75.1.entries (0:Int)).key)==((nth x42.names s70.1).key))):=hS 42 (by decide) 104 rfl
             have q117:ρ 117=(undef:Value):=hS 55 (by decide) 117 rfl
             exact o_q (r_pickT q104 hc484 rfl) ⟨Fr.refl _ _,rfl⟩
           ·intro ρ w517 F517 hS hρ
            have q65:ρ 65=.bool x120.2:=hS 3 65 rfl
            have q66:ρ 66=.bool (!x120.2):=hS 4 66 rfl
            have q69:ρ 69=.pointer (some ⟨b92,2,none⟩):=hS 7 69 rfl
            have q70:ρ 70=.int .i64 x75.1.b:=hS 8 70 rfl
            have q71:ρ 71=.pointer (some ⟨b54,1,none⟩):=hS 9 71 rfl
            have q72:ρ 72=.int .i64 x42.first:=hS 10 72 rfl
            have q73:ρ 73=.int .i64 s70.1:=hS 11 73 rfl
            have q74:ρ 74=.int .i64 (IntKind.i64.wrap (x42.first + s70.1)):=hS 12 74 rfl
            have q75:ρ 75=.bool (x75.1.b != (IntKind.i64.wrap (x42.first + s70.1))):=hS 13 75 rfl
            have q78:ρ 78=.pointer (some ⟨b92,1,none⟩):=hS 16 78 rfl
            have q79:ρ 79=.int .i64 x75.1.a:=hS 17 79 rfl
            have q80:ρ 80=.pointer (some ⟨b54,0,none⟩):=hS 18 80 rfl
            have q81:ρ 81=.int .i64 x42.epoch:=hS 19 81 rfl
            have q82:ρ 82=.bool (x75.1.a != x42.epoch):=hS 20 82 rfl
            have q85:ρ 85=.pointer (some ⟨b92,7,none⟩):=hS 23 85 rfl
            have q86:ρ 86=.slice A89 x75.1.entries.length c90:=hS 24 86 rfl
            have q87:ρ 87=.int .i64 (x75.1.entries.length:Int):=hS 25 87 rfl
            have q88:ρ 88=.bool ((x75.1.entries.length:Int) != (1:Int)):=hS 26 88 rfl
            have q91:ρ 91=.pointer (some ⟨b92,7,none⟩):=hS 29 91 rfl
            have q92:ρ 92=.slice A89 x75.1.entries.length c90:=hS 30 92 rfl
            have q93:ρ 93=.pointer (some (elemA A89 kEnt.n (0:Int).toNat)):=hS 31 93 rfl
            have q94:ρ 94=.pointer (some (ad (elemA A89 kEnt.n (0:Int).toNat) 0)):=hS 32 94 rfl
            have q95:ρ 95=str ((nth x75.1.entries (0:Int)).key):=hS 33 95 rfl
            have q96:ρ 96=.pointer (some ⟨b54,2,none⟩):=hS 34 96 rfl
            have q97:ρ 97=.slice A51 x42.names.length c52:=hS 35 97 rfl
            have q98:ρ 98=.int .i64 s70.1:=hS 36 98 rfl
            have q99:ρ 99=.pointer (some (elemA A51 kNm.n s70.1.toNat)):=hS 37 99 rfl
            have q100:ρ 100=.pointer (some (ad (elemA A51 kNm.n s70.1.toNat) 1)):=hS 38 100 rfl
            have q101:ρ 101=str ((nth x42.names s70.1).key):=hS 39 101 rfl
            have q102:ρ 102=.bool (!(((nth x75.1.entries (0:Int)).key)==((nth x42.names s70.1).key))):=hS 40 102 rfl
            have q118:ρ 118=.bool true:=hS 56 118 rfl
            obtain ⟨ρ',rfl⟩:∃ ρ',ρ=envs (ovr [62,63,64,65,66,67,68,69,70,71,72,73,74,75,76,77,78,79,80,81,82,83,84,85,86,87,88,89,90,91,92,93,94,95,96,97,98,99,100,101,102,103,104,105,106,107,108,109,110,111,112,113,114,115,116,117,118] ρ' _) [(65,.bool x120.2),(66,.bool (!x120.2)),(69,.pointer (some ⟨b92,2,none⟩)),(70,.int .i64 x75.1.b),(71,.pointer (some ⟨b54,1,none⟩)),(72,.int .i64 x42.first),(73,.int .i64 s70.1),(74,.int .i64 (IntKind.i64.wrap (x42.first + s70.1))),(75,.bool (x75.1.b != (IntKind.i64.wrap (x42.first + s70.1)))),(78,.pointer (some ⟨b92,1,none⟩)),(79,.int .i64 x75.1.a),(80,.pointer (some ⟨b54,0,none⟩)),(81,.int .i64 x42.epoch),(82,.bool (x75.1.a != x42.epoch)),(85,.pointer (some ⟨b92,7,none⟩)),(86,.slice A89 x75.1.entries.length c90),(87,.int .i64 (x75.1.entries.length:Int)),(88,.bool ((x75.1.entries.length:Int) != (1:Int))),(91,.pointer (some ⟨b92,7,none⟩)),(92,.slice A89 x75.1.entries.length c90),(93,.pointer (some (elemA A89 kEnt.n (0:Int).toNat))),(94,.pointer (some (ad (elemA A89 kEnt.n (0:Int).toNat) 0))),(95,str ((nth x75.1.entries (0:Int)).key)),(96,.pointer (some ⟨b54,2,none⟩)),(97,.slice A51 x42.names.length c52),(98,.int .i64 s70.1),(99,.pointer (some (elemA A51 kNm.n s70.1.toNat))),(100,.pointer (some (ad (elemA A51 kNm.n s70.1.toNat) 1))),(101,str ((nth x42.names s70.1).key)),(102,.bool (!(((nth x75.1.entries (0:Int)).key)==((nth x42.names s70.1).key)))),(118,.bool true)]:=⟨ρ,ovr_self hρ ⟨q65,q66,q69,q70,q71,q72,q73,q74,q75,q78,q79,q80,q81,q82,q85,q86,q87,q88,q91,q92,q93,q94,q95,q96,q97,q98,q99,q100,q101,q102,q118,trivial⟩⟩
            have E677:=E162.trans F517
            refine sq_n ?_
            refine ec_condT rfl rfl ?_
            refine ec_seq ?_
            refine ec_region ?_
            refine o_w (v:=.bool false) (r_asg rfl) ?_
            refine eo_nil_sq ?_
            refine ec_ret ?_
            refine sq_ret ?_
            refine blk_ret ?_
            refine sq_ret ?_
            subst h
            exact lqR_r (end1 rfl ⟨_,rfl,E677,rfl⟩)
          ·replace h:=h.2 hc484
           obtain ⟨ha755,h⟩:=h
           obtain ⟨cs756,l758,H757⟩:=Stb.elem (by decide) (H91.up G168 (fun _ h=>h) (upc (.inr m148) (upc (.inr m100) (upc (.inl (List.Mem.head _)) (upc (.inl (List.Mem.tail _ (List.Mem.head _))) (fun m hm=>Or.inl (List.Mem.tail _ (List.Mem.tail _ hm)))))))) (0:Int) ha755.1 ha755.2
           obtain ⟨A760,c761,A763,c764,rfl,H759,H762,H765⟩:=kEnt_open2 H757
           obtain ⟨ha766,h⟩:=h
           obtain ⟨cs767,l769,H768⟩:=Stb.elem (by decide) (H53.up G165 (fun _ h=>h) (upc (.inr m145) (upc (.inr m97) (upc (.inr m58) (upc (.inl (List.Mem.head _)) (fun m hm=>Or.inl (List.Mem.tail _ hm))))))) s70.1 ha766.1 ha766.2
           obtain ⟨rfl,H770⟩:=kNm_open2 H768
           obtain ⟨ha771,h⟩:=h
           obtain ⟨cs772,l774,H773⟩:=Stb.elem (by decide) (H91.up G168 (fun _ h=>h) (upc (.inr m148) (upc (.inr m100) (upc (.inl (List.Mem.head _)) (upc (.inl (List.Mem.tail _ (List.Mem.head _))) (fun m hm=>Or.inl (List.Mem.tail _ (List.Mem.tail _ hm)))))))) (0:Int) ha771.1 ha771.2
           obtain ⟨A776,c777,A779,c780,rfl,H775,H778,H781⟩:=kEnt_open2 H773
           obtain ⟨ha782,h⟩:=h
           obtain ⟨cs783,l785,H784⟩:=Stb.elem (by decide) (H53.up G165 (fun _ h=>h) (upc (.inr m145) (upc (.inr m97) (upc (.inr m58) (upc (.inl (List.Mem.head _)) (fun m hm=>Or.inl (List.Mem.tail _ hm))))))) s70.1 ha782.1 ha782.2
           obtain ⟨rfl,H786⟩:=kNm_open2 H784
           refine ec_any0 (by kernel_rfl) [[],[0],[0,1],[0,1,2],[0,1,2,3],[0,1,2,3,4],[0,1,2,3,4,5],[0,1,2,3,4,5,6],[0,1,2,3,4,5,6,7],[0,1,2,3,4,5,6],[0,1,2,3,4,5,6,9],[0,1,2,3,4,5,6],[0,1,2,3,4,5,6,9,10,11],[0,1,2,3,4,5,6,7,8,9,10,11,12],[0,1,2,3,4,5,6,7,8,9,10,11,12,13],[0,1,2,3,4,5,6,7,8,9,10,11,12,13,14],[0,1,2,3,4,5,6,7,8,9,10,11,12,13,14,15],[0,1,2,3,4,5,6,7,8,9,10,11,12,13,14,15,16],[0,1,2,3,4,5,6,7,8,9,10,11,12,13,14,15],[0,1,2,3,4,5,6,7,8,9,10,11,12,13,14,15,18],[0,1,2,3,4,5,6,7,8,9,10,11,12,13,14,15,16,17,18,19],[0,1,2,3,4,5,6,7,8,9,10,11,12,13,14,15,16,17,18,19,20],[0,1,2,3,4,5,6,7,8,9,10,11,12,13,14,15,16,17,18,19,20,21],[0,1,2,3,4,5,6,7,8,9,10,11,12,13,14,15,16,17,18,19,20,21,22],[0,1,2,3,4,5,6,7,8,9,10,11,12,13,14,15,16,17,18,19,20,21,22,23],[0,1,2,3,4,5,6,7,8,9,10,11,12,13,14,15,16,17,18,19,20,21,22,23,24],[0,1,2,3,4,5,6,7,8,9,10,11,12,13,14,15,16,17,18,19,20,21,22,23,24,25],[0,1,2,3,4,5,6,7,8,9,10,11,12,13,14,15,16,17,18,19,20,21,22,23,24,25,26],[0,1,2,3,4,5,6,7,8,9,10,11,12,13,14,15,16,17,18,19,20,21,22,23,24,25,26,27],[0,1,2,3,4,5,6,7,8,9,10,11,12,13,14,15,16,17,18,19,20,21,22,23,24,25,26,27,28],[0,1,2,3,4,5,6,7,8,9,10,11,12,13,14,15,16,17,18,19,20,21,22,23,24,25,26,27,28,29],[0,1,2,3,4,5,6,7,8,9,10,11,12,13,14,15,16,17,18,19,20,21,22,23,24,25,26,27,28,29,30],[0,1,2,3,4,5,6,7,8,9,10,11,12,13,14,15,16,17,18,19,20,21,22,23,24,25,26,27,28,29,30,31],[0,1,2,3,4,5,6,7,8,9,10,11,12,13,14,15,16,17,18,19,20,21,22,23,24,25,26,27,28,29,30,31,32],[0,1,2,3,4,5,6,7,8,9,10,11,12,13,14,15,16,17,18,19,20,21,22,23,24,25,26,27,28],[0,1,2,3,4,5,6,7,8,9,10,11,12,13,14,15,16,17,18,19,20,21,22,23,24,25,26,27,28,34],[0,1,2,3,4,5,6,7,8,9,10,11,12,13,14,15,16,17,18,19,20,21,22,23,24,25,26,27,28],[0,1,2,3,4,5,6,7,8,9,10,11,12,13,14,15,16,17,18,19,20,21,22,23,24,25,26,27,28,34,35,36],[0,1,2,3,4,5,6,7,8,9,10,11,12,13,14,15,16,17,18,19,20,21,22,23,24,25,26,27,28,34,35,36,37],[0,1,2,3,4,5,6,7,8,9,10,11,12,13,14,15,16,17,18,19,20,21,22,23,24,25,26,27,28,34,35,36,37,38],[0,1,2,3,4,5,6,7,8,9,10,11,12,13,14,15,16,17,18,19,20,21,22,23,24,25,26,27,28,29,30,31,32,33,34,35,36,37,38,39],[0,1,2,3,4,5,6,7,8,9,10,11,12,13,14,15,16,17,18,19,20,21,22,23,24,25,26,27,28,29,30,31,32,33,34,35,36,37,38,39,40],[0,1,2,3,4,5,6,7,8,9,10,11,12,13,14,15,16,17,18,19,20,21,22,23,24,25,26,27,28,29,30,31,32,33,34,35,36,37,38,39,40,41],[0,1,2,3,4,5,6,7,8,9,10,11,12,13,14,15,16,17,18,19,20,21,22,23,24,25,26,27,28,29,30,31,32,33,34,35,36,37,38,39,40,41,42],[0,1,2,3,4,5,6,7,8,9,10,11,12,13,14,15,16,17,18,19,20,21,22,23,24,25,26,27,28,29,30,31,32,33,34,35,36,37,38,39,40,41,42,43],[0,1,2,3,4,5,6,7,8,9,10,11,12,13,14,15,16,17,18,19,20,21,22,23,24,25,26,27,28,29,30,31,32,33,34,35,36,37,38,39,40,41,42,43,44],[0,1,2,3,4,5,6,7,8,9,10,11,12,13,14,15,16,17,18,19,20,21,22,23,24,25,26,27,28,29,30,31,32,33,34,35,36,37,38,39,40,41,42,43,44,45],[0,1,2,3,4,5,6,7,8,9,10,11,12,13,14,15,16,17,18,19,20,21,22,23,24,25,26,27,28,29,30,31,32,33,34,35,36,37,38,39,40,41,42,43,44,45,46],[0,1,2,3,4,5,6,7,8,9,10,11,12,13,14,15,16,17,18,19,20,21,22,23,24,25,26,27,28,29,30,31,32,33,34,35,36,37,38,39,40,41,42,43,44,45,46,47],[0,1,2,3,4,5,6,7,8,9,10,11,12,13,14,15,16,17,18,19,20,21,22,23,24,25,26,27,28,29,30,31,32,33,34,35,36,37,38,39,40,41,42],[0,1,2,3,4,5,6,7,8,9,10,11,12,13,14,15,16,17,18,19,20,21,22,23,24,25,26,27,28,29,30,31,32,33,34,35,36,37,38,39,40,41,42,49],[0,1,2,3,4,5,6,7,8,9,10,11,12,13,14,15,16,17,18,19,20,21,22,23,24,25,26,27,28,29,30,31,32,33,34,35,36,37,38,39,40,41,42],[0,1,2,3,4,5,6,7,8,9,10,11,12,13,14,15,16,17,18,19,20,21,22,23,24,25,26,27,28,29,30,31,32,33,34,35,36,37,38,39,40,41,42,49,50,51],[0,1,2,3,4,5,6,7,8,9,10,11,12,13,14,15,16,17,18,19,20,21,22,23,24,25,26,27,28,29,30,31,32,33,34,35,36,37,38,39,40,41,42,49,50,51,52],[0,1,2,3,4,5,6,7,8,9,10,11,12,13,14,15,16,17,18,19,20,21,22,23,24,25,26,27,28,29,30,31,32,33,34,35,36,37,38,39,40,41,42,49,50,51,52,53],[0,1,2,3,4,5,6,7,8,9,10,11,12,13,14,15,16,17,18,19,20,21,22,23,24,25,26,27,28,29,30,31,32,33,34,35,36,37,38,39,40,41,42,43,44,45,46,47,48,49,50,51,52,53,54],[0,1,2,3,4,5,6,7,8,9,10,11,12,13,14,15,16,17,18,19,20,21,22,23,24,25,26,27,28,29,30,31,32,33,34,35,36,37,38,39,40,41,42,43,44,45,46,47,48,49,50,51,52,53,54,55]] [62,63,64,65,66,67,68,69,70,71,72,73,74,75,76,77,78,79,80,81,82,83,84,85,86,87,88,89,90,91,92,93,94,95,96,97,98,99,100,101,102,103,104,105,106,107,108,109,110,111,112,113,114,115,116,117,118] [fun v _=>v=(.bool x75.2:Value),fun v _=>v=(.bool (!x75.2):Value),fun v _=>v=(.bool (!x75.2):Value),fun v _=>v=(.bool x120.2:Value),fun v _=>v=(.bool (!x120.2):Value),fun v _=>v=(.bool (!x120.2):Value),fun v _=>v=(.bool (!x120.2):Value),fun v _=>v=(.pointer (some ⟨b92,2,none⟩):Value),fun v _=>v=(.int .i64 x75.1.b:Value),fun v _=>v=(.pointer (some ⟨b54,1,none⟩):Value),fun v _=>v=(.int .i64 x42.first:Value),fun v _=>v=(.int .i64 s70.1:Value),fun v _=>v=(.int .i64 (IntKind.i64.wrap (x42.first + s70.1)):Value),fun v _=>v=(.bool (x75.1.b != (IntKind.i64.wrap (x42.first + s70.1))):Value),fun v _=>v=(.bool (x75.1.b != (IntKind.i64.wrap (x42.first + s70.1))):Value),fun v _=>v=(.bool (x75.1.b != (IntKind.i64.wrap (x42.first + s70.1))):Value),fun v _=>v=(.pointer (some ⟨b92,1,none⟩):Value),fun v _=>v=(.int .i64 x75.1.a:Value),fun v _=>v=(.pointer (some ⟨b54,0,none⟩):Value),fun v _=>v=(.int .i64 x42.epoch:Value),fun v _=>v=(.bool (x75.1.a != x42.epoch):Value),fun v _=>v=(.bool (x75.1.a != x42.epoch):Value),fun v _=>v=(.bool (x75.1.a != x42.epoch):Value),fun v _=>v=(.pointer (some ⟨b92,7,none⟩):Value),fun v _=>v=(.slice A89 x75.1.entries.length c90:Value),fun v _=>v=(.int .i64 (x75.1.entries.length:Int):Value),fun v _=>v=(.bool ((x75.1.entries.length:Int) != (1:Int)):Value),fun v _=>v=(.bool ((x75.1.entries.length:Int) != (1:Int)):Value),fun v _=>v=(.bool ((x75.1.entries.length:Int) != (1:Int)):Value),fun v _=>v=(.pointer (some ⟨b92,7,none⟩):Value),fun v _=>v=(.slice A89 x75.1.entries.length c90:Value),fun v _=>v=(.pointer (some (elemA A89 kEnt.n (0:Int).toNat)):Value),fun v _=>v=(.pointer (some (ad (elemA A89 kEnt.n (0:Int).toNat) 0)):Value),fun v _=>v=(str ((nth x75.1.entries (0:Int)).key):Value),fun v _=>v=(.pointer (some ⟨b54,2,none⟩):Value),fun v _=>v=(.slice A51 x42.names.length c52:Value),fun v _=>v=(.int .i64 s70.1:Value),fun v _=>v=(.pointer (some (elemA A51 kNm.n s70.1.toNat)):Value),fun v _=>v=(.pointer (some (ad (elemA A51 kNm.n s70.1.toNat) 1)):Value),fun v _=>v=(str ((nth x42.names s70.1).key):Value),fun v _=>v=(.bool (!(((nth x75.1.entries (0:Int)).key)==((nth x42.names s70.1).key))):Value),fun v _=>v=(.bool (!(((nth x75.1.entries (0:Int)).key)==((nth x42.names s70.1).key))):Value),fun v _=>v=(.bool (!(((nth x75.1.entries (0:Int)).key)==((nth x42.names s70.1).key))):Value),fun v _=>v=(.pointer (some ⟨b92,7,none⟩):Value),fun v _=>v=(.slice A89 x75.1.entries.length c90:Value),fun v _=>v=(.pointer (some (elemA A89 kEnt.n (0:Int).toNat)):Value),fun v _=>v=(.pointer (some (ad (elemA A89 kEnt.n (0:Int).toNat) 1)):Value),fun v _=>v=(.pointer (some (ad (elemA A89 kEnt.n (0:Int).toNat) 1)):Value),fun v _=>v=(.int .i64 (((nth x75.1.entries (0:Int)).val).kind):Value),fun v _=>v=(.pointer (some ⟨b54,2,none⟩):Value),fun v _=>v=(.slice A51 x42.names.length c52:Value),fun v _=>v=(.int .i64 s70.1:Value),fun v _=>v=(.pointer (some (elemA A51 kNm.n s70.1.toNat)):Value),fun v _=>v=(.pointer (some (ad (elemA A51 kNm.n s70.1.toNat) 0)):Value),fun v _=>v=(.int .i64 ((nth x42.names s70.1).kind):Value),fun v _=>v=(.bool ((((nth x75.1.entries (0:Int)).val).kind) != ((nth x42.names s70.1).kind)):Value),fun v _=>v=(.bool ((((nth x75.1.entries (0:Int)).val).kind) != ((nth x42.names s70.1).kind)):Value)] (by kernel_rfl) ⟨fun _ _ _ _ _ h=>h,fun _ _ _ _ _ h=>h,fun _ _ _ _ _ h=>h,fun _ _ _ _ _ h=>h,fun _ _ _ _ _ h=>h,fun _ _ _ _ _ h=>h,fun _ _ _ _ _ h=>h,fun _ _ _ _ _ h=>h,fun _ _ _ _ _ h=>h,fun _ _ _ _ _ h=>h,fun _ _ _ _ _ h=>h,fun _ _ _ _ _ h=>h,fun _ _ _ _ _ h=>h,fun _ _ _ _ _ h=>h,fun _ _ _ _ _ h=>h,fun _ _ _ _ _ h=>h,fun _ _ _ _ _ h=>h,fun _ _ _ _ _ h=>h,fun _ _ _ _ _ h=>h,fun _ _ _ _ _ h=>h,fun _ _ _ _ _ h=>h,fun _ _ _ _ _ h=>h,fun _ _ _ _ _ h=>h,fun _ _ _ _ _ h=>h,fun _ _ _ _ _ h=>h,fun _ _ _ _ _ h=>h,fun _ _ _ _ _ h=>h,fun _ _ _ _ _ h=>h,fun _ _ _ _ _ h=>h,fun _ _ _ _ _ h=>h,fun _ _ _ _ _ h=>h,fun _ _ _ _ _ h=>h,fun _ _ _ _ _ h=>h,fun _ _ _ _ _ h=>h,fun _ _ _ _ _ h=>h,fun _ _ _ _ _ h=>h,fun _ _ _ _ _ h=>h,fun _ _ _ _ _ h=>h,fun _ _ _ _ _ h=>h,fun _ _ _ _ _ h=>h,fun _ _ _ _ _ h=>h,fun _ _ _ _ _ h=>h,fun _ _ _ _ _ h=>h,fun _ _ _ _ _ h=>h,fun _ _ _ _ _ h=>h,fun _ _ _ _ _ h=>h,fun _ _ _ _ _ h=>h,fun _ _ _ _ _ h=>h,fun _ _ _ _ _ h=>h,fun _ _ _ _ _ h=>h,fun _ _ _ _ _ h=>h,fun _ _ _ _ _ h=>h,fun _ _ _ _ _ h=>h,fun _ _ _ _ _ h=>h,fun _ _ _ _ _ h=>h,fun _ _ _ _ _ h=>h,fun _ _ _ _ _ h=>h,trivial⟩ ?_ ?_
           ·refine ⟨?_,?_,?_,?_,?_,?_,?_,?_,?_,?_,?_,?_,?_,?_,?_,?_,?_,?_,?_,?_,?_,?_,?_,?_,?_,?_,?_,?_,?_,?_,?_,?_,?_,?_,?_,?_,?_,?_,?_,?_,?_,?_,?_,?_,?_,?_,?_,?_,?_,?_,?_,?_,?_,?_,?_,?_,?_,trivial⟩
            ·intro ρ w754o F754o hS hρ
             have q13:ρ 13=.bool x75.2:=hρ 13 (by kernel_rfl)
             exact o_q (r_mov q13) ⟨Fr.refl _ _,rfl⟩
            ·intro ρ w754o F754o hS hρ
             have q62:ρ 62=.bool x75.2:=hS 0 (by decide) 62 rfl
             exact o_q (r_not q62) ⟨Fr.refl _ _,rfl⟩
            ·intro ρ w754o F754o hS hρ
             have q63:ρ 63=.bool (!x75.2):=hS 1 (by decide) 63 rfl
             exact o_q (r_mov q63) ⟨Fr.refl _ _,rfl⟩
            ·intro ρ w754o F754o hS hρ
             have q15:ρ 15=.bool x120.2:=hρ 15 (by kernel_rfl)
             have q64:ρ 64=.bool (!x75.2):=hS 2 (by decide) 64 rfl
             exact o_v (r_mov q15) (want_t (t:=64) rfl q64 hc195) rfl rfl (eo_nil ⟨rfl,rfl,_,rfl,Fr.refl _ _,rfl⟩)
            ·intro ρ w754o F754o hS hρ
             have q64:ρ 64=.bool (!x75.2):=hS 2 (by decide) 64 rfl
             have q65:ρ 65=.bool x120.2:=hS 3 (by decide) 65 rfl
             exact o_v (r_not q65) (want_t (t:=64) rfl q64 hc195) rfl rfl (eo_nil ⟨rfl,rfl,_,rfl,Fr.refl _ _,rfl⟩)
            ·intro ρ w754o F754o hS hρ
             have q64:ρ 64=.bool (!x75.2):=hS 2 (by decide) 64 rfl
             have q66:ρ 66=.bool (!x120.2):=hS 4 (by decide) 66 rfl
             exact o_q (r_pickF q64 hc195 q66) ⟨Fr.refl _ _,rfl⟩
            ·intro ρ w754o F754o hS hρ
             have q67:ρ 67=.bool (!x120.2):=hS 5 (by decide) 67 rfl
             exact o_q (r_mov q67) ⟨Fr.refl _ _,rfl⟩
            ·intro ρ w754o F754o hS hρ
             have q12:ρ 12=.pointer (some ⟨b92,0,none⟩):=hρ 12 (by kernel_rfl)
             have q68:ρ 68=.bool (!x120.2):=hS 6 (by decide) 68 rfl
             exact o_v (r_fa fld_frame_Frame_2 rfl q12) (want_t (t:=68) rfl q68 hc220) rfl rfl (eo_nil ⟨rfl,rfl,_,rfl,Fr.refl _ _,rfl⟩)
            ·intro ρ w754o F754o hS hρ
             have q68:ρ 68=.bool (!x120.2):=hS 6 (by decide) 68 rfl
             have q69:ρ 69=.pointer (some ⟨b92,2,none⟩):=hS 7 (by decide) 69 rfl
             exact o_v (r_ld one_int q69 ((B172.ex F754o).cell rfl)) (want_t (t:=68) rfl q68 hc220) rfl rfl (eo_nil ⟨rfl,rfl,_,rfl,Fr.refl _ _,rfl⟩)
            ·intro ρ w754o F754o hS hρ
             have q10:ρ 10=.pointer (some ⟨b54,0,none⟩):=hρ 10 (by kernel_rfl)
             have q68:ρ 68=.bool (!x120.2):=hS 6 (by decide) 68 rfl
             exact o_v (r_fa fld_buffer_Buffer_1 rfl q10) (want_t (t:=68) rfl q68 hc220) rfl rfl (eo_nil ⟨rfl,rfl,_,rfl,Fr.refl _ _,rfl⟩)
            ·intro ρ w754o F754o hS hρ
             have q68:ρ 68=.bool (!x120.2):=hS 6 (by decide) 68 rfl
             have q71:ρ 71=.pointer (some ⟨b54,1,none⟩):=hS 9 (by decide) 71 rfl
             exact o_v (r_ld one_int q71 ((B171.ex F754o).cell rfl)) (want_t (t:=68) rfl q68 hc220) rfl rfl (eo_nil ⟨rfl,rfl,_,rfl,Fr.refl _ _,rfl⟩)
            ·intro ρ w754o F754o hS hρ
             have q11:ρ 11=.int .i64 s70.1:=hρ 11 (by kernel_rfl)
             have q68:ρ 68=.bool (!x120.2):=hS 6 (by decide) 68 rfl
             exact o_v (r_mov q11) (want_t (t:=68) rfl q68 hc220) rfl rfl (eo_nil ⟨rfl,rfl,_,rfl,Fr.refl _ _,rfl⟩)
            ·intro ρ w754o F754o hS hρ
             have q68:ρ 68=.bool (!x120.2):=hS 6 (by decide) 68 rfl
             have q72:ρ 72=.int .i64 x42.first:=hS 10 (by decide) 72 rfl
             have q73:ρ 73=.int .i64 s70.1:=hS 11 (by decide) 73 rfl
             exact o_v (r_int q72 q73 rfl) (want_t (t:=68) rfl q68 hc220) rfl rfl (eo_nil ⟨rfl,rfl,_,rfl,Fr.refl _ _,rfl⟩)
            ·intro ρ w754o F754o hS hρ
             have q68:ρ 68=.bool (!x120.2):=hS 6 (by decide) 68 rfl
             have q70:ρ 70=.int .i64 x75.1.b:=hS 8 (by decide) 70 rfl
             have q74:ρ 74=.int .i64 (IntKind.i64.wrap (x42.first + s70.1)):=hS 12 (by decide) 74 rfl
             exact o_v (r_int q70 q74 rfl) (want_t (t:=68) rfl q68 hc220) rfl rfl (eo_nil ⟨rfl,rfl,_,rfl,Fr.refl _ _,rfl⟩)
            ·intro ρ w754o F754o hS hρ
             have q68:ρ 68=.bool (!x120.2):=hS 6 (by decide) 68 rfl
             have q75:ρ 75=.bool (x75.1.b != (IntKind.i64.wrap (x42.first + s70.1))):=hS 13 (by decide) 75 rfl
             exact o_q (r_pickF q68 hc220 q75) ⟨Fr.refl _ _,rfl⟩
            ·intro ρ w754o F754o hS hρ
             have q76:ρ 76=.bool (x75.1.b != (IntKind.i64.wrap (x42.first + s70.1))):=hS 14 (by decide) 76 rfl
             exact o_q (r_mov q76) ⟨Fr.refl _ _,rfl⟩
            ·intro ρ w754o F754o hS hρ
             have q12:ρ 12=.pointer (some ⟨b92,0,none⟩):=hρ 12 (by kernel_rfl)
             have q77:ρ 77=.bool (x75.1.b != (IntKind.i64.wrap (x42.first + s70.1))):=hS 15 (by decide) 77 rfl
             exact o_v (r_fa fld_frame_Frame_1 rfl q12) (want_t (t:=77) rfl q77 hc245) rfl rfl (eo_nil ⟨rfl,rfl,_,rfl,Fr.refl _ _,rfl⟩)
            ·intro ρ w754o F754o hS hρ
             have q77:ρ 77=.bool (x75.1.b != (IntKind.i64.wrap (x42.first + s70.1))):=hS 15 (by decide) 77 rfl
             have q78:ρ 78=.pointer (some ⟨b92,1,none⟩):=hS 16 (by decide) 78 rfl
             exact o_v (r_ld one_int q78 ((B172.ex F754o).cell rfl)) (want_t (t:=77) rfl q77 hc245) rfl rfl (eo_nil ⟨rfl,rfl,_,rfl,Fr.refl _ _,rfl⟩)
            ·intro ρ w754o F754o hS hρ
             have q10:ρ 10=.pointer (some ⟨b54,0,none⟩):=hρ 10 (by kernel_rfl)
             have q77:ρ 77=.bool (x75.1.b != (IntKind.i64.wrap (x42.first + s70.1))):=hS 15 (by decide) 77 rfl
             exact o_v (r_fa fld_buffer_Buffer_0 rfl q10) (want_t (t:=77) rfl q77 hc245) rfl rfl (eo_nil ⟨rfl,rfl,_,rfl,Fr.refl _ _,rfl⟩)
            ·intro ρ w754o F754o hS hρ
             have q77:ρ 77=.bool (x75.1.b != (IntKind.i64.wrap (x42.first + s70.1))):=hS 15 (by decide) 77 rfl
             have q80:ρ 80=.pointer (some ⟨b54,0,none⟩):=hS 18 (by decide) 80 rfl
             exact o_v (r_ld one_int q80 ((B171.ex F754o).cell rfl)) (want_t (t:=77) rfl q77 hc245) rfl rfl (eo_nil ⟨rfl,rfl,_,rfl,Fr.refl _ _,rfl⟩)
            ·intro ρ w754o F754o hS hρ
             have q77:ρ 77=.bool (x75.1.b != (IntKind.i64.wrap (x42.first + s70.1))):=hS 15 (by decide) 77 rfl
             have q79:ρ 79=.int .i64 x75.1.a:=hS 17 (by decide) 79 rfl
             have q81:ρ 81=.int .i64 x42.epoch:=hS 19 (by decide) 81 rfl
             exact o_v (r_int q79 q81 rfl) (want_t (t:=77) rfl q77 hc245) rfl rfl (eo_nil ⟨rfl,rfl,_,rfl,Fr.refl _ _,rfl⟩)
            ·intro ρ w754o F754o hS hρ
             have q77:ρ 77=.bool (x75.1.b != (IntKind.i64.wrap (x42.first + s70.1))):=hS 15 (by decide) 77 rfl
             have q82:ρ 82=.bool (x75.1.a != x42.epoch):=hS 20 (by decide) 82 rfl
             exact o_q (r_pickF q77 hc245 q82) ⟨Fr.refl _ _,rfl⟩
            ·intro ρ w754o F754o hS hρ
             have q83:ρ 83=.bool (x75.1.a != x42.epoch):=hS 21 (by decide) 83 rfl
             exact o_q (r_mov q83) ⟨Fr.refl _ _,rfl⟩
            ·intro ρ w754o F754o hS hρ
             have q12:ρ 12=.pointer (some ⟨b92,0,none⟩):=hρ 12 (by kernel_rfl)
             have q84:ρ 84=.bool (x75.1.a != x42.epoch):=hS 22 (by decide) 84 rfl
             exact o_v (r_fa fld_frame_Frame_4 rfl q12) (want_t (t:=84) rfl q84 hc294) rfl rfl (eo_nil ⟨rfl,rfl,_,rfl,Fr.refl _ _,rfl⟩)
            ·intro ρ w754o F754o hS hρ
             have q84:ρ 84=.bool (x75.1.a != x42.epoch):=hS 22 (by decide) 84 rfl
             have q85:ρ 85=.pointer (some ⟨b92,7,none⟩):=hS 23 (by decide) 85 rfl
             exact o_v (r_ld one_s_api_Entry q85 ((B172.ex F754o).cell rfl)) (want_t (t:=84) rfl q84 hc294) rfl rfl (eo_nil ⟨rfl,rfl,_,rfl,Fr.refl _ _,rfl⟩)
            ·intro ρ w754o F754o hS hρ
             have q84:ρ 84=.bool (x75.1.a != x42.epoch):=hS 22 (by decide) 84 rfl
             have q86:ρ 86=.slice A89 x75.1.entries.length c90:=hS 24 (by decide) 86 rfl
             exact o_v (r_len_slc un_s_api_Entry q86) (want_t (t:=84) rfl q84 hc294) rfl rfl (eo_nil ⟨rfl,rfl,_,rfl,Fr.refl _ _,rfl⟩)
            ·intro ρ w754o F754o hS hρ
             have q84:ρ 84=.bool (x75.1.a != x42.epoch):=hS 22 (by decide) 84 rfl
             have q87:ρ 87=.int .i64 (x75.1.entries.length:Int):=hS 25 (by decide) 87 rfl
             exact o_v (r_int q87 rfl rfl) (want_t (t:=84) rfl q84 hc294) rfl rfl (eo_nil ⟨rfl,rfl,_,rfl,Fr.refl _ _,rfl⟩)
            ·intro ρ w754o F754o hS hρ
             have q84:ρ 84=.bool (x75.1.a != x42.epoch):=hS 22 (by decide) 84 rfl
             have q88:ρ 88=.bool ((x75.1.entries.length:Int) != (1:Int)):=hS 26 (by decide) 88 rfl
             exact o_q (r_pickF q84 hc294 q88) ⟨Fr.refl _ _,rfl⟩
            ·intro ρ w754o F754o hS hρ
             have q89:ρ 89=.bool ((x75.1.entries.length:Int) != (1:Int)):=hS 27 (by decide) 89 rfl
             exact o_q (r_mov q89) ⟨Fr.refl _ _,rfl⟩
            ·intro ρ w754o F754o hS hρ
             have q12:ρ 12=.pointer (some ⟨b92,0,none⟩):=hρ 12 (by kernel_rfl)
             have q90:ρ 90=.bool ((x75.1.entries.length:Int) != (1:Int)):=hS 28 (by decide) 90 rfl
             exact o_v (r_fa fld_frame_Frame_4 rfl q12) (want_t (t:=90) rfl q90 hc367) rfl rfl (eo_nil ⟨rfl,rfl,_,rfl,Fr.refl _ _,rfl⟩)
            ·intro ρ w754o F754o hS hρ
             have q90:ρ 90=.bool ((x75.1.entries.length:Int) != (1:Int)):=hS 28 (by decide) 90 rfl
             have q91:ρ 91=.pointer (some ⟨b92,7,none⟩):=hS 29 (by decide) 91 rfl
             exact o_v (r_ld one_s_api_Entry q91 ((B172.ex F754o).cell rfl)) (want_t (t:=90) rfl q90 hc367) rfl rfl (eo_nil ⟨rfl,rfl,_,rfl,Fr.refl _ _,rfl⟩)
            ·intro ρ w754o F754o hS hρ
             have q90:ρ 90=.bool ((x75.1.entries.length:Int) != (1:Int)):=hS 28 (by decide) 90 rfl
             have q92:ρ 92=.slice A89 x75.1.entries.length c90:=hS 30 (by decide) 92 rfl
             exact o_v (r_ia slc_s_api_Entry q92 rfl ((H91.fr (G168.trans (Fr.ext F754o)) (fun _ h=>h)).now.2 _ (lt_toNat ha755.1 ha755.2)).1 ha755.1 ha755.2) (want_t (t:=90) rfl q90 hc367) rfl rfl (eo_nil ⟨rfl,rfl,_,rfl,Fr.refl _ _,rfl⟩)
            ·intro ρ w754o F754o hS hρ
             have q90:ρ 90=.bool ((x75.1.entries.length:Int) != (1:Int)):=hS 28 (by decide) 90 rfl
             have q93:ρ 93=.pointer (some (elemA A89 kEnt.n (0:Int).toNat)):=hS 31 (by decide) 93 rfl
             exact o_v (r_fad fld_api_Entry_0 (elemA_spot _ _ _) q93) (want_t (t:=90) rfl q90 hc367) rfl rfl (eo_nil ⟨rfl,rfl,_,rfl,Fr.refl _ _,rfl⟩)
            ·intro ρ w754o F754o hS hρ
             have G886:Fr (b139::(b92::(b54::(b10::L)))) w161 w754o:=Fr.ext F754o
             have q90:ρ 90=.bool ((x75.1.entries.length:Int) != (1:Int)):=hS 28 (by decide) 90 rfl
             have q94:ρ 94=.pointer (some (ad (elemA A89 kEnt.n (0:Int).toNat) 0)):=hS 32 (by decide) 94 rfl
             exact o_v (r_ld' one_string q94 rfl ((H759.fr G886 (fun _ h=>h)).now.1.at (j:=0) rfl)) (want_t (t:=90) rfl q90 hc367) rfl rfl (eo_nil ⟨rfl,rfl,_,rfl,Fr.refl _ _,rfl⟩)
            ·intro ρ w754o F754o hS hρ
             have q10:ρ 10=.pointer (some ⟨b54,0,none⟩):=hρ 10 (by kernel_rfl)
             have q90:ρ 90=.bool ((x75.1.entries.length:Int) != (1:Int)):=hS 28 (by decide) 90 rfl
             exact o_v (r_fa fld_buffer_Buffer_2 rfl q10) (want_t (t:=90) rfl q90 hc367) rfl rfl (eo_nil ⟨rfl,rfl,_,rfl,Fr.refl _ _,rfl⟩)
            ·intro ρ w754o F754o hS hρ
             have q90:ρ 90=.bool ((x75.1.entries.length:Int) != (1:Int)):=hS 28 (by decide) 90 rfl
             have q96:ρ 96=.pointer (some ⟨b54,2,none⟩):=hS 34 (by decide) 96 rfl
             exact o_v (r_ld one_s_buffer_Name q96 ((B171.ex F754o).cell rfl)) (want_t (t:=90) rfl q90 hc367) rfl rfl (eo_nil ⟨rfl,rfl,_,rfl,Fr.refl _ _,rfl⟩)
            ·intro ρ w754o F754o hS hρ
             have q11:ρ 11=.int .i64 s70.1:=hρ 11 (by kernel_rfl)
             have q90:ρ 90=.bool ((x75.1.entries.length:Int) != (1:Int)):=hS 28 (by decide) 90 rfl
             exact o_v (r_mov q11) (want_t (t:=90) rfl q90 hc367) rfl rfl (eo_nil ⟨rfl,rfl,_,rfl,Fr.refl _ _,rfl⟩)
            ·intro ρ w754o F754o hS hρ
             have q90:ρ 90=.bool ((x75.1.entries.length:Int) != (1:Int)):=hS 28 (by decide) 90 rfl
             have q97:ρ 97=.slice A51 x42.names.length c52:=hS 35 (by decide) 97 rfl
             have q98:ρ 98=.int .i64 s70.1:=hS 36 (by decide) 98 rfl
             exact o_v (r_ia slc_s_buffer_Name q97 q98 ((H53.fr (G165.trans (Fr.ext F754o)) (fun _ h=>h)).now.2 _ (lt_toNat ha766.1 ha766.2)).1 ha766.1 ha766.2) (want_t (t:=90) rfl q90 hc367) rfl rfl (eo_nil ⟨rfl,rfl,_,rfl,Fr.refl _ _,rfl⟩)
            ·intro ρ w754o F754o hS hρ
             have q90:ρ 90=.bool ((x75.1.entries.length:Int) != (1:Int)):=hS 28 (by decide) 90 rfl
             have q99:ρ 99=.pointer (some (elemA A51 kNm.n s70.1.toNat)):=hS 37 (by decide) 99 rfl
             exact o_v (r_fad fld_buffer_Name_1 (elemA_spot _ _ _) q99) (want_t (t:=90) rfl q90 hc367) rfl rfl (eo_nil ⟨rfl,rfl,_,rfl,Fr.refl _ _,rfl⟩)
            ·intro ρ w754o F754o hS hρ
             have G925:Fr (b139::(b92::(b54::(b10::L)))) w161 w754o:=Fr.ext F754o
             have q90:ρ 90=.bool ((x75.1.entries.length:Int) != (1:Int)):=hS 28 (by decide) 90 rfl
             have q100:ρ 100=.pointer (some (ad (elemA A51 kNm.n s70.1.toNat) 1)):=hS 38 (by decide) 100 rfl
             exact o_v (r_ld' one_string q100 rfl ((H770.fr G925 (fun _ h=>h)).now.1.at (j:=1) rfl)) (want_t (t:=90) rfl q90 hc367) rfl rfl (eo_nil ⟨rfl,rfl,_,rfl,Fr.refl _ _,rfl⟩)
            ·intro ρ w754o F754o hS hρ
             have q90:ρ 90=.bool ((x75.1.entries.length:Int) != (1:Int)):=hS 28 (by decide) 90 rfl
             have q95:ρ 95=str ((nth x75.1.entries (0:Int)).key):=hS 33 (by decide) 95 rfl
             have q101:ρ 101=str ((nth x42.names s70.1).key):=hS 39 (by decide) 101 rfl
             exact o_v (r_str q95 q101 rfl) (want_t (t:=90) rfl q90 hc367) rfl rfl (eo_nil ⟨rfl,rfl,_,rfl,Fr.refl _ _,rfl⟩)
            ·intro ρ w754o F754o hS hρ
             have q90:ρ 90=.bool ((x75.1.entries.length:Int) != (1:Int)):=hS 28 (by decide) 90 rfl
             have q102:ρ 102=.bool (!(((nth x75.1.entries (0:Int)).key)==((nth x42.names s70.1).key))):=hS 40 (by decide) 102 rfl
             exact o_q (r_pickF q90 hc367 q102) ⟨Fr.refl _ _,rfl⟩
            ·intro ρ w754o F754o hS hρ
             have q103:ρ 103=.bool (!(((nth x75.1.entries (0:Int)).key)==((nth x42.names s70.1).key))):=hS 41 (by decide) 103 rfl
             exact o_q (r_mov q103) ⟨Fr.refl _ _,rfl⟩
            ·intro ρ w754o F754o hS hρ
             have q12:ρ 12=.pointer (some ⟨b92,0,none⟩):=hρ 12 (by kernel_rfl)
             have q104:ρ 104=.bool (!(((nth x75.1.entries (0:Int)).key)==((nth x42.names s70.1).key))):=hS 42 (by decide) 104 rfl
             exact o_v (r_fa fld_frame_Frame_4 rfl q12) (want_t (t:=104) rfl q104 hc484) rfl rfl (eo_nil ⟨rfl,rfl,_,rfl,Fr.refl _ _,rfl⟩)
            ·intro ρ w754o F754o hS hρ
             have q104:ρ 104=.bool (!(((nth x75.1.entries (0:Int)).key)==((nth x42.names s70.1).key))):=hS 42 (by decide) 104 rfl
             have q105:ρ 105=.pointer (some ⟨b92,7,none⟩):=hS 43 (by decide) 105 rfl
             exact o_v (r_ld one_s_api_Entry q105 ((B172.ex F754o).cell rfl)) (want_t (t:=104) rfl q104 hc484) rfl rfl (eo_nil ⟨rfl,rfl,_,rfl,Fr.refl _ _,rfl⟩)
            ·intro ρ w754o F754o hS hρ
             have q104:ρ 104=.bool (!(((nth x75.1.entries (0:Int)).key)==((nth x42.names s70.1).key))):=hS 42 (by decide) 104 rfl
             have q106:ρ 106=.slice A89 x75.1.entries.length c90:=hS 44 (by decide) 106 rfl
             exact o_v (r_ia slc_s_api_Entry q106 rfl ((H91.fr (G168.trans (Fr.ext F754o)) (fun _ h=>h)).now.2 _ (lt_toNat ha771.1 ha771.2)).1 ha771.1 ha771.2) (want_t (t:=104) rfl q104 hc484) rfl rfl (eo_nil ⟨rfl,rfl,_,rfl,Fr.refl _ _,rfl⟩)
            ·intro ρ w754o F754o hS hρ
             have q104:ρ 104=.bool (!(((nth x75.1.entries (0:Int)).key)==((nth x42.names s70.1).key))):=hS 42 (by decide) 104 rfl
             have q107:ρ 107=.pointer (some (elemA A89 kEnt.n (0:Int).toNat)):=hS 45 (by decide) 107 rfl
             exact o_v (r_fad fld_api_Entry_1 (elemA_spot _ _ _) q107) (want_t (t:=104) rfl q104 hc484) rfl rfl (eo_nil ⟨rfl,rfl,_,rfl,Fr.refl _ _,rfl⟩)
            ·intro ρ w754o F754o hS hρ
             have q104:ρ 104=.bool (!(((nth x75.1.entries (0:Int)).key)==((nth x42.names s70.1).key))):=hS 42 (by decide) 104 rfl
             have q108:ρ 108=.pointer (some (ad (elemA A89 kEnt.n (0:Int).toNat) 1)):=hS 46 (by decide) 108 rfl
             exact o_v (r_fad2 fld_api_Value_0 rfl rfl q108) (want_t (t:=104) rfl q104 hc484) rfl rfl (eo_nil ⟨rfl,rfl,_,rfl,Fr.refl _ _,rfl⟩)
            ·intro ρ w754o F754o hS hρ
             have G964:Fr (b139::(b92::(b54::(b10::L)))) w161 w754o:=Fr.ext F754o
             have q104:ρ 104=.bool (!(((nth x75.1.entries (0:Int)).key)==((nth x42.names s70.1).key))):=hS 42 (by decide) 104 rfl
             have q109:ρ 109=.pointer (some (ad (elemA A89 kEnt.n (0:Int).toNat) 1)):=hS 47 (by decide) 109 rfl
             exact o_v (r_ld' one_int q109 rfl ((H775.fr G964 (fun _ h=>h)).now.1.at (j:=1) rfl)) (want_t (t:=104) rfl q104 hc484) rfl rfl (eo_nil ⟨rfl,rfl,_,rfl,Fr.refl _ _,rfl⟩)
            ·intro ρ w754o F754o hS hρ
             have q10:ρ 10=.pointer (some ⟨b54,0,none⟩):=hρ 10 (by kernel_rfl)
             have q104:ρ 104=.bool (!(((nth x75.1.entries (0:Int)).key)==((nth x42.names s70.1).key))):=hS 42 (by decide) 104 rfl
             exact o_v (r_fa fld_buffer_Buffer_2 rfl q10) (want_t (t:=104) rfl q104 hc484) rfl rfl (eo_nil ⟨rfl,rfl,_,rfl,Fr.refl _ _,rfl⟩)
            ·intro ρ w754o F754o hS hρ
             have q104:ρ 104=.bool (!(((nth x75.1.entries (0:Int)).key)==((nth x42.names s70.1).key))):=hS 42 (by decide) 104 rfl
             have q111:ρ 111=.pointer (some ⟨b54,2,none⟩):=hS 49 (by decide) 111 rfl
             exact o_v (r_ld one_s_buffer_Name q111 ((B171.ex F754o).cell rfl)) (want_t (t:=104) rfl q104 hc484) rfl rfl (eo_nil ⟨rfl,rfl,_,rfl,Fr.refl _ _,rfl⟩)
            ·intro ρ w754o F754o hS hρ
             have q11:ρ 11=.int .i64 s70.1:=hρ 11 (by kernel_rfl)
             have q104:ρ 104=.bool (!(((nth x75.1.entries (0:Int)).key)==((nth x42.names s70.1).key))):=hS 42 (by decide) 104 rfl
             exact o_v (r_mov q11) (want_t (t:=104) rfl q104 hc484) rfl rfl (eo_nil ⟨rfl,rfl,_,rfl,Fr.refl _ _,rfl⟩)
            ·intro ρ w754o F754o hS hρ
             have q104:ρ 104=.bool (!(((nth x75.1.entries (0:Int)).key)==((nth x42.names s70.1).key))):=hS 42 (by decide) 104 rfl
             have q112:ρ 112=.slice A51 x42.names.length c52:=hS 50 (by decide) 112 rfl
             have q113:ρ 113=.int .i64 s70.1:=hS 51 (by decide) 113 rfl
             exact o_v (r_ia slc_s_buffer_Name q112 q113 ((H53.fr (G165.trans (Fr.ext F754o)) (fun _ h=>h)).now.2 _ (lt_toNat ha782.1 ha782.2)).1 ha782.1 ha782.2) (want_t (t:=104) rfl q104 hc484) rfl rfl (eo_nil ⟨rfl,rfl,_,rfl,Fr.refl _ _,rfl⟩)
            ·intro ρ w754o F754o hS hρ
             have q104:ρ 104=.bool (!(((nth x75.1.entries (0:Int)).key)==((nth x42.names s70.1).key))):=hS 42 (by decide) 104 rfl
             have q114:ρ 114=.pointer (some (elemA A51 kNm.n s70.1.toNat)):=hS 52 (by decide) 114 rfl
             exact o_v (r_fad fld_buffer_Name_0 (elemA_spot _ _ _) q114) (want_t (t:=104) rfl q104 hc484) rfl rfl (eo_nil ⟨rfl,rfl,_,rfl,Fr.refl _ _,rfl⟩)
            ·intro ρ w754o F754o hS hρ
             have G1003:Fr (b139::(b92::(b54::(b10::L)))) w161 w754o:=Fr.ext F754o
             have q104:ρ 104=.bool (!(((nth x75.1.entries (0:Int)).key)==((nth x42.names s70.1).key))):=hS 42 (by decide) 104 rfl
             have q115:ρ 115=.pointer (some (ad (elemA A51 kNm.n s70.1.toNat) 0)):=hS 53 (by decide) 115 rfl
             exact o_v (r_ld' one_int q115 rfl ((H786.fr G1003 (fun _ h=>h)).now.1.at (j:=0) rfl)) (want_t (t:=104) rfl q104 hc484) rfl rfl (eo_nil ⟨rfl,rfl,_,rfl,Fr.refl _ _,rfl⟩)
            ·intro ρ w754o F754o hS hρ
             have q104:ρ 104=.bool (!(((nth x75.1.entries (0:Int)).key)==((nth x42.names s70.1).key))):=hS 42 (by decide) 104 rfl
             have q110:ρ 110=.int .i64 (((nth x75.1.entries (0:Int)).val).kind):=hS 48 (by decide) 110 rfl
             have q116:ρ 116=.int .i64 ((nth x42.names s70.1).kind):=hS 54 (by decide) 116 rfl
             exact o_v (r_int q110 q116 rfl) (want_t (t:=104) rfl q104 hc484) rfl rfl (eo_nil ⟨rfl,rfl,_,rfl,Fr.refl _ _,rfl⟩)
            ·intro ρ w754o F754o hS hρ
             have q104:ρ 104=.bool (!(((nth x75.1.entries (0:Int)).key)==((nth x42.names s70.1).key))):=hS 42 (by decide) 104 rfl
             have q117:ρ 117=.bool ((((nth x75.1.entries (0:Int)).val).kind) != ((nth x42.names s70.1).kind)):=hS 55 (by decide) 117 rfl
             exact o_q (r_pickF q104 hc484 q117) ⟨Fr.refl _ _,rfl⟩
           ·intro ρ w754 F754 hS hρ
            have q65:ρ 65=.bool x120.2:=hS 3 65 rfl
            have q66:ρ 66=.bool (!x120.2):=hS 4 66 rfl
            have q69:ρ 69=.pointer (some ⟨b92,2,none⟩):=hS 7 69 rfl
            have q70:ρ 70=.int .i64 x75.1.b:=hS 8 70 rfl
            have q71:ρ 71=.pointer (some ⟨b54,1,none⟩):=hS 9 71 rfl
            have q72:ρ 72=.int .i64 x42.first:=hS 10 72 rfl
            have q73:ρ 73=.int .i64 s70.1:=hS 11 73 rfl
            have q74:ρ 74=.int .i64 (IntKind.i64.wrap (x42.first + s70.1)):=hS 12 74 rfl
            have q75:ρ 75=.bool (x75.1.b != (IntKind.i64.wrap (x42.first + s70.1))):=hS 13 75 rfl
            have q78:ρ 78=.pointer (some ⟨b92,1,none⟩):=hS 16 78 rfl
            have q79:ρ 79=.int .i64 x75.1.a:=hS 17 79 rfl
            have q80:ρ 80=.pointer (some ⟨b54,0,none⟩):=hS 18 80 rfl
            have q81:ρ 81=.int .i64 x42.epoch:=hS 19 81 rfl
            have q82:ρ 82=.bool (x75.1.a != x42.epoch):=hS 20 82 rfl
            have q85:ρ 85=.pointer (some ⟨b92,7,none⟩):=hS 23 85 rfl
            have q86:ρ 86=.slice A89 x75.1.entries.length c90:=hS 24 86 rfl
            have q87:ρ 87=.int .i64 (x75.1.entries.length:Int):=hS 25 87 rfl
            have q88:ρ 88=.bool ((x75.1.entries.length:Int) != (1:Int)):=hS 26 88 rfl
            have q91:ρ 91=.pointer (some ⟨b92,7,none⟩):=hS 29 91 rfl
            have q92:ρ 92=.slice A89 x75.1.entries.length c90:=hS 30 92 rfl
            have q93:ρ 93=.pointer (some (elemA A89 kEnt.n (0:Int).toNat)):=hS 31 93 rfl
            have q94:ρ 94=.pointer (some (ad (elemA A89 kEnt.n (0:Int).toNat) 0)):=hS 32 94 rfl
            have q95:ρ 95=str ((nth x75.1.entries (0:Int)).key):=hS 33 95 rfl
            have q96:ρ 96=.pointer (some ⟨b54,2,none⟩):=hS 34 96 rfl
            have q97:ρ 97=.slice A51 x42.names.length c52:=hS 35 97 rfl
            have q98:ρ 98=.int .i64 s70.1:=hS 36 98 rfl
            have q99:ρ 99=.pointer (some (elemA A51 kNm.n s70.1.toNat)):=hS 37 99 rfl
            have q100:ρ 100=.pointer (some (ad (elemA A51 kNm.n s70.1.toNat) 1)):=hS 38 100 rfl
            have q101:ρ 101=str ((nth x42.names s70.1).key):=hS 39 101 rfl
            have q102:ρ 102=.bool (!(((nth x75.1.entries (0:Int)).key)==((nth x42.names s70.1).key))):=hS 40 102 rfl
            have q105:ρ 105=.pointer (some ⟨b92,7,none⟩):=hS 43 105 rfl
            have q106:ρ 106=.slice A89 x75.1.entries.length c90:=hS 44 106 rfl
            have q107:ρ 107=.pointer (some (elemA A89 kEnt.n (0:Int).toNat)):=hS 45 107 rfl
            have q108:ρ 108=.pointer (some (ad (elemA A89 kEnt.n (0:Int).toNat) 1)):=hS 46 108 rfl
            have q109:ρ 109=.pointer (some (ad (elemA A89 kEnt.n (0:Int).toNat) 1)):=hS 47 109 rfl
            have q110:ρ 110=.int .i64 (((nth x75.1.entries (0:Int)).val).kind):=hS 48 110 rfl
            have q111:ρ 111=.pointer (some ⟨b54,2,none⟩):=hS 49 111 rfl
            have q112:ρ 112=.slice A51 x42.names.length c52:=hS 50 112 rfl
            have q113:ρ 113=.int .i64 s70.1:=hS 51 113 rfl
            have q114:ρ 114=.pointer (some (elemA A51 kNm.n s70.1.toNat)):=hS 52 114 rfl
            have q115:ρ 115=.pointer (some (ad (elemA A51 kNm.n s70.1.toNat) 0)):=hS 53 115 rfl
            have q116:ρ 116=.int .i64 ((nth x42.names s70.1).kind):=hS 54 116 rfl
            have q117:ρ 117=.bool ((((nth x75.1.entries (0:Int)).val).kind) != ((nth x42.names s70.1).kind)):=hS 55 117 rfl
            have q118:ρ 118=.bool ((((nth x75.1.entries (0:Int)).val).kind) != ((nth x42.names s70.1).kind)):=hS 56 118 rfl
            obtain ⟨ρ',rfl⟩:∃ ρ',ρ=envs (ovr [62,63,64,65,66,67,68,69,70,71,72,73,74,75,76,77,78,79,80,81,82,83,84,85,86,87,88,89,90,91,92,93,94,95,96,97,98,99,100,101,102,103,104,105,106,107,108,109,110,111,112,113,114,115,116,117,118] ρ' _) [(65,.bool x120.2),(66,.bool (!x120.2)),(69,.pointer (some ⟨b92,2,none⟩)),(70,.int .i64 x75.1.b),(71,.pointer (some ⟨b54,1,none⟩)),(72,.int .i64 x42.first),(73,.int .i64 s70.1),(74,.int .i64 (IntKind.i64.wrap (x42.first + s70.1))),(75,.bool (x75.1.b != (IntKind.i64.wrap (x42.first + s70.1)))),(78,.pointer (some ⟨b92,1,none⟩)),(79,.int .i64 x75.1.a),(80,.pointer (some ⟨b54,0,none⟩)),(81,.int .i64 x42.epoch),(82,.bool (x75.1.a != x42.epoch)),(85,.pointer (some ⟨b92,7,none⟩)),(86,.slice A89 x75.1.entries.length c90),(87,.int .i64 (x75.1.entries.length:Int)),(88,.bool ((x75.1.entries.length:Int) != (1:Int))),(91,.pointer (some ⟨b92,7,none⟩)),(92,.slice A89 x75.1.entries.length c90),(93,.pointer (some (elemA A89 kEnt.n (0:Int).toNat))),(94,.pointer (some (ad (elemA A89 kEnt.n (0:Int).toNat) 0))),(95,str ((nth x75.1.entries (0:Int)).key)),(96,.pointer (some ⟨b54,2,none⟩)),(97,.slice A51 x42.names.length c52),(98,.int .i64 s70.1),(99,.pointer (some (elemA A51 kNm.n s70.1.toNat))),(100,.pointer (some (ad (elemA A51 kNm.n s70.1.toNat) 1))),(101,str ((nth x42.names s70.1).key)),(102,.bool (!(((nth x75.1.entries (0:Int)).key)==((nth x42.names s70.1).key)))),(105,.pointer (some ⟨b92,7,none⟩)),(106,.slice A89 x75.1.entries.length c90),(107,.pointer (some (elemA A89 kEnt.n (0:Int).toNat))),(108,.pointer (some (ad (elemA A89 kEnt.n (0:Int).toNat) 1))),(109,.pointer (some (ad (elemA A89 kEnt.n (0:Int).toNat) 1))),(110,.int .i64 (((nth x75.1.entries (0:Int)).val).kind)),(111,.pointer (some ⟨b54,2,none⟩)),(112,.slice A51 x42.names.length c52),(113,.int .i64 s70.1),(114,.pointer (some (elemA A51 kNm.n s70.1.toNat))),(115,.pointer (some (ad (elemA A51 kNm.n s70.1.toNat) 0))),(116,.int .i64 ((nth x42.names s70.1).kind)),(117,.bool ((((nth x75.1.entries (0:Int)).val).kind) != ((nth x42.names s70.1).kind))),(118,.bool ((((nth x75.1.entries (0:Int)).val).kind) != ((nth x42.names s70.1).kind)))]:=⟨ρ,ovr_self hρ ⟨q65,q66,q69,q70,q71,q72,q73,q74,q75,q78,q79,q80,q81,q82,q85,q86,q87,q88,q91,q92,q93,q94,q95,q96,q97,q98,q99,q100,q101,q102,q105,q106,q107,q108,q109,q110,q111,q112,q113,q114,q115,q116,q117,q118,trivial⟩⟩
            have E1008:=E162.trans F754
            refine sq_n ?_
            refine ec_cond rfl (fun hc1021=>?_) (fun hc1021=>?_)
            ·replace h:=h.1 hc1021
             refine ec_seq ?_
             refine ec_region ?_
             refine o_w (v:=.bool false) (r_asg rfl) ?_
             refine eo_nil_sq ?_
             refine ec_ret ?_
             refine sq_ret ?_
             refine blk_ret ?_
             refine sq_ret ?_
             subst h
             exact lqR_r (end1 rfl ⟨_,rfl,E1008,rfl⟩)
            ·replace h:=h.2 hc1021
             refine ec_skip ?_
             refine sq_n ?_
             refine ec_region ?_
             refine o_w (v:=.agg #[.int .i64 s70.2.1,.int .i64 s70.2.2.1,.slice A70r4 s70.2.2.2.length c70r4]) (r_lda agg_buffer_Buffer rfl (vs:=[.int .i64 s70.2.1,.int .i64 s70.2.2.1,.slice A70r4 s70.2.2.2.length c70r4]) rfl ((B170.ex F754).part (n:=3) rfl)) ?_
             refine o_w (v:=.agg (cArena d1 A4 c5 A7 c8).toArray) (r_lda agg_api_Arena rfl (vs:=(cArena d1 A4 c5 A7 c8)) rfl ((S13.fr (G164.trans (Fr.ext F754)) (fun _ h=>h)).now.part (n:=3) rfl)) ?_
             refine o_w (v:=.int .i64 (IntKind.i64.wrap ((Int.tmod (IntKind.i64.wrap d2) (8:Int)) + (1:Int)))) (r_mov rfl) ?_
             refine o_w (v:=.agg (cFrm x120.1 A136 c137).toArray) (r_lda agg_frame_Frame rfl (vs:=(cFrm x120.1 A136 c137)) rfl ((B161'.ex F754).part (n:=8) rfl)) ?_
             obtain ⟨ha1023,h⟩:=h
             obtain ⟨ha1024,h⟩:=h
             obtain ⟨ha1025,h⟩:=h
             obtain ⟨ha1026,h⟩:=h
             obtain ⟨x1022,hx1022,h⟩:=h
             refine o_call cf_push_Done rfl (push_Done_c (⟨s70.2.1,s70.2.2.1,s70.2.2.2⟩:Buf) (kBuf_mk (d:=(⟨s70.2.1,s70.2.2.1,s70.2.2.2⟩:Buf)) (H70r4.up (G166.trans (Fr.ext F754)) (fun _ h=>h) (upc (.inr m146) (upc (.inr m98) (upc (.inl (List.Mem.head _)) (upc (.inl (List.Mem.tail _ (List.Mem.head _))) (fun m hm=>Or.inl (List.Mem.tail _ (List.Mem.tail _ hm))))))))) d1 (kArena_mk (d:=d1) (H6.up (G163.trans (Fr.ext F754)) (fun _ h=>h) (upc (.inr m143) (upc (.inr m95) (upc (.inr m56) (upc (.inr m11) (fun _ h=>.inl h)))))) (H9.up (G163.trans (Fr.ext F754)) (fun _ h=>h) (upc (.inr m143) (upc (.inr m95) (upc (.inr m56) (upc (.inr m11) (fun _ h=>.inl h))))))) (IntKind.i64.wrap ((Int.tmod (IntKind.i64.wrap d2) (8:Int)) + (1:Int))) x120.1 (kFrm_mk (d:=x120.1) (H138.up (G169.trans (Fr.ext F754)) (fun _ h=>h) (upc (.inr m149) (upc (.inl (List.Mem.head _)) (upc (.inl (List.Mem.tail _ (List.Mem.head _))) (upc (.inl (List.Mem.tail _ (List.Mem.tail _ (List.Mem.head _)))) (fun m hm=>Or.inl (List.Mem.tail _ (List.Mem.tail _ (List.Mem.tail _ hm))))))))) hl135) (((((hL.fr E1008).cons (B170.ex F754).lt).cons (B171.ex F754).lt).cons (B172.ex F754).lt).cons (B161'.ex F754).lt) (eq_ev hx1022 (puDone_ev (⟨s70.2.1,s70.2.2.1,s70.2.2.2⟩:Buf) d1 (IntKind.i64.wrap ((Int.tmod (IntKind.i64.wrap d2) (8:Int)) + (1:Int))) x120.1 ha1023 ha1024 ha1025 ha1026))) rfl rfl ?_
             rintro _ w1022 ⟨F1022,cs1027,rfl,H1028⟩
             have E1029:=E1008.trans F1022
             obtain ⟨A1042,c1043,rfl,H1044⟩:=kBuf_open H1028
             refine o_store rfl ((B170.ex F754).ex F1022) (vs:=(cBuf x1022 A1042 c1043)) rfl sz_buffer_Buffer rfl rfl rfl ?_
             intro w1045 F1045 B1045
             have E1046:=Ext.st E1029 F1045 (by simp; omega)
             have G1051:Fr (b54::(b10::L)) w64 w1045:=((G167.trans (Fr.ext F754)).trans (Fr.ext F1022)).stp F1045 (upc (.inl (List.Mem.tail _ (List.Mem.head _))) (fun m hm=>by cases hm))
             have G1055:Fr (b139::(b92::(b54::(b10::L)))) w1022 w1045:=(Fr.refl _ _).stp F1045 (upc (.inl (List.Mem.tail _ (List.Mem.tail _ (List.Mem.tail _ (List.Mem.head _))))) (fun m hm=>by cases hm))
             have B1056:=((B171.ex F754).ex F1022).fr F1045 (by simp; omega)
             have B1045':Blk w1045 b10 _ (cBuf x1022 A1042 c1043):=B1045
             refine eo_nil ?_
             refine blk_n ?_
             refine sq_n ?_
             refine ec_region ?_
             refine o_w (v:=.int .i64 s70.1) (r_mov rfl) ?_
             refine o_w (v:=.int .i64 (IntKind.i64.wrap (s70.1 + (1:Int)))) (r_int rfl rfl rfl) ?_
             refine o_w (v:=.int .i64 (IntKind.i64.wrap (s70.1 + (1:Int)))) (r_asg rfl) ?_
             refine eo_nil ?_
             subst h
             exact lqR_n ⟨_,A1042,c1043,envs_self ⟨rfl,rfl,rfl,rfl,rfl,rfl,trivial⟩,rfl,G1051,E1046,(H1044.up G1055 (fun _ h=>h) (upc (.inl (List.Mem.tail _ (List.Mem.tail _ (List.Mem.head _)))) (upc (.inl (List.Mem.tail _ (List.Mem.tail _ (List.Mem.tail _ (List.Mem.head _))))) (fun m hm=>Or.inl (List.Mem.tail _ (List.Mem.tail _ (List.Mem.tail _ (List.Mem.tail _ hm)))))))),B1045',B1056⟩
    ·replace h:=h.2 hc74
     refine ec_exit ?_
     refine sq_exit ?_
     subst h
     exact lqR_x ⟨_,A70r4,c70r4,envs_self ⟨rfl,rfl,rfl,rfl,rfl,rfl,trivial⟩,rfl,F70r,E70r,H70r4,B70rb10,B70rb54⟩
   ·exact ⟨_,A1,c2,envs_self ⟨rfl,rfl,rfl,rfl,rfl,rfl,trivial⟩,rfl,(Fr.refl _ _),E65,(H3.up G66 (fun _ h=>h) (upc (.inr m56) (upc (.inr m11) (fun _ h=>.inl h)))),B69,B64'⟩
   ·rintro sx70 rfl ρ70e ds70e w70e ⟨ρ70e,A70e4,c70e4,rfl,rfl,F70e,E70e,H70e4,B70eb10,B70eb54⟩
    replace h:=h.1 _ rfl
    have G1059:Fr L w w70e:=G66.stp F70e (upc (.inr m56) (upc (.inr m11) (fun _ h=>.inl h)))
    have G1060:Fr (b10::L) w13 w70e:=G67.stp F70e (upc (.inr m57) (upc (.inl (List.Mem.head _)) (fun m hm=>Or.inl (List.Mem.tail _ hm))))
    refine blk_hit ?_
    refine sq_n ?_
    refine ec_seq ?_
    refine ec_region ?_
    refine o_w (v:=.agg #[.int .i64 sx70.2.1,.int .i64 sx70.2.2.1,.slice A70e4 sx70.2.2.2.length c70e4]) (r_lda agg_buffer_Buffer rfl (vs:=[.int .i64 sx70.2.1,.int .i64 sx70.2.2.1,.slice A70e4 sx70.2.2.2.length c70e4]) rfl (B70eb10.part (n:=3) rfl)) ?_
    refine o_w (v:=.agg (cArena d1 A4 c5 A7 c8).toArray) (r_lda agg_api_Arena rfl (vs:=(cArena d1 A4 c5 A7 c8)) rfl ((S13.fr G1060 (fun _ h=>h)).now.part (n:=3) rfl)) ?_
    refine o_w (v:=.int .i64 (IntKind.i64.wrap ((Int.tmod (IntKind.i64.wrap d2) (8:Int)) + (1:Int)))) (r_mov rfl) ?_
    obtain ⟨ha1063,h⟩:=h
    obtain ⟨ha1064,h⟩:=h
    obtain ⟨x1062,hx1062,h⟩:=h
    refine o_call cf_push_Send rfl (push_Send_c (⟨sx70.2.1,sx70.2.2.1,sx70.2.2.2⟩:Buf) (kBuf_mk (d:=(⟨sx70.2.1,sx70.2.2.1,sx70.2.2.2⟩:Buf)) H70e4) d1 (kArena_mk (d:=d1) (H6.up G1059 (fun _ h=>h) (upc (.inr m56) (upc (.inr m11) (fun _ h=>.inl h)))) (H9.up G1059 (fun _ h=>h) (upc (.inr m56) (upc (.inr m11) (fun _ h=>.inl h))))) (IntKind.i64.wrap ((Int.tmod (IntKind.i64.wrap d2) (8:Int)) + (1:Int))) (1:Int) (((hL.fr E70e).cons B70eb10.lt).cons B70eb54.lt) (eq_ev hx1062 (puSend_ev (⟨sx70.2.1,sx70.2.2.1,sx70.2.2.2⟩:Buf) d1 (IntKind.i64.wrap ((Int.tmod (IntKind.i64.wrap d2) (8:Int)) + (1:Int))) (1:Int) ha1063 ha1064))) rfl rfl ?_
    rintro _ w1062 ⟨F1062,cs1065,rfl,H1066⟩
    have E1067:=E70e.trans F1062
    obtain ⟨A1075,c1076,rfl,H1077,hl1074⟩:=kFrm_open H1066
    refine o_w (v:=.tuple #[.agg (cFrm x1062.1 A1075 c1076).toArray,.bool x1062.2]) (r_mov rfl) ?_
    refine o_w (v:=.agg (cFrm x1062.1 A1075 c1076).toArray) (r_ext rfl rfl) ?_
    refine o_w (v:=.bool x1062.2) (r_ext rfl rfl) ?_
    refine o_alloc zero_frame_Frame rfl rfl rfl ?_
    intro b1078 w1078 e1078 F1078 B1078
    have n1078:w.heap.size≤b1078:=by rw [e1078]; exact E1067.size
    have q1079:b10<b1078:=by rw [e1078]; exact (B70eb10.ex F1062).lt
    have q1080:b54<b1078:=by rw [e1078]; exact (B70eb54.ex F1062).lt
    have E1086:=E1067.trans F1078
    refine o_store rfl B1078 (vs:=(cFrm x1062.1 A1075 c1076)) rfl sz_frame_Frame rfl rfl rfl ?_
    intro w1094 F1094 B1094
    have E1095:=Ext.st E1086 F1094 (by simp; omega)
    refine o_w (v:=.bool x1062.2) (r_asg rfl) ?_
    refine eo_nil_sq ?_
    refine ec_seq ?_
    refine ec_region ?_
    iterate 2 refine o_w (v:=.bool (worksV)) (r_mov rfl) ?_
    refine o_v (v:=.bool x1062.2) (r_mov rfl) (want_t (t:=132) rfl rfl (of_not hc22)) rfl rfl ?_
    refine o_v (v:=.bool (!x1062.2)) (r_not rfl) (want_t (t:=132) rfl rfl (of_not hc22)) rfl rfl ?_
    refine o_w (v:=.bool (!x1062.2)) (r_pickT rfl (of_not hc22) rfl) ?_
    refine o_w (v:=.bool (!x1062.2)) (r_asg rfl) ?_
    refine eo_nil_sq ?_
    refine ec_ret ?_
    subst h
    exact (end1 rfl ⟨_,rfl,E1095,rfl⟩)
   ·rintro y70 rfl ρ70q ds70q w70q hJ
    have hy:=h.2 _ rfl
    subst hy
    refine blk_ret ?_
    refine sq_ret ?_
    exact hJ
end Go.Proofs.Ythfkbabgkacfnaa
