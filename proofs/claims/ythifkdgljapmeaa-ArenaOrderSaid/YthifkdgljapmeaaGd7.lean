/- The law ArenaOrder: what it comes to. -/
import Derived.Test.YthifkdgljapmeaaOr
namespace Go.Proofs.Ythifkdgljapmeaa
open Go Go.RowKit
set_option linter.unusedVariables false
set_option linter.unusedSimpArgs false
def law08_ArenaOrder_b59 (d1:(List Ent)) (d2:Int) (s59:List Ent × Int) (z59:(List Ent × Int) ⊕ (List Ent × Int)):Prop :=
 ((decide (s59.2<(d1.length:Int)))=true→(((d1.length:Int)==0)=false∧((0≤(Int.tmod (IntKind.i64.wrap ((IntKind.i64.wrap (s59.2 * (7:Int))) + (IntKind.i64.wrap d2))) (d1.length:Int))∧(Int.tmod (IntKind.i64.wrap ((IntKind.i64.wrap (s59.2 * (7:Int))) + (IntKind.i64.wrap d2))) (d1.length:Int))<(d1.length:Int))∧((s59.1.length + 1≤9223372036854775807∧(s59.1.length + 1) * 120≤140737488355328)∧(z59=.inl ((s59.1++([(nth d1 (Int.tmod (IntKind.i64.wrap ((IntKind.i64.wrap (s59.2 * (7:Int))) + (IntKind.i64.wrap d2))) (d1.length:Int)))]:List Ent)),(IntKind.i64.wrap (s59.2 + (1:Int)))))))))∧((decide (s59.2<(d1.length:Int)))=false→(z59=.inr (s59.1,s59.2)))
def law08_ArenaOrder_raw (d0:Arena) (d1:(List Ent)) (d2:Int) (y:Bool):Prop :=
 ((!(worksV))=true→(y=false))∧((!(worksV))=false→(((fewA d0)=true→((8:Int):Int)≤100)∧(((!(!((fewA d0)&&(entriesB d1 (8:Int)))))=true→sma d0)∧((((!((fewA d0)&&(entriesB d1 (8:Int))))||((checkA d0) != (0:Int)))=true→(y=(worksV)))∧(((!((fewA d0)&&(entriesB d1 (8:Int))))||((checkA d0) != (0:Int)))=false→((sma d0)∧((sml d1)∧((wfl d1)∧(∃ x31,x31=(mergeA d0 d1)∧(∃ x59,LoopR (law08_ArenaOrder_b59 d1 d2) (([]:List Ent),(0:Int)) x59∧((((d1.length:Int)==7)=true→((d1.length + d1.length≤9223372036854775807∧(d1.length + d1.length) * 120≤140737488355328)∧((sma d0)∧((sml (d1++d1))∧((wfl (d1++d1))∧(∃ x116,x116=(mergeA d0 (d1++d1))∧(((decide (0<x31.2.2))=true→(y=(decide (0<x116.2.2))))∧((decide (0<x31.2.2))=false→(((x116.2.2==0)=true→(((alikeA x31.1 x116.1)=true→(sma x31.1∧(sma x116.1∧(sma x31.1∧(∃ x169,x169=(allA x31.1)∧(sma x116.1∧(∃ x174,x174=(allA x116.1)∧(sml x169∧(y=(allE x169 x174))))))))))∧((alikeA x31.1 x116.1)=false→(sma x31.1∧(sma x116.1∧(y=false))))))∧((x116.2.2==0)=false→(y=false)))))))))))∧(((d1.length:Int)==7)=false→((x59.1.length + d1.length≤9223372036854775807∧(x59.1.length + d1.length) * 120≤140737488355328)∧((sma d0)∧((sml (x59.1++d1))∧((wfl (x59.1++d1))∧(∃ x321,x321=(mergeA d0 (x59.1++d1))∧(((decide (0<x31.2.2))=true→(y=(decide (0<x321.2.2))))∧((decide (0<x31.2.2))=false→(((x321.2.2==0)=true→(((alikeA x31.1 x321.1)=true→(sma x31.1∧(sma x321.1∧(sma x31.1∧(∃ x374,x374=(allA x31.1)∧(sma x321.1∧(∃ x379,x379=(allA x321.1)∧(sml x374∧(y=(allE x374 x379))))))))))∧((alikeA x31.1 x321.1)=false→(sma x31.1∧(sma x321.1∧(y=false))))))∧((x321.2.2==0)=false→(y=false))))))))))))))))))))))
set_option maxRecDepth 20000 in
set_option maxHeartbeats 4000000 in
theorem law08_ArenaOrder_c {L:List Nat} {w:World} {csP0:List Value} (d0:Arena) (HP0:Stb L w (fun w=>kArena.r w csP0 d0)) {AP1:Option Addr} {cP1:Nat} (d1:(List Ent)) (HP1:Stb L w (fun w=>SlC kEnt w AP1 cP1 d1)) (d2:Int) (hL:Lt L w) {y:Bool} (h:law08_ArenaOrder_raw d0 d1 d2 y) :
  Calls Try.prog 6 [.agg csP0.toArray,.slice AP1 d1.length cP1,.int .u8 d2].toArray w (Ret fun v w'=>Ext w w'∧v=.bool y):=by
 obtain ⟨A1,c2,A4,c5,rfl,H3,H6⟩:=kArena_open HP0
 unfold law08_ArenaOrder_raw at h
 refine calls_ec Try.func6 rfl rfl rfl ?_
 refine ec_sr ?_
 refine o_box (cs:=(cArena d0 A1 c2 A4 c5)) rfl rfl rfl ?_
 intro b7 w7 e7 F7 B7
 have S7:=B7.stb (nin hL e7)
 have G8:Fr L w w7:=Fr.ext F7
 refine o_w (v:=.bool false) (r_asg rfl) ?_
 refine eo_r ?_
 refine o_call cf_law08_works rfl (law08_works_c (hL.fr F7) (works8_ev)) rfl rfl ?_
 rintro _ w9 ⟨F9,rfl⟩
 have E10:=F7.trans F9
 have G12:Fr L w7 w9:=Fr.ext F9
 refine o_w (v:=.bool (worksV)) (r_asg rfl) ?_
 refine eo_nil_sq ?_
 refine ec_seq ?_
 refine ec_sr ?_
 refine o_w (v:=.bool (worksV)) (r_mov rfl) ?_
 refine o_w (v:=.bool (!(worksV))) (r_not rfl) ?_
 refine eo_nil_sq ?_
 refine ec_cond rfl (fun hc13=>?_) (fun hc13=>?_)
 ·replace h:=h.1 hc13
  refine ec_sr ?_
  refine o_w (v:=.bool false) (r_asg rfl) ?_
  refine eo_nil_sq ?_
  refine ec_ret ?_
  refine sq_ret ?_
  subst h
  exact (end1 rfl ⟨_,rfl,E10,rfl⟩)
 ·replace h:=h.2 hc13
  refine ec_skip ?_
  refine sq_n ?_
  refine ec_sr ?_
  refine o_w (v:=.agg (cArena d0 A1 c2 A4 c5).toArray) (r_lda agg_api_Arena rfl (vs:=(cArena d0 A1 c2 A4 c5)) rfl ((S7.fr G12 sI).now.part (n:=3) rfl)) ?_
  refine o_call cf_law08_Few rfl (law08_Few_c d0 (kArena_mk (d:=d0) (H3.fr (G8.trans (Fr.ext F9)) sI) (H6.fr (G8.trans (Fr.ext F9)) sI)) (hL.fr E10) (fewA_ev d0)) rfl rfl ?_
  rintro _ w15 ⟨F15,rfl⟩
  have E16:=E10.trans F15
  refine o_w (v:=.bool (fewA d0)) (r_mov rfl) ?_
  refine o_vg (v:=.slice AP1 d1.length cP1) (want_ct (t:=22) rfl rfl) (fun hk=>(r_mov rfl)) rfl rfl ?_
  obtain ⟨ha20,h⟩:=h
  refine o_callg (V:=.bool (entriesB d1 (8:Int))) cf_law08_Entries (want_ct (t:=22) rfl rfl) (fun hk=>(mapv2 (gdT (u:=undef) hk) rfl)) (fun hk=>(law08_Entries_c d1 (HP1.fr ((G8.trans (Fr.ext F9)).trans (Fr.ext F15)) sI) (8:Int) (hL.fr E16) (entries_ev d1 (8:Int) (ha20 hk)))) rfl ?_
  intro w19 F19
  have E21:=E16.trans F19
  refine o_w (v:=.bool ((fewA d0)&&(entriesB d1 (8:Int)))) (r_pickAnd rfl (fun ht=>(gdT (u:=undef) ht)) rfl) ?_
  refine o_w (v:=.bool ((fewA d0)&&(entriesB d1 (8:Int)))) (r_asg rfl) ?_
  refine eo_nil_sq ?_
  refine ec_seq ?_
  refine ec_sr ?_
  refine o_w (v:=.bool ((fewA d0)&&(entriesB d1 (8:Int)))) (r_mov rfl) ?_
  refine o_w (v:=.bool (!((fewA d0)&&(entriesB d1 (8:Int))))) (r_not rfl) ?_
  refine o_w (v:=.bool (!((fewA d0)&&(entriesB d1 (8:Int))))) (r_mov rfl) ?_
  refine o_vg (v:=.agg (cArena d0 A1 c2 A4 c5).toArray) (want_cf (t:=28) rfl rfl) (fun hk=>(r_lda agg_api_Arena rfl (vs:=(cArena d0 A1 c2 A4 c5)) rfl ((S7.fr ((G12.trans (Fr.ext F15)).trans (Fr.ext F19)) sI).now.part (n:=3) rfl))) rfl rfl ?_
  obtain ⟨ha26,h⟩:=h
  refine o_callg (V:=.int .i64 (checkA d0)) cf_arena_Check (want_cf (t:=28) rfl rfl) (fun hk=>(mapv1 (gdT (u:=undef) hk))) (fun hk=>(arena_Check_c d0 (kArena_mk (d:=d0) (H3.fr (((G8.trans (Fr.ext F9)).trans (Fr.ext F15)).trans (Fr.ext F19)) sI) (H6.fr (((G8.trans (Fr.ext F9)).trans (Fr.ext F15)).trans (Fr.ext F19)) sI)) (hL.fr E21) (arCheck_ev d0 (ha26 hk)))) rfl ?_
  intro w25 F25
  have E27:=E21.trans F25
  have G28:=(((G8.trans (Fr.ext F9)).trans (Fr.ext F15)).trans (Fr.ext F19)).trans (Fr.ext F25)
  refine o_vg (v:=.bool ((checkA d0) != (0:Int))) (want_cf (t:=28) rfl rfl) (fun hk=>(r_int (gdT (u:=undef) hk) rfl rfl)) rfl rfl ?_
  refine o_w (v:=.bool ((!((fewA d0)&&(entriesB d1 (8:Int))))||((checkA d0) != (0:Int)))) (r_pickOr rfl rfl (fun hf=>(gdT (u:=undef) (notT hf)))) ?_
  refine eo_nil_sq ?_
  refine ec_cond rfl (fun hc30=>?_) (fun hc30=>?_)
  ·replace h:=h.1 hc30
   refine ec_sr ?_
   refine o_w (v:=.bool (worksV)) (r_mov rfl) ?_
   refine o_w (v:=.bool (worksV)) (r_asg rfl) ?_
   refine eo_nil_sq ?_
   refine ec_ret ?_
   refine sq_ret ?_
   subst h
   exact (end1 rfl ⟨_,rfl,E27,rfl⟩)
  ·replace h:=h.2 hc30
   refine ec_skip ?_
   refine sq_n ?_
   refine ec_sr ?_
   refine o_w (v:=.agg (cArena d0 A1 c2 A4 c5).toArray) (r_lda agg_api_Arena rfl (vs:=(cArena d0 A1 c2 A4 c5)) rfl ((S7.fr (((G12.trans (Fr.ext F15)).trans (Fr.ext F19)).trans (Fr.ext F25)) sI).now.part (n:=3) rfl)) ?_
   refine o_w (v:=.slice AP1 d1.length cP1) (r_mov rfl) ?_
   obtain ⟨ha32,h⟩:=h
   obtain ⟨ha33,h⟩:=h
   obtain ⟨ha34,h⟩:=h
   obtain ⟨x31,hx31,h⟩:=h
   refine o_call cf_arena_Merge rfl (arena_Merge_c d0 (kArena_mk (d:=d0) (H3.fr G28 sI) (H6.fr G28 sI)) d1 (HP1.fr G28 sI) (hL.fr E27) (eq_ev hx31 (arMerge_ev d0 d1 ha32 ha33 ha34))) rfl rfl ?_
   rintro _ w31 ⟨F31,cs35,rfl,H36⟩
   have E37:=E27.trans F31
   have G39:=(((G12.trans (Fr.ext F15)).trans (Fr.ext F19)).trans (Fr.ext F25)).trans (Fr.ext F31)
   obtain ⟨A40,c41,A43,c44,rfl,H42,H45⟩:=kArena_open H36
   refine o_w (v:=.tuple #[.agg (cArena x31.1 A40 c41 A43 c44).toArray,.int .i64 x31.2.1,.int .i64 x31.2.2]) (r_mov rfl) ?_
   refine o_w (v:=.agg (cArena x31.1 A40 c41 A43 c44).toArray) (r_ext rfl rfl) ?_
   refine o_w (v:=.int .i64 x31.2.1) (r_ext rfl rfl) ?_
   refine o_w (v:=.int .i64 x31.2.2) (r_ext rfl rfl) ?_
   refine o_alloc zero_api_Arena rfl rfl rfl ?_
   intro b46 w46 e46 F46 B46
   have n46:w.heap.size≤b46:=by rw [e46]; exact E37.size
   have m47:w.heap.size≤b46:=by rw [e46]; exact (G28.trans (Fr.ext F31)).size
   have m48:w7.heap.size≤b46:=by rw [e46]; exact G39.size
   have m49:w31.heap.size≤b46:=Nat.le_of_eq e46.symm
   have E50:=E37.trans F46
   have G53:Fr L w31 w46:=Fr.ext F46
   refine o_store rfl B46 (vs:=(cArena x31.1 A40 c41 A43 c44)) rfl sz_api_Arena rfl rfl rfl ?_
   intro w54 F54 B54
   have E55:=Ext.st E50 F54 (by simp; omega)
   have G56:Fr L w w54:=((G28.trans (Fr.ext F31)).trans (Fr.ext F46)).stp F54 (upc (.inr m47) (fun m hm=>by cases hm))
   have G57:Fr L w7 w54:=(G39.trans (Fr.ext F46)).stp F54 (upc (.inr m48) (fun m hm=>by cases hm))
   have G58:Fr L w31 w54:=G53.stp F54 (upc (.inr m49) (fun m hm=>by cases hm))
   have B54':Blk w54 b46 _ (cArena x31.1 A40 c41 A43 c44):=B54
   refine o_w (v:=.int .i64 x31.2.1) (r_asg rfl) ?_
   refine o_w (v:=.int .i64 x31.2.2) (r_asg rfl) ?_
   refine eo_r ?_
   refine o_w (v:=.slice none ([]:List Ent).length 0) (r_asg rfl) ?_
   refine eo_nil_sq ?_
   refine ec_seq ?_
   refine ec_sr ?_
   refine o_w (v:=.int .i64 0) (r_asg rfl) ?_
   refine eo_nil_sq ?_
   refine ec_block ?_
   have lo60:w.heap.size≤w54.heap.size:=E55.size
   have O60:=OwnS.nil (k:=kEnt) (e:=42) (by decide) ((hL.fr E55).cons B54'.lt)
   obtain ⟨x59,hl59,h⟩:=h
   refine ec_loopE 0 (I:=(fun (s59:List Ent × Int) ρ ds w'=>∃ (ρ':Env) (v59i1:Value),ρ=envs ρ' [(12,v59i1),(13,.int .i64 s59.2),(1,.slice AP1 d1.length cP1),(2,.int .u8 d2),(3,.pointer (some ⟨b7,0,none⟩)),(7,.bool (worksV)),(9,.pointer (some ⟨b46,0,none⟩)),(11,.int .i64 x31.2.2)]∧ds=[]∧Fr (own (.slice none 0 0)++(b46::L)) w54 w'∧Ext w w'∧OwnS kEnt (w54.heap.size) 42 (b46::L) w' v59i1 s59.1∧(∀ q∈own v59i1,q∈(own (.slice none 0 0)++(b46::L))∨w54.heap.size≤q)∧Blk w' b46 25 (cArena x31.1 A40 c41 A43 c44))) ?_ hl59 ?_ ?_
   ·intro s59 z59 ρ59 ds59 w59r hI59 hb59
    obtain ⟨ρ59r,v59r1,rfl,rfl,F59r,E59r,O59r1,N59r1,B59rb46⟩:=hI59
    have h:=hb59
    unfold law08_ArenaOrder_b59 at h
    have G61:Fr L w w59r:=G56.stp F59r (upo (fun m hm=>by cases hm) (upc (.inr m47) (fun _ h=>.inl h)))
    have P64:∀ m∈own v59r1,m∈L∨w.heap.size≤m:=fun m hm=>(N59r1 m hm).elim (fun h=>(show ∀ m∈(own (.slice none 0 0)++(b46::L)),m∈L∨w.heap.size≤m from (upo (fun m hm=>by cases hm) (upc (.inr m47) (fun _ h=>.inl h)))) m h) (fun h=>.inr (Nat.le_trans (G56.size) h))
    refine ec_seq ?_
    refine ec_sr ?_
    refine o_w (v:=.int .i64 s59.2) (r_mov rfl) ?_
    refine o_w (v:=.slice AP1 d1.length cP1) (r_mov rfl) ?_
    refine o_w (v:=.int .i64 (d1.length:Int)) (r_len_slc un_s_api_Entry rfl) ?_
    refine o_w (v:=.bool (decide (s59.2<(d1.length:Int)))) (r_int rfl rfl rfl) ?_
    refine eo_nil_sq ?_
    refine ec_cond rfl (fun hc67=>?_) (fun hc67=>?_)
    ·replace h:=h.1 hc67
     refine ec_skip ?_
     refine sq_n ?_
     refine ec_seq ?_
     refine ec_block ?_
     refine ec_region ?_
     refine o_w (v:=v59r1) (r_mov rfl) ?_
     refine o_w (v:=.slice AP1 d1.length cP1) (r_mov rfl) ?_
     refine o_w (v:=.int .i64 s59.2) (r_mov rfl) ?_
     refine o_w (v:=.int .i64 (IntKind.i64.wrap (s59.2 * (7:Int)))) (r_int rfl rfl rfl) ?_
     refine o_w (v:=.int .u8 d2) (r_mov rfl) ?_
     refine o_w (v:=.int .i64 (IntKind.i64.wrap d2)) (r_conv un_uint8 un_int rfl) ?_
     refine o_w (v:=.int .i64 (IntKind.i64.wrap ((IntKind.i64.wrap (s59.2 * (7:Int))) + (IntKind.i64.wrap d2)))) (r_int rfl rfl rfl) ?_
     refine o_w (v:=.slice AP1 d1.length cP1) (r_mov rfl) ?_
     refine o_w (v:=.int .i64 (d1.length:Int)) (r_len_slc un_s_api_Entry rfl) ?_
     obtain ⟨ha68,h⟩:=h
     refine o_w (v:=.int .i64 (Int.tmod (IntKind.i64.wrap ((IntKind.i64.wrap (s59.2 * (7:Int))) + (IntKind.i64.wrap d2))) (d1.length:Int))) (r_rem rfl rfl ha68) ?_
     obtain ⟨ha69,h⟩:=h
     obtain ⟨cs70,l72,H71⟩:=Stb.elem (by decide) (HP1.up G61 sI (upo P64 (upc (.inr m47) (fun _ h=>.inl h)))) (Int.tmod (IntKind.i64.wrap ((IntKind.i64.wrap (s59.2 * (7:Int))) + (IntKind.i64.wrap d2))) (d1.length:Int)) ha69.1 ha69.2
     obtain ⟨A74,c75,A77,c78,rfl,H73,H76,H79⟩:=kEnt_open2 H71
     refine o_w (v:=.pointer (some (elemA AP1 kEnt.n (Int.tmod (IntKind.i64.wrap ((IntKind.i64.wrap (s59.2 * (7:Int))) + (IntKind.i64.wrap d2))) (d1.length:Int)).toNat))) (r_ia slc_s_api_Entry rfl rfl ((HP1.fr G61 sI).now.2 _ (lt_toNat ha69.1 ha69.2)).1 ha69.1 ha69.2) ?_
     refine o_w (v:=.agg (cEnt (nth d1 (Int.tmod (IntKind.i64.wrap ((IntKind.i64.wrap (s59.2 * (7:Int))) + (IntKind.i64.wrap d2))) (d1.length:Int))) A74 c75 A77 c78).toArray) (r_lda' agg_api_Entry rfl (elemA_spot _ _ _) (vs:=(cEnt (nth d1 (Int.tmod (IntKind.i64.wrap ((IntKind.i64.wrap (s59.2 * (7:Int))) + (IntKind.i64.wrap d2))) (d1.length:Int))) A74 c75 A77 c78)) rfl (H73.now.1)) ?_
     refine o_bslice slc_s_api_Entry rfl (vs:=[.agg (cEnt (nth d1 (Int.tmod (IntKind.i64.wrap ((IntKind.i64.wrap (s59.2 * (7:Int))) + (IntKind.i64.wrap d2))) (d1.length:Int))) A74 c75 A77 c78).toArray]) rfl rfl rfl (cs:=[str ((nth d1 (Int.tmod (IntKind.i64.wrap ((IntKind.i64.wrap (s59.2 * (7:Int))) + (IntKind.i64.wrap d2))) (d1.length:Int))).key),.int .i64 (((nth d1 (Int.tmod (IntKind.i64.wrap ((IntKind.i64.wrap (s59.2 * (7:Int))) + (IntKind.i64.wrap d2))) (d1.length:Int))).val).kind),.int .i64 (((nth d1 (Int.tmod (IntKind.i64.wrap ((IntKind.i64.wrap (s59.2 * (7:Int))) + (IntKind.i64.wrap d2))) (d1.length:Int))).val).time),.int .i64 (((nth d1 (Int.tmod (IntKind.i64.wrap ((IntKind.i64.wrap (s59.2 * (7:Int))) + (IntKind.i64.wrap d2))) (d1.length:Int))).val).node),.bool (((nth d1 (Int.tmod (IntKind.i64.wrap ((IntKind.i64.wrap (s59.2 * (7:Int))) + (IntKind.i64.wrap d2))) (d1.length:Int))).val).dead),str (((nth d1 (Int.tmod (IntKind.i64.wrap ((IntKind.i64.wrap (s59.2 * (7:Int))) + (IntKind.i64.wrap d2))) (d1.length:Int))).val).text),.slice A74 (((nth d1 (Int.tmod (IntKind.i64.wrap ((IntKind.i64.wrap (s59.2 * (7:Int))) + (IntKind.i64.wrap d2))) (d1.length:Int))).val).plus).length c75,.slice A77 (((nth d1 (Int.tmod (IntKind.i64.wrap ((IntKind.i64.wrap (s59.2 * (7:Int))) + (IntKind.i64.wrap d2))) (d1.length:Int))).val).minus).length c78,.int .u64 (((nth d1 (Int.tmod (IntKind.i64.wrap ((IntKind.i64.wrap (s59.2 * (7:Int))) + (IntKind.i64.wrap d2))) (d1.length:Int))).val).flags)]) rfl rfl rfl rfl ?_
     intro b80 w80 e80 F80 B80
     have N80:=nin (((hL.fr E59r).cons B59rb46.lt).own O59r1) e80
     have S80:=B80.stb N80
     have E81:=E59r.trans F80
     have G86:Fr (own v59r1++(b46::L)) w59r w80:=Fr.ext F80
     obtain ⟨ha90,h⟩:=h
     refine o_app slc_s_api_Entry rfl rfl rfl (O59r1.ex F80) rfl S80.now (ys:=([(nth d1 (Int.tmod (IntKind.i64.wrap ((IntKind.i64.wrap (s59.2 * (7:Int))) + (IntKind.i64.wrap d2))) (d1.length:Int)))]:List Ent)) rfl rfl rfl (rowd1 (cs:=(cEnt (nth d1 (Int.tmod (IntKind.i64.wrap ((IntKind.i64.wrap (s59.2 * (7:Int))) + (IntKind.i64.wrap d2))) (d1.length:Int))) A74 c75 A77 c78)) (kEnt_mk (d:=(nth d1 (Int.tmod (IntKind.i64.wrap ((IntKind.i64.wrap (s59.2 * (7:Int))) + (IntKind.i64.wrap d2))) (d1.length:Int)))) (H76.fr G86 sI) (H79.fr G86 sI)) rfl) ha90 rfl rfl ?_
     intro v89 w89 F89 O89 N89
     have P94:∀ m∈own v89,m∈(own (.slice none 0 0)++(b46::L))∨w54.heap.size≤m:=fun m hm=>(N89 m hm).elim (fun h=>(show ∀ m∈own v59r1,m∈(own (.slice none 0 0)++(b46::L))∨w54.heap.size≤m from N59r1) m h) (fun h=>.inr (Nat.le_trans ((F59r.trans (Fr.ext F80)).size) h))
     have E97:=Ext.st E81 F89 (fun m hm=>Nat.le_trans lo60 ((O59r1.ex F80).lo m hm))
     have G101:Fr (own (.slice none 0 0)++(b46::L)) w54 w89:=(F59r.trans (Fr.ext F80)).stp F89 N59r1
     have B104:=(B59rb46.ex F80).fr F89 (fun hm=>((O59r1.ex F80).below b46 (by simp)).2 hm)
     refine o_w (v:=v89) (r_asg rfl) ?_
     refine eo_nil ?_
     refine blk_n ?_
     refine sq_n ?_
     refine ec_region ?_
     refine o_w (v:=.int .i64 s59.2) (r_mov rfl) ?_
     refine o_w (v:=.int .i64 (IntKind.i64.wrap (s59.2 + (1:Int)))) (r_int rfl rfl rfl) ?_
     refine o_w (v:=.int .i64 (IntKind.i64.wrap (s59.2 + (1:Int)))) (r_asg rfl) ?_
     refine eo_nil ?_
     subst h
     exact lq_n ⟨_,v89,envs_self ⟨rfl,rfl,rfl,rfl,rfl,rfl,rfl,rfl,trivial⟩,rfl,G101,E97,O89,P94,B104⟩
    ·replace h:=h.2 hc67
     refine ec_exit ?_
     refine sq_exit ?_
     subst h
     exact lq_x ⟨_,v59r1,envs_self ⟨rfl,rfl,rfl,rfl,rfl,rfl,rfl,rfl,trivial⟩,rfl,F59r,E59r,O59r1,N59r1,B59rb46⟩
   ·exact ⟨_,(.slice none 0 0),envs_self ⟨rfl,rfl,rfl,rfl,rfl,rfl,rfl,rfl,trivial⟩,rfl,(Fr.refl _ _),E55,O60,(fun q hq=>.inl (by first | exact List.mem_append_left _ hq | simp [hq])),B54'⟩
   ·rintro ρ59e ds59e w59e ⟨ρ59e,v59e1,rfl,rfl,F59e,E59e,O59e1,N59e1,B59eb46⟩
    have G105:Fr L w w59e:=G56.stp F59e (upo (fun m hm=>by cases hm) (upc (.inr m47) (fun _ h=>.inl h)))
    have G106:Fr L w7 w59e:=G57.stp F59e (upo (fun m hm=>by cases hm) (upc (.inr m48) (fun _ h=>.inl h)))
    have G107:Fr L w31 w59e:=G58.stp F59e (upo (fun m hm=>by cases hm) (upc (.inr m49) (fun _ h=>.inl h)))
    have P108:∀ m∈own v59e1,m∈L∨w.heap.size≤m:=fun m hm=>(N59e1 m hm).elim (fun h=>(show ∀ m∈(own (.slice none 0 0)++(b46::L)),m∈L∨w.heap.size≤m from (upo (fun m hm=>by cases hm) (upc (.inr m47) (fun _ h=>.inl h)))) m h) (fun h=>.inr (Nat.le_trans (G56.size) h))
    have P110:∀ m∈own v59e1,m∈L∨w31.heap.size≤m:=fun m hm=>(N59e1 m hm).elim (fun h=>(show ∀ m∈(own (.slice none 0 0)++(b46::L)),m∈L∨w31.heap.size≤m from (upo (fun m hm=>by cases hm) (upc (.inr m49) (fun _ h=>.inl h)))) m h) (fun h=>.inr (Nat.le_trans (G58.size) h))
    refine blk_hit ?_
    refine sq_n ?_
    refine ec_seq ?_
    refine ec_sr ?_
    refine o_w (v:=.slice AP1 d1.length cP1) (r_mov rfl) ?_
    refine o_w (v:=.int .i64 (d1.length:Int)) (r_len_slc un_s_api_Entry rfl) ?_
    refine o_w (v:=.bool ((d1.length:Int)==7)) (r_int rfl rfl rfl) ?_
    refine eo_nil_sq ?_
    refine ec_cond rfl (fun hc111=>?_) (fun hc111=>?_)
    ·replace h:=h.1 hc111
     refine ec_region ?_
     refine o_w (v:=.slice AP1 d1.length cP1) (r_mov rfl) ?_
     refine o_w (v:=.slice AP1 d1.length cP1) (r_asg rfl) ?_
     refine eo_nil_sq ?_
     refine ec_seq ?_
     obtain ⟨ha115,h⟩:=h
     obtain ⟨ha117,h⟩:=h
     obtain ⟨ha118,h⟩:=h
     obtain ⟨ha119,h⟩:=h
     obtain ⟨x116,hx116,h⟩:=h
     have hLt0:Lt (own v59e1++(b46::L)) w59e:=(((hL.fr E59e).cons B59eb46.lt).own O59e1)
     have hMF:Stb (own v59e1++(b46::L)) w59e (fun w=>SlC kEnt w AP1 cP1 d1):=(HP1.up G105 sI (upo P108 (upc (.inr m47) (fun _ h=>.inl h))))
     have hLF:Stb (own v59e1++(b46::L)) w59e (fun w=>SlC kEnt w AP1 cP1 d1):=(HP1.up G105 sI (upo P108 (upc (.inr m47) (fun _ h=>.inl h))))
     have hKA:Stb (own v59e1++(b46::L)) w59e (fun w=>kArena.r w (cArena d0 A1 c2 A4 c5) d0):=(kArena_mk (d:=d0) (H3.up G105 sI (upo P108 (upc (.inr m47) (fun _ h=>.inl h)))) (H6.up G105 sI (upo P108 (upc (.inr m47) (fun _ h=>.inl h)))))
     have hA7:=(S7.fr G106 sI).now
     let p:OP:=⟨w59e,(own v59e1++(b46::L)),(cArena d0 A1 c2 A4 c5),AP1,cP1,d1,AP1,cP1,d1,x116⟩
     refine ec_anyK (Γ:=Option Nat × Nat) (by kernel_rfl) [[],[],[],[1,2],[],[1,2,3,4],[0,1,2,3,4,5],[0,1,2,3,4,5,6],[0,1,2,3,4,5,6,7],[0,1,2,3,4,5,6,7],[0,1,2,3,4,5,6,7],[],[0,1,2,3,4,5,6,7,8,11],[0,1,2,3,4,5,6,7,8,9,11,12],[0,1,2,3,4,5,6,7,8,9,10,11,12,13]] [66,67,68,69,70,71,72,65,73,74,75,14,15,16] [3,5,12] 11 (none,0) (fun γ=>γ.1=none) (SO p) (IO p) (by kernel_rfl) (by decide) rfl (fun γ i v w w' f h=>SO_ex f i h) (fun γ k w w' f h=>IO_ex f h) (fun w f=>⟨rfl,fun b hb=>by cases hb⟩) ?_ ?_ ?_ ?_
     ·refine ⟨?_,?_,?_,?_,?_,?_,?_,?_,?_,?_,?_,?_,?_,?_,?_,trivial⟩
      ·intro hT hal γ k ρ w1 F1 hI hk hS hρ
       have q:ρ 3=.pointer (some ⟨b7,0,none⟩):=hρ 3 (by kernel_rfl)
       exact o_q (v:=.agg ((cArena d0 A1 c2 A4 c5)).toArray) (r_lda agg_api_Arena q (vs:=(cArena d0 A1 c2 A4 c5)) rfl ((hA7.ex F1).part (n:=3) rfl)) ⟨Fr.refl _ _,rfl⟩
      ·intro hT hal γ k ρ w1 F1 hI hk hS hρ
       refine o_bslice slc_s_api_Entry rfl (vs:=[]) rfl rfl rfl (cs:=[]) rfl rfl rfl rfl ?_
       intro b w2 e F B
       exact eo_nil ⟨rfl,rfl,_,rfl,F,b,rfl,fun _=>⟨by rw [e]; exact F1.size,B⟩⟩
      ·intro hT hal γ k ρ w1 F1 hI hk hS hρ
       have q:ρ 12=.slice AP1 d1.length cP1:=hρ 12 (by kernel_rfl)
       exact o_q (r_mov q) ⟨Fr.refl _ _,rfl⟩
      ·intro hT; exact absurd hT (by decide)
      ·intro hT hal γ k ρ w1 F1 hI hk hS hρ
       have q:ρ 1=.slice AP1 d1.length cP1:=hρ 1 (by kernel_rfl)
       exact o_q (r_mov q) ⟨Fr.refl _ _,rfl⟩
      ·intro hT; exact absurd hT (by decide)
      ·intro hT hal γ k ρ w1 F1 hI hk hS hρ
       have hk2:k≤2:=hk 2 12 rfl (by decide)
       have q66:ρ 66=.agg ((cArena d0 A1 c2 A4 c5)).toArray:=hS 0 (by decide) 66 rfl
       have O6:OwnS kEnt w59e.heap.size 42 (og γ++(own v59e1++(b46::L))) w1 (ρ 71) (d1++d1):=(hS 5 (by decide) 71 rfl:SO p γ 5 (ρ 71) w1) (by rw [hI.1]; exact hk2)
       obtain ⟨A,c,q71,HA⟩:=O6.still
       refine o_call cf_arena_Merge (vs:=[.agg ((cArena d0 A1 c2 A4 c5)).toArray,.slice A (d1++d1).length c]) (by show [ρ 66,ρ 71]=_; rw [q66,q71]) (arena_Merge_c (L:=og γ++(own v59e1++(b46::L))) d0 (hKA.up F1 (fun _ h=>by cases h) (og_up hI)) (d1++d1) HA (og_lt hI (hLt0.fr F1)) (eq_ev hx116 (arMerge_ev d0 (d1++d1) ha117 ha118 ha119))) rfl rfl ?_
       rintro _ w2 ⟨F2,cs,rfl,H⟩
       exact eo_nil ⟨rfl,rfl,_,rfl,F2,cs,rfl,H⟩
      ·intro hT hal γ k ρ w1 F1 hI hk hS hρ
       obtain ⟨cs,q,H⟩:SO p γ 6 (ρ 72) w1:=hS 6 (by decide) 72 rfl
       exact o_q (r_mov q) ⟨Fr.refl _ _,cs,rfl,H⟩
      ·intro hT hal γ k ρ w1 F1 hI hk hS hρ
       obtain ⟨cs,q,H⟩:SO p γ 7 (ρ 65) w1:=hS 7 (by decide) 65 rfl
       exact o_q (r_ext q rfl) ⟨Fr.refl _ _,cs,rfl,H⟩
      ·intro hT hal γ k ρ w1 F1 hI hk hS hρ
       obtain ⟨cs,q,H⟩:SO p γ 7 (ρ 65) w1:=hS 7 (by decide) 65 rfl
       exact o_q (r_ext q rfl) ⟨Fr.refl _ _,rfl⟩
      ·intro hT hal γ k ρ w1 F1 hI hk hS hρ
       obtain ⟨cs,q,H⟩:SO p γ 7 (ρ 65) w1:=hS 7 (by decide) 65 rfl
       exact o_q (r_ext q rfl) ⟨Fr.refl _ _,rfl⟩
      ·intro hT hal; exact absurd rfl hal
      ·intro hT; exact absurd hT (by decide)
      ·intro hT hal γ k ρ w1 F1 hI hk hS hρ
       have q:ρ 74=.int .i64 x116.2.1:=hS 9 (by decide) 74 rfl
       exact o_q (r_asg q) ⟨Fr.refl _ _,rfl⟩
      ·intro hT hal γ k ρ w1 F1 hI hk hS hρ
       have q:ρ 75=.int .i64 x116.2.2:=hS 10 (by decide) 75 rfl
       exact o_q (r_asg q) ⟨Fr.refl _ _,rfl⟩
     ·intro o ho γ k ρ w1 hnil F1 hI hk hS hρ
      injection (show some _=some o from ho) with eo
      subst eo
      refine o_alloc zero_api_Arena rfl rfl rfl ?_
      intro b w2 e F B
      exact eo_nil ⟨rfl,rfl,_,rfl,(some b,γ.2),F,fun j u hj h=>SO_born hnil F (Nat.le_of_eq e.symm) B.lt j hj h,⟨b,rfl,rfl⟩,hI.1,fun b' hb'=>by
       cases hb'
       have hk2:k≤2:=hk 2 12 rfl (by decide)
       exact ⟨by rw [e]; exact F1.size,B.lt,fun _=>B,fun c=>by omega⟩⟩
     ·refine ⟨⟨_,rfl,?_⟩,⟨_,rfl,?_⟩,⟨_,rfl,?_⟩,trivial⟩
      ·intro γ ρ w1 F1 hI hS hρ
       obtain ⟨b,q67,hb⟩:SO p γ 1 (ρ 67) w1:=hS 1 (by decide) 67 rfl
       obtain ⟨hbW,hbB⟩:=hb hI.1
       have q68:ρ 68=.slice AP1 d1.length cP1:=hS 2 (by decide) 68 rfl
       have hbn:b∉og γ++(own v59e1++(b46::L)):=fun hm=>(List.mem_append.1 hm).elim (fun h=>blk_types hbB ((hI.2 b (og_mem h)).2.2.1 (by decide)) rfl) (fun h=>by have h1:=hLt0 b h; have h2:w59e.heap.size≤b:=hbW; omega)
       have O3:=lit_own (og_lt hI (hLt0.fr F1)) hbn hbW hbB
       refine o_appsl slc_s_api_Entry rfl rfl kEnt_one q67 O3 q68 (hMF.up F1 (fun _ h=>by cases h) (fun m hm=>(List.mem_append.1 hm).elim (fun h=>.inr (by rw [show m=b by simpa [own,Value.ownBlock] using h]; exact hbW)) (og_up hI m))) ⟨by simp only [List.length_nil]; omega,by simp only [List.length_nil]; omega⟩ rfl rfl ?_
       intro v' w2 F2 O4 N2
       rw [List.nil_append] at O4
       refine eo_nil ⟨rfl,rfl,_,rfl,(γ.1,1),fun h=>h,Ext.st F1 F2 (fun m hm=>by rw [show m=b by simpa [own,Value.ownBlock] using hm]; exact hbW),⟨rfl,fun b' hb'=>?_⟩,fun j u hj hja h=>SO_3 j hj (fun e=>hja (by subst e; decide)) (fun e=>hja (by subst e; decide)) (fun e=>hja (by subst e; decide)) (fun e=>hja (by subst e; decide)) h,fun _=>O4⟩
       obtain ⟨h1,h2,h3,_⟩:=hI.2 b' hb'
       exact ⟨h1,Nat.lt_of_lt_of_le h2 F2.size,fun _=>(h3 (by decide)).fr F2 (own_types O3 (h3 (by decide))),fun c=>absurd c (by decide)⟩
      ·intro γ ρ w1 F1 hI hS hρ
       have O5:OwnS kEnt w59e.heap.size 42 (og γ++(own v59e1++(b46::L))) w1 (ρ 69) d1:=(hS 3 (by decide) 69 rfl:SO p γ 3 (ρ 69) w1) (by rw [hI.1]; decide)
       have q70:ρ 70=.slice AP1 d1.length cP1:=hS 4 (by decide) 70 rfl
       refine o_appsl slc_s_api_Entry rfl rfl kEnt_one rfl O5 q70 (hLF.up F1 (fun _ h=>by cases h) (fun m hm=>(List.mem_append.1 hm).elim (fun h=>.inr (O5.lo m h)) (og_up hI m))) ha115 rfl rfl ?_
       intro v' w2 F2 O6 N2
       refine eo_nil ⟨rfl,rfl,_,rfl,(γ.1,2),fun h=>h,Ext.st F1 F2 (fun m hm=>O5.lo m hm),⟨rfl,fun b' hb'=>?_⟩,fun j u hj hja h=>SO_5 j hj (fun e=>hja (by subst e; decide)) (fun e=>hja (by subst e; decide)) (fun e=>hja (by subst e; decide)) h,fun _=>O6⟩
       obtain ⟨h1,h2,h3,_⟩:=hI.2 b' hb'
       exact ⟨h1,Nat.lt_of_lt_of_le h2 F2.size,fun _=>(h3 (by decide)).fr F2 (own_types O5 (h3 (by decide))),fun c=>absurd c (by decide)⟩
      ·intro γ ρ w1 F1 hI hS hρ
       obtain ⟨cs,q73,H⟩:SO p γ 8 (ρ 73) w1:=hS 8 (by decide) 73 rfl
       obtain ⟨b,hg,q14⟩:SO p γ 11 (ρ 14) w1:=hS 11 (by decide) 14 rfl
       obtain ⟨h1,h2,h3,_⟩:=hI.2 b hg
       obtain ⟨Aa,ca,Ab,cb,rfl,Ha,Hb⟩:=kArena_open H
       refine o_store q14 (h3 (by decide)) (vs:=cArena x116.1 Aa ca Ab cb) (by show (ρ 73).cells=_; rw [q73]; rfl) sz_api_Arena rfl rfl rfl ?_
       intro w2 F2 B2
       refine eo_nil ⟨rfl,rfl,.nilIface,rfl,(γ.1,3),fun h=>h,Ext.st F1 F2 (fun m hm=>by rw [List.mem_singleton] at hm; rw [hm]; exact h1),⟨rfl,fun b' hb'=>?_⟩,fun j u _ _ h=>SO_12 hg F2 j h,trivial⟩
       rw [show (γ.1,3).1=γ.1 from rfl,hg] at hb'
       cases hb'
       have Ha':Stb (b::(own v59e1++(b46::L))) w1 (fun w=>SlC kEnt w Aa ca x116.1.slots):=by simpa [og,hg] using Ha
       have Hb':Stb (b::(own v59e1++(b46::L))) w1 (fun w=>SlC (kI .i64) w Ab cb x116.1.idx):=by simpa [og,hg] using Hb
       exact ⟨h1,Nat.lt_of_lt_of_le h2 F2.size,fun c=>absurd c (by decide),fun _=>⟨Aa,ca,Ab,cb,B2,Ha'.fr F2 (fun m hm=>by rw [List.mem_singleton] at hm; simp [hm]),Hb'.fr F2 (fun m hm=>by rw [List.mem_singleton] at hm; simp [hm])⟩⟩
     intro γ ρn w116 F116 hI hS hρ
     obtain ⟨b135,hg,q14⟩:SO p γ 11 (ρn 14) w116:=hS 11 14 rfl
     obtain ⟨hbW,hblt,_,hb3⟩:=hI.2 b135 hg
     obtain ⟨A129,c130,A132,c133,B151,H131',H134'⟩:=hb3 rfl
     have hbW:w59e.heap.size≤b135:=hbW
     have q15:ρn 15=.int .i64 x116.2.1:=hS 13 15 rfl
     have q16:ρn 16=.int .i64 x116.2.2:=hS 14 16 rfl
     have q7:ρn 7=.bool (worksV):=hρ 7 (by kernel_rfl)
     have q9:ρn 9=.pointer (some ⟨b46,0,none⟩):=hρ 9 (by kernel_rfl)
     have q11:ρn 11=.int .i64 x31.2.2:=hρ 11 (by kernel_rfl)
     obtain ⟨ρn',rfl⟩:∃ ρ',ρn=envs ρ' [(14,.pointer (some ⟨b135,0,none⟩)),(15,.int .i64 x116.2.1),(16,.int .i64 x116.2.2),(7,.bool (worksV)),(9,.pointer (some ⟨b46,0,none⟩)),(11,.int .i64 x31.2.2)]:=⟨ρn,envs_self ⟨q14,q15,q16,q7,q9,q11,trivial⟩⟩
     have H131:Stb (own v59e1++(b46::L)) w116 (fun w=>SlC kEnt w A129 c130 x116.1.slots):=H131'.up (Fr.refl [] _) (fun _ h=>by cases h) (fun m hm=>.inl (List.mem_cons_of_mem _ hm))
     have H134:Stb (own v59e1++(b46::L)) w116 (fun w=>SlC (kI .i64) w A132 c133 x116.1.idx):=H134'.up (Fr.refl [] _) (fun _ h=>by cases h) (fun m hm=>.inl (List.mem_cons_of_mem _ hm))
     have F135:Ext w116 w116:=Fr.refl _ _
     have F151:Fr [b135] w116 w116:=Fr.refl _ _
     have E122:=E59e.trans F116
     have n135:w.heap.size≤b135:=Nat.le_trans E59e.size hbW
     have q136:b46<b135:=Nat.lt_of_lt_of_le B59eb46.lt hbW
     have m139:w31.heap.size≤b135:=Nat.le_trans G107.size hbW
     have Ob142:=O59e1.born F116 hbW B151.lt
     have E143:=E122.trans F135
     have G148:Fr (own v59e1++(b46::L)) w116 w116:=Fr.ext F135
     have E152:=Ext.st E143 F151 (by simp; omega)
     have G155:Fr L w31 w116:=((G107.trans (Fr.ext F116)).trans (Fr.ext F135)).stp F151 (upc (.inr m139) (fun m hm=>by cases hm))
     have G157:Fr (own v59e1++(b46::L)) w116 w116:=G148
     have B158:=((B59eb46.ex F116).ex F135).fr F151 (by simp; omega)
     have O159:=Ob142.fr F151 (by simp)
     have B151':Blk w116 b135 _ (cArena x116.1 A129 c130 A132 c133):=B151
     refine sq_n ?_
     refine ec_seq ?_
     refine ec_sr ?_
     refine o_w (v:=.int .i64 x31.2.2) (r_mov rfl) ?_
     refine o_w (v:=.bool (decide (0<x31.2.2))) (r_int rfl rfl rfl) ?_
     refine eo_nil_sq ?_
     refine ec_cond rfl (fun hc160=>?_) (fun hc160=>?_)
     ·replace h:=h.1 hc160
      refine ec_sr ?_
      iterate 2 refine o_w (v:=.bool (worksV)) (r_mov rfl) ?_
      refine o_v (v:=.int .i64 x116.2.2) (r_mov rfl) (want_t (t:=79) rfl rfl (of_not hc13)) rfl rfl ?_
      refine o_v (v:=.bool (decide (0<x116.2.2))) (r_int rfl rfl rfl) (want_t (t:=79) rfl rfl (of_not hc13)) rfl rfl ?_
      refine o_w (v:=.bool (decide (0<x116.2.2))) (r_pickT rfl (of_not hc13) rfl) ?_
      refine o_w (v:=.bool (decide (0<x116.2.2))) (r_asg rfl) ?_
      refine eo_nil_sq ?_
      refine ec_ret ?_
      refine sq_ret ?_
      subst h
      exact (end1 rfl ⟨_,rfl,E152,rfl⟩)
     ·replace h:=h.2 hc160
      refine ec_skip ?_
      refine sq_n ?_
      refine ec_seq ?_
      rcases Bool.eq_false_or_eq_true (x116.2.2==0) with hc163 | hc163
      ·replace h:=h.1 hc163
       rcases Bool.eq_false_or_eq_true (alikeA x31.1 x116.1) with hc164 | hc164
       ·replace h:=h.1 hc164
        obtain ⟨ha167,h⟩:=h
        obtain ⟨ha168,h⟩:=h
        obtain ⟨ha170,h⟩:=h
        obtain ⟨x169,hx169,h⟩:=h
        obtain ⟨ha175,h⟩:=h
        obtain ⟨x174,hx174,h⟩:=h
        obtain ⟨ha180,h⟩:=h
        refine ec_any0 (by kernel_rfl) [[],[0],[0,1],[0,1,2],[0,1,2,3],[0,1,2,3,4],[0,1,2,3,4,5],[0,1,2,3,4,5],[0,1,2,3,4,5,6,7],[0,1,2,3,4,5,6,7,8],[0,1,2,3,4,5,6,7,8,9],[0,1,2,3,4,5,6,7,8,9,10],[0,1,2,3,4,5,6,7,8,9,10,11],[0,1,2,3,4,5,6,7,8,9,10],[0,1,2,3,4,5,6,7,8,9,10,11,12,13],[0,1,2,3,4,5,6,7,8,9,10,11,12,13,14],[0,1,2,3,4,5,6,7,8,9,10,11,12,13,14,15],[0,1,2,3,4,5,6,7,8,9,10,11,12,13,14,15,16]] [6,83,84,85,86,87,88,89,90,91,92,93,94,95,96,97,98,99] [fun v _=>v=(.bool (worksV):Value),fun v _=>v=(.bool (worksV):Value),fun v _=>v=(.int .i64 x116.2.2:Value),fun v _=>v=(.bool (x116.2.2==0):Value),fun v _=>v=(.bool (x116.2.2==0):Value),fun v _=>v=(.bool (x116.2.2==0):Value),fun v _=>v=(.agg (cArena x31.1 A40 c41 A43 c44).toArray:Value),fun v _=>v=(.agg (cArena x116.1 A129 c130 A132 c133).toArray:Value),fun v _=>v=(.bool (alikeA x31.1 x116.1):Value),fun v _=>v=(.bool (alikeA x31.1 x116.1):Value),fun v _=>v=(.bool (alikeA x31.1 x116.1):Value),fun v _=>v=(.agg (cArena x31.1 A40 c41 A43 c44).toArray:Value),fun v w'=>∃ A171 c172,v=(.slice A171 x169.length c172:Value)∧Stb (b135::(own v59e1++(b46::L))) w' (fun w=>SlC kEnt w A171 c172 x169),fun v _=>v=(.agg (cArena x116.1 A129 c130 A132 c133).toArray:Value),fun v w'=>∃ A176 c177,v=(.slice A176 x174.length c177:Value)∧Stb (b135::(own v59e1++(b46::L))) w' (fun w=>SlC kEnt w A176 c177 x174),fun v _=>v=(.bool (allE x169 x174):Value),fun v _=>v=(.bool (allE x169 x174):Value),fun v _=>v=(.bool (allE x169 x174):Value)] (by kernel_rfl) ⟨fun _ _ _ _ _ h=>h,fun _ _ _ _ _ h=>h,fun _ _ _ _ _ h=>h,fun _ _ _ _ _ h=>h,fun _ _ _ _ _ h=>h,fun _ _ _ _ _ h=>h,fun _ _ _ _ _ h=>h,fun _ _ _ _ _ h=>h,fun _ _ _ _ _ h=>h,fun _ _ _ _ _ h=>h,fun _ _ _ _ _ h=>h,fun _ _ _ _ _ h=>h,fun _ v w' w'' F h=>by obtain ⟨A171,c172,hv,H173⟩:=h; exact ⟨A171,c172,hv,(H173.ex F)⟩,fun _ _ _ _ _ h=>h,fun _ v w' w'' F h=>by obtain ⟨A176,c177,hv,H178⟩:=h; exact ⟨A176,c177,hv,(H178.ex F)⟩,fun _ _ _ _ _ h=>h,fun _ _ _ _ _ h=>h,fun _ _ _ _ _ h=>h,trivial⟩ ?_ ?_
        ·refine ⟨?_,?_,?_,?_,?_,?_,?_,?_,?_,?_,?_,?_,?_,?_,?_,?_,?_,?_,trivial⟩
         ·intro ρ w165o F165o hS hρ
          have q7:ρ 7=.bool (worksV):=hρ 7 (by kernel_rfl)
          exact o_q (r_mov q7) ⟨Fr.refl _ _,rfl⟩
         ·intro ρ w165o F165o hS hρ
          have q83:ρ 83=.bool (worksV):=hS 0 (by decide) 83 rfl
          exact o_q (r_mov q83) ⟨Fr.refl _ _,rfl⟩
         ·intro ρ w165o F165o hS hρ
          have q16:ρ 16=.int .i64 x116.2.2:=hρ 16 (by kernel_rfl)
          have q84:ρ 84=.bool (worksV):=hS 1 (by decide) 84 rfl
          exact o_v (r_mov q16) (want_t (t:=84) rfl q84 (of_not hc13)) rfl rfl (eo_nil ⟨rfl,rfl,_,rfl,Fr.refl _ _,rfl⟩)
         ·intro ρ w165o F165o hS hρ
          have q84:ρ 84=.bool (worksV):=hS 1 (by decide) 84 rfl
          have q85:ρ 85=.int .i64 x116.2.2:=hS 2 (by decide) 85 rfl
          exact o_v (r_int q85 rfl rfl) (want_t (t:=84) rfl q84 (of_not hc13)) rfl rfl (eo_nil ⟨rfl,rfl,_,rfl,Fr.refl _ _,rfl⟩)
         ·intro ρ w165o F165o hS hρ
          have q84:ρ 84=.bool (worksV):=hS 1 (by decide) 84 rfl
          have q86:ρ 86=.bool (x116.2.2==0):=hS 3 (by decide) 86 rfl
          exact o_q (r_pickT q84 (of_not hc13) q86) ⟨Fr.refl _ _,rfl⟩
         ·intro ρ w165o F165o hS hρ
          have q87:ρ 87=.bool (x116.2.2==0):=hS 4 (by decide) 87 rfl
          exact o_q (r_mov q87) ⟨Fr.refl _ _,rfl⟩
         ·intro ρ w165o F165o hS hρ
          have q9:ρ 9=.pointer (some ⟨b46,0,none⟩):=hρ 9 (by kernel_rfl)
          have q88:ρ 88=.bool (x116.2.2==0):=hS 5 (by decide) 88 rfl
          exact o_v (r_lda agg_api_Arena q9 (vs:=(cArena x31.1 A40 c41 A43 c44)) rfl ((B158.ex F165o).part (n:=3) rfl)) (want_t (t:=88) rfl q88 hc163) rfl rfl (eo_nil ⟨rfl,rfl,_,rfl,Fr.refl _ _,rfl⟩)
         ·intro ρ w165o F165o hS hρ
          have q14:ρ 14=.pointer (some ⟨b135,0,none⟩):=hρ 14 (by kernel_rfl)
          have q88:ρ 88=.bool (x116.2.2==0):=hS 5 (by decide) 88 rfl
          exact o_v (r_lda agg_api_Arena q14 (vs:=(cArena x116.1 A129 c130 A132 c133)) rfl ((B151'.ex F165o).part (n:=3) rfl)) (want_t (t:=88) rfl q88 hc163) rfl rfl (eo_nil ⟨rfl,rfl,_,rfl,Fr.refl _ _,rfl⟩)
         ·intro ρ w165o F165o hS hρ
          have E199:=E152.trans F165o
          have q88:ρ 88=.bool (x116.2.2==0):=hS 5 (by decide) 88 rfl
          have q89:ρ 89=.agg (cArena x31.1 A40 c41 A43 c44).toArray:=hS 6 (by decide) 89 rfl
          have q90:ρ 90=.agg (cArena x116.1 A129 c130 A132 c133).toArray:=hS 7 (by decide) 90 rfl
          refine o_call cf_arena_Alike (by simp only [List.map,ev,q89,q90] <;> rfl) (arena_Alike_c x31.1 (kArena_mk (d:=x31.1) (H42.up (G155.trans (Fr.ext F165o)) sI (upc (.inr m139) (upo P110 (upc (.inr m49) (fun _ h=>.inl h))))) (H45.up (G155.trans (Fr.ext F165o)) sI (upc (.inr m139) (upo P110 (upc (.inr m49) (fun _ h=>.inl h)))))) x116.1 (kArena_mk (d:=x116.1) (H131'.up (G157.trans (Fr.ext F165o)) (fun _ h=>List.mem_cons_of_mem _ h) (fun m hm=>.inl hm)) (H134'.up (G157.trans (Fr.ext F165o)) (fun _ h=>List.mem_cons_of_mem _ h) (fun m hm=>.inl hm))) ((((hL.fr E199).cons (B158.ex F165o).lt).own (O159.ex F165o)).cons (B151'.ex F165o).lt) (arAlike_ev x31.1 x116.1 ha167 ha168)) (want_t (t:=88) rfl q88 hc163) rfl ?_
          rintro _ w' ⟨F,rfl⟩
          exact eo_nil ⟨rfl,rfl,_,rfl,F,rfl⟩
         ·intro ρ w165o F165o hS hρ
          have q88:ρ 88=.bool (x116.2.2==0):=hS 5 (by decide) 88 rfl
          have q91:ρ 91=.bool (alikeA x31.1 x116.1):=hS 8 (by decide) 91 rfl
          exact o_q (r_pickT q88 hc163 q91) ⟨Fr.refl _ _,rfl⟩
         ·intro ρ w165o F165o hS hρ
          have q92:ρ 92=.bool (alikeA x31.1 x116.1):=hS 9 (by decide) 92 rfl
          exact o_q (r_mov q92) ⟨Fr.refl _ _,rfl⟩
         ·intro ρ w165o F165o hS hρ
          have q9:ρ 9=.pointer (some ⟨b46,0,none⟩):=hρ 9 (by kernel_rfl)
          have q93:ρ 93=.bool (alikeA x31.1 x116.1):=hS 10 (by decide) 93 rfl
          exact o_v (r_lda agg_api_Arena q9 (vs:=(cArena x31.1 A40 c41 A43 c44)) rfl ((B158.ex F165o).part (n:=3) rfl)) (want_t (t:=93) rfl q93 hc164) rfl rfl (eo_nil ⟨rfl,rfl,_,rfl,Fr.refl _ _,rfl⟩)
         ·intro ρ w165o F165o hS hρ
          have E217:=E152.trans F165o
          have q93:ρ 93=.bool (alikeA x31.1 x116.1):=hS 10 (by decide) 93 rfl
          have q94:ρ 94=.agg (cArena x31.1 A40 c41 A43 c44).toArray:=hS 11 (by decide) 94 rfl
          refine o_call cf_arena_All (by simp only [List.map,ev,q94] <;> rfl) (arena_All_c x31.1 (kArena_mk (d:=x31.1) (H42.up (G155.trans (Fr.ext F165o)) sI (upc (.inr m139) (upo P110 (upc (.inr m49) (fun _ h=>.inl h))))) (H45.up (G155.trans (Fr.ext F165o)) sI (upc (.inr m139) (upo P110 (upc (.inr m49) (fun _ h=>.inl h)))))) ((((hL.fr E217).cons (B158.ex F165o).lt).own (O159.ex F165o)).cons (B151'.ex F165o).lt) (eq_ev hx169 (arAll_ev x31.1 ha170))) (want_t (t:=93) rfl q93 hc164) rfl ?_
          rintro _ w' ⟨F,A171,c172,rfl,H173⟩
          exact eo_nil ⟨rfl,rfl,_,rfl,F,⟨A171,c172,rfl,H173⟩⟩
         ·intro ρ w165o F165o hS hρ
          have q14:ρ 14=.pointer (some ⟨b135,0,none⟩):=hρ 14 (by kernel_rfl)
          have q93:ρ 93=.bool (alikeA x31.1 x116.1):=hS 10 (by decide) 93 rfl
          exact o_v (r_lda agg_api_Arena q14 (vs:=(cArena x116.1 A129 c130 A132 c133)) rfl ((B151'.ex F165o).part (n:=3) rfl)) (want_t (t:=93) rfl q93 hc164) rfl rfl (eo_nil ⟨rfl,rfl,_,rfl,Fr.refl _ _,rfl⟩)
         ·intro ρ w165o F165o hS hρ
          have E235:=E152.trans F165o
          have q93:ρ 93=.bool (alikeA x31.1 x116.1):=hS 10 (by decide) 93 rfl
          have q96:ρ 96=.agg (cArena x116.1 A129 c130 A132 c133).toArray:=hS 13 (by decide) 96 rfl
          refine o_call cf_arena_All (by simp only [List.map,ev,q96] <;> rfl) (arena_All_c x116.1 (kArena_mk (d:=x116.1) (H131'.up (G157.trans (Fr.ext F165o)) (fun _ h=>List.mem_cons_of_mem _ h) (fun m hm=>.inl hm)) (H134'.up (G157.trans (Fr.ext F165o)) (fun _ h=>List.mem_cons_of_mem _ h) (fun m hm=>.inl hm))) ((((hL.fr E235).cons (B158.ex F165o).lt).own (O159.ex F165o)).cons (B151'.ex F165o).lt) (eq_ev hx174 (arAll_ev x116.1 ha175))) (want_t (t:=93) rfl q93 hc164) rfl ?_
          rintro _ w' ⟨F,A176,c177,rfl,H178⟩
          exact eo_nil ⟨rfl,rfl,_,rfl,F,⟨A176,c177,rfl,H178⟩⟩
         ·intro ρ w165o F165o hS hρ
          have E244:=E152.trans F165o
          have q93:ρ 93=.bool (alikeA x31.1 x116.1):=hS 10 (by decide) 93 rfl
          obtain ⟨A171,c172,q95,H173⟩:=hS 12 (by decide) 95 rfl
          obtain ⟨A176,c177,q97,H178⟩:=hS 14 (by decide) 97 rfl
          refine o_call cf_ref07_All (by simp only [List.map,ev,q95,q97] <;> rfl) (ref07_All_c x169 H173 x174 H178 ((((hL.fr E244).cons (B158.ex F165o).lt).own (O159.ex F165o)).cons (B151'.ex F165o).lt) (refAll_ev x169 x174 ha180)) (want_t (t:=93) rfl q93 hc164) rfl ?_
          rintro _ w' ⟨F,rfl⟩
          exact eo_nil ⟨rfl,rfl,_,rfl,F,rfl⟩
         ·intro ρ w165o F165o hS hρ
          have q93:ρ 93=.bool (alikeA x31.1 x116.1):=hS 10 (by decide) 93 rfl
          have q98:ρ 98=.bool (allE x169 x174):=hS 15 (by decide) 98 rfl
          exact o_q (r_pickT q93 hc164 q98) ⟨Fr.refl _ _,rfl⟩
         ·intro ρ w165o F165o hS hρ
          have q99:ρ 99=.bool (allE x169 x174):=hS 16 (by decide) 99 rfl
          exact o_q (r_asg q99) ⟨Fr.refl _ _,rfl⟩
        ·intro ρ w165 F165 hS hρ
         have q6:ρ 6=.bool (allE x169 x174):=hS 17 6 rfl
         obtain ⟨ρ',rfl⟩:∃ ρ',ρ=envs (ovr [6,83,84,85,86,87,88,89,90,91,92,93,94,95,96,97,98,99] ρ' _) [(6,.bool (allE x169 x174))]:=⟨ρ,ovr_self hρ ⟨q6,trivial⟩⟩
         have E253:=E152.trans F165
         refine sq_n ?_
         refine ec_ret ?_
         subst h
         exact (end1 rfl ⟨_,rfl,E253,rfl⟩)
       ·replace h:=h.2 hc164
        obtain ⟨ha264,h⟩:=h
        obtain ⟨ha265,h⟩:=h
        refine ec_any0 (by kernel_rfl) [[],[0],[0,1],[0,1,2],[0,1,2,3],[0,1,2,3,4],[0,1,2,3,4,5],[0,1,2,3,4,5],[0,1,2,3,4,5,6,7],[0,1,2,3,4,5,6,7,8],[0,1,2,3,4,5,6,7,8,9],[0,1,2,3,4,5,6,7,8,9,10],[0,1,2,3,4,5,6,7,8,9,10,11],[0,1,2,3,4,5,6,7,8,9,10],[0,1,2,3,4,5,6,7,8,9,10,11,12,13],[0,1,2,3,4,5,6,7,8,9,10,11,12,13,14],[0,1,2,3,4,5,6,7,8,9,10,11,12,13,14,15],[0,1,2,3,4,5,6,7,8,9,10,11,12,13,14,15,16]] [6,83,84,85,86,87,88,89,90,91,92,93,94,95,96,97,98,99] [fun v _=>v=(.bool (worksV):Value),fun v _=>v=(.bool (worksV):Value),fun v _=>v=(.int .i64 x116.2.2:Value),fun v _=>v=(.bool (x116.2.2==0):Value),fun v _=>v=(.bool (x116.2.2==0):Value),fun v _=>v=(.bool (x116.2.2==0):Value),fun v _=>v=(.agg (cArena x31.1 A40 c41 A43 c44).toArray:Value),fun v _=>v=(.agg (cArena x116.1 A129 c130 A132 c133).toArray:Value),fun v _=>v=(.bool (alikeA x31.1 x116.1):Value),fun v _=>v=(.bool (alikeA x31.1 x116.1):Value),fun v _=>v=(.bool (alikeA x31.1 x116.1):Value),fun v _=>v=((undef:Value):Value),fun v _=>v=((undef:Value):Value),fun v _=>v=((undef:Value):Value),fun v _=>v=((undef:Value):Value),fun v _=>v=((undef:Value):Value),fun v _=>v=(.bool false:Value),fun v _=>v=(.bool false:Value)] (by kernel_rfl) ⟨fun _ _ _ _ _ h=>h,fun _ _ _ _ _ h=>h,fun _ _ _ _ _ h=>h,fun _ _ _ _ _ h=>h,fun _ _ _ _ _ h=>h,fun _ _ _ _ _ h=>h,fun _ _ _ _ _ h=>h,fun _ _ _ _ _ h=>h,fun _ _ _ _ _ h=>h,fun _ _ _ _ _ h=>h,fun _ _ _ _ _ h=>h,fun _ _ _ _ _ h=>h,fun _ _ _ _ _ h=>h,fun _ _ _ _ _ h=>h,fun _ _ _ _ _ h=>h,fun _ _ _ _ _ h=>h,fun _ _ _ _ _ h=>h,fun _ _ _ _ _ h=>h,trivial⟩ ?_ ?_
        ·refine ⟨?_,?_,?_,?_,?_,?_,?_,?_,?_,?_,?_,?_,?_,?_,?_,?_,?_,?_,trivial⟩
         ·intro ρ w262o F262o hS hρ
          have q7:ρ 7=.bool (worksV):=hρ 7 (by kernel_rfl)
          exact o_q (r_mov q7) ⟨Fr.refl _ _,rfl⟩
         ·intro ρ w262o F262o hS hρ
          have q83:ρ 83=.bool (worksV):=hS 0 (by decide) 83 rfl
          exact o_q (r_mov q83) ⟨Fr.refl _ _,rfl⟩
         ·intro ρ w262o F262o hS hρ
          have q16:ρ 16=.int .i64 x116.2.2:=hρ 16 (by kernel_rfl)
          have q84:ρ 84=.bool (worksV):=hS 1 (by decide) 84 rfl
          exact o_v (r_mov q16) (want_t (t:=84) rfl q84 (of_not hc13)) rfl rfl (eo_nil ⟨rfl,rfl,_,rfl,Fr.refl _ _,rfl⟩)
         ·intro ρ w262o F262o hS hρ
          have q84:ρ 84=.bool (worksV):=hS 1 (by decide) 84 rfl
          have q85:ρ 85=.int .i64 x116.2.2:=hS 2 (by decide) 85 rfl
          exact o_v (r_int q85 rfl rfl) (want_t (t:=84) rfl q84 (of_not hc13)) rfl rfl (eo_nil ⟨rfl,rfl,_,rfl,Fr.refl _ _,rfl⟩)
         ·intro ρ w262o F262o hS hρ
          have q84:ρ 84=.bool (worksV):=hS 1 (by decide) 84 rfl
          have q86:ρ 86=.bool (x116.2.2==0):=hS 3 (by decide) 86 rfl
          exact o_q (r_pickT q84 (of_not hc13) q86) ⟨Fr.refl _ _,rfl⟩
         ·intro ρ w262o F262o hS hρ
          have q87:ρ 87=.bool (x116.2.2==0):=hS 4 (by decide) 87 rfl
          exact o_q (r_mov q87) ⟨Fr.refl _ _,rfl⟩
         ·intro ρ w262o F262o hS hρ
          have q9:ρ 9=.pointer (some ⟨b46,0,none⟩):=hρ 9 (by kernel_rfl)
          have q88:ρ 88=.bool (x116.2.2==0):=hS 5 (by decide) 88 rfl
          exact o_v (r_lda agg_api_Arena q9 (vs:=(cArena x31.1 A40 c41 A43 c44)) rfl ((B158.ex F262o).part (n:=3) rfl)) (want_t (t:=88) rfl q88 hc163) rfl rfl (eo_nil ⟨rfl,rfl,_,rfl,Fr.refl _ _,rfl⟩)
         ·intro ρ w262o F262o hS hρ
          have q14:ρ 14=.pointer (some ⟨b135,0,none⟩):=hρ 14 (by kernel_rfl)
          have q88:ρ 88=.bool (x116.2.2==0):=hS 5 (by decide) 88 rfl
          exact o_v (r_lda agg_api_Arena q14 (vs:=(cArena x116.1 A129 c130 A132 c133)) rfl ((B151'.ex F262o).part (n:=3) rfl)) (want_t (t:=88) rfl q88 hc163) rfl rfl (eo_nil ⟨rfl,rfl,_,rfl,Fr.refl _ _,rfl⟩)
         ·intro ρ w262o F262o hS hρ
          have E284:=E152.trans F262o
          have q88:ρ 88=.bool (x116.2.2==0):=hS 5 (by decide) 88 rfl
          have q89:ρ 89=.agg (cArena x31.1 A40 c41 A43 c44).toArray:=hS 6 (by decide) 89 rfl
          have q90:ρ 90=.agg (cArena x116.1 A129 c130 A132 c133).toArray:=hS 7 (by decide) 90 rfl
          refine o_call cf_arena_Alike (by simp only [List.map,ev,q89,q90] <;> rfl) (arena_Alike_c x31.1 (kArena_mk (d:=x31.1) (H42.up (G155.trans (Fr.ext F262o)) sI (upc (.inr m139) (upo P110 (upc (.inr m49) (fun _ h=>.inl h))))) (H45.up (G155.trans (Fr.ext F262o)) sI (upc (.inr m139) (upo P110 (upc (.inr m49) (fun _ h=>.inl h)))))) x116.1 (kArena_mk (d:=x116.1) (H131'.up (G157.trans (Fr.ext F262o)) (fun _ h=>List.mem_cons_of_mem _ h) (fun m hm=>.inl hm)) (H134'.up (G157.trans (Fr.ext F262o)) (fun _ h=>List.mem_cons_of_mem _ h) (fun m hm=>.inl hm))) ((((hL.fr E284).cons (B158.ex F262o).lt).own (O159.ex F262o)).cons (B151'.ex F262o).lt) (arAlike_ev x31.1 x116.1 ha264 ha265)) (want_t (t:=88) rfl q88 hc163) rfl ?_
          rintro _ w' ⟨F,rfl⟩
          exact eo_nil ⟨rfl,rfl,_,rfl,F,rfl⟩
         ·intro ρ w262o F262o hS hρ
          have q88:ρ 88=.bool (x116.2.2==0):=hS 5 (by decide) 88 rfl
          have q91:ρ 91=.bool (alikeA x31.1 x116.1):=hS 8 (by decide) 91 rfl
          exact o_q (r_pickT q88 hc163 q91) ⟨Fr.refl _ _,rfl⟩
         ·intro ρ w262o F262o hS hρ
          have q92:ρ 92=.bool (alikeA x31.1 x116.1):=hS 9 (by decide) 92 rfl
          exact o_q (r_mov q92) ⟨Fr.refl _ _,rfl⟩
         ·intro ρ w262o F262o hS hρ
          have q9:ρ 9=.pointer (some ⟨b46,0,none⟩):=hρ 9 (by kernel_rfl)
          have q93:ρ 93=.bool (alikeA x31.1 x116.1):=hS 10 (by decide) 93 rfl
          exact o_no (want_f (t:=93) rfl q93 hc164) rfl (eo_nil ⟨rfl,rfl,undef,rfl,Fr.refl _ _,rfl⟩)
         ·intro ρ w262o F262o hS hρ
          have q93:ρ 93=.bool (alikeA x31.1 x116.1):=hS 10 (by decide) 93 rfl
          have q94:ρ 94=(undef:Value):=hS 11 (by decide) 94 rfl
          exact o_no (want_f (t:=93) rfl q93 hc164) rfl (eo_nil ⟨rfl,rfl,undef,rfl,Fr.refl _ _,rfl⟩)
         ·intro ρ w262o F262o hS hρ
          have q14:ρ 14=.pointer (some ⟨b135,0,none⟩):=hρ 14 (by kernel_rfl)
          have q93:ρ 93=.bool (alikeA x31.1 x116.1):=hS 10 (by decide) 93 rfl
          exact o_no (want_f (t:=93) rfl q93 hc164) rfl (eo_nil ⟨rfl,rfl,undef,rfl,Fr.refl _ _,rfl⟩)
         ·intro ρ w262o F262o hS hρ
          have q93:ρ 93=.bool (alikeA x31.1 x116.1):=hS 10 (by decide) 93 rfl
          have q96:ρ 96=(undef:Value):=hS 13 (by decide) 96 rfl
          exact o_no (want_f (t:=93) rfl q93 hc164) rfl (eo_nil ⟨rfl,rfl,undef,rfl,Fr.refl _ _,rfl⟩)
         ·intro ρ w262o F262o hS hρ
          have q93:ρ 93=.bool (alikeA x31.1 x116.1):=hS 10 (by decide) 93 rfl
          have q95:ρ 95=(undef:Value):=hS 12 (by decide) 95 rfl
          have q97:ρ 97=(undef:Value):=hS 14 (by decide) 97 rfl
          exact o_no (want_f (t:=93) rfl q93 hc164) rfl (eo_nil ⟨rfl,rfl,undef,rfl,Fr.refl _ _,rfl⟩)
         ·intro ρ w262o F262o hS hρ
          have q93:ρ 93=.bool (alikeA x31.1 x116.1):=hS 10 (by decide) 93 rfl
          have q98:ρ 98=(undef:Value):=hS 15 (by decide) 98 rfl
          exact o_q (r_pickF q93 hc164 rfl) ⟨Fr.refl _ _,rfl⟩
         ·intro ρ w262o F262o hS hρ
          have q99:ρ 99=.bool false:=hS 16 (by decide) 99 rfl
          exact o_q (r_asg q99) ⟨Fr.refl _ _,rfl⟩
        ·intro ρ w262 F262 hS hρ
         have q6:ρ 6=.bool false:=hS 17 6 rfl
         obtain ⟨ρ',rfl⟩:∃ ρ',ρ=envs (ovr [6,83,84,85,86,87,88,89,90,91,92,93,94,95,96,97,98,99] ρ' _) [(6,.bool false)]:=⟨ρ,ovr_self hρ ⟨q6,trivial⟩⟩
         have E293:=E152.trans F262
         refine sq_n ?_
         refine ec_ret ?_
         subst h
         exact (end1 rfl ⟨_,rfl,E293,rfl⟩)
      ·replace h:=h.2 hc163
       refine ec_any0 (by kernel_rfl) [[],[0],[0,1],[0,1,2],[0,1,2,3],[0,1,2,3,4],[0,1,2,3,4,5],[0,1,2,3,4,5],[0,1,2,3,4,5,6,7],[0,1,2,3,4,5,6,7,8],[0,1,2,3,4,5,6,7,8,9],[0,1,2,3,4,5,6,7,8,9,10],[0,1,2,3,4,5,6,7,8,9,10,11],[0,1,2,3,4,5,6,7,8,9,10],[0,1,2,3,4,5,6,7,8,9,10,11,12,13],[0,1,2,3,4,5,6,7,8,9,10,11,12,13,14],[0,1,2,3,4,5,6,7,8,9,10,11,12,13,14,15],[0,1,2,3,4,5,6,7,8,9,10,11,12,13,14,15,16]] [6,83,84,85,86,87,88,89,90,91,92,93,94,95,96,97,98,99] [fun v _=>v=(.bool (worksV):Value),fun v _=>v=(.bool (worksV):Value),fun v _=>v=(.int .i64 x116.2.2:Value),fun v _=>v=(.bool (x116.2.2==0):Value),fun v _=>v=(.bool (x116.2.2==0):Value),fun v _=>v=(.bool (x116.2.2==0):Value),fun v _=>v=((undef:Value):Value),fun v _=>v=((undef:Value):Value),fun v _=>v=((undef:Value):Value),fun v _=>v=(.bool false:Value),fun v _=>v=(.bool false:Value),fun v _=>v=((undef:Value):Value),fun v _=>v=((undef:Value):Value),fun v _=>v=((undef:Value):Value),fun v _=>v=((undef:Value):Value),fun v _=>v=((undef:Value):Value),fun v _=>v=(.bool false:Value),fun v _=>v=(.bool false:Value)] (by kernel_rfl) ⟨fun _ _ _ _ _ h=>h,fun _ _ _ _ _ h=>h,fun _ _ _ _ _ h=>h,fun _ _ _ _ _ h=>h,fun _ _ _ _ _ h=>h,fun _ _ _ _ _ h=>h,fun _ _ _ _ _ h=>h,fun _ _ _ _ _ h=>h,fun _ _ _ _ _ h=>h,fun _ _ _ _ _ h=>h,fun _ _ _ _ _ h=>h,fun _ _ _ _ _ h=>h,fun _ _ _ _ _ h=>h,fun _ _ _ _ _ h=>h,fun _ _ _ _ _ h=>h,fun _ _ _ _ _ h=>h,fun _ _ _ _ _ h=>h,fun _ _ _ _ _ h=>h,trivial⟩ ?_ ?_
       ·refine ⟨?_,?_,?_,?_,?_,?_,?_,?_,?_,?_,?_,?_,?_,?_,?_,?_,?_,?_,trivial⟩
        ·intro ρ w302o F302o hS hρ
         have q7:ρ 7=.bool (worksV):=hρ 7 (by kernel_rfl)
         exact o_q (r_mov q7) ⟨Fr.refl _ _,rfl⟩
        ·intro ρ w302o F302o hS hρ
         have q83:ρ 83=.bool (worksV):=hS 0 (by decide) 83 rfl
         exact o_q (r_mov q83) ⟨Fr.refl _ _,rfl⟩
        ·intro ρ w302o F302o hS hρ
         have q16:ρ 16=.int .i64 x116.2.2:=hρ 16 (by kernel_rfl)
         have q84:ρ 84=.bool (worksV):=hS 1 (by decide) 84 rfl
         exact o_v (r_mov q16) (want_t (t:=84) rfl q84 (of_not hc13)) rfl rfl (eo_nil ⟨rfl,rfl,_,rfl,Fr.refl _ _,rfl⟩)
        ·intro ρ w302o F302o hS hρ
         have q84:ρ 84=.bool (worksV):=hS 1 (by decide) 84 rfl
         have q85:ρ 85=.int .i64 x116.2.2:=hS 2 (by decide) 85 rfl
         exact o_v (r_int q85 rfl rfl) (want_t (t:=84) rfl q84 (of_not hc13)) rfl rfl (eo_nil ⟨rfl,rfl,_,rfl,Fr.refl _ _,rfl⟩)
        ·intro ρ w302o F302o hS hρ
         have q84:ρ 84=.bool (worksV):=hS 1 (by decide) 84 rfl
         have q86:ρ 86=.bool (x116.2.2==0):=hS 3 (by decide) 86 rfl
         exact o_q (r_pickT q84 (of_not hc13) q86) ⟨Fr.refl _ _,rfl⟩
        ·intro ρ w302o F302o hS hρ
         have q87:ρ 87=.bool (x116.2.2==0):=hS 4 (by decide) 87 rfl
         exact o_q (r_mov q87) ⟨Fr.refl _ _,rfl⟩
        ·intro ρ w302o F302o hS hρ
         have q9:ρ 9=.pointer (some ⟨b46,0,none⟩):=hρ 9 (by kernel_rfl)
         have q88:ρ 88=.bool (x116.2.2==0):=hS 5 (by decide) 88 rfl
         exact o_no (want_f (t:=88) rfl q88 hc163) rfl (eo_nil ⟨rfl,rfl,undef,rfl,Fr.refl _ _,rfl⟩)
        ·intro ρ w302o F302o hS hρ
         have q14:ρ 14=.pointer (some ⟨b135,0,none⟩):=hρ 14 (by kernel_rfl)
         have q88:ρ 88=.bool (x116.2.2==0):=hS 5 (by decide) 88 rfl
         exact o_no (want_f (t:=88) rfl q88 hc163) rfl (eo_nil ⟨rfl,rfl,undef,rfl,Fr.refl _ _,rfl⟩)
        ·intro ρ w302o F302o hS hρ
         have q88:ρ 88=.bool (x116.2.2==0):=hS 5 (by decide) 88 rfl
         have q89:ρ 89=(undef:Value):=hS 6 (by decide) 89 rfl
         have q90:ρ 90=(undef:Value):=hS 7 (by decide) 90 rfl
         exact o_no (want_f (t:=88) rfl q88 hc163) rfl (eo_nil ⟨rfl,rfl,undef,rfl,Fr.refl _ _,rfl⟩)
        ·intro ρ w302o F302o hS hρ
         have q88:ρ 88=.bool (x116.2.2==0):=hS 5 (by decide) 88 rfl
         have q91:ρ 91=(undef:Value):=hS 8 (by decide) 91 rfl
         exact o_q (r_pickF q88 hc163 rfl) ⟨Fr.refl _ _,rfl⟩
        ·intro ρ w302o F302o hS hρ
         have q92:ρ 92=.bool false:=hS 9 (by decide) 92 rfl
         exact o_q (r_mov q92) ⟨Fr.refl _ _,rfl⟩
        ·intro ρ w302o F302o hS hρ
         have q9:ρ 9=.pointer (some ⟨b46,0,none⟩):=hρ 9 (by kernel_rfl)
         have q93:ρ 93=.bool false:=hS 10 (by decide) 93 rfl
         exact o_no (want_f (t:=93) rfl q93 rfl) rfl (eo_nil ⟨rfl,rfl,undef,rfl,Fr.refl _ _,rfl⟩)
        ·intro ρ w302o F302o hS hρ
         have q93:ρ 93=.bool false:=hS 10 (by decide) 93 rfl
         have q94:ρ 94=(undef:Value):=hS 11 (by decide) 94 rfl
         exact o_no (want_f (t:=93) rfl q93 rfl) rfl (eo_nil ⟨rfl,rfl,undef,rfl,Fr.refl _ _,rfl⟩)
        ·intro ρ w302o F302o hS hρ
         have q14:ρ 14=.pointer (some ⟨b135,0,none⟩):=hρ 14 (by kernel_rfl)
         have q93:ρ 93=.bool false:=hS 10 (by decide) 93 rfl
         exact o_no (want_f (t:=93) rfl q93 rfl) rfl (eo_nil ⟨rfl,rfl,undef,rfl,Fr.refl _ _,rfl⟩)
        ·intro ρ w302o F302o hS hρ
         have q93:ρ 93=.bool false:=hS 10 (by decide) 93 rfl
         have q96:ρ 96=(undef:Value):=hS 13 (by decide) 96 rfl
         exact o_no (want_f (t:=93) rfl q93 rfl) rfl (eo_nil ⟨rfl,rfl,undef,rfl,Fr.refl _ _,rfl⟩)
        ·intro ρ w302o F302o hS hρ
         have q93:ρ 93=.bool false:=hS 10 (by decide) 93 rfl
         have q95:ρ 95=(undef:Value):=hS 12 (by decide) 95 rfl
         have q97:ρ 97=(undef:Value):=hS 14 (by decide) 97 rfl
         exact o_no (want_f (t:=93) rfl q93 rfl) rfl (eo_nil ⟨rfl,rfl,undef,rfl,Fr.refl _ _,rfl⟩)
        ·intro ρ w302o F302o hS hρ
         have q93:ρ 93=.bool false:=hS 10 (by decide) 93 rfl
         have q98:ρ 98=(undef:Value):=hS 15 (by decide) 98 rfl
         exact o_q (r_pickF q93 rfl rfl) ⟨Fr.refl _ _,rfl⟩
        ·intro ρ w302o F302o hS hρ
         have q99:ρ 99=.bool false:=hS 16 (by decide) 99 rfl
         exact o_q (r_asg q99) ⟨Fr.refl _ _,rfl⟩
       ·intro ρ w302 F302 hS hρ
        have q6:ρ 6=.bool false:=hS 17 6 rfl
        obtain ⟨ρ',rfl⟩:∃ ρ',ρ=envs (ovr [6,83,84,85,86,87,88,89,90,91,92,93,94,95,96,97,98,99] ρ' _) [(6,.bool false)]:=⟨ρ,ovr_self hρ ⟨q6,trivial⟩⟩
        have E303:=E152.trans F302
        refine sq_n ?_
        refine ec_ret ?_
        subst h
        exact (end1 rfl ⟨_,rfl,E303,rfl⟩)
    ·replace h:=h.2 hc111
     refine ec_skip ?_
     refine sq_n ?_
     refine ec_seq ?_
     obtain ⟨A312,c313,eA312,H314⟩:=O59e1.still
     subst eA312
     have Zw59e_315:=Fr.refl (b46::L) w59e
     obtain ⟨ha320,h⟩:=h
     obtain ⟨ha322,h⟩:=h
     obtain ⟨ha323,h⟩:=h
     obtain ⟨ha324,h⟩:=h
     obtain ⟨x321,hx321,h⟩:=h
     have hLt0:Lt (b46::L) w59e:=((hL.fr E59e).cons B59eb46.lt)
     have hMF:Stb (b46::L) w59e (fun w=>SlC kEnt w A312 c313 x59.1):=(H314.fr Zw59e_315 sI)
     have hLF:Stb (b46::L) w59e (fun w=>SlC kEnt w AP1 cP1 d1):=(HP1.up G105 sI (upc (.inr m47) (fun _ h=>.inl h)))
     have hKA:Stb (b46::L) w59e (fun w=>kArena.r w (cArena d0 A1 c2 A4 c5) d0):=(kArena_mk (d:=d0) (H3.up G105 sI (upc (.inr m47) (fun _ h=>.inl h))) (H6.up G105 sI (upc (.inr m47) (fun _ h=>.inl h))))
     have hA7:=(S7.fr G106 sI).now
     let p:OP:=⟨w59e,(b46::L),(cArena d0 A1 c2 A4 c5),A312,c313,x59.1,AP1,cP1,d1,x321⟩
     refine ec_anyK (Γ:=Option Nat × Nat) (by kernel_rfl) [[],[],[],[1,2],[],[1,2,3,4],[0,1,2,3,4,5],[0,1,2,3,4,5,6],[0,1,2,3,4,5,6,7],[0,1,2,3,4,5,6,7],[0,1,2,3,4,5,6,7],[],[0,1,2,3,4,5,6,7,8,11],[0,1,2,3,4,5,6,7,8,9,11,12],[0,1,2,3,4,5,6,7,8,9,10,11,12,13]] [66,67,68,69,70,71,72,65,73,74,75,14,15,16] [3,5,12] 11 (none,0) (fun γ=>γ.1=none) (SO p) (IO p) (by kernel_rfl) (by decide) rfl (fun γ i v w w' f h=>SO_ex f i h) (fun γ k w w' f h=>IO_ex f h) (fun w f=>⟨rfl,fun b hb=>by cases hb⟩) ?_ ?_ ?_ ?_
     ·refine ⟨?_,?_,?_,?_,?_,?_,?_,?_,?_,?_,?_,?_,?_,?_,?_,trivial⟩
      ·intro hT hal γ k ρ w1 F1 hI hk hS hρ
       have q:ρ 3=.pointer (some ⟨b7,0,none⟩):=hρ 3 (by kernel_rfl)
       exact o_q (v:=.agg ((cArena d0 A1 c2 A4 c5)).toArray) (r_lda agg_api_Arena q (vs:=(cArena d0 A1 c2 A4 c5)) rfl ((hA7.ex F1).part (n:=3) rfl)) ⟨Fr.refl _ _,rfl⟩
      ·intro hT hal γ k ρ w1 F1 hI hk hS hρ
       refine o_bslice slc_s_api_Entry rfl (vs:=[]) rfl rfl rfl (cs:=[]) rfl rfl rfl rfl ?_
       intro b w2 e F B
       exact eo_nil ⟨rfl,rfl,_,rfl,F,b,rfl,fun _=>⟨by rw [e]; exact F1.size,B⟩⟩
      ·intro hT hal γ k ρ w1 F1 hI hk hS hρ
       have q:ρ 12=.slice A312 x59.1.length c313:=hρ 12 (by kernel_rfl)
       exact o_q (r_mov q) ⟨Fr.refl _ _,rfl⟩
      ·intro hT; exact absurd hT (by decide)
      ·intro hT hal γ k ρ w1 F1 hI hk hS hρ
       have q:ρ 1=.slice AP1 d1.length cP1:=hρ 1 (by kernel_rfl)
       exact o_q (r_mov q) ⟨Fr.refl _ _,rfl⟩
      ·intro hT; exact absurd hT (by decide)
      ·intro hT hal γ k ρ w1 F1 hI hk hS hρ
       have hk2:k≤2:=hk 2 12 rfl (by decide)
       have q66:ρ 66=.agg ((cArena d0 A1 c2 A4 c5)).toArray:=hS 0 (by decide) 66 rfl
       have O6:OwnS kEnt w59e.heap.size 42 (og γ++(b46::L)) w1 (ρ 71) (x59.1++d1):=(hS 5 (by decide) 71 rfl:SO p γ 5 (ρ 71) w1) (by rw [hI.1]; exact hk2)
       obtain ⟨A,c,q71,HA⟩:=O6.still
       refine o_call cf_arena_Merge (vs:=[.agg ((cArena d0 A1 c2 A4 c5)).toArray,.slice A (x59.1++d1).length c]) (by show [ρ 66,ρ 71]=_; rw [q66,q71]) (arena_Merge_c (L:=og γ++(b46::L)) d0 (hKA.up F1 (fun _ h=>by cases h) (og_up hI)) (x59.1++d1) HA (og_lt hI (hLt0.fr F1)) (eq_ev hx321 (arMerge_ev d0 (x59.1++d1) ha322 ha323 ha324))) rfl rfl ?_
       rintro _ w2 ⟨F2,cs,rfl,H⟩
       exact eo_nil ⟨rfl,rfl,_,rfl,F2,cs,rfl,H⟩
      ·intro hT hal γ k ρ w1 F1 hI hk hS hρ
       obtain ⟨cs,q,H⟩:SO p γ 6 (ρ 72) w1:=hS 6 (by decide) 72 rfl
       exact o_q (r_mov q) ⟨Fr.refl _ _,cs,rfl,H⟩
      ·intro hT hal γ k ρ w1 F1 hI hk hS hρ
       obtain ⟨cs,q,H⟩:SO p γ 7 (ρ 65) w1:=hS 7 (by decide) 65 rfl
       exact o_q (r_ext q rfl) ⟨Fr.refl _ _,cs,rfl,H⟩
      ·intro hT hal γ k ρ w1 F1 hI hk hS hρ
       obtain ⟨cs,q,H⟩:SO p γ 7 (ρ 65) w1:=hS 7 (by decide) 65 rfl
       exact o_q (r_ext q rfl) ⟨Fr.refl _ _,rfl⟩
      ·intro hT hal γ k ρ w1 F1 hI hk hS hρ
       obtain ⟨cs,q,H⟩:SO p γ 7 (ρ 65) w1:=hS 7 (by decide) 65 rfl
       exact o_q (r_ext q rfl) ⟨Fr.refl _ _,rfl⟩
      ·intro hT hal; exact absurd rfl hal
      ·intro hT; exact absurd hT (by decide)
      ·intro hT hal γ k ρ w1 F1 hI hk hS hρ
       have q:ρ 74=.int .i64 x321.2.1:=hS 9 (by decide) 74 rfl
       exact o_q (r_asg q) ⟨Fr.refl _ _,rfl⟩
      ·intro hT hal γ k ρ w1 F1 hI hk hS hρ
       have q:ρ 75=.int .i64 x321.2.2:=hS 10 (by decide) 75 rfl
       exact o_q (r_asg q) ⟨Fr.refl _ _,rfl⟩
     ·intro o ho γ k ρ w1 hnil F1 hI hk hS hρ
      injection (show some _=some o from ho) with eo
      subst eo
      refine o_alloc zero_api_Arena rfl rfl rfl ?_
      intro b w2 e F B
      exact eo_nil ⟨rfl,rfl,_,rfl,(some b,γ.2),F,fun j u hj h=>SO_born hnil F (Nat.le_of_eq e.symm) B.lt j hj h,⟨b,rfl,rfl⟩,hI.1,fun b' hb'=>by
       cases hb'
       have hk2:k≤2:=hk 2 12 rfl (by decide)
       exact ⟨by rw [e]; exact F1.size,B.lt,fun _=>B,fun c=>by omega⟩⟩
     ·refine ⟨⟨_,rfl,?_⟩,⟨_,rfl,?_⟩,⟨_,rfl,?_⟩,trivial⟩
      ·intro γ ρ w1 F1 hI hS hρ
       obtain ⟨b,q67,hb⟩:SO p γ 1 (ρ 67) w1:=hS 1 (by decide) 67 rfl
       obtain ⟨hbW,hbB⟩:=hb hI.1
       have q68:ρ 68=.slice A312 x59.1.length c313:=hS 2 (by decide) 68 rfl
       have hbn:b∉og γ++(b46::L):=fun hm=>(List.mem_append.1 hm).elim (fun h=>blk_types hbB ((hI.2 b (og_mem h)).2.2.1 (by decide)) rfl) (fun h=>by have h1:=hLt0 b h; have h2:w59e.heap.size≤b:=hbW; omega)
       have O3:=lit_own (og_lt hI (hLt0.fr F1)) hbn hbW hbB
       refine o_appsl slc_s_api_Entry rfl rfl kEnt_one q67 O3 q68 (hMF.up F1 (fun _ h=>by cases h) (fun m hm=>(List.mem_append.1 hm).elim (fun h=>.inr (by rw [show m=b by simpa [own,Value.ownBlock] using h]; exact hbW)) (og_up hI m))) ⟨by simp only [List.length_nil]; omega,by simp only [List.length_nil]; omega⟩ rfl rfl ?_
       intro v' w2 F2 O4 N2
       rw [List.nil_append] at O4
       refine eo_nil ⟨rfl,rfl,_,rfl,(γ.1,1),fun h=>h,Ext.st F1 F2 (fun m hm=>by rw [show m=b by simpa [own,Value.ownBlock] using hm]; exact hbW),⟨rfl,fun b' hb'=>?_⟩,fun j u hj hja h=>SO_3 j hj (fun e=>hja (by subst e; decide)) (fun e=>hja (by subst e; decide)) (fun e=>hja (by subst e; decide)) (fun e=>hja (by subst e; decide)) h,fun _=>O4⟩
       obtain ⟨h1,h2,h3,_⟩:=hI.2 b' hb'
       exact ⟨h1,Nat.lt_of_lt_of_le h2 F2.size,fun _=>(h3 (by decide)).fr F2 (own_types O3 (h3 (by decide))),fun c=>absurd c (by decide)⟩
      ·intro γ ρ w1 F1 hI hS hρ
       have O5:OwnS kEnt w59e.heap.size 42 (og γ++(b46::L)) w1 (ρ 69) x59.1:=(hS 3 (by decide) 69 rfl:SO p γ 3 (ρ 69) w1) (by rw [hI.1]; decide)
       have q70:ρ 70=.slice AP1 d1.length cP1:=hS 4 (by decide) 70 rfl
       refine o_appsl slc_s_api_Entry rfl rfl kEnt_one rfl O5 q70 (hLF.up F1 (fun _ h=>by cases h) (fun m hm=>(List.mem_append.1 hm).elim (fun h=>.inr (O5.lo m h)) (og_up hI m))) ha320 rfl rfl ?_
       intro v' w2 F2 O6 N2
       refine eo_nil ⟨rfl,rfl,_,rfl,(γ.1,2),fun h=>h,Ext.st F1 F2 (fun m hm=>O5.lo m hm),⟨rfl,fun b' hb'=>?_⟩,fun j u hj hja h=>SO_5 j hj (fun e=>hja (by subst e; decide)) (fun e=>hja (by subst e; decide)) (fun e=>hja (by subst e; decide)) h,fun _=>O6⟩
       obtain ⟨h1,h2,h3,_⟩:=hI.2 b' hb'
       exact ⟨h1,Nat.lt_of_lt_of_le h2 F2.size,fun _=>(h3 (by decide)).fr F2 (own_types O5 (h3 (by decide))),fun c=>absurd c (by decide)⟩
      ·intro γ ρ w1 F1 hI hS hρ
       obtain ⟨cs,q73,H⟩:SO p γ 8 (ρ 73) w1:=hS 8 (by decide) 73 rfl
       obtain ⟨b,hg,q14⟩:SO p γ 11 (ρ 14) w1:=hS 11 (by decide) 14 rfl
       obtain ⟨h1,h2,h3,_⟩:=hI.2 b hg
       obtain ⟨Aa,ca,Ab,cb,rfl,Ha,Hb⟩:=kArena_open H
       refine o_store q14 (h3 (by decide)) (vs:=cArena x321.1 Aa ca Ab cb) (by show (ρ 73).cells=_; rw [q73]; rfl) sz_api_Arena rfl rfl rfl ?_
       intro w2 F2 B2
       refine eo_nil ⟨rfl,rfl,.nilIface,rfl,(γ.1,3),fun h=>h,Ext.st F1 F2 (fun m hm=>by rw [List.mem_singleton] at hm; rw [hm]; exact h1),⟨rfl,fun b' hb'=>?_⟩,fun j u _ _ h=>SO_12 hg F2 j h,trivial⟩
       rw [show (γ.1,3).1=γ.1 from rfl,hg] at hb'
       cases hb'
       have Ha':Stb (b::(b46::L)) w1 (fun w=>SlC kEnt w Aa ca x321.1.slots):=by simpa [og,hg] using Ha
       have Hb':Stb (b::(b46::L)) w1 (fun w=>SlC (kI .i64) w Ab cb x321.1.idx):=by simpa [og,hg] using Hb
       exact ⟨h1,Nat.lt_of_lt_of_le h2 F2.size,fun c=>absurd c (by decide),fun _=>⟨Aa,ca,Ab,cb,B2,Ha'.fr F2 (fun m hm=>by rw [List.mem_singleton] at hm; simp [hm]),Hb'.fr F2 (fun m hm=>by rw [List.mem_singleton] at hm; simp [hm])⟩⟩
     intro γ ρn w321 F321 hI hS hρ
     obtain ⟨b340,hg,q14⟩:SO p γ 11 (ρn 14) w321:=hS 11 14 rfl
     obtain ⟨hbW,hblt,_,hb3⟩:=hI.2 b340 hg
     obtain ⟨A334,c335,A337,c338,B356,H336',H339'⟩:=hb3 rfl
     have hbW:w59e.heap.size≤b340:=hbW
     have q15:ρn 15=.int .i64 x321.2.1:=hS 13 15 rfl
     have q16:ρn 16=.int .i64 x321.2.2:=hS 14 16 rfl
     have q7:ρn 7=.bool (worksV):=hρ 7 (by kernel_rfl)
     have q9:ρn 9=.pointer (some ⟨b46,0,none⟩):=hρ 9 (by kernel_rfl)
     have q11:ρn 11=.int .i64 x31.2.2:=hρ 11 (by kernel_rfl)
     obtain ⟨ρn',rfl⟩:∃ ρ',ρn=envs ρ' [(14,.pointer (some ⟨b340,0,none⟩)),(15,.int .i64 x321.2.1),(16,.int .i64 x321.2.2),(7,.bool (worksV)),(9,.pointer (some ⟨b46,0,none⟩)),(11,.int .i64 x31.2.2)]:=⟨ρn,envs_self ⟨q14,q15,q16,q7,q9,q11,trivial⟩⟩
     have H336:Stb (b46::L) w321 (fun w=>SlC kEnt w A334 c335 x321.1.slots):=H336'.up (Fr.refl [] _) (fun _ h=>by cases h) (fun m hm=>.inl (List.mem_cons_of_mem _ hm))
     have H339:Stb (b46::L) w321 (fun w=>SlC (kI .i64) w A337 c338 x321.1.idx):=H339'.up (Fr.refl [] _) (fun _ h=>by cases h) (fun m hm=>.inl (List.mem_cons_of_mem _ hm))
     have F340:Ext w321 w321:=Fr.refl _ _
     have F356:Fr [b340] w321 w321:=Fr.refl _ _
     have E327:=E59e.trans F321
     have n340:w.heap.size≤b340:=Nat.le_trans E59e.size hbW
     have q341:b46<b340:=Nat.lt_of_lt_of_le B59eb46.lt hbW
     have m344:w31.heap.size≤b340:=Nat.le_trans G107.size hbW
     have E348:=E327.trans F340
     have G354:Fr (b46::L) w321 w321:=Fr.ext F340
     have E357:=Ext.st E348 F356 (by simp; omega)
     have G360:Fr L w31 w321:=((G107.trans (Fr.ext F321)).trans (Fr.ext F340)).stp F356 (upc (.inr m344) (fun m hm=>by cases hm))
     have G363:Fr (b46::L) w321 w321:=G354
     have B364:=((B59eb46.ex F321).ex F340).fr F356 (by simp; omega)
     have B356':Blk w321 b340 _ (cArena x321.1 A334 c335 A337 c338):=B356
     refine sq_n ?_
     refine ec_seq ?_
     refine ec_sr ?_
     refine o_w (v:=.int .i64 x31.2.2) (r_mov rfl) ?_
     refine o_w (v:=.bool (decide (0<x31.2.2))) (r_int rfl rfl rfl) ?_
     refine eo_nil_sq ?_
     refine ec_cond rfl (fun hc365=>?_) (fun hc365=>?_)
     ·replace h:=h.1 hc365
      refine ec_sr ?_
      iterate 2 refine o_w (v:=.bool (worksV)) (r_mov rfl) ?_
      refine o_v (v:=.int .i64 x321.2.2) (r_mov rfl) (want_t (t:=79) rfl rfl (of_not hc13)) rfl rfl ?_
      refine o_v (v:=.bool (decide (0<x321.2.2))) (r_int rfl rfl rfl) (want_t (t:=79) rfl rfl (of_not hc13)) rfl rfl ?_
      refine o_w (v:=.bool (decide (0<x321.2.2))) (r_pickT rfl (of_not hc13) rfl) ?_
      refine o_w (v:=.bool (decide (0<x321.2.2))) (r_asg rfl) ?_
      refine eo_nil_sq ?_
      refine ec_ret ?_
      refine sq_ret ?_
      subst h
      exact (end1 rfl ⟨_,rfl,E357,rfl⟩)
     ·replace h:=h.2 hc365
      refine ec_skip ?_
      refine sq_n ?_
      refine ec_seq ?_
      rcases Bool.eq_false_or_eq_true (x321.2.2==0) with hc368 | hc368
      ·replace h:=h.1 hc368
       rcases Bool.eq_false_or_eq_true (alikeA x31.1 x321.1) with hc369 | hc369
       ·replace h:=h.1 hc369
        obtain ⟨ha372,h⟩:=h
        obtain ⟨ha373,h⟩:=h
        obtain ⟨ha375,h⟩:=h
        obtain ⟨x374,hx374,h⟩:=h
        obtain ⟨ha380,h⟩:=h
        obtain ⟨x379,hx379,h⟩:=h
        obtain ⟨ha385,h⟩:=h
        refine ec_any0 (by kernel_rfl) [[],[0],[0,1],[0,1,2],[0,1,2,3],[0,1,2,3,4],[0,1,2,3,4,5],[0,1,2,3,4,5],[0,1,2,3,4,5,6,7],[0,1,2,3,4,5,6,7,8],[0,1,2,3,4,5,6,7,8,9],[0,1,2,3,4,5,6,7,8,9,10],[0,1,2,3,4,5,6,7,8,9,10,11],[0,1,2,3,4,5,6,7,8,9,10],[0,1,2,3,4,5,6,7,8,9,10,11,12,13],[0,1,2,3,4,5,6,7,8,9,10,11,12,13,14],[0,1,2,3,4,5,6,7,8,9,10,11,12,13,14,15],[0,1,2,3,4,5,6,7,8,9,10,11,12,13,14,15,16]] [6,83,84,85,86,87,88,89,90,91,92,93,94,95,96,97,98,99] [fun v _=>v=(.bool (worksV):Value),fun v _=>v=(.bool (worksV):Value),fun v _=>v=(.int .i64 x321.2.2:Value),fun v _=>v=(.bool (x321.2.2==0):Value),fun v _=>v=(.bool (x321.2.2==0):Value),fun v _=>v=(.bool (x321.2.2==0):Value),fun v _=>v=(.agg (cArena x31.1 A40 c41 A43 c44).toArray:Value),fun v _=>v=(.agg (cArena x321.1 A334 c335 A337 c338).toArray:Value),fun v _=>v=(.bool (alikeA x31.1 x321.1):Value),fun v _=>v=(.bool (alikeA x31.1 x321.1):Value),fun v _=>v=(.bool (alikeA x31.1 x321.1):Value),fun v _=>v=(.agg (cArena x31.1 A40 c41 A43 c44).toArray:Value),fun v w'=>∃ A376 c377,v=(.slice A376 x374.length c377:Value)∧Stb (b340::(b46::L)) w' (fun w=>SlC kEnt w A376 c377 x374),fun v _=>v=(.agg (cArena x321.1 A334 c335 A337 c338).toArray:Value),fun v w'=>∃ A381 c382,v=(.slice A381 x379.length c382:Value)∧Stb (b340::(b46::L)) w' (fun w=>SlC kEnt w A381 c382 x379),fun v _=>v=(.bool (allE x374 x379):Value),fun v _=>v=(.bool (allE x374 x379):Value),fun v _=>v=(.bool (allE x374 x379):Value)] (by kernel_rfl) ⟨fun _ _ _ _ _ h=>h,fun _ _ _ _ _ h=>h,fun _ _ _ _ _ h=>h,fun _ _ _ _ _ h=>h,fun _ _ _ _ _ h=>h,fun _ _ _ _ _ h=>h,fun _ _ _ _ _ h=>h,fun _ _ _ _ _ h=>h,fun _ _ _ _ _ h=>h,fun _ _ _ _ _ h=>h,fun _ _ _ _ _ h=>h,fun _ _ _ _ _ h=>h,fun _ v w' w'' F h=>by obtain ⟨A376,c377,hv,H378⟩:=h; exact ⟨A376,c377,hv,(H378.ex F)⟩,fun _ _ _ _ _ h=>h,fun _ v w' w'' F h=>by obtain ⟨A381,c382,hv,H383⟩:=h; exact ⟨A381,c382,hv,(H383.ex F)⟩,fun _ _ _ _ _ h=>h,fun _ _ _ _ _ h=>h,fun _ _ _ _ _ h=>h,trivial⟩ ?_ ?_
        ·refine ⟨?_,?_,?_,?_,?_,?_,?_,?_,?_,?_,?_,?_,?_,?_,?_,?_,?_,?_,trivial⟩
         ·intro ρ w370o F370o hS hρ
          have q7:ρ 7=.bool (worksV):=hρ 7 (by kernel_rfl)
          exact o_q (r_mov q7) ⟨Fr.refl _ _,rfl⟩
         ·intro ρ w370o F370o hS hρ
          have q83:ρ 83=.bool (worksV):=hS 0 (by decide) 83 rfl
          exact o_q (r_mov q83) ⟨Fr.refl _ _,rfl⟩
         ·intro ρ w370o F370o hS hρ
          have q16:ρ 16=.int .i64 x321.2.2:=hρ 16 (by kernel_rfl)
          have q84:ρ 84=.bool (worksV):=hS 1 (by decide) 84 rfl
          exact o_v (r_mov q16) (want_t (t:=84) rfl q84 (of_not hc13)) rfl rfl (eo_nil ⟨rfl,rfl,_,rfl,Fr.refl _ _,rfl⟩)
         ·intro ρ w370o F370o hS hρ
          have q84:ρ 84=.bool (worksV):=hS 1 (by decide) 84 rfl
          have q85:ρ 85=.int .i64 x321.2.2:=hS 2 (by decide) 85 rfl
          exact o_v (r_int q85 rfl rfl) (want_t (t:=84) rfl q84 (of_not hc13)) rfl rfl (eo_nil ⟨rfl,rfl,_,rfl,Fr.refl _ _,rfl⟩)
         ·intro ρ w370o F370o hS hρ
          have q84:ρ 84=.bool (worksV):=hS 1 (by decide) 84 rfl
          have q86:ρ 86=.bool (x321.2.2==0):=hS 3 (by decide) 86 rfl
          exact o_q (r_pickT q84 (of_not hc13) q86) ⟨Fr.refl _ _,rfl⟩
         ·intro ρ w370o F370o hS hρ
          have q87:ρ 87=.bool (x321.2.2==0):=hS 4 (by decide) 87 rfl
          exact o_q (r_mov q87) ⟨Fr.refl _ _,rfl⟩
         ·intro ρ w370o F370o hS hρ
          have q9:ρ 9=.pointer (some ⟨b46,0,none⟩):=hρ 9 (by kernel_rfl)
          have q88:ρ 88=.bool (x321.2.2==0):=hS 5 (by decide) 88 rfl
          exact o_v (r_lda agg_api_Arena q9 (vs:=(cArena x31.1 A40 c41 A43 c44)) rfl ((B364.ex F370o).part (n:=3) rfl)) (want_t (t:=88) rfl q88 hc368) rfl rfl (eo_nil ⟨rfl,rfl,_,rfl,Fr.refl _ _,rfl⟩)
         ·intro ρ w370o F370o hS hρ
          have q14:ρ 14=.pointer (some ⟨b340,0,none⟩):=hρ 14 (by kernel_rfl)
          have q88:ρ 88=.bool (x321.2.2==0):=hS 5 (by decide) 88 rfl
          exact o_v (r_lda agg_api_Arena q14 (vs:=(cArena x321.1 A334 c335 A337 c338)) rfl ((B356'.ex F370o).part (n:=3) rfl)) (want_t (t:=88) rfl q88 hc368) rfl rfl (eo_nil ⟨rfl,rfl,_,rfl,Fr.refl _ _,rfl⟩)
         ·intro ρ w370o F370o hS hρ
          have E404:=E357.trans F370o
          have q88:ρ 88=.bool (x321.2.2==0):=hS 5 (by decide) 88 rfl
          have q89:ρ 89=.agg (cArena x31.1 A40 c41 A43 c44).toArray:=hS 6 (by decide) 89 rfl
          have q90:ρ 90=.agg (cArena x321.1 A334 c335 A337 c338).toArray:=hS 7 (by decide) 90 rfl
          refine o_call cf_arena_Alike (by simp only [List.map,ev,q89,q90] <;> rfl) (arena_Alike_c x31.1 (kArena_mk (d:=x31.1) (H42.up (G360.trans (Fr.ext F370o)) sI (upc (.inr m344) (upc (.inr m49) (fun _ h=>.inl h)))) (H45.up (G360.trans (Fr.ext F370o)) sI (upc (.inr m344) (upc (.inr m49) (fun _ h=>.inl h))))) x321.1 (kArena_mk (d:=x321.1) (H336'.up (G363.trans (Fr.ext F370o)) (fun _ h=>List.mem_cons_of_mem _ h) (fun m hm=>.inl hm)) (H339'.up (G363.trans (Fr.ext F370o)) (fun _ h=>List.mem_cons_of_mem _ h) (fun m hm=>.inl hm))) (((hL.fr E404).cons (B364.ex F370o).lt).cons (B356'.ex F370o).lt) (arAlike_ev x31.1 x321.1 ha372 ha373)) (want_t (t:=88) rfl q88 hc368) rfl ?_
          rintro _ w' ⟨F,rfl⟩
          exact eo_nil ⟨rfl,rfl,_,rfl,F,rfl⟩
         ·intro ρ w370o F370o hS hρ
          have q88:ρ 88=.bool (x321.2.2==0):=hS 5 (by decide) 88 rfl
          have q91:ρ 91=.bool (alikeA x31.1 x321.1):=hS 8 (by decide) 91 rfl
          exact o_q (r_pickT q88 hc368 q91) ⟨Fr.refl _ _,rfl⟩
         ·intro ρ w370o F370o hS hρ
          have q92:ρ 92=.bool (alikeA x31.1 x321.1):=hS 9 (by decide) 92 rfl
          exact o_q (r_mov q92) ⟨Fr.refl _ _,rfl⟩
         ·intro ρ w370o F370o hS hρ
          have q9:ρ 9=.pointer (some ⟨b46,0,none⟩):=hρ 9 (by kernel_rfl)
          have q93:ρ 93=.bool (alikeA x31.1 x321.1):=hS 10 (by decide) 93 rfl
          exact o_v (r_lda agg_api_Arena q9 (vs:=(cArena x31.1 A40 c41 A43 c44)) rfl ((B364.ex F370o).part (n:=3) rfl)) (want_t (t:=93) rfl q93 hc369) rfl rfl (eo_nil ⟨rfl,rfl,_,rfl,Fr.refl _ _,rfl⟩)
         ·intro ρ w370o F370o hS hρ
          have E422:=E357.trans F370o
          have q93:ρ 93=.bool (alikeA x31.1 x321.1):=hS 10 (by decide) 93 rfl
          have q94:ρ 94=.agg (cArena x31.1 A40 c41 A43 c44).toArray:=hS 11 (by decide) 94 rfl
          refine o_call cf_arena_All (by simp only [List.map,ev,q94] <;> rfl) (arena_All_c x31.1 (kArena_mk (d:=x31.1) (H42.up (G360.trans (Fr.ext F370o)) sI (upc (.inr m344) (upc (.inr m49) (fun _ h=>.inl h)))) (H45.up (G360.trans (Fr.ext F370o)) sI (upc (.inr m344) (upc (.inr m49) (fun _ h=>.inl h))))) (((hL.fr E422).cons (B364.ex F370o).lt).cons (B356'.ex F370o).lt) (eq_ev hx374 (arAll_ev x31.1 ha375))) (want_t (t:=93) rfl q93 hc369) rfl ?_
          rintro _ w' ⟨F,A376,c377,rfl,H378⟩
          exact eo_nil ⟨rfl,rfl,_,rfl,F,⟨A376,c377,rfl,H378⟩⟩
         ·intro ρ w370o F370o hS hρ
          have q14:ρ 14=.pointer (some ⟨b340,0,none⟩):=hρ 14 (by kernel_rfl)
          have q93:ρ 93=.bool (alikeA x31.1 x321.1):=hS 10 (by decide) 93 rfl
          exact o_v (r_lda agg_api_Arena q14 (vs:=(cArena x321.1 A334 c335 A337 c338)) rfl ((B356'.ex F370o).part (n:=3) rfl)) (want_t (t:=93) rfl q93 hc369) rfl rfl (eo_nil ⟨rfl,rfl,_,rfl,Fr.refl _ _,rfl⟩)
         ·intro ρ w370o F370o hS hρ
          have E440:=E357.trans F370o
          have q93:ρ 93=.bool (alikeA x31.1 x321.1):=hS 10 (by decide) 93 rfl
          have q96:ρ 96=.agg (cArena x321.1 A334 c335 A337 c338).toArray:=hS 13 (by decide) 96 rfl
          refine o_call cf_arena_All (by simp only [List.map,ev,q96] <;> rfl) (arena_All_c x321.1 (kArena_mk (d:=x321.1) (H336'.up (G363.trans (Fr.ext F370o)) (fun _ h=>List.mem_cons_of_mem _ h) (fun m hm=>.inl hm)) (H339'.up (G363.trans (Fr.ext F370o)) (fun _ h=>List.mem_cons_of_mem _ h) (fun m hm=>.inl hm))) (((hL.fr E440).cons (B364.ex F370o).lt).cons (B356'.ex F370o).lt) (eq_ev hx379 (arAll_ev x321.1 ha380))) (want_t (t:=93) rfl q93 hc369) rfl ?_
          rintro _ w' ⟨F,A381,c382,rfl,H383⟩
          exact eo_nil ⟨rfl,rfl,_,rfl,F,⟨A381,c382,rfl,H383⟩⟩
         ·intro ρ w370o F370o hS hρ
          have E449:=E357.trans F370o
          have q93:ρ 93=.bool (alikeA x31.1 x321.1):=hS 10 (by decide) 93 rfl
          obtain ⟨A376,c377,q95,H378⟩:=hS 12 (by decide) 95 rfl
          obtain ⟨A381,c382,q97,H383⟩:=hS 14 (by decide) 97 rfl
          refine o_call cf_ref07_All (by simp only [List.map,ev,q95,q97] <;> rfl) (ref07_All_c x374 H378 x379 H383 (((hL.fr E449).cons (B364.ex F370o).lt).cons (B356'.ex F370o).lt) (refAll_ev x374 x379 ha385)) (want_t (t:=93) rfl q93 hc369) rfl ?_
          rintro _ w' ⟨F,rfl⟩
          exact eo_nil ⟨rfl,rfl,_,rfl,F,rfl⟩
         ·intro ρ w370o F370o hS hρ
          have q93:ρ 93=.bool (alikeA x31.1 x321.1):=hS 10 (by decide) 93 rfl
          have q98:ρ 98=.bool (allE x374 x379):=hS 15 (by decide) 98 rfl
          exact o_q (r_pickT q93 hc369 q98) ⟨Fr.refl _ _,rfl⟩
         ·intro ρ w370o F370o hS hρ
          have q99:ρ 99=.bool (allE x374 x379):=hS 16 (by decide) 99 rfl
          exact o_q (r_asg q99) ⟨Fr.refl _ _,rfl⟩
        ·intro ρ w370 F370 hS hρ
         have q6:ρ 6=.bool (allE x374 x379):=hS 17 6 rfl
         obtain ⟨ρ',rfl⟩:∃ ρ',ρ=envs (ovr [6,83,84,85,86,87,88,89,90,91,92,93,94,95,96,97,98,99] ρ' _) [(6,.bool (allE x374 x379))]:=⟨ρ,ovr_self hρ ⟨q6,trivial⟩⟩
         have E458:=E357.trans F370
         refine sq_n ?_
         refine ec_ret ?_
         subst h
         exact (end1 rfl ⟨_,rfl,E458,rfl⟩)
       ·replace h:=h.2 hc369
        obtain ⟨ha469,h⟩:=h
        obtain ⟨ha470,h⟩:=h
        refine ec_any0 (by kernel_rfl) [[],[0],[0,1],[0,1,2],[0,1,2,3],[0,1,2,3,4],[0,1,2,3,4,5],[0,1,2,3,4,5],[0,1,2,3,4,5,6,7],[0,1,2,3,4,5,6,7,8],[0,1,2,3,4,5,6,7,8,9],[0,1,2,3,4,5,6,7,8,9,10],[0,1,2,3,4,5,6,7,8,9,10,11],[0,1,2,3,4,5,6,7,8,9,10],[0,1,2,3,4,5,6,7,8,9,10,11,12,13],[0,1,2,3,4,5,6,7,8,9,10,11,12,13,14],[0,1,2,3,4,5,6,7,8,9,10,11,12,13,14,15],[0,1,2,3,4,5,6,7,8,9,10,11,12,13,14,15,16]] [6,83,84,85,86,87,88,89,90,91,92,93,94,95,96,97,98,99] [fun v _=>v=(.bool (worksV):Value),fun v _=>v=(.bool (worksV):Value),fun v _=>v=(.int .i64 x321.2.2:Value),fun v _=>v=(.bool (x321.2.2==0):Value),fun v _=>v=(.bool (x321.2.2==0):Value),fun v _=>v=(.bool (x321.2.2==0):Value),fun v _=>v=(.agg (cArena x31.1 A40 c41 A43 c44).toArray:Value),fun v _=>v=(.agg (cArena x321.1 A334 c335 A337 c338).toArray:Value),fun v _=>v=(.bool (alikeA x31.1 x321.1):Value),fun v _=>v=(.bool (alikeA x31.1 x321.1):Value),fun v _=>v=(.bool (alikeA x31.1 x321.1):Value),fun v _=>v=((undef:Value):Value),fun v _=>v=((undef:Value):Value),fun v _=>v=((undef:Value):Value),fun v _=>v=((undef:Value):Value),fun v _=>v=((undef:Value):Value),fun v _=>v=(.bool false:Value),fun v _=>v=(.bool false:Value)] (by kernel_rfl) ⟨fun _ _ _ _ _ h=>h,fun _ _ _ _ _ h=>h,fun _ _ _ _ _ h=>h,fun _ _ _ _ _ h=>h,fun _ _ _ _ _ h=>h,fun _ _ _ _ _ h=>h,fun _ _ _ _ _ h=>h,fun _ _ _ _ _ h=>h,fun _ _ _ _ _ h=>h,fun _ _ _ _ _ h=>h,fun _ _ _ _ _ h=>h,fun _ _ _ _ _ h=>h,fun _ _ _ _ _ h=>h,fun _ _ _ _ _ h=>h,fun _ _ _ _ _ h=>h,fun _ _ _ _ _ h=>h,fun _ _ _ _ _ h=>h,fun _ _ _ _ _ h=>h,trivial⟩ ?_ ?_
        ·refine ⟨?_,?_,?_,?_,?_,?_,?_,?_,?_,?_,?_,?_,?_,?_,?_,?_,?_,?_,trivial⟩
         ·intro ρ w467o F467o hS hρ
          have q7:ρ 7=.bool (worksV):=hρ 7 (by kernel_rfl)
          exact o_q (r_mov q7) ⟨Fr.refl _ _,rfl⟩
         ·intro ρ w467o F467o hS hρ
          have q83:ρ 83=.bool (worksV):=hS 0 (by decide) 83 rfl
          exact o_q (r_mov q83) ⟨Fr.refl _ _,rfl⟩
         ·intro ρ w467o F467o hS hρ
          have q16:ρ 16=.int .i64 x321.2.2:=hρ 16 (by kernel_rfl)
          have q84:ρ 84=.bool (worksV):=hS 1 (by decide) 84 rfl
          exact o_v (r_mov q16) (want_t (t:=84) rfl q84 (of_not hc13)) rfl rfl (eo_nil ⟨rfl,rfl,_,rfl,Fr.refl _ _,rfl⟩)
         ·intro ρ w467o F467o hS hρ
          have q84:ρ 84=.bool (worksV):=hS 1 (by decide) 84 rfl
          have q85:ρ 85=.int .i64 x321.2.2:=hS 2 (by decide) 85 rfl
          exact o_v (r_int q85 rfl rfl) (want_t (t:=84) rfl q84 (of_not hc13)) rfl rfl (eo_nil ⟨rfl,rfl,_,rfl,Fr.refl _ _,rfl⟩)
         ·intro ρ w467o F467o hS hρ
          have q84:ρ 84=.bool (worksV):=hS 1 (by decide) 84 rfl
          have q86:ρ 86=.bool (x321.2.2==0):=hS 3 (by decide) 86 rfl
          exact o_q (r_pickT q84 (of_not hc13) q86) ⟨Fr.refl _ _,rfl⟩
         ·intro ρ w467o F467o hS hρ
          have q87:ρ 87=.bool (x321.2.2==0):=hS 4 (by decide) 87 rfl
          exact o_q (r_mov q87) ⟨Fr.refl _ _,rfl⟩
         ·intro ρ w467o F467o hS hρ
          have q9:ρ 9=.pointer (some ⟨b46,0,none⟩):=hρ 9 (by kernel_rfl)
          have q88:ρ 88=.bool (x321.2.2==0):=hS 5 (by decide) 88 rfl
          exact o_v (r_lda agg_api_Arena q9 (vs:=(cArena x31.1 A40 c41 A43 c44)) rfl ((B364.ex F467o).part (n:=3) rfl)) (want_t (t:=88) rfl q88 hc368) rfl rfl (eo_nil ⟨rfl,rfl,_,rfl,Fr.refl _ _,rfl⟩)
         ·intro ρ w467o F467o hS hρ
          have q14:ρ 14=.pointer (some ⟨b340,0,none⟩):=hρ 14 (by kernel_rfl)
          have q88:ρ 88=.bool (x321.2.2==0):=hS 5 (by decide) 88 rfl
          exact o_v (r_lda agg_api_Arena q14 (vs:=(cArena x321.1 A334 c335 A337 c338)) rfl ((B356'.ex F467o).part (n:=3) rfl)) (want_t (t:=88) rfl q88 hc368) rfl rfl (eo_nil ⟨rfl,rfl,_,rfl,Fr.refl _ _,rfl⟩)
         ·intro ρ w467o F467o hS hρ
          have E489:=E357.trans F467o
          have q88:ρ 88=.bool (x321.2.2==0):=hS 5 (by decide) 88 rfl
          have q89:ρ 89=.agg (cArena x31.1 A40 c41 A43 c44).toArray:=hS 6 (by decide) 89 rfl
          have q90:ρ 90=.agg (cArena x321.1 A334 c335 A337 c338).toArray:=hS 7 (by decide) 90 rfl
          refine o_call cf_arena_Alike (by simp only [List.map,ev,q89,q90] <;> rfl) (arena_Alike_c x31.1 (kArena_mk (d:=x31.1) (H42.up (G360.trans (Fr.ext F467o)) sI (upc (.inr m344) (upc (.inr m49) (fun _ h=>.inl h)))) (H45.up (G360.trans (Fr.ext F467o)) sI (upc (.inr m344) (upc (.inr m49) (fun _ h=>.inl h))))) x321.1 (kArena_mk (d:=x321.1) (H336'.up (G363.trans (Fr.ext F467o)) (fun _ h=>List.mem_cons_of_mem _ h) (fun m hm=>.inl hm)) (H339'.up (G363.trans (Fr.ext F467o)) (fun _ h=>List.mem_cons_of_mem _ h) (fun m hm=>.inl hm))) (((hL.fr E489).cons (B364.ex F467o).lt).cons (B356'.ex F467o).lt) (arAlike_ev x31.1 x321.1 ha469 ha470)) (want_t (t:=88) rfl q88 hc368) rfl ?_
          rintro _ w' ⟨F,rfl⟩
          exact eo_nil ⟨rfl,rfl,_,rfl,F,rfl⟩
         ·intro ρ w467o F467o hS hρ
          have q88:ρ 88=.bool (x321.2.2==0):=hS 5 (by decide) 88 rfl
          have q91:ρ 91=.bool (alikeA x31.1 x321.1):=hS 8 (by decide) 91 rfl
          exact o_q (r_pickT q88 hc368 q91) ⟨Fr.refl _ _,rfl⟩
         ·intro ρ w467o F467o hS hρ
          have q92:ρ 92=.bool (alikeA x31.1 x321.1):=hS 9 (by decide) 92 rfl
          exact o_q (r_mov q92) ⟨Fr.refl _ _,rfl⟩
         ·intro ρ w467o F467o hS hρ
          have q93:ρ 93=.bool (alikeA x31.1 x321.1):=hS 10 (by decide) 93 rfl
          exact o_no (want_f (t:=93) rfl q93 hc369) rfl (eo_nil ⟨rfl,rfl,undef,rfl,Fr.refl _ _,rfl⟩)
         ·intro ρ w467o F467o hS hρ
          have q93:ρ 93=.bool (alikeA x31.1 x321.1):=hS 10 (by decide) 93 rfl
          exact o_no (want_f (t:=93) rfl q93 hc369) rfl (eo_nil ⟨rfl,rfl,undef,rfl,Fr.refl _ _,rfl⟩)
         ·intro ρ w467o F467o hS hρ
          have q93:ρ 93=.bool (alikeA x31.1 x321.1):=hS 10 (by decide) 93 rfl
          exact o_no (want_f (t:=93) rfl q93 hc369) rfl (eo_nil ⟨rfl,rfl,undef,rfl,Fr.refl _ _,rfl⟩)
         ·intro ρ w467o F467o hS hρ
          have q93:ρ 93=.bool (alikeA x31.1 x321.1):=hS 10 (by decide) 93 rfl
          exact o_no (want_f (t:=93) rfl q93 hc369) rfl (eo_nil ⟨rfl,rfl,undef,rfl,Fr.refl _ _,rfl⟩)
         ·intro ρ w467o F467o hS hρ
          have q93:ρ 93=.bool (alikeA x31.1 x321.1):=hS 10 (by decide) 93 rfl
          exact o_no (want_f (t:=93) rfl q93 hc369) rfl (eo_nil ⟨rfl,rfl,undef,rfl,Fr.refl _ _,rfl⟩)
         ·intro ρ w467o F467o hS hρ
          have q93:ρ 93=.bool (alikeA x31.1 x321.1):=hS 10 (by decide) 93 rfl
          exact o_q (r_pickF q93 hc369 rfl) ⟨Fr.refl _ _,rfl⟩
         ·intro ρ w467o F467o hS hρ
          have q99:ρ 99=.bool false:=hS 16 (by decide) 99 rfl
          exact o_q (r_asg q99) ⟨Fr.refl _ _,rfl⟩
        ·intro ρ w467 F467 hS hρ
         have q6:ρ 6=.bool false:=hS 17 6 rfl
         obtain ⟨ρ',rfl⟩:∃ ρ',ρ=envs (ovr [6,83,84,85,86,87,88,89,90,91,92,93,94,95,96,97,98,99] ρ' _) [(6,.bool false)]:=⟨ρ,ovr_self hρ ⟨q6,trivial⟩⟩
         have E498:=E357.trans F467
         refine sq_n ?_
         refine ec_ret ?_
         subst h
         exact (end1 rfl ⟨_,rfl,E498,rfl⟩)
      ·replace h:=h.2 hc368
       refine ec_any0 (by kernel_rfl) [[],[0],[0,1],[0,1,2],[0,1,2,3],[0,1,2,3,4],[0,1,2,3,4,5],[0,1,2,3,4,5],[0,1,2,3,4,5,6,7],[0,1,2,3,4,5,6,7,8],[0,1,2,3,4,5,6,7,8,9],[0,1,2,3,4,5,6,7,8,9,10],[0,1,2,3,4,5,6,7,8,9,10,11],[0,1,2,3,4,5,6,7,8,9,10],[0,1,2,3,4,5,6,7,8,9,10,11,12,13],[0,1,2,3,4,5,6,7,8,9,10,11,12,13,14],[0,1,2,3,4,5,6,7,8,9,10,11,12,13,14,15],[0,1,2,3,4,5,6,7,8,9,10,11,12,13,14,15,16]] [6,83,84,85,86,87,88,89,90,91,92,93,94,95,96,97,98,99] [fun v _=>v=(.bool (worksV):Value),fun v _=>v=(.bool (worksV):Value),fun v _=>v=(.int .i64 x321.2.2:Value),fun v _=>v=(.bool (x321.2.2==0):Value),fun v _=>v=(.bool (x321.2.2==0):Value),fun v _=>v=(.bool (x321.2.2==0):Value),fun v _=>v=((undef:Value):Value),fun v _=>v=((undef:Value):Value),fun v _=>v=((undef:Value):Value),fun v _=>v=(.bool false:Value),fun v _=>v=(.bool false:Value),fun v _=>v=((undef:Value):Value),fun v _=>v=((undef:Value):Value),fun v _=>v=((undef:Value):Value),fun v _=>v=((undef:Value):Value),fun v _=>v=((undef:Value):Value),fun v _=>v=(.bool false:Value),fun v _=>v=(.bool false:Value)] (by kernel_rfl) ⟨fun _ _ _ _ _ h=>h,fun _ _ _ _ _ h=>h,fun _ _ _ _ _ h=>h,fun _ _ _ _ _ h=>h,fun _ _ _ _ _ h=>h,fun _ _ _ _ _ h=>h,fun _ _ _ _ _ h=>h,fun _ _ _ _ _ h=>h,fun _ _ _ _ _ h=>h,fun _ _ _ _ _ h=>h,fun _ _ _ _ _ h=>h,fun _ _ _ _ _ h=>h,fun _ _ _ _ _ h=>h,fun _ _ _ _ _ h=>h,fun _ _ _ _ _ h=>h,fun _ _ _ _ _ h=>h,fun _ _ _ _ _ h=>h,fun _ _ _ _ _ h=>h,trivial⟩ ?_ ?_
       ·refine ⟨?_,?_,?_,?_,?_,?_,?_,?_,?_,?_,?_,?_,?_,?_,?_,?_,?_,?_,trivial⟩
        ·intro ρ w507o F507o hS hρ
         have q7:ρ 7=.bool (worksV):=hρ 7 (by kernel_rfl)
         exact o_q (r_mov q7) ⟨Fr.refl _ _,rfl⟩
        ·intro ρ w507o F507o hS hρ
         have q83:ρ 83=.bool (worksV):=hS 0 (by decide) 83 rfl
         exact o_q (r_mov q83) ⟨Fr.refl _ _,rfl⟩
        ·intro ρ w507o F507o hS hρ
         have q16:ρ 16=.int .i64 x321.2.2:=hρ 16 (by kernel_rfl)
         have q84:ρ 84=.bool (worksV):=hS 1 (by decide) 84 rfl
         exact o_v (r_mov q16) (want_t (t:=84) rfl q84 (of_not hc13)) rfl rfl (eo_nil ⟨rfl,rfl,_,rfl,Fr.refl _ _,rfl⟩)
        ·intro ρ w507o F507o hS hρ
         have q84:ρ 84=.bool (worksV):=hS 1 (by decide) 84 rfl
         have q85:ρ 85=.int .i64 x321.2.2:=hS 2 (by decide) 85 rfl
         exact o_v (r_int q85 rfl rfl) (want_t (t:=84) rfl q84 (of_not hc13)) rfl rfl (eo_nil ⟨rfl,rfl,_,rfl,Fr.refl _ _,rfl⟩)
        ·intro ρ w507o F507o hS hρ
         have q84:ρ 84=.bool (worksV):=hS 1 (by decide) 84 rfl
         have q86:ρ 86=.bool (x321.2.2==0):=hS 3 (by decide) 86 rfl
         exact o_q (r_pickT q84 (of_not hc13) q86) ⟨Fr.refl _ _,rfl⟩
        ·intro ρ w507o F507o hS hρ
         have q87:ρ 87=.bool (x321.2.2==0):=hS 4 (by decide) 87 rfl
         exact o_q (r_mov q87) ⟨Fr.refl _ _,rfl⟩
        ·intro ρ w507o F507o hS hρ
         have q88:ρ 88=.bool (x321.2.2==0):=hS 5 (by decide) 88 rfl
         exact o_no (want_f (t:=88) rfl q88 hc368) rfl (eo_nil ⟨rfl,rfl,undef,rfl,Fr.refl _ _,rfl⟩)
        ·intro ρ w507o F507o hS hρ
         have q88:ρ 88=.bool (x321.2.2==0):=hS 5 (by decide) 88 rfl
         exact o_no (want_f (t:=88) rfl q88 hc368) rfl (eo_nil ⟨rfl,rfl,undef,rfl,Fr.refl _ _,rfl⟩)
        ·intro ρ w507o F507o hS hρ
         have q88:ρ 88=.bool (x321.2.2==0):=hS 5 (by decide) 88 rfl
         exact o_no (want_f (t:=88) rfl q88 hc368) rfl (eo_nil ⟨rfl,rfl,undef,rfl,Fr.refl _ _,rfl⟩)
        ·intro ρ w507o F507o hS hρ
         have q88:ρ 88=.bool (x321.2.2==0):=hS 5 (by decide) 88 rfl
         exact o_q (r_pickF q88 hc368 rfl) ⟨Fr.refl _ _,rfl⟩
        ·intro ρ w507o F507o hS hρ
         have q92:ρ 92=.bool false:=hS 9 (by decide) 92 rfl
         exact o_q (r_mov q92) ⟨Fr.refl _ _,rfl⟩
        ·intro ρ w507o F507o hS hρ
         have q93:ρ 93=.bool false:=hS 10 (by decide) 93 rfl
         exact o_no (want_f (t:=93) rfl q93 rfl) rfl (eo_nil ⟨rfl,rfl,undef,rfl,Fr.refl _ _,rfl⟩)
        ·intro ρ w507o F507o hS hρ
         have q93:ρ 93=.bool false:=hS 10 (by decide) 93 rfl
         exact o_no (want_f (t:=93) rfl q93 rfl) rfl (eo_nil ⟨rfl,rfl,undef,rfl,Fr.refl _ _,rfl⟩)
        ·intro ρ w507o F507o hS hρ
         have q93:ρ 93=.bool false:=hS 10 (by decide) 93 rfl
         exact o_no (want_f (t:=93) rfl q93 rfl) rfl (eo_nil ⟨rfl,rfl,undef,rfl,Fr.refl _ _,rfl⟩)
        ·intro ρ w507o F507o hS hρ
         have q93:ρ 93=.bool false:=hS 10 (by decide) 93 rfl
         exact o_no (want_f (t:=93) rfl q93 rfl) rfl (eo_nil ⟨rfl,rfl,undef,rfl,Fr.refl _ _,rfl⟩)
        ·intro ρ w507o F507o hS hρ
         have q93:ρ 93=.bool false:=hS 10 (by decide) 93 rfl
         exact o_no (want_f (t:=93) rfl q93 rfl) rfl (eo_nil ⟨rfl,rfl,undef,rfl,Fr.refl _ _,rfl⟩)
        ·intro ρ w507o F507o hS hρ
         have q93:ρ 93=.bool false:=hS 10 (by decide) 93 rfl
         exact o_q (r_pickF q93 rfl rfl) ⟨Fr.refl _ _,rfl⟩
        ·intro ρ w507o F507o hS hρ
         have q99:ρ 99=.bool false:=hS 16 (by decide) 99 rfl
         exact o_q (r_asg q99) ⟨Fr.refl _ _,rfl⟩
       ·intro ρ w507 F507 hS hρ
        have q6:ρ 6=.bool false:=hS 17 6 rfl
        obtain ⟨ρ',rfl⟩:∃ ρ',ρ=envs (ovr [6,83,84,85,86,87,88,89,90,91,92,93,94,95,96,97,98,99] ρ' _) [(6,.bool false)]:=⟨ρ,ovr_self hρ ⟨q6,trivial⟩⟩
        have E508:=E357.trans F507
        refine sq_n ?_
        refine ec_ret ?_
        subst h
        exact (end1 rfl ⟨_,rfl,E508,rfl⟩)
end Go.Proofs.Ythifkdgljapmeaa
