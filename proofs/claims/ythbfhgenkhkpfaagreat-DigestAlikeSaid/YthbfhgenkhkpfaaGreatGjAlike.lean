/- The law DigestAlike: what it comes to. -/
import Derived.Test.YthbfhgenkhkpfaaGreatMg
namespace Go.Proofs.YthbfhgenkhkpfaaGreat
open Go Go.RowKit
set_option linter.unusedVariables false
set_option linter.unusedSimpArgs false
def law10_DigestAlike_b69 (x25:Arena × Int × Int) (s69:List Ent × Int) (z69:(List Ent × Int) ⊕ (List Ent × Int)):Prop :=
 ((decide (0≤s69.2))=true→((0≤s69.2∧s69.2<(x25.1.slots.length:Int))∧((s69.1.length + 1≤9223372036854775807∧(s69.1.length + 1) * 120≤140737488355328)∧(z69=.inl ((s69.1++([(nth x25.1.slots s69.2)]:List Ent)),(IntKind.i64.wrap (s69.2 - (1:Int))))))))∧((decide (0≤s69.2))=false→(z69=.inr (s69.1,s69.2)))
def law10_DigestAlike_raw (d0:Arena) (d1:(List Ent)) (y:Bool):Prop :=
 ((!(worksV))=true→(y=false))∧((!(worksV))=false→(((fewA d0)=true→((8:Int):Int)≤100)∧(((!((fewA d0)&&(entriesB d1 (8:Int))))=true→(y=(worksV)))∧((!((fewA d0)&&(entriesB d1 (8:Int))))=false→((sma d0)∧((sml d1)∧((wfl d1)∧(∃ x25,x25=(mergeA d0 d1)∧(∃ x69,LoopR (law10_DigestAlike_b69 x25) (([]:List Ent),(IntKind.i64.wrap ((x25.1.slots.length:Int) - (1:Int)))) x69∧((sma (⟨x25.1.cap,([]:List Ent),([]:List Int)⟩:Arena))∧((sml x69.1)∧((wfl x69.1)∧(∃ x122,x122=(mergeA (⟨x25.1.cap,([]:List Ent),([]:List Int)⟩:Arena) x69.1)∧((sma x25.1)∧((sma x122.1)∧(((!(alikeA x25.1 x122.1))=true→((sma x25.1)∧(y=((checkA x25.1) != (0:Int)))))∧((!(alikeA x25.1 x122.1))=false→(((((nth (sumsD x25.1) 0)==(nth (sumsD x122.1) 0))&&(((nth (sumsD x25.1) 1)==(nth (sumsD x122.1) 1))&&(((nth (sumsD x25.1) 2)==(nth (sumsD x122.1) 2))&&(((nth (sumsD x25.1) 3)==(nth (sumsD x122.1) 3))&&true))))=true→(sma x25.1∧(∃ x197,x197=(sumsD x25.1)∧(x197.length=4∧(sma x122.1∧(∃ x200,x200=(sumsD x122.1)∧(x200.length=4∧(sma x25.1∧(∃ x203,x203=(sumsD x25.1)∧(x203.length=4∧(sma x122.1∧(∃ x206,x206=(sumsD x122.1)∧(x206.length=4∧(y=((differD x203 x206)==0)))))))))))))))∧((((nth (sumsD x25.1) 0)==(nth (sumsD x122.1) 0))&&(((nth (sumsD x25.1) 1)==(nth (sumsD x122.1) 1))&&(((nth (sumsD x25.1) 2)==(nth (sumsD x122.1) 2))&&(((nth (sumsD x25.1) 3)==(nth (sumsD x122.1) 3))&&true))))=false→(sma x25.1∧(∃ x301,x301=(sumsD x25.1)∧(x301.length=4∧(sma x122.1∧(∃ x304,x304=(sumsD x122.1)∧(x304.length=4∧(y=false))))))))))))))))))))))))))
set_option maxRecDepth 20000 in
set_option maxHeartbeats 4000000 in
theorem law10_DigestAlike_c {L:List Nat} {w:World} {csP0:List Value} (d0:Arena) (HP0:Stb L w (fun w=>kArena.r w csP0 d0)) {AP1:Option Addr} {cP1:Nat} (d1:(List Ent)) (HP1:Stb L w (fun w=>SlC kEnt w AP1 cP1 d1)) (hL:Lt L w) {y:Bool} (h:law10_DigestAlike_raw d0 d1 y) :
  Calls Tryz.prog 8 [.agg csP0.toArray,.slice AP1 d1.length cP1].toArray w (Ret fun v w'=>Ext w w'∧v=.bool y):=by
 obtain ⟨A1,c2,A4,c5,rfl,H3,H6⟩:=kArena_open HP0
 unfold law10_DigestAlike_raw at h
 refine calls_ec Tryz.func8 rfl rfl rfl ?_
 refine ec_sr ?_
 refine o_box (cs:=(cArena d0 A1 c2 A4 c5)) rfl rfl rfl ?_
 intro b7 w7 e7 F7 B7
 have S7:=B7.stb (nin hL e7)
 have G8:Fr L w w7:=Fr.ext F7
 refine o_w (v:=.bool false) (r_asg rfl) ?_
 refine eo_r ?_
 refine o_call cf_law10_works rfl (law10_works_c (hL.fr F7) (works10_ev)) rfl rfl ?_
 rintro _ w9 ⟨F9,rfl⟩
 have E10:=F7.trans F9
 have G12:Fr L w7 w9:=Fr.ext F9
 refine o_w (v:=.bool (worksV)) (r_asg rfl) ?_
 refine eo_nil_sq ?_
 refine ec_seq ?_
 refine ec_sr ?_
 refine o_w (v:=.bool (worksV)) (r_mov rfl) ?_
 refine o_w (v:=.bool (!(worksV))) (r_not rfl) ?_
 refine eo_nil_sq ?_
 refine ec_cond rfl (fun hc13=>?_) (fun hc13=>?_)
 ·replace h:=h.1 hc13
  refine ec_sr ?_
  refine o_w (v:=.bool false) (r_asg rfl) ?_
  refine eo_nil_sq ?_
  refine ec_ret ?_
  refine sq_ret ?_
  subst h
  exact (end1 rfl ⟨_,rfl,E10,rfl⟩)
 ·replace h:=h.2 hc13
  refine ec_skip ?_
  refine sq_n ?_
  refine ec_sr ?_
  refine o_w (v:=.agg (cArena d0 A1 c2 A4 c5).toArray) (r_lda agg_api_Arena rfl (vs:=(cArena d0 A1 c2 A4 c5)) rfl ((S7.fr G12 sI).now.part (n:=3) rfl)) ?_
  refine o_call cf_law08_Few rfl (law08_Few_c d0 (kArena_mk (d:=d0) (H3.fr (G8.trans (Fr.ext F9)) sI) (H6.fr (G8.trans (Fr.ext F9)) sI)) (hL.fr E10) (fewA_ev d0)) rfl rfl ?_
  rintro _ w15 ⟨F15,rfl⟩
  have E16:=E10.trans F15
  refine o_w (v:=.bool (fewA d0)) (r_mov rfl) ?_
  refine o_vg (v:=.slice AP1 d1.length cP1) (want_ct (t:=21) rfl rfl) (fun hk=>(r_mov rfl)) rfl rfl ?_
  obtain ⟨ha20,h⟩:=h
  refine o_callg (V:=.bool (entriesB d1 (8:Int))) cf_law08_Entries (want_ct (t:=21) rfl rfl) (fun hk=>(mapv2 (gdT (u:=undef) hk) rfl)) (fun hk=>(law08_Entries_c d1 (HP1.fr ((G8.trans (Fr.ext F9)).trans (Fr.ext F15)) sI) (8:Int) (hL.fr E16) (entries_ev d1 (8:Int) (ha20 hk)))) rfl ?_
  intro w19 F19
  have E21:=E16.trans F19
  refine o_w (v:=.bool ((fewA d0)&&(entriesB d1 (8:Int)))) (r_pickAnd rfl (fun ht=>(gdT (u:=undef) ht)) rfl) ?_
  refine o_w (v:=.bool ((fewA d0)&&(entriesB d1 (8:Int)))) (r_asg rfl) ?_
  refine eo_nil_sq ?_
  refine ec_seq ?_
  refine ec_sr ?_
  refine o_w (v:=.bool ((fewA d0)&&(entriesB d1 (8:Int)))) (r_mov rfl) ?_
  refine o_w (v:=.bool (!((fewA d0)&&(entriesB d1 (8:Int))))) (r_not rfl) ?_
  refine eo_nil_sq ?_
  refine ec_cond rfl (fun hc24=>?_) (fun hc24=>?_)
  ·replace h:=h.1 hc24
   refine ec_sr ?_
   refine o_w (v:=.bool (worksV)) (r_mov rfl) ?_
   refine o_w (v:=.bool (worksV)) (r_asg rfl) ?_
   refine eo_nil_sq ?_
   refine ec_ret ?_
   refine sq_ret ?_
   subst h
   exact (end1 rfl ⟨_,rfl,E21,rfl⟩)
  ·replace h:=h.2 hc24
   refine ec_skip ?_
   refine sq_n ?_
   refine ec_sr ?_
   refine o_w (v:=.agg (cArena d0 A1 c2 A4 c5).toArray) (r_lda agg_api_Arena rfl (vs:=(cArena d0 A1 c2 A4 c5)) rfl ((S7.fr ((G12.trans (Fr.ext F15)).trans (Fr.ext F19)) sI).now.part (n:=3) rfl)) ?_
   refine o_w (v:=.slice AP1 d1.length cP1) (r_mov rfl) ?_
   obtain ⟨ha26,h⟩:=h
   obtain ⟨ha27,h⟩:=h
   obtain ⟨ha28,h⟩:=h
   obtain ⟨x25,hx25,h⟩:=h
   refine o_call cf_arena_Merge rfl (arena_Merge_c d0 (kArena_mk (d:=d0) (H3.fr (((G8.trans (Fr.ext F9)).trans (Fr.ext F15)).trans (Fr.ext F19)) sI) (H6.fr (((G8.trans (Fr.ext F9)).trans (Fr.ext F15)).trans (Fr.ext F19)) sI)) d1 (HP1.fr (((G8.trans (Fr.ext F9)).trans (Fr.ext F15)).trans (Fr.ext F19)) sI) (hL.fr E21) (eq_ev hx25 (arMerge_ev d0 d1 ha26 ha27 ha28))) rfl rfl ?_
   rintro _ w25 ⟨F25,cs29,rfl,H30⟩
   have E31:=E21.trans F25
   obtain ⟨A34,c35,A37,c38,rfl,H36,H39⟩:=kArena_open H30
   refine o_w (v:=.tuple #[.agg (cArena x25.1 A34 c35 A37 c38).toArray,.int .i64 x25.2.1,.int .i64 x25.2.2]) (r_mov rfl) ?_
   refine o_w (v:=.agg (cArena x25.1 A34 c35 A37 c38).toArray) (r_ext rfl rfl) ?_
   refine o_w (v:=.int .i64 x25.2.1) (r_ext rfl rfl) ?_
   refine o_w (v:=.int .i64 x25.2.2) (r_ext rfl rfl) ?_
   refine o_alloc zero_api_Arena rfl rfl rfl ?_
   intro b40 w40 e40 F40 B40
   have n40:w.heap.size≤b40:=by rw [e40]; exact E31.size
   have m43:w25.heap.size≤b40:=Nat.le_of_eq e40.symm
   have E44:=E31.trans F40
   have G47:Fr L w25 w40:=Fr.ext F40
   refine o_store rfl B40 (vs:=(cArena x25.1 A34 c35 A37 c38)) rfl sz_api_Arena rfl rfl rfl ?_
   intro w48 F48 B48
   have E49:=Ext.st E44 F48 (by simp; omega)
   have G52:Fr L w25 w48:=G47.stp F48 (upc (.inr m43) (fun m hm=>by cases hm))
   have B48':Blk w48 b40 _ (cArena x25.1 A34 c35 A37 c38):=B48
   refine o_w (v:=.int .i64 x25.2.1) (r_asg rfl) ?_
   refine o_w (v:=.int .i64 x25.2.2) (r_asg rfl) ?_
   refine eo_r ?_
   refine o_w (v:=.pointer (some ⟨b40,0,none⟩)) (r_fa fld_api_Arena_0 rfl rfl) ?_
   refine o_w (v:=.int .i64 x25.1.cap) (r_ld one_int rfl (B48'.cell rfl)) ?_
   refine o_w (v:=.agg #[.int .i64 x25.1.cap,.slice none ([]:List Ent).length 0,.slice none ([]:List Int).length 0]) (r_build bld_api_Arena (vs:=[(0,.int .i64 x25.1.cap)]) (cells:=[.int .i64 x25.1.cap,.slice none ([]:List Ent).length 0,.slice none ([]:List Int).length 0]) rfl rfl) ?_
   refine o_alloc zero_api_Arena rfl rfl rfl ?_
   intro b53 w53 e53 F53 B53
   have n53:w.heap.size≤b53:=by rw [e53]; exact E49.size
   have q54:b40<b53:=by rw [e53]; exact B48'.lt
   have m57:w25.heap.size≤b53:=by rw [e53]; exact G52.size
   have E58:=E49.trans F53
   refine o_store rfl B53 (vs:=[.int .i64 x25.1.cap,.slice none ([]:List Ent).length 0,.slice none ([]:List Int).length 0]) rfl sz_api_Arena rfl rfl rfl ?_
   intro w63 F63 B63
   have E64:=Ext.st E58 F63 (by simp; omega)
   have G67:Fr L w25 w63:=(G52.trans (Fr.ext F53)).stp F63 (upc (.inr m57) (fun m hm=>by cases hm))
   have B68:=(B48'.ex F53).fr F63 (by simp; omega)
   have B63':Blk w63 b53 _ [.int .i64 x25.1.cap,.slice none ([]:List Ent).length 0,.slice none ([]:List Int).length 0]:=B63
   refine eo_r ?_
   refine o_w (v:=.slice none ([]:List Ent).length 0) (r_asg rfl) ?_
   refine eo_nil_sq ?_
   refine ec_seq ?_
   refine ec_sr ?_
   refine o_w (v:=.pointer (some ⟨b40,1,none⟩)) (r_fa fld_api_Arena_1 rfl rfl) ?_
   refine o_w (v:=.slice A34 x25.1.slots.length c35) (r_ld one_s_api_Entry rfl (B68.cell rfl)) ?_
   refine o_w (v:=.int .i64 (x25.1.slots.length:Int)) (r_len_slc un_s_api_Entry rfl) ?_
   refine o_w (v:=.int .i64 (IntKind.i64.wrap ((x25.1.slots.length:Int) - (1:Int)))) (r_int rfl rfl rfl) ?_
   refine o_w (v:=.int .i64 (IntKind.i64.wrap ((x25.1.slots.length:Int) - (1:Int)))) (r_asg rfl) ?_
   refine eo_nil_sq ?_
   refine ec_block ?_
   have lo70:w.heap.size≤w63.heap.size:=E64.size
   have O70:=OwnS.nil (k:=kEnt) (e:=45) (by decide) (((hL.fr E64).cons B68.lt).cons B63'.lt)
   obtain ⟨x69,hl69,h⟩:=h
   refine ec_loopE 0 (I:=(fun (s69:List Ent × Int) ρ ds w'=>∃ (ρ':Env) (v69i1:Value),ρ=envs ρ' [(11,v69i1),(12,.int .i64 s69.2),(5,.bool (worksV)),(7,.pointer (some ⟨b40,0,none⟩)),(10,.pointer (some ⟨b53,0,none⟩))]∧ds=[]∧Fr (own (.slice none 0 0)++(b53::(b40::L))) w63 w'∧Ext w w'∧OwnS kEnt (w63.heap.size) 45 (b53::(b40::L)) w' v69i1 s69.1∧(∀ q∈own v69i1,q∈(own (.slice none 0 0)++(b53::(b40::L)))∨w63.heap.size≤q)∧Blk w' b40 25 (cArena x25.1 A34 c35 A37 c38)∧Blk w' b53 25 [.int .i64 x25.1.cap,.slice none ([]:List Ent).length 0,.slice none ([]:List Int).length 0])) ?_ hl69 ?_ ?_
   ·intro s69 z69 ρ69 ds69 w69r hI69 hb69
    obtain ⟨ρ69r,v69r1,rfl,rfl,F69r,E69r,O69r1,N69r1,B69rb40,B69rb53⟩:=hI69
    have h:=hb69
    unfold law10_DigestAlike_b69 at h
    have G73:Fr L w25 w69r:=G67.stp F69r (upo (fun m hm=>by cases hm) (upc (.inr m57) (upc (.inr m43) (fun _ h=>.inl h))))
    have P76:∀ m∈own v69r1,m∈L∨w25.heap.size≤m:=fun m hm=>(N69r1 m hm).elim (fun h=>(show ∀ m∈(own (.slice none 0 0)++(b53::(b40::L))),m∈L∨w25.heap.size≤m from (upo (fun m hm=>by cases hm) (upc (.inr m57) (upc (.inr m43) (fun _ h=>.inl h))))) m h) (fun h=>.inr (Nat.le_trans (G67.size) h))
    refine ec_seq ?_
    refine ec_sr ?_
    refine o_w (v:=.int .i64 s69.2) (r_mov rfl) ?_
    refine o_w (v:=.bool (decide (0≤s69.2))) (r_int rfl rfl rfl) ?_
    refine eo_nil_sq ?_
    refine ec_cond rfl (fun hc77=>?_) (fun hc77=>?_)
    ·replace h:=h.1 hc77
     refine ec_skip ?_
     refine sq_n ?_
     refine ec_seq ?_
     refine ec_block ?_
     refine ec_region ?_
     refine o_w (v:=v69r1) (r_mov rfl) ?_
     refine o_w (v:=.pointer (some ⟨b40,1,none⟩)) (r_fa fld_api_Arena_1 rfl rfl) ?_
     refine o_w (v:=.slice A34 x25.1.slots.length c35) (r_ld one_s_api_Entry rfl (B69rb40.cell rfl)) ?_
     refine o_w (v:=.int .i64 s69.2) (r_mov rfl) ?_
     obtain ⟨ha78,h⟩:=h
     obtain ⟨cs79,l81,H80⟩:=Stb.elem (by decide) (H36.up G73 sI (upo P76 (upc (.inr m57) (upc (.inr m43) (fun _ h=>.inl h))))) s69.2 ha78.1 ha78.2
     obtain ⟨A83,c84,A86,c87,rfl,H82,H85,H88⟩:=kEnt_open2 H80
     refine o_w (v:=.pointer (some (elemA A34 kEnt.n s69.2.toNat))) (r_ia slc_s_api_Entry rfl rfl ((H36.fr G73 sI).now.2 _ (lt_toNat ha78.1 ha78.2)).1 ha78.1 ha78.2) ?_
     refine o_w (v:=.agg (cEnt (nth x25.1.slots s69.2) A83 c84 A86 c87).toArray) (r_lda' agg_api_Entry rfl (elemA_spot _ _ _) (vs:=(cEnt (nth x25.1.slots s69.2) A83 c84 A86 c87)) rfl (H82.now.1)) ?_
     refine o_bslice slc_s_api_Entry rfl (vs:=[.agg (cEnt (nth x25.1.slots s69.2) A83 c84 A86 c87).toArray]) rfl rfl rfl (cs:=[str ((nth x25.1.slots s69.2).key),.int .i64 (((nth x25.1.slots s69.2).val).kind),.int .i64 (((nth x25.1.slots s69.2).val).time),.int .i64 (((nth x25.1.slots s69.2).val).node),.bool (((nth x25.1.slots s69.2).val).dead),str (((nth x25.1.slots s69.2).val).text),.slice A83 (((nth x25.1.slots s69.2).val).plus).length c84,.slice A86 (((nth x25.1.slots s69.2).val).minus).length c87,.int .u64 (((nth x25.1.slots s69.2).val).flags)]) rfl rfl rfl rfl ?_
     intro b89 w89 e89 F89 B89
     have N89:=nin ((((hL.fr E69r).cons B69rb40.lt).cons B69rb53.lt).own O69r1) e89
     have S89:=B89.stb N89
     have E90:=E69r.trans F89
     have G95:Fr (own v69r1++(b53::(b40::L))) w69r w89:=Fr.ext F89
     obtain ⟨ha100,h⟩:=h
     refine o_app slc_s_api_Entry rfl rfl rfl (O69r1.ex F89) rfl S89.now (ys:=([(nth x25.1.slots s69.2)]:List Ent)) rfl rfl rfl (rowd1 (cs:=(cEnt (nth x25.1.slots s69.2) A83 c84 A86 c87)) (kEnt_mk (d:=(nth x25.1.slots s69.2)) (H85.fr G95 sI) (H88.fr G95 sI)) rfl) ha100 rfl rfl ?_
     intro v99 w99 F99 O99 N99
     have P104:∀ m∈own v99,m∈(own (.slice none 0 0)++(b53::(b40::L)))∨w63.heap.size≤m:=fun m hm=>(N99 m hm).elim (fun h=>(show ∀ m∈own v69r1,m∈(own (.slice none 0 0)++(b53::(b40::L)))∨w63.heap.size≤m from N69r1) m h) (fun h=>.inr (Nat.le_trans ((F69r.trans (Fr.ext F89)).size) h))
     have E107:=Ext.st E90 F99 (fun m hm=>Nat.le_trans lo70 ((O69r1.ex F89).lo m hm))
     have G111:Fr (own (.slice none 0 0)++(b53::(b40::L))) w63 w99:=(F69r.trans (Fr.ext F89)).stp F99 N69r1
     have B114:=(B69rb40.ex F89).fr F99 (fun hm=>((O69r1.ex F89).below b40 (by simp)).2 hm)
     have B115:=(B69rb53.ex F89).fr F99 (fun hm=>((O69r1.ex F89).below b53 (by simp)).2 hm)
     refine o_w (v:=v99) (r_asg rfl) ?_
     refine eo_nil ?_
     refine blk_n ?_
     refine sq_n ?_
     refine ec_region ?_
     refine o_w (v:=.int .i64 s69.2) (r_mov rfl) ?_
     refine o_w (v:=.int .i64 (IntKind.i64.wrap (s69.2 - (1:Int)))) (r_int rfl rfl rfl) ?_
     refine o_w (v:=.int .i64 (IntKind.i64.wrap (s69.2 - (1:Int)))) (r_asg rfl) ?_
     refine eo_nil ?_
     subst h
     exact lq_n ⟨_,v99,envs_self ⟨rfl,rfl,rfl,rfl,rfl,trivial⟩,rfl,G111,E107,O99,P104,B114,B115⟩
    ·replace h:=h.2 hc77
     refine ec_exit ?_
     refine sq_exit ?_
     subst h
     exact lq_x ⟨_,v69r1,envs_self ⟨rfl,rfl,rfl,rfl,rfl,trivial⟩,rfl,F69r,E69r,O69r1,N69r1,B69rb40,B69rb53⟩
   ·exact ⟨_,(.slice none 0 0),envs_self ⟨rfl,rfl,rfl,rfl,rfl,trivial⟩,rfl,(Fr.refl _ _),E64,O70,(fun q hq=>.inl (by first | exact List.mem_append_left _ hq | simp [hq])),B68,B63'⟩
   ·rintro ρ69e ds69e w69e ⟨ρ69e,v69e1,rfl,rfl,F69e,E69e,O69e1,N69e1,B69eb40,B69eb53⟩
    have G118:Fr L w25 w69e:=G67.stp F69e (upo (fun m hm=>by cases hm) (upc (.inr m57) (upc (.inr m43) (fun _ h=>.inl h))))
    refine blk_hit ?_
    refine sq_n ?_
    refine ec_sr ?_
    refine o_w (v:=.agg #[.int .i64 x25.1.cap,.slice none ([]:List Ent).length 0,.slice none ([]:List Int).length 0]) (r_lda agg_api_Arena rfl (vs:=[.int .i64 x25.1.cap,.slice none ([]:List Ent).length 0,.slice none ([]:List Int).length 0]) rfl (B69eb53.part (n:=3) rfl)) ?_
    refine o_w (v:=v69e1) (r_mov rfl) ?_
    obtain ⟨A123,c124,eA123,H125⟩:=O69e1.still
    subst eA123
    have Zw69e_126:=Fr.refl (b53::(b40::L)) w69e
    obtain ⟨ha128,h⟩:=h
    obtain ⟨ha129,h⟩:=h
    obtain ⟨ha130,h⟩:=h
    obtain ⟨x122,hx122,h⟩:=h
    refine o_call cf_arena_Merge rfl (arena_Merge_c (⟨x25.1.cap,([]:List Ent),([]:List Int)⟩:Arena) (kArena_mk (d:=(⟨x25.1.cap,([]:List Ent),([]:List Int)⟩:Arena)) stb_nil stb_nil) x69.1 (H125.fr Zw69e_126 sI) (((hL.fr E69e).cons B69eb40.lt).cons B69eb53.lt) (eq_ev hx122 (arMerge_ev (⟨x25.1.cap,([]:List Ent),([]:List Int)⟩:Arena) x69.1 ha128 ha129 ha130))) rfl rfl ?_
    rintro _ w122 ⟨F122,cs131,rfl,H132⟩
    have E133:=E69e.trans F122
    obtain ⟨A140,c141,A143,c144,rfl,H142,H145⟩:=kArena_open H132
    refine o_w (v:=.tuple #[.agg (cArena x122.1 A140 c141 A143 c144).toArray,.int .i64 x122.2.1,.int .i64 x122.2.2]) (r_mov rfl) ?_
    refine o_w (v:=.agg (cArena x122.1 A140 c141 A143 c144).toArray) (r_ext rfl rfl) ?_
    refine o_w (v:=.int .i64 x122.2.1) (r_ext rfl rfl) ?_
    refine o_w (v:=.int .i64 x122.2.2) (r_ext rfl rfl) ?_
    refine o_alloc zero_api_Arena rfl rfl rfl ?_
    intro b146 w146 e146 F146 B146
    have n146:w.heap.size≤b146:=by rw [e146]; exact E133.size
    have q147:b40<b146:=by rw [e146]; exact (B69eb40.ex F122).lt
    have q148:b53<b146:=by rw [e146]; exact (B69eb53.ex F122).lt
    have m151:w25.heap.size≤b146:=by rw [e146]; exact (G118.trans (Fr.ext F122)).size
    have m153:w122.heap.size≤b146:=Nat.le_of_eq e146.symm
    have E154:=E133.trans F146
    have G159:Fr (b53::(b40::L)) w122 w146:=Fr.ext F146
    refine o_store rfl B146 (vs:=(cArena x122.1 A140 c141 A143 c144)) rfl sz_api_Arena rfl rfl rfl ?_
    intro w162 F162 B162
    have E163:=Ext.st E154 F162 (by simp; omega)
    have G166:Fr L w25 w162:=((G118.trans (Fr.ext F122)).trans (Fr.ext F146)).stp F162 (upc (.inr m151) (fun m hm=>by cases hm))
    have G168:Fr (b53::(b40::L)) w122 w162:=G159.stp F162 (upc (.inr m153) (fun m hm=>by cases hm))
    have B169:=((B69eb40.ex F122).ex F146).fr F162 (by simp; omega)
    have B170:=((B69eb53.ex F122).ex F146).fr F162 (by simp; omega)
    have B162':Blk w162 b146 _ (cArena x122.1 A140 c141 A143 c144):=B162
    refine o_w (v:=.int .i64 x122.2.1) (r_asg rfl) ?_
    refine o_w (v:=.int .i64 x122.2.2) (r_asg rfl) ?_
    refine eo_nil_sq ?_
    refine ec_seq ?_
    refine ec_sr ?_
    refine o_w (v:=.agg (cArena x25.1 A34 c35 A37 c38).toArray) (r_lda agg_api_Arena rfl (vs:=(cArena x25.1 A34 c35 A37 c38)) rfl (B169.part (n:=3) rfl)) ?_
    refine o_w (v:=.agg (cArena x122.1 A140 c141 A143 c144).toArray) (r_lda agg_api_Arena rfl (vs:=(cArena x122.1 A140 c141 A143 c144)) rfl (B162'.part (n:=3) rfl)) ?_
    obtain ⟨ha172,h⟩:=h
    obtain ⟨ha173,h⟩:=h
    refine o_call cf_arena_Alike rfl (arena_Alike_c x25.1 (kArena_mk (d:=x25.1) (H36.up G166 sI (upc (.inr m151) (upc (.inr m57) (upc (.inr m43) (fun _ h=>.inl h))))) (H39.up G166 sI (upc (.inr m151) (upc (.inr m57) (upc (.inr m43) (fun _ h=>.inl h)))))) x122.1 (kArena_mk (d:=x122.1) (H142.up G168 sI (upc (.inr m153) (upc (.inl mH) (upc (.inl (mT mH)) (fun m hm=>Or.inl (mT (mT hm))))))) (H145.up G168 sI (upc (.inr m153) (upc (.inl mH) (upc (.inl (mT mH)) (fun m hm=>Or.inl (mT (mT hm)))))))) ((((hL.fr E163).cons B169.lt).cons B170.lt).cons B162'.lt) (arAlike_ev x25.1 x122.1 ha172 ha173)) rfl rfl ?_
    rintro _ w171 ⟨F171,rfl⟩
    have E174:=E163.trans F171
    refine o_w (v:=.bool (!(alikeA x25.1 x122.1))) (r_not rfl) ?_
    refine eo_nil_sq ?_
    refine ec_cond rfl (fun hc183=>?_) (fun hc183=>?_)
    ·replace h:=h.1 hc183
     refine ec_sr ?_
     iterate 2 refine o_w (v:=.bool (worksV)) (r_mov rfl) ?_
     refine o_v (v:=.agg (cArena x25.1 A34 c35 A37 c38).toArray) (r_lda agg_api_Arena rfl (vs:=(cArena x25.1 A34 c35 A37 c38)) rfl ((B169.ex F171).part (n:=3) rfl)) (want_t (t:=66) rfl rfl (of_not hc13)) rfl rfl ?_
     obtain ⟨ha185,h⟩:=h
     refine o_call cf_arena_Check rfl (arena_Check_c x25.1 (kArena_mk (d:=x25.1) (H36.up (G166.trans (Fr.ext F171)) sI (upc (.inr m151) (upc (.inr m57) (upc (.inr m43) (fun _ h=>.inl h))))) (H39.up (G166.trans (Fr.ext F171)) sI (upc (.inr m151) (upc (.inr m57) (upc (.inr m43) (fun _ h=>.inl h)))))) ((((hL.fr E174).cons (B169.ex F171).lt).cons (B170.ex F171).lt).cons (B162'.ex F171).lt) (arCheck_ev x25.1 ha185)) (want_t (t:=66) rfl rfl (of_not hc13)) rfl ?_
     rintro _ w184 ⟨F184,rfl⟩
     have E186:=E174.trans F184
     refine o_v (v:=.bool ((checkA x25.1) != (0:Int))) (r_int rfl rfl rfl) (want_t (t:=66) rfl rfl (of_not hc13)) rfl rfl ?_
     refine o_w (v:=.bool ((checkA x25.1) != (0:Int))) (r_pickT rfl (of_not hc13) rfl) ?_
     refine o_w (v:=.bool ((checkA x25.1) != (0:Int))) (r_asg rfl) ?_
     refine eo_nil_sq ?_
     refine ec_ret ?_
     refine sq_ret ?_
     subst h
     exact (end1 rfl ⟨_,rfl,E186,rfl⟩)
    ·replace h:=h.2 hc183
     refine ec_skip ?_
     refine sq_n ?_
     refine ec_seq ?_
     rcases Bool.eq_false_or_eq_true (((nth (sumsD x25.1) 0)==(nth (sumsD x122.1) 0))&&(((nth (sumsD x25.1) 1)==(nth (sumsD x122.1) 1))&&(((nth (sumsD x25.1) 2)==(nth (sumsD x122.1) 2))&&(((nth (sumsD x25.1) 3)==(nth (sumsD x122.1) 3))&&true)))) with hc195 | hc195
     ·replace h:=h.1 hc195
      obtain ⟨ha198,h⟩:=h
      obtain ⟨x197,hx197,h⟩:=h
      obtain ⟨ha199,h⟩:=h
      obtain ⟨ha201,h⟩:=h
      obtain ⟨x200,hx200,h⟩:=h
      obtain ⟨ha202,h⟩:=h
      obtain ⟨ha204,h⟩:=h
      obtain ⟨x203,hx203,h⟩:=h
      obtain ⟨ha205,h⟩:=h
      obtain ⟨ha207,h⟩:=h
      obtain ⟨x206,hx206,h⟩:=h
      obtain ⟨ha208,h⟩:=h
      refine ec_any0 (by kernel_rfl) [[],[0],[0,1],[0,1,2],[0,1],[0,1,2,3,4],[0,1,2,3,4,5],[0,1,2,3,4,5,6],[0,1,2,3,4,5,6,7],[0,1,2,3,4,5,6,7,8],[0,1,2,3,4,5,6,7,8,9],[0,1,2,3,4,5,6,7,8],[0,1,2,3,4,5,6,7,8,9,10,11],[0,1,2,3,4,5,6,7,8,9,10,11,12],[0,1,2,3,4,5,6,7,8,9,10,11,12,13],[0,1,2,3,4,5,6,7,8,9,10,11,12,13,14],[0,1,2,3,4,5,6,7,8,9,10,11,12,13,14,15]] [4,71,72,73,74,75,76,77,78,79,80,81,82,83,84,85,86] [fun v _=>v=(.bool (worksV):Value),fun v _=>v=(.bool (worksV):Value),fun v _=>v=(.agg (cArena x25.1 A34 c35 A37 c38).toArray:Value),fun v _=>v=(.agg #[.int .i64 (nth x197 0),.int .i64 (nth x197 1),.int .i64 (nth x197 2),.int .i64 (nth x197 3)]:Value),fun v _=>v=(.agg (cArena x122.1 A140 c141 A143 c144).toArray:Value),fun v _=>v=(.agg #[.int .i64 (nth x200 0),.int .i64 (nth x200 1),.int .i64 (nth x200 2),.int .i64 (nth x200 3)]:Value),fun v _=>v=(.bool (((nth x197 0)==(nth x200 0))&&(((nth x197 1)==(nth x200 1))&&(((nth x197 2)==(nth x200 2))&&(((nth x197 3)==(nth x200 3))&&true)))):Value),fun v _=>v=(.bool (((nth x197 0)==(nth x200 0))&&(((nth x197 1)==(nth x200 1))&&(((nth x197 2)==(nth x200 2))&&(((nth x197 3)==(nth x200 3))&&true)))):Value),fun v _=>v=(.bool (((nth x197 0)==(nth x200 0))&&(((nth x197 1)==(nth x200 1))&&(((nth x197 2)==(nth x200 2))&&(((nth x197 3)==(nth x200 3))&&true)))):Value),fun v _=>v=(.agg (cArena x25.1 A34 c35 A37 c38).toArray:Value),fun v _=>v=(.agg #[.int .i64 (nth x203 0),.int .i64 (nth x203 1),.int .i64 (nth x203 2),.int .i64 (nth x203 3)]:Value),fun v _=>v=(.agg (cArena x122.1 A140 c141 A143 c144).toArray:Value),fun v _=>v=(.agg #[.int .i64 (nth x206 0),.int .i64 (nth x206 1),.int .i64 (nth x206 2),.int .i64 (nth x206 3)]:Value),fun v _=>v=(.int .i64 (differD x203 x206):Value),fun v _=>v=(.bool ((differD x203 x206)==0):Value),fun v _=>v=(.bool ((differD x203 x206)==0):Value),fun v _=>v=(.bool ((differD x203 x206)==0):Value)] (by kernel_rfl) ⟨fun _ _ _ _ _ h=>h,fun _ _ _ _ _ h=>h,fun _ _ _ _ _ h=>h,fun _ _ _ _ _ h=>h,fun _ _ _ _ _ h=>h,fun _ _ _ _ _ h=>h,fun _ _ _ _ _ h=>h,fun _ _ _ _ _ h=>h,fun _ _ _ _ _ h=>h,fun _ _ _ _ _ h=>h,fun _ _ _ _ _ h=>h,fun _ _ _ _ _ h=>h,fun _ _ _ _ _ h=>h,fun _ _ _ _ _ h=>h,fun _ _ _ _ _ h=>h,fun _ _ _ _ _ h=>h,fun _ _ _ _ _ h=>h,trivial⟩ ?_ ?_
      ·refine ⟨?_,?_,?_,?_,?_,?_,?_,?_,?_,?_,?_,?_,?_,?_,?_,?_,?_,trivial⟩
       ·intro ρ w196o F196o hS hρ
        have q5:ρ 5=.bool (worksV):=hρ 5 (by kernel_rfl)
        exact o_q (r_mov q5) ⟨Fr.refl _ _,rfl⟩
       ·intro ρ w196o F196o hS hρ
        have q71:ρ 71=.bool (worksV):=hS 0 (by decide) 71 rfl
        exact o_q (r_mov q71) ⟨Fr.refl _ _,rfl⟩
       ·intro ρ w196o F196o hS hρ
        have q7:ρ 7=.pointer (some ⟨b40,0,none⟩):=hρ 7 (by kernel_rfl)
        have q72:ρ 72=.bool (worksV):=hS 1 (by decide) 72 rfl
        exact o_v (r_lda agg_api_Arena q7 (vs:=(cArena x25.1 A34 c35 A37 c38)) rfl (((B169.ex F171).ex F196o).part (n:=3) rfl)) (want_t (t:=72) rfl q72 (of_not hc13)) rfl rfl (eo_nil ⟨rfl,rfl,_,rfl,Fr.refl _ _,rfl⟩)
       ·intro ρ w196o F196o hS hρ
        have E219:=E174.trans F196o
        have q72:ρ 72=.bool (worksV):=hS 1 (by decide) 72 rfl
        have q73:ρ 73=.agg (cArena x25.1 A34 c35 A37 c38).toArray:=hS 2 (by decide) 73 rfl
        refine o_call cf_digest_Sums (by simp only [List.map,ev,q73] <;> rfl) (digest_Sums_c x25.1 (kArena_mk (d:=x25.1) (H36.up ((G166.trans (Fr.ext F171)).trans (Fr.ext F196o)) sI (upc (.inr m151) (upc (.inr m57) (upc (.inr m43) (fun _ h=>.inl h))))) (H39.up ((G166.trans (Fr.ext F171)).trans (Fr.ext F196o)) sI (upc (.inr m151) (upc (.inr m57) (upc (.inr m43) (fun _ h=>.inl h)))))) ((((hL.fr E219).cons ((B169.ex F171).ex F196o).lt).cons ((B170.ex F171).ex F196o).lt).cons ((B162'.ex F171).ex F196o).lt) (eq_ev hx197 (digSums_ev x25.1 ha198))) (want_t (t:=72) rfl q72 (of_not hc13)) rfl ?_
        rintro _ w' ⟨F,rfl,_⟩
        exact eo_nil ⟨rfl,rfl,_,rfl,F,rfl⟩
       ·intro ρ w196o F196o hS hρ
        have q13:ρ 13=.pointer (some ⟨b146,0,none⟩):=hρ 13 (by kernel_rfl)
        have q72:ρ 72=.bool (worksV):=hS 1 (by decide) 72 rfl
        exact o_v (r_lda agg_api_Arena q13 (vs:=(cArena x122.1 A140 c141 A143 c144)) rfl (((B162'.ex F171).ex F196o).part (n:=3) rfl)) (want_t (t:=72) rfl q72 (of_not hc13)) rfl rfl (eo_nil ⟨rfl,rfl,_,rfl,Fr.refl _ _,rfl⟩)
       ·intro ρ w196o F196o hS hρ
        have E237:=E174.trans F196o
        have q72:ρ 72=.bool (worksV):=hS 1 (by decide) 72 rfl
        have q75:ρ 75=.agg (cArena x122.1 A140 c141 A143 c144).toArray:=hS 4 (by decide) 75 rfl
        refine o_call cf_digest_Sums (by simp only [List.map,ev,q75] <;> rfl) (digest_Sums_c x122.1 (kArena_mk (d:=x122.1) (H142.up ((G168.trans (Fr.ext F171)).trans (Fr.ext F196o)) sI (upc (.inr m153) (upc (.inl mH) (upc (.inl (mT mH)) (fun m hm=>Or.inl (mT (mT hm))))))) (H145.up ((G168.trans (Fr.ext F171)).trans (Fr.ext F196o)) sI (upc (.inr m153) (upc (.inl mH) (upc (.inl (mT mH)) (fun m hm=>Or.inl (mT (mT hm)))))))) ((((hL.fr E237).cons ((B169.ex F171).ex F196o).lt).cons ((B170.ex F171).ex F196o).lt).cons ((B162'.ex F171).ex F196o).lt) (eq_ev hx200 (digSums_ev x122.1 ha201))) (want_t (t:=72) rfl q72 (of_not hc13)) rfl ?_
        rintro _ w' ⟨F,rfl,_⟩
        exact eo_nil ⟨rfl,rfl,_,rfl,F,rfl⟩
       ·intro ρ w196o F196o hS hρ
        have q72:ρ 72=.bool (worksV):=hS 1 (by decide) 72 rfl
        have q74:ρ 74=.agg #[.int .i64 (nth x197 0),.int .i64 (nth x197 1),.int .i64 (nth x197 2),.int .i64 (nth x197 3)]:=hS 3 (by decide) 74 rfl
        have q76:ρ 76=.agg #[.int .i64 (nth x200 0),.int .i64 (nth x200 1),.int .i64 (nth x200 2),.int .i64 (nth x200 3)]:=hS 5 (by decide) 76 rfl
        exact o_v (r_eqSt eqg_4_int (eqs_4_int (nth x197 0) (nth x197 1) (nth x197 2) (nth x197 3) (nth x200 0) (nth x200 1) (nth x200 2) (nth x200 3)) q74 q76) (want_t (t:=72) rfl q72 (of_not hc13)) rfl rfl (eo_nil ⟨rfl,rfl,_,rfl,Fr.refl _ _,rfl⟩)
       ·intro ρ w196o F196o hS hρ
        have q72:ρ 72=.bool (worksV):=hS 1 (by decide) 72 rfl
        have q77:ρ 77=.bool (((nth x197 0)==(nth x200 0))&&(((nth x197 1)==(nth x200 1))&&(((nth x197 2)==(nth x200 2))&&(((nth x197 3)==(nth x200 3))&&true)))):=hS 6 (by decide) 77 rfl
        exact o_q (r_pickT q72 (of_not hc13) q77) ⟨Fr.refl _ _,rfl⟩
       ·intro ρ w196o F196o hS hρ
        have q78:ρ 78=.bool (((nth x197 0)==(nth x200 0))&&(((nth x197 1)==(nth x200 1))&&(((nth x197 2)==(nth x200 2))&&(((nth x197 3)==(nth x200 3))&&true)))):=hS 7 (by decide) 78 rfl
        exact o_q (r_mov q78) ⟨Fr.refl _ _,rfl⟩
       ·intro ρ w196o F196o hS hρ
        have q7:ρ 7=.pointer (some ⟨b40,0,none⟩):=hρ 7 (by kernel_rfl)
        have q79:ρ 79=.bool (((nth x197 0)==(nth x200 0))&&(((nth x197 1)==(nth x200 1))&&(((nth x197 2)==(nth x200 2))&&(((nth x197 3)==(nth x200 3))&&true)))):=hS 8 (by decide) 79 rfl
        exact o_v (r_lda agg_api_Arena q7 (vs:=(cArena x25.1 A34 c35 A37 c38)) rfl (((B169.ex F171).ex F196o).part (n:=3) rfl)) (want_t (t:=79) rfl q79 (by rw [hx200]; exact (by rw [hx197]; exact hc195))) rfl rfl (eo_nil ⟨rfl,rfl,_,rfl,Fr.refl _ _,rfl⟩)
       ·intro ρ w196o F196o hS hρ
        have E255:=E174.trans F196o
        have q79:ρ 79=.bool (((nth x197 0)==(nth x200 0))&&(((nth x197 1)==(nth x200 1))&&(((nth x197 2)==(nth x200 2))&&(((nth x197 3)==(nth x200 3))&&true)))):=hS 8 (by decide) 79 rfl
        have q80:ρ 80=.agg (cArena x25.1 A34 c35 A37 c38).toArray:=hS 9 (by decide) 80 rfl
        refine o_call cf_digest_Sums (by simp only [List.map,ev,q80] <;> rfl) (digest_Sums_c x25.1 (kArena_mk (d:=x25.1) (H36.up ((G166.trans (Fr.ext F171)).trans (Fr.ext F196o)) sI (upc (.inr m151) (upc (.inr m57) (upc (.inr m43) (fun _ h=>.inl h))))) (H39.up ((G166.trans (Fr.ext F171)).trans (Fr.ext F196o)) sI (upc (.inr m151) (upc (.inr m57) (upc (.inr m43) (fun _ h=>.inl h)))))) ((((hL.fr E255).cons ((B169.ex F171).ex F196o).lt).cons ((B170.ex F171).ex F196o).lt).cons ((B162'.ex F171).ex F196o).lt) (eq_ev hx203 (digSums_ev x25.1 ha204))) (want_t (t:=79) rfl q79 (by rw [hx200]; exact (by rw [hx197]; exact hc195))) rfl ?_
        rintro _ w' ⟨F,rfl,_⟩
        exact eo_nil ⟨rfl,rfl,_,rfl,F,rfl⟩
       ·intro ρ w196o F196o hS hρ
        have q13:ρ 13=.pointer (some ⟨b146,0,none⟩):=hρ 13 (by kernel_rfl)
        have q79:ρ 79=.bool (((nth x197 0)==(nth x200 0))&&(((nth x197 1)==(nth x200 1))&&(((nth x197 2)==(nth x200 2))&&(((nth x197 3)==(nth x200 3))&&true)))):=hS 8 (by decide) 79 rfl
        exact o_v (r_lda agg_api_Arena q13 (vs:=(cArena x122.1 A140 c141 A143 c144)) rfl (((B162'.ex F171).ex F196o).part (n:=3) rfl)) (want_t (t:=79) rfl q79 (by rw [hx200]; exact (by rw [hx197]; exact hc195))) rfl rfl (eo_nil ⟨rfl,rfl,_,rfl,Fr.refl _ _,rfl⟩)
       ·intro ρ w196o F196o hS hρ
        have E273:=E174.trans F196o
        have q79:ρ 79=.bool (((nth x197 0)==(nth x200 0))&&(((nth x197 1)==(nth x200 1))&&(((nth x197 2)==(nth x200 2))&&(((nth x197 3)==(nth x200 3))&&true)))):=hS 8 (by decide) 79 rfl
        have q82:ρ 82=.agg (cArena x122.1 A140 c141 A143 c144).toArray:=hS 11 (by decide) 82 rfl
        refine o_call cf_digest_Sums (by simp only [List.map,ev,q82] <;> rfl) (digest_Sums_c x122.1 (kArena_mk (d:=x122.1) (H142.up ((G168.trans (Fr.ext F171)).trans (Fr.ext F196o)) sI (upc (.inr m153) (upc (.inl mH) (upc (.inl (mT mH)) (fun m hm=>Or.inl (mT (mT hm))))))) (H145.up ((G168.trans (Fr.ext F171)).trans (Fr.ext F196o)) sI (upc (.inr m153) (upc (.inl mH) (upc (.inl (mT mH)) (fun m hm=>Or.inl (mT (mT hm)))))))) ((((hL.fr E273).cons ((B169.ex F171).ex F196o).lt).cons ((B170.ex F171).ex F196o).lt).cons ((B162'.ex F171).ex F196o).lt) (eq_ev hx206 (digSums_ev x122.1 ha207))) (want_t (t:=79) rfl q79 (by rw [hx200]; exact (by rw [hx197]; exact hc195))) rfl ?_
        rintro _ w' ⟨F,rfl,_⟩
        exact eo_nil ⟨rfl,rfl,_,rfl,F,rfl⟩
       ·intro ρ w196o F196o hS hρ
        have E282:=E174.trans F196o
        have q79:ρ 79=.bool (((nth x197 0)==(nth x200 0))&&(((nth x197 1)==(nth x200 1))&&(((nth x197 2)==(nth x200 2))&&(((nth x197 3)==(nth x200 3))&&true)))):=hS 8 (by decide) 79 rfl
        have q81:ρ 81=.agg #[.int .i64 (nth x203 0),.int .i64 (nth x203 1),.int .i64 (nth x203 2),.int .i64 (nth x203 3)]:=hS 10 (by decide) 81 rfl
        have q83:ρ 83=.agg #[.int .i64 (nth x206 0),.int .i64 (nth x206 1),.int .i64 (nth x206 2),.int .i64 (nth x206 3)]:=hS 12 (by decide) 83 rfl
        refine o_call cf_digest_Differ (by simp only [List.map,ev,q81,q83] <;> rfl) (digest_Differ_c x203 ha205 x206 ha208 ((((hL.fr E282).cons ((B169.ex F171).ex F196o).lt).cons ((B170.ex F171).ex F196o).lt).cons ((B162'.ex F171).ex F196o).lt) (digDiffer_ev x203 x206)) (want_t (t:=79) rfl q79 (by rw [hx200]; exact (by rw [hx197]; exact hc195))) rfl ?_
        rintro _ w' ⟨F,rfl⟩
        exact eo_nil ⟨rfl,rfl,_,rfl,F,rfl⟩
       ·intro ρ w196o F196o hS hρ
        have q79:ρ 79=.bool (((nth x197 0)==(nth x200 0))&&(((nth x197 1)==(nth x200 1))&&(((nth x197 2)==(nth x200 2))&&(((nth x197 3)==(nth x200 3))&&true)))):=hS 8 (by decide) 79 rfl
        have q84:ρ 84=.int .i64 (differD x203 x206):=hS 13 (by decide) 84 rfl
        exact o_v (r_int q84 rfl rfl) (want_t (t:=79) rfl q79 (by rw [hx200]; exact (by rw [hx197]; exact hc195))) rfl rfl (eo_nil ⟨rfl,rfl,_,rfl,Fr.refl _ _,rfl⟩)
       ·intro ρ w196o F196o hS hρ
        have q79:ρ 79=.bool (((nth x197 0)==(nth x200 0))&&(((nth x197 1)==(nth x200 1))&&(((nth x197 2)==(nth x200 2))&&(((nth x197 3)==(nth x200 3))&&true)))):=hS 8 (by decide) 79 rfl
        have q85:ρ 85=.bool ((differD x203 x206)==0):=hS 14 (by decide) 85 rfl
        exact o_q (r_pickT q79 (by rw [hx200]; exact (by rw [hx197]; exact hc195)) q85) ⟨Fr.refl _ _,rfl⟩
       ·intro ρ w196o F196o hS hρ
        have q86:ρ 86=.bool ((differD x203 x206)==0):=hS 15 (by decide) 86 rfl
        exact o_q (r_asg q86) ⟨Fr.refl _ _,rfl⟩
      ·intro ρ w196 F196 hS hρ
       have q4:ρ 4=.bool ((differD x203 x206)==0):=hS 16 4 rfl
       obtain ⟨ρ',rfl⟩:∃ ρ',ρ=envs (ovr [4,71,72,73,74,75,76,77,78,79,80,81,82,83,84,85,86] ρ' _) [(4,.bool ((differD x203 x206)==0))]:=⟨ρ,ovr_self hρ ⟨q4,trivial⟩⟩
       have E291:=E174.trans F196
       refine sq_n ?_
       refine ec_ret ?_
       subst h
       exact (end1 rfl ⟨_,rfl,E291,rfl⟩)
     ·replace h:=h.2 hc195
      obtain ⟨ha302,h⟩:=h
      obtain ⟨x301,hx301,h⟩:=h
      obtain ⟨ha303,h⟩:=h
      obtain ⟨ha305,h⟩:=h
      obtain ⟨x304,hx304,h⟩:=h
      obtain ⟨ha306,h⟩:=h
      refine ec_any0 (by kernel_rfl) [[],[0],[0,1],[0,1,2],[0,1],[0,1,2,3,4],[0,1,2,3,4,5],[0,1,2,3,4,5,6],[0,1,2,3,4,5,6,7],[0,1,2,3,4,5,6,7,8],[0,1,2,3,4,5,6,7,8,9],[0,1,2,3,4,5,6,7,8],[0,1,2,3,4,5,6,7,8,9,10,11],[0,1,2,3,4,5,6,7,8,9,10,11,12],[0,1,2,3,4,5,6,7,8,9,10,11,12,13],[0,1,2,3,4,5,6,7,8,9,10,11,12,13,14],[0,1,2,3,4,5,6,7,8,9,10,11,12,13,14,15]] [4,71,72,73,74,75,76,77,78,79,80,81,82,83,84,85,86] [fun v _=>v=(.bool (worksV):Value),fun v _=>v=(.bool (worksV):Value),fun v _=>v=(.agg (cArena x25.1 A34 c35 A37 c38).toArray:Value),fun v _=>v=(.agg #[.int .i64 (nth x301 0),.int .i64 (nth x301 1),.int .i64 (nth x301 2),.int .i64 (nth x301 3)]:Value),fun v _=>v=(.agg (cArena x122.1 A140 c141 A143 c144).toArray:Value),fun v _=>v=(.agg #[.int .i64 (nth x304 0),.int .i64 (nth x304 1),.int .i64 (nth x304 2),.int .i64 (nth x304 3)]:Value),fun v _=>v=(.bool (((nth x301 0)==(nth x304 0))&&(((nth x301 1)==(nth x304 1))&&(((nth x301 2)==(nth x304 2))&&(((nth x301 3)==(nth x304 3))&&true)))):Value),fun v _=>v=(.bool (((nth x301 0)==(nth x304 0))&&(((nth x301 1)==(nth x304 1))&&(((nth x301 2)==(nth x304 2))&&(((nth x301 3)==(nth x304 3))&&true)))):Value),fun v _=>v=(.bool (((nth x301 0)==(nth x304 0))&&(((nth x301 1)==(nth x304 1))&&(((nth x301 2)==(nth x304 2))&&(((nth x301 3)==(nth x304 3))&&true)))):Value),fun v _=>v=((undef:Value):Value),fun v _=>v=((undef:Value):Value),fun v _=>v=((undef:Value):Value),fun v _=>v=((undef:Value):Value),fun v _=>v=((undef:Value):Value),fun v _=>v=((undef:Value):Value),fun v _=>v=(.bool false:Value),fun v _=>v=(.bool false:Value)] (by kernel_rfl) ⟨fun _ _ _ _ _ h=>h,fun _ _ _ _ _ h=>h,fun _ _ _ _ _ h=>h,fun _ _ _ _ _ h=>h,fun _ _ _ _ _ h=>h,fun _ _ _ _ _ h=>h,fun _ _ _ _ _ h=>h,fun _ _ _ _ _ h=>h,fun _ _ _ _ _ h=>h,fun _ _ _ _ _ h=>h,fun _ _ _ _ _ h=>h,fun _ _ _ _ _ h=>h,fun _ _ _ _ _ h=>h,fun _ _ _ _ _ h=>h,fun _ _ _ _ _ h=>h,fun _ _ _ _ _ h=>h,fun _ _ _ _ _ h=>h,trivial⟩ ?_ ?_
      ·refine ⟨?_,?_,?_,?_,?_,?_,?_,?_,?_,?_,?_,?_,?_,?_,?_,?_,?_,trivial⟩
       ·intro ρ w300o F300o hS hρ
        have q5:ρ 5=.bool (worksV):=hρ 5 (by kernel_rfl)
        exact o_q (r_mov q5) ⟨Fr.refl _ _,rfl⟩
       ·intro ρ w300o F300o hS hρ
        have q71:ρ 71=.bool (worksV):=hS 0 (by decide) 71 rfl
        exact o_q (r_mov q71) ⟨Fr.refl _ _,rfl⟩
       ·intro ρ w300o F300o hS hρ
        have q7:ρ 7=.pointer (some ⟨b40,0,none⟩):=hρ 7 (by kernel_rfl)
        have q72:ρ 72=.bool (worksV):=hS 1 (by decide) 72 rfl
        exact o_v (r_lda agg_api_Arena q7 (vs:=(cArena x25.1 A34 c35 A37 c38)) rfl (((B169.ex F171).ex F300o).part (n:=3) rfl)) (want_t (t:=72) rfl q72 (of_not hc13)) rfl rfl (eo_nil ⟨rfl,rfl,_,rfl,Fr.refl _ _,rfl⟩)
       ·intro ρ w300o F300o hS hρ
        have E316:=E174.trans F300o
        have q72:ρ 72=.bool (worksV):=hS 1 (by decide) 72 rfl
        have q73:ρ 73=.agg (cArena x25.1 A34 c35 A37 c38).toArray:=hS 2 (by decide) 73 rfl
        refine o_call cf_digest_Sums (by simp only [List.map,ev,q73] <;> rfl) (digest_Sums_c x25.1 (kArena_mk (d:=x25.1) (H36.up ((G166.trans (Fr.ext F171)).trans (Fr.ext F300o)) sI (upc (.inr m151) (upc (.inr m57) (upc (.inr m43) (fun _ h=>.inl h))))) (H39.up ((G166.trans (Fr.ext F171)).trans (Fr.ext F300o)) sI (upc (.inr m151) (upc (.inr m57) (upc (.inr m43) (fun _ h=>.inl h)))))) ((((hL.fr E316).cons ((B169.ex F171).ex F300o).lt).cons ((B170.ex F171).ex F300o).lt).cons ((B162'.ex F171).ex F300o).lt) (eq_ev hx301 (digSums_ev x25.1 ha302))) (want_t (t:=72) rfl q72 (of_not hc13)) rfl ?_
        rintro _ w' ⟨F,rfl,_⟩
        exact eo_nil ⟨rfl,rfl,_,rfl,F,rfl⟩
       ·intro ρ w300o F300o hS hρ
        have q13:ρ 13=.pointer (some ⟨b146,0,none⟩):=hρ 13 (by kernel_rfl)
        have q72:ρ 72=.bool (worksV):=hS 1 (by decide) 72 rfl
        exact o_v (r_lda agg_api_Arena q13 (vs:=(cArena x122.1 A140 c141 A143 c144)) rfl (((B162'.ex F171).ex F300o).part (n:=3) rfl)) (want_t (t:=72) rfl q72 (of_not hc13)) rfl rfl (eo_nil ⟨rfl,rfl,_,rfl,Fr.refl _ _,rfl⟩)
       ·intro ρ w300o F300o hS hρ
        have E334:=E174.trans F300o
        have q72:ρ 72=.bool (worksV):=hS 1 (by decide) 72 rfl
        have q75:ρ 75=.agg (cArena x122.1 A140 c141 A143 c144).toArray:=hS 4 (by decide) 75 rfl
        refine o_call cf_digest_Sums (by simp only [List.map,ev,q75] <;> rfl) (digest_Sums_c x122.1 (kArena_mk (d:=x122.1) (H142.up ((G168.trans (Fr.ext F171)).trans (Fr.ext F300o)) sI (upc (.inr m153) (upc (.inl mH) (upc (.inl (mT mH)) (fun m hm=>Or.inl (mT (mT hm))))))) (H145.up ((G168.trans (Fr.ext F171)).trans (Fr.ext F300o)) sI (upc (.inr m153) (upc (.inl mH) (upc (.inl (mT mH)) (fun m hm=>Or.inl (mT (mT hm)))))))) ((((hL.fr E334).cons ((B169.ex F171).ex F300o).lt).cons ((B170.ex F171).ex F300o).lt).cons ((B162'.ex F171).ex F300o).lt) (eq_ev hx304 (digSums_ev x122.1 ha305))) (want_t (t:=72) rfl q72 (of_not hc13)) rfl ?_
        rintro _ w' ⟨F,rfl,_⟩
        exact eo_nil ⟨rfl,rfl,_,rfl,F,rfl⟩
       ·intro ρ w300o F300o hS hρ
        have q72:ρ 72=.bool (worksV):=hS 1 (by decide) 72 rfl
        have q74:ρ 74=.agg #[.int .i64 (nth x301 0),.int .i64 (nth x301 1),.int .i64 (nth x301 2),.int .i64 (nth x301 3)]:=hS 3 (by decide) 74 rfl
        have q76:ρ 76=.agg #[.int .i64 (nth x304 0),.int .i64 (nth x304 1),.int .i64 (nth x304 2),.int .i64 (nth x304 3)]:=hS 5 (by decide) 76 rfl
        exact o_v (r_eqSt eqg_4_int (eqs_4_int (nth x301 0) (nth x301 1) (nth x301 2) (nth x301 3) (nth x304 0) (nth x304 1) (nth x304 2) (nth x304 3)) q74 q76) (want_t (t:=72) rfl q72 (of_not hc13)) rfl rfl (eo_nil ⟨rfl,rfl,_,rfl,Fr.refl _ _,rfl⟩)
       ·intro ρ w300o F300o hS hρ
        have q72:ρ 72=.bool (worksV):=hS 1 (by decide) 72 rfl
        have q77:ρ 77=.bool (((nth x301 0)==(nth x304 0))&&(((nth x301 1)==(nth x304 1))&&(((nth x301 2)==(nth x304 2))&&(((nth x301 3)==(nth x304 3))&&true)))):=hS 6 (by decide) 77 rfl
        exact o_q (r_pickT q72 (of_not hc13) q77) ⟨Fr.refl _ _,rfl⟩
       ·intro ρ w300o F300o hS hρ
        have q78:ρ 78=.bool (((nth x301 0)==(nth x304 0))&&(((nth x301 1)==(nth x304 1))&&(((nth x301 2)==(nth x304 2))&&(((nth x301 3)==(nth x304 3))&&true)))):=hS 7 (by decide) 78 rfl
        exact o_q (r_mov q78) ⟨Fr.refl _ _,rfl⟩
       ·intro ρ w300o F300o hS hρ
        have q79:ρ 79=.bool (((nth x301 0)==(nth x304 0))&&(((nth x301 1)==(nth x304 1))&&(((nth x301 2)==(nth x304 2))&&(((nth x301 3)==(nth x304 3))&&true)))):=hS 8 (by decide) 79 rfl
        exact o_no (want_f (t:=79) rfl q79 (by rw [hx304]; exact (by rw [hx301]; exact hc195))) rfl (eo_nil ⟨rfl,rfl,undef,rfl,Fr.refl _ _,rfl⟩)
       ·intro ρ w300o F300o hS hρ
        have q79:ρ 79=.bool (((nth x301 0)==(nth x304 0))&&(((nth x301 1)==(nth x304 1))&&(((nth x301 2)==(nth x304 2))&&(((nth x301 3)==(nth x304 3))&&true)))):=hS 8 (by decide) 79 rfl
        exact o_no (want_f (t:=79) rfl q79 (by rw [hx304]; exact (by rw [hx301]; exact hc195))) rfl (eo_nil ⟨rfl,rfl,undef,rfl,Fr.refl _ _,rfl⟩)
       ·intro ρ w300o F300o hS hρ
        have q79:ρ 79=.bool (((nth x301 0)==(nth x304 0))&&(((nth x301 1)==(nth x304 1))&&(((nth x301 2)==(nth x304 2))&&(((nth x301 3)==(nth x304 3))&&true)))):=hS 8 (by decide) 79 rfl
        exact o_no (want_f (t:=79) rfl q79 (by rw [hx304]; exact (by rw [hx301]; exact hc195))) rfl (eo_nil ⟨rfl,rfl,undef,rfl,Fr.refl _ _,rfl⟩)
       ·intro ρ w300o F300o hS hρ
        have q79:ρ 79=.bool (((nth x301 0)==(nth x304 0))&&(((nth x301 1)==(nth x304 1))&&(((nth x301 2)==(nth x304 2))&&(((nth x301 3)==(nth x304 3))&&true)))):=hS 8 (by decide) 79 rfl
        exact o_no (want_f (t:=79) rfl q79 (by rw [hx304]; exact (by rw [hx301]; exact hc195))) rfl (eo_nil ⟨rfl,rfl,undef,rfl,Fr.refl _ _,rfl⟩)
       ·intro ρ w300o F300o hS hρ
        have q79:ρ 79=.bool (((nth x301 0)==(nth x304 0))&&(((nth x301 1)==(nth x304 1))&&(((nth x301 2)==(nth x304 2))&&(((nth x301 3)==(nth x304 3))&&true)))):=hS 8 (by decide) 79 rfl
        exact o_no (want_f (t:=79) rfl q79 (by rw [hx304]; exact (by rw [hx301]; exact hc195))) rfl (eo_nil ⟨rfl,rfl,undef,rfl,Fr.refl _ _,rfl⟩)
       ·intro ρ w300o F300o hS hρ
        have q79:ρ 79=.bool (((nth x301 0)==(nth x304 0))&&(((nth x301 1)==(nth x304 1))&&(((nth x301 2)==(nth x304 2))&&(((nth x301 3)==(nth x304 3))&&true)))):=hS 8 (by decide) 79 rfl
        exact o_no (want_f (t:=79) rfl q79 (by rw [hx304]; exact (by rw [hx301]; exact hc195))) rfl (eo_nil ⟨rfl,rfl,undef,rfl,Fr.refl _ _,rfl⟩)
       ·intro ρ w300o F300o hS hρ
        have q79:ρ 79=.bool (((nth x301 0)==(nth x304 0))&&(((nth x301 1)==(nth x304 1))&&(((nth x301 2)==(nth x304 2))&&(((nth x301 3)==(nth x304 3))&&true)))):=hS 8 (by decide) 79 rfl
        exact o_q (r_pickF q79 (by rw [hx304]; exact (by rw [hx301]; exact hc195)) rfl) ⟨Fr.refl _ _,rfl⟩
       ·intro ρ w300o F300o hS hρ
        have q86:ρ 86=.bool false:=hS 15 (by decide) 86 rfl
        exact o_q (r_asg q86) ⟨Fr.refl _ _,rfl⟩
      ·intro ρ w300 F300 hS hρ
       have q4:ρ 4=.bool false:=hS 16 4 rfl
       obtain ⟨ρ',rfl⟩:∃ ρ',ρ=envs (ovr [4,71,72,73,74,75,76,77,78,79,80,81,82,83,84,85,86] ρ' _) [(4,.bool false)]:=⟨ρ,ovr_self hρ ⟨q4,trivial⟩⟩
       have E343:=E174.trans F300
       refine sq_n ?_
       refine ec_ret ?_
       subst h
       exact (end1 rfl ⟨_,rfl,E343,rfl⟩)
end Go.Proofs.YthbfhgenkhkpfaaGreat
