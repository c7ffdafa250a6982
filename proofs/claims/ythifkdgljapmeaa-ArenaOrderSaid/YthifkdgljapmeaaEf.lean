/- Arenas: below, and joined. -/
import Derived.Test.YthifkdgljapmeaaEv
namespace Go.Proofs.Ythifkdgljapmeaa
open Go Go.RowKit
set_option linter.unusedVariables false
set_option linter.unusedSimpArgs false
def arena_Below_b54 (d1:Arena) (s54:Bool) (y54:(Int × Ent)) (z54:(Bool) ⊕ (Bool)):Prop :=
 (sma d1)∧(((decide ((findA d1 y54.2.val.kind y54.2.key)<0))=true→(z54=.inr false))∧((decide ((findA d1 y54.2.val.kind y54.2.key)<0))=false→((0≤(findA d1 y54.2.val.kind y54.2.key)∧(findA d1 y54.2.val.kind y54.2.key)<(d1.slots.length:Int))∧(sm y54.2.val∧(sm (nth d1.slots (findA d1 y54.2.val.kind y54.2.key)).val∧(∃ x195,x195=(joinE y54.2 (nth d1.slots (findA d1 y54.2.val.kind y54.2.key)))∧((0≤(findA d1 y54.2.val.kind y54.2.key)∧(findA d1 y54.2.val.kind y54.2.key)<(d1.slots.length:Int))∧(sm x195.1.val∧(∃ x332,x332=(sameE x195.1 (nth d1.slots (findA d1 y54.2.val.kind y54.2.key)))∧(((!x332)=true→(z54=.inr false))∧((!x332)=false→(z54=.inl s54))))))))))))
def arena_Below_raw (d0:Arena) (d1:Arena) (y:Bool):Prop :=
 (sma d0)∧(((!((checkA d0) != (0:Int)))=true→sma d1)∧(((((checkA d0) != (0:Int))||((checkA d1) != (0:Int)))=true→(y=false))∧((((checkA d0) != (0:Int))||((checkA d1) != (0:Int)))=false→((sma d0)∧(∃ x54,ItR (arena_Below_b54 d1) false (eachA d0) x54∧(∀ sx54,x54=.inl sx54→(y=true))∧(∀ yx54,x54=.inr yx54→(y=yx54)))))))
set_option maxRecDepth 20000 in
set_option maxHeartbeats 4000000 in
theorem arena_Below_c {L:List Nat} {w:World} {csP0:List Value} (d0:Arena) (HP0:Stb L w (fun w=>kArena.r w csP0 d0)) {csP1:List Value} (d1:Arena) (HP1:Stb L w (fun w=>kArena.r w csP1 d1)) (hL:Lt L w) {y:Bool} (h:arena_Below_raw d0 d1 y) :
  Calls Try.prog 26 [.agg csP0.toArray,.agg csP1.toArray].toArray w (Ret fun v w'=>Ext w w'∧v=.bool y):=by
 obtain ⟨A1,c2,A4,c5,rfl,H3,H6⟩:=kArena_open HP0
 obtain ⟨A7,c8,A10,c11,rfl,H9,H12⟩:=kArena_open HP1
 unfold arena_Below_raw at h
 refine calls_ecM Try.func26 rfl rfl rfl ?_
 refine ec_sr ?_
 refine o_box (cs:=(cArena d0 A1 c2 A4 c5)) rfl rfl rfl ?_
 intro b13 w13 e13 F13 B13
 have S13:=B13.stb (nin hL e13)
 have G14:Fr L w w13:=Fr.ext F13
 refine o_box (cs:=(cArena d1 A7 c8 A10 c11)) rfl rfl rfl ?_
 intro b15 w15 e15 F15 B15
 have S15:=B15.stb (nin (hL.fr F13) e15)
 have E16:=F13.trans F15
 have G18:Fr L w13 w15:=Fr.ext F15
 refine o_alloc zero_bool rfl rfl rfl ?_
 intro b19 w19 e19 F19 B19
 have n19:w.heap.size≤b19:=by rw [e19]; exact E16.size
 have m20:w.heap.size≤b19:=by rw [e19]; exact (G14.trans (Fr.ext F15)).size
 have m22:w15.heap.size≤b19:=Nat.le_of_eq e19.symm
 have E23:=E16.trans F19
 have G26:Fr L w15 w19:=Fr.ext F19
 refine eo_nil_sq ?_
 refine ec_seq ?_
 refine ec_sr ?_
 refine o_w (v:=.agg (cArena d0 A1 c2 A4 c5).toArray) (r_lda agg_api_Arena rfl (vs:=(cArena d0 A1 c2 A4 c5)) rfl ((S13.fr (G18.trans (Fr.ext F19)) sI).now.part (n:=3) rfl)) ?_
 obtain ⟨ha29,h⟩:=h
 refine o_call cf_arena_Check rfl (arena_Check_c d0 (kArena_mk (d:=d0) (H3.up ((G14.trans (Fr.ext F15)).trans (Fr.ext F19)) sI (upc (.inr m20) (fun _ h=>.inl h))) (H6.up ((G14.trans (Fr.ext F15)).trans (Fr.ext F19)) sI (upc (.inr m20) (fun _ h=>.inl h)))) ((hL.fr E23).cons B19.lt) (arCheck_ev d0 ha29)) rfl rfl ?_
 rintro _ w28 ⟨F28,rfl⟩
 have E30:=E23.trans F28
 refine o_w (v:=.bool ((checkA d0) != (0:Int))) (r_int rfl rfl rfl) ?_
 refine o_w (v:=.bool ((checkA d0) != (0:Int))) (r_mov rfl) ?_
 refine o_vg (v:=.agg (cArena d1 A7 c8 A10 c11).toArray) (want_cf (t:=13) rfl rfl) (fun hk=>(r_lda agg_api_Arena rfl (vs:=(cArena d1 A7 c8 A10 c11)) rfl ((S15.fr (G26.trans (Fr.ext F28)) sI).now.part (n:=3) rfl))) rfl rfl ?_
 obtain ⟨ha36,h⟩:=h
 refine o_callg (V:=.int .i64 (checkA d1)) cf_arena_Check (want_cf (t:=13) rfl rfl) (fun hk=>(mapv1 (gdT hk))) (fun hk=>(arena_Check_c d1 (kArena_mk (d:=d1) (H9.up (((G14.trans (Fr.ext F15)).trans (Fr.ext F19)).trans (Fr.ext F28)) sI (upc (.inr m20) (fun _ h=>.inl h))) (H12.up (((G14.trans (Fr.ext F15)).trans (Fr.ext F19)).trans (Fr.ext F28)) sI (upc (.inr m20) (fun _ h=>.inl h)))) ((hL.fr E30).cons (B19.ex F28).lt) (arCheck_ev d1 (ha36 hk)))) rfl ?_
 intro w35 F35
 have E37:=E30.trans F35
 have G38:=(((G14.trans (Fr.ext F15)).trans (Fr.ext F19)).trans (Fr.ext F28)).trans (Fr.ext F35)
 refine o_vg (v:=.bool ((checkA d1) != (0:Int))) (want_cf (t:=13) rfl rfl) (fun hk=>(r_int (gdT hk) rfl rfl)) rfl rfl ?_
 refine o_w (v:=.bool (((checkA d0) != (0:Int))||((checkA d1) != (0:Int)))) (r_pickOr rfl rfl (fun hf=>(gdT (notT hf)))) ?_
 refine eo_nil_sq ?_
 refine ec_cond rfl (fun hc42=>?_) (fun hc42=>?_)
 ·replace h:=h.1 hc42
  refine ec_sr ?_
  refine o_store rfl ((B19.ex F28).ex F35) (vs:=[.bool false]) rfl sz_bool rfl rfl rfl ?_
  intro w43 F43 B43
  have E44:=Ext.st E37 F43 (by simp; omega)
  have B43':Blk w43 b19 _ [.bool false]:=B43
  refine eo_nil_sq ?_
  refine ec_ret ?_
  refine sq_ret ?_
  subst h
  exact marks0 ((endr1 (rv_c rfl (one_bool) B43' rfl) ⟨_,rfl,E44,rfl⟩))
 ·replace h:=h.2 hc42
  refine ec_skip ?_
  refine sq_n ?_
  refine ec_seq ?_
  refine ec_sr ?_
  refine o_w (v:=.agg (cArena d0 A1 c2 A4 c5).toArray) (r_lda agg_api_Arena rfl (vs:=(cArena d0 A1 c2 A4 c5)) rfl ((S13.fr (((G18.trans (Fr.ext F19)).trans (Fr.ext F28)).trans (Fr.ext F35)) sI).now.part (n:=3) rfl)) ?_
  refine o_inl (vs:=[.agg (cArena d0 A1 c2 A4 c5).toArray]) (caps:=[]) cf_arena_each rfl rfl rfl rfl ?_
  refine calls_ec Try.func43 rfl rfl rfl ?_
  refine ec_sr ?_
  refine o_box (cs:=(cArena d0 A1 c2 A4 c5)) rfl rfl rfl ?_
  intro b48 w48 e48 F48 B48
  have S48:=B48.stb (nin ((hL.fr E37).cons ((B19.ex F28).ex F35).lt) e48)
  have E49:=E37.trans F48
  refine o_w (v:=.nilFunc) (r_asg rfl) ?_
  refine eo_r ?_
  refine o_w (r_mkfn' (vs:=[.pointer (some ⟨b48,0,none⟩)]) rfl) ?_
  refine o_w (v:=.func (.func 60) #[] #[.pointer (some ⟨b48,0,none⟩)]) (r_asg rfl) ?_
  refine eo_nil_sq ?_
  refine ec_ret ?_
  refine end1 (v:=.func (.func 60) #[] #[.pointer (some ⟨b48,0,none⟩)]) rfl ⟨_,rfl,?_⟩
  refine eo_nil_sq ?_
  refine ec_block ?_
  obtain ⟨ha55,h⟩:=h
  refine ec_range (ps:=[20,21]) (gf:=60) (lb:=[.pointer (some ⟨b48,0,none⟩)]) rfl cf_arena_each_1 ?_
  intro D54 l54 rec54 w54 eD54 e54 hr54 F54 BD54 BL54
  have n54:w.heap.size≤D54:=by rw [eD54]; exact E49.size
  have nl54:w.heap.size≤l54:=by omega
  have nd54:D54<l54:=by omega
  have q56:b19<D54:=by rw [eD54]; exact (((B19.ex F28).ex F35).ex F48).lt
  have m57:w.heap.size≤D54:=by rw [eD54]; exact (G38.trans (Fr.ext F48)).size
  have m58:w.heap.size≤l54:=by omega
  have m61:w15.heap.size≤D54:=by rw [eD54]; exact (((G26.trans (Fr.ext F28)).trans (Fr.ext F35)).trans (Fr.ext F48)).size
  have m62:w15.heap.size≤l54:=by omega
  have m63:w48.heap.size≤D54:=Nat.le_of_eq eD54.symm
  have m64:w48.heap.size≤l54:=by omega
  have E65:=E49.trans F54
  have G68:=(((G26.trans (Fr.ext F28)).trans (Fr.ext F35)).trans (Fr.ext F48)).trans (Fr.ext F54)
  have G69:Fr (b19::L) w48 w54:=Fr.ext F54
  obtain ⟨x54,hl54,h⟩:=h
  refine range_run (S:=Bool) (R:=Bool) (arena_each_it d0 (S48.up G69 sI (upc (.inr m64) (upc (.inr m63) (upc (.inl mH) (fun m hm=>Or.inl (mT hm)))))) (kArena_mk (d:=d0) (H3.up ((G38.trans (Fr.ext F48)).trans (Fr.ext F54)) sI (upc (.inr m58) (upc (.inr m57) (upc (.inr m20) (fun _ h=>.inl h))))) (H6.up ((G38.trans (Fr.ext F48)).trans (Fr.ext F54)) sI (upc (.inr m58) (upc (.inr m57) (upc (.inr m20) (fun _ h=>.inl h)))))) ((((hL.fr E65).cons ((((B19.ex F28).ex F35).ex F48).ex F54).lt).cons BD54.lt).cons BL54.lt) ha55) (fun (s54:Bool) T w'=>T=(l54::(D54::(b19::L)))∧Fr (l54::(D54::(b19::L))) w54 w'∧Ext w w'∧Blk w' b19 4 [.bool s54]∧Lp w' D54 (.deferred (some []))∧Lp w' l54 (.loop (rec54 .ready none))) (fun (s54:Bool) w'=>Fr (l54::(D54::(b19::L))) w54 w'∧Ext w w'∧Blk w' b19 4 [.bool s54]∧Lp w' D54 (.deferred (some []))∧Lp w' l54 (.loop (rec54 .done (some .ret)))) hl54 ((l54::(D54::(b19::L)))) sI (fun _ h=>by cases h) ⟨rfl,(Fr.refl _ _),E65,((((B19.ex F28).ex F35).ex F48).ex F54),BD54,BL54⟩ (fun _ _ w' w'' h f=>by obtain ⟨rfl,F,E,B54ib19,B54iD54,B54il54⟩:=h; exact ⟨rfl,F.trans (Fr.ext f),E.trans f,B54ib19.ex f,B54iD54.ex f,B54il54.ex f⟩) (fun _ w' w'' h f=>by obtain ⟨F,E,B54ib19,B54iD54,B54il54⟩:=h; exact ⟨F.trans (Fr.ext f),E.trans f,B54ib19.ex f,B54iD54.ex f,B54il54.ex f⟩) (fun _ _ w' h=>by obtain ⟨rfl,F,E,B54ib19,B54iD54,B54il54⟩:=h; exact ((((hL.fr E).cons B54ib19.lt).cons B54iD54.lt).cons B54il54.lt)) ?_ ?_ ?_
  ·intro s54 y54 z54 T54 w54r vs54 hI54 hX54 hb54
   obtain ⟨rfl,F54r,E54r,B54rb19,B54rD54,B54rl54⟩:=hI54
   have h:=hb54
   unfold arena_Below_b54 at h
   have G71:Fr L w w54r:=((G38.trans (Fr.ext F48)).trans (Fr.ext F54)).stp F54r (upc (.inr m58) (upc (.inr m57) (upc (.inr m20) (fun _ h=>.inl h))))
   have G73:Fr L w15 w54r:=G68.stp F54r (upc (.inr m62) (upc (.inr m61) (upc (.inr m22) (fun _ h=>.inl h))))
   obtain ⟨cs76,rfl,HX75⟩:=hX54
   obtain ⟨A77,c78,A80,c81,rfl,H79,H82⟩:=kEnt_open HX75
   refine range_round (ps:=[20,21]) hr54 B54rl54 rfl rfl ?_
   refine ec_region ?_
   refine o_alloc zero_api_Entry rfl rfl rfl ?_
   intro b83 w83 e83 F83 B83
   have n83:w.heap.size≤b83:=by rw [e83]; exact E54r.size
   have q84:b19<b83:=by rw [e83]; exact B54rb19.lt
   have q85:l54<b83:=by rw [e83]; exact B54rl54.lt
   have q86:D54<b83:=by rw [e83]; exact B54rD54.lt
   have m87:w.heap.size≤b83:=by rw [e83]; exact G71.size
   have m89:w15.heap.size≤b83:=by rw [e83]; exact G73.size
   have m91:w54.heap.size≤b83:=by rw [e83]; exact F54r.size
   have m92:w54r.heap.size≤b83:=Nat.le_of_eq e83.symm
   have m93:w54r.heap.size≤b83:=Nat.le_of_eq e83.symm
   have E94:=E54r.trans F83
   have G100:Fr (l54::(D54::(b19::L))) w54r w83:=Fr.ext F83
   have G101:Fr (l54::(D54::(b19::L))) w54r w83:=Fr.ext F83
   refine o_store rfl B83 (vs:=(cEnt y54.2 A77 c78 A80 c81)) rfl sz_api_Entry rfl rfl rfl ?_
   intro w105 F105 B105
   have E106:=Ext.st E94 F105 (by simp; omega)
   have G107:Fr L w w105:=(G71.trans (Fr.ext F83)).stp F105 (upc (.inr m87) (fun m hm=>by cases hm))
   have G109:Fr L w15 w105:=(G73.trans (Fr.ext F83)).stp F105 (upc (.inr m89) (fun m hm=>by cases hm))
   have G111:Fr (l54::(D54::(b19::L))) w54 w105:=(F54r.trans (Fr.ext F83)).stp F105 (upc (.inr m91) (fun m hm=>by cases hm))
   have G112:Fr (l54::(D54::(b19::L))) w54r w105:=G100.stp F105 (upc (.inr m92) (fun m hm=>by cases hm))
   have G113:Fr (l54::(D54::(b19::L))) w54r w105:=G101.stp F105 (upc (.inr m93) (fun m hm=>by cases hm))
   have B114:=(B54rb19.ex F83).fr F105 (by simp; omega)
   have B115:=(B54rl54.ex F83).fr F105 (by simp; omega)
   have B116:=(B54rD54.ex F83).fr F105 (by simp; omega)
   have B105':Blk w105 b83 _ (cEnt y54.2 A77 c78 A80 c81):=B105
   refine eo_nil ?_
   refine ⟨rfl,rfl,B115,fun w117 F118 BL119=>?_⟩
   have E120:=Ext.st E106 F118 (by simp; omega)
   have G121:Fr L w w117:=G107.stp F118 (upc (.inr m58) (fun m hm=>by cases hm))
   have G123:Fr L w15 w117:=G109.stp F118 (upc (.inr m62) (fun m hm=>by cases hm))
   have G125:Fr (l54::(D54::(b19::L))) w54 w117:=G111.stp F118 (upc (.inl mH) (fun m hm=>by cases hm))
   have G126:Fr (l54::(D54::(b19::L))) w54r w117:=G112.stp F118 (upc (.inl mH) (fun m hm=>by cases hm))
   have G127:Fr (l54::(D54::(b19::L))) w54r w117:=G113.stp F118 (upc (.inl mH) (fun m hm=>by cases hm))
   have B128:=B114.fr F118 (by simp; omega)
   have B129:=B116.fr F118 (by simp; omega)
   have B130:=B105'.fr F118 (by simp; omega)
   refine ec_block ?_
   refine ec_sr ?_
   refine o_w (v:=.agg (cArena d1 A7 c8 A10 c11).toArray) (r_lda agg_api_Arena rfl (vs:=(cArena d1 A7 c8 A10 c11)) rfl ((S15.fr G123 sI).now.part (n:=3) rfl)) ?_
   refine o_w (v:=.pointer (some ⟨b83,1,none⟩)) (r_fa fld_api_Entry_1 rfl rfl) ?_
   refine o_w (v:=.pointer (some ⟨b83,1,none⟩)) (r_fa fld_api_Value_0 rfl rfl) ?_
   refine o_w (v:=.int .i64 y54.2.val.kind) (r_ld one_int rfl (B130.cell rfl)) ?_
   refine o_w (v:=.pointer (some ⟨b83,0,none⟩)) (r_fa fld_api_Entry_0 rfl rfl) ?_
   refine o_w (v:=str y54.2.key) (r_ld one_string rfl (B130.cell rfl)) ?_
   obtain ⟨ha132,h⟩:=h
   refine o_call cf_arena_Find rfl (arena_Find_c d1 (kArena_mk (d:=d1) (H9.up G121 sI (upc (.inr m87) (upc (.inr m58) (upc (.inr m57) (upc (.inr m20) (fun _ h=>.inl h)))))) (H12.up G121 sI (upc (.inr m87) (upc (.inr m58) (upc (.inr m57) (upc (.inr m20) (fun _ h=>.inl h))))))) y54.2.val.kind y54.2.key (((((hL.fr E120).cons B128.lt).cons B129.lt).cons BL119.lt).cons B130.lt) (arFind_ev d1 y54.2.val.kind y54.2.key ha132)) rfl rfl ?_
   rintro _ w131 ⟨F131,rfl⟩
   have E133:=E120.trans F131
   refine o_w (v:=.int .i64 (findA d1 y54.2.val.kind y54.2.key)) (r_asg rfl) ?_
   refine eo_nil_sq ?_
   refine ec_seq ?_
   refine ec_sr ?_
   refine o_w (v:=.int .i64 (findA d1 y54.2.val.kind y54.2.key)) (r_mov rfl) ?_
   refine o_w (v:=.bool (decide ((findA d1 y54.2.val.kind y54.2.key)<0))) (r_int rfl rfl rfl) ?_
   refine eo_nil_sq ?_
   refine ec_cond rfl (fun hc145=>?_) (fun hc145=>?_)
   ·replace h:=h.1 hc145
    refine ec_sr ?_
    refine o_store rfl (B128.ex F131) (vs:=[.bool false]) rfl sz_bool rfl rfl rfl ?_
    intro w146 F146 B146
    have E147:=Ext.st E133 F146 (by simp; omega)
    have G152:Fr (l54::(D54::(b19::L))) w54 w146:=(G125.trans (Fr.ext F131)).stp F146 (upc (.inl (mT (mT mH))) (fun m hm=>by cases hm))
    have B155:=(BL119.ex F131).fr F146 (by simp; omega)
    have B156:=(B129.ex F131).fr F146 (by simp; omega)
    have B146':Blk w146 b19 _ [.bool false]:=B146
    refine eo_nil_sq ?_
    refine ec_ret ?_
    refine sq_ret ?_
    refine blk_ret ?_
    subst h
    refine ⟨some .ret,rfl,B155,fun w158 F159 BL160=>?_⟩
    have E161:=Ext.st E147 F159 (by simp; omega)
    have G166:Fr (l54::(D54::(b19::L))) w54 w158:=G152.stp F159 (upc (.inl mH) (fun m hm=>by cases hm))
    have B169:=B146'.fr F159 (by simp; omega)
    have B170:=B156.fr F159 (by simp; omega)
    exact ⟨rfl,⟨G166,E161,B169,B170,BL160⟩⟩
   ·replace h:=h.2 hc145
    refine ec_skip ?_
    refine sq_n ?_
    refine ec_seq ?_
    obtain ⟨ha184,h⟩:=h
    obtain ⟨cs185,l187,H186⟩:=Stb.elem (by decide) (H9.up (G121.trans (Fr.ext F131)) sI (upc (.inr m87) (upc (.inr m58) (upc (.inr m57) (upc (.inr m20) (fun _ h=>.inl h)))))) (findA d1 y54.2.val.kind y54.2.key) ha184.1 ha184.2
    obtain ⟨A189,c190,A192,c193,rfl,H188,H191,H194⟩:=kEnt_open2 H186
    obtain ⟨ha196,h⟩:=h
    obtain ⟨ha197,h⟩:=h
    obtain ⟨x195,hx195,h⟩:=h
    refine ec_anyGN (by kernel_rfl) [[],[],[1],[],[1,2,3],[1,2,3,4],[0,1,2,3,4,5],[0,1,2,3,4,5,6],[0,1,2,3,4,5,6,7],[0,1,2,3,4,5,6,7],[],[0,1,2,3,4,5,6,7,8,10],[0,1,2,3,4,5,6,7,8,9,10,11]] [8,9,31,32,33,34,35,36,37,38,39,40] [] [11] 10 0 (fun g w=>∀ b,g=gOf b→Blk w b 42 [str [],.int .i64 0,.int .i64 0,.int .i64 0,.bool false,str [],.slice none ([]:List Int).length 0,.slice none ([]:List Int).length 0,.int .u64 0]) (fun g183=>[own g183]) [[11,12]] (fun g183=>[fun w'=>(∀ b,g183=gOf b→Blk w' b 42 [str [],.int .i64 0,.int .i64 0,.int .i64 0,.bool false,str [],.slice none ([]:List Int).length 0,.slice none ([]:List Int).length 0,.int .u64 0]),fun w'=>∃ A198 c199 A201 c202,Stb (own g183++(b83::(l54::(D54::(b19::L))))) w' (fun w=>SlC (kI .i64) w A198 c199 x195.1.val.plus)∧Stb (own g183++(b83::(l54::(D54::(b19::L))))) w' (fun w=>SlC (kI .i64) w A201 c202 x195.1.val.minus)∧(∀ b,g183=gOf b→Blk w' b 42 (cEnt x195.1 A198 c199 A201 c202))]) (fun g183=>[fun v _=>v=(.agg (cEnt y54.2 A77 c78 A80 c81).toArray:Value),fun v _=>v=(.pointer (some ⟨b15,1,none⟩):Value),fun v _=>v=(.slice A7 d1.slots.length c8:Value),fun v _=>v=(.int .i64 (findA d1 y54.2.val.kind y54.2.key):Value),fun v _=>v=(.pointer (some (elemA A7 kEnt.n (findA d1 y54.2.val.kind y54.2.key).toNat)):Value),fun v _=>v=(.agg (cEnt (nth d1.slots (findA d1 y54.2.val.kind y54.2.key)) A189 c190 A192 c193).toArray:Value),fun v w'=>∃ A198 c199 A201 c202,v=(.tuple #[.agg (cEnt x195.1 A198 c199 A201 c202).toArray,.int .i64 x195.2]:Value)∧Stb (own g183++(b83::(l54::(D54::(b19::L))))) w' (fun w=>SlC (kI .i64) w A198 c199 x195.1.val.plus)∧Stb (own g183++(b83::(l54::(D54::(b19::L))))) w' (fun w=>SlC (kI .i64) w A201 c202 x195.1.val.minus),fun v w'=>∃ A198 c199 A201 c202,v=(.tuple #[.agg (cEnt x195.1 A198 c199 A201 c202).toArray,.int .i64 x195.2]:Value)∧Stb (own g183++(b83::(l54::(D54::(b19::L))))) w' (fun w=>SlC (kI .i64) w A198 c199 x195.1.val.plus)∧Stb (own g183++(b83::(l54::(D54::(b19::L))))) w' (fun w=>SlC (kI .i64) w A201 c202 x195.1.val.minus),fun v w'=>∃ A198 c199 A201 c202,v=(.agg (cEnt x195.1 A198 c199 A201 c202).toArray:Value)∧Stb (own g183++(b83::(l54::(D54::(b19::L))))) w' (fun w=>SlC (kI .i64) w A198 c199 x195.1.val.plus)∧Stb (own g183++(b83::(l54::(D54::(b19::L))))) w' (fun w=>SlC (kI .i64) w A201 c202 x195.1.val.minus),fun v _=>v=(.int .i64 x195.2:Value),fun v w'=>∃ b183_10,v=(.pointer (some ⟨b183_10,0,none⟩):Value)∧g183=gOf b183_10∧w131.heap.size≤b183_10,fun _ _=>True,fun v _=>v=(.int .i64 x195.2:Value)]) (by kernel_rfl) (fun _=>rfl) (fun _=>rfl) (fun g183=>(allM1 (φ:=fun M=>∀ m∈M,m∈[]∨m∈own g183) (fun m hm=>.inr hm) (fun _ h=>by cases h))) (fun g183=>⟨fun _ _ _ _ _ h=>h,fun _ _ _ _ _ h=>h,fun _ _ _ _ _ h=>h,fun _ _ _ _ _ h=>h,fun _ _ _ _ _ h=>h,fun _ _ _ _ _ h=>h,fun _ v w' w'' F h=>by obtain ⟨A198,c199,A201,c202,hv,H200,H203⟩:=h; exact ⟨A198,c199,A201,c202,hv,(H200.ex F),(H203.ex F)⟩,fun _ v w' w'' F h=>by obtain ⟨A198,c199,A201,c202,hv,H200,H203⟩:=h; exact ⟨A198,c199,A201,c202,hv,(H200.ex F),(H203.ex F)⟩,fun _ v w' w'' F h=>by obtain ⟨A198,c199,A201,c202,hv,H200,H203⟩:=h; exact ⟨A198,c199,A201,c202,hv,(H200.ex F),(H203.ex F)⟩,fun _ _ _ _ _ h=>h,fun _ v w' w'' F h=>by obtain ⟨b183_10,hv,heb183_10,lob183_10⟩:=h; exact ⟨b183_10,hv,heb183_10,lob183_10⟩,fun _ _ _ _ _ h=>h,fun _ _ _ _ _ h=>h,trivial⟩) (fun g183=>⟨⟨fun _ _ _ _ _ _ h=>h,fun _ _ _ _ _ _ h=>h,fun _ _ _ _ _ _ h=>h,fun _ _ _ _ _ _ h=>h,fun _ _ _ _ _ _ h=>h,fun _ _ _ _ _ _ h=>h,fun _ v w' w'' hg183 F h=>by obtain ⟨A198,c199,A201,c202,hv,H200,H203⟩:=h; exact ⟨A198,c199,A201,c202,hv,(H200.fr F (fun m hm=>List.mem_append_left _ hm)),(H203.fr F (fun m hm=>List.mem_append_left _ hm))⟩,fun _ v w' w'' hg183 F h=>by obtain ⟨A198,c199,A201,c202,hv,H200,H203⟩:=h; exact ⟨A198,c199,A201,c202,hv,(H200.fr F (fun m hm=>List.mem_append_left _ hm)),(H203.fr F (fun m hm=>List.mem_append_left _ hm))⟩,fun _ v w' w'' hg183 F h=>by obtain ⟨A198,c199,A201,c202,hv,H200,H203⟩:=h; exact ⟨A198,c199,A201,c202,hv,(H200.fr F (fun m hm=>List.mem_append_left _ hm)),(H203.fr F (fun m hm=>List.mem_append_left _ hm))⟩,fun _ _ _ _ _ _ h=>h,fun _ v w' w'' hg183 F h=>by obtain ⟨b183_10,hv,heb183_10,lob183_10⟩:=h; exact ⟨b183_10,hv,heb183_10,lob183_10⟩,(fun h=>absurd h (by decide)),(fun h=>absurd h (by decide)),trivial⟩,trivial⟩) (fun g w hw hg=>⟨fun _ _ _ _ h=>h,fun _ _ _ _ h=>h,fun _ _ _ _ h=>h,fun _ _ _ _ h=>h,fun _ _ _ _ h=>h,fun _ _ _ _ h=>h,fun _ v w' F h=>by obtain ⟨A198,c199,A201,c202,hv,H200,H203⟩:=h; exact ⟨A198,c199,A201,c202,hv,(stb_born H200 hg F),(stb_born H203 hg F)⟩,fun _ v w' F h=>by obtain ⟨A198,c199,A201,c202,hv,H200,H203⟩:=h; exact ⟨A198,c199,A201,c202,hv,(stb_born H200 hg F),(stb_born H203 hg F)⟩,fun _ v w' F h=>by obtain ⟨A198,c199,A201,c202,hv,H200,H203⟩:=h; exact ⟨A198,c199,A201,c202,hv,(stb_born H200 hg F),(stb_born H203 hg F)⟩,fun _ _ _ _ h=>h,(fun h=>absurd h (by decide)),fun _ _ _ _ h=>h,fun _ _ _ _ h=>h,trivial⟩) (fun g183=>⟨fun w' w'' F h=>by have hG183:=h; exact (fun b e=>(hG183 b e).ex F),fun w' w'' F h=>by obtain ⟨A198,c199,A201,c202,H200,H203,hG183⟩:=h; exact ⟨A198,c199,A201,c202,(H200.ex F),(H203.ex F),(fun b e=>(hG183 b e).ex F)⟩,trivial⟩) (fun b e=>absurd e gNil_ne) (fun k hk g w w' hw hg F hX hI=>match k,hk,hI with | 0,_,hI=>by have hG183:=hI; exact hX | k + 1,hk,_=>absurd hk (by omega)) ?_ ?_ ?_ ?_
    ·refine ⟨?_,?_,?_,?_,?_,?_,?_,?_,?_,?_,?_,?_,?_,trivial⟩
     ·intro _ _ g183 ρ w183o hg183 F183o hX hS hρ
      have F183o:=hX 11 rfl rfl
      have q6:ρ 6=.pointer (some ⟨b83,0,none⟩):=hρ 6 (by kernel_rfl)
      exact o_q (r_lda agg_api_Entry q6 (vs:=(cEnt y54.2 A77 c78 A80 c81)) rfl (((B130.ex F131).ex F183o).part (n:=9) rfl)) ⟨Fr.refl _ _,rfl⟩
     ·intro _ _ g183 ρ w183o hg183 F183o hX hS hρ
      have F183o:=hX 11 rfl rfl
      have q3:ρ 3=.pointer (some ⟨b15,0,none⟩):=hρ 3 (by kernel_rfl)
      exact o_q (r_fa fld_api_Arena_1 rfl q3) ⟨Fr.refl _ _,rfl⟩
     ·intro _ _ g183 ρ w183o hg183 F183o hX hS hρ
      have F183o:=hX 11 rfl rfl
      have q33:ρ 33=.pointer (some ⟨b15,1,none⟩):=hS 1 (by decide) 33 rfl
      exact o_q (r_ld one_s_api_Entry q33 ((S15.fr ((G123.trans (Fr.ext F131)).trans (Fr.ext F183o)) sI).now.cell rfl)) ⟨Fr.refl _ _,rfl⟩
     ·intro _ _ g183 ρ w183o hg183 F183o hX hS hρ
      have F183o:=hX 11 rfl rfl
      have q7:ρ 7=.int .i64 (findA d1 y54.2.val.kind y54.2.key):=hρ 7 (by kernel_rfl)
      exact o_q (r_mov q7) ⟨Fr.refl _ _,rfl⟩
     ·intro _ _ g183 ρ w183o hg183 F183o hX hS hρ
      have F183o:=hX 11 rfl rfl
      have q34:ρ 34=.slice A7 d1.slots.length c8:=hS 2 (by decide) 34 rfl
      have q35:ρ 35=.int .i64 (findA d1 y54.2.val.kind y54.2.key):=hS 3 (by decide) 35 rfl
      exact o_q (r_ia slc_s_api_Entry q34 q35 ((H9.fr ((G121.trans (Fr.ext F131)).trans (Fr.ext F183o)) sI).now.2 _ (lt_toNat ha184.1 ha184.2)).1 ha184.1 ha184.2) ⟨Fr.refl _ _,rfl⟩
     ·intro _ _ g183 ρ w183o hg183 F183o hX hS hρ
      have F183o:=hX 11 rfl rfl
      have G251:Fr (b83::(l54::(D54::(b19::L)))) w131 w183o:=Fr.ext F183o
      have q36:ρ 36=.pointer (some (elemA A7 kEnt.n (findA d1 y54.2.val.kind y54.2.key).toNat)):=hS 4 (by decide) 36 rfl
      exact o_q (r_lda' agg_api_Entry q36 (elemA_spot _ _ _) (vs:=(cEnt (nth d1.slots (findA d1 y54.2.val.kind y54.2.key)) A189 c190 A192 c193)) rfl ((H188.fr G251 sI).now.1)) ⟨Fr.refl _ _,rfl⟩
     ·intro _ _ g183 ρ w183o hg183 F183o hX hS hρ
      have F183o:=hX 11 rfl rfl
      have E256:=E133.trans F183o
      have G264:Fr (b83::(l54::(D54::(b19::L)))) w131 w183o:=Fr.ext F183o
      have q32:ρ 32=.agg (cEnt y54.2 A77 c78 A80 c81).toArray:=hS 0 (by decide) 32 rfl
      have q37:ρ 37=.agg (cEnt (nth d1.slots (findA d1 y54.2.val.kind y54.2.key)) A189 c190 A192 c193).toArray:=hS 5 (by decide) 37 rfl
      refine o_call cf_entry_Join (by simp only [List.map,ev,q32,q37] <;> rfl) (entry_Join_c y54.2 (kEnt_mk (d:=y54.2) (H79.up ((G127.trans (Fr.ext F131)).trans (Fr.ext F183o)) sI (upo (fun m hm=>.inr (Nat.le_trans ((G127.trans (Fr.ext F131)).size) (hg183 m hm).1)) (upc (.inr m93) (upc (.inl mH) (upc (.inl (mT mH)) (upc (.inl (mT (mT mH))) (fun m hm=>Or.inl (mT (mT (mT hm)))))))))) (H82.up ((G127.trans (Fr.ext F131)).trans (Fr.ext F183o)) sI (upo (fun m hm=>.inr (Nat.le_trans ((G127.trans (Fr.ext F131)).size) (hg183 m hm).1)) (upc (.inr m93) (upc (.inl mH) (upc (.inl (mT mH)) (upc (.inl (mT (mT mH))) (fun m hm=>Or.inl (mT (mT (mT hm))))))))))) (nth d1.slots (findA d1 y54.2.val.kind y54.2.key)) (kEnt_mk (d:=(nth d1.slots (findA d1 y54.2.val.kind y54.2.key))) (H191.up G264 sI (upo (fun m hm=>.inr (Nat.le_trans (Nat.le_refl _) (hg183 m hm).1)) (upc (.inl mH) (upc (.inl (mT mH)) (upc (.inl (mT (mT mH))) (upc (.inl (mT (mT (mT mH)))) (fun m hm=>Or.inl (mT (mT (mT (mT hm))))))))))) (H194.up G264 sI (upo (fun m hm=>.inr (Nat.le_trans (Nat.le_refl _) (hg183 m hm).1)) (upc (.inl mH) (upc (.inl (mT mH)) (upc (.inl (mT (mT mH))) (upc (.inl (mT (mT (mT mH)))) (fun m hm=>Or.inl (mT (mT (mT (mT hm)))))))))))) (lt_ghost (((((hL.fr E256).cons ((B128.ex F131).ex F183o).lt).cons ((B129.ex F131).ex F183o).lt).cons ((BL119.ex F131).ex F183o).lt).cons ((B130.ex F131).ex F183o).lt) hg183) (eq_ev hx195 (entJoin_ev y54.2 (nth d1.slots (findA d1 y54.2.val.kind y54.2.key)) ha196 ha197))) rfl rfl ?_
      rintro _ w' ⟨F,cs269,rfl,H270⟩
      obtain ⟨A198,c199,A201,c202,rfl,H200,H203⟩:=kEnt_open H270
      exact eo_nil ⟨rfl,rfl,_,rfl,F,⟨A198,c199,A201,c202,rfl,H200,H203⟩⟩
     ·intro _ _ g183 ρ w183o hg183 F183o hX hS hρ
      have F183o:=hX 11 rfl rfl
      obtain ⟨A198,c199,A201,c202,q38,H200,H203⟩:=hS 6 (by decide) 38 rfl
      exact o_q (r_mov q38) ⟨Fr.refl _ _,⟨A198,c199,A201,c202,rfl,H200,H203⟩⟩
     ·intro _ _ g183 ρ w183o hg183 F183o hX hS hρ
      have F183o:=hX 11 rfl rfl
      obtain ⟨A198,c199,A201,c202,q31,H200,H203⟩:=hS 7 (by decide) 31 rfl
      exact o_q (r_ext q31 rfl) ⟨Fr.refl _ _,⟨A198,c199,A201,c202,rfl,H200,H203⟩⟩
     ·intro _ _ g183 ρ w183o hg183 F183o hX hS hρ
      obtain ⟨A198,c199,A201,c202,q31,H200,H203⟩:=hS 7 (by decide) 31 rfl
      exact o_q (r_ext q31 rfl) ⟨Fr.refl _ _,rfl⟩
     ·intro _ hT; exact absurd hT (by decide)
     ·intro hT; exact absurd hT (by decide)
     ·intro _ _ g183 ρ w183o hg183 F183o hX hS hρ
      have q40:ρ 40=.int .i64 x195.2:=hS 9 (by decide) 40 rfl
      exact o_q (r_asg q40) ⟨Fr.refl _ _,rfl⟩
    ·intro o ho ρ w183o F183o hX hS hρ; cases Option.some.inj ho; refine o_alloc zero_api_Entry rfl rfl rfl ?_; intro b w' e F B; subst e
     exact eo_nil ⟨rfl,rfl,_,rfl,F,gOf _,(fun m hm=>by rw [own_gOf,List.mem_singleton] at hm; subst hm; exact ⟨Nat.le_refl _,B.lt⟩),(fun b e=>by obtain rfl:=gOf_inj e; exact B),_,rfl,rfl,F183o.size⟩
    ·refine ⟨⟨_,rfl,?_⟩,trivial⟩
     ·intro g183 ρ w183o hg183 F183o hX hI hS hρ
      have hG183:=hI
      obtain ⟨b183_10,q8,heb183_10,lob183_10⟩:=hS 10 (by decide) 8 rfl
      obtain ⟨A198,c199,A201,c202,q39,H200,H203⟩:=hS 8 (by decide) 39 rfl
      subst heb183_10
      have hB183_b183_10:=hG183 _ rfl
      refine o_store (show ev ρ _=_ from q8) hB183_b183_10 (vs:=[str x195.1.key,.int .i64 x195.1.val.kind,.int .i64 x195.1.val.time,.int .i64 x195.1.val.node,.bool x195.1.val.dead,str x195.1.val.text,.slice A198 x195.1.val.plus.length c199,.slice A201 x195.1.val.minus.length c202,.int .u64 x195.1.val.flags]) (congrArg Value.cells q39) sz_api_Entry rfl rfl rfl ?_
      intro w' F B2
      exact eo_nil ⟨rfl,rfl,undef,rfl,F,⟨A198,c199,A201,c202,(H200.fr F (fun m hm=>List.mem_append_left _ hm)),(H203.fr F (fun m hm=>List.mem_append_left _ hm)),(fun b e=>by obtain rfl:=gOf_inj e; exact B2)⟩,trivial⟩
    ·intro g183 ρ w183 hg183 F183 hI hS hρ
     obtain ⟨A198,c199,A201,c202,H200,H203,hG183⟩:=hI
     obtain ⟨b183_10,q8,heb183_10,lob183_10⟩:=hS 10 8 rfl
     subst heb183_10
     have hB183_b183_10:=hG183 _ rfl
     have H200:Stb (b183_10::(b83::(l54::(D54::(b19::L))))) w183 (fun w=>SlC (kI .i64) w A198 c199 x195.1.val.plus):=H200
     have H203:Stb (b183_10::(b83::(l54::(D54::(b19::L))))) w183 (fun w=>SlC (kI .i64) w A201 c202 x195.1.val.minus):=H203
     obtain ⟨ρ',rfl⟩:∃ ρ',ρ=envs (ovr [8,9,31,32,33,34,35,36,37,38,39,40] ρ' _) [(8,.pointer (some ⟨b183_10,0,none⟩))]:=⟨ρ,ovr_self hρ ⟨q8,trivial⟩⟩
     have n183_10:w.heap.size≤b183_10:=Nat.le_trans E133.size lob183_10
     have q284:b19<b183_10:=Nat.lt_of_lt_of_le (B128.ex F131).lt lob183_10
     have q285:l54<b183_10:=Nat.lt_of_lt_of_le (BL119.ex F131).lt lob183_10
     have q286:D54<b183_10:=Nat.lt_of_lt_of_le (B129.ex F131).lt lob183_10
     have q287:b83<b183_10:=Nat.lt_of_lt_of_le (B130.ex F131).lt lob183_10
     have m288:w.heap.size≤b183_10:=Nat.le_trans (G121.trans (Fr.ext F131)).size lob183_10
     have E296:=E133.trans F183
     have Z183:=Fr.refl (b183_10::(b83::(l54::(D54::(b19::L))))) w183
     refine sq_n ?_
     refine ec_seq ?_
     obtain ⟨ha321,h⟩:=h
     obtain ⟨cs322,l324,H323⟩:=Stb.elem (by decide) (H9.up ((G121.trans (Fr.ext F131)).trans (Fr.ext F183)) sI (upc (.inr m288) (upc (.inr m87) (upc (.inr m58) (upc (.inr m57) (upc (.inr m20) (fun _ h=>.inl h))))))) (findA d1 y54.2.val.kind y54.2.key) ha321.1 ha321.2
     obtain ⟨A326,c327,A329,c330,rfl,H325,H328,H331⟩:=kEnt_open2 H323
     obtain ⟨ha333,h⟩:=h
     obtain ⟨x332,hx332,h⟩:=h
     refine ec_any0 (by kernel_rfl) [[],[],[1],[],[1,2,3],[1,2,3,4],[0,1,2,3,4,5],[0,1,2,3,4,5,6]] [41,42,43,44,45,46,47,48] [fun v _=>v=(.agg (cEnt x195.1 A198 c199 A201 c202).toArray:Value),fun v _=>v=(.pointer (some ⟨b15,1,none⟩):Value),fun v _=>v=(.slice A7 d1.slots.length c8:Value),fun v _=>v=(.int .i64 (findA d1 y54.2.val.kind y54.2.key):Value),fun v _=>v=(.pointer (some (elemA A7 kEnt.n (findA d1 y54.2.val.kind y54.2.key).toNat)):Value),fun v _=>v=(.agg (cEnt (nth d1.slots (findA d1 y54.2.val.kind y54.2.key)) A326 c327 A329 c330).toArray:Value),fun v _=>v=(.bool x332:Value),fun v _=>v=(.bool (!x332):Value)] (by kernel_rfl) ⟨fun _ _ _ _ _ h=>h,fun _ _ _ _ _ h=>h,fun _ _ _ _ _ h=>h,fun _ _ _ _ _ h=>h,fun _ _ _ _ _ h=>h,fun _ _ _ _ _ h=>h,fun _ _ _ _ _ h=>h,fun _ _ _ _ _ h=>h,trivial⟩ ?_ ?_
     ·refine ⟨?_,?_,?_,?_,?_,?_,?_,?_,trivial⟩
      ·intro ρ w320o F320o hS hρ
       have q8:ρ 8=.pointer (some ⟨b183_10,0,none⟩):=hρ 8 (by kernel_rfl)
       exact o_q (r_lda agg_api_Entry q8 (vs:=(cEnt x195.1 A198 c199 A201 c202)) rfl ((hB183_b183_10.ex F320o).part (n:=9) rfl)) ⟨Fr.refl _ _,rfl⟩
      ·intro ρ w320o F320o hS hρ
       have q3:ρ 3=.pointer (some ⟨b15,0,none⟩):=hρ 3 (by kernel_rfl)
       exact o_q (r_fa fld_api_Arena_1 rfl q3) ⟨Fr.refl _ _,rfl⟩
      ·intro ρ w320o F320o hS hρ
       have G353:=((G123.trans (Fr.ext F131)).trans (Fr.ext F183)).trans (Fr.ext F320o)
       have q42:ρ 42=.pointer (some ⟨b15,1,none⟩):=hS 1 (by decide) 42 rfl
       exact o_q (r_ld one_s_api_Entry q42 ((S15.fr G353 sI).now.cell rfl)) ⟨Fr.refl _ _,rfl⟩
      ·intro ρ w320o F320o hS hρ
       have q7:ρ 7=.int .i64 (findA d1 y54.2.val.kind y54.2.key):=hρ 7 (by kernel_rfl)
       exact o_q (r_mov q7) ⟨Fr.refl _ _,rfl⟩
      ·intro ρ w320o F320o hS hρ
       have G367:=((G121.trans (Fr.ext F131)).trans (Fr.ext F183)).trans (Fr.ext F320o)
       have q43:ρ 43=.slice A7 d1.slots.length c8:=hS 2 (by decide) 43 rfl
       have q44:ρ 44=.int .i64 (findA d1 y54.2.val.kind y54.2.key):=hS 3 (by decide) 44 rfl
       exact o_q (r_ia slc_s_api_Entry q43 q44 ((H9.fr G367 sI).now.2 _ (lt_toNat ha321.1 ha321.2)).1 ha321.1 ha321.2) ⟨Fr.refl _ _,rfl⟩
      ·intro ρ w320o F320o hS hρ
       have G392:Fr (b183_10::(b83::(l54::(D54::(b19::L))))) w183 w320o:=Fr.ext F320o
       have q45:ρ 45=.pointer (some (elemA A7 kEnt.n (findA d1 y54.2.val.kind y54.2.key).toNat)):=hS 4 (by decide) 45 rfl
       exact o_q (r_lda' agg_api_Entry q45 (elemA_spot _ _ _) (vs:=(cEnt (nth d1.slots (findA d1 y54.2.val.kind y54.2.key)) A326 c327 A329 c330)) rfl ((H325.fr G392 sI).now.1)) ⟨Fr.refl _ _,rfl⟩
      ·intro ρ w320o F320o hS hρ
       have E398:=E296.trans F320o
       have G408:Fr (b183_10::(b83::(l54::(D54::(b19::L))))) w183 w320o:=Fr.ext F320o
       have q41:ρ 41=.agg (cEnt x195.1 A198 c199 A201 c202).toArray:=hS 0 (by decide) 41 rfl
       have q46:ρ 46=.agg (cEnt (nth d1.slots (findA d1 y54.2.val.kind y54.2.key)) A326 c327 A329 c330).toArray:=hS 5 (by decide) 46 rfl
       refine o_call cf_entry_Same (by simp only [List.map,ev,q41,q46] <;> rfl) (entry_Same_c x195.1 (kEnt_mk (d:=x195.1) (H200.fr (Z183.trans (Fr.ext F320o)) sI) (H203.fr (Z183.trans (Fr.ext F320o)) sI)) (nth d1.slots (findA d1 y54.2.val.kind y54.2.key)) (kEnt_mk (d:=(nth d1.slots (findA d1 y54.2.val.kind y54.2.key))) (H328.fr G408 sI) (H331.fr G408 sI)) ((((((hL.fr E398).cons (((B128.ex F131).ex F183).ex F320o).lt).cons (((B129.ex F131).ex F183).ex F320o).lt).cons (((BL119.ex F131).ex F183).ex F320o).lt).cons (((B130.ex F131).ex F183).ex F320o).lt).cons (hB183_b183_10.ex F320o).lt) (eq_ev hx332 (entSame_ev x195.1 (nth d1.slots (findA d1 y54.2.val.kind y54.2.key)) ha333))) rfl rfl ?_
       rintro _ w' ⟨F,rfl⟩
       exact eo_nil ⟨rfl,rfl,_,rfl,F,rfl⟩
      ·intro ρ w320o F320o hS hρ
       have q47:ρ 47=.bool x332:=hS 6 (by decide) 47 rfl
       exact o_q (r_not q47) ⟨Fr.refl _ _,rfl⟩
     ·intro ρ w320 F320 hS hρ
      have q48:ρ 48=.bool (!x332):=hS 7 48 rfl
      obtain ⟨ρ',rfl⟩:∃ ρ',ρ=envs (ovr [41,42,43,44,45,46,47,48] ρ' _) [(48,.bool (!x332))]:=⟨ρ,ovr_self hρ ⟨q48,trivial⟩⟩
      have E414:=E296.trans F320
      have G419:=((G125.trans (Fr.ext F131)).trans (Fr.ext F183)).trans (Fr.ext F320)
      have G420:=((G126.trans (Fr.ext F131)).trans (Fr.ext F183)).trans (Fr.ext F320)
      refine sq_n ?_
      refine ec_cond rfl (fun hc430=>?_) (fun hc430=>?_)
      ·replace h:=h.1 hc430
       refine ec_sr ?_
       refine o_store rfl (((B128.ex F131).ex F183).ex F320) (vs:=[.bool false]) rfl sz_bool rfl rfl rfl ?_
       intro w431 F431 B431
       have E432:=Ext.st E414 F431 (by simp; omega)
       have G437:Fr (l54::(D54::(b19::L))) w54 w431:=G419.stp F431 (upc (.inl (mT (mT mH))) (fun m hm=>by cases hm))
       have B443:=(((BL119.ex F131).ex F183).ex F320).fr F431 (by simp; omega)
       have B444:=(((B129.ex F131).ex F183).ex F320).fr F431 (by simp; omega)
       have B431':Blk w431 b19 _ [.bool false]:=B431
       refine eo_nil_sq ?_
       refine ec_ret ?_
       refine blk_ret ?_
       subst h
       refine ⟨some .ret,rfl,B443,fun w447 F448 BL449=>?_⟩
       have E450:=Ext.st E432 F448 (by simp; omega)
       have G455:Fr (l54::(D54::(b19::L))) w54 w447:=G437.stp F448 (upc (.inl mH) (fun m hm=>by cases hm))
       have B461:=B431'.fr F448 (by simp; omega)
       have B462:=B444.fr F448 (by simp; omega)
       exact ⟨rfl,⟨G455,E450,B461,B462,BL449⟩⟩
      ·replace h:=h.2 hc430
       refine ec_skip ?_
       refine blk_n ?_
       subst h
       refine ⟨none,rfl,(((BL119.ex F131).ex F183).ex F320),fun w465 F466 BL467=>?_⟩
       have E468:=Ext.st E414 F466 (by simp; omega)
       have G473:Fr (l54::(D54::(b19::L))) w54 w465:=G419.stp F466 (upc (.inl mH) (fun m hm=>by cases hm))
       have G474:Fr (l54::(D54::(b19::L))) w54r w465:=G420.stp F466 (upc (.inl mH) (fun m hm=>by cases hm))
       have B479:=(((B128.ex F131).ex F183).ex F320).fr F466 (by simp; omega)
       have B480:=(((B129.ex F131).ex F183).ex F320).fr F466 (by simp; omega)
       exact ⟨rfl,_,⟨rfl,G473,E468,B479,B480,BL467⟩,G474,(upc (.inl mH) (upc (.inl (mT mH)) (upc (.inl (mT (mT mH))) (fun m hm=>Or.inl (mT (mT (mT hm)))))))⟩
  ·rintro sx54 rfl T54 w54e v54 hI54
   replace h:=h.1 _ rfl
   obtain ⟨rfl,F54e,E54e,B54eb19,B54eD54,B54el54⟩:=hI54
   refine ⟨⟨_,rfl⟩,none,B54el54,fun w487 F488=>?_⟩
   have E489:=Ext.st E54e F488 (by simp; omega)
   have B494:=B54eb19.fr F488 (by simp; omega)
   have B495:=B54eD54.fr F488 (by simp; omega)
   refine blk_n ?_
   refine sq_n ?_
   refine ec_sr ?_
   refine o_store rfl B494 (vs:=[.bool true]) rfl sz_bool rfl rfl rfl ?_
   intro w496 F496 B496
   have E497:=Ext.st E489 F496 (by simp; omega)
   have B502:=B495.fr F496 (by simp; omega)
   have B496':Blk w496 b19 _ [.bool true]:=B496
   refine eo_nil_sq ?_
   refine ec_ret ?_
   refine marksS B502 (fun w503 F503=>?_)
   have E504:=Ext.st E497 F503 (by simp; omega)
   have B509:=B496'.fr F503 (by simp; omega)
   subst h
   exact marks0 ((endr1 (rv_c rfl (one_bool) B509 rfl) ⟨_,rfl,E504,rfl⟩))
  ·rintro yx54 rfl w54q v54 hI54
   replace h:=h.2 _ rfl
   obtain ⟨F54q,E54q,B54qb19,B54qD54,B54ql54⟩:=hI54
   refine ⟨⟨_,rfl⟩,(some .ret),B54ql54,fun w514 F515=>?_⟩
   have E516:=Ext.st E54q F515 (by simp; omega)
   have B521:=B54qb19.fr F515 (by simp; omega)
   have B522:=B54qD54.fr F515 (by simp; omega)
   refine blk_ret ?_
   refine sq_ret ?_
   refine marksS B522 (fun w523 F523=>?_)
   have E524:=Ext.st E516 F523 (by simp; omega)
   have B529:=B521.fr F523 (by simp; omega)
   replace h:=h.symm
   subst h
   exact marks0 ((endr1 (rv_c rfl (one_bool) B529 rfl) ⟨_,rfl,E524,rfl⟩))
def arena_Join_raw (d0:Arena) (d1:Ent) (y:Arena × Bool × Int):Prop :=
 (sma d0)∧(((!((checkA d0) != (0:Int)))=true→sm d1.val)∧(((((checkA d0) != (0:Int))||((checkE d1) != (0:Int)))=true→(y=(d0,false,(2:Int))))∧((((checkA d0) != (0:Int))||((checkE d1) != (0:Int)))=false→(sma d0∧((((decide ((findA d0 d1.val.kind d1.key)<0))&&((d0.slots.length:Int)==d0.cap))=true→(y=(d0,false,(4:Int))))∧(((decide ((findA d0 d1.val.kind d1.key)<0))&&((d0.slots.length:Int)==d0.cap))=false→(∃ x139,slices_Clone_Entry_raw d0.slots x139∧(((decide ((findA d0 d1.val.kind d1.key)<0))=true→((sm d1.val)∧((sm d1.val)∧(∃ x153,x153=(joinE d1 d1)∧((x139.length + 1≤9223372036854775807∧(x139.length + 1) * 120≤140737488355328)∧((slotsB (x139++([x153.1]:List Ent))=true)∧(((x139++([x153.1]:List Ent)).length≤19)∧(∃ x242,x242=(idxR (x139++([x153.1]:List Ent)))∧(y=((⟨d0.cap,(x139++([x153.1]:List Ent)),x242⟩:Arena),true,(0:Int)))))))))))∧((decide ((findA d0 d1.val.kind d1.key)<0))=false→((0≤(findA d0 d1.val.kind d1.key)∧(findA d0 d1.val.kind d1.key)<(x139.length:Int))∧(sm (nth x139 (findA d0 d1.val.kind d1.key)).val∧(sm d1.val∧(∃ x357,x357=(joinE (nth x139 (findA d0 d1.val.kind d1.key)) d1)∧((0≤(findA d0 d1.val.kind d1.key)∧(findA d0 d1.val.kind d1.key)<(x139.length:Int))∧(sm x357.1.val∧(∃ x447,x447=(sameE x357.1 (nth x139 (findA d0 d1.val.kind d1.key)))∧((0≤(findA d0 d1.val.kind d1.key)∧(findA d0 d1.val.kind d1.key)<(x139.length:Int))∧(y=((⟨d0.cap,(x139.set (findA d0 d1.val.kind d1.key).toNat x357.1),d0.idx⟩:Arena),(!x447),(0:Int))))))))))))))))))))
set_option maxRecDepth 20000 in
set_option maxHeartbeats 4000000 in
theorem arena_Join_c {L:List Nat} {w:World} {csP0:List Value} (d0:Arena) (HP0:Stb L w (fun w=>kArena.r w csP0 d0)) {csP1:List Value} (d1:Ent) (HP1:Stb L w (fun w=>kEnt.r w csP1 d1)) (hL:Lt L w) {y:Arena × Bool × Int} (h:arena_Join_raw d0 d1 y) :
  Calls Try.prog 31 [.agg csP0.toArray,.agg csP1.toArray].toArray w (Ret fun v w'=>Ext w w'∧∃ (cs90:List Value),v=.tuple #[.agg cs90.toArray,.bool y.2.1,.int .i64 y.2.2]∧Stb L w' (fun w=>kArena.r w cs90 y.1)):=by
 obtain ⟨A1,c2,A4,c5,rfl,H3,H6⟩:=kArena_open HP0
 obtain ⟨A7,c8,A10,c11,rfl,H9,H12⟩:=kEnt_open HP1
 unfold arena_Join_raw at h
 refine calls_ec Try.func31 rfl rfl rfl ?_
 refine ec_sr ?_
 refine o_box (cs:=(cArena d0 A1 c2 A4 c5)) rfl rfl rfl ?_
 intro b13 w13 e13 F13 B13
 have S13:=B13.stb (nin hL e13)
 have G14:Fr L w w13:=Fr.ext F13
 refine o_box (cs:=(cEnt d1 A7 c8 A10 c11)) rfl rfl rfl ?_
 intro b15 w15 e15 F15 B15
 have S15:=B15.stb (nin (hL.fr F13) e15)
 have E16:=F13.trans F15
 have G18:Fr L w13 w15:=Fr.ext F15
 refine o_alloc zero_api_Arena rfl rfl rfl ?_
 intro b19 w19 e19 F19 B19
 have n19:w.heap.size≤b19:=by rw [e19]; exact E16.size
 have m20:w.heap.size≤b19:=by rw [e19]; exact (G14.trans (Fr.ext F15)).size
 have E23:=E16.trans F19
 have G26:Fr L w15 w19:=Fr.ext F19
 refine o_w (v:=.bool false) (r_asg rfl) ?_
 refine o_w (v:=.int .i64 0) (r_asg rfl) ?_
 refine eo_r ?_
 refine o_w (v:=.agg (cArena d0 A1 c2 A4 c5).toArray) (r_lda agg_api_Arena rfl (vs:=(cArena d0 A1 c2 A4 c5)) rfl ((S13.fr (G18.trans (Fr.ext F19)) sI).now.part (n:=3) rfl)) ?_
 refine o_w (v:=.agg #[.int .i64 d0.cap,.slice A1 d0.slots.length c2,.slice A4 d0.idx.length c5,.bool false]) (r_build bld_arena_changing (vs:=[(0,.agg (cArena d0 A1 c2 A4 c5).toArray)]) (cells:=[.int .i64 d0.cap,.slice A1 d0.slots.length c2,.slice A4 d0.idx.length c5,.bool false]) rfl rfl) ?_
 refine o_box (cs:=[.int .i64 d0.cap,.slice A1 d0.slots.length c2,.slice A4 d0.idx.length c5,.bool false]) rfl rfl rfl ?_
 intro b27 w27 e27 F27 B27
 have n27:w.heap.size≤b27:=by rw [e27]; exact E23.size
 have q28:b19<b27:=by rw [e27]; exact B19.lt
 have m29:w.heap.size≤b27:=by rw [e27]; exact ((G14.trans (Fr.ext F15)).trans (Fr.ext F19)).size
 have E32:=E23.trans F27
 refine o_w (v:=.pointer (some ⟨b27,0,none⟩)) (r_asg rfl) ?_
 refine eo_nil_sq ?_
 refine ec_seq ?_
 refine ec_sr ?_
 refine o_w (v:=.pointer (some ⟨b27,0,none⟩)) (r_mov rfl) ?_
 refine o_w (v:=.agg (cEnt d1 A7 c8 A10 c11).toArray) (r_lda agg_api_Entry rfl (vs:=(cEnt d1 A7 c8 A10 c11)) rfl ((S15.fr (G26.trans (Fr.ext F27)) sI).now.part (n:=9) rfl)) ?_
 refine o_inl (vs:=[.pointer (some ⟨b27,0,none⟩),.agg (cEnt d1 A7 c8 A10 c11).toArray]) (caps:=[]) cf_arena_changing_put rfl rfl rfl rfl ?_
 refine calls_ec Try.func51 rfl rfl rfl ?_
 refine ec_sr ?_
 refine o_box (cs:=(cEnt d1 A7 c8 A10 c11)) rfl rfl rfl ?_
 intro b37 w37 e37 F37 B37
 have S37:=B37.stb (nin (((hL.fr E32).cons (B19.ex F27).lt).cons B27.lt) e37)
 have E38:=E32.trans F37
 have G39:=(((G14.trans (Fr.ext F15)).trans (Fr.ext F19)).trans (Fr.ext F27)).trans (Fr.ext F37)
 refine o_w (v:=.int .i64 0) (r_asg rfl) ?_
 refine eo_nil_sq ?_
 refine ec_seq ?_
 refine ec_sr ?_
 refine o_w (v:=.pointer (some ⟨b27,0,none⟩)) (r_mov rfl) ?_
 refine o_w (v:=.pointer (some ⟨b27,0,none⟩)) (r_nilchk rfl) ?_
 refine o_w (v:=.pointer (some ⟨b27,0,none⟩)) (r_fa fld_arena_changing_0 rfl rfl) ?_
 refine o_w (v:=.agg (cArena d0 A1 c2 A4 c5).toArray) (r_lda agg_api_Arena rfl (vs:=(cArena d0 A1 c2 A4 c5)) rfl ((B27.ex F37).part (n:=3) rfl)) ?_
 obtain ⟨ha46,h⟩:=h
 refine o_call cf_arena_Check rfl (arena_Check_c d0 (kArena_mk (d:=d0) (H3.up G39 sI (upc (.inr m29) (upc (.inr m20) (fun _ h=>.inl h)))) (H6.up G39 sI (upc (.inr m29) (upc (.inr m20) (fun _ h=>.inl h))))) (((hL.fr E38).cons ((B19.ex F27).ex F37).lt).cons (B27.ex F37).lt) (arCheck_ev d0 ha46)) rfl rfl ?_
 rintro _ w45 ⟨F45,rfl⟩
 have E47:=E38.trans F45
 have G49:=(((G18.trans (Fr.ext F19)).trans (Fr.ext F27)).trans (Fr.ext F37)).trans (Fr.ext F45)
 have G51:Fr (b27::(b19::L)) w37 w45:=Fr.ext F45
 refine o_w (v:=.bool ((checkA d0) != (0:Int))) (r_int rfl rfl rfl) ?_
 refine o_w (v:=.bool ((checkA d0) != (0:Int))) (r_mov rfl) ?_
 refine o_vg (v:=.agg (cEnt d1 A7 c8 A10 c11).toArray) (want_cf (t:=17) rfl rfl) (fun hk=>(r_lda agg_api_Entry rfl (vs:=(cEnt d1 A7 c8 A10 c11)) rfl ((S37.fr G51 sI).now.part (n:=9) rfl))) rfl rfl ?_
 obtain ⟨ha55,h⟩:=h
 refine o_callg (V:=.int .i64 (checkE d1)) cf_entry_Check (want_cf (t:=17) rfl rfl) (fun hk=>(mapv1 (gdT hk))) (fun hk=>(entry_Check_c d1 (kEnt_mk (d:=d1) (H9.up (G39.trans (Fr.ext F45)) sI (upc (.inr m29) (upc (.inr m20) (fun _ h=>.inl h)))) (H12.up (G39.trans (Fr.ext F45)) sI (upc (.inr m29) (upc (.inr m20) (fun _ h=>.inl h))))) (((hL.fr E47).cons (((B19.ex F27).ex F37).ex F45).lt).cons ((B27.ex F37).ex F45).lt) (entCheck_ev d1 (ha55 hk)))) rfl ?_
 intro w54 F54
 have E56:=E47.trans F54
 refine o_vg (v:=.bool ((checkE d1) != (0:Int))) (want_cf (t:=17) rfl rfl) (fun hk=>(r_int (gdT hk) rfl rfl)) rfl rfl ?_
 refine o_w (v:=.bool (((checkA d0) != (0:Int))||((checkE d1) != (0:Int)))) (r_pickOr rfl rfl (fun hf=>(gdT (notT hf)))) ?_
 refine eo_nil_sq ?_
 refine ec_cond rfl (fun hc63=>?_) (fun hc63=>?_)
 ·replace h:=h.1 hc63
  refine ec_sr ?_
  refine o_w (v:=.int .i64 2) (r_asg rfl) ?_
  refine eo_nil_sq ?_
  refine ec_ret ?_
  refine sq_ret ?_
  refine end1 (v:=.int .i64 2) rfl ⟨_,rfl,?_⟩
  refine o_w (v:=.int .i64 2) (r_asg rfl) ?_
  refine eo_r ?_
  refine o_w (v:=.int .i64 2) (r_mov rfl) ?_
  refine o_w (v:=.bool true) (r_int (v:=.bool true) rfl rfl rfl) ?_
  refine eo_nil_sq ?_
  refine ec_condT rfl rfl ?_
  refine ec_sr ?_
  refine o_w (v:=.agg (cArena d0 A1 c2 A4 c5).toArray) (r_lda agg_api_Arena rfl (vs:=(cArena d0 A1 c2 A4 c5)) rfl ((S13.fr (G49.trans (Fr.ext F54)) sI).now.part (n:=3) rfl)) ?_
  refine o_w (v:=.int .i64 2) (r_mov rfl) ?_
  refine o_store rfl ((((B19.ex F27).ex F37).ex F45).ex F54) (vs:=(cArena d0 A1 c2 A4 c5)) rfl sz_api_Arena rfl rfl rfl ?_
  intro w64 F64 B64
  have E65:=Ext.st E56 F64 (by simp; omega)
  have G66:Fr L w w64:=((G39.trans (Fr.ext F45)).trans (Fr.ext F54)).stp F64 (upc (.inr m20) (fun m hm=>by cases hm))
  have B64':Blk w64 b19 _ (cArena d0 A1 c2 A4 c5):=B64
  refine o_w (v:=.bool false) (r_asg rfl) ?_
  refine o_w (v:=.int .i64 2) (r_asg rfl) ?_
  refine eo_nil_sq ?_
  refine ec_ret ?_
  refine sq_ret ?_
  subst h
  exact (endr3 (rv_a rfl (agg_api_Arena) B64' (vs:=(cArena d0 A1 c2 A4 c5)) rfl rfl) (rv_t rfl) (rv_t rfl) ⟨_,rfl,E65,_,rfl,(kArena_mk (d:=d0) (H3.fr G66 sI) (H6.fr G66 sI))⟩)
 ·replace h:=h.2 hc63
  refine ec_skip ?_
  refine sq_n ?_
  refine ec_seq ?_
  obtain ⟨ha73,h⟩:=h
  refine ec_any0 (by kernel_rfl) [[],[0],[0,1],[0,1,2],[],[4],[4,5],[],[7],[0,1,2,3,4,5,6,7,8],[0,1,2,3,4,5,6,7,8,9]] [5,22,23,24,25,26,27,28,29,30,31] [fun v _=>v=(.pointer (some ⟨b27,0,none⟩):Value),fun v _=>v=(.pointer (some ⟨b27,0,none⟩):Value),fun v _=>v=(.pointer (some ⟨b27,0,none⟩):Value),fun v _=>v=(.agg (cArena d0 A1 c2 A4 c5).toArray:Value),fun v _=>v=(.pointer (some ⟨b37,1,none⟩):Value),fun v _=>v=(.pointer (some ⟨b37,1,none⟩):Value),fun v _=>v=(.int .i64 d1.val.kind:Value),fun v _=>v=(.pointer (some ⟨b37,0,none⟩):Value),fun v _=>v=(str d1.key:Value),fun v _=>v=(.int .i64 (findA d0 d1.val.kind d1.key):Value),fun v _=>v=(.int .i64 (findA d0 d1.val.kind d1.key):Value)] (by kernel_rfl) ⟨fun _ _ _ _ _ h=>h,fun _ _ _ _ _ h=>h,fun _ _ _ _ _ h=>h,fun _ _ _ _ _ h=>h,fun _ _ _ _ _ h=>h,fun _ _ _ _ _ h=>h,fun _ _ _ _ _ h=>h,fun _ _ _ _ _ h=>h,fun _ _ _ _ _ h=>h,fun _ _ _ _ _ h=>h,fun _ _ _ _ _ h=>h,trivial⟩ ?_ ?_
  ·refine ⟨?_,?_,?_,?_,?_,?_,?_,?_,?_,?_,?_,trivial⟩
   ·intro ρ w71o F71o hS hρ
    have q0:ρ 0=.pointer (some ⟨b27,0,none⟩):=hρ 0 (by kernel_rfl)
    exact o_q (r_mov q0) ⟨Fr.refl _ _,rfl⟩
   ·intro ρ w71o F71o hS hρ
    have q22:ρ 22=.pointer (some ⟨b27,0,none⟩):=hS 0 (by decide) 22 rfl
    exact o_q (r_nilchk q22) ⟨Fr.refl _ _,rfl⟩
   ·intro ρ w71o F71o hS hρ
    have q23:ρ 23=.pointer (some ⟨b27,0,none⟩):=hS 1 (by decide) 23 rfl
    exact o_q (r_fa fld_arena_changing_0 rfl q23) ⟨Fr.refl _ _,rfl⟩
   ·intro ρ w71o F71o hS hρ
    have q24:ρ 24=.pointer (some ⟨b27,0,none⟩):=hS 2 (by decide) 24 rfl
    exact o_q (r_lda agg_api_Arena q24 (vs:=(cArena d0 A1 c2 A4 c5)) rfl (((((B27.ex F37).ex F45).ex F54).ex F71o).part (n:=3) rfl)) ⟨Fr.refl _ _,rfl⟩
   ·intro ρ w71o F71o hS hρ
    have q3:ρ 3=.pointer (some ⟨b37,0,none⟩):=hρ 3 (by kernel_rfl)
    exact o_q (r_fa fld_api_Entry_1 rfl q3) ⟨Fr.refl _ _,rfl⟩
   ·intro ρ w71o F71o hS hρ
    have q26:ρ 26=.pointer (some ⟨b37,1,none⟩):=hS 4 (by decide) 26 rfl
    exact o_q (r_fa fld_api_Value_0 rfl q26) ⟨Fr.refl _ _,rfl⟩
   ·intro ρ w71o F71o hS hρ
    have q27:ρ 27=.pointer (some ⟨b37,1,none⟩):=hS 5 (by decide) 27 rfl
    exact o_q (r_ld one_int q27 ((S37.fr ((G51.trans (Fr.ext F54)).trans (Fr.ext F71o)) sI).now.cell rfl)) ⟨Fr.refl _ _,rfl⟩
   ·intro ρ w71o F71o hS hρ
    have q3:ρ 3=.pointer (some ⟨b37,0,none⟩):=hρ 3 (by kernel_rfl)
    exact o_q (r_fa fld_api_Entry_0 rfl q3) ⟨Fr.refl _ _,rfl⟩
   ·intro ρ w71o F71o hS hρ
    have q29:ρ 29=.pointer (some ⟨b37,0,none⟩):=hS 7 (by decide) 29 rfl
    exact o_q (r_ld one_string q29 ((S37.fr ((G51.trans (Fr.ext F54)).trans (Fr.ext F71o)) sI).now.cell rfl)) ⟨Fr.refl _ _,rfl⟩
   ·intro ρ w71o F71o hS hρ
    have E95:=E56.trans F71o
    have q25:ρ 25=.agg (cArena d0 A1 c2 A4 c5).toArray:=hS 3 (by decide) 25 rfl
    have q28:ρ 28=.int .i64 d1.val.kind:=hS 6 (by decide) 28 rfl
    have q30:ρ 30=str d1.key:=hS 8 (by decide) 30 rfl
    refine o_call cf_arena_Find (by simp only [List.map,ev,q25,q28,q30] <;> rfl) (arena_Find_c d0 (kArena_mk (d:=d0) (H3.up (((G39.trans (Fr.ext F45)).trans (Fr.ext F54)).trans (Fr.ext F71o)) sI (upc (.inr m29) (upc (.inr m20) (fun _ h=>.inl h)))) (H6.up (((G39.trans (Fr.ext F45)).trans (Fr.ext F54)).trans (Fr.ext F71o)) sI (upc (.inr m29) (upc (.inr m20) (fun _ h=>.inl h))))) d1.val.kind d1.key (((hL.fr E95).cons (((((B19.ex F27).ex F37).ex F45).ex F54).ex F71o).lt).cons ((((B27.ex F37).ex F45).ex F54).ex F71o).lt) (arFind_ev d0 d1.val.kind d1.key ha73)) rfl rfl ?_
    rintro _ w' ⟨F,rfl⟩
    exact eo_nil ⟨rfl,rfl,_,rfl,F,rfl⟩
   ·intro ρ w71o F71o hS hρ
    have q31:ρ 31=.int .i64 (findA d0 d1.val.kind d1.key):=hS 9 (by decide) 31 rfl
    exact o_q (r_asg q31) ⟨Fr.refl _ _,rfl⟩
  ·intro ρ w71 F71 hS hρ
   have q5:ρ 5=.int .i64 (findA d0 d1.val.kind d1.key):=hS 10 5 rfl
   obtain ⟨ρ',rfl⟩:∃ ρ',ρ=envs (ovr [5,22,23,24,25,26,27,28,29,30,31] ρ' _) [(5,.int .i64 (findA d0 d1.val.kind d1.key))]:=⟨ρ,ovr_self hρ ⟨q5,trivial⟩⟩
   have E102:=E56.trans F71
   refine sq_n ?_
   iterate 2 refine ec_seq ?_
   refine ec_any0 (by kernel_rfl) [[],[0],[0,1],[0,1,2],[0,1,2,3],[0,1,2,3,4],[0,1,2,3,4,5],[0,1,2,3,4,5,6],[0,1,2,3,4,5,6,7],[0,1,2],[0,1,2,9],[0,1,2,9,10],[0,1,2,9,10,11],[0,1,2,9,10,11,12],[0,1,2,3,4,5,6,7,8,9,10,11,12,13],[0,1,2,3,4,5,6,7,8,9,10,11,12,13,14]] [32,33,34,35,36,37,38,39,40,41,42,43,44,45,46,47] [fun v _=>v=(.int .i64 (findA d0 d1.val.kind d1.key):Value),fun v _=>v=(.bool (decide ((findA d0 d1.val.kind d1.key)<0)):Value),fun v _=>v=(.bool (decide ((findA d0 d1.val.kind d1.key)<0)):Value),fun v _=>v=((bif (decide ((findA d0 d1.val.kind d1.key)<0)) then (.pointer (some ⟨b27,0,none⟩):Value) else undef):Value),fun v _=>v=((bif (decide ((findA d0 d1.val.kind d1.key)<0)) then (.pointer (some ⟨b27,0,none⟩):Value) else undef):Value),fun v _=>v=((bif (decide ((findA d0 d1.val.kind d1.key)<0)) then (.pointer (some ⟨b27,0,none⟩):Value) else undef):Value),fun v _=>v=((bif (decide ((findA d0 d1.val.kind d1.key)<0)) then (.pointer (some ⟨b27,1,none⟩):Value) else undef):Value),fun v _=>v=((bif (decide ((findA d0 d1.val.kind d1.key)<0)) then (.slice A1 d0.slots.length c2:Value) else undef):Value),fun v _=>v=((bif (decide ((findA d0 d1.val.kind d1.key)<0)) then (.int .i64 (d0.slots.length:Int):Value) else undef):Value),fun v _=>v=((bif (decide ((findA d0 d1.val.kind d1.key)<0)) then (.pointer (some ⟨b27,0,none⟩):Value) else undef):Value),fun v _=>v=((bif (decide ((findA d0 d1.val.kind d1.key)<0)) then (.pointer (some ⟨b27,0,none⟩):Value) else undef):Value),fun v _=>v=((bif (decide ((findA d0 d1.val.kind d1.key)<0)) then (.pointer (some ⟨b27,0,none⟩):Value) else undef):Value),fun v _=>v=((bif (decide ((findA d0 d1.val.kind d1.key)<0)) then (.pointer (some ⟨b27,0,none⟩):Value) else undef):Value),fun v _=>v=((bif (decide ((findA d0 d1.val.kind d1.key)<0)) then (.int .i64 d0.cap:Value) else undef):Value),fun v _=>v=((bif (decide ((findA d0 d1.val.kind d1.key)<0)) then (.bool ((d0.slots.length:Int)==d0.cap):Value) else undef):Value),fun v _=>v=(.bool ((decide ((findA d0 d1.val.kind d1.key)<0))&&((d0.slots.length:Int)==d0.cap)):Value)] (by kernel_rfl) ⟨fun _ _ _ _ _ h=>h,fun _ _ _ _ _ h=>h,fun _ _ _ _ _ h=>h,fun _ _ _ _ _ h=>h,fun _ _ _ _ _ h=>h,fun _ _ _ _ _ h=>h,fun _ _ _ _ _ h=>h,fun _ _ _ _ _ h=>h,fun _ _ _ _ _ h=>h,fun _ _ _ _ _ h=>h,fun _ _ _ _ _ h=>h,fun _ _ _ _ _ h=>h,fun _ _ _ _ _ h=>h,fun _ _ _ _ _ h=>h,fun _ _ _ _ _ h=>h,fun _ _ _ _ _ h=>h,trivial⟩ ?_ ?_
   ·refine ⟨?_,?_,?_,?_,?_,?_,?_,?_,?_,?_,?_,?_,?_,?_,?_,?_,trivial⟩
    ·intro ρ w109o F109o hS hρ
     have q5:ρ 5=.int .i64 (findA d0 d1.val.kind d1.key):=hρ 5 (by kernel_rfl)
     exact o_q (r_mov q5) ⟨Fr.refl _ _,rfl⟩
    ·intro ρ w109o F109o hS hρ
     have q32:ρ 32=.int .i64 (findA d0 d1.val.kind d1.key):=hS 0 (by decide) 32 rfl
     exact o_q (r_int q32 rfl rfl) ⟨Fr.refl _ _,rfl⟩
    ·intro ρ w109o F109o hS hρ
     have q33:ρ 33=.bool (decide ((findA d0 d1.val.kind d1.key)<0)):=hS 1 (by decide) 33 rfl
     exact o_q (r_mov q33) ⟨Fr.refl _ _,rfl⟩
    ·intro ρ w109o F109o hS hρ
     have q0:ρ 0=.pointer (some ⟨b27,0,none⟩):=hρ 0 (by kernel_rfl)
     have q34:ρ 34=.bool (decide ((findA d0 d1.val.kind d1.key)<0)):=hS 2 (by decide) 34 rfl
     exact o_vg (want_ct (t:=34) rfl q34) (fun hk=>(r_mov q0)) rfl rfl (eo_nil ⟨rfl,rfl,_,rfl,Fr.refl _ _,rfl⟩)
    ·intro ρ w109o F109o hS hρ
     have q34:ρ 34=.bool (decide ((findA d0 d1.val.kind d1.key)<0)):=hS 2 (by decide) 34 rfl
     have q35:ρ 35=(bif (decide ((findA d0 d1.val.kind d1.key)<0)) then (.pointer (some ⟨b27,0,none⟩):Value) else undef):=hS 3 (by decide) 35 rfl
     exact o_vg (want_ct (t:=34) rfl q34) (fun hk=>(r_nilchk (q35.trans (gdT hk)))) rfl rfl (eo_nil ⟨rfl,rfl,_,rfl,Fr.refl _ _,rfl⟩)
    ·intro ρ w109o F109o hS hρ
     have q34:ρ 34=.bool (decide ((findA d0 d1.val.kind d1.key)<0)):=hS 2 (by decide) 34 rfl
     have q36:ρ 36=(bif (decide ((findA d0 d1.val.kind d1.key)<0)) then (.pointer (some ⟨b27,0,none⟩):Value) else undef):=hS 4 (by decide) 36 rfl
     exact o_vg (want_ct (t:=34) rfl q34) (fun hk=>(r_fa fld_arena_changing_0 rfl (q36.trans (gdT hk)))) rfl rfl (eo_nil ⟨rfl,rfl,_,rfl,Fr.refl _ _,rfl⟩)
    ·intro ρ w109o F109o hS hρ
     have q34:ρ 34=.bool (decide ((findA d0 d1.val.kind d1.key)<0)):=hS 2 (by decide) 34 rfl
     have q37:ρ 37=(bif (decide ((findA d0 d1.val.kind d1.key)<0)) then (.pointer (some ⟨b27,0,none⟩):Value) else undef):=hS 5 (by decide) 37 rfl
     exact o_vg (want_ct (t:=34) rfl q34) (fun hk=>(r_fa fld_api_Arena_1 rfl (q37.trans (gdT hk)))) rfl rfl (eo_nil ⟨rfl,rfl,_,rfl,Fr.refl _ _,rfl⟩)
    ·intro ρ w109o F109o hS hρ
     have q34:ρ 34=.bool (decide ((findA d0 d1.val.kind d1.key)<0)):=hS 2 (by decide) 34 rfl
     have q38:ρ 38=(bif (decide ((findA d0 d1.val.kind d1.key)<0)) then (.pointer (some ⟨b27,1,none⟩):Value) else undef):=hS 6 (by decide) 38 rfl
     exact o_vg (want_ct (t:=34) rfl q34) (fun hk=>(r_ld one_s_api_Entry (q38.trans (gdT hk)) ((((((B27.ex F37).ex F45).ex F54).ex F71).ex F109o).cell rfl))) rfl rfl (eo_nil ⟨rfl,rfl,_,rfl,Fr.refl _ _,rfl⟩)
    ·intro ρ w109o F109o hS hρ
     have q34:ρ 34=.bool (decide ((findA d0 d1.val.kind d1.key)<0)):=hS 2 (by decide) 34 rfl
     have q39:ρ 39=(bif (decide ((findA d0 d1.val.kind d1.key)<0)) then (.slice A1 d0.slots.length c2:Value) else undef):=hS 7 (by decide) 39 rfl
     exact o_vg (want_ct (t:=34) rfl q34) (fun hk=>(r_len_slc un_s_api_Entry (q39.trans (gdT hk)))) rfl rfl (eo_nil ⟨rfl,rfl,_,rfl,Fr.refl _ _,rfl⟩)
    ·intro ρ w109o F109o hS hρ
     have q0:ρ 0=.pointer (some ⟨b27,0,none⟩):=hρ 0 (by kernel_rfl)
     have q34:ρ 34=.bool (decide ((findA d0 d1.val.kind d1.key)<0)):=hS 2 (by decide) 34 rfl
     exact o_vg (want_ct (t:=34) rfl q34) (fun hk=>(r_mov q0)) rfl rfl (eo_nil ⟨rfl,rfl,_,rfl,Fr.refl _ _,rfl⟩)
    ·intro ρ w109o F109o hS hρ
     have q34:ρ 34=.bool (decide ((findA d0 d1.val.kind d1.key)<0)):=hS 2 (by decide) 34 rfl
     have q41:ρ 41=(bif (decide ((findA d0 d1.val.kind d1.key)<0)) then (.pointer (some ⟨b27,0,none⟩):Value) else undef):=hS 9 (by decide) 41 rfl
     exact o_vg (want_ct (t:=34) rfl q34) (fun hk=>(r_nilchk (q41.trans (gdT hk)))) rfl rfl (eo_nil ⟨rfl,rfl,_,rfl,Fr.refl _ _,rfl⟩)
    ·intro ρ w109o F109o hS hρ
     have q34:ρ 34=.bool (decide ((findA d0 d1.val.kind d1.key)<0)):=hS 2 (by decide) 34 rfl
     have q42:ρ 42=(bif (decide ((findA d0 d1.val.kind d1.key)<0)) then (.pointer (some ⟨b27,0,none⟩):Value) else undef):=hS 10 (by decide) 42 rfl
     exact o_vg (want_ct (t:=34) rfl q34) (fun hk=>(r_fa fld_arena_changing_0 rfl (q42.trans (gdT hk)))) rfl rfl (eo_nil ⟨rfl,rfl,_,rfl,Fr.refl _ _,rfl⟩)
    ·intro ρ w109o F109o hS hρ
     have q34:ρ 34=.bool (decide ((findA d0 d1.val.kind d1.key)<0)):=hS 2 (by decide) 34 rfl
     have q43:ρ 43=(bif (decide ((findA d0 d1.val.kind d1.key)<0)) then (.pointer (some ⟨b27,0,none⟩):Value) else undef):=hS 11 (by decide) 43 rfl
     exact o_vg (want_ct (t:=34) rfl q34) (fun hk=>(r_fa fld_api_Arena_0 rfl (q43.trans (gdT hk)))) rfl rfl (eo_nil ⟨rfl,rfl,_,rfl,Fr.refl _ _,rfl⟩)
    ·intro ρ w109o F109o hS hρ
     have q34:ρ 34=.bool (decide ((findA d0 d1.val.kind d1.key)<0)):=hS 2 (by decide) 34 rfl
     have q44:ρ 44=(bif (decide ((findA d0 d1.val.kind d1.key)<0)) then (.pointer (some ⟨b27,0,none⟩):Value) else undef):=hS 12 (by decide) 44 rfl
     exact o_vg (want_ct (t:=34) rfl q34) (fun hk=>(r_ld one_int (q44.trans (gdT hk)) ((((((B27.ex F37).ex F45).ex F54).ex F71).ex F109o).cell rfl))) rfl rfl (eo_nil ⟨rfl,rfl,_,rfl,Fr.refl _ _,rfl⟩)
    ·intro ρ w109o F109o hS hρ
     have q34:ρ 34=.bool (decide ((findA d0 d1.val.kind d1.key)<0)):=hS 2 (by decide) 34 rfl
     have q40:ρ 40=(bif (decide ((findA d0 d1.val.kind d1.key)<0)) then (.int .i64 (d0.slots.length:Int):Value) else undef):=hS 8 (by decide) 40 rfl
     have q45:ρ 45=(bif (decide ((findA d0 d1.val.kind d1.key)<0)) then (.int .i64 d0.cap:Value) else undef):=hS 13 (by decide) 45 rfl
     exact o_vg (want_ct (t:=34) rfl q34) (fun hk=>(r_int (q40.trans (gdT hk)) (q45.trans (gdT hk)) rfl)) rfl rfl (eo_nil ⟨rfl,rfl,_,rfl,Fr.refl _ _,rfl⟩)
    ·intro ρ w109o F109o hS hρ
     have q34:ρ 34=.bool (decide ((findA d0 d1.val.kind d1.key)<0)):=hS 2 (by decide) 34 rfl
     have q46:ρ 46=(bif (decide ((findA d0 d1.val.kind d1.key)<0)) then (.bool ((d0.slots.length:Int)==d0.cap):Value) else undef):=hS 14 (by decide) 46 rfl
     exact o_q (r_pickAnd q34 (fun ht=>(q46.trans (gdT ht))) rfl) ⟨Fr.refl _ _,rfl⟩
   ·intro ρ w109 F109 hS hρ
    have q47:ρ 47=.bool ((decide ((findA d0 d1.val.kind d1.key)<0))&&((d0.slots.length:Int)==d0.cap)):=hS 15 47 rfl
    obtain ⟨ρ',rfl⟩:∃ ρ',ρ=envs (ovr [32,33,34,35,36,37,38,39,40,41,42,43,44,45,46,47] ρ' _) [(47,.bool ((decide ((findA d0 d1.val.kind d1.key)<0))&&((d0.slots.length:Int)==d0.cap)))]:=⟨ρ,ovr_self hρ ⟨q47,trivial⟩⟩
    have E124:=E102.trans F109
    have G125:=(((G39.trans (Fr.ext F45)).trans (Fr.ext F54)).trans (Fr.ext F71)).trans (Fr.ext F109)
    refine sq_n ?_
    refine ec_cond rfl (fun hc131=>?_) (fun hc131=>?_)
    ·replace h:=h.1 hc131
     refine ec_sr ?_
     refine o_w (v:=.int .i64 4) (r_asg rfl) ?_
     refine eo_nil_sq ?_
     refine ec_ret ?_
     refine sq_ret ?_
     refine end1 (v:=.int .i64 4) rfl ⟨_,rfl,?_⟩
     refine o_w (v:=.int .i64 4) (r_asg rfl) ?_
     refine eo_r ?_
     refine o_w (v:=.int .i64 4) (r_mov rfl) ?_
     refine o_w (v:=.bool true) (r_int (v:=.bool true) rfl rfl rfl) ?_
     refine eo_nil_sq ?_
     refine ec_condT rfl rfl ?_
     refine ec_sr ?_
     refine o_w (v:=.agg (cArena d0 A1 c2 A4 c5).toArray) (r_lda agg_api_Arena rfl (vs:=(cArena d0 A1 c2 A4 c5)) rfl ((S13.fr (((G49.trans (Fr.ext F54)).trans (Fr.ext F71)).trans (Fr.ext F109)) sI).now.part (n:=3) rfl)) ?_
     refine o_w (v:=.int .i64 4) (r_mov rfl) ?_
     refine o_store rfl ((((((B19.ex F27).ex F37).ex F45).ex F54).ex F71).ex F109) (vs:=(cArena d0 A1 c2 A4 c5)) rfl sz_api_Arena rfl rfl rfl ?_
     intro w132 F132 B132
     have E133:=Ext.st E124 F132 (by simp; omega)
     have G134:Fr L w w132:=G125.stp F132 (upc (.inr m20) (fun m hm=>by cases hm))
     have B132':Blk w132 b19 _ (cArena d0 A1 c2 A4 c5):=B132
     refine o_w (v:=.bool false) (r_asg rfl) ?_
     refine o_w (v:=.int .i64 4) (r_asg rfl) ?_
     refine eo_nil_sq ?_
     refine ec_ret ?_
     refine sq_ret ?_
     subst h
     exact (endr3 (rv_a rfl (agg_api_Arena) B132' (vs:=(cArena d0 A1 c2 A4 c5)) rfl rfl) (rv_t rfl) (rv_t rfl) ⟨_,rfl,E133,_,rfl,(kArena_mk (d:=d0) (H3.fr G134 sI) (H6.fr G134 sI))⟩)
    ·replace h:=h.2 hc131
     refine ec_skip ?_
     refine sq_n ?_
     refine ec_sr ?_
     refine o_w (v:=.pointer (some ⟨b27,0,none⟩)) (r_mov rfl) ?_
     refine o_w (v:=.pointer (some ⟨b27,0,none⟩)) (r_nilchk rfl) ?_
     refine o_w (v:=.pointer (some ⟨b27,0,none⟩)) (r_fa fld_arena_changing_0 rfl rfl) ?_
     refine o_w (v:=.pointer (some ⟨b27,1,none⟩)) (r_fa fld_api_Arena_1 rfl rfl) ?_
     refine o_w (v:=.slice A1 d0.slots.length c2) (r_ld one_s_api_Entry rfl ((((((B27.ex F37).ex F45).ex F54).ex F71).ex F109).cell rfl)) ?_
     obtain ⟨x139,hx139,h⟩:=h
     refine o_call cf_slices_Clone_Entry rfl (slices_Clone_Entry_c d0.slots (H3.up G125 sI (upc (.inr m29) (upc (.inr m20) (fun _ h=>.inl h)))) (((hL.fr E124).cons ((((((B19.ex F27).ex F37).ex F45).ex F54).ex F71).ex F109).lt).cons (((((B27.ex F37).ex F45).ex F54).ex F71).ex F109).lt) hx139) rfl rfl ?_
     have lo140:w.heap.size≤w109.heap.size:=E124.size
     rintro v140 w139 ⟨F139,O140,N140⟩
     have P141:∀ m∈own v140,m∈L∨w.heap.size≤m:=fun m hm=>.inr (Nat.le_trans (G125.size) (N140 m hm))
     have E145:=E124.trans F139
     have G149:=(((G51.trans (Fr.ext F54)).trans (Fr.ext F71)).trans (Fr.ext F109)).trans (Fr.ext F139)
     refine o_w (v:=v140) (r_asg rfl) ?_
     refine eo_nil_sq ?_
     refine ec_seq ?_
     refine ec_sr ?_
     refine o_w (v:=.int .i64 (findA d0 d1.val.kind d1.key)) (r_mov rfl) ?_
     refine o_w (v:=.bool (decide ((findA d0 d1.val.kind d1.key)<0))) (r_int rfl rfl rfl) ?_
     refine eo_nil_sq ?_
     refine ec_cond rfl (fun hc152=>?_) (fun hc152=>?_)
     ·replace h:=h.1 hc152
      refine ec_sr ?_
      iterate 2 refine o_w (v:=.agg (cEnt d1 A7 c8 A10 c11).toArray) (r_lda agg_api_Entry rfl (vs:=(cEnt d1 A7 c8 A10 c11)) rfl ((S37.fr G149 sI).now.part (n:=9) rfl)) ?_
      obtain ⟨ha154,h⟩:=h
      obtain ⟨ha155,h⟩:=h
      obtain ⟨x153,hx153,h⟩:=h
      refine o_call cf_entry_Join rfl (entry_Join_c d1 (kEnt_mk (d:=d1) (H9.up (G125.trans (Fr.ext F139)) sI (upo P141 (upc (.inr m29) (upc (.inr m20) (fun _ h=>.inl h))))) (H12.up (G125.trans (Fr.ext F139)) sI (upo P141 (upc (.inr m29) (upc (.inr m20) (fun _ h=>.inl h)))))) d1 (kEnt_mk (d:=d1) (H9.up (G125.trans (Fr.ext F139)) sI (upo P141 (upc (.inr m29) (upc (.inr m20) (fun _ h=>.inl h))))) (H12.up (G125.trans (Fr.ext F139)) sI (upo P141 (upc (.inr m29) (upc (.inr m20) (fun _ h=>.inl h)))))) ((((hL.fr E145).cons (((((((B19.ex F27).ex F37).ex F45).ex F54).ex F71).ex F109).ex F139).lt).cons ((((((B27.ex F37).ex F45).ex F54).ex F71).ex F109).ex F139).lt).own O140) (eq_ev hx153 (entJoin_ev d1 d1 ha154 ha155))) rfl rfl ?_
      rintro _ w153 ⟨F153,cs156,rfl,H157⟩
      have E158:=E145.trans F153
      have B163:=(((((((B19.ex F27).ex F37).ex F45).ex F54).ex F71).ex F109).ex F139).ex F153
      obtain ⟨A166,c167,A169,c170,rfl,H168,H171⟩:=kEnt_open H157
      refine o_w (v:=.tuple #[.agg (cEnt x153.1 A166 c167 A169 c170).toArray,.int .i64 x153.2]) (r_mov rfl) ?_
      refine o_w (v:=.agg (cEnt x153.1 A166 c167 A169 c170).toArray) (r_ext rfl rfl) ?_
      refine o_w (v:=.int .i64 x153.2) (r_ext rfl rfl) ?_
      refine o_alloc zero_api_Entry rfl rfl rfl ?_
      intro b172 w172 e172 F172 B172
      have n172:w.heap.size≤b172:=by rw [e172]; exact E158.size
      have q173:b19<b172:=by rw [e172]; exact B163.lt
      have q174:b27<b172:=by rw [e172]; exact (((((((B27.ex F37).ex F45).ex F54).ex F71).ex F109).ex F139).ex F153).lt
      have m179:w153.heap.size≤b172:=Nat.le_of_eq e172.symm
      have Ob180:=(O140.ex F153).born F172 (Nat.le_of_eq e172.symm) B172.lt
      have E181:=E158.trans F172
      have G186:Fr (own v140++(b27::(b19::L))) w153 w172:=Fr.ext F172
      have B188:=(((((((B27.ex F37).ex F45).ex F54).ex F71).ex F109).ex F139).ex F153).ex F172
      refine o_store rfl B172 (vs:=(cEnt x153.1 A166 c167 A169 c170)) rfl sz_api_Entry rfl rfl rfl ?_
      intro w190 F190 B190
      have E191:=Ext.st E181 F190 (by simp; omega)
      have G196:Fr (own v140++(b27::(b19::L))) w153 w190:=G186.stp F190 (upc (.inr m179) (fun m hm=>by cases hm))
      have B197:=(B163.ex F172).fr F190 (by simp; omega)
      have B198:=B188.fr F190 (by simp; omega)
      have O199:=Ob180.fr F190 (by simp)
      have B190':Blk w190 b172 _ (cEnt x153.1 A166 c167 A169 c170):=B190
      refine o_w (v:=.int .i64 x153.2) (r_asg rfl) ?_
      refine eo_r ?_
      refine o_w (v:=.pointer (some ⟨b27,0,none⟩)) (r_mov rfl) ?_
      refine o_w (v:=v140) (r_mov rfl) ?_
      refine o_w (v:=.agg (cEnt x153.1 A166 c167 A169 c170).toArray) (r_lda agg_api_Entry rfl (vs:=(cEnt x153.1 A166 c167 A169 c170)) rfl (B190'.part (n:=9) rfl)) ?_
      refine o_bslice slc_s_api_Entry rfl (vs:=[.agg (cEnt x153.1 A166 c167 A169 c170).toArray]) rfl rfl rfl (cs:=[str x153.1.key,.int .i64 x153.1.val.kind,.int .i64 x153.1.val.time,.int .i64 x153.1.val.node,.bool x153.1.val.dead,str x153.1.val.text,.slice A166 x153.1.val.plus.length c167,.slice A169 x153.1.val.minus.length c170,.int .u64 x153.1.val.flags]) rfl rfl rfl rfl ?_
      intro b200 w200 e200 F200 B200
      have N200:=nin (((((hL.fr E191).cons B197.lt).cons B198.lt).own O199).cons B190'.lt) e200
      have S200:=B200.stb N200
      have E201:=E191.trans F200
      obtain ⟨ha212,h⟩:=h
      refine o_app slc_s_api_Entry rfl rfl rfl (O199.ex F200) rfl S200.now (ys:=([x153.1]:List Ent)) rfl rfl rfl (rowd1 (cs:=(cEnt x153.1 A166 c167 A169 c170)) (kEnt_mk (d:=x153.1) (H168.up (G196.trans (Fr.ext F200)) sI (upo (fun m hm=>Or.inl (List.mem_append_left _ hm)) (upc (.inr m179) (upc (.inl (List.mem_append_right _ mH)) (upc (.inl (List.mem_append_right _ (mT mH))) (fun m hm=>Or.inl (List.mem_append_right _ (mT (mT hm))))))))) (H171.up (G196.trans (Fr.ext F200)) sI (upo (fun m hm=>Or.inl (List.mem_append_left _ hm)) (upc (.inr m179) (upc (.inl (List.mem_append_right _ mH)) (upc (.inl (List.mem_append_right _ (mT mH))) (fun m hm=>Or.inl (List.mem_append_right _ (mT (mT hm)))))))))) rfl) ha212 rfl rfl ?_
      intro v211 w211 F211 O211 N211
      have E219:=Ext.st E201 F211 (fun m hm=>Nat.le_trans lo140 ((O199.ex F200).lo m hm))
      have B226:=(B197.ex F200).fr F211 (fun hm=>((O199.ex F200).below b19 (by simp)).2 hm)
      have B227:=(B198.ex F200).fr F211 (fun hm=>((O199.ex F200).below b27 (by simp)).2 hm)
      have B228:=(B190'.ex F200).fr F211 (fun hm=>((O199.ex F200).below b172 (by simp)).2 hm)
      refine o_w (v:=.pointer (some ⟨b27,0,none⟩)) (r_nilchk rfl) ?_
      refine o_w (v:=.pointer (some ⟨b27,0,none⟩)) (r_fa fld_arena_changing_0 rfl rfl) ?_
      refine o_w (v:=.pointer (some ⟨b27,1,none⟩)) (r_fa fld_api_Arena_1 rfl rfl) ?_
      obtain ⟨A229,c230,rfl⟩:=O211.shape
      refine o_store rfl B227 (vs:=[(.slice A229 (x139++([x153.1]:List Ent)).length c230)]) rfl sz_s_api_Entry rfl rfl rfl ?_
      intro w231 F231 B231
      have E232:=Ext.st E219 F231 (by simp; omega)
      have B239:=B226.fr F231 (by simp; omega)
      have B240:=B228.fr F231 (by simp; omega)
      have O241:=O211.fr F231 (by simp)
      have B231':Blk w231 b27 _ [.int .i64 d0.cap,(.slice A229 (x139++([x153.1]:List Ent)).length c230),.slice A4 d0.idx.length c5,.bool false]:=B231
      refine eo_r ?_
      iterate 3 refine o_w (v:=.pointer (some ⟨b27,0,none⟩)) (r_mov rfl) ?_
      refine o_w (v:=.pointer (some ⟨b27,0,none⟩)) (r_nilchk rfl) ?_
      refine o_w (v:=.pointer (some ⟨b27,0,none⟩)) (r_fa fld_arena_changing_0 rfl rfl) ?_
      refine o_w (v:=.pointer (some ⟨b27,1,none⟩)) (r_fa fld_api_Arena_1 rfl rfl) ?_
      refine o_w (v:=(.slice A229 (x139++([x153.1]:List Ent)).length c230)) (r_ld one_s_api_Entry rfl (B231'.cell rfl)) ?_
      obtain ⟨A243,c244,eA243,H245⟩:=O241.still
      cases eA243
      have Zw231_246:=Fr.refl (b172::(b27::(b19::L))) w231
      obtain ⟨ha248,h⟩:=h
      obtain ⟨ha249,h⟩:=h
      obtain ⟨x242,hx242,h⟩:=h
      refine o_call cf_arena_index rfl (arena_index_c (x139++([x153.1]:List Ent)) (H245.fr Zw231_246 sI) ((((hL.fr E232).cons B239.lt).cons B231'.lt).cons B240.lt) (eq_ev hx242 (arIndex_ev (x139++([x153.1]:List Ent)) ha248 ha249))) rfl rfl ?_
      rintro _ w242 ⟨F242,A250,c251,rfl,H252⟩
      have E253:=E232.trans F242
      refine o_w (v:=.pointer (some ⟨b27,0,none⟩)) (r_nilchk rfl) ?_
      refine o_w (v:=.pointer (some ⟨b27,0,none⟩)) (r_fa fld_arena_changing_0 rfl rfl) ?_
      refine o_w (v:=.pointer (some ⟨b27,2,none⟩)) (r_fa fld_api_Arena_2 rfl rfl) ?_
      refine o_store rfl (B231'.ex F242) (vs:=[.slice A250 x242.length c251]) rfl sz_s_int rfl rfl rfl ?_
      intro w264 F264 B264
      have E265:=Ext.st E253 F264 (by simp; omega)
      have G272:Fr (b172::(b27::(b19::L))) w231 w264:=(Zw231_246.trans (Fr.ext F242)).stp F264 (upc (.inl (mT mH)) (fun m hm=>by cases hm))
      have G273:Fr (b172::(b27::(b19::L))) w242 w264:=(Fr.refl _ _).stp F264 (upc (.inl (mT mH)) (fun m hm=>by cases hm))
      have B274:=(B239.ex F242).fr F264 (by simp; omega)
      have B264':Blk w264 b27 _ [.int .i64 d0.cap,.slice A229 (x139++([x153.1]:List Ent)).length c230,.slice A250 x242.length c251,.bool false]:=B264
      refine o_w (v:=.pointer (some ⟨b27,0,none⟩)) (r_nilchk rfl) ?_
      refine o_w (v:=.pointer (some ⟨b27,3,none⟩)) (r_fa fld_arena_changing_1 rfl rfl) ?_
      refine o_store rfl B264' (vs:=[.bool true]) rfl sz_bool rfl rfl rfl ?_
      intro w276 F276 B276
      have E277:=Ext.st E265 F276 (by simp; omega)
      have G284:Fr (b172::(b27::(b19::L))) w231 w276:=G272.stp F276 (upc (.inl (mT mH)) (fun m hm=>by cases hm))
      have G285:Fr (b172::(b27::(b19::L))) w242 w276:=G273.stp F276 (upc (.inl (mT mH)) (fun m hm=>by cases hm))
      have B286:=B274.fr F276 (by simp; omega)
      have B276':Blk w276 b27 _ [.int .i64 d0.cap,.slice A229 (x139++([x153.1]:List Ent)).length c230,.slice A250 x242.length c251,.bool true]:=B276
      refine eo_r ?_
      refine o_w (v:=.int .i64 0) (r_asg rfl) ?_
      refine eo_nil_sq ?_
      refine ec_ret ?_
      refine sq_ret ?_
      refine end1 (v:=.int .i64 0) rfl ⟨_,rfl,?_⟩
      refine o_w (v:=.int .i64 0) (r_asg rfl) ?_
      refine eo_r ?_
      refine o_w (v:=.int .i64 0) (r_mov rfl) ?_
      refine o_w (v:=.bool false) (r_int (v:=.bool false) rfl rfl rfl) ?_
      refine eo_nil_sq ?_
      refine ec_condF rfl rfl ?_
      refine ec_skip ?_
      refine sq_n ?_
      refine ec_seq ?_
      have qb288_b19:b19<w276.heap.size:=B286.lt
      refine ec_anyN (by kernel_rfl) [[],[0],[0,1],[0,1,2],[],[4],[4,5],[4,5,6],[0,1,2,3],[0,1,2,3,4,5,6,7,8],[0,1,2,3,4,5,6,7,8,9]] [5,6,19,20,21,22,23,24,25,26] (b19::[]) [8] [[b19]] [[8,9,10]] [fun w'=>Blk w' b19 25 [.int .i64 0,.slice none ([]:List Ent).length 0,.slice none ([]:List Int).length 0],fun w'=>Blk w' b19 25 [.int .i64 d0.cap,.slice A229 (x139++([x153.1]:List Ent)).length c230,.slice A250 x242.length c251]] [fun v _=>v=(.pointer (some ⟨b27,0,none⟩):Value),fun v _=>v=(.pointer (some ⟨b27,0,none⟩):Value),fun v _=>v=(.pointer (some ⟨b27,0,none⟩):Value),fun v _=>v=(.agg #[.int .i64 d0.cap,.slice A229 (x139++([x153.1]:List Ent)).length c230,.slice A250 x242.length c251]:Value),fun v _=>v=(.pointer (some ⟨b27,0,none⟩):Value),fun v _=>v=(.pointer (some ⟨b27,0,none⟩):Value),fun v _=>v=(.pointer (some ⟨b27,3,none⟩):Value),fun v _=>v=(.bool true:Value),fun _ _=>True,fun v _=>v=(.bool true:Value),fun v _=>v=(.int .i64 0:Value)] (by kernel_rfl) (allM1 (fun m hm=>by first | exact hm | (simp at hm ⊢; simp [hm]; done) | simp_all) (fun _ h=>by cases h)) ⟨fun _ _ _ _ _ h=>h,fun _ _ _ _ _ h=>h,fun _ _ _ _ _ h=>h,fun _ _ _ _ _ h=>h,fun _ _ _ _ _ h=>h,fun _ _ _ _ _ h=>h,fun _ _ _ _ _ h=>h,fun _ _ _ _ _ h=>h,fun _ _ _ _ _ h=>h,fun _ _ _ _ _ h=>h,fun _ _ _ _ _ h=>h,trivial⟩ ⟨⟨fun _ _ _ _ _ h=>h,fun _ _ _ _ _ h=>h,fun _ _ _ _ _ h=>h,fun _ _ _ _ _ h=>h,fun _ _ _ _ _ h=>h,fun _ _ _ _ _ h=>h,fun _ _ _ _ _ h=>h,fun _ _ _ _ _ h=>h,(fun h=>absurd h (by decide)),(fun h=>absurd h (by decide)),(fun h=>absurd h (by decide)),trivial⟩,trivial⟩ ⟨fun w' w'' F h=>by have hB288_b19:=h; exact (hB288_b19.ex F),fun w' w'' F h=>by have hB288_b19:=h; exact (hB288_b19.ex F),trivial⟩ B286 ?_ ?_ ?_
      ·refine ⟨?_,?_,?_,?_,?_,?_,?_,?_,?_,?_,?_,trivial⟩
       ·intro _ ρ w288o F288o hX hS hρ
        have F288o:=hX 8 rfl rfl
        have q7:ρ 7=.pointer (some ⟨b27,0,none⟩):=hρ 7 (by kernel_rfl)
        exact o_q (r_mov q7) ⟨Fr.refl _ _,rfl⟩
       ·intro _ ρ w288o F288o hX hS hρ
        have F288o:=hX 8 rfl rfl
        have q19:ρ 19=.pointer (some ⟨b27,0,none⟩):=hS 0 (by decide) 19 rfl
        exact o_q (r_nilchk q19) ⟨Fr.refl _ _,rfl⟩
       ·intro _ ρ w288o F288o hX hS hρ
        have F288o:=hX 8 rfl rfl
        have q20:ρ 20=.pointer (some ⟨b27,0,none⟩):=hS 1 (by decide) 20 rfl
        exact o_q (r_fa fld_arena_changing_0 rfl q20) ⟨Fr.refl _ _,rfl⟩
       ·intro _ ρ w288o F288o hX hS hρ
        have F288o:=hX 8 rfl rfl
        have q21:ρ 21=.pointer (some ⟨b27,0,none⟩):=hS 2 (by decide) 21 rfl
        exact o_q (r_lda agg_api_Arena q21 (vs:=[.int .i64 d0.cap,.slice A229 (x139++([x153.1]:List Ent)).length c230,.slice A250 x242.length c251]) rfl ((B276'.ex F288o).part (n:=3) rfl)) ⟨Fr.refl _ _,rfl⟩
       ·intro _ ρ w288o F288o hX hS hρ
        have q7:ρ 7=.pointer (some ⟨b27,0,none⟩):=hρ 7 (by kernel_rfl)
        exact o_q (r_mov q7) ⟨Fr.refl _ _,rfl⟩
       ·intro _ ρ w288o F288o hX hS hρ
        have q23:ρ 23=.pointer (some ⟨b27,0,none⟩):=hS 4 (by decide) 23 rfl
        exact o_q (r_nilchk q23) ⟨Fr.refl _ _,rfl⟩
       ·intro _ ρ w288o F288o hX hS hρ
        have q24:ρ 24=.pointer (some ⟨b27,0,none⟩):=hS 5 (by decide) 24 rfl
        exact o_q (r_fa fld_arena_changing_1 rfl q24) ⟨Fr.refl _ _,rfl⟩
       ·intro _ ρ w288o F288o hX hS hρ
        have B310:=B276'.fr F288o (fun hm=>(show ∀ m∈_,m≠b27 from (upc (by omega) (fun m hm=>by cases hm))) _ hm rfl)
        have q25:ρ 25=.pointer (some ⟨b27,3,none⟩):=hS 6 (by decide) 25 rfl
        exact o_q (r_ld one_bool q25 (B310.cell rfl)) ⟨Fr.refl _ _,rfl⟩
       ·intro hT; exact absurd hT (by decide)
       ·intro _ ρ w288o F288o hX hS hρ
        have q26:ρ 26=.bool true:=hS 7 (by decide) 26 rfl
        exact o_q (r_asg q26) ⟨Fr.refl _ _,rfl⟩
       ·intro _ ρ w288o F288o hX hS hρ
        exact o_q (r_asg rfl) ⟨Fr.refl _ _,rfl⟩
      ·refine ⟨⟨_,rfl,?_⟩,trivial⟩
       ·intro ρ w288o F288o hX hI hS hρ
        have hB288_b19:=hI
        have q4:ρ 4=.pointer (some ⟨b19,0,none⟩):=hρ 4 (by kernel_rfl)
        have q22:ρ 22=.agg #[.int .i64 d0.cap,.slice A229 (x139++([x153.1]:List Ent)).length c230,.slice A250 x242.length c251]:=hS 3 (by decide) 22 rfl
        refine o_store (show ev ρ _=_ from q4) hB288_b19 (vs:=[.int .i64 d0.cap,.slice A229 (x139++([x153.1]:List Ent)).length c230,.slice A250 x242.length c251]) (congrArg Value.cells q22) sz_api_Arena rfl rfl rfl ?_
        intro w' F B2
        exact eo_nil ⟨rfl,rfl,undef,rfl,F,B2,trivial⟩
      ·intro ρ w288 F288 hI hS hρ
       have hB288_b19:=hI
       have q5:ρ 5=.bool true:=hS 9 5 rfl
       have q6:ρ 6=.int .i64 0:=hS 10 6 rfl
       obtain ⟨ρ',rfl⟩:∃ ρ',ρ=envs (ovr [5,6,19,20,21,22,23,24,25,26] ρ' _) [(5,.bool true),(6,.int .i64 0)]:=⟨ρ,ovr_self hρ ⟨q5,q6,trivial⟩⟩
       have E324:Ext w w288:=Ext.st E277 F288 (upc n19 (fun m hm=>by cases hm))
       have G331:Fr (b172::(b27::(b19::L))) w231 w288:=Fr.stp G284 F288 (upc (.inl (by simp)) (fun m hm=>by cases hm))
       have G332:Fr (b172::(b27::(b19::L))) w242 w288:=Fr.stp G285 F288 (upc (.inl (by simp)) (fun m hm=>by cases hm))
       refine sq_n ?_
       refine ec_ret ?_
       subst h
       exact (endr3 (rv_a rfl (agg_api_Arena) hB288_b19 (vs:=[.int .i64 d0.cap,.slice A229 (x139++([x153.1]:List Ent)).length c230,.slice A250 x242.length c251]) rfl rfl) (rv_t rfl) (rv_t rfl) ⟨_,rfl,E324,_,rfl,(kArena_mk (d:=(⟨d0.cap,(x139++([x153.1]:List Ent)),x242⟩:Arena)) (H245.up G331 sI (fun m hm=>Or.inl (mT (mT (mT hm))))) (H252.up G332 sI (fun m hm=>Or.inl (mT (mT (mT hm))))))⟩)
     ·replace h:=h.2 hc152
      refine ec_skip ?_
      refine sq_n ?_
      refine ec_seq ?_
      obtain ⟨A335,c336,rfl⟩:=O140.shape
      obtain ⟨hn341,H340⟩:=O140.stillAt
      have Zanc342:=Fr.refl (b27::(b19::L)) w139
      have Zanc343:=Fr.refl (own (.slice A335 x139.length c336)++(b27::(b19::L))) w139
      obtain ⟨ha344,h⟩:=h
      obtain ⟨cs345,l347,H348,H349⟩:=O140.elemAt (findA d0 d1.val.kind d1.key) ha344.1 ha344.2
      obtain ⟨A350,c351,A353,c354,rfl,H352,H355⟩:=kEnt_open H349
      have hA356:=((H340.fr Zanc342 sI).now.2 _ (lt_toNat ha344.1 ha344.2)).1
      obtain ⟨ha358,h⟩:=h
      obtain ⟨ha359,h⟩:=h
      obtain ⟨x357,hx357,h⟩:=h
      refine ec_anyGN (by kernel_rfl) [[],[],[0,1],[0,1,2],[],[0,1,2,3,4],[0,1,2,3,4,5],[0,1,2,3,4,5,6],[0,1,2,3,4,5,6],[],[0,1,2,3,4,5,6,7,9],[0,1,2,3,4,5,6,7,8,9,10]] [9,10,83,84,85,86,87,88,89,90,91] [] [10] 9 0 (fun g w=>∀ b,g=gOf b→Blk w b 42 [str [],.int .i64 0,.int .i64 0,.int .i64 0,.bool false,str [],.slice none ([]:List Int).length 0,.slice none ([]:List Int).length 0,.int .u64 0]) (fun g337=>[own g337]) [[10,11]] (fun g337=>[fun w'=>(∀ b,g337=gOf b→Blk w' b 42 [str [],.int .i64 0,.int .i64 0,.int .i64 0,.bool false,str [],.slice none ([]:List Int).length 0,.slice none ([]:List Int).length 0,.int .u64 0]),fun w'=>∃ A360 c361 A363 c364,Stb (own g337++(own (.slice A335 x139.length c336)++(b27::(b19::L)))) w' (fun w=>SlC (kI .i64) w A360 c361 x357.1.val.plus)∧Stb (own g337++(own (.slice A335 x139.length c336)++(b27::(b19::L)))) w' (fun w=>SlC (kI .i64) w A363 c364 x357.1.val.minus)∧(∀ b,g337=gOf b→Blk w' b 42 (cEnt x357.1 A360 c361 A363 c364))]) (fun g337=>[fun v _=>v=((.slice A335 x139.length c336):Value),fun v _=>v=(.int .i64 (findA d0 d1.val.kind d1.key):Value),fun v _=>v=(.pointer (some (elemA A335 kEnt.n (findA d0 d1.val.kind d1.key).toNat)):Value),fun v _=>v=(.agg (cEnt (nth x139 (findA d0 d1.val.kind d1.key)) A350 c351 A353 c354).toArray:Value),fun v _=>v=(.agg (cEnt d1 A7 c8 A10 c11).toArray:Value),fun v w'=>∃ A360 c361 A363 c364,v=(.tuple #[.agg (cEnt x357.1 A360 c361 A363 c364).toArray,.int .i64 x357.2]:Value)∧Stb (own g337++(own (.slice A335 x139.length c336)++(b27::(b19::L)))) w' (fun w=>SlC (kI .i64) w A360 c361 x357.1.val.plus)∧Stb (own g337++(own (.slice A335 x139.length c336)++(b27::(b19::L)))) w' (fun w=>SlC (kI .i64) w A363 c364 x357.1.val.minus),fun v w'=>∃ A360 c361 A363 c364,v=(.tuple #[.agg (cEnt x357.1 A360 c361 A363 c364).toArray,.int .i64 x357.2]:Value)∧Stb (own g337++(own (.slice A335 x139.length c336)++(b27::(b19::L)))) w' (fun w=>SlC (kI .i64) w A360 c361 x357.1.val.plus)∧Stb (own g337++(own (.slice A335 x139.length c336)++(b27::(b19::L)))) w' (fun w=>SlC (kI .i64) w A363 c364 x357.1.val.minus),fun v w'=>∃ A360 c361 A363 c364,v=(.agg (cEnt x357.1 A360 c361 A363 c364).toArray:Value)∧Stb (own g337++(own (.slice A335 x139.length c336)++(b27::(b19::L)))) w' (fun w=>SlC (kI .i64) w A360 c361 x357.1.val.plus)∧Stb (own g337++(own (.slice A335 x139.length c336)++(b27::(b19::L)))) w' (fun w=>SlC (kI .i64) w A363 c364 x357.1.val.minus),fun v _=>v=(.int .i64 x357.2:Value),fun v w'=>∃ b337_9,v=(.pointer (some ⟨b337_9,0,none⟩):Value)∧g337=gOf b337_9∧w139.heap.size≤b337_9,fun _ _=>True,fun v _=>v=(.int .i64 x357.2:Value)]) (by kernel_rfl) (fun _=>rfl) (fun _=>rfl) (fun g337=>(allM1 (φ:=fun M=>∀ m∈M,m∈[]∨m∈own g337) (fun m hm=>.inr hm) (fun _ h=>by cases h))) (fun g337=>⟨fun _ _ _ _ _ h=>h,fun _ _ _ _ _ h=>h,fun _ _ _ _ _ h=>h,fun _ _ _ _ _ h=>h,fun _ _ _ _ _ h=>h,fun _ v w' w'' F h=>by obtain ⟨A360,c361,A363,c364,hv,H362,H365⟩:=h; exact ⟨A360,c361,A363,c364,hv,(H362.ex F),(H365.ex F)⟩,fun _ v w' w'' F h=>by obtain ⟨A360,c361,A363,c364,hv,H362,H365⟩:=h; exact ⟨A360,c361,A363,c364,hv,(H362.ex F),(H365.ex F)⟩,fun _ v w' w'' F h=>by obtain ⟨A360,c361,A363,c364,hv,H362,H365⟩:=h; exact ⟨A360,c361,A363,c364,hv,(H362.ex F),(H365.ex F)⟩,fun _ _ _ _ _ h=>h,fun _ v w' w'' F h=>by obtain ⟨b337_9,hv,heb337_9,lob337_9⟩:=h; exact ⟨b337_9,hv,heb337_9,lob337_9⟩,fun _ _ _ _ _ h=>h,fun _ _ _ _ _ h=>h,trivial⟩) (fun g337=>⟨⟨fun _ _ _ _ _ _ h=>h,fun _ _ _ _ _ _ h=>h,fun _ _ _ _ _ _ h=>h,fun _ _ _ _ _ _ h=>h,fun _ _ _ _ _ _ h=>h,fun _ v w' w'' hg337 F h=>by obtain ⟨A360,c361,A363,c364,hv,H362,H365⟩:=h; exact ⟨A360,c361,A363,c364,hv,(H362.fr F (fun m hm=>List.mem_append_left _ hm)),(H365.fr F (fun m hm=>List.mem_append_left _ hm))⟩,fun _ v w' w'' hg337 F h=>by obtain ⟨A360,c361,A363,c364,hv,H362,H365⟩:=h; exact ⟨A360,c361,A363,c364,hv,(H362.fr F (fun m hm=>List.mem_append_left _ hm)),(H365.fr F (fun m hm=>List.mem_append_left _ hm))⟩,fun _ v w' w'' hg337 F h=>by obtain ⟨A360,c361,A363,c364,hv,H362,H365⟩:=h; exact ⟨A360,c361,A363,c364,hv,(H362.fr F (fun m hm=>List.mem_append_left _ hm)),(H365.fr F (fun m hm=>List.mem_append_left _ hm))⟩,fun _ _ _ _ _ _ h=>h,fun _ v w' w'' hg337 F h=>by obtain ⟨b337_9,hv,heb337_9,lob337_9⟩:=h; exact ⟨b337_9,hv,heb337_9,lob337_9⟩,(fun h=>absurd h (by decide)),(fun h=>absurd h (by decide)),trivial⟩,trivial⟩) (fun g w hw hg=>⟨fun _ _ _ _ h=>h,fun _ _ _ _ h=>h,fun _ _ _ _ h=>h,fun _ _ _ _ h=>h,fun _ _ _ _ h=>h,fun _ v w' F h=>by obtain ⟨A360,c361,A363,c364,hv,H362,H365⟩:=h; exact ⟨A360,c361,A363,c364,hv,(stb_born H362 hg F),(stb_born H365 hg F)⟩,fun _ v w' F h=>by obtain ⟨A360,c361,A363,c364,hv,H362,H365⟩:=h; exact ⟨A360,c361,A363,c364,hv,(stb_born H362 hg F),(stb_born H365 hg F)⟩,fun _ v w' F h=>by obtain ⟨A360,c361,A363,c364,hv,H362,H365⟩:=h; exact ⟨A360,c361,A363,c364,hv,(stb_born H362 hg F),(stb_born H365 hg F)⟩,fun _ _ _ _ h=>h,(fun h=>absurd h (by decide)),fun _ _ _ _ h=>h,fun _ _ _ _ h=>h,trivial⟩) (fun g337=>⟨fun w' w'' F h=>by have hG337:=h; exact (fun b e=>(hG337 b e).ex F),fun w' w'' F h=>by obtain ⟨A360,c361,A363,c364,H362,H365,hG337⟩:=h; exact ⟨A360,c361,A363,c364,(H362.ex F),(H365.ex F),(fun b e=>(hG337 b e).ex F)⟩,trivial⟩) (fun b e=>absurd e gNil_ne) (fun k hk g w w' hw hg F hX hI=>match k,hk,hI with | 0,_,hI=>by have hG337:=hI; exact hX | k + 1,hk,_=>absurd hk (by omega)) ?_ ?_ ?_ ?_
      ·refine ⟨?_,?_,?_,?_,?_,?_,?_,?_,?_,?_,?_,?_,trivial⟩
       ·intro _ _ g337 ρ w337o hg337 F337o hX hS hρ
        have F337o:=hX 10 rfl rfl
        have q6:ρ 6=(.slice A335 x139.length c336):=hρ 6 (by kernel_rfl)
        exact o_q (r_mov q6) ⟨Fr.refl _ _,rfl⟩
       ·intro _ _ g337 ρ w337o hg337 F337o hX hS hρ
        have F337o:=hX 10 rfl rfl
        have q5:ρ 5=.int .i64 (findA d0 d1.val.kind d1.key):=hρ 5 (by kernel_rfl)
        exact o_q (r_mov q5) ⟨Fr.refl _ _,rfl⟩
       ·intro _ _ g337 ρ w337o hg337 F337o hX hS hρ
        have F337o:=hX 10 rfl rfl
        have q84:ρ 84=(.slice A335 x139.length c336):=hS 0 (by decide) 84 rfl
        have q85:ρ 85=.int .i64 (findA d0 d1.val.kind d1.key):=hS 1 (by decide) 85 rfl
        exact o_q (r_ia slc_s_api_Entry q84 q85 hA356 ha344.1 (hn341 ▸ ha344.2)) ⟨Fr.refl _ _,rfl⟩
       ·intro _ _ g337 ρ w337o hg337 F337o hX hS hρ
        have F337o:=hX 10 rfl rfl
        have q86:ρ 86=.pointer (some (elemA A335 kEnt.n (findA d0 d1.val.kind d1.key).toNat)):=hS 2 (by decide) 86 rfl
        exact o_q (r_lda' agg_api_Entry q86 (elemA_spot _ _ _) (vs:=(cEnt (nth x139 (findA d0 d1.val.kind d1.key)) A350 c351 A353 c354)) rfl ((H348.fr (Zanc342.trans (Fr.ext F337o)) sI).now.1)) ⟨Fr.refl _ _,rfl⟩
       ·intro _ _ g337 ρ w337o hg337 F337o hX hS hρ
        have F337o:=hX 10 rfl rfl
        have q3:ρ 3=.pointer (some ⟨b37,0,none⟩):=hρ 3 (by kernel_rfl)
        exact o_q (r_lda agg_api_Entry q3 (vs:=(cEnt d1 A7 c8 A10 c11)) rfl ((S37.fr (G149.trans (Fr.ext F337o)) sI).now.part (n:=9) rfl)) ⟨Fr.refl _ _,rfl⟩
       ·intro _ _ g337 ρ w337o hg337 F337o hX hS hρ
        have F337o:=hX 10 rfl rfl
        have E386:=E145.trans F337o
        have B393:=(((((((B19.ex F27).ex F37).ex F45).ex F54).ex F71).ex F109).ex F139).ex F337o
        have B394:=((((((B27.ex F37).ex F45).ex F54).ex F71).ex F109).ex F139).ex F337o
        have q87:ρ 87=.agg (cEnt (nth x139 (findA d0 d1.val.kind d1.key)) A350 c351 A353 c354).toArray:=hS 3 (by decide) 87 rfl
        have q88:ρ 88=.agg (cEnt d1 A7 c8 A10 c11).toArray:=hS 4 (by decide) 88 rfl
        refine o_call cf_entry_Join (by simp only [List.map,ev,q87,q88] <;> rfl) (entry_Join_c (nth x139 (findA d0 d1.val.kind d1.key)) (kEnt_mk (d:=(nth x139 (findA d0 d1.val.kind d1.key))) (H352.up (Zanc343.trans (Fr.ext F337o)) sI (upo (fun m hm=>.inr (Nat.le_trans (Zanc343.size) (hg337 m hm).1)) (upo (fun m hm=>Or.inl (List.mem_append_left _ hm)) (upc (.inl (List.mem_append_right _ mH)) (upc (.inl (List.mem_append_right _ (mT mH))) (fun m hm=>Or.inl (List.mem_append_right _ (mT (mT hm))))))))) (H355.up (Zanc343.trans (Fr.ext F337o)) sI (upo (fun m hm=>.inr (Nat.le_trans (Zanc343.size) (hg337 m hm).1)) (upo (fun m hm=>Or.inl (List.mem_append_left _ hm)) (upc (.inl (List.mem_append_right _ mH)) (upc (.inl (List.mem_append_right _ (mT mH))) (fun m hm=>Or.inl (List.mem_append_right _ (mT (mT hm)))))))))) d1 (kEnt_mk (d:=d1) (H9.up ((G125.trans (Fr.ext F139)).trans (Fr.ext F337o)) sI (upo (fun m hm=>.inr (Nat.le_trans ((G125.trans (Fr.ext F139)).size) (hg337 m hm).1)) (upo P141 (upc (.inr m29) (upc (.inr m20) (fun _ h=>.inl h)))))) (H12.up ((G125.trans (Fr.ext F139)).trans (Fr.ext F337o)) sI (upo (fun m hm=>.inr (Nat.le_trans ((G125.trans (Fr.ext F139)).size) (hg337 m hm).1)) (upo P141 (upc (.inr m29) (upc (.inr m20) (fun _ h=>.inl h))))))) (lt_ghost ((((hL.fr E386).cons B393.lt).cons B394.lt).own (O140.ex F337o)) hg337) (eq_ev hx357 (entJoin_ev (nth x139 (findA d0 d1.val.kind d1.key)) d1 ha358 ha359))) rfl rfl ?_
        rintro _ w' ⟨F,cs396,rfl,H397⟩
        obtain ⟨A360,c361,A363,c364,rfl,H362,H365⟩:=kEnt_open H397
        exact eo_nil ⟨rfl,rfl,_,rfl,F,⟨A360,c361,A363,c364,rfl,H362,H365⟩⟩
       ·intro _ _ g337 ρ w337o hg337 F337o hX hS hρ
        have F337o:=hX 10 rfl rfl
        obtain ⟨A360,c361,A363,c364,q89,H362,H365⟩:=hS 5 (by decide) 89 rfl
        exact o_q (r_mov q89) ⟨Fr.refl _ _,⟨A360,c361,A363,c364,rfl,H362,H365⟩⟩
       ·intro _ _ g337 ρ w337o hg337 F337o hX hS hρ
        have F337o:=hX 10 rfl rfl
        obtain ⟨A360,c361,A363,c364,q83,H362,H365⟩:=hS 6 (by decide) 83 rfl
        exact o_q (r_ext q83 rfl) ⟨Fr.refl _ _,⟨A360,c361,A363,c364,rfl,H362,H365⟩⟩
       ·intro _ _ g337 ρ w337o hg337 F337o hX hS hρ
        obtain ⟨A360,c361,A363,c364,q83,H362,H365⟩:=hS 6 (by decide) 83 rfl
        exact o_q (r_ext q83 rfl) ⟨Fr.refl _ _,rfl⟩
       ·intro _ hT; exact absurd hT (by decide)
       ·intro hT; exact absurd hT (by decide)
       ·intro _ _ g337 ρ w337o hg337 F337o hX hS hρ
        have q91:ρ 91=.int .i64 x357.2:=hS 8 (by decide) 91 rfl
        exact o_q (r_asg q91) ⟨Fr.refl _ _,rfl⟩
      ·intro o ho ρ w337o F337o hX hS hρ; cases Option.some.inj ho; refine o_alloc zero_api_Entry rfl rfl rfl ?_; intro b w' e F B; subst e
       exact eo_nil ⟨rfl,rfl,_,rfl,F,gOf _,(fun m hm=>by rw [own_gOf,List.mem_singleton] at hm; subst hm; exact ⟨Nat.le_refl _,B.lt⟩),(fun b e=>by obtain rfl:=gOf_inj e; exact B),_,rfl,rfl,F337o.size⟩
      ·refine ⟨⟨_,rfl,?_⟩,trivial⟩
       ·intro g337 ρ w337o hg337 F337o hX hI hS hρ
        have hG337:=hI
        obtain ⟨b337_9,q9,heb337_9,lob337_9⟩:=hS 9 (by decide) 9 rfl
        obtain ⟨A360,c361,A363,c364,q90,H362,H365⟩:=hS 7 (by decide) 90 rfl
        subst heb337_9
        have hB337_b337_9:=hG337 _ rfl
        refine o_store (show ev ρ _=_ from q9) hB337_b337_9 (vs:=[str x357.1.key,.int .i64 x357.1.val.kind,.int .i64 x357.1.val.time,.int .i64 x357.1.val.node,.bool x357.1.val.dead,str x357.1.val.text,.slice A360 x357.1.val.plus.length c361,.slice A363 x357.1.val.minus.length c364,.int .u64 x357.1.val.flags]) (congrArg Value.cells q90) sz_api_Entry rfl rfl rfl ?_
        intro w' F B2
        exact eo_nil ⟨rfl,rfl,undef,rfl,F,⟨A360,c361,A363,c364,(H362.fr F (fun m hm=>List.mem_append_left _ hm)),(H365.fr F (fun m hm=>List.mem_append_left _ hm)),(fun b e=>by obtain rfl:=gOf_inj e; exact B2)⟩,trivial⟩
      ·intro g337 ρ w337 hg337 F337 hI hS hρ
       obtain ⟨A360,c361,A363,c364,H362,H365,hG337⟩:=hI
       obtain ⟨b337_9,q9,heb337_9,lob337_9⟩:=hS 9 9 rfl
       subst heb337_9
       have hB337_b337_9:=hG337 _ rfl
       have H362:Stb (b337_9::(own (.slice A335 x139.length c336)++(b27::(b19::L)))) w337 (fun w=>SlC (kI .i64) w A360 c361 x357.1.val.plus):=H362
       have H365:Stb (b337_9::(own (.slice A335 x139.length c336)++(b27::(b19::L)))) w337 (fun w=>SlC (kI .i64) w A363 c364 x357.1.val.minus):=H365
       obtain ⟨ρ',rfl⟩:∃ ρ',ρ=envs (ovr [9,10,83,84,85,86,87,88,89,90,91] ρ' _) [(9,.pointer (some ⟨b337_9,0,none⟩))]:=⟨ρ,ovr_self hρ ⟨q9,trivial⟩⟩
       have n337_9:w.heap.size≤b337_9:=Nat.le_trans E145.size lob337_9
       have q408:b19<b337_9:=Nat.lt_of_lt_of_le (((((((B19.ex F27).ex F37).ex F45).ex F54).ex F71).ex F109).ex F139).lt lob337_9
       have q409:b27<b337_9:=Nat.lt_of_lt_of_le ((((((B27.ex F37).ex F45).ex F54).ex F71).ex F109).ex F139).lt lob337_9
       have Ob416:=O140.born F337 lob337_9 hB337_b337_9.lt
       have E417:=E145.trans F337
       have B424:=(((((((B19.ex F27).ex F37).ex F45).ex F54).ex F71).ex F109).ex F139).ex F337
       have Z337:=Fr.refl (b337_9::(own (.slice A335 x139.length c336)++(b27::(b19::L)))) w337
       refine sq_n ?_
       refine ec_seq ?_
       obtain ⟨hn431,H430⟩:=Ob416.stillAt
       have Zanc432:=Fr.refl (b337_9::(b27::(b19::L))) w337
       have Zanc433:=Fr.refl (own (.slice A335 x139.length c336)++(b337_9::(b27::(b19::L)))) w337
       obtain ⟨ha434,h⟩:=h
       obtain ⟨cs435,l437,H438,H439⟩:=Ob416.elemAt (findA d0 d1.val.kind d1.key) ha434.1 ha434.2
       obtain ⟨A440,c441,A443,c444,rfl,H442,H445⟩:=kEnt_open H439
       have hA446:=((H430.fr Zanc432 sI).now.2 _ (lt_toNat ha434.1 ha434.2)).1
       obtain ⟨ha448,h⟩:=h
       obtain ⟨x447,hx447,h⟩:=h
       have qb427_b27:b27<w337.heap.size:=(((((((B27.ex F37).ex F45).ex F54).ex F71).ex F109).ex F139).ex F337).lt
       refine ec_anyN (by kernel_rfl) [[],[],[],[],[2,3],[2,3,4],[1,2,3,4,5],[1,2,3,4,5,6],[0,1,2,3,4,5,6,7],[0,1,2,3,4,5,6,7,8],[0,1,2,3,4,5,6,7,8,9]] [92,93,94,95,96,97,98,99,100,101] (b27::[]) [10] [[b27]] [[10]] [fun w'=>Blk w' b27 68 [.int .i64 d0.cap,.slice A1 d0.slots.length c2,.slice A4 d0.idx.length c5,.bool false],fun w'=>Blk w' b27 68 [.int .i64 d0.cap,.slice A1 d0.slots.length c2,.slice A4 d0.idx.length c5,.bool (!x447)]] [fun v _=>v=(.pointer (some ⟨b27,0,none⟩):Value),fun v _=>v=(.agg (cEnt x357.1 A360 c361 A363 c364).toArray:Value),fun v _=>v=((.slice A335 x139.length c336):Value),fun v _=>v=(.int .i64 (findA d0 d1.val.kind d1.key):Value),fun v _=>v=(.pointer (some (elemA A335 kEnt.n (findA d0 d1.val.kind d1.key).toNat)):Value),fun v _=>v=(.agg (cEnt (nth x139 (findA d0 d1.val.kind d1.key)) A440 c441 A443 c444).toArray:Value),fun v _=>v=(.bool x447:Value),fun v _=>v=(.bool (!x447):Value),fun v _=>v=(.pointer (some ⟨b27,0,none⟩):Value),fun v _=>v=(.pointer (some ⟨b27,3,none⟩):Value),fun _ _=>True] (by kernel_rfl) (allM1 (fun m hm=>by first | exact hm | (simp at hm ⊢; simp [hm]; done) | simp_all) (fun _ h=>by cases h)) ⟨fun _ _ _ _ _ h=>h,fun _ _ _ _ _ h=>h,fun _ _ _ _ _ h=>h,fun _ _ _ _ _ h=>h,fun _ _ _ _ _ h=>h,fun _ _ _ _ _ h=>h,fun _ _ _ _ _ h=>h,fun _ _ _ _ _ h=>h,fun _ _ _ _ _ h=>h,fun _ _ _ _ _ h=>h,fun _ _ _ _ _ h=>h,trivial⟩ ⟨⟨fun _ _ _ _ _ h=>h,fun _ _ _ _ _ h=>h,fun _ _ _ _ _ h=>h,fun _ _ _ _ _ h=>h,fun _ _ _ _ _ h=>h,fun _ _ _ _ _ h=>h,fun _ _ _ _ _ h=>h,fun _ _ _ _ _ h=>h,fun _ _ _ _ _ h=>h,fun _ _ _ _ _ h=>h,(fun h=>absurd h (by decide)),trivial⟩,trivial⟩ ⟨fun w' w'' F h=>by have hB427_b27:=h; exact (hB427_b27.ex F),fun w' w'' F h=>by have hB427_b27:=h; exact (hB427_b27.ex F),trivial⟩ (((((((B27.ex F37).ex F45).ex F54).ex F71).ex F109).ex F139).ex F337) ?_ ?_ ?_
       ·refine ⟨?_,?_,?_,?_,?_,?_,?_,?_,?_,?_,?_,trivial⟩
        ·intro _ ρ w427o F427o hX hS hρ
         have F427o:=hX 10 rfl rfl
         have q0:ρ 0=.pointer (some ⟨b27,0,none⟩):=hρ 0 (by kernel_rfl)
         exact o_q (r_mov q0) ⟨Fr.refl _ _,rfl⟩
        ·intro _ ρ w427o F427o hX hS hρ
         have F427o:=hX 10 rfl rfl
         have q9:ρ 9=.pointer (some ⟨b337_9,0,none⟩):=hρ 9 (by kernel_rfl)
         exact o_q (r_lda agg_api_Entry q9 (vs:=(cEnt x357.1 A360 c361 A363 c364)) rfl ((hB337_b337_9.ex F427o).part (n:=9) rfl)) ⟨Fr.refl _ _,rfl⟩
        ·intro _ ρ w427o F427o hX hS hρ
         have F427o:=hX 10 rfl rfl
         have q6:ρ 6=(.slice A335 x139.length c336):=hρ 6 (by kernel_rfl)
         exact o_q (r_mov q6) ⟨Fr.refl _ _,rfl⟩
        ·intro _ ρ w427o F427o hX hS hρ
         have F427o:=hX 10 rfl rfl
         have q5:ρ 5=.int .i64 (findA d0 d1.val.kind d1.key):=hρ 5 (by kernel_rfl)
         exact o_q (r_mov q5) ⟨Fr.refl _ _,rfl⟩
        ·intro _ ρ w427o F427o hX hS hρ
         have F427o:=hX 10 rfl rfl
         have q94:ρ 94=(.slice A335 x139.length c336):=hS 2 (by decide) 94 rfl
         have q95:ρ 95=.int .i64 (findA d0 d1.val.kind d1.key):=hS 3 (by decide) 95 rfl
         exact o_q (r_ia slc_s_api_Entry q94 q95 hA446 ha434.1 (hn431 ▸ ha434.2)) ⟨Fr.refl _ _,rfl⟩
        ·intro _ ρ w427o F427o hX hS hρ
         have F427o:=hX 10 rfl rfl
         have q96:ρ 96=.pointer (some (elemA A335 kEnt.n (findA d0 d1.val.kind d1.key).toNat)):=hS 4 (by decide) 96 rfl
         exact o_q (r_lda' agg_api_Entry q96 (elemA_spot _ _ _) (vs:=(cEnt (nth x139 (findA d0 d1.val.kind d1.key)) A440 c441 A443 c444)) rfl ((H438.fr (Zanc432.trans (Fr.ext F427o)) sI).now.1)) ⟨Fr.refl _ _,rfl⟩
        ·intro _ ρ w427o F427o hX hS hρ
         have F427o:=hX 10 rfl rfl
         have E477:=E417.trans F427o
         have B488:=(((((((B27.ex F37).ex F45).ex F54).ex F71).ex F109).ex F139).ex F337).ex F427o
         have q93:ρ 93=.agg (cEnt x357.1 A360 c361 A363 c364).toArray:=hS 1 (by decide) 93 rfl
         have q97:ρ 97=.agg (cEnt (nth x139 (findA d0 d1.val.kind d1.key)) A440 c441 A443 c444).toArray:=hS 5 (by decide) 97 rfl
         refine o_call cf_entry_Same (by simp only [List.map,ev,q93,q97] <;> rfl) (entry_Same_c x357.1 (kEnt_mk (d:=x357.1) (H362.fr (Z337.trans (Fr.ext F427o)) sI) (H365.fr (Z337.trans (Fr.ext F427o)) sI)) (nth x139 (findA d0 d1.val.kind d1.key)) (kEnt_mk (d:=(nth x139 (findA d0 d1.val.kind d1.key))) (H442.up (Zanc433.trans (Fr.ext F427o)) sI (upc (.inl (List.mem_append_right _ mH)) (upo (fun m hm=>Or.inl (List.mem_append_left _ hm)) (upc (.inl (List.mem_append_right _ (mT mH))) (upc (.inl (List.mem_append_right _ (mT (mT mH)))) (fun m hm=>Or.inl (List.mem_append_right _ (mT (mT (mT hm)))))))))) (H445.up (Zanc433.trans (Fr.ext F427o)) sI (upc (.inl (List.mem_append_right _ mH)) (upo (fun m hm=>Or.inl (List.mem_append_left _ hm)) (upc (.inl (List.mem_append_right _ (mT mH))) (upc (.inl (List.mem_append_right _ (mT (mT mH)))) (fun m hm=>Or.inl (List.mem_append_right _ (mT (mT (mT hm))))))))))) (((((hL.fr E477).cons (B424.ex F427o).lt).cons B488.lt).own (Ob416.ex F427o)).cons (hB337_b337_9.ex F427o).lt) (eq_ev hx447 (entSame_ev x357.1 (nth x139 (findA d0 d1.val.kind d1.key)) ha448))) rfl rfl ?_
         rintro _ w' ⟨F,rfl⟩
         exact eo_nil ⟨rfl,rfl,_,rfl,F,rfl⟩
        ·intro _ ρ w427o F427o hX hS hρ
         have F427o:=hX 10 rfl rfl
         have q98:ρ 98=.bool x447:=hS 6 (by decide) 98 rfl
         exact o_q (r_not q98) ⟨Fr.refl _ _,rfl⟩
        ·intro _ ρ w427o F427o hX hS hρ
         have F427o:=hX 10 rfl rfl
         have q92:ρ 92=.pointer (some ⟨b27,0,none⟩):=hS 0 (by decide) 92 rfl
         exact o_q (r_nilchk q92) ⟨Fr.refl _ _,rfl⟩
        ·intro _ ρ w427o F427o hX hS hρ
         have F427o:=hX 10 rfl rfl
         have q100:ρ 100=.pointer (some ⟨b27,0,none⟩):=hS 8 (by decide) 100 rfl
         exact o_q (r_fa fld_arena_changing_1 rfl q100) ⟨Fr.refl _ _,rfl⟩
        ·intro hT; exact absurd hT (by decide)
       ·refine ⟨⟨_,rfl,?_⟩,trivial⟩
        ·intro ρ w427o F427o hX hI hS hρ
         have hB427_b27:=hI
         have q99:ρ 99=.bool (!x447):=hS 7 (by decide) 99 rfl
         have q101:ρ 101=.pointer (some ⟨b27,3,none⟩):=hS 9 (by decide) 101 rfl
         refine o_store (show ev ρ _=_ from q101) hB427_b27 (vs:=[.bool (!x447)]) (congrArg Value.cells q99) sz_bool rfl rfl rfl ?_
         intro w' F B2
         exact eo_nil ⟨rfl,rfl,undef,rfl,F,B2,trivial⟩
       ·intro ρ w427 F427 hI hS hρ
        have hB427_b27:=hI
        obtain ⟨ρ',rfl⟩:∃ ρ',ρ=envs (ovr [92,93,94,95,96,97,98,99,100,101] ρ' _) []:=⟨ρ,ovr_self hρ trivial⟩
        have E505:Ext w w427:=Ext.st E417 F427 (upc n27 (fun m hm=>by cases hm))
        have G506:Fr L w w427:=Fr.stp ((G125.trans (Fr.ext F139)).trans (Fr.ext F337)) F427 (upc (.inr m29) (fun m hm=>by cases hm))
        have G512:Fr (b337_9::(own (.slice A335 x139.length c336)++(b27::(b19::L)))) w337 w427:=Fr.stp Z337 F427 (upc (.inl (by simp)) (fun m hm=>by cases hm))
        have B515:=B424.fr F427 (fun hm=>(show ∀ m∈_,m≠b19 from (upc (by omega) (fun m hm=>by cases hm))) _ hm rfl)
        have B516:=hB337_b337_9.fr F427 (fun hm=>(show ∀ m∈_,m≠b337_9 from (upc (by omega) (fun m hm=>by cases hm))) _ hm rfl)
        have O517:=Ob416.fr F427 (by simp)
        refine sq_n ?_
        refine ec_sr ?_
        refine o_w (v:=(.slice A335 x139.length c336)) (r_mov rfl) ?_
        refine o_w (v:=.int .i64 (findA d0 d1.val.kind d1.key)) (r_mov rfl) ?_
        refine o_w (v:=.agg (cEnt x357.1 A360 c361 A363 c364).toArray) (r_lda agg_api_Entry rfl (vs:=(cEnt x357.1 A360 c361 A363 c364)) rfl (B516.part (n:=9) rfl)) ?_
        obtain ⟨hn521,H520⟩:=O517.stillAt
        have Zanc522:=Fr.refl (b337_9::(b27::(b19::L))) w427
        obtain ⟨ha524,h⟩:=h
        obtain ⟨cs525,l527,H528,H529⟩:=O517.elemAt (findA d0 d1.val.kind d1.key) ha524.1 ha524.2
        obtain ⟨A530,c531,A533,c534,rfl,H532,H535⟩:=kEnt_open H529
        refine o_w (r_ia slc_s_api_Entry rfl rfl ((H520.fr Zanc522 sI).now.2 _ (lt_toNat ha524.1 ha524.2)).1 ha524.1 (hn521 ▸ ha524.2)) ?_
        refine o_ostore2 (by first | exact hn521 | (simp only [List.length_set]; exact hn521)) rfl O517 ha524.1 (hn521 ▸ ha524.2) rfl (vs:=[str x357.1.key,.int .i64 x357.1.val.kind,.int .i64 x357.1.val.time,.int .i64 x357.1.val.node,.bool x357.1.val.dead,str x357.1.val.text,.slice A360 x357.1.val.plus.length c361,.slice A363 x357.1.val.minus.length c364,.int .u64 x357.1.val.flags]) sz_api_Entry rfl rfl (x:=x357.1) (kEnt_mk (d:=x357.1) (H362.up G512 sI (upo (fun m hm=>Or.inl (mT (List.mem_append_left _ hm))) (upc (.inl mH) (upc (.inl (mT (List.mem_append_right _ mH))) (upc (.inl (mT (List.mem_append_right _ (mT mH)))) (fun m hm=>Or.inl (mT (List.mem_append_right _ (mT (mT hm)))))))))) (H365.up G512 sI (upo (fun m hm=>Or.inl (mT (List.mem_append_left _ hm))) (upc (.inl mH) (upc (.inl (mT (List.mem_append_right _ mH))) (upc (.inl (mT (List.mem_append_right _ (mT mH)))) (fun m hm=>Or.inl (mT (List.mem_append_right _ (mT (mT hm))))))))))) rfl ?_
        intro w536 F536 O536
        have E537:=Ext.st E505 F536 (fun m hm=>Nat.le_trans lo140 (O517.lo m hm))
        have G538:Fr L w w536:=G506.stp F536 P141
        have B549:=B515.fr F536 (fun hm=>(O517.below b19 (by simp)).2 hm)
        have B550:=hB427_b27.fr F536 (fun hm=>(O517.below b27 (by simp)).2 hm)
        refine eo_r ?_
        refine o_w (v:=.pointer (some ⟨b27,0,none⟩)) (r_mov rfl) ?_
        refine o_w (v:=(.slice A335 x139.length c336)) (r_mov rfl) ?_
        refine o_w (v:=.pointer (some ⟨b27,0,none⟩)) (r_nilchk rfl) ?_
        refine o_w (v:=.pointer (some ⟨b27,0,none⟩)) (r_fa fld_arena_changing_0 rfl rfl) ?_
        refine o_w (v:=.pointer (some ⟨b27,1,none⟩)) (r_fa fld_api_Arena_1 rfl rfl) ?_
        refine o_store rfl B550 (vs:=[(.slice A335 x139.length c336)]) rfl sz_s_api_Entry rfl rfl rfl ?_
        intro w552 F552 B552
        have E553:=Ext.st E537 F552 (by simp; omega)
        have G554:Fr L w w552:=G538.stp F552 (upc (.inr m29) (fun m hm=>by cases hm))
        have B562:=B549.fr F552 (by simp; omega)
        have O564:=O536.fr F552 (by simp)
        have B552':Blk w552 b27 _ [.int .i64 d0.cap,(.slice A335 x139.length c336),.slice A4 d0.idx.length c5,.bool (!x447)]:=B552
        refine eo_r ?_
        refine o_w (v:=.int .i64 0) (r_asg rfl) ?_
        refine eo_nil_sq ?_
        refine ec_ret ?_
        refine end1 (v:=.int .i64 0) rfl ⟨_,rfl,?_⟩
        refine o_w (v:=.int .i64 0) (r_asg rfl) ?_
        refine eo_r ?_
        refine o_w (v:=.int .i64 0) (r_mov rfl) ?_
        refine o_w (v:=.bool false) (r_int (v:=.bool false) rfl rfl rfl) ?_
        refine eo_nil_sq ?_
        refine ec_condF rfl rfl ?_
        refine ec_skip ?_
        refine sq_n ?_
        refine ec_seq ?_
        obtain ⟨hn568,H567⟩:=O564.stillAt
        try rw [← hn568]
        have Zw552_569:=Fr.refl (b337_9::(b27::(b19::L))) w552
        have B571:Blk w552 b27 68 [.int .i64 d0.cap,.slice A335 (x139.set (findA d0 d1.val.kind d1.key).toNat x357.1).length c336,.slice A4 d0.idx.length c5,.bool (!x447)]:=by rw [hn568]; exact B552'
        have qb572_b19:b19<w552.heap.size:=B562.lt
        refine ec_anyN (by kernel_rfl) [[],[0],[0,1],[0,1,2],[],[4],[4,5],[4,5,6],[0,1,2,3],[0,1,2,3,4,5,6,7,8],[0,1,2,3,4,5,6,7,8,9]] [5,6,19,20,21,22,23,24,25,26] (b19::[]) [8] [[b19]] [[8,9,10]] [fun w'=>Blk w' b19 25 [.int .i64 0,.slice none ([]:List Ent).length 0,.slice none ([]:List Int).length 0],fun w'=>Blk w' b19 25 [.int .i64 d0.cap,.slice A335 (x139.set (findA d0 d1.val.kind d1.key).toNat x357.1).length c336,.slice A4 d0.idx.length c5]] [fun v _=>v=(.pointer (some ⟨b27,0,none⟩):Value),fun v _=>v=(.pointer (some ⟨b27,0,none⟩):Value),fun v _=>v=(.pointer (some ⟨b27,0,none⟩):Value),fun v _=>v=(.agg #[.int .i64 d0.cap,.slice A335 (x139.set (findA d0 d1.val.kind d1.key).toNat x357.1).length c336,.slice A4 d0.idx.length c5]:Value),fun v _=>v=(.pointer (some ⟨b27,0,none⟩):Value),fun v _=>v=(.pointer (some ⟨b27,0,none⟩):Value),fun v _=>v=(.pointer (some ⟨b27,3,none⟩):Value),fun v _=>v=(.bool (!x447):Value),fun _ _=>True,fun v _=>v=(.bool (!x447):Value),fun v _=>v=(.int .i64 0:Value)] (by kernel_rfl) (allM1 (fun m hm=>by first | exact hm | (simp at hm ⊢; simp [hm]; done) | simp_all) (fun _ h=>by cases h)) ⟨fun _ _ _ _ _ h=>h,fun _ _ _ _ _ h=>h,fun _ _ _ _ _ h=>h,fun _ _ _ _ _ h=>h,fun _ _ _ _ _ h=>h,fun _ _ _ _ _ h=>h,fun _ _ _ _ _ h=>h,fun _ _ _ _ _ h=>h,fun _ _ _ _ _ h=>h,fun _ _ _ _ _ h=>h,fun _ _ _ _ _ h=>h,trivial⟩ ⟨⟨fun _ _ _ _ _ h=>h,fun _ _ _ _ _ h=>h,fun _ _ _ _ _ h=>h,fun _ _ _ _ _ h=>h,fun _ _ _ _ _ h=>h,fun _ _ _ _ _ h=>h,fun _ _ _ _ _ h=>h,fun _ _ _ _ _ h=>h,(fun h=>absurd h (by decide)),(fun h=>absurd h (by decide)),(fun h=>absurd h (by decide)),trivial⟩,trivial⟩ ⟨fun w' w'' F h=>by have hB572_b19:=h; exact (hB572_b19.ex F),fun w' w'' F h=>by have hB572_b19:=h; exact (hB572_b19.ex F),trivial⟩ B562 ?_ ?_ ?_
        ·refine ⟨?_,?_,?_,?_,?_,?_,?_,?_,?_,?_,?_,trivial⟩
         ·intro _ ρ w572o F572o hX hS hρ
          have F572o:=hX 8 rfl rfl
          have q7:ρ 7=.pointer (some ⟨b27,0,none⟩):=hρ 7 (by kernel_rfl)
          exact o_q (r_mov q7) ⟨Fr.refl _ _,rfl⟩
         ·intro _ ρ w572o F572o hX hS hρ
          have F572o:=hX 8 rfl rfl
          have q19:ρ 19=.pointer (some ⟨b27,0,none⟩):=hS 0 (by decide) 19 rfl
          exact o_q (r_nilchk q19) ⟨Fr.refl _ _,rfl⟩
         ·intro _ ρ w572o F572o hX hS hρ
          have F572o:=hX 8 rfl rfl
          have q20:ρ 20=.pointer (some ⟨b27,0,none⟩):=hS 1 (by decide) 20 rfl
          exact o_q (r_fa fld_arena_changing_0 rfl q20) ⟨Fr.refl _ _,rfl⟩
         ·intro _ ρ w572o F572o hX hS hρ
          have F572o:=hX 8 rfl rfl
          have q21:ρ 21=.pointer (some ⟨b27,0,none⟩):=hS 2 (by decide) 21 rfl
          exact o_q (r_lda agg_api_Arena q21 (vs:=[.int .i64 d0.cap,.slice A335 (x139.set (findA d0 d1.val.kind d1.key).toNat x357.1).length c336,.slice A4 d0.idx.length c5]) rfl ((B571.ex F572o).part (n:=3) rfl)) ⟨Fr.refl _ _,rfl⟩
         ·intro _ ρ w572o F572o hX hS hρ
          have q7:ρ 7=.pointer (some ⟨b27,0,none⟩):=hρ 7 (by kernel_rfl)
          exact o_q (r_mov q7) ⟨Fr.refl _ _,rfl⟩
         ·intro _ ρ w572o F572o hX hS hρ
          have q23:ρ 23=.pointer (some ⟨b27,0,none⟩):=hS 4 (by decide) 23 rfl
          exact o_q (r_nilchk q23) ⟨Fr.refl _ _,rfl⟩
         ·intro _ ρ w572o F572o hX hS hρ
          have q24:ρ 24=.pointer (some ⟨b27,0,none⟩):=hS 5 (by decide) 24 rfl
          exact o_q (r_fa fld_arena_changing_1 rfl q24) ⟨Fr.refl _ _,rfl⟩
         ·intro _ ρ w572o F572o hX hS hρ
          have B596:=B571.fr F572o (fun hm=>(show ∀ m∈_,m≠b27 from (upc (by omega) (fun m hm=>by cases hm))) _ hm rfl)
          have q25:ρ 25=.pointer (some ⟨b27,3,none⟩):=hS 6 (by decide) 25 rfl
          exact o_q (r_ld one_bool q25 (B596.cell rfl)) ⟨Fr.refl _ _,rfl⟩
         ·intro hT; exact absurd hT (by decide)
         ·intro _ ρ w572o F572o hX hS hρ
          have q26:ρ 26=.bool (!x447):=hS 7 (by decide) 26 rfl
          exact o_q (r_asg q26) ⟨Fr.refl _ _,rfl⟩
         ·intro _ ρ w572o F572o hX hS hρ
          exact o_q (r_asg rfl) ⟨Fr.refl _ _,rfl⟩
        ·refine ⟨⟨_,rfl,?_⟩,trivial⟩
         ·intro ρ w572o F572o hX hI hS hρ
          have hB572_b19:=hI
          have q4:ρ 4=.pointer (some ⟨b19,0,none⟩):=hρ 4 (by kernel_rfl)
          have q22:ρ 22=.agg #[.int .i64 d0.cap,.slice A335 (x139.set (findA d0 d1.val.kind d1.key).toNat x357.1).length c336,.slice A4 d0.idx.length c5]:=hS 3 (by decide) 22 rfl
          refine o_store (show ev ρ _=_ from q4) hB572_b19 (vs:=[.int .i64 d0.cap,.slice A335 (x139.set (findA d0 d1.val.kind d1.key).toNat x357.1).length c336,.slice A4 d0.idx.length c5]) (congrArg Value.cells q22) sz_api_Arena rfl rfl rfl ?_
          intro w' F B2
          exact eo_nil ⟨rfl,rfl,undef,rfl,F,B2,trivial⟩
        ·intro ρ w572 F572 hI hS hρ
         have hB572_b19:=hI
         have q5:ρ 5=.bool (!x447):=hS 9 5 rfl
         have q6:ρ 6=.int .i64 0:=hS 10 6 rfl
         obtain ⟨ρ',rfl⟩:∃ ρ',ρ=envs (ovr [5,6,19,20,21,22,23,24,25,26] ρ' _) [(5,.bool (!x447)),(6,.int .i64 0)]:=⟨ρ,ovr_self hρ ⟨q5,q6,trivial⟩⟩
         have E611:Ext w w572:=Ext.st E553 F572 (upc n19 (fun m hm=>by cases hm))
         have G612:Fr L w w572:=Fr.stp G554 F572 (upc (.inr m20) (fun m hm=>by cases hm))
         have G620:Fr (b337_9::(b27::(b19::L))) w552 w572:=Fr.stp Zw552_569 F572 (upc (.inl (by simp)) (fun m hm=>by cases hm))
         refine sq_n ?_
         refine ec_ret ?_
         subst h
         exact (endr3 (rv_a rfl (agg_api_Arena) hB572_b19 (vs:=[.int .i64 d0.cap,.slice A335 (x139.set (findA d0 d1.val.kind d1.key).toNat x357.1).length c336,.slice A4 d0.idx.length c5]) rfl rfl) (rv_t rfl) (rv_t rfl) ⟨_,rfl,E611,_,rfl,(kArena_mk (d:=(⟨d0.cap,(x139.set (findA d0 d1.val.kind d1.key).toNat x357.1),d0.idx⟩:Arena)) (H567.up G620 sI (fun m hm=>Or.inl (mT (mT (mT hm))))) (H6.fr G612 sI))⟩)
end Go.Proofs.Ythifkdgljapmeaa
