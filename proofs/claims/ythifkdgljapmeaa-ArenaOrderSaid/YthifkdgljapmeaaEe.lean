/- Arenas: what is read of them. -/
import Derived.Test.YthifkdgljapmeaaEu2
namespace Go.Proofs.Ythifkdgljapmeaa
open Go Go.RowKit
set_option linter.unusedVariables false
set_option linter.unusedSimpArgs false
def arena_Find_b35 (d1:Int) (d2:Str) (s35:Int) (y35:(Int × Ent)) (z35:(Int) ⊕ (Int)):Prop :=
 (((y35.2.val.kind==d1)&&(y35.2.key==d2))=true→(z35=.inr y35.1))∧(((y35.2.val.kind==d1)&&(y35.2.key==d2))=false→(z35=.inl s35))
def arena_Find_raw (d0:Arena) (d1:Int) (d2:Str) (y:Int):Prop :=
 (sma d0)∧(∃ x35,ItR (arena_Find_b35 d1 d2) (0:Int) (eachA d0) x35∧(∀ sx35,x35=.inl sx35→(y=(-1:Int)))∧(∀ yx35,x35=.inr yx35→(y=yx35)))
set_option maxRecDepth 20000 in
set_option maxHeartbeats 4000000 in
theorem arena_Find_c {L:List Nat} {w:World} {csP0:List Value} (d0:Arena) (HP0:Stb L w (fun w=>kArena.r w csP0 d0)) (d1:Int) (d2:Str) (hL:Lt L w) {y:Int} (h:arena_Find_raw d0 d1 d2 y) :
  Calls Try.prog 25 [.agg csP0.toArray,.int .i64 d1,str d2].toArray w (Ret fun v w'=>Ext w w'∧v=.int .i64 y):=by
 obtain ⟨A1,c2,A4,c5,rfl,H3,H6⟩:=kArena_open HP0
 unfold arena_Find_raw at h
 refine calls_ecM Try.func25 rfl rfl rfl ?_
 refine ec_sr ?_
 refine o_box (cs:=(cArena d0 A1 c2 A4 c5)) rfl rfl rfl ?_
 intro b7 w7 e7 F7 B7
 have S7:=B7.stb (nin hL e7)
 have G8:Fr L w w7:=Fr.ext F7
 refine o_box (cs:=[.int .i64 d1]) rfl rfl rfl ?_
 intro b9 w9 e9 F9 B9
 have S9:=B9.stb (nin (hL.fr F7) e9)
 have E10:=F7.trans F9
 have G12:Fr L w7 w9:=Fr.ext F9
 refine o_box (cs:=[str d2]) rfl rfl rfl ?_
 intro b13 w13 e13 F13 B13
 have S13:=B13.stb (nin (hL.fr E10) e13)
 have E14:=E10.trans F13
 have G17:Fr L w9 w13:=Fr.ext F13
 refine o_alloc zero_int rfl rfl rfl ?_
 intro b18 w18 e18 F18 B18
 have n18:w.heap.size≤b18:=by rw [e18]; exact E14.size
 have m19:w.heap.size≤b18:=by rw [e18]; exact ((G8.trans (Fr.ext F9)).trans (Fr.ext F13)).size
 have m21:w9.heap.size≤b18:=by rw [e18]; exact G17.size
 have m22:w13.heap.size≤b18:=Nat.le_of_eq e18.symm
 have E23:=E14.trans F18
 have G27:Fr L w13 w18:=Fr.ext F18
 refine eo_nil_sq ?_
 refine ec_seq ?_
 refine ec_sr ?_
 refine o_w (v:=.agg (cArena d0 A1 c2 A4 c5).toArray) (r_lda agg_api_Arena rfl (vs:=(cArena d0 A1 c2 A4 c5)) rfl ((S7.fr ((G12.trans (Fr.ext F13)).trans (Fr.ext F18)) sI).now.part (n:=3) rfl)) ?_
 refine o_inl (vs:=[.agg (cArena d0 A1 c2 A4 c5).toArray]) (caps:=[]) cf_arena_each rfl rfl rfl rfl ?_
 refine calls_ec Try.func43 rfl rfl rfl ?_
 refine ec_sr ?_
 refine o_box (cs:=(cArena d0 A1 c2 A4 c5)) rfl rfl rfl ?_
 intro b28 w28 e28 F28 B28
 have S28:=B28.stb (nin ((hL.fr E23).cons B18.lt) e28)
 have E29:=E23.trans F28
 have G30:=(((G8.trans (Fr.ext F9)).trans (Fr.ext F13)).trans (Fr.ext F18)).trans (Fr.ext F28)
 refine o_w (v:=.nilFunc) (r_asg rfl) ?_
 refine eo_r ?_
 refine o_w (r_mkfn' (vs:=[.pointer (some ⟨b28,0,none⟩)]) rfl) ?_
 refine o_w (v:=.func (.func 60) #[] #[.pointer (some ⟨b28,0,none⟩)]) (r_asg rfl) ?_
 refine eo_nil_sq ?_
 refine ec_ret ?_
 refine end1 (v:=.func (.func 60) #[] #[.pointer (some ⟨b28,0,none⟩)]) rfl ⟨_,rfl,?_⟩
 refine eo_nil_sq ?_
 refine ec_block ?_
 obtain ⟨ha36,h⟩:=h
 refine ec_range (ps:=[11,12]) (gf:=60) (lb:=[.pointer (some ⟨b28,0,none⟩)]) rfl cf_arena_each_1 ?_
 intro D35 l35 rec35 w35 eD35 e35 hr35 F35 BD35 BL35
 have n35:w.heap.size≤D35:=by rw [eD35]; exact E29.size
 have nl35:w.heap.size≤l35:=by omega
 have nd35:D35<l35:=by omega
 have q37:b18<D35:=by rw [eD35]; exact (B18.ex F28).lt
 have m38:w.heap.size≤D35:=by rw [eD35]; exact G30.size
 have m39:w.heap.size≤l35:=by omega
 have m42:w9.heap.size≤D35:=by rw [eD35]; exact ((G17.trans (Fr.ext F18)).trans (Fr.ext F28)).size
 have m43:w9.heap.size≤l35:=by omega
 have m44:w13.heap.size≤D35:=by rw [eD35]; exact (G27.trans (Fr.ext F28)).size
 have m45:w13.heap.size≤l35:=by omega
 have m46:w28.heap.size≤D35:=Nat.le_of_eq eD35.symm
 have m47:w28.heap.size≤l35:=by omega
 have E48:=E29.trans F35
 have G53:Fr (b18::L) w28 w35:=Fr.ext F35
 obtain ⟨x35,hl35,h⟩:=h
 refine range_run (S:=Int) (R:=Int) (arena_each_it d0 (S28.up G53 sI (upc (.inr m47) (upc (.inr m46) (upc (.inl mH) (fun m hm=>Or.inl (mT hm)))))) (kArena_mk (d:=d0) (H3.up (G30.trans (Fr.ext F35)) sI (upc (.inr m39) (upc (.inr m38) (upc (.inr m19) (fun _ h=>.inl h))))) (H6.up (G30.trans (Fr.ext F35)) sI (upc (.inr m39) (upc (.inr m38) (upc (.inr m19) (fun _ h=>.inl h)))))) ((((hL.fr E48).cons ((B18.ex F28).ex F35).lt).cons BD35.lt).cons BL35.lt) ha36) (fun (s35:Int) T w'=>T=(l35::(D35::(b18::L)))∧Fr (l35::(D35::(b18::L))) w35 w'∧Ext w w'∧Blk w' b18 3 [.int .i64 s35]∧Lp w' D35 (.deferred (some []))∧Lp w' l35 (.loop (rec35 .ready none))) (fun (s35:Int) w'=>Fr (l35::(D35::(b18::L))) w35 w'∧Ext w w'∧Blk w' b18 3 [.int .i64 s35]∧Lp w' D35 (.deferred (some []))∧Lp w' l35 (.loop (rec35 .done (some .ret)))) hl35 ((l35::(D35::(b18::L)))) sI (fun _ h=>by cases h) ⟨rfl,(Fr.refl _ _),E48,((B18.ex F28).ex F35),BD35,BL35⟩ (fun _ _ w' w'' h f=>by obtain ⟨rfl,F,E,B35ib18,B35iD35,B35il35⟩:=h; exact ⟨rfl,F.trans (Fr.ext f),E.trans f,B35ib18.ex f,B35iD35.ex f,B35il35.ex f⟩) (fun _ w' w'' h f=>by obtain ⟨F,E,B35ib18,B35iD35,B35il35⟩:=h; exact ⟨F.trans (Fr.ext f),E.trans f,B35ib18.ex f,B35iD35.ex f,B35il35.ex f⟩) (fun _ _ w' h=>by obtain ⟨rfl,F,E,B35ib18,B35iD35,B35il35⟩:=h; exact ((((hL.fr E).cons B35ib18.lt).cons B35iD35.lt).cons B35il35.lt)) ?_ ?_ ?_
 ·intro s35 y35 z35 T35 w35r vs35 hI35 hX35 hb35
  obtain ⟨rfl,F35r,E35r,B35rb18,B35rD35,B35rl35⟩:=hI35
  have h:=hb35
  unfold arena_Find_b35 at h
  have G57:Fr L w9 w35r:=(((G17.trans (Fr.ext F18)).trans (Fr.ext F28)).trans (Fr.ext F35)).stp F35r (upc (.inr m43) (upc (.inr m42) (upc (.inr m21) (fun _ h=>.inl h))))
  have G58:Fr L w13 w35r:=((G27.trans (Fr.ext F28)).trans (Fr.ext F35)).stp F35r (upc (.inr m45) (upc (.inr m44) (upc (.inr m22) (fun _ h=>.inl h))))
  obtain ⟨cs61,rfl,HX60⟩:=hX35
  obtain ⟨A62,c63,A65,c66,rfl,H64,H67⟩:=kEnt_open HX60
  refine range_round (ps:=[11,12]) hr35 B35rl35 rfl rfl ?_
  refine ec_sr ?_
  refine o_w (v:=.int .i64 y35.1) (r_asg rfl) ?_
  refine eo_q ?_
  refine o_alloc zero_api_Entry rfl rfl rfl ?_
  intro b68 w68 e68 F68 B68
  have n68:w.heap.size≤b68:=by rw [e68]; exact E35r.size
  have q69:b18<b68:=by rw [e68]; exact B35rb18.lt
  have q70:l35<b68:=by rw [e68]; exact B35rl35.lt
  have q71:D35<b68:=by rw [e68]; exact B35rD35.lt
  have m74:w9.heap.size≤b68:=by rw [e68]; exact G57.size
  have m75:w13.heap.size≤b68:=by rw [e68]; exact G58.size
  have m77:w35.heap.size≤b68:=by rw [e68]; exact F35r.size
  have m78:w35r.heap.size≤b68:=Nat.le_of_eq e68.symm
  have E80:=E35r.trans F68
  have G87:Fr (l35::(D35::(b18::L))) w35r w68:=Fr.ext F68
  refine o_store rfl B68 (vs:=(cEnt y35.2 A62 c63 A65 c66)) rfl sz_api_Entry rfl rfl rfl ?_
  intro w92 F92 B92
  have E93:=Ext.st E80 F92 (by simp; omega)
  have G96:Fr L w9 w92:=(G57.trans (Fr.ext F68)).stp F92 (upc (.inr m74) (fun m hm=>by cases hm))
  have G97:Fr L w13 w92:=(G58.trans (Fr.ext F68)).stp F92 (upc (.inr m75) (fun m hm=>by cases hm))
  have G99:Fr (l35::(D35::(b18::L))) w35 w92:=(F35r.trans (Fr.ext F68)).stp F92 (upc (.inr m77) (fun m hm=>by cases hm))
  have G100:Fr (l35::(D35::(b18::L))) w35r w92:=G87.stp F92 (upc (.inr m78) (fun m hm=>by cases hm))
  have B102:=(B35rb18.ex F68).fr F92 (by simp; omega)
  have B103:=(B35rl35.ex F68).fr F92 (by simp; omega)
  have B104:=(B35rD35.ex F68).fr F92 (by simp; omega)
  have B92':Blk w92 b68 _ (cEnt y35.2 A62 c63 A65 c66):=B92
  refine eo_nil ?_
  refine ⟨rfl,rfl,B103,fun w105 F106 BL107=>?_⟩
  have E108:=Ext.st E93 F106 (by simp; omega)
  have G111:Fr L w9 w105:=G96.stp F106 (upc (.inr m43) (fun m hm=>by cases hm))
  have G112:Fr L w13 w105:=G97.stp F106 (upc (.inr m45) (fun m hm=>by cases hm))
  have G114:Fr (l35::(D35::(b18::L))) w35 w105:=G99.stp F106 (upc (.inl mH) (fun m hm=>by cases hm))
  have G115:Fr (l35::(D35::(b18::L))) w35r w105:=G100.stp F106 (upc (.inl mH) (fun m hm=>by cases hm))
  have B117:=B102.fr F106 (by simp; omega)
  have B118:=B104.fr F106 (by simp; omega)
  have B119:=B92'.fr F106 (by simp; omega)
  refine ec_block ?_
  refine ec_sr ?_
  refine o_w (v:=.pointer (some ⟨b68,1,none⟩)) (r_fa fld_api_Entry_1 rfl rfl) ?_
  refine o_w (v:=.pointer (some ⟨b68,1,none⟩)) (r_fa fld_api_Value_0 rfl rfl) ?_
  refine o_w (v:=.int .i64 y35.2.val.kind) (r_ld one_int rfl (B119.cell rfl)) ?_
  refine o_w (v:=.int .i64 d1) (r_ld one_int rfl ((S9.fr G111 sI).now.cell rfl)) ?_
  refine o_w (v:=.bool (y35.2.val.kind==d1)) (r_int rfl rfl rfl) ?_
  refine o_w (v:=.bool (y35.2.val.kind==d1)) (r_mov rfl) ?_
  refine o_vg (v:=.pointer (some ⟨b68,0,none⟩)) (want_ct (t:=18) rfl rfl) (fun hk=>(r_fa fld_api_Entry_0 rfl rfl)) rfl rfl ?_
  refine o_vg (v:=str y35.2.key) (want_ct (t:=18) rfl rfl) (fun hk=>(r_ld one_string (gdT hk) (B119.cell rfl))) rfl rfl ?_
  refine o_vg (v:=str d2) (want_ct (t:=18) rfl rfl) (fun hk=>(r_ld one_string rfl ((S13.fr G112 sI).now.cell rfl))) rfl rfl ?_
  refine o_vg (v:=.bool (y35.2.key==d2)) (want_ct (t:=18) rfl rfl) (fun hk=>(r_str (gdT hk) (gdT hk) rfl)) rfl rfl ?_
  refine o_w (v:=.bool ((y35.2.val.kind==d1)&&(y35.2.key==d2))) (r_pickAnd rfl (fun ht=>(gdT ht)) rfl) ?_
  refine eo_nil_sq ?_
  refine ec_cond rfl (fun hc120=>?_) (fun hc120=>?_)
  ·replace h:=h.1 hc120
   refine ec_sr ?_
   refine o_w (v:=.int .i64 y35.1) (r_mov rfl) ?_
   refine o_store rfl B117 (vs:=[.int .i64 y35.1]) rfl sz_int rfl rfl rfl ?_
   intro w121 F121 B121
   have E122:=Ext.st E108 F121 (by simp; omega)
   have G128:Fr (l35::(D35::(b18::L))) w35 w121:=G114.stp F121 (upc (.inl (mT (mT mH))) (fun m hm=>by cases hm))
   have B131:=BL107.fr F121 (by simp; omega)
   have B132:=B118.fr F121 (by simp; omega)
   have B121':Blk w121 b18 _ [.int .i64 y35.1]:=B121
   refine eo_nil_sq ?_
   refine ec_ret ?_
   refine blk_ret ?_
   subst h
   refine ⟨some .ret,rfl,B131,fun w134 F135 BL136=>?_⟩
   have E137:=Ext.st E122 F135 (by simp; omega)
   have G143:Fr (l35::(D35::(b18::L))) w35 w134:=G128.stp F135 (upc (.inl mH) (fun m hm=>by cases hm))
   have B146:=B121'.fr F135 (by simp; omega)
   have B147:=B132.fr F135 (by simp; omega)
   exact ⟨rfl,⟨G143,E137,B146,B147,BL136⟩⟩
  ·replace h:=h.2 hc120
   refine ec_skip ?_
   refine blk_n ?_
   subst h
   refine ⟨none,rfl,BL107,fun w149 F150 BL151=>?_⟩
   have E152:=Ext.st E108 F150 (by simp; omega)
   have G158:Fr (l35::(D35::(b18::L))) w35 w149:=G114.stp F150 (upc (.inl mH) (fun m hm=>by cases hm))
   have G159:Fr (l35::(D35::(b18::L))) w35r w149:=G115.stp F150 (upc (.inl mH) (fun m hm=>by cases hm))
   have B161:=B117.fr F150 (by simp; omega)
   have B162:=B118.fr F150 (by simp; omega)
   exact ⟨rfl,_,⟨rfl,G158,E152,B161,B162,BL151⟩,G159,(upc (.inl mH) (upc (.inl (mT mH)) (upc (.inl (mT (mT mH))) (fun m hm=>Or.inl (mT (mT (mT hm)))))))⟩
 ·rintro sx35 rfl T35 w35e v35 hI35
  replace h:=h.1 _ rfl
  obtain ⟨rfl,F35e,E35e,B35eb18,B35eD35,B35el35⟩:=hI35
  refine ⟨⟨_,rfl⟩,none,B35el35,fun w169 F170=>?_⟩
  have E171:=Ext.st E35e F170 (by simp; omega)
  have B177:=B35eb18.fr F170 (by simp; omega)
  have B178:=B35eD35.fr F170 (by simp; omega)
  refine blk_n ?_
  refine sq_n ?_
  refine ec_sr ?_
  refine o_store rfl B177 (vs:=[.int .i64 (-1:Int)]) rfl sz_int rfl rfl rfl ?_
  intro w179 F179 B179
  have E180:=Ext.st E171 F179 (by simp; omega)
  have B186:=B178.fr F179 (by simp; omega)
  have B179':Blk w179 b18 _ [.int .i64 (-1:Int)]:=B179
  refine eo_nil_sq ?_
  refine ec_ret ?_
  refine marksS B186 (fun w187 F187=>?_)
  have E188:=Ext.st E180 F187 (by simp; omega)
  have B194:=B179'.fr F187 (by simp; omega)
  subst h
  exact marks0 ((endr1 (rv_c rfl (one_int) B194 rfl) ⟨_,rfl,E188,rfl⟩))
 ·rintro yx35 rfl w35q v35 hI35
  replace h:=h.2 _ rfl
  obtain ⟨F35q,E35q,B35qb18,B35qD35,B35ql35⟩:=hI35
  refine ⟨⟨_,rfl⟩,(some .ret),B35ql35,fun w200 F201=>?_⟩
  have E202:=Ext.st E35q F201 (by simp; omega)
  have B208:=B35qb18.fr F201 (by simp; omega)
  have B209:=B35qD35.fr F201 (by simp; omega)
  refine blk_ret ?_
  refine sq_ret ?_
  refine marksS B209 (fun w210 F210=>?_)
  have E211:=Ext.st E202 F210 (by simp; omega)
  have B217:=B208.fr F210 (by simp; omega)
  replace h:=h.symm
  subst h
  exact marks0 ((endr1 (rv_c rfl (one_int) B217 rfl) ⟨_,rfl,E211,rfl⟩))
def ref08_All_b15 (d0:Arena) (s15:List Ent × Int) (z15:(List Ent × Int) ⊕ (List Ent × Int)):Prop :=
 ((decide (s15.2<(d0.idx.length:Int)))=true→((0≤s15.2∧s15.2<(d0.idx.length:Int))∧((0≤(nth d0.idx s15.2)∧(nth d0.idx s15.2)<(d0.slots.length:Int))∧((s15.1.length + 1≤9223372036854775807∧(s15.1.length + 1) * 120≤140737488355328)∧(z15=.inl ((s15.1++([(nth d0.slots (nth d0.idx s15.2))]:List Ent)),(IntKind.i64.wrap (s15.2 + (1:Int)))))))))∧((decide (s15.2<(d0.idx.length:Int)))=false→(z15=.inr (s15.1,s15.2)))
def arena_All_b15 (d0:Arena) (s15:List Ent × Int) (z15:(List Ent × Int) ⊕ (List Ent × Int)):Prop :=
 ((decide (s15.2<(d0.idx.length:Int)))=true→((0≤s15.2∧s15.2<(d0.idx.length:Int))∧((0≤(nth d0.idx s15.2)∧(nth d0.idx s15.2)<(d0.slots.length:Int))∧((s15.1.length + 1≤9223372036854775807∧(s15.1.length + 1) * 120≤140737488355328)∧(z15=.inl ((s15.1++([(nth d0.slots (nth d0.idx s15.2))]:List Ent)),(IntKind.i64.wrap (s15.2 + (1:Int)))))))))∧((decide (s15.2<(d0.idx.length:Int)))=false→(z15=.inr (s15.1,s15.2)))
def arena_All_raw (d0:Arena) (y:(List Ent)):Prop :=
 (sma d0)∧((((checkA d0) != (0:Int))=true→(y=([]:List Ent)))∧(((checkA d0) != (0:Int))=false→(∃ x15,LoopR (arena_All_b15 d0) (([]:List Ent),(0:Int)) x15∧(y=x15.1))))
set_option maxRecDepth 20000 in
set_option maxHeartbeats 4000000 in
theorem arena_All_c {L:List Nat} {w:World} {csP0:List Value} (d0:Arena) (HP0:Stb L w (fun w=>kArena.r w csP0 d0)) (hL:Lt L w) {y:(List Ent)} (h:arena_All_raw d0 y) :
  Calls Try.prog 17 [.agg csP0.toArray].toArray w (Ret fun v w'=>Ext w w'∧∃ (A90:Option Addr) (c90:Nat),v=.slice A90 (y).length c90∧Stb L w' (fun w=>SlC kEnt w A90 c90 y)):=by
 obtain ⟨A1,c2,A4,c5,rfl,H3,H6⟩:=kArena_open HP0
 unfold arena_All_raw at h
 refine calls_ec Try.func17 rfl rfl rfl ?_
 refine ec_sr ?_
 refine o_box (cs:=(cArena d0 A1 c2 A4 c5)) rfl rfl rfl ?_
 intro b7 w7 e7 F7 B7
 have S7:=B7.stb (nin hL e7)
 have G8:Fr L w w7:=Fr.ext F7
 refine o_w (v:=.slice none ([]:List Ent).length 0) (r_asg rfl) ?_
 refine eo_r ?_
 refine o_w (v:=.slice none ([]:List Ent).length 0) (r_asg rfl) ?_
 refine eo_nil_sq ?_
 refine ec_seq ?_
 refine ec_sr ?_
 refine o_w (v:=.agg (cArena d0 A1 c2 A4 c5).toArray) (r_lda agg_api_Arena rfl (vs:=(cArena d0 A1 c2 A4 c5)) rfl (S7.now.part (n:=3) rfl)) ?_
 obtain ⟨ha10,h⟩:=h
 refine o_call cf_arena_Check rfl (arena_Check_c d0 (kArena_mk (d:=d0) (H3.fr G8 sI) (H6.fr G8 sI)) (hL.fr F7) (arCheck_ev d0 ha10)) rfl rfl ?_
 rintro _ w9 ⟨F9,rfl⟩
 have E11:=F7.trans F9
 have G13:Fr L w7 w9:=Fr.ext F9
 refine o_w (v:=.bool ((checkA d0) != (0:Int))) (r_int rfl rfl rfl) ?_
 refine eo_nil_sq ?_
 refine ec_cond rfl (fun hc14=>?_) (fun hc14=>?_)
 ·replace h:=h.1 hc14
  refine ec_sr ?_
  refine o_w (v:=.slice none ([]:List Ent).length 0) (r_asg rfl) ?_
  refine eo_nil_sq ?_
  refine ec_ret ?_
  refine sq_ret ?_
  subst h
  exact (end1 rfl ⟨_,rfl,E11,_,_,rfl,stb_nil⟩)
 ·replace h:=h.2 hc14
  refine ec_skip ?_
  refine sq_n ?_
  refine ec_seq ?_
  refine ec_sr ?_
  refine o_w (v:=.pointer (some ⟨b7,2,none⟩)) (r_fa fld_api_Arena_2 rfl rfl) ?_
  refine o_w (v:=.slice A4 d0.idx.length c5) (r_ld one_s_int rfl ((S7.fr G13 sI).now.cell rfl)) ?_
  refine o_w (v:=.int .i64 (d0.idx.length:Int)) (r_len_slc un_s_int rfl) ?_
  refine o_w (v:=.int .i64 0) (r_mov rfl) ?_
  refine eo_nil_sq ?_
  refine ec_block ?_
  have lo16:w.heap.size≤w9.heap.size:=E11.size
  have O16:=OwnS.nil (k:=kEnt) (e:=42) (by decide) (hL.fr E11)
  obtain ⟨x15,hl15,h⟩:=h
  refine ec_loopE 0 (I:=(fun (s15:List Ent × Int) ρ ds w'=>∃ (ρ':Env) (v15i1:Value),ρ=envs ρ' [(3,v15i1),(12,.int .i64 s15.2),(1,.pointer (some ⟨b7,0,none⟩)),(10,.slice A4 d0.idx.length c5),(11,.int .i64 (d0.idx.length:Int))]∧ds=[]∧Fr (own (.slice none 0 0)++L) w9 w'∧Ext w w'∧OwnS kEnt (w9.heap.size) 42 L w' v15i1 s15.1∧(∀ q∈own v15i1,q∈(own (.slice none 0 0)++L)∨w9.heap.size≤q))) ?_ hl15 ?_ ?_
  ·intro s15 z15 ρ15 ds15 w15r hI15 hb15
   obtain ⟨ρ15r,v15r1,rfl,rfl,F15r,E15r,O15r1,N15r1⟩:=hI15
   have h:=hb15
   unfold arena_All_b15 at h
   have G17:Fr L w w15r:=(G8.trans (Fr.ext F9)).stp F15r (upo (fun m hm=>by cases hm) (fun _ h=>.inl h))
   have G18:Fr L w7 w15r:=G13.stp F15r (upo (fun m hm=>by cases hm) (fun _ h=>.inl h))
   have P19:∀ m∈own v15r1,m∈L∨w.heap.size≤m:=fun m hm=>(N15r1 m hm).elim (fun h=>(show ∀ m∈(own (.slice none 0 0)++L),m∈L∨w.heap.size≤m from (upo (fun m hm=>by cases hm) (fun _ h=>.inl h))) m h) (fun h=>.inr (Nat.le_trans ((G8.trans (Fr.ext F9)).size) h))
   refine ec_sr ?_
   refine o_w (v:=.bool (decide (s15.2<(d0.idx.length:Int)))) (r_int rfl rfl rfl) ?_
   refine eo_nil_sq ?_
   refine ec_seq ?_
   refine ec_cond rfl (fun hc21=>?_) (fun hc21=>?_)
   ·replace h:=h.1 hc21
    refine ec_skip ?_
    refine sq_n ?_
    refine ec_seq ?_
    refine ec_block ?_
    refine ec_sr ?_
    obtain ⟨ha22,h⟩:=h
    obtain ⟨cs23,l25,H24⟩:=Stb.elem (by decide) (H6.up G17 sI (upo P19 (fun _ h=>.inl h))) s15.2 ha22.1 ha22.2
    obtain ⟨rfl,H24'⟩:=kI_open2 H24
    refine o_w (v:=.pointer (some (elemA A4 (kI .i64).n s15.2.toNat))) (r_ia slc_s_int rfl rfl ((H6.fr G17 sI).now.2 _ (lt_toNat ha22.1 ha22.2)).1 ha22.1 ha22.2) ?_
    refine o_w (v:=.int .i64 (nth d0.idx s15.2)) (r_ld' one_int rfl (elemA_spot _ _ _) (H24'.now.1.at0 (elemA_spot _ _ _))) ?_
    refine o_w (v:=.int .i64 (nth d0.idx s15.2)) (r_asg rfl) ?_
    refine eo_q ?_
    refine o_w (v:=v15r1) (r_mov rfl) ?_
    refine o_w (v:=.pointer (some ⟨b7,1,none⟩)) (r_fa fld_api_Arena_1 rfl rfl) ?_
    refine o_w (v:=.slice A1 d0.slots.length c2) (r_ld one_s_api_Entry rfl ((S7.fr G18 sI).now.cell rfl)) ?_
    refine o_w (v:=.int .i64 (nth d0.idx s15.2)) (r_mov rfl) ?_
    obtain ⟨ha26,h⟩:=h
    obtain ⟨cs27,l29,H28⟩:=Stb.elem (by decide) (H3.up G17 sI (upo P19 (fun _ h=>.inl h))) (nth d0.idx s15.2) ha26.1 ha26.2
    obtain ⟨A31,c32,A34,c35,rfl,H30,H33,H36⟩:=kEnt_open2 H28
    refine o_w (v:=.pointer (some (elemA A1 kEnt.n (nth d0.idx s15.2).toNat))) (r_ia slc_s_api_Entry rfl rfl ((H3.fr G17 sI).now.2 _ (lt_toNat ha26.1 ha26.2)).1 ha26.1 ha26.2) ?_
    refine o_w (v:=.agg (cEnt (nth d0.slots (nth d0.idx s15.2)) A31 c32 A34 c35).toArray) (r_lda' agg_api_Entry rfl (elemA_spot _ _ _) (vs:=(cEnt (nth d0.slots (nth d0.idx s15.2)) A31 c32 A34 c35)) rfl (H30.now.1)) ?_
    refine o_bslice slc_s_api_Entry rfl (vs:=[.agg (cEnt (nth d0.slots (nth d0.idx s15.2)) A31 c32 A34 c35).toArray]) rfl rfl rfl (cs:=[str ((nth d0.slots (nth d0.idx s15.2)).key),.int .i64 (((nth d0.slots (nth d0.idx s15.2)).val).kind),.int .i64 (((nth d0.slots (nth d0.idx s15.2)).val).time),.int .i64 (((nth d0.slots (nth d0.idx s15.2)).val).node),.bool (((nth d0.slots (nth d0.idx s15.2)).val).dead),str (((nth d0.slots (nth d0.idx s15.2)).val).text),.slice A31 (((nth d0.slots (nth d0.idx s15.2)).val).plus).length c32,.slice A34 (((nth d0.slots (nth d0.idx s15.2)).val).minus).length c35,.int .u64 (((nth d0.slots (nth d0.idx s15.2)).val).flags)]) rfl rfl rfl rfl ?_
    intro b37 w37 e37 F37 B37
    have N37:=nin ((hL.fr E15r).own O15r1) e37
    have S37:=B37.stb N37
    have E38:=E15r.trans F37
    have G42:Fr (own v15r1++L) w15r w37:=Fr.ext F37
    obtain ⟨ha45,h⟩:=h
    refine o_app slc_s_api_Entry rfl rfl rfl (O15r1.ex F37) rfl S37.now (ys:=([(nth d0.slots (nth d0.idx s15.2))]:List Ent)) rfl rfl rfl (rowd1 (cs:=(cEnt (nth d0.slots (nth d0.idx s15.2)) A31 c32 A34 c35)) (kEnt_mk (d:=(nth d0.slots (nth d0.idx s15.2))) (H33.fr G42 sI) (H36.fr G42 sI)) rfl) ha45 rfl rfl ?_
    intro v44 w44 F44 O44 N44
    have P48:∀ m∈own v44,m∈(own (.slice none 0 0)++L)∨w9.heap.size≤m:=fun m hm=>(N44 m hm).elim (fun h=>(show ∀ m∈own v15r1,m∈(own (.slice none 0 0)++L)∨w9.heap.size≤m from N15r1) m h) (fun h=>.inr (Nat.le_trans ((F15r.trans (Fr.ext F37)).size) h))
    have E51:=Ext.st E38 F44 (fun m hm=>Nat.le_trans lo16 ((O15r1.ex F37).lo m hm))
    have G54:Fr (own (.slice none 0 0)++L) w9 w44:=(F15r.trans (Fr.ext F37)).stp F44 N15r1
    refine o_w (v:=v44) (r_asg rfl) ?_
    refine eo_nil ?_
    refine blk_n ?_
    refine sq_n ?_
    refine ec_region ?_
    refine o_w (v:=.int .i64 (IntKind.i64.wrap (s15.2 + (1:Int)))) (r_int rfl rfl rfl) ?_
    refine o_w (v:=.int .i64 (IntKind.i64.wrap (s15.2 + (1:Int)))) (r_mov rfl) ?_
    refine eo_nil ?_
    subst h
    exact lq_n ⟨_,v44,envs_self ⟨rfl,rfl,rfl,rfl,rfl,trivial⟩,rfl,G54,E51,O44,P48⟩
   ·replace h:=h.2 hc21
    refine ec_exit ?_
    refine sq_exit ?_
    subst h
    exact lq_x ⟨_,v15r1,envs_self ⟨rfl,rfl,rfl,rfl,rfl,trivial⟩,rfl,F15r,E15r,O15r1,N15r1⟩
  ·exact ⟨_,(.slice none 0 0),envs_self ⟨rfl,rfl,rfl,rfl,rfl,trivial⟩,rfl,(Fr.refl _ _),E11,O16,(fun q hq=>.inl (by first | exact List.mem_append_left _ hq | simp [hq]))⟩
  ·rintro ρ15e ds15e w15e ⟨ρ15e,v15e1,rfl,rfl,F15e,E15e,O15e1,N15e1⟩
   refine blk_hit ?_
   refine sq_n ?_
   refine ec_sr ?_
   refine o_w (v:=v15e1) (r_mov rfl) ?_
   refine o_w (v:=v15e1) (r_asg rfl) ?_
   refine eo_nil_sq ?_
   refine ec_ret ?_
   obtain ⟨A61,c62,eA61,H63⟩:=O15e1.still
   subst eA61
   have Zw15e_64:=Fr.refl L w15e
   subst h
   exact (end1 rfl ⟨_,rfl,E15e,_,_,rfl,(H63.fr Zw15e_64 sI)⟩)
def arena_Chunk_b36 (d1:Int) (d2:Int) (s36:List Ent) (y36:(Int × Ent)) (z36:(List Ent) ⊕ (List Ent)):Prop :=
 (((decide (d1≤y36.1))&&(decide ((IntKind.i64.wrap (y36.1 - d1))<d2)))=true→((s36.length + 1≤9223372036854775807∧(s36.length + 1) * 120≤140737488355328)∧(z36=.inl (s36++([y36.2]:List Ent)))))∧(((decide (d1≤y36.1))&&(decide ((IntKind.i64.wrap (y36.1 - d1))<d2)))=false→(z36=.inl s36))
def arena_Chunk_raw (d0:Arena) (d1:Int) (d2:Int) (y:(List Ent)):Prop :=
 ((decide (d1<0))=true→(y=([]:List Ent)))∧((decide (d1<0))=false→((sma d0)∧(∃ x36,ItR (arena_Chunk_b36 d1 d2) ([]:List Ent) (eachA d0) x36∧(∀ sx36,x36=.inl sx36→(y=sx36))∧(∀ yx36,x36=.inr yx36→False))))
set_option maxRecDepth 20000 in
set_option maxHeartbeats 4000000 in
theorem arena_Chunk_c {L:List Nat} {w:World} {csP0:List Value} (d0:Arena) (HP0:Stb L w (fun w=>kArena.r w csP0 d0)) (d1:Int) (d2:Int) (hL:Lt L w) {y:(List Ent)} (h:arena_Chunk_raw d0 d1 d2 y) :
  Calls Try.prog 19 [.agg csP0.toArray,.int .i64 d1,.int .i64 d2].toArray w (Ret fun v w'=>Ext w w'∧∃ (A90:Option Addr) (c90:Nat),v=.slice A90 (y).length c90∧Stb L w' (fun w=>SlC kEnt w A90 c90 y)):=by
 obtain ⟨A1,c2,A4,c5,rfl,H3,H6⟩:=kArena_open HP0
 unfold arena_Chunk_raw at h
 refine calls_ecM Try.func19 rfl rfl rfl ?_
 refine ec_sr ?_
 refine o_box (cs:=(cArena d0 A1 c2 A4 c5)) rfl rfl rfl ?_
 intro b7 w7 e7 F7 B7
 have S7:=B7.stb (nin hL e7)
 have G8:Fr L w w7:=Fr.ext F7
 refine o_box (cs:=[.int .i64 d1]) rfl rfl rfl ?_
 intro b9 w9 e9 F9 B9
 have S9:=B9.stb (nin (hL.fr F7) e9)
 have E10:=F7.trans F9
 have G12:Fr L w7 w9:=Fr.ext F9
 refine o_box (cs:=[.int .i64 d2]) rfl rfl rfl ?_
 intro b13 w13 e13 F13 B13
 have S13:=B13.stb (nin (hL.fr E10) e13)
 have E14:=E10.trans F13
 have G17:Fr L w9 w13:=Fr.ext F13
 refine o_w (v:=.slice none ([]:List Ent).length 0) (r_asg rfl) ?_
 refine eo_r ?_
 refine o_alloc zero_s_api_Entry rfl rfl rfl ?_
 intro b18 w18 e18 F18 B18
 have n18:w.heap.size≤b18:=by rw [e18]; exact E14.size
 have m19:w.heap.size≤b18:=by rw [e18]; exact ((G8.trans (Fr.ext F9)).trans (Fr.ext F13)).size
 have m21:w9.heap.size≤b18:=by rw [e18]; exact G17.size
 have m22:w13.heap.size≤b18:=Nat.le_of_eq e18.symm
 have E23:=E14.trans F18
 have G27:Fr L w13 w18:=Fr.ext F18
 refine eo_nil_sq ?_
 refine ec_seq ?_
 refine ec_sr ?_
 refine o_w (v:=.int .i64 d1) (r_ld one_int rfl ((S9.fr (G17.trans (Fr.ext F18)) sI).now.cell rfl)) ?_
 refine o_w (v:=.bool (decide (d1<0))) (r_int rfl rfl rfl) ?_
 refine eo_nil_sq ?_
 refine ec_cond rfl (fun hc28=>?_) (fun hc28=>?_)
 ·replace h:=h.1 hc28
  refine ec_sr ?_
  refine o_w (v:=.slice none ([]:List Ent).length 0) (r_asg rfl) ?_
  refine eo_nil_sq ?_
  refine ec_ret ?_
  refine sq_ret ?_
  subst h
  exact marks0 ((end1 rfl ⟨_,rfl,E23,_,_,rfl,stb_nil⟩))
 ·replace h:=h.2 hc28
  refine ec_skip ?_
  refine sq_n ?_
  refine ec_seq ?_
  refine ec_sr ?_
  refine o_w (v:=.agg (cArena d0 A1 c2 A4 c5).toArray) (r_lda agg_api_Arena rfl (vs:=(cArena d0 A1 c2 A4 c5)) rfl ((S7.fr ((G12.trans (Fr.ext F13)).trans (Fr.ext F18)) sI).now.part (n:=3) rfl)) ?_
  refine o_inl (vs:=[.agg (cArena d0 A1 c2 A4 c5).toArray]) (caps:=[]) cf_arena_each rfl rfl rfl rfl ?_
  refine calls_ec Try.func43 rfl rfl rfl ?_
  refine ec_sr ?_
  refine o_box (cs:=(cArena d0 A1 c2 A4 c5)) rfl rfl rfl ?_
  intro b29 w29 e29 F29 B29
  have S29:=B29.stb (nin ((hL.fr E23).cons B18.lt) e29)
  have E30:=E23.trans F29
  have G31:=(((G8.trans (Fr.ext F9)).trans (Fr.ext F13)).trans (Fr.ext F18)).trans (Fr.ext F29)
  refine o_w (v:=.nilFunc) (r_asg rfl) ?_
  refine eo_r ?_
  refine o_w (r_mkfn' (vs:=[.pointer (some ⟨b29,0,none⟩)]) rfl) ?_
  refine o_w (v:=.func (.func 60) #[] #[.pointer (some ⟨b29,0,none⟩)]) (r_asg rfl) ?_
  refine eo_nil_sq ?_
  refine ec_ret ?_
  refine end1 (v:=.func (.func 60) #[] #[.pointer (some ⟨b29,0,none⟩)]) rfl ⟨_,rfl,?_⟩
  refine eo_nil_sq ?_
  refine ec_block ?_
  obtain ⟨ha37,h⟩:=h
  refine ec_range (ps:=[14,15]) (gf:=60) (lb:=[.pointer (some ⟨b29,0,none⟩)]) rfl cf_arena_each_1 ?_
  intro D36 l36 rec36 w36 eD36 e36 hr36 F36 BD36 BL36
  have n36:w.heap.size≤D36:=by rw [eD36]; exact E30.size
  have nl36:w.heap.size≤l36:=by omega
  have nd36:D36<l36:=by omega
  have q38:b18<D36:=by rw [eD36]; exact (B18.ex F29).lt
  have m39:w.heap.size≤D36:=by rw [eD36]; exact G31.size
  have m40:w.heap.size≤l36:=by omega
  have m43:w9.heap.size≤D36:=by rw [eD36]; exact ((G17.trans (Fr.ext F18)).trans (Fr.ext F29)).size
  have m44:w9.heap.size≤l36:=by omega
  have m45:w13.heap.size≤D36:=by rw [eD36]; exact (G27.trans (Fr.ext F29)).size
  have m46:w13.heap.size≤l36:=by omega
  have m47:w29.heap.size≤D36:=Nat.le_of_eq eD36.symm
  have m48:w29.heap.size≤l36:=by omega
  have E49:=E30.trans F36
  have G54:Fr (b18::L) w29 w36:=Fr.ext F36
  have lo56:w.heap.size≤w36.heap.size:=E49.size
  have O56:=OwnS.nil (k:=kEnt) (e:=42) (by decide) ((((hL.fr E49).cons ((B18.ex F29).ex F36).lt).cons BD36.lt).cons BL36.lt)
  obtain ⟨x36,hl36,h⟩:=h
  refine range_run (S:=List Ent) (R:=List Ent) (arena_each_it d0 (S29.up G54 sI (upo (fun m hm=>by cases hm) (upc (.inr m48) (upc (.inr m47) (upc (.inl mH) (fun m hm=>Or.inl (mT hm))))))) (kArena_mk (d:=d0) (H3.up (G31.trans (Fr.ext F36)) sI (upo (fun m hm=>by cases hm) (upc (.inr m40) (upc (.inr m39) (upc (.inr m19) (fun _ h=>.inl h)))))) (H6.up (G31.trans (Fr.ext F36)) sI (upo (fun m hm=>by cases hm) (upc (.inr m40) (upc (.inr m39) (upc (.inr m19) (fun _ h=>.inl h))))))) (((((hL.fr E49).cons ((B18.ex F29).ex F36).lt).cons BD36.lt).cons BL36.lt).own O56) ha37) (fun (s36:List Ent) T w'=>∃ (v36i1:Value),T=(own v36i1++(l36::(D36::(b18::L))))∧Fr (own (.slice none 0 0)++(l36::(D36::(b18::L)))) w36 w'∧Ext w w'∧OwnS kEnt (w36.heap.size) 42 (l36::(D36::(b18::L))) w' v36i1 s36∧(∀ q∈own v36i1,q∈(own (.slice none 0 0)++(l36::(D36::(b18::L))))∨w36.heap.size≤q)∧Blk w' b18 22 [v36i1]∧Lp w' D36 (.deferred (some []))∧Lp w' l36 (.loop (rec36 .ready none))) (fun (s36:List Ent) w'=>∃ (v36i1:Value),Fr (own (.slice none 0 0)++(l36::(D36::(b18::L)))) w36 w'∧Ext w w'∧OwnS kEnt (w36.heap.size) 42 (l36::(D36::(b18::L))) w' v36i1 s36∧(∀ q∈own v36i1,q∈(own (.slice none 0 0)++(l36::(D36::(b18::L))))∨w36.heap.size≤q)∧Blk w' b18 22 [v36i1]∧Lp w' D36 (.deferred (some []))∧Lp w' l36 (.loop (rec36 .done (some .ret)))) hl36 ((own (.slice none 0 0)++(l36::(D36::(b18::L))))) sI (fun _ h=>by cases h) ⟨(.slice none 0 0),rfl,(Fr.refl _ _),E49,O56,(fun q hq=>.inl (by first | exact List.mem_append_left _ hq | simp [hq])),((B18.ex F29).ex F36),BD36,BL36⟩ (fun _ _ w' w'' h f=>by obtain ⟨v36i1,rfl,F,E,O36i1,N36i1,B36ib18,B36iD36,B36il36⟩:=h; exact ⟨v36i1,rfl,F.trans (Fr.ext f),E.trans f,O36i1.ex f,N36i1,B36ib18.ex f,B36iD36.ex f,B36il36.ex f⟩) (fun _ w' w'' h f=>by obtain ⟨v36i1,F,E,O36i1,N36i1,B36ib18,B36iD36,B36il36⟩:=h; exact ⟨v36i1,F.trans (Fr.ext f),E.trans f,O36i1.ex f,N36i1,B36ib18.ex f,B36iD36.ex f,B36il36.ex f⟩) (fun _ _ w' h=>by obtain ⟨v36i1,rfl,F,E,O36i1,N36i1,B36ib18,B36iD36,B36il36⟩:=h; exact (((((hL.fr E).cons B36ib18.lt).cons B36iD36.lt).cons B36il36.lt).own O36i1)) ?_ ?_ ?_
  ·intro s36 y36 z36 T36 w36r vs36 hI36 hX36 hb36
   obtain ⟨v36r1,rfl,F36r,E36r,O36r1,N36r1,B36rb18,B36rD36,B36rl36⟩:=hI36
   have h:=hb36
   unfold arena_Chunk_b36 at h
   have G59:Fr L w9 w36r:=(((G17.trans (Fr.ext F18)).trans (Fr.ext F29)).trans (Fr.ext F36)).stp F36r (upo (fun m hm=>by cases hm) (upc (.inr m44) (upc (.inr m43) (upc (.inr m21) (fun _ h=>.inl h)))))
   have G60:Fr L w13 w36r:=((G27.trans (Fr.ext F29)).trans (Fr.ext F36)).stp F36r (upo (fun m hm=>by cases hm) (upc (.inr m46) (upc (.inr m45) (upc (.inr m22) (fun _ h=>.inl h)))))
   obtain ⟨cs68,rfl,HX67⟩:=hX36
   obtain ⟨A69,c70,A72,c73,rfl,H71,H74⟩:=kEnt_open HX67
   refine range_round (ps:=[14,15]) hr36 B36rl36 rfl rfl ?_
   refine ec_sr ?_
   refine o_w (v:=.int .i64 y36.1) (r_asg rfl) ?_
   refine eo_q ?_
   refine o_alloc zero_api_Entry rfl rfl rfl ?_
   intro b75 w75 e75 F75 B75
   have n75:w.heap.size≤b75:=by rw [e75]; exact E36r.size
   have q76:b18<b75:=by rw [e75]; exact B36rb18.lt
   have q77:l36<b75:=by rw [e75]; exact B36rl36.lt
   have q78:D36<b75:=by rw [e75]; exact B36rD36.lt
   have m81:w9.heap.size≤b75:=by rw [e75]; exact G59.size
   have m82:w13.heap.size≤b75:=by rw [e75]; exact G60.size
   have m84:w36.heap.size≤b75:=by rw [e75]; exact F36r.size
   have m85:w36r.heap.size≤b75:=Nat.le_of_eq e75.symm
   have m86:w36r.heap.size≤b75:=Nat.le_of_eq e75.symm
   have Ob87:=O36r1.born F75 (Nat.le_of_eq e75.symm) B75.lt
   have E88:=E36r.trans F75
   have G95:Fr (own v36r1++(l36::(D36::(b18::L)))) w36r w75:=Fr.ext F75
   have G96:Fr (own v36r1++(l36::(D36::(b18::L)))) w36r w75:=Fr.ext F75
   refine o_store rfl B75 (vs:=(cEnt y36.2 A69 c70 A72 c73)) rfl sz_api_Entry rfl rfl rfl ?_
   intro w101 F101 B101
   have E102:=Ext.st E88 F101 (by simp; omega)
   have G105:Fr L w9 w101:=(G59.trans (Fr.ext F75)).stp F101 (upc (.inr m81) (fun m hm=>by cases hm))
   have G106:Fr L w13 w101:=(G60.trans (Fr.ext F75)).stp F101 (upc (.inr m82) (fun m hm=>by cases hm))
   have G108:Fr (own (.slice none 0 0)++(l36::(D36::(b18::L)))) w36 w101:=(F36r.trans (Fr.ext F75)).stp F101 (upc (.inr m84) (fun m hm=>by cases hm))
   have G109:Fr (own v36r1++(l36::(D36::(b18::L)))) w36r w101:=G95.stp F101 (upc (.inr m85) (fun m hm=>by cases hm))
   have G110:Fr (own v36r1++(l36::(D36::(b18::L)))) w36r w101:=G96.stp F101 (upc (.inr m86) (fun m hm=>by cases hm))
   have B111:=(B36rb18.ex F75).fr F101 (by simp; omega)
   have B112:=(B36rl36.ex F75).fr F101 (by simp; omega)
   have B113:=(B36rD36.ex F75).fr F101 (by simp; omega)
   have O114:=Ob87.fr F101 (by simp)
   have B101':Blk w101 b75 _ (cEnt y36.2 A69 c70 A72 c73):=B101
   refine eo_nil ?_
   refine ⟨rfl,rfl,B112,fun w115 F116 BL117=>?_⟩
   have E118:=Ext.st E102 F116 (by simp; omega)
   have G121:Fr L w9 w115:=G105.stp F116 (upc (.inr m44) (fun m hm=>by cases hm))
   have G122:Fr L w13 w115:=G106.stp F116 (upc (.inr m46) (fun m hm=>by cases hm))
   have G124:Fr (own (.slice none 0 0)++(l36::(D36::(b18::L)))) w36 w115:=G108.stp F116 (upc (.inl (List.mem_append_right _ mH)) (fun m hm=>by cases hm))
   have G125:Fr (own v36r1++(l36::(D36::(b18::L)))) w36r w115:=G109.stp F116 (upc (.inl (List.mem_append_right _ mH)) (fun m hm=>by cases hm))
   have G126:Fr (own v36r1++(l36::(D36::(b18::L)))) w36r w115:=G110.stp F116 (upc (.inl (List.mem_append_right _ mH)) (fun m hm=>by cases hm))
   have B127:=B111.fr F116 (by simp; omega)
   have B128:=B113.fr F116 (by simp; omega)
   have B129:=B101'.fr F116 (by simp; omega)
   have O130:=O114.fr F116 (by simp)
   refine ec_block ?_
   refine ec_sr ?_
   refine o_w (v:=.int .i64 y36.1) (r_mov rfl) ?_
   refine o_w (v:=.int .i64 d1) (r_ld one_int rfl ((S9.fr G121 sI).now.cell rfl)) ?_
   refine o_w (v:=.bool (decide (d1≤y36.1))) (r_int rfl rfl rfl) ?_
   refine o_w (v:=.bool (decide (d1≤y36.1))) (r_mov rfl) ?_
   refine o_vg (v:=.int .i64 y36.1) (want_ct (t:=19) rfl rfl) (fun hk=>(r_mov rfl)) rfl rfl ?_
   refine o_vg (v:=.int .i64 d1) (want_ct (t:=19) rfl rfl) (fun hk=>(r_ld one_int rfl ((S9.fr G121 sI).now.cell rfl))) rfl rfl ?_
   refine o_vg (v:=.int .i64 (IntKind.i64.wrap (y36.1 - d1))) (want_ct (t:=19) rfl rfl) (fun hk=>(r_int (gdT hk) (gdT hk) rfl)) rfl rfl ?_
   refine o_vg (v:=.int .i64 d2) (want_ct (t:=19) rfl rfl) (fun hk=>(r_ld one_int rfl ((S13.fr G122 sI).now.cell rfl))) rfl rfl ?_
   refine o_vg (v:=.bool (decide ((IntKind.i64.wrap (y36.1 - d1))<d2))) (want_ct (t:=19) rfl rfl) (fun hk=>(r_int (gdT hk) (gdT hk) rfl)) rfl rfl ?_
   refine o_w (v:=.bool ((decide (d1≤y36.1))&&(decide ((IntKind.i64.wrap (y36.1 - d1))<d2)))) (r_pickAnd rfl (fun ht=>(gdT ht)) rfl) ?_
   refine eo_nil_sq ?_
   refine ec_cond rfl (fun hc131=>?_) (fun hc131=>?_)
   ·replace h:=h.1 hc131
    refine ec_region ?_
    refine o_w (v:=v36r1) (r_ld one_s_api_Entry rfl (B127.cell rfl)) ?_
    refine o_w (v:=.agg (cEnt y36.2 A69 c70 A72 c73).toArray) (r_lda agg_api_Entry rfl (vs:=(cEnt y36.2 A69 c70 A72 c73)) rfl (B129.part (n:=9) rfl)) ?_
    refine o_bslice slc_s_api_Entry rfl (vs:=[.agg (cEnt y36.2 A69 c70 A72 c73).toArray]) rfl rfl rfl (cs:=[str y36.2.key,.int .i64 y36.2.val.kind,.int .i64 y36.2.val.time,.int .i64 y36.2.val.node,.bool y36.2.val.dead,str y36.2.val.text,.slice A69 y36.2.val.plus.length c70,.slice A72 y36.2.val.minus.length c73,.int .u64 y36.2.val.flags]) rfl rfl rfl rfl ?_
    intro b132 w132 e132 F132 B132
    have N132:=nin ((((((hL.fr E118).cons B127.lt).cons B128.lt).cons BL117.lt).own O130).cons B129.lt) e132
    have S132:=B132.stb N132
    have E133:=E118.trans F132
    obtain ⟨ha148,h⟩:=h
    refine o_app slc_s_api_Entry rfl rfl rfl (O130.ex F132) rfl S132.now (ys:=([y36.2]:List Ent)) rfl rfl rfl (rowd1 (cs:=(cEnt y36.2 A69 c70 A72 c73)) (kEnt_mk (d:=y36.2) (H71.up (G126.trans (Fr.ext F132)) sI (upo (fun m hm=>Or.inl (List.mem_append_left _ hm)) (upc (.inr m86) (upc (.inl (List.mem_append_right _ mH)) (upc (.inl (List.mem_append_right _ (mT mH))) (upc (.inl (List.mem_append_right _ (mT (mT mH)))) (fun m hm=>Or.inl (List.mem_append_right _ (mT (mT (mT hm))))))))))) (H74.up (G126.trans (Fr.ext F132)) sI (upo (fun m hm=>Or.inl (List.mem_append_left _ hm)) (upc (.inr m86) (upc (.inl (List.mem_append_right _ mH)) (upc (.inl (List.mem_append_right _ (mT mH))) (upc (.inl (List.mem_append_right _ (mT (mT mH)))) (fun m hm=>Or.inl (List.mem_append_right _ (mT (mT (mT hm)))))))))))) rfl) ha148 rfl rfl ?_
    intro v147 w147 F147 O147 N147
    have P154:∀ m∈own v147,m∈(own (.slice none 0 0)++(l36::(D36::(b18::L))))∨w36.heap.size≤m:=fun m hm=>(N147 m hm).elim (fun h=>(show ∀ m∈own v36r1,m∈(own (.slice none 0 0)++(l36::(D36::(b18::L))))∨w36.heap.size≤m from N36r1) m h) (fun h=>.inr (Nat.le_trans ((G124.trans (Fr.ext F132)).size) h))
    have P155:∀ m∈own v147,m∈(own v36r1++(l36::(D36::(b18::L))))∨w36r.heap.size≤m:=fun m hm=>(N147 m hm).elim (fun h=>(show ∀ m∈own v36r1,m∈(own v36r1++(l36::(D36::(b18::L))))∨w36r.heap.size≤m from (fun m hm=>.inl (List.mem_append_left _ hm))) m h) (fun h=>.inr (Nat.le_trans ((G125.trans (Fr.ext F132)).size) h))
    have E158:=Ext.st E133 F147 (fun m hm=>Nat.le_trans lo56 ((O130.ex F132).lo m hm))
    have G164:Fr (own (.slice none 0 0)++(l36::(D36::(b18::L)))) w36 w147:=(G124.trans (Fr.ext F132)).stp F147 N36r1
    have G165:Fr (own v36r1++(l36::(D36::(b18::L)))) w36r w147:=(G125.trans (Fr.ext F132)).stp F147 (fun m hm=>.inl (List.mem_append_left _ hm))
    have B168:=(B127.ex F132).fr F147 (fun hm=>((O130.ex F132).below b18 (by simp)).2 hm)
    have B169:=(BL117.ex F132).fr F147 (fun hm=>((O130.ex F132).below l36 (by simp)).2 hm)
    have B170:=(B128.ex F132).fr F147 (fun hm=>((O130.ex F132).below D36 (by simp)).2 hm)
    obtain ⟨A172,c173,rfl⟩:=O147.shape
    refine o_store rfl B168 (vs:=[(.slice A172 (s36++([y36.2]:List Ent)).length c173)]) rfl sz_s_api_Entry rfl rfl rfl ?_
    intro w174 F174 B174
    have E175:=Ext.st E158 F174 (by simp; omega)
    have G181:Fr (own (.slice none 0 0)++(l36::(D36::(b18::L)))) w36 w174:=G164.stp F174 (upc (.inl (List.mem_append_right _ (mT (mT mH)))) (fun m hm=>by cases hm))
    have G182:Fr (own v36r1++(l36::(D36::(b18::L)))) w36r w174:=G165.stp F174 (upc (.inl (List.mem_append_right _ (mT (mT mH)))) (fun m hm=>by cases hm))
    have B185:=B169.fr F174 (by simp; omega)
    have B186:=B170.fr F174 (by simp; omega)
    have O188:=O147.fr F174 (by simp)
    have B174':Blk w174 b18 _ [(.slice A172 (s36++([y36.2]:List Ent)).length c173)]:=B174
    refine eo_nil ?_
    refine blk_n ?_
    subst h
    refine ⟨none,rfl,B185,fun w189 F190 BL191=>?_⟩
    have E192:=Ext.st E175 F190 (by simp; omega)
    have G198:Fr (own (.slice none 0 0)++(l36::(D36::(b18::L)))) w36 w189:=G181.stp F190 (upc (.inl (List.mem_append_right _ mH)) (fun m hm=>by cases hm))
    have G199:Fr (own v36r1++(l36::(D36::(b18::L)))) w36r w189:=G182.stp F190 (upc (.inl (List.mem_append_right _ mH)) (fun m hm=>by cases hm))
    have B202:=B174'.fr F190 (by simp; omega)
    have B203:=B186.fr F190 (by simp; omega)
    have O205:=O188.fr F190 (by simp)
    exact ⟨rfl,_,⟨(.slice A172 (s36++([y36.2]:List Ent)).length c173),rfl,G198,E192,(O205.weak (fun m hm=>by simp at hm ⊢; first | exact hm | exact .inr hm | simp [hm] | (rcases hm with h | h <;> simp [h]) | simp_all)),P154,B202,B203,BL191⟩,G199,(upo P155 (upc (.inl (List.mem_append_right _ mH)) (upc (.inl (List.mem_append_right _ (mT mH))) (upc (.inl (List.mem_append_right _ (mT (mT mH)))) (fun m hm=>Or.inl (List.mem_append_right _ (mT (mT (mT hm)))))))))⟩
   ·replace h:=h.2 hc131
    refine ec_skip ?_
    refine blk_n ?_
    subst h
    refine ⟨none,rfl,BL117,fun w206 F207 BL208=>?_⟩
    have E209:=Ext.st E118 F207 (by simp; omega)
    have G215:Fr (own (.slice none 0 0)++(l36::(D36::(b18::L)))) w36 w206:=G124.stp F207 (upc (.inl (List.mem_append_right _ mH)) (fun m hm=>by cases hm))
    have G216:Fr (own v36r1++(l36::(D36::(b18::L)))) w36r w206:=G125.stp F207 (upc (.inl (List.mem_append_right _ mH)) (fun m hm=>by cases hm))
    have B218:=B127.fr F207 (by simp; omega)
    have B219:=B128.fr F207 (by simp; omega)
    have O221:=O130.fr F207 (by simp)
    exact ⟨rfl,_,⟨v36r1,rfl,G215,E209,(O221.weak (fun m hm=>by simp at hm ⊢; first | exact hm | exact .inr hm | simp [hm] | (rcases hm with h | h <;> simp [h]) | simp_all)),N36r1,B218,B219,BL208⟩,G216,(upo (fun m hm=>Or.inl (List.mem_append_left _ hm)) (upc (.inl (List.mem_append_right _ mH)) (upc (.inl (List.mem_append_right _ (mT mH))) (upc (.inl (List.mem_append_right _ (mT (mT mH)))) (fun m hm=>Or.inl (List.mem_append_right _ (mT (mT (mT hm)))))))))⟩
  ·rintro sx36 rfl T36 w36e v36 hI36
   replace h:=h.1 _ rfl
   obtain ⟨v36e1,rfl,F36e,E36e,O36e1,N36e1,B36eb18,B36eD36,B36el36⟩:=hI36
   refine ⟨⟨_,rfl⟩,none,B36el36,fun w232 F233=>?_⟩
   have E234:=Ext.st E36e F233 (by simp; omega)
   have B240:=B36eb18.fr F233 (by simp; omega)
   have B241:=B36eD36.fr F233 (by simp; omega)
   have O242:=O36e1.fr F233 (by simp)
   refine blk_n ?_
   refine sq_n ?_
   refine ec_sr ?_
   refine o_w (v:=v36e1) (r_ld one_s_api_Entry rfl (B240.cell rfl)) ?_
   refine o_w (v:=v36e1) (r_asg rfl) ?_
   refine eo_nil_sq ?_
   refine ec_ret ?_
   refine marksS B241 (fun w243 F243=>?_)
   have E244:=Ext.st E234 F243 (by simp; omega)
   have O251:=O242.fr F243 (by simp)
   obtain ⟨A252,c253,eA252,H254⟩:=O251.still
   subst eA252
   have Zw243_255:=Fr.refl (l36::(D36::(b18::L))) w243
   replace h:=h.symm
   subst h
   exact marks0 ((end1 rfl ⟨_,rfl,E244,_,_,rfl,(H254.up Zw243_255 sI (fun m hm=>Or.inl (mT (mT (mT hm)))))⟩))
  ·rintro yx36 rfl; exact (h.2 _ rfl).elim
def arena_Same_raw (d0:Arena) (d1:Arena) (y:Bool):Prop :=
 ((d0.cap==d1.cap)=true→sml d0.slots)∧((((d0.cap==d1.cap)&&(allE d0.slots d1.slots))=true→d0.idx.length≤9223372036854775807)∧(y=(((d0.cap==d1.cap)&&(allE d0.slots d1.slots))&&(eqInts d0.idx d1.idx))))
set_option maxRecDepth 20000 in
set_option maxHeartbeats 4000000 in
theorem arena_Same_c {L:List Nat} {w:World} {csP0:List Value} (d0:Arena) (HP0:Stb L w (fun w=>kArena.r w csP0 d0)) {csP1:List Value} (d1:Arena) (HP1:Stb L w (fun w=>kArena.r w csP1 d1)) (hL:Lt L w) {y:Bool} (h:arena_Same_raw d0 d1 y) :
  Calls Try.prog 28 [.agg csP0.toArray,.agg csP1.toArray].toArray w (Ret fun v w'=>Ext w w'∧v=.bool y):=by
 obtain ⟨A1,c2,A4,c5,rfl,H3,H6⟩:=kArena_open HP0
 obtain ⟨A7,c8,A10,c11,rfl,H9,H12⟩:=kArena_open HP1
 unfold arena_Same_raw at h
 refine calls_ec Try.func28 rfl rfl rfl ?_
 refine ec_sr ?_
 refine o_box (cs:=(cArena d0 A1 c2 A4 c5)) rfl rfl rfl ?_
 intro b13 w13 e13 F13 B13
 have S13:=B13.stb (nin hL e13)
 have G14:Fr L w w13:=Fr.ext F13
 refine o_box (cs:=(cArena d1 A7 c8 A10 c11)) rfl rfl rfl ?_
 intro b15 w15 e15 F15 B15
 have S15:=B15.stb (nin (hL.fr F13) e15)
 have E16:=F13.trans F15
 have G18:Fr L w13 w15:=Fr.ext F15
 refine o_w (v:=.bool false) (r_asg rfl) ?_
 refine eo_r ?_
 refine o_w (v:=.pointer (some ⟨b13,0,none⟩)) (r_fa fld_api_Arena_0 rfl rfl) ?_
 refine o_w (v:=.int .i64 d0.cap) (r_ld one_int rfl ((S13.fr G18 sI).now.cell rfl)) ?_
 refine o_w (v:=.pointer (some ⟨b15,0,none⟩)) (r_fa fld_api_Arena_0 rfl rfl) ?_
 refine o_w (v:=.int .i64 d1.cap) (r_ld one_int rfl (S15.now.cell rfl)) ?_
 refine o_w (v:=.bool (d0.cap==d1.cap)) (r_int rfl rfl rfl) ?_
 refine o_w (v:=.bool (d0.cap==d1.cap)) (r_mov rfl) ?_
 refine o_vg (v:=.pointer (some ⟨b13,1,none⟩)) (want_ct (t:=10) rfl rfl) (fun hk=>(r_fa fld_api_Arena_1 rfl rfl)) rfl rfl ?_
 refine o_vg (v:=.slice A1 d0.slots.length c2) (want_ct (t:=10) rfl rfl) (fun hk=>(r_ld one_s_api_Entry (gdT hk) ((S13.fr G18 sI).now.cell rfl))) rfl rfl ?_
 refine o_vg (v:=.pointer (some ⟨b15,1,none⟩)) (want_ct (t:=10) rfl rfl) (fun hk=>(r_fa fld_api_Arena_1 rfl rfl)) rfl rfl ?_
 refine o_vg (v:=.slice A7 d1.slots.length c8) (want_ct (t:=10) rfl rfl) (fun hk=>(r_ld one_s_api_Entry (gdT hk) (S15.now.cell rfl))) rfl rfl ?_
 obtain ⟨ha22,h⟩:=h
 refine o_callg (V:=.bool (allE d0.slots d1.slots)) cf_slices_EqualFunc_Entry (want_ct (t:=10) rfl rfl) (fun hk=>(mapv3 (gdT hk) (gdT hk) rfl)) (fun hk=>(slices_EqualFunc_Entry_Same_c d0.slots (H3.fr (G14.trans (Fr.ext F15)) sI) d1.slots (H9.fr (G14.trans (Fr.ext F15)) sI) (hL.fr E16) (eqFunc_ev d0.slots d1.slots (ha22 hk)))) rfl ?_
 intro w21 F21
 have E23:=E16.trans F21
 have G26:Fr L w15 w21:=Fr.ext F21
 refine o_w (v:=.bool ((d0.cap==d1.cap)&&(allE d0.slots d1.slots))) (r_pickAnd rfl (fun ht=>(gdT ht)) rfl) ?_
 refine o_w (v:=.bool ((d0.cap==d1.cap)&&(allE d0.slots d1.slots))) (r_mov rfl) ?_
 refine o_vg (v:=.pointer (some ⟨b13,2,none⟩)) (want_ct (t:=17) rfl rfl) (fun hk=>(r_fa fld_api_Arena_2 rfl rfl)) rfl rfl ?_
 refine o_vg (v:=.slice A4 d0.idx.length c5) (want_ct (t:=17) rfl rfl) (fun hk=>(r_ld one_s_int (gdT hk) ((S13.fr (G18.trans (Fr.ext F21)) sI).now.cell rfl))) rfl rfl ?_
 refine o_vg (v:=.pointer (some ⟨b15,2,none⟩)) (want_ct (t:=17) rfl rfl) (fun hk=>(r_fa fld_api_Arena_2 rfl rfl)) rfl rfl ?_
 refine o_vg (v:=.slice A10 d1.idx.length c11) (want_ct (t:=17) rfl rfl) (fun hk=>(r_ld one_s_int (gdT hk) ((S15.fr G26 sI).now.cell rfl))) rfl rfl ?_
 obtain ⟨ha28,h⟩:=h
 refine o_callg (V:=.bool (eqInts d0.idx d1.idx)) cf_slices_Equal_int (want_ct (t:=17) rfl rfl) (fun hk=>(mapv2 (gdT hk) (gdT hk))) (fun hk=>(slices_Equal_int_c d0.idx (H6.fr ((G14.trans (Fr.ext F15)).trans (Fr.ext F21)) sI) d1.idx (H12.fr ((G14.trans (Fr.ext F15)).trans (Fr.ext F21)) sI) (hL.fr E23) (slEqual_ev d0.idx d1.idx (ha28 hk)))) rfl ?_
 intro w27 F27
 have E29:=E23.trans F27
 refine o_w (v:=.bool (((d0.cap==d1.cap)&&(allE d0.slots d1.slots))&&(eqInts d0.idx d1.idx))) (r_pickAnd rfl (fun ht=>(gdT ht)) rfl) ?_
 refine o_w (v:=.bool (((d0.cap==d1.cap)&&(allE d0.slots d1.slots))&&(eqInts d0.idx d1.idx))) (r_asg rfl) ?_
 refine eo_nil_sq ?_
 refine ec_ret ?_
 subst h
 exact (end1 rfl ⟨_,rfl,E29,rfl⟩)
end Go.Proofs.Ythifkdgljapmeaa
