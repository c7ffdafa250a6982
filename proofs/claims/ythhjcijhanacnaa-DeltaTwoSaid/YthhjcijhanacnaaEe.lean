/- Arenas: what is read of them. -/
import Derived.Test.YthhjcijhanacnaaEu2
namespace Go.Proofs.Ythhjcijhanacnaa
open Go Go.RowKit
set_option linter.unusedVariables false
set_option linter.unusedSimpArgs false
def arena_Find_b35 (d1:Int) (d2:Str) (s35:Int) (y35:(Int × Ent)) (z35:(Int) ⊕ (Int)):Prop :=
 (((y35.2.val.kind==d1)&&(y35.2.key==d2))=true→(z35=.inr y35.1))∧(((y35.2.val.kind==d1)&&(y35.2.key==d2))=false→(z35=.inl s35))
def arena_Find_raw (d0:Arena) (d1:Int) (d2:Str) (y:Int):Prop :=
 (sma d0)∧(∃ x35,ItR (arena_Find_b35 d1 d2) (0:Int) (eachA d0) x35∧(∀ sx35,x35=.inl sx35→(y=(-1:Int)))∧(∀ yx35,x35=.inr yx35→(y=yx35)))
set_option maxRecDepth 20000 in
set_option maxHeartbeats 4000000 in
theorem arena_Find_c {L:List Nat} {w:World} {csP0:List Value} (d0:Arena) (HP0:Stb L w (fun w=>kArena.r w csP0 d0)) (d1:Int) (d2:Str) (hL:Lt L w) {y:Int} (h:arena_Find_raw d0 d1 d2 y) :
  Calls Try.prog 20 [.agg csP0.toArray,.int .i64 d1,str d2].toArray w (Ret fun v w'=>Ext w w'∧v=.int .i64 y):=by
 obtain ⟨A1,c2,A4,c5,rfl,H3,H6⟩:=kArena_open HP0
 unfold arena_Find_raw at h
 refine calls_ecM Try.func20 rfl rfl rfl ?_
 refine ec_seq ?_
 refine ec_region ?_
 refine o_box (cs:=(cArena d0 A1 c2 A4 c5)) rfl rfl rfl ?_
 intro b7 w7 e7 F7 B7
 have S7:=B7.stb (nin hL e7)
 have G8:Fr L w w7:=Fr.ext F7
 refine o_box (cs:=[.int .i64 d1]) rfl rfl rfl ?_
 intro b9 w9 e9 F9 B9
 have S9:=B9.stb (nin (hL.fr F7) e9)
 have E10:=F7.trans F9
 have G12:Fr L w7 w9:=Fr.ext F9
 refine o_box (cs:=[str d2]) rfl rfl rfl ?_
 intro b13 w13 e13 F13 B13
 have S13:=B13.stb (nin (hL.fr E10) e13)
 have E14:=E10.trans F13
 have G17:Fr L w9 w13:=Fr.ext F13
 refine o_alloc zero_int rfl rfl rfl ?_
 intro b18 w18 e18 F18 B18
 have n18:w.heap.size≤b18:=by rw [e18]; exact E14.size
 have m19:w.heap.size≤b18:=by rw [e18]; exact ((G8.trans (Fr.ext F9)).trans (Fr.ext F13)).size
 have m21:w9.heap.size≤b18:=by rw [e18]; exact G17.size
 have m22:w13.heap.size≤b18:=Nat.le_of_eq e18.symm
 have E23:=E14.trans F18
 have G27:Fr L w13 w18:=Fr.ext F18
 refine eo_nil_sq ?_
 iterate 2 refine ec_seq ?_
 refine ec_region ?_
 refine o_w (v:=.agg (cArena d0 A1 c2 A4 c5).toArray) (r_lda agg_api_Arena rfl (vs:=(cArena d0 A1 c2 A4 c5)) rfl ((S7.fr ((G12.trans (Fr.ext F13)).trans (Fr.ext F18)) sI).now.part (n:=3) rfl)) ?_
 refine o_inl (vs:=[.agg (cArena d0 A1 c2 A4 c5).toArray]) (caps:=[]) cf_arena_each rfl rfl rfl rfl ?_
 refine calls_ec Try.func52 rfl rfl rfl ?_
 refine ec_seq ?_
 refine ec_region ?_
 refine o_box (cs:=(cArena d0 A1 c2 A4 c5)) rfl rfl rfl ?_
 intro b28 w28 e28 F28 B28
 have S28:=B28.stb (nin ((hL.fr E23).cons B18.lt) e28)
 have E29:=E23.trans F28
 have G30:=(((G8.trans (Fr.ext F9)).trans (Fr.ext F13)).trans (Fr.ext F18)).trans (Fr.ext F28)
 refine o_w (v:=.nilFunc) (r_asg rfl) ?_
 refine eo_nil_sq ?_
 refine ec_seq ?_
 refine ec_region ?_
 refine o_w (r_mkfn' (vs:=[.pointer (some ⟨b28,0,none⟩)]) rfl) ?_
 refine o_w (v:=.func (.func 60) #[] #[.pointer (some ⟨b28,0,none⟩)]) (r_asg rfl) ?_
 refine eo_nil_sq ?_
 refine ec_ret ?_
 refine end1 (v:=.func (.func 60) #[] #[.pointer (some ⟨b28,0,none⟩)]) rfl ⟨_,rfl,?_⟩
 refine eo_nil_sq ?_
 refine ec_block ?_
 obtain ⟨ha36,h⟩:=h
 refine ec_range (ps:=[11,12]) (gf:=60) (lb:=[.pointer (some ⟨b28,0,none⟩)]) rfl cf_arena_each_1 ?_
 intro D35 l35 rec35 w35 eD35 e35 hr35 F35 BD35 BL35
 have n35:w.heap.size≤D35:=by rw [eD35]; exact E29.size
 have nl35:w.heap.size≤l35:=by omega
 have nd35:D35<l35:=by omega
 have q37:b18<D35:=by rw [eD35]; exact (B18.ex F28).lt
 have m38:w.heap.size≤D35:=by rw [eD35]; exact G30.size
 have m39:w.heap.size≤l35:=by omega
 have m42:w9.heap.size≤D35:=by rw [eD35]; exact ((G17.trans (Fr.ext F18)).trans (Fr.ext F28)).size
 have m43:w9.heap.size≤l35:=by omega
 have m44:w13.heap.size≤D35:=by rw [eD35]; exact (G27.trans (Fr.ext F28)).size
 have m45:w13.heap.size≤l35:=by omega
 have m46:w28.heap.size≤D35:=Nat.le_of_eq eD35.symm
 have m47:w28.heap.size≤l35:=by omega
 have E48:=E29.trans F35
 have G53:Fr (b18::L) w28 w35:=Fr.ext F35
 obtain ⟨x35,hl35,h⟩:=h
 refine range_run (S:=Int) (R:=Int) (arena_each_it d0 (S28.up G53 sI (upc (.inr m47) (upc (.inr m46) (upc (.inl mH) (fun m hm=>Or.inl (mT hm)))))) (kArena_mk (d:=d0) (H3.up (G30.trans (Fr.ext F35)) sI (upc (.inr m39) (upc (.inr m38) (upc (.inr m19) (fun _ h=>.inl h))))) (H6.up (G30.trans (Fr.ext F35)) sI (upc (.inr m39) (upc (.inr m38) (upc (.inr m19) (fun _ h=>.inl h)))))) ((((hL.fr E48).cons ((B18.ex F28).ex F35).lt).cons BD35.lt).cons BL35.lt) ha36) (fun (s35:Int) T w'=>T=(l35::(D35::(b18::L)))∧Fr (l35::(D35::(b18::L))) w35 w'∧Ext w w'∧Blk w' b18 3 [.int .i64 s35]∧Lp w' D35 (.deferred (some []))∧Lp w' l35 (.loop (rec35 .ready none))) (fun (s35:Int) w'=>Fr (l35::(D35::(b18::L))) w35 w'∧Ext w w'∧Blk w' b18 3 [.int .i64 s35]∧Lp w' D35 (.deferred (some []))∧Lp w' l35 (.loop (rec35 .done (some .ret)))) hl35 ((l35::(D35::(b18::L)))) sI (fun _ h=>by cases h) ⟨rfl,(Fr.refl _ _),E48,((B18.ex F28).ex F35),BD35,BL35⟩ (fun _ _ w' w'' h f=>by obtain ⟨rfl,F,E,B35ib18,B35iD35,B35il35⟩:=h; exact ⟨rfl,F.trans (Fr.ext f),E.trans f,B35ib18.ex f,B35iD35.ex f,B35il35.ex f⟩) (fun _ w' w'' h f=>by obtain ⟨F,E,B35ib18,B35iD35,B35il35⟩:=h; exact ⟨F.trans (Fr.ext f),E.trans f,B35ib18.ex f,B35iD35.ex f,B35il35.ex f⟩) (fun _ _ w' h=>by obtain ⟨rfl,F,E,B35ib18,B35iD35,B35il35⟩:=h; exact ((((hL.fr E).cons B35ib18.lt).cons B35iD35.lt).cons B35il35.lt)) ?_ ?_ ?_
 ·intro s35 y35 z35 T35 w35r vs35 hI35 hX35 hb35
  obtain ⟨rfl,F35r,E35r,B35rb18,B35rD35,B35rl35⟩:=hI35
  have h:=hb35
  unfold arena_Find_b35 at h
  have G57:Fr L w9 w35r:=(((G17.trans (Fr.ext F18)).trans (Fr.ext F28)).trans (Fr.ext F35)).stp F35r (upc (.inr m43) (upc (.inr m42) (upc (.inr m21) (fun _ h=>.inl h))))
  have G58:Fr L w13 w35r:=((G27.trans (Fr.ext F28)).trans (Fr.ext F35)).stp F35r (upc (.inr m45) (upc (.inr m44) (upc (.inr m22) (fun _ h=>.inl h))))
  obtain ⟨cs61,rfl,HX60⟩:=hX35
  obtain ⟨A62,c63,A65,c66,rfl,H64,H67⟩:=kEnt_open HX60
  refine range_round (ps:=[11,12]) hr35 B35rl35 rfl rfl ?_
  refine ec_seq ?_
  refine ec_region ?_
  refine o_w (v:=.int .i64 y35.1) (r_asg rfl) ?_
  refine eo_nil_sq ?_
  refine ec_region ?_
  refine o_alloc zero_api_Entry rfl rfl rfl ?_
  intro b68 w68 e68 F68 B68
  have n68:w.heap.size≤b68:=by rw [e68]; exact E35r.size
  have q69:b18<b68:=by rw [e68]; exact B35rb18.lt
  have q70:l35<b68:=by rw [e68]; exact B35rl35.lt
  have q71:D35<b68:=by rw [e68]; exact B35rD35.lt
  have m74:w9.heap.size≤b68:=by rw [e68]; exact G57.size
  have m75:w13.heap.size≤b68:=by rw [e68]; exact G58.size
  have m77:w35.heap.size≤b68:=by rw [e68]; exact F35r.size
  have m78:w35r.heap.size≤b68:=Nat.le_of_eq e68.symm
  have E80:=E35r.trans F68
  have G87:Fr (l35::(D35::(b18::L))) w35r w68:=Fr.ext F68
  refine o_store rfl B68 (vs:=(cEnt y35.2 A62 c63 A65 c66)) rfl sz_api_Entry rfl rfl rfl ?_
  intro w92 F92 B92
  have E93:=Ext.st E80 F92 (by simp; omega)
  have G96:Fr L w9 w92:=(G57.trans (Fr.ext F68)).stp F92 (upc (.inr m74) (fun m hm=>by cases hm))
  have G97:Fr L w13 w92:=(G58.trans (Fr.ext F68)).stp F92 (upc (.inr m75) (fun m hm=>by cases hm))
  have G99:Fr (l35::(D35::(b18::L))) w35 w92:=(F35r.trans (Fr.ext F68)).stp F92 (upc (.inr m77) (fun m hm=>by cases hm))
  have G100:Fr (l35::(D35::(b18::L))) w35r w92:=G87.stp F92 (upc (.inr m78) (fun m hm=>by cases hm))
  have B102:=(B35rb18.ex F68).fr F92 (by simp; omega)
  have B103:=(B35rl35.ex F68).fr F92 (by simp; omega)
  have B104:=(B35rD35.ex F68).fr F92 (by simp; omega)
  have B92':Blk w92 b68 _ (cEnt y35.2 A62 c63 A65 c66):=B92
  refine eo_nil ?_
  refine ⟨rfl,rfl,B103,fun w105 F106 BL107=>?_⟩
  have E108:=Ext.st E93 F106 (by simp; omega)
  have G111:Fr L w9 w105:=G96.stp F106 (upc (.inr m43) (fun m hm=>by cases hm))
  have G112:Fr L w13 w105:=G97.stp F106 (upc (.inr m45) (fun m hm=>by cases hm))
  have G114:Fr (l35::(D35::(b18::L))) w35 w105:=G99.stp F106 (upc (.inl mH) (fun m hm=>by cases hm))
  have G115:Fr (l35::(D35::(b18::L))) w35r w105:=G100.stp F106 (upc (.inl mH) (fun m hm=>by cases hm))
  have B117:=B102.fr F106 (by simp; omega)
  have B118:=B104.fr F106 (by simp; omega)
  have B119:=B92'.fr F106 (by simp; omega)
  refine ec_block ?_
  refine ec_seq ?_
  refine ec_region ?_
  refine o_w (v:=.pointer (some ⟨b68,1,none⟩)) (r_fa fld_api_Entry_1 rfl rfl) ?_
  refine o_w (v:=.pointer (some ⟨b68,1,none⟩)) (r_fa fld_api_Value_0 rfl rfl) ?_
  refine o_w (v:=.int .i64 y35.2.val.kind) (r_ld one_int rfl (B119.cell rfl)) ?_
  refine o_w (v:=.int .i64 d1) (r_ld one_int rfl ((S9.fr G111 sI).now.cell rfl)) ?_
  refine o_w (v:=.bool (y35.2.val.kind==d1)) (r_int rfl rfl rfl) ?_
  refine o_w (v:=.bool (y35.2.val.kind==d1)) (r_mov rfl) ?_
  refine o_vg (v:=.pointer (some ⟨b68,0,none⟩)) (want_ct (t:=18) rfl rfl) (fun hk=>(r_fa fld_api_Entry_0 rfl rfl)) rfl rfl ?_
  refine o_vg (v:=str y35.2.key) (want_ct (t:=18) rfl rfl) (fun hk=>(r_ld one_string (gdT hk) (B119.cell rfl))) rfl rfl ?_
  refine o_vg (v:=str d2) (want_ct (t:=18) rfl rfl) (fun hk=>(r_ld one_string rfl ((S13.fr G112 sI).now.cell rfl))) rfl rfl ?_
  refine o_vg (v:=.bool (y35.2.key==d2)) (want_ct (t:=18) rfl rfl) (fun hk=>(r_str (gdT hk) (gdT hk) rfl)) rfl rfl ?_
  refine o_w (v:=.bool ((y35.2.val.kind==d1)&&(y35.2.key==d2))) (r_pickAnd rfl (fun ht=>(gdT ht)) rfl) ?_
  refine eo_nil_sq ?_
  refine ec_cond rfl (fun hc120=>?_) (fun hc120=>?_)
  ·replace h:=h.1 hc120
   refine ec_seq ?_
   refine ec_region ?_
   refine o_w (v:=.int .i64 y35.1) (r_mov rfl) ?_
   refine o_store rfl B117 (vs:=[.int .i64 y35.1]) rfl sz_int rfl rfl rfl ?_
   intro w121 F121 B121
   have E122:=Ext.st E108 F121 (by simp; omega)
   have G128:Fr (l35::(D35::(b18::L))) w35 w121:=G114.stp F121 (upc (.inl (mT (mT mH))) (fun m hm=>by cases hm))
   have B131:=BL107.fr F121 (by simp; omega)
   have B132:=B118.fr F121 (by simp; omega)
   have B121':Blk w121 b18 _ [.int .i64 y35.1]:=B121
   refine eo_nil_sq ?_
   refine ec_ret ?_
   refine blk_ret ?_
   subst h
   refine ⟨some .ret,rfl,B131,fun w134 F135 BL136=>?_⟩
   have E137:=Ext.st E122 F135 (by simp; omega)
   have G143:Fr (l35::(D35::(b18::L))) w35 w134:=G128.stp F135 (upc (.inl mH) (fun m hm=>by cases hm))
   have B146:=B121'.fr F135 (by simp; omega)
   have B147:=B132.fr F135 (by simp; omega)
   exact ⟨rfl,⟨G143,E137,B146,B147,BL136⟩⟩
  ·replace h:=h.2 hc120
   refine ec_skip ?_
   refine blk_n ?_
   subst h
   refine ⟨none,rfl,BL107,fun w149 F150 BL151=>?_⟩
   have E152:=Ext.st E108 F150 (by simp; omega)
   have G158:Fr (l35::(D35::(b18::L))) w35 w149:=G114.stp F150 (upc (.inl mH) (fun m hm=>by cases hm))
   have G159:Fr (l35::(D35::(b18::L))) w35r w149:=G115.stp F150 (upc (.inl mH) (fun m hm=>by cases hm))
   have B161:=B117.fr F150 (by simp; omega)
   have B162:=B118.fr F150 (by simp; omega)
   exact ⟨rfl,_,⟨rfl,G158,E152,B161,B162,BL151⟩,G159,(upc (.inl mH) (upc (.inl (mT mH)) (upc (.inl (mT (mT mH))) (fun m hm=>Or.inl (mT (mT (mT hm)))))))⟩
 ·rintro sx35 rfl T35 w35e v35 hI35
  replace h:=h.1 _ rfl
  obtain ⟨rfl,F35e,E35e,B35eb18,B35eD35,B35el35⟩:=hI35
  refine ⟨⟨_,rfl⟩,none,B35el35,fun w169 F170=>?_⟩
  have E171:=Ext.st E35e F170 (by simp; omega)
  have B177:=B35eb18.fr F170 (by simp; omega)
  have B178:=B35eD35.fr F170 (by simp; omega)
  refine blk_n ?_
  refine sq_n ?_
  refine ec_seq ?_
  refine ec_region ?_
  refine o_store rfl B177 (vs:=[.int .i64 (-1:Int)]) rfl sz_int rfl rfl rfl ?_
  intro w179 F179 B179
  have E180:=Ext.st E171 F179 (by simp; omega)
  have B186:=B178.fr F179 (by simp; omega)
  have B179':Blk w179 b18 _ [.int .i64 (-1:Int)]:=B179
  refine eo_nil_sq ?_
  refine ec_ret ?_
  refine marksS B186 (fun w187 F187=>?_)
  have E188:=Ext.st E180 F187 (by simp; omega)
  have B194:=B179'.fr F187 (by simp; omega)
  subst h
  exact marks0 ((endr1 (rv_c rfl (one_int) B194 rfl) ⟨_,rfl,E188,rfl⟩))
 ·rintro yx35 rfl w35q v35 hI35
  replace h:=h.2 _ rfl
  obtain ⟨F35q,E35q,B35qb18,B35qD35,B35ql35⟩:=hI35
  refine ⟨⟨_,rfl⟩,(some .ret),B35ql35,fun w200 F201=>?_⟩
  have E202:=Ext.st E35q F201 (by simp; omega)
  have B208:=B35qb18.fr F201 (by simp; omega)
  have B209:=B35qD35.fr F201 (by simp; omega)
  refine blk_ret ?_
  refine sq_ret ?_
  refine marksS B209 (fun w210 F210=>?_)
  have E211:=Ext.st E202 F210 (by simp; omega)
  have B217:=B208.fr F210 (by simp; omega)
  replace h:=h.symm
  subst h
  exact marks0 ((endr1 (rv_c rfl (one_int) B217 rfl) ⟨_,rfl,E211,rfl⟩))
def ref08_All_b15 (d0:Arena) (s15:List Ent × Int) (z15:(List Ent × Int) ⊕ (List Ent × Int)):Prop :=
 ((decide (s15.2<(d0.idx.length:Int)))=true→((0≤s15.2∧s15.2<(d0.idx.length:Int))∧((0≤(nth d0.idx s15.2)∧(nth d0.idx s15.2)<(d0.slots.length:Int))∧((s15.1.length + 1≤9223372036854775807∧(s15.1.length + 1) * 120≤140737488355328)∧(z15=.inl ((s15.1++([(nth d0.slots (nth d0.idx s15.2))]:List Ent)),(IntKind.i64.wrap (s15.2 + (1:Int)))))))))∧((decide (s15.2<(d0.idx.length:Int)))=false→(z15=.inr (s15.1,s15.2)))
def arena_All_b15 (d0:Arena) (s15:List Ent × Int) (z15:(List Ent × Int) ⊕ (List Ent × Int)):Prop :=
 ((decide (s15.2<(d0.idx.length:Int)))=true→((0≤s15.2∧s15.2<(d0.idx.length:Int))∧((0≤(nth d0.idx s15.2)∧(nth d0.idx s15.2)<(d0.slots.length:Int))∧((s15.1.length + 1≤9223372036854775807∧(s15.1.length + 1) * 120≤140737488355328)∧(z15=.inl ((s15.1++([(nth d0.slots (nth d0.idx s15.2))]:List Ent)),(IntKind.i64.wrap (s15.2 + (1:Int)))))))))∧((decide (s15.2<(d0.idx.length:Int)))=false→(z15=.inr (s15.1,s15.2)))
def arena_All_raw (d0:Arena) (y:(List Ent)):Prop :=
 (sma d0)∧((((checkA d0) != (0:Int))=true→(y=([]:List Ent)))∧(((checkA d0) != (0:Int))=false→(∃ x15,LoopR (arena_All_b15 d0) (([]:List Ent),(0:Int)) x15∧(y=x15.1))))
end Go.Proofs.Ythhjcijhanacnaa
