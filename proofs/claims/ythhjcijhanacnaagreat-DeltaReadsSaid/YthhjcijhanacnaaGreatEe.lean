/- Arenas: what is read of them. -/
import Derived.Test.YthhjcijhanacnaaGreatEu2
namespace Go.Proofs.YthhjcijhanacnaaGreat
open Go Go.RowKit
set_option linter.unusedVariables false
set_option linter.unusedSimpArgs false
def ref08_Find_b15 (d0:Arena) (d1:Int) (d2:Str) (s15:Int) (z15:(Int) ⊕ ((Int) ⊕ (Int))):Prop :=
 ((decide (s15<(d0.slots.length:Int)))=true→((0≤s15∧s15<(d0.slots.length:Int))∧((((((nth d0.slots s15).val).kind)==d1)=true→((0≤s15∧s15<(d0.slots.length:Int))∧(((((nth d0.slots s15).key)==d2)=true→(z15=.inr (.inr s15)))∧((((nth d0.slots s15).key)==d2)=false→(z15=.inl (IntKind.i64.wrap (s15 + (1:Int))))))))∧(((((nth d0.slots s15).val).kind)==d1)=false→(z15=.inl (IntKind.i64.wrap (s15 + (1:Int))))))))∧((decide (s15<(d0.slots.length:Int)))=false→(z15=.inr (.inl s15)))
def ref08_Find_raw (d0:Arena) (d1:Int) (d2:Str) (y:Int):Prop :=
 (sma d0)∧(((!(arOk d0))=true→(y=(-1:Int)))∧((!(arOk d0))=false→(∃ x15,LoopR (ref08_Find_b15 d0 d1 d2) (0:Int) x15∧(∀ sx15,x15=.inl sx15→(y=(-1:Int)))∧(∀ y15,x15=.inr y15→(y=y15)))))
set_option maxRecDepth 20000 in
set_option maxHeartbeats 4000000 in
theorem ref08_Find_c {L:List Nat} {w:World} {csP0:List Value} (d0:Arena) (HP0:Stb L w (fun w=>kArena.r w csP0 d0)) (d1:Int) (d2:Str) (hL:Lt L w) {y:Int} (h:ref08_Find_raw d0 d1 d2 y) :
  Calls Tryz.prog 38 [.agg csP0.toArray,.int .i64 d1,str d2].toArray w (Ret fun v w'=>Ext w w'∧v=.int .i64 y):=by
 obtain ⟨A1,c2,A4,c5,rfl,H3,H6⟩:=kArena_open HP0
 unfold ref08_Find_raw at h
 refine calls_ec Tryz.func38 rfl rfl rfl ?_
 refine ec_seq ?_
 refine ec_region ?_
 refine o_box (cs:=(cArena d0 A1 c2 A4 c5)) rfl rfl rfl ?_
 intro b7 w7 e7 F7 B7
 have S7:=B7.stb (nin hL e7)
 have G8:Fr L w w7:=Fr.ext F7
 refine o_w (v:=.int .i64 0) (r_asg rfl) ?_
 refine eo_nil_sq ?_
 iterate 2 refine ec_seq ?_
 refine ec_region ?_
 refine o_w (v:=.agg (cArena d0 A1 c2 A4 c5).toArray) (r_lda agg_api_Arena rfl (vs:=(cArena d0 A1 c2 A4 c5)) rfl (S7.now.part (n:=3) rfl)) ?_
 obtain ⟨ha10,h⟩:=h
 refine o_call cf_ref08_Check rfl (ref08_Check_c d0 (kArena_mk (d:=d0) (H3.fr G8 sI) (H6.fr G8 sI)) (hL.fr F7) (refCheckA_ev d0 ha10)) rfl rfl ?_
 rintro _ w9 ⟨F9,rfl⟩
 have E11:=F7.trans F9
 have G13:Fr L w7 w9:=Fr.ext F9
 refine o_w (v:=.bool (!(arOk d0))) (r_not rfl) ?_
 refine eo_nil_sq ?_
 refine ec_cond rfl (fun hc14=>?_) (fun hc14=>?_)
 ·replace h:=h.1 hc14
  refine ec_seq ?_
  refine ec_region ?_
  refine o_w (v:=.int .i64 (-1:Int)) (r_asg rfl) ?_
  refine eo_nil_sq ?_
  refine ec_ret ?_
  refine sq_ret ?_
  subst h
  exact (end1 rfl ⟨_,rfl,E11,rfl⟩)
 ·replace h:=h.2 hc14
  refine ec_skip ?_
  refine sq_n ?_
  iterate 2 refine ec_seq ?_
  refine ec_region ?_
  refine o_w (v:=.int .i64 0) (r_asg rfl) ?_
  refine eo_nil_sq ?_
  refine ec_block ?_
  obtain ⟨x15,hl15,h⟩:=h
  refine ec_loopER 0 (I:=(fun (s15:Int) ρ ds w'=>∃ (ρ':Env),ρ=envs ρ' [(7,.int .i64 s15),(1,.int .i64 d1),(2,str d2),(3,.pointer (some ⟨b7,0,none⟩))]∧ds=[]∧Fr L w9 w'∧Ext w w')) (J:=(fun (y':Int) ρ ds wz=>bodyE Tryz.prog #[.tmp 6] (Ret fun v w'=>Ext w w'∧v=.int .i64 y') .ret ρ ds wz)) ?_ hl15 ?_ ?_ ?_
  ·intro s15 z15 ρ15 ds15 w15r hI15 hb15
   obtain ⟨ρ15r,rfl,rfl,F15r,E15r⟩:=hI15
   have h:=hb15
   unfold ref08_Find_b15 at h
   have G16:Fr L w w15r:=(G8.trans (Fr.ext F9)).stp F15r (fun _ h=>.inl h)
   have G17:Fr L w7 w15r:=G13.stp F15r (fun _ h=>.inl h)
   iterate 2 refine ec_seq ?_
   refine ec_region ?_
   refine o_w (v:=.int .i64 s15) (r_mov rfl) ?_
   refine o_w (v:=.pointer (some ⟨b7,1,none⟩)) (r_fa fld_api_Arena_1 rfl rfl) ?_
   refine o_w (v:=.slice A1 d0.slots.length c2) (r_ld one_s_api_Entry rfl ((S7.fr G17 sI).now.cell rfl)) ?_
   refine o_w (v:=.int .i64 (d0.slots.length:Int)) (r_len_slc un_s_api_Entry rfl) ?_
   refine o_w (v:=.bool (decide (s15<(d0.slots.length:Int)))) (r_int rfl rfl rfl) ?_
   refine eo_nil_sq ?_
   refine ec_cond rfl (fun hc18=>?_) (fun hc18=>?_)
   ·replace h:=h.1 hc18
    refine ec_skip ?_
    refine sq_n ?_
    refine ec_seq ?_
    refine ec_block ?_
    refine ec_seq ?_
    refine ec_region ?_
    refine o_w (v:=.pointer (some ⟨b7,1,none⟩)) (r_fa fld_api_Arena_1 rfl rfl) ?_
    refine o_w (v:=.slice A1 d0.slots.length c2) (r_ld one_s_api_Entry rfl ((S7.fr G17 sI).now.cell rfl)) ?_
    refine o_w (v:=.int .i64 s15) (r_mov rfl) ?_
    obtain ⟨ha41,h⟩:=h
    obtain ⟨cs42,l44,H43⟩:=Stb.elem (by decide) (H3.fr G16 sI) s15 ha41.1 ha41.2
    obtain ⟨A46,c47,A49,c50,rfl,H45,H48,H51⟩:=kEnt_open2 H43
    refine o_w (v:=.pointer (some (elemA A1 kEnt.n s15.toNat))) (r_ia slc_s_api_Entry rfl rfl ((H3.fr G16 sI).now.2 _ (lt_toNat ha41.1 ha41.2)).1 ha41.1 ha41.2) ?_
    refine o_w (v:=.pointer (some (ad (elemA A1 kEnt.n s15.toNat) 1))) (r_fad fld_api_Entry_1 (elemA_spot _ _ _) rfl) ?_
    refine o_w (v:=.pointer (some (ad (elemA A1 kEnt.n s15.toNat) 1))) (r_fad2 fld_api_Value_0 rfl rfl rfl) ?_
    refine o_w (v:=.int .i64 (((nth d0.slots s15).val).kind)) (r_ld' one_int rfl rfl (H45.now.1.at (j:=1) rfl)) ?_
    refine o_w (v:=.int .i64 d1) (r_mov rfl) ?_
    refine o_w (v:=.bool ((((nth d0.slots s15).val).kind)==d1)) (r_int rfl rfl rfl) ?_
    refine o_w (v:=.bool ((((nth d0.slots s15).val).kind)==d1)) (r_mov rfl) ?_
    rcases Bool.eq_false_or_eq_true ((((nth d0.slots s15).val).kind)==d1) with hc52 | hc52
    ·replace h:=h.1 hc52
     refine o_v (v:=.pointer (some ⟨b7,1,none⟩)) (r_fa fld_api_Arena_1 rfl rfl) (want_t (t:=27) rfl rfl hc52) rfl rfl ?_
     refine o_v (v:=.slice A1 d0.slots.length c2) (r_ld one_s_api_Entry rfl ((S7.fr G17 sI).now.cell rfl)) (want_t (t:=27) rfl rfl hc52) rfl rfl ?_
     refine o_v (v:=.int .i64 s15) (r_mov rfl) (want_t (t:=27) rfl rfl hc52) rfl rfl ?_
     obtain ⟨ha53,h⟩:=h
     obtain ⟨cs54,l56,H55⟩:=Stb.elem (by decide) (H3.fr G16 sI) s15 ha53.1 ha53.2
     obtain ⟨A58,c59,A61,c62,rfl,H57,H60,H63⟩:=kEnt_open2 H55
     refine o_v (v:=.pointer (some (elemA A1 kEnt.n s15.toNat))) (r_ia slc_s_api_Entry rfl rfl ((H3.fr G16 sI).now.2 _ (lt_toNat ha53.1 ha53.2)).1 ha53.1 ha53.2) (want_t (t:=27) rfl rfl hc52) rfl rfl ?_
     refine o_v (v:=.pointer (some (ad (elemA A1 kEnt.n s15.toNat) 0))) (r_fad fld_api_Entry_0 (elemA_spot _ _ _) rfl) (want_t (t:=27) rfl rfl hc52) rfl rfl ?_
     refine o_v (v:=str ((nth d0.slots s15).key)) (r_ld' one_string rfl rfl (H57.now.1.at (j:=0) rfl)) (want_t (t:=27) rfl rfl hc52) rfl rfl ?_
     refine o_v (v:=str d2) (r_mov rfl) (want_t (t:=27) rfl rfl hc52) rfl rfl ?_
     refine o_v (v:=.bool (((nth d0.slots s15).key)==d2)) (r_str rfl rfl rfl) (want_t (t:=27) rfl rfl hc52) rfl rfl ?_
     refine o_w (v:=.bool (((nth d0.slots s15).key)==d2)) (r_pickT rfl hc52 rfl) ?_
     refine eo_nil_sq ?_
     refine ec_cond rfl (fun hc64=>?_) (fun hc64=>?_)
     ·replace h:=h.1 hc64
      refine ec_seq ?_
      refine ec_region ?_
      refine o_w (v:=.int .i64 s15) (r_mov rfl) ?_
      refine o_w (v:=.int .i64 s15) (r_asg rfl) ?_
      refine eo_nil_sq ?_
      refine ec_ret ?_
      refine blk_ret ?_
      refine sq_ret ?_
      subst h
      exact lqR_r (end1 rfl ⟨_,rfl,E15r,rfl⟩)
     ·replace h:=h.2 hc64
      refine ec_skip ?_
      refine blk_n ?_
      refine sq_n ?_
      refine ec_region ?_
      refine o_w (v:=.int .i64 s15) (r_mov rfl) ?_
      refine o_w (v:=.int .i64 (IntKind.i64.wrap (s15 + (1:Int)))) (r_int rfl rfl rfl) ?_
      refine o_w (v:=.int .i64 (IntKind.i64.wrap (s15 + (1:Int)))) (r_asg rfl) ?_
      refine eo_nil ?_
      subst h
      exact lqR_n ⟨_,envs_self ⟨rfl,rfl,rfl,rfl,trivial⟩,rfl,F15r,E15r⟩
    ·replace h:=h.2 hc52
     iterate 8 refine o_no (want_f (t:=27) rfl rfl hc52) rfl ?_
     refine o_w (v:=.bool false) (r_pickF rfl hc52 rfl) ?_
     refine eo_nil_sq ?_
     refine ec_condF rfl rfl ?_
     refine ec_skip ?_
     refine blk_n ?_
     refine sq_n ?_
     refine ec_region ?_
     refine o_w (v:=.int .i64 s15) (r_mov rfl) ?_
     refine o_w (v:=.int .i64 (IntKind.i64.wrap (s15 + (1:Int)))) (r_int rfl rfl rfl) ?_
     refine o_w (v:=.int .i64 (IntKind.i64.wrap (s15 + (1:Int)))) (r_asg rfl) ?_
     refine eo_nil ?_
     subst h
     exact lqR_n ⟨_,envs_self ⟨rfl,rfl,rfl,rfl,trivial⟩,rfl,F15r,E15r⟩
   ·replace h:=h.2 hc18
    refine ec_exit ?_
    refine sq_exit ?_
    subst h
    exact lqR_x ⟨_,envs_self ⟨rfl,rfl,rfl,rfl,trivial⟩,rfl,F15r,E15r⟩
  ·exact ⟨_,envs_self ⟨rfl,rfl,rfl,rfl,trivial⟩,rfl,(Fr.refl _ _),E11⟩
  ·rintro sx15 rfl ρ15e ds15e w15e ⟨ρ15e,rfl,rfl,F15e,E15e⟩
   replace h:=h.1 _ rfl
   refine blk_hit ?_
   refine sq_n ?_
   refine ec_seq ?_
   refine ec_region ?_
   refine o_w (v:=.int .i64 (-1:Int)) (r_asg rfl) ?_
   refine eo_nil_sq ?_
   refine ec_ret ?_
   subst h
   exact (end1 rfl ⟨_,rfl,E15e,rfl⟩)
  ·rintro y15 rfl ρ15q ds15q w15q hJ
   have hy:=h.2 _ rfl
   subst hy
   refine blk_ret ?_
   refine sq_ret ?_
   exact hJ
def arena_Find_b35 (d1:Int) (d2:Str) (s35:Int) (y35:(Int × Ent)) (z35:(Int) ⊕ (Int)):Prop :=
 (((y35.2.val.kind==d1)&&(y35.2.key==d2))=true→(z35=.inr y35.1))∧(((y35.2.val.kind==d1)&&(y35.2.key==d2))=false→(z35=.inl s35))
def arena_Find_raw (d0:Arena) (d1:Int) (d2:Str) (y:Int):Prop :=
 (sma d0)∧(∃ x35,ItR (arena_Find_b35 d1 d2) (0:Int) (eachA d0) x35∧(∀ sx35,x35=.inl sx35→(y=(-1:Int)))∧(∀ yx35,x35=.inr yx35→(y=yx35)))
set_option maxRecDepth 20000 in
set_option maxHeartbeats 4000000 in
theorem arena_Find_c {L:List Nat} {w:World} {csP0:List Value} (d0:Arena) (HP0:Stb L w (fun w=>kArena.r w csP0 d0)) (d1:Int) (d2:Str) (hL:Lt L w) {y:Int} (h:arena_Find_raw d0 d1 d2 y) :
  Calls Tryz.prog 61 [.agg csP0.toArray,.int .i64 d1,str d2].toArray w (Ret fun v w'=>Ext w w'∧v=.int .i64 y):=by
 obtain ⟨A1,c2,A4,c5,rfl,H3,H6⟩:=kArena_open HP0
 unfold arena_Find_raw at h
 refine calls_ecM Tryz.func61 rfl rfl rfl ?_
 refine ec_seq ?_
 refine ec_region ?_
 refine o_box (cs:=(cArena d0 A1 c2 A4 c5)) rfl rfl rfl ?_
 intro b7 w7 e7 F7 B7
 have S7:=B7.stb (nin hL e7)
 have G8:Fr L w w7:=Fr.ext F7
 refine o_box (cs:=[.int .i64 d1]) rfl rfl rfl ?_
 intro b9 w9 e9 F9 B9
 have S9:=B9.stb (nin (hL.fr F7) e9)
 have E10:=F7.trans F9
 have G12:Fr L w7 w9:=Fr.ext F9
 refine o_box (cs:=[str d2]) rfl rfl rfl ?_
 intro b13 w13 e13 F13 B13
 have S13:=B13.stb (nin (hL.fr E10) e13)
 have E14:=E10.trans F13
 have G17:Fr L w9 w13:=Fr.ext F13
 refine o_alloc zero_int rfl rfl rfl ?_
 intro b18 w18 e18 F18 B18
 have n18:w.heap.size≤b18:=by rw [e18]; exact E14.size
 have m19:w.heap.size≤b18:=by rw [e18]; exact ((G8.trans (Fr.ext F9)).trans (Fr.ext F13)).size
 have m21:w9.heap.size≤b18:=by rw [e18]; exact G17.size
 have m22:w13.heap.size≤b18:=Nat.le_of_eq e18.symm
 have E23:=E14.trans F18
 have G27:Fr L w13 w18:=Fr.ext F18
 refine eo_nil_sq ?_
 iterate 2 refine ec_seq ?_
 refine ec_region ?_
 refine o_w (v:=.agg (cArena d0 A1 c2 A4 c5).toArray) (r_lda agg_api_Arena rfl (vs:=(cArena d0 A1 c2 A4 c5)) rfl ((S7.fr ((G12.trans (Fr.ext F13)).trans (Fr.ext F18)) sI).now.part (n:=3) rfl)) ?_
 refine o_inl (vs:=[.agg (cArena d0 A1 c2 A4 c5).toArray]) (caps:=[]) cf_arena_each rfl rfl rfl rfl ?_
 refine calls_ec Tryz.func80 rfl rfl rfl ?_
 refine ec_seq ?_
 refine ec_region ?_
 refine o_box (cs:=(cArena d0 A1 c2 A4 c5)) rfl rfl rfl ?_
 intro b28 w28 e28 F28 B28
 have S28:=B28.stb (nin ((hL.fr E23).cons B18.lt) e28)
 have E29:=E23.trans F28
 have G30:=(((G8.trans (Fr.ext F9)).trans (Fr.ext F13)).trans (Fr.ext F18)).trans (Fr.ext F28)
 refine o_w (v:=.nilFunc) (r_asg rfl) ?_
 refine eo_nil_sq ?_
 refine ec_seq ?_
 refine ec_region ?_
 refine o_w (r_mkfn' (vs:=[.pointer (some ⟨b28,0,none⟩)]) rfl) ?_
 refine o_w (v:=.func (.func 91) #[] #[.pointer (some ⟨b28,0,none⟩)]) (r_asg rfl) ?_
 refine eo_nil_sq ?_
 refine ec_ret ?_
 refine end1 (v:=.func (.func 91) #[] #[.pointer (some ⟨b28,0,none⟩)]) rfl ⟨_,rfl,?_⟩
 refine eo_nil_sq ?_
 refine ec_block ?_
 obtain ⟨ha36,h⟩:=h
 refine ec_range (ps:=[11,12]) (gf:=91) (lb:=[.pointer (some ⟨b28,0,none⟩)]) rfl cf_arena_each_1 ?_
 intro D35 l35 rec35 w35 eD35 e35 hr35 F35 BD35 BL35
 have n35:w.heap.size≤D35:=by rw [eD35]; exact E29.size
 have nl35:w.heap.size≤l35:=by omega
 have nd35:D35<l35:=by omega
 have q37:b18<D35:=by rw [eD35]; exact (B18.ex F28).lt
 have m38:w.heap.size≤D35:=by rw [eD35]; exact G30.size
 have m39:w.heap.size≤l35:=by omega
 have m42:w9.heap.size≤D35:=by rw [eD35]; exact ((G17.trans (Fr.ext F18)).trans (Fr.ext F28)).size
 have m43:w9.heap.size≤l35:=by omega
 have m44:w13.heap.size≤D35:=by rw [eD35]; exact (G27.trans (Fr.ext F28)).size
 have m45:w13.heap.size≤l35:=by omega
 have m46:w28.heap.size≤D35:=Nat.le_of_eq eD35.symm
 have m47:w28.heap.size≤l35:=by omega
 have E48:=E29.trans F35
 have G53:Fr (b18::L) w28 w35:=Fr.ext F35
 obtain ⟨x35,hl35,h⟩:=h
 refine range_run (S:=Int) (R:=Int) (arena_each_it d0 (S28.up G53 sI (upc (.inr m47) (upc (.inr m46) (upc (.inl mH) (fun m hm=>Or.inl (mT hm)))))) (kArena_mk (d:=d0) (H3.up (G30.trans (Fr.ext F35)) sI (upc (.inr m39) (upc (.inr m38) (upc (.inr m19) (fun _ h=>.inl h))))) (H6.up (G30.trans (Fr.ext F35)) sI (upc (.inr m39) (upc (.inr m38) (upc (.inr m19) (fun _ h=>.inl h)))))) ((((hL.fr E48).cons ((B18.ex F28).ex F35).lt).cons BD35.lt).cons BL35.lt) ha36) (fun (s35:Int) T w'=>T=(l35::(D35::(b18::L)))∧Fr (l35::(D35::(b18::L))) w35 w'∧Ext w w'∧Blk w' b18 3 [.int .i64 s35]∧Lp w' D35 (.deferred (some []))∧Lp w' l35 (.loop (rec35 .ready none))) (fun (s35:Int) w'=>Fr (l35::(D35::(b18::L))) w35 w'∧Ext w w'∧Blk w' b18 3 [.int .i64 s35]∧Lp w' D35 (.deferred (some []))∧Lp w' l35 (.loop (rec35 .done (some .ret)))) hl35 ((l35::(D35::(b18::L)))) sI (fun _ h=>by cases h) ⟨rfl,(Fr.refl _ _),E48,((B18.ex F28).ex F35),BD35,BL35⟩ (fun _ _ w' w'' h f=>by obtain ⟨rfl,F,E,B35ib18,B35iD35,B35il35⟩:=h; exact ⟨rfl,F.trans (Fr.ext f),E.trans f,B35ib18.ex f,B35iD35.ex f,B35il35.ex f⟩) (fun _ w' w'' h f=>by obtain ⟨F,E,B35ib18,B35iD35,B35il35⟩:=h; exact ⟨F.trans (Fr.ext f),E.trans f,B35ib18.ex f,B35iD35.ex f,B35il35.ex f⟩) (fun _ _ w' h=>by obtain ⟨rfl,F,E,B35ib18,B35iD35,B35il35⟩:=h; exact ((((hL.fr E).cons B35ib18.lt).cons B35iD35.lt).cons B35il35.lt)) ?_ ?_ ?_
 ·intro s35 y35 z35 T35 w35r vs35 hI35 hX35 hb35
  obtain ⟨rfl,F35r,E35r,B35rb18,B35rD35,B35rl35⟩:=hI35
  have h:=hb35
  unfold arena_Find_b35 at h
  have G57:Fr L w9 w35r:=(((G17.trans (Fr.ext F18)).trans (Fr.ext F28)).trans (Fr.ext F35)).stp F35r (upc (.inr m43) (upc (.inr m42) (upc (.inr m21) (fun _ h=>.inl h))))
  have G58:Fr L w13 w35r:=((G27.trans (Fr.ext F28)).trans (Fr.ext F35)).stp F35r (upc (.inr m45) (upc (.inr m44) (upc (.inr m22) (fun _ h=>.inl h))))
  obtain ⟨cs61,rfl,HX60⟩:=hX35
  obtain ⟨A62,c63,A65,c66,rfl,H64,H67⟩:=kEnt_open HX60
  refine range_round (ps:=[11,12]) hr35 B35rl35 rfl rfl ?_
  refine ec_seq ?_
  refine ec_region ?_
  refine o_w (v:=.int .i64 y35.1) (r_asg rfl) ?_
  refine eo_nil_sq ?_
  refine ec_region ?_
  refine o_alloc zero_api_Entry rfl rfl rfl ?_
  intro b68 w68 e68 F68 B68
  have n68:w.heap.size≤b68:=by rw [e68]; exact E35r.size
  have q69:b18<b68:=by rw [e68]; exact B35rb18.lt
  have q70:l35<b68:=by rw [e68]; exact B35rl35.lt
  have q71:D35<b68:=by rw [e68]; exact B35rD35.lt
  have m74:w9.heap.size≤b68:=by rw [e68]; exact G57.size
  have m75:w13.heap.size≤b68:=by rw [e68]; exact G58.size
  have m77:w35.heap.size≤b68:=by rw [e68]; exact F35r.size
  have m78:w35r.heap.size≤b68:=Nat.le_of_eq e68.symm
  have E80:=E35r.trans F68
  have G87:Fr (l35::(D35::(b18::L))) w35r w68:=Fr.ext F68
  refine o_store rfl B68 (vs:=(cEnt y35.2 A62 c63 A65 c66)) rfl sz_api_Entry rfl rfl rfl ?_
  intro w92 F92 B92
  have E93:=Ext.st E80 F92 (by simp; omega)
  have G96:Fr L w9 w92:=(G57.trans (Fr.ext F68)).stp F92 (upc (.inr m74) (fun m hm=>by cases hm))
  have G97:Fr L w13 w92:=(G58.trans (Fr.ext F68)).stp F92 (upc (.inr m75) (fun m hm=>by cases hm))
  have G99:Fr (l35::(D35::(b18::L))) w35 w92:=(F35r.trans (Fr.ext F68)).stp F92 (upc (.inr m77) (fun m hm=>by cases hm))
  have G100:Fr (l35::(D35::(b18::L))) w35r w92:=G87.stp F92 (upc (.inr m78) (fun m hm=>by cases hm))
  have B102:=(B35rb18.ex F68).fr F92 (by simp; omega)
  have B103:=(B35rl35.ex F68).fr F92 (by simp; omega)
  have B104:=(B35rD35.ex F68).fr F92 (by simp; omega)
  have B92':Blk w92 b68 _ (cEnt y35.2 A62 c63 A65 c66):=B92
  refine eo_nil ?_
  refine ⟨rfl,rfl,B103,fun w105 F106 BL107=>?_⟩
  have E108:=Ext.st E93 F106 (by simp; omega)
  have G111:Fr L w9 w105:=G96.stp F106 (upc (.inr m43) (fun m hm=>by cases hm))
  have G112:Fr L w13 w105:=G97.stp F106 (upc (.inr m45) (fun m hm=>by cases hm))
  have G114:Fr (l35::(D35::(b18::L))) w35 w105:=G99.stp F106 (upc (.inl mH) (fun m hm=>by cases hm))
  have G115:Fr (l35::(D35::(b18::L))) w35r w105:=G100.stp F106 (upc (.inl mH) (fun m hm=>by cases hm))
  have B117:=B102.fr F106 (by simp; omega)
  have B118:=B104.fr F106 (by simp; omega)
  have B119:=B92'.fr F106 (by simp; omega)
  refine ec_block ?_
  refine ec_seq ?_
  refine ec_region ?_
  refine o_w (v:=.pointer (some ⟨b68,1,none⟩)) (r_fa fld_api_Entry_1 rfl rfl) ?_
  refine o_w (v:=.pointer (some ⟨b68,1,none⟩)) (r_fa fld_api_Value_0 rfl rfl) ?_
  refine o_w (v:=.int .i64 y35.2.val.kind) (r_ld one_int rfl (B119.cell rfl)) ?_
  refine o_w (v:=.int .i64 d1) (r_ld one_int rfl ((S9.fr G111 sI).now.cell rfl)) ?_
  refine o_w (v:=.bool (y35.2.val.kind==d1)) (r_int rfl rfl rfl) ?_
  refine o_w (v:=.bool (y35.2.val.kind==d1)) (r_mov rfl) ?_
  refine o_vg (v:=.pointer (some ⟨b68,0,none⟩)) (want_ct (t:=18) rfl rfl) (fun hk=>(r_fa fld_api_Entry_0 rfl rfl)) rfl rfl ?_
  refine o_vg (v:=str y35.2.key) (want_ct (t:=18) rfl rfl) (fun hk=>(r_ld one_string (gdT hk) (B119.cell rfl))) rfl rfl ?_
  refine o_vg (v:=str d2) (want_ct (t:=18) rfl rfl) (fun hk=>(r_ld one_string rfl ((S13.fr G112 sI).now.cell rfl))) rfl rfl ?_
  refine o_vg (v:=.bool (y35.2.key==d2)) (want_ct (t:=18) rfl rfl) (fun hk=>(r_str (gdT hk) (gdT hk) rfl)) rfl rfl ?_
  refine o_w (v:=.bool ((y35.2.val.kind==d1)&&(y35.2.key==d2))) (r_pickAnd rfl (fun ht=>(gdT ht)) rfl) ?_
  refine eo_nil_sq ?_
  refine ec_cond rfl (fun hc120=>?_) (fun hc120=>?_)
  ·replace h:=h.1 hc120
   refine ec_seq ?_
   refine ec_region ?_
   refine o_w (v:=.int .i64 y35.1) (r_mov rfl) ?_
   refine o_store rfl B117 (vs:=[.int .i64 y35.1]) rfl sz_int rfl rfl rfl ?_
   intro w121 F121 B121
   have E122:=Ext.st E108 F121 (by simp; omega)
   have G128:Fr (l35::(D35::(b18::L))) w35 w121:=G114.stp F121 (upc (.inl (mT (mT mH))) (fun m hm=>by cases hm))
   have B131:=BL107.fr F121 (by simp; omega)
   have B132:=B118.fr F121 (by simp; omega)
   have B121':Blk w121 b18 _ [.int .i64 y35.1]:=B121
   refine eo_nil_sq ?_
   refine ec_ret ?_
   refine blk_ret ?_
   subst h
   refine ⟨some .ret,rfl,B131,fun w134 F135 BL136=>?_⟩
   have E137:=Ext.st E122 F135 (by simp; omega)
   have G143:Fr (l35::(D35::(b18::L))) w35 w134:=G128.stp F135 (upc (.inl mH) (fun m hm=>by cases hm))
   have B146:=B121'.fr F135 (by simp; omega)
   have B147:=B132.fr F135 (by simp; omega)
   exact ⟨rfl,⟨G143,E137,B146,B147,BL136⟩⟩
  ·replace h:=h.2 hc120
   refine ec_skip ?_
   refine blk_n ?_
   subst h
   refine ⟨none,rfl,BL107,fun w149 F150 BL151=>?_⟩
   have E152:=Ext.st E108 F150 (by simp; omega)
   have G158:Fr (l35::(D35::(b18::L))) w35 w149:=G114.stp F150 (upc (.inl mH) (fun m hm=>by cases hm))
   have G159:Fr (l35::(D35::(b18::L))) w35r w149:=G115.stp F150 (upc (.inl mH) (fun m hm=>by cases hm))
   have B161:=B117.fr F150 (by simp; omega)
   have B162:=B118.fr F150 (by simp; omega)
   exact ⟨rfl,_,⟨rfl,G158,E152,B161,B162,BL151⟩,G159,(upc (.inl mH) (upc (.inl (mT mH)) (upc (.inl (mT (mT mH))) (fun m hm=>Or.inl (mT (mT (mT hm)))))))⟩
 ·rintro sx35 rfl T35 w35e v35 hI35
  replace h:=h.1 _ rfl
  obtain ⟨rfl,F35e,E35e,B35eb18,B35eD35,B35el35⟩:=hI35
  refine ⟨⟨_,rfl⟩,none,B35el35,fun w169 F170=>?_⟩
  have E171:=Ext.st E35e F170 (by simp; omega)
  have B177:=B35eb18.fr F170 (by simp; omega)
  have B178:=B35eD35.fr F170 (by simp; omega)
  refine blk_n ?_
  refine sq_n ?_
  refine ec_seq ?_
  refine ec_region ?_
  refine o_store rfl B177 (vs:=[.int .i64 (-1:Int)]) rfl sz_int rfl rfl rfl ?_
  intro w179 F179 B179
  have E180:=Ext.st E171 F179 (by simp; omega)
  have B186:=B178.fr F179 (by simp; omega)
  have B179':Blk w179 b18 _ [.int .i64 (-1:Int)]:=B179
  refine eo_nil_sq ?_
  refine ec_ret ?_
  refine marksS B186 (fun w187 F187=>?_)
  have E188:=Ext.st E180 F187 (by simp; omega)
  have B194:=B179'.fr F187 (by simp; omega)
  subst h
  exact marks0 ((endr1 (rv_c rfl (one_int) B194 rfl) ⟨_,rfl,E188,rfl⟩))
 ·rintro yx35 rfl w35q v35 hI35
  replace h:=h.2 _ rfl
  obtain ⟨F35q,E35q,B35qb18,B35qD35,B35ql35⟩:=hI35
  refine ⟨⟨_,rfl⟩,(some .ret),B35ql35,fun w200 F201=>?_⟩
  have E202:=Ext.st E35q F201 (by simp; omega)
  have B208:=B35qb18.fr F201 (by simp; omega)
  have B209:=B35qD35.fr F201 (by simp; omega)
  refine blk_ret ?_
  refine sq_ret ?_
  refine marksS B209 (fun w210 F210=>?_)
  have E211:=Ext.st E202 F210 (by simp; omega)
  have B217:=B208.fr F210 (by simp; omega)
  replace h:=h.symm
  subst h
  exact marks0 ((endr1 (rv_c rfl (one_int) B217 rfl) ⟨_,rfl,E211,rfl⟩))
def ref08_All_b15 (d0:Arena) (s15:List Ent × Int) (z15:(List Ent × Int) ⊕ (List Ent × Int)):Prop :=
 ((decide (s15.2<(d0.idx.length:Int)))=true→((0≤s15.2∧s15.2<(d0.idx.length:Int))∧((0≤(nth d0.idx s15.2)∧(nth d0.idx s15.2)<(d0.slots.length:Int))∧((s15.1.length + 1≤9223372036854775807∧(s15.1.length + 1) * 120≤140737488355328)∧(z15=.inl ((s15.1++([(nth d0.slots (nth d0.idx s15.2))]:List Ent)),(IntKind.i64.wrap (s15.2 + (1:Int)))))))))∧((decide (s15.2<(d0.idx.length:Int)))=false→(z15=.inr (s15.1,s15.2)))
def ref08_All_raw (d0:Arena) (y:(List Ent)):Prop :=
 (sma d0)∧(((!(arOk d0))=true→(y=([]:List Ent)))∧((!(arOk d0))=false→(∃ x15,LoopR (ref08_All_b15 d0) (([]:List Ent),(0:Int)) x15∧(y=x15.1))))
set_option maxRecDepth 20000 in
set_option maxHeartbeats 4000000 in
theorem ref08_All_c {L:List Nat} {w:World} {csP0:List Value} (d0:Arena) (HP0:Stb L w (fun w=>kArena.r w csP0 d0)) (hL:Lt L w) {y:(List Ent)} (h:ref08_All_raw d0 y) :
  Calls Tryz.prog 56 [.agg csP0.toArray].toArray w (Ret fun v w'=>Ext w w'∧∃ (A90:Option Addr) (c90:Nat),v=.slice A90 (y).length c90∧Stb L w' (fun w=>SlC kEnt w A90 c90 y)):=by
 obtain ⟨A1,c2,A4,c5,rfl,H3,H6⟩:=kArena_open HP0
 unfold ref08_All_raw at h
 refine calls_ec Tryz.func56 rfl rfl rfl ?_
 refine ec_seq ?_
 refine ec_region ?_
 refine o_box (cs:=(cArena d0 A1 c2 A4 c5)) rfl rfl rfl ?_
 intro b7 w7 e7 F7 B7
 have S7:=B7.stb (nin hL e7)
 have G8:Fr L w w7:=Fr.ext F7
 refine o_w (v:=.slice none ([]:List Ent).length 0) (r_asg rfl) ?_
 refine eo_nil_sq ?_
 refine ec_seq ?_
 refine ec_region ?_
 refine o_w (v:=.slice none ([]:List Ent).length 0) (r_asg rfl) ?_
 refine eo_nil_sq ?_
 iterate 2 refine ec_seq ?_
 refine ec_region ?_
 refine o_w (v:=.agg (cArena d0 A1 c2 A4 c5).toArray) (r_lda agg_api_Arena rfl (vs:=(cArena d0 A1 c2 A4 c5)) rfl (S7.now.part (n:=3) rfl)) ?_
 obtain ⟨ha10,h⟩:=h
 refine o_call cf_ref08_Check rfl (ref08_Check_c d0 (kArena_mk (d:=d0) (H3.fr G8 sI) (H6.fr G8 sI)) (hL.fr F7) (refCheckA_ev d0 ha10)) rfl rfl ?_
 rintro _ w9 ⟨F9,rfl⟩
 have E11:=F7.trans F9
 have G13:Fr L w7 w9:=Fr.ext F9
 refine o_w (v:=.bool (!(arOk d0))) (r_not rfl) ?_
 refine eo_nil_sq ?_
 refine ec_cond rfl (fun hc14=>?_) (fun hc14=>?_)
 ·replace h:=h.1 hc14
  refine ec_seq ?_
  refine ec_region ?_
  refine o_w (v:=.slice none ([]:List Ent).length 0) (r_asg rfl) ?_
  refine eo_nil_sq ?_
  refine ec_ret ?_
  refine sq_ret ?_
  subst h
  exact (end1 rfl ⟨_,rfl,E11,_,_,rfl,stb_nil⟩)
 ·replace h:=h.2 hc14
  refine ec_skip ?_
  refine sq_n ?_
  iterate 2 refine ec_seq ?_
  refine ec_region ?_
  refine o_w (v:=.int .i64 0) (r_asg rfl) ?_
  refine eo_nil_sq ?_
  refine ec_block ?_
  have lo16:w.heap.size≤w9.heap.size:=E11.size
  have O16:=OwnS.nil (k:=kEnt) (e:=32) (by decide) (hL.fr E11)
  obtain ⟨x15,hl15,h⟩:=h
  refine ec_loopE 0 (I:=(fun (s15:List Ent × Int) ρ ds w'=>∃ (ρ':Env) (v15i1:Value),ρ=envs ρ' [(3,v15i1),(4,.int .i64 s15.2),(1,.pointer (some ⟨b7,0,none⟩))]∧ds=[]∧Fr (own (.slice none 0 0)++L) w9 w'∧Ext w w'∧OwnS kEnt (w9.heap.size) 32 L w' v15i1 s15.1∧(∀ q∈own v15i1,q∈(own (.slice none 0 0)++L)∨w9.heap.size≤q))) ?_ hl15 ?_ ?_
  ·intro s15 z15 ρ15 ds15 w15r hI15 hb15
   obtain ⟨ρ15r,v15r1,rfl,rfl,F15r,E15r,O15r1,N15r1⟩:=hI15
   have h:=hb15
   unfold ref08_All_b15 at h
   have G17:Fr L w w15r:=(G8.trans (Fr.ext F9)).stp F15r (upo (fun m hm=>by cases hm) (fun _ h=>.inl h))
   have G18:Fr L w7 w15r:=G13.stp F15r (upo (fun m hm=>by cases hm) (fun _ h=>.inl h))
   have P19:∀ m∈own v15r1,m∈L∨w.heap.size≤m:=fun m hm=>(N15r1 m hm).elim (fun h=>(show ∀ m∈(own (.slice none 0 0)++L),m∈L∨w.heap.size≤m from (upo (fun m hm=>by cases hm) (fun _ h=>.inl h))) m h) (fun h=>.inr (Nat.le_trans ((G8.trans (Fr.ext F9)).size) h))
   iterate 2 refine ec_seq ?_
   refine ec_region ?_
   refine o_w (v:=.int .i64 s15.2) (r_mov rfl) ?_
   refine o_w (v:=.pointer (some ⟨b7,2,none⟩)) (r_fa fld_api_Arena_2 rfl rfl) ?_
   refine o_w (v:=.slice A4 d0.idx.length c5) (r_ld one_s_int rfl ((S7.fr G18 sI).now.cell rfl)) ?_
   refine o_w (v:=.int .i64 (d0.idx.length:Int)) (r_len_slc un_s_int rfl) ?_
   refine o_w (v:=.bool (decide (s15.2<(d0.idx.length:Int)))) (r_int rfl rfl rfl) ?_
   refine eo_nil_sq ?_
   refine ec_cond rfl (fun hc21=>?_) (fun hc21=>?_)
   ·replace h:=h.1 hc21
    refine ec_skip ?_
    refine sq_n ?_
    refine ec_seq ?_
    refine ec_block ?_
    obtain ⟨ha38,h⟩:=h
    obtain ⟨cs39,l41,H40⟩:=Stb.elem (by decide) (H6.up G17 sI (upo P19 (fun _ h=>.inl h))) s15.2 ha38.1 ha38.2
    obtain ⟨rfl,H40'⟩:=kI_open2 H40
    obtain ⟨ha42,h⟩:=h
    obtain ⟨cs43,l45,H44⟩:=Stb.elem (by decide) (H3.up G17 sI (upo P19 (fun _ h=>.inl h))) (nth d0.idx s15.2) ha42.1 ha42.2
    obtain ⟨A47,c48,A50,c51,rfl,H46,H49,H52⟩:=kEnt_open2 H44
    obtain ⟨ha53,h⟩:=h
    refine ec_anyN (by kernel_rfl) [[],[],[1],[],[3],[],[3,4,5],[3,4,5,6],[1,2,3,4,5,6,7],[1,2,3,4,5,6,7,8],[1,2,3,4,5,6,7,8,9],[0,1,2,3,4,5,6,7,8,9,10],[0,1,2,3,4,5,6,7,8,9,10,11]] [3,15,16,17,18,19,20,21,22,23,24,25,26] (own v15r1++[]) [11] [own v15r1] [[11,12]] [fun w'=>OwnS kEnt (w9.heap.size) 32 L w' v15r1 s15.1,fun _=>True] [fun v _=>v=(v15r1:Value),fun v _=>v=(.pointer (some ⟨b7,1,none⟩):Value),fun v _=>v=(.slice A1 d0.slots.length c2:Value),fun v _=>v=(.pointer (some ⟨b7,2,none⟩):Value),fun v _=>v=(.slice A4 d0.idx.length c5:Value),fun v _=>v=(.int .i64 s15.2:Value),fun v _=>v=(.pointer (some (elemA A4 (kI .i64).n s15.2.toNat)):Value),fun v _=>v=(.int .i64 (nth d0.idx s15.2):Value),fun v _=>v=(.pointer (some (elemA A1 kEnt.n (nth d0.idx s15.2).toNat)):Value),fun v _=>v=(.agg (cEnt (nth d0.slots (nth d0.idx s15.2)) A47 c48 A50 c51).toArray:Value),fun v w'=>∃ b37_10,v=(.slice (some ⟨b37_10,0,none⟩) 1 1:Value)∧Blk w' b37_10 32 [str ((nth d0.slots (nth d0.idx s15.2)).key),.int .i64 (((nth d0.slots (nth d0.idx s15.2)).val).kind),.int .i64 (((nth d0.slots (nth d0.idx s15.2)).val).time),.int .i64 (((nth d0.slots (nth d0.idx s15.2)).val).node),.bool (((nth d0.slots (nth d0.idx s15.2)).val).dead),str (((nth d0.slots (nth d0.idx s15.2)).val).text),.slice A47 (((nth d0.slots (nth d0.idx s15.2)).val).plus).length c48,.slice A50 (((nth d0.slots (nth d0.idx s15.2)).val).minus).length c51,.int .u64 (((nth d0.slots (nth d0.idx s15.2)).val).flags)]∧w15r.heap.size≤b37_10,fun v w'=>∃ v37_11,v=(v37_11:Value)∧OwnS kEnt (w9.heap.size) 32 L w' v37_11 (s15.1++([(nth d0.slots (nth d0.idx s15.2))]:List Ent))∧(∀ q∈own v37_11,q∈own v15r1∨w15r.heap.size≤q),fun v w'=>∃ v37_11,v=(v37_11:Value)∧OwnS kEnt (w9.heap.size) 32 L w' v37_11 (s15.1++([(nth d0.slots (nth d0.idx s15.2))]:List Ent))∧(∀ q∈own v37_11,q∈own v15r1∨w15r.heap.size≤q)] (by kernel_rfl) (allM1 (fun m hm=>by first | exact hm | (simp at hm ⊢; simp [hm]; done) | simp_all) (fun _ h=>by cases h)) ⟨fun _ _ _ _ _ h=>h,fun _ _ _ _ _ h=>h,fun _ _ _ _ _ h=>h,fun _ _ _ _ _ h=>h,fun _ _ _ _ _ h=>h,fun _ _ _ _ _ h=>h,fun _ _ _ _ _ h=>h,fun _ _ _ _ _ h=>h,fun _ _ _ _ _ h=>h,fun _ _ _ _ _ h=>h,fun _ v w' w'' F h=>by obtain ⟨b37_10,hv,B37_10,qB37_10⟩:=h; exact ⟨b37_10,hv,(B37_10.ex F),qB37_10⟩,fun _ v w' w'' F h=>by obtain ⟨v37_11,hv,O37_11,NO37_11⟩:=h; exact ⟨v37_11,hv,(O37_11.ex F),NO37_11⟩,fun _ v w' w'' F h=>by obtain ⟨v37_11,hv,O37_11,NO37_11⟩:=h; exact ⟨v37_11,hv,(O37_11.ex F),NO37_11⟩,trivial⟩ ⟨⟨fun _ _ _ _ _ h=>h,fun _ _ _ _ _ h=>h,fun _ _ _ _ _ h=>h,fun _ _ _ _ _ h=>h,fun _ _ _ _ _ h=>h,fun _ _ _ _ _ h=>h,fun _ _ _ _ _ h=>h,fun _ _ _ _ _ h=>h,fun _ _ _ _ _ h=>h,fun _ _ _ _ _ h=>h,fun _ v w' w'' F h=>by obtain ⟨b37_10,hv,B37_10,qB37_10⟩:=h; exact ⟨b37_10,hv,(B37_10.fr F (fun hm=>by have h1:=O15r1.ltw _ hm; omega)),qB37_10⟩,(fun h=>absurd h (by decide)),(fun h=>absurd h (by decide)),trivial⟩,trivial⟩ ⟨fun w' w'' F h=>by have hO37_16:=h; exact (hO37_16.ex F),fun _ _ _ h=>h,trivial⟩ O15r1 ?_ ?_ ?_
    ·refine ⟨?_,?_,?_,?_,?_,?_,?_,?_,?_,?_,?_,?_,?_,trivial⟩
     ·intro _ ρ w37o F37o hX hS hρ
      have F37o:=hX 11 rfl rfl
      have q3:ρ 3=v15r1:=hρ 3 (by kernel_rfl)
      exact o_q (r_mov q3) ⟨Fr.refl _ _,rfl⟩
     ·intro _ ρ w37o F37o hX hS hρ
      have F37o:=hX 11 rfl rfl
      have q1:ρ 1=.pointer (some ⟨b7,0,none⟩):=hρ 1 (by kernel_rfl)
      exact o_q (r_fa fld_api_Arena_1 rfl q1) ⟨Fr.refl _ _,rfl⟩
     ·intro _ ρ w37o F37o hX hS hρ
      have F37o:=hX 11 rfl rfl
      have q16:ρ 16=.pointer (some ⟨b7,1,none⟩):=hS 1 (by decide) 16 rfl
      exact o_q (r_ld one_s_api_Entry q16 ((S7.fr (G18.trans (Fr.ext F37o)) sI).now.cell rfl)) ⟨Fr.refl _ _,rfl⟩
     ·intro _ ρ w37o F37o hX hS hρ
      have F37o:=hX 11 rfl rfl
      have q1:ρ 1=.pointer (some ⟨b7,0,none⟩):=hρ 1 (by kernel_rfl)
      exact o_q (r_fa fld_api_Arena_2 rfl q1) ⟨Fr.refl _ _,rfl⟩
     ·intro _ ρ w37o F37o hX hS hρ
      have F37o:=hX 11 rfl rfl
      have q18:ρ 18=.pointer (some ⟨b7,2,none⟩):=hS 3 (by decide) 18 rfl
      exact o_q (r_ld one_s_int q18 ((S7.fr (G18.trans (Fr.ext F37o)) sI).now.cell rfl)) ⟨Fr.refl _ _,rfl⟩
     ·intro _ ρ w37o F37o hX hS hρ
      have F37o:=hX 11 rfl rfl
      have q4:ρ 4=.int .i64 s15.2:=hρ 4 (by kernel_rfl)
      exact o_q (r_mov q4) ⟨Fr.refl _ _,rfl⟩
     ·intro _ ρ w37o F37o hX hS hρ
      have F37o:=hX 11 rfl rfl
      have q19:ρ 19=.slice A4 d0.idx.length c5:=hS 4 (by decide) 19 rfl
      have q20:ρ 20=.int .i64 s15.2:=hS 5 (by decide) 20 rfl
      exact o_q (r_ia slc_s_int q19 q20 ((H6.fr (G17.trans (Fr.ext F37o)) sI).now.2 _ (lt_toNat ha38.1 ha38.2)).1 ha38.1 ha38.2) ⟨Fr.refl _ _,rfl⟩
     ·intro _ ρ w37o F37o hX hS hρ
      have F37o:=hX 11 rfl rfl
      have G76:Fr (own v15r1++L) w15r w37o:=Fr.ext F37o
      have q21:ρ 21=.pointer (some (elemA A4 (kI .i64).n s15.2.toNat)):=hS 6 (by decide) 21 rfl
      exact o_q (r_ld' one_int q21 (elemA_spot _ _ _) ((H40'.fr G76 sI).now.1.at0 (elemA_spot _ _ _))) ⟨Fr.refl _ _,rfl⟩
     ·intro _ ρ w37o F37o hX hS hρ
      have F37o:=hX 11 rfl rfl
      have q17:ρ 17=.slice A1 d0.slots.length c2:=hS 2 (by decide) 17 rfl
      have q22:ρ 22=.int .i64 (nth d0.idx s15.2):=hS 7 (by decide) 22 rfl
      exact o_q (r_ia slc_s_api_Entry q17 q22 ((H3.fr (G17.trans (Fr.ext F37o)) sI).now.2 _ (lt_toNat ha42.1 ha42.2)).1 ha42.1 ha42.2) ⟨Fr.refl _ _,rfl⟩
     ·intro _ ρ w37o F37o hX hS hρ
      have F37o:=hX 11 rfl rfl
      have G88:Fr (own v15r1++L) w15r w37o:=Fr.ext F37o
      have q23:ρ 23=.pointer (some (elemA A1 kEnt.n (nth d0.idx s15.2).toNat)):=hS 8 (by decide) 23 rfl
      exact o_q (r_lda' agg_api_Entry q23 (elemA_spot _ _ _) (vs:=(cEnt (nth d0.slots (nth d0.idx s15.2)) A47 c48 A50 c51)) rfl ((H46.fr G88 sI).now.1)) ⟨Fr.refl _ _,rfl⟩
     ·intro _ ρ w37o F37o hX hS hρ
      have F37o:=hX 11 rfl rfl
      have q24:ρ 24=.agg (cEnt (nth d0.slots (nth d0.idx s15.2)) A47 c48 A50 c51).toArray:=hS 9 (by decide) 24 rfl
      refine o_bslice slc_s_api_Entry rfl (vs:=[.agg (cEnt (nth d0.slots (nth d0.idx s15.2)) A47 c48 A50 c51).toArray]) (by simp only [List.map,ev,idx,q24]) rfl rfl (cs:=[str ((nth d0.slots (nth d0.idx s15.2)).key),.int .i64 (((nth d0.slots (nth d0.idx s15.2)).val).kind),.int .i64 (((nth d0.slots (nth d0.idx s15.2)).val).time),.int .i64 (((nth d0.slots (nth d0.idx s15.2)).val).node),.bool (((nth d0.slots (nth d0.idx s15.2)).val).dead),str (((nth d0.slots (nth d0.idx s15.2)).val).text),.slice A47 (((nth d0.slots (nth d0.idx s15.2)).val).plus).length c48,.slice A50 (((nth d0.slots (nth d0.idx s15.2)).val).minus).length c51,.int .u64 (((nth d0.slots (nth d0.idx s15.2)).val).flags)]) rfl rfl rfl rfl ?_
      intro b w' e F B
      exact eo_nil ⟨rfl,rfl,_,rfl,F,b,rfl,B,by rw [e]; exact F37o.size⟩
     ·intro hT; exact absurd hT (by decide)
     ·intro _ ρ w37o F37o hX hS hρ
      obtain ⟨v37_11,q26,O37_11,NO37_11⟩:=hS 11 (by decide) 26 rfl
      exact o_q (r_asg q26) ⟨Fr.refl _ _,⟨v37_11,rfl,O37_11,NO37_11⟩⟩
    ·refine ⟨⟨_,rfl,?_⟩,trivial⟩
     ·intro ρ w37o F37o hX hI hS hρ
      have F37o:=hX rfl
      have hO37_16:=hI
      have G94:Fr (own v15r1++L) w15r w37o:=Fr.ext F37o
      have q15:ρ 15=v15r1:=hS 0 (by decide) 15 rfl
      obtain ⟨b37_10,q25,B37_10,qB37_10⟩:=hS 10 (by decide) 25 rfl
      refine o_app slc_s_api_Entry rfl rfl (show ev ρ _=_ from q15) hO37_16 (show ev ρ _=_ from q25) B37_10 (ys:=([(nth d0.slots (nth d0.idx s15.2))]:List Ent)) rfl rfl rfl (rowd1 (cs:=(cEnt (nth d0.slots (nth d0.idx s15.2)) A47 c48 A50 c51)) (kEnt_mk (d:=(nth d0.slots (nth d0.idx s15.2))) (H49.fr G94 sI) (H52.fr G94 sI)) rfl) ha53 rfl rfl ?_
      intro v' w' F O Nn
      have N':∀ q∈own v',q∈own v15r1∨w15r.heap.size≤q:=fun q hq=>(Nn q hq).elim .inl (fun h=>.inr (Nat.le_trans F37o.size h))
      exact eo_nil ⟨rfl,rfl,_,rfl,F,trivial,v',rfl,O,N'⟩
    ·intro ρ w37 F37 hI hS hρ
     obtain ⟨v37_11,q3,O37_11,NO37_11⟩:=hS 12 3 rfl
     obtain ⟨ρ',rfl⟩:∃ ρ',ρ=envs (ovr [3,15,16,17,18,19,20,21,22,23,24,25,26] ρ' _) [(3,v37_11)]:=⟨ρ,ovr_self hρ ⟨q3,trivial⟩⟩
     have E96:Ext w w37:=Ext.st E15r F37 (upo (fun m hm=>Nat.le_trans lo16 (O15r1.lo m hm)) (fun m hm=>by cases hm))
     have G101:Fr (own (.slice none 0 0)++L) w9 w37:=Fr.stp F15r F37 (upo N15r1 (fun m hm=>by cases hm))
     have P102:∀ m∈own v37_11,m∈(own (.slice none 0 0)++L)∨w9.heap.size≤m:=fun m hm=>(NO37_11 m hm).elim (fun h=>(show ∀ m∈own v15r1,m∈(own (.slice none 0 0)++L)∨w9.heap.size≤m from N15r1) m h) (fun h=>.inr (Nat.le_trans (F15r.size) h))
     refine blk_n ?_
     refine sq_n ?_
     refine ec_region ?_
     refine o_w (v:=.int .i64 s15.2) (r_mov rfl) ?_
     refine o_w (v:=.int .i64 (IntKind.i64.wrap (s15.2 + (1:Int)))) (r_int rfl rfl rfl) ?_
     refine o_w (v:=.int .i64 (IntKind.i64.wrap (s15.2 + (1:Int)))) (r_asg rfl) ?_
     refine eo_nil ?_
     subst h
     exact lq_n ⟨_,v37_11,envs_self ⟨rfl,rfl,rfl,trivial⟩,rfl,G101,E96,O37_11,P102⟩
   ·replace h:=h.2 hc21
    refine ec_exit ?_
    refine sq_exit ?_
    subst h
    exact lq_x ⟨_,v15r1,envs_self ⟨rfl,rfl,rfl,trivial⟩,rfl,F15r,E15r,O15r1,N15r1⟩
  ·exact ⟨_,(.slice none 0 0),envs_self ⟨rfl,rfl,rfl,trivial⟩,rfl,(Fr.refl _ _),E11,O16,(fun q hq=>.inl (by first | exact List.mem_append_left _ hq | simp [hq]))⟩
  ·rintro ρ15e ds15e w15e ⟨ρ15e,v15e1,rfl,rfl,F15e,E15e,O15e1,N15e1⟩
   refine blk_hit ?_
   refine sq_n ?_
   refine ec_seq ?_
   refine ec_region ?_
   refine o_w (v:=v15e1) (r_mov rfl) ?_
   refine o_w (v:=v15e1) (r_asg rfl) ?_
   refine eo_nil_sq ?_
   refine ec_ret ?_
   obtain ⟨A109,c110,eA109,H111⟩:=O15e1.still
   subst eA109
   have Zw15e_112:=Fr.refl L w15e
   subst h
   exact (end1 rfl ⟨_,rfl,E15e,_,_,rfl,(H111.fr Zw15e_112 sI)⟩)
def arena_All_b15 (d0:Arena) (s15:List Ent × Int) (z15:(List Ent × Int) ⊕ (List Ent × Int)):Prop :=
 ((decide (s15.2<(d0.idx.length:Int)))=true→((0≤s15.2∧s15.2<(d0.idx.length:Int))∧((0≤(nth d0.idx s15.2)∧(nth d0.idx s15.2)<(d0.slots.length:Int))∧((s15.1.length + 1≤9223372036854775807∧(s15.1.length + 1) * 120≤140737488355328)∧(z15=.inl ((s15.1++([(nth d0.slots (nth d0.idx s15.2))]:List Ent)),(IntKind.i64.wrap (s15.2 + (1:Int)))))))))∧((decide (s15.2<(d0.idx.length:Int)))=false→(z15=.inr (s15.1,s15.2)))
def arena_All_raw (d0:Arena) (y:(List Ent)):Prop :=
 (sma d0)∧((((checkA d0) != (0:Int))=true→(y=([]:List Ent)))∧(((checkA d0) != (0:Int))=false→(∃ x15,LoopR (arena_All_b15 d0) (([]:List Ent),(0:Int)) x15∧(y=x15.1))))
end Go.Proofs.YthhjcijhanacnaaGreat
