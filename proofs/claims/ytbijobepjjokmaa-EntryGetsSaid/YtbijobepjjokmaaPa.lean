/- Numbers as bytes: what each function comes to. -/
import Derived.Test.YtbijobepjjokmaaPj
import Derived.Test.YtbijobepjjokmaaFs
namespace Go.Proofs.Ytbijobepjjokmaa
open Go Go.RowKit
set_option linter.unusedVariables false
set_option linter.unusedSimpArgs false
def octet_Put_b66 (d1:Int) (s66:List Int × Str × Int) (y66:(Int × Int)) (z66:(List Int × Str × Int) ⊕ (List Int × Str × Int)):Prop :=
 ((decide (y66.1<d1))=true→((0≤y66.1∧y66.1<(s66.1.length:Int))∧(z66=.inl ((s66.1.set y66.1.toNat (IntKind.u8.wrap y66.2)),s66.2.1,s66.2.2))))∧((decide (y66.1<d1))=false→(((decide ((0:Int)<y66.2))=true→(z66=.inr (s66.1,([]:Str),(1:Int))))∧((decide ((0:Int)<y66.2))=false→(z66=.inl (s66.1,s66.2.1,s66.2.2)))))
def octet_Put_raw (d0:Int) (d1:Int) (y:Str × Int):Prop :=
 ((((decide (d1<(1:Int)))||(decide ((7:Int)<d1)))||(decide (d0<(0:Int))))=true→(y=(([]:Str),(1:Int))))∧((((decide (d1<(1:Int)))||(decide ((7:Int)<d1)))||(decide (d0<(0:Int))))=false→((0≤d1∧d1 * 1≤281474976710656∧d1≤9223372036854775807)∧(((0≤d1∧d1≤7))∧(∃ x66,ItR (octet_Put_b66 d1) ((List.replicate (d1).toNat (0:Int)),([]:Str),(0:Int)) (partsL d0 d1) x66∧(∀ sx66,x66=.inl sx66→(y=((bstr sx66.1),(0:Int))))∧(∀ yx66,x66=.inr yx66→(y=(yx66.2.1,yx66.2.2)))))))
set_option maxRecDepth 20000 in
set_option maxHeartbeats 4000000 in
theorem octet_Put_c {L:List Nat} {w:World} (d0:Int) (d1:Int) (hL:Lt L w) {y:Str × Int} (h:octet_Put_raw d0 d1 y) :
  Calls Try.prog 52 [.int .i64 d0,.int .i64 d1].toArray w (Ret fun v w'=>Ext w w'∧v=.tuple #[str y.1,.int .i64 y.2]):=by
 unfold octet_Put_raw at h
 refine calls_ecM Try.func52 rfl rfl rfl ?_
 refine ec_seq ?_
 refine ec_region ?_
 refine o_box (cs:=[.int .i64 d1]) rfl rfl rfl ?_
 intro b1 w1 e1 F1 B1
 have S1:=B1.stb (nin hL e1)
 refine o_alloc zero_string rfl rfl rfl ?_
 intro b2 w2 e2 F2 B2
 have n2:w.heap.size≤b2:=by rw [e2]; exact F1.size
 have m3:w1.heap.size≤b2:=Nat.le_of_eq e2.symm
 have E4:=F1.trans F2
 have G5:Fr L w1 w2:=Fr.ext F2
 refine o_alloc zero_api_Errno rfl rfl rfl ?_
 intro b6 w6 e6 F6 B6
 have n6:w.heap.size≤b6:=by rw [e6]; exact E4.size
 have q7:b2<b6:=by rw [e6]; exact B2.lt
 have m8:w1.heap.size≤b6:=by rw [e6]; exact G5.size
 have E9:=E4.trans F6
 refine eo_nil_sq ?_
 iterate 2 refine ec_seq ?_
 refine ec_region ?_
 refine o_w (v:=.int .i64 d1) (r_ld one_int rfl ((S1.fr (G5.trans (Fr.ext F6)) (fun _ h=>h)).now.cell rfl)) ?_
 refine o_w (v:=.bool (decide (d1<(1:Int)))) (r_int rfl rfl rfl) ?_
 refine o_w (v:=.bool (decide (d1<(1:Int)))) (r_mov rfl) ?_
 refine o_vg (v:=.int .i64 d1) (want_cf (t:=11) rfl rfl) (fun hk=>(r_ld one_int rfl ((S1.fr (G5.trans (Fr.ext F6)) (fun _ h=>h)).now.cell rfl))) rfl rfl ?_
 refine o_vg (v:=.bool (decide ((7:Int)<d1))) (want_cf (t:=11) rfl rfl) (fun hk=>(r_int (gdT hk) rfl rfl)) rfl rfl ?_
 refine o_w (v:=.bool ((decide (d1<(1:Int)))||(decide ((7:Int)<d1)))) (r_pickOr rfl rfl (fun hf=>(gdT (notT hf)))) ?_
 refine o_w (v:=.bool ((decide (d1<(1:Int)))||(decide ((7:Int)<d1)))) (r_mov rfl) ?_
 refine o_vg (v:=.int .i64 d0) (want_cf (t:=15) rfl rfl) (fun hk=>(r_mov rfl)) rfl rfl ?_
 refine o_vg (v:=.bool (decide (d0<(0:Int)))) (want_cf (t:=15) rfl rfl) (fun hk=>(r_int (gdT hk) rfl rfl)) rfl rfl ?_
 refine o_w (v:=.bool (((decide (d1<(1:Int)))||(decide ((7:Int)<d1)))||(decide (d0<(0:Int))))) (r_pickOr rfl rfl (fun hf=>(gdT (notT hf)))) ?_
 refine eo_nil_sq ?_
 refine ec_cond rfl (fun hc12=>?_) (fun hc12=>?_)
 ·replace h:=h.1 hc12
  refine ec_seq ?_
  refine ec_region ?_
  refine o_store rfl (B2.ex F6) (vs:=[str ([]:Str)]) rfl sz_string rfl rfl rfl ?_
  intro w13 F13 B13
  have E14:=Ext.st E9 F13 (by simp; omega)
  have B16:=B6.fr F13 (by simp; omega)
  have B13':Blk w13 b2 _ [str ([]:Str)]:=B13
  refine o_store rfl B16 (vs:=[.int .i64 (1:Int)]) rfl sz_api_Errno rfl rfl rfl ?_
  intro w17 F17 B17
  have E18:=Ext.st E14 F17 (by simp; omega)
  have B20:=B13'.fr F17 (by simp; omega)
  have B17':Blk w17 b6 _ [.int .i64 (1:Int)]:=B17
  refine eo_nil_sq ?_
  refine ec_ret ?_
  refine sq_ret ?_
  subst h
  exact marks0 ((endr2 (rv_c rfl (one_string) B20 rfl) (rv_c rfl (one_api_Errno) B17' rfl) ⟨_,rfl,E18,rfl⟩))
 ·replace h:=h.2 hc12
  refine ec_skip ?_
  refine sq_n ?_
  refine ec_seq ?_
  refine ec_region ?_
  refine o_w (v:=.int .i64 d1) (r_ld one_int rfl ((S1.fr (G5.trans (Fr.ext F6)) (fun _ h=>h)).now.cell rfl)) ?_
  have lo21:w.heap.size≤w6.heap.size:=E9.size
  obtain ⟨ha22,h⟩:=h
  refine o_make (k:=(kI .u8)) slc_s_uint8 rfl rfl (z:=(0:Int)) (fun _=>rfl) rfl rfl ha22 (((hL.fr E9).cons (B2.ex F6).lt).cons B6.lt) rfl rfl (by decide) ?_
  intro v21 w21 F21 O21 N21
  have P23:∀ m∈own v21,m∈L∨w1.heap.size≤m:=fun m hm=>.inr (Nat.le_trans ((G5.trans (Fr.ext F6)).size) (N21 m hm))
  have E24:=E9.trans F21
  refine o_alloc zero_s_uint8 rfl rfl rfl ?_
  intro b28 w28 e28 F28 B28
  have n28:w.heap.size≤b28:=by rw [e28]; exact E24.size
  have q29:b2<b28:=by rw [e28]; exact ((B2.ex F6).ex F21).lt
  have q30:b6<b28:=by rw [e28]; exact (B6.ex F21).lt
  have m31:w1.heap.size≤b28:=by rw [e28]; exact ((G5.trans (Fr.ext F6)).trans (Fr.ext F21)).size
  have Ob32:=O21.born F28 (Nat.le_of_eq e28.symm) B28.lt
  have E33:=E24.trans F28
  obtain ⟨A38,c39,rfl⟩:=Ob32.shape
  refine o_store rfl B28 (vs:=[(.slice A38 (List.replicate (d1).toNat (0:Int)).length c39)]) rfl sz_s_uint8 rfl rfl rfl ?_
  intro w40 F40 B40
  have E41:=Ext.st E33 F40 (by simp; omega)
  have G42:Fr L w1 w40:=(((G5.trans (Fr.ext F6)).trans (Fr.ext F21)).trans (Fr.ext F28)).stp F40 (upc (.inr m31) (fun m hm=>by cases hm))
  have B43:=(((B2.ex F6).ex F21).ex F28).fr F40 (by simp; omega)
  have B44:=((B6.ex F21).ex F28).fr F40 (by simp; omega)
  have O45:=Ob32.fr F40 (by simp)
  have B40':Blk w40 b28 _ [(.slice A38 (List.replicate (d1).toNat (0:Int)).length c39)]:=B40
  refine eo_nil_sq ?_
  iterate 2 refine ec_seq ?_
  refine ec_region ?_
  refine o_w (v:=.int .i64 d0) (r_mov rfl) ?_
  refine o_w (v:=.int .i64 d1) (r_ld one_int rfl ((S1.fr G42 (fun _ h=>h)).now.cell rfl)) ?_
  refine o_inl (vs:=[.int .i64 d0,.int .i64 d1]) (caps:=[]) cf_octet_parts rfl rfl rfl rfl ?_
  refine calls_ec Try.func64 rfl rfl rfl ?_
  refine ec_seq ?_
  refine ec_region ?_
  refine o_box (cs:=[.int .i64 d0]) rfl rfl rfl ?_
  intro b46 w46 e46 F46 B46
  have n46:w.heap.size≤b46:=by rw [e46]; exact E41.size
  have q47:b2<b46:=by rw [e46]; exact B43.lt
  have q48:b6<b46:=by rw [e46]; exact B44.lt
  have q49:b28<b46:=by rw [e46]; exact B40'.lt
  have m50:w1.heap.size≤b46:=by rw [e46]; exact G42.size
  have Ob51:=O45.born F46 (Nat.le_of_eq e46.symm) B46.lt
  have E52:=E41.trans F46
  refine o_box (cs:=[.int .i64 d1]) rfl rfl rfl ?_
  intro b58 w58 e58 F58 B58
  have S58:=B58.stb (nin ((((((hL.fr E52).cons (B43.ex F46).lt).cons (B44.ex F46).lt).own Ob51).cons (B40'.ex F46).lt).cons B46.lt) e58)
  have E59:=E52.trans F58
  refine o_w (v:=.nilFunc) (r_asg rfl) ?_
  refine eo_nil_sq ?_
  refine ec_seq ?_
  refine ec_region ?_
  refine o_w (r_mkfn' (vs:=[.pointer (some ⟨b58,0,none⟩),.pointer (some ⟨b46,0,none⟩)]) rfl) ?_
  refine o_w (v:=.func (.func 67) #[] #[.pointer (some ⟨b58,0,none⟩),.pointer (some ⟨b46,0,none⟩)]) (r_asg rfl) ?_
  refine eo_nil_sq ?_
  refine ec_ret ?_
  refine end1 (v:=.func (.func 67) #[] #[.pointer (some ⟨b58,0,none⟩),.pointer (some ⟨b46,0,none⟩)]) rfl ⟨_,rfl,?_⟩
  refine eo_nil_sq ?_
  refine ec_block ?_
  obtain ⟨ha67,h⟩:=h
  refine ec_range (ps:=[24,25]) (gf:=67) (lb:=[.pointer (some ⟨b58,0,none⟩),.pointer (some ⟨b46,0,none⟩)]) rfl cf_octet_parts_1 ?_
  intro D66 l66 rec66 w66 eD66 e66 hr66 F66 BD66 BL66
  have n66:w.heap.size≤D66:=by rw [eD66]; exact E59.size
  have nl66:w.heap.size≤l66:=by omega
  have nd66:D66<l66:=by omega
  have q68:b2<D66:=by rw [eD66]; exact ((B43.ex F46).ex F58).lt
  have q69:b6<D66:=by rw [eD66]; exact ((B44.ex F46).ex F58).lt
  have q70:b28<D66:=by rw [eD66]; exact ((B40'.ex F46).ex F58).lt
  have q71:b46<D66:=by rw [eD66]; exact (B46.ex F58).lt
  have m72:w1.heap.size≤D66:=by rw [eD66]; exact ((G42.trans (Fr.ext F46)).trans (Fr.ext F58)).size
  have m73:w1.heap.size≤l66:=by omega
  have m74:w58.heap.size≤D66:=Nat.le_of_eq eD66.symm
  have m75:w58.heap.size≤l66:=by omega
  have Ob76:=(Ob51.ex F58).born2 F66 (Nat.le_of_eq eD66.symm) BD66.lt (show _≤l66 by omega) BL66.lt
  have E77:=E59.trans F66
  have G79:Fr (b46::(b28::(own (.slice A38 (List.replicate (d1).toNat (0:Int)).length c39)++(b6::(b2::L))))) w58 w66:=Fr.ext F66
  obtain ⟨x66,hl66,h⟩:=h
  refine range_run (S:=List Int × Str × Int) (R:=List Int × Str × Int) (parts_it d1 (S58.up G79 (fun _ h=>h) (upc (.inr m75) (upc (.inr m74) (upc (.inl (List.Mem.head _)) (upc (.inl (List.Mem.tail _ (List.Mem.head _))) (upo (fun m hm=>Or.inl (List.Mem.tail _ (List.Mem.tail _ (List.mem_append_left _ hm)))) (upc (.inl (List.Mem.tail _ (List.Mem.tail _ (List.mem_append_right _ (List.Mem.head _))))) (upc (.inl (List.Mem.tail _ (List.Mem.tail _ (List.mem_append_right _ (List.Mem.tail _ (List.Mem.head _)))))) (fun m hm=>Or.inl (List.Mem.tail _ (List.Mem.tail _ (List.mem_append_right _ (List.Mem.tail _ (List.Mem.tail _ hm)))))))))))))) d0 ((B46.ex F58).ex F66) (List.Mem.tail _ (List.Mem.tail _ (List.Mem.head _))) ((((((((hL.fr E77).cons (((B43.ex F46).ex F58).ex F66).lt).cons (((B44.ex F46).ex F58).ex F66).lt).own Ob76).cons (((B40'.ex F46).ex F58).ex F66).lt).cons ((B46.ex F58).ex F66).lt).cons BD66.lt).cons BL66.lt) ha67) (fun (s66:List Int × Str × Int) T w'=>T=(l66::(D66::(b28::(own (.slice A38 (List.replicate (d1).toNat (0:Int)).length c39)++(b6::(b2::L))))))∧Fr (l66::(D66::(b46::(b28::(own (.slice A38 (List.replicate (d1).toNat (0:Int)).length c39)++(b6::(b2::L))))))) w66 w'∧Ext w w'∧OwnS (kI .u8) (w6.heap.size) 5 (l66::(D66::(b46::(b28::(b6::(b2::L)))))) w' (.slice A38 (List.replicate (d1).toNat (0:Int)).length c39) s66.1∧Blk w' b2 9 [str s66.2.1]∧Blk w' b28 44 [(.slice A38 (List.replicate (d1).toNat (0:Int)).length c39)]∧Blk w' b6 30 [.int .i64 s66.2.2]∧Lp w' D66 (.deferred (some []))∧Lp w' l66 (.loop (rec66 .ready none))) (fun (s66:List Int × Str × Int) w'=>Fr (l66::(D66::(b46::(b28::(own (.slice A38 (List.replicate (d1).toNat (0:Int)).length c39)++(b6::(b2::L))))))) w66 w'∧Ext w w'∧OwnS (kI .u8) (w6.heap.size) 5 (l66::(D66::(b46::(b28::(b6::(b2::L)))))) w' (.slice A38 (List.replicate (d1).toNat (0:Int)).length c39) s66.1∧Blk w' b2 9 [str s66.2.1]∧Blk w' b28 44 [(.slice A38 (List.replicate (d1).toNat (0:Int)).length c39)]∧Blk w' b6 30 [.int .i64 s66.2.2]∧Lp w' D66 (.deferred (some []))∧Lp w' l66 (.loop (rec66 .done (some .ret)))) hl66 ((l66::(D66::(b28::(own (.slice A38 (List.replicate (d1).toNat (0:Int)).length c39)++(b6::(b2::L))))))) (upc (List.Mem.head _) (upc (List.Mem.tail _ (List.Mem.head _)) (upc (List.Mem.tail _ (List.Mem.tail _ (List.Mem.tail _ (List.Mem.head _)))) (upo (fun m hm=>(List.Mem.tail _ (List.Mem.tail _ (List.Mem.tail _ (List.Mem.tail _ (List.mem_append_left _ hm)))))) (upc (List.Mem.tail _ (List.Mem.tail _ (List.Mem.tail _ (List.Mem.tail _ (List.mem_append_right _ (List.Mem.head _)))))) (upc (List.Mem.tail _ (List.Mem.tail _ (List.Mem.tail _ (List.Mem.tail _ (List.mem_append_right _ (List.Mem.tail _ (List.Mem.head _))))))) (fun m hm=>(List.Mem.tail _ (List.Mem.tail _ (List.Mem.tail _ (List.Mem.tail _ (List.mem_append_right _ (List.Mem.tail _ (List.Mem.tail _ hm)))))))))))))) (fun m hm hT=>(show ∀ x∈(l66::(D66::(b28::(own (.slice A38 (List.replicate (d1).toNat (0:Int)).length c39)++(b6::(b2::L)))))),x≠b46 from (upc (by omega) (upc (by omega) (upc (by omega) (upo (fun m hm e=>(Ob76.below b46 (by simp)).2 (e ▸ hm)) (upc (by omega) (upc (by omega) (fun q hq e=>by have:=hL q hq; omega)))))))) m hT (by rw [List.mem_singleton] at hm; exact hm)) ⟨rfl,(Fr.refl _ _),E77,Ob76,(((B43.ex F46).ex F58).ex F66),(((B40'.ex F46).ex F58).ex F66),(((B44.ex F46).ex F58).ex F66),BD66,BL66⟩ (fun _ _ w' w'' h f=>by obtain ⟨rfl,F,E,O66i1,B66ib2,B66ib28,B66ib6,B66iD66,B66il66⟩:=h; exact ⟨rfl,F.trans (f.mono (by simp)),Ext.st E f (by simp; omega),O66i1.fr f (by simp),B66ib2.fr f (by simp; omega),B66ib28.fr f (by simp; omega),B66ib6.fr f (by simp; omega),B66iD66.fr f (by simp; omega),B66il66.fr f (by simp; omega)⟩) (fun _ w' w'' h f=>by obtain ⟨F,E,O66i1,B66ib2,B66ib28,B66ib6,B66iD66,B66il66⟩:=h; exact ⟨F.trans (f.mono (by simp)),Ext.st E f (by simp; omega),O66i1.fr f (by simp),B66ib2.fr f (by simp; omega),B66ib28.fr f (by simp; omega),B66ib6.fr f (by simp; omega),B66iD66.fr f (by simp; omega),B66il66.fr f (by simp; omega)⟩) (fun _ _ w' h=>by obtain ⟨rfl,F,E,O66i1,B66ib2,B66ib28,B66ib6,B66iD66,B66il66⟩:=h; exact (((((((hL.fr E).cons B66ib2.lt).cons B66ib6.lt).own O66i1).cons B66ib28.lt).cons B66iD66.lt).cons B66il66.lt)) ?_ ?_ ?_
  ·intro s66 y66 z66 T66 w66r vs66 hI66 hX66 hb66
   obtain ⟨rfl,F66r,E66r,O66r1,B66rb2,B66rb28,B66rb6,B66rD66,B66rl66⟩:=hI66
   have h:=hb66
   unfold octet_Put_b66 at h
   have G85:Fr L w1 w66r:=(((G42.trans (Fr.ext F46)).trans (Fr.ext F58)).trans (Fr.ext F66)).stp F66r (upc (.inr m73) (upc (.inr m72) (upc (.inr m50) (upc (.inr m31) (upo P23 (upc (.inr m8) (upc (.inr m3) (fun _ h=>.inl h))))))))
   obtain rfl:=hX66
   refine range_round (ps:=[24,25]) hr66 B66rl66 rfl rfl ?_
   refine ec_seq ?_
   refine ec_region ?_
   refine o_w (v:=.int .i64 y66.1) (r_asg rfl) ?_
   refine eo_nil_sq ?_
   refine ec_region ?_
   refine o_w (v:=.int .i64 y66.2) (r_asg rfl) ?_
   refine eo_nil ?_
   refine ⟨rfl,rfl,B66rl66,fun w87 F88 BL89=>?_⟩
   have E90:=Ext.st E66r F88 (by simp; omega)
   have G91:Fr L w1 w87:=G85.stp F88 (upc (.inr m73) (fun m hm=>by cases hm))
   have G93:Fr (l66::(D66::(b46::(b28::(own (.slice A38 (List.replicate (d1).toNat (0:Int)).length c39)++(b6::(b2::L))))))) w66 w87:=F66r.stp F88 (upc (.inl (List.Mem.head _)) (fun m hm=>by cases hm))
   have G94:Fr (l66::(D66::(b28::(own (.slice A38 (List.replicate (d1).toNat (0:Int)).length c39)++(b6::(b2::L)))))) w66r w87:=(Fr.refl _ _).stp F88 (upc (.inl (List.Mem.head _)) (fun m hm=>by cases hm))
   have B95:=B66rb2.fr F88 (by simp; omega)
   have B96:=B66rb6.fr F88 (by simp; omega)
   have B97:=B66rb28.fr F88 (by simp; omega)
   have B98:=B66rD66.fr F88 (by simp; omega)
   have O99:=O66r1.fr F88 (by simp)
   refine ec_block ?_
   refine ec_seq ?_
   refine ec_region ?_
   refine o_w (v:=.int .i64 y66.1) (r_mov rfl) ?_
   refine o_w (v:=.int .i64 d1) (r_ld one_int rfl ((S1.fr G91 (fun _ h=>h)).now.cell rfl)) ?_
   refine o_w (v:=.bool (decide (y66.1<d1))) (r_int rfl rfl rfl) ?_
   refine eo_nil_sq ?_
   refine ec_cond rfl (fun hc100=>?_) (fun hc100=>?_)
   ·replace h:=h.1 hc100
    refine ec_region ?_
    refine o_w (v:=(.slice A38 (List.replicate (d1).toNat (0:Int)).length c39)) (r_ld one_s_uint8 rfl (B97.cell rfl)) ?_
    refine o_w (v:=.int .i64 y66.1) (r_mov rfl) ?_
    refine o_w (v:=.int .i64 y66.2) (r_mov rfl) ?_
    refine o_w (v:=.int .u8 (IntKind.u8.wrap y66.2)) (r_conv un_int un_uint8 rfl) ?_
    obtain ⟨hn104,H103⟩:=O99.stillAt
    have Zanc105:=Fr.refl (l66::(D66::(b46::(b28::(b6::(b2::L)))))) w87
    obtain ⟨ha107,h⟩:=h
    obtain ⟨cs108,l110,H109⟩:=Stb.elem (by decide) (H103.fr Zanc105 (fun _ h=>h)) y66.1 ha107.1 ha107.2
    obtain ⟨rfl,H109'⟩:=kI_open2 H109
    refine o_w (r_ia slc_s_uint8 rfl rfl ((H103.fr Zanc105 (fun _ h=>h)).now.2 _ (lt_toNat ha107.1 ha107.2)).1 ha107.1 (hn104 ▸ ha107.2)) ?_
    refine o_ostore2 (by first | exact hn104 | (simp only [List.length_set]; exact hn104)) rfl O99 ha107.1 (hn104 ▸ ha107.2) rfl (vs:=[.int .u8 (IntKind.u8.wrap y66.2)]) sz_uint8 rfl rfl (x:=(IntKind.u8.wrap y66.2)) (fun _ _=>rfl) rfl ?_
    intro w111 F111 O111
    have E112:=Ext.st E90 F111 (fun m hm=>Nat.le_trans lo21 (O99.lo m hm))
    have G115:Fr (l66::(D66::(b46::(b28::(own (.slice A38 (List.replicate (d1).toNat (0:Int)).length c39)++(b6::(b2::L))))))) w66 w111:=G93.stp F111 (fun m hm=>.inl (List.Mem.tail _ (List.Mem.tail _ (List.Mem.tail _ (List.Mem.tail _ (List.mem_append_left _ hm))))))
    have G116:Fr (l66::(D66::(b28::(own (.slice A38 (List.replicate (d1).toNat (0:Int)).length c39)++(b6::(b2::L)))))) w66r w111:=G94.stp F111 (fun m hm=>.inl (List.Mem.tail _ (List.Mem.tail _ (List.Mem.tail _ (List.mem_append_left _ hm)))))
    have B119:=B95.fr F111 (fun hm=>(O99.below b2 (by simp)).2 hm)
    have B120:=B96.fr F111 (fun hm=>(O99.below b6 (by simp)).2 hm)
    have B121:=B97.fr F111 (fun hm=>(O99.below b28 (by simp)).2 hm)
    have B122:=BL89.fr F111 (fun hm=>(O99.below l66 (by simp)).2 hm)
    have B123:=B98.fr F111 (fun hm=>(O99.below D66 (by simp)).2 hm)
    refine eo_nil ?_
    refine blk_n ?_
    subst h
    refine ⟨none,rfl,B122,fun w124 F125 BL126=>?_⟩
    have E127:=Ext.st E112 F125 (by simp; omega)
    have G130:Fr (l66::(D66::(b46::(b28::(own (.slice A38 (List.replicate (d1).toNat (0:Int)).length c39)++(b6::(b2::L))))))) w66 w124:=G115.stp F125 (upc (.inl (List.Mem.head _)) (fun m hm=>by cases hm))
    have G131:Fr (l66::(D66::(b28::(own (.slice A38 (List.replicate (d1).toNat (0:Int)).length c39)++(b6::(b2::L)))))) w66r w124:=G116.stp F125 (upc (.inl (List.Mem.head _)) (fun m hm=>by cases hm))
    have B133:=B119.fr F125 (by simp; omega)
    have B134:=B120.fr F125 (by simp; omega)
    have B135:=B121.fr F125 (by simp; omega)
    have B136:=B123.fr F125 (by simp; omega)
    have O137:=O111.fr F125 (by simp)
    exact ⟨rfl,_,⟨rfl,G130,E127,O137,B133,B135,B134,B136,BL126⟩,G131,(upc (.inl (List.Mem.head _)) (upc (.inl (List.Mem.tail _ (List.Mem.head _))) (upc (.inl (List.Mem.tail _ (List.Mem.tail _ (List.Mem.head _)))) (upo (fun m hm=>Or.inl (List.Mem.tail _ (List.Mem.tail _ (List.Mem.tail _ (List.mem_append_left _ hm))))) (upc (.inl (List.Mem.tail _ (List.Mem.tail _ (List.Mem.tail _ (List.mem_append_right _ (List.Mem.head _)))))) (upc (.inl (List.Mem.tail _ (List.Mem.tail _ (List.Mem.tail _ (List.mem_append_right _ (List.Mem.tail _ (List.Mem.head _))))))) (fun m hm=>Or.inl (List.Mem.tail _ (List.Mem.tail _ (List.Mem.tail _ (List.mem_append_right _ (List.Mem.tail _ (List.Mem.tail _ hm)))))))))))))⟩
   ·replace h:=h.2 hc100
    refine ec_seq ?_
    refine ec_region ?_
    refine o_w (v:=.int .i64 y66.2) (r_mov rfl) ?_
    refine o_w (v:=.bool (decide ((0:Int)<y66.2))) (r_int rfl rfl rfl) ?_
    refine eo_nil_sq ?_
    refine ec_cond rfl (fun hc138=>?_) (fun hc138=>?_)
    ·replace h:=h.1 hc138
     refine ec_seq ?_
     refine ec_region ?_
     refine o_store rfl B95 (vs:=[str ([]:Str)]) rfl sz_string rfl rfl rfl ?_
     intro w139 F139 B139
     have E140:=Ext.st E90 F139 (by simp; omega)
     have G143:Fr (l66::(D66::(b46::(b28::(own (.slice A38 (List.replicate (d1).toNat (0:Int)).length c39)++(b6::(b2::L))))))) w66 w139:=G93.stp F139 (upc (.inl (List.Mem.tail _ (List.Mem.tail _ (List.Mem.tail _ (List.Mem.tail _ (List.mem_append_right _ (List.Mem.tail _ (List.Mem.head _)))))))) (fun m hm=>by cases hm))
     have B145:=B96.fr F139 (by simp; omega)
     have B146:=B97.fr F139 (by simp; omega)
     have B147:=BL89.fr F139 (by simp; omega)
     have B148:=B98.fr F139 (by simp; omega)
     have O149:=O99.fr F139 (by simp)
     have B139':Blk w139 b2 _ [str ([]:Str)]:=B139
     refine o_store rfl B145 (vs:=[.int .i64 (1:Int)]) rfl sz_api_Errno rfl rfl rfl ?_
     intro w150 F150 B150
     have E151:=Ext.st E140 F150 (by simp; omega)
     have G154:Fr (l66::(D66::(b46::(b28::(own (.slice A38 (List.replicate (d1).toNat (0:Int)).length c39)++(b6::(b2::L))))))) w66 w150:=G143.stp F150 (upc (.inl (List.Mem.tail _ (List.Mem.tail _ (List.Mem.tail _ (List.Mem.tail _ (List.mem_append_right _ (List.Mem.head _))))))) (fun m hm=>by cases hm))
     have B156:=B139'.fr F150 (by simp; omega)
     have B157:=B146.fr F150 (by simp; omega)
     have B158:=B147.fr F150 (by simp; omega)
     have B159:=B148.fr F150 (by simp; omega)
     have O160:=O149.fr F150 (by simp)
     have B150':Blk w150 b6 _ [.int .i64 (1:Int)]:=B150
     refine eo_nil_sq ?_
     refine ec_ret ?_
     refine blk_ret ?_
     subst h
     refine ⟨some .ret,rfl,B158,fun w161 F162 BL163=>?_⟩
     have E164:=Ext.st E151 F162 (by simp; omega)
     have G167:Fr (l66::(D66::(b46::(b28::(own (.slice A38 (List.replicate (d1).toNat (0:Int)).length c39)++(b6::(b2::L))))))) w66 w161:=G154.stp F162 (upc (.inl (List.Mem.head _)) (fun m hm=>by cases hm))
     have B169:=B156.fr F162 (by simp; omega)
     have B170:=B150'.fr F162 (by simp; omega)
     have B171:=B157.fr F162 (by simp; omega)
     have B172:=B159.fr F162 (by simp; omega)
     have O173:=O160.fr F162 (by simp)
     exact ⟨rfl,⟨G167,E164,O173,B169,B171,B170,B172,BL163⟩⟩
    ·replace h:=h.2 hc138
     refine ec_skip ?_
     refine blk_n ?_
     subst h
     refine ⟨none,rfl,BL89,fun w174 F175 BL176=>?_⟩
     have E177:=Ext.st E90 F175 (by simp; omega)
     have G180:Fr (l66::(D66::(b46::(b28::(own (.slice A38 (List.replicate (d1).toNat (0:Int)).length c39)++(b6::(b2::L))))))) w66 w174:=G93.stp F175 (upc (.inl (List.Mem.head _)) (fun m hm=>by cases hm))
     have G181:Fr (l66::(D66::(b28::(own (.slice A38 (List.replicate (d1).toNat (0:Int)).length c39)++(b6::(b2::L)))))) w66r w174:=G94.stp F175 (upc (.inl (List.Mem.head _)) (fun m hm=>by cases hm))
     have B182:=B95.fr F175 (by simp; omega)
     have B183:=B96.fr F175 (by simp; omega)
     have B184:=B97.fr F175 (by simp; omega)
     have B185:=B98.fr F175 (by simp; omega)
     have O186:=O99.fr F175 (by simp)
     exact ⟨rfl,_,⟨rfl,G180,E177,O186,B182,B184,B183,B185,BL176⟩,G181,(upc (.inl (List.Mem.head _)) (upc (.inl (List.Mem.tail _ (List.Mem.head _))) (upc (.inl (List.Mem.tail _ (List.Mem.tail _ (List.Mem.head _)))) (upo (fun m hm=>Or.inl (List.Mem.tail _ (List.Mem.tail _ (List.Mem.tail _ (List.mem_append_left _ hm))))) (upc (.inl (List.Mem.tail _ (List.Mem.tail _ (List.Mem.tail _ (List.mem_append_right _ (List.Mem.head _)))))) (upc (.inl (List.Mem.tail _ (List.Mem.tail _ (List.Mem.tail _ (List.mem_append_right _ (List.Mem.tail _ (List.Mem.head _))))))) (fun m hm=>Or.inl (List.Mem.tail _ (List.Mem.tail _ (List.Mem.tail _ (List.mem_append_right _ (List.Mem.tail _ (List.Mem.tail _ hm)))))))))))))⟩
  ·rintro sx66 rfl T66 w66e v66 hI66
   replace h:=h.1 _ rfl
   obtain ⟨rfl,F66e,E66e,O66e1,B66eb2,B66eb28,B66eb6,B66eD66,B66el66⟩:=hI66
   refine ⟨⟨_,rfl⟩,none,B66el66,fun w189 F190=>?_⟩
   have E191:=Ext.st E66e F190 (by simp; omega)
   have B194:=B66eb2.fr F190 (by simp; omega)
   have B195:=B66eb6.fr F190 (by simp; omega)
   have B196:=B66eb28.fr F190 (by simp; omega)
   have B197:=B66eD66.fr F190 (by simp; omega)
   have O198:=O66e1.fr F190 (by simp)
   refine blk_n ?_
   refine sq_n ?_
   refine ec_seq ?_
   refine ec_region ?_
   refine o_w (v:=(.slice A38 (List.replicate (d1).toNat (0:Int)).length c39)) (r_ld one_s_uint8 rfl (B196.cell rfl)) ?_
   obtain ⟨hn202,H201⟩:=O198.stillAt
   try rw [← hn202]
   have Zw189_203:=Fr.refl (l66::(D66::(b46::(b28::(b6::(b2::L)))))) w189
   refine o_w (v:=str (bstr sx66.1)) (r_bstr slc_s_uint8 un_uint8 un_string rfl (H201.fr Zw189_203 (fun _ h=>h)).now) ?_
   refine o_store rfl B194 (vs:=[str (bstr sx66.1)]) rfl sz_string rfl rfl rfl ?_
   intro w206 F206 B206
   have E207:=Ext.st E191 F206 (by simp; omega)
   have B211:=B195.fr F206 (by simp; omega)
   have B213:=B197.fr F206 (by simp; omega)
   have B206':Blk w206 b2 _ [str (bstr sx66.1)]:=B206
   refine o_store rfl B211 (vs:=[.int .i64 (0:Int)]) rfl sz_api_Errno rfl rfl rfl ?_
   intro w214 F214 B214
   have E215:=Ext.st E207 F214 (by simp; omega)
   have B219:=B206'.fr F214 (by simp; omega)
   have B221:=B213.fr F214 (by simp; omega)
   have B214':Blk w214 b6 _ [.int .i64 (0:Int)]:=B214
   refine eo_nil_sq ?_
   refine ec_ret ?_
   refine marksS B221 (fun w222 F222=>?_)
   have E223:=Ext.st E215 F222 (by simp; omega)
   have B227:=B219.fr F222 (by simp; omega)
   have B228:=B214'.fr F222 (by simp; omega)
   subst h
   exact marks0 ((endr2 (rv_c rfl (one_string) B227 rfl) (rv_c rfl (one_api_Errno) B228 rfl) ⟨_,rfl,E223,rfl⟩))
  ·rintro yx66 rfl w66q v66 hI66
   replace h:=h.2 _ rfl
   obtain ⟨F66q,E66q,O66q1,B66qb2,B66qb28,B66qb6,B66qD66,B66ql66⟩:=hI66
   refine ⟨⟨_,rfl⟩,(some .ret),B66ql66,fun w232 F233=>?_⟩
   have E234:=Ext.st E66q F233 (by simp; omega)
   have B237:=B66qb2.fr F233 (by simp; omega)
   have B238:=B66qb6.fr F233 (by simp; omega)
   have B240:=B66qD66.fr F233 (by simp; omega)
   refine blk_ret ?_
   refine sq_ret ?_
   refine marksS B240 (fun w242 F242=>?_)
   have E243:=Ext.st E234 F242 (by simp; omega)
   have B246:=B237.fr F242 (by simp; omega)
   have B247:=B238.fr F242 (by simp; omega)
   subst h
   exact marks0 ((endr2 (rv_c rfl (one_string) B246 rfl) (rv_c rfl (one_api_Errno) B247 rfl) ⟨_,rfl,E243,rfl⟩))
end Go.Proofs.Ytbijobepjjokmaa
