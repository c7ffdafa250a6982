import Derived.Test.YtdfjbkoimpjkaaaGreatCt2
import Derived.Test.YtdfjbkoimpjkaaaGreatPi
import Derived.Test.YtdfjbkoimpjkaaaGreatEu
import Derived.Test.YtdfjbkoimpjkaaaGreatCu2
import Derived.Test.YtdfjbkoimpjkaaaGreatEs
namespace Go.Proofs.YtdfjbkoimpjkaaaGreat
open Go Go.RowKit
set_option linter.unusedVariables false
set_option linter.unusedSimpArgs false

instance:DecidableEq Nm:=fun a b=>decidable_of_iff (a.kind=b.kind∧a.key=b.key) ⟨fun h=>by cases a; cases b; simp at h; simp [h],fun h=>by rw [h]; exact ⟨rfl,rfl⟩⟩
def smB (b:Buf):Prop:=b.names.length≤1000000
def smN (b:Buf):Prop:=b.names.length≤100000

def lo8 (n:Int):Int:=(IntKind.i64.wrap ((BitVec.ofInt IntKind.i64.bits n &&& BitVec.ofInt IntKind.i64.bits (255:Int)).toNat:Int))
def sh8 (n:Int):Int:=(Int.fdiv n (2 ^ min ((8:Int)).toNat IntKind.i64.bits))
def partsF:Nat→Int→Int→List (Int × Int)
 | 0,i,n=>[(i,n)]
 | k + 1,i,n=>(i,lo8 n)::partsF k (i + 1) (sh8 n)
def partsL (n w:Int):List (Int × Int):=partsF w.toNat 0 n

theorem parts_ev (w n:Int) (h:0≤w∧w≤7):octet_parts_1_raw w n (partsL n w):=by
 obtain ⟨x,hx,hp⟩:=loop_run (body:=octet_parts_1_b1 w) (fun s=>(w - s.1).toNat) (fun s=>∃ (k i:Nat) (m:Int),k + i=w.toNat∧s=((i:Int),m,partsF k (i:Int) m)) (fun x=>∃ m,x=.inl (w,m,[(w,m)])) (by
  rintro s ⟨k,i,m,hk,rfl⟩
  cases k with
  | zero =>
   have e:(i:Int)=w:=by omega
   refine .inr ⟨.inl ((i:Int),m,[((i:Int),m)]),⟨fun c=>by simp at c; omega,fun _=>rfl⟩,m,by rw [e]⟩
  | succ k =>
   refine .inl ⟨(((i + 1:Nat):Int),sh8 m,partsF k ((i + 1:Nat):Int) (sh8 m)),⟨fun _=>⟨partsF k ((i:Int) + 1) (sh8 m),rfl,?_,trivial⟩,fun c=>by simp at c; omega⟩,⟨k,i + 1,sh8 m,by omega,rfl⟩,by simp; omega⟩
   have e:IntKind.i64.wrap ((i:Int) + (1:Int))=((i + 1:Nat):Int):=wrapS (n:=i + 1) (by omega) (by omega)
   show _=Sum.inl (IntKind.i64.wrap ((i:Int) + (1:Int)),sh8 m,_)
   rw [e]; rfl) ((0:Int),n,partsL n w) ⟨w.toNat,0,n,by omega,rfl⟩
 obtain ⟨m,rfl⟩:=hp
 refine ⟨_,hx,fun s e=>?_,fun _ _=>trivial⟩
 cases e
 exact ⟨[],rfl,rfl,trivial⟩
theorem parts_it {L:List Nat} {w:World} {bP1:Nat} (d1:Int) (HB1:Stb L w (fun w=>Blk w bP1 3 [.int .i64 d1])) {bP2:Nat} (d2:Int) (HB2:Blk w bP2 3 [.int .i64 d2]) (hpbP2:bP2∈L) (hL:Lt L w) (h:0≤d1∧d1≤7) :
  IterCP Tryz.prog 96 [.pointer (some ⟨bP1,0,none⟩),.pointer (some ⟨bP2,0,none⟩)] (partsL d2 d1) octet_parts_1_X L [bP2] w:=octet_parts_1_it d1 HB1 d2 HB2 hpbP2 hL (parts_ev d1 d2 h)
def octet_Put_b66 (d1:Int) (s66:List Int × Str × Int) (y66:(Int × Int)) (z66:(List Int × Str × Int) ⊕ (List Int × Str × Int)):Prop :=
 ((decide (y66.1<d1))=true→((0≤y66.1∧y66.1<(s66.1.length:Int))∧(z66=.inl ((s66.1.set y66.1.toNat (IntKind.u8.wrap y66.2)),s66.2.1,s66.2.2))))∧((decide (y66.1<d1))=false→(((decide (0<y66.2))=true→(z66=.inr (s66.1,([]:Str),(1:Int))))∧((decide (0<y66.2))=false→(z66=.inl (s66.1,s66.2.1,s66.2.2)))))
def octet_Put_raw (d0:Int) (d1:Int) (y:Str × Int):Prop :=
 ((((decide (d1<1))||(decide (7<d1)))||(decide (d0<0)))=true→(y=(([]:Str),(1:Int))))∧((((decide (d1<1))||(decide (7<d1)))||(decide (d0<0)))=false→((0≤d1∧d1 * 1≤281474976710656∧d1≤9223372036854775807)∧(((0≤d1∧d1≤7))∧(∃ x66,ItR (octet_Put_b66 d1) ((List.replicate (d1).toNat (0:Int)),([]:Str),(0:Int)) (partsL d0 d1) x66∧(∀ sx66,x66=.inl sx66→(y=((bstr sx66.1),(0:Int))))∧(∀ yx66,x66=.inr yx66→(y=(yx66.2.1,yx66.2.2)))))))
set_option maxRecDepth 20000 in
set_option maxHeartbeats 4000000 in
theorem octet_Put_c {L:List Nat} {w:World} (d0:Int) (d1:Int) (hL:Lt L w) {y:Str × Int} (h:octet_Put_raw d0 d1 y) :
  Calls Tryz.prog 54 [.int .i64 d0,.int .i64 d1].toArray w (Ret fun v w'=>Ext w w'∧v=.tuple #[str y.1,.int .i64 y.2]):=by
 unfold octet_Put_raw at h
 refine calls_ecM Tryz.func54 rfl rfl rfl ?_
 refine ec_sr ?_
 refine o_box (cs:=[.int .i64 d1]) rfl rfl rfl ?_
 intro b1 w1 e1 F1 B1
 have S1:=B1.stb (nin hL e1)
 refine o_alloc zero_string rfl rfl rfl ?_
 intro b2 w2 e2 F2 B2
 have n2:w.heap.size≤b2:=by rw [e2]; exact F1.size
 have m3:w1.heap.size≤b2:=Nat.le_of_eq e2.symm
 have E4:=F1.trans F2
 have G5:Fr L w1 w2:=Fr.ext F2
 refine o_alloc zero_api_Errno rfl rfl rfl ?_
 intro b6 w6 e6 F6 B6
 have n6:w.heap.size≤b6:=by rw [e6]; exact E4.size
 have q7:b2<b6:=by rw [e6]; exact B2.lt
 have m8:w1.heap.size≤b6:=by rw [e6]; exact G5.size
 have E9:=E4.trans F6
 refine eo_nil_sq ?_
 refine ec_seq ?_
 refine ec_sr ?_
 refine o_w (v:=.int .i64 d1) (r_ld one_int rfl ((S1.fr (G5.trans (Fr.ext F6)) sI).now.cell rfl)) ?_
 refine o_w (v:=.bool (decide (d1<1))) (r_int rfl rfl rfl) ?_
 refine o_w (v:=.bool (decide (d1<1))) (r_mov rfl) ?_
 refine o_vg (v:=.int .i64 d1) (want_cf (t:=11) rfl rfl) (fun hk=>(r_ld one_int rfl ((S1.fr (G5.trans (Fr.ext F6)) sI).now.cell rfl))) rfl rfl ?_
 refine o_vg (v:=.bool (decide (7<d1))) (want_cf (t:=11) rfl rfl) (fun hk=>(r_int (gdT hk) rfl rfl)) rfl rfl ?_
 refine o_w (v:=.bool ((decide (d1<1))||(decide (7<d1)))) (r_pickOr rfl rfl (fun hf=>(gdT (notT hf)))) ?_
 refine o_w (v:=.bool ((decide (d1<1))||(decide (7<d1)))) (r_mov rfl) ?_
 refine o_vg (v:=.int .i64 d0) (want_cf (t:=15) rfl rfl) (fun hk=>(r_mov rfl)) rfl rfl ?_
 refine o_vg (v:=.bool (decide (d0<0))) (want_cf (t:=15) rfl rfl) (fun hk=>(r_int (gdT hk) rfl rfl)) rfl rfl ?_
 refine o_w (v:=.bool (((decide (d1<1))||(decide (7<d1)))||(decide (d0<0)))) (r_pickOr rfl rfl (fun hf=>(gdT (notT hf)))) ?_
 refine eo_nil_sq ?_
 refine ec_cond rfl (fun hc12=>?_) (fun hc12=>?_)
 ·replace h:=h.1 hc12
  refine ec_sr ?_
  refine o_store rfl (B2.ex F6) (vs:=[str []]) rfl sz_string rfl rfl rfl ?_
  intro w13 F13 B13
  have E14:=Ext.st E9 F13 (by simp; omega)
  have B16:=B6.fr F13 (by simp; omega)
  have B13':Blk w13 b2 _ [str []]:=B13
  refine o_store rfl B16 (vs:=[.int .i64 1]) rfl sz_api_Errno rfl rfl rfl ?_
  intro w17 F17 B17
  have E18:=Ext.st E14 F17 (by simp; omega)
  have B20:=B13'.fr F17 (by simp; omega)
  have B17':Blk w17 b6 _ [.int .i64 1]:=B17
  refine eo_nil_sq ?_
  refine ec_ret ?_
  refine sq_ret ?_
  subst h
  exact marks0 ((endr2 (rv_c rfl (one_string) B20 rfl) (rv_c rfl (one_api_Errno) B17' rfl) ⟨_,rfl,E18,rfl⟩))
 ·replace h:=h.2 hc12
  refine ec_skip ?_
  refine sq_n ?_
  refine ec_sr ?_
  refine o_w (v:=.int .i64 d1) (r_ld one_int rfl ((S1.fr (G5.trans (Fr.ext F6)) sI).now.cell rfl)) ?_
  have lo21:w.heap.size≤w6.heap.size:=E9.size
  obtain ⟨ha22,h⟩:=h
  refine o_make (k:=(kI .u8)) slc_s_uint8 rfl rfl (z:=(0:Int)) (fun _=>rfl) rfl rfl ha22 (((hL.fr E9).cons (B2.ex F6).lt).cons B6.lt) rfl rfl (by decide) ?_
  intro v21 w21 F21 O21 N21
  have P23:∀ m∈own v21,m∈L∨w1.heap.size≤m:=fun m hm=>.inr (Nat.le_trans ((G5.trans (Fr.ext F6)).size) (N21 m hm))
  have E24:=E9.trans F21
  refine o_alloc zero_s_uint8 rfl rfl rfl ?_
  intro b28 w28 e28 F28 B28
  have n28:w.heap.size≤b28:=by rw [e28]; exact E24.size
  have q29:b2<b28:=by rw [e28]; exact ((B2.ex F6).ex F21).lt
  have q30:b6<b28:=by rw [e28]; exact (B6.ex F21).lt
  have m31:w1.heap.size≤b28:=by rw [e28]; exact ((G5.trans (Fr.ext F6)).trans (Fr.ext F21)).size
  have Ob32:=O21.born F28 (Nat.le_of_eq e28.symm) B28.lt
  have E33:=E24.trans F28
  obtain ⟨A38,c39,rfl⟩:=Ob32.shape
  refine o_store rfl B28 (vs:=[(.slice A38 (List.replicate (d1).toNat (0:Int)).length c39)]) rfl sz_s_uint8 rfl rfl rfl ?_
  intro w40 F40 B40
  have E41:=Ext.st E33 F40 (by simp; omega)
  have G42:Fr L w1 w40:=(((G5.trans (Fr.ext F6)).trans (Fr.ext F21)).trans (Fr.ext F28)).stp F40 (upc (.inr m31) (fun m hm=>by cases hm))
  have B43:=(((B2.ex F6).ex F21).ex F28).fr F40 (by simp; omega)
  have B44:=((B6.ex F21).ex F28).fr F40 (by simp; omega)
  have O45:=Ob32.fr F40 (by simp)
  have B40':Blk w40 b28 _ [(.slice A38 (List.replicate (d1).toNat (0:Int)).length c39)]:=B40
  refine eo_nil_sq ?_
  refine ec_seq ?_
  refine ec_sr ?_
  refine o_w (v:=.int .i64 d0) (r_mov rfl) ?_
  refine o_w (v:=.int .i64 d1) (r_ld one_int rfl ((S1.fr G42 sI).now.cell rfl)) ?_
  refine o_inl (vs:=[.int .i64 d0,.int .i64 d1]) (caps:=[]) cf_octet_parts rfl rfl rfl rfl ?_
  refine calls_ec Tryz.func80 rfl rfl rfl ?_
  refine ec_sr ?_
  refine o_box (cs:=[.int .i64 d0]) rfl rfl rfl ?_
  intro b46 w46 e46 F46 B46
  have n46:w.heap.size≤b46:=by rw [e46]; exact E41.size
  have q47:b2<b46:=by rw [e46]; exact B43.lt
  have q48:b6<b46:=by rw [e46]; exact B44.lt
  have q49:b28<b46:=by rw [e46]; exact B40'.lt
  have m50:w1.heap.size≤b46:=by rw [e46]; exact G42.size
  have Ob51:=O45.born F46 (Nat.le_of_eq e46.symm) B46.lt
  have E52:=E41.trans F46
  refine o_box (cs:=[.int .i64 d1]) rfl rfl rfl ?_
  intro b58 w58 e58 F58 B58
  have S58:=B58.stb (nin ((((((hL.fr E52).cons (B43.ex F46).lt).cons (B44.ex F46).lt).own Ob51).cons (B40'.ex F46).lt).cons B46.lt) e58)
  have E59:=E52.trans F58
  refine o_w (v:=.nilFunc) (r_asg rfl) ?_
  refine eo_r ?_
  refine o_w (r_mkfn' (vs:=[.pointer (some ⟨b58,0,none⟩),.pointer (some ⟨b46,0,none⟩)]) rfl) ?_
  refine o_w (v:=.func (.func 96) #[] #[.pointer (some ⟨b58,0,none⟩),.pointer (some ⟨b46,0,none⟩)]) (r_asg rfl) ?_
  refine eo_nil_sq ?_
  refine ec_ret ?_
  refine end1 (v:=.func (.func 96) #[] #[.pointer (some ⟨b58,0,none⟩),.pointer (some ⟨b46,0,none⟩)]) rfl ⟨_,rfl,?_⟩
  refine eo_nil_sq ?_
  refine ec_block ?_
  obtain ⟨ha67,h⟩:=h
  refine ec_range (ps:=[24,25]) (gf:=96) (lb:=[.pointer (some ⟨b58,0,none⟩),.pointer (some ⟨b46,0,none⟩)]) rfl cf_octet_parts_1 ?_
  intro D66 l66 rec66 w66 eD66 e66 hr66 F66 BD66 BL66
  have n66:w.heap.size≤D66:=by rw [eD66]; exact E59.size
  have nl66:w.heap.size≤l66:=by omega
  have nd66:D66<l66:=by omega
  have q68:b2<D66:=by rw [eD66]; exact ((B43.ex F46).ex F58).lt
  have q69:b6<D66:=by rw [eD66]; exact ((B44.ex F46).ex F58).lt
  have q70:b28<D66:=by rw [eD66]; exact ((B40'.ex F46).ex F58).lt
  have q71:b46<D66:=by rw [eD66]; exact (B46.ex F58).lt
  have m72:w1.heap.size≤D66:=by rw [eD66]; exact ((G42.trans (Fr.ext F46)).trans (Fr.ext F58)).size
  have m73:w1.heap.size≤l66:=by omega
  have m74:w58.heap.size≤D66:=Nat.le_of_eq eD66.symm
  have m75:w58.heap.size≤l66:=by omega
  have Ob76:=(Ob51.ex F58).born2 F66 (Nat.le_of_eq eD66.symm) BD66.lt (show _≤l66 by omega) BL66.lt
  have E77:=E59.trans F66
  have G79:Fr (b46::(b28::(own (.slice A38 (List.replicate (d1).toNat (0:Int)).length c39)++(b6::(b2::L))))) w58 w66:=Fr.ext F66
  obtain ⟨x66,hl66,h⟩:=h
  refine range_run (S:=List Int × Str × Int) (R:=List Int × Str × Int) (parts_it d1 (S58.up G79 sI (upc (.inr m75) (upc (.inr m74) (upc (.inl mH) (upc (.inl (mT mH)) (upo (fun m hm=>Or.inl (mT (mT (List.mem_append_left _ hm)))) (upc (.inl (mT (mT (List.mem_append_right _ mH)))) (upc (.inl (mT (mT (List.mem_append_right _ (mT mH))))) (fun m hm=>Or.inl (mT (mT (List.mem_append_right _ (mT (mT hm)))))))))))))) d0 ((B46.ex F58).ex F66) (mT (mT mH)) ((((((((hL.fr E77).cons (((B43.ex F46).ex F58).ex F66).lt).cons (((B44.ex F46).ex F58).ex F66).lt).own Ob76).cons (((B40'.ex F46).ex F58).ex F66).lt).cons ((B46.ex F58).ex F66).lt).cons BD66.lt).cons BL66.lt) ha67) (fun (s66:List Int × Str × Int) T w'=>T=(l66::(D66::(b28::(own (.slice A38 (List.replicate (d1).toNat (0:Int)).length c39)++(b6::(b2::L))))))∧Fr (l66::(D66::(b46::(b28::(own (.slice A38 (List.replicate (d1).toNat (0:Int)).length c39)++(b6::(b2::L))))))) w66 w'∧Ext w w'∧OwnS (kI .u8) (w6.heap.size) 5 (l66::(D66::(b46::(b28::(b6::(b2::L)))))) w' (.slice A38 (List.replicate (d1).toNat (0:Int)).length c39) s66.1∧Blk w' b2 9 [str s66.2.1]∧Blk w' b28 48 [(.slice A38 (List.replicate (d1).toNat (0:Int)).length c39)]∧Blk w' b6 31 [.int .i64 s66.2.2]∧Lp w' D66 (.deferred (some []))∧Lp w' l66 (.loop (rec66 .ready none))) (fun (s66:List Int × Str × Int) w'=>Fr (l66::(D66::(b46::(b28::(own (.slice A38 (List.replicate (d1).toNat (0:Int)).length c39)++(b6::(b2::L))))))) w66 w'∧Ext w w'∧OwnS (kI .u8) (w6.heap.size) 5 (l66::(D66::(b46::(b28::(b6::(b2::L)))))) w' (.slice A38 (List.replicate (d1).toNat (0:Int)).length c39) s66.1∧Blk w' b2 9 [str s66.2.1]∧Blk w' b28 48 [(.slice A38 (List.replicate (d1).toNat (0:Int)).length c39)]∧Blk w' b6 31 [.int .i64 s66.2.2]∧Lp w' D66 (.deferred (some []))∧Lp w' l66 (.loop (rec66 .done (some .ret)))) hl66 ((l66::(D66::(b28::(own (.slice A38 (List.replicate (d1).toNat (0:Int)).length c39)++(b6::(b2::L))))))) (upc mH (upc (mT mH) (upc (mT (mT (mT mH))) (upo (fun m hm=>(mT (mT (mT (mT (List.mem_append_left _ hm)))))) (upc (mT (mT (mT (mT (List.mem_append_right _ mH))))) (upc (mT (mT (mT (mT (List.mem_append_right _ (mT mH)))))) (fun m hm=>(mT (mT (mT (mT (List.mem_append_right _ (mT (mT hm)))))))))))))) (fun m hm hT=>(show ∀ x∈(l66::(D66::(b28::(own (.slice A38 (List.replicate (d1).toNat (0:Int)).length c39)++(b6::(b2::L)))))),x≠b46 from (upc (by omega) (upc (by omega) (upc (by omega) (upo (fun m hm e=>(Ob76.below b46 (by simp)).2 (e ▸ hm)) (upc (by omega) (upc (by omega) (fun q hq e=>by have:=hL q hq; omega)))))))) m hT (by rw [List.mem_singleton] at hm; exact hm)) ⟨rfl,(Fr.refl _ _),E77,Ob76,(((B43.ex F46).ex F58).ex F66),(((B40'.ex F46).ex F58).ex F66),(((B44.ex F46).ex F58).ex F66),BD66,BL66⟩ (fun _ _ w' w'' h f=>by obtain ⟨rfl,F,E,O66i1,B66ib2,B66ib28,B66ib6,B66iD66,B66il66⟩:=h; exact ⟨rfl,F.trans (f.mono (by simp)),Ext.st E f (by simp; omega),O66i1.fr f (by simp),B66ib2.fr f (by simp; omega),B66ib28.fr f (by simp; omega),B66ib6.fr f (by simp; omega),B66iD66.fr f (by simp; omega),B66il66.fr f (by simp; omega)⟩) (fun _ w' w'' h f=>by obtain ⟨F,E,O66i1,B66ib2,B66ib28,B66ib6,B66iD66,B66il66⟩:=h; exact ⟨F.trans (f.mono (by simp)),Ext.st E f (by simp; omega),O66i1.fr f (by simp),B66ib2.fr f (by simp; omega),B66ib28.fr f (by simp; omega),B66ib6.fr f (by simp; omega),B66iD66.fr f (by simp; omega),B66il66.fr f (by simp; omega)⟩) (fun _ _ w' h=>by obtain ⟨rfl,F,E,O66i1,B66ib2,B66ib28,B66ib6,B66iD66,B66il66⟩:=h; exact (((((((hL.fr E).cons B66ib2.lt).cons B66ib6.lt).own O66i1).cons B66ib28.lt).cons B66iD66.lt).cons B66il66.lt)) ?_ ?_ ?_
  ·intro s66 y66 z66 T66 w66r vs66 hI66 hX66 hb66
   obtain ⟨rfl,F66r,E66r,O66r1,B66rb2,B66rb28,B66rb6,B66rD66,B66rl66⟩:=hI66
   have h:=hb66
   unfold octet_Put_b66 at h
   have G85:Fr L w1 w66r:=(((G42.trans (Fr.ext F46)).trans (Fr.ext F58)).trans (Fr.ext F66)).stp F66r (upc (.inr m73) (upc (.inr m72) (upc (.inr m50) (upc (.inr m31) (upo P23 (upc (.inr m8) (upc (.inr m3) (fun _ h=>.inl h))))))))
   obtain rfl:=hX66
   refine range_round (ps:=[24,25]) hr66 B66rl66 rfl rfl ?_
   refine ec_sr ?_
   refine o_w (v:=.int .i64 y66.1) (r_asg rfl) ?_
   refine eo_q ?_
   refine o_w (v:=.int .i64 y66.2) (r_asg rfl) ?_
   refine eo_nil ?_
   refine ⟨rfl,rfl,B66rl66,fun w87 F88 BL89=>?_⟩
   have E90:=Ext.st E66r F88 (by simp; omega)
   have G91:Fr L w1 w87:=G85.stp F88 (upc (.inr m73) (fun m hm=>by cases hm))
   have G93:Fr (l66::(D66::(b46::(b28::(own (.slice A38 (List.replicate (d1).toNat (0:Int)).length c39)++(b6::(b2::L))))))) w66 w87:=F66r.stp F88 (upc (.inl mH) (fun m hm=>by cases hm))
   have G94:Fr (l66::(D66::(b28::(own (.slice A38 (List.replicate (d1).toNat (0:Int)).length c39)++(b6::(b2::L)))))) w66r w87:=(Fr.refl _ _).stp F88 (upc (.inl mH) (fun m hm=>by cases hm))
   have B95:=B66rb2.fr F88 (by simp; omega)
   have B96:=B66rb6.fr F88 (by simp; omega)
   have B97:=B66rb28.fr F88 (by simp; omega)
   have B98:=B66rD66.fr F88 (by simp; omega)
   have O99:=O66r1.fr F88 (by simp)
   refine ec_block ?_
   refine ec_sr ?_
   refine o_w (v:=.int .i64 y66.1) (r_mov rfl) ?_
   refine o_w (v:=.int .i64 d1) (r_ld one_int rfl ((S1.fr G91 sI).now.cell rfl)) ?_
   refine o_w (v:=.bool (decide (y66.1<d1))) (r_int rfl rfl rfl) ?_
   refine eo_nil_sq ?_
   refine ec_cond rfl (fun hc100=>?_) (fun hc100=>?_)
   ·replace h:=h.1 hc100
    refine ec_region ?_
    refine o_w (v:=(.slice A38 (List.replicate (d1).toNat (0:Int)).length c39)) (r_ld one_s_uint8 rfl (B97.cell rfl)) ?_
    refine o_w (v:=.int .i64 y66.1) (r_mov rfl) ?_
    refine o_w (v:=.int .i64 y66.2) (r_mov rfl) ?_
    refine o_w (v:=.int .u8 (IntKind.u8.wrap y66.2)) (r_conv un_int un_uint8 rfl) ?_
    obtain ⟨hn104,H103⟩:=O99.stillAt
    have Zanc105:=Fr.refl (l66::(D66::(b46::(b28::(b6::(b2::L)))))) w87
    obtain ⟨ha107,h⟩:=h
    obtain ⟨cs108,l110,H109⟩:=Stb.elem (by decide) (H103.fr Zanc105 sI) y66.1 ha107.1 ha107.2
    obtain ⟨rfl,H109'⟩:=kI_open2 H109
    refine o_w (r_ia slc_s_uint8 rfl rfl ((H103.fr Zanc105 sI).now.2 _ (lt_toNat ha107.1 ha107.2)).1 ha107.1 (hn104 ▸ ha107.2)) ?_
    refine o_ostore2 (by first | exact hn104 | (simp only [List.length_set]; exact hn104)) rfl O99 ha107.1 (hn104 ▸ ha107.2) rfl (vs:=[.int .u8 (IntKind.u8.wrap y66.2)]) sz_uint8 rfl rfl (x:=(IntKind.u8.wrap y66.2)) (fun _ _=>rfl) rfl ?_
    intro w111 F111 O111
    have E112:=Ext.st E90 F111 (fun m hm=>Nat.le_trans lo21 (O99.lo m hm))
    have G115:Fr (l66::(D66::(b46::(b28::(own (.slice A38 (List.replicate (d1).toNat (0:Int)).length c39)++(b6::(b2::L))))))) w66 w111:=G93.stp F111 (fun m hm=>.inl (mT (mT (mT (mT (List.mem_append_left _ hm))))))
    have G116:Fr (l66::(D66::(b28::(own (.slice A38 (List.replicate (d1).toNat (0:Int)).length c39)++(b6::(b2::L)))))) w66r w111:=G94.stp F111 (fun m hm=>.inl (mT (mT (mT (List.mem_append_left _ hm)))))
    have B119:=B95.fr F111 (fun hm=>(O99.below b2 (by simp)).2 hm)
    have B120:=B96.fr F111 (fun hm=>(O99.below b6 (by simp)).2 hm)
    have B121:=B97.fr F111 (fun hm=>(O99.below b28 (by simp)).2 hm)
    have B122:=BL89.fr F111 (fun hm=>(O99.below l66 (by simp)).2 hm)
    have B123:=B98.fr F111 (fun hm=>(O99.below D66 (by simp)).2 hm)
    refine eo_nil ?_
    refine blk_n ?_
    subst h
    refine ⟨none,rfl,B122,fun w124 F125 BL126=>?_⟩
    have E127:=Ext.st E112 F125 (by simp; omega)
    have G130:Fr (l66::(D66::(b46::(b28::(own (.slice A38 (List.replicate (d1).toNat (0:Int)).length c39)++(b6::(b2::L))))))) w66 w124:=G115.stp F125 (upc (.inl mH) (fun m hm=>by cases hm))
    have G131:Fr (l66::(D66::(b28::(own (.slice A38 (List.replicate (d1).toNat (0:Int)).length c39)++(b6::(b2::L)))))) w66r w124:=G116.stp F125 (upc (.inl mH) (fun m hm=>by cases hm))
    have B133:=B119.fr F125 (by simp; omega)
    have B134:=B120.fr F125 (by simp; omega)
    have B135:=B121.fr F125 (by simp; omega)
    have B136:=B123.fr F125 (by simp; omega)
    have O137:=O111.fr F125 (by simp)
    exact ⟨rfl,_,⟨rfl,G130,E127,O137,B133,B135,B134,B136,BL126⟩,G131,(upc (.inl mH) (upc (.inl (mT mH)) (upc (.inl (mT (mT mH))) (upo (fun m hm=>Or.inl (mT (mT (mT (List.mem_append_left _ hm))))) (upc (.inl (mT (mT (mT (List.mem_append_right _ mH))))) (upc (.inl (mT (mT (mT (List.mem_append_right _ (mT mH)))))) (fun m hm=>Or.inl (mT (mT (mT (List.mem_append_right _ (mT (mT hm)))))))))))))⟩
   ·replace h:=h.2 hc100
    refine ec_sr ?_
    refine o_w (v:=.int .i64 y66.2) (r_mov rfl) ?_
    refine o_w (v:=.bool (decide (0<y66.2))) (r_int rfl rfl rfl) ?_
    refine eo_nil_sq ?_
    refine ec_cond rfl (fun hc138=>?_) (fun hc138=>?_)
    ·replace h:=h.1 hc138
     refine ec_sr ?_
     refine o_store rfl B95 (vs:=[str []]) rfl sz_string rfl rfl rfl ?_
     intro w139 F139 B139
     have E140:=Ext.st E90 F139 (by simp; omega)
     have G143:Fr (l66::(D66::(b46::(b28::(own (.slice A38 (List.replicate (d1).toNat (0:Int)).length c39)++(b6::(b2::L))))))) w66 w139:=G93.stp F139 (upc (.inl (mT (mT (mT (mT (List.mem_append_right _ (mT mH))))))) (fun m hm=>by cases hm))
     have B145:=B96.fr F139 (by simp; omega)
     have B146:=B97.fr F139 (by simp; omega)
     have B147:=BL89.fr F139 (by simp; omega)
     have B148:=B98.fr F139 (by simp; omega)
     have O149:=O99.fr F139 (by simp)
     have B139':Blk w139 b2 _ [str []]:=B139
     refine o_store rfl B145 (vs:=[.int .i64 1]) rfl sz_api_Errno rfl rfl rfl ?_
     intro w150 F150 B150
     have E151:=Ext.st E140 F150 (by simp; omega)
     have G154:Fr (l66::(D66::(b46::(b28::(own (.slice A38 (List.replicate (d1).toNat (0:Int)).length c39)++(b6::(b2::L))))))) w66 w150:=G143.stp F150 (upc (.inl (mT (mT (mT (mT (List.mem_append_right _ mH)))))) (fun m hm=>by cases hm))
     have B156:=B139'.fr F150 (by simp; omega)
     have B157:=B146.fr F150 (by simp; omega)
     have B158:=B147.fr F150 (by simp; omega)
     have B159:=B148.fr F150 (by simp; omega)
     have O160:=O149.fr F150 (by simp)
     have B150':Blk w150 b6 _ [.int .i64 1]:=B150
     refine eo_nil_sq ?_
     refine ec_ret ?_
     refine blk_ret ?_
     subst h
     refine ⟨some .ret,rfl,B158,fun w161 F162 BL163=>?_⟩
     have E164:=Ext.st E151 F162 (by simp; omega)
     have G167:Fr (l66::(D66::(b46::(b28::(own (.slice A38 (List.replicate (d1).toNat (0:Int)).length c39)++(b6::(b2::L))))))) w66 w161:=G154.stp F162 (upc (.inl mH) (fun m hm=>by cases hm))
     have B169:=B156.fr F162 (by simp; omega)
     have B170:=B150'.fr F162 (by simp; omega)
     have B171:=B157.fr F162 (by simp; omega)
     have B172:=B159.fr F162 (by simp; omega)
     have O173:=O160.fr F162 (by simp)
     exact ⟨rfl,⟨G167,E164,O173,B169,B171,B170,B172,BL163⟩⟩
    ·replace h:=h.2 hc138
     refine ec_skip ?_
     refine blk_n ?_
     subst h
     refine ⟨none,rfl,BL89,fun w174 F175 BL176=>?_⟩
     have E177:=Ext.st E90 F175 (by simp; omega)
     have G180:Fr (l66::(D66::(b46::(b28::(own (.slice A38 (List.replicate (d1).toNat (0:Int)).length c39)++(b6::(b2::L))))))) w66 w174:=G93.stp F175 (upc (.inl mH) (fun m hm=>by cases hm))
     have G181:Fr (l66::(D66::(b28::(own (.slice A38 (List.replicate (d1).toNat (0:Int)).length c39)++(b6::(b2::L)))))) w66r w174:=G94.stp F175 (upc (.inl mH) (fun m hm=>by cases hm))
     have B182:=B95.fr F175 (by simp; omega)
     have B183:=B96.fr F175 (by simp; omega)
     have B184:=B97.fr F175 (by simp; omega)
     have B185:=B98.fr F175 (by simp; omega)
     have O186:=O99.fr F175 (by simp)
     exact ⟨rfl,_,⟨rfl,G180,E177,O186,B182,B184,B183,B185,BL176⟩,G181,(upc (.inl mH) (upc (.inl (mT mH)) (upc (.inl (mT (mT mH))) (upo (fun m hm=>Or.inl (mT (mT (mT (List.mem_append_left _ hm))))) (upc (.inl (mT (mT (mT (List.mem_append_right _ mH))))) (upc (.inl (mT (mT (mT (List.mem_append_right _ (mT mH)))))) (fun m hm=>Or.inl (mT (mT (mT (List.mem_append_right _ (mT (mT hm)))))))))))))⟩
  ·rintro sx66 rfl T66 w66e v66 hI66
   replace h:=h.1 _ rfl
   obtain ⟨rfl,F66e,E66e,O66e1,B66eb2,B66eb28,B66eb6,B66eD66,B66el66⟩:=hI66
   refine ⟨⟨_,rfl⟩,none,B66el66,fun w189 F190=>?_⟩
   have E191:=Ext.st E66e F190 (by simp; omega)
   have B194:=B66eb2.fr F190 (by simp; omega)
   have B195:=B66eb6.fr F190 (by simp; omega)
   have B196:=B66eb28.fr F190 (by simp; omega)
   have B197:=B66eD66.fr F190 (by simp; omega)
   have O198:=O66e1.fr F190 (by simp)
   refine blk_n ?_
   refine sq_n ?_
   refine ec_sr ?_
   refine o_w (v:=(.slice A38 (List.replicate (d1).toNat (0:Int)).length c39)) (r_ld one_s_uint8 rfl (B196.cell rfl)) ?_
   obtain ⟨hn202,H201⟩:=O198.stillAt
   try rw [← hn202]
   have Zw189_203:=Fr.refl (l66::(D66::(b46::(b28::(b6::(b2::L)))))) w189
   refine o_w (v:=str (bstr sx66.1)) (r_bstr slc_s_uint8 un_uint8 un_string rfl (H201.fr Zw189_203 sI).now) ?_
   refine o_store rfl B194 (vs:=[str (bstr sx66.1)]) rfl sz_string rfl rfl rfl ?_
   intro w206 F206 B206
   have E207:=Ext.st E191 F206 (by simp; omega)
   have B211:=B195.fr F206 (by simp; omega)
   have B213:=B197.fr F206 (by simp; omega)
   have B206':Blk w206 b2 _ [str (bstr sx66.1)]:=B206
   refine o_store rfl B211 (vs:=[.int .i64 0]) rfl sz_api_Errno rfl rfl rfl ?_
   intro w214 F214 B214
   have E215:=Ext.st E207 F214 (by simp; omega)
   have B219:=B206'.fr F214 (by simp; omega)
   have B221:=B213.fr F214 (by simp; omega)
   have B214':Blk w214 b6 _ [.int .i64 0]:=B214
   refine eo_nil_sq ?_
   refine ec_ret ?_
   refine marksS B221 (fun w222 F222=>?_)
   have E223:=Ext.st E215 F222 (by simp; omega)
   have B227:=B219.fr F222 (by simp; omega)
   have B228:=B214'.fr F222 (by simp; omega)
   subst h
   exact marks0 ((endr2 (rv_c rfl (one_string) B227 rfl) (rv_c rfl (one_api_Errno) B228 rfl) ⟨_,rfl,E223,rfl⟩))
  ·rintro yx66 rfl w66q v66 hI66
   replace h:=h.2 _ rfl
   obtain ⟨F66q,E66q,O66q1,B66qb2,B66qb28,B66qb6,B66qD66,B66ql66⟩:=hI66
   refine ⟨⟨_,rfl⟩,(some .ret),B66ql66,fun w232 F233=>?_⟩
   have E234:=Ext.st E66q F233 (by simp; omega)
   have B237:=B66qb2.fr F233 (by simp; omega)
   have B238:=B66qb6.fr F233 (by simp; omega)
   have B240:=B66qD66.fr F233 (by simp; omega)
   refine blk_ret ?_
   refine sq_ret ?_
   refine marksS B240 (fun w242 F242=>?_)
   have E243:=Ext.st E234 F242 (by simp; omega)
   have B246:=B237.fr F242 (by simp; omega)
   have B247:=B238.fr F242 (by simp; omega)
   subst h
   exact marks0 ((endr2 (rv_c rfl (one_string) B246 rfl) (rv_c rfl (one_api_Errno) B247 rfl) ⟨_,rfl,E243,rfl⟩))

def bytesF:Nat→Int→List Int
 | 0,_=>[]
 | k + 1,n=>IntKind.u8.wrap (lo8 n)::bytesF k (sh8 n)
def restF:Nat→Int→Int
 | 0,n=>n
 | k + 1,n=>restF k (sh8 n)
theorem bytesF_length:∀ (k:Nat) (n:Int),(bytesF k n).length=k
 | 0,_=>rfl
 | k + 1,n=>by simp [bytesF,bytesF_length k]
def putO (n w:Int):Str × Int :=
 bif (decide (w<1)||decide (7<w))||decide (n<0) then ([],1) else bif decide (0<restF w.toNat n) then ([],1) else (bstr (bytesF w.toNat n),0)
theorem putO_run (w:Int):∀ (k i:Nat) (n:Int) (pre:List Int),((i + k:Nat):Int)=w→pre.length=i →
  ItR (octet_Put_b66 w) (pre++List.replicate k (0:Int),([]:Str),(0:Int)) (partsF k (i:Int) n) (bif decide (0<restF k n) then .inr (pre++bytesF k n,([]:Str),(1:Int)) else .inl (pre++bytesF k n,([]:Str),(0:Int)))
 | 0,i,n,pre,hi,hl=>by
  cases hr:decide (0<restF 0 n) with
  | true=>exact .stop ⟨fun c=>by simp at c; omega,fun _=>⟨fun _=>by simp [bytesF],fun c=>by have c':decide (0<n)=false:=c; have:decide (0<n)=true:=hr; rw [c'] at this; cases this⟩⟩
  | false=>exact .step ⟨fun c=>by simp at c; omega,fun _=>⟨fun c=>(by have c':decide (0<n)=true:=c; have:decide (0<n)=false:=hr; rw [c'] at this; cases this),fun _=>by simp [bytesF]⟩⟩ .nil
 | k + 1,i,n,pre,hi,hl=>by
  have ih:=putO_run w k (i + 1) (sh8 n) (pre++[IntKind.u8.wrap (lo8 n)]) (by omega) (by simp [hl])
  have e1:((i + 1:Nat):Int)=(i:Int) + 1:=by omega
  have e2:∀ z,pre++[IntKind.u8.wrap (lo8 n)]++z=pre++(IntKind.u8.wrap (lo8 n)::z):=fun z=>by simp
  rw [e1,e2,e2] at ih
  refine .step ⟨fun _=>⟨⟨by omega,by simp; omega⟩,?_⟩,fun c=>by simp at c; omega⟩ ih
  congr 2
  simp only [List.replicate_succ,Int.toNat_natCast]
  rw [List.set_append_right _ _ (by omega)]
  simp [hl]
theorem octPut_ev (n w:Int):octet_Put_raw n w (putO n w):=by
 refine ⟨fun hc=>by unfold putO; rw [hc]; rfl,fun hc=>?_⟩
 have hc':=hc
 simp only [Bool.or_eq_false_iff,decide_eq_false_iff_not] at hc'
 refine ⟨⟨by omega,by omega,by omega⟩,⟨by omega,by omega⟩,_,putO_run w w.toNat 0 n [] (by omega) rfl,?_⟩
 unfold putO
 rw [hc]
 cases hr:decide (0<restF w.toNat n) with
 | true=>exact ⟨fun s e=>(by cases e),fun s e=>(by cases e; rfl)⟩
 | false=>exact ⟨fun s e=>(by cases e; rfl),fun s e=>(by cases e)⟩
theorem putO_len (n w:Int):(putO n w).1.length≤7:=by
 unfold putO
 cases hc:((decide (w<1)||decide (7<w))||decide (n<0)) with
 | true=>simp
 | false =>
  simp only [Bool.or_eq_false_iff,decide_eq_false_iff_not] at hc
  cases hr:decide (0<restF w.toNat n) with
  | true=>simp
  | false=>simp [bstr,bytesF_length]; omega

/-- From w0 on, where its slice was v0, the writer b has come to hold l. -/
def WS (B : Nat) (w0 : World) (b : Nat) (v0 : Value) (l : List Int) (w : World) : Prop :=
  Fr (b :: own v0) w0 w ∧ ∃ p v, Blk w b 98 [p, v] ∧ (p = .pointer none ∨ p = .pointer (some ⟨b, 0, none⟩)) ∧ OwnS (kI .u8) B 5 [b] w v l ∧ ∀ q ∈ own v, q ∈ own v0 ∨ w0.heap.size ≤ q
theorem WS.ex {B b:Nat} {w0 w w':World} {v0:Value} {l:List Int} (h:WS B w0 b v0 l w) (f:Ext w w'):WS B w0 b v0 l w':=by
 obtain ⟨F,p,v,HB,hp,HO,hN⟩:=h
 exact ⟨F.trans (Fr.ext f),p,v,HB.ex f,hp,HO.ex f,hN⟩
theorem WS.cons {B b:Nat} {w0 w w':World} {v0 v:Value} {l':List Int} (F:Fr (b::own v0) w0 w) (hN:∀ q∈own v,q∈own v0∨w0.heap.size≤q) (h:WS B w b v l' w'):WS B w0 b v0 l' w':=by
 obtain ⟨F2,p,v2,HB,hp,HO,hN2⟩:=h
 refine ⟨F.stp F2 (fun m hm=>?_),p,v2,HB,hp,HO,fun q hq=>?_⟩
 ·rcases List.mem_cons.1 hm with rfl | hm
  ·exact .inl List.mem_cons_self
  ·exact (hN m hm).elim (fun h=>.inl (List.mem_cons_of_mem _ h)) .inr
 ·rcases hN2 q hq with h | h
  ·exact hN q h
  ·exact .inr (Nat.le_trans F.size h)
theorem WS.lt {B b:Nat} {w:World} {p v:Value} {l:List Int} (HB:Blk w b 98 [p,v]) (HO:OwnS (kI .u8) B 5 [b] w v l):Lt (b::own v) w:=fun m hm=>by
 rcases List.mem_cons.1 hm with rfl | hm
 ·exact HB.lt
 ·exact HO.ltw m hm
theorem WS.start {B b:Nat} {w w1:World} {p v:Value} {l:List Int} (HB:Blk w b 98 [p,v]) (hp:p=.pointer none∨p=.pointer (some ⟨b,0,none⟩)) (HO:OwnS (kI .u8) B 5 [b] w v l) (f:Ext w w1):WS B w1 b v l w1 :=
 ⟨Fr.refl _ _,p,v,HB.ex f,hp,HO.ex f,fun q hq=>.inl hq⟩
theorem WS.write {B b:Nat} {w0 w:World} {v0:Value} {l:List Int} (h:WS B w0 b v0 l w) (s:Str) (hsz:l.length + s.length≤140737488355328) :
  Calls Tryz.prog 81 [.pointer (some ⟨b,0,none⟩),str s].toArray w (Ret fun r w'=>r=.tuple #[.int .i64 (s.length:Int),.nilIface]∧WS B w0 b v0 (l++ints s) w'):=by
 obtain ⟨F,p,v,HB,hp,HO,hN⟩:=h
 refine (wstr_c s HB hp HO (by simp) hsz).mono ?_
 rintro e w' ⟨r,he,hr,F2,v',B2,O2,N2⟩
 refine ⟨r,he,hr,WS.cons F hN ⟨F2,_,v',B2,.inr rfl,O2,N2⟩⟩
theorem WS.len {B b:Nat} {w0 w:World} {v0:Value} {l:List Int} (h:WS B w0 b v0 l w) :
  Calls Tryz.prog 57 [.pointer (some ⟨b,0,none⟩)].toArray w (Ret fun r w'=>Ext w w'∧r=.int .i64 (l.length:Int)):=by
 obtain ⟨F,p,v,HB,hp,HO,hN⟩:=h
 exact blen_c HB HO
theorem fld_writer_0:Fld Tryz.prog 98 0 0:=⟨_,Tryz.underlying98,_,rfl,rfl,fnz in_Builder (by decide)⟩
theorem cf_wnumber:CF Tryz.prog 55:=fun _ _=>by kernel_rfl
theorem cf_wtext:CF Tryz.prog 56:=fun _ _=>by kernel_rfl

theorem WS.number {B b:Nat} {w0 w:World} {v0:Value} {l:List Int} (h:WS B w0 b v0 l w) (n wd:Int) (hsz:l.length≤1000000) :
  Calls Tryz.prog 55 [.pointer (some ⟨b,0,none⟩),.int .i64 n,.int .i64 wd].toArray w (Ret fun r w'=>r=.tuple #[]∧WS B w0 b v0 (l++ints (putO n wd).1) w'):=by
 have hl:=putO_len n wd
 refine calls_ec Tryz.func55 rfl rfl rfl ?_
 refine ec_sr ?_
 refine o_w (v:=.int .i64 n) (r_mov rfl) ?_
 refine o_w (v:=.int .i64 wd) (r_mov rfl) ?_
 refine o_call cf_octet_Put rfl (octet_Put_c (L:=[]) n wd (fun _ hm=>by cases hm) (octPut_ev n wd)) rfl rfl ?_
 rintro _ w1 ⟨F1,rfl⟩
 refine o_w (v:=.tuple #[str (putO n wd).1,.int .i64 (putO n wd).2]) (r_mov rfl) ?_
 refine o_w (v:=str (putO n wd).1) (r_ext rfl rfl) ?_
 refine o_w (v:=.int .i64 (putO n wd).2) (r_ext rfl rfl) ?_
 refine o_w (v:=str (putO n wd).1) (r_asg rfl) ?_
 refine o_w (v:=.int .i64 (putO n wd).2) (r_asg rfl) ?_
 refine eo_q ?_
 refine o_w (v:=.pointer (some ⟨b,0,none⟩)) (r_mov rfl) ?_
 refine o_w (v:=.pointer (some ⟨b,0,none⟩)) (r_nilchk rfl) ?_
 refine o_w (v:=.pointer (some ⟨b,0,none⟩)) (r_fa fld_writer_0 rfl rfl) ?_
 refine o_w (v:=str (putO n wd).1) (r_mov rfl) ?_
 refine o_call cf_WriteString rfl ((h.ex F1).write (putO n wd).1 (by omega)) rfl rfl ?_
 rintro _ w2 ⟨rfl,h2⟩
 refine eo_nil ?_
 exact end0 ⟨_,rfl,rfl,h2⟩
/-- Zeros. -/
def zeros (n : Int) : Str := bstr (List.replicate n.toNat (0 : Int))
theorem zeros_len (n:Int):(zeros n).length=n.toNat:=by simp [zeros,bstr]
set_option maxRecDepth 20000 in
set_option maxHeartbeats 4000000 in
theorem WS.text {B b : Nat} {w0 w : World} {v0 : Value} {l : List Int} (h : WS B w0 b v0 l w) (s : Str) (wd : Int) (hsz : l.length ≤ 1000000) (h1 : (s.length : Int) ≤ wd) (h2 : wd ≤ 1000) :
    Calls Tryz.prog 56 [.pointer (some ⟨b, 0, none⟩), str s, .int .i64 wd].toArray w (Ret fun r w' => r = .tuple #[] ∧ WS B w0 b v0 (l ++ (ints s ++ ints (zeros (wd - s.length)))) w') := by
  refine calls_ec Tryz.func56 rfl rfl rfl ?_
  refine ec_sr ?_
  refine o_v (v := .pointer (some ⟨b, 0, none⟩)) (r_mov rfl) rfl rfl rfl ?_
  refine o_v (v := .pointer (some ⟨b, 0, none⟩)) (r_nilchk rfl) rfl rfl rfl ?_
  refine o_v (v := .pointer (some ⟨b, 0, none⟩)) (r_fa fld_writer_0 rfl rfl) rfl rfl rfl ?_
  refine o_v (v := str s) (r_mov rfl) rfl rfl rfl ?_
  refine o_call cf_WriteString rfl (h.write s (by omega)) rfl rfl ?_
  rintro _ w1 ⟨rfl, F, p, v, HB, hp, HO, hN⟩
  refine eo_nil_sq ?_
  have hLt := WS.lt HB HO
  have hw : IntKind.i64.wrap (wd - (s.length : Int)) = wd - (s.length : Int) := wrap64 (by omega) (by omega)
  refine ec_anyN (by kernel_rfl) [[], [0], [0, 1], [], [], [4], [3, 4, 5], [3, 4, 5, 6], [3, 4, 5, 6, 7], [0, 1, 2, 3, 4, 5, 6, 7, 8]] [11, 12, 13, 14, 15, 16, 17, 18, 19, 20] (b :: own v) [9] [b :: own v] [[9]]
    [fun w' => WS B w1 b v (l ++ ints s) w', fun w' => WS B w1 b v (l ++ ints s ++ ints (zeros (wd - (s.length : Int)))) w']
    [fun v _ => v = (.pointer (some ⟨b, 0, none⟩) : Value), fun v _ => v = (.pointer (some ⟨b, 0, none⟩) : Value), fun v _ => v = (.pointer (some ⟨b, 0, none⟩) : Value), fun v _ => v = (.int .i64 wd : Value), fun v _ => v = str s, fun v _ => v = (.int .i64 (s.length : Int) : Value), fun v _ => v = (.int .i64 (wd - (s.length : Int)) : Value),
     fun x w' => ∃ A c, x = (.slice A (List.replicate (wd - (s.length : Int)).toNat (0 : Int)).length c : Value) ∧ Stb (b :: own v) w' (fun w => SlC (kI .u8) w A c (List.replicate (wd - (s.length : Int)).toNat (0 : Int))), fun v _ => v = str (zeros (wd - (s.length : Int))), fun _ _ => True]
    (by kernel_rfl) (allM1 (fun m hm => hm) (fun _ h => by cases h))
    ⟨fun _ _ _ _ _ h => h, fun _ _ _ _ _ h => h, fun _ _ _ _ _ h => h, fun _ _ _ _ _ h => h, fun _ _ _ _ _ h => h, fun _ _ _ _ _ h => h, fun _ _ _ _ _ h => h, fun _ v w' w'' F h => by obtain ⟨A, c, hv, H⟩ := h; exact ⟨A, c, hv, H.ex F⟩, fun _ _ _ _ _ h => h, fun _ _ _ _ _ h => h, trivial⟩
    ⟨⟨fun _ _ _ _ _ h => h, fun _ _ _ _ _ h => h, fun _ _ _ _ _ h => h, fun _ _ _ _ _ h => h, fun _ _ _ _ _ h => h, fun _ _ _ _ _ h => h, fun _ _ _ _ _ h => h, fun _ v w' w'' F h => by obtain ⟨A, c, hv, H⟩ := h; exact ⟨A, c, hv, H.fr F (fun _ hm => hm)⟩, fun _ _ _ _ _ h => h, (fun h => absurd h (by decide)), trivial⟩, trivial⟩
    ⟨fun w' w'' F h => h.ex F, fun w' w'' F h => h.ex F, trivial⟩ (WS.start HB hp HO (Fr.refl _ _)) ?_ ?_ ?_
  · refine ⟨?_, ?_, ?_, ?_, ?_, ?_, ?_, ?_, ?_, ?_, trivial⟩
    · intro _ ρ w2 F2 hX hS hρ
      have q0 : ρ 0 = .pointer (some ⟨b, 0, none⟩) := hρ 0 (by kernel_rfl)
      exact o_v (r_mov q0) rfl rfl rfl (eo_nil ⟨rfl, rfl, _, rfl, Fr.refl _ _, rfl⟩)
    · intro _ ρ w2 F2 hX hS hρ
      have q : ρ 11 = .pointer (some ⟨b, 0, none⟩) := hS 0 (by decide) 11 rfl
      exact o_v (r_nilchk q) rfl rfl rfl (eo_nil ⟨rfl, rfl, _, rfl, Fr.refl _ _, rfl⟩)
    · intro _ ρ w2 F2 hX hS hρ
      have q : ρ 12 = .pointer (some ⟨b, 0, none⟩) := hS 1 (by decide) 12 rfl
      exact o_v (r_fa fld_writer_0 rfl q) rfl rfl rfl (eo_nil ⟨rfl, rfl, _, rfl, Fr.refl _ _, rfl⟩)
    · intro _ ρ w2 F2 hX hS hρ
      have q : ρ 2 = .int .i64 wd := hρ 2 (by kernel_rfl)
      exact o_v (r_mov q) rfl rfl rfl (eo_nil ⟨rfl, rfl, _, rfl, Fr.refl _ _, rfl⟩)
    · intro _ ρ w2 F2 hX hS hρ
      have q : ρ 1 = str s := hρ 1 (by kernel_rfl)
      exact o_v (r_mov q) rfl rfl rfl (eo_nil ⟨rfl, rfl, _, rfl, Fr.refl _ _, rfl⟩)
    · intro _ ρ w2 F2 hX hS hρ
      have q : ρ 15 = str s := hS 4 (by decide) 15 rfl
      exact o_v (r_len_str un_string q) rfl rfl rfl (eo_nil ⟨rfl, rfl, _, rfl, Fr.refl _ _, rfl⟩)
    · intro _ ρ w2 F2 hX hS hρ
      have q1 : ρ 14 = .int .i64 wd := hS 3 (by decide) 14 rfl
      have q2 : ρ 16 = .int .i64 (s.length : Int) := hS 5 (by decide) 16 rfl
      exact o_v (v := .int .i64 (wd - (s.length : Int))) (r_int q1 q2 (by show some (Value.int .i64 (IntKind.i64.wrap (wd - (s.length : Int)))) = _; rw [hw])) rfl rfl rfl (eo_nil ⟨rfl, rfl, _, rfl, Fr.refl _ _, rfl⟩)
    · intro _ ρ w2 F2 hX hS hρ
      have q : ρ 17 = .int .i64 (wd - (s.length : Int)) := hS 6 (by decide) 17 rfl
      have E2 := hX 9 rfl rfl
      refine o_make1 (k := kI .u8) (z := (0 : Int)) slc_s_uint8 rfl rfl (fun _ => rfl) (show ev ρ _ = _ from q) (show ev ρ _ = _ from q) ⟨by omega, by omega, by omega⟩ (hLt.fr F2) rfl rfl (by decide) ?_
      intro A c w' F H
      exact eo_nil ⟨rfl, rfl, _, rfl, F, A, c, rfl, H⟩
    · intro _ ρ w2 F2 hX hS hρ
      obtain ⟨A, c, q, H⟩ := hS 7 (by decide) 18 rfl
      exact o_v (r_bstr slc_s_uint8 un_uint8 un_string q H.now) rfl rfl rfl (eo_nil ⟨rfl, rfl, _, rfl, Fr.refl _ _, rfl⟩)
    · intro hT; exact absurd hT (by decide)
  · refine ⟨⟨_, rfl, ?_⟩, trivial⟩
    intro ρ w2 F2 hX hI hS hρ
    have q13 : ρ 13 = .pointer (some ⟨b, 0, none⟩) := hS 2 (by decide) 13 rfl
    have q19 : ρ 19 = str (zeros (wd - (s.length : Int))) := hS 8 (by decide) 19 rfl
    have E2 := hX rfl
    refine o_call cf_WriteString (by simp only [List.map, ev, q13, q19] <;> rfl) (wstr_c (zeros (wd - (s.length : Int))) (HB.ex E2) hp (HO.ex E2) (by simp) (by rw [List.length_append, ints_length, zeros_len]; omega)) rfl rfl ?_
    rintro _ w' ⟨rfl, F4, v4, B4, O4, N4⟩
    exact eo_nil ⟨rfl, rfl, _, rfl, F4, WS.cons (Fr.ext E2) (fun q hq => .inl hq) ⟨F4, _, v4, B4, .inr rfl, O4, N4⟩, trivial⟩
  · intro ρ w2 F2 hI hS hρ
    refine end0 ⟨_, rfl, rfl, ?_⟩
    rw [← List.append_assoc]
    exact WS.cons F hN hI

def regS (d:Val):List Int:=ints (putO d.time 4).1++(ints (putO d.node 1).1++(ints (putO (bif d.dead then 1 else 0) 1).1++(ints (putO (d.text.length:Int) 1).1++(ints d.text++ints (zeros (8 - (d.text.length:Int)))))))
theorem WS.register {B b:Nat} {w0 w:World} {v0:Value} {l:List Int} (h:WS B w0 b v0 l w) (d:Val) {A1 A2:Option Addr} {c1 c2:Nat} (hsz:l.length≤1000) (ht:d.text.length≤8) :
  Calls Tryz.prog 58 [.pointer (some ⟨b,0,none⟩),.agg (cVal d A1 c1 A2 c2).toArray].toArray w (Ret fun r w'=>r=.tuple #[]∧WS B w0 b v0 (l++regS d) w'):=by
 have hl1:=putO_len d.time 4
 have hl2:=putO_len d.node 1
 have hl3:=putO_len 0 1
 have hl3':=putO_len 1 1
 have hl4:=putO_len (d.text.length:Int) 1
 obtain ⟨F0,p,v,HB,hp,HO,hN⟩:=h
 have hLt:=WS.lt HB HO
 refine calls_ec Tryz.func58 rfl rfl rfl ?_
 refine ec_sr ?_
 refine o_box (cs:=(cVal d A1 c1 A2 c2)) rfl rfl rfl ?_
 intro b3 w1 e3 F3 B3
 have S3:=B3.stb (nin hLt e3)
 have W1:=WS.start HB hp HO F3
 refine eo_r ?_
 refine o_w (v:=.int .i64 0) (r_asg rfl) ?_
 refine eo_nil_sq ?_
 refine ec_seq ?_
 refine ec_sr ?_
 refine o_w (v:=.pointer (some ⟨b3,3,none⟩)) (r_fa fld_api_Value_3 rfl rfl) ?_
 refine o_w (v:=.bool d.dead) (r_ld one_bool rfl (S3.now.cell rfl)) ?_
 refine eo_nil_sq ?_
 refine ec_cond rfl (fun hd=>?_) (fun hd=>?_)
 ·refine ec_region ?_
  refine o_w (v:=.int .i64 1) (r_asg rfl) ?_
  refine eo_r ?_
  refine o_w (v:=.pointer (some ⟨b,0,none⟩)) (r_mov rfl) ?_
  refine o_w (v:=.pointer (some ⟨b3,1,none⟩)) (r_fa fld_api_Value_1 rfl rfl) ?_
  refine o_w (v:=.int .i64 d.time) (r_ld one_int rfl (S3.now.cell rfl)) ?_
  refine o_call cf_wnumber rfl (W1.number d.time 4 (by omega)) rfl rfl ?_
  rintro _ w2 ⟨rfl,W2⟩
  refine eo_r ?_
  refine o_w (v:=.pointer (some ⟨b,0,none⟩)) (r_mov rfl) ?_
  refine o_w (v:=.pointer (some ⟨b3,2,none⟩)) (r_fa fld_api_Value_2 rfl rfl) ?_
  refine o_w (v:=.int .i64 d.node) (r_ld one_int rfl ((S3.fr W2.1 sI).now.cell rfl)) ?_
  refine o_call cf_wnumber rfl (W2.number d.node 1 (by simp only [List.length_append,ints_length]; omega)) rfl rfl ?_
  rintro _ w3 ⟨rfl,W3⟩
  refine eo_r ?_
  refine o_w (v:=.pointer (some ⟨b,0,none⟩)) (r_mov rfl) ?_
  refine o_w (v:=.int .i64 ((1:Int))) (r_mov rfl) ?_
  refine o_call cf_wnumber rfl (W3.number ((1:Int)) 1 (by simp only [List.length_append,ints_length]; omega)) rfl rfl ?_
  rintro _ w4 ⟨rfl,W4⟩
  refine eo_r ?_
  refine o_w (v:=.pointer (some ⟨b,0,none⟩)) (r_mov rfl) ?_
  refine o_w (v:=.pointer (some ⟨b3,4,none⟩)) (r_fa fld_api_Value_4 rfl rfl) ?_
  refine o_w (v:=str d.text) (r_ld one_string rfl ((S3.fr W4.1 sI).now.cell rfl)) ?_
  refine o_w (v:=.int .i64 (d.text.length:Int)) (r_len_str un_string rfl) ?_
  refine o_call cf_wnumber rfl (W4.number (d.text.length:Int) 1 (by simp only [List.length_append,ints_length]; omega)) rfl rfl ?_
  rintro _ w5 ⟨rfl,W5⟩
  refine eo_q ?_
  refine o_w (v:=.pointer (some ⟨b,0,none⟩)) (r_mov rfl) ?_
  refine o_w (v:=.pointer (some ⟨b3,4,none⟩)) (r_fa fld_api_Value_4 rfl rfl) ?_
  refine o_w (v:=str d.text) (r_ld one_string rfl ((S3.fr W5.1 sI).now.cell rfl)) ?_
  refine o_call cf_wtext rfl (W5.text d.text 8 (by simp only [List.length_append,ints_length]; omega) (by omega) (by omega)) rfl rfl ?_
  rintro _ w6 ⟨rfl,W6⟩
  refine eo_nil ?_
  refine end0 ⟨_,rfl,rfl,WS.cons (F0.trans (Fr.ext F3)) (fun q hq=>hN q hq) ?_⟩
  simpa only [regS,hd,cond_true,List.append_assoc] using W6
 ·refine ec_skip ?_
  refine sq_n ?_
  refine ec_sr ?_
  refine o_w (v:=.pointer (some ⟨b,0,none⟩)) (r_mov rfl) ?_
  refine o_w (v:=.pointer (some ⟨b3,1,none⟩)) (r_fa fld_api_Value_1 rfl rfl) ?_
  refine o_w (v:=.int .i64 d.time) (r_ld one_int rfl (S3.now.cell rfl)) ?_
  refine o_call cf_wnumber rfl (W1.number d.time 4 (by omega)) rfl rfl ?_
  rintro _ w2 ⟨rfl,W2⟩
  refine eo_r ?_
  refine o_w (v:=.pointer (some ⟨b,0,none⟩)) (r_mov rfl) ?_
  refine o_w (v:=.pointer (some ⟨b3,2,none⟩)) (r_fa fld_api_Value_2 rfl rfl) ?_
  refine o_w (v:=.int .i64 d.node) (r_ld one_int rfl ((S3.fr W2.1 sI).now.cell rfl)) ?_
  refine o_call cf_wnumber rfl (W2.number d.node 1 (by simp only [List.length_append,ints_length]; omega)) rfl rfl ?_
  rintro _ w3 ⟨rfl,W3⟩
  refine eo_r ?_
  refine o_w (v:=.pointer (some ⟨b,0,none⟩)) (r_mov rfl) ?_
  refine o_w (v:=.int .i64 ((0:Int))) (r_mov rfl) ?_
  refine o_call cf_wnumber rfl (W3.number ((0:Int)) 1 (by simp only [List.length_append,ints_length]; omega)) rfl rfl ?_
  rintro _ w4 ⟨rfl,W4⟩
  refine eo_r ?_
  refine o_w (v:=.pointer (some ⟨b,0,none⟩)) (r_mov rfl) ?_
  refine o_w (v:=.pointer (some ⟨b3,4,none⟩)) (r_fa fld_api_Value_4 rfl rfl) ?_
  refine o_w (v:=str d.text) (r_ld one_string rfl ((S3.fr W4.1 sI).now.cell rfl)) ?_
  refine o_w (v:=.int .i64 (d.text.length:Int)) (r_len_str un_string rfl) ?_
  refine o_call cf_wnumber rfl (W4.number (d.text.length:Int) 1 (by simp only [List.length_append,ints_length]; omega)) rfl rfl ?_
  rintro _ w5 ⟨rfl,W5⟩
  refine eo_q ?_
  refine o_w (v:=.pointer (some ⟨b,0,none⟩)) (r_mov rfl) ?_
  refine o_w (v:=.pointer (some ⟨b3,4,none⟩)) (r_fa fld_api_Value_4 rfl rfl) ?_
  refine o_w (v:=str d.text) (r_ld one_string rfl ((S3.fr W5.1 sI).now.cell rfl)) ?_
  refine o_call cf_wtext rfl (W5.text d.text 8 (by simp only [List.length_append,ints_length]; omega) (by omega) (by omega)) rfl rfl ?_
  rintro _ w6 ⟨rfl,W6⟩
  refine eo_nil ?_
  refine end0 ⟨_,rfl,rfl,WS.cons (F0.trans (Fr.ext F3)) (fun q hq=>hN q hq) ?_⟩
  simpa only [regS,hd,cond_false,List.append_assoc] using W6

/-- Half of the flags, from there on. -/
def lowF (f : Int) : Int := IntKind.i64.wrap (IntKind.u64.wrap ((BitVec.ofInt IntKind.u64.bits f &&& BitVec.ofInt IntKind.u64.bits (4294967295 : Int)).toNat : Int))
def highF (f:Int):Int:=IntKind.i64.wrap (Int.fdiv f (2 ^ min ((32:Int)).toNat IntKind.u64.bits))
def flgS (d:Val):List Int:=ints (putO (lowF d.flags) 4).1++ints (putO (highF d.flags) 4).1
theorem WS.flags {B b:Nat} {w0 w:World} {v0:Value} {l:List Int} (h:WS B w0 b v0 l w) (d:Val) {A1 A2:Option Addr} {c1 c2:Nat} (hsz:l.length≤1000) :
  Calls Tryz.prog 60 [.pointer (some ⟨b,0,none⟩),.agg (cVal d A1 c1 A2 c2).toArray].toArray w (Ret fun r w'=>r=.tuple #[]∧WS B w0 b v0 (l++flgS d) w'):=by
 have hl1:=putO_len (lowF d.flags) 4
 obtain ⟨F0,p,v,HB,hp,HO,hN⟩:=h
 have hLt:=WS.lt HB HO
 refine calls_ec Tryz.func60 rfl rfl rfl ?_
 refine ec_sr ?_
 refine o_box (cs:=(cVal d A1 c1 A2 c2)) rfl rfl rfl ?_
 intro b3 w1 e3 F3 B3
 have S3:=B3.stb (nin hLt e3)
 have W1:=WS.start HB hp HO F3
 refine eo_r ?_
 refine o_w (v:=.pointer (some ⟨b,0,none⟩)) (r_mov rfl) ?_
 refine o_w (v:=.pointer (some ⟨b3,7,none⟩)) (r_fa fld_api_Value_7 rfl rfl) ?_
 refine o_w (v:=.int .u64 d.flags) (r_ld one_uint64 rfl (S3.now.cell rfl)) ?_
 refine o_w (v:=.int .u64 (IntKind.u64.wrap ((BitVec.ofInt IntKind.u64.bits d.flags &&& BitVec.ofInt IntKind.u64.bits (4294967295:Int)).toNat:Int))) (r_int rfl rfl rfl) ?_
 refine o_w (v:=.int .i64 (lowF d.flags)) (r_conv un_uint64 un_int rfl) ?_
 refine o_call cf_wnumber rfl (W1.number (lowF d.flags) 4 (by omega)) rfl rfl ?_
 rintro _ w2 ⟨rfl,W2⟩
 refine eo_q ?_
 refine o_w (v:=.pointer (some ⟨b,0,none⟩)) (r_mov rfl) ?_
 refine o_w (v:=.pointer (some ⟨b3,7,none⟩)) (r_fa fld_api_Value_7 rfl rfl) ?_
 refine o_w (v:=.int .u64 d.flags) (r_ld one_uint64 rfl ((S3.fr W2.1 sI).now.cell rfl)) ?_
 refine o_w (v:=.int .u64 (Int.fdiv d.flags (2 ^ min ((32:Int)).toNat IntKind.u64.bits))) (r_shr rfl rfl rfl) ?_
 refine o_w (v:=.int .i64 (highF d.flags)) (r_conv un_uint64 un_int rfl) ?_
 refine o_call cf_wnumber rfl (W2.number (highF d.flags) 4 (by simp only [List.length_append,ints_length]; omega)) rfl rfl ?_
 rintro _ w3 ⟨rfl,W3⟩
 refine eo_nil ?_
 refine end0 ⟨_,rfl,rfl,WS.cons (F0.trans (Fr.ext F3)) (fun q hq=>hN q hq) ?_⟩
 simpa only [flgS,List.append_assoc] using W3

def numsS (xs:List Int):List Int:=xs.flatMap fun n=>ints (putO n 2).1
theorem numsS_len:∀ (xs:List Int),(numsS xs).length≤7 * xs.length
 | []=>by simp [numsS]
 | n::xs=>by
  have h1:=numsS_len xs
  have h2:=putO_len n 2
  simp only [numsS,List.flatMap_cons,List.length_append,ints_length,List.length_cons] at h1 ⊢
  omega
theorem numsS_snoc (xs:List Int) (i:Nat) (h:i<xs.length):numsS (xs.take (i + 1))=numsS (xs.take i)++ints (putO (nth xs (i:Int)) 2).1:=by
 have e:xs.take (i + 1)=xs.take i++[xs.getD i default]:=by rw [List.take_add_one]; simp [h]
 rw [e,nth_nat]; simp [numsS,List.flatMap_append]
def cntB (n:Nat) (i:Nat) (z:Nat ⊕ Nat):Prop:=(i<n→z=.inl (i + 1))∧(¬ i<n→z=.inr i)
theorem cnt_loop (n:Nat):∀ (k i:Nat),i + k=n→LoopR (cntB n) i n
 | 0,i,h=>.done ⟨fun c=>by omega,fun _=>by rw [show i=n by omega]⟩
 | k + 1,i,h=>.step ⟨fun _=>rfl,fun c=>by omega⟩ (cnt_loop n k (i + 1) (by omega))
def cntS (d:Val):List Int:=numsS d.plus++numsS d.minus
theorem slc_s_s_int:Slc Tryz.prog 128 51 1 24 (.slice none 0 0):=⟨Tryz.underlying128,info_parts' in_s_int⟩
set_option maxRecDepth 20000 in
set_option maxHeartbeats 4000000 in
theorem WS.counter {B b:Nat} {w0 w:World} {v0:Value} {l:List Int} (h:WS B w0 b v0 l w) (d:Val) {A1 A2:Option Addr} {c1 c2:Nat} (hsz:l.length≤1000) (hp8:d.plus.length≤8) (hm8:d.minus.length≤8)
  (HP:Stb (b::own v0) w0 (fun w=>SlC (kI .i64) w A1 c1 d.plus)) (HM:Stb (b::own v0) w0 (fun w=>SlC (kI .i64) w A2 c2 d.minus)) :
  Calls Tryz.prog 59 [.pointer (some ⟨b,0,none⟩),.agg (cVal d A1 c1 A2 c2).toArray].toArray w (Ret fun r w'=>r=.tuple #[]∧WS B w0 b v0 (l++cntS d) w'):=by
 obtain ⟨F0,p,v,HB,hp,HO,hN⟩:=h
 have hLt:=WS.lt HB HO
 have hup:∀ q∈b::own v,q∈b::own v0∨w0.heap.size≤q:=fun q hq=>by
  rcases List.mem_cons.1 hq with rfl | hq
  ·exact .inl List.mem_cons_self
  ·exact (hN q hq).elim (fun h=>.inl (List.mem_cons_of_mem _ h)) .inr
 have HP0:=HP.up F0 sI hup
 have HM0:=HM.up F0 sI hup
 refine calls_ec Tryz.func59 rfl rfl rfl ?_
 refine ec_sr ?_
 refine o_box (cs:=(cVal d A1 c1 A2 c2)) rfl rfl rfl ?_
 intro b3 w1 e3 F3 B3
 refine eo_r ?_
 refine o_w (v:=.pointer (some ⟨b3,5,none⟩)) (r_fa fld_api_Value_5 rfl rfl) ?_
 refine o_w (v:=.slice A1 d.plus.length c1) (r_ld one_s_int rfl (B3.cell rfl)) ?_
 refine o_w (v:=.pointer (some ⟨b3,6,none⟩)) (r_fa fld_api_Value_6 rfl rfl) ?_
 refine o_w (v:=.slice A2 d.minus.length c2) (r_ld one_s_int rfl (B3.cell rfl)) ?_
 refine o_bslice slc_s_s_int (vs:=[.slice A1 d.plus.length c1,.slice A2 d.minus.length c2]) (cs:=[.slice A1 d.plus.length c1,.slice A2 d.minus.length c2]) rfl rfl rfl rfl rfl rfl rfl rfl ?_
 intro b12 w2 e12 F12 B12
 have S12:=B12.stb (nin (hLt.fr F3) e12)
 have W2:=WS.start HB hp HO (F3.trans F12)
 have HP2:=HP0.ex (F3.trans F12)
 have HM2:=HM0.ex (F3.trans F12)
 refine o_w (v:=.int .i64 2) (r_len_slc slc_s_s_int.1 rfl) ?_
 refine o_w (v:=.int .i64 0) (r_mov rfl) ?_
 refine eo_nil_sq ?_
 refine ec_block ?_
 let fL:Nat→List Int:=fun i=>[d.plus,d.minus].getD i []
 let fA:Nat→Option Addr:=fun i=>[A1,A2].getD i none
 let fc:Nat→Nat:=fun i=>[c1,c2].getD i 0
 let pre:Nat→List Int:=fun i=>([d.plus,d.minus].take i).flatMap numsS
 have hpre:∀ i,i<2→pre (i + 1)=pre i++numsS (fL i):=fun i hi=>by
  match i,hi with
  | 0,_=>simp [pre,fL]
  | 1,_=>simp [pre,fL]
 have hpl:∀ i,i≤2→(pre i).length≤112:=fun i hi=>by
  have h1:=numsS_len d.plus
  have h2:=numsS_len d.minus
  match i,hi with
  | 0,_=>simp [pre]
  | 1,_=>simp [pre]; omega
  | 2,_=>simp [pre]; omega
 have hfl:∀ i,i<2→(fL i).length≤8:=fun i hi=>by
  match i,hi with
  | 0,_=>exact hp8
  | 1,_=>exact hm8
 have hcell:∀ i,i<2→[(Value.slice A1 d.plus.length c1),(.slice A2 d.minus.length c2)][i]?=some (.slice (fA i) (fL i).length (fc i)):=fun i hi=>by
  match i,hi with
  | 0,_=>rfl
  | 1,_=>rfl
 have hfact:∀ i,i<2→Stb (b::own v) w2 (fun w=>SlC (kI .i64) w (fA i) (fc i) (fL i)):=fun i hi=>by
  match i,hi with
  | 0,_=>exact HP2
  | 1,_=>exact HM2
 refine ec_loopE 0 (I:=(fun (i:Nat) ρ ds w'=>∃ (ρ':Env),ρ=envs ρ' [(14,.int .i64 (i:Int)),(0,.pointer (some ⟨b,0,none⟩)),(12,.slice (some ⟨b12,0,none⟩) 2 2),(13,.int .i64 2)]∧ds=[]∧WS B w2 b v (l++pre i) w')) ?_ (cnt_loop 2 2 0 rfl) ?_ ?_
 ·intro i z ρ1 ds1 wr hI hb
  obtain ⟨ρr,rfl,rfl,Wr⟩:=hI
  refine ec_sr ?_
  refine o_w (v:=.bool (decide ((i:Int)<2))) (r_int rfl rfl rfl) ?_
  refine eo_nil_sq ?_
  refine ec_seq ?_
  refine ec_cond rfl (fun hc=>?_) (fun hc=>?_)
  ·have hi:i<2:=by simp at hc; omega
   obtain rfl:=hb.1 hi
   refine ec_skip ?_
   refine sq_n ?_
   refine ec_seq ?_
   refine ec_block ?_
   refine ec_sr ?_
   refine o_w (v:=.pointer (some ⟨b12,i,none⟩)) (r_ia' slc_s_s_int rfl rfl (by omega) hi) ?_
   refine o_w (v:=.slice (fA i) (fL i).length (fc i)) (r_ld one_s_int rfl ((S12.fr Wr.1 sI).now.cell (hcell i hi))) ?_
   refine o_w (v:=.slice (fA i) (fL i).length (fc i)) (r_asg rfl) ?_
   refine eo_r ?_
   refine o_w (v:=.slice (fA i) (fL i).length (fc i)) (r_mov rfl) ?_
   refine o_w (v:=.int .i64 ((fL i).length:Int)) (r_len_slc un_s_int rfl) ?_
   refine o_w (v:=.int .i64 0) (r_mov rfl) ?_
   refine eo_nil_sq ?_
   refine ec_block ?_
   refine ec_loopE 2 (I:=(fun (j:Nat) ρ ds w'=>∃ (ρ':Env),ρ=envs ρ' [(20,.int .i64 (j:Int)),(0,.pointer (some ⟨b,0,none⟩)),(18,.slice (fA i) (fL i).length (fc i)),(19,.int .i64 ((fL i).length:Int)),(14,.int .i64 (i:Int)),(12,.slice (some ⟨b12,0,none⟩) 2 2),(13,.int .i64 2)]∧ds=[]∧WS B w2 b v (l++pre i++numsS ((fL i).take j)) w')) ?_ (cnt_loop (fL i).length (fL i).length 0 (by omega)) ?_ ?_
   ·intro j z2 ρ2 ds2 wq hI2 hb2
    obtain ⟨ρq,rfl,rfl,Wq⟩:=hI2
    refine ec_sr ?_
    refine o_w (v:=.bool (decide ((j:Int)<((fL i).length:Int)))) (r_int rfl rfl rfl) ?_
    refine eo_nil_sq ?_
    refine ec_seq ?_
    refine ec_cond rfl (fun hc2=>?_) (fun hc2=>?_)
    ·have hj:j<(fL i).length:=by simpa using hc2
     obtain rfl:=hb2.1 hj
     refine ec_skip ?_
     refine sq_n ?_
     refine ec_seq ?_
     refine ec_block ?_
     refine ec_seq ?_
     obtain ⟨cs,_,H⟩:=Stb.elem (by decide) ((hfact i hi).fr Wq.1 sI) (j:Int) (by omega) (by omega)
     obtain ⟨rfl,H'⟩:=kI_open2 H
     refine ec_region ?_
     refine o_w (r_ia slc_s_int rfl rfl (((hfact i hi).fr Wq.1 sI).now.2 _ (lt_toNat (i:=(j:Int)) (by omega) (by omega))).1 (by omega) (by omega)) ?_
     refine o_w (v:=.int .i64 (nth (fL i) (j:Int))) (r_ld' one_int rfl (elemA_spot _ _ _) (H'.now.1.at0 (elemA_spot _ _ _))) ?_
     refine o_w (v:=.int .i64 (nth (fL i) (j:Int))) (r_asg rfl) ?_
     refine eo_q ?_
     refine o_w (v:=.pointer (some ⟨b,0,none⟩)) (r_mov rfl) ?_
     refine o_w (v:=.int .i64 (nth (fL i) (j:Int))) (r_mov rfl) ?_
     have hn1:=numsS_len ((fL i).take j)
     have hn2:=hpl i (by omega)
     have hn3:=hfl i hi
     refine o_call cf_wnumber rfl (Wq.number (nth (fL i) (j:Int)) 2 (by simp only [List.length_append,List.length_take] at hn1 ⊢; omega)) rfl rfl ?_
     rintro _ w9 ⟨rfl,W9⟩
     refine eo_nil ?_
     refine blk_n ?_
     refine sq_n ?_
     refine ec_region ?_
     have e1:IntKind.i64.wrap ((j:Int) + (1:Int))=((j + 1:Nat):Int):=wrapS hj (by omega)
     refine o_w (v:=.int .i64 ((j + 1:Nat):Int)) (r_int rfl rfl (by show some (Value.int .i64 (IntKind.i64.wrap ((j:Int) + (1:Int))))=_; rw [e1])) ?_
     refine o_w (v:=.int .i64 ((j + 1:Nat):Int)) (r_mov rfl) ?_
     refine eo_nil ?_
     exact lq_n ⟨_,envs_self ⟨rfl,rfl,rfl,rfl,rfl,rfl,rfl,trivial⟩,rfl,by rw [numsS_snoc _ _ hj,← List.append_assoc]; exact W9⟩
    ·have hj:¬ j<(fL i).length:=by simpa using hc2
     obtain rfl:=hb2.2 hj
     refine ec_exit ?_
     refine sq_exit ?_
     exact lq_x ⟨_,envs_self ⟨rfl,rfl,rfl,rfl,rfl,rfl,rfl,trivial⟩,rfl,Wq⟩
   ·exact ⟨_,envs_self ⟨rfl,rfl,rfl,rfl,rfl,rfl,rfl,trivial⟩,rfl,by simpa [numsS] using Wr⟩
   ·rintro ρ3 ds3 w3 ⟨ρ3',rfl,rfl,W3⟩
    refine blk_hit ?_
    refine blk_n ?_
    refine sq_n ?_
    refine ec_region ?_
    have e1:IntKind.i64.wrap ((i:Int) + (1:Int))=((i + 1:Nat):Int):=wrapS hi (by omega)
    refine o_w (v:=.int .i64 ((i + 1:Nat):Int)) (r_int rfl rfl (by show some (Value.int .i64 (IntKind.i64.wrap ((i:Int) + (1:Int))))=_; rw [e1])) ?_
    refine o_w (v:=.int .i64 ((i + 1:Nat):Int)) (r_mov rfl) ?_
    refine eo_nil ?_
    exact lq_n ⟨_,envs_self ⟨rfl,rfl,rfl,rfl,trivial⟩,rfl,by rw [hpre i hi,← List.append_assoc]; rw [List.take_length] at W3; exact W3⟩
  ·have hi:¬ i<2:=by simp at hc; omega
   obtain rfl:=hb.2 hi
   refine ec_exit ?_
   refine sq_exit ?_
   exact lq_x ⟨_,envs_self ⟨rfl,rfl,rfl,rfl,trivial⟩,rfl,Wr⟩
 ·exact ⟨_,envs_self ⟨rfl,rfl,rfl,rfl,trivial⟩,rfl,by simpa [pre] using W2⟩
 ·rintro ρ3 ds3 w3 ⟨ρ3',rfl,rfl,W3⟩
  refine blk_hit ?_
  refine end0 ⟨_,rfl,rfl,WS.cons (F0.trans (Fr.ext (F3.trans F12))) (fun q hq=>hN q hq) ?_⟩
  simpa [pre,cntS] using W3

def regT (d:Val):Str:=(putO d.time 4).1++((putO d.node 1).1++((putO (bif d.dead then 1 else 0) 1).1++((putO (d.text.length:Int) 1).1++(d.text++zeros (8 - (d.text.length:Int))))))
def numsT (xs:List Int):Str:=xs.flatMap fun n=>(putO n 2).1
def cntT (d:Val):Str:=numsT d.plus++numsT d.minus
def flgT (d:Val):Str:=(putO (lowF d.flags) 4).1++(putO (highF d.flags) 4).1
theorem ints_app (a b:Str):ints (a++b)=ints a++ints b:=by simp [ints]
theorem regS_T (d:Val):regS d=ints (regT d):=by simp only [regS,regT,ints_app]
theorem numsS_T (xs:List Int):numsS xs=ints (numsT xs):=by simp [numsS,numsT,ints,List.map_flatMap]
theorem cntS_T (d:Val):cntS d=ints (cntT d):=by simp only [cntS,cntT,ints_app,numsS_T]
theorem flgS_T (d:Val):flgS d=ints (flgT d):=by simp only [flgS,flgT,ints_app]
theorem putO_len2 (n w:Int) (hw:0≤w):(putO n w).1.length≤w.toNat:=by
 unfold putO
 cases ((decide (w<1)||decide (7<w))||decide (n<0)) with
 | true=>simp
 | false =>
  cases decide (0<restF w.toNat n) with
  | true=>simp
  | false=>simp [bstr,bytesF_length]
theorem numsT_len:∀ (xs:List Int),(numsT xs).length≤2 * xs.length
 | []=>by simp [numsT]
 | n::xs=>by
  have h1:=numsT_len xs
  have h2:=putO_len2 n 2 (by decide)
  simp only [numsT,List.flatMap_cons,List.length_append,List.length_cons] at h1 ⊢
  have:(2:Int).toNat=2:=rfl
  omega
def valT (d:Val):Str:=bif d.kind==1 then regT d else bif d.kind==2 then cntT d else flgT d
def headT (e:Ent):Str:=(putO e.val.kind 1).1++((putO (e.key.length:Int) 1).1++(e.key++zeros (8 - (e.key.length:Int))))
def putT (e:Ent):Str:=headT e++(valT e.val++zeros (32 - ((valT e.val).length:Int)))
def putE (e:Ent):Str × Int:=bif okE e then (putT e,0) else ([],2)
theorem okE_val {e:Ent} (h:okE e=true):1≤e.key.length∧e.key.length≤8∧okV e.val=true:=by
 unfold okE at h
 simpa only [Bool.and_eq_true,decide_eq_true_eq] using h
theorem okV_kind {v:Val} (h:okV v=true):v.kind=1∨v.kind=2∨v.kind=3:=by
 unfold okV at h
 cases k1:v.kind==1 with
 | true=>exact .inl (by simpa using k1)
 | false =>
  cases k2:v.kind==2 with
  | true=>exact .inr (.inl (by simpa using k2))
  | false=>rw [k1,k2] at h; simp at h; exact .inr (.inr h.1)
theorem okV_text {v:Val} (h:okV v=true):v.kind=1→v.text.length≤8:=fun hk=>by
 unfold okV okR at h
 rw [hk] at h
 simp only [beq_self_eq_true,cond_true,Bool.and_eq_true,decide_eq_true_eq] at h
 exact h.2.2.2.2.1
theorem okV_8 {v:Val} (h:okV v=true):v.kind=2→v.plus.length=8∧v.minus.length=8:=fun hk=>(okV_cc h hk).2.2
theorem valT_len {e:Ent} (h:okE e=true):(valT e.val).length≤32:=by
 have hv:=(okE_val h).2.2
 unfold valT
 rcases okV_kind hv with hk | hk | hk <;> rw [hk]
 ·have ht:=okV_text hv hk
  have a1:=putO_len2 e.val.time 4 (by decide)
  have a2:=putO_len2 e.val.node 1 (by decide)
  have a3:=putO_len2 (bif e.val.dead then 1 else 0) 1 (by decide)
  have a4:=putO_len2 (e.val.text.length:Int) 1 (by decide)
  have:(4:Int).toNat=4:=rfl
  have:(1:Int).toNat=1:=rfl
  show (regT e.val).length≤32
  simp only [regT,List.length_append,zeros_len]
  omega
 ·obtain ⟨h1,h2⟩:=okV_8 hv hk
  have a1:=numsT_len e.val.plus
  have a2:=numsT_len e.val.minus
  show (cntT e.val).length≤32
  simp only [cntT,List.length_append]; omega
 ·have a1:=putO_len2 (lowF e.val.flags) 4 (by decide)
  have a2:=putO_len2 (highF e.val.flags) 4 (by decide)
  have:(4:Int).toNat=4:=rfl
  show (flgT e.val).length≤32
  simp only [flgT,List.length_append]; omega
theorem headT_len {e:Ent} (h:okE e=true):8≤(headT e).length∧(headT e).length≤10:=by
 obtain ⟨h1,h2,_⟩:=okE_val h
 have a1:=putO_len2 e.val.kind 1 (by decide)
 have a2:=putO_len2 (e.key.length:Int) 1 (by decide)
 have:(1:Int).toNat=1:=rfl
 simp only [headT,List.length_append,zeros_len]
 omega
theorem putT_len {e:Ent} (h:okE e=true):(putT e).length≤42:=by
 have h1:=headT_len h
 have h2:=valT_len h
 simp only [putT,List.length_append,zeros_len]; omega
theorem putT_ne {e:Ent} (h:okE e=true):putT e≠[]:=fun c=>by
 have h1:=headT_len h
 have:(putT e).length=0:=by rw [c]; rfl
 simp only [putT,List.length_append] at this; omega
theorem zero_writer:Zero Tryz.prog 98 (.agg #[.pointer none,.slice none 0 0]):=zero_of (show (Tryz.prog.info? 98).map (fun i=>(i.zero,i.size,i.bytes))=some (some (.agg #[.pointer none,.slice none 0 0]),2,32) by kernel_rfl)
theorem bld_writer:Bld Tryz.prog 98 [(0,2)] [.pointer none,.slice none 0 0]:=bld_struct zero_writer rfl Tryz.underlying98 (fun _=>by kernel_rfl)
theorem mp_kinds:Mp Tryz.prog 103 3 102 .i64:=⟨Tryz.underlying103,un_int⟩
theorem zero_func:Zero Tryz.prog 102 .nilFunc:=zero_of (show (Tryz.prog.info? 102).map (fun i=>(i.zero,i.size,i.bytes))=some (some .nilFunc,1,8) by kernel_rfl)
theorem cf_BStr:CF Tryz.prog 61:=fun _ _=>by kernel_rfl
theorem cf_wregister:CF Tryz.prog 58:=fun _ _=>by kernel_rfl
theorem cf_wcounter:CF Tryz.prog 59:=fun _ _=>by kernel_rfl
theorem cf_wflags:CF Tryz.prog 60:=fun _ _=>by kernel_rfl
def entry_Put_raw (d:Ent) (y:Str × Int):Prop:=sm d.val∧y=putE d
theorem entPut_ev (d:Ent) (h:sm d.val):entry_Put_raw d (putE d):=⟨h,rfl⟩
set_option maxRecDepth 20000 in
set_option maxHeartbeats 4000000 in
theorem entry_Put_c {L:List Nat} {w:World} {csP0:List Value} (d:Ent) (HP0:Stb L w (fun w=>kEnt.r w csP0 d)) (hL:Lt L w) {y:Str × Int} (h:entry_Put_raw d y) :
  Calls Tryz.prog 26 [.agg csP0.toArray].toArray w (Ret fun v w'=>Ext w w'∧v=.tuple #[str y.1,.int .i64 y.2]):=by
 obtain ⟨hsm,rfl⟩:=h
 have HP1:=HP0
 obtain ⟨A1,c1,A2,c2,rfl,H1,H2⟩:=kEnt_open HP0
 refine calls_ec Tryz.func26 rfl rfl rfl ?_
 refine ec_sr ?_
 refine o_box (cs:=(cEnt d A1 c1 A2 c2)) rfl rfl rfl ?_
 intro b1 w1 e1 F1 B1
 refine o_w (v:=str []) (r_asg rfl) ?_
 refine o_w (v:=.int .i64 0) (r_asg rfl) ?_
 refine eo_nil_sq ?_
 refine ec_seq ?_
 refine ec_sr ?_
 refine o_w (v:=.agg (cEnt d A1 c1 A2 c2).toArray) (r_lda agg_api_Entry rfl (vs:=(cEnt d A1 c1 A2 c2)) rfl (B1.part (o:=0) (n:=9) rfl)) ?_
 refine o_call cf_entry_Check rfl (entry_Check_c d (HP1.ex F1) (hL.fr F1) (entCheck_ev d hsm)) rfl rfl ?_
 rintro _ w2 ⟨F2,rfl⟩
 refine o_w (v:=.bool (!okE d)) (r_int rfl rfl (by show some (Value.bool (checkE d != 0))=_; rw [checkE_ne])) ?_
 refine eo_nil_sq ?_
 refine ec_cond rfl (fun ho=>?_) (fun ho=>?_)
 ·refine ec_seq ?_
  refine ec_region ?_
  refine o_w (v:=str []) (r_asg rfl) ?_
  refine o_w (v:=.int .i64 2) (r_asg rfl) ?_
  refine eo_nil_sq ?_
  refine ec_ret ?_
  refine sq_ret ?_
  have ho':okE d=false:=by simpa using ho
  exact end2 rfl rfl ⟨_,rfl,F1.trans F2,by unfold putE; rw [ho']; rfl⟩
 replace ho:okE d=true:=by simpa using ho
 obtain ⟨hk1,hk8,hov⟩:=okE_val ho
 refine ec_skip ?_
 refine sq_n ?_
 refine ec_sr ?_
 refine o_w (v:=.agg #[.pointer none,.slice none 0 0]) (r_build bld_writer (vs:=[]) (cells:=[.pointer none,.slice none 0 0]) rfl rfl) ?_
 refine o_box (cs:=[.pointer none,.slice none 0 0]) rfl rfl rfl ?_
 intro bw w3 e3 F3 B3
 refine o_w (v:=.pointer (some ⟨bw,0,none⟩)) (r_asg rfl) ?_
 have Eb:Ext w w3:=(F1.trans F2).trans F3
 have hbw:w.heap.size≤bw:=by rw [e3]; exact (F1.trans F2).size
 have hne:b1≠bw:=by have:=B1.lt; have:=F2.size; omega
 have W0:WS w3.heap.size w3 bw (.slice none 0 0) [] w3:=WS.start B3 (.inl rfl) (OwnS.nil (by decide) (fun m hm=>by rw [List.mem_singleton] at hm; rw [hm]; exact B3.lt)) (Fr.refl _ _)
 have S1w:∀ w',Fr (bw::own (.slice none 0 0)) w3 w'→Blk w' b1 55 (cEnt d A1 c1 A2 c2):=fun w' f=>(B1.ex (F2.trans F3)).fr f (fun hm=>by
  rcases List.mem_cons.1 hm with h | h
  ·exact hne h
  ·cases h)
 have hup:∀ q∈bw::own (.slice none 0 0),q∈L∨w.heap.size≤q:=fun q hq=>by
  rcases List.mem_cons.1 hq with rfl | hq
  ·exact .inr hbw
  ·cases hq
 have H1':=H1.up Eb (fun _ hm=>by cases hm) hup
 have H2':=H2.up Eb (fun _ hm=>by cases hm) hup
 refine eo_r ?_
 refine o_w (v:=.pointer (some ⟨bw,0,none⟩)) (r_mov rfl) ?_
 refine o_w (v:=.pointer (some ⟨b1,1,none⟩)) (r_fa fld_api_Entry_1 rfl rfl) ?_
 refine o_w (v:=.pointer (some ⟨b1,1,none⟩)) (r_fa fld_api_Value_0 rfl rfl) ?_
 refine o_w (v:=.int .i64 d.val.kind) (r_ld one_int rfl ((S1w _ W0.1).cell rfl)) ?_
 refine o_call cf_wnumber rfl (W0.number d.val.kind 1 (by simp)) rfl rfl ?_
 rintro _ w4 ⟨rfl,W1⟩
 refine eo_r ?_
 refine o_w (v:=.pointer (some ⟨bw,0,none⟩)) (r_mov rfl) ?_
 refine o_w (v:=.pointer (some ⟨b1,0,none⟩)) (r_fa fld_api_Entry_0 rfl rfl) ?_
 refine o_w (v:=str d.key) (r_ld one_string rfl ((S1w _ W1.1).cell rfl)) ?_
 refine o_w (v:=.int .i64 (d.key.length:Int)) (r_len_str un_string rfl) ?_
 have q1:=putO_len d.val.kind 1
 have q2:=putO_len (d.key.length:Int) 1
 refine o_call cf_wnumber rfl (W1.number (d.key.length:Int) 1 (by simp only [List.length_append,ints_length,List.length_nil]; omega)) rfl rfl ?_
 rintro _ w4 ⟨rfl,W2⟩
 refine eo_r ?_
 refine o_w (v:=.pointer (some ⟨bw,0,none⟩)) (r_mov rfl) ?_
 refine o_w (v:=.pointer (some ⟨b1,0,none⟩)) (r_fa fld_api_Entry_0 rfl rfl) ?_
 refine o_w (v:=str d.key) (r_ld one_string rfl ((S1w _ W2.1).cell rfl)) ?_
 refine o_call cf_wtext rfl (W2.text d.key 8 (by simp only [List.length_append,ints_length,List.length_nil]; omega) (by omega) (by omega)) rfl rfl ?_
 rintro _ w4 ⟨rfl,W3⟩
 let T0:Str:=headT d
 have hT0l:T0.length≤10:=(headT_len ho).2
 have hT0:∀ x:List Int,x=[]++ints (putO d.val.kind 1).1++ints (putO (d.key.length:Int) 1).1++(ints d.key++ints (zeros (8 - (d.key.length:Int))))→x=ints T0:=fun x e=>by rw [e]; simp [T0,headT,ints]
 rw [hT0 _ rfl] at W3
 clear hT0
 have hT0:ints T0=ints T0:=rfl
 refine eo_r ?_
 refine o_w (v:=.pointer (some ⟨bw,0,none⟩)) (r_mov rfl) ?_
 refine o_w (v:=.pointer (some ⟨bw,0,none⟩)) (r_nilchk rfl) ?_
 refine o_w (v:=.pointer (some ⟨bw,0,none⟩)) (r_fa fld_writer_0 rfl rfl) ?_
 refine o_call cf_BLen rfl W3.len rfl rfl ?_
 rintro _ w5 ⟨F5,rfl⟩
 have hadd:IntKind.i64.wrap (((ints T0).length:Int) + 32)=(T0.length:Int) + 32:=by rw [ints_length,wrap64 (by omega) (by omega)]
 refine o_w (v:=.int .i64 ((T0.length:Int) + 32)) (r_int rfl rfl (by show some (Value.int .i64 (IntKind.i64.wrap (((ints T0).length:Int) + 32)))=_; rw [hadd])) ?_
 refine o_w (v:=.int .i64 ((T0.length:Int) + 32)) (r_asg rfl) ?_
 have W4:=W3.ex F5
 refine eo_r ?_
 refine o_mkmap (enc:=fun v:Value=>v) (k:=.i64) rfl rfl ?_
 intro bm wm em Fm LM1
 refine o_w (v:=.pointer (some ⟨bw,0,none⟩)) (r_mov rfl) ?_
 refine o_w (v:=.func (.func 58) #[.pointer (some ⟨bw,0,none⟩)] #[]) (r_mkfb (us:=[.pointer (some ⟨bw,0,none⟩)]) (vs:=[]) rfl rfl) ?_
 refine o_insert mp_kinds LM1 (x:=.func (.func 58) #[.pointer (some ⟨bw,0,none⟩)] #[]) rfl rfl rfl rfl rfl ?_
 intro wm1 Fm1 LM2
 refine o_w (v:=.pointer (some ⟨bw,0,none⟩)) (r_mov rfl) ?_
 refine o_w (v:=.func (.func 59) #[.pointer (some ⟨bw,0,none⟩)] #[]) (r_mkfb (us:=[.pointer (some ⟨bw,0,none⟩)]) (vs:=[]) rfl rfl) ?_
 refine o_insert mp_kinds LM2 (x:=.func (.func 59) #[.pointer (some ⟨bw,0,none⟩)] #[]) rfl rfl rfl rfl rfl ?_
 intro wm2 Fm2 LM3
 refine o_w (v:=.pointer (some ⟨bw,0,none⟩)) (r_mov rfl) ?_
 refine o_w (v:=.func (.func 60) #[.pointer (some ⟨bw,0,none⟩)] #[]) (r_mkfb (us:=[.pointer (some ⟨bw,0,none⟩)]) (vs:=[]) rfl rfl) ?_
 refine o_insert mp_kinds LM3 (x:=.func (.func 60) #[.pointer (some ⟨bw,0,none⟩)] #[]) rfl rfl rfl rfl rfl ?_
 intro wm3 Fm3 LM4
 have hbm:∀ m∈[bm],w5.heap.size≤m:=fun m hm=>by rw [List.mem_singleton] at hm; rw [hm,em]; exact Nat.le_refl _
 have W5:=W4.ex (Ext.st (Ext.st (Ext.st Fm Fm1 hbm) Fm2 hbm) Fm3 hbm)
 refine o_w (v:=.map (some bm)) (r_mov rfl) ?_
 refine o_w (v:=.map (some bm)) (r_asg rfl) ?_
 refine eo_r ?_
 refine o_w (v:=.map (some bm)) (r_mov rfl) ?_
 refine o_w (v:=.pointer (some ⟨b1,1,none⟩)) (r_fa fld_api_Entry_1 rfl rfl) ?_
 refine o_w (v:=.pointer (some ⟨b1,1,none⟩)) (r_fa fld_api_Value_0 rfl rfl) ?_
 refine o_w (v:=.int .i64 d.val.kind) (r_ld one_int rfl ((S1w _ W5.1).cell rfl)) ?_
 rcases okV_kind hov with hk | hk | hk
 ·refine o_w (v:=.func (.func 58) #[.pointer (some ⟨bw,0,none⟩)] #[]) (r_lookupV (enc:=fun v:Value=>v) (z:=.nilFunc) mp_kinds zero_func LM4 rfl (by show ev _ _=.int .i64 d.val.kind; rfl) (by rw [hk]; rfl)) ?_
  refine o_w (v:=.pointer (some ⟨b1,1,none⟩)) (r_fa fld_api_Entry_1 rfl rfl) ?_
  refine o_w (v:=.agg (cVal d.val A1 c1 A2 c2).toArray) (r_lda agg_api_Value rfl (vs:=cVal d.val A1 c1 A2 c2) rfl ((S1w _ W5.1).part (o:=1) (n:=8) rfl)) ?_
  refine o_callb (us:=[.pointer (some ⟨bw,0,none⟩)]) (vs:=[.agg (cVal d.val A1 c1 A2 c2).toArray]) (caps:=[]) cf_wregister rfl rfl (W5.register d.val (by rw [hT0,ints_length]; omega) (okV_text hov hk)) rfl rfl ?_
  rintro _ w6 ⟨rfl,W6⟩
  refine eo_r ?_
  refine o_w (v:=.pointer (some ⟨bw,0,none⟩)) (r_mov rfl) ?_
  refine o_w (v:=.int .i64 ((T0.length:Int) + 32)) (r_mov rfl) ?_
  refine o_w (v:=.pointer (some ⟨bw,0,none⟩)) (r_mov rfl) ?_
  refine o_w (v:=.pointer (some ⟨bw,0,none⟩)) (r_nilchk rfl) ?_
  refine o_w (v:=.pointer (some ⟨bw,0,none⟩)) (r_fa fld_writer_0 rfl rfl) ?_
  refine o_call cf_BLen rfl W6.len rfl rfl ?_
  rintro _ w7 ⟨F7,rfl⟩
  have hv:(valT d.val).length≤32:=valT_len ho
  have hvt:regS d.val=ints (valT d.val):=by rw [regS_T]; unfold valT; rw [hk]; rfl
  have hln:((ints T0++regS d.val).length:Int)=(T0.length:Int) + ((valT d.val).length:Int):=by rw [hvt,List.length_append,ints_length,ints_length]; omega
  have hsb:IntKind.i64.wrap (((T0.length:Int) + 32) - ((ints T0++regS d.val).length:Int))=32 - ((valT d.val).length:Int):=by rw [hln,wrap64 (by omega) (by omega)]; omega
  refine o_w (v:=.int .i64 (32 - ((valT d.val).length:Int))) (r_int rfl rfl (by show some (Value.int .i64 (IntKind.i64.wrap (((T0.length:Int) + 32) - ((ints T0++regS d.val).length:Int))))=_; rw [hsb])) ?_
  refine o_call cf_wtext rfl ((W6.ex F7).text [] (32 - ((valT d.val).length:Int)) (by rw [hvt,List.length_append,ints_length,ints_length]; omega) (by simp; omega) (by omega)) rfl rfl ?_
  rintro _ w8 ⟨rfl,W8⟩
  refine eo_r ?_
  refine o_w (v:=.pointer (some ⟨bw,0,none⟩)) (r_mov rfl) ?_
  refine o_w (v:=.pointer (some ⟨bw,0,none⟩)) (r_nilchk rfl) ?_
  refine o_w (v:=.pointer (some ⟨bw,0,none⟩)) (r_fa fld_writer_0 rfl rfl) ?_
  have hfin:ints T0++regS d.val++(ints []++ints (zeros ((32 - ((valT d.val).length:Int)) - (([]:Str).length:Int))))=ints (putT d):=by
   rw [hvt]; unfold putT; simp [ints,T0,headT]
  rw [hfin] at W8
  obtain ⟨F8,p8,v8,B8,_,O8,N8⟩:=W8
  refine o_call cf_BStr rfl (bstr_c B8 O8 (by simp) (putT_ne ho) (by have:=putT_len ho; omega)) rfl rfl ?_
  rintro _ w9 ⟨F9,rfl⟩
  refine o_w (v:=str (putT d)) (r_asg rfl) ?_
  refine o_w (v:=.int .i64 0) (r_asg rfl) ?_
  refine eo_nil_sq ?_
  refine ec_ret ?_
  refine end2 rfl rfl ⟨_,rfl,?_,by unfold putE; rw [ho]; rfl⟩
  have E8:Ext w w8:=Ext.st Eb F8 (fun m hm=>by
   rcases List.mem_cons.1 hm with rfl | hm
   ·exact hbw
   ·cases hm)
  exact Ext.st E8 F9 (fun m hm=>by
   rcases N8 m hm with h | h
   ·cases h
   ·exact Nat.le_trans Eb.size h)
 ·refine o_w (v:=.func (.func 59) #[.pointer (some ⟨bw,0,none⟩)] #[]) (r_lookupV (enc:=fun v:Value=>v) (z:=.nilFunc) mp_kinds zero_func LM4 rfl (by show ev _ _=.int .i64 d.val.kind; rfl) (by rw [hk]; rfl)) ?_
  refine o_w (v:=.pointer (some ⟨b1,1,none⟩)) (r_fa fld_api_Entry_1 rfl rfl) ?_
  refine o_w (v:=.agg (cVal d.val A1 c1 A2 c2).toArray) (r_lda agg_api_Value rfl (vs:=cVal d.val A1 c1 A2 c2) rfl ((S1w _ W5.1).part (o:=1) (n:=8) rfl)) ?_
  refine o_callb (us:=[.pointer (some ⟨bw,0,none⟩)]) (vs:=[.agg (cVal d.val A1 c1 A2 c2).toArray]) (caps:=[]) cf_wcounter rfl rfl (W5.counter d.val (by rw [hT0,ints_length]; omega) (by have:=okV_8 hov hk; omega) (by have:=okV_8 hov hk; omega) H1' H2') rfl rfl ?_
  rintro _ w6 ⟨rfl,W6⟩
  refine eo_r ?_
  refine o_w (v:=.pointer (some ⟨bw,0,none⟩)) (r_mov rfl) ?_
  refine o_w (v:=.int .i64 ((T0.length:Int) + 32)) (r_mov rfl) ?_
  refine o_w (v:=.pointer (some ⟨bw,0,none⟩)) (r_mov rfl) ?_
  refine o_w (v:=.pointer (some ⟨bw,0,none⟩)) (r_nilchk rfl) ?_
  refine o_w (v:=.pointer (some ⟨bw,0,none⟩)) (r_fa fld_writer_0 rfl rfl) ?_
  refine o_call cf_BLen rfl W6.len rfl rfl ?_
  rintro _ w7 ⟨F7,rfl⟩
  have hv:(valT d.val).length≤32:=valT_len ho
  have hvt:cntS d.val=ints (valT d.val):=by rw [cntS_T]; unfold valT; rw [hk]; rfl
  have hln:((ints T0++cntS d.val).length:Int)=(T0.length:Int) + ((valT d.val).length:Int):=by rw [hvt,List.length_append,ints_length,ints_length]; omega
  have hsb:IntKind.i64.wrap (((T0.length:Int) + 32) - ((ints T0++cntS d.val).length:Int))=32 - ((valT d.val).length:Int):=by rw [hln,wrap64 (by omega) (by omega)]; omega
  refine o_w (v:=.int .i64 (32 - ((valT d.val).length:Int))) (r_int rfl rfl (by show some (Value.int .i64 (IntKind.i64.wrap (((T0.length:Int) + 32) - ((ints T0++cntS d.val).length:Int))))=_; rw [hsb])) ?_
  refine o_call cf_wtext rfl ((W6.ex F7).text [] (32 - ((valT d.val).length:Int)) (by rw [hvt,List.length_append,ints_length,ints_length]; omega) (by simp; omega) (by omega)) rfl rfl ?_
  rintro _ w8 ⟨rfl,W8⟩
  refine eo_r ?_
  refine o_w (v:=.pointer (some ⟨bw,0,none⟩)) (r_mov rfl) ?_
  refine o_w (v:=.pointer (some ⟨bw,0,none⟩)) (r_nilchk rfl) ?_
  refine o_w (v:=.pointer (some ⟨bw,0,none⟩)) (r_fa fld_writer_0 rfl rfl) ?_
  have hfin:ints T0++cntS d.val++(ints []++ints (zeros ((32 - ((valT d.val).length:Int)) - (([]:Str).length:Int))))=ints (putT d):=by
   rw [hvt]; unfold putT; simp [ints,T0,headT]
  rw [hfin] at W8
  obtain ⟨F8,p8,v8,B8,_,O8,N8⟩:=W8
  refine o_call cf_BStr rfl (bstr_c B8 O8 (by simp) (putT_ne ho) (by have:=putT_len ho; omega)) rfl rfl ?_
  rintro _ w9 ⟨F9,rfl⟩
  refine o_w (v:=str (putT d)) (r_asg rfl) ?_
  refine o_w (v:=.int .i64 0) (r_asg rfl) ?_
  refine eo_nil_sq ?_
  refine ec_ret ?_
  refine end2 rfl rfl ⟨_,rfl,?_,by unfold putE; rw [ho]; rfl⟩
  have E8:Ext w w8:=Ext.st Eb F8 (fun m hm=>by
   rcases List.mem_cons.1 hm with rfl | hm
   ·exact hbw
   ·cases hm)
  exact Ext.st E8 F9 (fun m hm=>by
   rcases N8 m hm with h | h
   ·cases h
   ·exact Nat.le_trans Eb.size h)
 ·refine o_w (v:=.func (.func 60) #[.pointer (some ⟨bw,0,none⟩)] #[]) (r_lookupV (enc:=fun v:Value=>v) (z:=.nilFunc) mp_kinds zero_func LM4 rfl (by show ev _ _=.int .i64 d.val.kind; rfl) (by rw [hk]; rfl)) ?_
  refine o_w (v:=.pointer (some ⟨b1,1,none⟩)) (r_fa fld_api_Entry_1 rfl rfl) ?_
  refine o_w (v:=.agg (cVal d.val A1 c1 A2 c2).toArray) (r_lda agg_api_Value rfl (vs:=cVal d.val A1 c1 A2 c2) rfl ((S1w _ W5.1).part (o:=1) (n:=8) rfl)) ?_
  refine o_callb (us:=[.pointer (some ⟨bw,0,none⟩)]) (vs:=[.agg (cVal d.val A1 c1 A2 c2).toArray]) (caps:=[]) cf_wflags rfl rfl (W5.flags d.val (by rw [hT0,ints_length]; omega) ) rfl rfl ?_
  rintro _ w6 ⟨rfl,W6⟩
  refine eo_r ?_
  refine o_w (v:=.pointer (some ⟨bw,0,none⟩)) (r_mov rfl) ?_
  refine o_w (v:=.int .i64 ((T0.length:Int) + 32)) (r_mov rfl) ?_
  refine o_w (v:=.pointer (some ⟨bw,0,none⟩)) (r_mov rfl) ?_
  refine o_w (v:=.pointer (some ⟨bw,0,none⟩)) (r_nilchk rfl) ?_
  refine o_w (v:=.pointer (some ⟨bw,0,none⟩)) (r_fa fld_writer_0 rfl rfl) ?_
  refine o_call cf_BLen rfl W6.len rfl rfl ?_
  rintro _ w7 ⟨F7,rfl⟩
  have hv:(valT d.val).length≤32:=valT_len ho
  have hvt:flgS d.val=ints (valT d.val):=by rw [flgS_T]; unfold valT; rw [hk]; rfl
  have hln:((ints T0++flgS d.val).length:Int)=(T0.length:Int) + ((valT d.val).length:Int):=by rw [hvt,List.length_append,ints_length,ints_length]; omega
  have hsb:IntKind.i64.wrap (((T0.length:Int) + 32) - ((ints T0++flgS d.val).length:Int))=32 - ((valT d.val).length:Int):=by rw [hln,wrap64 (by omega) (by omega)]; omega
  refine o_w (v:=.int .i64 (32 - ((valT d.val).length:Int))) (r_int rfl rfl (by show some (Value.int .i64 (IntKind.i64.wrap (((T0.length:Int) + 32) - ((ints T0++flgS d.val).length:Int))))=_; rw [hsb])) ?_
  refine o_call cf_wtext rfl ((W6.ex F7).text [] (32 - ((valT d.val).length:Int)) (by rw [hvt,List.length_append,ints_length,ints_length]; omega) (by simp; omega) (by omega)) rfl rfl ?_
  rintro _ w8 ⟨rfl,W8⟩
  refine eo_r ?_
  refine o_w (v:=.pointer (some ⟨bw,0,none⟩)) (r_mov rfl) ?_
  refine o_w (v:=.pointer (some ⟨bw,0,none⟩)) (r_nilchk rfl) ?_
  refine o_w (v:=.pointer (some ⟨bw,0,none⟩)) (r_fa fld_writer_0 rfl rfl) ?_
  have hfin:ints T0++flgS d.val++(ints []++ints (zeros ((32 - ((valT d.val).length:Int)) - (([]:Str).length:Int))))=ints (putT d):=by
   rw [hvt]; unfold putT; simp [ints,T0,headT]
  rw [hfin] at W8
  obtain ⟨F8,p8,v8,B8,_,O8,N8⟩:=W8
  refine o_call cf_BStr rfl (bstr_c B8 O8 (by simp) (putT_ne ho) (by have:=putT_len ho; omega)) rfl rfl ?_
  rintro _ w9 ⟨F9,rfl⟩
  refine o_w (v:=str (putT d)) (r_asg rfl) ?_
  refine o_w (v:=.int .i64 0) (r_asg rfl) ?_
  refine eo_nil_sq ?_
  refine ec_ret ?_
  refine end2 rfl rfl ⟨_,rfl,?_,by unfold putE; rw [ho]; rfl⟩
  have E8:Ext w w8:=Ext.st Eb F8 (fun m hm=>by
   rcases List.mem_cons.1 hm with rfl | hm
   ·exact hbw
   ·cases hm)
  exact Ext.st E8 F9 (fun m hm=>by
   rcases N8 m hm with h | h
   ·cases h
   ·exact Nat.le_trans Eb.size h)
end Go.Proofs.YtdfjbkoimpjkaaaGreat