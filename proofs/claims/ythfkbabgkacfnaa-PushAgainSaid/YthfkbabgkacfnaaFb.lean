/- Buffers: some slots. -/
import Derived.Test.YthfkbabgkacfnaaFj
namespace Go.Proofs.Ythfkbabgkacfnaa
open Go Go.RowKit
set_option linter.unusedVariables false
set_option linter.unusedSimpArgs false
def buffer_Some_b50 (d1:Arena) (s50:List Ent) (y50:Nm) (z50:(List Ent) ⊕ (List Ent)):Prop :=
 sma d1∧((0≤(findA d1 y50.kind y50.key)∧(findA d1 y50.kind y50.key)<(d1.slots.length:Int))∧((s50.length + 1≤9223372036854775807∧(s50.length + 1) * 120≤140737488355328)∧(z50=.inl (s50++([(nth d1.slots (findA d1 y50.kind y50.key))]:List Ent)))))
def buffer_Some_raw (d0:Buf) (d1:Arena) (d2:Int) (d3:Int) (y:(List Ent)):Prop :=
 ∃ x24,buffer_Mend_raw d0 d1 d2 x24∧(((x24).names.length≤1000000)∧(∃ x50,ItR (buffer_Some_b50 d1) ([]:List Ent) ((x24).names.take (d3).toNat) x50∧(∀ sx50,x50=.inl sx50→(y=sx50))∧(∀ yx50,x50=.inr yx50→False)))
set_option maxRecDepth 20000 in
set_option maxHeartbeats 4000000 in
theorem buffer_Some_c {L:List Nat} {w:World} {csP0:List Value} (d0:Buf) (HP0:Stb L w (fun w=>kBuf.r w csP0 d0)) {csP1:List Value} (d1:Arena) (HP1:Stb L w (fun w=>kArena.r w csP1 d1)) (d2:Int) (d3:Int) (hL:Lt L w) {y:(List Ent)} (h:buffer_Some_raw d0 d1 d2 d3 y) :
  Calls Try.prog 29 [.agg csP0.toArray,.agg csP1.toArray,.int .i64 d2,.int .i64 d3].toArray w (Ret fun v w'=>Ext w w'∧∃ (A90:Option Addr) (c90:Nat),v=.slice A90 (y).length c90∧Stb L w' (fun w=>SlC kEnt w A90 c90 y)):=by
 obtain ⟨A1,c2,rfl,H3⟩:=kBuf_open HP0
 obtain ⟨A4,c5,A7,c8,rfl,H6,H9⟩:=kArena_open HP1
 unfold buffer_Some_raw at h
 refine calls_ecM Try.func29 rfl rfl rfl ?_
 refine ec_seq ?_
 refine ec_region ?_
 refine o_box (cs:=(cBuf d0 A1 c2)) rfl rfl rfl ?_
 intro b10 w10 e10 F10 B10
 have S10:=B10.stb (nin hL e10)
 have G11:Fr L w w10:=Fr.ext F10
 refine o_box (cs:=(cArena d1 A4 c5 A7 c8)) rfl rfl rfl ?_
 intro b12 w12 e12 F12 B12
 have S12:=B12.stb (nin (hL.fr F10) e12)
 have E13:=F10.trans F12
 have G15:Fr L w10 w12:=Fr.ext F12
 refine o_w (v:=.slice none ([]:List Ent).length 0) (r_asg rfl) ?_
 refine eo_nil_sq ?_
 refine ec_seq ?_
 refine ec_region ?_
 refine o_alloc zero_s_api_Entry rfl rfl rfl ?_
 intro b16 w16 e16 F16 B16
 have n16:w.heap.size≤b16:=by rw [e16]; exact E13.size
 have m17:w.heap.size≤b16:=by rw [e16]; exact (G11.trans (Fr.ext F12)).size
 have m19:w12.heap.size≤b16:=Nat.le_of_eq e16.symm
 have E20:=E13.trans F16
 have G23:Fr L w12 w16:=Fr.ext F16
 refine eo_nil_sq ?_
 iterate 2 refine ec_seq ?_
 refine ec_region ?_
 refine o_w (v:=.agg (cBuf d0 A1 c2).toArray) (r_lda agg_buffer_Buffer rfl (vs:=(cBuf d0 A1 c2)) rfl ((S10.fr (G15.trans (Fr.ext F16)) (fun _ h=>h)).now.part (n:=3) rfl)) ?_
 refine o_w (v:=.agg (cArena d1 A4 c5 A7 c8).toArray) (r_lda agg_api_Arena rfl (vs:=(cArena d1 A4 c5 A7 c8)) rfl ((S12.fr G23 (fun _ h=>h)).now.part (n:=3) rfl)) ?_
 refine o_w (v:=.int .i64 d2) (r_mov rfl) ?_
 obtain ⟨x24,hx24,h⟩:=h
 refine o_call cf_buffer_Mend rfl (buffer_Mend_c d0 (kBuf_mk (d:=d0) (H3.up ((G11.trans (Fr.ext F12)).trans (Fr.ext F16)) (fun _ h=>h) (upc (.inr m17) (fun _ h=>.inl h)))) d1 (kArena_mk (d:=d1) (H6.up ((G11.trans (Fr.ext F12)).trans (Fr.ext F16)) (fun _ h=>h) (upc (.inr m17) (fun _ h=>.inl h))) (H9.up ((G11.trans (Fr.ext F12)).trans (Fr.ext F16)) (fun _ h=>h) (upc (.inr m17) (fun _ h=>.inl h)))) d2 ((hL.fr E20).cons B16.lt) hx24) rfl rfl ?_
 rintro _ w24 ⟨F24,cs25,rfl,H26⟩
 have E27:=E20.trans F24
 obtain ⟨A32,c33,rfl,H34⟩:=kBuf_open H26
 refine o_w (v:=.int .i64 d3) (r_mov rfl) ?_
 refine o_inl (vs:=[.agg (cBuf x24 A32 c33).toArray,.int .i64 d3]) (caps:=[]) cf_buffer_Buffer_first rfl rfl rfl rfl ?_
 refine calls_ec Try.func52 rfl rfl rfl ?_
 refine ec_seq ?_
 refine ec_region ?_
 refine o_box (cs:=(cBuf x24 A32 c33)) rfl rfl rfl ?_
 intro b35 w35 e35 F35 B35
 have S35:=B35.stb (nin ((hL.fr E27).cons (B16.ex F24).lt) e35)
 have E36:=E27.trans F35
 have G37:=(((G11.trans (Fr.ext F12)).trans (Fr.ext F16)).trans (Fr.ext F24)).trans (Fr.ext F35)
 have G40:Fr (b16::L) w24 w35:=Fr.ext F35
 refine o_box (cs:=[.int .i64 d3]) rfl rfl rfl ?_
 intro b42 w42 e42 F42 B42
 have S42:=B42.stb (nin ((hL.fr E36).cons ((B16.ex F24).ex F35).lt) e42)
 have E43:=E36.trans F42
 have G48:Fr (b16::L) w35 w42:=Fr.ext F42
 refine o_w (v:=.nilFunc) (r_asg rfl) ?_
 refine eo_nil_sq ?_
 refine ec_seq ?_
 refine ec_region ?_
 refine o_w (r_mkfn' (vs:=[.pointer (some ⟨b35,0,none⟩),.pointer (some ⟨b42,0,none⟩)]) rfl) ?_
 refine o_w (v:=.func (.func 61) #[] #[.pointer (some ⟨b35,0,none⟩),.pointer (some ⟨b42,0,none⟩)]) (r_asg rfl) ?_
 refine eo_nil_sq ?_
 refine ec_ret ?_
 refine end1 (v:=.func (.func 61) #[] #[.pointer (some ⟨b35,0,none⟩),.pointer (some ⟨b42,0,none⟩)]) rfl ⟨_,rfl,?_⟩
 refine eo_nil_sq ?_
 refine ec_block ?_
 obtain ⟨ha51,h⟩:=h
 refine ec_range (ps:=[17]) (gf:=61) (lb:=[.pointer (some ⟨b35,0,none⟩),.pointer (some ⟨b42,0,none⟩)]) rfl cf_buffer_Buffer_first_1 ?_
 intro D50 l50 rec50 w50 eD50 e50 hr50 F50 BD50 BL50
 have n50:w.heap.size≤D50:=by rw [eD50]; exact E43.size
 have nl50:w.heap.size≤l50:=by omega
 have nd50:D50<l50:=by omega
 have q52:b16<D50:=by rw [eD50]; exact (((B16.ex F24).ex F35).ex F42).lt
 have m53:w.heap.size≤D50:=by rw [eD50]; exact (G37.trans (Fr.ext F42)).size
 have m54:w.heap.size≤l50:=by omega
 have m57:w12.heap.size≤D50:=by rw [eD50]; exact (((G23.trans (Fr.ext F24)).trans (Fr.ext F35)).trans (Fr.ext F42)).size
 have m58:w12.heap.size≤l50:=by omega
 have m59:w24.heap.size≤D50:=by rw [eD50]; exact (G40.trans (Fr.ext F42)).size
 have m60:w24.heap.size≤l50:=by omega
 have m61:w35.heap.size≤D50:=by rw [eD50]; exact G48.size
 have m62:w35.heap.size≤l50:=by omega
 have m63:w42.heap.size≤D50:=Nat.le_of_eq eD50.symm
 have m64:w42.heap.size≤l50:=by omega
 have E65:=E43.trans F50
 have G68:=(((G23.trans (Fr.ext F24)).trans (Fr.ext F35)).trans (Fr.ext F42)).trans (Fr.ext F50)
 have G71:Fr (b16::L) w42 w50:=Fr.ext F50
 have lo73:w.heap.size≤w50.heap.size:=E65.size
 have O73:=OwnS.nil (k:=kEnt) (e:=48) (by decide) ((((hL.fr E65).cons ((((B16.ex F24).ex F35).ex F42).ex F50).lt).cons BD50.lt).cons BL50.lt)
 obtain ⟨x50,hl50,h⟩:=h
 refine range_run (S:=List Ent) (R:=List Ent) (first_it x24 (S35.up (G48.trans (Fr.ext F50)) (fun _ h=>h) (upo (fun m hm=>by cases hm) (upc (.inr m62) (upc (.inr m61) (upc (.inl (List.Mem.head _)) (fun m hm=>Or.inl (List.Mem.tail _ hm))))))) (kBuf_mk (d:=x24) (H34.up ((G40.trans (Fr.ext F42)).trans (Fr.ext F50)) (fun _ h=>h) (upo (fun m hm=>by cases hm) (upc (.inr m60) (upc (.inr m59) (upc (.inl (List.Mem.head _)) (fun m hm=>Or.inl (List.Mem.tail _ hm)))))))) d3 (S42.up G71 (fun _ h=>h) (upo (fun m hm=>by cases hm) (upc (.inr m64) (upc (.inr m63) (upc (.inl (List.Mem.head _)) (fun m hm=>Or.inl (List.Mem.tail _ hm))))))) (((((hL.fr E65).cons ((((B16.ex F24).ex F35).ex F42).ex F50).lt).cons BD50.lt).cons BL50.lt).own O73) ha51) (fun (s50:List Ent) T w'=>∃ (v50i1:Value),T=(own v50i1++(l50::(D50::(b16::L))))∧Fr (own (.slice none 0 0)++(l50::(D50::(b16::L)))) w50 w'∧Ext w w'∧OwnS kEnt (w50.heap.size) 48 (l50::(D50::(b16::L))) w' v50i1 s50∧(∀ q∈own v50i1,q∈(own (.slice none 0 0)++(l50::(D50::(b16::L))))∨w50.heap.size≤q)∧Blk w' b16 25 [v50i1]∧Lp w' D50 (.deferred (some []))∧Lp w' l50 (.loop (rec50 .ready none))) (fun (s50:List Ent) w'=>∃ (v50i1:Value),Fr (own (.slice none 0 0)++(l50::(D50::(b16::L)))) w50 w'∧Ext w w'∧OwnS kEnt (w50.heap.size) 48 (l50::(D50::(b16::L))) w' v50i1 s50∧(∀ q∈own v50i1,q∈(own (.slice none 0 0)++(l50::(D50::(b16::L))))∨w50.heap.size≤q)∧Blk w' b16 25 [v50i1]∧Lp w' D50 (.deferred (some []))∧Lp w' l50 (.loop (rec50 .done (some .ret)))) hl50 ((own (.slice none 0 0)++(l50::(D50::(b16::L))))) (fun _ h=>h) (fun _ h=>by cases h) ⟨(.slice none 0 0),rfl,(Fr.refl _ _),E65,O73,(fun q hq=>.inl (by first | exact List.mem_append_left _ hq | simp [hq])),((((B16.ex F24).ex F35).ex F42).ex F50),BD50,BL50⟩ (fun _ _ w' w'' h f=>by obtain ⟨v50i1,rfl,F,E,O50i1,N50i1,B50ib16,B50iD50,B50il50⟩:=h; exact ⟨v50i1,rfl,F.trans (Fr.ext f),E.trans f,O50i1.ex f,N50i1,B50ib16.ex f,B50iD50.ex f,B50il50.ex f⟩) (fun _ w' w'' h f=>by obtain ⟨v50i1,F,E,O50i1,N50i1,B50ib16,B50iD50,B50il50⟩:=h; exact ⟨v50i1,F.trans (Fr.ext f),E.trans f,O50i1.ex f,N50i1,B50ib16.ex f,B50iD50.ex f,B50il50.ex f⟩) (fun _ _ w' h=>by obtain ⟨v50i1,rfl,F,E,O50i1,N50i1,B50ib16,B50iD50,B50il50⟩:=h; exact (((((hL.fr E).cons B50ib16.lt).cons B50iD50.lt).cons B50il50.lt).own O50i1)) ?_ ?_ ?_
 ·intro s50 y50 z50 T50 w50r vs50 hI50 hX50 hb50
  obtain ⟨v50r1,rfl,F50r,E50r,O50r1,N50r1,B50rb16,B50rD50,B50rl50⟩:=hI50
  have h:=hb50
  unfold buffer_Some_b50 at h
  have G74:Fr L w w50r:=((G37.trans (Fr.ext F42)).trans (Fr.ext F50)).stp F50r (upo (fun m hm=>by cases hm) (upc (.inr m54) (upc (.inr m53) (upc (.inr m17) (fun _ h=>.inl h)))))
  have G76:Fr L w12 w50r:=G68.stp F50r (upo (fun m hm=>by cases hm) (upc (.inr m58) (upc (.inr m57) (upc (.inr m19) (fun _ h=>.inl h)))))
  have P80:∀ m∈own v50r1,m∈L∨w.heap.size≤m:=fun m hm=>(N50r1 m hm).elim (fun h=>(show ∀ m∈(own (.slice none 0 0)++(l50::(D50::(b16::L)))),m∈L∨w.heap.size≤m from (upo (fun m hm=>by cases hm) (upc (.inr m54) (upc (.inr m53) (upc (.inr m17) (fun _ h=>.inl h)))))) m h) (fun h=>.inr (Nat.le_trans (((G37.trans (Fr.ext F42)).trans (Fr.ext F50)).size) h))
  obtain ⟨cs87,rfl,HX86⟩:=hX50
  obtain ⟨rfl⟩:=kNm_open HX86
  refine range_round (ps:=[17]) hr50 B50rl50 rfl rfl ?_
  refine ec_region ?_
  refine o_alloc zero_buffer_Name rfl rfl rfl ?_
  intro b88 w88 e88 F88 B88
  have n88:w.heap.size≤b88:=by rw [e88]; exact E50r.size
  have q89:b16<b88:=by rw [e88]; exact B50rb16.lt
  have q90:l50<b88:=by rw [e88]; exact B50rl50.lt
  have q91:D50<b88:=by rw [e88]; exact B50rD50.lt
  have m92:w.heap.size≤b88:=by rw [e88]; exact G74.size
  have m94:w12.heap.size≤b88:=by rw [e88]; exact G76.size
  have m98:w50.heap.size≤b88:=by rw [e88]; exact F50r.size
  have m99:w50r.heap.size≤b88:=Nat.le_of_eq e88.symm
  have Ob100:=O50r1.born F88 (Nat.le_of_eq e88.symm) B88.lt
  have E101:=E50r.trans F88
  have G109:Fr (own v50r1++(l50::(D50::(b16::L)))) w50r w88:=Fr.ext F88
  refine o_store rfl B88 (vs:=(cNm y50)) rfl sz_buffer_Name rfl rfl rfl ?_
  intro w114 F114 B114
  have E115:=Ext.st E101 F114 (by simp; omega)
  have G116:Fr L w w114:=(G74.trans (Fr.ext F88)).stp F114 (upc (.inr m92) (fun m hm=>by cases hm))
  have G118:Fr L w12 w114:=(G76.trans (Fr.ext F88)).stp F114 (upc (.inr m94) (fun m hm=>by cases hm))
  have G122:Fr (own (.slice none 0 0)++(l50::(D50::(b16::L)))) w50 w114:=(F50r.trans (Fr.ext F88)).stp F114 (upc (.inr m98) (fun m hm=>by cases hm))
  have G123:Fr (own v50r1++(l50::(D50::(b16::L)))) w50r w114:=G109.stp F114 (upc (.inr m99) (fun m hm=>by cases hm))
  have B124:=(B50rb16.ex F88).fr F114 (by simp; omega)
  have B125:=(B50rl50.ex F88).fr F114 (by simp; omega)
  have B126:=(B50rD50.ex F88).fr F114 (by simp; omega)
  have O127:=Ob100.fr F114 (by simp)
  have B114':Blk w114 b88 _ (cNm y50):=B114
  refine eo_nil ?_
  refine ⟨rfl,rfl,B125,fun w128 F129 BL130=>?_⟩
  have E131:=Ext.st E115 F129 (by simp; omega)
  have G132:Fr L w w128:=G116.stp F129 (upc (.inr m54) (fun m hm=>by cases hm))
  have G134:Fr L w12 w128:=G118.stp F129 (upc (.inr m58) (fun m hm=>by cases hm))
  have G138:Fr (own (.slice none 0 0)++(l50::(D50::(b16::L)))) w50 w128:=G122.stp F129 (upc (.inl (List.mem_append_right _ (List.Mem.head _))) (fun m hm=>by cases hm))
  have G139:Fr (own v50r1++(l50::(D50::(b16::L)))) w50r w128:=G123.stp F129 (upc (.inl (List.mem_append_right _ (List.Mem.head _))) (fun m hm=>by cases hm))
  have B140:=B124.fr F129 (by simp; omega)
  have B141:=B126.fr F129 (by simp; omega)
  have B142:=B114'.fr F129 (by simp; omega)
  have O143:=O127.fr F129 (by simp)
  refine ec_block ?_
  obtain ⟨ha157,h⟩:=h
  obtain ⟨ha158,h⟩:=h
  obtain ⟨cs159,l161,H160⟩:=Stb.elem (by decide) (H6.up G132 (fun _ h=>h) (upc (.inr m92) (upo P80 (upc (.inr m54) (upc (.inr m53) (upc (.inr m17) (fun _ h=>.inl h))))))) (findA d1 y50.kind y50.key) ha158.1 ha158.2
  obtain ⟨A163,c164,A166,c167,rfl,H162,H165,H168⟩:=kEnt_open2 H160
  obtain ⟨ha169,h⟩:=h
  have qb155_b16:b16<w128.heap.size:=B140.lt
  refine ec_anyN (by kernel_rfl) [[],[],[1],[],[],[4],[],[6],[3,4,5,6,7],[1,2,3,4,5,6,7,8],[1,2,3,4,5,6,7,8,9],[1,2,3,4,5,6,7,8,9,10],[0,1,2,3,4,5,6,7,8,9,10,11],[0,1,2,3,4,5,6,7,8,9,10,11,12]] [18,19,20,21,22,23,24,25,26,27,28,29,30] (own v50r1++(b16::[])) [12,13] [own v50r1,[b16]] [[12,13],[13]] [fun w'=>OwnS kEnt (w50.heap.size) 48 (b88::(l50::(D50::(b16::L)))) w' v50r1 s50∧Blk w' b16 25 [v50r1],fun w'=>Blk w' b16 25 [v50r1],fun w'=>∃ v155_12,OwnS kEnt (w50.heap.size) 48 (b88::(l50::(D50::(b16::L)))) w' v155_12 (s50++([(nth d1.slots (findA d1 y50.kind y50.key))]:List Ent))∧(∀ q∈own v155_12,q∈own v50r1∨w128.heap.size≤q)∧Blk w' b16 25 [v155_12]] [fun v _=>v=(v50r1:Value),fun v _=>v=(.pointer (some ⟨b12,1,none⟩):Value),fun v _=>v=(.slice A4 d1.slots.length c5:Value),fun v _=>v=(.agg (cArena d1 A4 c5 A7 c8).toArray:Value),fun v _=>v=(.pointer (some ⟨b88,0,none⟩):Value),fun v _=>v=(.int .i64 y50.kind:Value),fun v _=>v=(.pointer (some ⟨b88,1,none⟩):Value),fun v _=>v=(str y50.key:Value),fun v _=>v=(.int .i64 (findA d1 y50.kind y50.key):Value),fun v _=>v=(.pointer (some (elemA A4 kEnt.n (findA d1 y50.kind y50.key).toNat)):Value),fun v _=>v=(.agg (cEnt (nth d1.slots (findA d1 y50.kind y50.key)) A163 c164 A166 c167).toArray:Value),fun v w'=>∃ b155_11,v=(.slice (some ⟨b155_11,0,none⟩) 1 1:Value)∧Blk w' b155_11 48 [str ((nth d1.slots (findA d1 y50.kind y50.key)).key),.int .i64 (((nth d1.slots (findA d1 y50.kind y50.key)).val).kind),.int .i64 (((nth d1.slots (findA d1 y50.kind y50.key)).val).time),.int .i64 (((nth d1.slots (findA d1 y50.kind y50.key)).val).node),.bool (((nth d1.slots (findA d1 y50.kind y50.key)).val).dead),str (((nth d1.slots (findA d1 y50.kind y50.key)).val).text),.slice A163 (((nth d1.slots (findA d1 y50.kind y50.key)).val).plus).length c164,.slice A166 (((nth d1.slots (findA d1 y50.kind y50.key)).val).minus).length c167,.int .u64 (((nth d1.slots (findA d1 y50.kind y50.key)).val).flags)]∧w128.heap.size≤b155_11,fun v w'=>∃ v155_12,v=(v155_12:Value)∧OwnS kEnt (w50.heap.size) 48 (b88::(l50::(D50::(b16::L)))) w' v155_12 (s50++([(nth d1.slots (findA d1 y50.kind y50.key))]:List Ent))∧(∀ q∈own v155_12,q∈own v50r1∨w128.heap.size≤q),fun _ _=>True] (by kernel_rfl) (allM1 (fun m hm=>by first | exact hm | (simp at hm ⊢; simp [hm]; done) | simp_all) (allM1 (fun m hm=>by first | exact hm | (simp at hm ⊢; simp [hm]; done) | simp_all) (fun _ h=>by cases h))) ⟨fun _ _ _ _ _ h=>h,fun _ _ _ _ _ h=>h,fun _ _ _ _ _ h=>h,fun _ _ _ _ _ h=>h,fun _ _ _ _ _ h=>h,fun _ _ _ _ _ h=>h,fun _ _ _ _ _ h=>h,fun _ _ _ _ _ h=>h,fun _ _ _ _ _ h=>h,fun _ _ _ _ _ h=>h,fun _ _ _ _ _ h=>h,fun _ v w' w'' F h=>by obtain ⟨b155_11,hv,B155_11,qB155_11⟩:=h; exact ⟨b155_11,hv,(B155_11.ex F),qB155_11⟩,fun _ v w' w'' F h=>by obtain ⟨v155_12,hv,O155_12,NO155_12⟩:=h; exact ⟨v155_12,hv,(O155_12.ex F),NO155_12⟩,fun _ _ _ _ _ h=>h,trivial⟩ ⟨⟨fun _ _ _ _ _ h=>h,fun _ _ _ _ _ h=>h,fun _ _ _ _ _ h=>h,fun _ _ _ _ _ h=>h,fun _ _ _ _ _ h=>h,fun _ _ _ _ _ h=>h,fun _ _ _ _ _ h=>h,fun _ _ _ _ _ h=>h,fun _ _ _ _ _ h=>h,fun _ _ _ _ _ h=>h,fun _ _ _ _ _ h=>h,fun _ v w' w'' F h=>by obtain ⟨b155_11,hv,B155_11,qB155_11⟩:=h; exact ⟨b155_11,hv,(B155_11.fr F (fun hm=>by have h1:=O143.ltw _ hm; omega)),qB155_11⟩,(fun h=>absurd h (by decide)),(fun h=>absurd h (by decide)),trivial⟩,⟨fun _ _ _ _ _ h=>h,fun _ _ _ _ _ h=>h,fun _ _ _ _ _ h=>h,fun _ _ _ _ _ h=>h,fun _ _ _ _ _ h=>h,fun _ _ _ _ _ h=>h,fun _ _ _ _ _ h=>h,fun _ _ _ _ _ h=>h,fun _ _ _ _ _ h=>h,fun _ _ _ _ _ h=>h,fun _ _ _ _ _ h=>h,fun _ v w' w'' F h=>by obtain ⟨b155_11,hv,B155_11,qB155_11⟩:=h; exact ⟨b155_11,hv,(B155_11.fr F (fun hm=>by simp at hm; omega)),qB155_11⟩,fun _ v w' w'' F h=>by obtain ⟨v155_12,hv,O155_12,NO155_12⟩:=h; exact ⟨v155_12,hv,(O155_12.fr F (by simp)),NO155_12⟩,(fun h=>absurd h (by decide)),trivial⟩,trivial⟩ ⟨fun w' w'' F h=>by obtain ⟨hO155_73,hB155_b16⟩:=h; exact ⟨(hO155_73.ex F),(hB155_b16.ex F)⟩,fun w' w'' F h=>by have hB155_b16:=h; exact (hB155_b16.ex F),fun w' w'' F h=>by obtain ⟨v155_12,O155_12,NO155_12,hB155_b16⟩:=h; exact ⟨v155_12,(O155_12.ex F),NO155_12,(hB155_b16.ex F)⟩,trivial⟩ ⟨O143,B140⟩ ?_ ?_ ?_
  ·refine ⟨?_,?_,?_,?_,?_,?_,?_,?_,?_,?_,?_,?_,?_,?_,trivial⟩
   ·intro _ ρ w155o F155o hX hS hρ
    have F155o:=hX 12 rfl rfl
    have q9:ρ 9=.pointer (some ⟨b16,0,none⟩):=hρ 9 (by kernel_rfl)
    exact o_q (r_ld one_s_api_Entry q9 ((B140.ex F155o).cell rfl)) ⟨Fr.refl _ _,rfl⟩
   ·intro _ ρ w155o F155o hX hS hρ
    have F155o:=hX 12 rfl rfl
    have q5:ρ 5=.pointer (some ⟨b12,0,none⟩):=hρ 5 (by kernel_rfl)
    exact o_q (r_fa fld_api_Arena_1 rfl q5) ⟨Fr.refl _ _,rfl⟩
   ·intro _ ρ w155o F155o hX hS hρ
    have F155o:=hX 12 rfl rfl
    have q19:ρ 19=.pointer (some ⟨b12,1,none⟩):=hS 1 (by decide) 19 rfl
    exact o_q (r_ld one_s_api_Entry q19 ((S12.fr (G134.trans (Fr.ext F155o)) (fun _ h=>h)).now.cell rfl)) ⟨Fr.refl _ _,rfl⟩
   ·intro _ ρ w155o F155o hX hS hρ
    have F155o:=hX 12 rfl rfl
    have q5:ρ 5=.pointer (some ⟨b12,0,none⟩):=hρ 5 (by kernel_rfl)
    exact o_q (r_lda agg_api_Arena q5 (vs:=(cArena d1 A4 c5 A7 c8)) rfl ((S12.fr (G134.trans (Fr.ext F155o)) (fun _ h=>h)).now.part (n:=3) rfl)) ⟨Fr.refl _ _,rfl⟩
   ·intro _ ρ w155o F155o hX hS hρ
    have F155o:=hX 12 rfl rfl
    have q10:ρ 10=.pointer (some ⟨b88,0,none⟩):=hρ 10 (by kernel_rfl)
    exact o_q (r_fa fld_buffer_Name_0 rfl q10) ⟨Fr.refl _ _,rfl⟩
   ·intro _ ρ w155o F155o hX hS hρ
    have F155o:=hX 12 rfl rfl
    have q22:ρ 22=.pointer (some ⟨b88,0,none⟩):=hS 4 (by decide) 22 rfl
    exact o_q (r_ld one_int q22 ((B142.ex F155o).cell rfl)) ⟨Fr.refl _ _,rfl⟩
   ·intro _ ρ w155o F155o hX hS hρ
    have F155o:=hX 12 rfl rfl
    have q10:ρ 10=.pointer (some ⟨b88,0,none⟩):=hρ 10 (by kernel_rfl)
    exact o_q (r_fa fld_buffer_Name_1 rfl q10) ⟨Fr.refl _ _,rfl⟩
   ·intro _ ρ w155o F155o hX hS hρ
    have F155o:=hX 12 rfl rfl
    have q24:ρ 24=.pointer (some ⟨b88,1,none⟩):=hS 6 (by decide) 24 rfl
    exact o_q (r_ld one_string q24 ((B142.ex F155o).cell rfl)) ⟨Fr.refl _ _,rfl⟩
   ·intro _ ρ w155o F155o hX hS hρ
    have F155o:=hX 12 rfl rfl
    have E245:=E131.trans F155o
    have q21:ρ 21=.agg (cArena d1 A4 c5 A7 c8).toArray:=hS 3 (by decide) 21 rfl
    have q23:ρ 23=.int .i64 y50.kind:=hS 5 (by decide) 23 rfl
    have q25:ρ 25=str y50.key:=hS 7 (by decide) 25 rfl
    refine o_call cf_arena_Find (by simp only [List.map,ev,q21,q23,q25] <;> rfl) (arena_Find_c d1 (kArena_mk (d:=d1) (H6.up (G132.trans (Fr.ext F155o)) (fun _ h=>h) (upc (.inr m92) (upo P80 (upc (.inr m54) (upc (.inr m53) (upc (.inr m17) (fun _ h=>.inl h))))))) (H9.up (G132.trans (Fr.ext F155o)) (fun _ h=>h) (upc (.inr m92) (upo P80 (upc (.inr m54) (upc (.inr m53) (upc (.inr m17) (fun _ h=>.inl h)))))))) y50.kind y50.key ((((((hL.fr E245).cons (B140.ex F155o).lt).cons (B141.ex F155o).lt).cons (BL130.ex F155o).lt).own (O143.ex F155o)).cons (B142.ex F155o).lt) (arFind_ev d1 y50.kind y50.key ha157)) rfl rfl ?_
    rintro _ w' ⟨F,rfl⟩
    exact eo_nil ⟨rfl,rfl,_,rfl,F,rfl⟩
   ·intro _ ρ w155o F155o hX hS hρ
    have F155o:=hX 12 rfl rfl
    have q20:ρ 20=.slice A4 d1.slots.length c5:=hS 2 (by decide) 20 rfl
    have q26:ρ 26=.int .i64 (findA d1 y50.kind y50.key):=hS 8 (by decide) 26 rfl
    exact o_q (r_ia slc_s_api_Entry q20 q26 ((H6.fr (G132.trans (Fr.ext F155o)) (fun _ h=>h)).now.2 _ (lt_toNat ha158.1 ha158.2)).1 ha158.1 ha158.2) ⟨Fr.refl _ _,rfl⟩
   ·intro _ ρ w155o F155o hX hS hρ
    have F155o:=hX 12 rfl rfl
    have G284:Fr (b88::(own v50r1++(l50::(D50::(b16::L))))) w128 w155o:=Fr.ext F155o
    have q27:ρ 27=.pointer (some (elemA A4 kEnt.n (findA d1 y50.kind y50.key).toNat)):=hS 9 (by decide) 27 rfl
    exact o_q (r_lda' agg_api_Entry q27 (elemA_spot _ _ _) (vs:=(cEnt (nth d1.slots (findA d1 y50.kind y50.key)) A163 c164 A166 c167)) rfl ((H162.fr G284 (fun _ h=>h)).now.1)) ⟨Fr.refl _ _,rfl⟩
   ·intro _ ρ w155o F155o hX hS hρ
    have F155o:=hX 12 rfl rfl
    have q28:ρ 28=.agg (cEnt (nth d1.slots (findA d1 y50.kind y50.key)) A163 c164 A166 c167).toArray:=hS 10 (by decide) 28 rfl
    refine o_bslice slc_s_api_Entry rfl (vs:=[.agg (cEnt (nth d1.slots (findA d1 y50.kind y50.key)) A163 c164 A166 c167).toArray]) (by simp only [List.map,ev,idx,q28]) rfl rfl (cs:=[str ((nth d1.slots (findA d1 y50.kind y50.key)).key),.int .i64 (((nth d1.slots (findA d1 y50.kind y50.key)).val).kind),.int .i64 (((nth d1.slots (findA d1 y50.kind y50.key)).val).time),.int .i64 (((nth d1.slots (findA d1 y50.kind y50.key)).val).node),.bool (((nth d1.slots (findA d1 y50.kind y50.key)).val).dead),str (((nth d1.slots (findA d1 y50.kind y50.key)).val).text),.slice A163 (((nth d1.slots (findA d1 y50.kind y50.key)).val).plus).length c164,.slice A166 (((nth d1.slots (findA d1 y50.kind y50.key)).val).minus).length c167,.int .u64 (((nth d1.slots (findA d1 y50.kind y50.key)).val).flags)]) rfl rfl rfl rfl ?_
    intro b w' e F B
    exact eo_nil ⟨rfl,rfl,_,rfl,F,b,rfl,B,by rw [e]; exact F155o.size⟩
   ·intro hT; exact absurd hT (by decide)
   ·intro hT; exact absurd hT (by decide)
  ·refine ⟨⟨_,rfl,?_⟩,⟨_,rfl,?_⟩,trivial⟩
   ·intro ρ w155o F155o hX hI hS hρ
    have F155o:=hX rfl
    obtain ⟨hO155_73,hB155_b16⟩:=hI
    have G299:Fr (b88::(own v50r1++(l50::(D50::(b16::L))))) w128 w155o:=Fr.ext F155o
    have q18:ρ 18=v50r1:=hS 0 (by decide) 18 rfl
    obtain ⟨b155_11,q29,B155_11,qB155_11⟩:=hS 11 (by decide) 29 rfl
    refine o_app slc_s_api_Entry rfl rfl (show ev ρ _=_ from q18) hO155_73 (show ev ρ _=_ from q29) B155_11 (ys:=([(nth d1.slots (findA d1 y50.kind y50.key))]:List Ent)) rfl rfl rfl (rowd1 (cs:=(cEnt (nth d1.slots (findA d1 y50.kind y50.key)) A163 c164 A166 c167)) (kEnt_mk (d:=(nth d1.slots (findA d1 y50.kind y50.key))) (H165.up G299 (fun _ h=>h) (upo (fun m hm=>Or.inl (List.Mem.tail _ (List.mem_append_left _ hm))) (upc (.inl (List.Mem.head _)) (upc (.inl (List.Mem.tail _ (List.mem_append_right _ (List.Mem.head _)))) (upc (.inl (List.Mem.tail _ (List.mem_append_right _ (List.Mem.tail _ (List.Mem.head _))))) (upc (.inl (List.Mem.tail _ (List.mem_append_right _ (List.Mem.tail _ (List.Mem.tail _ (List.Mem.head _)))))) (fun m hm=>Or.inl (List.Mem.tail _ (List.mem_append_right _ (List.Mem.tail _ (List.Mem.tail _ (List.Mem.tail _ hm)))))))))))) (H168.up G299 (fun _ h=>h) (upo (fun m hm=>Or.inl (List.Mem.tail _ (List.mem_append_left _ hm))) (upc (.inl (List.Mem.head _)) (upc (.inl (List.Mem.tail _ (List.mem_append_right _ (List.Mem.head _)))) (upc (.inl (List.Mem.tail _ (List.mem_append_right _ (List.Mem.tail _ (List.Mem.head _))))) (upc (.inl (List.Mem.tail _ (List.mem_append_right _ (List.Mem.tail _ (List.Mem.tail _ (List.Mem.head _)))))) (fun m hm=>Or.inl (List.Mem.tail _ (List.mem_append_right _ (List.Mem.tail _ (List.Mem.tail _ (List.Mem.tail _ hm))))))))))))) rfl) ha169 rfl rfl ?_
    intro v' w' F O Nn
    have N':∀ q∈own v',q∈own v50r1∨w128.heap.size≤q:=fun q hq=>(Nn q hq).elim .inl (fun h=>.inr (Nat.le_trans F155o.size h))
    exact eo_nil ⟨rfl,rfl,_,rfl,F,(hB155_b16.fr F (fun hm=>(O143.below b16 (by simp)).2 hm)),v',rfl,O,N'⟩
   ·intro ρ w155o F155o hX hI hS hρ
    have hB155_b16:=hI
    have q9:ρ 9=.pointer (some ⟨b16,0,none⟩):=hρ 9 (by kernel_rfl)
    obtain ⟨v155_12,q30,O155_12,NO155_12⟩:=hS 12 (by decide) 30 rfl
    obtain ⟨A318,c319,rfl⟩:=O155_12.shape
    refine o_store (show ev ρ _=_ from q9) hB155_b16 (vs:=[.slice A318 (s50++([(nth d1.slots (findA d1 y50.kind y50.key))]:List Ent)).length c319]) (congrArg Value.cells q30) sz_s_api_Entry rfl rfl rfl ?_
    intro w' F B2
    exact eo_nil ⟨rfl,rfl,undef,rfl,F,⟨(.slice A318 _ c319),(O155_12.fr F (by simp)),NO155_12,B2⟩,trivial⟩
  ·intro ρ w155 F155 hI hS hρ
   obtain ⟨v155_12,O155_12,NO155_12,hB155_b16⟩:=hI
   obtain ⟨ρ',rfl⟩:∃ ρ',ρ=envs (ovr [18,19,20,21,22,23,24,25,26,27,28,29,30] ρ' _) []:=⟨ρ,ovr_self hρ trivial⟩
   have E320:Ext w w155:=Ext.st E131 F155 (upo (fun m hm=>Nat.le_trans lo73 (O143.lo m hm)) (upc n16 (fun m hm=>by cases hm)))
   have G333:Fr (own (.slice none 0 0)++(l50::(D50::(b16::L)))) w50 w155:=Fr.stp G138 F155 (upo N50r1 (upc (.inl (by simp)) (fun m hm=>by cases hm)))
   have P334:∀ m∈own v155_12,m∈(own (.slice none 0 0)++(l50::(D50::(b16::L))))∨w50.heap.size≤m:=fun m hm=>(NO155_12 m hm).elim (fun h=>(show ∀ m∈own v50r1,m∈(own (.slice none 0 0)++(l50::(D50::(b16::L))))∨w50.heap.size≤m from N50r1) m h) (fun h=>.inr (Nat.le_trans (G138.size) h))
   have G335:Fr (own v50r1++(l50::(D50::(b16::L)))) w50r w155:=Fr.stp G139 F155 (upo (fun m hm=>.inl (List.mem_append_left _ hm)) (upc (.inl (by simp)) (fun m hm=>by cases hm)))
   have P336:∀ m∈own v155_12,m∈(own v50r1++(l50::(D50::(b16::L))))∨w50r.heap.size≤m:=fun m hm=>(NO155_12 m hm).elim (fun h=>(show ∀ m∈own v50r1,m∈(own v50r1++(l50::(D50::(b16::L))))∨w50r.heap.size≤m from (fun m hm=>.inl (List.mem_append_left _ hm))) m h) (fun h=>.inr (Nat.le_trans (G139.size) h))
   have B339:=BL130.fr F155 (fun hm=>(show ∀ m∈_,m≠l50 from (upo (fun m hm e=>(O143.below l50 (by simp)).2 (e ▸ hm)) (upc (by omega) (fun m hm=>by cases hm)))) _ hm rfl)
   have B340:=B141.fr F155 (fun hm=>(show ∀ m∈_,m≠D50 from (upo (fun m hm e=>(O143.below D50 (by simp)).2 (e ▸ hm)) (upc (by omega) (fun m hm=>by cases hm)))) _ hm rfl)
   refine blk_n ?_
   subst h
   refine ⟨none,rfl,B339,fun w342 F343 BL344=>?_⟩
   have E345:=Ext.st E320 F343 (by simp; omega)
   have G352:Fr (own (.slice none 0 0)++(l50::(D50::(b16::L)))) w50 w342:=G333.stp F343 (upc (.inl (List.mem_append_right _ (List.Mem.head _))) (fun m hm=>by cases hm))
   have G353:Fr (own v50r1++(l50::(D50::(b16::L)))) w50r w342:=G335.stp F343 (upc (.inl (List.mem_append_right _ (List.Mem.head _))) (fun m hm=>by cases hm))
   have B355:=hB155_b16.fr F343 (by simp; omega)
   have B356:=B340.fr F343 (by simp; omega)
   have O358:=O155_12.fr F343 (by simp)
   exact ⟨rfl,_,⟨v155_12,rfl,G352,E345,(O358.weak (fun m hm=>by simp at hm ⊢; first | exact hm | exact .inr hm | simp [hm] | (rcases hm with h | h <;> simp [h]) | simp_all)),P334,B355,B356,BL344⟩,G353,(upo P336 (upc (.inl (List.mem_append_right _ (List.Mem.head _))) (upc (.inl (List.mem_append_right _ (List.Mem.tail _ (List.Mem.head _)))) (upc (.inl (List.mem_append_right _ (List.Mem.tail _ (List.Mem.tail _ (List.Mem.head _))))) (fun m hm=>Or.inl (List.mem_append_right _ (List.Mem.tail _ (List.Mem.tail _ (List.Mem.tail _ hm)))))))))⟩
 ·rintro sx50 rfl T50 w50e v50 hI50
  replace h:=h.1 _ rfl
  obtain ⟨v50e1,rfl,F50e,E50e,O50e1,N50e1,B50eb16,B50eD50,B50el50⟩:=hI50
  refine ⟨⟨_,rfl⟩,none,B50el50,fun w371 F372=>?_⟩
  have E373:=Ext.st E50e F372 (by simp; omega)
  have B380:=B50eb16.fr F372 (by simp; omega)
  have B381:=B50eD50.fr F372 (by simp; omega)
  have O382:=O50e1.fr F372 (by simp)
  refine blk_n ?_
  refine sq_n ?_
  refine ec_seq ?_
  refine ec_region ?_
  refine o_w (v:=v50e1) (r_ld one_s_api_Entry rfl (B380.cell rfl)) ?_
  refine o_w (v:=v50e1) (r_asg rfl) ?_
  refine eo_nil_sq ?_
  refine ec_ret ?_
  refine marksS B381 (fun w383 F383=>?_)
  have E384:=Ext.st E373 F383 (by simp; omega)
  have O392:=O382.fr F383 (by simp)
  obtain ⟨A393,c394,eA393,H395⟩:=O392.still
  subst eA393
  have Zw383_396:=Fr.refl (l50::(D50::(b16::L))) w383
  replace h:=h.symm
  subst h
  exact marks0 ((end1 rfl ⟨_,rfl,E384,_,_,rfl,(H395.up Zw383_396 (fun _ h=>h) (fun m hm=>Or.inl (List.Mem.tail _ (List.Mem.tail _ (List.Mem.tail _ hm)))))⟩))
 ·rintro yx50 rfl; exact (h.2 _ rfl).elim
end Go.Proofs.Ythfkbabgkacfnaa
