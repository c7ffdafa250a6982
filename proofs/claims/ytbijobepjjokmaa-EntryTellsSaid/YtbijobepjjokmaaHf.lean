/- The reader of entry where it does not panic: a value. -/
import Derived.Test.YtbijobepjjokmaaHe
import Derived.Test.YtbijobepjjokmaaWg
namespace Go.Proofs.Ytbijobepjjokmaa
open Go Go.RowKit
set_option linter.unusedVariables false
set_option linter.unusedSimpArgs false

def flR (s:Str):Int:=(IntKind.u64.wrap ((BitVec.ofInt IntKind.u64.bits (IntKind.u64.wrap (leN (s.take 4):Int)) ||| BitVec.ofInt IntKind.u64.bits (IntKind.u64.wrap ((IntKind.u64.wrap (leN ((s.drop 4).take 4):Int)) * 2 ^ min ((32:Int)).toNat IntKind.u64.bits))).toNat:Int))
def readV (k:Int) (s:Str):Val :=
 bif k==1 then ⟨k,(leN (s.take 4):Int),(leN ((s.drop 4).take 1):Int),((leN (((s.drop 4).drop 1).take 1):Int)==(1:Int)),((((((s.drop 4).drop 1).drop 1)).drop 1).take (leN (((((s.drop 4).drop 1).drop 1)).take 1))),[],[],0⟩ else bif k==2 then ⟨k,0,0,false,[],pairs 8 s,pairs 8 (s.drop 16),0⟩ else bif k==3 then ⟨k,0,0,false,[],[],[],flR s⟩ else ⟨k,0,0,false,[],[],[],0⟩
theorem Stb.weakb {L:List Nat} {x y:Nat} {w:World} {φ:World→Prop} (h:Stb (x::y::L) w φ):Stb L w φ:=fun w' ha=>h w' (fun k hk hn=>ha k hk (fun hm=>hn (List.mem_cons_of_mem _ (List.mem_cons_of_mem _ hm))))
def VS (w0:World) (b b4 b5:Nat) (t:Str) (c5:List Value) (w:World):Prop:=(b4≠b∧b5≠b∧b4≠b5∧w0.heap.size≤b5∧w0.heap.size≤b4)∧Fr [b] w0 w∧Blk w b 67 [str t]∧Blk w b4 25 [.int .i64 0,.int .i64 0,.int .i64 0,.bool false,str [],.slice none 0 0,.slice none 0 0,.int .u64 0]∧Blk w b5 25 c5
theorem VS.ex {w0 w w':World} {b b4 b5:Nat} {t:Str} {c:List Value} (h:VS w0 b b4 b5 t c w) (f:Ext w w'):VS w0 b b4 b5 t c w':=⟨h.1,h.2.1.trans (Fr.ext f),h.2.2.1.ex f,h.2.2.2.1.ex f,h.2.2.2.2.ex f⟩
theorem VS.rd {w0 w w':World} {b b4 b5:Nat} {t t':Str} {c:List Value} (h:VS w0 b b4 b5 t c w) (F:Fr [b] w w') (R:Blk w' b 67 [str t']):VS w0 b b4 b5 t' c w' :=
 ⟨h.1,h.2.1.trans F,R,h.2.2.2.1.fr F (by simpa using h.1.1),h.2.2.2.2.fr F (by simpa using h.1.2.1)⟩
theorem VS.st {w0 w w':World} {b b4 b5:Nat} {t:Str} {c c':List Value} (h:VS w0 b b4 b5 t c w) (F:Fr [b5] w w') (X:Blk w' b5 25 c'):VS w0 b b4 b5 t c' w' :=
 ⟨h.1,h.2.1.stp F (fun m hm=>by rw [List.mem_singleton] at hm; rw [hm]; exact .inr h.1.2.2.2.1),h.2.2.1.fr F (by simpa using h.1.2.1.symm),h.2.2.2.1.fr F (by simpa using h.1.2.2.1),X⟩
set_option maxRecDepth 20000 in
set_option maxHeartbeats 8000000 in
theorem rd_value {L:List Nat} {w:World} {b:Nat} {s:Str} (hL:Lt L w) (hbL:b∈L) (HB:Blk w b 67 [str s]) (k:Int) (hs:s.length≤9223372036854775807) (hn:32≤s.length) (ht:k=1→leN ((s.drop 6).take 1)≤8) :
  Calls Try.prog 44 [.pointer (some ⟨b,0,none⟩),.int .i64 k].toArray w (Ret fun r w'=>Fr [b] w w'∧∃ A1 c1 A2 c2,r=.agg (cVal (readV k s) A1 c1 A2 c2).toArray∧Stb L w' (fun w=>SlC (kI .i64) w A1 c1 (readV k s).plus)∧Stb L w' (fun w=>SlC (kI .i64) w A2 c2 (readV k s).minus)):=by
 refine calls_ec Try.func44 rfl rfl rfl ?_
 refine ec_seq ?_
 refine ec_region ?_
 refine o_alloc zero_api_Value rfl rfl rfl ?_
 intro b4 w1 e4 F1 B4
 refine eo_nil_sq ?_
 refine ec_seq ?_
 refine ec_region ?_
 refine o_w (v:=.int .i64 k) (r_mov rfl) ?_
 refine o_w (v:=.agg ([.int .i64 k,.int .i64 (0),.int .i64 (0),.bool (false),str ([]),.slice none 0 0,.slice none 0 0,.int .u64 (0)]:List Value).toArray) (r_build bld_api_Value (vs:=[(0,.int .i64 k)]) (cells:=[.int .i64 k,.int .i64 (0),.int .i64 (0),.bool (false),str ([]),.slice none 0 0,.slice none 0 0,.int .u64 (0)]) rfl rfl) ?_
 refine o_alloc zero_api_Value rfl rfl rfl ?_
 intro b5 w2 e5 F2 B5
 refine o_store rfl B5 (vs:=[.int .i64 k,.int .i64 (0),.int .i64 (0),.bool (false),str ([]),.slice none 0 0,.slice none 0 0,.int .u64 (0)]) rfl sz_api_Value rfl rfl rfl ?_
 intro w3 F3 X3
 have n4:b4≠b:=by have:=HB.lt; omega
 have n45:b4≠b5:=by have:=B4.lt; omega
 have hsz:=F1.size
 have n5:b5≠b:=by have:=HB.lt; omega
 have h5:w.heap.size≤b5:=by omega
 have H:VS w b b4 b5 s [.int .i64 k,.int .i64 (0),.int .i64 (0),.bool (false),str ([]),.slice none 0 0,.slice none 0 0,.int .u64 (0)] w3:=⟨⟨n4,n5,n45,h5,by omega⟩,(Fr.ext (F1.trans F2)).stp F3 (fun m hm=>by rw [List.mem_singleton] at hm; rw [hm]; exact .inr h5),((HB.ex F1).ex F2).fr F3 (by simpa using n5.symm),(B4.ex F2).fr F3 (by simpa using n45),X3⟩
 refine eo_nil_sq ?_
 iterate 2 refine ec_seq ?_
 refine ec_region ?_
 refine o_w (v:=.int .i64 k) (r_mov rfl) ?_
 refine eo_nil_sq ?_
 refine ec_block ?_
 refine ec_seq ?_
 refine ec_region ?_
 refine o_w (v:=.bool (k==(1:Int))) (r_int rfl rfl rfl) ?_
 refine o_w (v:=.bool (k==(1:Int))) (r_asg rfl) ?_
 refine eo_nil_sq ?_
 refine ec_cond rfl (fun hk1=>?_) (fun hk1=>?_)
 · -- a register
  have hk:k=1:=by simpa using hk1
  refine ec_seq ?_
  refine ec_region ?_
  refine o_w (v:=.pointer (some ⟨b,0,none⟩)) (r_mov rfl) ?_
  refine o_call cf_rnumber rfl (rd_num H.2.2.1 4 (by omega) (by omega) (by (try simp only [List.length_drop]); omega) (by (try simp only [List.length_drop]); omega)) rfl rfl ?_
  rintro _ w' ⟨rfl,G,R⟩
  replace H:=H.rd G R
  refine o_w (v:=.pointer (some ⟨b,0,none⟩)) (r_mov rfl) ?_
  refine o_call cf_rnumber rfl (rd_num H.2.2.1 1 (by omega) (by omega) (by (try simp only [List.length_drop]); omega) (by (try simp only [List.length_drop]); omega)) rfl rfl ?_
  rintro _ w' ⟨rfl,G,R⟩
  replace H:=H.rd G R
  refine o_w (v:=.pointer (some ⟨b5,1,none⟩)) (r_fa fld_api_Value_1 rfl rfl) ?_
  refine o_store rfl H.2.2.2.2 (vs:=[.int .i64 (leN (s.take 4):Int)]) rfl sz_int rfl rfl rfl ?_
  intro w' G X
  replace H:=H.st (c':=[.int .i64 k,.int .i64 ((leN (s.take 4):Int)),.int .i64 (0),.bool (false),str ([]),.slice none 0 0,.slice none 0 0,.int .u64 (0)]) G X
  refine o_w (v:=.pointer (some ⟨b5,2,none⟩)) (r_fa fld_api_Value_2 rfl rfl) ?_
  refine o_store rfl H.2.2.2.2 (vs:=[.int .i64 (leN ((s.drop 4).take 1):Int)]) rfl sz_int rfl rfl rfl ?_
  intro w' G X
  replace H:=H.st (c':=[.int .i64 k,.int .i64 ((leN (s.take 4):Int)),.int .i64 ((leN ((s.drop 4).take 1):Int)),.bool (false),str ([]),.slice none 0 0,.slice none 0 0,.int .u64 (0)]) G X
  refine eo_nil_sq ?_
  refine ec_seq ?_
  refine ec_region ?_
  refine o_w (v:=.pointer (some ⟨b,0,none⟩)) (r_mov rfl) ?_
  refine o_call cf_rnumber rfl (rd_num H.2.2.1 1 (by omega) (by omega) (by (try simp only [List.length_drop]); omega) (by (try simp only [List.length_drop]); omega)) rfl rfl ?_
  rintro _ w' ⟨rfl,G,R⟩
  replace H:=H.rd G R
  refine o_w (v:=.bool ((leN (((s.drop 4).drop 1).take 1):Int)==(1:Int))) (r_int rfl rfl rfl) ?_
  refine o_w (v:=.pointer (some ⟨b5,3,none⟩)) (r_fa fld_api_Value_3 rfl rfl) ?_
  refine o_store rfl H.2.2.2.2 (vs:=[.bool ((leN (((s.drop 4).drop 1).take 1):Int)==(1:Int))]) rfl sz_bool rfl rfl rfl ?_
  intro w' G X
  replace H:=H.st (c':=[.int .i64 k,.int .i64 ((leN (s.take 4):Int)),.int .i64 ((leN ((s.drop 4).take 1):Int)),.bool (((leN (((s.drop 4).drop 1).take 1):Int)==(1:Int))),str ([]),.slice none 0 0,.slice none 0 0,.int .u64 (0)]) G X
  refine eo_nil_sq ?_
  refine ec_region ?_
  iterate 2 refine o_w (v:=.pointer (some ⟨b,0,none⟩)) (r_mov rfl) ?_
  refine o_call cf_rnumber rfl (rd_num H.2.2.1 1 (by omega) (by omega) (by (try simp only [List.length_drop]); omega) (by (try simp only [List.length_drop]); omega)) rfl rfl ?_
  rintro _ w' ⟨rfl,G,R⟩
  replace H:=H.rd G R
  refine o_call cf_rtext rfl (rd_txt H.2.2.1 (leN (((((s.drop 4).drop 1).drop 1)).take 1)) 8 (by (try simp only [List.length_drop]); omega) (by have:=ht hk; simpa [List.drop_drop] using this) (by (try simp only [List.length_drop]); omega)) rfl rfl ?_
  rintro _ w' ⟨rfl,G,R⟩
  replace H:=H.rd G R
  refine o_w (v:=.pointer (some ⟨b5,4,none⟩)) (r_fa fld_api_Value_4 rfl rfl) ?_
  refine o_store rfl H.2.2.2.2 (vs:=[str ((((((s.drop 4).drop 1).drop 1)).drop 1).take (leN (((((s.drop 4).drop 1).drop 1)).take 1)))]) rfl sz_string rfl rfl rfl ?_
  intro w' G X
  replace H:=H.st (c':=[.int .i64 k,.int .i64 ((leN (s.take 4):Int)),.int .i64 ((leN ((s.drop 4).take 1):Int)),.bool (((leN (((s.drop 4).drop 1).take 1):Int)==(1:Int))),str (((((((s.drop 4).drop 1).drop 1)).drop 1).take (leN (((((s.drop 4).drop 1).drop 1)).take 1)))),.slice none 0 0,.slice none 0 0,.int .u64 (0)]) G X
  refine eo_nil ?_
  refine blk_n ?_
  refine sq_n ?_
  refine ec_seq ?_
  refine ec_region ?_
  refine o_w (v:=.agg ([.int .i64 k,.int .i64 ((leN (s.take 4):Int)),.int .i64 ((leN ((s.drop 4).take 1):Int)),.bool (((leN (((s.drop 4).drop 1).take 1):Int)==(1:Int))),str (((((((s.drop 4).drop 1).drop 1)).drop 1).take (leN (((((s.drop 4).drop 1).drop 1)).take 1)))),.slice none 0 0,.slice none 0 0,.int .u64 (0)]:List Value).toArray) (r_lda agg_api_Value rfl (vs:=[.int .i64 k,.int .i64 ((leN (s.take 4):Int)),.int .i64 ((leN ((s.drop 4).take 1):Int)),.bool (((leN (((s.drop 4).drop 1).take 1):Int)==(1:Int))),str (((((((s.drop 4).drop 1).drop 1)).drop 1).take (leN (((((s.drop 4).drop 1).drop 1)).take 1)))),.slice none 0 0,.slice none 0 0,.int .u64 (0)]) rfl (H.2.2.2.2.part (o:=0) (n:=8) rfl)) ?_
  refine o_store rfl H.2.2.2.1 (vs:=[.int .i64 k,.int .i64 ((leN (s.take 4):Int)),.int .i64 ((leN ((s.drop 4).take 1):Int)),.bool (((leN (((s.drop 4).drop 1).take 1):Int)==(1:Int))),str (((((((s.drop 4).drop 1).drop 1)).drop 1).take (leN (((((s.drop 4).drop 1).drop 1)).take 1)))),.slice none 0 0,.slice none 0 0,.int .u64 (0)]) rfl sz_api_Value rfl rfl rfl ?_
  intro w' G X
  refine eo_nil_sq ?_
  refine ec_ret ?_
  exact endr1 (rv_a rfl agg_api_Value X (vs:=[.int .i64 k,.int .i64 ((leN (s.take 4):Int)),.int .i64 ((leN ((s.drop 4).take 1):Int)),.bool (((leN (((s.drop 4).drop 1).take 1):Int)==(1:Int))),str (((((((s.drop 4).drop 1).drop 1)).drop 1).take (leN (((((s.drop 4).drop 1).drop 1)).take 1)))),.slice none 0 0,.slice none 0 0,.int .u64 (0)]) rfl rfl) ⟨_,rfl,H.2.1.stp G (fun m hm=>by rw [List.mem_singleton] at hm; rw [hm]; exact .inr H.1.2.2.2.2),none,0,none,0,by unfold readV; rw [hk1,cond_true]; simp only [cVal,List.drop_drop,List.length_nil],by unfold readV; rw [hk1,cond_true]; exact stb_nil,by unfold readV; rw [hk1,cond_true]; exact stb_nil⟩
 ·refine ec_seq ?_
  refine ec_region ?_
  refine o_w (v:=.bool (k==(2:Int))) (r_int rfl rfl rfl) ?_
  refine o_w (v:=.bool (k==(2:Int))) (r_asg rfl) ?_
  refine eo_nil_sq ?_
  refine ec_cond rfl (fun hk2=>?_) (fun hk2=>?_)
  · -- a counter
   have hk:k=2:=by simpa using hk2
   refine ec_region ?_
   have hLt:Lt (b5::b4::L) w3:=((hL.fr H.2.1).cons H.2.2.2.1.lt).cons H.2.2.2.2.lt
   refine o_w (v:=.pointer (some ⟨b,0,none⟩)) (r_mov rfl) ?_
   refine o_call cf_rcounts rfl (rd_counts hLt (by simp [hbL]) H.2.2.1 (by omega) (by omega)) rfl rfl ?_
   rintro _ wa ⟨Ga,Ra,A1,c1,rfl,S1⟩
   have hLt2:=hLt.fr Ga
   replace H:=H.rd Ga Ra
   refine o_w (v:=.pointer (some ⟨b,0,none⟩)) (r_mov rfl) ?_
   refine o_call cf_rcounts rfl (rd_counts hLt2 (by simp [hbL]) H.2.2.1 (by (try simp only [List.length_drop]); omega) (by (try simp only [List.length_drop]); omega)) rfl rfl ?_
   rintro _ wb ⟨Gb,Rb,A2,c2,rfl,S2⟩
   replace H:=H.rd Gb Rb
   have S1b:=S1.fr Gb (by simp [hbL])
   refine o_w (v:=.pointer (some ⟨b5,5,none⟩)) (r_fa fld_api_Value_5 rfl rfl) ?_
   refine o_store rfl H.2.2.2.2 (vs:=[.slice A1 (pairs 8 s).length c1]) rfl sz_s_int rfl rfl rfl ?_
   intro w' G X
   replace H:=H.st (c':=[.int .i64 k,.int .i64 (0),.int .i64 (0),.bool (false),str ([]),.slice A1 (pairs 8 s).length c1,.slice none 0 0,.int .u64 (0)]) G X
   replace S1b:=S1b.fr G (by simp)
   replace S2:=S2.fr G (by simp)
   refine o_w (v:=.pointer (some ⟨b5,6,none⟩)) (r_fa fld_api_Value_6 rfl rfl) ?_
   refine o_store rfl H.2.2.2.2 (vs:=[.slice A2 (pairs 8 (s.drop 16)).length c2]) rfl sz_s_int rfl rfl rfl ?_
   intro w' G X
   replace H:=H.st (c':=[.int .i64 k,.int .i64 (0),.int .i64 (0),.bool (false),str ([]),.slice A1 (pairs 8 s).length c1,.slice A2 (pairs 8 (s.drop 16)).length c2,.int .u64 (0)]) G X
   replace S1b:=S1b.fr G (by simp)
   replace S2:=S2.fr G (by simp)
   refine eo_nil ?_
   refine blk_n ?_
   refine sq_n ?_
   refine ec_seq ?_
   refine ec_region ?_
   refine o_w (v:=.agg ([.int .i64 k,.int .i64 (0),.int .i64 (0),.bool (false),str ([]),.slice A1 (pairs 8 s).length c1,.slice A2 (pairs 8 (s.drop 16)).length c2,.int .u64 (0)]:List Value).toArray) (r_lda agg_api_Value rfl (vs:=[.int .i64 k,.int .i64 (0),.int .i64 (0),.bool (false),str ([]),.slice A1 (pairs 8 s).length c1,.slice A2 (pairs 8 (s.drop 16)).length c2,.int .u64 (0)]) rfl (H.2.2.2.2.part (o:=0) (n:=8) rfl)) ?_
   refine o_store rfl H.2.2.2.1 (vs:=[.int .i64 k,.int .i64 (0),.int .i64 (0),.bool (false),str ([]),.slice A1 (pairs 8 s).length c1,.slice A2 (pairs 8 (s.drop 16)).length c2,.int .u64 (0)]) rfl sz_api_Value rfl rfl rfl ?_
   intro w' G X
   refine eo_nil_sq ?_
   refine ec_ret ?_
   exact endr1 (rv_a rfl agg_api_Value X (vs:=[.int .i64 k,.int .i64 (0),.int .i64 (0),.bool (false),str ([]),.slice A1 (pairs 8 s).length c1,.slice A2 (pairs 8 (s.drop 16)).length c2,.int .u64 (0)]) rfl rfl) ⟨_,rfl,H.2.1.stp G (fun m hm=>by rw [List.mem_singleton] at hm; rw [hm]; exact .inr H.1.2.2.2.2),A1,c1,A2,c2,by unfold readV; rw [hk1,hk2,cond_false,cond_true],by unfold readV; rw [hk1,hk2,cond_false,cond_true]; exact (S1b.fr G (by simp)).weakb,by unfold readV; rw [hk1,hk2,cond_false,cond_true]; exact (S2.fr G (by simp)).weakb⟩
  ·refine ec_seq ?_
   refine ec_region ?_
   refine o_w (v:=.bool (k==(3:Int))) (r_int rfl rfl rfl) ?_
   refine o_w (v:=.bool (k==(3:Int))) (r_asg rfl) ?_
   refine eo_nil_sq ?_
   refine ec_cond rfl (fun hk3=>?_) (fun hk3=>?_)
   · -- flags
    refine ec_seq ?_
    refine ec_region ?_
    refine o_w (v:=.pointer (some ⟨b,0,none⟩)) (r_mov rfl) ?_
    refine o_call cf_rnumber rfl (rd_num H.2.2.1 4 (by omega) (by omega) (by (try simp only [List.length_drop]); omega) (by (try simp only [List.length_drop]); omega)) rfl rfl ?_
    rintro _ w' ⟨rfl,G,R⟩
    replace H:=H.rd G R
    refine o_w (v:=.int .u64 (IntKind.u64.wrap (leN (s.take 4):Int))) (r_conv un_int un_uint64 rfl) ?_
    refine o_w (v:=.pointer (some ⟨b5,7,none⟩)) (r_fa fld_api_Value_7 rfl rfl) ?_
    refine o_store rfl H.2.2.2.2 (vs:=[.int .u64 (IntKind.u64.wrap (leN (s.take 4):Int))]) rfl sz_uint64 rfl rfl rfl ?_
    intro w' G X
    replace H:=H.st (c':=[.int .i64 k,.int .i64 (0),.int .i64 (0),.bool (false),str ([]),.slice none 0 0,.slice none 0 0,.int .u64 ((IntKind.u64.wrap (leN (s.take 4):Int)))]) G X
    refine eo_nil_sq ?_
    refine ec_anyNI (by kernel_rfl) [[],[0],[],[2],[2,3],[2,3,4],[0,1,2,3,4,5],[],[0,1,2,3,4,5,6,7]] [40,41,42,43,44,45,46,47] [b,b5] [3,8] [[b],[b5]] [[3,4,5,6,8],[8]]
     [fun w'=>VS w b b4 b5 (s.drop 4) [.int .i64 k,.int .i64 (0),.int .i64 (0),.bool (false),str ([]),.slice none 0 0,.slice none 0 0,.int .u64 ((IntKind.u64.wrap (leN (s.take 4):Int)))] w',fun w'=>VS w b b4 b5 ((s.drop 4).drop 4) [.int .i64 k,.int .i64 (0),.int .i64 (0),.bool (false),str ([]),.slice none 0 0,.slice none 0 0,.int .u64 ((IntKind.u64.wrap (leN (s.take 4):Int)))] w',fun w'=>VS w b b4 b5 ((s.drop 4).drop 4) [.int .i64 k,.int .i64 (0),.int .i64 (0),.bool (false),str ([]),.slice none 0 0,.slice none 0 0,.int .u64 ((IntKind.u64.wrap ((BitVec.ofInt IntKind.u64.bits (IntKind.u64.wrap (leN (s.take 4):Int)) ||| BitVec.ofInt IntKind.u64.bits (IntKind.u64.wrap ((IntKind.u64.wrap (leN ((s.drop 4).take 4):Int)) * 2 ^ min ((32:Int)).toNat IntKind.u64.bits))).toNat:Int)))] w']
     [fun v _=>v=(.pointer (some ⟨b5,7,none⟩):Value),fun v _=>v=(.int .u64 (IntKind.u64.wrap (leN (s.take 4):Int)):Value),fun v _=>v=(.pointer (some ⟨b,0,none⟩):Value),fun v _=>v=(.int .i64 (leN ((s.drop 4).take 4):Int):Value),fun v _=>v=(.int .u64 (IntKind.u64.wrap (leN ((s.drop 4).take 4):Int)):Value),fun v _=>v=(.int .u64 (IntKind.u64.wrap ((IntKind.u64.wrap (leN ((s.drop 4).take 4):Int)) * 2 ^ min ((32:Int)).toNat IntKind.u64.bits)):Value),fun v _=>v=(.int .u64 (IntKind.u64.wrap ((BitVec.ofInt IntKind.u64.bits (IntKind.u64.wrap (leN (s.take 4):Int)) ||| BitVec.ofInt IntKind.u64.bits (IntKind.u64.wrap ((IntKind.u64.wrap (leN ((s.drop 4).take 4):Int)) * 2 ^ min ((32:Int)).toNat IntKind.u64.bits))).toNat:Int)):Value),fun v _=>v=(.pointer (some ⟨b5,7,none⟩):Value),fun _ _=>True]
     (by kernel_rfl) (fun M hM m hm=>by simp at hM; rcases hM with rfl | rfl <;> simp at hm <;> simp [hm])
     ⟨fun _ _ _ _ _ h=>h,fun _ _ _ _ _ h=>h,fun _ _ _ _ _ h=>h,fun _ _ _ _ _ h=>h,fun _ _ _ _ _ h=>h,fun _ _ _ _ _ h=>h,fun _ _ _ _ _ h=>h,fun _ _ _ _ _ h=>h,fun _ _ _ _ _ h=>h,trivial⟩
     ⟨⟨fun _ _ _ _ _ h=>h,fun _ _ _ _ _ h=>h,fun _ _ _ _ _ h=>h,fun _ _ _ _ _ h=>h,fun _ _ _ _ _ h=>h,fun _ _ _ _ _ h=>h,fun _ _ _ _ _ h=>h,fun _ _ _ _ _ h=>h,fun _ _ _ _ _ h=>h,trivial⟩,⟨fun _ _ _ _ _ h=>h,fun _ _ _ _ _ h=>h,fun _ _ _ _ _ h=>h,fun _ _ _ _ _ h=>h,fun _ _ _ _ _ h=>h,fun _ _ _ _ _ h=>h,fun _ _ _ _ _ h=>h,fun _ _ _ _ _ h=>h,fun _ _ _ _ _ h=>h,trivial⟩,trivial⟩
     ⟨fun w' w'' F h=>h.ex F,fun w' w'' F h=>h.ex F,fun w' w'' F h=>h.ex F,trivial⟩ H ?_ ?_ ?_
    ·refine ⟨?_,?_,?_,?_,?_,?_,?_,?_,?_,trivial⟩
     ·intro _ ρ w2 F2 hX hS hρ hI
      have q:ρ 5=.pointer (some ⟨b5,0,none⟩):=hρ 5 (by kernel_rfl)
      exact o_q (r_fa fld_api_Value_7 rfl q) ⟨Fr.refl _ _,rfl⟩
     ·intro _ ρ w2 F2 hX hS hρ hI
      have q:ρ 40=.pointer (some ⟨b5,7,none⟩):=hS 0 (by decide) 40 rfl
      obtain ⟨kk,hIk,hkm⟩:=hI
      have hk1':=hkm 1 8 rfl rfl
      have hB5:Blk w2 b5 25 [.int .i64 k,.int .i64 (0),.int .i64 (0),.bool (false),str ([]),.slice none 0 0,.slice none 0 0,.int .u64 ((IntKind.u64.wrap (leN (s.take 4):Int)))]:=by
       match kk,hk1',hIk with
       | 0,_,h=>exact h.2.2.2.2
       | 1,_,h=>exact h.2.2.2.2
      exact o_q (r_ld one_uint64 q (hB5.cell rfl)) ⟨Fr.refl _ _,rfl⟩
     ·intro _ ρ w2 F2 hX hS hρ hI
      have q:ρ 0=.pointer (some ⟨b,0,none⟩):=hρ 0 (by kernel_rfl)
      exact o_q (r_mov q) ⟨Fr.refl _ _,rfl⟩
     ·intro hT; exact absurd hT (by decide)
     ·intro _ ρ w2 F2 hX hS hρ hI
      have q:ρ 43=.int .i64 (leN ((s.drop 4).take 4):Int):=hS 3 (by decide) 43 rfl
      exact o_q (r_conv un_int un_uint64 q) ⟨Fr.refl _ _,rfl⟩
     ·intro _ ρ w2 F2 hX hS hρ hI
      have q:ρ 44=.int .u64 (IntKind.u64.wrap (leN ((s.drop 4).take 4):Int)):=hS 4 (by decide) 44 rfl
      exact o_q (r_shl q rfl rfl) ⟨Fr.refl _ _,rfl⟩
     ·intro _ ρ w2 F2 hX hS hρ hI
      have q1:ρ 41=.int .u64 (IntKind.u64.wrap (leN (s.take 4):Int)):=hS 1 (by decide) 41 rfl
      have q2:ρ 45=.int .u64 (IntKind.u64.wrap ((IntKind.u64.wrap (leN ((s.drop 4).take 4):Int)) * 2 ^ min ((32:Int)).toNat IntKind.u64.bits)):=hS 5 (by decide) 45 rfl
      exact o_q (r_int q1 q2 rfl) ⟨Fr.refl _ _,rfl⟩
     ·intro _ ρ w2 F2 hX hS hρ hI
      have q:ρ 5=.pointer (some ⟨b5,0,none⟩):=hρ 5 (by kernel_rfl)
      exact o_q (r_fa fld_api_Value_7 rfl q) ⟨Fr.refl _ _,rfl⟩
     ·intro hT; exact absurd hT (by decide)
    ·refine ⟨⟨_,rfl,?_⟩,⟨_,rfl,?_⟩,trivial⟩
     ·intro ρ w2 F2 hX hI hS hρ
      have q:ρ 42=.pointer (some ⟨b,0,none⟩):=hS 2 (by decide) 42 rfl
      have hI':VS w b b4 b5 (s.drop 4) [.int .i64 k,.int .i64 (0),.int .i64 (0),.bool (false),str ([]),.slice none 0 0,.slice none 0 0,.int .u64 ((IntKind.u64.wrap (leN (s.take 4):Int)))] w2:=hI
      refine o_call cf_rnumber (by simp only [List.map,ev,q] <;> rfl) (rd_num hI'.2.2.1 4 (by omega) (by omega) (by (try simp only [List.length_drop]); omega) (by (try simp only [List.length_drop]); omega)) rfl rfl ?_
      rintro _ w' ⟨rfl,G,R⟩
      exact eo_nil ⟨rfl,rfl,_,rfl,G,hI'.rd G R,rfl⟩
     ·intro ρ w2 F2 hX hI hS hρ
      have q1:ρ 47=.pointer (some ⟨b5,7,none⟩):=hS 7 (by decide) 47 rfl
      have q2:ρ 46=.int .u64 (IntKind.u64.wrap ((BitVec.ofInt IntKind.u64.bits (IntKind.u64.wrap (leN (s.take 4):Int)) ||| BitVec.ofInt IntKind.u64.bits (IntKind.u64.wrap ((IntKind.u64.wrap (leN ((s.drop 4).take 4):Int)) * 2 ^ min ((32:Int)).toNat IntKind.u64.bits))).toNat:Int)):=hS 6 (by decide) 46 rfl
      have hI':VS w b b4 b5 ((s.drop 4).drop 4) [.int .i64 k,.int .i64 (0),.int .i64 (0),.bool (false),str ([]),.slice none 0 0,.slice none 0 0,.int .u64 ((IntKind.u64.wrap (leN (s.take 4):Int)))] w2:=hI
      refine o_store (show ev ρ _=_ from q1) hI'.2.2.2.2 (vs:=[.int .u64 (IntKind.u64.wrap ((BitVec.ofInt IntKind.u64.bits (IntKind.u64.wrap (leN (s.take 4):Int)) ||| BitVec.ofInt IntKind.u64.bits (IntKind.u64.wrap ((IntKind.u64.wrap (leN ((s.drop 4).take 4):Int)) * 2 ^ min ((32:Int)).toNat IntKind.u64.bits))).toNat:Int))]) (congrArg Value.cells q2) sz_uint64 rfl rfl rfl ?_
      intro w' G X
      exact eo_nil ⟨rfl,rfl,undef,rfl,G,hI'.st G X,trivial⟩
    ·intro ρ w2 F2 hI hS hρ
     replace H:VS w b b4 b5 ((s.drop 4).drop 4) [.int .i64 k,.int .i64 (0),.int .i64 (0),.bool (false),str ([]),.slice none 0 0,.slice none 0 0,.int .u64 ((IntKind.u64.wrap ((BitVec.ofInt IntKind.u64.bits (IntKind.u64.wrap (leN (s.take 4):Int)) ||| BitVec.ofInt IntKind.u64.bits (IntKind.u64.wrap ((IntKind.u64.wrap (leN ((s.drop 4).take 4):Int)) * 2 ^ min ((32:Int)).toNat IntKind.u64.bits))).toNat:Int)))] w2:=hI
     have r4:ρ 4=.pointer (some ⟨b4,0,none⟩):=hρ 4 (by kernel_rfl)
     have r5:ρ 5=.pointer (some ⟨b5,0,none⟩):=hρ 5 (by kernel_rfl)
     refine blk_n ?_
     refine sq_n ?_
     refine ec_seq ?_
     refine ec_region ?_
     refine o_w (v:=.agg ([.int .i64 k,.int .i64 (0),.int .i64 (0),.bool (false),str ([]),.slice none 0 0,.slice none 0 0,.int .u64 ((IntKind.u64.wrap ((BitVec.ofInt IntKind.u64.bits (IntKind.u64.wrap (leN (s.take 4):Int)) ||| BitVec.ofInt IntKind.u64.bits (IntKind.u64.wrap ((IntKind.u64.wrap (leN ((s.drop 4).take 4):Int)) * 2 ^ min ((32:Int)).toNat IntKind.u64.bits))).toNat:Int)))]:List Value).toArray) (r_lda agg_api_Value r5 (vs:=[.int .i64 k,.int .i64 (0),.int .i64 (0),.bool (false),str ([]),.slice none 0 0,.slice none 0 0,.int .u64 ((IntKind.u64.wrap ((BitVec.ofInt IntKind.u64.bits (IntKind.u64.wrap (leN (s.take 4):Int)) ||| BitVec.ofInt IntKind.u64.bits (IntKind.u64.wrap ((IntKind.u64.wrap (leN ((s.drop 4).take 4):Int)) * 2 ^ min ((32:Int)).toNat IntKind.u64.bits))).toNat:Int)))]) rfl (H.2.2.2.2.part (o:=0) (n:=8) rfl)) ?_
     refine o_store (show ev _ _=_ from r4) H.2.2.2.1 (vs:=[.int .i64 k,.int .i64 (0),.int .i64 (0),.bool (false),str ([]),.slice none 0 0,.slice none 0 0,.int .u64 ((IntKind.u64.wrap ((BitVec.ofInt IntKind.u64.bits (IntKind.u64.wrap (leN (s.take 4):Int)) ||| BitVec.ofInt IntKind.u64.bits (IntKind.u64.wrap ((IntKind.u64.wrap (leN ((s.drop 4).take 4):Int)) * 2 ^ min ((32:Int)).toNat IntKind.u64.bits))).toNat:Int)))]) rfl sz_api_Value rfl rfl rfl ?_
     intro w' G X
     refine eo_nil_sq ?_
     refine ec_ret ?_
     exact endr1 (rv_a r4 agg_api_Value X (vs:=[.int .i64 k,.int .i64 (0),.int .i64 (0),.bool (false),str ([]),.slice none 0 0,.slice none 0 0,.int .u64 ((IntKind.u64.wrap ((BitVec.ofInt IntKind.u64.bits (IntKind.u64.wrap (leN (s.take 4):Int)) ||| BitVec.ofInt IntKind.u64.bits (IntKind.u64.wrap ((IntKind.u64.wrap (leN ((s.drop 4).take 4):Int)) * 2 ^ min ((32:Int)).toNat IntKind.u64.bits))).toNat:Int)))]) rfl rfl) ⟨_,rfl,H.2.1.stp G (fun m hm=>by rw [List.mem_singleton] at hm; rw [hm]; exact .inr H.1.2.2.2.2),none,0,none,0,by unfold readV; rw [hk1,hk2,hk3]; rfl,by unfold readV; rw [hk1,hk2,hk3]; exact stb_nil,by unfold readV; rw [hk1,hk2,hk3]; exact stb_nil⟩
   ·refine ec_skip ?_
    refine blk_n ?_
    refine sq_n ?_
    refine ec_seq ?_
    refine ec_region ?_
    refine o_w (v:=.agg ([.int .i64 k,.int .i64 (0),.int .i64 (0),.bool (false),str ([]),.slice none 0 0,.slice none 0 0,.int .u64 (0)]:List Value).toArray) (r_lda agg_api_Value rfl (vs:=[.int .i64 k,.int .i64 (0),.int .i64 (0),.bool (false),str ([]),.slice none 0 0,.slice none 0 0,.int .u64 (0)]) rfl (H.2.2.2.2.part (o:=0) (n:=8) rfl)) ?_
    refine o_store rfl H.2.2.2.1 (vs:=[.int .i64 k,.int .i64 (0),.int .i64 (0),.bool (false),str ([]),.slice none 0 0,.slice none 0 0,.int .u64 (0)]) rfl sz_api_Value rfl rfl rfl ?_
    intro w' G X
    refine eo_nil_sq ?_
    refine ec_ret ?_
    exact endr1 (rv_a rfl agg_api_Value X (vs:=[.int .i64 k,.int .i64 (0),.int .i64 (0),.bool (false),str ([]),.slice none 0 0,.slice none 0 0,.int .u64 (0)]) rfl rfl) ⟨_,rfl,H.2.1.stp G (fun m hm=>by rw [List.mem_singleton] at hm; rw [hm]; exact .inr H.1.2.2.2.2),none,0,none,0,by unfold readV; rw [hk1,hk2,hk3]; rfl,by unfold readV; rw [hk1,hk2,hk3]; exact stb_nil,by unfold readV; rw [hk1,hk2,hk3]; exact stb_nil⟩
end Go.Proofs.Ytbijobepjjokmaa
