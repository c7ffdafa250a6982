/- ValueSums: what it comes to. -/
import Derived.Test.YtdojgmmpcdbeoaaGb
import Derived.Test.YtdojgmmpcdbeoaaLc
namespace Go.Proofs.Ytdojgmmpcdbeoaa
open Go Go.RowKit
set_option linter.unusedVariables false
set_option linter.unusedSimpArgs false

theorem un_8_uint16 : Try.prog.underlying 38=some (.array 8 37):=Try.underlying38
theorem un_8_bool : Try.prog.underlying 39=some (.array 8 4):=Try.underlying39
theorem un_uint16 : Try.prog.underlying 37=some (.int .u16):=Try.underlying37
theorem in_uint16:(Try.prog.info? 37).map (fun i=>(i.zero,i.size,i.bytes))=some (some (.int .u16 0),1,2):=by kernel_rfl
theorem sz_uint16:Sz Try.prog 37 1:=sz_of in_uint16
theorem one_uint16:One Try.prog 37:=⟨⟨_,Try.underlying37,trivial⟩,sz_uint16⟩
theorem in_boolJ:(Try.prog.info? 4).map (fun i=>(i.zero,i.size,i.bytes))=some (some (.bool false),1,1):=by kernel_rfl
theorem sz_boolJ:Sz Try.prog 4 1:=sz_of in_boolJ
theorem one_boolJ:One Try.prog 4:=⟨⟨_,Try.underlying4,trivial⟩,sz_boolJ⟩
/-- A counter of these numbers. -/
def V6 (p m : List Int) : Val := ⟨2, 0, 0, false, [], p, m, 0⟩
/-- The first so many of these numbers, where the choice is b; nought elsewhere. -/
def sel (p : List Int) (s : List Bool) (b : Bool) (i : Nat) : List Int := (List.range 8).map fun j => if j < i ∧ nth s (j : Int) = b then nth p (j : Int) else 0
theorem sel_len (p:List Int) (s:List Bool) (b:Bool) (i:Nat):(sel p s b i).length=8:=by simp [sel]
theorem sel_0 (p:List Int) (s:List Bool) (b:Bool):sel p s b 0=Z8:=by simp [sel]; rfl
theorem sel_set {p:List Int} {s:List Bool} {b:Bool} {i:Nat} (hi:i<8) (h:nth s (i:Int)=b):(sel p s b i).set i (nth p (i:Int))=sel p s b (i + 1):=by
 apply List.ext_getElem
 ·simp [sel]
 ·intro j h1 h2
  have hj:j<8:=by simpa [sel] using h2
  rw [List.getElem_set]
  simp only [sel,List.getElem_map,List.getElem_range]
  by_cases hij:i=j
  ·subst hij
   rw [if_pos rfl,if_pos ⟨by omega,h⟩]
  ·rw [if_neg hij]
   have:j<i↔j<i + 1:=by omega
   simp only [this]
theorem sel_keep {p:List Int} {s:List Bool} {b:Bool} {i:Nat} (h:nth s (i:Int)≠b):sel p s b i=sel p s b (i + 1):=by
 unfold sel
 apply List.map_congr_left
 intro j _
 have:(j<i∧nth s (j:Int)=b)↔(j<i + 1∧nth s (j:Int)=b):=by
  constructor
  ·rintro ⟨h1,h2⟩; exact ⟨by omega,h2⟩
  ·rintro ⟨h1,h2⟩
   refine ⟨?_,h2⟩
   rcases Nat.lt_or_ge j i with h3 | h3
   ·exact h3
   ·rw [show j=i by omega] at h2; exact absurd h2 h
 simp only [this]
theorem sel_getD {p:List Int} {s:List Bool} {b:Bool} {j:Nat} (hj:j<8):(sel p s b 8).getD j 0=if nth s (j:Int)=b then nth p (j:Int) else 0:=by
 simp [sel,hj]
theorem n16 {p:List Int} (hp:p.length=8∧∀ n∈p,0≤n∧n≤65535) {j:Nat} (hj:j<8):0≤nth p (j:Int)∧nth p (j:Int)≤65535:=by
 rw [nth_nat]
 have:p.getD j default∈p:=by simp [show j<p.length by omega]
 exact hp.2 _ this
theorem sel_okN {p:List Int} {s:List Bool} {b:Bool} (hp:p.length=8∧∀ n∈p,0≤n∧n≤65535):okN (sel p s b 8)=true:=by
 unfold okN
 rw [sel_len,Bool.and_eq_true,List.all_eq_true]
 refine ⟨fun n hn=>?_,rfl⟩
 obtain ⟨j,hj,rfl⟩:=List.mem_map.1 hn
 have hj:j<8:=by simpa using hj
 have:=n16 hp hj
 split
 ·simp; omega
 ·decide
theorem sel_okV {p m:List Int} {s:List Bool} {b:Bool} (hp:p.length=8∧∀ n∈p,0≤n∧n≤65535) (hm:m.length=8∧∀ n∈m,0≤n∧n≤65535):okV (V6 (sel p s b 8) (sel m s b 8))=true:=by
 unfold okV okC V6
 simp only [sel_okN hp,sel_okN hm]
 rfl
theorem most_sel {p:List Int} {s:List Bool} (hp:p.length=8∧∀ n∈p,0≤n∧n≤65535):mostL (sel p s true 8) (sel p s false 8)=p:=by
 apply List.ext_getElem
 ·simp [mostL,sel,hp.1]
 ·intro j h1 h2
  have hj:j<8:=by omega
  have h3:=n16 hp hj
  have e:nth p (j:Int)=p[j]:=by rw [nth_nat]; simp [h2]
  rw [e] at h3
  simp only [mostL,List.getElem_zipWith,sel,List.getElem_map,List.getElem_range,hj,true_and,e]
  cases nth s (j:Int) <;> simp <;> omega
theorem okV_p {p m:List Int} (hp:p.length=8∧∀ n∈p,0≤n∧n≤65535) (hm:m.length=8∧∀ n∈m,0≤n∧n≤65535):okN p=true∧okN m=true:=by
 have h:∀ {l:List Int},(l.length=8∧∀ n∈l,0≤n∧n≤65535)→okN l=true:=fun {l} hl=>by
  unfold okN
  rw [hl.1,Bool.and_eq_true,List.all_eq_true]
  exact ⟨fun n hn=>by have:=hl.2 n hn; simp; omega,rfl⟩
 exact ⟨h hp,h hm⟩
theorem join_sel {p m:List Int} {s:List Bool} (hp:p.length=8∧∀ n∈p,0≤n∧n≤65535) (hm:m.length=8∧∀ n∈m,0≤n∧n≤65535) :
  joinV (V6 (sel p s true 8) (sel m s true 8)) (V6 (sel p s false 8) (sel m s false 8))=(V6 p m,0):=by
 unfold joinV
 rw [sel_okV hp hm,sel_okV hp hm]
 show ((⟨2,0,0,false,[],mostL (sel p s true 8) (sel p s false 8),mostL (sel m s true 8) (sel m s false 8),0⟩:Val),(0:Int))=_
 rw [most_sel hp,most_sel hm]; rfl
theorem sum_sel {p m:List Int} {s:List Bool}:∀ i,i≤8→sumTo (V6 (sel p s true 8) (sel m s true 8)) i + sumTo (V6 (sel p s false 8) (sel m s false 8)) i=sumTo (V6 p m) i
 | 0,_=>rfl
 | i + 1,h=>by
  have ih:=sum_sel (p:=p) (m:=m) (s:=s) i (by omega)
  have hi:i<8:=by omega
  have e1:p.getD i 0=nth p (i:Int):=(nth_nat p i).symm
  have e2:m.getD i 0=nth m (i:Int):=(nth_nat m i).symm
  simp only [sumTo,V6] at ih ⊢
  rw [sel_getD hi,sel_getD hi,sel_getD hi,sel_getD hi,e1,e2]
  cases nth s (i:Int) <;> simp <;> omega
theorem sum_V6 {p m:List Int} (hp:okN p=true) (hm:okN m=true):sumV (V6 p m)=sumTo (V6 p m) 8:=by
 have:okV (V6 p m)=true:=by unfold okV okC V6; simp only [hp,hm]; rfl
 unfold sumV; rw [this]; rfl
theorem sum_next {p m:List Int} (hp:p.length=8∧∀ n∈p,0≤n∧n≤65535) (hm:m.length=8∧∀ n∈m,0≤n∧n≤65535) {i:Nat} (hi:i<8) :
  IntKind.i64.wrap (IntKind.i64.wrap (sumTo (V6 p m) i + IntKind.i64.wrap (nth p (i:Int))) - IntKind.i64.wrap (nth m (i:Int)))=sumTo (V6 p m) (i + 1):=by
 obtain ⟨o1,o2⟩:=okV_p hp hm
 have hb:=sumTo_bound (v:=V6 p m) o1 o2 i
 have h1:=n16 hp hi
 have h2:=n16 hm hi
 have e1:p.getD i 0=nth p (i:Int):=(nth_nat p i).symm
 have e2:m.getD i 0=nth m (i:Int):=(nth_nat m i).symm
 have e:sumTo (V6 p m) (i + 1)=sumTo (V6 p m) i + nth p (i:Int) - nth m (i:Int):=by rw [← e1,← e2]; rfl
 rw [e]
 simp only [IntKind.wrap_i64]
 omega
theorem wrap16 {p:List Int} (hp:p.length=8∧∀ n∈p,0≤n∧n≤65535) {i:Nat} (hi:i<8):IntKind.i64.wrap (nth p (i:Int))=nth p (i:Int):=by
 have h1:=n16 hp hi
 rw [IntKind.wrap_i64]; omega
/-- What lies in memory behind i rounds. -/
structure VI (w : World) (bp bm bn ba bb a1 a2 c1 c2 : Nat) (p m : List Int) (s : List Bool) (i : Nat) (w' : World) : Prop where
  E : Ext w w'
  P : Blk w' bp 38 (arC (Value.int .u16) 8 p)
  M : Blk w' bm 38 (arC (Value.int .u16) 8 m)
  N : Blk w' bn 39 (arC Value.bool 8 s)
  A : Blk w' ba 25 (cntC a1 a2)
  B : Blk w' bb 25 (cntC c1 c2)
  X1 : Blk w' a1 3 (intC (sel p s true i))
  X2 : Blk w' a2 3 (intC (sel m s true i))
  Y1 : Blk w' c1 3 (intC (sel p s false i))
  Y2 : Blk w' c2 3 (intC (sel m s false i))
structure DV (w:World) (bp bm bn ba bb a1 a2 c1 c2:Nat):Prop where
 h0:w.heap.size≤bp∧bp<bm∧bm<bn
 h1:bn<a1∧bn<a2∧a1≠a2∧a1<ba∧a2<ba
 h2:ba<c1∧ba<c2∧c1≠c2∧c1<bb∧c2<bb
def cntB6 (n:Nat) (i:Nat) (z:Nat ⊕ Nat):Prop:=(i<n→z=.inl (i + 1))∧(¬ i<n→z=.inr i)
theorem cnt_loop6 (n:Nat):∀ (k i:Nat),i + k=n→LoopR (cntB6 n) i n
 | 0,i,h=>.done ⟨fun c=>by omega,fun _=>by rw [show i=n by omega]⟩
 | k + 1,i,h=>.step ⟨fun _=>rfl,fun c=>by omega⟩ (cnt_loop6 n k (i + 1) (by omega))
set_option maxRecDepth 20000 in
set_option maxHeartbeats 8000000 in
theorem law06_ValueSums_c {L:List Nat} {w:World} (p m:List Int) (s:List Bool) (hL:Lt L w) (hp:p.length=8∧∀ n∈p,0≤n∧n≤65535) (hm:m.length=8∧∀ n∈m,0≤n∧n≤65535) (hs:s.length=8) :
  Calls Try.prog 7 [.agg (arC (Value.int .u16) 8 p).toArray,.agg (arC (Value.int .u16) 8 m).toArray,.agg (arC Value.bool 8 s).toArray].toArray w (Ret fun v w'=>Ext w w'∧v=.bool true):=by
 refine calls_ec Try.func7 rfl rfl rfl ?_
 refine ec_sr ?_
 refine o_box (cs:=arC (Value.int .u16) 8 p) rfl rfl rfl ?_
 intro bp w1 e1 F1 B1
 refine o_box (cs:=arC (Value.int .u16) 8 m) rfl rfl rfl ?_
 intro bm w2 e2 F2 B2
 refine o_box (cs:=arC Value.bool 8 s) rfl rfl rfl ?_
 intro bn w3 e3 F3 B3
 refine o_w (v:=.bool false) (r_asg rfl) ?_
 refine eo_r ?_
 have E3:Ext w w3:=(F1.trans F2).trans F3
 refine o_call cf_law06_works rfl (law06_works_c (hL.fr E3) works_ev) rfl rfl ?_
 rintro _ w4 ⟨F4,rfl⟩
 refine o_w (v:=.bool (worksV)) (r_asg rfl) ?_
 refine eo_nil_sq ?_
 refine ec_seq ?_
 refine ec_sr ?_
 refine o_w (v:=.bool (worksV)) (r_mov rfl) ?_
 refine o_w (v:=.bool (!(worksV))) (r_not rfl) ?_
 refine eo_nil_sq ?_
 refine ec_condF rfl rfl ?_
 refine ec_skip ?_
 refine sq_n ?_
 refine ec_sr ?_
 refine o_call cf_value_Least rfl value_LeastC_c rfl rfl ?_
 rintro _ w5 ⟨a1,a2,rfl,F5,Xa1,Xa2,la1,la2,na1⟩
 refine o_w (v:=.tuple #[.agg (cntC a1 a2).toArray,.int .i64 0]) (r_mov rfl) ?_
 refine o_w (v:=.agg (cntC a1 a2).toArray) (r_ext rfl rfl) ?_
 refine o_w (v:=.int .i64 0) (r_ext rfl rfl) ?_
 refine o_alloc zero_api_Value rfl rfl rfl ?_
 intro ba w6 e6 F6 B6
 refine o_store rfl B6 (vs:=cntC a1 a2) rfl sz_api_Value rfl rfl rfl ?_
 intro w7 F7 B7
 refine o_w (v:=.int .i64 0) (r_asg rfl) ?_
 refine eo_r ?_
 refine o_call cf_value_Least rfl value_LeastC_c rfl rfl ?_
 rintro _ w8 ⟨c1,c2,rfl,F8,Xc1,Xc2,lc1,lc2,nc1⟩
 refine o_w (v:=.tuple #[.agg (cntC c1 c2).toArray,.int .i64 0]) (r_mov rfl) ?_
 refine o_w (v:=.agg (cntC c1 c2).toArray) (r_ext rfl rfl) ?_
 refine o_w (v:=.int .i64 0) (r_ext rfl rfl) ?_
 refine o_alloc zero_api_Value rfl rfl rfl ?_
 intro bb w9 e9 F9 B9
 refine o_store rfl B9 (vs:=cntC c1 c2) rfl sz_api_Value rfl rfl rfl ?_
 intro w10 F10 B10
 refine o_w (v:=.int .i64 0) (r_asg rfl) ?_
 refine eo_nil_sq ?_
 have p1:=B1.lt
 have p2:=B2.lt
 have p3:=B3.lt
 have z4:=F4.size
 have xa1:=Xa1.lt
 have xa2:=Xa2.lt
 have z6:=F6.size
 have z7:=F7.size
 have xc1:=Xc1.lt
 have xc2:=Xc2.lt
 have z8:=F8.size
 have z9:=F9.size
 have b6:=B6.lt
 have z1:=F1.size
 have z2:=F2.size
 have z3:=F3.size
 have z5:=F5.size
 have D:DV w bp bm bn ba bb a1 a2 c1 c2:=⟨⟨by omega,by omega,by omega⟩,⟨by omega,by omega,na1,by omega,by omega⟩,⟨by omega,by omega,nc1,by omega,by omega⟩⟩
 obtain ⟨⟨d1,d2,d3⟩,⟨d4,d5,d6,d7,d8⟩,⟨d9,d10,d11,d12,d13⟩⟩:=D
 have E7:Ext w w7:=Ext.st (((E3.trans F4).trans F5).trans F6) F7 (by simp; omega)
 have E10:Ext w w10:=Ext.st ((E7.trans F8).trans F9) F10 (by simp; omega)
 have J:VI w bp bm bn ba bb a1 a2 c1 c2 p m s 0 w10:=by
  have g7:∀ {b:Nat} {t:TypeId} {cs:List Value},Blk w5 b t cs→b≠ba→Blk w7 b t cs:=fun h hn=>(h.ex F6).fr F7 (by simpa using hn)
  have g10:∀ {b:Nat} {t:TypeId} {cs:List Value},Blk w7 b t cs→b≠bb→Blk w10 b t cs:=fun h hn=>((h.ex F8).ex F9).fr F10 (by simpa using hn)
  have f10:∀ {b:Nat} {t:TypeId} {cs:List Value},Blk w8 b t cs→b≠bb→Blk w10 b t cs:=fun h hn=>(h.ex F9).fr F10 (by simpa using hn)
  refine ⟨E10,g10 (g7 ((((B1.ex F2).ex F3).ex F4).ex F5) (by omega)) (by omega),g10 (g7 (((B2.ex F3).ex F4).ex F5) (by omega)) (by omega),g10 (g7 ((B3.ex F4).ex F5) (by omega)) (by omega),g10 B7 (by omega),B10,?_,?_,?_,?_⟩
  ·rw [sel_0]; exact g10 (g7 Xa1 (by omega)) (by omega)
  ·rw [sel_0]; exact g10 (g7 Xa2 (by omega)) (by omega)
  ·rw [sel_0]; exact f10 Xc1 (by omega)
  ·rw [sel_0]; exact f10 Xc2 (by omega)
 refine ec_sr ?_
 refine o_w (v:=.int .i64 0) (r_asg rfl) ?_
 refine eo_nil_sq ?_
 refine ec_seq ?_
 refine ec_sr ?_
 refine o_w (v:=.pointer (some ⟨ba,5,none⟩)) (r_fa fld_api_Value_5 rfl rfl) ?_
 refine o_w (v:=.slice (some ⟨a1,0,none⟩) 8 8) (r_ld one_s_int rfl (J.A.cell rfl)) ?_
 refine o_w (v:=.int .i64 8) (r_len_slc un_s_int rfl) ?_
 refine o_w (v:=.bool false) (r_int rfl rfl rfl) ?_
 refine o_w (v:=.bool false) (r_mov rfl) ?_
 refine o_v (v:=.pointer (some ⟨bb,5,none⟩)) (r_fa fld_api_Value_5 rfl rfl) (want_t (t:=31) rfl rfl rfl) rfl rfl ?_
 refine o_v (v:=.slice (some ⟨c1,0,none⟩) 8 8) (r_ld one_s_int rfl (J.B.cell rfl)) (want_t (t:=31) rfl rfl rfl) rfl rfl ?_
 refine o_v (v:=.int .i64 8) (r_len_slc un_s_int rfl) (want_t (t:=31) rfl rfl rfl) rfl rfl ?_
 refine o_v (v:=.bool false) (r_int rfl rfl rfl) (want_t (t:=31) rfl rfl rfl) rfl rfl ?_
 refine o_w (v:=.bool false) (r_pickF rfl rfl rfl) ?_
 refine o_w (v:=.bool false) (r_mov rfl) ?_
 refine o_v (v:=.pointer (some ⟨ba,6,none⟩)) (r_fa fld_api_Value_6 rfl rfl) (want_t (t:=37) rfl rfl rfl) rfl rfl ?_
 refine o_v (v:=.slice (some ⟨a2,0,none⟩) 8 8) (r_ld one_s_int rfl (J.A.cell rfl)) (want_t (t:=37) rfl rfl rfl) rfl rfl ?_
 refine o_v (v:=.int .i64 8) (r_len_slc un_s_int rfl) (want_t (t:=37) rfl rfl rfl) rfl rfl ?_
 refine o_v (v:=.bool false) (r_int rfl rfl rfl) (want_t (t:=37) rfl rfl rfl) rfl rfl ?_
 refine o_w (v:=.bool false) (r_pickF rfl rfl rfl) ?_
 refine o_w (v:=.bool false) (r_mov rfl) ?_
 refine o_v (v:=.pointer (some ⟨bb,6,none⟩)) (r_fa fld_api_Value_6 rfl rfl) (want_t (t:=43) rfl rfl rfl) rfl rfl ?_
 refine o_v (v:=.slice (some ⟨c2,0,none⟩) 8 8) (r_ld one_s_int rfl (J.B.cell rfl)) (want_t (t:=43) rfl rfl rfl) rfl rfl ?_
 refine o_v (v:=.int .i64 8) (r_len_slc un_s_int rfl) (want_t (t:=43) rfl rfl rfl) rfl rfl ?_
 refine o_v (v:=.bool false) (r_int rfl rfl rfl) (want_t (t:=43) rfl rfl rfl) rfl rfl ?_
 refine o_w (v:=.bool false) (r_pickF rfl rfl rfl) ?_
 refine eo_nil_sq ?_
 refine ec_condF rfl rfl ?_
 refine ec_skip ?_
 refine sq_n ?_
 refine ec_seq ?_
 refine ec_sr ?_
 refine o_w (v:=.int .i64 0) (r_asg rfl) ?_
 refine eo_nil_sq ?_
 refine ec_block ?_
 refine ec_loopE 0 (I:=(fun (i:Nat) ρ ds w'=>∃ (ρ':Env),ρ=envs ρ' [(13,.int .i64 (i:Int)),(12,.int .i64 (sumTo (V6 p m) i)),(7,.bool (worksV)),(3,.pointer (some ⟨bp,0,none⟩)),(4,.pointer (some ⟨bm,0,none⟩)),(5,.pointer (some ⟨bn,0,none⟩)),(8,.pointer (some ⟨ba,0,none⟩)),(10,.pointer (some ⟨bb,0,none⟩))]∧ds=[]∧i≤8∧VI w bp bm bn ba bb a1 a2 c1 c2 p m s i w')) ?_ (cnt_loop6 8 8 0 rfl) ?_ ?_
 ·intro i z ρ1 ds1 wr hI hb
  obtain ⟨ρr,rfl,rfl,hi8,Jr⟩:=hI
  refine ec_seq ?_
  refine ec_sr ?_
  refine o_w (v:=.int .i64 (i:Int)) (r_mov rfl) ?_
  refine o_w (v:=.bool (decide ((i:Int)<8))) (r_int rfl rfl rfl) ?_
  refine eo_nil_sq ?_
  refine ec_cond rfl (fun hc=>?_) (fun hc=>?_)
  ·have hi:i<8:=by simp at hc; omega
   obtain rfl:=hb.1 hi
   refine ec_skip ?_
   refine sq_n ?_
   refine ec_seq ?_
   refine ec_block ?_
   refine ec_seq ?_
   refine ec_any0 (by kernel_rfl) [[],[],[1],[1,2],[1,2,3],[0,1,2,3,4],[],[6],[6,7],[6,7,8],[0,1,2,3,4,5,6,7,8,9],[0,1,2,3,4,5,6,7,8,9,10]] [53,54,55,56,57,58,59,60,61,62,63,12]
    [fun v _=>v=(.int .i64 (sumTo (V6 p m) i):Value),fun v _=>v=(.int .i64 (i:Int):Value),fun v _=>v=(.pointer (some ⟨bp,i,none⟩):Value),fun v _=>v=(.int .u16 (nth p (i:Int)):Value),fun v _=>v=(.int .i64 (IntKind.i64.wrap (nth p (i:Int))):Value),fun v _=>v=(.int .i64 (IntKind.i64.wrap (sumTo (V6 p m) i + IntKind.i64.wrap (nth p (i:Int)))):Value),fun v _=>v=(.int .i64 (i:Int):Value),fun v _=>v=(.pointer (some ⟨bm,i,none⟩):Value),fun v _=>v=(.int .u16 (nth m (i:Int)):Value),fun v _=>v=(.int .i64 (IntKind.i64.wrap (nth m (i:Int))):Value),fun v _=>v=(.int .i64 (sumTo (V6 p m) (i + 1)):Value),fun v _=>v=(.int .i64 (sumTo (V6 p m) (i + 1)):Value)]
    (by kernel_rfl) ⟨fun _ _ _ _ _ h=>h,fun _ _ _ _ _ h=>h,fun _ _ _ _ _ h=>h,fun _ _ _ _ _ h=>h,fun _ _ _ _ _ h=>h,fun _ _ _ _ _ h=>h,fun _ _ _ _ _ h=>h,fun _ _ _ _ _ h=>h,fun _ _ _ _ _ h=>h,fun _ _ _ _ _ h=>h,fun _ _ _ _ _ h=>h,fun _ _ _ _ _ h=>h,trivial⟩ ?_ ?_
   ·refine ⟨?_,?_,?_,?_,?_,?_,?_,?_,?_,?_,?_,?_,trivial⟩
    ·intro ρ w1 F1 hS hρ
     have q:ρ 12=.int .i64 (sumTo (V6 p m) i):=hρ 12 (by kernel_rfl)
     exact o_q (r_mov q) ⟨Fr.refl _ _,rfl⟩
    ·intro ρ w1 F1 hS hρ
     have q:ρ 13=.int .i64 (i:Int):=hρ 13 (by kernel_rfl)
     exact o_q (r_mov q) ⟨Fr.refl _ _,rfl⟩
    ·intro ρ w1 F1 hS hρ
     have q0:ρ 3=.pointer (some ⟨bp,0,none⟩):=hρ 3 (by kernel_rfl)
     have q:ρ 54=.int .i64 (i:Int):=hS 1 (by decide) 54 rfl
     exact o_q (r_iaA un_8_uint16 sz_uint16 q0 q ⟨by omega,by omega⟩) ⟨Fr.refl _ _,rfl⟩
    ·intro ρ w1 F1 hS hρ
     have q:ρ 55=.pointer (some ⟨bp,i,none⟩):=hS 2 (by decide) 55 rfl
     exact o_q (r_ld one_uint16 q ((Jr.P.ex F1).cellV (i:=(i:Int)) ⟨by omega,by omega⟩)) ⟨Fr.refl _ _,rfl⟩
    ·intro ρ w1 F1 hS hρ
     have q:ρ 56=.int .u16 (nth p (i:Int)):=hS 3 (by decide) 56 rfl
     exact o_q (r_conv un_uint16 un_int q) ⟨Fr.refl _ _,rfl⟩
    ·intro ρ w1 F1 hS hρ
     have q1:ρ 53=.int .i64 (sumTo (V6 p m) i):=hS 0 (by decide) 53 rfl
     have q2:ρ 57=.int .i64 (IntKind.i64.wrap (nth p (i:Int))):=hS 4 (by decide) 57 rfl
     exact o_q (r_int q1 q2 rfl) ⟨Fr.refl _ _,rfl⟩
    ·intro ρ w1 F1 hS hρ
     have q:ρ 13=.int .i64 (i:Int):=hρ 13 (by kernel_rfl)
     exact o_q (r_mov q) ⟨Fr.refl _ _,rfl⟩
    ·intro ρ w1 F1 hS hρ
     have q0:ρ 4=.pointer (some ⟨bm,0,none⟩):=hρ 4 (by kernel_rfl)
     have q:ρ 59=.int .i64 (i:Int):=hS 6 (by decide) 59 rfl
     exact o_q (r_iaA un_8_uint16 sz_uint16 q0 q ⟨by omega,by omega⟩) ⟨Fr.refl _ _,rfl⟩
    ·intro ρ w1 F1 hS hρ
     have q:ρ 60=.pointer (some ⟨bm,i,none⟩):=hS 7 (by decide) 60 rfl
     exact o_q (r_ld one_uint16 q ((Jr.M.ex F1).cellV (i:=(i:Int)) ⟨by omega,by omega⟩)) ⟨Fr.refl _ _,rfl⟩
    ·intro ρ w1 F1 hS hρ
     have q:ρ 61=.int .u16 (nth m (i:Int)):=hS 8 (by decide) 61 rfl
     exact o_q (r_conv un_uint16 un_int q) ⟨Fr.refl _ _,rfl⟩
    ·intro ρ w1 F1 hS hρ
     have q1:ρ 58=.int .i64 (IntKind.i64.wrap (sumTo (V6 p m) i + IntKind.i64.wrap (nth p (i:Int)))):=hS 5 (by decide) 58 rfl
     have q2:ρ 62=.int .i64 (IntKind.i64.wrap (nth m (i:Int))):=hS 9 (by decide) 62 rfl
     exact o_q (v:=.int .i64 (sumTo (V6 p m) (i + 1))) (r_int q1 q2 (by show some (Value.int .i64 (IntKind.i64.wrap (IntKind.i64.wrap (sumTo (V6 p m) i + IntKind.i64.wrap (nth p (i:Int))) - IntKind.i64.wrap (nth m (i:Int)))))=_; rw [sum_next hp hm hi])) ⟨Fr.refl _ _,rfl⟩
    ·intro ρ w1 F1 hS hρ
     have q:ρ 63=.int .i64 (sumTo (V6 p m) (i + 1)):=hS 10 (by decide) 63 rfl
     exact o_q (r_asg q) ⟨Fr.refl _ _,rfl⟩
   intro ρ w11 F11 hS hρ
   have q13:ρ 13=.int .i64 (i:Int):=hρ 13 (by kernel_rfl)
   have q12:ρ 12=.int .i64 (sumTo (V6 p m) (i + 1)):=hS 11 12 rfl
   have q7:ρ 7=.bool (worksV):=hρ 7 (by kernel_rfl)
   have q3:ρ 3=.pointer (some ⟨bp,0,none⟩):=hρ 3 (by kernel_rfl)
   have q4:ρ 4=.pointer (some ⟨bm,0,none⟩):=hρ 4 (by kernel_rfl)
   have q5:ρ 5=.pointer (some ⟨bn,0,none⟩):=hρ 5 (by kernel_rfl)
   have q8:ρ 8=.pointer (some ⟨ba,0,none⟩):=hρ 8 (by kernel_rfl)
   have q10:ρ 10=.pointer (some ⟨bb,0,none⟩):=hρ 10 (by kernel_rfl)
   obtain ⟨ρ',rfl⟩:∃ ρ',ρ=envs ρ' [(13,.int .i64 (i:Int)),(12,.int .i64 (sumTo (V6 p m) (i + 1))),(7,.bool (worksV)),(3,.pointer (some ⟨bp,0,none⟩)),(4,.pointer (some ⟨bm,0,none⟩)),(5,.pointer (some ⟨bn,0,none⟩)),(8,.pointer (some ⟨ba,0,none⟩)),(10,.pointer (some ⟨bb,0,none⟩))]:=⟨ρ,envs_self ⟨q13,q12,q7,q3,q4,q5,q8,q10,trivial⟩⟩
   have J1:VI w bp bm bn ba bb a1 a2 c1 c2 p m s i w11:=⟨Jr.E.trans F11,Jr.P.ex F11,Jr.M.ex F11,Jr.N.ex F11,Jr.A.ex F11,Jr.B.ex F11,Jr.X1.ex F11,Jr.X2.ex F11,Jr.Y1.ex F11,Jr.Y2.ex F11⟩
   refine sq_n ?_
   refine ec_sr ?_
   refine o_w (v:=.int .i64 (i:Int)) (r_mov rfl) ?_
   refine o_w (v:=.pointer (some ⟨bn,i,none⟩)) (r_iaA (i:=(i:Int)) un_8_bool sz_boolJ rfl rfl ⟨by omega,by omega⟩) ?_
   refine o_w (v:=.bool (nth s (i:Int))) (r_ld one_boolJ rfl (J1.N.cellV (i:=(i:Int)) ⟨by omega,by omega⟩)) ?_
   refine eo_nil_sq ?_
   refine ec_cond rfl (fun hc2=>?_) (fun hc2=>?_)
   ·have hsi:nth s (i:Int)=true:=hc2
    refine ec_seq ?_
    refine ec_anyN (by kernel_rfl) [[],[0],[],[],[3],[3,4],[3,4,5],[0,1,2,3,4,5,6],[0,1,2,3,4,5,6,7]] [67,68,69,70,71,72,73,74] [a1] [8] [[a1]] [[8]]
     [fun w'=>Blk w' a1 3 (intC (sel p s true i)),fun w'=>Blk w' a1 3 (intC ((sel p s true i).set i (IntKind.i64.wrap (nth p (i:Int)))))]
     [fun v _=>v=(.pointer (some ⟨ba,5,none⟩):Value),fun v _=>v=(.slice (some ⟨a1,0,none⟩) 8 8:Value),fun v _=>v=(.int .i64 (i:Int):Value),fun v _=>v=(.int .i64 (i:Int):Value),fun v _=>v=(.pointer (some ⟨bp,i,none⟩):Value),fun v _=>v=(.int .u16 (nth p (i:Int)):Value),fun v _=>v=(.int .i64 (IntKind.i64.wrap (nth p (i:Int))):Value),fun v _=>v=(.pointer (some ⟨a1,i,none⟩):Value),fun _ _=>True]
     (by kernel_rfl) (allM1 (fun m hm=>hm) (fun _ h=>by cases h))
     ⟨fun _ _ _ _ _ h=>h,fun _ _ _ _ _ h=>h,fun _ _ _ _ _ h=>h,fun _ _ _ _ _ h=>h,fun _ _ _ _ _ h=>h,fun _ _ _ _ _ h=>h,fun _ _ _ _ _ h=>h,fun _ _ _ _ _ h=>h,fun _ _ _ _ _ h=>h,trivial⟩
     ⟨⟨fun _ _ _ _ _ h=>h,fun _ _ _ _ _ h=>h,fun _ _ _ _ _ h=>h,fun _ _ _ _ _ h=>h,fun _ _ _ _ _ h=>h,fun _ _ _ _ _ h=>h,fun _ _ _ _ _ h=>h,fun _ _ _ _ _ h=>h,fun _ _ _ _ _ h=>h,trivial⟩,trivial⟩
     ⟨fun _ _ f h=>h.ex f,fun _ _ f h=>h.ex f,trivial⟩ J1.X1 ?_ ?_ ?_
    ·refine ⟨?_,?_,?_,?_,?_,?_,?_,?_,?_,trivial⟩
     ·intro _ ρ w1 F1 hX hS hρ
      have q:ρ 8=.pointer (some ⟨ba,0,none⟩):=hρ 8 (by kernel_rfl)
      exact o_q (r_fa fld_api_Value_5 rfl q) ⟨Fr.refl _ _,rfl⟩
     ·intro _ ρ w1 F1 hX hS hρ
      have q:ρ 67=.pointer (some ⟨ba,5,none⟩):=hS 0 (by decide) 67 rfl
      exact o_q (r_ld one_s_int q ((J1.A.fr F1 (by simp; omega)).cell rfl)) ⟨Fr.refl _ _,rfl⟩
     ·intro _ ρ w1 F1 hX hS hρ
      have q:ρ 13=.int .i64 (i:Int):=hρ 13 (by kernel_rfl)
      exact o_q (r_mov q) ⟨Fr.refl _ _,rfl⟩
     ·intro _ ρ w1 F1 hX hS hρ
      have q:ρ 13=.int .i64 (i:Int):=hρ 13 (by kernel_rfl)
      exact o_q (r_mov q) ⟨Fr.refl _ _,rfl⟩
     ·intro _ ρ w1 F1 hX hS hρ
      have q0:ρ 3=.pointer (some ⟨bp,0,none⟩):=hρ 3 (by kernel_rfl)
      have q:ρ 70=.int .i64 (i:Int):=hS 3 (by decide) 70 rfl
      exact o_q (r_iaA un_8_uint16 sz_uint16 q0 q ⟨by omega,by omega⟩) ⟨Fr.refl _ _,rfl⟩
     ·intro _ ρ w1 F1 hX hS hρ
      have q:ρ 71=.pointer (some ⟨bp,i,none⟩):=hS 4 (by decide) 71 rfl
      exact o_q (r_ld one_uint16 q ((J1.P.fr F1 (by simp; omega)).cellV (i:=(i:Int)) ⟨by omega,by omega⟩)) ⟨Fr.refl _ _,rfl⟩
     ·intro _ ρ w1 F1 hX hS hρ
      have q:ρ 72=.int .u16 (nth p (i:Int)):=hS 5 (by decide) 72 rfl
      exact o_q (r_conv un_uint16 un_int q) ⟨Fr.refl _ _,rfl⟩
     ·intro _ ρ w1 F1 hX hS hρ
      have q1:ρ 68=.slice (some ⟨a1,0,none⟩) 8 8:=hS 1 (by decide) 68 rfl
      have q2:ρ 69=.int .i64 (i:Int):=hS 2 (by decide) 69 rfl
      exact o_q (r_iaM slc_s_int q1 q2 ⟨by omega,by omega⟩) ⟨Fr.refl _ _,rfl⟩
     ·intro hT; exact absurd hT (by decide)
    ·refine ⟨⟨_,rfl,?_⟩,trivial⟩
     intro ρ w1 F1 hX hI hS hρ
     have q1:ρ 74=.pointer (some ⟨a1,i,none⟩):=hS 7 (by decide) 74 rfl
     have q2:ρ 73=.int .i64 (IntKind.i64.wrap (nth p (i:Int))):=hS 6 (by decide) 73 rfl
     have hI':Blk w1 a1 3 (intC (sel p s true i)):=hI
     refine o_storeV (f:=Value.int .i64) (i:=(i:Int)) q1 hI' ⟨by omega,by omega⟩ (sel_len _ _ _ _) q2 (fun v=>int_one v) sz_int rfl ?_
     intro w2 F2 B2
     exact eo_nil ⟨rfl,rfl,.nilIface,rfl,F2,B2,trivial⟩
    intro ρ w12 F12 hI hS hρ
    have X12:Blk w12 a1 3 (intC ((sel p s true i).set i (IntKind.i64.wrap (nth p (i:Int))))):=hI
    have q13:ρ 13=.int .i64 (i:Int):=hρ 13 (by kernel_rfl)
    have q12:ρ 12=.int .i64 (sumTo (V6 p m) (i + 1)):=hρ 12 (by kernel_rfl)
    have q7:ρ 7=.bool (worksV):=hρ 7 (by kernel_rfl)
    have q3:ρ 3=.pointer (some ⟨bp,0,none⟩):=hρ 3 (by kernel_rfl)
    have q4:ρ 4=.pointer (some ⟨bm,0,none⟩):=hρ 4 (by kernel_rfl)
    have q5:ρ 5=.pointer (some ⟨bn,0,none⟩):=hρ 5 (by kernel_rfl)
    have q8:ρ 8=.pointer (some ⟨ba,0,none⟩):=hρ 8 (by kernel_rfl)
    have q10:ρ 10=.pointer (some ⟨bb,0,none⟩):=hρ 10 (by kernel_rfl)
    obtain ⟨ρ',rfl⟩:∃ ρ',ρ=envs ρ' [(13,.int .i64 (i:Int)),(12,.int .i64 (sumTo (V6 p m) (i + 1))),(7,.bool (worksV)),(3,.pointer (some ⟨bp,0,none⟩)),(4,.pointer (some ⟨bm,0,none⟩)),(5,.pointer (some ⟨bn,0,none⟩)),(8,.pointer (some ⟨ba,0,none⟩)),(10,.pointer (some ⟨bb,0,none⟩))]:=⟨ρ,envs_self ⟨q13,q12,q7,q3,q4,q5,q8,q10,trivial⟩⟩
    rw [wrap16 hp hi,sel_set hi hsi] at X12
    have A12:=J1.A.fr F12 (by simp; omega)
    have M12:=J1.M.fr F12 (by simp; omega)
    have Z12:=J1.X2.fr F12 (by simp; omega)
    refine sq_n ?_
    refine ec_anyN (by kernel_rfl) [[],[0],[],[],[3],[3,4],[3,4,5],[0,1,2,3,4,5,6],[0,1,2,3,4,5,6,7]] [75,76,77,78,79,80,81,82] [a2] [8] [[a2]] [[8]]
     [fun w'=>Blk w' a2 3 (intC (sel m s true i)),fun w'=>Blk w' a2 3 (intC ((sel m s true i).set i (IntKind.i64.wrap (nth m (i:Int)))))]
     [fun v _=>v=(.pointer (some ⟨ba,6,none⟩):Value),fun v _=>v=(.slice (some ⟨a2,0,none⟩) 8 8:Value),fun v _=>v=(.int .i64 (i:Int):Value),fun v _=>v=(.int .i64 (i:Int):Value),fun v _=>v=(.pointer (some ⟨bm,i,none⟩):Value),fun v _=>v=(.int .u16 (nth m (i:Int)):Value),fun v _=>v=(.int .i64 (IntKind.i64.wrap (nth m (i:Int))):Value),fun v _=>v=(.pointer (some ⟨a2,i,none⟩):Value),fun _ _=>True]
     (by kernel_rfl) (allM1 (fun m hm=>hm) (fun _ h=>by cases h))
     ⟨fun _ _ _ _ _ h=>h,fun _ _ _ _ _ h=>h,fun _ _ _ _ _ h=>h,fun _ _ _ _ _ h=>h,fun _ _ _ _ _ h=>h,fun _ _ _ _ _ h=>h,fun _ _ _ _ _ h=>h,fun _ _ _ _ _ h=>h,fun _ _ _ _ _ h=>h,trivial⟩
     ⟨⟨fun _ _ _ _ _ h=>h,fun _ _ _ _ _ h=>h,fun _ _ _ _ _ h=>h,fun _ _ _ _ _ h=>h,fun _ _ _ _ _ h=>h,fun _ _ _ _ _ h=>h,fun _ _ _ _ _ h=>h,fun _ _ _ _ _ h=>h,fun _ _ _ _ _ h=>h,trivial⟩,trivial⟩
     ⟨fun _ _ f h=>h.ex f,fun _ _ f h=>h.ex f,trivial⟩ Z12 ?_ ?_ ?_
    ·refine ⟨?_,?_,?_,?_,?_,?_,?_,?_,?_,trivial⟩
     ·intro _ ρ w1 F1 hX hS hρ
      have q:ρ 8=.pointer (some ⟨ba,0,none⟩):=hρ 8 (by kernel_rfl)
      exact o_q (r_fa fld_api_Value_6 rfl q) ⟨Fr.refl _ _,rfl⟩
     ·intro _ ρ w1 F1 hX hS hρ
      have q:ρ 75=.pointer (some ⟨ba,6,none⟩):=hS 0 (by decide) 75 rfl
      exact o_q (r_ld one_s_int q ((A12.fr F1 (by simp; omega)).cell rfl)) ⟨Fr.refl _ _,rfl⟩
     ·intro _ ρ w1 F1 hX hS hρ
      have q:ρ 13=.int .i64 (i:Int):=hρ 13 (by kernel_rfl)
      exact o_q (r_mov q) ⟨Fr.refl _ _,rfl⟩
     ·intro _ ρ w1 F1 hX hS hρ
      have q:ρ 13=.int .i64 (i:Int):=hρ 13 (by kernel_rfl)
      exact o_q (r_mov q) ⟨Fr.refl _ _,rfl⟩
     ·intro _ ρ w1 F1 hX hS hρ
      have q0:ρ 4=.pointer (some ⟨bm,0,none⟩):=hρ 4 (by kernel_rfl)
      have q:ρ 78=.int .i64 (i:Int):=hS 3 (by decide) 78 rfl
      exact o_q (r_iaA un_8_uint16 sz_uint16 q0 q ⟨by omega,by omega⟩) ⟨Fr.refl _ _,rfl⟩
     ·intro _ ρ w1 F1 hX hS hρ
      have q:ρ 79=.pointer (some ⟨bm,i,none⟩):=hS 4 (by decide) 79 rfl
      exact o_q (r_ld one_uint16 q ((M12.fr F1 (by simp; omega)).cellV (i:=(i:Int)) ⟨by omega,by omega⟩)) ⟨Fr.refl _ _,rfl⟩
     ·intro _ ρ w1 F1 hX hS hρ
      have q:ρ 80=.int .u16 (nth m (i:Int)):=hS 5 (by decide) 80 rfl
      exact o_q (r_conv un_uint16 un_int q) ⟨Fr.refl _ _,rfl⟩
     ·intro _ ρ w1 F1 hX hS hρ
      have q1:ρ 76=.slice (some ⟨a2,0,none⟩) 8 8:=hS 1 (by decide) 76 rfl
      have q2:ρ 77=.int .i64 (i:Int):=hS 2 (by decide) 77 rfl
      exact o_q (r_iaM slc_s_int q1 q2 ⟨by omega,by omega⟩) ⟨Fr.refl _ _,rfl⟩
     ·intro hT; exact absurd hT (by decide)
    ·refine ⟨⟨_,rfl,?_⟩,trivial⟩
     intro ρ w1 F1 hX hI hS hρ
     have q1:ρ 82=.pointer (some ⟨a2,i,none⟩):=hS 7 (by decide) 82 rfl
     have q2:ρ 81=.int .i64 (IntKind.i64.wrap (nth m (i:Int))):=hS 6 (by decide) 81 rfl
     have hI':Blk w1 a2 3 (intC (sel m s true i)):=hI
     refine o_storeV (f:=Value.int .i64) (i:=(i:Int)) q1 hI' ⟨by omega,by omega⟩ (sel_len _ _ _ _) q2 (fun v=>int_one v) sz_int rfl ?_
     intro w2 F2 B2
     exact eo_nil ⟨rfl,rfl,.nilIface,rfl,F2,B2,trivial⟩
    intro ρ w13 F13 hI hS hρ
    have X13:Blk w13 a2 3 (intC ((sel m s true i).set i (IntKind.i64.wrap (nth m (i:Int))))):=hI
    have q13:ρ 13=.int .i64 (i:Int):=hρ 13 (by kernel_rfl)
    have q12:ρ 12=.int .i64 (sumTo (V6 p m) (i + 1)):=hρ 12 (by kernel_rfl)
    have q7:ρ 7=.bool (worksV):=hρ 7 (by kernel_rfl)
    have q3:ρ 3=.pointer (some ⟨bp,0,none⟩):=hρ 3 (by kernel_rfl)
    have q4:ρ 4=.pointer (some ⟨bm,0,none⟩):=hρ 4 (by kernel_rfl)
    have q5:ρ 5=.pointer (some ⟨bn,0,none⟩):=hρ 5 (by kernel_rfl)
    have q8:ρ 8=.pointer (some ⟨ba,0,none⟩):=hρ 8 (by kernel_rfl)
    have q10:ρ 10=.pointer (some ⟨bb,0,none⟩):=hρ 10 (by kernel_rfl)
    obtain ⟨ρ',rfl⟩:∃ ρ',ρ=envs ρ' [(13,.int .i64 (i:Int)),(12,.int .i64 (sumTo (V6 p m) (i + 1))),(7,.bool (worksV)),(3,.pointer (some ⟨bp,0,none⟩)),(4,.pointer (some ⟨bm,0,none⟩)),(5,.pointer (some ⟨bn,0,none⟩)),(8,.pointer (some ⟨ba,0,none⟩)),(10,.pointer (some ⟨bb,0,none⟩))]:=⟨ρ,envs_self ⟨q13,q12,q7,q3,q4,q5,q8,q10,trivial⟩⟩
    rw [wrap16 hm hi,sel_set hi hsi] at X13
    have k1:Blk w11 c1 3 (intC (sel p s false (i + 1))):=by rw [← sel_keep (by rw [hsi]; decide)]; exact J1.Y1
    have k2:Blk w11 c2 3 (intC (sel m s false (i + 1))):=by rw [← sel_keep (by rw [hsi]; decide)]; exact J1.Y2
    have mv:∀ {b:Nat} {t:TypeId} {cs:List Value},Blk w11 b t cs→b≠a1→b≠a2→Blk w13 b t cs:=fun h n1 n2=>(h.fr F12 (by simpa using n1)).fr F13 (by simpa using n2)
    have J9:VI w bp bm bn ba bb a1 a2 c1 c2 p m s (i + 1) w13:=⟨Ext.st (Ext.st J1.E F12 (by simp; omega)) F13 (by simp; omega),mv J1.P (by omega) (by omega),mv J1.M (by omega) (by omega),mv J1.N (by omega) (by omega),mv J1.A (by omega) (by omega),mv J1.B (by omega) (by omega),X12.fr F13 (by simp; omega),X13,mv k1 (by omega) (by omega),mv k2 (by omega) (by omega)⟩
    refine blk_n ?_
    refine sq_n ?_
    refine ec_region ?_
    refine o_w (v:=.int .i64 (i:Int)) (r_mov rfl) ?_
    have e3:IntKind.i64.wrap ((i:Int) + (1:Int))=((i + 1:Nat):Int):=by rw [IntKind.wrap_i64]; omega
    refine o_w (v:=.int .i64 ((i + 1:Nat):Int)) (r_int rfl rfl (by show some (Value.int .i64 (IntKind.i64.wrap ((i:Int) + (1:Int))))=_; rw [e3])) ?_
    refine o_w (v:=.int .i64 ((i + 1:Nat):Int)) (r_asg rfl) ?_
    refine eo_nil ?_
    exact lq_n ⟨_,envs_self ⟨rfl,rfl,rfl,rfl,rfl,rfl,rfl,rfl,trivial⟩,rfl,by omega,J9⟩
   ·have hsi:nth s (i:Int)=false:=hc2
    refine ec_seq ?_
    refine ec_anyN (by kernel_rfl) [[],[0],[],[],[3],[3,4],[3,4,5],[0,1,2,3,4,5,6],[0,1,2,3,4,5,6,7]] [83,84,85,86,87,88,89,90] [c1] [8] [[c1]] [[8]]
     [fun w'=>Blk w' c1 3 (intC (sel p s false i)),fun w'=>Blk w' c1 3 (intC ((sel p s false i).set i (IntKind.i64.wrap (nth p (i:Int)))))]
     [fun v _=>v=(.pointer (some ⟨bb,5,none⟩):Value),fun v _=>v=(.slice (some ⟨c1,0,none⟩) 8 8:Value),fun v _=>v=(.int .i64 (i:Int):Value),fun v _=>v=(.int .i64 (i:Int):Value),fun v _=>v=(.pointer (some ⟨bp,i,none⟩):Value),fun v _=>v=(.int .u16 (nth p (i:Int)):Value),fun v _=>v=(.int .i64 (IntKind.i64.wrap (nth p (i:Int))):Value),fun v _=>v=(.pointer (some ⟨c1,i,none⟩):Value),fun _ _=>True]
     (by kernel_rfl) (allM1 (fun m hm=>hm) (fun _ h=>by cases h))
     ⟨fun _ _ _ _ _ h=>h,fun _ _ _ _ _ h=>h,fun _ _ _ _ _ h=>h,fun _ _ _ _ _ h=>h,fun _ _ _ _ _ h=>h,fun _ _ _ _ _ h=>h,fun _ _ _ _ _ h=>h,fun _ _ _ _ _ h=>h,fun _ _ _ _ _ h=>h,trivial⟩
     ⟨⟨fun _ _ _ _ _ h=>h,fun _ _ _ _ _ h=>h,fun _ _ _ _ _ h=>h,fun _ _ _ _ _ h=>h,fun _ _ _ _ _ h=>h,fun _ _ _ _ _ h=>h,fun _ _ _ _ _ h=>h,fun _ _ _ _ _ h=>h,fun _ _ _ _ _ h=>h,trivial⟩,trivial⟩
     ⟨fun _ _ f h=>h.ex f,fun _ _ f h=>h.ex f,trivial⟩ J1.Y1 ?_ ?_ ?_
    ·refine ⟨?_,?_,?_,?_,?_,?_,?_,?_,?_,trivial⟩
     ·intro _ ρ w1 F1 hX hS hρ
      have q:ρ 10=.pointer (some ⟨bb,0,none⟩):=hρ 10 (by kernel_rfl)
      exact o_q (r_fa fld_api_Value_5 rfl q) ⟨Fr.refl _ _,rfl⟩
     ·intro _ ρ w1 F1 hX hS hρ
      have q:ρ 83=.pointer (some ⟨bb,5,none⟩):=hS 0 (by decide) 83 rfl
      exact o_q (r_ld one_s_int q ((J1.B.fr F1 (by simp; omega)).cell rfl)) ⟨Fr.refl _ _,rfl⟩
     ·intro _ ρ w1 F1 hX hS hρ
      have q:ρ 13=.int .i64 (i:Int):=hρ 13 (by kernel_rfl)
      exact o_q (r_mov q) ⟨Fr.refl _ _,rfl⟩
     ·intro _ ρ w1 F1 hX hS hρ
      have q:ρ 13=.int .i64 (i:Int):=hρ 13 (by kernel_rfl)
      exact o_q (r_mov q) ⟨Fr.refl _ _,rfl⟩
     ·intro _ ρ w1 F1 hX hS hρ
      have q0:ρ 3=.pointer (some ⟨bp,0,none⟩):=hρ 3 (by kernel_rfl)
      have q:ρ 86=.int .i64 (i:Int):=hS 3 (by decide) 86 rfl
      exact o_q (r_iaA un_8_uint16 sz_uint16 q0 q ⟨by omega,by omega⟩) ⟨Fr.refl _ _,rfl⟩
     ·intro _ ρ w1 F1 hX hS hρ
      have q:ρ 87=.pointer (some ⟨bp,i,none⟩):=hS 4 (by decide) 87 rfl
      exact o_q (r_ld one_uint16 q ((J1.P.fr F1 (by simp; omega)).cellV (i:=(i:Int)) ⟨by omega,by omega⟩)) ⟨Fr.refl _ _,rfl⟩
     ·intro _ ρ w1 F1 hX hS hρ
      have q:ρ 88=.int .u16 (nth p (i:Int)):=hS 5 (by decide) 88 rfl
      exact o_q (r_conv un_uint16 un_int q) ⟨Fr.refl _ _,rfl⟩
     ·intro _ ρ w1 F1 hX hS hρ
      have q1:ρ 84=.slice (some ⟨c1,0,none⟩) 8 8:=hS 1 (by decide) 84 rfl
      have q2:ρ 85=.int .i64 (i:Int):=hS 2 (by decide) 85 rfl
      exact o_q (r_iaM slc_s_int q1 q2 ⟨by omega,by omega⟩) ⟨Fr.refl _ _,rfl⟩
     ·intro hT; exact absurd hT (by decide)
    ·refine ⟨⟨_,rfl,?_⟩,trivial⟩
     intro ρ w1 F1 hX hI hS hρ
     have q1:ρ 90=.pointer (some ⟨c1,i,none⟩):=hS 7 (by decide) 90 rfl
     have q2:ρ 89=.int .i64 (IntKind.i64.wrap (nth p (i:Int))):=hS 6 (by decide) 89 rfl
     have hI':Blk w1 c1 3 (intC (sel p s false i)):=hI
     refine o_storeV (f:=Value.int .i64) (i:=(i:Int)) q1 hI' ⟨by omega,by omega⟩ (sel_len _ _ _ _) q2 (fun v=>int_one v) sz_int rfl ?_
     intro w2 F2 B2
     exact eo_nil ⟨rfl,rfl,.nilIface,rfl,F2,B2,trivial⟩
    intro ρ w12 F12 hI hS hρ
    have X12:Blk w12 c1 3 (intC ((sel p s false i).set i (IntKind.i64.wrap (nth p (i:Int))))):=hI
    have q13:ρ 13=.int .i64 (i:Int):=hρ 13 (by kernel_rfl)
    have q12:ρ 12=.int .i64 (sumTo (V6 p m) (i + 1)):=hρ 12 (by kernel_rfl)
    have q7:ρ 7=.bool (worksV):=hρ 7 (by kernel_rfl)
    have q3:ρ 3=.pointer (some ⟨bp,0,none⟩):=hρ 3 (by kernel_rfl)
    have q4:ρ 4=.pointer (some ⟨bm,0,none⟩):=hρ 4 (by kernel_rfl)
    have q5:ρ 5=.pointer (some ⟨bn,0,none⟩):=hρ 5 (by kernel_rfl)
    have q8:ρ 8=.pointer (some ⟨ba,0,none⟩):=hρ 8 (by kernel_rfl)
    have q10:ρ 10=.pointer (some ⟨bb,0,none⟩):=hρ 10 (by kernel_rfl)
    obtain ⟨ρ',rfl⟩:∃ ρ',ρ=envs ρ' [(13,.int .i64 (i:Int)),(12,.int .i64 (sumTo (V6 p m) (i + 1))),(7,.bool (worksV)),(3,.pointer (some ⟨bp,0,none⟩)),(4,.pointer (some ⟨bm,0,none⟩)),(5,.pointer (some ⟨bn,0,none⟩)),(8,.pointer (some ⟨ba,0,none⟩)),(10,.pointer (some ⟨bb,0,none⟩))]:=⟨ρ,envs_self ⟨q13,q12,q7,q3,q4,q5,q8,q10,trivial⟩⟩
    rw [wrap16 hp hi,sel_set hi hsi] at X12
    have A12:=J1.B.fr F12 (by simp; omega)
    have M12:=J1.M.fr F12 (by simp; omega)
    have Z12:=J1.Y2.fr F12 (by simp; omega)
    refine sq_n ?_
    refine ec_anyN (by kernel_rfl) [[],[0],[],[],[3],[3,4],[3,4,5],[0,1,2,3,4,5,6],[0,1,2,3,4,5,6,7]] [91,92,93,94,95,96,97,98] [c2] [8] [[c2]] [[8]]
     [fun w'=>Blk w' c2 3 (intC (sel m s false i)),fun w'=>Blk w' c2 3 (intC ((sel m s false i).set i (IntKind.i64.wrap (nth m (i:Int)))))]
     [fun v _=>v=(.pointer (some ⟨bb,6,none⟩):Value),fun v _=>v=(.slice (some ⟨c2,0,none⟩) 8 8:Value),fun v _=>v=(.int .i64 (i:Int):Value),fun v _=>v=(.int .i64 (i:Int):Value),fun v _=>v=(.pointer (some ⟨bm,i,none⟩):Value),fun v _=>v=(.int .u16 (nth m (i:Int)):Value),fun v _=>v=(.int .i64 (IntKind.i64.wrap (nth m (i:Int))):Value),fun v _=>v=(.pointer (some ⟨c2,i,none⟩):Value),fun _ _=>True]
     (by kernel_rfl) (allM1 (fun m hm=>hm) (fun _ h=>by cases h))
     ⟨fun _ _ _ _ _ h=>h,fun _ _ _ _ _ h=>h,fun _ _ _ _ _ h=>h,fun _ _ _ _ _ h=>h,fun _ _ _ _ _ h=>h,fun _ _ _ _ _ h=>h,fun _ _ _ _ _ h=>h,fun _ _ _ _ _ h=>h,fun _ _ _ _ _ h=>h,trivial⟩
     ⟨⟨fun _ _ _ _ _ h=>h,fun _ _ _ _ _ h=>h,fun _ _ _ _ _ h=>h,fun _ _ _ _ _ h=>h,fun _ _ _ _ _ h=>h,fun _ _ _ _ _ h=>h,fun _ _ _ _ _ h=>h,fun _ _ _ _ _ h=>h,fun _ _ _ _ _ h=>h,trivial⟩,trivial⟩
     ⟨fun _ _ f h=>h.ex f,fun _ _ f h=>h.ex f,trivial⟩ Z12 ?_ ?_ ?_
    ·refine ⟨?_,?_,?_,?_,?_,?_,?_,?_,?_,trivial⟩
     ·intro _ ρ w1 F1 hX hS hρ
      have q:ρ 10=.pointer (some ⟨bb,0,none⟩):=hρ 10 (by kernel_rfl)
      exact o_q (r_fa fld_api_Value_6 rfl q) ⟨Fr.refl _ _,rfl⟩
     ·intro _ ρ w1 F1 hX hS hρ
      have q:ρ 91=.pointer (some ⟨bb,6,none⟩):=hS 0 (by decide) 91 rfl
      exact o_q (r_ld one_s_int q ((A12.fr F1 (by simp; omega)).cell rfl)) ⟨Fr.refl _ _,rfl⟩
     ·intro _ ρ w1 F1 hX hS hρ
      have q:ρ 13=.int .i64 (i:Int):=hρ 13 (by kernel_rfl)
      exact o_q (r_mov q) ⟨Fr.refl _ _,rfl⟩
     ·intro _ ρ w1 F1 hX hS hρ
      have q:ρ 13=.int .i64 (i:Int):=hρ 13 (by kernel_rfl)
      exact o_q (r_mov q) ⟨Fr.refl _ _,rfl⟩
     ·intro _ ρ w1 F1 hX hS hρ
      have q0:ρ 4=.pointer (some ⟨bm,0,none⟩):=hρ 4 (by kernel_rfl)
      have q:ρ 94=.int .i64 (i:Int):=hS 3 (by decide) 94 rfl
      exact o_q (r_iaA un_8_uint16 sz_uint16 q0 q ⟨by omega,by omega⟩) ⟨Fr.refl _ _,rfl⟩
     ·intro _ ρ w1 F1 hX hS hρ
      have q:ρ 95=.pointer (some ⟨bm,i,none⟩):=hS 4 (by decide) 95 rfl
      exact o_q (r_ld one_uint16 q ((M12.fr F1 (by simp; omega)).cellV (i:=(i:Int)) ⟨by omega,by omega⟩)) ⟨Fr.refl _ _,rfl⟩
     ·intro _ ρ w1 F1 hX hS hρ
      have q:ρ 96=.int .u16 (nth m (i:Int)):=hS 5 (by decide) 96 rfl
      exact o_q (r_conv un_uint16 un_int q) ⟨Fr.refl _ _,rfl⟩
     ·intro _ ρ w1 F1 hX hS hρ
      have q1:ρ 92=.slice (some ⟨c2,0,none⟩) 8 8:=hS 1 (by decide) 92 rfl
      have q2:ρ 93=.int .i64 (i:Int):=hS 2 (by decide) 93 rfl
      exact o_q (r_iaM slc_s_int q1 q2 ⟨by omega,by omega⟩) ⟨Fr.refl _ _,rfl⟩
     ·intro hT; exact absurd hT (by decide)
    ·refine ⟨⟨_,rfl,?_⟩,trivial⟩
     intro ρ w1 F1 hX hI hS hρ
     have q1:ρ 98=.pointer (some ⟨c2,i,none⟩):=hS 7 (by decide) 98 rfl
     have q2:ρ 97=.int .i64 (IntKind.i64.wrap (nth m (i:Int))):=hS 6 (by decide) 97 rfl
     have hI':Blk w1 c2 3 (intC (sel m s false i)):=hI
     refine o_storeV (f:=Value.int .i64) (i:=(i:Int)) q1 hI' ⟨by omega,by omega⟩ (sel_len _ _ _ _) q2 (fun v=>int_one v) sz_int rfl ?_
     intro w2 F2 B2
     exact eo_nil ⟨rfl,rfl,.nilIface,rfl,F2,B2,trivial⟩
    intro ρ w13 F13 hI hS hρ
    have X13:Blk w13 c2 3 (intC ((sel m s false i).set i (IntKind.i64.wrap (nth m (i:Int))))):=hI
    have q13:ρ 13=.int .i64 (i:Int):=hρ 13 (by kernel_rfl)
    have q12:ρ 12=.int .i64 (sumTo (V6 p m) (i + 1)):=hρ 12 (by kernel_rfl)
    have q7:ρ 7=.bool (worksV):=hρ 7 (by kernel_rfl)
    have q3:ρ 3=.pointer (some ⟨bp,0,none⟩):=hρ 3 (by kernel_rfl)
    have q4:ρ 4=.pointer (some ⟨bm,0,none⟩):=hρ 4 (by kernel_rfl)
    have q5:ρ 5=.pointer (some ⟨bn,0,none⟩):=hρ 5 (by kernel_rfl)
    have q8:ρ 8=.pointer (some ⟨ba,0,none⟩):=hρ 8 (by kernel_rfl)
    have q10:ρ 10=.pointer (some ⟨bb,0,none⟩):=hρ 10 (by kernel_rfl)
    obtain ⟨ρ',rfl⟩:∃ ρ',ρ=envs ρ' [(13,.int .i64 (i:Int)),(12,.int .i64 (sumTo (V6 p m) (i + 1))),(7,.bool (worksV)),(3,.pointer (some ⟨bp,0,none⟩)),(4,.pointer (some ⟨bm,0,none⟩)),(5,.pointer (some ⟨bn,0,none⟩)),(8,.pointer (some ⟨ba,0,none⟩)),(10,.pointer (some ⟨bb,0,none⟩))]:=⟨ρ,envs_self ⟨q13,q12,q7,q3,q4,q5,q8,q10,trivial⟩⟩
    rw [wrap16 hm hi,sel_set hi hsi] at X13
    have k1:Blk w11 a1 3 (intC (sel p s true (i + 1))):=by rw [← sel_keep (by rw [hsi]; decide)]; exact J1.X1
    have k2:Blk w11 a2 3 (intC (sel m s true (i + 1))):=by rw [← sel_keep (by rw [hsi]; decide)]; exact J1.X2
    have mv:∀ {b:Nat} {t:TypeId} {cs:List Value},Blk w11 b t cs→b≠c1→b≠c2→Blk w13 b t cs:=fun h n1 n2=>(h.fr F12 (by simpa using n1)).fr F13 (by simpa using n2)
    have J9:VI w bp bm bn ba bb a1 a2 c1 c2 p m s (i + 1) w13:=⟨Ext.st (Ext.st J1.E F12 (by simp; omega)) F13 (by simp; omega),mv J1.P (by omega) (by omega),mv J1.M (by omega) (by omega),mv J1.N (by omega) (by omega),mv J1.A (by omega) (by omega),mv J1.B (by omega) (by omega),mv k1 (by omega) (by omega),mv k2 (by omega) (by omega),X12.fr F13 (by simp; omega),X13⟩
    refine blk_n ?_
    refine sq_n ?_
    refine ec_region ?_
    refine o_w (v:=.int .i64 (i:Int)) (r_mov rfl) ?_
    have e3:IntKind.i64.wrap ((i:Int) + (1:Int))=((i + 1:Nat):Int):=by rw [IntKind.wrap_i64]; omega
    refine o_w (v:=.int .i64 ((i + 1:Nat):Int)) (r_int rfl rfl (by show some (Value.int .i64 (IntKind.i64.wrap ((i:Int) + (1:Int))))=_; rw [e3])) ?_
    refine o_w (v:=.int .i64 ((i + 1:Nat):Int)) (r_asg rfl) ?_
    refine eo_nil ?_
    exact lq_n ⟨_,envs_self ⟨rfl,rfl,rfl,rfl,rfl,rfl,rfl,rfl,trivial⟩,rfl,by omega,J9⟩
  ·have hi:¬ i<8:=by simp at hc; omega
   obtain rfl:=hb.2 hi
   refine ec_exit ?_
   refine sq_exit ?_
   exact lq_x ⟨_,envs_self ⟨rfl,rfl,rfl,rfl,rfl,rfl,rfl,rfl,trivial⟩,rfl,hi8,Jr⟩
 ·exact ⟨_,envs_self ⟨rfl,rfl,rfl,rfl,rfl,rfl,rfl,rfl,trivial⟩,rfl,by omega,J⟩
 rintro ρ3 ds3 w20 ⟨ρ3',rfl,rfl,_,J3⟩
 have hL20:=hL.fr J3.E
 have hn:∀ q∈L,q<w.heap.size:=hL
 have SA1:=seal_arC (L:=L) J3.X1 (fun hq=>by have:=hn _ hq; omega) (sel_len _ _ _ _)
 have SA2:=seal_arC (L:=L) J3.X2 (fun hq=>by have:=hn _ hq; omega) (sel_len _ _ _ _)
 have SC1:=seal_arC (L:=L) J3.Y1 (fun hq=>by have:=hn _ hq; omega) (sel_len _ _ _ _)
 have SC2:=seal_arC (L:=L) J3.Y2 (fun hq=>by have:=hn _ hq; omega) (sel_len _ _ _ _)
 have KA:Stb L w20 (fun w=>kVal.r w (cntC a1 a2) (V6 (sel p s true 8) (sel m s true 8))):=by
  have:=kVal_mk (d:=V6 (sel p s true 8) (sel m s true 8)) SA1 SA2
  simpa only [V6,sel_len] using this
 have KB:Stb L w20 (fun w=>kVal.r w (cntC c1 c2) (V6 (sel p s false 8) (sel m s false 8))):=by
  have:=kVal_mk (d:=V6 (sel p s false 8) (sel m s false 8)) SC1 SC2
  simpa only [V6,sel_len] using this
 have sm8:∀ b,sm (V6 (sel p s b 8) (sel m s b 8)):=fun b=>⟨by show (sel p s b 8).length≤_; rw [sel_len]; omega,by show (sel m s b 8).length≤_; rw [sel_len]; omega⟩
 have hj:=join_sel (s:=s) hp hm
 obtain ⟨o1,o2⟩:=okV_p hp hm
 have hb8:=sumTo_bound (v:=V6 p m) o1 o2 8
 have hss:=sum_sel (p:=p) (m:=m) (s:=s) 8 (Nat.le_refl _)
 have s1:sumV (V6 (sel p s true 8) (sel m s true 8))=sumTo (V6 (sel p s true 8) (sel m s true 8)) 8:=sum_V6 (sel_okN hp) (sel_okN hm)
 have s2:sumV (V6 (sel p s false 8) (sel m s false 8))=sumTo (V6 (sel p s false 8) (sel m s false 8)) 8:=sum_V6 (sel_okN hp) (sel_okN hm)
 have s3:sumV (V6 p m)=sumTo (V6 p m) 8:=sum_V6 o1 o2
 refine blk_hit ?_
 refine sq_n ?_
 refine ec_sr ?_
 refine o_w (v:=.agg (cntC a1 a2).toArray) (r_lda agg_api_Value rfl (vs:=cntC a1 a2) rfl (J3.A.part (o:=0) (n:=8) rfl)) ?_
 refine o_w (v:=.agg (cntC c1 c2).toArray) (r_lda agg_api_Value rfl (vs:=cntC c1 c2) rfl (J3.B.part (o:=0) (n:=8) rfl)) ?_
 refine o_call cf_value_Join rfl (value_Join_c _ KA _ KB hL20 (valJoin_ev _ _ (sm8 true) (sm8 false))) rfl rfl ?_
 rw [hj]
 rintro _ w21 ⟨F21,cs,rfl,KJ⟩
 obtain ⟨Aj,cj,Ak,ck,rfl,Hj,Hk⟩:=kVal_open KJ
 refine o_w (v:=.tuple #[.agg (cVal (V6 p m) Aj cj Ak ck).toArray,.int .i64 0]) (r_mov rfl) ?_
 refine o_w (v:=.agg (cVal (V6 p m) Aj cj Ak ck).toArray) (r_ext rfl rfl) ?_
 refine o_w (v:=.int .i64 0) (r_ext rfl rfl) ?_
 refine o_alloc zero_api_Value rfl rfl rfl ?_
 intro bj w22 e22 F22 B22
 refine o_store rfl B22 (vs:=cVal (V6 p m) Aj cj Ak ck) rfl sz_api_Value rfl rfl rfl ?_
 intro w23 F23 B23
 have B23':Blk w23 bj 25 (cVal (V6 p m) Aj cj Ak ck):=B23
 refine o_w (v:=.int .i64 0) (r_asg rfl) ?_
 have E23:Ext w20 w23:=F21.trans (Ext.st F22 F23 (fun q hq=>by rw [List.mem_singleton] at hq; omega))
 have E21:Ext w21 w23:=Ext.st F22 F23 (fun q hq=>by rw [List.mem_singleton] at hq; omega)
 have hL23:=hL20.fr E23
 refine eo_nil_sq ?_
 refine ec_seq ?_
 refine ec_any0 (by kernel_rfl) [[],[0],[0,1],[0,1,2],[0,1,2,3],[0,1,2,3,4],[0,1,2,3,4,5],[0,1,2,3,4,5,6],[0,1,2,3,4,5],[0,1,2,3,4,5,6,7,8],[0,1,2,3,4,5,6,7,8,9],[0,1,2,3,4,5,6,7,8,9,10],[0,1,2,3,4,5,6,7,8,9,10,11],[0,1,2,3,4,5,6,7,8,9,10,11,12],[0,1,2,3,4,5,6,7,8,9,10,11],[0,1,2,3,4,5,6,7,8,9,10,11,12,13,14],[0,1,2,3,4,5,6,7,8,9,10,11,12,13,14,15],[0,1,2,3,4,5,6,7,8,9,10,11],[0,1,2,3,4,5,6,7,8,9,10,11,12,13,14,15,16,17],[0,1,2,3,4,5,6,7,8,9,10,11,12,13,14,15,16,17,18],[0,1,2,3,4,5,6,7,8,9,10,11,12,13,14,15,16,17,18,19]] [105,106,107,108,109,110,111,112,113,114,115,116,117,118,119,120,121,122,123,124,6]
  [fun v _=>v=(.bool true:Value),fun v _=>v=(.bool true:Value),fun v _=>v=(.int .i64 0:Value),fun v _=>v=(.bool true:Value),fun v _=>v=(.bool true:Value),fun v _=>v=(.bool true:Value),fun v _=>v=(.agg (cVal (V6 p m) Aj cj Ak ck).toArray:Value),fun v _=>v=(.int .i64 (sumTo (V6 p m) 8):Value),fun v _=>v=(.int .i64 (sumTo (V6 p m) 8):Value),fun v _=>v=(.bool true:Value),fun v _=>v=(.bool true:Value),fun v _=>v=(.bool true:Value),fun v _=>v=(.agg (cntC a1 a2).toArray:Value),fun v _=>v=(.int .i64 (sumV (V6 (sel p s true 8) (sel m s true 8))):Value),fun v _=>v=(.agg (cntC c1 c2).toArray:Value),fun v _=>v=(.int .i64 (sumV (V6 (sel p s false 8) (sel m s false 8))):Value),fun v _=>v=(.int .i64 (sumTo (V6 p m) 8):Value),fun v _=>v=(.int .i64 (sumTo (V6 p m) 8):Value),fun v _=>v=(.bool true:Value),fun v _=>v=(.bool true:Value),fun v _=>v=(.bool true:Value)]
  (by kernel_rfl) ⟨fun _ _ _ _ _ h=>h,fun _ _ _ _ _ h=>h,fun _ _ _ _ _ h=>h,fun _ _ _ _ _ h=>h,fun _ _ _ _ _ h=>h,fun _ _ _ _ _ h=>h,fun _ _ _ _ _ h=>h,fun _ _ _ _ _ h=>h,fun _ _ _ _ _ h=>h,fun _ _ _ _ _ h=>h,fun _ _ _ _ _ h=>h,fun _ _ _ _ _ h=>h,fun _ _ _ _ _ h=>h,fun _ _ _ _ _ h=>h,fun _ _ _ _ _ h=>h,fun _ _ _ _ _ h=>h,fun _ _ _ _ _ h=>h,fun _ _ _ _ _ h=>h,fun _ _ _ _ _ h=>h,fun _ _ _ _ _ h=>h,fun _ _ _ _ _ h=>h,trivial⟩ ?_ ?_
 ·refine ⟨?_,?_,?_,?_,?_,?_,?_,?_,?_,?_,?_,?_,?_,?_,?_,?_,?_,?_,?_,?_,?_,trivial⟩
  ·intro ρ w1 F1 hS hρ
   have q:ρ 7=.bool true:=hρ 7 (by kernel_rfl)
   exact o_q (r_mov q) ⟨Fr.refl _ _,rfl⟩
  ·intro ρ w1 F1 hS hρ
   have q0:ρ 105=.bool true:=hS 0 (by decide) 105 rfl
   exact o_q (r_mov q0) ⟨Fr.refl _ _,rfl⟩
  ·intro ρ w1 F1 hS hρ
   have q1:ρ 106=.bool true:=hS 1 (by decide) 106 rfl
   have q:ρ 15=.int .i64 0:=hρ 15 (by kernel_rfl)
   exact o_v (r_mov q) (want_t (t:=106) rfl q1 rfl) rfl rfl (eo_nil ⟨rfl,rfl,_,rfl,Fr.refl _ _,rfl⟩)
  ·intro ρ w1 F1 hS hρ
   have q1:ρ 106=.bool true:=hS 1 (by decide) 106 rfl
   have q2:ρ 107=.int .i64 0:=hS 2 (by decide) 107 rfl
   exact o_v (r_int q2 rfl rfl) (want_t (t:=106) rfl q1 rfl) rfl rfl (eo_nil ⟨rfl,rfl,_,rfl,Fr.refl _ _,rfl⟩)
  ·intro ρ w1 F1 hS hρ
   have q1:ρ 106=.bool true:=hS 1 (by decide) 106 rfl
   have q3:ρ 108=.bool true:=hS 3 (by decide) 108 rfl
   exact o_q (r_pickT q1 rfl q3) ⟨Fr.refl _ _,rfl⟩
  ·intro ρ w1 F1 hS hρ
   have q4:ρ 109=.bool true:=hS 4 (by decide) 109 rfl
   exact o_q (r_mov q4) ⟨Fr.refl _ _,rfl⟩
  ·intro ρ w1 F1 hS hρ
   have q5:ρ 110=.bool true:=hS 5 (by decide) 110 rfl
   have q:ρ 14=.pointer (some ⟨bj,0,none⟩):=hρ 14 (by kernel_rfl)
   exact o_v (r_lda agg_api_Value q (vs:=cVal (V6 p m) Aj cj Ak ck) rfl ((B23'.ex F1).part (o:=0) (n:=8) rfl)) (want_t (t:=110) rfl q5 rfl) rfl rfl (eo_nil ⟨rfl,rfl,_,rfl,Fr.refl _ _,rfl⟩)
  ·intro ρ w1 F1 hS hρ
   have q5:ρ 110=.bool true:=hS 5 (by decide) 110 rfl
   have q6:ρ 111=.agg (cVal (V6 p m) Aj cj Ak ck).toArray:=hS 6 (by decide) 111 rfl
   refine o_call cf_value_Sum (vs:=[.agg (cVal (V6 p m) Aj cj Ak ck).toArray]) (by show [ρ 111]=_; rw [q6]) (value_Sum_c (V6 p m) (((KJ.ex E21).ex F1)) (hL23.fr F1) (valSum_ev _ ⟨by show p.length≤_; omega,by show m.length≤_; omega⟩)) (want_t (t:=110) rfl q5 rfl) rfl ?_
   rw [s3]
   rintro _ w24 ⟨F24,rfl⟩
   exact eo_nil ⟨rfl,rfl,_,rfl,F24,rfl⟩
  ·intro ρ w1 F1 hS hρ
   have q5:ρ 110=.bool true:=hS 5 (by decide) 110 rfl
   have q:ρ 12=.int .i64 (sumTo (V6 p m) 8):=hρ 12 (by kernel_rfl)
   exact o_v (r_mov q) (want_t (t:=110) rfl q5 rfl) rfl rfl (eo_nil ⟨rfl,rfl,_,rfl,Fr.refl _ _,rfl⟩)
  ·intro ρ w1 F1 hS hρ
   have q5:ρ 110=.bool true:=hS 5 (by decide) 110 rfl
   have q7:ρ 112=.int .i64 (sumTo (V6 p m) 8):=hS 7 (by decide) 112 rfl
   have q8:ρ 113=.int .i64 (sumTo (V6 p m) 8):=hS 8 (by decide) 113 rfl
   exact o_v (v:=.bool true) (r_int q7 q8 (by show some (Value.bool (sumTo (V6 p m) 8==sumTo (V6 p m) 8))=_; simp)) (want_t (t:=110) rfl q5 rfl) rfl rfl (eo_nil ⟨rfl,rfl,_,rfl,Fr.refl _ _,rfl⟩)
  ·intro ρ w1 F1 hS hρ
   have q5:ρ 110=.bool true:=hS 5 (by decide) 110 rfl
   have q9:ρ 114=.bool true:=hS 9 (by decide) 114 rfl
   exact o_q (r_pickT q5 rfl q9) ⟨Fr.refl _ _,rfl⟩
  ·intro ρ w1 F1 hS hρ
   have q10:ρ 115=.bool true:=hS 10 (by decide) 115 rfl
   exact o_q (r_mov q10) ⟨Fr.refl _ _,rfl⟩
  ·intro ρ w1 F1 hS hρ
   have q11:ρ 116=.bool true:=hS 11 (by decide) 116 rfl
   have q:ρ 8=.pointer (some ⟨ba,0,none⟩):=hρ 8 (by kernel_rfl)
   exact o_v (r_lda agg_api_Value q (vs:=cntC a1 a2) rfl (((J3.A.ex E23).ex F1).part (o:=0) (n:=8) rfl)) (want_t (t:=116) rfl q11 rfl) rfl rfl (eo_nil ⟨rfl,rfl,_,rfl,Fr.refl _ _,rfl⟩)
  ·intro ρ w1 F1 hS hρ
   have q11:ρ 116=.bool true:=hS 11 (by decide) 116 rfl
   have q12:ρ 117=.agg (cntC a1 a2).toArray:=hS 12 (by decide) 117 rfl
   refine o_call cf_value_Sum (vs:=[.agg (cntC a1 a2).toArray]) (by show [ρ 117]=_; rw [q12]) (value_Sum_c _ ((KA.ex E23).ex F1) (hL23.fr F1) (valSum_ev _ (sm8 true))) (want_t (t:=116) rfl q11 rfl) rfl ?_
   rintro _ w24 ⟨F24,rfl⟩
   exact eo_nil ⟨rfl,rfl,_,rfl,F24,rfl⟩
  ·intro ρ w1 F1 hS hρ
   have q11:ρ 116=.bool true:=hS 11 (by decide) 116 rfl
   have q:ρ 10=.pointer (some ⟨bb,0,none⟩):=hρ 10 (by kernel_rfl)
   exact o_v (r_lda agg_api_Value q (vs:=cntC c1 c2) rfl (((J3.B.ex E23).ex F1).part (o:=0) (n:=8) rfl)) (want_t (t:=116) rfl q11 rfl) rfl rfl (eo_nil ⟨rfl,rfl,_,rfl,Fr.refl _ _,rfl⟩)
  ·intro ρ w1 F1 hS hρ
   have q11:ρ 116=.bool true:=hS 11 (by decide) 116 rfl
   have q14:ρ 119=.agg (cntC c1 c2).toArray:=hS 14 (by decide) 119 rfl
   refine o_call cf_value_Sum (vs:=[.agg (cntC c1 c2).toArray]) (by show [ρ 119]=_; rw [q14]) (value_Sum_c _ ((KB.ex E23).ex F1) (hL23.fr F1) (valSum_ev _ (sm8 false))) (want_t (t:=116) rfl q11 rfl) rfl ?_
   rintro _ w24 ⟨F24,rfl⟩
   exact eo_nil ⟨rfl,rfl,_,rfl,F24,rfl⟩
  ·intro ρ w1 F1 hS hρ
   have q11:ρ 116=.bool true:=hS 11 (by decide) 116 rfl
   have q13:ρ 118=.int .i64 (sumV (V6 (sel p s true 8) (sel m s true 8))):=hS 13 (by decide) 118 rfl
   have q15:ρ 120=.int .i64 (sumV (V6 (sel p s false 8) (sel m s false 8))):=hS 15 (by decide) 120 rfl
   have ew:IntKind.i64.wrap (sumV (V6 (sel p s true 8) (sel m s true 8)) + sumV (V6 (sel p s false 8) (sel m s false 8)))=sumTo (V6 p m) 8:=by rw [s1,s2,hss,IntKind.wrap_i64]; omega
   exact o_v (v:=.int .i64 (sumTo (V6 p m) 8)) (r_int q13 q15 (by show some (Value.int .i64 (IntKind.i64.wrap _))=_; rw [ew])) (want_t (t:=116) rfl q11 rfl) rfl rfl (eo_nil ⟨rfl,rfl,_,rfl,Fr.refl _ _,rfl⟩)
  ·intro ρ w1 F1 hS hρ
   have q11:ρ 116=.bool true:=hS 11 (by decide) 116 rfl
   have q:ρ 12=.int .i64 (sumTo (V6 p m) 8):=hρ 12 (by kernel_rfl)
   exact o_v (r_mov q) (want_t (t:=116) rfl q11 rfl) rfl rfl (eo_nil ⟨rfl,rfl,_,rfl,Fr.refl _ _,rfl⟩)
  ·intro ρ w1 F1 hS hρ
   have q11:ρ 116=.bool true:=hS 11 (by decide) 116 rfl
   have q16:ρ 121=.int .i64 (sumTo (V6 p m) 8):=hS 16 (by decide) 121 rfl
   have q17:ρ 122=.int .i64 (sumTo (V6 p m) 8):=hS 17 (by decide) 122 rfl
   exact o_v (v:=.bool true) (r_int q16 q17 (by show some (Value.bool (sumTo (V6 p m) 8==sumTo (V6 p m) 8))=_; simp)) (want_t (t:=116) rfl q11 rfl) rfl rfl (eo_nil ⟨rfl,rfl,_,rfl,Fr.refl _ _,rfl⟩)
  ·intro ρ w1 F1 hS hρ
   have q11:ρ 116=.bool true:=hS 11 (by decide) 116 rfl
   have q18:ρ 123=.bool true:=hS 18 (by decide) 123 rfl
   exact o_q (r_pickT q11 rfl q18) ⟨Fr.refl _ _,rfl⟩
  ·intro ρ w1 F1 hS hρ
   have q19:ρ 124=.bool true:=hS 19 (by decide) 124 rfl
   exact o_q (r_asg q19) ⟨Fr.refl _ _,rfl⟩
 intro ρ w25 F25 hS hρ
 have q6:ρ 6=.bool true:=hS 20 6 rfl
 refine sq_n ?_
 refine ec_ret ?_
 exact end1 q6 ⟨_,rfl,(J3.E.trans E23).trans F25,rfl⟩
end Go.Proofs.Ytdojgmmpcdbeoaa
