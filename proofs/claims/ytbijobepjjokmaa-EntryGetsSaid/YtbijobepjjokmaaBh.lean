/- entry.Put: an entry's bytes. -/
import Derived.Test.YtbijobepjjokmaaBg
import Derived.Test.YtbijobepjjokmaaEs
namespace Go.Proofs.Ytbijobepjjokmaa
open Go Go.RowKit
set_option linter.unusedVariables false
set_option linter.unusedSimpArgs false

def regT (d:Val):Str:=(putO d.time 4).1++((putO d.node 1).1++((putO (bif d.dead then 1 else 0) 1).1++((putO (d.text.length:Int) 1).1++(d.text++zeros (8 - (d.text.length:Int))))))
def numsT (xs:List Int):Str:=xs.flatMap fun n=>(putO n 2).1
def cntT (d:Val):Str:=numsT d.plus++numsT d.minus
def flgT (d:Val):Str:=(putO (lowF d.flags) 4).1++(putO (highF d.flags) 4).1
theorem ints_app (a b:Str):ints (a++b)=ints a++ints b:=by simp [ints]
theorem regS_T (d:Val):regS d=ints (regT d):=by simp only [regS,regT,ints_app]
theorem numsS_T (xs:List Int):numsS xs=ints (numsT xs):=by simp [numsS,numsT,ints,List.map_flatMap]
theorem cntS_T (d:Val):cntS d=ints (cntT d):=by simp only [cntS,cntT,ints_app,numsS_T]
theorem flgS_T (d:Val):flgS d=ints (flgT d):=by simp only [flgS,flgT,ints_app]
theorem putO_len2 (n w:Int) (hw:0≤w):(putO n w).1.length≤w.toNat:=by
 unfold putO
 cases ((decide (w<1)||decide (7<w))||decide (n<0)) with
 | true=>simp
 | false =>
  cases decide (0<restF w.toNat n) with
  | true=>simp
  | false=>simp [bstr,bytesF_length]
theorem numsT_len:∀ (xs:List Int),(numsT xs).length≤2 * xs.length
 | []=>by simp [numsT]
 | n::xs=>by
  have h1:=numsT_len xs
  have h2:=putO_len2 n 2 (by decide)
  simp only [numsT,List.flatMap_cons,List.length_append,List.length_cons] at h1 ⊢
  have:(2:Int).toNat=2:=rfl
  omega
def valT (d:Val):Str:=bif d.kind==1 then regT d else bif d.kind==2 then cntT d else flgT d
def headT (e:Ent):Str:=(putO e.val.kind 1).1++((putO (e.key.length:Int) 1).1++(e.key++zeros (8 - (e.key.length:Int))))
def putT (e:Ent):Str:=headT e++(valT e.val++zeros (32 - ((valT e.val).length:Int)))
def putE (e:Ent):Str × Int:=bif okE e then (putT e,0) else ([],2)
theorem okE_val {e:Ent} (h:okE e=true):1≤e.key.length∧e.key.length≤8∧okV e.val=true:=by
 unfold okE at h
 simpa only [Bool.and_eq_true,decide_eq_true_eq] using h
theorem okV_kind {v:Val} (h:okV v=true):v.kind=1∨v.kind=2∨v.kind=3:=by
 unfold okV at h
 cases k1:v.kind==1 with
 | true=>exact .inl (by simpa using k1)
 | false =>
  cases k2:v.kind==2 with
  | true=>exact .inr (.inl (by simpa using k2))
  | false=>rw [k1,k2] at h; simp at h; exact .inr (.inr h.1)
theorem okV_text {v:Val} (h:okV v=true):v.kind=1→v.text.length≤8:=fun hk=>by
 unfold okV okR at h
 rw [hk] at h
 simp only [beq_self_eq_true,cond_true,Bool.and_eq_true,decide_eq_true_eq] at h
 exact h.2.2.2.2.1
theorem okV_8 {v:Val} (h:okV v=true):v.kind=2→v.plus.length=8∧v.minus.length=8:=fun hk=>(okV_cc h hk).2.2
theorem valT_len {e:Ent} (h:okE e=true):(valT e.val).length≤32:=by
 have hv:=(okE_val h).2.2
 unfold valT
 rcases okV_kind hv with hk | hk | hk <;> rw [hk]
 ·have ht:=okV_text hv hk
  have a1:=putO_len2 e.val.time 4 (by decide)
  have a2:=putO_len2 e.val.node 1 (by decide)
  have a3:=putO_len2 (bif e.val.dead then 1 else 0) 1 (by decide)
  have a4:=putO_len2 (e.val.text.length:Int) 1 (by decide)
  have:(4:Int).toNat=4:=rfl
  have:(1:Int).toNat=1:=rfl
  show (regT e.val).length≤32
  simp only [regT,List.length_append,zeros_len]
  omega
 ·obtain ⟨h1,h2⟩:=okV_8 hv hk
  have a1:=numsT_len e.val.plus
  have a2:=numsT_len e.val.minus
  show (cntT e.val).length≤32
  simp only [cntT,List.length_append]; omega
 ·have a1:=putO_len2 (lowF e.val.flags) 4 (by decide)
  have a2:=putO_len2 (highF e.val.flags) 4 (by decide)
  have:(4:Int).toNat=4:=rfl
  show (flgT e.val).length≤32
  simp only [flgT,List.length_append]; omega
theorem headT_len {e:Ent} (h:okE e=true):8≤(headT e).length∧(headT e).length≤10:=by
 obtain ⟨h1,h2,_⟩:=okE_val h
 have a1:=putO_len2 e.val.kind 1 (by decide)
 have a2:=putO_len2 (e.key.length:Int) 1 (by decide)
 have:(1:Int).toNat=1:=rfl
 simp only [headT,List.length_append,zeros_len]
 omega
theorem putT_len {e:Ent} (h:okE e=true):(putT e).length≤42:=by
 have h1:=headT_len h
 have h2:=valT_len h
 simp only [putT,List.length_append,zeros_len]; omega
theorem putT_ne {e:Ent} (h:okE e=true):putT e≠[]:=fun c=>by
 have h1:=headT_len h
 have:(putT e).length=0:=by rw [c]; rfl
 simp only [putT,List.length_append] at this; omega
theorem zero_writer:Zero Try.prog 51 (.agg #[.pointer none,.slice none 0 0]):=zero_of (show (Try.prog.info? 51).map (fun i=>(i.zero,i.size,i.bytes))=some (some (.agg #[.pointer none,.slice none 0 0]),2,32) by kernel_rfl)
theorem bld_writer:Bld Try.prog 51 [(0,2)] [.pointer none,.slice none 0 0]:=bld_struct zero_writer rfl Try.underlying51 (fun _=>by kernel_rfl)
theorem mp_kinds:Mp Try.prog 56 3 55 .i64:=⟨Try.underlying56,un_int⟩
theorem zero_func:Zero Try.prog 55 .nilFunc:=zero_of (show (Try.prog.info? 55).map (fun i=>(i.zero,i.size,i.bytes))=some (some .nilFunc,1,8) by kernel_rfl)
theorem cf_BStr:CF Try.prog 33:=fun _ _=>by kernel_rfl
theorem cf_wregister:CF Try.prog 30:=fun _ _=>by kernel_rfl
theorem cf_wcounter:CF Try.prog 31:=fun _ _=>by kernel_rfl
theorem cf_wflags:CF Try.prog 32:=fun _ _=>by kernel_rfl
def entry_Put_raw (d:Ent) (y:Str × Int):Prop:=sm d.val∧y=putE d
theorem entPut_ev (d:Ent) (h:sm d.val):entry_Put_raw d (putE d):=⟨h,rfl⟩
set_option maxRecDepth 20000 in
set_option maxHeartbeats 4000000 in
theorem entry_Put_c {L:List Nat} {w:World} {csP0:List Value} (d:Ent) (HP0:Stb L w (fun w=>kEnt.r w csP0 d)) (hL:Lt L w) {y:Str × Int} (h:entry_Put_raw d y) :
  Calls Try.prog 12 [.agg csP0.toArray].toArray w (Ret fun v w'=>Ext w w'∧v=.tuple #[str y.1,.int .i64 y.2]):=by
 obtain ⟨hsm,rfl⟩:=h
 have HP1:=HP0
 obtain ⟨A1,c1,A2,c2,rfl,H1,H2⟩:=kEnt_open HP0
 refine calls_ec Try.func12 rfl rfl rfl ?_
 refine ec_seq ?_
 refine ec_region ?_
 refine o_box (cs:=(cEnt d A1 c1 A2 c2)) rfl rfl rfl ?_
 intro b1 w1 e1 F1 B1
 refine o_w (v:=str []) (r_asg rfl) ?_
 refine o_w (v:=.int .i64 (0:Int)) (r_asg rfl) ?_
 refine eo_nil_sq ?_
 iterate 2 refine ec_seq ?_
 refine ec_region ?_
 refine o_w (v:=.agg (cEnt d A1 c1 A2 c2).toArray) (r_lda agg_api_Entry rfl (vs:=(cEnt d A1 c1 A2 c2)) rfl (B1.part (o:=0) (n:=9) rfl)) ?_
 refine o_call cf_entry_Check rfl (entry_Check_c d (HP1.ex F1) (hL.fr F1) (entCheck_ev d hsm)) rfl rfl ?_
 rintro _ w2 ⟨F2,rfl⟩
 refine o_w (v:=.bool (!okE d)) (r_int rfl rfl (by show some (Value.bool (checkE d != 0))=_; rw [checkE_ne])) ?_
 refine eo_nil_sq ?_
 refine ec_cond rfl (fun ho=>?_) (fun ho=>?_)
 ·refine ec_seq ?_
  refine ec_region ?_
  refine o_w (v:=str []) (r_asg rfl) ?_
  refine o_w (v:=.int .i64 (2:Int)) (r_asg rfl) ?_
  refine eo_nil_sq ?_
  refine ec_ret ?_
  refine sq_ret ?_
  have ho':okE d=false:=by simpa using ho
  exact end2 rfl rfl ⟨_,rfl,F1.trans F2,by unfold putE; rw [ho']; rfl⟩
 replace ho:okE d=true:=by simpa using ho
 obtain ⟨hk1,hk8,hov⟩:=okE_val ho
 refine ec_skip ?_
 refine sq_n ?_
 refine ec_seq ?_
 refine ec_region ?_
 refine o_w (v:=.agg #[.pointer none,.slice none 0 0]) (r_build bld_writer (vs:=[]) (cells:=[.pointer none,.slice none 0 0]) rfl rfl) ?_
 refine o_box (cs:=[.pointer none,.slice none 0 0]) rfl rfl rfl ?_
 intro bw w3 e3 F3 B3
 refine o_w (v:=.pointer (some ⟨bw,0,none⟩)) (r_asg rfl) ?_
 have Eb:Ext w w3:=(F1.trans F2).trans F3
 have hbw:w.heap.size≤bw:=by rw [e3]; exact (F1.trans F2).size
 have hne:b1≠bw:=by have:=B1.lt; have:=F2.size; omega
 have W0:WS w3.heap.size w3 bw (.slice none 0 0) [] w3:=WS.start B3 (.inl rfl) (OwnS.nil (by decide) (fun m hm=>by rw [List.mem_singleton] at hm; rw [hm]; exact B3.lt)) (Fr.refl _ _)
 have S1w:∀ w',Fr (bw::own (.slice none 0 0)) w3 w'→Blk w' b1 27 (cEnt d A1 c1 A2 c2):=fun w' f=>(B1.ex (F2.trans F3)).fr f (fun hm=>by
  rcases List.mem_cons.1 hm with h | h
  ·exact hne h
  ·cases h)
 have hup:∀ q∈bw::own (.slice none 0 0),q∈L∨w.heap.size≤q:=fun q hq=>by
  rcases List.mem_cons.1 hq with rfl | hq
  ·exact .inr hbw
  ·cases hq
 have H1':=H1.up Eb (fun _ hm=>by cases hm) hup
 have H2':=H2.up Eb (fun _ hm=>by cases hm) hup
 refine eo_nil_sq ?_
 refine ec_seq ?_
 refine ec_region ?_
 refine o_w (v:=.pointer (some ⟨bw,0,none⟩)) (r_mov rfl) ?_
 refine o_w (v:=.pointer (some ⟨b1,1,none⟩)) (r_fa fld_api_Entry_1 rfl rfl) ?_
 refine o_w (v:=.pointer (some ⟨b1,1,none⟩)) (r_fa fld_api_Value_0 rfl rfl) ?_
 refine o_w (v:=.int .i64 d.val.kind) (r_ld one_int rfl ((S1w _ W0.1).cell rfl)) ?_
 refine o_call cf_wnumber rfl (W0.number d.val.kind 1 (by simp)) rfl rfl ?_
 rintro _ w4 ⟨rfl,W1⟩
 refine eo_nil_sq ?_
 refine ec_seq ?_
 refine ec_region ?_
 refine o_w (v:=.pointer (some ⟨bw,0,none⟩)) (r_mov rfl) ?_
 refine o_w (v:=.pointer (some ⟨b1,0,none⟩)) (r_fa fld_api_Entry_0 rfl rfl) ?_
 refine o_w (v:=str d.key) (r_ld one_string rfl ((S1w _ W1.1).cell rfl)) ?_
 refine o_w (v:=.int .i64 (d.key.length:Int)) (r_len_str un_string rfl) ?_
 have q1:=putO_len d.val.kind 1
 have q2:=putO_len (d.key.length:Int) 1
 refine o_call cf_wnumber rfl (W1.number (d.key.length:Int) 1 (by simp only [List.length_append,ints_length,List.length_nil]; omega)) rfl rfl ?_
 rintro _ w4 ⟨rfl,W2⟩
 refine eo_nil_sq ?_
 refine ec_seq ?_
 refine ec_region ?_
 refine o_w (v:=.pointer (some ⟨bw,0,none⟩)) (r_mov rfl) ?_
 refine o_w (v:=.pointer (some ⟨b1,0,none⟩)) (r_fa fld_api_Entry_0 rfl rfl) ?_
 refine o_w (v:=str d.key) (r_ld one_string rfl ((S1w _ W2.1).cell rfl)) ?_
 refine o_call cf_wtext rfl (W2.text d.key 8 (by simp only [List.length_append,ints_length,List.length_nil]; omega) (by omega) (by omega)) rfl rfl ?_
 rintro _ w4 ⟨rfl,W3⟩
 let T0:Str:=headT d
 have hT0l:T0.length≤10:=(headT_len ho).2
 have hT0:∀ x:List Int,x=[]++ints (putO d.val.kind 1).1++ints (putO (d.key.length:Int) 1).1++(ints d.key++ints (zeros (8 - (d.key.length:Int))))→x=ints T0:=fun x e=>by rw [e]; simp [T0,headT,ints]
 rw [hT0 _ rfl] at W3
 clear hT0
 have hT0:ints T0=ints T0:=rfl
 refine eo_nil_sq ?_
 refine ec_seq ?_
 refine ec_region ?_
 refine o_w (v:=.pointer (some ⟨bw,0,none⟩)) (r_mov rfl) ?_
 refine o_w (v:=.pointer (some ⟨bw,0,none⟩)) (r_nilchk rfl) ?_
 refine o_w (v:=.pointer (some ⟨bw,0,none⟩)) (r_fa fld_writer_0 rfl rfl) ?_
 refine o_call cf_BLen rfl W3.len rfl rfl ?_
 rintro _ w5 ⟨F5,rfl⟩
 have hadd:IntKind.i64.wrap (((ints T0).length:Int) + 32)=(T0.length:Int) + 32:=by rw [ints_length,wrap64 (by omega) (by omega)]
 refine o_w (v:=.int .i64 ((T0.length:Int) + 32)) (r_int rfl rfl (by show some (Value.int .i64 (IntKind.i64.wrap (((ints T0).length:Int) + 32)))=_; rw [hadd])) ?_
 refine o_w (v:=.int .i64 ((T0.length:Int) + 32)) (r_asg rfl) ?_
 have W4:=W3.ex F5
 refine eo_nil_sq ?_
 refine ec_seq ?_
 refine ec_region ?_
 refine o_mkmap (enc:=fun v:Value=>v) (k:=.i64) rfl rfl ?_
 intro bm wm em Fm LM1
 refine o_w (v:=.pointer (some ⟨bw,0,none⟩)) (r_mov rfl) ?_
 refine o_w (v:=.func (.func 30) #[.pointer (some ⟨bw,0,none⟩)] #[]) (r_mkfb (us:=[.pointer (some ⟨bw,0,none⟩)]) (vs:=[]) rfl rfl) ?_
 refine o_insert mp_kinds LM1 (x:=.func (.func 30) #[.pointer (some ⟨bw,0,none⟩)] #[]) rfl rfl rfl rfl rfl ?_
 intro wm1 Fm1 LM2
 refine o_w (v:=.pointer (some ⟨bw,0,none⟩)) (r_mov rfl) ?_
 refine o_w (v:=.func (.func 31) #[.pointer (some ⟨bw,0,none⟩)] #[]) (r_mkfb (us:=[.pointer (some ⟨bw,0,none⟩)]) (vs:=[]) rfl rfl) ?_
 refine o_insert mp_kinds LM2 (x:=.func (.func 31) #[.pointer (some ⟨bw,0,none⟩)] #[]) rfl rfl rfl rfl rfl ?_
 intro wm2 Fm2 LM3
 refine o_w (v:=.pointer (some ⟨bw,0,none⟩)) (r_mov rfl) ?_
 refine o_w (v:=.func (.func 32) #[.pointer (some ⟨bw,0,none⟩)] #[]) (r_mkfb (us:=[.pointer (some ⟨bw,0,none⟩)]) (vs:=[]) rfl rfl) ?_
 refine o_insert mp_kinds LM3 (x:=.func (.func 32) #[.pointer (some ⟨bw,0,none⟩)] #[]) rfl rfl rfl rfl rfl ?_
 intro wm3 Fm3 LM4
 have hbm:∀ m∈[bm],w5.heap.size≤m:=fun m hm=>by rw [List.mem_singleton] at hm; rw [hm,em]; exact Nat.le_refl _
 have W5:=W4.ex (Ext.st (Ext.st (Ext.st Fm Fm1 hbm) Fm2 hbm) Fm3 hbm)
 refine o_w (v:=.map (some bm)) (r_mov rfl) ?_
 refine o_w (v:=.map (some bm)) (r_asg rfl) ?_
 refine eo_nil_sq ?_
 refine ec_seq ?_
 refine ec_region ?_
 refine o_w (v:=.map (some bm)) (r_mov rfl) ?_
 refine o_w (v:=.pointer (some ⟨b1,1,none⟩)) (r_fa fld_api_Entry_1 rfl rfl) ?_
 refine o_w (v:=.pointer (some ⟨b1,1,none⟩)) (r_fa fld_api_Value_0 rfl rfl) ?_
 refine o_w (v:=.int .i64 d.val.kind) (r_ld one_int rfl ((S1w _ W5.1).cell rfl)) ?_
 rcases okV_kind hov with hk | hk | hk
 ·refine o_w (v:=.func (.func 30) #[.pointer (some ⟨bw,0,none⟩)] #[]) (r_lookupV (enc:=fun v:Value=>v) (z:=.nilFunc) mp_kinds zero_func LM4 rfl (by show ev _ _=.int .i64 d.val.kind; rfl) (by rw [hk]; rfl)) ?_
  refine o_w (v:=.pointer (some ⟨b1,1,none⟩)) (r_fa fld_api_Entry_1 rfl rfl) ?_
  refine o_w (v:=.agg (cVal d.val A1 c1 A2 c2).toArray) (r_lda agg_api_Value rfl (vs:=cVal d.val A1 c1 A2 c2) rfl ((S1w _ W5.1).part (o:=1) (n:=8) rfl)) ?_
  refine o_callb (us:=[.pointer (some ⟨bw,0,none⟩)]) (vs:=[.agg (cVal d.val A1 c1 A2 c2).toArray]) (caps:=[]) cf_wregister rfl rfl (W5.register d.val (by rw [hT0,ints_length]; omega) (okV_text hov hk)) rfl rfl ?_
  rintro _ w6 ⟨rfl,W6⟩
  refine eo_nil_sq ?_
  refine ec_seq ?_
  refine ec_region ?_
  refine o_w (v:=.pointer (some ⟨bw,0,none⟩)) (r_mov rfl) ?_
  refine o_w (v:=.int .i64 ((T0.length:Int) + 32)) (r_mov rfl) ?_
  refine o_w (v:=.pointer (some ⟨bw,0,none⟩)) (r_mov rfl) ?_
  refine o_w (v:=.pointer (some ⟨bw,0,none⟩)) (r_nilchk rfl) ?_
  refine o_w (v:=.pointer (some ⟨bw,0,none⟩)) (r_fa fld_writer_0 rfl rfl) ?_
  refine o_call cf_BLen rfl W6.len rfl rfl ?_
  rintro _ w7 ⟨F7,rfl⟩
  have hv:(valT d.val).length≤32:=valT_len ho
  have hvt:regS d.val=ints (valT d.val):=by rw [regS_T]; unfold valT; rw [hk]; rfl
  have hln:((ints T0++regS d.val).length:Int)=(T0.length:Int) + ((valT d.val).length:Int):=by rw [hvt,List.length_append,ints_length,ints_length]; omega
  have hsb:IntKind.i64.wrap (((T0.length:Int) + 32) - ((ints T0++regS d.val).length:Int))=32 - ((valT d.val).length:Int):=by rw [hln,wrap64 (by omega) (by omega)]; omega
  refine o_w (v:=.int .i64 (32 - ((valT d.val).length:Int))) (r_int rfl rfl (by show some (Value.int .i64 (IntKind.i64.wrap (((T0.length:Int) + 32) - ((ints T0++regS d.val).length:Int))))=_; rw [hsb])) ?_
  refine o_call cf_wtext rfl ((W6.ex F7).text [] (32 - ((valT d.val).length:Int)) (by rw [hvt,List.length_append,ints_length,ints_length]; omega) (by simp; omega) (by omega)) rfl rfl ?_
  rintro _ w8 ⟨rfl,W8⟩
  refine eo_nil_sq ?_
  refine ec_seq ?_
  refine ec_region ?_
  refine o_w (v:=.pointer (some ⟨bw,0,none⟩)) (r_mov rfl) ?_
  refine o_w (v:=.pointer (some ⟨bw,0,none⟩)) (r_nilchk rfl) ?_
  refine o_w (v:=.pointer (some ⟨bw,0,none⟩)) (r_fa fld_writer_0 rfl rfl) ?_
  have hfin:ints T0++regS d.val++(ints []++ints (zeros ((32 - ((valT d.val).length:Int)) - (([]:Str).length:Int))))=ints (putT d):=by
   rw [hvt]; unfold putT; simp [ints,T0,headT]
  rw [hfin] at W8
  obtain ⟨F8,p8,v8,B8,_,O8,N8⟩:=W8
  refine o_call cf_BStr rfl (bstr_c B8 O8 (by simp) (putT_ne ho) (by have:=putT_len ho; omega)) rfl rfl ?_
  rintro _ w9 ⟨F9,rfl⟩
  refine o_w (v:=str (putT d)) (r_asg rfl) ?_
  refine o_w (v:=.int .i64 (0:Int)) (r_asg rfl) ?_
  refine eo_nil_sq ?_
  refine ec_ret ?_
  refine end2 rfl rfl ⟨_,rfl,?_,by unfold putE; rw [ho]; rfl⟩
  have E8:Ext w w8:=Ext.st Eb F8 (fun m hm=>by
   rcases List.mem_cons.1 hm with rfl | hm
   ·exact hbw
   ·cases hm)
  exact Ext.st E8 F9 (fun m hm=>by
   rcases N8 m hm with h | h
   ·cases h
   ·exact Nat.le_trans Eb.size h)
 ·refine o_w (v:=.func (.func 31) #[.pointer (some ⟨bw,0,none⟩)] #[]) (r_lookupV (enc:=fun v:Value=>v) (z:=.nilFunc) mp_kinds zero_func LM4 rfl (by show ev _ _=.int .i64 d.val.kind; rfl) (by rw [hk]; rfl)) ?_
  refine o_w (v:=.pointer (some ⟨b1,1,none⟩)) (r_fa fld_api_Entry_1 rfl rfl) ?_
  refine o_w (v:=.agg (cVal d.val A1 c1 A2 c2).toArray) (r_lda agg_api_Value rfl (vs:=cVal d.val A1 c1 A2 c2) rfl ((S1w _ W5.1).part (o:=1) (n:=8) rfl)) ?_
  refine o_callb (us:=[.pointer (some ⟨bw,0,none⟩)]) (vs:=[.agg (cVal d.val A1 c1 A2 c2).toArray]) (caps:=[]) cf_wcounter rfl rfl (W5.counter d.val (by rw [hT0,ints_length]; omega) (by have:=okV_8 hov hk; omega) (by have:=okV_8 hov hk; omega) H1' H2') rfl rfl ?_
  rintro _ w6 ⟨rfl,W6⟩
  refine eo_nil_sq ?_
  refine ec_seq ?_
  refine ec_region ?_
  refine o_w (v:=.pointer (some ⟨bw,0,none⟩)) (r_mov rfl) ?_
  refine o_w (v:=.int .i64 ((T0.length:Int) + 32)) (r_mov rfl) ?_
  refine o_w (v:=.pointer (some ⟨bw,0,none⟩)) (r_mov rfl) ?_
  refine o_w (v:=.pointer (some ⟨bw,0,none⟩)) (r_nilchk rfl) ?_
  refine o_w (v:=.pointer (some ⟨bw,0,none⟩)) (r_fa fld_writer_0 rfl rfl) ?_
  refine o_call cf_BLen rfl W6.len rfl rfl ?_
  rintro _ w7 ⟨F7,rfl⟩
  have hv:(valT d.val).length≤32:=valT_len ho
  have hvt:cntS d.val=ints (valT d.val):=by rw [cntS_T]; unfold valT; rw [hk]; rfl
  have hln:((ints T0++cntS d.val).length:Int)=(T0.length:Int) + ((valT d.val).length:Int):=by rw [hvt,List.length_append,ints_length,ints_length]; omega
  have hsb:IntKind.i64.wrap (((T0.length:Int) + 32) - ((ints T0++cntS d.val).length:Int))=32 - ((valT d.val).length:Int):=by rw [hln,wrap64 (by omega) (by omega)]; omega
  refine o_w (v:=.int .i64 (32 - ((valT d.val).length:Int))) (r_int rfl rfl (by show some (Value.int .i64 (IntKind.i64.wrap (((T0.length:Int) + 32) - ((ints T0++cntS d.val).length:Int))))=_; rw [hsb])) ?_
  refine o_call cf_wtext rfl ((W6.ex F7).text [] (32 - ((valT d.val).length:Int)) (by rw [hvt,List.length_append,ints_length,ints_length]; omega) (by simp; omega) (by omega)) rfl rfl ?_
  rintro _ w8 ⟨rfl,W8⟩
  refine eo_nil_sq ?_
  refine ec_seq ?_
  refine ec_region ?_
  refine o_w (v:=.pointer (some ⟨bw,0,none⟩)) (r_mov rfl) ?_
  refine o_w (v:=.pointer (some ⟨bw,0,none⟩)) (r_nilchk rfl) ?_
  refine o_w (v:=.pointer (some ⟨bw,0,none⟩)) (r_fa fld_writer_0 rfl rfl) ?_
  have hfin:ints T0++cntS d.val++(ints []++ints (zeros ((32 - ((valT d.val).length:Int)) - (([]:Str).length:Int))))=ints (putT d):=by
   rw [hvt]; unfold putT; simp [ints,T0,headT]
  rw [hfin] at W8
  obtain ⟨F8,p8,v8,B8,_,O8,N8⟩:=W8
  refine o_call cf_BStr rfl (bstr_c B8 O8 (by simp) (putT_ne ho) (by have:=putT_len ho; omega)) rfl rfl ?_
  rintro _ w9 ⟨F9,rfl⟩
  refine o_w (v:=str (putT d)) (r_asg rfl) ?_
  refine o_w (v:=.int .i64 (0:Int)) (r_asg rfl) ?_
  refine eo_nil_sq ?_
  refine ec_ret ?_
  refine end2 rfl rfl ⟨_,rfl,?_,by unfold putE; rw [ho]; rfl⟩
  have E8:Ext w w8:=Ext.st Eb F8 (fun m hm=>by
   rcases List.mem_cons.1 hm with rfl | hm
   ·exact hbw
   ·cases hm)
  exact Ext.st E8 F9 (fun m hm=>by
   rcases N8 m hm with h | h
   ·cases h
   ·exact Nat.le_trans Eb.size h)
 ·refine o_w (v:=.func (.func 32) #[.pointer (some ⟨bw,0,none⟩)] #[]) (r_lookupV (enc:=fun v:Value=>v) (z:=.nilFunc) mp_kinds zero_func LM4 rfl (by show ev _ _=.int .i64 d.val.kind; rfl) (by rw [hk]; rfl)) ?_
  refine o_w (v:=.pointer (some ⟨b1,1,none⟩)) (r_fa fld_api_Entry_1 rfl rfl) ?_
  refine o_w (v:=.agg (cVal d.val A1 c1 A2 c2).toArray) (r_lda agg_api_Value rfl (vs:=cVal d.val A1 c1 A2 c2) rfl ((S1w _ W5.1).part (o:=1) (n:=8) rfl)) ?_
  refine o_callb (us:=[.pointer (some ⟨bw,0,none⟩)]) (vs:=[.agg (cVal d.val A1 c1 A2 c2).toArray]) (caps:=[]) cf_wflags rfl rfl (W5.flags d.val (by rw [hT0,ints_length]; omega) ) rfl rfl ?_
  rintro _ w6 ⟨rfl,W6⟩
  refine eo_nil_sq ?_
  refine ec_seq ?_
  refine ec_region ?_
  refine o_w (v:=.pointer (some ⟨bw,0,none⟩)) (r_mov rfl) ?_
  refine o_w (v:=.int .i64 ((T0.length:Int) + 32)) (r_mov rfl) ?_
  refine o_w (v:=.pointer (some ⟨bw,0,none⟩)) (r_mov rfl) ?_
  refine o_w (v:=.pointer (some ⟨bw,0,none⟩)) (r_nilchk rfl) ?_
  refine o_w (v:=.pointer (some ⟨bw,0,none⟩)) (r_fa fld_writer_0 rfl rfl) ?_
  refine o_call cf_BLen rfl W6.len rfl rfl ?_
  rintro _ w7 ⟨F7,rfl⟩
  have hv:(valT d.val).length≤32:=valT_len ho
  have hvt:flgS d.val=ints (valT d.val):=by rw [flgS_T]; unfold valT; rw [hk]; rfl
  have hln:((ints T0++flgS d.val).length:Int)=(T0.length:Int) + ((valT d.val).length:Int):=by rw [hvt,List.length_append,ints_length,ints_length]; omega
  have hsb:IntKind.i64.wrap (((T0.length:Int) + 32) - ((ints T0++flgS d.val).length:Int))=32 - ((valT d.val).length:Int):=by rw [hln,wrap64 (by omega) (by omega)]; omega
  refine o_w (v:=.int .i64 (32 - ((valT d.val).length:Int))) (r_int rfl rfl (by show some (Value.int .i64 (IntKind.i64.wrap (((T0.length:Int) + 32) - ((ints T0++flgS d.val).length:Int))))=_; rw [hsb])) ?_
  refine o_call cf_wtext rfl ((W6.ex F7).text [] (32 - ((valT d.val).length:Int)) (by rw [hvt,List.length_append,ints_length,ints_length]; omega) (by simp; omega) (by omega)) rfl rfl ?_
  rintro _ w8 ⟨rfl,W8⟩
  refine eo_nil_sq ?_
  refine ec_seq ?_
  refine ec_region ?_
  refine o_w (v:=.pointer (some ⟨bw,0,none⟩)) (r_mov rfl) ?_
  refine o_w (v:=.pointer (some ⟨bw,0,none⟩)) (r_nilchk rfl) ?_
  refine o_w (v:=.pointer (some ⟨bw,0,none⟩)) (r_fa fld_writer_0 rfl rfl) ?_
  have hfin:ints T0++flgS d.val++(ints []++ints (zeros ((32 - ((valT d.val).length:Int)) - (([]:Str).length:Int))))=ints (putT d):=by
   rw [hvt]; unfold putT; simp [ints,T0,headT]
  rw [hfin] at W8
  obtain ⟨F8,p8,v8,B8,_,O8,N8⟩:=W8
  refine o_call cf_BStr rfl (bstr_c B8 O8 (by simp) (putT_ne ho) (by have:=putT_len ho; omega)) rfl rfl ?_
  rintro _ w9 ⟨F9,rfl⟩
  refine o_w (v:=str (putT d)) (r_asg rfl) ?_
  refine o_w (v:=.int .i64 (0:Int)) (r_asg rfl) ?_
  refine eo_nil_sq ?_
  refine ec_ret ?_
  refine end2 rfl rfl ⟨_,rfl,?_,by unfold putE; rw [ho]; rfl⟩
  have E8:Ext w w8:=Ext.st Eb F8 (fun m hm=>by
   rcases List.mem_cons.1 hm with rfl | hm
   ·exact hbw
   ·cases hm)
  exact Ext.st E8 F9 (fun m hm=>by
   rcases N8 m hm with h | h
   ·cases h
   ·exact Nat.le_trans Eb.size h)
end Go.Proofs.Ytbijobepjjokmaa
