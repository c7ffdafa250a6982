import Derived.Test.YthbfhgenkhkpfaaGreatHj
import Derived.Test.YthbfhgenkhkpfaaGreatPi
import Derived.Test.YthbfhgenkhkpfaaGreatFx
import Derived.Test.YthbfhgenkhkpfaaGreatJd
import Derived.Test.YthbfhgenkhkpfaaGreatWn
namespace Go.Proofs.YthbfhgenkhkpfaaGreat
open Go Go.RowKit
set_option linter.unusedVariables false
set_option linter.unusedSimpArgs false
theorem un_uint : Tryz.prog.underlying 49=some (.int .u64):=Tryz.underlying49
theorem in_func_int_bool:(Tryz.prog.info? 66).map (fun i=>(i.zero,i.size,i.bytes))=some (some (.nilFunc),1,8):=by kernel_rfl
theorem zero_func_int_bool:Zero Tryz.prog 66 (.nilFunc):=zero_of in_func_int_bool
theorem sz_func_int_bool:Sz Tryz.prog 66 1:=sz_of in_func_int_bool
theorem one_func_int_bool:One Tryz.prog 66:=⟨⟨_,Tryz.underlying66,trivial⟩,sz_func_int_bool⟩
theorem un_digest_sums : Tryz.prog.underlying 69=some (.array 4 3):=Tryz.underlying69
theorem in_digest_sums:(Tryz.prog.info? 69).map (fun i=>(i.zero,i.size,i.bytes))=some (some (.agg #[.int .i64 0,.int .i64 0,.int .i64 0,.int .i64 0]),4,32):=by kernel_rfl
theorem zero_digest_sums:Zero Tryz.prog 69 (.agg #[.int .i64 0,.int .i64 0,.int .i64 0,.int .i64 0]):=zero_of in_digest_sums
theorem sz_digest_sums:Sz Tryz.prog 69 4:=sz_of in_digest_sums
theorem agg_digest_sums:Agg Tryz.prog 69 4:=⟨⟨_,Tryz.underlying69,trivial⟩,sz_digest_sums⟩
theorem cf_digest_Bucket:CF Tryz.prog 17:=fun _ _=>by kernel_rfl
theorem cf_digest_Differ:CF Tryz.prog 19:=fun _ _=>by kernel_rfl
theorem cf_digest_Get:CF Tryz.prog 22:=fun _ _=>by kernel_rfl
theorem cf_digest_In:CF Tryz.prog 15:=fun _ _=>by kernel_rfl
theorem cf_digest_In_1:CF Tryz.prog 39:=fun _ _=>by kernel_rfl
theorem cf_digest_Sums:CF Tryz.prog 18:=fun _ _=>by kernel_rfl
theorem cf_digest_slots:CF Tryz.prog 40:=fun _ _=>by kernel_rfl
theorem cf_digest_slots_1:CF Tryz.prog 72:=fun _ _=>by kernel_rfl
theorem cf_law10_works:CF Tryz.prog 9:=fun _ _=>by kernel_rfl

/-- One bit, on whole numbers. -/
def bN (x : Nat) : Nat := (x / 2) ^^^ (if x % 2 = 1 then 3988292384 else 0)
def b4 (x:Nat):Nat:=bN (bN (bN (bN x)))
def stN (n p:Nat):Nat:=b4 ((n ^^^ p) % 16) ^^^ (n / 16)
def byN (n c:Nat):Nat:=stN (stN n (c % 16)) (c / 16)
def onN (n:Nat) (s:Str):Nat:=s.foldl (fun n c=>byN n c.toNat) n
theorem bN_lt {x:Nat} (h:x<4294967296):bN x<4294967296:=by
 unfold bN
 have h1:x / 2<2 ^ 32:=by omega
 split
 ·exact Nat.xor_lt_two_pow h1 (by decide)
 ·exact Nat.xor_lt_two_pow h1 (by decide)
theorem b4_lt {x:Nat} (h:x<4294967296):b4 x<4294967296:=bN_lt (bN_lt (bN_lt (bN_lt h)))
theorem stN_lt {n p:Nat} (h:n<4294967296):stN n p<4294967296:=by
 unfold stN
 have h1:b4 ((n ^^^ p) % 16)<2 ^ 32:=b4_lt (by omega)
 have h2:n / 16<2 ^ 32:=by omega
 exact Nat.xor_lt_two_pow h1 h2
theorem byN_lt {n c:Nat} (h:n<4294967296):byN n c<4294967296:=stN_lt (stN_lt h)
theorem onN_lt:∀ (s:Str) {n:Nat},n<4294967296→onN n s<4294967296
 | [],n,h=>h
 | c::s,n,h=>onN_lt s (byN_lt h)

/-! ### the walk's numbers -/
theorem bvN {n:Nat} (h:n<4294967296):(BitVec.ofInt IntKind.u32.bits (n:Int)).toNat=n:=by
 rw [show IntKind.u32.bits=32 from rfl,BitVec.toNat_ofInt]; omega
theorem u32N {n:Nat} (h:n<4294967296):IntKind.u32.wrap (n:Int)=(n:Int):=by rw [IntKind.wrap_u32]; omega
theorem xorN {a b:Nat} (ha:a<4294967296) (hb:b<4294967296):xorW (a:Int) (b:Int)=((a ^^^ b:Nat):Int):=by
 unfold xorW
 rw [BitVec.toNat_xor,bvN ha,bvN hb]
 exact u32N (Nat.xor_lt_two_pow (n:=32) ha hb)
theorem andN {a k:Nat} (ha:a<4294967296) (hk:k<32):andW (a:Int) ((2 ^ k - 1:Nat):Int)=((a % 2 ^ k:Nat):Int):=by
 have h2:(2:Nat) ^ k≤2 ^ 31:=Nat.pow_le_pow_right (by decide) (by omega)
 have h3:(2:Nat) ^ 31=2147483648:=rfl
 unfold andW
 rw [BitVec.toNat_and,bvN ha,bvN (by omega),Nat.and_two_pow_sub_one_eq_mod]
 exact u32N (Nat.lt_of_le_of_lt (Nat.mod_le _ _) ha)
theorem bitW_N {x:Nat} (h:x<4294967296):bitW (x:Int)=(bN x:Int):=by
 unfold bitW bN
 have h1:andW (x:Int) 1=((x % 2:Nat):Int):=andN (k:=1) h (by decide)
 have h2:(x:Int).fdiv 2=((x / 2:Nat):Int):=by rw [Int.fdiv_eq_ediv_of_nonneg _ (by decide)]; rfl
 rw [h1,h2]
 by_cases hx:x % 2=1
 ·rw [if_pos hx,show (((x % 2:Nat):Int)==1)=true by rw [hx]; rfl]
  exact xorN (b:=3988292384) (by omega) (by decide)
 ·rw [if_neg hx,show (((x % 2:Nat):Int)==1)=false by rw [show x % 2=0 by omega]; rfl,Nat.xor_zero]; rfl
theorem rowF_N {x:Nat} (h:x<16):rowF x=(b4 x:Int):=by
 unfold rowF b4
 have h0:x<4294967296:=by omega
 rw [bitW_N h0,bitW_N (bN_lt h0),bitW_N (bN_lt (bN_lt h0)),bitW_N (bN_lt (bN_lt (bN_lt h0)))]
theorem stepF_N {n p:Nat} (hn:n<4294967296) (hp:p<16):stepF (n:Int) (p:Int)=(stN n p:Int):=by
 unfold stepF stN
 rw [u32N (by omega),xorN hn (by omega)]
 have hx:n ^^^ p<4294967296:=Nat.xor_lt_two_pow (n:=32) hn (by omega)
 rw [show andW ((n ^^^ p:Nat):Int) 15=(((n ^^^ p) % 16:Nat):Int) from andN (k:=4) hx (by decide)]
 rw [Int.toNat_natCast,rowF_N (Nat.mod_lt _ (by decide))]
 rw [show (n:Int).fdiv 16=((n / 16:Nat):Int) by rw [Int.fdiv_eq_ediv_of_nonneg _ (by decide)]; rfl]
 exact xorN (b4_lt (by omega)) (by omega)
theorem and8_N {c:Nat} (hc:c<256):and8 (c:Int) 15=((c % 16:Nat):Int):=by
 unfold and8
 rw [BitVec.toNat_and,show IntKind.u8.bits=8 from rfl,BitVec.toNat_ofInt,BitVec.toNat_ofInt]
 rw [show ((c:Int) % ((2 ^ 8:Nat):Int)).toNat=c by omega,show ((15:Int) % ((2 ^ 8:Nat):Int)).toNat=2 ^ 4 - 1 by decide,Nat.and_two_pow_sub_one_eq_mod,IntKind.wrap_u8]
 omega
theorem byteF_N {n c:Nat} (hn:n<4294967296) (hc:c<256):byteF (n:Int) (c:Int)=(byN n c:Int):=by
 unfold byteF byN
 rw [and8_N hc,show (c:Int).fdiv 16=((c / 16:Nat):Int) by rw [Int.fdiv_eq_ediv_of_nonneg _ (by decide)]; rfl,stepF_N hn (Nat.mod_lt _ (by decide)),stepF_N (stN_lt hn) (by omega)]
theorem byte_lt (c:UInt8):c.toNat<256:=c.toBitVec.isLt
theorem onF_N:∀ (s:Str) {n:Nat},n<4294967296→onF (n:Int) s=(onN n s:Int)
 | [],n,h=>rfl
 | c::s,n,h=>by
  show onF (byteF (n:Int) (c.toNat:Int)) s=_
  rw [byteF_N h (byte_lt c)]
  exact onF_N s (byN_lt h)
/-- The sum of a text. -/
def crcN (s : Str) : Nat := 4294967295 ^^^ onN 4294967295 s
theorem crcN_lt (s:Str):crcN s<4294967296:=Nat.xor_lt_two_pow (n:=32) (by decide) (onN_lt s (by decide))
theorem sumC_N (s:Str):sumC s=(crcN s:Int):=by
 unfold sumC crcN
 rw [show (4294967295:Int)=((4294967295:Nat):Int) from rfl,onF_N s (by decide)]
 have h:=xorN (a:=4294967295) (b:=onN 4294967295 s) (by decide) (onN_lt s (by decide))
 have h2:=crcN_lt s
 unfold crcN at h2
 unfold xorW at h
 rw [show IntKind.u32.max=((4294967295:Nat):Int) from rfl,h,IntKind.wrap_i64]
 omega

/-! ### the document's -/
def crc_Sum_raw (s:Str) (y:Int):Prop:=s.length≤9223372036854775807∧y=sumC s
theorem crcSum_ev (s:Str) (hs:s.length≤9223372036854775807):crc_Sum_raw s (sumC s):=⟨hs,rfl⟩
theorem crc_Sum_c {L:List Nat} {w:World} (d0:Str) (hL:Lt L w) {y:Int} (h:crc_Sum_raw d0 y) :
  Calls Tryz.prog 28 [str d0].toArray w (Ret fun v w'=>Ext w w'∧v=.int .i64 y):=by
 obtain ⟨hs,rfl⟩:=h
 exact crc_Sum_c0 d0 hs
def digest_Bucket_raw (d0:Int) (d1:Str) (y:Int):Prop :=
 (bstr ([(IntKind.u8.wrap d0)]:List Int)).length + d1.length≤9223372036854775807∧((((bstr ([(IntKind.u8.wrap d0)]:List Int))++d1).length≤9223372036854775807)∧(∃ x3,x3=(sumC ((bstr ([(IntKind.u8.wrap d0)]:List Int))++d1))∧(y=(Int.tmod x3 (4:Int)))))
set_option maxRecDepth 20000 in
set_option maxHeartbeats 4000000 in
theorem digest_Bucket_c {L:List Nat} {w:World} (d0:Int) (d1:Str) (hL:Lt L w) {y:Int} (h:digest_Bucket_raw d0 d1 y) :
  Calls Tryz.prog 17 [.int .i64 d0,str d1].toArray w (Ret fun v w'=>Ext w w'∧v=.int .i64 y):=by
 unfold digest_Bucket_raw at h
 refine calls_ec Tryz.func17 rfl rfl rfl ?_
 refine ec_sr ?_
 refine o_w (v:=.int .i64 0) (r_asg rfl) ?_
 refine eo_r ?_
 refine o_w (v:=.int .i64 d0) (r_mov rfl) ?_
 refine o_w (v:=.int .u8 (IntKind.u8.wrap d0)) (r_conv un_int un_uint8 rfl) ?_
 refine o_bslice slc_s_uint8 rfl (vs:=[.int .u8 (IntKind.u8.wrap d0)]) rfl rfl rfl (cs:=[.int .u8 (IntKind.u8.wrap d0)]) rfl rfl rfl rfl ?_
 intro b1 w1 e1 F1 B1
 have N1:=nin hL e1
 have S1:=B1.stb N1
 refine o_w (v:=str (bstr ([(IntKind.u8.wrap d0)]:List Int))) (r_bstrB (l:=([(IntKind.u8.wrap d0)]:List Int)) slc_s_uint8 un_uint8 un_string rfl S1.now rfl) ?_
 refine o_w (v:=str d1) (r_mov rfl) ?_
 obtain ⟨ha2,h⟩:=h
 refine o_w (v:=str ((bstr ([(IntKind.u8.wrap d0)]:List Int))++d1)) (r_cat rfl rfl ha2) ?_
 obtain ⟨ha4,h⟩:=h
 obtain ⟨x3,hx3,h⟩:=h
 refine o_call cf_crc_Sum rfl (crc_Sum_c ((bstr ([(IntKind.u8.wrap d0)]:List Int))++d1) (hL.fr F1) (eq_ev hx3 (crcSum_ev ((bstr ([(IntKind.u8.wrap d0)]:List Int))++d1) ha4))) rfl rfl ?_
 rintro _ w3 ⟨F3,rfl⟩
 have E5:=F1.trans F3
 refine o_w (v:=.int .i64 (Int.tmod x3 (4:Int))) (r_rem rfl rfl rfl) ?_
 refine o_w (v:=.int .i64 (Int.tmod x3 (4:Int))) (r_asg rfl) ?_
 refine eo_nil_sq ?_
 refine ec_ret ?_
 subst h
 exact (end1 rfl ⟨_,rfl,E5,rfl⟩)
/-- The bucket of a name. -/
def bucketD (k : Int) (s : Str) : Int := ((crcN (bstr [IntKind.u8.wrap k] ++ s) % 4 : Nat) : Int)
theorem bucketD_lt (k:Int) (s:Str):0≤bucketD k s∧bucketD k s<4:=by unfold bucketD; omega
theorem bucket_mod (s:Str):Int.tmod (sumC s) 4=((crcN s % 4:Nat):Int):=by
 rw [sumC_N,Int.tmod_eq_emod_of_nonneg (by omega)]; omega
theorem bstr1_len (n:Int):(bstr [n]).length=1:=rfl
theorem digBucket_ev (k:Int) (s:Str) (h:s.length≤1000000):digest_Bucket_raw k s (bucketD k s):=by
 refine ⟨?_,?_,_,rfl,?_⟩
 ·rw [bstr1_len]; omega
 ·rw [List.length_append,bstr1_len]; omega
 ·rw [bucket_mod]; rfl
def digest_slots_1_b15 (x7:(List Ent)) (s15:Int × List (Int × Ent)) (z15:(Int × List (Int × Ent)) ⊕ ((Int × List (Int × Ent)) ⊕ (Unit))):Prop :=
 ((decide (s15.1<(x7.length:Int)))=true→((0≤s15.1∧s15.1<(x7.length:Int))∧((((nth x7 s15.1).key).length≤1000000)∧(∃ x53,x53=(bucketD (((nth x7 s15.1).val).kind) ((nth x7 s15.1).key))∧(∃ r63,s15.2=(x53,(nth x7 s15.1))::r63∧(z15=.inl ((IntKind.i64.wrap (s15.1 + (1:Int))),r63))∧(True))))))∧((decide (s15.1<(x7.length:Int)))=false→(z15=.inr (.inl (s15.1,s15.2))))
def digest_slots_1_X:(Int × Ent)→List Nat→World→List Value→Prop:=fun x T W vs=>∃ cs1,vs=[.int .i64 x.1,.agg cs1.toArray]∧Stb T W (fun w=>kEnt.r w cs1 x.2)
def digest_slots_1_raw (d1:Arena) (xs:List (Int × Ent)):Prop :=
 (sma d1)∧(∃ x7,x7=(chunkA d1 (0:Int) (8:Int))∧(∃ x15,LoopR (digest_slots_1_b15 x7) ((0:Int),xs) x15∧(∀ sx15,x15=.inl sx15→(sx15.2=[]))∧(∀ y15,x15=.inr y15→True)))
set_option maxRecDepth 20000 in
set_option maxHeartbeats 4000000 in
theorem digest_slots_1_it1 {L:List Nat} {w:World} {bP1:Nat} {csP1:List Value} (d1:Arena) (HB1:Stb L w (fun w=>Blk w bP1 25 csP1)) (HP1:Stb L w (fun w=>kArena.r w csP1 d1)) (hL:Lt L w) {xs:List (Int × Ent)} (h:digest_slots_1_raw d1 xs) (l:Nat) (J:Nat→List Nat→World→Prop) (Jx:World→Prop) (T0:List Nat) (hT0:∀ m∈T0,m∈L) (hJ0:J 0 T0 w)
  (hJe:∀ k T W W',J k T W→Ext W W'→J k T W') (hJxe:∀ W W',Jx W→Ext W W'→Jx W') (hJl:∀ k T W,J k T W→Lt T W)
  (hY:∀ k x T W vs,xs[k]?=some x→J k T W→digest_slots_1_X x T W vs→YC Tryz.prog l vs W fun e W' =>
   (e=.returned (.bool true)∧∃ T',J (k + 1) T' W'∧Fr T W W'∧∀ q∈T',q∈T∨W.heap.size≤q)∨(e=.returned (.bool false)∧Jx W')) :
  Calls Tryz.prog 72 (.func (.yield l) #[] #[]::[.pointer (some ⟨bP1,0,none⟩)]).toArray w fun e W'=>(∃ v,e=.returned v)∧((∃ T,J xs.length T W')∨Jx W'):=by
 obtain ⟨A1,c2,A4,c5,rfl,H3,H6⟩:=kArena_open HP1
 have hL0:=hL
 unfold digest_slots_1_raw at h
 refine calls_ec Tryz.func72 rfl rfl rfl ?_
 refine ec_sr ?_
 refine o_w (v:=.agg (cArena d1 A1 c2 A4 c5).toArray) (r_lda agg_api_Arena rfl (vs:=(cArena d1 A1 c2 A4 c5)) rfl (HB1.now.part (n:=3) rfl)) ?_
 obtain ⟨ha8,h⟩:=h
 obtain ⟨x7,hx7,h⟩:=h
 refine o_call cf_arena_Chunk rfl (arena_Chunk_c d1 (kArena_mk (d:=d1) (H3.up (Fr.refl L _) sI (upo (fun m hm=>.inl (hT0 m hm)) (fun _ h=>.inl h))) (H6.up (Fr.refl L _) sI (upo (fun m hm=>.inl (hT0 m hm)) (fun _ h=>.inl h)))) (0:Int) (8:Int) (lt_app (hJl _ _ _ hJ0) hL) (eq_ev hx7 (arChunk_ev d1 (0:Int) (8:Int) ha8))) rfl rfl ?_
 rintro _ w7 ⟨F7,A9,c10,rfl,H11⟩
 have G12:Fr L w w7:=Fr.ext F7
 have G13:Fr ([]:List Nat) w w7:=Fr.ext F7
 refine o_w (v:=.int .i64 (x7.length:Int)) (r_len_slc un_s_api_Entry rfl) ?_
 refine o_w (v:=.int .i64 0) (r_mov rfl) ?_
 refine eo_nil_sq ?_
 refine ec_block ?_
 obtain ⟨x15,hl15,h⟩:=h
 refine ec_loopIt 0 (I:=(fun (s15:Int × List (Int × Ent)) ρ ds w'=>∃ (ρ':Env) (dn15i2:List (Int × Ent)) (T15i2:List Nat),ρ=envs ρ' [(8,.int .i64 s15.1),(0,.func (.yield l) #[] #[]),(6,.slice A9 x7.length c10),(7,.int .i64 (x7.length:Int))]∧ds=[]∧Fr (T0++L) w7 w'∧Fr L w w'∧J dn15i2.length T15i2 w'∧(∀ q∈T15i2,q∈(T0++L)∨w7.heap.size≤q)∧xs=dn15i2++s15.2∧(∀ q∈T15i2,q∈L∨w.heap.size≤q))) (J:=(fun (y':Unit) ρ ds wz=>bodyE Tryz.prog #[] (fun e W'=>(∃ v,e=.returned v)∧((∃ T,J xs.length T W')∨Jx W')) .ret ρ ds wz)) (K:=(fun ρ ds wz=>bodyE Tryz.prog #[] (fun e W'=>(∃ v,e=.returned v)∧((∃ T,J xs.length T W')∨Jx W')) .ret ρ ds wz)) ?_ hl15 ?_ ?_ ?_ ?_
 ·intro s15 z15 ρ15 ds15 w15r hI15 hb15
  obtain ⟨ρ15r,dn15r2,T15r2,rfl,rfl,F15r,E15r,j15r2,N15r2,D15r2,Ti15r2⟩:=hI15
  have h:=hb15
  unfold digest_slots_1_b15 at h
  have G16:Fr L w w15r:=G12.stp F15r (upo (fun m hm=>.inl (hT0 m hm)) (fun _ h=>.inl h))
  have G17:Fr (T0++L) w7 w15r:=(Fr.refl _ _).stp F15r (upo (fun m hm=>Or.inl (List.mem_append_left _ hm)) (fun m hm=>Or.inl (List.mem_append_right _ hm)))
  have P18:∀ m∈T15r2,m∈L∨w.heap.size≤m:=fun m hm=>(N15r2 m hm).elim (fun h=>(show ∀ m∈(T0++L),m∈L∨w.heap.size≤m from (upo (fun m hm=>.inl (hT0 m hm)) (fun _ h=>.inl h))) m h) (fun h=>.inr (Nat.le_trans (G12.size) h))
  have P19:∀ m∈T15r2,m∈(T0++L)∨w7.heap.size≤m:=fun m hm=>(N15r2 m hm).elim (fun h=>(show ∀ m∈(T0++L),m∈(T0++L)∨w7.heap.size≤m from (upo (fun m hm=>Or.inl (List.mem_append_left _ hm)) (fun m hm=>Or.inl (List.mem_append_right _ hm)))) m h) (fun h=>.inr (Nat.le_trans (Nat.le_refl _) h))
  refine ec_sr ?_
  refine o_w (v:=.bool (decide (s15.1<(x7.length:Int)))) (r_int rfl rfl rfl) ?_
  refine eo_nil_sq ?_
  refine ec_seq ?_
  refine ec_cond rfl (fun hc20=>?_) (fun hc20=>?_)
  ·replace h:=h.1 hc20
   refine ec_skip ?_
   refine sq_n ?_
   refine ec_seq ?_
   refine ec_block ?_
   refine ec_sr ?_
   obtain ⟨ha21,h⟩:=h
   obtain ⟨cs22,l24,H23⟩:=Stb.elem (by decide) (H11.up G17 sI (upo P19 (fun m hm=>Or.inl (List.mem_append_right _ hm)))) s15.1 ha21.1 ha21.2
   obtain ⟨A26,c27,A29,c30,rfl,H25,H28,H31⟩:=kEnt_open2 H23
   refine o_w (v:=.pointer (some (elemA A9 kEnt.n s15.1.toNat))) (r_ia slc_s_api_Entry rfl rfl ((H11.fr G17 sI).now.2 _ (lt_toNat ha21.1 ha21.2)).1 ha21.1 ha21.2) ?_
   refine o_w (v:=.agg (cEnt (nth x7 s15.1) A26 c27 A29 c30).toArray) (r_lda' agg_api_Entry rfl (elemA_spot _ _ _) (vs:=(cEnt (nth x7 s15.1) A26 c27 A29 c30)) rfl (H25.now.1)) ?_
   refine o_alloc zero_api_Entry rfl rfl rfl ?_
   intro b32 w32 e32 F32 B32
   have n32:w.heap.size≤b32:=by rw [e32]; exact E15r.size
   have m33:w.heap.size≤b32:=by rw [e32]; exact G16.size
   have m34:w7.heap.size≤b32:=by rw [e32]; exact G17.size
   have m35:w15r.heap.size≤b32:=Nat.le_of_eq e32.symm
   have m36:w7.heap.size≤b32:=by rw [e32]; exact F15r.size
   have m37:w15r.heap.size≤b32:=Nat.le_of_eq e32.symm
   have nTb32:b32∉T15r2:=fun hm=>by have:=(hJl _ _ _ j15r2) _ hm; omega
   have E38:=E15r.trans (Fr.ext F32)
   have G41:Fr ([]:List Nat) w15r w32:=Fr.ext F32
   have G43:Fr (T15r2++L) w15r w32:=Fr.ext F32
   refine o_store rfl B32 (vs:=(cEnt (nth x7 s15.1) A26 c27 A29 c30)) rfl sz_api_Entry rfl rfl rfl ?_
   intro w45 F45 B45
   have E46:=Fr.stp E38 F45 (fun m hm=>.inr (by simp at hm; omega))
   have G47:Fr L w w45:=(G16.trans (Fr.ext F32)).stp F45 (upc (.inr m33) (fun m hm=>by cases hm))
   have G48:Fr (T0++L) w7 w45:=(G17.trans (Fr.ext F32)).stp F45 (upc (.inr m34) (fun m hm=>by cases hm))
   have G49:Fr ([]:List Nat) w15r w45:=G41.stp F45 (upc (.inr m35) (fun m hm=>by cases hm))
   have G50:Fr (T0++L) w7 w45:=(F15r.trans (Fr.ext F32)).stp F45 (upc (.inr m36) (fun m hm=>by cases hm))
   have G51:Fr (T15r2++L) w15r w45:=G43.stp F45 (upc (.inr m37) (fun m hm=>by cases hm))
   have B45':Blk w45 b32 _ (cEnt (nth x7 s15.1) A26 c27 A29 c30):=B45
   refine eo_nil_sq ?_
   refine ec_seq ?_
   obtain ⟨ha54,h⟩:=h
   obtain ⟨x53,hx53,h⟩:=h
   refine ec_pre (by kernel_rfl) [[],[],[1],[1,2],[],[4],[1,2,3,4,5],[],[0,1,2,3,4,5,6,7],[0,1,2,3,4,5,6,7,8]] [12,13,14,15,16,17,18,19] #[true,true,true,true,true,true,true,true,false,false] 8 2 [fun v _=>v=(.func (.yield l) #[] #[]:Value),fun v _=>v=(.pointer (some ⟨b32,1,none⟩):Value),fun v _=>v=(.pointer (some ⟨b32,1,none⟩):Value),fun v _=>v=(.int .i64 (((nth x7 s15.1).val).kind):Value),fun v _=>v=(.pointer (some ⟨b32,0,none⟩):Value),fun v _=>v=(str ((nth x7 s15.1).key):Value),fun v _=>v=(.int .i64 x53:Value),fun v _=>v=(.agg (cEnt (nth x7 s15.1) A26 c27 A29 c30).toArray:Value),fun _ _=>True,fun _ _=>True] (by kernel_rfl)
    ⟨fun _ _ _ _ _ h=>h,fun _ _ _ _ _ h=>h,fun _ _ _ _ _ h=>h,fun _ _ _ _ _ h=>h,fun _ _ _ _ _ h=>h,fun _ _ _ _ _ h=>h,fun _ _ _ _ _ h=>h,fun _ _ _ _ _ h=>h,fun _ _ _ _ _ h=>h,fun _ _ _ _ _ h=>h,trivial⟩ ?_ ?_
   ·refine ⟨?_,?_,?_,?_,?_,?_,?_,?_,trivial⟩
    ·intro ρ w1 F hS hρ
     have p:ρ 0=.func (.yield l) #[] #[]:=hρ 0 (by kernel_rfl)
     exact o_q (r_mov p) ⟨Fr.refl _ _,rfl⟩
    ·intro ρ w1 F hS hρ
     have p:ρ 4=.pointer (some ⟨b32,0,none⟩):=hρ 4 (by kernel_rfl)
     exact o_q (r_fa fld_api_Entry_1 rfl p) ⟨Fr.refl _ _,rfl⟩
    ·intro ρ w1 F hS hρ
     have p:ρ 13=.pointer (some ⟨b32,1,none⟩):=hS 1 (by decide) 13 rfl
     exact o_q (r_fa fld_api_Value_0 rfl p) ⟨Fr.refl _ _,rfl⟩
    ·intro ρ w1 F hS hρ
     have p:ρ 14=.pointer (some ⟨b32,1,none⟩):=hS 2 (by decide) 14 rfl
     exact o_q (r_ld one_int p ((B45'.ex F).cell rfl)) ⟨Fr.refl _ _,rfl⟩
    ·intro ρ w1 F hS hρ
     have p:ρ 4=.pointer (some ⟨b32,0,none⟩):=hρ 4 (by kernel_rfl)
     exact o_q (r_fa fld_api_Entry_0 rfl p) ⟨Fr.refl _ _,rfl⟩
    ·intro ρ w1 F hS hρ
     have p:ρ 16=.pointer (some ⟨b32,0,none⟩):=hS 4 (by decide) 16 rfl
     exact o_q (r_ld one_string p ((B45'.ex F).cell rfl)) ⟨Fr.refl _ _,rfl⟩
    ·intro ρ w1 F hS hρ
     have p15:ρ 15=.int .i64 (((nth x7 s15.1).val).kind):=hS 3 (by decide) 15 rfl
     have p17:ρ 17=str ((nth x7 s15.1).key):=hS 5 (by decide) 17 rfl
     refine o_call cf_digest_Bucket (by simp only [List.map,ev,p15,p17] <;> rfl) (digest_Bucket_c (L:=[]) (((nth x7 s15.1).val).kind) ((nth x7 s15.1).key) (fun _ hm=>by cases hm) (eq_ev hx53 (digBucket_ev (((nth x7 s15.1).val).kind) ((nth x7 s15.1).key) ha54))) rfl rfl ?_
     rintro _ w' ⟨F',rfl⟩
     exact eo_nil ⟨rfl,rfl,_,rfl,F',rfl⟩
    ·intro ρ w1 F hS hρ
     have p:ρ 4=.pointer (some ⟨b32,0,none⟩):=hρ 4 (by kernel_rfl)
     exact o_q (r_lda agg_api_Entry p (vs:=(cEnt (nth x7 s15.1) A26 c27 A29 c30)) rfl ((B45'.ex F).part (n:=9) rfl)) ⟨Fr.refl _ _,rfl⟩
   intro ρ53 w53 F53 hS hρ
   have q12:ρ53 12=.func (.yield l) #[] #[]:=hS 0 12 (by decide) rfl
   have q18:ρ53 18=.int .i64 x53:=hS 6 18 (by decide) rfl
   have q19:ρ53 19=.agg (cEnt (nth x7 s15.1) A26 c27 A29 c30).toArray:=hS 7 19 (by decide) rfl
   obtain ⟨ρ',rfl⟩:∃ ρ',ρ53=envs (ovr [12,13,14,15,16,17,18,19] ρ' _) [(12,.func (.yield l) #[] #[]),(18,.int .i64 x53),(19,.agg (cEnt (nth x7 s15.1) A26 c27 A29 c30).toArray)]:=⟨ρ53,ovr_self hρ ⟨q12,q18,q19,trivial⟩⟩
   have E55:=E46.trans (Fr.ext F53)
   refine ord_cons 8 [] (by kernel_rfl) ⟨⟨_,rfl,?_⟩,trivial⟩
   obtain ⟨r63,er63,h⟩:=h
   refine o_yield (vs:=[.int .i64 x53,.agg (cEnt (nth x7 s15.1) A26 c27 A29 c30).toArray]) rfl rfl (hY _ (x53,(nth x7 s15.1)) _ _ _ (it_at D15r2 er63) (hJe _ _ _ _ j15r2 (G49.trans (Fr.ext F53))) ⟨_,rfl,((kEnt_mk (d:=(nth x7 s15.1)) (H28.up (G51.trans (Fr.ext F53)) sI (upc (.inr m37) (upo (fun m hm=>Or.inl (List.mem_append_left _ hm)) (fun m hm=>Or.inl (List.mem_append_right _ hm))))) (H31.up (G51.trans (Fr.ext F53)) sI (upc (.inr m37) (upo (fun m hm=>Or.inl (List.mem_append_left _ hm)) (fun m hm=>Or.inl (List.mem_append_right _ hm)))))).weak (fun m hm=>(mT (List.mem_append_left _ hm))))⟩) rfl rfl ?_ (by rintro c w' (⟨h,_⟩ | ⟨h,_⟩) <;> cases h) (by rintro w' (⟨h,_⟩ | ⟨h,_⟩) <;> cases h)
   rintro v63 w63 (⟨ev63,T63,J63,F63,N63⟩ | ⟨ev63,X63⟩)
   ·cases ev63; replace h:=h.1
    have D63:=it_next D15r2 er63
    have j63:=it_len (x:=(x53,(nth x7 s15.1))) J63
    have hl63:=hJl _ _ _ j63
    have Ti63:∀ m∈T63,m∈L∨w.heap.size≤m:=fun m hm=>(N63 m hm).elim (Ti15r2 m) (fun h=>.inr (Nat.le_trans (E55.size) h))
    have nT63b32:b32∉T63:=fun hm=>(N63 _ hm).elim nTb32 (fun h=>by have:=(B45'.ex F53).lt; omega)
    have P64:∀ m∈T63,m∈L∨w.heap.size≤m:=fun m hm=>(N63 m hm).elim (fun h=>(show ∀ m∈T15r2,m∈L∨w.heap.size≤m from P18) m h) (fun h=>.inr (Nat.le_trans ((G47.trans (Fr.ext F53)).size) h))
    have P65:∀ m∈T63,m∈(T0++L)∨w7.heap.size≤m:=fun m hm=>(N63 m hm).elim (fun h=>(show ∀ m∈T15r2,m∈(T0++L)∨w7.heap.size≤m from P19) m h) (fun h=>.inr (Nat.le_trans ((G48.trans (Fr.ext F53)).size) h))
    have P66:∀ m∈T63,m∈(T0++L)∨w7.heap.size≤m:=fun m hm=>(N63 m hm).elim (fun h=>(show ∀ m∈T15r2,m∈(T0++L)∨w7.heap.size≤m from N15r2) m h) (fun h=>.inr (Nat.le_trans ((G50.trans (Fr.ext F53)).size) h))
    have P67:∀ m∈T63,m∈(T15r2++L)∨w15r.heap.size≤m:=fun m hm=>(N63 m hm).elim (fun h=>(show ∀ m∈T15r2,m∈(T15r2++L)∨w15r.heap.size≤m from (fun m hm=>.inl (List.mem_append_left _ hm))) m h) (fun h=>.inr (Nat.le_trans ((G51.trans (Fr.ext F53)).size) h))
    have E68:=Fr.stp E55 F63 Ti15r2
    have G69:Fr L w w63:=(G47.trans (Fr.ext F53)).stp F63 P18
    have G70:Fr (T0++L) w7 w63:=(G48.trans (Fr.ext F53)).stp F63 P19
    have G71:Fr (T0++L) w7 w63:=(G50.trans (Fr.ext F53)).stp F63 N15r2
    have G72:Fr (T15r2++L) w15r w63:=(G51.trans (Fr.ext F53)).stp F63 (fun m hm=>.inl (List.mem_append_left _ hm))
    have B73:=(B45'.ex F53).fr F63 nTb32
    refine eo_nil ?_
    refine ord_cons 9 [] (by kernel_rfl) ⟨⟨_,rfl,?_⟩,trivial⟩
    refine o_w (r_not rfl) ?_
    refine eo_nil ?_
    refine ord_end (by kernel_rfl) ?_
    refine sq_n ?_
    refine ec_condF rfl rfl ?_
    refine ec_skip ?_
    refine blk_n ?_
    refine sq_n ?_
    refine ec_region ?_
    refine o_w (v:=.int .i64 (IntKind.i64.wrap (s15.1 + (1:Int)))) (r_int rfl rfl rfl) ?_
    refine o_w (v:=.int .i64 (IntKind.i64.wrap (s15.1 + (1:Int)))) (r_mov rfl) ?_
    refine eo_nil ?_
    subst h
    exact .inr <| lqR_n ⟨_,(dn15r2++[(x53,(nth x7 s15.1))]),T63,envs_self ⟨rfl,rfl,rfl,rfl,trivial⟩,rfl,G71,E68,(hJe _ _ _ _ j63 (Fr.refl _ _)),P66,D63,Ti63⟩
   ·cases ev63; replace h:=h.2
    refine eo_nil ?_
    refine ord_cons 9 [] (by kernel_rfl) ⟨⟨_,rfl,?_⟩,trivial⟩
    refine o_w (r_not rfl) ?_
    refine eo_nil ?_
    refine ord_end (by kernel_rfl) ?_
    refine sq_n ?_
    refine ec_condT rfl rfl ?_
    refine ec_ret ?_
    refine blk_ret ?_
    refine sq_ret ?_
    exact .inl ⟨rfl,(end0r ⟨⟨_,rfl⟩,.inr (hJxe _ _ X63 (Fr.refl _ _))⟩)⟩
  ·replace h:=h.2 hc20
   refine ec_exit ?_
   refine sq_exit ?_
   subst h
   exact .inr <| lqR_x ⟨_,dn15r2,T15r2,envs_self ⟨rfl,rfl,rfl,rfl,trivial⟩,rfl,F15r,E15r,(hJe _ _ _ _ j15r2 (Fr.refl _ _)),N15r2,D15r2,Ti15r2⟩
 ·exact ⟨_,([]:List (Int × Ent)),T0,envs_self ⟨rfl,rfl,rfl,rfl,trivial⟩,rfl,(Fr.refl _ _),(Fr.ext F7),(hJe _ _ _ _ hJ0 G13),(fun q hq=>.inl (by first | exact List.mem_append_left _ hq | simp [hq])),(it_nil (xs:=xs)),(fun m hm=>.inl (hT0 m hm))⟩
 ·rintro sx15 rfl ρ15e ds15e w15e ⟨ρ15e,dn15e2,T15e2,rfl,rfl,F15e,E15e,j15e2,N15e2,D15e2,Ti15e2⟩
  replace h:=h.1 _ rfl
  have G74:Fr L w w15e:=G12.stp F15e (upo (fun m hm=>.inl (hT0 m hm)) (fun _ h=>.inl h))
  have G75:Fr (T0++L) w7 w15e:=(Fr.refl _ _).stp F15e (upo (fun m hm=>Or.inl (List.mem_append_left _ hm)) (fun m hm=>Or.inl (List.mem_append_right _ hm)))
  have P76:∀ m∈T15e2,m∈L∨w.heap.size≤m:=fun m hm=>(N15e2 m hm).elim (fun h=>(show ∀ m∈(T0++L),m∈L∨w.heap.size≤m from (upo (fun m hm=>.inl (hT0 m hm)) (fun _ h=>.inl h))) m h) (fun h=>.inr (Nat.le_trans (G12.size) h))
  have P77:∀ m∈T15e2,m∈(T0++L)∨w7.heap.size≤m:=fun m hm=>(N15e2 m hm).elim (fun h=>(show ∀ m∈(T0++L),m∈(T0++L)∨w7.heap.size≤m from (upo (fun m hm=>Or.inl (List.mem_append_left _ hm)) (fun m hm=>Or.inl (List.mem_append_right _ hm)))) m h) (fun h=>.inr (Nat.le_trans (Nat.le_refl _) h))
  refine blk_hit ?_
  have hr:=h
  exact (end0 ⟨⟨_,rfl⟩,.inl ⟨_,it_end D15e2 hr (hJe _ _ _ _ j15e2 (Fr.refl _ _))⟩⟩)
 ·rintro y15 rfl ρ15q ds15q w15q hJ
  refine blk_ret ?_
  exact hJ
 ·intro ρ15q ds15q w15q hJ
  refine blk_ret ?_
  exact hJ
theorem digest_slots_1_it {L:List Nat} {w:World} {bP1:Nat} {csP1:List Value} (d1:Arena) (HB1:Stb L w (fun w=>Blk w bP1 25 csP1)) (HP1:Stb L w (fun w=>kArena.r w csP1 d1)) (hL:Lt L w) {xs:List (Int × Ent)} (h:digest_slots_1_raw d1 xs):IterCP Tryz.prog 72 [.pointer (some ⟨bP1,0,none⟩)] xs digest_slots_1_X L [] w :=
 fun l J Jx T0 hT0 hPv hJ0 h1 h2 h3 h4=>digest_slots_1_it1 d1 HB1 HP1 hL h l J Jx T0 hT0 hJ0 h1 h2 h3 h4
def bktE (e:Ent):Int:=bucketD e.val.kind e.key
def bktL (l:List Ent):List (Int × Ent):=l.map fun e=>(bktE e,e)
def slotsD (a:Arena):List (Int × Ent):=bif arOk a then bktL a.slots else []
theorem bktL_length (l:List Ent):(bktL l).length=l.length:=by simp [bktL]
theorem bktL_drop {l:List Ent} {i:Nat} (h:i<l.length):(bktL l).drop i=(bktE (l.getD i default),l.getD i default)::(bktL l).drop (i + 1):=by
 rw [List.drop_eq_getElem_cons (by rw [bktL_length]; exact h)]
 congr 1
 simp [bktL,h]
theorem ok_slots8 {a:Arena} (h:arOk a=true):a.slots.length≤8∧(∀ e∈a.slots,okE e=true):=by
 obtain ⟨⟨_,h1,h2⟩,h3,_⟩:=arOk_iff.1 h
 exact ⟨by omega,h3⟩
theorem chunk8 {a:Arena} (h:arOk a=true):chunkA a 0 8=a.slots:=by
 unfold chunkA
 rw [h]
 show (a.slots.drop 0).take 8=a.slots
 rw [List.drop_zero,List.take_of_length_le (ok_slots8 h).1]
theorem getD_memE {l:List Ent} {i:Nat} (h:i<l.length):l.getD i default∈l:=by
 rw [List.getD_eq_getElem?_getD,List.getElem?_eq_getElem h]; exact List.getElem_mem h
theorem slots_ev (a:Arena) (h:sma a):digest_slots_1_raw a (slotsD a):=by
 refine ⟨h,_,rfl,?_⟩
 cases ho:arOk a with
 | false =>
  have e1:chunkA a 0 8=[]:=by unfold chunkA; rw [ho]; rfl
  have e2:slotsD a=[]:=by unfold slotsD; rw [ho]; rfl
  rw [e1,e2]
  exact ⟨.inl (0,[]),.done ⟨fun h=>by simp at h,fun _=>rfl⟩,fun s e=>by cases e; rfl,fun _ _=>trivial⟩
 | true =>
  have e2:slotsD a=bktL a.slots:=by unfold slotsD; rw [ho]; rfl
  rw [chunk8 ho,e2]
  obtain ⟨hl,hok⟩:=ok_slots8 ho
  obtain ⟨x,hx,hp⟩:=loop_run (body:=digest_slots_1_b15 a.slots) (fun s=>a.slots.length - s.1.toNat) (fun s=>∃ i:Nat,i≤a.slots.length∧s=((i:Int),(bktL a.slots).drop i)) (fun x=>x=.inl ((a.slots.length:Int),[])) (by
   rintro s ⟨i,hi,rfl⟩
   by_cases hlt:i<a.slots.length
   ·refine .inl ⟨(((i + 1:Nat):Int),(bktL a.slots).drop (i + 1)),⟨fun _=>⟨⟨by simp,by simpa using hlt⟩,?_,_,rfl,(bktL a.slots).drop (i + 1),?_,?_,trivial⟩,fun h=>by simp at h; omega⟩,⟨i + 1,by omega,rfl⟩,by simp; omega⟩
    ·rw [nth_nat]
     have:=(okE_val (hok _ (getD_memE hlt))).2.1
     omega
    ·rw [nth_nat]; exact bktL_drop hlt
    ·rw [wrapS hlt (by omega)]
   ·obtain rfl:i=a.slots.length:=by omega
    refine .inr ⟨_,⟨fun h=>by simp at h,fun _=>rfl⟩,?_⟩
    have:(bktL a.slots).drop a.slots.length=[]:=List.drop_eq_nil_of_le (by rw [bktL_length]; exact Nat.le_refl _)
    simp [this]) ((0:Int),bktL a.slots) ⟨0,by omega,by simp⟩
  refine ⟨x,hx,fun s e=>?_,fun _ _=>trivial⟩
  rw [e] at hp; cases hp; rfl
theorem slots_it {L:List Nat} {w:World} {bP1:Nat} {csP1:List Value} (d1:Arena) (HB1:Stb L w (fun w=>Blk w bP1 25 csP1)) (HP1:Stb L w (fun w=>kArena.r w csP1 d1)) (hL:Lt L w) (h:sma d1) :
  IterC Tryz.prog 72 [.pointer (some ⟨bP1,0,none⟩)] (slotsD d1) digest_slots_1_X L w:=digest_slots_1_it d1 HB1 HP1 hL (slots_ev d1 h)
end Go.Proofs.YthbfhgenkhkpfaaGreat