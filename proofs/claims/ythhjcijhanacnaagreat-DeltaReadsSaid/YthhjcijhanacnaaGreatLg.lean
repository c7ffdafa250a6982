/- The law of delta: its example. -/
import Derived.Test.YthhjcijhanacnaaGreatLf
namespace Go.Proofs.YthhjcijhanacnaaGreat
open Go Go.RowKit
set_option linter.unusedVariables false
set_option linter.unusedSimpArgs false
def law09_works_raw (y:Bool):Prop :=
 (sma (⟨(3:Int),([(⟨([107]:Str),(⟨(1:Int),(4:Int),(0:Int),false,([120]:Str),([]:List Int),([]:List Int),(0:Int)⟩:Val)⟩:Ent)]:List Ent),([(0:Int)]:List Int)⟩:Arena))∧(∃ x17,x17=(putU (⟨(3:Int),([(⟨([107]:Str),(⟨(1:Int),(4:Int),(0:Int),false,([120]:Str),([]:List Int),([]:List Int),(0:Int)⟩:Val)⟩:Ent)]:List Ent),([(0:Int)]:List Int)⟩:Arena) (2:Int) ([107]:Str) ([121]:Str))∧((sma (⟨(3:Int),([(⟨([107]:Str),(⟨(1:Int),(4:Int),(0:Int),false,([120]:Str),([]:List Int),([]:List Int),(0:Int)⟩:Val)⟩:Ent)]:List Ent),([(0:Int)]:List Int)⟩:Arena))∧((sm x17.1.val)∧((WfV x17.1.val)∧(∃ x47,x47=(joinA (⟨(3:Int),([(⟨([107]:Str),(⟨(1:Int),(4:Int),(0:Int),false,([120]:Str),([]:List Int),([]:List Int),(0:Int)⟩:Val)⟩:Ent)]:List Ent),([(0:Int)]:List Int)⟩:Arena) x17.1)∧((sma x47.1)∧(∃ x87,x87=(textU x47.1 ([107]:Str))∧((sma x47.1)∧(∃ x97,x97=(addU x47.1 (1:Int) ([110]:Str) (-5:Int))∧((sma x47.1)∧((sm x97.1.val)∧((WfV x97.1.val)∧(∃ x143,x143=(joinA x47.1 x97.1)∧((sma x143.1)∧(∃ x199,x199=(sumU x143.1 ([110]:Str))∧((sma x143.1)∧(∃ x213,x213=(setU x143.1 ([102]:Str) (9:Int))∧((sma x143.1)∧((sm x213.1.val)∧((WfV x213.1.val)∧(∃ x275,x275=(joinA x143.1 x213.1)∧((sma x275.1)∧(∃ x347,x347=(flagsU x275.1 ([102]:Str))∧((sma x275.1)∧(∃ x365,x365=(delU x275.1 (0:Int) ([107]:Str))∧((sma x275.1)∧((sm x365.1.val)∧((WfV x365.1.val)∧(∃ x443,x443=(joinA x275.1 x365.1)∧((sma x443.1)∧(∃ x531,x531=(textU x443.1 ([107]:Str))∧((sma x443.1)∧(∃ x553,x553=(delU x443.1 (0:Int) ([107]:Str))∧((sma x275.1)∧(∃ x647,x647=(setU x275.1 ([103]:Str) (1:Int))∧((sma (⟨(3:Int),([(⟨([107]:Str),(⟨(1:Int),(4:Int),(0:Int),false,([120]:Str),([]:List Int),([]:List Int),(0:Int)⟩:Val)⟩:Ent)]:List Ent),([(0:Int)]:List Int)⟩:Arena))∧(∃ x749,x749=(putU (⟨(3:Int),([(⟨([107]:Str),(⟨(1:Int),(4:Int),(0:Int),false,([120]:Str),([]:List Int),([]:List Int),(0:Int)⟩:Val)⟩:Ent)]:List Ent),([(0:Int)]:List Int)⟩:Arena) (8:Int) ([107]:Str) ([]:Str))∧(((x17.2==0)=true→(((x17.1.val.time==5)=true→(((x47.2.2==0)=true→(((x87.1==([121]:Str))=true→((x87.2=true→(((x97.2==0)=true→(((x143.2.2==0)=true→(((x199.1==(-5:Int))=true→((x199.2=true→(((x213.2==0)=true→(((x275.2.2==0)=true→(((x347.1==9)=true→((x347.2=true→(((x365.2==0)=true→(((x365.1.val.time==6)=true→(((x443.2.2==0)=true→(((!x531.2)=true→(((x553.2==9)=true→(((x647.2==4)=true→(((x749.2==10)=true→((sma x275.1)∧(∃ x879,x879=(scanU x275.1)∧((((x879.length:Int)==3)=true→((sma x443.1)∧(∃ x911,x911=(scanU x443.1)∧(y=((x911.length:Int)==2)))))∧(((x879.length:Int)==3)=false→(y=false))))))∧((x749.2==10)=false→(y=false))))∧((x647.2==4)=false→(y=false))))∧((x553.2==9)=false→(y=false))))∧((!x531.2)=false→(y=false))))∧((x443.2.2==0)=false→(y=false))))∧((x365.1.val.time==6)=false→(y=false))))∧((x365.2==0)=false→(y=false))))∧(x347.2=false→(y=false))))∧((x347.1==9)=false→(y=false))))∧((x275.2.2==0)=false→(y=false))))∧((x213.2==0)=false→(y=false))))∧(x199.2=false→(y=false))))∧((x199.1==(-5:Int))=false→(y=false))))∧((x143.2.2==0)=false→(y=false))))∧((x97.2==0)=false→(y=false))))∧(x87.2=false→(y=false))))∧((x87.1==([121]:Str))=false→(y=false))))∧((x47.2.2==0)=false→(y=false))))∧((x17.1.val.time==5)=false→(y=false))))∧((x17.2==0)=false→(y=false))))))))))))))))))))))))))))))))))))))))
set_option maxRecDepth 20000 in
set_option maxHeartbeats 4000000 in
theorem law09_works_c {L:List Nat} {w:World}  (hL:Lt L w) {y:Bool} (h:law09_works_raw y) :
  Calls Tryz.prog 5 [].toArray w (Ret fun v w'=>Ext w w'∧v=.bool y):=by
 unfold law09_works_raw at h
 refine calls_ec Tryz.func5 rfl rfl rfl ?_
 refine ec_seq ?_
 refine ec_region ?_
 refine o_w (v:=.bool false) (r_asg rfl) ?_
 refine eo_nil_sq ?_
 refine ec_seq ?_
 refine ec_region ?_
 refine o_w (v:=.agg #[.int .i64 1,.int .i64 4,.int .i64 0,.bool false,str ([120]:Str),.slice none ([]:List Int).length 0,.slice none ([]:List Int).length 0,.int .u64 0]) (r_build bld_api_Value (vs:=[(0,.int .i64 1),(1,.int .i64 4),(4,str ([120]:Str))]) (cells:=[.int .i64 1,.int .i64 4,.int .i64 0,.bool false,str ([120]:Str),.slice none ([]:List Int).length 0,.slice none ([]:List Int).length 0,.int .u64 0]) rfl rfl) ?_
 refine o_w (v:=.agg #[str ([107]:Str),.int .i64 1,.int .i64 4,.int .i64 0,.bool false,str ([120]:Str),.slice none ([]:List Int).length 0,.slice none ([]:List Int).length 0,.int .u64 0]) (r_build bld_api_Entry (vs:=[(0,str ([107]:Str)),(1,.agg #[.int .i64 1,.int .i64 4,.int .i64 0,.bool false,str ([120]:Str),.slice none ([]:List Int).length 0,.slice none ([]:List Int).length 0,.int .u64 0])]) (cells:=[str ([107]:Str),.int .i64 1,.int .i64 4,.int .i64 0,.bool false,str ([120]:Str),.slice none ([]:List Int).length 0,.slice none ([]:List Int).length 0,.int .u64 0]) rfl rfl) ?_
 refine o_bslice slc_s_api_Entry rfl (vs:=[.agg #[str ([107]:Str),.int .i64 1,.int .i64 4,.int .i64 0,.bool false,str ([120]:Str),.slice none ([]:List Int).length 0,.slice none ([]:List Int).length 0,.int .u64 0]]) rfl rfl rfl (cs:=[str ([107]:Str),.int .i64 1,.int .i64 4,.int .i64 0,.bool false,str ([120]:Str),.slice none ([]:List Int).length 0,.slice none ([]:List Int).length 0,.int .u64 0]) rfl rfl rfl rfl ?_
 intro b1 w1 e1 F1 B1
 have N1:=nin hL e1
 have S1:=B1.stb N1
 refine o_bslice slc_s_int rfl (vs:=[.int .i64 0]) rfl rfl rfl (cs:=[.int .i64 0]) rfl rfl rfl rfl ?_
 intro b2 w2 e2 F2 B2
 have N2:=nin (hL.fr F1) e2
 have S2:=B2.stb N2
 have E3:=F1.trans F2
 have G4:Fr L w1 w2:=Fr.ext F2
 have H5:Stb L w2 (fun w=>SlC kEnt w (some ⟨b1,0,none⟩) 1 ([(⟨([107]:Str),(⟨(1:Int),(4:Int),(0:Int),false,([120]:Str),([]:List Int),([]:List Int),(0:Int)⟩:Val)⟩:Ent)]:List Ent)):=bs_seal (S1.fr G4 sI).now N1 rfl (rowd1 (cs:=[str ([107]:Str),.int .i64 1,.int .i64 4,.int .i64 0,.bool false,str ([120]:Str),.slice none ([]:List Int).length 0,.slice none ([]:List Int).length 0,.int .u64 0]) (kEnt_mk (d:=(⟨([107]:Str),(⟨(1:Int),(4:Int),(0:Int),false,([120]:Str),([]:List Int),([]:List Int),(0:Int)⟩:Val)⟩:Ent)) stb_nil stb_nil) rfl)
 have H6:Stb L w2 (fun w=>SlC (kI .i64) w (some ⟨b2,0,none⟩) 1 ([(0:Int)]:List Int)):=bs_seal S2.now N2 rfl (rowd1 (cs:=[.int .i64 0]) (fun _ _=>rfl) rfl)
 refine o_w (v:=.agg #[.int .i64 3,.slice (some ⟨b1,0,none⟩) ([(⟨([107]:Str),(⟨(1:Int),(4:Int),(0:Int),false,([120]:Str),([]:List Int),([]:List Int),(0:Int)⟩:Val)⟩:Ent)]:List Ent).length 1,.slice (some ⟨b2,0,none⟩) ([(0:Int)]:List Int).length 1]) (r_build bld_api_Arena (vs:=[(0,.int .i64 3),(1,.slice (some ⟨b1,0,none⟩) 1 1),(2,.slice (some ⟨b2,0,none⟩) 1 1)]) (cells:=[.int .i64 3,.slice (some ⟨b1,0,none⟩) ([(⟨([107]:Str),(⟨(1:Int),(4:Int),(0:Int),false,([120]:Str),([]:List Int),([]:List Int),(0:Int)⟩:Val)⟩:Ent)]:List Ent).length 1,.slice (some ⟨b2,0,none⟩) ([(0:Int)]:List Int).length 1]) rfl rfl) ?_
 refine o_alloc zero_api_Arena rfl rfl rfl ?_
 intro b7 w7 e7 F7 B7
 have n7:w.heap.size≤b7:=by rw [e7]; exact E3.size
 have m9:w2.heap.size≤b7:=Nat.le_of_eq e7.symm
 have E10:=E3.trans F7
 have G12:Fr L w2 w7:=Fr.ext F7
 refine o_store rfl B7 (vs:=[.int .i64 3,.slice (some ⟨b1,0,none⟩) ([(⟨([107]:Str),(⟨(1:Int),(4:Int),(0:Int),false,([120]:Str),([]:List Int),([]:List Int),(0:Int)⟩:Val)⟩:Ent)]:List Ent).length 1,.slice (some ⟨b2,0,none⟩) ([(0:Int)]:List Int).length 1]) rfl sz_api_Arena rfl rfl rfl ?_
 intro w13 F13 B13
 have E14:=Ext.st E10 F13 (by simp; omega)
 have G16:Fr L w2 w13:=G12.stp F13 (upc (.inr m9) (fun m hm=>by cases hm))
 have B13':Blk w13 b7 _ [.int .i64 3,.slice (some ⟨b1,0,none⟩) ([(⟨([107]:Str),(⟨(1:Int),(4:Int),(0:Int),false,([120]:Str),([]:List Int),([]:List Int),(0:Int)⟩:Val)⟩:Ent)]:List Ent).length 1,.slice (some ⟨b2,0,none⟩) ([(0:Int)]:List Int).length 1]:=B13
 refine eo_nil_sq ?_
 refine ec_seq ?_
 refine ec_region ?_
 refine o_w (v:=.agg #[.int .i64 3,.slice (some ⟨b1,0,none⟩) ([(⟨([107]:Str),(⟨(1:Int),(4:Int),(0:Int),false,([120]:Str),([]:List Int),([]:List Int),(0:Int)⟩:Val)⟩:Ent)]:List Ent).length 1,.slice (some ⟨b2,0,none⟩) ([(0:Int)]:List Int).length 1]) (r_lda agg_api_Arena rfl (vs:=[.int .i64 3,.slice (some ⟨b1,0,none⟩) ([(⟨([107]:Str),(⟨(1:Int),(4:Int),(0:Int),false,([120]:Str),([]:List Int),([]:List Int),(0:Int)⟩:Val)⟩:Ent)]:List Ent).length 1,.slice (some ⟨b2,0,none⟩) ([(0:Int)]:List Int).length 1]) rfl (B13'.part (n:=3) rfl)) ?_
 obtain ⟨ha18,h⟩:=h
 obtain ⟨x17,hx17,h⟩:=h
 refine o_call cf_delta_Put rfl (delta_Put_c (⟨(3:Int),([(⟨([107]:Str),(⟨(1:Int),(4:Int),(0:Int),false,([120]:Str),([]:List Int),([]:List Int),(0:Int)⟩:Val)⟩:Ent)]:List Ent),([(0:Int)]:List Int)⟩:Arena) (kArena_mk (d:=(⟨(3:Int),([(⟨([107]:Str),(⟨(1:Int),(4:Int),(0:Int),false,([120]:Str),([]:List Int),([]:List Int),(0:Int)⟩:Val)⟩:Ent)]:List Ent),([(0:Int)]:List Int)⟩:Arena)) (H5.up G16 sI (upc (.inr m9) (fun _ h=>.inl h))) (H6.up G16 sI (upc (.inr m9) (fun _ h=>.inl h)))) (2:Int) ([107]:Str) ([121]:Str) ((hL.fr E14).cons B13'.lt) (eq_ev hx17 (put_ev (⟨(3:Int),([(⟨([107]:Str),(⟨(1:Int),(4:Int),(0:Int),false,([120]:Str),([]:List Int),([]:List Int),(0:Int)⟩:Val)⟩:Ent)]:List Ent),([(0:Int)]:List Int)⟩:Arena) (2:Int) ([107]:Str) ([121]:Str) ha18))) rfl rfl ?_
 rintro _ w17 ⟨F17,cs19,rfl,H20⟩
 have E21:=E14.trans F17
 obtain ⟨A25,c26,A28,c29,rfl,H27,H30⟩:=kEnt_open H20
 refine o_w (v:=.tuple #[.agg (cEnt x17.1 A25 c26 A28 c29).toArray,.int .i64 x17.2]) (r_mov rfl) ?_
 refine o_w (v:=.agg (cEnt x17.1 A25 c26 A28 c29).toArray) (r_ext rfl rfl) ?_
 refine o_w (v:=.int .i64 x17.2) (r_ext rfl rfl) ?_
 refine o_alloc zero_api_Entry rfl rfl rfl ?_
 intro b31 w31 e31 F31 B31
 have n31:w.heap.size≤b31:=by rw [e31]; exact E21.size
 have q32:b7<b31:=by rw [e31]; exact (B13'.ex F17).lt
 have m34:w2.heap.size≤b31:=by rw [e31]; exact (G16.trans (Fr.ext F17)).size
 have m35:w17.heap.size≤b31:=Nat.le_of_eq e31.symm
 have E36:=E21.trans F31
 have G39:Fr (b7::L) w17 w31:=Fr.ext F31
 refine o_store rfl B31 (vs:=(cEnt x17.1 A25 c26 A28 c29)) rfl sz_api_Entry rfl rfl rfl ?_
 intro w41 F41 B41
 have E42:=Ext.st E36 F41 (by simp; omega)
 have G44:Fr L w2 w41:=((G16.trans (Fr.ext F17)).trans (Fr.ext F31)).stp F41 (upc (.inr m34) (fun m hm=>by cases hm))
 have G45:Fr (b7::L) w17 w41:=G39.stp F41 (upc (.inr m35) (fun m hm=>by cases hm))
 have B46:=((B13'.ex F17).ex F31).fr F41 (by simp; omega)
 have B41':Blk w41 b31 _ (cEnt x17.1 A25 c26 A28 c29):=B41
 refine o_w (v:=.int .i64 x17.2) (r_asg rfl) ?_
 refine eo_nil_sq ?_
 refine ec_seq ?_
 refine ec_region ?_
 refine o_w (v:=.agg #[.int .i64 3,.slice (some ⟨b1,0,none⟩) ([(⟨([107]:Str),(⟨(1:Int),(4:Int),(0:Int),false,([120]:Str),([]:List Int),([]:List Int),(0:Int)⟩:Val)⟩:Ent)]:List Ent).length 1,.slice (some ⟨b2,0,none⟩) ([(0:Int)]:List Int).length 1]) (r_lda agg_api_Arena rfl (vs:=[.int .i64 3,.slice (some ⟨b1,0,none⟩) ([(⟨([107]:Str),(⟨(1:Int),(4:Int),(0:Int),false,([120]:Str),([]:List Int),([]:List Int),(0:Int)⟩:Val)⟩:Ent)]:List Ent).length 1,.slice (some ⟨b2,0,none⟩) ([(0:Int)]:List Int).length 1]) rfl (B46.part (n:=3) rfl)) ?_
 refine o_w (v:=.agg (cEnt x17.1 A25 c26 A28 c29).toArray) (r_lda agg_api_Entry rfl (vs:=(cEnt x17.1 A25 c26 A28 c29)) rfl (B41'.part (n:=9) rfl)) ?_
 obtain ⟨ha48,h⟩:=h
 obtain ⟨ha49,h⟩:=h
 obtain ⟨ha50,h⟩:=h
 obtain ⟨x47,hx47,h⟩:=h
 refine o_call cf_arena_Join rfl (arena_Join_c (⟨(3:Int),([(⟨([107]:Str),(⟨(1:Int),(4:Int),(0:Int),false,([120]:Str),([]:List Int),([]:List Int),(0:Int)⟩:Val)⟩:Ent)]:List Ent),([(0:Int)]:List Int)⟩:Arena) (kArena_mk (d:=(⟨(3:Int),([(⟨([107]:Str),(⟨(1:Int),(4:Int),(0:Int),false,([120]:Str),([]:List Int),([]:List Int),(0:Int)⟩:Val)⟩:Ent)]:List Ent),([(0:Int)]:List Int)⟩:Arena)) (H5.up G44 sI (upc (.inr m34) (upc (.inr m9) (fun _ h=>.inl h)))) (H6.up G44 sI (upc (.inr m34) (upc (.inr m9) (fun _ h=>.inl h))))) x17.1 (kEnt_mk (d:=x17.1) (H27.up G45 sI (upc (.inr m35) (upc (.inl mH) (fun m hm=>Or.inl (mT hm))))) (H30.up G45 sI (upc (.inr m35) (upc (.inl mH) (fun m hm=>Or.inl (mT hm)))))) (((hL.fr E42).cons B46.lt).cons B41'.lt) (eq_ev hx47 (arJoin_ev (⟨(3:Int),([(⟨([107]:Str),(⟨(1:Int),(4:Int),(0:Int),false,([120]:Str),([]:List Int),([]:List Int),(0:Int)⟩:Val)⟩:Ent)]:List Ent),([(0:Int)]:List Int)⟩:Arena) x17.1 ha48 ha49 ha50))) rfl rfl ?_
 rintro _ w47 ⟨F47,cs51,rfl,H52⟩
 have E53:=E42.trans F47
 obtain ⟨A59,c60,A62,c63,rfl,H61,H64⟩:=kArena_open H52
 refine o_w (v:=.tuple #[.agg (cArena x47.1 A59 c60 A62 c63).toArray,.bool x47.2.1,.int .i64 x47.2.2]) (r_mov rfl) ?_
 refine o_w (v:=.agg (cArena x47.1 A59 c60 A62 c63).toArray) (r_ext rfl rfl) ?_
 refine o_w (v:=.bool x47.2.1) (r_ext rfl rfl) ?_
 refine o_w (v:=.int .i64 x47.2.2) (r_ext rfl rfl) ?_
 refine o_alloc zero_api_Arena rfl rfl rfl ?_
 intro b65 w65 e65 F65 B65
 have n65:w.heap.size≤b65:=by rw [e65]; exact E53.size
 have q66:b7<b65:=by rw [e65]; exact (B46.ex F47).lt
 have q67:b31<b65:=by rw [e65]; exact (B41'.ex F47).lt
 have m69:w2.heap.size≤b65:=by rw [e65]; exact (G44.trans (Fr.ext F47)).size
 have m71:w47.heap.size≤b65:=Nat.le_of_eq e65.symm
 have E72:=E53.trans F65
 have G76:Fr (b31::(b7::L)) w47 w65:=Fr.ext F65
 refine o_store rfl B65 (vs:=(cArena x47.1 A59 c60 A62 c63)) rfl sz_api_Arena rfl rfl rfl ?_
 intro w79 F79 B79
 have E80:=Ext.st E72 F79 (by simp; omega)
 have G82:Fr L w2 w79:=((G44.trans (Fr.ext F47)).trans (Fr.ext F65)).stp F79 (upc (.inr m69) (fun m hm=>by cases hm))
 have G84:Fr (b31::(b7::L)) w47 w79:=G76.stp F79 (upc (.inr m71) (fun m hm=>by cases hm))
 have B85:=((B46.ex F47).ex F65).fr F79 (by simp; omega)
 have B86:=((B41'.ex F47).ex F65).fr F79 (by simp; omega)
 have B79':Blk w79 b65 _ (cArena x47.1 A59 c60 A62 c63):=B79
 refine o_w (v:=.bool x47.2.1) (r_asg rfl) ?_
 refine o_w (v:=.int .i64 x47.2.2) (r_asg rfl) ?_
 refine eo_nil_sq ?_
 refine ec_seq ?_
 refine ec_region ?_
 refine o_w (v:=.agg (cArena x47.1 A59 c60 A62 c63).toArray) (r_lda agg_api_Arena rfl (vs:=(cArena x47.1 A59 c60 A62 c63)) rfl (B79'.part (n:=3) rfl)) ?_
 obtain ⟨ha88,h⟩:=h
 obtain ⟨x87,hx87,h⟩:=h
 refine o_call cf_delta_Text rfl (delta_Text_c x47.1 (kArena_mk (d:=x47.1) (H61.up G84 sI (upc (.inr m71) (upc (.inl mH) (upc (.inl (mT mH)) (fun m hm=>Or.inl (mT (mT hm))))))) (H64.up G84 sI (upc (.inr m71) (upc (.inl mH) (upc (.inl (mT mH)) (fun m hm=>Or.inl (mT (mT hm)))))))) ([107]:Str) ((((hL.fr E80).cons B85.lt).cons B86.lt).cons B79'.lt) (eq_ev hx87 (text_ev x47.1 ([107]:Str) ha88))) rfl rfl ?_
 rintro _ w87 ⟨F87,rfl⟩
 have E89:=E80.trans F87
 refine o_w (v:=.tuple #[str x87.1,.bool x87.2]) (r_mov rfl) ?_
 refine o_w (v:=str x87.1) (r_ext rfl rfl) ?_
 refine o_w (v:=.bool x87.2) (r_ext rfl rfl) ?_
 refine o_w (v:=str x87.1) (r_asg rfl) ?_
 refine o_w (v:=.bool x87.2) (r_asg rfl) ?_
 refine eo_nil_sq ?_
 refine ec_seq ?_
 refine ec_region ?_
 refine o_w (v:=.agg (cArena x47.1 A59 c60 A62 c63).toArray) (r_lda agg_api_Arena rfl (vs:=(cArena x47.1 A59 c60 A62 c63)) rfl ((B79'.ex F87).part (n:=3) rfl)) ?_
 obtain ⟨ha98,h⟩:=h
 obtain ⟨x97,hx97,h⟩:=h
 refine o_call cf_delta_Add rfl (delta_Add_c x47.1 (kArena_mk (d:=x47.1) (H61.up (G84.trans (Fr.ext F87)) sI (upc (.inr m71) (upc (.inl mH) (upc (.inl (mT mH)) (fun m hm=>Or.inl (mT (mT hm))))))) (H64.up (G84.trans (Fr.ext F87)) sI (upc (.inr m71) (upc (.inl mH) (upc (.inl (mT mH)) (fun m hm=>Or.inl (mT (mT hm)))))))) (1:Int) ([110]:Str) (-5:Int) ((((hL.fr E89).cons (B85.ex F87).lt).cons (B86.ex F87).lt).cons (B79'.ex F87).lt) (eq_ev hx97 (add_ev x47.1 (1:Int) ([110]:Str) (-5:Int) ha98))) rfl rfl ?_
 rintro _ w97 ⟨F97,cs99,rfl,H100⟩
 have E101:=E89.trans F97
 obtain ⟨A109,c110,A112,c113,rfl,H111,H114⟩:=kEnt_open H100
 refine o_w (v:=.tuple #[.agg (cEnt x97.1 A109 c110 A112 c113).toArray,.int .i64 x97.2]) (r_mov rfl) ?_
 refine o_w (v:=.agg (cEnt x97.1 A109 c110 A112 c113).toArray) (r_ext rfl rfl) ?_
 refine o_w (v:=.int .i64 x97.2) (r_ext rfl rfl) ?_
 refine o_alloc zero_api_Entry rfl rfl rfl ?_
 intro b115 w115 e115 F115 B115
 have n115:w.heap.size≤b115:=by rw [e115]; exact E101.size
 have q116:b7<b115:=by rw [e115]; exact ((B85.ex F87).ex F97).lt
 have q117:b31<b115:=by rw [e115]; exact ((B86.ex F87).ex F97).lt
 have q118:b65<b115:=by rw [e115]; exact ((B79'.ex F87).ex F97).lt
 have m120:w2.heap.size≤b115:=by rw [e115]; exact ((G82.trans (Fr.ext F87)).trans (Fr.ext F97)).size
 have m122:w47.heap.size≤b115:=by rw [e115]; exact ((G84.trans (Fr.ext F87)).trans (Fr.ext F97)).size
 have m123:w97.heap.size≤b115:=Nat.le_of_eq e115.symm
 have E124:=E101.trans F115
 have G129:Fr (b65::(b31::(b7::L))) w97 w115:=Fr.ext F115
 refine o_store rfl B115 (vs:=(cEnt x97.1 A109 c110 A112 c113)) rfl sz_api_Entry rfl rfl rfl ?_
 intro w133 F133 B133
 have E134:=Ext.st E124 F133 (by simp; omega)
 have G136:Fr L w2 w133:=(((G82.trans (Fr.ext F87)).trans (Fr.ext F97)).trans (Fr.ext F115)).stp F133 (upc (.inr m120) (fun m hm=>by cases hm))
 have G138:Fr (b31::(b7::L)) w47 w133:=(((G84.trans (Fr.ext F87)).trans (Fr.ext F97)).trans (Fr.ext F115)).stp F133 (upc (.inr m122) (fun m hm=>by cases hm))
 have G139:Fr (b65::(b31::(b7::L))) w97 w133:=G129.stp F133 (upc (.inr m123) (fun m hm=>by cases hm))
 have B140:=(((B85.ex F87).ex F97).ex F115).fr F133 (by simp; omega)
 have B141:=(((B86.ex F87).ex F97).ex F115).fr F133 (by simp; omega)
 have B142:=(((B79'.ex F87).ex F97).ex F115).fr F133 (by simp; omega)
 have B133':Blk w133 b115 _ (cEnt x97.1 A109 c110 A112 c113):=B133
 refine o_w (v:=.int .i64 x97.2) (r_asg rfl) ?_
 refine eo_nil_sq ?_
 refine ec_seq ?_
 refine ec_region ?_
 refine o_w (v:=.agg (cArena x47.1 A59 c60 A62 c63).toArray) (r_lda agg_api_Arena rfl (vs:=(cArena x47.1 A59 c60 A62 c63)) rfl (B142.part (n:=3) rfl)) ?_
 refine o_w (v:=.agg (cEnt x97.1 A109 c110 A112 c113).toArray) (r_lda agg_api_Entry rfl (vs:=(cEnt x97.1 A109 c110 A112 c113)) rfl (B133'.part (n:=9) rfl)) ?_
 obtain ⟨ha144,h⟩:=h
 obtain ⟨ha145,h⟩:=h
 obtain ⟨ha146,h⟩:=h
 obtain ⟨x143,hx143,h⟩:=h
 refine o_call cf_arena_Join rfl (arena_Join_c x47.1 (kArena_mk (d:=x47.1) (H61.up G138 sI (upc (.inr m122) (upc (.inr m71) (upc (.inl mH) (upc (.inl (mT mH)) (fun m hm=>Or.inl (mT (mT hm)))))))) (H64.up G138 sI (upc (.inr m122) (upc (.inr m71) (upc (.inl mH) (upc (.inl (mT mH)) (fun m hm=>Or.inl (mT (mT hm))))))))) x97.1 (kEnt_mk (d:=x97.1) (H111.up G139 sI (upc (.inr m123) (upc (.inl mH) (upc (.inl (mT mH)) (upc (.inl (mT (mT mH))) (fun m hm=>Or.inl (mT (mT (mT hm))))))))) (H114.up G139 sI (upc (.inr m123) (upc (.inl mH) (upc (.inl (mT mH)) (upc (.inl (mT (mT mH))) (fun m hm=>Or.inl (mT (mT (mT hm)))))))))) (((((hL.fr E134).cons B140.lt).cons B141.lt).cons B142.lt).cons B133'.lt) (eq_ev hx143 (arJoin_ev x47.1 x97.1 ha144 ha145 ha146))) rfl rfl ?_
 rintro _ w143 ⟨F143,cs147,rfl,H148⟩
 have E149:=E134.trans F143
 obtain ⟨A159,c160,A162,c163,rfl,H161,H164⟩:=kArena_open H148
 refine o_w (v:=.tuple #[.agg (cArena x143.1 A159 c160 A162 c163).toArray,.bool x143.2.1,.int .i64 x143.2.2]) (r_mov rfl) ?_
 refine o_w (v:=.agg (cArena x143.1 A159 c160 A162 c163).toArray) (r_ext rfl rfl) ?_
 refine o_w (v:=.bool x143.2.1) (r_ext rfl rfl) ?_
 refine o_w (v:=.int .i64 x143.2.2) (r_ext rfl rfl) ?_
 refine o_alloc zero_api_Arena rfl rfl rfl ?_
 intro b165 w165 e165 F165 B165
 have n165:w.heap.size≤b165:=by rw [e165]; exact E149.size
 have q166:b7<b165:=by rw [e165]; exact (B140.ex F143).lt
 have q167:b31<b165:=by rw [e165]; exact (B141.ex F143).lt
 have q168:b65<b165:=by rw [e165]; exact (B142.ex F143).lt
 have q169:b115<b165:=by rw [e165]; exact (B133'.ex F143).lt
 have m171:w2.heap.size≤b165:=by rw [e165]; exact (G136.trans (Fr.ext F143)).size
 have m175:w143.heap.size≤b165:=Nat.le_of_eq e165.symm
 have E176:=E149.trans F165
 have G182:Fr (b115::(b65::(b31::(b7::L)))) w143 w165:=Fr.ext F165
 refine o_store rfl B165 (vs:=(cArena x143.1 A159 c160 A162 c163)) rfl sz_api_Arena rfl rfl rfl ?_
 intro w187 F187 B187
 have E188:=Ext.st E176 F187 (by simp; omega)
 have G190:Fr L w2 w187:=((G136.trans (Fr.ext F143)).trans (Fr.ext F165)).stp F187 (upc (.inr m171) (fun m hm=>by cases hm))
 have G194:Fr (b115::(b65::(b31::(b7::L)))) w143 w187:=G182.stp F187 (upc (.inr m175) (fun m hm=>by cases hm))
 have B195:=((B140.ex F143).ex F165).fr F187 (by simp; omega)
 have B196:=((B141.ex F143).ex F165).fr F187 (by simp; omega)
 have B197:=((B142.ex F143).ex F165).fr F187 (by simp; omega)
 have B198:=((B133'.ex F143).ex F165).fr F187 (by simp; omega)
 have B187':Blk w187 b165 _ (cArena x143.1 A159 c160 A162 c163):=B187
 refine o_w (v:=.bool x143.2.1) (r_asg rfl) ?_
 refine o_w (v:=.int .i64 x143.2.2) (r_asg rfl) ?_
 refine eo_nil_sq ?_
 refine ec_seq ?_
 refine ec_region ?_
 refine o_w (v:=.agg (cArena x143.1 A159 c160 A162 c163).toArray) (r_lda agg_api_Arena rfl (vs:=(cArena x143.1 A159 c160 A162 c163)) rfl (B187'.part (n:=3) rfl)) ?_
 obtain ⟨ha200,h⟩:=h
 obtain ⟨x199,hx199,h⟩:=h
 refine o_call cf_delta_Sum rfl (delta_Sum_c x143.1 (kArena_mk (d:=x143.1) (H161.up G194 sI (upc (.inr m175) (upc (.inl mH) (upc (.inl (mT mH)) (upc (.inl (mT (mT mH))) (upc (.inl (mT (mT (mT mH)))) (fun m hm=>Or.inl (mT (mT (mT (mT hm))))))))))) (H164.up G194 sI (upc (.inr m175) (upc (.inl mH) (upc (.inl (mT mH)) (upc (.inl (mT (mT mH))) (upc (.inl (mT (mT (mT mH)))) (fun m hm=>Or.inl (mT (mT (mT (mT hm)))))))))))) ([110]:Str) ((((((hL.fr E188).cons B195.lt).cons B196.lt).cons B197.lt).cons B198.lt).cons B187'.lt) (eq_ev hx199 (sum_ev x143.1 ([110]:Str) ha200))) rfl rfl ?_
 rintro _ w199 ⟨F199,rfl⟩
 have E201:=E188.trans F199
 refine o_w (v:=.tuple #[.int .i64 x199.1,.bool x199.2]) (r_mov rfl) ?_
 refine o_w (v:=.int .i64 x199.1) (r_ext rfl rfl) ?_
 refine o_w (v:=.bool x199.2) (r_ext rfl rfl) ?_
 refine o_w (v:=.int .i64 x199.1) (r_asg rfl) ?_
 refine o_w (v:=.bool x199.2) (r_asg rfl) ?_
 refine eo_nil_sq ?_
 refine ec_seq ?_
 refine ec_region ?_
 refine o_w (v:=.agg (cArena x143.1 A159 c160 A162 c163).toArray) (r_lda agg_api_Arena rfl (vs:=(cArena x143.1 A159 c160 A162 c163)) rfl ((B187'.ex F199).part (n:=3) rfl)) ?_
 obtain ⟨ha214,h⟩:=h
 obtain ⟨x213,hx213,h⟩:=h
 refine o_call cf_delta_Set rfl (delta_Set_c x143.1 (kArena_mk (d:=x143.1) (H161.up (G194.trans (Fr.ext F199)) sI (upc (.inr m175) (upc (.inl mH) (upc (.inl (mT mH)) (upc (.inl (mT (mT mH))) (upc (.inl (mT (mT (mT mH)))) (fun m hm=>Or.inl (mT (mT (mT (mT hm))))))))))) (H164.up (G194.trans (Fr.ext F199)) sI (upc (.inr m175) (upc (.inl mH) (upc (.inl (mT mH)) (upc (.inl (mT (mT mH))) (upc (.inl (mT (mT (mT mH)))) (fun m hm=>Or.inl (mT (mT (mT (mT hm)))))))))))) ([102]:Str) (9:Int) ((((((hL.fr E201).cons (B195.ex F199).lt).cons (B196.ex F199).lt).cons (B197.ex F199).lt).cons (B198.ex F199).lt).cons (B187'.ex F199).lt) (eq_ev hx213 (set_ev x143.1 ([102]:Str) (9:Int) ha214))) rfl rfl ?_
 rintro _ w213 ⟨F213,cs215,rfl,H216⟩
 have E217:=E201.trans F213
 obtain ⟨A229,c230,A232,c233,rfl,H231,H234⟩:=kEnt_open H216
 refine o_w (v:=.tuple #[.agg (cEnt x213.1 A229 c230 A232 c233).toArray,.int .i64 x213.2]) (r_mov rfl) ?_
 refine o_w (v:=.agg (cEnt x213.1 A229 c230 A232 c233).toArray) (r_ext rfl rfl) ?_
 refine o_w (v:=.int .i64 x213.2) (r_ext rfl rfl) ?_
 refine o_alloc zero_api_Entry rfl rfl rfl ?_
 intro b235 w235 e235 F235 B235
 have n235:w.heap.size≤b235:=by rw [e235]; exact E217.size
 have q236:b7<b235:=by rw [e235]; exact ((B195.ex F199).ex F213).lt
 have q237:b31<b235:=by rw [e235]; exact ((B196.ex F199).ex F213).lt
 have q238:b65<b235:=by rw [e235]; exact ((B197.ex F199).ex F213).lt
 have q239:b115<b235:=by rw [e235]; exact ((B198.ex F199).ex F213).lt
 have q240:b165<b235:=by rw [e235]; exact ((B187'.ex F199).ex F213).lt
 have m242:w2.heap.size≤b235:=by rw [e235]; exact ((G190.trans (Fr.ext F199)).trans (Fr.ext F213)).size
 have m246:w143.heap.size≤b235:=by rw [e235]; exact ((G194.trans (Fr.ext F199)).trans (Fr.ext F213)).size
 have m247:w213.heap.size≤b235:=Nat.le_of_eq e235.symm
 have E248:=E217.trans F235
 have G250:=((G190.trans (Fr.ext F199)).trans (Fr.ext F213)).trans (Fr.ext F235)
 have G254:=((G194.trans (Fr.ext F199)).trans (Fr.ext F213)).trans (Fr.ext F235)
 have G255:Fr (b165::(b115::(b65::(b31::(b7::L))))) w213 w235:=Fr.ext F235
 refine o_store rfl B235 (vs:=(cEnt x213.1 A229 c230 A232 c233)) rfl sz_api_Entry rfl rfl rfl ?_
 intro w261 F261 B261
 have E262:=Ext.st E248 F261 (by simp; omega)
 have G264:Fr L w2 w261:=G250.stp F261 (upc (.inr m242) (fun m hm=>by cases hm))
 have G268:Fr (b115::(b65::(b31::(b7::L)))) w143 w261:=G254.stp F261 (upc (.inr m246) (fun m hm=>by cases hm))
 have G269:Fr (b165::(b115::(b65::(b31::(b7::L))))) w213 w261:=G255.stp F261 (upc (.inr m247) (fun m hm=>by cases hm))
 have B270:=(((B195.ex F199).ex F213).ex F235).fr F261 (by simp; omega)
 have B271:=(((B196.ex F199).ex F213).ex F235).fr F261 (by simp; omega)
 have B272:=(((B197.ex F199).ex F213).ex F235).fr F261 (by simp; omega)
 have B273:=(((B198.ex F199).ex F213).ex F235).fr F261 (by simp; omega)
 have B274:=(((B187'.ex F199).ex F213).ex F235).fr F261 (by simp; omega)
 have B261':Blk w261 b235 _ (cEnt x213.1 A229 c230 A232 c233):=B261
 refine o_w (v:=.int .i64 x213.2) (r_asg rfl) ?_
 refine eo_nil_sq ?_
 refine ec_seq ?_
 refine ec_region ?_
 refine o_w (v:=.agg (cArena x143.1 A159 c160 A162 c163).toArray) (r_lda agg_api_Arena rfl (vs:=(cArena x143.1 A159 c160 A162 c163)) rfl (B274.part (n:=3) rfl)) ?_
 refine o_w (v:=.agg (cEnt x213.1 A229 c230 A232 c233).toArray) (r_lda agg_api_Entry rfl (vs:=(cEnt x213.1 A229 c230 A232 c233)) rfl (B261'.part (n:=9) rfl)) ?_
 obtain ⟨ha276,h⟩:=h
 obtain ⟨ha277,h⟩:=h
 obtain ⟨ha278,h⟩:=h
 obtain ⟨x275,hx275,h⟩:=h
 refine o_call cf_arena_Join rfl (arena_Join_c x143.1 (kArena_mk (d:=x143.1) (H161.up G268 sI (upc (.inr m246) (upc (.inr m175) (upc (.inl mH) (upc (.inl (mT mH)) (upc (.inl (mT (mT mH))) (upc (.inl (mT (mT (mT mH)))) (fun m hm=>Or.inl (mT (mT (mT (mT hm)))))))))))) (H164.up G268 sI (upc (.inr m246) (upc (.inr m175) (upc (.inl mH) (upc (.inl (mT mH)) (upc (.inl (mT (mT mH))) (upc (.inl (mT (mT (mT mH)))) (fun m hm=>Or.inl (mT (mT (mT (mT hm))))))))))))) x213.1 (kEnt_mk (d:=x213.1) (H231.up G269 sI (upc (.inr m247) (upc (.inl mH) (upc (.inl (mT mH)) (upc (.inl (mT (mT mH))) (upc (.inl (mT (mT (mT mH)))) (upc (.inl (mT (mT (mT (mT mH))))) (fun m hm=>Or.inl (mT (mT (mT (mT (mT hm))))))))))))) (H234.up G269 sI (upc (.inr m247) (upc (.inl mH) (upc (.inl (mT mH)) (upc (.inl (mT (mT mH))) (upc (.inl (mT (mT (mT mH)))) (upc (.inl (mT (mT (mT (mT mH))))) (fun m hm=>Or.inl (mT (mT (mT (mT (mT hm)))))))))))))) (((((((hL.fr E262).cons B270.lt).cons B271.lt).cons B272.lt).cons B273.lt).cons B274.lt).cons B261'.lt) (eq_ev hx275 (arJoin_ev x143.1 x213.1 ha276 ha277 ha278))) rfl rfl ?_
 rintro _ w275 ⟨F275,cs279,rfl,H280⟩
 have E281:=E262.trans F275
 obtain ⟨A295,c296,A298,c299,rfl,H297,H300⟩:=kArena_open H280
 refine o_w (v:=.tuple #[.agg (cArena x275.1 A295 c296 A298 c299).toArray,.bool x275.2.1,.int .i64 x275.2.2]) (r_mov rfl) ?_
 refine o_w (v:=.agg (cArena x275.1 A295 c296 A298 c299).toArray) (r_ext rfl rfl) ?_
 refine o_w (v:=.bool x275.2.1) (r_ext rfl rfl) ?_
 refine o_w (v:=.int .i64 x275.2.2) (r_ext rfl rfl) ?_
 refine o_alloc zero_api_Arena rfl rfl rfl ?_
 intro b301 w301 e301 F301 B301
 have n301:w.heap.size≤b301:=by rw [e301]; exact E281.size
 have q302:b7<b301:=by rw [e301]; exact (B270.ex F275).lt
 have q303:b31<b301:=by rw [e301]; exact (B271.ex F275).lt
 have q304:b65<b301:=by rw [e301]; exact (B272.ex F275).lt
 have q305:b115<b301:=by rw [e301]; exact (B273.ex F275).lt
 have q306:b165<b301:=by rw [e301]; exact (B274.ex F275).lt
 have q307:b235<b301:=by rw [e301]; exact (B261'.ex F275).lt
 have m309:w2.heap.size≤b301:=by rw [e301]; exact (G264.trans (Fr.ext F275)).size
 have m315:w275.heap.size≤b301:=Nat.le_of_eq e301.symm
 have E316:=E281.trans F301
 have G324:Fr (b235::(b165::(b115::(b65::(b31::(b7::L)))))) w275 w301:=Fr.ext F301
 refine o_store rfl B301 (vs:=(cArena x275.1 A295 c296 A298 c299)) rfl sz_api_Arena rfl rfl rfl ?_
 intro w331 F331 B331
 have E332:=Ext.st E316 F331 (by simp; omega)
 have G334:Fr L w2 w331:=((G264.trans (Fr.ext F275)).trans (Fr.ext F301)).stp F331 (upc (.inr m309) (fun m hm=>by cases hm))
 have G340:Fr (b235::(b165::(b115::(b65::(b31::(b7::L)))))) w275 w331:=G324.stp F331 (upc (.inr m315) (fun m hm=>by cases hm))
 have B341:=((B270.ex F275).ex F301).fr F331 (by simp; omega)
 have B342:=((B271.ex F275).ex F301).fr F331 (by simp; omega)
 have B343:=((B272.ex F275).ex F301).fr F331 (by simp; omega)
 have B344:=((B273.ex F275).ex F301).fr F331 (by simp; omega)
 have B345:=((B274.ex F275).ex F301).fr F331 (by simp; omega)
 have B346:=((B261'.ex F275).ex F301).fr F331 (by simp; omega)
 have B331':Blk w331 b301 _ (cArena x275.1 A295 c296 A298 c299):=B331
 refine o_w (v:=.bool x275.2.1) (r_asg rfl) ?_
 refine o_w (v:=.int .i64 x275.2.2) (r_asg rfl) ?_
 refine eo_nil_sq ?_
 refine ec_seq ?_
 refine ec_region ?_
 refine o_w (v:=.agg (cArena x275.1 A295 c296 A298 c299).toArray) (r_lda agg_api_Arena rfl (vs:=(cArena x275.1 A295 c296 A298 c299)) rfl (B331'.part (n:=3) rfl)) ?_
 obtain ⟨ha348,h⟩:=h
 obtain ⟨x347,hx347,h⟩:=h
 refine o_call cf_delta_Flags rfl (delta_Flags_c x275.1 (kArena_mk (d:=x275.1) (H297.up G340 sI (upc (.inr m315) (upc (.inl mH) (upc (.inl (mT mH)) (upc (.inl (mT (mT mH))) (upc (.inl (mT (mT (mT mH)))) (upc (.inl (mT (mT (mT (mT mH))))) (upc (.inl (mT (mT (mT (mT (mT mH)))))) (fun m hm=>Or.inl (mT (mT (mT (mT (mT (mT hm))))))))))))))) (H300.up G340 sI (upc (.inr m315) (upc (.inl mH) (upc (.inl (mT mH)) (upc (.inl (mT (mT mH))) (upc (.inl (mT (mT (mT mH)))) (upc (.inl (mT (mT (mT (mT mH))))) (upc (.inl (mT (mT (mT (mT (mT mH)))))) (fun m hm=>Or.inl (mT (mT (mT (mT (mT (mT hm)))))))))))))))) ([102]:Str) ((((((((hL.fr E332).cons B341.lt).cons B342.lt).cons B343.lt).cons B344.lt).cons B345.lt).cons B346.lt).cons B331'.lt) (eq_ev hx347 (flags_ev x275.1 ([102]:Str) ha348))) rfl rfl ?_
 rintro _ w347 ⟨F347,rfl⟩
 have E349:=E332.trans F347
 refine o_w (v:=.tuple #[.int .u64 x347.1,.bool x347.2]) (r_mov rfl) ?_
 refine o_w (v:=.int .u64 x347.1) (r_ext rfl rfl) ?_
 refine o_w (v:=.bool x347.2) (r_ext rfl rfl) ?_
 refine o_w (v:=.int .u64 x347.1) (r_asg rfl) ?_
 refine o_w (v:=.bool x347.2) (r_asg rfl) ?_
 refine eo_nil_sq ?_
 refine ec_seq ?_
 refine ec_region ?_
 refine o_w (v:=.agg (cArena x275.1 A295 c296 A298 c299).toArray) (r_lda agg_api_Arena rfl (vs:=(cArena x275.1 A295 c296 A298 c299)) rfl ((B331'.ex F347).part (n:=3) rfl)) ?_
 obtain ⟨ha366,h⟩:=h
 obtain ⟨x365,hx365,h⟩:=h
 refine o_call cf_delta_Delete rfl (delta_Delete_c x275.1 (kArena_mk (d:=x275.1) (H297.up (G340.trans (Fr.ext F347)) sI (upc (.inr m315) (upc (.inl mH) (upc (.inl (mT mH)) (upc (.inl (mT (mT mH))) (upc (.inl (mT (mT (mT mH)))) (upc (.inl (mT (mT (mT (mT mH))))) (upc (.inl (mT (mT (mT (mT (mT mH)))))) (fun m hm=>Or.inl (mT (mT (mT (mT (mT (mT hm))))))))))))))) (H300.up (G340.trans (Fr.ext F347)) sI (upc (.inr m315) (upc (.inl mH) (upc (.inl (mT mH)) (upc (.inl (mT (mT mH))) (upc (.inl (mT (mT (mT mH)))) (upc (.inl (mT (mT (mT (mT mH))))) (upc (.inl (mT (mT (mT (mT (mT mH)))))) (fun m hm=>Or.inl (mT (mT (mT (mT (mT (mT hm)))))))))))))))) (0:Int) ([107]:Str) ((((((((hL.fr E349).cons (B341.ex F347).lt).cons (B342.ex F347).lt).cons (B343.ex F347).lt).cons (B344.ex F347).lt).cons (B345.ex F347).lt).cons (B346.ex F347).lt).cons (B331'.ex F347).lt) (eq_ev hx365 (del_ev x275.1 (0:Int) ([107]:Str) ha366))) rfl rfl ?_
 rintro _ w365 ⟨F365,cs367,rfl,H368⟩
 have E369:=E349.trans F365
 obtain ⟨A385,c386,A388,c389,rfl,H387,H390⟩:=kEnt_open H368
 refine o_w (v:=.tuple #[.agg (cEnt x365.1 A385 c386 A388 c389).toArray,.int .i64 x365.2]) (r_mov rfl) ?_
 refine o_w (v:=.agg (cEnt x365.1 A385 c386 A388 c389).toArray) (r_ext rfl rfl) ?_
 refine o_w (v:=.int .i64 x365.2) (r_ext rfl rfl) ?_
 refine o_alloc zero_api_Entry rfl rfl rfl ?_
 intro b391 w391 e391 F391 B391
 have n391:w.heap.size≤b391:=by rw [e391]; exact E369.size
 have q392:b7<b391:=by rw [e391]; exact ((B341.ex F347).ex F365).lt
 have q393:b31<b391:=by rw [e391]; exact ((B342.ex F347).ex F365).lt
 have q394:b65<b391:=by rw [e391]; exact ((B343.ex F347).ex F365).lt
 have q395:b115<b391:=by rw [e391]; exact ((B344.ex F347).ex F365).lt
 have q396:b165<b391:=by rw [e391]; exact ((B345.ex F347).ex F365).lt
 have q397:b235<b391:=by rw [e391]; exact ((B346.ex F347).ex F365).lt
 have q398:b301<b391:=by rw [e391]; exact ((B331'.ex F347).ex F365).lt
 have m400:w2.heap.size≤b391:=by rw [e391]; exact ((G334.trans (Fr.ext F347)).trans (Fr.ext F365)).size
 have m406:w275.heap.size≤b391:=by rw [e391]; exact ((G340.trans (Fr.ext F347)).trans (Fr.ext F365)).size
 have m407:w365.heap.size≤b391:=Nat.le_of_eq e391.symm
 have E408:=E369.trans F391
 have G410:=((G334.trans (Fr.ext F347)).trans (Fr.ext F365)).trans (Fr.ext F391)
 have G416:=((G340.trans (Fr.ext F347)).trans (Fr.ext F365)).trans (Fr.ext F391)
 have G417:Fr (b301::(b235::(b165::(b115::(b65::(b31::(b7::L))))))) w365 w391:=Fr.ext F391
 refine o_store rfl B391 (vs:=(cEnt x365.1 A385 c386 A388 c389)) rfl sz_api_Entry rfl rfl rfl ?_
 intro w425 F425 B425
 have E426:=Ext.st E408 F425 (by simp; omega)
 have G428:Fr L w2 w425:=G410.stp F425 (upc (.inr m400) (fun m hm=>by cases hm))
 have G434:Fr (b235::(b165::(b115::(b65::(b31::(b7::L)))))) w275 w425:=G416.stp F425 (upc (.inr m406) (fun m hm=>by cases hm))
 have G435:Fr (b301::(b235::(b165::(b115::(b65::(b31::(b7::L))))))) w365 w425:=G417.stp F425 (upc (.inr m407) (fun m hm=>by cases hm))
 have B436:=(((B341.ex F347).ex F365).ex F391).fr F425 (by simp; omega)
 have B437:=(((B342.ex F347).ex F365).ex F391).fr F425 (by simp; omega)
 have B438:=(((B343.ex F347).ex F365).ex F391).fr F425 (by simp; omega)
 have B439:=(((B344.ex F347).ex F365).ex F391).fr F425 (by simp; omega)
 have B440:=(((B345.ex F347).ex F365).ex F391).fr F425 (by simp; omega)
 have B441:=(((B346.ex F347).ex F365).ex F391).fr F425 (by simp; omega)
 have B442:=(((B331'.ex F347).ex F365).ex F391).fr F425 (by simp; omega)
 have B425':Blk w425 b391 _ (cEnt x365.1 A385 c386 A388 c389):=B425
 refine o_w (v:=.int .i64 x365.2) (r_asg rfl) ?_
 refine eo_nil_sq ?_
 refine ec_seq ?_
 refine ec_region ?_
 refine o_w (v:=.agg (cArena x275.1 A295 c296 A298 c299).toArray) (r_lda agg_api_Arena rfl (vs:=(cArena x275.1 A295 c296 A298 c299)) rfl (B442.part (n:=3) rfl)) ?_
 refine o_w (v:=.agg (cEnt x365.1 A385 c386 A388 c389).toArray) (r_lda agg_api_Entry rfl (vs:=(cEnt x365.1 A385 c386 A388 c389)) rfl (B425'.part (n:=9) rfl)) ?_
 obtain ⟨ha444,h⟩:=h
 obtain ⟨ha445,h⟩:=h
 obtain ⟨ha446,h⟩:=h
 obtain ⟨x443,hx443,h⟩:=h
 refine o_call cf_arena_Join rfl (arena_Join_c x275.1 (kArena_mk (d:=x275.1) (H297.up G434 sI (upc (.inr m406) (upc (.inr m315) (upc (.inl mH) (upc (.inl (mT mH)) (upc (.inl (mT (mT mH))) (upc (.inl (mT (mT (mT mH)))) (upc (.inl (mT (mT (mT (mT mH))))) (upc (.inl (mT (mT (mT (mT (mT mH)))))) (fun m hm=>Or.inl (mT (mT (mT (mT (mT (mT hm)))))))))))))))) (H300.up G434 sI (upc (.inr m406) (upc (.inr m315) (upc (.inl mH) (upc (.inl (mT mH)) (upc (.inl (mT (mT mH))) (upc (.inl (mT (mT (mT mH)))) (upc (.inl (mT (mT (mT (mT mH))))) (upc (.inl (mT (mT (mT (mT (mT mH)))))) (fun m hm=>Or.inl (mT (mT (mT (mT (mT (mT hm))))))))))))))))) x365.1 (kEnt_mk (d:=x365.1) (H387.up G435 sI (upc (.inr m407) (upc (.inl mH) (upc (.inl (mT mH)) (upc (.inl (mT (mT mH))) (upc (.inl (mT (mT (mT mH)))) (upc (.inl (mT (mT (mT (mT mH))))) (upc (.inl (mT (mT (mT (mT (mT mH)))))) (upc (.inl (mT (mT (mT (mT (mT (mT mH))))))) (fun m hm=>Or.inl (mT (mT (mT (mT (mT (mT (mT hm))))))))))))))))) (H390.up G435 sI (upc (.inr m407) (upc (.inl mH) (upc (.inl (mT mH)) (upc (.inl (mT (mT mH))) (upc (.inl (mT (mT (mT mH)))) (upc (.inl (mT (mT (mT (mT mH))))) (upc (.inl (mT (mT (mT (mT (mT mH)))))) (upc (.inl (mT (mT (mT (mT (mT (mT mH))))))) (fun m hm=>Or.inl (mT (mT (mT (mT (mT (mT (mT hm)))))))))))))))))) (((((((((hL.fr E426).cons B436.lt).cons B437.lt).cons B438.lt).cons B439.lt).cons B440.lt).cons B441.lt).cons B442.lt).cons B425'.lt) (eq_ev hx443 (arJoin_ev x275.1 x365.1 ha444 ha445 ha446))) rfl rfl ?_
 rintro _ w443 ⟨F443,cs447,rfl,H448⟩
 have E449:=E426.trans F443
 obtain ⟨A467,c468,A470,c471,rfl,H469,H472⟩:=kArena_open H448
 refine o_w (v:=.tuple #[.agg (cArena x443.1 A467 c468 A470 c471).toArray,.bool x443.2.1,.int .i64 x443.2.2]) (r_mov rfl) ?_
 refine o_w (v:=.agg (cArena x443.1 A467 c468 A470 c471).toArray) (r_ext rfl rfl) ?_
 refine o_w (v:=.bool x443.2.1) (r_ext rfl rfl) ?_
 refine o_w (v:=.int .i64 x443.2.2) (r_ext rfl rfl) ?_
 refine o_alloc zero_api_Arena rfl rfl rfl ?_
 intro b473 w473 e473 F473 B473
 have n473:w.heap.size≤b473:=by rw [e473]; exact E449.size
 have q474:b7<b473:=by rw [e473]; exact (B436.ex F443).lt
 have q475:b31<b473:=by rw [e473]; exact (B437.ex F443).lt
 have q476:b65<b473:=by rw [e473]; exact (B438.ex F443).lt
 have q477:b115<b473:=by rw [e473]; exact (B439.ex F443).lt
 have q478:b165<b473:=by rw [e473]; exact (B440.ex F443).lt
 have q479:b235<b473:=by rw [e473]; exact (B441.ex F443).lt
 have q480:b301<b473:=by rw [e473]; exact (B442.ex F443).lt
 have q481:b391<b473:=by rw [e473]; exact (B425'.ex F443).lt
 have m483:w2.heap.size≤b473:=by rw [e473]; exact (G428.trans (Fr.ext F443)).size
 have m489:w275.heap.size≤b473:=by rw [e473]; exact (G434.trans (Fr.ext F443)).size
 have m491:w443.heap.size≤b473:=Nat.le_of_eq e473.symm
 have E492:=E449.trans F473
 have G502:Fr (b391::(b301::(b235::(b165::(b115::(b65::(b31::(b7::L)))))))) w443 w473:=Fr.ext F473
 refine o_store rfl B473 (vs:=(cArena x443.1 A467 c468 A470 c471)) rfl sz_api_Arena rfl rfl rfl ?_
 intro w511 F511 B511
 have E512:=Ext.st E492 F511 (by simp; omega)
 have G514:Fr L w2 w511:=((G428.trans (Fr.ext F443)).trans (Fr.ext F473)).stp F511 (upc (.inr m483) (fun m hm=>by cases hm))
 have G520:Fr (b235::(b165::(b115::(b65::(b31::(b7::L)))))) w275 w511:=((G434.trans (Fr.ext F443)).trans (Fr.ext F473)).stp F511 (upc (.inr m489) (fun m hm=>by cases hm))
 have G522:Fr (b391::(b301::(b235::(b165::(b115::(b65::(b31::(b7::L)))))))) w443 w511:=G502.stp F511 (upc (.inr m491) (fun m hm=>by cases hm))
 have B523:=((B436.ex F443).ex F473).fr F511 (by simp; omega)
 have B524:=((B437.ex F443).ex F473).fr F511 (by simp; omega)
 have B525:=((B438.ex F443).ex F473).fr F511 (by simp; omega)
 have B526:=((B439.ex F443).ex F473).fr F511 (by simp; omega)
 have B527:=((B440.ex F443).ex F473).fr F511 (by simp; omega)
 have B528:=((B441.ex F443).ex F473).fr F511 (by simp; omega)
 have B529:=((B442.ex F443).ex F473).fr F511 (by simp; omega)
 have B530:=((B425'.ex F443).ex F473).fr F511 (by simp; omega)
 have B511':Blk w511 b473 _ (cArena x443.1 A467 c468 A470 c471):=B511
 refine o_w (v:=.bool x443.2.1) (r_asg rfl) ?_
 refine o_w (v:=.int .i64 x443.2.2) (r_asg rfl) ?_
 refine eo_nil_sq ?_
 refine ec_seq ?_
 refine ec_region ?_
 refine o_w (v:=.agg (cArena x443.1 A467 c468 A470 c471).toArray) (r_lda agg_api_Arena rfl (vs:=(cArena x443.1 A467 c468 A470 c471)) rfl (B511'.part (n:=3) rfl)) ?_
 obtain ⟨ha532,h⟩:=h
 obtain ⟨x531,hx531,h⟩:=h
 refine o_call cf_delta_Text rfl (delta_Text_c x443.1 (kArena_mk (d:=x443.1) (H469.up G522 sI (upc (.inr m491) (upc (.inl mH) (upc (.inl (mT mH)) (upc (.inl (mT (mT mH))) (upc (.inl (mT (mT (mT mH)))) (upc (.inl (mT (mT (mT (mT mH))))) (upc (.inl (mT (mT (mT (mT (mT mH)))))) (upc (.inl (mT (mT (mT (mT (mT (mT mH))))))) (upc (.inl (mT (mT (mT (mT (mT (mT (mT mH)))))))) (fun m hm=>Or.inl (mT (mT (mT (mT (mT (mT (mT (mT hm))))))))))))))))))) (H472.up G522 sI (upc (.inr m491) (upc (.inl mH) (upc (.inl (mT mH)) (upc (.inl (mT (mT mH))) (upc (.inl (mT (mT (mT mH)))) (upc (.inl (mT (mT (mT (mT mH))))) (upc (.inl (mT (mT (mT (mT (mT mH)))))) (upc (.inl (mT (mT (mT (mT (mT (mT mH))))))) (upc (.inl (mT (mT (mT (mT (mT (mT (mT mH)))))))) (fun m hm=>Or.inl (mT (mT (mT (mT (mT (mT (mT (mT hm)))))))))))))))))))) ([107]:Str) ((((((((((hL.fr E512).cons B523.lt).cons B524.lt).cons B525.lt).cons B526.lt).cons B527.lt).cons B528.lt).cons B529.lt).cons B530.lt).cons B511'.lt) (eq_ev hx531 (text_ev x443.1 ([107]:Str) ha532))) rfl rfl ?_
 rintro _ w531 ⟨F531,rfl⟩
 have E533:=E512.trans F531
 refine o_w (v:=.tuple #[str x531.1,.bool x531.2]) (r_mov rfl) ?_
 refine o_w (v:=str x531.1) (r_ext rfl rfl) ?_
 refine o_w (v:=.bool x531.2) (r_ext rfl rfl) ?_
 refine o_w (v:=str x531.1) (r_asg rfl) ?_
 refine o_w (v:=.bool x531.2) (r_asg rfl) ?_
 refine eo_nil_sq ?_
 refine ec_seq ?_
 refine ec_region ?_
 refine o_w (v:=.agg (cArena x443.1 A467 c468 A470 c471).toArray) (r_lda agg_api_Arena rfl (vs:=(cArena x443.1 A467 c468 A470 c471)) rfl ((B511'.ex F531).part (n:=3) rfl)) ?_
 obtain ⟨ha554,h⟩:=h
 obtain ⟨x553,hx553,h⟩:=h
 refine o_call cf_delta_Delete rfl (delta_Delete_c x443.1 (kArena_mk (d:=x443.1) (H469.up (G522.trans (Fr.ext F531)) sI (upc (.inr m491) (upc (.inl mH) (upc (.inl (mT mH)) (upc (.inl (mT (mT mH))) (upc (.inl (mT (mT (mT mH)))) (upc (.inl (mT (mT (mT (mT mH))))) (upc (.inl (mT (mT (mT (mT (mT mH)))))) (upc (.inl (mT (mT (mT (mT (mT (mT mH))))))) (upc (.inl (mT (mT (mT (mT (mT (mT (mT mH)))))))) (fun m hm=>Or.inl (mT (mT (mT (mT (mT (mT (mT (mT hm))))))))))))))))))) (H472.up (G522.trans (Fr.ext F531)) sI (upc (.inr m491) (upc (.inl mH) (upc (.inl (mT mH)) (upc (.inl (mT (mT mH))) (upc (.inl (mT (mT (mT mH)))) (upc (.inl (mT (mT (mT (mT mH))))) (upc (.inl (mT (mT (mT (mT (mT mH)))))) (upc (.inl (mT (mT (mT (mT (mT (mT mH))))))) (upc (.inl (mT (mT (mT (mT (mT (mT (mT mH)))))))) (fun m hm=>Or.inl (mT (mT (mT (mT (mT (mT (mT (mT hm)))))))))))))))))))) (0:Int) ([107]:Str) ((((((((((hL.fr E533).cons (B523.ex F531).lt).cons (B524.ex F531).lt).cons (B525.ex F531).lt).cons (B526.ex F531).lt).cons (B527.ex F531).lt).cons (B528.ex F531).lt).cons (B529.ex F531).lt).cons (B530.ex F531).lt).cons (B511'.ex F531).lt) (eq_ev hx553 (del_ev x443.1 (0:Int) ([107]:Str) ha554))) rfl rfl ?_
 rintro _ w553 ⟨F553,cs555,rfl,H556⟩
 have E557:=E533.trans F553
 obtain ⟨A577,c578,A580,c581,rfl,H579,H582⟩:=kEnt_open H556
 refine o_w (v:=.tuple #[.agg (cEnt x553.1 A577 c578 A580 c581).toArray,.int .i64 x553.2]) (r_mov rfl) ?_
 refine o_w (v:=.agg (cEnt x553.1 A577 c578 A580 c581).toArray) (r_ext rfl rfl) ?_
 refine o_w (v:=.int .i64 x553.2) (r_ext rfl rfl) ?_
 refine o_alloc zero_api_Entry rfl rfl rfl ?_
 intro b583 w583 e583 F583 B583
 have n583:w.heap.size≤b583:=by rw [e583]; exact E557.size
 have q584:b7<b583:=by rw [e583]; exact ((B523.ex F531).ex F553).lt
 have q585:b31<b583:=by rw [e583]; exact ((B524.ex F531).ex F553).lt
 have q586:b65<b583:=by rw [e583]; exact ((B525.ex F531).ex F553).lt
 have q587:b115<b583:=by rw [e583]; exact ((B526.ex F531).ex F553).lt
 have q588:b165<b583:=by rw [e583]; exact ((B527.ex F531).ex F553).lt
 have q589:b235<b583:=by rw [e583]; exact ((B528.ex F531).ex F553).lt
 have q590:b301<b583:=by rw [e583]; exact ((B529.ex F531).ex F553).lt
 have q591:b391<b583:=by rw [e583]; exact ((B530.ex F531).ex F553).lt
 have q592:b473<b583:=by rw [e583]; exact ((B511'.ex F531).ex F553).lt
 have m594:w2.heap.size≤b583:=by rw [e583]; exact ((G514.trans (Fr.ext F531)).trans (Fr.ext F553)).size
 have m600:w275.heap.size≤b583:=by rw [e583]; exact ((G520.trans (Fr.ext F531)).trans (Fr.ext F553)).size
 have m602:w443.heap.size≤b583:=by rw [e583]; exact ((G522.trans (Fr.ext F531)).trans (Fr.ext F553)).size
 have E604:=E557.trans F583
 have G606:=((G514.trans (Fr.ext F531)).trans (Fr.ext F553)).trans (Fr.ext F583)
 have G612:=((G520.trans (Fr.ext F531)).trans (Fr.ext F553)).trans (Fr.ext F583)
 have G614:=((G522.trans (Fr.ext F531)).trans (Fr.ext F553)).trans (Fr.ext F583)
 refine o_store rfl B583 (vs:=(cEnt x553.1 A577 c578 A580 c581)) rfl sz_api_Entry rfl rfl rfl ?_
 intro w625 F625 B625
 have E626:=Ext.st E604 F625 (by simp; omega)
 have G628:Fr L w2 w625:=G606.stp F625 (upc (.inr m594) (fun m hm=>by cases hm))
 have G634:Fr (b235::(b165::(b115::(b65::(b31::(b7::L)))))) w275 w625:=G612.stp F625 (upc (.inr m600) (fun m hm=>by cases hm))
 have G636:Fr (b391::(b301::(b235::(b165::(b115::(b65::(b31::(b7::L)))))))) w443 w625:=G614.stp F625 (upc (.inr m602) (fun m hm=>by cases hm))
 have B638:=(((B523.ex F531).ex F553).ex F583).fr F625 (by simp; omega)
 have B639:=(((B524.ex F531).ex F553).ex F583).fr F625 (by simp; omega)
 have B640:=(((B525.ex F531).ex F553).ex F583).fr F625 (by simp; omega)
 have B641:=(((B526.ex F531).ex F553).ex F583).fr F625 (by simp; omega)
 have B642:=(((B527.ex F531).ex F553).ex F583).fr F625 (by simp; omega)
 have B643:=(((B528.ex F531).ex F553).ex F583).fr F625 (by simp; omega)
 have B644:=(((B529.ex F531).ex F553).ex F583).fr F625 (by simp; omega)
 have B645:=(((B530.ex F531).ex F553).ex F583).fr F625 (by simp; omega)
 have B646:=(((B511'.ex F531).ex F553).ex F583).fr F625 (by simp; omega)
 have B625':Blk w625 b583 _ (cEnt x553.1 A577 c578 A580 c581):=B625
 refine o_w (v:=.int .i64 x553.2) (r_asg rfl) ?_
 refine eo_nil_sq ?_
 refine ec_seq ?_
 refine ec_region ?_
 refine o_w (v:=.agg (cArena x275.1 A295 c296 A298 c299).toArray) (r_lda agg_api_Arena rfl (vs:=(cArena x275.1 A295 c296 A298 c299)) rfl (B644.part (n:=3) rfl)) ?_
 obtain ⟨ha648,h⟩:=h
 obtain ⟨x647,hx647,h⟩:=h
 refine o_call cf_delta_Set rfl (delta_Set_c x275.1 (kArena_mk (d:=x275.1) (H297.up G634 sI (upc (.inr m600) (upc (.inr m489) (upc (.inr m406) (upc (.inr m315) (upc (.inl mH) (upc (.inl (mT mH)) (upc (.inl (mT (mT mH))) (upc (.inl (mT (mT (mT mH)))) (upc (.inl (mT (mT (mT (mT mH))))) (upc (.inl (mT (mT (mT (mT (mT mH)))))) (fun m hm=>Or.inl (mT (mT (mT (mT (mT (mT hm)))))))))))))))))) (H300.up G634 sI (upc (.inr m600) (upc (.inr m489) (upc (.inr m406) (upc (.inr m315) (upc (.inl mH) (upc (.inl (mT mH)) (upc (.inl (mT (mT mH))) (upc (.inl (mT (mT (mT mH)))) (upc (.inl (mT (mT (mT (mT mH))))) (upc (.inl (mT (mT (mT (mT (mT mH)))))) (fun m hm=>Or.inl (mT (mT (mT (mT (mT (mT hm))))))))))))))))))) ([103]:Str) (1:Int) (((((((((((hL.fr E626).cons B638.lt).cons B639.lt).cons B640.lt).cons B641.lt).cons B642.lt).cons B643.lt).cons B644.lt).cons B645.lt).cons B646.lt).cons B625'.lt) (eq_ev hx647 (set_ev x275.1 ([103]:Str) (1:Int) ha648))) rfl rfl ?_
 rintro _ w647 ⟨F647,cs649,rfl,H650⟩
 have E651:=E626.trans F647
 obtain ⟨A673,c674,A676,c677,rfl,H675,H678⟩:=kEnt_open H650
 refine o_w (v:=.tuple #[.agg (cEnt x647.1 A673 c674 A676 c677).toArray,.int .i64 x647.2]) (r_mov rfl) ?_
 refine o_w (v:=.agg (cEnt x647.1 A673 c674 A676 c677).toArray) (r_ext rfl rfl) ?_
 refine o_w (v:=.int .i64 x647.2) (r_ext rfl rfl) ?_
 refine o_alloc zero_api_Entry rfl rfl rfl ?_
 intro b679 w679 e679 F679 B679
 have n679:w.heap.size≤b679:=by rw [e679]; exact E651.size
 have q680:b7<b679:=by rw [e679]; exact (B638.ex F647).lt
 have q681:b31<b679:=by rw [e679]; exact (B639.ex F647).lt
 have q682:b65<b679:=by rw [e679]; exact (B640.ex F647).lt
 have q683:b115<b679:=by rw [e679]; exact (B641.ex F647).lt
 have q684:b165<b679:=by rw [e679]; exact (B642.ex F647).lt
 have q685:b235<b679:=by rw [e679]; exact (B643.ex F647).lt
 have q686:b301<b679:=by rw [e679]; exact (B644.ex F647).lt
 have q687:b391<b679:=by rw [e679]; exact (B645.ex F647).lt
 have q688:b473<b679:=by rw [e679]; exact (B646.ex F647).lt
 have q689:b583<b679:=by rw [e679]; exact (B625'.ex F647).lt
 have m691:w2.heap.size≤b679:=by rw [e679]; exact (G628.trans (Fr.ext F647)).size
 have m697:w275.heap.size≤b679:=by rw [e679]; exact (G634.trans (Fr.ext F647)).size
 have m699:w443.heap.size≤b679:=by rw [e679]; exact (G636.trans (Fr.ext F647)).size
 have E702:=E651.trans F679
 refine o_store rfl B679 (vs:=(cEnt x647.1 A673 c674 A676 c677)) rfl sz_api_Entry rfl rfl rfl ?_
 intro w725 F725 B725
 have E726:=Ext.st E702 F725 (by simp; omega)
 have G728:Fr L w2 w725:=((G628.trans (Fr.ext F647)).trans (Fr.ext F679)).stp F725 (upc (.inr m691) (fun m hm=>by cases hm))
 have G734:Fr (b235::(b165::(b115::(b65::(b31::(b7::L)))))) w275 w725:=((G634.trans (Fr.ext F647)).trans (Fr.ext F679)).stp F725 (upc (.inr m697) (fun m hm=>by cases hm))
 have G736:Fr (b391::(b301::(b235::(b165::(b115::(b65::(b31::(b7::L)))))))) w443 w725:=((G636.trans (Fr.ext F647)).trans (Fr.ext F679)).stp F725 (upc (.inr m699) (fun m hm=>by cases hm))
 have B739:=((B638.ex F647).ex F679).fr F725 (by simp; omega)
 have B740:=((B639.ex F647).ex F679).fr F725 (by simp; omega)
 have B741:=((B640.ex F647).ex F679).fr F725 (by simp; omega)
 have B742:=((B641.ex F647).ex F679).fr F725 (by simp; omega)
 have B743:=((B642.ex F647).ex F679).fr F725 (by simp; omega)
 have B744:=((B643.ex F647).ex F679).fr F725 (by simp; omega)
 have B745:=((B644.ex F647).ex F679).fr F725 (by simp; omega)
 have B746:=((B645.ex F647).ex F679).fr F725 (by simp; omega)
 have B747:=((B646.ex F647).ex F679).fr F725 (by simp; omega)
 have B748:=((B625'.ex F647).ex F679).fr F725 (by simp; omega)
 have B725':Blk w725 b679 _ (cEnt x647.1 A673 c674 A676 c677):=B725
 refine o_w (v:=.int .i64 x647.2) (r_asg rfl) ?_
 refine eo_nil_sq ?_
 refine ec_seq ?_
 refine ec_region ?_
 refine o_w (v:=.agg #[.int .i64 3,.slice (some ⟨b1,0,none⟩) ([(⟨([107]:Str),(⟨(1:Int),(4:Int),(0:Int),false,([120]:Str),([]:List Int),([]:List Int),(0:Int)⟩:Val)⟩:Ent)]:List Ent).length 1,.slice (some ⟨b2,0,none⟩) ([(0:Int)]:List Int).length 1]) (r_lda agg_api_Arena rfl (vs:=[.int .i64 3,.slice (some ⟨b1,0,none⟩) ([(⟨([107]:Str),(⟨(1:Int),(4:Int),(0:Int),false,([120]:Str),([]:List Int),([]:List Int),(0:Int)⟩:Val)⟩:Ent)]:List Ent).length 1,.slice (some ⟨b2,0,none⟩) ([(0:Int)]:List Int).length 1]) rfl (B739.part (n:=3) rfl)) ?_
 obtain ⟨ha750,h⟩:=h
 obtain ⟨x749,hx749,h⟩:=h
 refine o_call cf_delta_Put rfl (delta_Put_c (⟨(3:Int),([(⟨([107]:Str),(⟨(1:Int),(4:Int),(0:Int),false,([120]:Str),([]:List Int),([]:List Int),(0:Int)⟩:Val)⟩:Ent)]:List Ent),([(0:Int)]:List Int)⟩:Arena) (kArena_mk (d:=(⟨(3:Int),([(⟨([107]:Str),(⟨(1:Int),(4:Int),(0:Int),false,([120]:Str),([]:List Int),([]:List Int),(0:Int)⟩:Val)⟩:Ent)]:List Ent),([(0:Int)]:List Int)⟩:Arena)) (H5.up G728 sI (upc (.inr m691) (upc (.inr m594) (upc (.inr m483) (upc (.inr m400) (upc (.inr m309) (upc (.inr m242) (upc (.inr m171) (upc (.inr m120) (upc (.inr m69) (upc (.inr m34) (upc (.inr m9) (fun _ h=>.inl h))))))))))))) (H6.up G728 sI (upc (.inr m691) (upc (.inr m594) (upc (.inr m483) (upc (.inr m400) (upc (.inr m309) (upc (.inr m242) (upc (.inr m171) (upc (.inr m120) (upc (.inr m69) (upc (.inr m34) (upc (.inr m9) (fun _ h=>.inl h)))))))))))))) (8:Int) ([107]:Str) ([]:Str) ((((((((((((hL.fr E726).cons B739.lt).cons B740.lt).cons B741.lt).cons B742.lt).cons B743.lt).cons B744.lt).cons B745.lt).cons B746.lt).cons B747.lt).cons B748.lt).cons B725'.lt) (eq_ev hx749 (put_ev (⟨(3:Int),([(⟨([107]:Str),(⟨(1:Int),(4:Int),(0:Int),false,([120]:Str),([]:List Int),([]:List Int),(0:Int)⟩:Val)⟩:Ent)]:List Ent),([(0:Int)]:List Int)⟩:Arena) (8:Int) ([107]:Str) ([]:Str) ha750))) rfl rfl ?_
 rintro _ w749 ⟨F749,cs751,rfl,H752⟩
 have E753:=E726.trans F749
 obtain ⟨A777,c778,A780,c781,rfl,H779,H782⟩:=kEnt_open H752
 refine o_w (v:=.tuple #[.agg (cEnt x749.1 A777 c778 A780 c781).toArray,.int .i64 x749.2]) (r_mov rfl) ?_
 refine o_w (v:=.agg (cEnt x749.1 A777 c778 A780 c781).toArray) (r_ext rfl rfl) ?_
 refine o_w (v:=.int .i64 x749.2) (r_ext rfl rfl) ?_
 refine o_alloc zero_api_Entry rfl rfl rfl ?_
 intro b783 w783 e783 F783 B783
 have n783:w.heap.size≤b783:=by rw [e783]; exact E753.size
 have q784:b7<b783:=by rw [e783]; exact (B739.ex F749).lt
 have q785:b31<b783:=by rw [e783]; exact (B740.ex F749).lt
 have q786:b65<b783:=by rw [e783]; exact (B741.ex F749).lt
 have q787:b115<b783:=by rw [e783]; exact (B742.ex F749).lt
 have q788:b165<b783:=by rw [e783]; exact (B743.ex F749).lt
 have q789:b235<b783:=by rw [e783]; exact (B744.ex F749).lt
 have q790:b301<b783:=by rw [e783]; exact (B745.ex F749).lt
 have q791:b391<b783:=by rw [e783]; exact (B746.ex F749).lt
 have q792:b473<b783:=by rw [e783]; exact (B747.ex F749).lt
 have q793:b583<b783:=by rw [e783]; exact (B748.ex F749).lt
 have q794:b679<b783:=by rw [e783]; exact (B725'.ex F749).lt
 have m802:w275.heap.size≤b783:=by rw [e783]; exact (G734.trans (Fr.ext F749)).size
 have m804:w443.heap.size≤b783:=by rw [e783]; exact (G736.trans (Fr.ext F749)).size
 have E808:=E753.trans F783
 refine o_store rfl B783 (vs:=(cEnt x749.1 A777 c778 A780 c781)) rfl sz_api_Entry rfl rfl rfl ?_
 intro w833 F833 B833
 have E834:=Ext.st E808 F833 (by simp; omega)
 have G842:Fr (b235::(b165::(b115::(b65::(b31::(b7::L)))))) w275 w833:=((G734.trans (Fr.ext F749)).trans (Fr.ext F783)).stp F833 (upc (.inr m802) (fun m hm=>by cases hm))
 have G844:Fr (b391::(b301::(b235::(b165::(b115::(b65::(b31::(b7::L)))))))) w443 w833:=((G736.trans (Fr.ext F749)).trans (Fr.ext F783)).stp F833 (upc (.inr m804) (fun m hm=>by cases hm))
 have B848:=((B739.ex F749).ex F783).fr F833 (by simp; omega)
 have B849:=((B740.ex F749).ex F783).fr F833 (by simp; omega)
 have B850:=((B741.ex F749).ex F783).fr F833 (by simp; omega)
 have B851:=((B742.ex F749).ex F783).fr F833 (by simp; omega)
 have B852:=((B743.ex F749).ex F783).fr F833 (by simp; omega)
 have B853:=((B744.ex F749).ex F783).fr F833 (by simp; omega)
 have B854:=((B745.ex F749).ex F783).fr F833 (by simp; omega)
 have B855:=((B746.ex F749).ex F783).fr F833 (by simp; omega)
 have B856:=((B747.ex F749).ex F783).fr F833 (by simp; omega)
 have B857:=((B748.ex F749).ex F783).fr F833 (by simp; omega)
 have B858:=((B725'.ex F749).ex F783).fr F833 (by simp; omega)
 have B833':Blk w833 b783 _ (cEnt x749.1 A777 c778 A780 c781):=B833
 refine o_w (v:=.int .i64 x749.2) (r_asg rfl) ?_
 refine eo_nil_sq ?_
 refine ec_seq ?_
 refine ec_region ?_
 refine o_w (v:=.int .i64 x17.2) (r_mov rfl) ?_
 refine o_w (v:=.bool (x17.2==0)) (r_int rfl rfl rfl) ?_
 refine o_w (v:=.bool (x17.2==0)) (r_mov rfl) ?_
 rcases Bool.eq_false_or_eq_true (x17.2==0) with hc859 | hc859
 ·replace h:=h.1 hc859
  refine o_v (v:=.pointer (some ⟨b31,1,none⟩)) (r_fa fld_api_Entry_1 rfl rfl) (want_t (t:=126) rfl rfl hc859) rfl rfl ?_
  refine o_v (v:=.pointer (some ⟨b31,2,none⟩)) (r_fa fld_api_Value_1 rfl rfl) (want_t (t:=126) rfl rfl hc859) rfl rfl ?_
  refine o_v (v:=.int .i64 x17.1.val.time) (r_ld one_int rfl (B849.cell rfl)) (want_t (t:=126) rfl rfl hc859) rfl rfl ?_
  refine o_v (v:=.bool (x17.1.val.time==5)) (r_int rfl rfl rfl) (want_t (t:=126) rfl rfl hc859) rfl rfl ?_
  refine o_w (v:=.bool (x17.1.val.time==5)) (r_pickT rfl hc859 rfl) ?_
  refine o_w (v:=.bool (x17.1.val.time==5)) (r_mov rfl) ?_
  rcases Bool.eq_false_or_eq_true (x17.1.val.time==5) with hc860 | hc860
  ·replace h:=h.1 hc860
   refine o_v (v:=.int .i64 x47.2.2) (r_mov rfl) (want_t (t:=132) rfl rfl hc860) rfl rfl ?_
   refine o_v (v:=.bool (x47.2.2==0)) (r_int rfl rfl rfl) (want_t (t:=132) rfl rfl hc860) rfl rfl ?_
   refine o_w (v:=.bool (x47.2.2==0)) (r_pickT rfl hc860 rfl) ?_
   refine o_w (v:=.bool (x47.2.2==0)) (r_mov rfl) ?_
   rcases Bool.eq_false_or_eq_true (x47.2.2==0) with hc861 | hc861
   ·replace h:=h.1 hc861
    refine o_v (v:=str x87.1) (r_mov rfl) (want_t (t:=136) rfl rfl hc861) rfl rfl ?_
    refine o_v (v:=.bool (x87.1==([121]:Str))) (r_str rfl rfl rfl) (want_t (t:=136) rfl rfl hc861) rfl rfl ?_
    refine o_w (v:=.bool (x87.1==([121]:Str))) (r_pickT rfl hc861 rfl) ?_
    refine o_w (v:=.bool (x87.1==([121]:Str))) (r_mov rfl) ?_
    rcases Bool.eq_false_or_eq_true (x87.1==([121]:Str)) with hc862 | hc862
    ·replace h:=h.1 hc862
     refine o_v (v:=.bool x87.2) (r_mov rfl) (want_t (t:=140) rfl rfl hc862) rfl rfl ?_
     refine o_w (v:=.bool x87.2) (r_pickT rfl hc862 rfl) ?_
     refine o_w (v:=.bool x87.2) (r_mov rfl) ?_
     rcases Bool.eq_false_or_eq_true x87.2 with hc863 | hc863
     ·replace h:=h.1 hc863
      refine o_v (v:=.int .i64 x97.2) (r_mov rfl) (want_t (t:=143) rfl rfl hc863) rfl rfl ?_
      refine o_v (v:=.bool (x97.2==0)) (r_int rfl rfl rfl) (want_t (t:=143) rfl rfl hc863) rfl rfl ?_
      refine o_w (v:=.bool (x97.2==0)) (r_pickT rfl hc863 rfl) ?_
      refine o_w (v:=.bool (x97.2==0)) (r_mov rfl) ?_
      rcases Bool.eq_false_or_eq_true (x97.2==0) with hc864 | hc864
      ·replace h:=h.1 hc864
       refine o_v (v:=.int .i64 x143.2.2) (r_mov rfl) (want_t (t:=147) rfl rfl hc864) rfl rfl ?_
       refine o_v (v:=.bool (x143.2.2==0)) (r_int rfl rfl rfl) (want_t (t:=147) rfl rfl hc864) rfl rfl ?_
       refine o_w (v:=.bool (x143.2.2==0)) (r_pickT rfl hc864 rfl) ?_
       refine o_w (v:=.bool (x143.2.2==0)) (r_mov rfl) ?_
       rcases Bool.eq_false_or_eq_true (x143.2.2==0) with hc865 | hc865
       ·replace h:=h.1 hc865
        refine o_v (v:=.int .i64 x199.1) (r_mov rfl) (want_t (t:=151) rfl rfl hc865) rfl rfl ?_
        refine o_v (v:=.bool (x199.1==(-5:Int))) (r_int rfl rfl rfl) (want_t (t:=151) rfl rfl hc865) rfl rfl ?_
        refine o_w (v:=.bool (x199.1==(-5:Int))) (r_pickT rfl hc865 rfl) ?_
        refine o_w (v:=.bool (x199.1==(-5:Int))) (r_mov rfl) ?_
        rcases Bool.eq_false_or_eq_true (x199.1==(-5:Int)) with hc866 | hc866
        ·replace h:=h.1 hc866
         refine o_v (v:=.bool x199.2) (r_mov rfl) (want_t (t:=155) rfl rfl hc866) rfl rfl ?_
         refine o_w (v:=.bool x199.2) (r_pickT rfl hc866 rfl) ?_
         refine o_w (v:=.bool x199.2) (r_mov rfl) ?_
         rcases Bool.eq_false_or_eq_true x199.2 with hc867 | hc867
         ·replace h:=h.1 hc867
          refine o_v (v:=.int .i64 x213.2) (r_mov rfl) (want_t (t:=158) rfl rfl hc867) rfl rfl ?_
          refine o_v (v:=.bool (x213.2==0)) (r_int rfl rfl rfl) (want_t (t:=158) rfl rfl hc867) rfl rfl ?_
          refine o_w (v:=.bool (x213.2==0)) (r_pickT rfl hc867 rfl) ?_
          refine o_w (v:=.bool (x213.2==0)) (r_mov rfl) ?_
          rcases Bool.eq_false_or_eq_true (x213.2==0) with hc868 | hc868
          ·replace h:=h.1 hc868
           refine o_v (v:=.int .i64 x275.2.2) (r_mov rfl) (want_t (t:=162) rfl rfl hc868) rfl rfl ?_
           refine o_v (v:=.bool (x275.2.2==0)) (r_int rfl rfl rfl) (want_t (t:=162) rfl rfl hc868) rfl rfl ?_
           refine o_w (v:=.bool (x275.2.2==0)) (r_pickT rfl hc868 rfl) ?_
           refine o_w (v:=.bool (x275.2.2==0)) (r_mov rfl) ?_
           rcases Bool.eq_false_or_eq_true (x275.2.2==0) with hc869 | hc869
           ·replace h:=h.1 hc869
            refine o_v (v:=.int .u64 x347.1) (r_mov rfl) (want_t (t:=166) rfl rfl hc869) rfl rfl ?_
            refine o_v (v:=.bool (x347.1==9)) (r_int rfl rfl rfl) (want_t (t:=166) rfl rfl hc869) rfl rfl ?_
            refine o_w (v:=.bool (x347.1==9)) (r_pickT rfl hc869 rfl) ?_
            refine o_w (v:=.bool (x347.1==9)) (r_mov rfl) ?_
            rcases Bool.eq_false_or_eq_true (x347.1==9) with hc870 | hc870
            ·replace h:=h.1 hc870
             refine o_v (v:=.bool x347.2) (r_mov rfl) (want_t (t:=170) rfl rfl hc870) rfl rfl ?_
             refine o_w (v:=.bool x347.2) (r_pickT rfl hc870 rfl) ?_
             refine o_w (v:=.bool x347.2) (r_mov rfl) ?_
             rcases Bool.eq_false_or_eq_true x347.2 with hc871 | hc871
             ·replace h:=h.1 hc871
              refine o_v (v:=.int .i64 x365.2) (r_mov rfl) (want_t (t:=173) rfl rfl hc871) rfl rfl ?_
              refine o_v (v:=.bool (x365.2==0)) (r_int rfl rfl rfl) (want_t (t:=173) rfl rfl hc871) rfl rfl ?_
              refine o_w (v:=.bool (x365.2==0)) (r_pickT rfl hc871 rfl) ?_
              refine o_w (v:=.bool (x365.2==0)) (r_mov rfl) ?_
              rcases Bool.eq_false_or_eq_true (x365.2==0) with hc872 | hc872
              ·replace h:=h.1 hc872
               refine o_v (v:=.pointer (some ⟨b391,1,none⟩)) (r_fa fld_api_Entry_1 rfl rfl) (want_t (t:=177) rfl rfl hc872) rfl rfl ?_
               refine o_v (v:=.pointer (some ⟨b391,2,none⟩)) (r_fa fld_api_Value_1 rfl rfl) (want_t (t:=177) rfl rfl hc872) rfl rfl ?_
               refine o_v (v:=.int .i64 x365.1.val.time) (r_ld one_int rfl (B855.cell rfl)) (want_t (t:=177) rfl rfl hc872) rfl rfl ?_
               refine o_v (v:=.bool (x365.1.val.time==6)) (r_int rfl rfl rfl) (want_t (t:=177) rfl rfl hc872) rfl rfl ?_
               refine o_w (v:=.bool (x365.1.val.time==6)) (r_pickT rfl hc872 rfl) ?_
               refine o_w (v:=.bool (x365.1.val.time==6)) (r_mov rfl) ?_
               rcases Bool.eq_false_or_eq_true (x365.1.val.time==6) with hc873 | hc873
               ·replace h:=h.1 hc873
                refine o_v (v:=.int .i64 x443.2.2) (r_mov rfl) (want_t (t:=183) rfl rfl hc873) rfl rfl ?_
                refine o_v (v:=.bool (x443.2.2==0)) (r_int rfl rfl rfl) (want_t (t:=183) rfl rfl hc873) rfl rfl ?_
                refine o_w (v:=.bool (x443.2.2==0)) (r_pickT rfl hc873 rfl) ?_
                refine o_w (v:=.bool (x443.2.2==0)) (r_mov rfl) ?_
                rcases Bool.eq_false_or_eq_true (x443.2.2==0) with hc874 | hc874
                ·replace h:=h.1 hc874
                 refine o_v (v:=.bool x531.2) (r_mov rfl) (want_t (t:=187) rfl rfl hc874) rfl rfl ?_
                 refine o_v (v:=.bool (!x531.2)) (r_not rfl) (want_t (t:=187) rfl rfl hc874) rfl rfl ?_
                 refine o_w (v:=.bool (!x531.2)) (r_pickT rfl hc874 rfl) ?_
                 refine o_w (v:=.bool (!x531.2)) (r_mov rfl) ?_
                 rcases Bool.eq_false_or_eq_true (!x531.2) with hc875 | hc875
                 ·replace h:=h.1 hc875
                  refine o_v (v:=.int .i64 x553.2) (r_mov rfl) (want_t (t:=191) rfl rfl hc875) rfl rfl ?_
                  refine o_v (v:=.bool (x553.2==9)) (r_int rfl rfl rfl) (want_t (t:=191) rfl rfl hc875) rfl rfl ?_
                  refine o_w (v:=.bool (x553.2==9)) (r_pickT rfl hc875 rfl) ?_
                  refine o_w (v:=.bool (x553.2==9)) (r_mov rfl) ?_
                  rcases Bool.eq_false_or_eq_true (x553.2==9) with hc876 | hc876
                  ·replace h:=h.1 hc876
                   refine o_v (v:=.int .i64 x647.2) (r_mov rfl) (want_t (t:=195) rfl rfl hc876) rfl rfl ?_
                   refine o_v (v:=.bool (x647.2==4)) (r_int rfl rfl rfl) (want_t (t:=195) rfl rfl hc876) rfl rfl ?_
                   refine o_w (v:=.bool (x647.2==4)) (r_pickT rfl hc876 rfl) ?_
                   refine o_w (v:=.bool (x647.2==4)) (r_mov rfl) ?_
                   rcases Bool.eq_false_or_eq_true (x647.2==4) with hc877 | hc877
                   ·replace h:=h.1 hc877
                    refine o_v (v:=.int .i64 x749.2) (r_mov rfl) (want_t (t:=199) rfl rfl hc877) rfl rfl ?_
                    refine o_v (v:=.bool (x749.2==10)) (r_int rfl rfl rfl) (want_t (t:=199) rfl rfl hc877) rfl rfl ?_
                    refine o_w (v:=.bool (x749.2==10)) (r_pickT rfl hc877 rfl) ?_
                    refine o_w (v:=.bool (x749.2==10)) (r_mov rfl) ?_
                    rcases Bool.eq_false_or_eq_true (x749.2==10) with hc878 | hc878
                    ·replace h:=h.1 hc878
                     refine o_v (v:=.agg (cArena x275.1 A295 c296 A298 c299).toArray) (r_lda agg_api_Arena rfl (vs:=(cArena x275.1 A295 c296 A298 c299)) rfl (B854.part (n:=3) rfl)) (want_t (t:=203) rfl rfl hc878) rfl rfl ?_
                     obtain ⟨ha880,h⟩:=h
                     obtain ⟨x879,hx879,h⟩:=h
                     refine o_call cf_delta_Scan rfl (delta_Scan_c x275.1 (kArena_mk (d:=x275.1) (H297.up G842 sI (upc (.inr m802) (upc (.inr m697) (upc (.inr m600) (upc (.inr m489) (upc (.inr m406) (upc (.inr m315) (upc (.inl mH) (upc (.inl (mT mH)) (upc (.inl (mT (mT mH))) (upc (.inl (mT (mT (mT mH)))) (upc (.inl (mT (mT (mT (mT mH))))) (upc (.inl (mT (mT (mT (mT (mT mH)))))) (fun m hm=>Or.inl (mT (mT (mT (mT (mT (mT hm)))))))))))))))))))) (H300.up G842 sI (upc (.inr m802) (upc (.inr m697) (upc (.inr m600) (upc (.inr m489) (upc (.inr m406) (upc (.inr m315) (upc (.inl mH) (upc (.inl (mT mH)) (upc (.inl (mT (mT mH))) (upc (.inl (mT (mT (mT mH)))) (upc (.inl (mT (mT (mT (mT mH))))) (upc (.inl (mT (mT (mT (mT (mT mH)))))) (fun m hm=>Or.inl (mT (mT (mT (mT (mT (mT hm))))))))))))))))))))) (((((((((((((hL.fr E834).cons B848.lt).cons B849.lt).cons B850.lt).cons B851.lt).cons B852.lt).cons B853.lt).cons B854.lt).cons B855.lt).cons B856.lt).cons B857.lt).cons B858.lt).cons B833'.lt) (eq_ev hx879 (scan_ev x275.1 ha880))) (want_t (t:=203) rfl rfl hc878) rfl ?_
                     rintro _ w879 ⟨F879,A881,c882,rfl,H883⟩
                     have E884:=E834.trans F879
                     refine o_v (v:=.int .i64 (x879.length:Int)) (r_len_slc un_s_api_Entry rfl) (want_t (t:=203) rfl rfl hc878) rfl rfl ?_
                     refine o_v (v:=.bool ((x879.length:Int)==3)) (r_int rfl rfl rfl) (want_t (t:=203) rfl rfl hc878) rfl rfl ?_
                     refine o_w (v:=.bool ((x879.length:Int)==3)) (r_pickT rfl hc878 rfl) ?_
                     refine o_w (v:=.bool ((x879.length:Int)==3)) (r_mov rfl) ?_
                     rcases Bool.eq_false_or_eq_true ((x879.length:Int)==3) with hc910 | hc910
                     ·replace h:=h.1 hc910
                      refine o_v (v:=.agg (cArena x443.1 A467 c468 A470 c471).toArray) (r_lda agg_api_Arena rfl (vs:=(cArena x443.1 A467 c468 A470 c471)) rfl ((B856.ex F879).part (n:=3) rfl)) (want_t (t:=209) rfl rfl hc910) rfl rfl ?_
                      obtain ⟨ha912,h⟩:=h
                      obtain ⟨x911,hx911,h⟩:=h
                      refine o_call cf_delta_Scan rfl (delta_Scan_c x443.1 (kArena_mk (d:=x443.1) (H469.up (G844.trans (Fr.ext F879)) sI (upc (.inr m804) (upc (.inr m699) (upc (.inr m602) (upc (.inr m491) (upc (.inl mH) (upc (.inl (mT mH)) (upc (.inl (mT (mT mH))) (upc (.inl (mT (mT (mT mH)))) (upc (.inl (mT (mT (mT (mT mH))))) (upc (.inl (mT (mT (mT (mT (mT mH)))))) (upc (.inl (mT (mT (mT (mT (mT (mT mH))))))) (upc (.inl (mT (mT (mT (mT (mT (mT (mT mH)))))))) (fun m hm=>Or.inl (mT (mT (mT (mT (mT (mT (mT (mT hm)))))))))))))))))))))) (H472.up (G844.trans (Fr.ext F879)) sI (upc (.inr m804) (upc (.inr m699) (upc (.inr m602) (upc (.inr m491) (upc (.inl mH) (upc (.inl (mT mH)) (upc (.inl (mT (mT mH))) (upc (.inl (mT (mT (mT mH)))) (upc (.inl (mT (mT (mT (mT mH))))) (upc (.inl (mT (mT (mT (mT (mT mH)))))) (upc (.inl (mT (mT (mT (mT (mT (mT mH))))))) (upc (.inl (mT (mT (mT (mT (mT (mT (mT mH)))))))) (fun m hm=>Or.inl (mT (mT (mT (mT (mT (mT (mT (mT hm))))))))))))))))))))))) (((((((((((((hL.fr E884).cons (B848.ex F879).lt).cons (B849.ex F879).lt).cons (B850.ex F879).lt).cons (B851.ex F879).lt).cons (B852.ex F879).lt).cons (B853.ex F879).lt).cons (B854.ex F879).lt).cons (B855.ex F879).lt).cons (B856.ex F879).lt).cons (B857.ex F879).lt).cons (B858.ex F879).lt).cons (B833'.ex F879).lt) (eq_ev hx911 (scan_ev x443.1 ha912))) (want_t (t:=209) rfl rfl hc910) rfl ?_
                      rintro _ w911 ⟨F911,A913,c914,rfl,H915⟩
                      have E916:=E884.trans F911
                      refine o_v (v:=.int .i64 (x911.length:Int)) (r_len_slc un_s_api_Entry rfl) (want_t (t:=209) rfl rfl hc910) rfl rfl ?_
                      refine o_v (v:=.bool ((x911.length:Int)==2)) (r_int rfl rfl rfl) (want_t (t:=209) rfl rfl hc910) rfl rfl ?_
                      refine o_w (v:=.bool ((x911.length:Int)==2)) (r_pickT rfl hc910 rfl) ?_
                      refine o_w (v:=.bool ((x911.length:Int)==2)) (r_asg rfl) ?_
                      refine eo_nil_sq ?_
                      refine ec_ret ?_
                      subst h
                      exact (end1 rfl ⟨_,rfl,E916,rfl⟩)
                     ·replace h:=h.2 hc910
                      iterate 4 refine o_no (want_f (t:=209) rfl rfl hc910) rfl ?_
                      refine o_w (v:=.bool false) (r_pickF rfl hc910 rfl) ?_
                      refine o_w (v:=.bool false) (r_asg rfl) ?_
                      refine eo_nil_sq ?_
                      refine ec_ret ?_
                      subst h
                      exact (end1 rfl ⟨_,rfl,E884,rfl⟩)
                    ·replace h:=h.2 hc878
                     iterate 4 refine o_no (want_f (t:=203) rfl rfl hc878) rfl ?_
                     refine o_w (v:=.bool false) (r_pickF rfl hc878 rfl) ?_
                     refine o_w (v:=.bool false) (r_mov rfl) ?_
                     iterate 4 refine o_no (want_f (t:=209) rfl rfl rfl) rfl ?_
                     refine o_w (v:=.bool false) (r_pickF rfl rfl rfl) ?_
                     refine o_w (v:=.bool false) (r_asg rfl) ?_
                     refine eo_nil_sq ?_
                     refine ec_ret ?_
                     subst h
                     exact (end1 rfl ⟨_,rfl,E834,rfl⟩)
                   ·replace h:=h.2 hc877
                    iterate 2 refine o_no (want_f (t:=199) rfl rfl hc877) rfl ?_
                    refine o_w (v:=.bool false) (r_pickF rfl hc877 rfl) ?_
                    refine o_w (v:=.bool false) (r_mov rfl) ?_
                    iterate 4 refine o_no (want_f (t:=203) rfl rfl rfl) rfl ?_
                    refine o_w (v:=.bool false) (r_pickF rfl rfl rfl) ?_
                    refine o_w (v:=.bool false) (r_mov rfl) ?_
                    iterate 4 refine o_no (want_f (t:=209) rfl rfl rfl) rfl ?_
                    refine o_w (v:=.bool false) (r_pickF rfl rfl rfl) ?_
                    refine o_w (v:=.bool false) (r_asg rfl) ?_
                    refine eo_nil_sq ?_
                    refine ec_ret ?_
                    subst h
                    exact (end1 rfl ⟨_,rfl,E834,rfl⟩)
                  ·replace h:=h.2 hc876
                   iterate 2 refine o_no (want_f (t:=195) rfl rfl hc876) rfl ?_
                   refine o_w (v:=.bool false) (r_pickF rfl hc876 rfl) ?_
                   refine o_w (v:=.bool false) (r_mov rfl) ?_
                   iterate 2 refine o_no (want_f (t:=199) rfl rfl rfl) rfl ?_
                   refine o_w (v:=.bool false) (r_pickF rfl rfl rfl) ?_
                   refine o_w (v:=.bool false) (r_mov rfl) ?_
                   iterate 4 refine o_no (want_f (t:=203) rfl rfl rfl) rfl ?_
                   refine o_w (v:=.bool false) (r_pickF rfl rfl rfl) ?_
                   refine o_w (v:=.bool false) (r_mov rfl) ?_
                   iterate 4 refine o_no (want_f (t:=209) rfl rfl rfl) rfl ?_
                   refine o_w (v:=.bool false) (r_pickF rfl rfl rfl) ?_
                   refine o_w (v:=.bool false) (r_asg rfl) ?_
                   refine eo_nil_sq ?_
                   refine ec_ret ?_
                   subst h
                   exact (end1 rfl ⟨_,rfl,E834,rfl⟩)
                 ·replace h:=h.2 hc875
                  iterate 2 refine o_no (want_f (t:=191) rfl rfl hc875) rfl ?_
                  refine o_w (v:=.bool false) (r_pickF rfl hc875 rfl) ?_
                  refine o_w (v:=.bool false) (r_mov rfl) ?_
                  iterate 2 refine o_no (want_f (t:=195) rfl rfl rfl) rfl ?_
                  refine o_w (v:=.bool false) (r_pickF rfl rfl rfl) ?_
                  refine o_w (v:=.bool false) (r_mov rfl) ?_
                  iterate 2 refine o_no (want_f (t:=199) rfl rfl rfl) rfl ?_
                  refine o_w (v:=.bool false) (r_pickF rfl rfl rfl) ?_
                  refine o_w (v:=.bool false) (r_mov rfl) ?_
                  iterate 4 refine o_no (want_f (t:=203) rfl rfl rfl) rfl ?_
                  refine o_w (v:=.bool false) (r_pickF rfl rfl rfl) ?_
                  refine o_w (v:=.bool false) (r_mov rfl) ?_
                  iterate 4 refine o_no (want_f (t:=209) rfl rfl rfl) rfl ?_
                  refine o_w (v:=.bool false) (r_pickF rfl rfl rfl) ?_
                  refine o_w (v:=.bool false) (r_asg rfl) ?_
                  refine eo_nil_sq ?_
                  refine ec_ret ?_
                  subst h
                  exact (end1 rfl ⟨_,rfl,E834,rfl⟩)
                ·replace h:=h.2 hc874
                 iterate 2 refine o_no (want_f (t:=187) rfl rfl hc874) rfl ?_
                 refine o_w (v:=.bool false) (r_pickF rfl hc874 rfl) ?_
                 refine o_w (v:=.bool false) (r_mov rfl) ?_
                 iterate 2 refine o_no (want_f (t:=191) rfl rfl rfl) rfl ?_
                 refine o_w (v:=.bool false) (r_pickF rfl rfl rfl) ?_
                 refine o_w (v:=.bool false) (r_mov rfl) ?_
                 iterate 2 refine o_no (want_f (t:=195) rfl rfl rfl) rfl ?_
                 refine o_w (v:=.bool false) (r_pickF rfl rfl rfl) ?_
                 refine o_w (v:=.bool false) (r_mov rfl) ?_
                 iterate 2 refine o_no (want_f (t:=199) rfl rfl rfl) rfl ?_
                 refine o_w (v:=.bool false) (r_pickF rfl rfl rfl) ?_
                 refine o_w (v:=.bool false) (r_mov rfl) ?_
                 iterate 4 refine o_no (want_f (t:=203) rfl rfl rfl) rfl ?_
                 refine o_w (v:=.bool false) (r_pickF rfl rfl rfl) ?_
                 refine o_w (v:=.bool false) (r_mov rfl) ?_
                 iterate 4 refine o_no (want_f (t:=209) rfl rfl rfl) rfl ?_
                 refine o_w (v:=.bool false) (r_pickF rfl rfl rfl) ?_
                 refine o_w (v:=.bool false) (r_asg rfl) ?_
                 refine eo_nil_sq ?_
                 refine ec_ret ?_
                 subst h
                 exact (end1 rfl ⟨_,rfl,E834,rfl⟩)
               ·replace h:=h.2 hc873
                iterate 2 refine o_no (want_f (t:=183) rfl rfl hc873) rfl ?_
                refine o_w (v:=.bool false) (r_pickF rfl hc873 rfl) ?_
                refine o_w (v:=.bool false) (r_mov rfl) ?_
                iterate 2 refine o_no (want_f (t:=187) rfl rfl rfl) rfl ?_
                refine o_w (v:=.bool false) (r_pickF rfl rfl rfl) ?_
                refine o_w (v:=.bool false) (r_mov rfl) ?_
                iterate 2 refine o_no (want_f (t:=191) rfl rfl rfl) rfl ?_
                refine o_w (v:=.bool false) (r_pickF rfl rfl rfl) ?_
                refine o_w (v:=.bool false) (r_mov rfl) ?_
                iterate 2 refine o_no (want_f (t:=195) rfl rfl rfl) rfl ?_
                refine o_w (v:=.bool false) (r_pickF rfl rfl rfl) ?_
                refine o_w (v:=.bool false) (r_mov rfl) ?_
                iterate 2 refine o_no (want_f (t:=199) rfl rfl rfl) rfl ?_
                refine o_w (v:=.bool false) (r_pickF rfl rfl rfl) ?_
                refine o_w (v:=.bool false) (r_mov rfl) ?_
                iterate 4 refine o_no (want_f (t:=203) rfl rfl rfl) rfl ?_
                refine o_w (v:=.bool false) (r_pickF rfl rfl rfl) ?_
                refine o_w (v:=.bool false) (r_mov rfl) ?_
                iterate 4 refine o_no (want_f (t:=209) rfl rfl rfl) rfl ?_
                refine o_w (v:=.bool false) (r_pickF rfl rfl rfl) ?_
                refine o_w (v:=.bool false) (r_asg rfl) ?_
                refine eo_nil_sq ?_
                refine ec_ret ?_
                subst h
                exact (end1 rfl ⟨_,rfl,E834,rfl⟩)
              ·replace h:=h.2 hc872
               iterate 4 refine o_no (want_f (t:=177) rfl rfl hc872) rfl ?_
               refine o_w (v:=.bool false) (r_pickF rfl hc872 rfl) ?_
               refine o_w (v:=.bool false) (r_mov rfl) ?_
               iterate 2 refine o_no (want_f (t:=183) rfl rfl rfl) rfl ?_
               refine o_w (v:=.bool false) (r_pickF rfl rfl rfl) ?_
               refine o_w (v:=.bool false) (r_mov rfl) ?_
               iterate 2 refine o_no (want_f (t:=187) rfl rfl rfl) rfl ?_
               refine o_w (v:=.bool false) (r_pickF rfl rfl rfl) ?_
               refine o_w (v:=.bool false) (r_mov rfl) ?_
               iterate 2 refine o_no (want_f (t:=191) rfl rfl rfl) rfl ?_
               refine o_w (v:=.bool false) (r_pickF rfl rfl rfl) ?_
               refine o_w (v:=.bool false) (r_mov rfl) ?_
               iterate 2 refine o_no (want_f (t:=195) rfl rfl rfl) rfl ?_
               refine o_w (v:=.bool false) (r_pickF rfl rfl rfl) ?_
               refine o_w (v:=.bool false) (r_mov rfl) ?_
               iterate 2 refine o_no (want_f (t:=199) rfl rfl rfl) rfl ?_
               refine o_w (v:=.bool false) (r_pickF rfl rfl rfl) ?_
               refine o_w (v:=.bool false) (r_mov rfl) ?_
               iterate 4 refine o_no (want_f (t:=203) rfl rfl rfl) rfl ?_
               refine o_w (v:=.bool false) (r_pickF rfl rfl rfl) ?_
               refine o_w (v:=.bool false) (r_mov rfl) ?_
               iterate 4 refine o_no (want_f (t:=209) rfl rfl rfl) rfl ?_
               refine o_w (v:=.bool false) (r_pickF rfl rfl rfl) ?_
               refine o_w (v:=.bool false) (r_asg rfl) ?_
               refine eo_nil_sq ?_
               refine ec_ret ?_
               subst h
               exact (end1 rfl ⟨_,rfl,E834,rfl⟩)
             ·replace h:=h.2 hc871
              iterate 2 refine o_no (want_f (t:=173) rfl rfl hc871) rfl ?_
              refine o_w (v:=.bool false) (r_pickF rfl hc871 rfl) ?_
              refine o_w (v:=.bool false) (r_mov rfl) ?_
              iterate 4 refine o_no (want_f (t:=177) rfl rfl rfl) rfl ?_
              refine o_w (v:=.bool false) (r_pickF rfl rfl rfl) ?_
              refine o_w (v:=.bool false) (r_mov rfl) ?_
              iterate 2 refine o_no (want_f (t:=183) rfl rfl rfl) rfl ?_
              refine o_w (v:=.bool false) (r_pickF rfl rfl rfl) ?_
              refine o_w (v:=.bool false) (r_mov rfl) ?_
              iterate 2 refine o_no (want_f (t:=187) rfl rfl rfl) rfl ?_
              refine o_w (v:=.bool false) (r_pickF rfl rfl rfl) ?_
              refine o_w (v:=.bool false) (r_mov rfl) ?_
              iterate 2 refine o_no (want_f (t:=191) rfl rfl rfl) rfl ?_
              refine o_w (v:=.bool false) (r_pickF rfl rfl rfl) ?_
              refine o_w (v:=.bool false) (r_mov rfl) ?_
              iterate 2 refine o_no (want_f (t:=195) rfl rfl rfl) rfl ?_
              refine o_w (v:=.bool false) (r_pickF rfl rfl rfl) ?_
              refine o_w (v:=.bool false) (r_mov rfl) ?_
              iterate 2 refine o_no (want_f (t:=199) rfl rfl rfl) rfl ?_
              refine o_w (v:=.bool false) (r_pickF rfl rfl rfl) ?_
              refine o_w (v:=.bool false) (r_mov rfl) ?_
              iterate 4 refine o_no (want_f (t:=203) rfl rfl rfl) rfl ?_
              refine o_w (v:=.bool false) (r_pickF rfl rfl rfl) ?_
              refine o_w (v:=.bool false) (r_mov rfl) ?_
              iterate 4 refine o_no (want_f (t:=209) rfl rfl rfl) rfl ?_
              refine o_w (v:=.bool false) (r_pickF rfl rfl rfl) ?_
              refine o_w (v:=.bool false) (r_asg rfl) ?_
              refine eo_nil_sq ?_
              refine ec_ret ?_
              subst h
              exact (end1 rfl ⟨_,rfl,E834,rfl⟩)
            ·replace h:=h.2 hc870
             refine o_no (want_f (t:=170) rfl rfl hc870) rfl ?_
             refine o_w (v:=.bool false) (r_pickF rfl hc870 rfl) ?_
             refine o_w (v:=.bool false) (r_mov rfl) ?_
             iterate 2 refine o_no (want_f (t:=173) rfl rfl rfl) rfl ?_
             refine o_w (v:=.bool false) (r_pickF rfl rfl rfl) ?_
             refine o_w (v:=.bool false) (r_mov rfl) ?_
             iterate 4 refine o_no (want_f (t:=177) rfl rfl rfl) rfl ?_
             refine o_w (v:=.bool false) (r_pickF rfl rfl rfl) ?_
             refine o_w (v:=.bool false) (r_mov rfl) ?_
             iterate 2 refine o_no (want_f (t:=183) rfl rfl rfl) rfl ?_
             refine o_w (v:=.bool false) (r_pickF rfl rfl rfl) ?_
             refine o_w (v:=.bool false) (r_mov rfl) ?_
             iterate 2 refine o_no (want_f (t:=187) rfl rfl rfl) rfl ?_
             refine o_w (v:=.bool false) (r_pickF rfl rfl rfl) ?_
             refine o_w (v:=.bool false) (r_mov rfl) ?_
             iterate 2 refine o_no (want_f (t:=191) rfl rfl rfl) rfl ?_
             refine o_w (v:=.bool false) (r_pickF rfl rfl rfl) ?_
             refine o_w (v:=.bool false) (r_mov rfl) ?_
             iterate 2 refine o_no (want_f (t:=195) rfl rfl rfl) rfl ?_
             refine o_w (v:=.bool false) (r_pickF rfl rfl rfl) ?_
             refine o_w (v:=.bool false) (r_mov rfl) ?_
             iterate 2 refine o_no (want_f (t:=199) rfl rfl rfl) rfl ?_
             refine o_w (v:=.bool false) (r_pickF rfl rfl rfl) ?_
             refine o_w (v:=.bool false) (r_mov rfl) ?_
             iterate 4 refine o_no (want_f (t:=203) rfl rfl rfl) rfl ?_
             refine o_w (v:=.bool false) (r_pickF rfl rfl rfl) ?_
             refine o_w (v:=.bool false) (r_mov rfl) ?_
             iterate 4 refine o_no (want_f (t:=209) rfl rfl rfl) rfl ?_
             refine o_w (v:=.bool false) (r_pickF rfl rfl rfl) ?_
             refine o_w (v:=.bool false) (r_asg rfl) ?_
             refine eo_nil_sq ?_
             refine ec_ret ?_
             subst h
             exact (end1 rfl ⟨_,rfl,E834,rfl⟩)
           ·replace h:=h.2 hc869
            iterate 2 refine o_no (want_f (t:=166) rfl rfl hc869) rfl ?_
            refine o_w (v:=.bool false) (r_pickF rfl hc869 rfl) ?_
            refine o_w (v:=.bool false) (r_mov rfl) ?_
            refine o_no (want_f (t:=170) rfl rfl rfl) rfl ?_
            refine o_w (v:=.bool false) (r_pickF rfl rfl rfl) ?_
            refine o_w (v:=.bool false) (r_mov rfl) ?_
            iterate 2 refine o_no (want_f (t:=173) rfl rfl rfl) rfl ?_
            refine o_w (v:=.bool false) (r_pickF rfl rfl rfl) ?_
            refine o_w (v:=.bool false) (r_mov rfl) ?_
            iterate 4 refine o_no (want_f (t:=177) rfl rfl rfl) rfl ?_
            refine o_w (v:=.bool false) (r_pickF rfl rfl rfl) ?_
            refine o_w (v:=.bool false) (r_mov rfl) ?_
            iterate 2 refine o_no (want_f (t:=183) rfl rfl rfl) rfl ?_
            refine o_w (v:=.bool false) (r_pickF rfl rfl rfl) ?_
            refine o_w (v:=.bool false) (r_mov rfl) ?_
            iterate 2 refine o_no (want_f (t:=187) rfl rfl rfl) rfl ?_
            refine o_w (v:=.bool false) (r_pickF rfl rfl rfl) ?_
            refine o_w (v:=.bool false) (r_mov rfl) ?_
            iterate 2 refine o_no (want_f (t:=191) rfl rfl rfl) rfl ?_
            refine o_w (v:=.bool false) (r_pickF rfl rfl rfl) ?_
            refine o_w (v:=.bool false) (r_mov rfl) ?_
            iterate 2 refine o_no (want_f (t:=195) rfl rfl rfl) rfl ?_
            refine o_w (v:=.bool false) (r_pickF rfl rfl rfl) ?_
            refine o_w (v:=.bool false) (r_mov rfl) ?_
            iterate 2 refine o_no (want_f (t:=199) rfl rfl rfl) rfl ?_
            refine o_w (v:=.bool false) (r_pickF rfl rfl rfl) ?_
            refine o_w (v:=.bool false) (r_mov rfl) ?_
            iterate 4 refine o_no (want_f (t:=203) rfl rfl rfl) rfl ?_
            refine o_w (v:=.bool false) (r_pickF rfl rfl rfl) ?_
            refine o_w (v:=.bool false) (r_mov rfl) ?_
            iterate 4 refine o_no (want_f (t:=209) rfl rfl rfl) rfl ?_
            refine o_w (v:=.bool false) (r_pickF rfl rfl rfl) ?_
            refine o_w (v:=.bool false) (r_asg rfl) ?_
            refine eo_nil_sq ?_
            refine ec_ret ?_
            subst h
            exact (end1 rfl ⟨_,rfl,E834,rfl⟩)
          ·replace h:=h.2 hc868
           iterate 2 refine o_no (want_f (t:=162) rfl rfl hc868) rfl ?_
           refine o_w (v:=.bool false) (r_pickF rfl hc868 rfl) ?_
           refine o_w (v:=.bool false) (r_mov rfl) ?_
           iterate 2 refine o_no (want_f (t:=166) rfl rfl rfl) rfl ?_
           refine o_w (v:=.bool false) (r_pickF rfl rfl rfl) ?_
           refine o_w (v:=.bool false) (r_mov rfl) ?_
           refine o_no (want_f (t:=170) rfl rfl rfl) rfl ?_
           refine o_w (v:=.bool false) (r_pickF rfl rfl rfl) ?_
           refine o_w (v:=.bool false) (r_mov rfl) ?_
           iterate 2 refine o_no (want_f (t:=173) rfl rfl rfl) rfl ?_
           refine o_w (v:=.bool false) (r_pickF rfl rfl rfl) ?_
           refine o_w (v:=.bool false) (r_mov rfl) ?_
           iterate 4 refine o_no (want_f (t:=177) rfl rfl rfl) rfl ?_
           refine o_w (v:=.bool false) (r_pickF rfl rfl rfl) ?_
           refine o_w (v:=.bool false) (r_mov rfl) ?_
           iterate 2 refine o_no (want_f (t:=183) rfl rfl rfl) rfl ?_
           refine o_w (v:=.bool false) (r_pickF rfl rfl rfl) ?_
           refine o_w (v:=.bool false) (r_mov rfl) ?_
           iterate 2 refine o_no (want_f (t:=187) rfl rfl rfl) rfl ?_
           refine o_w (v:=.bool false) (r_pickF rfl rfl rfl) ?_
           refine o_w (v:=.bool false) (r_mov rfl) ?_
           iterate 2 refine o_no (want_f (t:=191) rfl rfl rfl) rfl ?_
           refine o_w (v:=.bool false) (r_pickF rfl rfl rfl) ?_
           refine o_w (v:=.bool false) (r_mov rfl) ?_
           iterate 2 refine o_no (want_f (t:=195) rfl rfl rfl) rfl ?_
           refine o_w (v:=.bool false) (r_pickF rfl rfl rfl) ?_
           refine o_w (v:=.bool false) (r_mov rfl) ?_
           iterate 2 refine o_no (want_f (t:=199) rfl rfl rfl) rfl ?_
           refine o_w (v:=.bool false) (r_pickF rfl rfl rfl) ?_
           refine o_w (v:=.bool false) (r_mov rfl) ?_
           iterate 4 refine o_no (want_f (t:=203) rfl rfl rfl) rfl ?_
           refine o_w (v:=.bool false) (r_pickF rfl rfl rfl) ?_
           refine o_w (v:=.bool false) (r_mov rfl) ?_
           iterate 4 refine o_no (want_f (t:=209) rfl rfl rfl) rfl ?_
           refine o_w (v:=.bool false) (r_pickF rfl rfl rfl) ?_
           refine o_w (v:=.bool false) (r_asg rfl) ?_
           refine eo_nil_sq ?_
           refine ec_ret ?_
           subst h
           exact (end1 rfl ⟨_,rfl,E834,rfl⟩)
         ·replace h:=h.2 hc867
          iterate 2 refine o_no (want_f (t:=158) rfl rfl hc867) rfl ?_
          refine o_w (v:=.bool false) (r_pickF rfl hc867 rfl) ?_
          refine o_w (v:=.bool false) (r_mov rfl) ?_
          iterate 2 refine o_no (want_f (t:=162) rfl rfl rfl) rfl ?_
          refine o_w (v:=.bool false) (r_pickF rfl rfl rfl) ?_
          refine o_w (v:=.bool false) (r_mov rfl) ?_
          iterate 2 refine o_no (want_f (t:=166) rfl rfl rfl) rfl ?_
          refine o_w (v:=.bool false) (r_pickF rfl rfl rfl) ?_
          refine o_w (v:=.bool false) (r_mov rfl) ?_
          refine o_no (want_f (t:=170) rfl rfl rfl) rfl ?_
          refine o_w (v:=.bool false) (r_pickF rfl rfl rfl) ?_
          refine o_w (v:=.bool false) (r_mov rfl) ?_
          iterate 2 refine o_no (want_f (t:=173) rfl rfl rfl) rfl ?_
          refine o_w (v:=.bool false) (r_pickF rfl rfl rfl) ?_
          refine o_w (v:=.bool false) (r_mov rfl) ?_
          iterate 4 refine o_no (want_f (t:=177) rfl rfl rfl) rfl ?_
          refine o_w (v:=.bool false) (r_pickF rfl rfl rfl) ?_
          refine o_w (v:=.bool false) (r_mov rfl) ?_
          iterate 2 refine o_no (want_f (t:=183) rfl rfl rfl) rfl ?_
          refine o_w (v:=.bool false) (r_pickF rfl rfl rfl) ?_
          refine o_w (v:=.bool false) (r_mov rfl) ?_
          iterate 2 refine o_no (want_f (t:=187) rfl rfl rfl) rfl ?_
          refine o_w (v:=.bool false) (r_pickF rfl rfl rfl) ?_
          refine o_w (v:=.bool false) (r_mov rfl) ?_
          iterate 2 refine o_no (want_f (t:=191) rfl rfl rfl) rfl ?_
          refine o_w (v:=.bool false) (r_pickF rfl rfl rfl) ?_
          refine o_w (v:=.bool false) (r_mov rfl) ?_
          iterate 2 refine o_no (want_f (t:=195) rfl rfl rfl) rfl ?_
          refine o_w (v:=.bool false) (r_pickF rfl rfl rfl) ?_
          refine o_w (v:=.bool false) (r_mov rfl) ?_
          iterate 2 refine o_no (want_f (t:=199) rfl rfl rfl) rfl ?_
          refine o_w (v:=.bool false) (r_pickF rfl rfl rfl) ?_
          refine o_w (v:=.bool false) (r_mov rfl) ?_
          iterate 4 refine o_no (want_f (t:=203) rfl rfl rfl) rfl ?_
          refine o_w (v:=.bool false) (r_pickF rfl rfl rfl) ?_
          refine o_w (v:=.bool false) (r_mov rfl) ?_
          iterate 4 refine o_no (want_f (t:=209) rfl rfl rfl) rfl ?_
          refine o_w (v:=.bool false) (r_pickF rfl rfl rfl) ?_
          refine o_w (v:=.bool false) (r_asg rfl) ?_
          refine eo_nil_sq ?_
          refine ec_ret ?_
          subst h
          exact (end1 rfl ⟨_,rfl,E834,rfl⟩)
        ·replace h:=h.2 hc866
         refine o_no (want_f (t:=155) rfl rfl hc866) rfl ?_
         refine o_w (v:=.bool false) (r_pickF rfl hc866 rfl) ?_
         refine o_w (v:=.bool false) (r_mov rfl) ?_
         iterate 2 refine o_no (want_f (t:=158) rfl rfl rfl) rfl ?_
         refine o_w (v:=.bool false) (r_pickF rfl rfl rfl) ?_
         refine o_w (v:=.bool false) (r_mov rfl) ?_
         iterate 2 refine o_no (want_f (t:=162) rfl rfl rfl) rfl ?_
         refine o_w (v:=.bool false) (r_pickF rfl rfl rfl) ?_
         refine o_w (v:=.bool false) (r_mov rfl) ?_
         iterate 2 refine o_no (want_f (t:=166) rfl rfl rfl) rfl ?_
         refine o_w (v:=.bool false) (r_pickF rfl rfl rfl) ?_
         refine o_w (v:=.bool false) (r_mov rfl) ?_
         refine o_no (want_f (t:=170) rfl rfl rfl) rfl ?_
         refine o_w (v:=.bool false) (r_pickF rfl rfl rfl) ?_
         refine o_w (v:=.bool false) (r_mov rfl) ?_
         iterate 2 refine o_no (want_f (t:=173) rfl rfl rfl) rfl ?_
         refine o_w (v:=.bool false) (r_pickF rfl rfl rfl) ?_
         refine o_w (v:=.bool false) (r_mov rfl) ?_
         iterate 4 refine o_no (want_f (t:=177) rfl rfl rfl) rfl ?_
         refine o_w (v:=.bool false) (r_pickF rfl rfl rfl) ?_
         refine o_w (v:=.bool false) (r_mov rfl) ?_
         iterate 2 refine o_no (want_f (t:=183) rfl rfl rfl) rfl ?_
         refine o_w (v:=.bool false) (r_pickF rfl rfl rfl) ?_
         refine o_w (v:=.bool false) (r_mov rfl) ?_
         iterate 2 refine o_no (want_f (t:=187) rfl rfl rfl) rfl ?_
         refine o_w (v:=.bool false) (r_pickF rfl rfl rfl) ?_
         refine o_w (v:=.bool false) (r_mov rfl) ?_
         iterate 2 refine o_no (want_f (t:=191) rfl rfl rfl) rfl ?_
         refine o_w (v:=.bool false) (r_pickF rfl rfl rfl) ?_
         refine o_w (v:=.bool false) (r_mov rfl) ?_
         iterate 2 refine o_no (want_f (t:=195) rfl rfl rfl) rfl ?_
         refine o_w (v:=.bool false) (r_pickF rfl rfl rfl) ?_
         refine o_w (v:=.bool false) (r_mov rfl) ?_
         iterate 2 refine o_no (want_f (t:=199) rfl rfl rfl) rfl ?_
         refine o_w (v:=.bool false) (r_pickF rfl rfl rfl) ?_
         refine o_w (v:=.bool false) (r_mov rfl) ?_
         iterate 4 refine o_no (want_f (t:=203) rfl rfl rfl) rfl ?_
         refine o_w (v:=.bool false) (r_pickF rfl rfl rfl) ?_
         refine o_w (v:=.bool false) (r_mov rfl) ?_
         iterate 4 refine o_no (want_f (t:=209) rfl rfl rfl) rfl ?_
         refine o_w (v:=.bool false) (r_pickF rfl rfl rfl) ?_
         refine o_w (v:=.bool false) (r_asg rfl) ?_
         refine eo_nil_sq ?_
         refine ec_ret ?_
         subst h
         exact (end1 rfl ⟨_,rfl,E834,rfl⟩)
       ·replace h:=h.2 hc865
        iterate 2 refine o_no (want_f (t:=151) rfl rfl hc865) rfl ?_
        refine o_w (v:=.bool false) (r_pickF rfl hc865 rfl) ?_
        refine o_w (v:=.bool false) (r_mov rfl) ?_
        refine o_no (want_f (t:=155) rfl rfl rfl) rfl ?_
        refine o_w (v:=.bool false) (r_pickF rfl rfl rfl) ?_
        refine o_w (v:=.bool false) (r_mov rfl) ?_
        iterate 2 refine o_no (want_f (t:=158) rfl rfl rfl) rfl ?_
        refine o_w (v:=.bool false) (r_pickF rfl rfl rfl) ?_
        refine o_w (v:=.bool false) (r_mov rfl) ?_
        iterate 2 refine o_no (want_f (t:=162) rfl rfl rfl) rfl ?_
        refine o_w (v:=.bool false) (r_pickF rfl rfl rfl) ?_
        refine o_w (v:=.bool false) (r_mov rfl) ?_
        iterate 2 refine o_no (want_f (t:=166) rfl rfl rfl) rfl ?_
        refine o_w (v:=.bool false) (r_pickF rfl rfl rfl) ?_
        refine o_w (v:=.bool false) (r_mov rfl) ?_
        refine o_no (want_f (t:=170) rfl rfl rfl) rfl ?_
        refine o_w (v:=.bool false) (r_pickF rfl rfl rfl) ?_
        refine o_w (v:=.bool false) (r_mov rfl) ?_
        iterate 2 refine o_no (want_f (t:=173) rfl rfl rfl) rfl ?_
        refine o_w (v:=.bool false) (r_pickF rfl rfl rfl) ?_
        refine o_w (v:=.bool false) (r_mov rfl) ?_
        iterate 4 refine o_no (want_f (t:=177) rfl rfl rfl) rfl ?_
        refine o_w (v:=.bool false) (r_pickF rfl rfl rfl) ?_
        refine o_w (v:=.bool false) (r_mov rfl) ?_
        iterate 2 refine o_no (want_f (t:=183) rfl rfl rfl) rfl ?_
        refine o_w (v:=.bool false) (r_pickF rfl rfl rfl) ?_
        refine o_w (v:=.bool false) (r_mov rfl) ?_
        iterate 2 refine o_no (want_f (t:=187) rfl rfl rfl) rfl ?_
        refine o_w (v:=.bool false) (r_pickF rfl rfl rfl) ?_
        refine o_w (v:=.bool false) (r_mov rfl) ?_
        iterate 2 refine o_no (want_f (t:=191) rfl rfl rfl) rfl ?_
        refine o_w (v:=.bool false) (r_pickF rfl rfl rfl) ?_
        refine o_w (v:=.bool false) (r_mov rfl) ?_
        iterate 2 refine o_no (want_f (t:=195) rfl rfl rfl) rfl ?_
        refine o_w (v:=.bool false) (r_pickF rfl rfl rfl) ?_
        refine o_w (v:=.bool false) (r_mov rfl) ?_
        iterate 2 refine o_no (want_f (t:=199) rfl rfl rfl) rfl ?_
        refine o_w (v:=.bool false) (r_pickF rfl rfl rfl) ?_
        refine o_w (v:=.bool false) (r_mov rfl) ?_
        iterate 4 refine o_no (want_f (t:=203) rfl rfl rfl) rfl ?_
        refine o_w (v:=.bool false) (r_pickF rfl rfl rfl) ?_
        refine o_w (v:=.bool false) (r_mov rfl) ?_
        iterate 4 refine o_no (want_f (t:=209) rfl rfl rfl) rfl ?_
        refine o_w (v:=.bool false) (r_pickF rfl rfl rfl) ?_
        refine o_w (v:=.bool false) (r_asg rfl) ?_
        refine eo_nil_sq ?_
        refine ec_ret ?_
        subst h
        exact (end1 rfl ⟨_,rfl,E834,rfl⟩)
      ·replace h:=h.2 hc864
       iterate 2 refine o_no (want_f (t:=147) rfl rfl hc864) rfl ?_
       refine o_w (v:=.bool false) (r_pickF rfl hc864 rfl) ?_
       refine o_w (v:=.bool false) (r_mov rfl) ?_
       iterate 2 refine o_no (want_f (t:=151) rfl rfl rfl) rfl ?_
       refine o_w (v:=.bool false) (r_pickF rfl rfl rfl) ?_
       refine o_w (v:=.bool false) (r_mov rfl) ?_
       refine o_no (want_f (t:=155) rfl rfl rfl) rfl ?_
       refine o_w (v:=.bool false) (r_pickF rfl rfl rfl) ?_
       refine o_w (v:=.bool false) (r_mov rfl) ?_
       iterate 2 refine o_no (want_f (t:=158) rfl rfl rfl) rfl ?_
       refine o_w (v:=.bool false) (r_pickF rfl rfl rfl) ?_
       refine o_w (v:=.bool false) (r_mov rfl) ?_
       iterate 2 refine o_no (want_f (t:=162) rfl rfl rfl) rfl ?_
       refine o_w (v:=.bool false) (r_pickF rfl rfl rfl) ?_
       refine o_w (v:=.bool false) (r_mov rfl) ?_
       iterate 2 refine o_no (want_f (t:=166) rfl rfl rfl) rfl ?_
       refine o_w (v:=.bool false) (r_pickF rfl rfl rfl) ?_
       refine o_w (v:=.bool false) (r_mov rfl) ?_
       refine o_no (want_f (t:=170) rfl rfl rfl) rfl ?_
       refine o_w (v:=.bool false) (r_pickF rfl rfl rfl) ?_
       refine o_w (v:=.bool false) (r_mov rfl) ?_
       iterate 2 refine o_no (want_f (t:=173) rfl rfl rfl) rfl ?_
       refine o_w (v:=.bool false) (r_pickF rfl rfl rfl) ?_
       refine o_w (v:=.bool false) (r_mov rfl) ?_
       iterate 4 refine o_no (want_f (t:=177) rfl rfl rfl) rfl ?_
       refine o_w (v:=.bool false) (r_pickF rfl rfl rfl) ?_
       refine o_w (v:=.bool false) (r_mov rfl) ?_
       iterate 2 refine o_no (want_f (t:=183) rfl rfl rfl) rfl ?_
       refine o_w (v:=.bool false) (r_pickF rfl rfl rfl) ?_
       refine o_w (v:=.bool false) (r_mov rfl) ?_
       iterate 2 refine o_no (want_f (t:=187) rfl rfl rfl) rfl ?_
       refine o_w (v:=.bool false) (r_pickF rfl rfl rfl) ?_
       refine o_w (v:=.bool false) (r_mov rfl) ?_
       iterate 2 refine o_no (want_f (t:=191) rfl rfl rfl) rfl ?_
       refine o_w (v:=.bool false) (r_pickF rfl rfl rfl) ?_
       refine o_w (v:=.bool false) (r_mov rfl) ?_
       iterate 2 refine o_no (want_f (t:=195) rfl rfl rfl) rfl ?_
       refine o_w (v:=.bool false) (r_pickF rfl rfl rfl) ?_
       refine o_w (v:=.bool false) (r_mov rfl) ?_
       iterate 2 refine o_no (want_f (t:=199) rfl rfl rfl) rfl ?_
       refine o_w (v:=.bool false) (r_pickF rfl rfl rfl) ?_
       refine o_w (v:=.bool false) (r_mov rfl) ?_
       iterate 4 refine o_no (want_f (t:=203) rfl rfl rfl) rfl ?_
       refine o_w (v:=.bool false) (r_pickF rfl rfl rfl) ?_
       refine o_w (v:=.bool false) (r_mov rfl) ?_
       iterate 4 refine o_no (want_f (t:=209) rfl rfl rfl) rfl ?_
       refine o_w (v:=.bool false) (r_pickF rfl rfl rfl) ?_
       refine o_w (v:=.bool false) (r_asg rfl) ?_
       refine eo_nil_sq ?_
       refine ec_ret ?_
       subst h
       exact (end1 rfl ⟨_,rfl,E834,rfl⟩)
     ·replace h:=h.2 hc863
      iterate 2 refine o_no (want_f (t:=143) rfl rfl hc863) rfl ?_
      refine o_w (v:=.bool false) (r_pickF rfl hc863 rfl) ?_
      refine o_w (v:=.bool false) (r_mov rfl) ?_
      iterate 2 refine o_no (want_f (t:=147) rfl rfl rfl) rfl ?_
      refine o_w (v:=.bool false) (r_pickF rfl rfl rfl) ?_
      refine o_w (v:=.bool false) (r_mov rfl) ?_
      iterate 2 refine o_no (want_f (t:=151) rfl rfl rfl) rfl ?_
      refine o_w (v:=.bool false) (r_pickF rfl rfl rfl) ?_
      refine o_w (v:=.bool false) (r_mov rfl) ?_
      refine o_no (want_f (t:=155) rfl rfl rfl) rfl ?_
      refine o_w (v:=.bool false) (r_pickF rfl rfl rfl) ?_
      refine o_w (v:=.bool false) (r_mov rfl) ?_
      iterate 2 refine o_no (want_f (t:=158) rfl rfl rfl) rfl ?_
      refine o_w (v:=.bool false) (r_pickF rfl rfl rfl) ?_
      refine o_w (v:=.bool false) (r_mov rfl) ?_
      iterate 2 refine o_no (want_f (t:=162) rfl rfl rfl) rfl ?_
      refine o_w (v:=.bool false) (r_pickF rfl rfl rfl) ?_
      refine o_w (v:=.bool false) (r_mov rfl) ?_
      iterate 2 refine o_no (want_f (t:=166) rfl rfl rfl) rfl ?_
      refine o_w (v:=.bool false) (r_pickF rfl rfl rfl) ?_
      refine o_w (v:=.bool false) (r_mov rfl) ?_
      refine o_no (want_f (t:=170) rfl rfl rfl) rfl ?_
      refine o_w (v:=.bool false) (r_pickF rfl rfl rfl) ?_
      refine o_w (v:=.bool false) (r_mov rfl) ?_
      iterate 2 refine o_no (want_f (t:=173) rfl rfl rfl) rfl ?_
      refine o_w (v:=.bool false) (r_pickF rfl rfl rfl) ?_
      refine o_w (v:=.bool false) (r_mov rfl) ?_
      iterate 4 refine o_no (want_f (t:=177) rfl rfl rfl) rfl ?_
      refine o_w (v:=.bool false) (r_pickF rfl rfl rfl) ?_
      refine o_w (v:=.bool false) (r_mov rfl) ?_
      iterate 2 refine o_no (want_f (t:=183) rfl rfl rfl) rfl ?_
      refine o_w (v:=.bool false) (r_pickF rfl rfl rfl) ?_
      refine o_w (v:=.bool false) (r_mov rfl) ?_
      iterate 2 refine o_no (want_f (t:=187) rfl rfl rfl) rfl ?_
      refine o_w (v:=.bool false) (r_pickF rfl rfl rfl) ?_
      refine o_w (v:=.bool false) (r_mov rfl) ?_
      iterate 2 refine o_no (want_f (t:=191) rfl rfl rfl) rfl ?_
      refine o_w (v:=.bool false) (r_pickF rfl rfl rfl) ?_
      refine o_w (v:=.bool false) (r_mov rfl) ?_
      iterate 2 refine o_no (want_f (t:=195) rfl rfl rfl) rfl ?_
      refine o_w (v:=.bool false) (r_pickF rfl rfl rfl) ?_
      refine o_w (v:=.bool false) (r_mov rfl) ?_
      iterate 2 refine o_no (want_f (t:=199) rfl rfl rfl) rfl ?_
      refine o_w (v:=.bool false) (r_pickF rfl rfl rfl) ?_
      refine o_w (v:=.bool false) (r_mov rfl) ?_
      iterate 4 refine o_no (want_f (t:=203) rfl rfl rfl) rfl ?_
      refine o_w (v:=.bool false) (r_pickF rfl rfl rfl) ?_
      refine o_w (v:=.bool false) (r_mov rfl) ?_
      iterate 4 refine o_no (want_f (t:=209) rfl rfl rfl) rfl ?_
      refine o_w (v:=.bool false) (r_pickF rfl rfl rfl) ?_
      refine o_w (v:=.bool false) (r_asg rfl) ?_
      refine eo_nil_sq ?_
      refine ec_ret ?_
      subst h
      exact (end1 rfl ⟨_,rfl,E834,rfl⟩)
    ·replace h:=h.2 hc862
     refine o_no (want_f (t:=140) rfl rfl hc862) rfl ?_
     refine o_w (v:=.bool false) (r_pickF rfl hc862 rfl) ?_
     refine o_w (v:=.bool false) (r_mov rfl) ?_
     iterate 2 refine o_no (want_f (t:=143) rfl rfl rfl) rfl ?_
     refine o_w (v:=.bool false) (r_pickF rfl rfl rfl) ?_
     refine o_w (v:=.bool false) (r_mov rfl) ?_
     iterate 2 refine o_no (want_f (t:=147) rfl rfl rfl) rfl ?_
     refine o_w (v:=.bool false) (r_pickF rfl rfl rfl) ?_
     refine o_w (v:=.bool false) (r_mov rfl) ?_
     iterate 2 refine o_no (want_f (t:=151) rfl rfl rfl) rfl ?_
     refine o_w (v:=.bool false) (r_pickF rfl rfl rfl) ?_
     refine o_w (v:=.bool false) (r_mov rfl) ?_
     refine o_no (want_f (t:=155) rfl rfl rfl) rfl ?_
     refine o_w (v:=.bool false) (r_pickF rfl rfl rfl) ?_
     refine o_w (v:=.bool false) (r_mov rfl) ?_
     iterate 2 refine o_no (want_f (t:=158) rfl rfl rfl) rfl ?_
     refine o_w (v:=.bool false) (r_pickF rfl rfl rfl) ?_
     refine o_w (v:=.bool false) (r_mov rfl) ?_
     iterate 2 refine o_no (want_f (t:=162) rfl rfl rfl) rfl ?_
     refine o_w (v:=.bool false) (r_pickF rfl rfl rfl) ?_
     refine o_w (v:=.bool false) (r_mov rfl) ?_
     iterate 2 refine o_no (want_f (t:=166) rfl rfl rfl) rfl ?_
     refine o_w (v:=.bool false) (r_pickF rfl rfl rfl) ?_
     refine o_w (v:=.bool false) (r_mov rfl) ?_
     refine o_no (want_f (t:=170) rfl rfl rfl) rfl ?_
     refine o_w (v:=.bool false) (r_pickF rfl rfl rfl) ?_
     refine o_w (v:=.bool false) (r_mov rfl) ?_
     iterate 2 refine o_no (want_f (t:=173) rfl rfl rfl) rfl ?_
     refine o_w (v:=.bool false) (r_pickF rfl rfl rfl) ?_
     refine o_w (v:=.bool false) (r_mov rfl) ?_
     iterate 4 refine o_no (want_f (t:=177) rfl rfl rfl) rfl ?_
     refine o_w (v:=.bool false) (r_pickF rfl rfl rfl) ?_
     refine o_w (v:=.bool false) (r_mov rfl) ?_
     iterate 2 refine o_no (want_f (t:=183) rfl rfl rfl) rfl ?_
     refine o_w (v:=.bool false) (r_pickF rfl rfl rfl) ?_
     refine o_w (v:=.bool false) (r_mov rfl) ?_
     iterate 2 refine o_no (want_f (t:=187) rfl rfl rfl) rfl ?_
     refine o_w (v:=.bool false) (r_pickF rfl rfl rfl) ?_
     refine o_w (v:=.bool false) (r_mov rfl) ?_
     iterate 2 refine o_no (want_f (t:=191) rfl rfl rfl) rfl ?_
     refine o_w (v:=.bool false) (r_pickF rfl rfl rfl) ?_
     refine o_w (v:=.bool false) (r_mov rfl) ?_
     iterate 2 refine o_no (want_f (t:=195) rfl rfl rfl) rfl ?_
     refine o_w (v:=.bool false) (r_pickF rfl rfl rfl) ?_
     refine o_w (v:=.bool false) (r_mov rfl) ?_
     iterate 2 refine o_no (want_f (t:=199) rfl rfl rfl) rfl ?_
     refine o_w (v:=.bool false) (r_pickF rfl rfl rfl) ?_
     refine o_w (v:=.bool false) (r_mov rfl) ?_
     iterate 4 refine o_no (want_f (t:=203) rfl rfl rfl) rfl ?_
     refine o_w (v:=.bool false) (r_pickF rfl rfl rfl) ?_
     refine o_w (v:=.bool false) (r_mov rfl) ?_
     iterate 4 refine o_no (want_f (t:=209) rfl rfl rfl) rfl ?_
     refine o_w (v:=.bool false) (r_pickF rfl rfl rfl) ?_
     refine o_w (v:=.bool false) (r_asg rfl) ?_
     refine eo_nil_sq ?_
     refine ec_ret ?_
     subst h
     exact (end1 rfl ⟨_,rfl,E834,rfl⟩)
   ·replace h:=h.2 hc861
    iterate 2 refine o_no (want_f (t:=136) rfl rfl hc861) rfl ?_
    refine o_w (v:=.bool false) (r_pickF rfl hc861 rfl) ?_
    refine o_w (v:=.bool false) (r_mov rfl) ?_
    refine o_no (want_f (t:=140) rfl rfl rfl) rfl ?_
    refine o_w (v:=.bool false) (r_pickF rfl rfl rfl) ?_
    refine o_w (v:=.bool false) (r_mov rfl) ?_
    iterate 2 refine o_no (want_f (t:=143) rfl rfl rfl) rfl ?_
    refine o_w (v:=.bool false) (r_pickF rfl rfl rfl) ?_
    refine o_w (v:=.bool false) (r_mov rfl) ?_
    iterate 2 refine o_no (want_f (t:=147) rfl rfl rfl) rfl ?_
    refine o_w (v:=.bool false) (r_pickF rfl rfl rfl) ?_
    refine o_w (v:=.bool false) (r_mov rfl) ?_
    iterate 2 refine o_no (want_f (t:=151) rfl rfl rfl) rfl ?_
    refine o_w (v:=.bool false) (r_pickF rfl rfl rfl) ?_
    refine o_w (v:=.bool false) (r_mov rfl) ?_
    refine o_no (want_f (t:=155) rfl rfl rfl) rfl ?_
    refine o_w (v:=.bool false) (r_pickF rfl rfl rfl) ?_
    refine o_w (v:=.bool false) (r_mov rfl) ?_
    iterate 2 refine o_no (want_f (t:=158) rfl rfl rfl) rfl ?_
    refine o_w (v:=.bool false) (r_pickF rfl rfl rfl) ?_
    refine o_w (v:=.bool false) (r_mov rfl) ?_
    iterate 2 refine o_no (want_f (t:=162) rfl rfl rfl) rfl ?_
    refine o_w (v:=.bool false) (r_pickF rfl rfl rfl) ?_
    refine o_w (v:=.bool false) (r_mov rfl) ?_
    iterate 2 refine o_no (want_f (t:=166) rfl rfl rfl) rfl ?_
    refine o_w (v:=.bool false) (r_pickF rfl rfl rfl) ?_
    refine o_w (v:=.bool false) (r_mov rfl) ?_
    refine o_no (want_f (t:=170) rfl rfl rfl) rfl ?_
    refine o_w (v:=.bool false) (r_pickF rfl rfl rfl) ?_
    refine o_w (v:=.bool false) (r_mov rfl) ?_
    iterate 2 refine o_no (want_f (t:=173) rfl rfl rfl) rfl ?_
    refine o_w (v:=.bool false) (r_pickF rfl rfl rfl) ?_
    refine o_w (v:=.bool false) (r_mov rfl) ?_
    iterate 4 refine o_no (want_f (t:=177) rfl rfl rfl) rfl ?_
    refine o_w (v:=.bool false) (r_pickF rfl rfl rfl) ?_
    refine o_w (v:=.bool false) (r_mov rfl) ?_
    iterate 2 refine o_no (want_f (t:=183) rfl rfl rfl) rfl ?_
    refine o_w (v:=.bool false) (r_pickF rfl rfl rfl) ?_
    refine o_w (v:=.bool false) (r_mov rfl) ?_
    iterate 2 refine o_no (want_f (t:=187) rfl rfl rfl) rfl ?_
    refine o_w (v:=.bool false) (r_pickF rfl rfl rfl) ?_
    refine o_w (v:=.bool false) (r_mov rfl) ?_
    iterate 2 refine o_no (want_f (t:=191) rfl rfl rfl) rfl ?_
    refine o_w (v:=.bool false) (r_pickF rfl rfl rfl) ?_
    refine o_w (v:=.bool false) (r_mov rfl) ?_
    iterate 2 refine o_no (want_f (t:=195) rfl rfl rfl) rfl ?_
    refine o_w (v:=.bool false) (r_pickF rfl rfl rfl) ?_
    refine o_w (v:=.bool false) (r_mov rfl) ?_
    iterate 2 refine o_no (want_f (t:=199) rfl rfl rfl) rfl ?_
    refine o_w (v:=.bool false) (r_pickF rfl rfl rfl) ?_
    refine o_w (v:=.bool false) (r_mov rfl) ?_
    iterate 4 refine o_no (want_f (t:=203) rfl rfl rfl) rfl ?_
    refine o_w (v:=.bool false) (r_pickF rfl rfl rfl) ?_
    refine o_w (v:=.bool false) (r_mov rfl) ?_
    iterate 4 refine o_no (want_f (t:=209) rfl rfl rfl) rfl ?_
    refine o_w (v:=.bool false) (r_pickF rfl rfl rfl) ?_
    refine o_w (v:=.bool false) (r_asg rfl) ?_
    refine eo_nil_sq ?_
    refine ec_ret ?_
    subst h
    exact (end1 rfl ⟨_,rfl,E834,rfl⟩)
  ·replace h:=h.2 hc860
   iterate 2 refine o_no (want_f (t:=132) rfl rfl hc860) rfl ?_
   refine o_w (v:=.bool false) (r_pickF rfl hc860 rfl) ?_
   refine o_w (v:=.bool false) (r_mov rfl) ?_
   iterate 2 refine o_no (want_f (t:=136) rfl rfl rfl) rfl ?_
   refine o_w (v:=.bool false) (r_pickF rfl rfl rfl) ?_
   refine o_w (v:=.bool false) (r_mov rfl) ?_
   refine o_no (want_f (t:=140) rfl rfl rfl) rfl ?_
   refine o_w (v:=.bool false) (r_pickF rfl rfl rfl) ?_
   refine o_w (v:=.bool false) (r_mov rfl) ?_
   iterate 2 refine o_no (want_f (t:=143) rfl rfl rfl) rfl ?_
   refine o_w (v:=.bool false) (r_pickF rfl rfl rfl) ?_
   refine o_w (v:=.bool false) (r_mov rfl) ?_
   iterate 2 refine o_no (want_f (t:=147) rfl rfl rfl) rfl ?_
   refine o_w (v:=.bool false) (r_pickF rfl rfl rfl) ?_
   refine o_w (v:=.bool false) (r_mov rfl) ?_
   iterate 2 refine o_no (want_f (t:=151) rfl rfl rfl) rfl ?_
   refine o_w (v:=.bool false) (r_pickF rfl rfl rfl) ?_
   refine o_w (v:=.bool false) (r_mov rfl) ?_
   refine o_no (want_f (t:=155) rfl rfl rfl) rfl ?_
   refine o_w (v:=.bool false) (r_pickF rfl rfl rfl) ?_
   refine o_w (v:=.bool false) (r_mov rfl) ?_
   iterate 2 refine o_no (want_f (t:=158) rfl rfl rfl) rfl ?_
   refine o_w (v:=.bool false) (r_pickF rfl rfl rfl) ?_
   refine o_w (v:=.bool false) (r_mov rfl) ?_
   iterate 2 refine o_no (want_f (t:=162) rfl rfl rfl) rfl ?_
   refine o_w (v:=.bool false) (r_pickF rfl rfl rfl) ?_
   refine o_w (v:=.bool false) (r_mov rfl) ?_
   iterate 2 refine o_no (want_f (t:=166) rfl rfl rfl) rfl ?_
   refine o_w (v:=.bool false) (r_pickF rfl rfl rfl) ?_
   refine o_w (v:=.bool false) (r_mov rfl) ?_
   refine o_no (want_f (t:=170) rfl rfl rfl) rfl ?_
   refine o_w (v:=.bool false) (r_pickF rfl rfl rfl) ?_
   refine o_w (v:=.bool false) (r_mov rfl) ?_
   iterate 2 refine o_no (want_f (t:=173) rfl rfl rfl) rfl ?_
   refine o_w (v:=.bool false) (r_pickF rfl rfl rfl) ?_
   refine o_w (v:=.bool false) (r_mov rfl) ?_
   iterate 4 refine o_no (want_f (t:=177) rfl rfl rfl) rfl ?_
   refine o_w (v:=.bool false) (r_pickF rfl rfl rfl) ?_
   refine o_w (v:=.bool false) (r_mov rfl) ?_
   iterate 2 refine o_no (want_f (t:=183) rfl rfl rfl) rfl ?_
   refine o_w (v:=.bool false) (r_pickF rfl rfl rfl) ?_
   refine o_w (v:=.bool false) (r_mov rfl) ?_
   iterate 2 refine o_no (want_f (t:=187) rfl rfl rfl) rfl ?_
   refine o_w (v:=.bool false) (r_pickF rfl rfl rfl) ?_
   refine o_w (v:=.bool false) (r_mov rfl) ?_
   iterate 2 refine o_no (want_f (t:=191) rfl rfl rfl) rfl ?_
   refine o_w (v:=.bool false) (r_pickF rfl rfl rfl) ?_
   refine o_w (v:=.bool false) (r_mov rfl) ?_
   iterate 2 refine o_no (want_f (t:=195) rfl rfl rfl) rfl ?_
   refine o_w (v:=.bool false) (r_pickF rfl rfl rfl) ?_
   refine o_w (v:=.bool false) (r_mov rfl) ?_
   iterate 2 refine o_no (want_f (t:=199) rfl rfl rfl) rfl ?_
   refine o_w (v:=.bool false) (r_pickF rfl rfl rfl) ?_
   refine o_w (v:=.bool false) (r_mov rfl) ?_
   iterate 4 refine o_no (want_f (t:=203) rfl rfl rfl) rfl ?_
   refine o_w (v:=.bool false) (r_pickF rfl rfl rfl) ?_
   refine o_w (v:=.bool false) (r_mov rfl) ?_
   iterate 4 refine o_no (want_f (t:=209) rfl rfl rfl) rfl ?_
   refine o_w (v:=.bool false) (r_pickF rfl rfl rfl) ?_
   refine o_w (v:=.bool false) (r_asg rfl) ?_
   refine eo_nil_sq ?_
   refine ec_ret ?_
   subst h
   exact (end1 rfl ⟨_,rfl,E834,rfl⟩)
 ·replace h:=h.2 hc859
  iterate 4 refine o_no (want_f (t:=126) rfl rfl hc859) rfl ?_
  refine o_w (v:=.bool false) (r_pickF rfl hc859 rfl) ?_
  refine o_w (v:=.bool false) (r_mov rfl) ?_
  iterate 2 refine o_no (want_f (t:=132) rfl rfl rfl) rfl ?_
  refine o_w (v:=.bool false) (r_pickF rfl rfl rfl) ?_
  refine o_w (v:=.bool false) (r_mov rfl) ?_
  iterate 2 refine o_no (want_f (t:=136) rfl rfl rfl) rfl ?_
  refine o_w (v:=.bool false) (r_pickF rfl rfl rfl) ?_
  refine o_w (v:=.bool false) (r_mov rfl) ?_
  refine o_no (want_f (t:=140) rfl rfl rfl) rfl ?_
  refine o_w (v:=.bool false) (r_pickF rfl rfl rfl) ?_
  refine o_w (v:=.bool false) (r_mov rfl) ?_
  iterate 2 refine o_no (want_f (t:=143) rfl rfl rfl) rfl ?_
  refine o_w (v:=.bool false) (r_pickF rfl rfl rfl) ?_
  refine o_w (v:=.bool false) (r_mov rfl) ?_
  iterate 2 refine o_no (want_f (t:=147) rfl rfl rfl) rfl ?_
  refine o_w (v:=.bool false) (r_pickF rfl rfl rfl) ?_
  refine o_w (v:=.bool false) (r_mov rfl) ?_
  iterate 2 refine o_no (want_f (t:=151) rfl rfl rfl) rfl ?_
  refine o_w (v:=.bool false) (r_pickF rfl rfl rfl) ?_
  refine o_w (v:=.bool false) (r_mov rfl) ?_
  refine o_no (want_f (t:=155) rfl rfl rfl) rfl ?_
  refine o_w (v:=.bool false) (r_pickF rfl rfl rfl) ?_
  refine o_w (v:=.bool false) (r_mov rfl) ?_
  iterate 2 refine o_no (want_f (t:=158) rfl rfl rfl) rfl ?_
  refine o_w (v:=.bool false) (r_pickF rfl rfl rfl) ?_
  refine o_w (v:=.bool false) (r_mov rfl) ?_
  iterate 2 refine o_no (want_f (t:=162) rfl rfl rfl) rfl ?_
  refine o_w (v:=.bool false) (r_pickF rfl rfl rfl) ?_
  refine o_w (v:=.bool false) (r_mov rfl) ?_
  iterate 2 refine o_no (want_f (t:=166) rfl rfl rfl) rfl ?_
  refine o_w (v:=.bool false) (r_pickF rfl rfl rfl) ?_
  refine o_w (v:=.bool false) (r_mov rfl) ?_
  refine o_no (want_f (t:=170) rfl rfl rfl) rfl ?_
  refine o_w (v:=.bool false) (r_pickF rfl rfl rfl) ?_
  refine o_w (v:=.bool false) (r_mov rfl) ?_
  iterate 2 refine o_no (want_f (t:=173) rfl rfl rfl) rfl ?_
  refine o_w (v:=.bool false) (r_pickF rfl rfl rfl) ?_
  refine o_w (v:=.bool false) (r_mov rfl) ?_
  iterate 4 refine o_no (want_f (t:=177) rfl rfl rfl) rfl ?_
  refine o_w (v:=.bool false) (r_pickF rfl rfl rfl) ?_
  refine o_w (v:=.bool false) (r_mov rfl) ?_
  iterate 2 refine o_no (want_f (t:=183) rfl rfl rfl) rfl ?_
  refine o_w (v:=.bool false) (r_pickF rfl rfl rfl) ?_
  refine o_w (v:=.bool false) (r_mov rfl) ?_
  iterate 2 refine o_no (want_f (t:=187) rfl rfl rfl) rfl ?_
  refine o_w (v:=.bool false) (r_pickF rfl rfl rfl) ?_
  refine o_w (v:=.bool false) (r_mov rfl) ?_
  iterate 2 refine o_no (want_f (t:=191) rfl rfl rfl) rfl ?_
  refine o_w (v:=.bool false) (r_pickF rfl rfl rfl) ?_
  refine o_w (v:=.bool false) (r_mov rfl) ?_
  iterate 2 refine o_no (want_f (t:=195) rfl rfl rfl) rfl ?_
  refine o_w (v:=.bool false) (r_pickF rfl rfl rfl) ?_
  refine o_w (v:=.bool false) (r_mov rfl) ?_
  iterate 2 refine o_no (want_f (t:=199) rfl rfl rfl) rfl ?_
  refine o_w (v:=.bool false) (r_pickF rfl rfl rfl) ?_
  refine o_w (v:=.bool false) (r_mov rfl) ?_
  iterate 4 refine o_no (want_f (t:=203) rfl rfl rfl) rfl ?_
  refine o_w (v:=.bool false) (r_pickF rfl rfl rfl) ?_
  refine o_w (v:=.bool false) (r_mov rfl) ?_
  iterate 4 refine o_no (want_f (t:=209) rfl rfl rfl) rfl ?_
  refine o_w (v:=.bool false) (r_pickF rfl rfl rfl) ?_
  refine o_w (v:=.bool false) (r_asg rfl) ?_
  refine eo_nil_sq ?_
  refine ec_ret ?_
  subst h
  exact (end1 rfl ⟨_,rfl,E834,rfl⟩)
end Go.Proofs.YthhjcijhanacnaaGreat
