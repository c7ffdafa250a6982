/- The law of push: its example. -/
import Derived.Test.YthfkbabgkacfnaaCt6
import Derived.Test.YthfkbabgkacfnaaPn
namespace Go.Proofs.Ythfkbabgkacfnaa
open Go Go.RowKit
set_option linter.unusedVariables false
set_option linter.unusedSimpArgs false
def law17_works_raw (y:Bool):Prop :=
 (sml (⟨(1:Int),(2:Int),(5:Int),[(0:Int),(0:Int),(0:Int),(0:Int)],([(⟨([107]:Str),(⟨(3:Int),(0:Int),(0:Int),false,([]:Str),([]:List Int),([]:List Int),(5:Int)⟩:Val)⟩:Ent),(⟨([107]:Str),(⟨(3:Int),(0:Int),(0:Int),false,([]:Str),([]:List Int),([]:List Int),(5:Int)⟩:Val)⟩:Ent),(⟨([107]:Str),(⟨(3:Int),(0:Int),(0:Int),false,([]:Str),([]:List Int),([]:List Int),(5:Int)⟩:Val)⟩:Ent)]:List Ent)⟩:Frm).entries)∧(((⟨(1:Int),(2:Int),(5:Int),[(0:Int),(0:Int),(0:Int),(0:Int)],([(⟨([107]:Str),(⟨(3:Int),(0:Int),(0:Int),false,([]:Str),([]:List Int),([]:List Int),(5:Int)⟩:Val)⟩:Ent),(⟨([107]:Str),(⟨(3:Int),(0:Int),(0:Int),false,([]:Str),([]:List Int),([]:List Int),(5:Int)⟩:Val)⟩:Ent),(⟨([107]:Str),(⟨(3:Int),(0:Int),(0:Int),false,([]:Str),([]:List Int),([]:List Int),(5:Int)⟩:Val)⟩:Ent)]:List Ent)⟩:Frm).entries.length≤1000000)∧(∃ x33,x33=(heardP (⟨(1:Int),(2:Int),(5:Int),[(0:Int),(0:Int),(0:Int),(0:Int)],([(⟨([107]:Str),(⟨(3:Int),(0:Int),(0:Int),false,([]:Str),([]:List Int),([]:List Int),(5:Int)⟩:Val)⟩:Ent),(⟨([107]:Str),(⟨(3:Int),(0:Int),(0:Int),false,([]:Str),([]:List Int),([]:List Int),(5:Int)⟩:Val)⟩:Ent),(⟨([107]:Str),(⟨(3:Int),(0:Int),(0:Int),false,([]:Str),([]:List Int),([]:List Int),(5:Int)⟩:Val)⟩:Ent)]:List Ent)⟩:Frm))∧((smB (⟨(2:Int),(5:Int),([(⟨(3:Int),([107]:Str)⟩:Nm),(⟨(3:Int),([107]:Str)⟩:Nm)]:List Nm)⟩:Buf))∧((sma (⟨(1:Int),([(⟨([107]:Str),(⟨(3:Int),(0:Int),(0:Int),false,([]:Str),([]:List Int),([]:List Int),(5:Int)⟩:Val)⟩:Ent)]:List Ent),([(0:Int)]:List Int)⟩:Arena))∧(∃ x108,x108=(sendP (⟨(2:Int),(5:Int),([(⟨(3:Int),([107]:Str)⟩:Nm),(⟨(3:Int),([107]:Str)⟩:Nm)]:List Nm)⟩:Buf) (⟨(1:Int),([(⟨([107]:Str),(⟨(3:Int),(0:Int),(0:Int),false,([]:Str),([]:List Int),([]:List Int),(5:Int)⟩:Val)⟩:Ent)]:List Ent),([(0:Int)]:List Int)⟩:Arena) (4:Int) (1:Int))∧((sml x108.1.entries)∧((x108.1.entries.length≤1000000)∧(∃ x161,x161=(heardP x108.1)∧((smB (⟨(2:Int),(5:Int),([(⟨(3:Int),([107]:Str)⟩:Nm),(⟨(3:Int),([107]:Str)⟩:Nm)]:List Nm)⟩:Buf))∧((sma (⟨(1:Int),([(⟨([107]:Str),(⟨(3:Int),(0:Int),(0:Int),false,([]:Str),([]:List Int),([]:List Int),(5:Int)⟩:Val)⟩:Ent)]:List Ent),([(0:Int)]:List Int)⟩:Arena))∧((sml x161.1.entries)∧((x161.1.entries.length≤1000000)∧(∃ x222,x222=(doneP (⟨(2:Int),(5:Int),([(⟨(3:Int),([107]:Str)⟩:Nm),(⟨(3:Int),([107]:Str)⟩:Nm)]:List Nm)⟩:Buf) (⟨(1:Int),([(⟨([107]:Str),(⟨(3:Int),(0:Int),(0:Int),false,([]:Str),([]:List Int),([]:List Int),(5:Int)⟩:Val)⟩:Ent)]:List Ent),([(0:Int)]:List Int)⟩:Arena) (4:Int) x161.1)∧((smB (⟨(0:Int),(0:Int),([]:List Nm)⟩:Buf))∧((sma (⟨(1:Int),([(⟨([107]:Str),(⟨(3:Int),(0:Int),(0:Int),false,([]:Str),([]:List Int),([]:List Int),(5:Int)⟩:Val)⟩:Ent)]:List Ent),([(0:Int)]:List Int)⟩:Arena))∧(∃ x292,x292=(sendP (⟨(0:Int),(0:Int),([]:List Nm)⟩:Buf) (⟨(1:Int),([(⟨([107]:Str),(⟨(3:Int),(0:Int),(0:Int),false,([]:Str),([]:List Int),([]:List Int),(5:Int)⟩:Val)⟩:Ent)]:List Ent),([(0:Int)]:List Int)⟩:Arena) (4:Int) (1:Int))∧(y=(((((((((((x33.2&&(x33.1.kind==(2:Int)))&&(x33.1.a==(2:Int)))&&(x33.1.b==(8:Int)))&&x108.2)&&(x108.1.kind==(1:Int)))&&(x108.1.b==(5:Int)))&&((x108.1.entries.length:Int)==(1:Int)))&&x161.2)&&((x222.names.length:Int)==(1:Int)))&&(x222.first==(6:Int)))&&(!x292.2)))))))))))))))))))
set_option maxRecDepth 20000 in
set_option maxHeartbeats 4000000 in
theorem law17_works_c {L:List Nat} {w:World}  (hL:Lt L w) {y:Bool} (h:law17_works_raw y) :
  Calls Try.prog 8 [].toArray w (Ret fun v w'=>Ext w w'∧v=.bool y):=by
 unfold law17_works_raw at h
 refine calls_ec Try.func8 rfl rfl rfl ?_
 refine ec_seq ?_
 refine ec_region ?_
 refine o_w (v:=.bool false) (r_asg rfl) ?_
 refine eo_nil_sq ?_
 refine ec_seq ?_
 refine ec_region ?_
 refine o_w (v:=.agg #[.int .i64 (3:Int),.int .i64 (0:Int),.int .i64 (0:Int),.bool false,str ([]:Str),.slice none ([]:List Int).length 0,.slice none ([]:List Int).length 0,.int .u64 (5:Int)]) (r_build bld_api_Value (vs:=[(0,.int .i64 (3:Int)),(7,.int .u64 (5:Int))]) (cells:=[.int .i64 (3:Int),.int .i64 (0:Int),.int .i64 (0:Int),.bool false,str ([]:Str),.slice none ([]:List Int).length 0,.slice none ([]:List Int).length 0,.int .u64 (5:Int)]) rfl rfl) ?_
 refine o_w (v:=.agg #[str ([107]:Str),.int .i64 (3:Int),.int .i64 (0:Int),.int .i64 (0:Int),.bool false,str ([]:Str),.slice none ([]:List Int).length 0,.slice none ([]:List Int).length 0,.int .u64 (5:Int)]) (r_build bld_api_Entry (vs:=[(0,str ([107]:Str)),(1,.agg #[.int .i64 (3:Int),.int .i64 (0:Int),.int .i64 (0:Int),.bool false,str ([]:Str),.slice none ([]:List Int).length 0,.slice none ([]:List Int).length 0,.int .u64 (5:Int)])]) (cells:=[str ([107]:Str),.int .i64 (3:Int),.int .i64 (0:Int),.int .i64 (0:Int),.bool false,str ([]:Str),.slice none ([]:List Int).length 0,.slice none ([]:List Int).length 0,.int .u64 (5:Int)]) rfl rfl) ?_
 refine o_alloc zero_api_Entry rfl rfl rfl ?_
 intro b1 w1 e1 F1 B1
 have n1:w.heap.size≤b1:=Nat.le_of_eq e1.symm
 refine o_store rfl B1 (vs:=[str ([107]:Str),.int .i64 (3:Int),.int .i64 (0:Int),.int .i64 (0:Int),.bool false,str ([]:Str),.slice none ([]:List Int).length 0,.slice none ([]:List Int).length 0,.int .u64 (5:Int)]) rfl sz_api_Entry rfl rfl rfl ?_
 intro w2 F2 B2
 have E3:=Ext.st F1 F2 (by simp; omega)
 have B2':Blk w2 b1 _ [str ([107]:Str),.int .i64 (3:Int),.int .i64 (0:Int),.int .i64 (0:Int),.bool false,str ([]:Str),.slice none ([]:List Int).length 0,.slice none ([]:List Int).length 0,.int .u64 (5:Int)]:=B2
 refine eo_nil_sq ?_
 refine ec_seq ?_
 refine ec_region ?_
 refine o_w (v:=.agg #[str ([107]:Str),.int .i64 (3:Int),.int .i64 (0:Int),.int .i64 (0:Int),.bool false,str ([]:Str),.slice none ([]:List Int).length 0,.slice none ([]:List Int).length 0,.int .u64 (5:Int)]) (r_lda agg_api_Entry rfl (vs:=[str ([107]:Str),.int .i64 (3:Int),.int .i64 (0:Int),.int .i64 (0:Int),.bool false,str ([]:Str),.slice none ([]:List Int).length 0,.slice none ([]:List Int).length 0,.int .u64 (5:Int)]) rfl (B2'.part (n:=9) rfl)) ?_
 refine o_bslice slc_s_api_Entry rfl (vs:=[.agg #[str ([107]:Str),.int .i64 (3:Int),.int .i64 (0:Int),.int .i64 (0:Int),.bool false,str ([]:Str),.slice none ([]:List Int).length 0,.slice none ([]:List Int).length 0,.int .u64 (5:Int)]]) rfl rfl rfl (cs:=[str ([107]:Str),.int .i64 (3:Int),.int .i64 (0:Int),.int .i64 (0:Int),.bool false,str ([]:Str),.slice none ([]:List Int).length 0,.slice none ([]:List Int).length 0,.int .u64 (5:Int)]) rfl rfl rfl rfl ?_
 intro b4 w4 e4 F4 B4
 have N4:=nin ((hL.fr E3).cons B2'.lt) e4
 have S4:=B4.stb N4
 have E5:=E3.trans F4
 refine o_bslice slc_s_int rfl (vs:=[.int .i64 (0:Int)]) rfl rfl rfl (cs:=[.int .i64 (0:Int)]) rfl rfl rfl rfl ?_
 intro b7 w7 e7 F7 B7
 have N7:=nin ((hL.fr E5).cons (B2'.ex F4).lt) e7
 have S7:=B7.stb N7
 have E8:=E5.trans F7
 have G9:Fr (b1::L) w4 w7:=Fr.ext F7
 have H11:Stb (b1::L) w7 (fun w=>SlC kEnt w (some ⟨b4,0,none⟩) 1 ([(⟨([107]:Str),(⟨(3:Int),(0:Int),(0:Int),false,([]:Str),([]:List Int),([]:List Int),(5:Int)⟩:Val)⟩:Ent)]:List Ent)):=bs_seal (S4.fr G9 (fun _ h=>h)).now N4 rfl (rowd1 (cs:=[str ([107]:Str),.int .i64 (3:Int),.int .i64 (0:Int),.int .i64 (0:Int),.bool false,str ([]:Str),.slice none ([]:List Int).length 0,.slice none ([]:List Int).length 0,.int .u64 (5:Int)]) (kEnt_mk (d:=(⟨([107]:Str),(⟨(3:Int),(0:Int),(0:Int),false,([]:Str),([]:List Int),([]:List Int),(5:Int)⟩:Val)⟩:Ent)) stb_nil stb_nil) rfl)
 have H12:Stb (b1::L) w7 (fun w=>SlC (kI .i64) w (some ⟨b7,0,none⟩) 1 ([(0:Int)]:List Int)):=bs_seal S7.now N7 rfl (rowd1 (cs:=[.int .i64 (0:Int)]) (fun _ _=>rfl) rfl)
 refine o_w (v:=.agg #[.int .i64 (1:Int),.slice (some ⟨b4,0,none⟩) ([(⟨([107]:Str),(⟨(3:Int),(0:Int),(0:Int),false,([]:Str),([]:List Int),([]:List Int),(5:Int)⟩:Val)⟩:Ent)]:List Ent).length 1,.slice (some ⟨b7,0,none⟩) ([(0:Int)]:List Int).length 1]) (r_build bld_api_Arena (vs:=[(0,.int .i64 (1:Int)),(1,.slice (some ⟨b4,0,none⟩) 1 1),(2,.slice (some ⟨b7,0,none⟩) 1 1)]) (cells:=[.int .i64 (1:Int),.slice (some ⟨b4,0,none⟩) ([(⟨([107]:Str),(⟨(3:Int),(0:Int),(0:Int),false,([]:Str),([]:List Int),([]:List Int),(5:Int)⟩:Val)⟩:Ent)]:List Ent).length 1,.slice (some ⟨b7,0,none⟩) ([(0:Int)]:List Int).length 1]) rfl rfl) ?_
 refine o_alloc zero_api_Arena rfl rfl rfl ?_
 intro b13 w13 e13 F13 B13
 have n13:w.heap.size≤b13:=by rw [e13]; exact E8.size
 have q14:b1<b13:=by rw [e13]; exact ((B2'.ex F4).ex F7).lt
 have m16:w7.heap.size≤b13:=Nat.le_of_eq e13.symm
 have E17:=E8.trans F13
 have G19:Fr (b1::L) w7 w13:=Fr.ext F13
 refine o_store rfl B13 (vs:=[.int .i64 (1:Int),.slice (some ⟨b4,0,none⟩) ([(⟨([107]:Str),(⟨(3:Int),(0:Int),(0:Int),false,([]:Str),([]:List Int),([]:List Int),(5:Int)⟩:Val)⟩:Ent)]:List Ent).length 1,.slice (some ⟨b7,0,none⟩) ([(0:Int)]:List Int).length 1]) rfl sz_api_Arena rfl rfl rfl ?_
 intro w21 F21 B21
 have E22:=Ext.st E17 F21 (by simp; omega)
 have G24:Fr (b1::L) w7 w21:=G19.stp F21 (upc (.inr m16) (fun m hm=>by cases hm))
 have B25:=(((B2'.ex F4).ex F7).ex F13).fr F21 (by simp; omega)
 have B21':Blk w21 b13 _ [.int .i64 (1:Int),.slice (some ⟨b4,0,none⟩) ([(⟨([107]:Str),(⟨(3:Int),(0:Int),(0:Int),false,([]:Str),([]:List Int),([]:List Int),(5:Int)⟩:Val)⟩:Ent)]:List Ent).length 1,.slice (some ⟨b7,0,none⟩) ([(0:Int)]:List Int).length 1]:=B21
 refine eo_nil_sq ?_
 refine ec_seq ?_
 refine ec_region ?_
 iterate 3 refine o_w (v:=.agg #[str ([107]:Str),.int .i64 (3:Int),.int .i64 (0:Int),.int .i64 (0:Int),.bool false,str ([]:Str),.slice none ([]:List Int).length 0,.slice none ([]:List Int).length 0,.int .u64 (5:Int)]) (r_lda agg_api_Entry rfl (vs:=[str ([107]:Str),.int .i64 (3:Int),.int .i64 (0:Int),.int .i64 (0:Int),.bool false,str ([]:Str),.slice none ([]:List Int).length 0,.slice none ([]:List Int).length 0,.int .u64 (5:Int)]) rfl (B25.part (n:=9) rfl)) ?_
 refine o_bslice slc_s_api_Entry rfl (vs:=[.agg #[str ([107]:Str),.int .i64 (3:Int),.int .i64 (0:Int),.int .i64 (0:Int),.bool false,str ([]:Str),.slice none ([]:List Int).length 0,.slice none ([]:List Int).length 0,.int .u64 (5:Int)],.agg #[str ([107]:Str),.int .i64 (3:Int),.int .i64 (0:Int),.int .i64 (0:Int),.bool false,str ([]:Str),.slice none ([]:List Int).length 0,.slice none ([]:List Int).length 0,.int .u64 (5:Int)],.agg #[str ([107]:Str),.int .i64 (3:Int),.int .i64 (0:Int),.int .i64 (0:Int),.bool false,str ([]:Str),.slice none ([]:List Int).length 0,.slice none ([]:List Int).length 0,.int .u64 (5:Int)]]) rfl rfl rfl (cs:=[str ([107]:Str),.int .i64 (3:Int),.int .i64 (0:Int),.int .i64 (0:Int),.bool false,str ([]:Str),.slice none ([]:List Int).length 0,.slice none ([]:List Int).length 0,.int .u64 (5:Int),str ([107]:Str),.int .i64 (3:Int),.int .i64 (0:Int),.int .i64 (0:Int),.bool false,str ([]:Str),.slice none ([]:List Int).length 0,.slice none ([]:List Int).length 0,.int .u64 (5:Int),str ([107]:Str),.int .i64 (3:Int),.int .i64 (0:Int),.int .i64 (0:Int),.bool false,str ([]:Str),.slice none ([]:List Int).length 0,.slice none ([]:List Int).length 0,.int .u64 (5:Int)]) rfl rfl rfl rfl ?_
 intro b26 w26 e26 F26 B26
 have N26:=nin (((hL.fr E22).cons B25.lt).cons B21'.lt) e26
 have S26:=B26.stb N26
 have E27:=E22.trans F26
 have H32:Stb (b13::(b1::L)) w26 (fun w=>SlC kEnt w (some ⟨b26,0,none⟩) 3 ([(⟨([107]:Str),(⟨(3:Int),(0:Int),(0:Int),false,([]:Str),([]:List Int),([]:List Int),(5:Int)⟩:Val)⟩:Ent),(⟨([107]:Str),(⟨(3:Int),(0:Int),(0:Int),false,([]:Str),([]:List Int),([]:List Int),(5:Int)⟩:Val)⟩:Ent),(⟨([107]:Str),(⟨(3:Int),(0:Int),(0:Int),false,([]:Str),([]:List Int),([]:List Int),(5:Int)⟩:Val)⟩:Ent)]:List Ent)):=bs_seal S26.now N26 rfl (rowd_cons (cs:=[str ([107]:Str),.int .i64 (3:Int),.int .i64 (0:Int),.int .i64 (0:Int),.bool false,str ([]:Str),.slice none ([]:List Int).length 0,.slice none ([]:List Int).length 0,.int .u64 (5:Int)]) (kEnt_mk (d:=(⟨([107]:Str),(⟨(3:Int),(0:Int),(0:Int),false,([]:Str),([]:List Int),([]:List Int),(5:Int)⟩:Val)⟩:Ent)) stb_nil stb_nil) rfl (rowd_cons (cs:=[str ([107]:Str),.int .i64 (3:Int),.int .i64 (0:Int),.int .i64 (0:Int),.bool false,str ([]:Str),.slice none ([]:List Int).length 0,.slice none ([]:List Int).length 0,.int .u64 (5:Int)]) (kEnt_mk (d:=(⟨([107]:Str),(⟨(3:Int),(0:Int),(0:Int),false,([]:Str),([]:List Int),([]:List Int),(5:Int)⟩:Val)⟩:Ent)) stb_nil stb_nil) rfl (rowd1 (cs:=[str ([107]:Str),.int .i64 (3:Int),.int .i64 (0:Int),.int .i64 (0:Int),.bool false,str ([]:Str),.slice none ([]:List Int).length 0,.slice none ([]:List Int).length 0,.int .u64 (5:Int)]) (kEnt_mk (d:=(⟨([107]:Str),(⟨(3:Int),(0:Int),(0:Int),false,([]:Str),([]:List Int),([]:List Int),(5:Int)⟩:Val)⟩:Ent)) stb_nil stb_nil) rfl)))
 refine o_w (v:=.agg #[.int .i64 (1:Int),.int .i64 (2:Int),.int .i64 (5:Int),.int .i64 (0:Int),.int .i64 (0:Int),.int .i64 (0:Int),.int .i64 (0:Int),.slice (some ⟨b26,0,none⟩) ([(⟨([107]:Str),(⟨(3:Int),(0:Int),(0:Int),false,([]:Str),([]:List Int),([]:List Int),(5:Int)⟩:Val)⟩:Ent),(⟨([107]:Str),(⟨(3:Int),(0:Int),(0:Int),false,([]:Str),([]:List Int),([]:List Int),(5:Int)⟩:Val)⟩:Ent),(⟨([107]:Str),(⟨(3:Int),(0:Int),(0:Int),false,([]:Str),([]:List Int),([]:List Int),(5:Int)⟩:Val)⟩:Ent)]:List Ent).length 3]) (r_build bld_frame_Frame (vs:=[(0,.int .i64 (1:Int)),(1,.int .i64 (2:Int)),(2,.int .i64 (5:Int)),(4,.slice (some ⟨b26,0,none⟩) 3 3)]) (cells:=[.int .i64 (1:Int),.int .i64 (2:Int),.int .i64 (5:Int),.int .i64 (0:Int),.int .i64 (0:Int),.int .i64 (0:Int),.int .i64 (0:Int),.slice (some ⟨b26,0,none⟩) ([(⟨([107]:Str),(⟨(3:Int),(0:Int),(0:Int),false,([]:Str),([]:List Int),([]:List Int),(5:Int)⟩:Val)⟩:Ent),(⟨([107]:Str),(⟨(3:Int),(0:Int),(0:Int),false,([]:Str),([]:List Int),([]:List Int),(5:Int)⟩:Val)⟩:Ent),(⟨([107]:Str),(⟨(3:Int),(0:Int),(0:Int),false,([]:Str),([]:List Int),([]:List Int),(5:Int)⟩:Val)⟩:Ent)]:List Ent).length 3]) rfl rfl) ?_
 obtain ⟨ha34,h⟩:=h
 obtain ⟨ha35,h⟩:=h
 obtain ⟨x33,hx33,h⟩:=h
 refine o_call cf_push_Heard rfl (push_Heard_c (⟨(1:Int),(2:Int),(5:Int),[(0:Int),(0:Int),(0:Int),(0:Int)],([(⟨([107]:Str),(⟨(3:Int),(0:Int),(0:Int),false,([]:Str),([]:List Int),([]:List Int),(5:Int)⟩:Val)⟩:Ent),(⟨([107]:Str),(⟨(3:Int),(0:Int),(0:Int),false,([]:Str),([]:List Int),([]:List Int),(5:Int)⟩:Val)⟩:Ent),(⟨([107]:Str),(⟨(3:Int),(0:Int),(0:Int),false,([]:Str),([]:List Int),([]:List Int),(5:Int)⟩:Val)⟩:Ent)]:List Ent)⟩:Frm) (kFrm_mk (d:=(⟨(1:Int),(2:Int),(5:Int),[(0:Int),(0:Int),(0:Int),(0:Int)],([(⟨([107]:Str),(⟨(3:Int),(0:Int),(0:Int),false,([]:Str),([]:List Int),([]:List Int),(5:Int)⟩:Val)⟩:Ent),(⟨([107]:Str),(⟨(3:Int),(0:Int),(0:Int),false,([]:Str),([]:List Int),([]:List Int),(5:Int)⟩:Val)⟩:Ent),(⟨([107]:Str),(⟨(3:Int),(0:Int),(0:Int),false,([]:Str),([]:List Int),([]:List Int),(5:Int)⟩:Val)⟩:Ent)]:List Ent)⟩:Frm)) H32 rfl) (((hL.fr E27).cons (B25.ex F26).lt).cons (B21'.ex F26).lt) (eq_ev hx33 (puHeard_ev (⟨(1:Int),(2:Int),(5:Int),[(0:Int),(0:Int),(0:Int),(0:Int)],([(⟨([107]:Str),(⟨(3:Int),(0:Int),(0:Int),false,([]:Str),([]:List Int),([]:List Int),(5:Int)⟩:Val)⟩:Ent),(⟨([107]:Str),(⟨(3:Int),(0:Int),(0:Int),false,([]:Str),([]:List Int),([]:List Int),(5:Int)⟩:Val)⟩:Ent),(⟨([107]:Str),(⟨(3:Int),(0:Int),(0:Int),false,([]:Str),([]:List Int),([]:List Int),(5:Int)⟩:Val)⟩:Ent)]:List Ent)⟩:Frm) ha34 ha35))) rfl rfl ?_
 rintro _ w33 ⟨F33,cs36,rfl,H37⟩
 have E38:=E27.trans F33
 obtain ⟨A45,c46,rfl,H47,hl44⟩:=kFrm_open H37
 refine o_w (v:=.tuple #[.agg (cFrm x33.1 A45 c46).toArray,.bool x33.2]) (r_mov rfl) ?_
 refine o_w (v:=.agg (cFrm x33.1 A45 c46).toArray) (r_ext rfl rfl) ?_
 refine o_w (v:=.bool x33.2) (r_ext rfl rfl) ?_
 refine o_alloc zero_frame_Frame rfl rfl rfl ?_
 intro b48 w48 e48 F48 B48
 have n48:w.heap.size≤b48:=by rw [e48]; exact E38.size
 have q49:b1<b48:=by rw [e48]; exact ((B25.ex F26).ex F33).lt
 have q50:b13<b48:=by rw [e48]; exact ((B21'.ex F26).ex F33).lt
 have m52:w7.heap.size≤b48:=by rw [e48]; exact ((G24.trans (Fr.ext F26)).trans (Fr.ext F33)).size
 have E55:=E38.trans F48
 refine o_store rfl B48 (vs:=(cFrm x33.1 A45 c46)) rfl sz_frame_Frame rfl rfl rfl ?_
 intro w62 F62 B62
 have E63:=Ext.st E55 F62 (by simp; omega)
 have G65:Fr (b1::L) w7 w62:=(((G24.trans (Fr.ext F26)).trans (Fr.ext F33)).trans (Fr.ext F48)).stp F62 (upc (.inr m52) (fun m hm=>by cases hm))
 have B68:=(((B25.ex F26).ex F33).ex F48).fr F62 (by simp; omega)
 have B69:=(((B21'.ex F26).ex F33).ex F48).fr F62 (by simp; omega)
 have B62':Blk w62 b48 _ (cFrm x33.1 A45 c46):=B62
 refine o_w (v:=.bool x33.2) (r_asg rfl) ?_
 refine eo_nil_sq ?_
 refine ec_seq ?_
 refine ec_region ?_
 iterate 2 refine o_w (v:=.agg #[.int .i64 (3:Int),str ([107]:Str)]) (r_build bld_buffer_Name (vs:=[(0,.int .i64 (3:Int)),(1,str ([107]:Str))]) (cells:=[.int .i64 (3:Int),str ([107]:Str)]) rfl rfl) ?_
 refine o_bslice slc_s_buffer_Name rfl (vs:=[.agg #[.int .i64 (3:Int),str ([107]:Str)],.agg #[.int .i64 (3:Int),str ([107]:Str)]]) rfl rfl rfl (cs:=[.int .i64 (3:Int),str ([107]:Str),.int .i64 (3:Int),str ([107]:Str)]) rfl rfl rfl rfl ?_
 intro b70 w70 e70 F70 B70
 have N70:=nin ((((hL.fr E63).cons B68.lt).cons B69.lt).cons B62'.lt) e70
 have S70:=B70.stb N70
 have E71:=E63.trans F70
 have H79:Stb (b48::(b13::(b1::L))) w70 (fun w=>SlC kNm w (some ⟨b70,0,none⟩) 2 ([(⟨(3:Int),([107]:Str)⟩:Nm),(⟨(3:Int),([107]:Str)⟩:Nm)]:List Nm)):=bs_seal S70.now N70 rfl (rowd_cons (cs:=[.int .i64 (3:Int),str ([107]:Str)]) (kNm_mk (d:=(⟨(3:Int),([107]:Str)⟩:Nm))) rfl (rowd1 (cs:=[.int .i64 (3:Int),str ([107]:Str)]) (kNm_mk (d:=(⟨(3:Int),([107]:Str)⟩:Nm))) rfl))
 refine o_w (v:=.agg #[.int .i64 (2:Int),.int .i64 (5:Int),.slice (some ⟨b70,0,none⟩) ([(⟨(3:Int),([107]:Str)⟩:Nm),(⟨(3:Int),([107]:Str)⟩:Nm)]:List Nm).length 2]) (r_build bld_buffer_Buffer (vs:=[(0,.int .i64 (2:Int)),(1,.int .i64 (5:Int)),(2,.slice (some ⟨b70,0,none⟩) 2 2)]) (cells:=[.int .i64 (2:Int),.int .i64 (5:Int),.slice (some ⟨b70,0,none⟩) ([(⟨(3:Int),([107]:Str)⟩:Nm),(⟨(3:Int),([107]:Str)⟩:Nm)]:List Nm).length 2]) rfl rfl) ?_
 refine o_alloc zero_buffer_Buffer rfl rfl rfl ?_
 intro b80 w80 e80 F80 B80
 have n80:w.heap.size≤b80:=by rw [e80]; exact E71.size
 have q81:b1<b80:=by rw [e80]; exact (B68.ex F70).lt
 have q82:b13<b80:=by rw [e80]; exact (B69.ex F70).lt
 have q83:b48<b80:=by rw [e80]; exact (B62'.ex F70).lt
 have m85:w7.heap.size≤b80:=by rw [e80]; exact (G65.trans (Fr.ext F70)).size
 have m88:w70.heap.size≤b80:=Nat.le_of_eq e80.symm
 have E89:=E71.trans F80
 have G94:Fr (b48::(b13::(b1::L))) w70 w80:=Fr.ext F80
 refine o_store rfl B80 (vs:=[.int .i64 (2:Int),.int .i64 (5:Int),.slice (some ⟨b70,0,none⟩) ([(⟨(3:Int),([107]:Str)⟩:Nm),(⟨(3:Int),([107]:Str)⟩:Nm)]:List Nm).length 2]) rfl sz_buffer_Buffer rfl rfl rfl ?_
 intro w98 F98 B98
 have E99:=Ext.st E89 F98 (by simp; omega)
 have G101:Fr (b1::L) w7 w98:=((G65.trans (Fr.ext F70)).trans (Fr.ext F80)).stp F98 (upc (.inr m85) (fun m hm=>by cases hm))
 have G104:Fr (b48::(b13::(b1::L))) w70 w98:=G94.stp F98 (upc (.inr m88) (fun m hm=>by cases hm))
 have B105:=((B68.ex F70).ex F80).fr F98 (by simp; omega)
 have B106:=((B69.ex F70).ex F80).fr F98 (by simp; omega)
 have B107:=((B62'.ex F70).ex F80).fr F98 (by simp; omega)
 have B98':Blk w98 b80 _ [.int .i64 (2:Int),.int .i64 (5:Int),.slice (some ⟨b70,0,none⟩) ([(⟨(3:Int),([107]:Str)⟩:Nm),(⟨(3:Int),([107]:Str)⟩:Nm)]:List Nm).length 2]:=B98
 refine eo_nil_sq ?_
 refine ec_seq ?_
 refine ec_region ?_
 refine o_w (v:=.agg #[.int .i64 (2:Int),.int .i64 (5:Int),.slice (some ⟨b70,0,none⟩) ([(⟨(3:Int),([107]:Str)⟩:Nm),(⟨(3:Int),([107]:Str)⟩:Nm)]:List Nm).length 2]) (r_lda agg_buffer_Buffer rfl (vs:=[.int .i64 (2:Int),.int .i64 (5:Int),.slice (some ⟨b70,0,none⟩) ([(⟨(3:Int),([107]:Str)⟩:Nm),(⟨(3:Int),([107]:Str)⟩:Nm)]:List Nm).length 2]) rfl (B98'.part (n:=3) rfl)) ?_
 refine o_w (v:=.agg #[.int .i64 (1:Int),.slice (some ⟨b4,0,none⟩) ([(⟨([107]:Str),(⟨(3:Int),(0:Int),(0:Int),false,([]:Str),([]:List Int),([]:List Int),(5:Int)⟩:Val)⟩:Ent)]:List Ent).length 1,.slice (some ⟨b7,0,none⟩) ([(0:Int)]:List Int).length 1]) (r_lda agg_api_Arena rfl (vs:=[.int .i64 (1:Int),.slice (some ⟨b4,0,none⟩) ([(⟨([107]:Str),(⟨(3:Int),(0:Int),(0:Int),false,([]:Str),([]:List Int),([]:List Int),(5:Int)⟩:Val)⟩:Ent)]:List Ent).length 1,.slice (some ⟨b7,0,none⟩) ([(0:Int)]:List Int).length 1]) rfl (B106.part (n:=3) rfl)) ?_
 obtain ⟨ha109,h⟩:=h
 obtain ⟨ha110,h⟩:=h
 obtain ⟨x108,hx108,h⟩:=h
 refine o_call cf_push_Send rfl (push_Send_c (⟨(2:Int),(5:Int),([(⟨(3:Int),([107]:Str)⟩:Nm),(⟨(3:Int),([107]:Str)⟩:Nm)]:List Nm)⟩:Buf) (kBuf_mk (d:=(⟨(2:Int),(5:Int),([(⟨(3:Int),([107]:Str)⟩:Nm),(⟨(3:Int),([107]:Str)⟩:Nm)]:List Nm)⟩:Buf)) (H79.up G104 (fun _ h=>h) (upc (.inr m88) (upc (.inl (List.Mem.head _)) (upc (.inl (List.Mem.tail _ (List.Mem.head _))) (upc (.inl (List.Mem.tail _ (List.Mem.tail _ (List.Mem.head _)))) (fun m hm=>Or.inl (List.Mem.tail _ (List.Mem.tail _ (List.Mem.tail _ hm)))))))))) (⟨(1:Int),([(⟨([107]:Str),(⟨(3:Int),(0:Int),(0:Int),false,([]:Str),([]:List Int),([]:List Int),(5:Int)⟩:Val)⟩:Ent)]:List Ent),([(0:Int)]:List Int)⟩:Arena) (kArena_mk (d:=(⟨(1:Int),([(⟨([107]:Str),(⟨(3:Int),(0:Int),(0:Int),false,([]:Str),([]:List Int),([]:List Int),(5:Int)⟩:Val)⟩:Ent)]:List Ent),([(0:Int)]:List Int)⟩:Arena)) (H11.up G101 (fun _ h=>h) (upc (.inr m85) (upc (.inr m52) (upc (.inr m16) (upc (.inl (List.Mem.head _)) (fun m hm=>Or.inl (List.Mem.tail _ hm))))))) (H12.up G101 (fun _ h=>h) (upc (.inr m85) (upc (.inr m52) (upc (.inr m16) (upc (.inl (List.Mem.head _)) (fun m hm=>Or.inl (List.Mem.tail _ hm)))))))) (4:Int) (1:Int) (((((hL.fr E99).cons B105.lt).cons B106.lt).cons B107.lt).cons B98'.lt) (eq_ev hx108 (puSend_ev (⟨(2:Int),(5:Int),([(⟨(3:Int),([107]:Str)⟩:Nm),(⟨(3:Int),([107]:Str)⟩:Nm)]:List Nm)⟩:Buf) (⟨(1:Int),([(⟨([107]:Str),(⟨(3:Int),(0:Int),(0:Int),false,([]:Str),([]:List Int),([]:List Int),(5:Int)⟩:Val)⟩:Ent)]:List Ent),([(0:Int)]:List Int)⟩:Arena) (4:Int) (1:Int) ha109 ha110))) rfl rfl ?_
 rintro _ w108 ⟨F108,cs111,rfl,H112⟩
 have E113:=E99.trans F108
 obtain ⟨A124,c125,rfl,H126,hl123⟩:=kFrm_open H112
 refine o_w (v:=.tuple #[.agg (cFrm x108.1 A124 c125).toArray,.bool x108.2]) (r_mov rfl) ?_
 refine o_w (v:=.agg (cFrm x108.1 A124 c125).toArray) (r_ext rfl rfl) ?_
 refine o_w (v:=.bool x108.2) (r_ext rfl rfl) ?_
 refine o_alloc zero_frame_Frame rfl rfl rfl ?_
 intro b127 w127 e127 F127 B127
 have n127:w.heap.size≤b127:=by rw [e127]; exact E113.size
 have q128:b1<b127:=by rw [e127]; exact (B105.ex F108).lt
 have q129:b13<b127:=by rw [e127]; exact (B106.ex F108).lt
 have q130:b48<b127:=by rw [e127]; exact (B107.ex F108).lt
 have q131:b80<b127:=by rw [e127]; exact (B98'.ex F108).lt
 have m133:w7.heap.size≤b127:=by rw [e127]; exact (G101.trans (Fr.ext F108)).size
 have m136:w70.heap.size≤b127:=by rw [e127]; exact (G104.trans (Fr.ext F108)).size
 have m137:w108.heap.size≤b127:=Nat.le_of_eq e127.symm
 have E138:=E113.trans F127
 have G144:Fr (b80::(b48::(b13::(b1::L)))) w108 w127:=Fr.ext F127
 refine o_store rfl B127 (vs:=(cFrm x108.1 A124 c125)) rfl sz_frame_Frame rfl rfl rfl ?_
 intro w149 F149 B149
 have E150:=Ext.st E138 F149 (by simp; omega)
 have G152:Fr (b1::L) w7 w149:=((G101.trans (Fr.ext F108)).trans (Fr.ext F127)).stp F149 (upc (.inr m133) (fun m hm=>by cases hm))
 have G155:Fr (b48::(b13::(b1::L))) w70 w149:=((G104.trans (Fr.ext F108)).trans (Fr.ext F127)).stp F149 (upc (.inr m136) (fun m hm=>by cases hm))
 have G156:Fr (b80::(b48::(b13::(b1::L)))) w108 w149:=G144.stp F149 (upc (.inr m137) (fun m hm=>by cases hm))
 have B157:=((B105.ex F108).ex F127).fr F149 (by simp; omega)
 have B158:=((B106.ex F108).ex F127).fr F149 (by simp; omega)
 have B159:=((B107.ex F108).ex F127).fr F149 (by simp; omega)
 have B160:=((B98'.ex F108).ex F127).fr F149 (by simp; omega)
 have B149':Blk w149 b127 _ (cFrm x108.1 A124 c125):=B149
 refine o_w (v:=.bool x108.2) (r_asg rfl) ?_
 refine eo_nil_sq ?_
 refine ec_seq ?_
 refine ec_region ?_
 refine o_w (v:=.agg (cFrm x108.1 A124 c125).toArray) (r_lda agg_frame_Frame rfl (vs:=(cFrm x108.1 A124 c125)) rfl (B149'.part (n:=8) rfl)) ?_
 obtain ⟨ha162,h⟩:=h
 obtain ⟨ha163,h⟩:=h
 obtain ⟨x161,hx161,h⟩:=h
 refine o_call cf_push_Heard rfl (push_Heard_c x108.1 (kFrm_mk (d:=x108.1) (H126.up G156 (fun _ h=>h) (upc (.inr m137) (upc (.inl (List.Mem.head _)) (upc (.inl (List.Mem.tail _ (List.Mem.head _))) (upc (.inl (List.Mem.tail _ (List.Mem.tail _ (List.Mem.head _)))) (upc (.inl (List.Mem.tail _ (List.Mem.tail _ (List.Mem.tail _ (List.Mem.head _))))) (fun m hm=>Or.inl (List.Mem.tail _ (List.Mem.tail _ (List.Mem.tail _ (List.Mem.tail _ hm))))))))))) hl123) ((((((hL.fr E150).cons B157.lt).cons B158.lt).cons B159.lt).cons B160.lt).cons B149'.lt) (eq_ev hx161 (puHeard_ev x108.1 ha162 ha163))) rfl rfl ?_
 rintro _ w161 ⟨F161,cs164,rfl,H165⟩
 have E166:=E150.trans F161
 obtain ⟨A179,c180,rfl,H181,hl178⟩:=kFrm_open H165
 refine o_w (v:=.tuple #[.agg (cFrm x161.1 A179 c180).toArray,.bool x161.2]) (r_mov rfl) ?_
 refine o_w (v:=.agg (cFrm x161.1 A179 c180).toArray) (r_ext rfl rfl) ?_
 refine o_w (v:=.bool x161.2) (r_ext rfl rfl) ?_
 refine o_alloc zero_frame_Frame rfl rfl rfl ?_
 intro b182 w182 e182 F182 B182
 have n182:w.heap.size≤b182:=by rw [e182]; exact E166.size
 have q183:b1<b182:=by rw [e182]; exact (B157.ex F161).lt
 have q184:b13<b182:=by rw [e182]; exact (B158.ex F161).lt
 have q185:b48<b182:=by rw [e182]; exact (B159.ex F161).lt
 have q186:b80<b182:=by rw [e182]; exact (B160.ex F161).lt
 have q187:b127<b182:=by rw [e182]; exact (B149'.ex F161).lt
 have m189:w7.heap.size≤b182:=by rw [e182]; exact (G152.trans (Fr.ext F161)).size
 have m192:w70.heap.size≤b182:=by rw [e182]; exact (G155.trans (Fr.ext F161)).size
 have m194:w161.heap.size≤b182:=Nat.le_of_eq e182.symm
 have E195:=E166.trans F182
 have G202:Fr (b127::(b80::(b48::(b13::(b1::L))))) w161 w182:=Fr.ext F182
 refine o_store rfl B182 (vs:=(cFrm x161.1 A179 c180)) rfl sz_frame_Frame rfl rfl rfl ?_
 intro w208 F208 B208
 have E209:=Ext.st E195 F208 (by simp; omega)
 have G211:Fr (b1::L) w7 w208:=((G152.trans (Fr.ext F161)).trans (Fr.ext F182)).stp F208 (upc (.inr m189) (fun m hm=>by cases hm))
 have G214:Fr (b48::(b13::(b1::L))) w70 w208:=((G155.trans (Fr.ext F161)).trans (Fr.ext F182)).stp F208 (upc (.inr m192) (fun m hm=>by cases hm))
 have G216:Fr (b127::(b80::(b48::(b13::(b1::L))))) w161 w208:=G202.stp F208 (upc (.inr m194) (fun m hm=>by cases hm))
 have B217:=((B157.ex F161).ex F182).fr F208 (by simp; omega)
 have B218:=((B158.ex F161).ex F182).fr F208 (by simp; omega)
 have B219:=((B159.ex F161).ex F182).fr F208 (by simp; omega)
 have B220:=((B160.ex F161).ex F182).fr F208 (by simp; omega)
 have B221:=((B149'.ex F161).ex F182).fr F208 (by simp; omega)
 have B208':Blk w208 b182 _ (cFrm x161.1 A179 c180):=B208
 refine o_w (v:=.bool x161.2) (r_asg rfl) ?_
 refine eo_nil_sq ?_
 refine ec_seq ?_
 refine ec_region ?_
 refine o_w (v:=.agg #[.int .i64 (2:Int),.int .i64 (5:Int),.slice (some ⟨b70,0,none⟩) ([(⟨(3:Int),([107]:Str)⟩:Nm),(⟨(3:Int),([107]:Str)⟩:Nm)]:List Nm).length 2]) (r_lda agg_buffer_Buffer rfl (vs:=[.int .i64 (2:Int),.int .i64 (5:Int),.slice (some ⟨b70,0,none⟩) ([(⟨(3:Int),([107]:Str)⟩:Nm),(⟨(3:Int),([107]:Str)⟩:Nm)]:List Nm).length 2]) rfl (B220.part (n:=3) rfl)) ?_
 refine o_w (v:=.agg #[.int .i64 (1:Int),.slice (some ⟨b4,0,none⟩) ([(⟨([107]:Str),(⟨(3:Int),(0:Int),(0:Int),false,([]:Str),([]:List Int),([]:List Int),(5:Int)⟩:Val)⟩:Ent)]:List Ent).length 1,.slice (some ⟨b7,0,none⟩) ([(0:Int)]:List Int).length 1]) (r_lda agg_api_Arena rfl (vs:=[.int .i64 (1:Int),.slice (some ⟨b4,0,none⟩) ([(⟨([107]:Str),(⟨(3:Int),(0:Int),(0:Int),false,([]:Str),([]:List Int),([]:List Int),(5:Int)⟩:Val)⟩:Ent)]:List Ent).length 1,.slice (some ⟨b7,0,none⟩) ([(0:Int)]:List Int).length 1]) rfl (B218.part (n:=3) rfl)) ?_
 refine o_w (v:=.agg (cFrm x161.1 A179 c180).toArray) (r_lda agg_frame_Frame rfl (vs:=(cFrm x161.1 A179 c180)) rfl (B208'.part (n:=8) rfl)) ?_
 obtain ⟨ha223,h⟩:=h
 obtain ⟨ha224,h⟩:=h
 obtain ⟨ha225,h⟩:=h
 obtain ⟨ha226,h⟩:=h
 obtain ⟨x222,hx222,h⟩:=h
 refine o_call cf_push_Done rfl (push_Done_c (⟨(2:Int),(5:Int),([(⟨(3:Int),([107]:Str)⟩:Nm),(⟨(3:Int),([107]:Str)⟩:Nm)]:List Nm)⟩:Buf) (kBuf_mk (d:=(⟨(2:Int),(5:Int),([(⟨(3:Int),([107]:Str)⟩:Nm),(⟨(3:Int),([107]:Str)⟩:Nm)]:List Nm)⟩:Buf)) (H79.up G214 (fun _ h=>h) (upc (.inr m192) (upc (.inr m136) (upc (.inr m88) (upc (.inl (List.Mem.head _)) (upc (.inl (List.Mem.tail _ (List.Mem.head _))) (upc (.inl (List.Mem.tail _ (List.Mem.tail _ (List.Mem.head _)))) (fun m hm=>Or.inl (List.Mem.tail _ (List.Mem.tail _ (List.Mem.tail _ hm)))))))))))) (⟨(1:Int),([(⟨([107]:Str),(⟨(3:Int),(0:Int),(0:Int),false,([]:Str),([]:List Int),([]:List Int),(5:Int)⟩:Val)⟩:Ent)]:List Ent),([(0:Int)]:List Int)⟩:Arena) (kArena_mk (d:=(⟨(1:Int),([(⟨([107]:Str),(⟨(3:Int),(0:Int),(0:Int),false,([]:Str),([]:List Int),([]:List Int),(5:Int)⟩:Val)⟩:Ent)]:List Ent),([(0:Int)]:List Int)⟩:Arena)) (H11.up G211 (fun _ h=>h) (upc (.inr m189) (upc (.inr m133) (upc (.inr m85) (upc (.inr m52) (upc (.inr m16) (upc (.inl (List.Mem.head _)) (fun m hm=>Or.inl (List.Mem.tail _ hm))))))))) (H12.up G211 (fun _ h=>h) (upc (.inr m189) (upc (.inr m133) (upc (.inr m85) (upc (.inr m52) (upc (.inr m16) (upc (.inl (List.Mem.head _)) (fun m hm=>Or.inl (List.Mem.tail _ hm)))))))))) (4:Int) x161.1 (kFrm_mk (d:=x161.1) (H181.up G216 (fun _ h=>h) (upc (.inr m194) (upc (.inl (List.Mem.head _)) (upc (.inl (List.Mem.tail _ (List.Mem.head _))) (upc (.inl (List.Mem.tail _ (List.Mem.tail _ (List.Mem.head _)))) (upc (.inl (List.Mem.tail _ (List.Mem.tail _ (List.Mem.tail _ (List.Mem.head _))))) (upc (.inl (List.Mem.tail _ (List.Mem.tail _ (List.Mem.tail _ (List.Mem.tail _ (List.Mem.head _)))))) (fun m hm=>Or.inl (List.Mem.tail _ (List.Mem.tail _ (List.Mem.tail _ (List.Mem.tail _ (List.Mem.tail _ hm))))))))))))) hl178) (((((((hL.fr E209).cons B217.lt).cons B218.lt).cons B219.lt).cons B220.lt).cons B221.lt).cons B208'.lt) (eq_ev hx222 (puDone_ev (⟨(2:Int),(5:Int),([(⟨(3:Int),([107]:Str)⟩:Nm),(⟨(3:Int),([107]:Str)⟩:Nm)]:List Nm)⟩:Buf) (⟨(1:Int),([(⟨([107]:Str),(⟨(3:Int),(0:Int),(0:Int),false,([]:Str),([]:List Int),([]:List Int),(5:Int)⟩:Val)⟩:Ent)]:List Ent),([(0:Int)]:List Int)⟩:Arena) (4:Int) x161.1 ha223 ha224 ha225 ha226))) rfl rfl ?_
 rintro _ w222 ⟨F222,cs227,rfl,H228⟩
 have E229:=E209.trans F222
 obtain ⟨A243,c244,rfl,H245⟩:=kBuf_open H228
 refine o_alloc zero_buffer_Buffer rfl rfl rfl ?_
 intro b246 w246 e246 F246 B246
 have n246:w.heap.size≤b246:=by rw [e246]; exact E229.size
 have q247:b1<b246:=by rw [e246]; exact (B217.ex F222).lt
 have q248:b13<b246:=by rw [e246]; exact (B218.ex F222).lt
 have q249:b48<b246:=by rw [e246]; exact (B219.ex F222).lt
 have q250:b80<b246:=by rw [e246]; exact (B220.ex F222).lt
 have q251:b127<b246:=by rw [e246]; exact (B221.ex F222).lt
 have q252:b182<b246:=by rw [e246]; exact (B208'.ex F222).lt
 have m254:w7.heap.size≤b246:=by rw [e246]; exact (G211.trans (Fr.ext F222)).size
 have E261:=E229.trans F246
 refine o_store rfl B246 (vs:=(cBuf x222 A243 c244)) rfl sz_buffer_Buffer rfl rfl rfl ?_
 intro w276 F276 B276
 have E277:=Ext.st E261 F276 (by simp; omega)
 have G279:Fr (b1::L) w7 w276:=((G211.trans (Fr.ext F222)).trans (Fr.ext F246)).stp F276 (upc (.inr m254) (fun m hm=>by cases hm))
 have B286:=((B217.ex F222).ex F246).fr F276 (by simp; omega)
 have B287:=((B218.ex F222).ex F246).fr F276 (by simp; omega)
 have B288:=((B219.ex F222).ex F246).fr F276 (by simp; omega)
 have B289:=((B220.ex F222).ex F246).fr F276 (by simp; omega)
 have B290:=((B221.ex F222).ex F246).fr F276 (by simp; omega)
 have B291:=((B208'.ex F222).ex F246).fr F276 (by simp; omega)
 have B276':Blk w276 b246 _ (cBuf x222 A243 c244):=B276
 refine eo_nil_sq ?_
 refine ec_seq ?_
 refine ec_region ?_
 refine o_w (v:=.agg #[.int .i64 (0:Int),.int .i64 (0:Int),.slice none ([]:List Nm).length 0]) (r_build bld_buffer_Buffer (vs:=[]) (cells:=[.int .i64 (0:Int),.int .i64 (0:Int),.slice none ([]:List Nm).length 0]) rfl rfl) ?_
 refine o_w (v:=.agg #[.int .i64 (1:Int),.slice (some ⟨b4,0,none⟩) ([(⟨([107]:Str),(⟨(3:Int),(0:Int),(0:Int),false,([]:Str),([]:List Int),([]:List Int),(5:Int)⟩:Val)⟩:Ent)]:List Ent).length 1,.slice (some ⟨b7,0,none⟩) ([(0:Int)]:List Int).length 1]) (r_lda agg_api_Arena rfl (vs:=[.int .i64 (1:Int),.slice (some ⟨b4,0,none⟩) ([(⟨([107]:Str),(⟨(3:Int),(0:Int),(0:Int),false,([]:Str),([]:List Int),([]:List Int),(5:Int)⟩:Val)⟩:Ent)]:List Ent).length 1,.slice (some ⟨b7,0,none⟩) ([(0:Int)]:List Int).length 1]) rfl (B287.part (n:=3) rfl)) ?_
 obtain ⟨ha293,h⟩:=h
 obtain ⟨ha294,h⟩:=h
 obtain ⟨x292,hx292,h⟩:=h
 refine o_call cf_push_Send rfl (push_Send_c (⟨(0:Int),(0:Int),([]:List Nm)⟩:Buf) (kBuf_mk (d:=(⟨(0:Int),(0:Int),([]:List Nm)⟩:Buf)) stb_nil) (⟨(1:Int),([(⟨([107]:Str),(⟨(3:Int),(0:Int),(0:Int),false,([]:Str),([]:List Int),([]:List Int),(5:Int)⟩:Val)⟩:Ent)]:List Ent),([(0:Int)]:List Int)⟩:Arena) (kArena_mk (d:=(⟨(1:Int),([(⟨([107]:Str),(⟨(3:Int),(0:Int),(0:Int),false,([]:Str),([]:List Int),([]:List Int),(5:Int)⟩:Val)⟩:Ent)]:List Ent),([(0:Int)]:List Int)⟩:Arena)) (H11.up G279 (fun _ h=>h) (upc (.inr m254) (upc (.inr m189) (upc (.inr m133) (upc (.inr m85) (upc (.inr m52) (upc (.inr m16) (upc (.inl (List.Mem.head _)) (fun m hm=>Or.inl (List.Mem.tail _ hm)))))))))) (H12.up G279 (fun _ h=>h) (upc (.inr m254) (upc (.inr m189) (upc (.inr m133) (upc (.inr m85) (upc (.inr m52) (upc (.inr m16) (upc (.inl (List.Mem.head _)) (fun m hm=>Or.inl (List.Mem.tail _ hm))))))))))) (4:Int) (1:Int) ((((((((hL.fr E277).cons B286.lt).cons B287.lt).cons B288.lt).cons B289.lt).cons B290.lt).cons B291.lt).cons B276'.lt) (eq_ev hx292 (puSend_ev (⟨(0:Int),(0:Int),([]:List Nm)⟩:Buf) (⟨(1:Int),([(⟨([107]:Str),(⟨(3:Int),(0:Int),(0:Int),false,([]:Str),([]:List Int),([]:List Int),(5:Int)⟩:Val)⟩:Ent)]:List Ent),([(0:Int)]:List Int)⟩:Arena) (4:Int) (1:Int) ha293 ha294))) rfl rfl ?_
 rintro _ w292 ⟨F292,cs295,rfl,H296⟩
 have E297:=E277.trans F292
 obtain ⟨A314,c315,rfl,H316,hl313⟩:=kFrm_open H296
 refine o_w (v:=.tuple #[.agg (cFrm x292.1 A314 c315).toArray,.bool x292.2]) (r_mov rfl) ?_
 refine o_w (v:=.agg (cFrm x292.1 A314 c315).toArray) (r_ext rfl rfl) ?_
 refine o_w (v:=.bool x292.2) (r_ext rfl rfl) ?_
 refine o_alloc zero_frame_Frame rfl rfl rfl ?_
 intro b317 w317 e317 F317 B317
 have n317:w.heap.size≤b317:=by rw [e317]; exact E297.size
 have q318:b1<b317:=by rw [e317]; exact (B286.ex F292).lt
 have q319:b13<b317:=by rw [e317]; exact (B287.ex F292).lt
 have q320:b48<b317:=by rw [e317]; exact (B288.ex F292).lt
 have q321:b80<b317:=by rw [e317]; exact (B289.ex F292).lt
 have q322:b127<b317:=by rw [e317]; exact (B290.ex F292).lt
 have q323:b182<b317:=by rw [e317]; exact (B291.ex F292).lt
 have q324:b246<b317:=by rw [e317]; exact (B276'.ex F292).lt
 have E334:=E297.trans F317
 refine o_store rfl B317 (vs:=(cFrm x292.1 A314 c315)) rfl sz_frame_Frame rfl rfl rfl ?_
 intro w351 F351 B351
 have E352:=Ext.st E334 F351 (by simp; omega)
 have B364:=((B288.ex F292).ex F317).fr F351 (by simp; omega)
 have B366:=((B290.ex F292).ex F317).fr F351 (by simp; omega)
 have B368:=((B276'.ex F292).ex F317).fr F351 (by simp; omega)
 refine o_w (v:=.bool x292.2) (r_asg rfl) ?_
 refine eo_nil_sq ?_
 refine ec_seq ?_
 refine ec_region ?_
 iterate 2 refine o_w (v:=.bool x33.2) (r_mov rfl) ?_
 refine o_vg (v:=.pointer (some ⟨b48,0,none⟩)) (want_ct (t:=54) rfl rfl) (fun hk=>(r_fa fld_frame_Frame_0 rfl rfl)) rfl rfl ?_
 refine o_vg (v:=.int .i64 x33.1.kind) (want_ct (t:=54) rfl rfl) (fun hk=>(r_ld one_int (gdT hk) (B364.cell rfl))) rfl rfl ?_
 refine o_vg (v:=.bool (x33.1.kind==(2:Int))) (want_ct (t:=54) rfl rfl) (fun hk=>(r_int (gdT hk) rfl rfl)) rfl rfl ?_
 refine o_w (v:=.bool (x33.2&&(x33.1.kind==(2:Int)))) (r_pickAnd rfl (fun ht=>(gdT ht)) rfl) ?_
 refine o_w (v:=.bool (x33.2&&(x33.1.kind==(2:Int)))) (r_mov rfl) ?_
 refine o_vg (v:=.pointer (some ⟨b48,1,none⟩)) (want_ct (t:=59) rfl rfl) (fun hk=>(r_fa fld_frame_Frame_1 rfl rfl)) rfl rfl ?_
 refine o_vg (v:=.int .i64 x33.1.a) (want_ct (t:=59) rfl rfl) (fun hk=>(r_ld one_int (gdT hk) (B364.cell rfl))) rfl rfl ?_
 refine o_vg (v:=.bool (x33.1.a==(2:Int))) (want_ct (t:=59) rfl rfl) (fun hk=>(r_int (gdT hk) rfl rfl)) rfl rfl ?_
 refine o_w (v:=.bool ((x33.2&&(x33.1.kind==(2:Int)))&&(x33.1.a==(2:Int)))) (r_pickAnd rfl (fun ht=>(gdT ht)) rfl) ?_
 refine o_w (v:=.bool ((x33.2&&(x33.1.kind==(2:Int)))&&(x33.1.a==(2:Int)))) (r_mov rfl) ?_
 refine o_vg (v:=.pointer (some ⟨b48,2,none⟩)) (want_ct (t:=64) rfl rfl) (fun hk=>(r_fa fld_frame_Frame_2 rfl rfl)) rfl rfl ?_
 refine o_vg (v:=.int .i64 x33.1.b) (want_ct (t:=64) rfl rfl) (fun hk=>(r_ld one_int (gdT hk) (B364.cell rfl))) rfl rfl ?_
 refine o_vg (v:=.bool (x33.1.b==(8:Int))) (want_ct (t:=64) rfl rfl) (fun hk=>(r_int (gdT hk) rfl rfl)) rfl rfl ?_
 refine o_w (v:=.bool (((x33.2&&(x33.1.kind==(2:Int)))&&(x33.1.a==(2:Int)))&&(x33.1.b==(8:Int)))) (r_pickAnd rfl (fun ht=>(gdT ht)) rfl) ?_
 refine o_w (v:=.bool (((x33.2&&(x33.1.kind==(2:Int)))&&(x33.1.a==(2:Int)))&&(x33.1.b==(8:Int)))) (r_mov rfl) ?_
 refine o_vg (v:=.bool x108.2) (want_ct (t:=69) rfl rfl) (fun hk=>(r_mov rfl)) rfl rfl ?_
 refine o_w (v:=.bool ((((x33.2&&(x33.1.kind==(2:Int)))&&(x33.1.a==(2:Int)))&&(x33.1.b==(8:Int)))&&x108.2)) (r_pickAnd rfl (fun ht=>(gdT ht)) rfl) ?_
 refine o_w (v:=.bool ((((x33.2&&(x33.1.kind==(2:Int)))&&(x33.1.a==(2:Int)))&&(x33.1.b==(8:Int)))&&x108.2)) (r_mov rfl) ?_
 refine o_vg (v:=.pointer (some ⟨b127,0,none⟩)) (want_ct (t:=72) rfl rfl) (fun hk=>(r_fa fld_frame_Frame_0 rfl rfl)) rfl rfl ?_
 refine o_vg (v:=.int .i64 x108.1.kind) (want_ct (t:=72) rfl rfl) (fun hk=>(r_ld one_int (gdT hk) (B366.cell rfl))) rfl rfl ?_
 refine o_vg (v:=.bool (x108.1.kind==(1:Int))) (want_ct (t:=72) rfl rfl) (fun hk=>(r_int (gdT hk) rfl rfl)) rfl rfl ?_
 refine o_w (v:=.bool (((((x33.2&&(x33.1.kind==(2:Int)))&&(x33.1.a==(2:Int)))&&(x33.1.b==(8:Int)))&&x108.2)&&(x108.1.kind==(1:Int)))) (r_pickAnd rfl (fun ht=>(gdT ht)) rfl) ?_
 refine o_w (v:=.bool (((((x33.2&&(x33.1.kind==(2:Int)))&&(x33.1.a==(2:Int)))&&(x33.1.b==(8:Int)))&&x108.2)&&(x108.1.kind==(1:Int)))) (r_mov rfl) ?_
 refine o_vg (v:=.pointer (some ⟨b127,2,none⟩)) (want_ct (t:=77) rfl rfl) (fun hk=>(r_fa fld_frame_Frame_2 rfl rfl)) rfl rfl ?_
 refine o_vg (v:=.int .i64 x108.1.b) (want_ct (t:=77) rfl rfl) (fun hk=>(r_ld one_int (gdT hk) (B366.cell rfl))) rfl rfl ?_
 refine o_vg (v:=.bool (x108.1.b==(5:Int))) (want_ct (t:=77) rfl rfl) (fun hk=>(r_int (gdT hk) rfl rfl)) rfl rfl ?_
 refine o_w (v:=.bool ((((((x33.2&&(x33.1.kind==(2:Int)))&&(x33.1.a==(2:Int)))&&(x33.1.b==(8:Int)))&&x108.2)&&(x108.1.kind==(1:Int)))&&(x108.1.b==(5:Int)))) (r_pickAnd rfl (fun ht=>(gdT ht)) rfl) ?_
 refine o_w (v:=.bool ((((((x33.2&&(x33.1.kind==(2:Int)))&&(x33.1.a==(2:Int)))&&(x33.1.b==(8:Int)))&&x108.2)&&(x108.1.kind==(1:Int)))&&(x108.1.b==(5:Int)))) (r_mov rfl) ?_
 refine o_vg (v:=.pointer (some ⟨b127,7,none⟩)) (want_ct (t:=82) rfl rfl) (fun hk=>(r_fa fld_frame_Frame_4 rfl rfl)) rfl rfl ?_
 refine o_vg (v:=.slice A124 x108.1.entries.length c125) (want_ct (t:=82) rfl rfl) (fun hk=>(r_ld one_s_api_Entry (gdT hk) (B366.cell rfl))) rfl rfl ?_
 refine o_vg (v:=.int .i64 (x108.1.entries.length:Int)) (want_ct (t:=82) rfl rfl) (fun hk=>(r_len_slc un_s_api_Entry (gdT hk))) rfl rfl ?_
 refine o_vg (v:=.bool ((x108.1.entries.length:Int)==(1:Int))) (want_ct (t:=82) rfl rfl) (fun hk=>(r_int (gdT hk) rfl rfl)) rfl rfl ?_
 refine o_w (v:=.bool (((((((x33.2&&(x33.1.kind==(2:Int)))&&(x33.1.a==(2:Int)))&&(x33.1.b==(8:Int)))&&x108.2)&&(x108.1.kind==(1:Int)))&&(x108.1.b==(5:Int)))&&((x108.1.entries.length:Int)==(1:Int)))) (r_pickAnd rfl (fun ht=>(gdT ht)) rfl) ?_
 refine o_w (v:=.bool (((((((x33.2&&(x33.1.kind==(2:Int)))&&(x33.1.a==(2:Int)))&&(x33.1.b==(8:Int)))&&x108.2)&&(x108.1.kind==(1:Int)))&&(x108.1.b==(5:Int)))&&((x108.1.entries.length:Int)==(1:Int)))) (r_mov rfl) ?_
 refine o_vg (v:=.bool x161.2) (want_ct (t:=88) rfl rfl) (fun hk=>(r_mov rfl)) rfl rfl ?_
 refine o_w (v:=.bool ((((((((x33.2&&(x33.1.kind==(2:Int)))&&(x33.1.a==(2:Int)))&&(x33.1.b==(8:Int)))&&x108.2)&&(x108.1.kind==(1:Int)))&&(x108.1.b==(5:Int)))&&((x108.1.entries.length:Int)==(1:Int)))&&x161.2)) (r_pickAnd rfl (fun ht=>(gdT ht)) rfl) ?_
 refine o_w (v:=.bool ((((((((x33.2&&(x33.1.kind==(2:Int)))&&(x33.1.a==(2:Int)))&&(x33.1.b==(8:Int)))&&x108.2)&&(x108.1.kind==(1:Int)))&&(x108.1.b==(5:Int)))&&((x108.1.entries.length:Int)==(1:Int)))&&x161.2)) (r_mov rfl) ?_
 refine o_vg (v:=.pointer (some ⟨b246,2,none⟩)) (want_ct (t:=91) rfl rfl) (fun hk=>(r_fa fld_buffer_Buffer_2 rfl rfl)) rfl rfl ?_
 refine o_vg (v:=.slice A243 x222.names.length c244) (want_ct (t:=91) rfl rfl) (fun hk=>(r_ld one_s_buffer_Name (gdT hk) (B368.cell rfl))) rfl rfl ?_
 refine o_vg (v:=.int .i64 (x222.names.length:Int)) (want_ct (t:=91) rfl rfl) (fun hk=>(r_len_slc un_s_buffer_Name (gdT hk))) rfl rfl ?_
 refine o_vg (v:=.bool ((x222.names.length:Int)==(1:Int))) (want_ct (t:=91) rfl rfl) (fun hk=>(r_int (gdT hk) rfl rfl)) rfl rfl ?_
 refine o_w (v:=.bool (((((((((x33.2&&(x33.1.kind==(2:Int)))&&(x33.1.a==(2:Int)))&&(x33.1.b==(8:Int)))&&x108.2)&&(x108.1.kind==(1:Int)))&&(x108.1.b==(5:Int)))&&((x108.1.entries.length:Int)==(1:Int)))&&x161.2)&&((x222.names.length:Int)==(1:Int)))) (r_pickAnd rfl (fun ht=>(gdT ht)) rfl) ?_
 refine o_w (v:=.bool (((((((((x33.2&&(x33.1.kind==(2:Int)))&&(x33.1.a==(2:Int)))&&(x33.1.b==(8:Int)))&&x108.2)&&(x108.1.kind==(1:Int)))&&(x108.1.b==(5:Int)))&&((x108.1.entries.length:Int)==(1:Int)))&&x161.2)&&((x222.names.length:Int)==(1:Int)))) (r_mov rfl) ?_
 refine o_vg (v:=.pointer (some ⟨b246,1,none⟩)) (want_ct (t:=97) rfl rfl) (fun hk=>(r_fa fld_buffer_Buffer_1 rfl rfl)) rfl rfl ?_
 refine o_vg (v:=.int .i64 x222.first) (want_ct (t:=97) rfl rfl) (fun hk=>(r_ld one_int (gdT hk) (B368.cell rfl))) rfl rfl ?_
 refine o_vg (v:=.bool (x222.first==(6:Int))) (want_ct (t:=97) rfl rfl) (fun hk=>(r_int (gdT hk) rfl rfl)) rfl rfl ?_
 refine o_w (v:=.bool ((((((((((x33.2&&(x33.1.kind==(2:Int)))&&(x33.1.a==(2:Int)))&&(x33.1.b==(8:Int)))&&x108.2)&&(x108.1.kind==(1:Int)))&&(x108.1.b==(5:Int)))&&((x108.1.entries.length:Int)==(1:Int)))&&x161.2)&&((x222.names.length:Int)==(1:Int)))&&(x222.first==(6:Int)))) (r_pickAnd rfl (fun ht=>(gdT ht)) rfl) ?_
 refine o_w (v:=.bool ((((((((((x33.2&&(x33.1.kind==(2:Int)))&&(x33.1.a==(2:Int)))&&(x33.1.b==(8:Int)))&&x108.2)&&(x108.1.kind==(1:Int)))&&(x108.1.b==(5:Int)))&&((x108.1.entries.length:Int)==(1:Int)))&&x161.2)&&((x222.names.length:Int)==(1:Int)))&&(x222.first==(6:Int)))) (r_mov rfl) ?_
 refine o_vg (v:=.bool x292.2) (want_ct (t:=102) rfl rfl) (fun hk=>(r_mov rfl)) rfl rfl ?_
 refine o_vg (v:=.bool (!x292.2)) (want_ct (t:=102) rfl rfl) (fun hk=>(r_not (gdT hk))) rfl rfl ?_
 refine o_w (v:=.bool (((((((((((x33.2&&(x33.1.kind==(2:Int)))&&(x33.1.a==(2:Int)))&&(x33.1.b==(8:Int)))&&x108.2)&&(x108.1.kind==(1:Int)))&&(x108.1.b==(5:Int)))&&((x108.1.entries.length:Int)==(1:Int)))&&x161.2)&&((x222.names.length:Int)==(1:Int)))&&(x222.first==(6:Int)))&&(!x292.2))) (r_pickAnd rfl (fun ht=>(gdT ht)) rfl) ?_
 refine o_w (v:=.bool (((((((((((x33.2&&(x33.1.kind==(2:Int)))&&(x33.1.a==(2:Int)))&&(x33.1.b==(8:Int)))&&x108.2)&&(x108.1.kind==(1:Int)))&&(x108.1.b==(5:Int)))&&((x108.1.entries.length:Int)==(1:Int)))&&x161.2)&&((x222.names.length:Int)==(1:Int)))&&(x222.first==(6:Int)))&&(!x292.2))) (r_asg rfl) ?_
 refine eo_nil_sq ?_
 refine ec_ret ?_
 subst h
 exact (end1 rfl ⟨_,rfl,E352,rfl⟩)
end Go.Proofs.Ythfkbabgkacfnaa
