/- The law of buffer: its example. -/
import Derived.Test.YtpopikeebobjnaaCt4
import Derived.Test.YtpopikeebobjnaaFs
namespace Go.Proofs.Ytpopikeebobjnaa
open Go Go.RowKit
set_option linter.unusedVariables false
set_option linter.unusedSimpArgs false
def law16_works_raw (y:Bool):Prop :=
 (smB (⟨(-7:Int),(0:Int),([]:List Nm)⟩:Buf))∧((sma (⟨(1:Int),([(⟨([107]:Str),(⟨(3:Int),(0:Int),(0:Int),false,([]:Str),([]:List Int),([]:List Int),(5:Int)⟩:Val)⟩:Ent)]:List Ent),([(0:Int)]:List Int)⟩:Arena))∧(∃ x26,x26=(mendB (⟨(-7:Int),(0:Int),([]:List Nm)⟩:Buf) (⟨(1:Int),([(⟨([107]:Str),(⟨(3:Int),(0:Int),(0:Int),false,([]:Str),([]:List Int),([]:List Int),(5:Int)⟩:Val)⟩:Ent)]:List Ent),([(0:Int)]:List Int)⟩:Arena) (2:Int))∧((smN x26)∧((sma (⟨(1:Int),([(⟨([107]:Str),(⟨(3:Int),(0:Int),(0:Int),false,([]:Str),([]:List Int),([]:List Int),(5:Int)⟩:Val)⟩:Ent)]:List Ent),([(0:Int)]:List Int)⟩:Arena))∧(∃ x58,x58=(noteB x26 (⟨(1:Int),([(⟨([107]:Str),(⟨(3:Int),(0:Int),(0:Int),false,([]:Str),([]:List Int),([]:List Int),(5:Int)⟩:Val)⟩:Ent)]:List Ent),([(0:Int)]:List Int)⟩:Arena) (2:Int) (⟨([107]:Str),(⟨(3:Int),(0:Int),(0:Int),false,([]:Str),([]:List Int),([]:List Int),(5:Int)⟩:Val)⟩:Ent))∧(smN x58∧(sma (⟨(1:Int),([(⟨([107]:Str),(⟨(3:Int),(0:Int),(0:Int),false,([]:Str),([]:List Int),([]:List Int),(5:Int)⟩:Val)⟩:Ent)]:List Ent),([(0:Int)]:List Int)⟩:Arena)∧(∃ x99,x99=(noteB x58 (⟨(1:Int),([(⟨([107]:Str),(⟨(3:Int),(0:Int),(0:Int),false,([]:Str),([]:List Int),([]:List Int),(5:Int)⟩:Val)⟩:Ent)]:List Ent),([(0:Int)]:List Int)⟩:Arena) (2:Int) (⟨([107]:Str),(⟨(3:Int),(0:Int),(0:Int),false,([]:Str),([]:List Int),([]:List Int),(5:Int)⟩:Val)⟩:Ent))∧(smN x99∧(sma (⟨(1:Int),([(⟨([107]:Str),(⟨(3:Int),(0:Int),(0:Int),false,([]:Str),([]:List Int),([]:List Int),(5:Int)⟩:Val)⟩:Ent)]:List Ent),([(0:Int)]:List Int)⟩:Arena)∧(∃ x105,x105=(noteB x99 (⟨(1:Int),([(⟨([107]:Str),(⟨(3:Int),(0:Int),(0:Int),false,([]:Str),([]:List Int),([]:List Int),(5:Int)⟩:Val)⟩:Ent)]:List Ent),([(0:Int)]:List Int)⟩:Arena) (2:Int) (⟨([107]:Str),(⟨(3:Int),(0:Int),(0:Int),false,([]:Str),([]:List Int),([]:List Int),(5:Int)⟩:Val)⟩:Ent))∧((smB x105)∧((sma (⟨(1:Int),([(⟨([107]:Str),(⟨(3:Int),(0:Int),(0:Int),false,([]:Str),([]:List Int),([]:List Int),(5:Int)⟩:Val)⟩:Ent)]:List Ent),([(0:Int)]:List Int)⟩:Arena))∧(∃ x204,x204=(ackB x105 (⟨(1:Int),([(⟨([107]:Str),(⟨(3:Int),(0:Int),(0:Int),false,([]:Str),([]:List Int),([]:List Int),(5:Int)⟩:Val)⟩:Ent)]:List Ent),([(0:Int)]:List Int)⟩:Arena) (2:Int) (0:Int) (2:Int))∧((smB x105)∧((sma (⟨(1:Int),([(⟨([107]:Str),(⟨(3:Int),(0:Int),(0:Int),false,([]:Str),([]:List Int),([]:List Int),(5:Int)⟩:Val)⟩:Ent)]:List Ent),([(0:Int)]:List Int)⟩:Arena))∧(∃ x260,x260=(ackB x105 (⟨(1:Int),([(⟨([107]:Str),(⟨(3:Int),(0:Int),(0:Int),false,([]:Str),([]:List Int),([]:List Int),(5:Int)⟩:Val)⟩:Ent)]:List Ent),([(0:Int)]:List Int)⟩:Arena) (2:Int) (1:Int) (2:Int))∧((smB (⟨(4:Int),(0:Int),([(⟨(1:Int),([122]:Str)⟩:Nm)]:List Nm)⟩:Buf))∧((sma (⟨(1:Int),([(⟨([107]:Str),(⟨(3:Int),(0:Int),(0:Int),false,([]:Str),([]:List Int),([]:List Int),(5:Int)⟩:Val)⟩:Ent)]:List Ent),([(0:Int)]:List Int)⟩:Arena))∧(∃ x341,x341=(mendB (⟨(4:Int),(0:Int),([(⟨(1:Int),([122]:Str)⟩:Nm)]:List Nm)⟩:Buf) (⟨(1:Int),([(⟨([107]:Str),(⟨(3:Int),(0:Int),(0:Int),false,([]:Str),([]:List Int),([]:List Int),(5:Int)⟩:Val)⟩:Ent)]:List Ent),([(0:Int)]:List Int)⟩:Arena) (2:Int))∧((smB x105)∧((sma (⟨(1:Int),([(⟨([107]:Str),(⟨(3:Int),(0:Int),(0:Int),false,([]:Str),([]:List Int),([]:List Int),(5:Int)⟩:Val)⟩:Ent)]:List Ent),([(0:Int)]:List Int)⟩:Arena))∧(∃ x417,x417=(someB x105 (⟨(1:Int),([(⟨([107]:Str),(⟨(3:Int),(0:Int),(0:Int),false,([]:Str),([]:List Int),([]:List Int),(5:Int)⟩:Val)⟩:Ent)]:List Ent),([(0:Int)]:List Int)⟩:Arena) (2:Int) (5:Int))∧(((x26.epoch==(0:Int))=true→((((x26.names.length:Int)==(0:Int))=true→((((x58.names.length:Int)==(1:Int))=true→(((x58.first==(0:Int))=true→((((x105.names.length:Int)==(2:Int))=true→(((x105.first==(1:Int))=true→((((x204.names.length:Int)==(1:Int))=true→(((x204.first==(2:Int))=true→((smB x260)∧(((sameB x260 x105)=true→(((x341.epoch==(5:Int))=true→((((x341.names.length:Int)==(0:Int))=true→((((x417.length:Int)==(2:Int))=true→((smB x105)∧((sma (⟨(1:Int),([(⟨([107]:Str),(⟨(3:Int),(0:Int),(0:Int),false,([]:Str),([]:List Int),([]:List Int),(5:Int)⟩:Val)⟩:Ent)]:List Ent),([(0:Int)]:List Int)⟩:Arena))∧(∃ x477,x477=(checkB x105 (⟨(1:Int),([(⟨([107]:Str),(⟨(3:Int),(0:Int),(0:Int),false,([]:Str),([]:List Int),([]:List Int),(5:Int)⟩:Val)⟩:Ent)]:List Ent),([(0:Int)]:List Int)⟩:Arena) (2:Int))∧(((x477==(0:Int))=true→((smB x105)∧((sma (⟨(1:Int),([(⟨([107]:Str),(⟨(3:Int),(0:Int),(0:Int),false,([]:Str),([]:List Int),([]:List Int),(5:Int)⟩:Val)⟩:Ent)]:List Ent),([(0:Int)]:List Int)⟩:Arena))∧(∃ x500,x500=(checkB x105 (⟨(1:Int),([(⟨([107]:Str),(⟨(3:Int),(0:Int),(0:Int),false,([]:Str),([]:List Int),([]:List Int),(5:Int)⟩:Val)⟩:Ent)]:List Ent),([(0:Int)]:List Int)⟩:Arena) (1:Int))∧(((x500==(2:Int))=true→(∃ x523,x523=(resetB x105)∧(((x523.epoch==(1:Int))=true→((smB x58)∧(y=(!(sameB x58 x105)))))∧((x523.epoch==(1:Int))=false→(y=false)))))∧((x500==(2:Int))=false→(y=false)))))))∧((x477==(0:Int))=false→(y=false)))))))∧(((x417.length:Int)==(2:Int))=false→(y=false))))∧(((x341.names.length:Int)==(0:Int))=false→(y=false))))∧((x341.epoch==(5:Int))=false→(y=false))))∧((sameB x260 x105)=false→(y=false)))))∧((x204.first==(2:Int))=false→(y=false))))∧(((x204.names.length:Int)==(1:Int))=false→(y=false))))∧((x105.first==(1:Int))=false→(y=false))))∧(((x105.names.length:Int)==(2:Int))=false→(y=false))))∧((x58.first==(0:Int))=false→(y=false))))∧(((x58.names.length:Int)==(1:Int))=false→(y=false))))∧(((x26.names.length:Int)==(0:Int))=false→(y=false))))∧((x26.epoch==(0:Int))=false→(y=false))))))))))))))))))))))))))
set_option maxRecDepth 20000 in
set_option maxHeartbeats 4000000 in
theorem law16_works_c {L:List Nat} {w:World}  (hL:Lt L w) {y:Bool} (h:law16_works_raw y) :
  Calls Try.prog 9 [].toArray w (Ret fun v w'=>Ext w w'∧v=.bool y):=by
 unfold law16_works_raw at h
 refine calls_ec Try.func9 rfl rfl rfl ?_
 refine ec_seq ?_
 refine ec_region ?_
 refine o_w (v:=.bool false) (r_asg rfl) ?_
 refine eo_nil_sq ?_
 refine ec_seq ?_
 refine ec_region ?_
 refine o_w (v:=.agg #[.int .i64 (3:Int),.int .i64 (0:Int),.int .i64 (0:Int),.bool false,str ([]:Str),.slice none ([]:List Int).length 0,.slice none ([]:List Int).length 0,.int .u64 (5:Int)]) (r_build bld_api_Value (vs:=[(0,.int .i64 (3:Int)),(7,.int .u64 (5:Int))]) (cells:=[.int .i64 (3:Int),.int .i64 (0:Int),.int .i64 (0:Int),.bool false,str ([]:Str),.slice none ([]:List Int).length 0,.slice none ([]:List Int).length 0,.int .u64 (5:Int)]) rfl rfl) ?_
 refine o_w (v:=.agg #[str ([107]:Str),.int .i64 (3:Int),.int .i64 (0:Int),.int .i64 (0:Int),.bool false,str ([]:Str),.slice none ([]:List Int).length 0,.slice none ([]:List Int).length 0,.int .u64 (5:Int)]) (r_build bld_api_Entry (vs:=[(0,str ([107]:Str)),(1,.agg #[.int .i64 (3:Int),.int .i64 (0:Int),.int .i64 (0:Int),.bool false,str ([]:Str),.slice none ([]:List Int).length 0,.slice none ([]:List Int).length 0,.int .u64 (5:Int)])]) (cells:=[str ([107]:Str),.int .i64 (3:Int),.int .i64 (0:Int),.int .i64 (0:Int),.bool false,str ([]:Str),.slice none ([]:List Int).length 0,.slice none ([]:List Int).length 0,.int .u64 (5:Int)]) rfl rfl) ?_
 refine o_alloc zero_api_Entry rfl rfl rfl ?_
 intro b1 w1 e1 F1 B1
 have n1:w.heap.size≤b1:=Nat.le_of_eq e1.symm
 refine o_store rfl B1 (vs:=[str ([107]:Str),.int .i64 (3:Int),.int .i64 (0:Int),.int .i64 (0:Int),.bool false,str ([]:Str),.slice none ([]:List Int).length 0,.slice none ([]:List Int).length 0,.int .u64 (5:Int)]) rfl sz_api_Entry rfl rfl rfl ?_
 intro w2 F2 B2
 have E3:=Ext.st F1 F2 (by simp; omega)
 have B2':Blk w2 b1 _ [str ([107]:Str),.int .i64 (3:Int),.int .i64 (0:Int),.int .i64 (0:Int),.bool false,str ([]:Str),.slice none ([]:List Int).length 0,.slice none ([]:List Int).length 0,.int .u64 (5:Int)]:=B2
 refine eo_nil_sq ?_
 refine ec_seq ?_
 refine ec_region ?_
 refine o_w (v:=.agg #[str ([107]:Str),.int .i64 (3:Int),.int .i64 (0:Int),.int .i64 (0:Int),.bool false,str ([]:Str),.slice none ([]:List Int).length 0,.slice none ([]:List Int).length 0,.int .u64 (5:Int)]) (r_lda agg_api_Entry rfl (vs:=[str ([107]:Str),.int .i64 (3:Int),.int .i64 (0:Int),.int .i64 (0:Int),.bool false,str ([]:Str),.slice none ([]:List Int).length 0,.slice none ([]:List Int).length 0,.int .u64 (5:Int)]) rfl (B2'.part (n:=9) rfl)) ?_
 refine o_bslice slc_s_api_Entry rfl (vs:=[.agg #[str ([107]:Str),.int .i64 (3:Int),.int .i64 (0:Int),.int .i64 (0:Int),.bool false,str ([]:Str),.slice none ([]:List Int).length 0,.slice none ([]:List Int).length 0,.int .u64 (5:Int)]]) rfl rfl rfl (cs:=[str ([107]:Str),.int .i64 (3:Int),.int .i64 (0:Int),.int .i64 (0:Int),.bool false,str ([]:Str),.slice none ([]:List Int).length 0,.slice none ([]:List Int).length 0,.int .u64 (5:Int)]) rfl rfl rfl rfl ?_
 intro b4 w4 e4 F4 B4
 have N4:=nin ((hL.fr E3).cons B2'.lt) e4
 have S4:=B4.stb N4
 have E5:=E3.trans F4
 refine o_bslice slc_s_int rfl (vs:=[.int .i64 (0:Int)]) rfl rfl rfl (cs:=[.int .i64 (0:Int)]) rfl rfl rfl rfl ?_
 intro b7 w7 e7 F7 B7
 have N7:=nin ((hL.fr E5).cons (B2'.ex F4).lt) e7
 have S7:=B7.stb N7
 have E8:=E5.trans F7
 have G9:Fr (b1::L) w4 w7:=Fr.ext F7
 have H11:Stb (b1::L) w7 (fun w=>SlC kEnt w (some ⟨b4,0,none⟩) 1 ([(⟨([107]:Str),(⟨(3:Int),(0:Int),(0:Int),false,([]:Str),([]:List Int),([]:List Int),(5:Int)⟩:Val)⟩:Ent)]:List Ent)):=bs_seal (S4.fr G9 (fun _ h=>h)).now N4 rfl (rowd1 (cs:=[str ([107]:Str),.int .i64 (3:Int),.int .i64 (0:Int),.int .i64 (0:Int),.bool false,str ([]:Str),.slice none ([]:List Int).length 0,.slice none ([]:List Int).length 0,.int .u64 (5:Int)]) (kEnt_mk (d:=(⟨([107]:Str),(⟨(3:Int),(0:Int),(0:Int),false,([]:Str),([]:List Int),([]:List Int),(5:Int)⟩:Val)⟩:Ent)) stb_nil stb_nil) rfl)
 have H12:Stb (b1::L) w7 (fun w=>SlC (kI .i64) w (some ⟨b7,0,none⟩) 1 ([(0:Int)]:List Int)):=bs_seal S7.now N7 rfl (rowd1 (cs:=[.int .i64 (0:Int)]) (fun _ _=>rfl) rfl)
 refine o_w (v:=.agg #[.int .i64 (1:Int),.slice (some ⟨b4,0,none⟩) ([(⟨([107]:Str),(⟨(3:Int),(0:Int),(0:Int),false,([]:Str),([]:List Int),([]:List Int),(5:Int)⟩:Val)⟩:Ent)]:List Ent).length 1,.slice (some ⟨b7,0,none⟩) ([(0:Int)]:List Int).length 1]) (r_build bld_api_Arena (vs:=[(0,.int .i64 (1:Int)),(1,.slice (some ⟨b4,0,none⟩) 1 1),(2,.slice (some ⟨b7,0,none⟩) 1 1)]) (cells:=[.int .i64 (1:Int),.slice (some ⟨b4,0,none⟩) ([(⟨([107]:Str),(⟨(3:Int),(0:Int),(0:Int),false,([]:Str),([]:List Int),([]:List Int),(5:Int)⟩:Val)⟩:Ent)]:List Ent).length 1,.slice (some ⟨b7,0,none⟩) ([(0:Int)]:List Int).length 1]) rfl rfl) ?_
 refine o_alloc zero_api_Arena rfl rfl rfl ?_
 intro b13 w13 e13 F13 B13
 have n13:w.heap.size≤b13:=by rw [e13]; exact E8.size
 have q14:b1<b13:=by rw [e13]; exact ((B2'.ex F4).ex F7).lt
 have m16:w7.heap.size≤b13:=Nat.le_of_eq e13.symm
 have E17:=E8.trans F13
 have G19:Fr (b1::L) w7 w13:=Fr.ext F13
 refine o_store rfl B13 (vs:=[.int .i64 (1:Int),.slice (some ⟨b4,0,none⟩) ([(⟨([107]:Str),(⟨(3:Int),(0:Int),(0:Int),false,([]:Str),([]:List Int),([]:List Int),(5:Int)⟩:Val)⟩:Ent)]:List Ent).length 1,.slice (some ⟨b7,0,none⟩) ([(0:Int)]:List Int).length 1]) rfl sz_api_Arena rfl rfl rfl ?_
 intro w21 F21 B21
 have E22:=Ext.st E17 F21 (by simp; omega)
 have G24:Fr (b1::L) w7 w21:=G19.stp F21 (upc (.inr m16) (fun m hm=>by cases hm))
 have B25:=(((B2'.ex F4).ex F7).ex F13).fr F21 (by simp; omega)
 have B21':Blk w21 b13 _ [.int .i64 (1:Int),.slice (some ⟨b4,0,none⟩) ([(⟨([107]:Str),(⟨(3:Int),(0:Int),(0:Int),false,([]:Str),([]:List Int),([]:List Int),(5:Int)⟩:Val)⟩:Ent)]:List Ent).length 1,.slice (some ⟨b7,0,none⟩) ([(0:Int)]:List Int).length 1]:=B21
 refine eo_nil_sq ?_
 refine ec_seq ?_
 refine ec_region ?_
 refine o_w (v:=.agg #[.int .i64 (-7:Int),.int .i64 (0:Int),.slice none ([]:List Nm).length 0]) (r_build bld_buffer_Buffer (vs:=[(0,.int .i64 (-7:Int))]) (cells:=[.int .i64 (-7:Int),.int .i64 (0:Int),.slice none ([]:List Nm).length 0]) rfl rfl) ?_
 refine o_w (v:=.agg #[.int .i64 (1:Int),.slice (some ⟨b4,0,none⟩) ([(⟨([107]:Str),(⟨(3:Int),(0:Int),(0:Int),false,([]:Str),([]:List Int),([]:List Int),(5:Int)⟩:Val)⟩:Ent)]:List Ent).length 1,.slice (some ⟨b7,0,none⟩) ([(0:Int)]:List Int).length 1]) (r_lda agg_api_Arena rfl (vs:=[.int .i64 (1:Int),.slice (some ⟨b4,0,none⟩) ([(⟨([107]:Str),(⟨(3:Int),(0:Int),(0:Int),false,([]:Str),([]:List Int),([]:List Int),(5:Int)⟩:Val)⟩:Ent)]:List Ent).length 1,.slice (some ⟨b7,0,none⟩) ([(0:Int)]:List Int).length 1]) rfl (B21'.part (n:=3) rfl)) ?_
 obtain ⟨ha27,h⟩:=h
 obtain ⟨ha28,h⟩:=h
 obtain ⟨x26,hx26,h⟩:=h
 refine o_call cf_buffer_Mend rfl (buffer_Mend_c (⟨(-7:Int),(0:Int),([]:List Nm)⟩:Buf) (kBuf_mk (d:=(⟨(-7:Int),(0:Int),([]:List Nm)⟩:Buf)) stb_nil) (⟨(1:Int),([(⟨([107]:Str),(⟨(3:Int),(0:Int),(0:Int),false,([]:Str),([]:List Int),([]:List Int),(5:Int)⟩:Val)⟩:Ent)]:List Ent),([(0:Int)]:List Int)⟩:Arena) (kArena_mk (d:=(⟨(1:Int),([(⟨([107]:Str),(⟨(3:Int),(0:Int),(0:Int),false,([]:Str),([]:List Int),([]:List Int),(5:Int)⟩:Val)⟩:Ent)]:List Ent),([(0:Int)]:List Int)⟩:Arena)) (H11.up G24 (fun _ h=>h) (upc (.inr m16) (upc (.inl (List.Mem.head _)) (fun m hm=>Or.inl (List.Mem.tail _ hm))))) (H12.up G24 (fun _ h=>h) (upc (.inr m16) (upc (.inl (List.Mem.head _)) (fun m hm=>Or.inl (List.Mem.tail _ hm)))))) (2:Int) (((hL.fr E22).cons B25.lt).cons B21'.lt) (eq_ev hx26 (bufMend_ev (⟨(-7:Int),(0:Int),([]:List Nm)⟩:Buf) (⟨(1:Int),([(⟨([107]:Str),(⟨(3:Int),(0:Int),(0:Int),false,([]:Str),([]:List Int),([]:List Int),(5:Int)⟩:Val)⟩:Ent)]:List Ent),([(0:Int)]:List Int)⟩:Arena) (2:Int) ha27 ha28))) rfl rfl ?_
 rintro _ w26 ⟨F26,cs29,rfl,H30⟩
 have E31:=E22.trans F26
 obtain ⟨A36,c37,rfl,H38⟩:=kBuf_open H30
 refine o_alloc zero_buffer_Buffer rfl rfl rfl ?_
 intro b39 w39 e39 F39 B39
 have n39:w.heap.size≤b39:=by rw [e39]; exact E31.size
 have q40:b1<b39:=by rw [e39]; exact (B25.ex F26).lt
 have q41:b13<b39:=by rw [e39]; exact (B21'.ex F26).lt
 have m43:w7.heap.size≤b39:=by rw [e39]; exact (G24.trans (Fr.ext F26)).size
 have m44:w26.heap.size≤b39:=Nat.le_of_eq e39.symm
 have E45:=E31.trans F39
 have G48:Fr (b13::(b1::L)) w26 w39:=Fr.ext F39
 refine o_store rfl B39 (vs:=(cBuf x26 A36 c37)) rfl sz_buffer_Buffer rfl rfl rfl ?_
 intro w51 F51 B51
 have E52:=Ext.st E45 F51 (by simp; omega)
 have G54:Fr (b1::L) w7 w51:=((G24.trans (Fr.ext F26)).trans (Fr.ext F39)).stp F51 (upc (.inr m43) (fun m hm=>by cases hm))
 have G55:Fr (b13::(b1::L)) w26 w51:=G48.stp F51 (upc (.inr m44) (fun m hm=>by cases hm))
 have B56:=((B25.ex F26).ex F39).fr F51 (by simp; omega)
 have B57:=((B21'.ex F26).ex F39).fr F51 (by simp; omega)
 have B51':Blk w51 b39 _ (cBuf x26 A36 c37):=B51
 refine eo_nil_sq ?_
 refine ec_seq ?_
 refine ec_region ?_
 refine o_w (v:=.agg (cBuf x26 A36 c37).toArray) (r_lda agg_buffer_Buffer rfl (vs:=(cBuf x26 A36 c37)) rfl (B51'.part (n:=3) rfl)) ?_
 refine o_w (v:=.agg #[.int .i64 (1:Int),.slice (some ⟨b4,0,none⟩) ([(⟨([107]:Str),(⟨(3:Int),(0:Int),(0:Int),false,([]:Str),([]:List Int),([]:List Int),(5:Int)⟩:Val)⟩:Ent)]:List Ent).length 1,.slice (some ⟨b7,0,none⟩) ([(0:Int)]:List Int).length 1]) (r_lda agg_api_Arena rfl (vs:=[.int .i64 (1:Int),.slice (some ⟨b4,0,none⟩) ([(⟨([107]:Str),(⟨(3:Int),(0:Int),(0:Int),false,([]:Str),([]:List Int),([]:List Int),(5:Int)⟩:Val)⟩:Ent)]:List Ent).length 1,.slice (some ⟨b7,0,none⟩) ([(0:Int)]:List Int).length 1]) rfl (B57.part (n:=3) rfl)) ?_
 refine o_w (v:=.agg #[str ([107]:Str),.int .i64 (3:Int),.int .i64 (0:Int),.int .i64 (0:Int),.bool false,str ([]:Str),.slice none ([]:List Int).length 0,.slice none ([]:List Int).length 0,.int .u64 (5:Int)]) (r_lda agg_api_Entry rfl (vs:=[str ([107]:Str),.int .i64 (3:Int),.int .i64 (0:Int),.int .i64 (0:Int),.bool false,str ([]:Str),.slice none ([]:List Int).length 0,.slice none ([]:List Int).length 0,.int .u64 (5:Int)]) rfl (B56.part (n:=9) rfl)) ?_
 obtain ⟨ha59,h⟩:=h
 obtain ⟨ha60,h⟩:=h
 obtain ⟨x58,hx58,h⟩:=h
 refine o_call cf_buffer_Note rfl (buffer_Note_c x26 (kBuf_mk (d:=x26) (H38.up G55 (fun _ h=>h) (upc (.inr m44) (upc (.inl (List.Mem.head _)) (upc (.inl (List.Mem.tail _ (List.Mem.head _))) (fun m hm=>Or.inl (List.Mem.tail _ (List.Mem.tail _ hm)))))))) (⟨(1:Int),([(⟨([107]:Str),(⟨(3:Int),(0:Int),(0:Int),false,([]:Str),([]:List Int),([]:List Int),(5:Int)⟩:Val)⟩:Ent)]:List Ent),([(0:Int)]:List Int)⟩:Arena) (kArena_mk (d:=(⟨(1:Int),([(⟨([107]:Str),(⟨(3:Int),(0:Int),(0:Int),false,([]:Str),([]:List Int),([]:List Int),(5:Int)⟩:Val)⟩:Ent)]:List Ent),([(0:Int)]:List Int)⟩:Arena)) (H11.up G54 (fun _ h=>h) (upc (.inr m43) (upc (.inr m16) (upc (.inl (List.Mem.head _)) (fun m hm=>Or.inl (List.Mem.tail _ hm)))))) (H12.up G54 (fun _ h=>h) (upc (.inr m43) (upc (.inr m16) (upc (.inl (List.Mem.head _)) (fun m hm=>Or.inl (List.Mem.tail _ hm))))))) (2:Int) (⟨([107]:Str),(⟨(3:Int),(0:Int),(0:Int),false,([]:Str),([]:List Int),([]:List Int),(5:Int)⟩:Val)⟩:Ent) (kEnt_mk (d:=(⟨([107]:Str),(⟨(3:Int),(0:Int),(0:Int),false,([]:Str),([]:List Int),([]:List Int),(5:Int)⟩:Val)⟩:Ent)) stb_nil stb_nil) ((((hL.fr E52).cons B56.lt).cons B57.lt).cons B51'.lt) (eq_ev hx58 (bufNote_ev x26 (⟨(1:Int),([(⟨([107]:Str),(⟨(3:Int),(0:Int),(0:Int),false,([]:Str),([]:List Int),([]:List Int),(5:Int)⟩:Val)⟩:Ent)]:List Ent),([(0:Int)]:List Int)⟩:Arena) (2:Int) (⟨([107]:Str),(⟨(3:Int),(0:Int),(0:Int),false,([]:Str),([]:List Int),([]:List Int),(5:Int)⟩:Val)⟩:Ent) ha59 ha60))) rfl rfl ?_
 rintro _ w58 ⟨F58,cs61,rfl,H62⟩
 have E63:=E52.trans F58
 obtain ⟨A70,c71,rfl,H72⟩:=kBuf_open H62
 refine o_alloc zero_buffer_Buffer rfl rfl rfl ?_
 intro b73 w73 e73 F73 B73
 have n73:w.heap.size≤b73:=by rw [e73]; exact E63.size
 have q74:b1<b73:=by rw [e73]; exact (B56.ex F58).lt
 have q75:b13<b73:=by rw [e73]; exact (B57.ex F58).lt
 have q76:b39<b73:=by rw [e73]; exact (B51'.ex F58).lt
 have m78:w7.heap.size≤b73:=by rw [e73]; exact (G54.trans (Fr.ext F58)).size
 have m80:w58.heap.size≤b73:=Nat.le_of_eq e73.symm
 have E81:=E63.trans F73
 have G85:Fr (b39::(b13::(b1::L))) w58 w73:=Fr.ext F73
 refine o_store rfl B73 (vs:=(cBuf x58 A70 c71)) rfl sz_buffer_Buffer rfl rfl rfl ?_
 intro w89 F89 B89
 have E90:=Ext.st E81 F89 (by simp; omega)
 have G92:Fr (b1::L) w7 w89:=((G54.trans (Fr.ext F58)).trans (Fr.ext F73)).stp F89 (upc (.inr m78) (fun m hm=>by cases hm))
 have G94:Fr (b39::(b13::(b1::L))) w58 w89:=G85.stp F89 (upc (.inr m80) (fun m hm=>by cases hm))
 have B95:=((B56.ex F58).ex F73).fr F89 (by simp; omega)
 have B96:=((B57.ex F58).ex F73).fr F89 (by simp; omega)
 have B97:=((B51'.ex F58).ex F73).fr F89 (by simp; omega)
 have B89':Blk w89 b73 _ (cBuf x58 A70 c71):=B89
 refine eo_nil_sq ?_
 refine ec_seq ?_
 obtain ⟨ha100,h⟩:=h
 obtain ⟨ha101,h⟩:=h
 obtain ⟨x99,hx99,h⟩:=h
 obtain ⟨ha106,h⟩:=h
 obtain ⟨ha107,h⟩:=h
 obtain ⟨x105,hx105,h⟩:=h
 refine ec_anyGN (by kernel_rfl) [[],[],[],[0,1,2],[],[],[0,1,2,3,4,5],[],[0,1,2,3,4,5,6,7]] [5,23,24,25,26,27,28,29] [] [8] 7 0 (fun g w=>∀ b,g=gOf b→Blk w b 24 [.int .i64 (0:Int),.int .i64 (0:Int),.slice none ([]:List Nm).length 0]) (fun g98=>[own g98]) [[8]] (fun g98=>[fun w'=>(∀ b,g98=gOf b→Blk w' b 24 [.int .i64 (0:Int),.int .i64 (0:Int),.slice none ([]:List Nm).length 0]),fun w'=>∃ A108 c109,Stb (own g98++(b73::(b39::(b13::(b1::L))))) w' (fun w=>SlC kNm w A108 c109 x105.names)∧(∀ b,g98=gOf b→Blk w' b 24 (cBuf x105 A108 c109))]) (fun g98=>[fun v _=>v=(.agg (cBuf x58 A70 c71).toArray:Value),fun v _=>v=(.agg #[.int .i64 (1:Int),.slice (some ⟨b4,0,none⟩) ([(⟨([107]:Str),(⟨(3:Int),(0:Int),(0:Int),false,([]:Str),([]:List Int),([]:List Int),(5:Int)⟩:Val)⟩:Ent)]:List Ent).length 1,.slice (some ⟨b7,0,none⟩) ([(0:Int)]:List Int).length 1]:Value),fun v _=>v=(.agg #[str ([107]:Str),.int .i64 (3:Int),.int .i64 (0:Int),.int .i64 (0:Int),.bool false,str ([]:Str),.slice none ([]:List Int).length 0,.slice none ([]:List Int).length 0,.int .u64 (5:Int)]:Value),fun v w'=>∃ A102 c103,v=(.agg (cBuf x99 A102 c103).toArray:Value)∧Stb (own g98++(b73::(b39::(b13::(b1::L))))) w' (fun w=>SlC kNm w A102 c103 x99.names),fun v _=>v=(.agg #[.int .i64 (1:Int),.slice (some ⟨b4,0,none⟩) ([(⟨([107]:Str),(⟨(3:Int),(0:Int),(0:Int),false,([]:Str),([]:List Int),([]:List Int),(5:Int)⟩:Val)⟩:Ent)]:List Ent).length 1,.slice (some ⟨b7,0,none⟩) ([(0:Int)]:List Int).length 1]:Value),fun v _=>v=(.agg #[str ([107]:Str),.int .i64 (3:Int),.int .i64 (0:Int),.int .i64 (0:Int),.bool false,str ([]:Str),.slice none ([]:List Int).length 0,.slice none ([]:List Int).length 0,.int .u64 (5:Int)]:Value),fun v w'=>∃ A108 c109,v=(.agg (cBuf x105 A108 c109).toArray:Value)∧Stb (own g98++(b73::(b39::(b13::(b1::L))))) w' (fun w=>SlC kNm w A108 c109 x105.names),fun v w'=>∃ b98_7,v=(.pointer (some ⟨b98_7,0,none⟩):Value)∧g98=gOf b98_7∧w89.heap.size≤b98_7,fun _ _=>True]) (by kernel_rfl) (fun _=>rfl) (fun _=>rfl) (fun g98=>(allM1 (φ:=fun M=>∀ m∈M,m∈[]∨m∈own g98) (fun m hm=>.inr hm) (fun _ h=>by cases h))) (fun g98=>⟨fun _ _ _ _ _ h=>h,fun _ _ _ _ _ h=>h,fun _ _ _ _ _ h=>h,fun _ v w' w'' F h=>by obtain ⟨A102,c103,hv,H104⟩:=h; exact ⟨A102,c103,hv,(H104.ex F)⟩,fun _ _ _ _ _ h=>h,fun _ _ _ _ _ h=>h,fun _ v w' w'' F h=>by obtain ⟨A108,c109,hv,H110⟩:=h; exact ⟨A108,c109,hv,(H110.ex F)⟩,fun _ v w' w'' F h=>by obtain ⟨b98_7,hv,heb98_7,lob98_7⟩:=h; exact ⟨b98_7,hv,heb98_7,lob98_7⟩,fun _ _ _ _ _ h=>h,trivial⟩) (fun g98=>⟨⟨fun _ _ _ _ _ _ h=>h,fun _ _ _ _ _ _ h=>h,fun _ _ _ _ _ _ h=>h,fun _ v w' w'' hg98 F h=>by obtain ⟨A102,c103,hv,H104⟩:=h; exact ⟨A102,c103,hv,(H104.fr F (fun m hm=>List.mem_append_left _ hm))⟩,fun _ _ _ _ _ _ h=>h,fun _ _ _ _ _ _ h=>h,fun _ v w' w'' hg98 F h=>by obtain ⟨A108,c109,hv,H110⟩:=h; exact ⟨A108,c109,hv,(H110.fr F (fun m hm=>List.mem_append_left _ hm))⟩,fun _ v w' w'' hg98 F h=>by obtain ⟨b98_7,hv,heb98_7,lob98_7⟩:=h; exact ⟨b98_7,hv,heb98_7,lob98_7⟩,(fun h=>absurd h (by decide)),trivial⟩,trivial⟩) (fun g w hw hg=>⟨fun _ _ _ _ h=>h,fun _ _ _ _ h=>h,fun _ _ _ _ h=>h,fun _ v w' F h=>by obtain ⟨A102,c103,hv,H104⟩:=h; exact ⟨A102,c103,hv,(stb_born H104 hg F)⟩,fun _ _ _ _ h=>h,fun _ _ _ _ h=>h,fun _ v w' F h=>by obtain ⟨A108,c109,hv,H110⟩:=h; exact ⟨A108,c109,hv,(stb_born H110 hg F)⟩,(fun h=>absurd h (by decide)),fun _ _ _ _ h=>h,trivial⟩) (fun g98=>⟨fun w' w'' F h=>by have hG98:=h; exact (fun b e=>(hG98 b e).ex F),fun w' w'' F h=>by obtain ⟨A108,c109,H110,hG98⟩:=h; exact ⟨A108,c109,(H110.ex F),(fun b e=>(hG98 b e).ex F)⟩,trivial⟩) (fun b e=>absurd e gNil_ne) (fun k hk g w w' hw hg F hX hI=>match k,hk,hI with | 0,_,hI=>by have hG98:=hI; exact hX | k + 1,hk,_=>absurd hk (by omega)) ?_ ?_ ?_ ?_
 ·refine ⟨?_,?_,?_,?_,?_,?_,?_,?_,?_,trivial⟩
  ·intro _ _ g98 ρ w98o hg98 F98o hX hS hρ
   have F98o:=hX 8 rfl rfl
   have q4:ρ 4=.pointer (some ⟨b73,0,none⟩):=hρ 4 (by kernel_rfl)
   exact o_q (r_lda agg_buffer_Buffer q4 (vs:=(cBuf x58 A70 c71)) rfl ((B89'.ex F98o).part (n:=3) rfl)) ⟨Fr.refl _ _,rfl⟩
  ·intro _ _ g98 ρ w98o hg98 F98o hX hS hρ
   have F98o:=hX 8 rfl rfl
   have q2:ρ 2=.pointer (some ⟨b13,0,none⟩):=hρ 2 (by kernel_rfl)
   exact o_q (r_lda agg_api_Arena q2 (vs:=[.int .i64 (1:Int),.slice (some ⟨b4,0,none⟩) ([(⟨([107]:Str),(⟨(3:Int),(0:Int),(0:Int),false,([]:Str),([]:List Int),([]:List Int),(5:Int)⟩:Val)⟩:Ent)]:List Ent).length 1,.slice (some ⟨b7,0,none⟩) ([(0:Int)]:List Int).length 1]) rfl ((B96.ex F98o).part (n:=3) rfl)) ⟨Fr.refl _ _,rfl⟩
  ·intro _ _ g98 ρ w98o hg98 F98o hX hS hρ
   have F98o:=hX 8 rfl rfl
   have q1:ρ 1=.pointer (some ⟨b1,0,none⟩):=hρ 1 (by kernel_rfl)
   exact o_q (r_lda agg_api_Entry q1 (vs:=[str ([107]:Str),.int .i64 (3:Int),.int .i64 (0:Int),.int .i64 (0:Int),.bool false,str ([]:Str),.slice none ([]:List Int).length 0,.slice none ([]:List Int).length 0,.int .u64 (5:Int)]) rfl ((B95.ex F98o).part (n:=9) rfl)) ⟨Fr.refl _ _,rfl⟩
  ·intro _ _ g98 ρ w98o hg98 F98o hX hS hρ
   have F98o:=hX 8 rfl rfl
   have E138:=E90.trans F98o
   have q23:ρ 23=.agg (cBuf x58 A70 c71).toArray:=hS 0 (by decide) 23 rfl
   have q24:ρ 24=.agg #[.int .i64 (1:Int),.slice (some ⟨b4,0,none⟩) ([(⟨([107]:Str),(⟨(3:Int),(0:Int),(0:Int),false,([]:Str),([]:List Int),([]:List Int),(5:Int)⟩:Val)⟩:Ent)]:List Ent).length 1,.slice (some ⟨b7,0,none⟩) ([(0:Int)]:List Int).length 1]:=hS 1 (by decide) 24 rfl
   have q25:ρ 25=.agg #[str ([107]:Str),.int .i64 (3:Int),.int .i64 (0:Int),.int .i64 (0:Int),.bool false,str ([]:Str),.slice none ([]:List Int).length 0,.slice none ([]:List Int).length 0,.int .u64 (5:Int)]:=hS 2 (by decide) 25 rfl
   refine o_call cf_buffer_Note (by simp only [List.map,ev,q23,q24,q25] <;> rfl) (buffer_Note_c x58 (kBuf_mk (d:=x58) (H72.up (G94.trans (Fr.ext F98o)) (fun _ h=>h) (upo (fun m hm=>.inr (Nat.le_trans (G94.size) (hg98 m hm).1)) (upc (.inr m80) (upc (.inl (List.Mem.head _)) (upc (.inl (List.Mem.tail _ (List.Mem.head _))) (upc (.inl (List.Mem.tail _ (List.Mem.tail _ (List.Mem.head _)))) (fun m hm=>Or.inl (List.Mem.tail _ (List.Mem.tail _ (List.Mem.tail _ hm))))))))))) (⟨(1:Int),([(⟨([107]:Str),(⟨(3:Int),(0:Int),(0:Int),false,([]:Str),([]:List Int),([]:List Int),(5:Int)⟩:Val)⟩:Ent)]:List Ent),([(0:Int)]:List Int)⟩:Arena) (kArena_mk (d:=(⟨(1:Int),([(⟨([107]:Str),(⟨(3:Int),(0:Int),(0:Int),false,([]:Str),([]:List Int),([]:List Int),(5:Int)⟩:Val)⟩:Ent)]:List Ent),([(0:Int)]:List Int)⟩:Arena)) (H11.up (G92.trans (Fr.ext F98o)) (fun _ h=>h) (upo (fun m hm=>.inr (Nat.le_trans (G92.size) (hg98 m hm).1)) (upc (.inr m78) (upc (.inr m43) (upc (.inr m16) (upc (.inl (List.Mem.head _)) (fun m hm=>Or.inl (List.Mem.tail _ hm)))))))) (H12.up (G92.trans (Fr.ext F98o)) (fun _ h=>h) (upo (fun m hm=>.inr (Nat.le_trans (G92.size) (hg98 m hm).1)) (upc (.inr m78) (upc (.inr m43) (upc (.inr m16) (upc (.inl (List.Mem.head _)) (fun m hm=>Or.inl (List.Mem.tail _ hm))))))))) (2:Int) (⟨([107]:Str),(⟨(3:Int),(0:Int),(0:Int),false,([]:Str),([]:List Int),([]:List Int),(5:Int)⟩:Val)⟩:Ent) (kEnt_mk (d:=(⟨([107]:Str),(⟨(3:Int),(0:Int),(0:Int),false,([]:Str),([]:List Int),([]:List Int),(5:Int)⟩:Val)⟩:Ent)) stb_nil stb_nil) (lt_ghost (((((hL.fr E138).cons (B95.ex F98o).lt).cons (B96.ex F98o).lt).cons (B97.ex F98o).lt).cons (B89'.ex F98o).lt) hg98) (eq_ev hx99 (bufNote_ev x58 (⟨(1:Int),([(⟨([107]:Str),(⟨(3:Int),(0:Int),(0:Int),false,([]:Str),([]:List Int),([]:List Int),(5:Int)⟩:Val)⟩:Ent)]:List Ent),([(0:Int)]:List Int)⟩:Arena) (2:Int) (⟨([107]:Str),(⟨(3:Int),(0:Int),(0:Int),false,([]:Str),([]:List Int),([]:List Int),(5:Int)⟩:Val)⟩:Ent) ha100 ha101))) rfl rfl ?_
   rintro _ w' ⟨F,cs147,rfl,H148⟩
   obtain ⟨A102,c103,rfl,H104⟩:=kBuf_open H148
   exact eo_nil ⟨rfl,rfl,_,rfl,F,⟨A102,c103,rfl,H104⟩⟩
  ·intro _ _ g98 ρ w98o hg98 F98o hX hS hρ
   have F98o:=hX 8 rfl rfl
   have q2:ρ 2=.pointer (some ⟨b13,0,none⟩):=hρ 2 (by kernel_rfl)
   exact o_q (r_lda agg_api_Arena q2 (vs:=[.int .i64 (1:Int),.slice (some ⟨b4,0,none⟩) ([(⟨([107]:Str),(⟨(3:Int),(0:Int),(0:Int),false,([]:Str),([]:List Int),([]:List Int),(5:Int)⟩:Val)⟩:Ent)]:List Ent).length 1,.slice (some ⟨b7,0,none⟩) ([(0:Int)]:List Int).length 1]) rfl ((B96.ex F98o).part (n:=3) rfl)) ⟨Fr.refl _ _,rfl⟩
  ·intro _ _ g98 ρ w98o hg98 F98o hX hS hρ
   have F98o:=hX 8 rfl rfl
   have q1:ρ 1=.pointer (some ⟨b1,0,none⟩):=hρ 1 (by kernel_rfl)
   exact o_q (r_lda agg_api_Entry q1 (vs:=[str ([107]:Str),.int .i64 (3:Int),.int .i64 (0:Int),.int .i64 (0:Int),.bool false,str ([]:Str),.slice none ([]:List Int).length 0,.slice none ([]:List Int).length 0,.int .u64 (5:Int)]) rfl ((B95.ex F98o).part (n:=9) rfl)) ⟨Fr.refl _ _,rfl⟩
  ·intro _ _ g98 ρ w98o hg98 F98o hX hS hρ
   have F98o:=hX 8 rfl rfl
   have E167:=E90.trans F98o
   obtain ⟨A102,c103,q26,H104⟩:=hS 3 (by decide) 26 rfl
   have q27:ρ 27=.agg #[.int .i64 (1:Int),.slice (some ⟨b4,0,none⟩) ([(⟨([107]:Str),(⟨(3:Int),(0:Int),(0:Int),false,([]:Str),([]:List Int),([]:List Int),(5:Int)⟩:Val)⟩:Ent)]:List Ent).length 1,.slice (some ⟨b7,0,none⟩) ([(0:Int)]:List Int).length 1]:=hS 4 (by decide) 27 rfl
   have q28:ρ 28=.agg #[str ([107]:Str),.int .i64 (3:Int),.int .i64 (0:Int),.int .i64 (0:Int),.bool false,str ([]:Str),.slice none ([]:List Int).length 0,.slice none ([]:List Int).length 0,.int .u64 (5:Int)]:=hS 5 (by decide) 28 rfl
   refine o_call cf_buffer_Note (by simp only [List.map,ev,q26,q27,q28] <;> rfl) (buffer_Note_c x99 (kBuf_mk (d:=x99) H104) (⟨(1:Int),([(⟨([107]:Str),(⟨(3:Int),(0:Int),(0:Int),false,([]:Str),([]:List Int),([]:List Int),(5:Int)⟩:Val)⟩:Ent)]:List Ent),([(0:Int)]:List Int)⟩:Arena) (kArena_mk (d:=(⟨(1:Int),([(⟨([107]:Str),(⟨(3:Int),(0:Int),(0:Int),false,([]:Str),([]:List Int),([]:List Int),(5:Int)⟩:Val)⟩:Ent)]:List Ent),([(0:Int)]:List Int)⟩:Arena)) (H11.up (G92.trans (Fr.ext F98o)) (fun _ h=>h) (upo (fun m hm=>.inr (Nat.le_trans (G92.size) (hg98 m hm).1)) (upc (.inr m78) (upc (.inr m43) (upc (.inr m16) (upc (.inl (List.Mem.head _)) (fun m hm=>Or.inl (List.Mem.tail _ hm)))))))) (H12.up (G92.trans (Fr.ext F98o)) (fun _ h=>h) (upo (fun m hm=>.inr (Nat.le_trans (G92.size) (hg98 m hm).1)) (upc (.inr m78) (upc (.inr m43) (upc (.inr m16) (upc (.inl (List.Mem.head _)) (fun m hm=>Or.inl (List.Mem.tail _ hm))))))))) (2:Int) (⟨([107]:Str),(⟨(3:Int),(0:Int),(0:Int),false,([]:Str),([]:List Int),([]:List Int),(5:Int)⟩:Val)⟩:Ent) (kEnt_mk (d:=(⟨([107]:Str),(⟨(3:Int),(0:Int),(0:Int),false,([]:Str),([]:List Int),([]:List Int),(5:Int)⟩:Val)⟩:Ent)) stb_nil stb_nil) (lt_ghost (((((hL.fr E167).cons (B95.ex F98o).lt).cons (B96.ex F98o).lt).cons (B97.ex F98o).lt).cons (B89'.ex F98o).lt) hg98) (eq_ev hx105 (bufNote_ev x99 (⟨(1:Int),([(⟨([107]:Str),(⟨(3:Int),(0:Int),(0:Int),false,([]:Str),([]:List Int),([]:List Int),(5:Int)⟩:Val)⟩:Ent)]:List Ent),([(0:Int)]:List Int)⟩:Arena) (2:Int) (⟨([107]:Str),(⟨(3:Int),(0:Int),(0:Int),false,([]:Str),([]:List Int),([]:List Int),(5:Int)⟩:Val)⟩:Ent) ha106 ha107))) rfl rfl ?_
   rintro _ w' ⟨F,cs176,rfl,H177⟩
   obtain ⟨A108,c109,rfl,H110⟩:=kBuf_open H177
   exact eo_nil ⟨rfl,rfl,_,rfl,F,⟨A108,c109,rfl,H110⟩⟩
  ·intro _ hT; exact absurd hT (by decide)
  ·intro hT; exact absurd hT (by decide)
 ·intro o ho ρ w98o F98o hX hS hρ; cases Option.some.inj ho; refine o_alloc zero_buffer_Buffer rfl rfl rfl ?_; intro b w' e F B; subst e
  exact eo_nil ⟨rfl,rfl,_,rfl,F,gOf _,(fun m hm=>by rw [own_gOf,List.mem_singleton] at hm; subst hm; exact ⟨Nat.le_refl _,B.lt⟩),(fun b e=>by obtain rfl:=gOf_inj e; exact B),_,rfl,rfl,F98o.size⟩
 ·refine ⟨⟨_,rfl,?_⟩,trivial⟩
  ·intro g98 ρ w98o hg98 F98o hX hI hS hρ
   have hG98:=hI
   obtain ⟨b98_7,q5,heb98_7,lob98_7⟩:=hS 7 (by decide) 5 rfl
   obtain ⟨A108,c109,q29,H110⟩:=hS 6 (by decide) 29 rfl
   subst heb98_7
   have hB98_b98_7:=hG98 _ rfl
   refine o_store (show ev ρ _=_ from q5) hB98_b98_7 (vs:=[.int .i64 x105.epoch,.int .i64 x105.first,.slice A108 x105.names.length c109]) (congrArg Value.cells q29) sz_buffer_Buffer rfl rfl rfl ?_
   intro w' F B2
   exact eo_nil ⟨rfl,rfl,undef,rfl,F,⟨A108,c109,(H110.fr F (fun m hm=>List.mem_append_left _ hm)),(fun b e=>by obtain rfl:=gOf_inj e; exact B2)⟩,trivial⟩
 ·intro g98 ρ w98 hg98 F98 hI hS hρ
  obtain ⟨A108,c109,H110,hG98⟩:=hI
  obtain ⟨b98_7,q5,heb98_7,lob98_7⟩:=hS 7 5 rfl
  subst heb98_7
  have hB98_b98_7:=hG98 _ rfl
  have H110:Stb (b98_7::(b73::(b39::(b13::(b1::L))))) w98 (fun w=>SlC kNm w A108 c109 x105.names):=H110
  obtain ⟨ρ',rfl⟩:∃ ρ',ρ=envs (ovr [5,23,24,25,26,27,28,29] ρ' _) [(5,.pointer (some ⟨b98_7,0,none⟩))]:=⟨ρ,ovr_self hρ ⟨q5,trivial⟩⟩
  have n98_7:w.heap.size≤b98_7:=Nat.le_trans E90.size lob98_7
  have q187:b1<b98_7:=Nat.lt_of_lt_of_le B95.lt lob98_7
  have q188:b13<b98_7:=Nat.lt_of_lt_of_le B96.lt lob98_7
  have q189:b39<b98_7:=Nat.lt_of_lt_of_le B97.lt lob98_7
  have q190:b73<b98_7:=Nat.lt_of_lt_of_le B89'.lt lob98_7
  have m192:w7.heap.size≤b98_7:=Nat.le_trans G92.size lob98_7
  have m194:w58.heap.size≤b98_7:=Nat.le_trans G94.size lob98_7
  have E195:=E90.trans F98
  have Z98:=Fr.refl (b98_7::(b73::(b39::(b13::(b1::L))))) w98
  refine sq_n ?_
  refine ec_seq ?_
  refine ec_region ?_
  refine o_w (v:=.agg (cBuf x105 A108 c109).toArray) (r_lda agg_buffer_Buffer rfl (vs:=(cBuf x105 A108 c109)) rfl (hB98_b98_7.part (n:=3) rfl)) ?_
  refine o_w (v:=.agg #[.int .i64 (1:Int),.slice (some ⟨b4,0,none⟩) ([(⟨([107]:Str),(⟨(3:Int),(0:Int),(0:Int),false,([]:Str),([]:List Int),([]:List Int),(5:Int)⟩:Val)⟩:Ent)]:List Ent).length 1,.slice (some ⟨b7,0,none⟩) ([(0:Int)]:List Int).length 1]) (r_lda agg_api_Arena rfl (vs:=[.int .i64 (1:Int),.slice (some ⟨b4,0,none⟩) ([(⟨([107]:Str),(⟨(3:Int),(0:Int),(0:Int),false,([]:Str),([]:List Int),([]:List Int),(5:Int)⟩:Val)⟩:Ent)]:List Ent).length 1,.slice (some ⟨b7,0,none⟩) ([(0:Int)]:List Int).length 1]) rfl ((B96.ex F98).part (n:=3) rfl)) ?_
  obtain ⟨ha205,h⟩:=h
  obtain ⟨ha206,h⟩:=h
  obtain ⟨x204,hx204,h⟩:=h
  refine o_call cf_buffer_Ack rfl (buffer_Ack_c x105 (kBuf_mk (d:=x105) (H110.fr Z98 (fun _ h=>h))) (⟨(1:Int),([(⟨([107]:Str),(⟨(3:Int),(0:Int),(0:Int),false,([]:Str),([]:List Int),([]:List Int),(5:Int)⟩:Val)⟩:Ent)]:List Ent),([(0:Int)]:List Int)⟩:Arena) (kArena_mk (d:=(⟨(1:Int),([(⟨([107]:Str),(⟨(3:Int),(0:Int),(0:Int),false,([]:Str),([]:List Int),([]:List Int),(5:Int)⟩:Val)⟩:Ent)]:List Ent),([(0:Int)]:List Int)⟩:Arena)) (H11.up (G92.trans (Fr.ext F98)) (fun _ h=>h) (upc (.inr m192) (upc (.inr m78) (upc (.inr m43) (upc (.inr m16) (upc (.inl (List.Mem.head _)) (fun m hm=>Or.inl (List.Mem.tail _ hm)))))))) (H12.up (G92.trans (Fr.ext F98)) (fun _ h=>h) (upc (.inr m192) (upc (.inr m78) (upc (.inr m43) (upc (.inr m16) (upc (.inl (List.Mem.head _)) (fun m hm=>Or.inl (List.Mem.tail _ hm))))))))) (2:Int) (0:Int) (2:Int) ((((((hL.fr E195).cons (B95.ex F98).lt).cons (B96.ex F98).lt).cons (B97.ex F98).lt).cons (B89'.ex F98).lt).cons hB98_b98_7.lt) (eq_ev hx204 (bufAck_ev x105 (⟨(1:Int),([(⟨([107]:Str),(⟨(3:Int),(0:Int),(0:Int),false,([]:Str),([]:List Int),([]:List Int),(5:Int)⟩:Val)⟩:Ent)]:List Ent),([(0:Int)]:List Int)⟩:Arena) (2:Int) (0:Int) (2:Int) ha205 ha206))) rfl rfl ?_
  rintro _ w204 ⟨F204,cs207,rfl,H208⟩
  have E209:=E195.trans F204
  obtain ⟨A220,c221,rfl,H222⟩:=kBuf_open H208
  refine o_alloc zero_buffer_Buffer rfl rfl rfl ?_
  intro b223 w223 e223 F223 B223
  have n223:w.heap.size≤b223:=by rw [e223]; exact E209.size
  have q224:b1<b223:=by rw [e223]; exact ((B95.ex F98).ex F204).lt
  have q225:b13<b223:=by rw [e223]; exact ((B96.ex F98).ex F204).lt
  have q226:b39<b223:=by rw [e223]; exact ((B97.ex F98).ex F204).lt
  have q227:b73<b223:=by rw [e223]; exact ((B89'.ex F98).ex F204).lt
  have q228:b98_7<b223:=by rw [e223]; exact (hB98_b98_7.ex F204).lt
  have m230:w7.heap.size≤b223:=by rw [e223]; exact ((G92.trans (Fr.ext F98)).trans (Fr.ext F204)).size
  have m232:w58.heap.size≤b223:=by rw [e223]; exact ((G94.trans (Fr.ext F98)).trans (Fr.ext F204)).size
  have m233:w98.heap.size≤b223:=by rw [e223]; exact (Z98.trans (Fr.ext F204)).size
  have E235:=E209.trans F223
  refine o_store rfl B223 (vs:=(cBuf x204 A220 c221)) rfl sz_buffer_Buffer rfl rfl rfl ?_
  intro w247 F247 B247
  have E248:=Ext.st E235 F247 (by simp; omega)
  have G250:Fr (b1::L) w7 w247:=(((G92.trans (Fr.ext F98)).trans (Fr.ext F204)).trans (Fr.ext F223)).stp F247 (upc (.inr m230) (fun m hm=>by cases hm))
  have G252:Fr (b39::(b13::(b1::L))) w58 w247:=(((G94.trans (Fr.ext F98)).trans (Fr.ext F204)).trans (Fr.ext F223)).stp F247 (upc (.inr m232) (fun m hm=>by cases hm))
  have G253:Fr (b98_7::(b73::(b39::(b13::(b1::L))))) w98 w247:=((Z98.trans (Fr.ext F204)).trans (Fr.ext F223)).stp F247 (upc (.inr m233) (fun m hm=>by cases hm))
  have B255:=(((B95.ex F98).ex F204).ex F223).fr F247 (by simp; omega)
  have B256:=(((B96.ex F98).ex F204).ex F223).fr F247 (by simp; omega)
  have B257:=(((B97.ex F98).ex F204).ex F223).fr F247 (by simp; omega)
  have B258:=(((B89'.ex F98).ex F204).ex F223).fr F247 (by simp; omega)
  have B259:=((hB98_b98_7.ex F204).ex F223).fr F247 (by simp; omega)
  have B247':Blk w247 b223 _ (cBuf x204 A220 c221):=B247
  refine eo_nil_sq ?_
  refine ec_seq ?_
  refine ec_region ?_
  refine o_w (v:=.agg (cBuf x105 A108 c109).toArray) (r_lda agg_buffer_Buffer rfl (vs:=(cBuf x105 A108 c109)) rfl (B259.part (n:=3) rfl)) ?_
  refine o_w (v:=.agg #[.int .i64 (1:Int),.slice (some ⟨b4,0,none⟩) ([(⟨([107]:Str),(⟨(3:Int),(0:Int),(0:Int),false,([]:Str),([]:List Int),([]:List Int),(5:Int)⟩:Val)⟩:Ent)]:List Ent).length 1,.slice (some ⟨b7,0,none⟩) ([(0:Int)]:List Int).length 1]) (r_lda agg_api_Arena rfl (vs:=[.int .i64 (1:Int),.slice (some ⟨b4,0,none⟩) ([(⟨([107]:Str),(⟨(3:Int),(0:Int),(0:Int),false,([]:Str),([]:List Int),([]:List Int),(5:Int)⟩:Val)⟩:Ent)]:List Ent).length 1,.slice (some ⟨b7,0,none⟩) ([(0:Int)]:List Int).length 1]) rfl (B256.part (n:=3) rfl)) ?_
  obtain ⟨ha261,h⟩:=h
  obtain ⟨ha262,h⟩:=h
  obtain ⟨x260,hx260,h⟩:=h
  refine o_call cf_buffer_Ack rfl (buffer_Ack_c x105 (kBuf_mk (d:=x105) (H110.up G253 (fun _ h=>h) (upc (.inr m233) (upc (.inl (List.Mem.head _)) (upc (.inl (List.Mem.tail _ (List.Mem.head _))) (upc (.inl (List.Mem.tail _ (List.Mem.tail _ (List.Mem.head _)))) (upc (.inl (List.Mem.tail _ (List.Mem.tail _ (List.Mem.tail _ (List.Mem.head _))))) (upc (.inl (List.Mem.tail _ (List.Mem.tail _ (List.Mem.tail _ (List.Mem.tail _ (List.Mem.head _)))))) (fun m hm=>Or.inl (List.Mem.tail _ (List.Mem.tail _ (List.Mem.tail _ (List.Mem.tail _ (List.Mem.tail _ hm)))))))))))))) (⟨(1:Int),([(⟨([107]:Str),(⟨(3:Int),(0:Int),(0:Int),false,([]:Str),([]:List Int),([]:List Int),(5:Int)⟩:Val)⟩:Ent)]:List Ent),([(0:Int)]:List Int)⟩:Arena) (kArena_mk (d:=(⟨(1:Int),([(⟨([107]:Str),(⟨(3:Int),(0:Int),(0:Int),false,([]:Str),([]:List Int),([]:List Int),(5:Int)⟩:Val)⟩:Ent)]:List Ent),([(0:Int)]:List Int)⟩:Arena)) (H11.up G250 (fun _ h=>h) (upc (.inr m230) (upc (.inr m192) (upc (.inr m78) (upc (.inr m43) (upc (.inr m16) (upc (.inl (List.Mem.head _)) (fun m hm=>Or.inl (List.Mem.tail _ hm))))))))) (H12.up G250 (fun _ h=>h) (upc (.inr m230) (upc (.inr m192) (upc (.inr m78) (upc (.inr m43) (upc (.inr m16) (upc (.inl (List.Mem.head _)) (fun m hm=>Or.inl (List.Mem.tail _ hm)))))))))) (2:Int) (1:Int) (2:Int) (((((((hL.fr E248).cons B255.lt).cons B256.lt).cons B257.lt).cons B258.lt).cons B259.lt).cons B247'.lt) (eq_ev hx260 (bufAck_ev x105 (⟨(1:Int),([(⟨([107]:Str),(⟨(3:Int),(0:Int),(0:Int),false,([]:Str),([]:List Int),([]:List Int),(5:Int)⟩:Val)⟩:Ent)]:List Ent),([(0:Int)]:List Int)⟩:Arena) (2:Int) (1:Int) (2:Int) ha261 ha262))) rfl rfl ?_
  rintro _ w260 ⟨F260,cs263,rfl,H264⟩
  have E265:=E248.trans F260
  obtain ⟨A278,c279,rfl,H280⟩:=kBuf_open H264
  refine o_alloc zero_buffer_Buffer rfl rfl rfl ?_
  intro b281 w281 e281 F281 B281
  have n281:w.heap.size≤b281:=by rw [e281]; exact E265.size
  have q282:b1<b281:=by rw [e281]; exact (B255.ex F260).lt
  have q283:b13<b281:=by rw [e281]; exact (B256.ex F260).lt
  have q284:b39<b281:=by rw [e281]; exact (B257.ex F260).lt
  have q285:b73<b281:=by rw [e281]; exact (B258.ex F260).lt
  have q286:b98_7<b281:=by rw [e281]; exact (B259.ex F260).lt
  have q287:b223<b281:=by rw [e281]; exact (B247'.ex F260).lt
  have m289:w7.heap.size≤b281:=by rw [e281]; exact (G250.trans (Fr.ext F260)).size
  have m291:w58.heap.size≤b281:=by rw [e281]; exact (G252.trans (Fr.ext F260)).size
  have m292:w98.heap.size≤b281:=by rw [e281]; exact (G253.trans (Fr.ext F260)).size
  have m294:w260.heap.size≤b281:=Nat.le_of_eq e281.symm
  have E295:=E265.trans F281
  have G302:Fr (b223::(b98_7::(b73::(b39::(b13::(b1::L)))))) w260 w281:=Fr.ext F281
  refine o_store rfl B281 (vs:=(cBuf x260 A278 c279)) rfl sz_buffer_Buffer rfl rfl rfl ?_
  intro w309 F309 B309
  have E310:=Ext.st E295 F309 (by simp; omega)
  have G312:Fr (b1::L) w7 w309:=((G250.trans (Fr.ext F260)).trans (Fr.ext F281)).stp F309 (upc (.inr m289) (fun m hm=>by cases hm))
  have G314:Fr (b39::(b13::(b1::L))) w58 w309:=((G252.trans (Fr.ext F260)).trans (Fr.ext F281)).stp F309 (upc (.inr m291) (fun m hm=>by cases hm))
  have G315:Fr (b98_7::(b73::(b39::(b13::(b1::L))))) w98 w309:=((G253.trans (Fr.ext F260)).trans (Fr.ext F281)).stp F309 (upc (.inr m292) (fun m hm=>by cases hm))
  have G317:Fr (b223::(b98_7::(b73::(b39::(b13::(b1::L)))))) w260 w309:=G302.stp F309 (upc (.inr m294) (fun m hm=>by cases hm))
  have B318:=((B255.ex F260).ex F281).fr F309 (by simp; omega)
  have B319:=((B256.ex F260).ex F281).fr F309 (by simp; omega)
  have B320:=((B257.ex F260).ex F281).fr F309 (by simp; omega)
  have B321:=((B258.ex F260).ex F281).fr F309 (by simp; omega)
  have B322:=((B259.ex F260).ex F281).fr F309 (by simp; omega)
  have B323:=((B247'.ex F260).ex F281).fr F309 (by simp; omega)
  have B309':Blk w309 b281 _ (cBuf x260 A278 c279):=B309
  refine eo_nil_sq ?_
  refine ec_seq ?_
  refine ec_region ?_
  refine o_w (v:=.agg #[.int .i64 (1:Int),str ([122]:Str)]) (r_build bld_buffer_Name (vs:=[(0,.int .i64 (1:Int)),(1,str ([122]:Str))]) (cells:=[.int .i64 (1:Int),str ([122]:Str)]) rfl rfl) ?_
  refine o_bslice slc_s_buffer_Name rfl (vs:=[.agg #[.int .i64 (1:Int),str ([122]:Str)]]) rfl rfl rfl (cs:=[.int .i64 (1:Int),str ([122]:Str)]) rfl rfl rfl rfl ?_
  intro b324 w324 e324 F324 B324
  have N324:=nin ((((((((hL.fr E310).cons B318.lt).cons B319.lt).cons B320.lt).cons B321.lt).cons B322.lt).cons B323.lt).cons B309'.lt) e324
  have S324:=B324.stb N324
  have E325:=E310.trans F324
  have H340:Stb (b281::(b223::(b98_7::(b73::(b39::(b13::(b1::L))))))) w324 (fun w=>SlC kNm w (some ⟨b324,0,none⟩) 1 ([(⟨(1:Int),([122]:Str)⟩:Nm)]:List Nm)):=bs_seal S324.now N324 rfl (rowd1 (cs:=[.int .i64 (1:Int),str ([122]:Str)]) (kNm_mk (d:=(⟨(1:Int),([122]:Str)⟩:Nm))) rfl)
  refine o_w (v:=.agg #[.int .i64 (4:Int),.int .i64 (0:Int),.slice (some ⟨b324,0,none⟩) ([(⟨(1:Int),([122]:Str)⟩:Nm)]:List Nm).length 1]) (r_build bld_buffer_Buffer (vs:=[(0,.int .i64 (4:Int)),(2,.slice (some ⟨b324,0,none⟩) 1 1)]) (cells:=[.int .i64 (4:Int),.int .i64 (0:Int),.slice (some ⟨b324,0,none⟩) ([(⟨(1:Int),([122]:Str)⟩:Nm)]:List Nm).length 1]) rfl rfl) ?_
  refine o_w (v:=.agg #[.int .i64 (1:Int),.slice (some ⟨b4,0,none⟩) ([(⟨([107]:Str),(⟨(3:Int),(0:Int),(0:Int),false,([]:Str),([]:List Int),([]:List Int),(5:Int)⟩:Val)⟩:Ent)]:List Ent).length 1,.slice (some ⟨b7,0,none⟩) ([(0:Int)]:List Int).length 1]) (r_lda agg_api_Arena rfl (vs:=[.int .i64 (1:Int),.slice (some ⟨b4,0,none⟩) ([(⟨([107]:Str),(⟨(3:Int),(0:Int),(0:Int),false,([]:Str),([]:List Int),([]:List Int),(5:Int)⟩:Val)⟩:Ent)]:List Ent).length 1,.slice (some ⟨b7,0,none⟩) ([(0:Int)]:List Int).length 1]) rfl ((B319.ex F324).part (n:=3) rfl)) ?_
  obtain ⟨ha342,h⟩:=h
  obtain ⟨ha343,h⟩:=h
  obtain ⟨x341,hx341,h⟩:=h
  refine o_call cf_buffer_Mend rfl (buffer_Mend_c (⟨(4:Int),(0:Int),([(⟨(1:Int),([122]:Str)⟩:Nm)]:List Nm)⟩:Buf) (kBuf_mk (d:=(⟨(4:Int),(0:Int),([(⟨(1:Int),([122]:Str)⟩:Nm)]:List Nm)⟩:Buf)) H340) (⟨(1:Int),([(⟨([107]:Str),(⟨(3:Int),(0:Int),(0:Int),false,([]:Str),([]:List Int),([]:List Int),(5:Int)⟩:Val)⟩:Ent)]:List Ent),([(0:Int)]:List Int)⟩:Arena) (kArena_mk (d:=(⟨(1:Int),([(⟨([107]:Str),(⟨(3:Int),(0:Int),(0:Int),false,([]:Str),([]:List Int),([]:List Int),(5:Int)⟩:Val)⟩:Ent)]:List Ent),([(0:Int)]:List Int)⟩:Arena)) (H11.up (G312.trans (Fr.ext F324)) (fun _ h=>h) (upc (.inr m289) (upc (.inr m230) (upc (.inr m192) (upc (.inr m78) (upc (.inr m43) (upc (.inr m16) (upc (.inl (List.Mem.head _)) (fun m hm=>Or.inl (List.Mem.tail _ hm)))))))))) (H12.up (G312.trans (Fr.ext F324)) (fun _ h=>h) (upc (.inr m289) (upc (.inr m230) (upc (.inr m192) (upc (.inr m78) (upc (.inr m43) (upc (.inr m16) (upc (.inl (List.Mem.head _)) (fun m hm=>Or.inl (List.Mem.tail _ hm))))))))))) (2:Int) ((((((((hL.fr E325).cons (B318.ex F324).lt).cons (B319.ex F324).lt).cons (B320.ex F324).lt).cons (B321.ex F324).lt).cons (B322.ex F324).lt).cons (B323.ex F324).lt).cons (B309'.ex F324).lt) (eq_ev hx341 (bufMend_ev (⟨(4:Int),(0:Int),([(⟨(1:Int),([122]:Str)⟩:Nm)]:List Nm)⟩:Buf) (⟨(1:Int),([(⟨([107]:Str),(⟨(3:Int),(0:Int),(0:Int),false,([]:Str),([]:List Int),([]:List Int),(5:Int)⟩:Val)⟩:Ent)]:List Ent),([(0:Int)]:List Int)⟩:Arena) (2:Int) ha342 ha343))) rfl rfl ?_
  rintro _ w341 ⟨F341,cs344,rfl,H345⟩
  have E346:=E325.trans F341
  obtain ⟨A362,c363,rfl,H364⟩:=kBuf_open H345
  refine o_alloc zero_buffer_Buffer rfl rfl rfl ?_
  intro b365 w365 e365 F365 B365
  have n365:w.heap.size≤b365:=by rw [e365]; exact E346.size
  have q366:b1<b365:=by rw [e365]; exact ((B318.ex F324).ex F341).lt
  have q367:b13<b365:=by rw [e365]; exact ((B319.ex F324).ex F341).lt
  have q368:b39<b365:=by rw [e365]; exact ((B320.ex F324).ex F341).lt
  have q369:b73<b365:=by rw [e365]; exact ((B321.ex F324).ex F341).lt
  have q370:b98_7<b365:=by rw [e365]; exact ((B322.ex F324).ex F341).lt
  have q371:b223<b365:=by rw [e365]; exact ((B323.ex F324).ex F341).lt
  have q372:b281<b365:=by rw [e365]; exact ((B309'.ex F324).ex F341).lt
  have m374:w7.heap.size≤b365:=by rw [e365]; exact ((G312.trans (Fr.ext F324)).trans (Fr.ext F341)).size
  have m376:w58.heap.size≤b365:=by rw [e365]; exact ((G314.trans (Fr.ext F324)).trans (Fr.ext F341)).size
  have m377:w98.heap.size≤b365:=by rw [e365]; exact ((G315.trans (Fr.ext F324)).trans (Fr.ext F341)).size
  have m379:w260.heap.size≤b365:=by rw [e365]; exact ((G317.trans (Fr.ext F324)).trans (Fr.ext F341)).size
  have E382:=E346.trans F365
  have G384:=((G312.trans (Fr.ext F324)).trans (Fr.ext F341)).trans (Fr.ext F365)
  have G386:=((G314.trans (Fr.ext F324)).trans (Fr.ext F341)).trans (Fr.ext F365)
  have G387:=((G315.trans (Fr.ext F324)).trans (Fr.ext F341)).trans (Fr.ext F365)
  have G389:=((G317.trans (Fr.ext F324)).trans (Fr.ext F341)).trans (Fr.ext F365)
  refine o_store rfl B365 (vs:=(cBuf x341 A362 c363)) rfl sz_buffer_Buffer rfl rfl rfl ?_
  intro w399 F399 B399
  have E400:=Ext.st E382 F399 (by simp; omega)
  have G402:Fr (b1::L) w7 w399:=G384.stp F399 (upc (.inr m374) (fun m hm=>by cases hm))
  have G404:Fr (b39::(b13::(b1::L))) w58 w399:=G386.stp F399 (upc (.inr m376) (fun m hm=>by cases hm))
  have G405:Fr (b98_7::(b73::(b39::(b13::(b1::L))))) w98 w399:=G387.stp F399 (upc (.inr m377) (fun m hm=>by cases hm))
  have G407:Fr (b223::(b98_7::(b73::(b39::(b13::(b1::L)))))) w260 w399:=G389.stp F399 (upc (.inr m379) (fun m hm=>by cases hm))
  have B410:=(((B318.ex F324).ex F341).ex F365).fr F399 (by simp; omega)
  have B411:=(((B319.ex F324).ex F341).ex F365).fr F399 (by simp; omega)
  have B412:=(((B320.ex F324).ex F341).ex F365).fr F399 (by simp; omega)
  have B413:=(((B321.ex F324).ex F341).ex F365).fr F399 (by simp; omega)
  have B414:=(((B322.ex F324).ex F341).ex F365).fr F399 (by simp; omega)
  have B415:=(((B323.ex F324).ex F341).ex F365).fr F399 (by simp; omega)
  have B416:=(((B309'.ex F324).ex F341).ex F365).fr F399 (by simp; omega)
  have B399':Blk w399 b365 _ (cBuf x341 A362 c363):=B399
  refine eo_nil_sq ?_
  refine ec_seq ?_
  refine ec_region ?_
  refine o_w (v:=.agg (cBuf x105 A108 c109).toArray) (r_lda agg_buffer_Buffer rfl (vs:=(cBuf x105 A108 c109)) rfl (B414.part (n:=3) rfl)) ?_
  refine o_w (v:=.agg #[.int .i64 (1:Int),.slice (some ⟨b4,0,none⟩) ([(⟨([107]:Str),(⟨(3:Int),(0:Int),(0:Int),false,([]:Str),([]:List Int),([]:List Int),(5:Int)⟩:Val)⟩:Ent)]:List Ent).length 1,.slice (some ⟨b7,0,none⟩) ([(0:Int)]:List Int).length 1]) (r_lda agg_api_Arena rfl (vs:=[.int .i64 (1:Int),.slice (some ⟨b4,0,none⟩) ([(⟨([107]:Str),(⟨(3:Int),(0:Int),(0:Int),false,([]:Str),([]:List Int),([]:List Int),(5:Int)⟩:Val)⟩:Ent)]:List Ent).length 1,.slice (some ⟨b7,0,none⟩) ([(0:Int)]:List Int).length 1]) rfl (B411.part (n:=3) rfl)) ?_
  obtain ⟨ha418,h⟩:=h
  obtain ⟨ha419,h⟩:=h
  obtain ⟨x417,hx417,h⟩:=h
  refine o_call cf_buffer_Some rfl (buffer_Some_c x105 (kBuf_mk (d:=x105) (H110.up G405 (fun _ h=>h) (upc (.inr m377) (upc (.inr m292) (upc (.inr m233) (upc (.inl (List.Mem.head _)) (upc (.inl (List.Mem.tail _ (List.Mem.head _))) (upc (.inl (List.Mem.tail _ (List.Mem.tail _ (List.Mem.head _)))) (upc (.inl (List.Mem.tail _ (List.Mem.tail _ (List.Mem.tail _ (List.Mem.head _))))) (upc (.inl (List.Mem.tail _ (List.Mem.tail _ (List.Mem.tail _ (List.Mem.tail _ (List.Mem.head _)))))) (fun m hm=>Or.inl (List.Mem.tail _ (List.Mem.tail _ (List.Mem.tail _ (List.Mem.tail _ (List.Mem.tail _ hm)))))))))))))))) (⟨(1:Int),([(⟨([107]:Str),(⟨(3:Int),(0:Int),(0:Int),false,([]:Str),([]:List Int),([]:List Int),(5:Int)⟩:Val)⟩:Ent)]:List Ent),([(0:Int)]:List Int)⟩:Arena) (kArena_mk (d:=(⟨(1:Int),([(⟨([107]:Str),(⟨(3:Int),(0:Int),(0:Int),false,([]:Str),([]:List Int),([]:List Int),(5:Int)⟩:Val)⟩:Ent)]:List Ent),([(0:Int)]:List Int)⟩:Arena)) (H11.up G402 (fun _ h=>h) (upc (.inr m374) (upc (.inr m289) (upc (.inr m230) (upc (.inr m192) (upc (.inr m78) (upc (.inr m43) (upc (.inr m16) (upc (.inl (List.Mem.head _)) (fun m hm=>Or.inl (List.Mem.tail _ hm))))))))))) (H12.up G402 (fun _ h=>h) (upc (.inr m374) (upc (.inr m289) (upc (.inr m230) (upc (.inr m192) (upc (.inr m78) (upc (.inr m43) (upc (.inr m16) (upc (.inl (List.Mem.head _)) (fun m hm=>Or.inl (List.Mem.tail _ hm)))))))))))) (2:Int) (5:Int) (((((((((hL.fr E400).cons B410.lt).cons B411.lt).cons B412.lt).cons B413.lt).cons B414.lt).cons B415.lt).cons B416.lt).cons B399'.lt) (eq_ev hx417 (bufSome_ev x105 (⟨(1:Int),([(⟨([107]:Str),(⟨(3:Int),(0:Int),(0:Int),false,([]:Str),([]:List Int),([]:List Int),(5:Int)⟩:Val)⟩:Ent)]:List Ent),([(0:Int)]:List Int)⟩:Arena) (2:Int) (5:Int) ha418 ha419))) rfl rfl ?_
  rintro _ w417 ⟨F417,A420,c421,rfl,H422⟩
  have E423:=E400.trans F417
  refine o_w (v:=.slice A420 x417.length c421) (r_asg rfl) ?_
  refine eo_nil_sq ?_
  refine ec_seq ?_
  refine ec_region ?_
  refine o_w (v:=.pointer (some ⟨b39,0,none⟩)) (r_fa fld_buffer_Buffer_0 rfl rfl) ?_
  refine o_w (v:=.int .i64 x26.epoch) (r_ld one_int rfl ((B412.ex F417).cell rfl)) ?_
  refine o_w (v:=.bool (x26.epoch==(0:Int))) (r_int rfl rfl rfl) ?_
  refine o_w (v:=.bool (x26.epoch==(0:Int))) (r_mov rfl) ?_
  rcases Bool.eq_false_or_eq_true (x26.epoch==(0:Int)) with hc444 | hc444
  ·replace h:=h.1 hc444
   refine o_v (v:=.pointer (some ⟨b39,2,none⟩)) (r_fa fld_buffer_Buffer_2 rfl rfl) (want_t (t:=47) rfl rfl hc444) rfl rfl ?_
   refine o_v (v:=.slice A36 x26.names.length c37) (r_ld one_s_buffer_Name rfl ((B412.ex F417).cell rfl)) (want_t (t:=47) rfl rfl hc444) rfl rfl ?_
   refine o_v (v:=.int .i64 (x26.names.length:Int)) (r_len_slc un_s_buffer_Name rfl) (want_t (t:=47) rfl rfl hc444) rfl rfl ?_
   refine o_v (v:=.bool ((x26.names.length:Int)==(0:Int))) (r_int rfl rfl rfl) (want_t (t:=47) rfl rfl hc444) rfl rfl ?_
   refine o_w (v:=.bool ((x26.names.length:Int)==(0:Int))) (r_pickT rfl hc444 rfl) ?_
   refine o_w (v:=.bool ((x26.names.length:Int)==(0:Int))) (r_mov rfl) ?_
   rcases Bool.eq_false_or_eq_true ((x26.names.length:Int)==(0:Int)) with hc445 | hc445
   ·replace h:=h.1 hc445
    refine o_v (v:=.pointer (some ⟨b73,2,none⟩)) (r_fa fld_buffer_Buffer_2 rfl rfl) (want_t (t:=53) rfl rfl hc445) rfl rfl ?_
    refine o_v (v:=.slice A70 x58.names.length c71) (r_ld one_s_buffer_Name rfl ((B413.ex F417).cell rfl)) (want_t (t:=53) rfl rfl hc445) rfl rfl ?_
    refine o_v (v:=.int .i64 (x58.names.length:Int)) (r_len_slc un_s_buffer_Name rfl) (want_t (t:=53) rfl rfl hc445) rfl rfl ?_
    refine o_v (v:=.bool ((x58.names.length:Int)==(1:Int))) (r_int rfl rfl rfl) (want_t (t:=53) rfl rfl hc445) rfl rfl ?_
    refine o_w (v:=.bool ((x58.names.length:Int)==(1:Int))) (r_pickT rfl hc445 rfl) ?_
    refine o_w (v:=.bool ((x58.names.length:Int)==(1:Int))) (r_mov rfl) ?_
    rcases Bool.eq_false_or_eq_true ((x58.names.length:Int)==(1:Int)) with hc446 | hc446
    ·replace h:=h.1 hc446
     refine o_v (v:=.pointer (some ⟨b73,1,none⟩)) (r_fa fld_buffer_Buffer_1 rfl rfl) (want_t (t:=59) rfl rfl hc446) rfl rfl ?_
     refine o_v (v:=.int .i64 x58.first) (r_ld one_int rfl ((B413.ex F417).cell rfl)) (want_t (t:=59) rfl rfl hc446) rfl rfl ?_
     refine o_v (v:=.bool (x58.first==(0:Int))) (r_int rfl rfl rfl) (want_t (t:=59) rfl rfl hc446) rfl rfl ?_
     refine o_w (v:=.bool (x58.first==(0:Int))) (r_pickT rfl hc446 rfl) ?_
     refine o_w (v:=.bool (x58.first==(0:Int))) (r_mov rfl) ?_
     rcases Bool.eq_false_or_eq_true (x58.first==(0:Int)) with hc447 | hc447
     ·replace h:=h.1 hc447
      refine o_v (v:=.pointer (some ⟨b98_7,2,none⟩)) (r_fa fld_buffer_Buffer_2 rfl rfl) (want_t (t:=64) rfl rfl hc447) rfl rfl ?_
      refine o_v (v:=.slice A108 x105.names.length c109) (r_ld one_s_buffer_Name rfl ((B414.ex F417).cell rfl)) (want_t (t:=64) rfl rfl hc447) rfl rfl ?_
      refine o_v (v:=.int .i64 (x105.names.length:Int)) (r_len_slc un_s_buffer_Name rfl) (want_t (t:=64) rfl rfl hc447) rfl rfl ?_
      refine o_v (v:=.bool ((x105.names.length:Int)==(2:Int))) (r_int rfl rfl rfl) (want_t (t:=64) rfl rfl hc447) rfl rfl ?_
      refine o_w (v:=.bool ((x105.names.length:Int)==(2:Int))) (r_pickT rfl hc447 rfl) ?_
      refine o_w (v:=.bool ((x105.names.length:Int)==(2:Int))) (r_mov rfl) ?_
      rcases Bool.eq_false_or_eq_true ((x105.names.length:Int)==(2:Int)) with hc448 | hc448
      ·replace h:=h.1 hc448
       refine o_v (v:=.pointer (some ⟨b98_7,1,none⟩)) (r_fa fld_buffer_Buffer_1 rfl rfl) (want_t (t:=70) rfl rfl hc448) rfl rfl ?_
       refine o_v (v:=.int .i64 x105.first) (r_ld one_int rfl ((B414.ex F417).cell rfl)) (want_t (t:=70) rfl rfl hc448) rfl rfl ?_
       refine o_v (v:=.bool (x105.first==(1:Int))) (r_int rfl rfl rfl) (want_t (t:=70) rfl rfl hc448) rfl rfl ?_
       refine o_w (v:=.bool (x105.first==(1:Int))) (r_pickT rfl hc448 rfl) ?_
       refine o_w (v:=.bool (x105.first==(1:Int))) (r_mov rfl) ?_
       rcases Bool.eq_false_or_eq_true (x105.first==(1:Int)) with hc449 | hc449
       ·replace h:=h.1 hc449
        refine o_v (v:=.pointer (some ⟨b223,2,none⟩)) (r_fa fld_buffer_Buffer_2 rfl rfl) (want_t (t:=75) rfl rfl hc449) rfl rfl ?_
        refine o_v (v:=.slice A220 x204.names.length c221) (r_ld one_s_buffer_Name rfl ((B415.ex F417).cell rfl)) (want_t (t:=75) rfl rfl hc449) rfl rfl ?_
        refine o_v (v:=.int .i64 (x204.names.length:Int)) (r_len_slc un_s_buffer_Name rfl) (want_t (t:=75) rfl rfl hc449) rfl rfl ?_
        refine o_v (v:=.bool ((x204.names.length:Int)==(1:Int))) (r_int rfl rfl rfl) (want_t (t:=75) rfl rfl hc449) rfl rfl ?_
        refine o_w (v:=.bool ((x204.names.length:Int)==(1:Int))) (r_pickT rfl hc449 rfl) ?_
        refine o_w (v:=.bool ((x204.names.length:Int)==(1:Int))) (r_mov rfl) ?_
        rcases Bool.eq_false_or_eq_true ((x204.names.length:Int)==(1:Int)) with hc450 | hc450
        ·replace h:=h.1 hc450
         refine o_v (v:=.pointer (some ⟨b223,1,none⟩)) (r_fa fld_buffer_Buffer_1 rfl rfl) (want_t (t:=81) rfl rfl hc450) rfl rfl ?_
         refine o_v (v:=.int .i64 x204.first) (r_ld one_int rfl ((B415.ex F417).cell rfl)) (want_t (t:=81) rfl rfl hc450) rfl rfl ?_
         refine o_v (v:=.bool (x204.first==(2:Int))) (r_int rfl rfl rfl) (want_t (t:=81) rfl rfl hc450) rfl rfl ?_
         refine o_w (v:=.bool (x204.first==(2:Int))) (r_pickT rfl hc450 rfl) ?_
         refine o_w (v:=.bool (x204.first==(2:Int))) (r_mov rfl) ?_
         rcases Bool.eq_false_or_eq_true (x204.first==(2:Int)) with hc451 | hc451
         ·replace h:=h.1 hc451
          refine o_v (v:=.agg (cBuf x260 A278 c279).toArray) (r_lda agg_buffer_Buffer rfl (vs:=(cBuf x260 A278 c279)) rfl ((B416.ex F417).part (n:=3) rfl)) (want_t (t:=86) rfl rfl hc451) rfl rfl ?_
          refine o_v (v:=.agg (cBuf x105 A108 c109).toArray) (r_lda agg_buffer_Buffer rfl (vs:=(cBuf x105 A108 c109)) rfl ((B414.ex F417).part (n:=3) rfl)) (want_t (t:=86) rfl rfl hc451) rfl rfl ?_
          obtain ⟨ha453,h⟩:=h
          refine o_call cf_buffer_Same rfl (buffer_Same_c x260 (kBuf_mk (d:=x260) (H280.up (G407.trans (Fr.ext F417)) (fun _ h=>h) (upc (.inr m379) (upc (.inr m294) (upc (.inl (List.Mem.head _)) (upc (.inl (List.Mem.tail _ (List.Mem.head _))) (upc (.inl (List.Mem.tail _ (List.Mem.tail _ (List.Mem.head _)))) (upc (.inl (List.Mem.tail _ (List.Mem.tail _ (List.Mem.tail _ (List.Mem.head _))))) (upc (.inl (List.Mem.tail _ (List.Mem.tail _ (List.Mem.tail _ (List.Mem.tail _ (List.Mem.head _)))))) (upc (.inl (List.Mem.tail _ (List.Mem.tail _ (List.Mem.tail _ (List.Mem.tail _ (List.Mem.tail _ (List.Mem.head _))))))) (fun m hm=>Or.inl (List.Mem.tail _ (List.Mem.tail _ (List.Mem.tail _ (List.Mem.tail _ (List.Mem.tail _ (List.Mem.tail _ hm))))))))))))))))) x105 (kBuf_mk (d:=x105) (H110.up (G405.trans (Fr.ext F417)) (fun _ h=>h) (upc (.inr m377) (upc (.inr m292) (upc (.inr m233) (upc (.inl (List.Mem.head _)) (upc (.inl (List.Mem.tail _ (List.Mem.head _))) (upc (.inl (List.Mem.tail _ (List.Mem.tail _ (List.Mem.head _)))) (upc (.inl (List.Mem.tail _ (List.Mem.tail _ (List.Mem.tail _ (List.Mem.head _))))) (upc (.inl (List.Mem.tail _ (List.Mem.tail _ (List.Mem.tail _ (List.Mem.tail _ (List.Mem.head _)))))) (fun m hm=>Or.inl (List.Mem.tail _ (List.Mem.tail _ (List.Mem.tail _ (List.Mem.tail _ (List.Mem.tail _ hm)))))))))))))))) (((((((((hL.fr E423).cons (B410.ex F417).lt).cons (B411.ex F417).lt).cons (B412.ex F417).lt).cons (B413.ex F417).lt).cons (B414.ex F417).lt).cons (B415.ex F417).lt).cons (B416.ex F417).lt).cons (B399'.ex F417).lt) (bufSame_ev x260 x105 ha453)) (want_t (t:=86) rfl rfl hc451) rfl ?_
          rintro _ w452 ⟨F452,rfl⟩
          have E454:=E423.trans F452
          refine o_w (v:=.bool (sameB x260 x105)) (r_pickT rfl hc451 rfl) ?_
          refine o_w (v:=.bool (sameB x260 x105)) (r_mov rfl) ?_
          rcases Bool.eq_false_or_eq_true (sameB x260 x105) with hc473 | hc473
          ·replace h:=h.1 hc473
           refine o_v (v:=.pointer (some ⟨b365,0,none⟩)) (r_fa fld_buffer_Buffer_0 rfl rfl) (want_t (t:=91) rfl rfl hc473) rfl rfl ?_
           refine o_v (v:=.int .i64 x341.epoch) (r_ld one_int rfl (((B399'.ex F417).ex F452).cell rfl)) (want_t (t:=91) rfl rfl hc473) rfl rfl ?_
           refine o_v (v:=.bool (x341.epoch==(5:Int))) (r_int rfl rfl rfl) (want_t (t:=91) rfl rfl hc473) rfl rfl ?_
           refine o_w (v:=.bool (x341.epoch==(5:Int))) (r_pickT rfl hc473 rfl) ?_
           refine o_w (v:=.bool (x341.epoch==(5:Int))) (r_mov rfl) ?_
           rcases Bool.eq_false_or_eq_true (x341.epoch==(5:Int)) with hc474 | hc474
           ·replace h:=h.1 hc474
            refine o_v (v:=.pointer (some ⟨b365,2,none⟩)) (r_fa fld_buffer_Buffer_2 rfl rfl) (want_t (t:=96) rfl rfl hc474) rfl rfl ?_
            refine o_v (v:=.slice A362 x341.names.length c363) (r_ld one_s_buffer_Name rfl (((B399'.ex F417).ex F452).cell rfl)) (want_t (t:=96) rfl rfl hc474) rfl rfl ?_
            refine o_v (v:=.int .i64 (x341.names.length:Int)) (r_len_slc un_s_buffer_Name rfl) (want_t (t:=96) rfl rfl hc474) rfl rfl ?_
            refine o_v (v:=.bool ((x341.names.length:Int)==(0:Int))) (r_int rfl rfl rfl) (want_t (t:=96) rfl rfl hc474) rfl rfl ?_
            refine o_w (v:=.bool ((x341.names.length:Int)==(0:Int))) (r_pickT rfl hc474 rfl) ?_
            refine o_w (v:=.bool ((x341.names.length:Int)==(0:Int))) (r_mov rfl) ?_
            rcases Bool.eq_false_or_eq_true ((x341.names.length:Int)==(0:Int)) with hc475 | hc475
            ·replace h:=h.1 hc475
             refine o_v (v:=.slice A420 x417.length c421) (r_mov rfl) (want_t (t:=102) rfl rfl hc475) rfl rfl ?_
             refine o_v (v:=.int .i64 (x417.length:Int)) (r_len_slc un_s_api_Entry rfl) (want_t (t:=102) rfl rfl hc475) rfl rfl ?_
             refine o_v (v:=.bool ((x417.length:Int)==(2:Int))) (r_int rfl rfl rfl) (want_t (t:=102) rfl rfl hc475) rfl rfl ?_
             refine o_w (v:=.bool ((x417.length:Int)==(2:Int))) (r_pickT rfl hc475 rfl) ?_
             refine o_w (v:=.bool ((x417.length:Int)==(2:Int))) (r_mov rfl) ?_
             rcases Bool.eq_false_or_eq_true ((x417.length:Int)==(2:Int)) with hc476 | hc476
             ·replace h:=h.1 hc476
              refine o_v (v:=.agg (cBuf x105 A108 c109).toArray) (r_lda agg_buffer_Buffer rfl (vs:=(cBuf x105 A108 c109)) rfl (((B414.ex F417).ex F452).part (n:=3) rfl)) (want_t (t:=107) rfl rfl hc476) rfl rfl ?_
              refine o_v (v:=.agg #[.int .i64 (1:Int),.slice (some ⟨b4,0,none⟩) ([(⟨([107]:Str),(⟨(3:Int),(0:Int),(0:Int),false,([]:Str),([]:List Int),([]:List Int),(5:Int)⟩:Val)⟩:Ent)]:List Ent).length 1,.slice (some ⟨b7,0,none⟩) ([(0:Int)]:List Int).length 1]) (r_lda agg_api_Arena rfl (vs:=[.int .i64 (1:Int),.slice (some ⟨b4,0,none⟩) ([(⟨([107]:Str),(⟨(3:Int),(0:Int),(0:Int),false,([]:Str),([]:List Int),([]:List Int),(5:Int)⟩:Val)⟩:Ent)]:List Ent).length 1,.slice (some ⟨b7,0,none⟩) ([(0:Int)]:List Int).length 1]) rfl (((B411.ex F417).ex F452).part (n:=3) rfl)) (want_t (t:=107) rfl rfl hc476) rfl rfl ?_
              obtain ⟨ha478,h⟩:=h
              obtain ⟨ha479,h⟩:=h
              obtain ⟨x477,hx477,h⟩:=h
              refine o_call cf_buffer_Check rfl (buffer_Check_c x105 (kBuf_mk (d:=x105) (H110.up ((G405.trans (Fr.ext F417)).trans (Fr.ext F452)) (fun _ h=>h) (upc (.inr m377) (upc (.inr m292) (upc (.inr m233) (upc (.inl (List.Mem.head _)) (upc (.inl (List.Mem.tail _ (List.Mem.head _))) (upc (.inl (List.Mem.tail _ (List.Mem.tail _ (List.Mem.head _)))) (upc (.inl (List.Mem.tail _ (List.Mem.tail _ (List.Mem.tail _ (List.Mem.head _))))) (upc (.inl (List.Mem.tail _ (List.Mem.tail _ (List.Mem.tail _ (List.Mem.tail _ (List.Mem.head _)))))) (fun m hm=>Or.inl (List.Mem.tail _ (List.Mem.tail _ (List.Mem.tail _ (List.Mem.tail _ (List.Mem.tail _ hm)))))))))))))))) (⟨(1:Int),([(⟨([107]:Str),(⟨(3:Int),(0:Int),(0:Int),false,([]:Str),([]:List Int),([]:List Int),(5:Int)⟩:Val)⟩:Ent)]:List Ent),([(0:Int)]:List Int)⟩:Arena) (kArena_mk (d:=(⟨(1:Int),([(⟨([107]:Str),(⟨(3:Int),(0:Int),(0:Int),false,([]:Str),([]:List Int),([]:List Int),(5:Int)⟩:Val)⟩:Ent)]:List Ent),([(0:Int)]:List Int)⟩:Arena)) (H11.up ((G402.trans (Fr.ext F417)).trans (Fr.ext F452)) (fun _ h=>h) (upc (.inr m374) (upc (.inr m289) (upc (.inr m230) (upc (.inr m192) (upc (.inr m78) (upc (.inr m43) (upc (.inr m16) (upc (.inl (List.Mem.head _)) (fun m hm=>Or.inl (List.Mem.tail _ hm))))))))))) (H12.up ((G402.trans (Fr.ext F417)).trans (Fr.ext F452)) (fun _ h=>h) (upc (.inr m374) (upc (.inr m289) (upc (.inr m230) (upc (.inr m192) (upc (.inr m78) (upc (.inr m43) (upc (.inr m16) (upc (.inl (List.Mem.head _)) (fun m hm=>Or.inl (List.Mem.tail _ hm)))))))))))) (2:Int) (((((((((hL.fr E454).cons ((B410.ex F417).ex F452).lt).cons ((B411.ex F417).ex F452).lt).cons ((B412.ex F417).ex F452).lt).cons ((B413.ex F417).ex F452).lt).cons ((B414.ex F417).ex F452).lt).cons ((B415.ex F417).ex F452).lt).cons ((B416.ex F417).ex F452).lt).cons ((B399'.ex F417).ex F452).lt) (eq_ev hx477 (bufCheck_ev x105 (⟨(1:Int),([(⟨([107]:Str),(⟨(3:Int),(0:Int),(0:Int),false,([]:Str),([]:List Int),([]:List Int),(5:Int)⟩:Val)⟩:Ent)]:List Ent),([(0:Int)]:List Int)⟩:Arena) (2:Int) ha478 ha479))) (want_t (t:=107) rfl rfl hc476) rfl ?_
              rintro _ w477 ⟨F477,rfl⟩
              have E480:=E454.trans F477
              have G482:=((G402.trans (Fr.ext F417)).trans (Fr.ext F452)).trans (Fr.ext F477)
              have G484:=((G404.trans (Fr.ext F417)).trans (Fr.ext F452)).trans (Fr.ext F477)
              have G485:=((G405.trans (Fr.ext F417)).trans (Fr.ext F452)).trans (Fr.ext F477)
              refine o_v (v:=.bool (x477==(0:Int))) (r_int rfl rfl rfl) (want_t (t:=107) rfl rfl hc476) rfl rfl ?_
              refine o_w (v:=.bool (x477==(0:Int))) (r_pickT rfl hc476 rfl) ?_
              refine o_w (v:=.bool (x477==(0:Int))) (r_mov rfl) ?_
              rcases Bool.eq_false_or_eq_true (x477==(0:Int)) with hc499 | hc499
              ·replace h:=h.1 hc499
               refine o_v (v:=.agg (cBuf x105 A108 c109).toArray) (r_lda agg_buffer_Buffer rfl (vs:=(cBuf x105 A108 c109)) rfl ((((B414.ex F417).ex F452).ex F477).part (n:=3) rfl)) (want_t (t:=113) rfl rfl hc499) rfl rfl ?_
               refine o_v (v:=.agg #[.int .i64 (1:Int),.slice (some ⟨b4,0,none⟩) ([(⟨([107]:Str),(⟨(3:Int),(0:Int),(0:Int),false,([]:Str),([]:List Int),([]:List Int),(5:Int)⟩:Val)⟩:Ent)]:List Ent).length 1,.slice (some ⟨b7,0,none⟩) ([(0:Int)]:List Int).length 1]) (r_lda agg_api_Arena rfl (vs:=[.int .i64 (1:Int),.slice (some ⟨b4,0,none⟩) ([(⟨([107]:Str),(⟨(3:Int),(0:Int),(0:Int),false,([]:Str),([]:List Int),([]:List Int),(5:Int)⟩:Val)⟩:Ent)]:List Ent).length 1,.slice (some ⟨b7,0,none⟩) ([(0:Int)]:List Int).length 1]) rfl ((((B411.ex F417).ex F452).ex F477).part (n:=3) rfl)) (want_t (t:=113) rfl rfl hc499) rfl rfl ?_
               obtain ⟨ha501,h⟩:=h
               obtain ⟨ha502,h⟩:=h
               obtain ⟨x500,hx500,h⟩:=h
               refine o_call cf_buffer_Check rfl (buffer_Check_c x105 (kBuf_mk (d:=x105) (H110.up G485 (fun _ h=>h) (upc (.inr m377) (upc (.inr m292) (upc (.inr m233) (upc (.inl (List.Mem.head _)) (upc (.inl (List.Mem.tail _ (List.Mem.head _))) (upc (.inl (List.Mem.tail _ (List.Mem.tail _ (List.Mem.head _)))) (upc (.inl (List.Mem.tail _ (List.Mem.tail _ (List.Mem.tail _ (List.Mem.head _))))) (upc (.inl (List.Mem.tail _ (List.Mem.tail _ (List.Mem.tail _ (List.Mem.tail _ (List.Mem.head _)))))) (fun m hm=>Or.inl (List.Mem.tail _ (List.Mem.tail _ (List.Mem.tail _ (List.Mem.tail _ (List.Mem.tail _ hm)))))))))))))))) (⟨(1:Int),([(⟨([107]:Str),(⟨(3:Int),(0:Int),(0:Int),false,([]:Str),([]:List Int),([]:List Int),(5:Int)⟩:Val)⟩:Ent)]:List Ent),([(0:Int)]:List Int)⟩:Arena) (kArena_mk (d:=(⟨(1:Int),([(⟨([107]:Str),(⟨(3:Int),(0:Int),(0:Int),false,([]:Str),([]:List Int),([]:List Int),(5:Int)⟩:Val)⟩:Ent)]:List Ent),([(0:Int)]:List Int)⟩:Arena)) (H11.up G482 (fun _ h=>h) (upc (.inr m374) (upc (.inr m289) (upc (.inr m230) (upc (.inr m192) (upc (.inr m78) (upc (.inr m43) (upc (.inr m16) (upc (.inl (List.Mem.head _)) (fun m hm=>Or.inl (List.Mem.tail _ hm))))))))))) (H12.up G482 (fun _ h=>h) (upc (.inr m374) (upc (.inr m289) (upc (.inr m230) (upc (.inr m192) (upc (.inr m78) (upc (.inr m43) (upc (.inr m16) (upc (.inl (List.Mem.head _)) (fun m hm=>Or.inl (List.Mem.tail _ hm)))))))))))) (1:Int) (((((((((hL.fr E480).cons (((B410.ex F417).ex F452).ex F477).lt).cons (((B411.ex F417).ex F452).ex F477).lt).cons (((B412.ex F417).ex F452).ex F477).lt).cons (((B413.ex F417).ex F452).ex F477).lt).cons (((B414.ex F417).ex F452).ex F477).lt).cons (((B415.ex F417).ex F452).ex F477).lt).cons (((B416.ex F417).ex F452).ex F477).lt).cons (((B399'.ex F417).ex F452).ex F477).lt) (eq_ev hx500 (bufCheck_ev x105 (⟨(1:Int),([(⟨([107]:Str),(⟨(3:Int),(0:Int),(0:Int),false,([]:Str),([]:List Int),([]:List Int),(5:Int)⟩:Val)⟩:Ent)]:List Ent),([(0:Int)]:List Int)⟩:Arena) (1:Int) ha501 ha502))) (want_t (t:=113) rfl rfl hc499) rfl ?_
               rintro _ w500 ⟨F500,rfl⟩
               have E503:=E480.trans F500
               refine o_v (v:=.bool (x500==(2:Int))) (r_int rfl rfl rfl) (want_t (t:=113) rfl rfl hc499) rfl rfl ?_
               refine o_w (v:=.bool (x500==(2:Int))) (r_pickT rfl hc499 rfl) ?_
               refine o_w (v:=.bool (x500==(2:Int))) (r_mov rfl) ?_
               rcases Bool.eq_false_or_eq_true (x500==(2:Int)) with hc522 | hc522
               ·replace h:=h.1 hc522
                refine o_v (v:=.agg (cBuf x105 A108 c109).toArray) (r_lda agg_buffer_Buffer rfl (vs:=(cBuf x105 A108 c109)) rfl (((((B414.ex F417).ex F452).ex F477).ex F500).part (n:=3) rfl)) (want_t (t:=119) rfl rfl hc522) rfl rfl ?_
                obtain ⟨x523,hx523,h⟩:=h
                refine o_call cf_buffer_Reset rfl (buffer_Reset_c x105 (kBuf_mk (d:=x105) (H110.up (G485.trans (Fr.ext F500)) (fun _ h=>h) (upc (.inr m377) (upc (.inr m292) (upc (.inr m233) (upc (.inl (List.Mem.head _)) (upc (.inl (List.Mem.tail _ (List.Mem.head _))) (upc (.inl (List.Mem.tail _ (List.Mem.tail _ (List.Mem.head _)))) (upc (.inl (List.Mem.tail _ (List.Mem.tail _ (List.Mem.tail _ (List.Mem.head _))))) (upc (.inl (List.Mem.tail _ (List.Mem.tail _ (List.Mem.tail _ (List.Mem.tail _ (List.Mem.head _)))))) (fun m hm=>Or.inl (List.Mem.tail _ (List.Mem.tail _ (List.Mem.tail _ (List.Mem.tail _ (List.Mem.tail _ hm)))))))))))))))) (((((((((hL.fr E503).cons ((((B410.ex F417).ex F452).ex F477).ex F500).lt).cons ((((B411.ex F417).ex F452).ex F477).ex F500).lt).cons ((((B412.ex F417).ex F452).ex F477).ex F500).lt).cons ((((B413.ex F417).ex F452).ex F477).ex F500).lt).cons ((((B414.ex F417).ex F452).ex F477).ex F500).lt).cons ((((B415.ex F417).ex F452).ex F477).ex F500).lt).cons ((((B416.ex F417).ex F452).ex F477).ex F500).lt).cons ((((B399'.ex F417).ex F452).ex F477).ex F500).lt) (eq_ev hx523 (bufReset_ev x105))) (want_t (t:=119) rfl rfl hc522) rfl ?_
                rintro _ w523 ⟨F523,cs524,rfl,H525⟩
                have E526:=E503.trans F523
                obtain ⟨A545,c546,rfl,H547⟩:=kBuf_open H525
                refine o_v (v:=.int .i64 x523.epoch) (r_fld fldv_buffer_Buffer_0 one_int rfl rfl) (want_t (t:=119) rfl rfl hc522) rfl rfl ?_
                refine o_v (v:=.bool (x523.epoch==(1:Int))) (r_int rfl rfl rfl) (want_t (t:=119) rfl rfl hc522) rfl rfl ?_
                refine o_w (v:=.bool (x523.epoch==(1:Int))) (r_pickT rfl hc522 rfl) ?_
                refine o_w (v:=.bool (x523.epoch==(1:Int))) (r_mov rfl) ?_
                rcases Bool.eq_false_or_eq_true (x523.epoch==(1:Int)) with hc548 | hc548
                ·replace h:=h.1 hc548
                 refine o_v (v:=.agg (cBuf x58 A70 c71).toArray) (r_lda agg_buffer_Buffer rfl (vs:=(cBuf x58 A70 c71)) rfl ((((((B413.ex F417).ex F452).ex F477).ex F500).ex F523).part (n:=3) rfl)) (want_t (t:=125) rfl rfl hc548) rfl rfl ?_
                 refine o_v (v:=.agg (cBuf x105 A108 c109).toArray) (r_lda agg_buffer_Buffer rfl (vs:=(cBuf x105 A108 c109)) rfl ((((((B414.ex F417).ex F452).ex F477).ex F500).ex F523).part (n:=3) rfl)) (want_t (t:=125) rfl rfl hc548) rfl rfl ?_
                 obtain ⟨ha550,h⟩:=h
                 refine o_call cf_buffer_Same rfl (buffer_Same_c x58 (kBuf_mk (d:=x58) (H72.up ((G484.trans (Fr.ext F500)).trans (Fr.ext F523)) (fun _ h=>h) (upc (.inr m376) (upc (.inr m291) (upc (.inr m232) (upc (.inr m194) (upc (.inr m80) (upc (.inl (List.Mem.head _)) (upc (.inl (List.Mem.tail _ (List.Mem.head _))) (upc (.inl (List.Mem.tail _ (List.Mem.tail _ (List.Mem.head _)))) (fun m hm=>Or.inl (List.Mem.tail _ (List.Mem.tail _ (List.Mem.tail _ hm)))))))))))))) x105 (kBuf_mk (d:=x105) (H110.up ((G485.trans (Fr.ext F500)).trans (Fr.ext F523)) (fun _ h=>h) (upc (.inr m377) (upc (.inr m292) (upc (.inr m233) (upc (.inl (List.Mem.head _)) (upc (.inl (List.Mem.tail _ (List.Mem.head _))) (upc (.inl (List.Mem.tail _ (List.Mem.tail _ (List.Mem.head _)))) (upc (.inl (List.Mem.tail _ (List.Mem.tail _ (List.Mem.tail _ (List.Mem.head _))))) (upc (.inl (List.Mem.tail _ (List.Mem.tail _ (List.Mem.tail _ (List.Mem.tail _ (List.Mem.head _)))))) (fun m hm=>Or.inl (List.Mem.tail _ (List.Mem.tail _ (List.Mem.tail _ (List.Mem.tail _ (List.Mem.tail _ hm)))))))))))))))) (((((((((hL.fr E526).cons (((((B410.ex F417).ex F452).ex F477).ex F500).ex F523).lt).cons (((((B411.ex F417).ex F452).ex F477).ex F500).ex F523).lt).cons (((((B412.ex F417).ex F452).ex F477).ex F500).ex F523).lt).cons (((((B413.ex F417).ex F452).ex F477).ex F500).ex F523).lt).cons (((((B414.ex F417).ex F452).ex F477).ex F500).ex F523).lt).cons (((((B415.ex F417).ex F452).ex F477).ex F500).ex F523).lt).cons (((((B416.ex F417).ex F452).ex F477).ex F500).ex F523).lt).cons (((((B399'.ex F417).ex F452).ex F477).ex F500).ex F523).lt) (bufSame_ev x58 x105 ha550)) (want_t (t:=125) rfl rfl hc548) rfl ?_
                 rintro _ w549 ⟨F549,rfl⟩
                 have E551:=E526.trans F549
                 refine o_v (v:=.bool (!(sameB x58 x105))) (r_not rfl) (want_t (t:=125) rfl rfl hc548) rfl rfl ?_
                 refine o_w (v:=.bool (!(sameB x58 x105))) (r_pickT rfl hc548 rfl) ?_
                 refine o_w (v:=.bool (!(sameB x58 x105))) (r_asg rfl) ?_
                 refine eo_nil_sq ?_
                 refine ec_ret ?_
                 subst h
                 exact (end1 rfl ⟨_,rfl,E551,rfl⟩)
                ·replace h:=h.2 hc548
                 iterate 4 refine o_no (want_f (t:=125) rfl rfl hc548) rfl ?_
                 refine o_w (v:=.bool false) (r_pickF rfl hc548 rfl) ?_
                 refine o_w (v:=.bool false) (r_asg rfl) ?_
                 refine eo_nil_sq ?_
                 refine ec_ret ?_
                 subst h
                 exact (end1 rfl ⟨_,rfl,E526,rfl⟩)
               ·replace h:=h.2 hc522
                iterate 4 refine o_no (want_f (t:=119) rfl rfl hc522) rfl ?_
                refine o_w (v:=.bool false) (r_pickF rfl hc522 rfl) ?_
                refine o_w (v:=.bool false) (r_mov rfl) ?_
                iterate 4 refine o_no (want_f (t:=125) rfl rfl rfl) rfl ?_
                refine o_w (v:=.bool false) (r_pickF rfl rfl rfl) ?_
                refine o_w (v:=.bool false) (r_asg rfl) ?_
                refine eo_nil_sq ?_
                refine ec_ret ?_
                subst h
                exact (end1 rfl ⟨_,rfl,E503,rfl⟩)
              ·replace h:=h.2 hc499
               iterate 4 refine o_no (want_f (t:=113) rfl rfl hc499) rfl ?_
               refine o_w (v:=.bool false) (r_pickF rfl hc499 rfl) ?_
               refine o_w (v:=.bool false) (r_mov rfl) ?_
               iterate 4 refine o_no (want_f (t:=119) rfl rfl rfl) rfl ?_
               refine o_w (v:=.bool false) (r_pickF rfl rfl rfl) ?_
               refine o_w (v:=.bool false) (r_mov rfl) ?_
               iterate 4 refine o_no (want_f (t:=125) rfl rfl rfl) rfl ?_
               refine o_w (v:=.bool false) (r_pickF rfl rfl rfl) ?_
               refine o_w (v:=.bool false) (r_asg rfl) ?_
               refine eo_nil_sq ?_
               refine ec_ret ?_
               subst h
               exact (end1 rfl ⟨_,rfl,E480,rfl⟩)
             ·replace h:=h.2 hc476
              iterate 4 refine o_no (want_f (t:=107) rfl rfl hc476) rfl ?_
              refine o_w (v:=.bool false) (r_pickF rfl hc476 rfl) ?_
              refine o_w (v:=.bool false) (r_mov rfl) ?_
              iterate 4 refine o_no (want_f (t:=113) rfl rfl rfl) rfl ?_
              refine o_w (v:=.bool false) (r_pickF rfl rfl rfl) ?_
              refine o_w (v:=.bool false) (r_mov rfl) ?_
              iterate 4 refine o_no (want_f (t:=119) rfl rfl rfl) rfl ?_
              refine o_w (v:=.bool false) (r_pickF rfl rfl rfl) ?_
              refine o_w (v:=.bool false) (r_mov rfl) ?_
              iterate 4 refine o_no (want_f (t:=125) rfl rfl rfl) rfl ?_
              refine o_w (v:=.bool false) (r_pickF rfl rfl rfl) ?_
              refine o_w (v:=.bool false) (r_asg rfl) ?_
              refine eo_nil_sq ?_
              refine ec_ret ?_
              subst h
              exact (end1 rfl ⟨_,rfl,E454,rfl⟩)
            ·replace h:=h.2 hc475
             iterate 3 refine o_no (want_f (t:=102) rfl rfl hc475) rfl ?_
             refine o_w (v:=.bool false) (r_pickF rfl hc475 rfl) ?_
             refine o_w (v:=.bool false) (r_mov rfl) ?_
             iterate 4 refine o_no (want_f (t:=107) rfl rfl rfl) rfl ?_
             refine o_w (v:=.bool false) (r_pickF rfl rfl rfl) ?_
             refine o_w (v:=.bool false) (r_mov rfl) ?_
             iterate 4 refine o_no (want_f (t:=113) rfl rfl rfl) rfl ?_
             refine o_w (v:=.bool false) (r_pickF rfl rfl rfl) ?_
             refine o_w (v:=.bool false) (r_mov rfl) ?_
             iterate 4 refine o_no (want_f (t:=119) rfl rfl rfl) rfl ?_
             refine o_w (v:=.bool false) (r_pickF rfl rfl rfl) ?_
             refine o_w (v:=.bool false) (r_mov rfl) ?_
             iterate 4 refine o_no (want_f (t:=125) rfl rfl rfl) rfl ?_
             refine o_w (v:=.bool false) (r_pickF rfl rfl rfl) ?_
             refine o_w (v:=.bool false) (r_asg rfl) ?_
             refine eo_nil_sq ?_
             refine ec_ret ?_
             subst h
             exact (end1 rfl ⟨_,rfl,E454,rfl⟩)
           ·replace h:=h.2 hc474
            iterate 4 refine o_no (want_f (t:=96) rfl rfl hc474) rfl ?_
            refine o_w (v:=.bool false) (r_pickF rfl hc474 rfl) ?_
            refine o_w (v:=.bool false) (r_mov rfl) ?_
            iterate 3 refine o_no (want_f (t:=102) rfl rfl rfl) rfl ?_
            refine o_w (v:=.bool false) (r_pickF rfl rfl rfl) ?_
            refine o_w (v:=.bool false) (r_mov rfl) ?_
            iterate 4 refine o_no (want_f (t:=107) rfl rfl rfl) rfl ?_
            refine o_w (v:=.bool false) (r_pickF rfl rfl rfl) ?_
            refine o_w (v:=.bool false) (r_mov rfl) ?_
            iterate 4 refine o_no (want_f (t:=113) rfl rfl rfl) rfl ?_
            refine o_w (v:=.bool false) (r_pickF rfl rfl rfl) ?_
            refine o_w (v:=.bool false) (r_mov rfl) ?_
            iterate 4 refine o_no (want_f (t:=119) rfl rfl rfl) rfl ?_
            refine o_w (v:=.bool false) (r_pickF rfl rfl rfl) ?_
            refine o_w (v:=.bool false) (r_mov rfl) ?_
            iterate 4 refine o_no (want_f (t:=125) rfl rfl rfl) rfl ?_
            refine o_w (v:=.bool false) (r_pickF rfl rfl rfl) ?_
            refine o_w (v:=.bool false) (r_asg rfl) ?_
            refine eo_nil_sq ?_
            refine ec_ret ?_
            subst h
            exact (end1 rfl ⟨_,rfl,E454,rfl⟩)
          ·replace h:=h.2 hc473
           iterate 3 refine o_no (want_f (t:=91) rfl rfl hc473) rfl ?_
           refine o_w (v:=.bool false) (r_pickF rfl hc473 rfl) ?_
           refine o_w (v:=.bool false) (r_mov rfl) ?_
           iterate 4 refine o_no (want_f (t:=96) rfl rfl rfl) rfl ?_
           refine o_w (v:=.bool false) (r_pickF rfl rfl rfl) ?_
           refine o_w (v:=.bool false) (r_mov rfl) ?_
           iterate 3 refine o_no (want_f (t:=102) rfl rfl rfl) rfl ?_
           refine o_w (v:=.bool false) (r_pickF rfl rfl rfl) ?_
           refine o_w (v:=.bool false) (r_mov rfl) ?_
           iterate 4 refine o_no (want_f (t:=107) rfl rfl rfl) rfl ?_
           refine o_w (v:=.bool false) (r_pickF rfl rfl rfl) ?_
           refine o_w (v:=.bool false) (r_mov rfl) ?_
           iterate 4 refine o_no (want_f (t:=113) rfl rfl rfl) rfl ?_
           refine o_w (v:=.bool false) (r_pickF rfl rfl rfl) ?_
           refine o_w (v:=.bool false) (r_mov rfl) ?_
           iterate 4 refine o_no (want_f (t:=119) rfl rfl rfl) rfl ?_
           refine o_w (v:=.bool false) (r_pickF rfl rfl rfl) ?_
           refine o_w (v:=.bool false) (r_mov rfl) ?_
           iterate 4 refine o_no (want_f (t:=125) rfl rfl rfl) rfl ?_
           refine o_w (v:=.bool false) (r_pickF rfl rfl rfl) ?_
           refine o_w (v:=.bool false) (r_asg rfl) ?_
           refine eo_nil_sq ?_
           refine ec_ret ?_
           subst h
           exact (end1 rfl ⟨_,rfl,E454,rfl⟩)
         ·replace h:=h.2 hc451
          iterate 3 refine o_no (want_f (t:=86) rfl rfl hc451) rfl ?_
          refine o_w (v:=.bool false) (r_pickF rfl hc451 rfl) ?_
          refine o_w (v:=.bool false) (r_mov rfl) ?_
          iterate 3 refine o_no (want_f (t:=91) rfl rfl rfl) rfl ?_
          refine o_w (v:=.bool false) (r_pickF rfl rfl rfl) ?_
          refine o_w (v:=.bool false) (r_mov rfl) ?_
          iterate 4 refine o_no (want_f (t:=96) rfl rfl rfl) rfl ?_
          refine o_w (v:=.bool false) (r_pickF rfl rfl rfl) ?_
          refine o_w (v:=.bool false) (r_mov rfl) ?_
          iterate 3 refine o_no (want_f (t:=102) rfl rfl rfl) rfl ?_
          refine o_w (v:=.bool false) (r_pickF rfl rfl rfl) ?_
          refine o_w (v:=.bool false) (r_mov rfl) ?_
          iterate 4 refine o_no (want_f (t:=107) rfl rfl rfl) rfl ?_
          refine o_w (v:=.bool false) (r_pickF rfl rfl rfl) ?_
          refine o_w (v:=.bool false) (r_mov rfl) ?_
          iterate 4 refine o_no (want_f (t:=113) rfl rfl rfl) rfl ?_
          refine o_w (v:=.bool false) (r_pickF rfl rfl rfl) ?_
          refine o_w (v:=.bool false) (r_mov rfl) ?_
          iterate 4 refine o_no (want_f (t:=119) rfl rfl rfl) rfl ?_
          refine o_w (v:=.bool false) (r_pickF rfl rfl rfl) ?_
          refine o_w (v:=.bool false) (r_mov rfl) ?_
          iterate 4 refine o_no (want_f (t:=125) rfl rfl rfl) rfl ?_
          refine o_w (v:=.bool false) (r_pickF rfl rfl rfl) ?_
          refine o_w (v:=.bool false) (r_asg rfl) ?_
          refine eo_nil_sq ?_
          refine ec_ret ?_
          subst h
          exact (end1 rfl ⟨_,rfl,E423,rfl⟩)
        ·replace h:=h.2 hc450
         iterate 3 refine o_no (want_f (t:=81) rfl rfl hc450) rfl ?_
         refine o_w (v:=.bool false) (r_pickF rfl hc450 rfl) ?_
         refine o_w (v:=.bool false) (r_mov rfl) ?_
         iterate 3 refine o_no (want_f (t:=86) rfl rfl rfl) rfl ?_
         refine o_w (v:=.bool false) (r_pickF rfl rfl rfl) ?_
         refine o_w (v:=.bool false) (r_mov rfl) ?_
         iterate 3 refine o_no (want_f (t:=91) rfl rfl rfl) rfl ?_
         refine o_w (v:=.bool false) (r_pickF rfl rfl rfl) ?_
         refine o_w (v:=.bool false) (r_mov rfl) ?_
         iterate 4 refine o_no (want_f (t:=96) rfl rfl rfl) rfl ?_
         refine o_w (v:=.bool false) (r_pickF rfl rfl rfl) ?_
         refine o_w (v:=.bool false) (r_mov rfl) ?_
         iterate 3 refine o_no (want_f (t:=102) rfl rfl rfl) rfl ?_
         refine o_w (v:=.bool false) (r_pickF rfl rfl rfl) ?_
         refine o_w (v:=.bool false) (r_mov rfl) ?_
         iterate 4 refine o_no (want_f (t:=107) rfl rfl rfl) rfl ?_
         refine o_w (v:=.bool false) (r_pickF rfl rfl rfl) ?_
         refine o_w (v:=.bool false) (r_mov rfl) ?_
         iterate 4 refine o_no (want_f (t:=113) rfl rfl rfl) rfl ?_
         refine o_w (v:=.bool false) (r_pickF rfl rfl rfl) ?_
         refine o_w (v:=.bool false) (r_mov rfl) ?_
         iterate 4 refine o_no (want_f (t:=119) rfl rfl rfl) rfl ?_
         refine o_w (v:=.bool false) (r_pickF rfl rfl rfl) ?_
         refine o_w (v:=.bool false) (r_mov rfl) ?_
         iterate 4 refine o_no (want_f (t:=125) rfl rfl rfl) rfl ?_
         refine o_w (v:=.bool false) (r_pickF rfl rfl rfl) ?_
         refine o_w (v:=.bool false) (r_asg rfl) ?_
         refine eo_nil_sq ?_
         refine ec_ret ?_
         subst h
         exact (end1 rfl ⟨_,rfl,E423,rfl⟩)
       ·replace h:=h.2 hc449
        iterate 4 refine o_no (want_f (t:=75) rfl rfl hc449) rfl ?_
        refine o_w (v:=.bool false) (r_pickF rfl hc449 rfl) ?_
        refine o_w (v:=.bool false) (r_mov rfl) ?_
        iterate 3 refine o_no (want_f (t:=81) rfl rfl rfl) rfl ?_
        refine o_w (v:=.bool false) (r_pickF rfl rfl rfl) ?_
        refine o_w (v:=.bool false) (r_mov rfl) ?_
        iterate 3 refine o_no (want_f (t:=86) rfl rfl rfl) rfl ?_
        refine o_w (v:=.bool false) (r_pickF rfl rfl rfl) ?_
        refine o_w (v:=.bool false) (r_mov rfl) ?_
        iterate 3 refine o_no (want_f (t:=91) rfl rfl rfl) rfl ?_
        refine o_w (v:=.bool false) (r_pickF rfl rfl rfl) ?_
        refine o_w (v:=.bool false) (r_mov rfl) ?_
        iterate 4 refine o_no (want_f (t:=96) rfl rfl rfl) rfl ?_
        refine o_w (v:=.bool false) (r_pickF rfl rfl rfl) ?_
        refine o_w (v:=.bool false) (r_mov rfl) ?_
        iterate 3 refine o_no (want_f (t:=102) rfl rfl rfl) rfl ?_
        refine o_w (v:=.bool false) (r_pickF rfl rfl rfl) ?_
        refine o_w (v:=.bool false) (r_mov rfl) ?_
        iterate 4 refine o_no (want_f (t:=107) rfl rfl rfl) rfl ?_
        refine o_w (v:=.bool false) (r_pickF rfl rfl rfl) ?_
        refine o_w (v:=.bool false) (r_mov rfl) ?_
        iterate 4 refine o_no (want_f (t:=113) rfl rfl rfl) rfl ?_
        refine o_w (v:=.bool false) (r_pickF rfl rfl rfl) ?_
        refine o_w (v:=.bool false) (r_mov rfl) ?_
        iterate 4 refine o_no (want_f (t:=119) rfl rfl rfl) rfl ?_
        refine o_w (v:=.bool false) (r_pickF rfl rfl rfl) ?_
        refine o_w (v:=.bool false) (r_mov rfl) ?_
        iterate 4 refine o_no (want_f (t:=125) rfl rfl rfl) rfl ?_
        refine o_w (v:=.bool false) (r_pickF rfl rfl rfl) ?_
        refine o_w (v:=.bool false) (r_asg rfl) ?_
        refine eo_nil_sq ?_
        refine ec_ret ?_
        subst h
        exact (end1 rfl ⟨_,rfl,E423,rfl⟩)
      ·replace h:=h.2 hc448
       iterate 3 refine o_no (want_f (t:=70) rfl rfl hc448) rfl ?_
       refine o_w (v:=.bool false) (r_pickF rfl hc448 rfl) ?_
       refine o_w (v:=.bool false) (r_mov rfl) ?_
       iterate 4 refine o_no (want_f (t:=75) rfl rfl rfl) rfl ?_
       refine o_w (v:=.bool false) (r_pickF rfl rfl rfl) ?_
       refine o_w (v:=.bool false) (r_mov rfl) ?_
       iterate 3 refine o_no (want_f (t:=81) rfl rfl rfl) rfl ?_
       refine o_w (v:=.bool false) (r_pickF rfl rfl rfl) ?_
       refine o_w (v:=.bool false) (r_mov rfl) ?_
       iterate 3 refine o_no (want_f (t:=86) rfl rfl rfl) rfl ?_
       refine o_w (v:=.bool false) (r_pickF rfl rfl rfl) ?_
       refine o_w (v:=.bool false) (r_mov rfl) ?_
       iterate 3 refine o_no (want_f (t:=91) rfl rfl rfl) rfl ?_
       refine o_w (v:=.bool false) (r_pickF rfl rfl rfl) ?_
       refine o_w (v:=.bool false) (r_mov rfl) ?_
       iterate 4 refine o_no (want_f (t:=96) rfl rfl rfl) rfl ?_
       refine o_w (v:=.bool false) (r_pickF rfl rfl rfl) ?_
       refine o_w (v:=.bool false) (r_mov rfl) ?_
       iterate 3 refine o_no (want_f (t:=102) rfl rfl rfl) rfl ?_
       refine o_w (v:=.bool false) (r_pickF rfl rfl rfl) ?_
       refine o_w (v:=.bool false) (r_mov rfl) ?_
       iterate 4 refine o_no (want_f (t:=107) rfl rfl rfl) rfl ?_
       refine o_w (v:=.bool false) (r_pickF rfl rfl rfl) ?_
       refine o_w (v:=.bool false) (r_mov rfl) ?_
       iterate 4 refine o_no (want_f (t:=113) rfl rfl rfl) rfl ?_
       refine o_w (v:=.bool false) (r_pickF rfl rfl rfl) ?_
       refine o_w (v:=.bool false) (r_mov rfl) ?_
       iterate 4 refine o_no (want_f (t:=119) rfl rfl rfl) rfl ?_
       refine o_w (v:=.bool false) (r_pickF rfl rfl rfl) ?_
       refine o_w (v:=.bool false) (r_mov rfl) ?_
       iterate 4 refine o_no (want_f (t:=125) rfl rfl rfl) rfl ?_
       refine o_w (v:=.bool false) (r_pickF rfl rfl rfl) ?_
       refine o_w (v:=.bool false) (r_asg rfl) ?_
       refine eo_nil_sq ?_
       refine ec_ret ?_
       subst h
       exact (end1 rfl ⟨_,rfl,E423,rfl⟩)
     ·replace h:=h.2 hc447
      iterate 4 refine o_no (want_f (t:=64) rfl rfl hc447) rfl ?_
      refine o_w (v:=.bool false) (r_pickF rfl hc447 rfl) ?_
      refine o_w (v:=.bool false) (r_mov rfl) ?_
      iterate 3 refine o_no (want_f (t:=70) rfl rfl rfl) rfl ?_
      refine o_w (v:=.bool false) (r_pickF rfl rfl rfl) ?_
      refine o_w (v:=.bool false) (r_mov rfl) ?_
      iterate 4 refine o_no (want_f (t:=75) rfl rfl rfl) rfl ?_
      refine o_w (v:=.bool false) (r_pickF rfl rfl rfl) ?_
      refine o_w (v:=.bool false) (r_mov rfl) ?_
      iterate 3 refine o_no (want_f (t:=81) rfl rfl rfl) rfl ?_
      refine o_w (v:=.bool false) (r_pickF rfl rfl rfl) ?_
      refine o_w (v:=.bool false) (r_mov rfl) ?_
      iterate 3 refine o_no (want_f (t:=86) rfl rfl rfl) rfl ?_
      refine o_w (v:=.bool false) (r_pickF rfl rfl rfl) ?_
      refine o_w (v:=.bool false) (r_mov rfl) ?_
      iterate 3 refine o_no (want_f (t:=91) rfl rfl rfl) rfl ?_
      refine o_w (v:=.bool false) (r_pickF rfl rfl rfl) ?_
      refine o_w (v:=.bool false) (r_mov rfl) ?_
      iterate 4 refine o_no (want_f (t:=96) rfl rfl rfl) rfl ?_
      refine o_w (v:=.bool false) (r_pickF rfl rfl rfl) ?_
      refine o_w (v:=.bool false) (r_mov rfl) ?_
      iterate 3 refine o_no (want_f (t:=102) rfl rfl rfl) rfl ?_
      refine o_w (v:=.bool false) (r_pickF rfl rfl rfl) ?_
      refine o_w (v:=.bool false) (r_mov rfl) ?_
      iterate 4 refine o_no (want_f (t:=107) rfl rfl rfl) rfl ?_
      refine o_w (v:=.bool false) (r_pickF rfl rfl rfl) ?_
      refine o_w (v:=.bool false) (r_mov rfl) ?_
      iterate 4 refine o_no (want_f (t:=113) rfl rfl rfl) rfl ?_
      refine o_w (v:=.bool false) (r_pickF rfl rfl rfl) ?_
      refine o_w (v:=.bool false) (r_mov rfl) ?_
      iterate 4 refine o_no (want_f (t:=119) rfl rfl rfl) rfl ?_
      refine o_w (v:=.bool false) (r_pickF rfl rfl rfl) ?_
      refine o_w (v:=.bool false) (r_mov rfl) ?_
      iterate 4 refine o_no (want_f (t:=125) rfl rfl rfl) rfl ?_
      refine o_w (v:=.bool false) (r_pickF rfl rfl rfl) ?_
      refine o_w (v:=.bool false) (r_asg rfl) ?_
      refine eo_nil_sq ?_
      refine ec_ret ?_
      subst h
      exact (end1 rfl ⟨_,rfl,E423,rfl⟩)
    ·replace h:=h.2 hc446
     iterate 3 refine o_no (want_f (t:=59) rfl rfl hc446) rfl ?_
     refine o_w (v:=.bool false) (r_pickF rfl hc446 rfl) ?_
     refine o_w (v:=.bool false) (r_mov rfl) ?_
     iterate 4 refine o_no (want_f (t:=64) rfl rfl rfl) rfl ?_
     refine o_w (v:=.bool false) (r_pickF rfl rfl rfl) ?_
     refine o_w (v:=.bool false) (r_mov rfl) ?_
     iterate 3 refine o_no (want_f (t:=70) rfl rfl rfl) rfl ?_
     refine o_w (v:=.bool false) (r_pickF rfl rfl rfl) ?_
     refine o_w (v:=.bool false) (r_mov rfl) ?_
     iterate 4 refine o_no (want_f (t:=75) rfl rfl rfl) rfl ?_
     refine o_w (v:=.bool false) (r_pickF rfl rfl rfl) ?_
     refine o_w (v:=.bool false) (r_mov rfl) ?_
     iterate 3 refine o_no (want_f (t:=81) rfl rfl rfl) rfl ?_
     refine o_w (v:=.bool false) (r_pickF rfl rfl rfl) ?_
     refine o_w (v:=.bool false) (r_mov rfl) ?_
     iterate 3 refine o_no (want_f (t:=86) rfl rfl rfl) rfl ?_
     refine o_w (v:=.bool false) (r_pickF rfl rfl rfl) ?_
     refine o_w (v:=.bool false) (r_mov rfl) ?_
     iterate 3 refine o_no (want_f (t:=91) rfl rfl rfl) rfl ?_
     refine o_w (v:=.bool false) (r_pickF rfl rfl rfl) ?_
     refine o_w (v:=.bool false) (r_mov rfl) ?_
     iterate 4 refine o_no (want_f (t:=96) rfl rfl rfl) rfl ?_
     refine o_w (v:=.bool false) (r_pickF rfl rfl rfl) ?_
     refine o_w (v:=.bool false) (r_mov rfl) ?_
     iterate 3 refine o_no (want_f (t:=102) rfl rfl rfl) rfl ?_
     refine o_w (v:=.bool false) (r_pickF rfl rfl rfl) ?_
     refine o_w (v:=.bool false) (r_mov rfl) ?_
     iterate 4 refine o_no (want_f (t:=107) rfl rfl rfl) rfl ?_
     refine o_w (v:=.bool false) (r_pickF rfl rfl rfl) ?_
     refine o_w (v:=.bool false) (r_mov rfl) ?_
     iterate 4 refine o_no (want_f (t:=113) rfl rfl rfl) rfl ?_
     refine o_w (v:=.bool false) (r_pickF rfl rfl rfl) ?_
     refine o_w (v:=.bool false) (r_mov rfl) ?_
     iterate 4 refine o_no (want_f (t:=119) rfl rfl rfl) rfl ?_
     refine o_w (v:=.bool false) (r_pickF rfl rfl rfl) ?_
     refine o_w (v:=.bool false) (r_mov rfl) ?_
     iterate 4 refine o_no (want_f (t:=125) rfl rfl rfl) rfl ?_
     refine o_w (v:=.bool false) (r_pickF rfl rfl rfl) ?_
     refine o_w (v:=.bool false) (r_asg rfl) ?_
     refine eo_nil_sq ?_
     refine ec_ret ?_
     subst h
     exact (end1 rfl ⟨_,rfl,E423,rfl⟩)
   ·replace h:=h.2 hc445
    iterate 4 refine o_no (want_f (t:=53) rfl rfl hc445) rfl ?_
    refine o_w (v:=.bool false) (r_pickF rfl hc445 rfl) ?_
    refine o_w (v:=.bool false) (r_mov rfl) ?_
    iterate 3 refine o_no (want_f (t:=59) rfl rfl rfl) rfl ?_
    refine o_w (v:=.bool false) (r_pickF rfl rfl rfl) ?_
    refine o_w (v:=.bool false) (r_mov rfl) ?_
    iterate 4 refine o_no (want_f (t:=64) rfl rfl rfl) rfl ?_
    refine o_w (v:=.bool false) (r_pickF rfl rfl rfl) ?_
    refine o_w (v:=.bool false) (r_mov rfl) ?_
    iterate 3 refine o_no (want_f (t:=70) rfl rfl rfl) rfl ?_
    refine o_w (v:=.bool false) (r_pickF rfl rfl rfl) ?_
    refine o_w (v:=.bool false) (r_mov rfl) ?_
    iterate 4 refine o_no (want_f (t:=75) rfl rfl rfl) rfl ?_
    refine o_w (v:=.bool false) (r_pickF rfl rfl rfl) ?_
    refine o_w (v:=.bool false) (r_mov rfl) ?_
    iterate 3 refine o_no (want_f (t:=81) rfl rfl rfl) rfl ?_
    refine o_w (v:=.bool false) (r_pickF rfl rfl rfl) ?_
    refine o_w (v:=.bool false) (r_mov rfl) ?_
    iterate 3 refine o_no (want_f (t:=86) rfl rfl rfl) rfl ?_
    refine o_w (v:=.bool false) (r_pickF rfl rfl rfl) ?_
    refine o_w (v:=.bool false) (r_mov rfl) ?_
    iterate 3 refine o_no (want_f (t:=91) rfl rfl rfl) rfl ?_
    refine o_w (v:=.bool false) (r_pickF rfl rfl rfl) ?_
    refine o_w (v:=.bool false) (r_mov rfl) ?_
    iterate 4 refine o_no (want_f (t:=96) rfl rfl rfl) rfl ?_
    refine o_w (v:=.bool false) (r_pickF rfl rfl rfl) ?_
    refine o_w (v:=.bool false) (r_mov rfl) ?_
    iterate 3 refine o_no (want_f (t:=102) rfl rfl rfl) rfl ?_
    refine o_w (v:=.bool false) (r_pickF rfl rfl rfl) ?_
    refine o_w (v:=.bool false) (r_mov rfl) ?_
    iterate 4 refine o_no (want_f (t:=107) rfl rfl rfl) rfl ?_
    refine o_w (v:=.bool false) (r_pickF rfl rfl rfl) ?_
    refine o_w (v:=.bool false) (r_mov rfl) ?_
    iterate 4 refine o_no (want_f (t:=113) rfl rfl rfl) rfl ?_
    refine o_w (v:=.bool false) (r_pickF rfl rfl rfl) ?_
    refine o_w (v:=.bool false) (r_mov rfl) ?_
    iterate 4 refine o_no (want_f (t:=119) rfl rfl rfl) rfl ?_
    refine o_w (v:=.bool false) (r_pickF rfl rfl rfl) ?_
    refine o_w (v:=.bool false) (r_mov rfl) ?_
    iterate 4 refine o_no (want_f (t:=125) rfl rfl rfl) rfl ?_
    refine o_w (v:=.bool false) (r_pickF rfl rfl rfl) ?_
    refine o_w (v:=.bool false) (r_asg rfl) ?_
    refine eo_nil_sq ?_
    refine ec_ret ?_
    subst h
    exact (end1 rfl ⟨_,rfl,E423,rfl⟩)
  ·replace h:=h.2 hc444
   iterate 4 refine o_no (want_f (t:=47) rfl rfl hc444) rfl ?_
   refine o_w (v:=.bool false) (r_pickF rfl hc444 rfl) ?_
   refine o_w (v:=.bool false) (r_mov rfl) ?_
   iterate 4 refine o_no (want_f (t:=53) rfl rfl rfl) rfl ?_
   refine o_w (v:=.bool false) (r_pickF rfl rfl rfl) ?_
   refine o_w (v:=.bool false) (r_mov rfl) ?_
   iterate 3 refine o_no (want_f (t:=59) rfl rfl rfl) rfl ?_
   refine o_w (v:=.bool false) (r_pickF rfl rfl rfl) ?_
   refine o_w (v:=.bool false) (r_mov rfl) ?_
   iterate 4 refine o_no (want_f (t:=64) rfl rfl rfl) rfl ?_
   refine o_w (v:=.bool false) (r_pickF rfl rfl rfl) ?_
   refine o_w (v:=.bool false) (r_mov rfl) ?_
   iterate 3 refine o_no (want_f (t:=70) rfl rfl rfl) rfl ?_
   refine o_w (v:=.bool false) (r_pickF rfl rfl rfl) ?_
   refine o_w (v:=.bool false) (r_mov rfl) ?_
   iterate 4 refine o_no (want_f (t:=75) rfl rfl rfl) rfl ?_
   refine o_w (v:=.bool false) (r_pickF rfl rfl rfl) ?_
   refine o_w (v:=.bool false) (r_mov rfl) ?_
   iterate 3 refine o_no (want_f (t:=81) rfl rfl rfl) rfl ?_
   refine o_w (v:=.bool false) (r_pickF rfl rfl rfl) ?_
   refine o_w (v:=.bool false) (r_mov rfl) ?_
   iterate 3 refine o_no (want_f (t:=86) rfl rfl rfl) rfl ?_
   refine o_w (v:=.bool false) (r_pickF rfl rfl rfl) ?_
   refine o_w (v:=.bool false) (r_mov rfl) ?_
   iterate 3 refine o_no (want_f (t:=91) rfl rfl rfl) rfl ?_
   refine o_w (v:=.bool false) (r_pickF rfl rfl rfl) ?_
   refine o_w (v:=.bool false) (r_mov rfl) ?_
   iterate 4 refine o_no (want_f (t:=96) rfl rfl rfl) rfl ?_
   refine o_w (v:=.bool false) (r_pickF rfl rfl rfl) ?_
   refine o_w (v:=.bool false) (r_mov rfl) ?_
   iterate 3 refine o_no (want_f (t:=102) rfl rfl rfl) rfl ?_
   refine o_w (v:=.bool false) (r_pickF rfl rfl rfl) ?_
   refine o_w (v:=.bool false) (r_mov rfl) ?_
   iterate 4 refine o_no (want_f (t:=107) rfl rfl rfl) rfl ?_
   refine o_w (v:=.bool false) (r_pickF rfl rfl rfl) ?_
   refine o_w (v:=.bool false) (r_mov rfl) ?_
   iterate 4 refine o_no (want_f (t:=113) rfl rfl rfl) rfl ?_
   refine o_w (v:=.bool false) (r_pickF rfl rfl rfl) ?_
   refine o_w (v:=.bool false) (r_mov rfl) ?_
   iterate 4 refine o_no (want_f (t:=119) rfl rfl rfl) rfl ?_
   refine o_w (v:=.bool false) (r_pickF rfl rfl rfl) ?_
   refine o_w (v:=.bool false) (r_mov rfl) ?_
   iterate 4 refine o_no (want_f (t:=125) rfl rfl rfl) rfl ?_
   refine o_w (v:=.bool false) (r_pickF rfl rfl rfl) ?_
   refine o_w (v:=.bool false) (r_asg rfl) ?_
   refine eo_nil_sq ?_
   refine ec_ret ?_
   subst h
   exact (end1 rfl ⟨_,rfl,E423,rfl⟩)
end Go.Proofs.Ytpopikeebobjnaa
