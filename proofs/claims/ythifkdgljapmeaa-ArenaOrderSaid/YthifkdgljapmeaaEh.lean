/- The law of arena: its example. -/
import Derived.Test.YthifkdgljapmeaaEx
namespace Go.Proofs.Ythifkdgljapmeaa
open Go Go.RowKit
set_option linter.unusedVariables false
set_option linter.unusedSimpArgs false
def law08_works_raw (y:Bool):Prop :=
 ∃ x21,x21=(newA (2:Int))∧((sma x21.1)∧((sm (⟨([98]:Str),(⟨(3:Int),(0:Int),(0:Int),false,([]:Str),([]:List Int),([]:List Int),(1:Int)⟩:Val)⟩:Ent).val)∧((WfV (⟨([98]:Str),(⟨(3:Int),(0:Int),(0:Int),false,([]:Str),([]:List Int),([]:List Int),(1:Int)⟩:Val)⟩:Ent).val)∧(∃ x50,x50=(joinA x21.1 (⟨([98]:Str),(⟨(3:Int),(0:Int),(0:Int),false,([]:Str),([]:List Int),([]:List Int),(1:Int)⟩:Val)⟩:Ent))∧((sma x50.1)∧((sm (⟨([97]:Str),(⟨(3:Int),(0:Int),(0:Int),false,([]:Str),([]:List Int),([]:List Int),(2:Int)⟩:Val)⟩:Ent).val)∧((WfV (⟨([97]:Str),(⟨(3:Int),(0:Int),(0:Int),false,([]:Str),([]:List Int),([]:List Int),(2:Int)⟩:Val)⟩:Ent).val)∧(∃ x90,x90=(joinA x50.1 (⟨([97]:Str),(⟨(3:Int),(0:Int),(0:Int),false,([]:Str),([]:List Int),([]:List Int),(2:Int)⟩:Val)⟩:Ent))∧((sma x90.1)∧((sm (⟨([98]:Str),(⟨(3:Int),(0:Int),(0:Int),false,([]:Str),([]:List Int),([]:List Int),(3:Int)⟩:Val)⟩:Ent).val)∧((WfV (⟨([98]:Str),(⟨(3:Int),(0:Int),(0:Int),false,([]:Str),([]:List Int),([]:List Int),(3:Int)⟩:Val)⟩:Ent).val)∧(∃ x138,x138=(joinA x90.1 (⟨([98]:Str),(⟨(3:Int),(0:Int),(0:Int),false,([]:Str),([]:List Int),([]:List Int),(3:Int)⟩:Val)⟩:Ent))∧((sma x138.1)∧((sm (⟨([98]:Str),(⟨(3:Int),(0:Int),(0:Int),false,([]:Str),([]:List Int),([]:List Int),(1:Int)⟩:Val)⟩:Ent).val)∧((WfV (⟨([98]:Str),(⟨(3:Int),(0:Int),(0:Int),false,([]:Str),([]:List Int),([]:List Int),(1:Int)⟩:Val)⟩:Ent).val)∧(∃ x194,x194=(joinA x138.1 (⟨([98]:Str),(⟨(3:Int),(0:Int),(0:Int),false,([]:Str),([]:List Int),([]:List Int),(1:Int)⟩:Val)⟩:Ent))∧((sma x90.1)∧((sm (⟨([99]:Str),(⟨(3:Int),(0:Int),(0:Int),false,([]:Str),([]:List Int),([]:List Int),(1:Int)⟩:Val)⟩:Ent).val)∧((WfV (⟨([99]:Str),(⟨(3:Int),(0:Int),(0:Int),false,([]:Str),([]:List Int),([]:List Int),(1:Int)⟩:Val)⟩:Ent).val)∧(∃ x258,x258=(joinA x90.1 (⟨([99]:Str),(⟨(3:Int),(0:Int),(0:Int),false,([]:Str),([]:List Int),([]:List Int),(1:Int)⟩:Val)⟩:Ent))∧((sma x21.1)∧((sml ([(⟨([98]:Str),(⟨(3:Int),(0:Int),(0:Int),false,([]:Str),([]:List Int),([]:List Int),(1:Int)⟩:Val)⟩:Ent),(⟨([97]:Str),(⟨(3:Int),(0:Int),(0:Int),false,([]:Str),([]:List Int),([]:List Int),(2:Int)⟩:Val)⟩:Ent),(⟨([98]:Str),(⟨(3:Int),(0:Int),(0:Int),false,([]:Str),([]:List Int),([]:List Int),(3:Int)⟩:Val)⟩:Ent),(⟨([]:Str),(⟨(0:Int),(0:Int),(0:Int),false,([]:Str),([]:List Int),([]:List Int),(0:Int)⟩:Val)⟩:Ent)]:List Ent))∧((wfl ([(⟨([98]:Str),(⟨(3:Int),(0:Int),(0:Int),false,([]:Str),([]:List Int),([]:List Int),(1:Int)⟩:Val)⟩:Ent),(⟨([97]:Str),(⟨(3:Int),(0:Int),(0:Int),false,([]:Str),([]:List Int),([]:List Int),(2:Int)⟩:Val)⟩:Ent),(⟨([98]:Str),(⟨(3:Int),(0:Int),(0:Int),false,([]:Str),([]:List Int),([]:List Int),(3:Int)⟩:Val)⟩:Ent),(⟨([]:Str),(⟨(0:Int),(0:Int),(0:Int),false,([]:Str),([]:List Int),([]:List Int),(0:Int)⟩:Val)⟩:Ent)]:List Ent))∧(∃ x347,x347=(mergeA x21.1 ([(⟨([98]:Str),(⟨(3:Int),(0:Int),(0:Int),false,([]:Str),([]:List Int),([]:List Int),(1:Int)⟩:Val)⟩:Ent),(⟨([97]:Str),(⟨(3:Int),(0:Int),(0:Int),false,([]:Str),([]:List Int),([]:List Int),(2:Int)⟩:Val)⟩:Ent),(⟨([98]:Str),(⟨(3:Int),(0:Int),(0:Int),false,([]:Str),([]:List Int),([]:List Int),(3:Int)⟩:Val)⟩:Ent),(⟨([]:Str),(⟨(0:Int),(0:Int),(0:Int),false,([]:Str),([]:List Int),([]:List Int),(0:Int)⟩:Val)⟩:Ent)]:List Ent))∧((sma x138.1)∧(∃ x432,x432=(allA x138.1)∧(((((x432.length:Int) != (2:Int))||((x138.1.slots.length:Int) != (2:Int)))=true→(y=false))∧((((x432.length:Int) != (2:Int))||((x138.1.slots.length:Int) != (2:Int)))=false→(((x21.2==0)=true→((x50.2.1=true→(((x50.2.2==0)=true→((x90.2.1=true→(((x90.2.2==0)=true→((x138.2.1=true→(((x138.2.2==0)=true→(((!x194.2.1)=true→(((x194.2.2==0)=true→(((!x258.2.1)=true→(((x258.2.2==4)=true→((0≤(0:Int)∧(0:Int)<(x432.length:Int))∧(((((nth x432 (0:Int)).key)==([97]:Str))=true→((0≤(0:Int)∧(0:Int)<(x138.1.slots.length:Int))∧((((((nth x138.1.slots (0:Int)).val).flags)==3)=true→((sma x138.1)∧((((findA x138.1 (3:Int) ([97]:Str))==1)=true→((sma x138.1)∧((((findA x138.1 (1:Int) ([97]:Str))==(-1:Int))=true→(((x347.2.1==3)=true→(((x347.2.2==1)=true→((sma x347.1)∧(((sameA x347.1 x138.1)=true→((sma x50.1)∧((sma x138.1)∧(((belowA x50.1 x138.1)=true→((sma x138.1)∧((sma x50.1)∧(((!(belowA x138.1 x50.1))=true→((sma x138.1)∧((sma x347.1)∧(((alikeA x138.1 x347.1)=true→((sma x138.1)∧(∃ x646,x646=(chunkA x138.1 (1:Int) (9:Int))∧((((x646.length:Int)==1)=true→((sma x138.1)∧((((checkA x138.1)==0)=true→((sma (⟨(0:Int),([]:List Ent),([]:List Int)⟩:Arena))∧(∃ x696,x696=(checkA (⟨(0:Int),([]:List Ent),([]:List Int)⟩:Arena))∧(((x696==2)=true→((sma x21.1)∧(y=(!(sameA x21.1 x50.1)))))∧((x696==2)=false→(y=false))))))∧(((checkA x138.1)==0)=false→(y=false)))))∧(((x646.length:Int)==1)=false→(y=false))))))∧((alikeA x138.1 x347.1)=false→(y=false))))))∧((!(belowA x138.1 x50.1))=false→(y=false))))))∧((belowA x50.1 x138.1)=false→(y=false))))))∧((sameA x347.1 x138.1)=false→(y=false)))))∧((x347.2.2==1)=false→(y=false))))∧((x347.2.1==3)=false→(y=false))))∧(((findA x138.1 (1:Int) ([97]:Str))==(-1:Int))=false→(y=false)))))∧(((findA x138.1 (3:Int) ([97]:Str))==1)=false→(y=false)))))∧(((((nth x138.1.slots (0:Int)).val).flags)==3)=false→(y=false)))))∧((((nth x432 (0:Int)).key)==([97]:Str))=false→(y=false)))))∧((x258.2.2==4)=false→(y=false))))∧((!x258.2.1)=false→(y=false))))∧((x194.2.2==0)=false→(y=false))))∧((!x194.2.1)=false→(y=false))))∧((x138.2.2==0)=false→(y=false))))∧(x138.2.1=false→(y=false))))∧((x90.2.2==0)=false→(y=false))))∧(x90.2.1=false→(y=false))))∧((x50.2.2==0)=false→(y=false))))∧(x50.2.1=false→(y=false))))∧((x21.2==0)=false→(y=false)))))))))))))))))))))))))))))))
set_option maxRecDepth 20000 in
set_option maxHeartbeats 4000000 in
theorem law08_works_c {L:List Nat} {w:World}  (hL:Lt L w) {y:Bool} (h:law08_works_raw y) :
  Calls Try.prog 10 [].toArray w (Ret fun v w'=>Ext w w'∧v=.bool y):=by
 unfold law08_works_raw at h
 refine calls_ec Try.func10 rfl rfl rfl ?_
 refine ec_sr ?_
 refine o_w (v:=.bool false) (r_asg rfl) ?_
 refine eo_r ?_
 refine o_w (v:=.agg #[.int .i64 3,.int .i64 0,.int .i64 0,.bool false,str [],.slice none ([]:List Int).length 0,.slice none ([]:List Int).length 0,.int .u64 1]) (r_build bld_api_Value (vs:=[(0,.int .i64 3),(7,.int .u64 1)]) (cells:=[.int .i64 3,.int .i64 0,.int .i64 0,.bool false,str [],.slice none ([]:List Int).length 0,.slice none ([]:List Int).length 0,.int .u64 1]) rfl rfl) ?_
 refine o_w (v:=.agg #[str ([98]:Str),.int .i64 3,.int .i64 0,.int .i64 0,.bool false,str [],.slice none ([]:List Int).length 0,.slice none ([]:List Int).length 0,.int .u64 1]) (r_build bld_api_Entry (vs:=[(0,str ([98]:Str)),(1,.agg #[.int .i64 3,.int .i64 0,.int .i64 0,.bool false,str [],.slice none ([]:List Int).length 0,.slice none ([]:List Int).length 0,.int .u64 1])]) (cells:=[str ([98]:Str),.int .i64 3,.int .i64 0,.int .i64 0,.bool false,str [],.slice none ([]:List Int).length 0,.slice none ([]:List Int).length 0,.int .u64 1]) rfl rfl) ?_
 refine o_alloc zero_api_Entry rfl rfl rfl ?_
 intro b1 w1 e1 F1 B1
 have n1:w.heap.size≤b1:=Nat.le_of_eq e1.symm
 refine o_store rfl B1 (vs:=[str ([98]:Str),.int .i64 3,.int .i64 0,.int .i64 0,.bool false,str [],.slice none ([]:List Int).length 0,.slice none ([]:List Int).length 0,.int .u64 1]) rfl sz_api_Entry rfl rfl rfl ?_
 intro w2 F2 B2
 have E3:=Ext.st F1 F2 (by simp; omega)
 have B2':Blk w2 b1 _ [str ([98]:Str),.int .i64 3,.int .i64 0,.int .i64 0,.bool false,str [],.slice none ([]:List Int).length 0,.slice none ([]:List Int).length 0,.int .u64 1]:=B2
 refine eo_r ?_
 refine o_w (v:=.agg #[.int .i64 3,.int .i64 0,.int .i64 0,.bool false,str [],.slice none ([]:List Int).length 0,.slice none ([]:List Int).length 0,.int .u64 2]) (r_build bld_api_Value (vs:=[(0,.int .i64 3),(7,.int .u64 2)]) (cells:=[.int .i64 3,.int .i64 0,.int .i64 0,.bool false,str [],.slice none ([]:List Int).length 0,.slice none ([]:List Int).length 0,.int .u64 2]) rfl rfl) ?_
 refine o_w (v:=.agg #[str ([97]:Str),.int .i64 3,.int .i64 0,.int .i64 0,.bool false,str [],.slice none ([]:List Int).length 0,.slice none ([]:List Int).length 0,.int .u64 2]) (r_build bld_api_Entry (vs:=[(0,str ([97]:Str)),(1,.agg #[.int .i64 3,.int .i64 0,.int .i64 0,.bool false,str [],.slice none ([]:List Int).length 0,.slice none ([]:List Int).length 0,.int .u64 2])]) (cells:=[str ([97]:Str),.int .i64 3,.int .i64 0,.int .i64 0,.bool false,str [],.slice none ([]:List Int).length 0,.slice none ([]:List Int).length 0,.int .u64 2]) rfl rfl) ?_
 refine o_alloc zero_api_Entry rfl rfl rfl ?_
 intro b4 w4 e4 F4 B4
 have n4:w.heap.size≤b4:=by rw [e4]; exact E3.size
 have q5:b1<b4:=by rw [e4]; exact B2'.lt
 have E6:=E3.trans F4
 refine o_store rfl B4 (vs:=[str ([97]:Str),.int .i64 3,.int .i64 0,.int .i64 0,.bool false,str [],.slice none ([]:List Int).length 0,.slice none ([]:List Int).length 0,.int .u64 2]) rfl sz_api_Entry rfl rfl rfl ?_
 intro w8 F8 B8
 have E9:=Ext.st E6 F8 (by simp; omega)
 have B10:=(B2'.ex F4).fr F8 (by simp; omega)
 have B8':Blk w8 b4 _ [str ([97]:Str),.int .i64 3,.int .i64 0,.int .i64 0,.bool false,str [],.slice none ([]:List Int).length 0,.slice none ([]:List Int).length 0,.int .u64 2]:=B8
 refine eo_r ?_
 refine o_w (v:=.agg #[.int .i64 3,.int .i64 0,.int .i64 0,.bool false,str [],.slice none ([]:List Int).length 0,.slice none ([]:List Int).length 0,.int .u64 3]) (r_build bld_api_Value (vs:=[(0,.int .i64 3),(7,.int .u64 3)]) (cells:=[.int .i64 3,.int .i64 0,.int .i64 0,.bool false,str [],.slice none ([]:List Int).length 0,.slice none ([]:List Int).length 0,.int .u64 3]) rfl rfl) ?_
 refine o_w (v:=.agg #[str ([98]:Str),.int .i64 3,.int .i64 0,.int .i64 0,.bool false,str [],.slice none ([]:List Int).length 0,.slice none ([]:List Int).length 0,.int .u64 3]) (r_build bld_api_Entry (vs:=[(0,str ([98]:Str)),(1,.agg #[.int .i64 3,.int .i64 0,.int .i64 0,.bool false,str [],.slice none ([]:List Int).length 0,.slice none ([]:List Int).length 0,.int .u64 3])]) (cells:=[str ([98]:Str),.int .i64 3,.int .i64 0,.int .i64 0,.bool false,str [],.slice none ([]:List Int).length 0,.slice none ([]:List Int).length 0,.int .u64 3]) rfl rfl) ?_
 refine o_alloc zero_api_Entry rfl rfl rfl ?_
 intro b11 w11 e11 F11 B11
 have n11:w.heap.size≤b11:=by rw [e11]; exact E9.size
 have q12:b1<b11:=by rw [e11]; exact B10.lt
 have q13:b4<b11:=by rw [e11]; exact B8'.lt
 have E14:=E9.trans F11
 refine o_store rfl B11 (vs:=[str ([98]:Str),.int .i64 3,.int .i64 0,.int .i64 0,.bool false,str [],.slice none ([]:List Int).length 0,.slice none ([]:List Int).length 0,.int .u64 3]) rfl sz_api_Entry rfl rfl rfl ?_
 intro w17 F17 B17
 have E18:=Ext.st E14 F17 (by simp; omega)
 have B19:=(B10.ex F11).fr F17 (by simp; omega)
 have B20:=(B8'.ex F11).fr F17 (by simp; omega)
 have B17':Blk w17 b11 _ [str ([98]:Str),.int .i64 3,.int .i64 0,.int .i64 0,.bool false,str [],.slice none ([]:List Int).length 0,.slice none ([]:List Int).length 0,.int .u64 3]:=B17
 refine eo_r ?_
 obtain ⟨x21,hx21,h⟩:=h
 refine o_call cf_arena_New rfl (arena_New_c (2:Int) ((((hL.fr E18).cons B19.lt).cons B20.lt).cons B17'.lt) (eq_ev hx21 (arNew_ev (2:Int)))) rfl rfl ?_
 rintro _ w21 ⟨F21,cs22,rfl,H23⟩
 have E24:=E18.trans F21
 obtain ⟨A28,c29,A31,c32,rfl,H30,H33⟩:=kArena_open H23
 refine o_w (v:=.tuple #[.agg (cArena x21.1 A28 c29 A31 c32).toArray,.int .i64 x21.2]) (r_mov rfl) ?_
 refine o_w (v:=.agg (cArena x21.1 A28 c29 A31 c32).toArray) (r_ext rfl rfl) ?_
 refine o_w (v:=.int .i64 x21.2) (r_ext rfl rfl) ?_
 refine o_alloc zero_api_Arena rfl rfl rfl ?_
 intro b34 w34 e34 F34 B34
 have n34:w.heap.size≤b34:=by rw [e34]; exact E24.size
 have q35:b1<b34:=by rw [e34]; exact (B19.ex F21).lt
 have q36:b4<b34:=by rw [e34]; exact (B20.ex F21).lt
 have q37:b11<b34:=by rw [e34]; exact (B17'.ex F21).lt
 have m38:w21.heap.size≤b34:=Nat.le_of_eq e34.symm
 have E39:=E24.trans F34
 have G40:Fr (b11::(b4::(b1::L))) w21 w34:=Fr.ext F34
 refine o_store rfl B34 (vs:=(cArena x21.1 A28 c29 A31 c32)) rfl sz_api_Arena rfl rfl rfl ?_
 intro w44 F44 B44
 have E45:=Ext.st E39 F44 (by simp; omega)
 have G46:Fr (b11::(b4::(b1::L))) w21 w44:=G40.stp F44 (upc (.inr m38) (fun m hm=>by cases hm))
 have B47:=((B19.ex F21).ex F34).fr F44 (by simp; omega)
 have B48:=((B20.ex F21).ex F34).fr F44 (by simp; omega)
 have B49:=((B17'.ex F21).ex F34).fr F44 (by simp; omega)
 have B44':Blk w44 b34 _ (cArena x21.1 A28 c29 A31 c32):=B44
 refine o_w (v:=.int .i64 x21.2) (r_asg rfl) ?_
 refine eo_r ?_
 refine o_w (v:=.agg (cArena x21.1 A28 c29 A31 c32).toArray) (r_lda agg_api_Arena rfl (vs:=(cArena x21.1 A28 c29 A31 c32)) rfl (B44'.part (n:=3) rfl)) ?_
 refine o_w (v:=.agg #[str ([98]:Str),.int .i64 3,.int .i64 0,.int .i64 0,.bool false,str [],.slice none ([]:List Int).length 0,.slice none ([]:List Int).length 0,.int .u64 1]) (r_lda agg_api_Entry rfl (vs:=[str ([98]:Str),.int .i64 3,.int .i64 0,.int .i64 0,.bool false,str [],.slice none ([]:List Int).length 0,.slice none ([]:List Int).length 0,.int .u64 1]) rfl (B47.part (n:=9) rfl)) ?_
 obtain ⟨ha51,h⟩:=h
 obtain ⟨ha52,h⟩:=h
 obtain ⟨ha53,h⟩:=h
 obtain ⟨x50,hx50,h⟩:=h
 refine o_call cf_arena_Join rfl (arena_Join_c x21.1 (kArena_mk (d:=x21.1) (H30.up G46 sI (upc (.inr m38) (upc (.inl mH) (upc (.inl (mT mH)) (upc (.inl (mT (mT mH))) (fun m hm=>Or.inl (mT (mT (mT hm))))))))) (H33.up G46 sI (upc (.inr m38) (upc (.inl mH) (upc (.inl (mT mH)) (upc (.inl (mT (mT mH))) (fun m hm=>Or.inl (mT (mT (mT hm)))))))))) (⟨([98]:Str),(⟨(3:Int),(0:Int),(0:Int),false,([]:Str),([]:List Int),([]:List Int),(1:Int)⟩:Val)⟩:Ent) (kEnt_mk (d:=(⟨([98]:Str),(⟨(3:Int),(0:Int),(0:Int),false,([]:Str),([]:List Int),([]:List Int),(1:Int)⟩:Val)⟩:Ent)) stb_nil stb_nil) (((((hL.fr E45).cons B47.lt).cons B48.lt).cons B49.lt).cons B44'.lt) (eq_ev hx50 (arJoin_ev x21.1 (⟨([98]:Str),(⟨(3:Int),(0:Int),(0:Int),false,([]:Str),([]:List Int),([]:List Int),(1:Int)⟩:Val)⟩:Ent) ha51 ha52 ha53))) rfl rfl ?_
 rintro _ w50 ⟨F50,cs54,rfl,H55⟩
 have E56:=E45.trans F50
 obtain ⟨A62,c63,A65,c66,rfl,H64,H67⟩:=kArena_open H55
 refine o_w (v:=.tuple #[.agg (cArena x50.1 A62 c63 A65 c66).toArray,.bool x50.2.1,.int .i64 x50.2.2]) (r_mov rfl) ?_
 refine o_w (v:=.agg (cArena x50.1 A62 c63 A65 c66).toArray) (r_ext rfl rfl) ?_
 refine o_w (v:=.bool x50.2.1) (r_ext rfl rfl) ?_
 refine o_w (v:=.int .i64 x50.2.2) (r_ext rfl rfl) ?_
 refine o_alloc zero_api_Arena rfl rfl rfl ?_
 intro b68 w68 e68 F68 B68
 have n68:w.heap.size≤b68:=by rw [e68]; exact E56.size
 have q69:b1<b68:=by rw [e68]; exact (B47.ex F50).lt
 have q70:b4<b68:=by rw [e68]; exact (B48.ex F50).lt
 have q71:b11<b68:=by rw [e68]; exact (B49.ex F50).lt
 have q72:b34<b68:=by rw [e68]; exact (B44'.ex F50).lt
 have m73:w21.heap.size≤b68:=by rw [e68]; exact (G46.trans (Fr.ext F50)).size
 have m74:w50.heap.size≤b68:=Nat.le_of_eq e68.symm
 have E75:=E56.trans F68
 have G77:Fr (b34::(b11::(b4::(b1::L)))) w50 w68:=Fr.ext F68
 refine o_store rfl B68 (vs:=(cArena x50.1 A62 c63 A65 c66)) rfl sz_api_Arena rfl rfl rfl ?_
 intro w82 F82 B82
 have E83:=Ext.st E75 F82 (by simp; omega)
 have G84:Fr (b11::(b4::(b1::L))) w21 w82:=((G46.trans (Fr.ext F50)).trans (Fr.ext F68)).stp F82 (upc (.inr m73) (fun m hm=>by cases hm))
 have G85:Fr (b34::(b11::(b4::(b1::L)))) w50 w82:=G77.stp F82 (upc (.inr m74) (fun m hm=>by cases hm))
 have B86:=((B47.ex F50).ex F68).fr F82 (by simp; omega)
 have B87:=((B48.ex F50).ex F68).fr F82 (by simp; omega)
 have B88:=((B49.ex F50).ex F68).fr F82 (by simp; omega)
 have B89:=((B44'.ex F50).ex F68).fr F82 (by simp; omega)
 have B82':Blk w82 b68 _ (cArena x50.1 A62 c63 A65 c66):=B82
 refine o_w (v:=.bool x50.2.1) (r_asg rfl) ?_
 refine o_w (v:=.int .i64 x50.2.2) (r_asg rfl) ?_
 refine eo_r ?_
 refine o_w (v:=.agg (cArena x50.1 A62 c63 A65 c66).toArray) (r_lda agg_api_Arena rfl (vs:=(cArena x50.1 A62 c63 A65 c66)) rfl (B82'.part (n:=3) rfl)) ?_
 refine o_w (v:=.agg #[str ([97]:Str),.int .i64 3,.int .i64 0,.int .i64 0,.bool false,str [],.slice none ([]:List Int).length 0,.slice none ([]:List Int).length 0,.int .u64 2]) (r_lda agg_api_Entry rfl (vs:=[str ([97]:Str),.int .i64 3,.int .i64 0,.int .i64 0,.bool false,str [],.slice none ([]:List Int).length 0,.slice none ([]:List Int).length 0,.int .u64 2]) rfl (B87.part (n:=9) rfl)) ?_
 obtain ⟨ha91,h⟩:=h
 obtain ⟨ha92,h⟩:=h
 obtain ⟨ha93,h⟩:=h
 obtain ⟨x90,hx90,h⟩:=h
 refine o_call cf_arena_Join rfl (arena_Join_c x50.1 (kArena_mk (d:=x50.1) (H64.up G85 sI (upc (.inr m74) (upc (.inl mH) (upc (.inl (mT mH)) (upc (.inl (mT (mT mH))) (upc (.inl (mT (mT (mT mH)))) (fun m hm=>Or.inl (mT (mT (mT (mT hm))))))))))) (H67.up G85 sI (upc (.inr m74) (upc (.inl mH) (upc (.inl (mT mH)) (upc (.inl (mT (mT mH))) (upc (.inl (mT (mT (mT mH)))) (fun m hm=>Or.inl (mT (mT (mT (mT hm)))))))))))) (⟨([97]:Str),(⟨(3:Int),(0:Int),(0:Int),false,([]:Str),([]:List Int),([]:List Int),(2:Int)⟩:Val)⟩:Ent) (kEnt_mk (d:=(⟨([97]:Str),(⟨(3:Int),(0:Int),(0:Int),false,([]:Str),([]:List Int),([]:List Int),(2:Int)⟩:Val)⟩:Ent)) stb_nil stb_nil) ((((((hL.fr E83).cons B86.lt).cons B87.lt).cons B88.lt).cons B89.lt).cons B82'.lt) (eq_ev hx90 (arJoin_ev x50.1 (⟨([97]:Str),(⟨(3:Int),(0:Int),(0:Int),false,([]:Str),([]:List Int),([]:List Int),(2:Int)⟩:Val)⟩:Ent) ha91 ha92 ha93))) rfl rfl ?_
 rintro _ w90 ⟨F90,cs94,rfl,H95⟩
 have E96:=E83.trans F90
 obtain ⟨A104,c105,A107,c108,rfl,H106,H109⟩:=kArena_open H95
 refine o_w (v:=.tuple #[.agg (cArena x90.1 A104 c105 A107 c108).toArray,.bool x90.2.1,.int .i64 x90.2.2]) (r_mov rfl) ?_
 refine o_w (v:=.agg (cArena x90.1 A104 c105 A107 c108).toArray) (r_ext rfl rfl) ?_
 refine o_w (v:=.bool x90.2.1) (r_ext rfl rfl) ?_
 refine o_w (v:=.int .i64 x90.2.2) (r_ext rfl rfl) ?_
 refine o_alloc zero_api_Arena rfl rfl rfl ?_
 intro b110 w110 e110 F110 B110
 have n110:w.heap.size≤b110:=by rw [e110]; exact E96.size
 have q111:b1<b110:=by rw [e110]; exact (B86.ex F90).lt
 have q112:b4<b110:=by rw [e110]; exact (B87.ex F90).lt
 have q113:b11<b110:=by rw [e110]; exact (B88.ex F90).lt
 have q114:b34<b110:=by rw [e110]; exact (B89.ex F90).lt
 have q115:b68<b110:=by rw [e110]; exact (B82'.ex F90).lt
 have m116:w21.heap.size≤b110:=by rw [e110]; exact (G84.trans (Fr.ext F90)).size
 have m117:w50.heap.size≤b110:=by rw [e110]; exact (G85.trans (Fr.ext F90)).size
 have m118:w90.heap.size≤b110:=Nat.le_of_eq e110.symm
 have E119:=E96.trans F110
 have G122:Fr (b68::(b34::(b11::(b4::(b1::L))))) w90 w110:=Fr.ext F110
 refine o_store rfl B110 (vs:=(cArena x90.1 A104 c105 A107 c108)) rfl sz_api_Arena rfl rfl rfl ?_
 intro w128 F128 B128
 have E129:=Ext.st E119 F128 (by simp; omega)
 have G130:Fr (b11::(b4::(b1::L))) w21 w128:=((G84.trans (Fr.ext F90)).trans (Fr.ext F110)).stp F128 (upc (.inr m116) (fun m hm=>by cases hm))
 have G131:Fr (b34::(b11::(b4::(b1::L)))) w50 w128:=((G85.trans (Fr.ext F90)).trans (Fr.ext F110)).stp F128 (upc (.inr m117) (fun m hm=>by cases hm))
 have G132:Fr (b68::(b34::(b11::(b4::(b1::L))))) w90 w128:=G122.stp F128 (upc (.inr m118) (fun m hm=>by cases hm))
 have B133:=((B86.ex F90).ex F110).fr F128 (by simp; omega)
 have B134:=((B87.ex F90).ex F110).fr F128 (by simp; omega)
 have B135:=((B88.ex F90).ex F110).fr F128 (by simp; omega)
 have B136:=((B89.ex F90).ex F110).fr F128 (by simp; omega)
 have B137:=((B82'.ex F90).ex F110).fr F128 (by simp; omega)
 have B128':Blk w128 b110 _ (cArena x90.1 A104 c105 A107 c108):=B128
 refine o_w (v:=.bool x90.2.1) (r_asg rfl) ?_
 refine o_w (v:=.int .i64 x90.2.2) (r_asg rfl) ?_
 refine eo_r ?_
 refine o_w (v:=.agg (cArena x90.1 A104 c105 A107 c108).toArray) (r_lda agg_api_Arena rfl (vs:=(cArena x90.1 A104 c105 A107 c108)) rfl (B128'.part (n:=3) rfl)) ?_
 refine o_w (v:=.agg #[str ([98]:Str),.int .i64 3,.int .i64 0,.int .i64 0,.bool false,str [],.slice none ([]:List Int).length 0,.slice none ([]:List Int).length 0,.int .u64 3]) (r_lda agg_api_Entry rfl (vs:=[str ([98]:Str),.int .i64 3,.int .i64 0,.int .i64 0,.bool false,str [],.slice none ([]:List Int).length 0,.slice none ([]:List Int).length 0,.int .u64 3]) rfl (B135.part (n:=9) rfl)) ?_
 obtain ⟨ha139,h⟩:=h
 obtain ⟨ha140,h⟩:=h
 obtain ⟨ha141,h⟩:=h
 obtain ⟨x138,hx138,h⟩:=h
 refine o_call cf_arena_Join rfl (arena_Join_c x90.1 (kArena_mk (d:=x90.1) (H106.up G132 sI (upc (.inr m118) (upc (.inl mH) (upc (.inl (mT mH)) (upc (.inl (mT (mT mH))) (upc (.inl (mT (mT (mT mH)))) (upc (.inl (mT (mT (mT (mT mH))))) (fun m hm=>Or.inl (mT (mT (mT (mT (mT hm))))))))))))) (H109.up G132 sI (upc (.inr m118) (upc (.inl mH) (upc (.inl (mT mH)) (upc (.inl (mT (mT mH))) (upc (.inl (mT (mT (mT mH)))) (upc (.inl (mT (mT (mT (mT mH))))) (fun m hm=>Or.inl (mT (mT (mT (mT (mT hm)))))))))))))) (⟨([98]:Str),(⟨(3:Int),(0:Int),(0:Int),false,([]:Str),([]:List Int),([]:List Int),(3:Int)⟩:Val)⟩:Ent) (kEnt_mk (d:=(⟨([98]:Str),(⟨(3:Int),(0:Int),(0:Int),false,([]:Str),([]:List Int),([]:List Int),(3:Int)⟩:Val)⟩:Ent)) stb_nil stb_nil) (((((((hL.fr E129).cons B133.lt).cons B134.lt).cons B135.lt).cons B136.lt).cons B137.lt).cons B128'.lt) (eq_ev hx138 (arJoin_ev x90.1 (⟨([98]:Str),(⟨(3:Int),(0:Int),(0:Int),false,([]:Str),([]:List Int),([]:List Int),(3:Int)⟩:Val)⟩:Ent) ha139 ha140 ha141))) rfl rfl ?_
 rintro _ w138 ⟨F138,cs142,rfl,H143⟩
 have E144:=E129.trans F138
 obtain ⟨A154,c155,A157,c158,rfl,H156,H159⟩:=kArena_open H143
 refine o_w (v:=.tuple #[.agg (cArena x138.1 A154 c155 A157 c158).toArray,.bool x138.2.1,.int .i64 x138.2.2]) (r_mov rfl) ?_
 refine o_w (v:=.agg (cArena x138.1 A154 c155 A157 c158).toArray) (r_ext rfl rfl) ?_
 refine o_w (v:=.bool x138.2.1) (r_ext rfl rfl) ?_
 refine o_w (v:=.int .i64 x138.2.2) (r_ext rfl rfl) ?_
 refine o_alloc zero_api_Arena rfl rfl rfl ?_
 intro b160 w160 e160 F160 B160
 have n160:w.heap.size≤b160:=by rw [e160]; exact E144.size
 have q161:b1<b160:=by rw [e160]; exact (B133.ex F138).lt
 have q162:b4<b160:=by rw [e160]; exact (B134.ex F138).lt
 have q163:b11<b160:=by rw [e160]; exact (B135.ex F138).lt
 have q164:b34<b160:=by rw [e160]; exact (B136.ex F138).lt
 have q165:b68<b160:=by rw [e160]; exact (B137.ex F138).lt
 have q166:b110<b160:=by rw [e160]; exact (B128'.ex F138).lt
 have m167:w21.heap.size≤b160:=by rw [e160]; exact (G130.trans (Fr.ext F138)).size
 have m168:w50.heap.size≤b160:=by rw [e160]; exact (G131.trans (Fr.ext F138)).size
 have m169:w90.heap.size≤b160:=by rw [e160]; exact (G132.trans (Fr.ext F138)).size
 have m170:w138.heap.size≤b160:=Nat.le_of_eq e160.symm
 have E171:=E144.trans F160
 have G175:Fr (b110::(b68::(b34::(b11::(b4::(b1::L)))))) w138 w160:=Fr.ext F160
 refine o_store rfl B160 (vs:=(cArena x138.1 A154 c155 A157 c158)) rfl sz_api_Arena rfl rfl rfl ?_
 intro w182 F182 B182
 have E183:=Ext.st E171 F182 (by simp; omega)
 have G184:Fr (b11::(b4::(b1::L))) w21 w182:=((G130.trans (Fr.ext F138)).trans (Fr.ext F160)).stp F182 (upc (.inr m167) (fun m hm=>by cases hm))
 have G185:Fr (b34::(b11::(b4::(b1::L)))) w50 w182:=((G131.trans (Fr.ext F138)).trans (Fr.ext F160)).stp F182 (upc (.inr m168) (fun m hm=>by cases hm))
 have G186:Fr (b68::(b34::(b11::(b4::(b1::L))))) w90 w182:=((G132.trans (Fr.ext F138)).trans (Fr.ext F160)).stp F182 (upc (.inr m169) (fun m hm=>by cases hm))
 have G187:Fr (b110::(b68::(b34::(b11::(b4::(b1::L)))))) w138 w182:=G175.stp F182 (upc (.inr m170) (fun m hm=>by cases hm))
 have B188:=((B133.ex F138).ex F160).fr F182 (by simp; omega)
 have B189:=((B134.ex F138).ex F160).fr F182 (by simp; omega)
 have B190:=((B135.ex F138).ex F160).fr F182 (by simp; omega)
 have B191:=((B136.ex F138).ex F160).fr F182 (by simp; omega)
 have B192:=((B137.ex F138).ex F160).fr F182 (by simp; omega)
 have B193:=((B128'.ex F138).ex F160).fr F182 (by simp; omega)
 have B182':Blk w182 b160 _ (cArena x138.1 A154 c155 A157 c158):=B182
 refine o_w (v:=.bool x138.2.1) (r_asg rfl) ?_
 refine o_w (v:=.int .i64 x138.2.2) (r_asg rfl) ?_
 refine eo_r ?_
 refine o_w (v:=.agg (cArena x138.1 A154 c155 A157 c158).toArray) (r_lda agg_api_Arena rfl (vs:=(cArena x138.1 A154 c155 A157 c158)) rfl (B182'.part (n:=3) rfl)) ?_
 refine o_w (v:=.agg #[str ([98]:Str),.int .i64 3,.int .i64 0,.int .i64 0,.bool false,str [],.slice none ([]:List Int).length 0,.slice none ([]:List Int).length 0,.int .u64 1]) (r_lda agg_api_Entry rfl (vs:=[str ([98]:Str),.int .i64 3,.int .i64 0,.int .i64 0,.bool false,str [],.slice none ([]:List Int).length 0,.slice none ([]:List Int).length 0,.int .u64 1]) rfl (B188.part (n:=9) rfl)) ?_
 obtain ⟨ha195,h⟩:=h
 obtain ⟨ha196,h⟩:=h
 obtain ⟨ha197,h⟩:=h
 obtain ⟨x194,hx194,h⟩:=h
 refine o_call cf_arena_Join rfl (arena_Join_c x138.1 (kArena_mk (d:=x138.1) (H156.up G187 sI (upc (.inr m170) (upc (.inl mH) (upc (.inl (mT mH)) (upc (.inl (mT (mT mH))) (upc (.inl (mT (mT (mT mH)))) (upc (.inl (mT (mT (mT (mT mH))))) (upc (.inl (mT (mT (mT (mT (mT mH)))))) (fun m hm=>Or.inl (mT (mT (mT (mT (mT (mT hm))))))))))))))) (H159.up G187 sI (upc (.inr m170) (upc (.inl mH) (upc (.inl (mT mH)) (upc (.inl (mT (mT mH))) (upc (.inl (mT (mT (mT mH)))) (upc (.inl (mT (mT (mT (mT mH))))) (upc (.inl (mT (mT (mT (mT (mT mH)))))) (fun m hm=>Or.inl (mT (mT (mT (mT (mT (mT hm)))))))))))))))) (⟨([98]:Str),(⟨(3:Int),(0:Int),(0:Int),false,([]:Str),([]:List Int),([]:List Int),(1:Int)⟩:Val)⟩:Ent) (kEnt_mk (d:=(⟨([98]:Str),(⟨(3:Int),(0:Int),(0:Int),false,([]:Str),([]:List Int),([]:List Int),(1:Int)⟩:Val)⟩:Ent)) stb_nil stb_nil) ((((((((hL.fr E183).cons B188.lt).cons B189.lt).cons B190.lt).cons B191.lt).cons B192.lt).cons B193.lt).cons B182'.lt) (eq_ev hx194 (arJoin_ev x138.1 (⟨([98]:Str),(⟨(3:Int),(0:Int),(0:Int),false,([]:Str),([]:List Int),([]:List Int),(1:Int)⟩:Val)⟩:Ent) ha195 ha196 ha197))) rfl rfl ?_
 rintro _ w194 ⟨F194,cs198,rfl,H199⟩
 have E200:=E183.trans F194
 obtain ⟨A212,c213,A215,c216,rfl,H214,H217⟩:=kArena_open H199
 refine o_w (v:=.tuple #[.agg (cArena x194.1 A212 c213 A215 c216).toArray,.bool x194.2.1,.int .i64 x194.2.2]) (r_mov rfl) ?_
 refine o_w (v:=.agg (cArena x194.1 A212 c213 A215 c216).toArray) (r_ext rfl rfl) ?_
 refine o_w (v:=.bool x194.2.1) (r_ext rfl rfl) ?_
 refine o_w (v:=.int .i64 x194.2.2) (r_ext rfl rfl) ?_
 refine o_alloc zero_api_Arena rfl rfl rfl ?_
 intro b218 w218 e218 F218 B218
 have n218:w.heap.size≤b218:=by rw [e218]; exact E200.size
 have q219:b1<b218:=by rw [e218]; exact (B188.ex F194).lt
 have q220:b4<b218:=by rw [e218]; exact (B189.ex F194).lt
 have q221:b11<b218:=by rw [e218]; exact (B190.ex F194).lt
 have q222:b34<b218:=by rw [e218]; exact (B191.ex F194).lt
 have q223:b68<b218:=by rw [e218]; exact (B192.ex F194).lt
 have q224:b110<b218:=by rw [e218]; exact (B193.ex F194).lt
 have q225:b160<b218:=by rw [e218]; exact (B182'.ex F194).lt
 have m226:w21.heap.size≤b218:=by rw [e218]; exact (G184.trans (Fr.ext F194)).size
 have m227:w50.heap.size≤b218:=by rw [e218]; exact (G185.trans (Fr.ext F194)).size
 have m228:w90.heap.size≤b218:=by rw [e218]; exact (G186.trans (Fr.ext F194)).size
 have m229:w138.heap.size≤b218:=by rw [e218]; exact (G187.trans (Fr.ext F194)).size
 have E231:=E200.trans F218
 refine o_store rfl B218 (vs:=(cArena x194.1 A212 c213 A215 c216)) rfl sz_api_Arena rfl rfl rfl ?_
 intro w244 F244 B244
 have E245:=Ext.st E231 F244 (by simp; omega)
 have G246:Fr (b11::(b4::(b1::L))) w21 w244:=((G184.trans (Fr.ext F194)).trans (Fr.ext F218)).stp F244 (upc (.inr m226) (fun m hm=>by cases hm))
 have G247:Fr (b34::(b11::(b4::(b1::L)))) w50 w244:=((G185.trans (Fr.ext F194)).trans (Fr.ext F218)).stp F244 (upc (.inr m227) (fun m hm=>by cases hm))
 have G248:Fr (b68::(b34::(b11::(b4::(b1::L))))) w90 w244:=((G186.trans (Fr.ext F194)).trans (Fr.ext F218)).stp F244 (upc (.inr m228) (fun m hm=>by cases hm))
 have G249:Fr (b110::(b68::(b34::(b11::(b4::(b1::L)))))) w138 w244:=((G187.trans (Fr.ext F194)).trans (Fr.ext F218)).stp F244 (upc (.inr m229) (fun m hm=>by cases hm))
 have B251:=((B188.ex F194).ex F218).fr F244 (by simp; omega)
 have B252:=((B189.ex F194).ex F218).fr F244 (by simp; omega)
 have B253:=((B190.ex F194).ex F218).fr F244 (by simp; omega)
 have B254:=((B191.ex F194).ex F218).fr F244 (by simp; omega)
 have B255:=((B192.ex F194).ex F218).fr F244 (by simp; omega)
 have B256:=((B193.ex F194).ex F218).fr F244 (by simp; omega)
 have B257:=((B182'.ex F194).ex F218).fr F244 (by simp; omega)
 have B244':Blk w244 b218 _ (cArena x194.1 A212 c213 A215 c216):=B244
 refine o_w (v:=.bool x194.2.1) (r_asg rfl) ?_
 refine o_w (v:=.int .i64 x194.2.2) (r_asg rfl) ?_
 refine eo_r ?_
 refine o_w (v:=.agg (cArena x90.1 A104 c105 A107 c108).toArray) (r_lda agg_api_Arena rfl (vs:=(cArena x90.1 A104 c105 A107 c108)) rfl (B256.part (n:=3) rfl)) ?_
 refine o_w (v:=.pointer (some ⟨b1,1,none⟩)) (r_fa fld_api_Entry_1 rfl rfl) ?_
 refine o_w (v:=.agg #[.int .i64 3,.int .i64 0,.int .i64 0,.bool false,str [],.slice none ([]:List Int).length 0,.slice none ([]:List Int).length 0,.int .u64 1]) (r_lda agg_api_Value rfl (vs:=[.int .i64 3,.int .i64 0,.int .i64 0,.bool false,str [],.slice none ([]:List Int).length 0,.slice none ([]:List Int).length 0,.int .u64 1]) rfl (B251.part (n:=8) rfl)) ?_
 refine o_w (v:=.agg #[str ([99]:Str),.int .i64 3,.int .i64 0,.int .i64 0,.bool false,str [],.slice none ([]:List Int).length 0,.slice none ([]:List Int).length 0,.int .u64 1]) (r_build bld_api_Entry (vs:=[(0,str ([99]:Str)),(1,.agg #[.int .i64 3,.int .i64 0,.int .i64 0,.bool false,str [],.slice none ([]:List Int).length 0,.slice none ([]:List Int).length 0,.int .u64 1])]) (cells:=[str ([99]:Str),.int .i64 3,.int .i64 0,.int .i64 0,.bool false,str [],.slice none ([]:List Int).length 0,.slice none ([]:List Int).length 0,.int .u64 1]) rfl rfl) ?_
 obtain ⟨ha259,h⟩:=h
 obtain ⟨ha260,h⟩:=h
 obtain ⟨ha261,h⟩:=h
 obtain ⟨x258,hx258,h⟩:=h
 refine o_call cf_arena_Join rfl (arena_Join_c x90.1 (kArena_mk (d:=x90.1) (H106.up G248 sI (upc (.inr m228) (upc (.inr m169) (upc (.inr m118) (upc (.inl mH) (upc (.inl (mT mH)) (upc (.inl (mT (mT mH))) (upc (.inl (mT (mT (mT mH)))) (upc (.inl (mT (mT (mT (mT mH))))) (fun m hm=>Or.inl (mT (mT (mT (mT (mT hm))))))))))))))) (H109.up G248 sI (upc (.inr m228) (upc (.inr m169) (upc (.inr m118) (upc (.inl mH) (upc (.inl (mT mH)) (upc (.inl (mT (mT mH))) (upc (.inl (mT (mT (mT mH)))) (upc (.inl (mT (mT (mT (mT mH))))) (fun m hm=>Or.inl (mT (mT (mT (mT (mT hm)))))))))))))))) (⟨([99]:Str),(⟨(3:Int),(0:Int),(0:Int),false,([]:Str),([]:List Int),([]:List Int),(1:Int)⟩:Val)⟩:Ent) (kEnt_mk (d:=(⟨([99]:Str),(⟨(3:Int),(0:Int),(0:Int),false,([]:Str),([]:List Int),([]:List Int),(1:Int)⟩:Val)⟩:Ent)) stb_nil stb_nil) (((((((((hL.fr E245).cons B251.lt).cons B252.lt).cons B253.lt).cons B254.lt).cons B255.lt).cons B256.lt).cons B257.lt).cons B244'.lt) (eq_ev hx258 (arJoin_ev x90.1 (⟨([99]:Str),(⟨(3:Int),(0:Int),(0:Int),false,([]:Str),([]:List Int),([]:List Int),(1:Int)⟩:Val)⟩:Ent) ha259 ha260 ha261))) rfl rfl ?_
 rintro _ w258 ⟨F258,cs262,rfl,H263⟩
 have E264:=E245.trans F258
 obtain ⟨A278,c279,A281,c282,rfl,H280,H283⟩:=kArena_open H263
 refine o_w (v:=.tuple #[.agg (cArena x258.1 A278 c279 A281 c282).toArray,.bool x258.2.1,.int .i64 x258.2.2]) (r_mov rfl) ?_
 refine o_w (v:=.agg (cArena x258.1 A278 c279 A281 c282).toArray) (r_ext rfl rfl) ?_
 refine o_w (v:=.bool x258.2.1) (r_ext rfl rfl) ?_
 refine o_w (v:=.int .i64 x258.2.2) (r_ext rfl rfl) ?_
 refine o_alloc zero_api_Arena rfl rfl rfl ?_
 intro b284 w284 e284 F284 B284
 have n284:w.heap.size≤b284:=by rw [e284]; exact E264.size
 have q285:b1<b284:=by rw [e284]; exact (B251.ex F258).lt
 have q286:b4<b284:=by rw [e284]; exact (B252.ex F258).lt
 have q287:b11<b284:=by rw [e284]; exact (B253.ex F258).lt
 have q288:b34<b284:=by rw [e284]; exact (B254.ex F258).lt
 have q289:b68<b284:=by rw [e284]; exact (B255.ex F258).lt
 have q290:b110<b284:=by rw [e284]; exact (B256.ex F258).lt
 have q291:b160<b284:=by rw [e284]; exact (B257.ex F258).lt
 have q292:b218<b284:=by rw [e284]; exact (B244'.ex F258).lt
 have m293:w21.heap.size≤b284:=by rw [e284]; exact (G246.trans (Fr.ext F258)).size
 have m294:w50.heap.size≤b284:=by rw [e284]; exact (G247.trans (Fr.ext F258)).size
 have m296:w138.heap.size≤b284:=by rw [e284]; exact (G249.trans (Fr.ext F258)).size
 have E299:=E264.trans F284
 refine o_store rfl B284 (vs:=(cArena x258.1 A278 c279 A281 c282)) rfl sz_api_Arena rfl rfl rfl ?_
 intro w314 F314 B314
 have E315:=Ext.st E299 F314 (by simp; omega)
 have G316:Fr (b11::(b4::(b1::L))) w21 w314:=((G246.trans (Fr.ext F258)).trans (Fr.ext F284)).stp F314 (upc (.inr m293) (fun m hm=>by cases hm))
 have G317:Fr (b34::(b11::(b4::(b1::L)))) w50 w314:=((G247.trans (Fr.ext F258)).trans (Fr.ext F284)).stp F314 (upc (.inr m294) (fun m hm=>by cases hm))
 have G319:Fr (b110::(b68::(b34::(b11::(b4::(b1::L)))))) w138 w314:=((G249.trans (Fr.ext F258)).trans (Fr.ext F284)).stp F314 (upc (.inr m296) (fun m hm=>by cases hm))
 have B322:=((B251.ex F258).ex F284).fr F314 (by simp; omega)
 have B323:=((B252.ex F258).ex F284).fr F314 (by simp; omega)
 have B324:=((B253.ex F258).ex F284).fr F314 (by simp; omega)
 have B325:=((B254.ex F258).ex F284).fr F314 (by simp; omega)
 have B326:=((B255.ex F258).ex F284).fr F314 (by simp; omega)
 have B327:=((B256.ex F258).ex F284).fr F314 (by simp; omega)
 have B328:=((B257.ex F258).ex F284).fr F314 (by simp; omega)
 have B329:=((B244'.ex F258).ex F284).fr F314 (by simp; omega)
 have B314':Blk w314 b284 _ (cArena x258.1 A278 c279 A281 c282):=B314
 refine o_w (v:=.bool x258.2.1) (r_asg rfl) ?_
 refine o_w (v:=.int .i64 x258.2.2) (r_asg rfl) ?_
 refine eo_r ?_
 refine o_w (v:=.agg (cArena x21.1 A28 c29 A31 c32).toArray) (r_lda agg_api_Arena rfl (vs:=(cArena x21.1 A28 c29 A31 c32)) rfl (B325.part (n:=3) rfl)) ?_
 refine o_w (v:=.agg #[str ([98]:Str),.int .i64 3,.int .i64 0,.int .i64 0,.bool false,str [],.slice none ([]:List Int).length 0,.slice none ([]:List Int).length 0,.int .u64 1]) (r_lda agg_api_Entry rfl (vs:=[str ([98]:Str),.int .i64 3,.int .i64 0,.int .i64 0,.bool false,str [],.slice none ([]:List Int).length 0,.slice none ([]:List Int).length 0,.int .u64 1]) rfl (B322.part (n:=9) rfl)) ?_
 refine o_w (v:=.agg #[str ([97]:Str),.int .i64 3,.int .i64 0,.int .i64 0,.bool false,str [],.slice none ([]:List Int).length 0,.slice none ([]:List Int).length 0,.int .u64 2]) (r_lda agg_api_Entry rfl (vs:=[str ([97]:Str),.int .i64 3,.int .i64 0,.int .i64 0,.bool false,str [],.slice none ([]:List Int).length 0,.slice none ([]:List Int).length 0,.int .u64 2]) rfl (B323.part (n:=9) rfl)) ?_
 refine o_w (v:=.agg #[str ([98]:Str),.int .i64 3,.int .i64 0,.int .i64 0,.bool false,str [],.slice none ([]:List Int).length 0,.slice none ([]:List Int).length 0,.int .u64 3]) (r_lda agg_api_Entry rfl (vs:=[str ([98]:Str),.int .i64 3,.int .i64 0,.int .i64 0,.bool false,str [],.slice none ([]:List Int).length 0,.slice none ([]:List Int).length 0,.int .u64 3]) rfl (B324.part (n:=9) rfl)) ?_
 refine o_w (v:=.agg #[str [],.int .i64 0,.int .i64 0,.int .i64 0,.bool false,str [],.slice none ([]:List Int).length 0,.slice none ([]:List Int).length 0,.int .u64 0]) (r_build bld_api_Entry (vs:=[]) (cells:=[str [],.int .i64 0,.int .i64 0,.int .i64 0,.bool false,str [],.slice none ([]:List Int).length 0,.slice none ([]:List Int).length 0,.int .u64 0]) rfl rfl) ?_
 refine o_bslice slc_s_api_Entry rfl (vs:=[.agg #[str ([98]:Str),.int .i64 3,.int .i64 0,.int .i64 0,.bool false,str [],.slice none ([]:List Int).length 0,.slice none ([]:List Int).length 0,.int .u64 1],.agg #[str ([97]:Str),.int .i64 3,.int .i64 0,.int .i64 0,.bool false,str [],.slice none ([]:List Int).length 0,.slice none ([]:List Int).length 0,.int .u64 2],.agg #[str ([98]:Str),.int .i64 3,.int .i64 0,.int .i64 0,.bool false,str [],.slice none ([]:List Int).length 0,.slice none ([]:List Int).length 0,.int .u64 3],.agg #[str [],.int .i64 0,.int .i64 0,.int .i64 0,.bool false,str [],.slice none ([]:List Int).length 0,.slice none ([]:List Int).length 0,.int .u64 0]]) rfl rfl rfl (cs:=[str ([98]:Str),.int .i64 3,.int .i64 0,.int .i64 0,.bool false,str [],.slice none ([]:List Int).length 0,.slice none ([]:List Int).length 0,.int .u64 1,str ([97]:Str),.int .i64 3,.int .i64 0,.int .i64 0,.bool false,str [],.slice none ([]:List Int).length 0,.slice none ([]:List Int).length 0,.int .u64 2,str ([98]:Str),.int .i64 3,.int .i64 0,.int .i64 0,.bool false,str [],.slice none ([]:List Int).length 0,.slice none ([]:List Int).length 0,.int .u64 3,str [],.int .i64 0,.int .i64 0,.int .i64 0,.bool false,str [],.slice none ([]:List Int).length 0,.slice none ([]:List Int).length 0,.int .u64 0]) rfl rfl rfl rfl ?_
 intro b330 w330 e330 F330 B330
 have N330:=nin ((((((((((hL.fr E315).cons B322.lt).cons B323.lt).cons B324.lt).cons B325.lt).cons B326.lt).cons B327.lt).cons B328.lt).cons B329.lt).cons B314'.lt) e330
 have S330:=B330.stb N330
 have E331:=E315.trans F330
 have H348:Stb (b284::(b218::(b160::(b110::(b68::(b34::(b11::(b4::(b1::L))))))))) w330 (fun w=>SlC kEnt w (some ⟨b330,0,none⟩) 4 ([(⟨([98]:Str),(⟨(3:Int),(0:Int),(0:Int),false,([]:Str),([]:List Int),([]:List Int),(1:Int)⟩:Val)⟩:Ent),(⟨([97]:Str),(⟨(3:Int),(0:Int),(0:Int),false,([]:Str),([]:List Int),([]:List Int),(2:Int)⟩:Val)⟩:Ent),(⟨([98]:Str),(⟨(3:Int),(0:Int),(0:Int),false,([]:Str),([]:List Int),([]:List Int),(3:Int)⟩:Val)⟩:Ent),(⟨([]:Str),(⟨(0:Int),(0:Int),(0:Int),false,([]:Str),([]:List Int),([]:List Int),(0:Int)⟩:Val)⟩:Ent)]:List Ent)):=bs_seal S330.now N330 rfl (rowd_cons (cs:=[str ([98]:Str),.int .i64 3,.int .i64 0,.int .i64 0,.bool false,str [],.slice none ([]:List Int).length 0,.slice none ([]:List Int).length 0,.int .u64 1]) (kEnt_mk (d:=(⟨([98]:Str),(⟨(3:Int),(0:Int),(0:Int),false,([]:Str),([]:List Int),([]:List Int),(1:Int)⟩:Val)⟩:Ent)) stb_nil stb_nil) rfl (rowd_cons (cs:=[str ([97]:Str),.int .i64 3,.int .i64 0,.int .i64 0,.bool false,str [],.slice none ([]:List Int).length 0,.slice none ([]:List Int).length 0,.int .u64 2]) (kEnt_mk (d:=(⟨([97]:Str),(⟨(3:Int),(0:Int),(0:Int),false,([]:Str),([]:List Int),([]:List Int),(2:Int)⟩:Val)⟩:Ent)) stb_nil stb_nil) rfl (rowd_cons (cs:=[str ([98]:Str),.int .i64 3,.int .i64 0,.int .i64 0,.bool false,str [],.slice none ([]:List Int).length 0,.slice none ([]:List Int).length 0,.int .u64 3]) (kEnt_mk (d:=(⟨([98]:Str),(⟨(3:Int),(0:Int),(0:Int),false,([]:Str),([]:List Int),([]:List Int),(3:Int)⟩:Val)⟩:Ent)) stb_nil stb_nil) rfl (rowd1 (cs:=[str [],.int .i64 0,.int .i64 0,.int .i64 0,.bool false,str [],.slice none ([]:List Int).length 0,.slice none ([]:List Int).length 0,.int .u64 0]) (kEnt_mk (d:=(⟨([]:Str),(⟨(0:Int),(0:Int),(0:Int),false,([]:Str),([]:List Int),([]:List Int),(0:Int)⟩:Val)⟩:Ent)) stb_nil stb_nil) rfl))))
 obtain ⟨ha349,h⟩:=h
 obtain ⟨ha350,h⟩:=h
 obtain ⟨ha351,h⟩:=h
 obtain ⟨x347,hx347,h⟩:=h
 refine o_call cf_arena_Merge rfl (arena_Merge_c x21.1 (kArena_mk (d:=x21.1) (H30.up (G316.trans (Fr.ext F330)) sI (upc (.inr m293) (upc (.inr m226) (upc (.inr m167) (upc (.inr m116) (upc (.inr m73) (upc (.inr m38) (upc (.inl mH) (upc (.inl (mT mH)) (upc (.inl (mT (mT mH))) (fun m hm=>Or.inl (mT (mT (mT hm)))))))))))))) (H33.up (G316.trans (Fr.ext F330)) sI (upc (.inr m293) (upc (.inr m226) (upc (.inr m167) (upc (.inr m116) (upc (.inr m73) (upc (.inr m38) (upc (.inl mH) (upc (.inl (mT mH)) (upc (.inl (mT (mT mH))) (fun m hm=>Or.inl (mT (mT (mT hm))))))))))))))) ([(⟨([98]:Str),(⟨(3:Int),(0:Int),(0:Int),false,([]:Str),([]:List Int),([]:List Int),(1:Int)⟩:Val)⟩:Ent),(⟨([97]:Str),(⟨(3:Int),(0:Int),(0:Int),false,([]:Str),([]:List Int),([]:List Int),(2:Int)⟩:Val)⟩:Ent),(⟨([98]:Str),(⟨(3:Int),(0:Int),(0:Int),false,([]:Str),([]:List Int),([]:List Int),(3:Int)⟩:Val)⟩:Ent),(⟨([]:Str),(⟨(0:Int),(0:Int),(0:Int),false,([]:Str),([]:List Int),([]:List Int),(0:Int)⟩:Val)⟩:Ent)]:List Ent) H348 ((((((((((hL.fr E331).cons (B322.ex F330).lt).cons (B323.ex F330).lt).cons (B324.ex F330).lt).cons (B325.ex F330).lt).cons (B326.ex F330).lt).cons (B327.ex F330).lt).cons (B328.ex F330).lt).cons (B329.ex F330).lt).cons (B314'.ex F330).lt) (eq_ev hx347 (arMerge_ev x21.1 ([(⟨([98]:Str),(⟨(3:Int),(0:Int),(0:Int),false,([]:Str),([]:List Int),([]:List Int),(1:Int)⟩:Val)⟩:Ent),(⟨([97]:Str),(⟨(3:Int),(0:Int),(0:Int),false,([]:Str),([]:List Int),([]:List Int),(2:Int)⟩:Val)⟩:Ent),(⟨([98]:Str),(⟨(3:Int),(0:Int),(0:Int),false,([]:Str),([]:List Int),([]:List Int),(3:Int)⟩:Val)⟩:Ent),(⟨([]:Str),(⟨(0:Int),(0:Int),(0:Int),false,([]:Str),([]:List Int),([]:List Int),(0:Int)⟩:Val)⟩:Ent)]:List Ent) ha349 ha350 ha351))) rfl rfl ?_
 rintro _ w347 ⟨F347,cs352,rfl,H353⟩
 have E354:=E331.trans F347
 obtain ⟨A371,c372,A374,c375,rfl,H373,H376⟩:=kArena_open H353
 refine o_w (v:=.tuple #[.agg (cArena x347.1 A371 c372 A374 c375).toArray,.int .i64 x347.2.1,.int .i64 x347.2.2]) (r_mov rfl) ?_
 refine o_w (v:=.agg (cArena x347.1 A371 c372 A374 c375).toArray) (r_ext rfl rfl) ?_
 refine o_w (v:=.int .i64 x347.2.1) (r_ext rfl rfl) ?_
 refine o_w (v:=.int .i64 x347.2.2) (r_ext rfl rfl) ?_
 refine o_alloc zero_api_Arena rfl rfl rfl ?_
 intro b377 w377 e377 F377 B377
 have n377:w.heap.size≤b377:=by rw [e377]; exact E354.size
 have q378:b1<b377:=by rw [e377]; exact ((B322.ex F330).ex F347).lt
 have q379:b4<b377:=by rw [e377]; exact ((B323.ex F330).ex F347).lt
 have q380:b11<b377:=by rw [e377]; exact ((B324.ex F330).ex F347).lt
 have q381:b34<b377:=by rw [e377]; exact ((B325.ex F330).ex F347).lt
 have q382:b68<b377:=by rw [e377]; exact ((B326.ex F330).ex F347).lt
 have q383:b110<b377:=by rw [e377]; exact ((B327.ex F330).ex F347).lt
 have q384:b160<b377:=by rw [e377]; exact ((B328.ex F330).ex F347).lt
 have q385:b218<b377:=by rw [e377]; exact ((B329.ex F330).ex F347).lt
 have q386:b284<b377:=by rw [e377]; exact ((B314'.ex F330).ex F347).lt
 have m387:w21.heap.size≤b377:=by rw [e377]; exact ((G316.trans (Fr.ext F330)).trans (Fr.ext F347)).size
 have m388:w50.heap.size≤b377:=by rw [e377]; exact ((G317.trans (Fr.ext F330)).trans (Fr.ext F347)).size
 have m390:w138.heap.size≤b377:=by rw [e377]; exact ((G319.trans (Fr.ext F330)).trans (Fr.ext F347)).size
 have m394:w347.heap.size≤b377:=Nat.le_of_eq e377.symm
 have E395:=E354.trans F377
 have G396:=((G316.trans (Fr.ext F330)).trans (Fr.ext F347)).trans (Fr.ext F377)
 have G397:=((G317.trans (Fr.ext F330)).trans (Fr.ext F347)).trans (Fr.ext F377)
 have G399:=((G319.trans (Fr.ext F330)).trans (Fr.ext F347)).trans (Fr.ext F377)
 have G403:Fr (b284::(b218::(b160::(b110::(b68::(b34::(b11::(b4::(b1::L))))))))) w347 w377:=Fr.ext F377
 refine o_store rfl B377 (vs:=(cArena x347.1 A371 c372 A374 c375)) rfl sz_api_Arena rfl rfl rfl ?_
 intro w413 F413 B413
 have E414:=Ext.st E395 F413 (by simp; omega)
 have G415:Fr (b11::(b4::(b1::L))) w21 w413:=G396.stp F413 (upc (.inr m387) (fun m hm=>by cases hm))
 have G416:Fr (b34::(b11::(b4::(b1::L)))) w50 w413:=G397.stp F413 (upc (.inr m388) (fun m hm=>by cases hm))
 have G418:Fr (b110::(b68::(b34::(b11::(b4::(b1::L)))))) w138 w413:=G399.stp F413 (upc (.inr m390) (fun m hm=>by cases hm))
 have G422:Fr (b284::(b218::(b160::(b110::(b68::(b34::(b11::(b4::(b1::L))))))))) w347 w413:=G403.stp F413 (upc (.inr m394) (fun m hm=>by cases hm))
 have B423:=(((B322.ex F330).ex F347).ex F377).fr F413 (by simp; omega)
 have B424:=(((B323.ex F330).ex F347).ex F377).fr F413 (by simp; omega)
 have B425:=(((B324.ex F330).ex F347).ex F377).fr F413 (by simp; omega)
 have B426:=(((B325.ex F330).ex F347).ex F377).fr F413 (by simp; omega)
 have B427:=(((B326.ex F330).ex F347).ex F377).fr F413 (by simp; omega)
 have B428:=(((B327.ex F330).ex F347).ex F377).fr F413 (by simp; omega)
 have B429:=(((B328.ex F330).ex F347).ex F377).fr F413 (by simp; omega)
 have B430:=(((B329.ex F330).ex F347).ex F377).fr F413 (by simp; omega)
 have B431:=(((B314'.ex F330).ex F347).ex F377).fr F413 (by simp; omega)
 have B413':Blk w413 b377 _ (cArena x347.1 A371 c372 A374 c375):=B413
 refine o_w (v:=.int .i64 x347.2.1) (r_asg rfl) ?_
 refine o_w (v:=.int .i64 x347.2.2) (r_asg rfl) ?_
 refine eo_r ?_
 refine o_w (v:=.agg (cArena x138.1 A154 c155 A157 c158).toArray) (r_lda agg_api_Arena rfl (vs:=(cArena x138.1 A154 c155 A157 c158)) rfl (B429.part (n:=3) rfl)) ?_
 obtain ⟨ha433,h⟩:=h
 obtain ⟨x432,hx432,h⟩:=h
 refine o_call cf_arena_All rfl (arena_All_c x138.1 (kArena_mk (d:=x138.1) (H156.up G418 sI (upc (.inr m390) (upc (.inr m296) (upc (.inr m229) (upc (.inr m170) (upc (.inl mH) (upc (.inl (mT mH)) (upc (.inl (mT (mT mH))) (upc (.inl (mT (mT (mT mH)))) (upc (.inl (mT (mT (mT (mT mH))))) (upc (.inl (mT (mT (mT (mT (mT mH)))))) (fun m hm=>Or.inl (mT (mT (mT (mT (mT (mT hm)))))))))))))))))) (H159.up G418 sI (upc (.inr m390) (upc (.inr m296) (upc (.inr m229) (upc (.inr m170) (upc (.inl mH) (upc (.inl (mT mH)) (upc (.inl (mT (mT mH))) (upc (.inl (mT (mT (mT mH)))) (upc (.inl (mT (mT (mT (mT mH))))) (upc (.inl (mT (mT (mT (mT (mT mH)))))) (fun m hm=>Or.inl (mT (mT (mT (mT (mT (mT hm))))))))))))))))))) (((((((((((hL.fr E414).cons B423.lt).cons B424.lt).cons B425.lt).cons B426.lt).cons B427.lt).cons B428.lt).cons B429.lt).cons B430.lt).cons B431.lt).cons B413'.lt) (eq_ev hx432 (arAll_ev x138.1 ha433))) rfl rfl ?_
 rintro _ w432 ⟨F432,A434,c435,rfl,H436⟩
 have E437:=E414.trans F432
 refine o_w (v:=.slice A434 x432.length c435) (r_asg rfl) ?_
 refine eo_nil_sq ?_
 refine ec_seq ?_
 refine ec_sr ?_
 refine o_w (v:=.slice A434 x432.length c435) (r_mov rfl) ?_
 refine o_w (v:=.int .i64 (x432.length:Int)) (r_len_slc un_s_api_Entry rfl) ?_
 refine o_w (v:=.bool ((x432.length:Int) != (2:Int))) (r_int rfl rfl rfl) ?_
 refine o_w (v:=.bool ((x432.length:Int) != (2:Int))) (r_mov rfl) ?_
 refine o_vg (v:=.pointer (some ⟨b160,1,none⟩)) (want_cf (t:=88) rfl rfl) (fun hk=>(r_fa fld_api_Arena_1 rfl rfl)) rfl rfl ?_
 refine o_vg (v:=.slice A154 x138.1.slots.length c155) (want_cf (t:=88) rfl rfl) (fun hk=>(r_ld one_s_api_Entry (gdT hk) ((B429.ex F432).cell rfl))) rfl rfl ?_
 refine o_vg (v:=.int .i64 (x138.1.slots.length:Int)) (want_cf (t:=88) rfl rfl) (fun hk=>(r_len_slc un_s_api_Entry (gdT hk))) rfl rfl ?_
 refine o_vg (v:=.bool ((x138.1.slots.length:Int) != (2:Int))) (want_cf (t:=88) rfl rfl) (fun hk=>(r_int (gdT hk) rfl rfl)) rfl rfl ?_
 refine o_w (v:=.bool (((x432.length:Int) != (2:Int))||((x138.1.slots.length:Int) != (2:Int)))) (r_pickOr rfl rfl (fun hf=>(gdT (notT hf)))) ?_
 refine eo_nil_sq ?_
 refine ec_cond rfl (fun hc456=>?_) (fun hc456=>?_)
 ·replace h:=h.1 hc456
  refine ec_sr ?_
  refine o_w (v:=.bool false) (r_asg rfl) ?_
  refine eo_nil_sq ?_
  refine ec_ret ?_
  refine sq_ret ?_
  subst h
  exact (end1 rfl ⟨_,rfl,E437,rfl⟩)
 ·replace h:=h.2 hc456
  refine ec_skip ?_
  refine sq_n ?_
  refine ec_sr ?_
  refine o_w (v:=.int .i64 x21.2) (r_mov rfl) ?_
  refine o_w (v:=.bool (x21.2==0)) (r_int rfl rfl rfl) ?_
  refine o_w (v:=.bool (x21.2==0)) (r_mov rfl) ?_
  rcases Bool.eq_false_or_eq_true (x21.2==0) with hc468 | hc468
  ·replace h:=h.1 hc468
   refine o_v (v:=.bool x50.2.1) (r_mov rfl) (want_t (t:=96) rfl rfl hc468) rfl rfl ?_
   refine o_w (v:=.bool x50.2.1) (r_pickT rfl hc468 rfl) ?_
   refine o_w (v:=.bool x50.2.1) (r_mov rfl) ?_
   rcases Bool.eq_false_or_eq_true x50.2.1 with hc469 | hc469
   ·replace h:=h.1 hc469
    refine o_v (v:=.int .i64 x50.2.2) (r_mov rfl) (want_t (t:=99) rfl rfl hc469) rfl rfl ?_
    refine o_v (v:=.bool (x50.2.2==0)) (r_int rfl rfl rfl) (want_t (t:=99) rfl rfl hc469) rfl rfl ?_
    refine o_w (v:=.bool (x50.2.2==0)) (r_pickT rfl hc469 rfl) ?_
    refine o_w (v:=.bool (x50.2.2==0)) (r_mov rfl) ?_
    rcases Bool.eq_false_or_eq_true (x50.2.2==0) with hc470 | hc470
    ·replace h:=h.1 hc470
     refine o_v (v:=.bool x90.2.1) (r_mov rfl) (want_t (t:=103) rfl rfl hc470) rfl rfl ?_
     refine o_w (v:=.bool x90.2.1) (r_pickT rfl hc470 rfl) ?_
     refine o_w (v:=.bool x90.2.1) (r_mov rfl) ?_
     rcases Bool.eq_false_or_eq_true x90.2.1 with hc471 | hc471
     ·replace h:=h.1 hc471
      refine o_v (v:=.int .i64 x90.2.2) (r_mov rfl) (want_t (t:=106) rfl rfl hc471) rfl rfl ?_
      refine o_v (v:=.bool (x90.2.2==0)) (r_int rfl rfl rfl) (want_t (t:=106) rfl rfl hc471) rfl rfl ?_
      refine o_w (v:=.bool (x90.2.2==0)) (r_pickT rfl hc471 rfl) ?_
      refine o_w (v:=.bool (x90.2.2==0)) (r_mov rfl) ?_
      rcases Bool.eq_false_or_eq_true (x90.2.2==0) with hc472 | hc472
      ·replace h:=h.1 hc472
       refine o_v (v:=.bool x138.2.1) (r_mov rfl) (want_t (t:=110) rfl rfl hc472) rfl rfl ?_
       refine o_w (v:=.bool x138.2.1) (r_pickT rfl hc472 rfl) ?_
       refine o_w (v:=.bool x138.2.1) (r_mov rfl) ?_
       rcases Bool.eq_false_or_eq_true x138.2.1 with hc473 | hc473
       ·replace h:=h.1 hc473
        refine o_v (v:=.int .i64 x138.2.2) (r_mov rfl) (want_t (t:=113) rfl rfl hc473) rfl rfl ?_
        refine o_v (v:=.bool (x138.2.2==0)) (r_int rfl rfl rfl) (want_t (t:=113) rfl rfl hc473) rfl rfl ?_
        refine o_w (v:=.bool (x138.2.2==0)) (r_pickT rfl hc473 rfl) ?_
        refine o_w (v:=.bool (x138.2.2==0)) (r_mov rfl) ?_
        rcases Bool.eq_false_or_eq_true (x138.2.2==0) with hc474 | hc474
        ·replace h:=h.1 hc474
         refine o_v (v:=.bool x194.2.1) (r_mov rfl) (want_t (t:=117) rfl rfl hc474) rfl rfl ?_
         refine o_v (v:=.bool (!x194.2.1)) (r_not rfl) (want_t (t:=117) rfl rfl hc474) rfl rfl ?_
         refine o_w (v:=.bool (!x194.2.1)) (r_pickT rfl hc474 rfl) ?_
         refine o_w (v:=.bool (!x194.2.1)) (r_mov rfl) ?_
         rcases Bool.eq_false_or_eq_true (!x194.2.1) with hc475 | hc475
         ·replace h:=h.1 hc475
          refine o_v (v:=.int .i64 x194.2.2) (r_mov rfl) (want_t (t:=121) rfl rfl hc475) rfl rfl ?_
          refine o_v (v:=.bool (x194.2.2==0)) (r_int rfl rfl rfl) (want_t (t:=121) rfl rfl hc475) rfl rfl ?_
          refine o_w (v:=.bool (x194.2.2==0)) (r_pickT rfl hc475 rfl) ?_
          refine o_w (v:=.bool (x194.2.2==0)) (r_mov rfl) ?_
          rcases Bool.eq_false_or_eq_true (x194.2.2==0) with hc476 | hc476
          ·replace h:=h.1 hc476
           refine o_v (v:=.bool x258.2.1) (r_mov rfl) (want_t (t:=125) rfl rfl hc476) rfl rfl ?_
           refine o_v (v:=.bool (!x258.2.1)) (r_not rfl) (want_t (t:=125) rfl rfl hc476) rfl rfl ?_
           refine o_w (v:=.bool (!x258.2.1)) (r_pickT rfl hc476 rfl) ?_
           refine o_w (v:=.bool (!x258.2.1)) (r_mov rfl) ?_
           rcases Bool.eq_false_or_eq_true (!x258.2.1) with hc477 | hc477
           ·replace h:=h.1 hc477
            refine o_v (v:=.int .i64 x258.2.2) (r_mov rfl) (want_t (t:=129) rfl rfl hc477) rfl rfl ?_
            refine o_v (v:=.bool (x258.2.2==4)) (r_int rfl rfl rfl) (want_t (t:=129) rfl rfl hc477) rfl rfl ?_
            refine o_w (v:=.bool (x258.2.2==4)) (r_pickT rfl hc477 rfl) ?_
            refine o_w (v:=.bool (x258.2.2==4)) (r_mov rfl) ?_
            rcases Bool.eq_false_or_eq_true (x258.2.2==4) with hc478 | hc478
            ·replace h:=h.1 hc478
             refine o_v (v:=.slice A434 x432.length c435) (r_mov rfl) (want_t (t:=133) rfl rfl hc478) rfl rfl ?_
             obtain ⟨ha479,h⟩:=h
             obtain ⟨cs480,l482,H481⟩:=Stb.elem (by decide) H436 (0:Int) ha479.1 ha479.2
             obtain ⟨A484,c485,A487,c488,rfl,H483,H486,H489⟩:=kEnt_open2 H481
             refine o_v (v:=.pointer (some (elemA A434 kEnt.n (0:Int).toNat))) (r_ia slc_s_api_Entry rfl rfl (H436.now.2 _ (lt_toNat ha479.1 ha479.2)).1 ha479.1 ha479.2) (want_t (t:=133) rfl rfl hc478) rfl rfl ?_
             refine o_v (v:=.pointer (some (ad (elemA A434 kEnt.n (0:Int).toNat) 0))) (r_fad fld_api_Entry_0 (elemA_spot _ _ _) rfl) (want_t (t:=133) rfl rfl hc478) rfl rfl ?_
             refine o_v (v:=str ((nth x432 (0:Int)).key)) (r_ld' one_string rfl rfl (H483.now.1.at (j:=0) rfl)) (want_t (t:=133) rfl rfl hc478) rfl rfl ?_
             refine o_v (v:=.bool (((nth x432 (0:Int)).key)==([97]:Str))) (r_str rfl rfl rfl) (want_t (t:=133) rfl rfl hc478) rfl rfl ?_
             refine o_w (v:=.bool (((nth x432 (0:Int)).key)==([97]:Str))) (r_pickT rfl hc478 rfl) ?_
             refine o_w (v:=.bool (((nth x432 (0:Int)).key)==([97]:Str))) (r_mov rfl) ?_
             rcases Bool.eq_false_or_eq_true (((nth x432 (0:Int)).key)==([97]:Str)) with hc490 | hc490
             ·replace h:=h.1 hc490
              refine o_v (v:=.pointer (some ⟨b160,1,none⟩)) (r_fa fld_api_Arena_1 rfl rfl) (want_t (t:=140) rfl rfl hc490) rfl rfl ?_
              refine o_v (v:=.slice A154 x138.1.slots.length c155) (r_ld one_s_api_Entry rfl ((B429.ex F432).cell rfl)) (want_t (t:=140) rfl rfl hc490) rfl rfl ?_
              obtain ⟨ha491,h⟩:=h
              obtain ⟨cs492,l494,H493⟩:=Stb.elem (by decide) (H156.up (G418.trans (Fr.ext F432)) sI (upc (.inr m390) (upc (.inr m296) (upc (.inr m229) (upc (.inr m170) (upc (.inl mH) (upc (.inl (mT mH)) (upc (.inl (mT (mT mH))) (upc (.inl (mT (mT (mT mH)))) (upc (.inl (mT (mT (mT (mT mH))))) (upc (.inl (mT (mT (mT (mT (mT mH)))))) (fun m hm=>Or.inl (mT (mT (mT (mT (mT (mT hm)))))))))))))))))) (0:Int) ha491.1 ha491.2
              obtain ⟨A496,c497,A499,c500,rfl,H495,H498,H501⟩:=kEnt_open2 H493
              refine o_v (v:=.pointer (some (elemA A154 kEnt.n (0:Int).toNat))) (r_ia slc_s_api_Entry rfl rfl ((H156.fr (G418.trans (Fr.ext F432)) sI).now.2 _ (lt_toNat ha491.1 ha491.2)).1 ha491.1 ha491.2) (want_t (t:=140) rfl rfl hc490) rfl rfl ?_
              refine o_v (v:=.pointer (some (ad (elemA A154 kEnt.n (0:Int).toNat) 1))) (r_fad fld_api_Entry_1 (elemA_spot _ _ _) rfl) (want_t (t:=140) rfl rfl hc490) rfl rfl ?_
              refine o_v (v:=.pointer (some (ad (elemA A154 kEnt.n (0:Int).toNat) 8))) (r_fad2 fld_api_Value_7 rfl rfl rfl) (want_t (t:=140) rfl rfl hc490) rfl rfl ?_
              refine o_v (v:=.int .u64 (((nth x138.1.slots (0:Int)).val).flags)) (r_ld' one_uint64 rfl rfl (H495.now.1.at (j:=8) rfl)) (want_t (t:=140) rfl rfl hc490) rfl rfl ?_
              refine o_v (v:=.bool ((((nth x138.1.slots (0:Int)).val).flags)==3)) (r_int rfl rfl rfl) (want_t (t:=140) rfl rfl hc490) rfl rfl ?_
              refine o_w (v:=.bool ((((nth x138.1.slots (0:Int)).val).flags)==3)) (r_pickT rfl hc490 rfl) ?_
              refine o_w (v:=.bool ((((nth x138.1.slots (0:Int)).val).flags)==3)) (r_mov rfl) ?_
              rcases Bool.eq_false_or_eq_true ((((nth x138.1.slots (0:Int)).val).flags)==3) with hc502 | hc502
              ·replace h:=h.1 hc502
               refine o_v (v:=.agg (cArena x138.1 A154 c155 A157 c158).toArray) (r_lda agg_api_Arena rfl (vs:=(cArena x138.1 A154 c155 A157 c158)) rfl ((B429.ex F432).part (n:=3) rfl)) (want_t (t:=149) rfl rfl hc502) rfl rfl ?_
               obtain ⟨ha504,h⟩:=h
               refine o_call cf_arena_Find rfl (arena_Find_c x138.1 (kArena_mk (d:=x138.1) (H156.up (G418.trans (Fr.ext F432)) sI (upc (.inr m390) (upc (.inr m296) (upc (.inr m229) (upc (.inr m170) (upc (.inl mH) (upc (.inl (mT mH)) (upc (.inl (mT (mT mH))) (upc (.inl (mT (mT (mT mH)))) (upc (.inl (mT (mT (mT (mT mH))))) (upc (.inl (mT (mT (mT (mT (mT mH)))))) (fun m hm=>Or.inl (mT (mT (mT (mT (mT (mT hm)))))))))))))))))) (H159.up (G418.trans (Fr.ext F432)) sI (upc (.inr m390) (upc (.inr m296) (upc (.inr m229) (upc (.inr m170) (upc (.inl mH) (upc (.inl (mT mH)) (upc (.inl (mT (mT mH))) (upc (.inl (mT (mT (mT mH)))) (upc (.inl (mT (mT (mT (mT mH))))) (upc (.inl (mT (mT (mT (mT (mT mH)))))) (fun m hm=>Or.inl (mT (mT (mT (mT (mT (mT hm))))))))))))))))))) (3:Int) ([97]:Str) (((((((((((hL.fr E437).cons (B423.ex F432).lt).cons (B424.ex F432).lt).cons (B425.ex F432).lt).cons (B426.ex F432).lt).cons (B427.ex F432).lt).cons (B428.ex F432).lt).cons (B429.ex F432).lt).cons (B430.ex F432).lt).cons (B431.ex F432).lt).cons (B413'.ex F432).lt) (arFind_ev x138.1 (3:Int) ([97]:Str) ha504)) (want_t (t:=149) rfl rfl hc502) rfl ?_
               rintro _ w503 ⟨F503,rfl⟩
               have E505:=E437.trans F503
               refine o_v (v:=.bool ((findA x138.1 (3:Int) ([97]:Str))==1)) (r_int rfl rfl rfl) (want_t (t:=149) rfl rfl hc502) rfl rfl ?_
               refine o_w (v:=.bool ((findA x138.1 (3:Int) ([97]:Str))==1)) (r_pickT rfl hc502 rfl) ?_
               refine o_w (v:=.bool ((findA x138.1 (3:Int) ([97]:Str))==1)) (r_mov rfl) ?_
               rcases Bool.eq_false_or_eq_true ((findA x138.1 (3:Int) ([97]:Str))==1) with hc525 | hc525
               ·replace h:=h.1 hc525
                refine o_v (v:=.agg (cArena x138.1 A154 c155 A157 c158).toArray) (r_lda agg_api_Arena rfl (vs:=(cArena x138.1 A154 c155 A157 c158)) rfl (((B429.ex F432).ex F503).part (n:=3) rfl)) (want_t (t:=154) rfl rfl hc525) rfl rfl ?_
                obtain ⟨ha527,h⟩:=h
                refine o_call cf_arena_Find rfl (arena_Find_c x138.1 (kArena_mk (d:=x138.1) (H156.up ((G418.trans (Fr.ext F432)).trans (Fr.ext F503)) sI (upc (.inr m390) (upc (.inr m296) (upc (.inr m229) (upc (.inr m170) (upc (.inl mH) (upc (.inl (mT mH)) (upc (.inl (mT (mT mH))) (upc (.inl (mT (mT (mT mH)))) (upc (.inl (mT (mT (mT (mT mH))))) (upc (.inl (mT (mT (mT (mT (mT mH)))))) (fun m hm=>Or.inl (mT (mT (mT (mT (mT (mT hm)))))))))))))))))) (H159.up ((G418.trans (Fr.ext F432)).trans (Fr.ext F503)) sI (upc (.inr m390) (upc (.inr m296) (upc (.inr m229) (upc (.inr m170) (upc (.inl mH) (upc (.inl (mT mH)) (upc (.inl (mT (mT mH))) (upc (.inl (mT (mT (mT mH)))) (upc (.inl (mT (mT (mT (mT mH))))) (upc (.inl (mT (mT (mT (mT (mT mH)))))) (fun m hm=>Or.inl (mT (mT (mT (mT (mT (mT hm))))))))))))))))))) (1:Int) ([97]:Str) (((((((((((hL.fr E505).cons ((B423.ex F432).ex F503).lt).cons ((B424.ex F432).ex F503).lt).cons ((B425.ex F432).ex F503).lt).cons ((B426.ex F432).ex F503).lt).cons ((B427.ex F432).ex F503).lt).cons ((B428.ex F432).ex F503).lt).cons ((B429.ex F432).ex F503).lt).cons ((B430.ex F432).ex F503).lt).cons ((B431.ex F432).ex F503).lt).cons ((B413'.ex F432).ex F503).lt) (arFind_ev x138.1 (1:Int) ([97]:Str) ha527)) (want_t (t:=154) rfl rfl hc525) rfl ?_
                rintro _ w526 ⟨F526,rfl⟩
                have E528:=E505.trans F526
                have G529:=((G415.trans (Fr.ext F432)).trans (Fr.ext F503)).trans (Fr.ext F526)
                have G530:=((G416.trans (Fr.ext F432)).trans (Fr.ext F503)).trans (Fr.ext F526)
                have G532:=((G418.trans (Fr.ext F432)).trans (Fr.ext F503)).trans (Fr.ext F526)
                have G536:=((G422.trans (Fr.ext F432)).trans (Fr.ext F503)).trans (Fr.ext F526)
                refine o_v (v:=.bool ((findA x138.1 (1:Int) ([97]:Str))==(-1:Int))) (r_int rfl rfl rfl) (want_t (t:=154) rfl rfl hc525) rfl rfl ?_
                refine o_w (v:=.bool ((findA x138.1 (1:Int) ([97]:Str))==(-1:Int))) (r_pickT rfl hc525 rfl) ?_
                refine o_w (v:=.bool ((findA x138.1 (1:Int) ([97]:Str))==(-1:Int))) (r_mov rfl) ?_
                rcases Bool.eq_false_or_eq_true ((findA x138.1 (1:Int) ([97]:Str))==(-1:Int)) with hc548 | hc548
                ·replace h:=h.1 hc548
                 refine o_v (v:=.int .i64 x347.2.1) (r_mov rfl) (want_t (t:=159) rfl rfl hc548) rfl rfl ?_
                 refine o_v (v:=.bool (x347.2.1==3)) (r_int rfl rfl rfl) (want_t (t:=159) rfl rfl hc548) rfl rfl ?_
                 refine o_w (v:=.bool (x347.2.1==3)) (r_pickT rfl hc548 rfl) ?_
                 refine o_w (v:=.bool (x347.2.1==3)) (r_mov rfl) ?_
                 rcases Bool.eq_false_or_eq_true (x347.2.1==3) with hc549 | hc549
                 ·replace h:=h.1 hc549
                  refine o_v (v:=.int .i64 x347.2.2) (r_mov rfl) (want_t (t:=163) rfl rfl hc549) rfl rfl ?_
                  refine o_v (v:=.bool (x347.2.2==1)) (r_int rfl rfl rfl) (want_t (t:=163) rfl rfl hc549) rfl rfl ?_
                  refine o_w (v:=.bool (x347.2.2==1)) (r_pickT rfl hc549 rfl) ?_
                  refine o_w (v:=.bool (x347.2.2==1)) (r_mov rfl) ?_
                  rcases Bool.eq_false_or_eq_true (x347.2.2==1) with hc550 | hc550
                  ·replace h:=h.1 hc550
                   refine o_v (v:=.agg (cArena x347.1 A371 c372 A374 c375).toArray) (r_lda agg_api_Arena rfl (vs:=(cArena x347.1 A371 c372 A374 c375)) rfl ((((B413'.ex F432).ex F503).ex F526).part (n:=3) rfl)) (want_t (t:=167) rfl rfl hc550) rfl rfl ?_
                   refine o_v (v:=.agg (cArena x138.1 A154 c155 A157 c158).toArray) (r_lda agg_api_Arena rfl (vs:=(cArena x138.1 A154 c155 A157 c158)) rfl ((((B429.ex F432).ex F503).ex F526).part (n:=3) rfl)) (want_t (t:=167) rfl rfl hc550) rfl rfl ?_
                   obtain ⟨ha552,h⟩:=h
                   refine o_call cf_arena_Same rfl (arena_Same_c x347.1 (kArena_mk (d:=x347.1) (H373.up G536 sI (upc (.inr m394) (upc (.inl mH) (upc (.inl (mT mH)) (upc (.inl (mT (mT mH))) (upc (.inl (mT (mT (mT mH)))) (upc (.inl (mT (mT (mT (mT mH))))) (upc (.inl (mT (mT (mT (mT (mT mH)))))) (upc (.inl (mT (mT (mT (mT (mT (mT mH))))))) (upc (.inl (mT (mT (mT (mT (mT (mT (mT mH)))))))) (upc (.inl (mT (mT (mT (mT (mT (mT (mT (mT mH))))))))) (fun m hm=>Or.inl (mT (mT (mT (mT (mT (mT (mT (mT (mT hm))))))))))))))))))))) (H376.up G536 sI (upc (.inr m394) (upc (.inl mH) (upc (.inl (mT mH)) (upc (.inl (mT (mT mH))) (upc (.inl (mT (mT (mT mH)))) (upc (.inl (mT (mT (mT (mT mH))))) (upc (.inl (mT (mT (mT (mT (mT mH)))))) (upc (.inl (mT (mT (mT (mT (mT (mT mH))))))) (upc (.inl (mT (mT (mT (mT (mT (mT (mT mH)))))))) (upc (.inl (mT (mT (mT (mT (mT (mT (mT (mT mH))))))))) (fun m hm=>Or.inl (mT (mT (mT (mT (mT (mT (mT (mT (mT hm)))))))))))))))))))))) x138.1 (kArena_mk (d:=x138.1) (H156.up G532 sI (upc (.inr m390) (upc (.inr m296) (upc (.inr m229) (upc (.inr m170) (upc (.inl mH) (upc (.inl (mT mH)) (upc (.inl (mT (mT mH))) (upc (.inl (mT (mT (mT mH)))) (upc (.inl (mT (mT (mT (mT mH))))) (upc (.inl (mT (mT (mT (mT (mT mH)))))) (fun m hm=>Or.inl (mT (mT (mT (mT (mT (mT hm)))))))))))))))))) (H159.up G532 sI (upc (.inr m390) (upc (.inr m296) (upc (.inr m229) (upc (.inr m170) (upc (.inl mH) (upc (.inl (mT mH)) (upc (.inl (mT (mT mH))) (upc (.inl (mT (mT (mT mH)))) (upc (.inl (mT (mT (mT (mT mH))))) (upc (.inl (mT (mT (mT (mT (mT mH)))))) (fun m hm=>Or.inl (mT (mT (mT (mT (mT (mT hm))))))))))))))))))) (((((((((((hL.fr E528).cons (((B423.ex F432).ex F503).ex F526).lt).cons (((B424.ex F432).ex F503).ex F526).lt).cons (((B425.ex F432).ex F503).ex F526).lt).cons (((B426.ex F432).ex F503).ex F526).lt).cons (((B427.ex F432).ex F503).ex F526).lt).cons (((B428.ex F432).ex F503).ex F526).lt).cons (((B429.ex F432).ex F503).ex F526).lt).cons (((B430.ex F432).ex F503).ex F526).lt).cons (((B431.ex F432).ex F503).ex F526).lt).cons (((B413'.ex F432).ex F503).ex F526).lt) (arSame_ev x347.1 x138.1 ha552)) (want_t (t:=167) rfl rfl hc550) rfl ?_
                   rintro _ w551 ⟨F551,rfl⟩
                   have E553:=E528.trans F551
                   refine o_w (v:=.bool (sameA x347.1 x138.1)) (r_pickT rfl hc550 rfl) ?_
                   refine o_w (v:=.bool (sameA x347.1 x138.1)) (r_mov rfl) ?_
                   rcases Bool.eq_false_or_eq_true (sameA x347.1 x138.1) with hc573 | hc573
                   ·replace h:=h.1 hc573
                    refine o_v (v:=.agg (cArena x50.1 A62 c63 A65 c66).toArray) (r_lda agg_api_Arena rfl (vs:=(cArena x50.1 A62 c63 A65 c66)) rfl (((((B427.ex F432).ex F503).ex F526).ex F551).part (n:=3) rfl)) (want_t (t:=172) rfl rfl hc573) rfl rfl ?_
                    refine o_v (v:=.agg (cArena x138.1 A154 c155 A157 c158).toArray) (r_lda agg_api_Arena rfl (vs:=(cArena x138.1 A154 c155 A157 c158)) rfl (((((B429.ex F432).ex F503).ex F526).ex F551).part (n:=3) rfl)) (want_t (t:=172) rfl rfl hc573) rfl rfl ?_
                    obtain ⟨ha575,h⟩:=h
                    obtain ⟨ha576,h⟩:=h
                    refine o_call cf_arena_Below rfl (arena_Below_c x50.1 (kArena_mk (d:=x50.1) (H64.up (G530.trans (Fr.ext F551)) sI (upc (.inr m388) (upc (.inr m294) (upc (.inr m227) (upc (.inr m168) (upc (.inr m117) (upc (.inr m74) (upc (.inl mH) (upc (.inl (mT mH)) (upc (.inl (mT (mT mH))) (upc (.inl (mT (mT (mT mH)))) (fun m hm=>Or.inl (mT (mT (mT (mT hm)))))))))))))))) (H67.up (G530.trans (Fr.ext F551)) sI (upc (.inr m388) (upc (.inr m294) (upc (.inr m227) (upc (.inr m168) (upc (.inr m117) (upc (.inr m74) (upc (.inl mH) (upc (.inl (mT mH)) (upc (.inl (mT (mT mH))) (upc (.inl (mT (mT (mT mH)))) (fun m hm=>Or.inl (mT (mT (mT (mT hm))))))))))))))))) x138.1 (kArena_mk (d:=x138.1) (H156.up (G532.trans (Fr.ext F551)) sI (upc (.inr m390) (upc (.inr m296) (upc (.inr m229) (upc (.inr m170) (upc (.inl mH) (upc (.inl (mT mH)) (upc (.inl (mT (mT mH))) (upc (.inl (mT (mT (mT mH)))) (upc (.inl (mT (mT (mT (mT mH))))) (upc (.inl (mT (mT (mT (mT (mT mH)))))) (fun m hm=>Or.inl (mT (mT (mT (mT (mT (mT hm)))))))))))))))))) (H159.up (G532.trans (Fr.ext F551)) sI (upc (.inr m390) (upc (.inr m296) (upc (.inr m229) (upc (.inr m170) (upc (.inl mH) (upc (.inl (mT mH)) (upc (.inl (mT (mT mH))) (upc (.inl (mT (mT (mT mH)))) (upc (.inl (mT (mT (mT (mT mH))))) (upc (.inl (mT (mT (mT (mT (mT mH)))))) (fun m hm=>Or.inl (mT (mT (mT (mT (mT (mT hm))))))))))))))))))) (((((((((((hL.fr E553).cons ((((B423.ex F432).ex F503).ex F526).ex F551).lt).cons ((((B424.ex F432).ex F503).ex F526).ex F551).lt).cons ((((B425.ex F432).ex F503).ex F526).ex F551).lt).cons ((((B426.ex F432).ex F503).ex F526).ex F551).lt).cons ((((B427.ex F432).ex F503).ex F526).ex F551).lt).cons ((((B428.ex F432).ex F503).ex F526).ex F551).lt).cons ((((B429.ex F432).ex F503).ex F526).ex F551).lt).cons ((((B430.ex F432).ex F503).ex F526).ex F551).lt).cons ((((B431.ex F432).ex F503).ex F526).ex F551).lt).cons ((((B413'.ex F432).ex F503).ex F526).ex F551).lt) (arBelow_ev x50.1 x138.1 ha575 ha576)) (want_t (t:=172) rfl rfl hc573) rfl ?_
                    rintro _ w574 ⟨F574,rfl⟩
                    have E577:=E553.trans F574
                    refine o_w (v:=.bool (belowA x50.1 x138.1)) (r_pickT rfl hc573 rfl) ?_
                    refine o_w (v:=.bool (belowA x50.1 x138.1)) (r_mov rfl) ?_
                    rcases Bool.eq_false_or_eq_true (belowA x50.1 x138.1) with hc597 | hc597
                    ·replace h:=h.1 hc597
                     refine o_v (v:=.agg (cArena x138.1 A154 c155 A157 c158).toArray) (r_lda agg_api_Arena rfl (vs:=(cArena x138.1 A154 c155 A157 c158)) rfl ((((((B429.ex F432).ex F503).ex F526).ex F551).ex F574).part (n:=3) rfl)) (want_t (t:=177) rfl rfl hc597) rfl rfl ?_
                     refine o_v (v:=.agg (cArena x50.1 A62 c63 A65 c66).toArray) (r_lda agg_api_Arena rfl (vs:=(cArena x50.1 A62 c63 A65 c66)) rfl ((((((B427.ex F432).ex F503).ex F526).ex F551).ex F574).part (n:=3) rfl)) (want_t (t:=177) rfl rfl hc597) rfl rfl ?_
                     obtain ⟨ha599,h⟩:=h
                     obtain ⟨ha600,h⟩:=h
                     refine o_call cf_arena_Below rfl (arena_Below_c x138.1 (kArena_mk (d:=x138.1) (H156.up ((G532.trans (Fr.ext F551)).trans (Fr.ext F574)) sI (upc (.inr m390) (upc (.inr m296) (upc (.inr m229) (upc (.inr m170) (upc (.inl mH) (upc (.inl (mT mH)) (upc (.inl (mT (mT mH))) (upc (.inl (mT (mT (mT mH)))) (upc (.inl (mT (mT (mT (mT mH))))) (upc (.inl (mT (mT (mT (mT (mT mH)))))) (fun m hm=>Or.inl (mT (mT (mT (mT (mT (mT hm)))))))))))))))))) (H159.up ((G532.trans (Fr.ext F551)).trans (Fr.ext F574)) sI (upc (.inr m390) (upc (.inr m296) (upc (.inr m229) (upc (.inr m170) (upc (.inl mH) (upc (.inl (mT mH)) (upc (.inl (mT (mT mH))) (upc (.inl (mT (mT (mT mH)))) (upc (.inl (mT (mT (mT (mT mH))))) (upc (.inl (mT (mT (mT (mT (mT mH)))))) (fun m hm=>Or.inl (mT (mT (mT (mT (mT (mT hm))))))))))))))))))) x50.1 (kArena_mk (d:=x50.1) (H64.up ((G530.trans (Fr.ext F551)).trans (Fr.ext F574)) sI (upc (.inr m388) (upc (.inr m294) (upc (.inr m227) (upc (.inr m168) (upc (.inr m117) (upc (.inr m74) (upc (.inl mH) (upc (.inl (mT mH)) (upc (.inl (mT (mT mH))) (upc (.inl (mT (mT (mT mH)))) (fun m hm=>Or.inl (mT (mT (mT (mT hm)))))))))))))))) (H67.up ((G530.trans (Fr.ext F551)).trans (Fr.ext F574)) sI (upc (.inr m388) (upc (.inr m294) (upc (.inr m227) (upc (.inr m168) (upc (.inr m117) (upc (.inr m74) (upc (.inl mH) (upc (.inl (mT mH)) (upc (.inl (mT (mT mH))) (upc (.inl (mT (mT (mT mH)))) (fun m hm=>Or.inl (mT (mT (mT (mT hm))))))))))))))))) (((((((((((hL.fr E577).cons (((((B423.ex F432).ex F503).ex F526).ex F551).ex F574).lt).cons (((((B424.ex F432).ex F503).ex F526).ex F551).ex F574).lt).cons (((((B425.ex F432).ex F503).ex F526).ex F551).ex F574).lt).cons (((((B426.ex F432).ex F503).ex F526).ex F551).ex F574).lt).cons (((((B427.ex F432).ex F503).ex F526).ex F551).ex F574).lt).cons (((((B428.ex F432).ex F503).ex F526).ex F551).ex F574).lt).cons (((((B429.ex F432).ex F503).ex F526).ex F551).ex F574).lt).cons (((((B430.ex F432).ex F503).ex F526).ex F551).ex F574).lt).cons (((((B431.ex F432).ex F503).ex F526).ex F551).ex F574).lt).cons (((((B413'.ex F432).ex F503).ex F526).ex F551).ex F574).lt) (arBelow_ev x138.1 x50.1 ha599 ha600)) (want_t (t:=177) rfl rfl hc597) rfl ?_
                     rintro _ w598 ⟨F598,rfl⟩
                     have E601:=E577.trans F598
                     have G602:=((G529.trans (Fr.ext F551)).trans (Fr.ext F574)).trans (Fr.ext F598)
                     have G603:=((G530.trans (Fr.ext F551)).trans (Fr.ext F574)).trans (Fr.ext F598)
                     have G605:=((G532.trans (Fr.ext F551)).trans (Fr.ext F574)).trans (Fr.ext F598)
                     have G609:=((G536.trans (Fr.ext F551)).trans (Fr.ext F574)).trans (Fr.ext F598)
                     refine o_v (v:=.bool (!(belowA x138.1 x50.1))) (r_not rfl) (want_t (t:=177) rfl rfl hc597) rfl rfl ?_
                     refine o_w (v:=.bool (!(belowA x138.1 x50.1))) (r_pickT rfl hc597 rfl) ?_
                     refine o_w (v:=.bool (!(belowA x138.1 x50.1))) (r_mov rfl) ?_
                     rcases Bool.eq_false_or_eq_true (!(belowA x138.1 x50.1)) with hc621 | hc621
                     ·replace h:=h.1 hc621
                      refine o_v (v:=.agg (cArena x138.1 A154 c155 A157 c158).toArray) (r_lda agg_api_Arena rfl (vs:=(cArena x138.1 A154 c155 A157 c158)) rfl (((((((B429.ex F432).ex F503).ex F526).ex F551).ex F574).ex F598).part (n:=3) rfl)) (want_t (t:=183) rfl rfl hc621) rfl rfl ?_
                      refine o_v (v:=.agg (cArena x347.1 A371 c372 A374 c375).toArray) (r_lda agg_api_Arena rfl (vs:=(cArena x347.1 A371 c372 A374 c375)) rfl (((((((B413'.ex F432).ex F503).ex F526).ex F551).ex F574).ex F598).part (n:=3) rfl)) (want_t (t:=183) rfl rfl hc621) rfl rfl ?_
                      obtain ⟨ha623,h⟩:=h
                      obtain ⟨ha624,h⟩:=h
                      refine o_call cf_arena_Alike rfl (arena_Alike_c x138.1 (kArena_mk (d:=x138.1) (H156.up G605 sI (upc (.inr m390) (upc (.inr m296) (upc (.inr m229) (upc (.inr m170) (upc (.inl mH) (upc (.inl (mT mH)) (upc (.inl (mT (mT mH))) (upc (.inl (mT (mT (mT mH)))) (upc (.inl (mT (mT (mT (mT mH))))) (upc (.inl (mT (mT (mT (mT (mT mH)))))) (fun m hm=>Or.inl (mT (mT (mT (mT (mT (mT hm)))))))))))))))))) (H159.up G605 sI (upc (.inr m390) (upc (.inr m296) (upc (.inr m229) (upc (.inr m170) (upc (.inl mH) (upc (.inl (mT mH)) (upc (.inl (mT (mT mH))) (upc (.inl (mT (mT (mT mH)))) (upc (.inl (mT (mT (mT (mT mH))))) (upc (.inl (mT (mT (mT (mT (mT mH)))))) (fun m hm=>Or.inl (mT (mT (mT (mT (mT (mT hm))))))))))))))))))) x347.1 (kArena_mk (d:=x347.1) (H373.up G609 sI (upc (.inr m394) (upc (.inl mH) (upc (.inl (mT mH)) (upc (.inl (mT (mT mH))) (upc (.inl (mT (mT (mT mH)))) (upc (.inl (mT (mT (mT (mT mH))))) (upc (.inl (mT (mT (mT (mT (mT mH)))))) (upc (.inl (mT (mT (mT (mT (mT (mT mH))))))) (upc (.inl (mT (mT (mT (mT (mT (mT (mT mH)))))))) (upc (.inl (mT (mT (mT (mT (mT (mT (mT (mT mH))))))))) (fun m hm=>Or.inl (mT (mT (mT (mT (mT (mT (mT (mT (mT hm))))))))))))))))))))) (H376.up G609 sI (upc (.inr m394) (upc (.inl mH) (upc (.inl (mT mH)) (upc (.inl (mT (mT mH))) (upc (.inl (mT (mT (mT mH)))) (upc (.inl (mT (mT (mT (mT mH))))) (upc (.inl (mT (mT (mT (mT (mT mH)))))) (upc (.inl (mT (mT (mT (mT (mT (mT mH))))))) (upc (.inl (mT (mT (mT (mT (mT (mT (mT mH)))))))) (upc (.inl (mT (mT (mT (mT (mT (mT (mT (mT mH))))))))) (fun m hm=>Or.inl (mT (mT (mT (mT (mT (mT (mT (mT (mT hm)))))))))))))))))))))) (((((((((((hL.fr E601).cons ((((((B423.ex F432).ex F503).ex F526).ex F551).ex F574).ex F598).lt).cons ((((((B424.ex F432).ex F503).ex F526).ex F551).ex F574).ex F598).lt).cons ((((((B425.ex F432).ex F503).ex F526).ex F551).ex F574).ex F598).lt).cons ((((((B426.ex F432).ex F503).ex F526).ex F551).ex F574).ex F598).lt).cons ((((((B427.ex F432).ex F503).ex F526).ex F551).ex F574).ex F598).lt).cons ((((((B428.ex F432).ex F503).ex F526).ex F551).ex F574).ex F598).lt).cons ((((((B429.ex F432).ex F503).ex F526).ex F551).ex F574).ex F598).lt).cons ((((((B430.ex F432).ex F503).ex F526).ex F551).ex F574).ex F598).lt).cons ((((((B431.ex F432).ex F503).ex F526).ex F551).ex F574).ex F598).lt).cons ((((((B413'.ex F432).ex F503).ex F526).ex F551).ex F574).ex F598).lt) (arAlike_ev x138.1 x347.1 ha623 ha624)) (want_t (t:=183) rfl rfl hc621) rfl ?_
                      rintro _ w622 ⟨F622,rfl⟩
                      have E625:=E601.trans F622
                      have B635:=((((((B423.ex F432).ex F503).ex F526).ex F551).ex F574).ex F598).ex F622
                      have B636:=((((((B424.ex F432).ex F503).ex F526).ex F551).ex F574).ex F598).ex F622
                      have B637:=((((((B425.ex F432).ex F503).ex F526).ex F551).ex F574).ex F598).ex F622
                      have B638:=((((((B426.ex F432).ex F503).ex F526).ex F551).ex F574).ex F598).ex F622
                      have B639:=((((((B427.ex F432).ex F503).ex F526).ex F551).ex F574).ex F598).ex F622
                      have B640:=((((((B428.ex F432).ex F503).ex F526).ex F551).ex F574).ex F598).ex F622
                      have B641:=((((((B429.ex F432).ex F503).ex F526).ex F551).ex F574).ex F598).ex F622
                      have B642:=((((((B430.ex F432).ex F503).ex F526).ex F551).ex F574).ex F598).ex F622
                      have B643:=((((((B431.ex F432).ex F503).ex F526).ex F551).ex F574).ex F598).ex F622
                      have B644:=((((((B413'.ex F432).ex F503).ex F526).ex F551).ex F574).ex F598).ex F622
                      refine o_w (v:=.bool (alikeA x138.1 x347.1)) (r_pickT rfl hc621 rfl) ?_
                      refine o_w (v:=.bool (alikeA x138.1 x347.1)) (r_mov rfl) ?_
                      rcases Bool.eq_false_or_eq_true (alikeA x138.1 x347.1) with hc645 | hc645
                      ·replace h:=h.1 hc645
                       refine o_v (v:=.agg (cArena x138.1 A154 c155 A157 c158).toArray) (r_lda agg_api_Arena rfl (vs:=(cArena x138.1 A154 c155 A157 c158)) rfl (B641.part (n:=3) rfl)) (want_t (t:=188) rfl rfl hc645) rfl rfl ?_
                       obtain ⟨ha647,h⟩:=h
                       obtain ⟨x646,hx646,h⟩:=h
                       refine o_call cf_arena_Chunk rfl (arena_Chunk_c x138.1 (kArena_mk (d:=x138.1) (H156.up (G605.trans (Fr.ext F622)) sI (upc (.inr m390) (upc (.inr m296) (upc (.inr m229) (upc (.inr m170) (upc (.inl mH) (upc (.inl (mT mH)) (upc (.inl (mT (mT mH))) (upc (.inl (mT (mT (mT mH)))) (upc (.inl (mT (mT (mT (mT mH))))) (upc (.inl (mT (mT (mT (mT (mT mH)))))) (fun m hm=>Or.inl (mT (mT (mT (mT (mT (mT hm)))))))))))))))))) (H159.up (G605.trans (Fr.ext F622)) sI (upc (.inr m390) (upc (.inr m296) (upc (.inr m229) (upc (.inr m170) (upc (.inl mH) (upc (.inl (mT mH)) (upc (.inl (mT (mT mH))) (upc (.inl (mT (mT (mT mH)))) (upc (.inl (mT (mT (mT (mT mH))))) (upc (.inl (mT (mT (mT (mT (mT mH)))))) (fun m hm=>Or.inl (mT (mT (mT (mT (mT (mT hm))))))))))))))))))) (1:Int) (9:Int) (((((((((((hL.fr E625).cons B635.lt).cons B636.lt).cons B637.lt).cons B638.lt).cons B639.lt).cons B640.lt).cons B641.lt).cons B642.lt).cons B643.lt).cons B644.lt) (eq_ev hx646 (arChunk_ev x138.1 (1:Int) (9:Int) ha647))) (want_t (t:=188) rfl rfl hc645) rfl ?_
                       rintro _ w646 ⟨F646,A648,c649,rfl,H650⟩
                       have E651:=E625.trans F646
                       refine o_v (v:=.int .i64 (x646.length:Int)) (r_len_slc un_s_api_Entry rfl) (want_t (t:=188) rfl rfl hc645) rfl rfl ?_
                       refine o_v (v:=.bool ((x646.length:Int)==1)) (r_int rfl rfl rfl) (want_t (t:=188) rfl rfl hc645) rfl rfl ?_
                       refine o_w (v:=.bool ((x646.length:Int)==1)) (r_pickT rfl hc645 rfl) ?_
                       refine o_w (v:=.bool ((x646.length:Int)==1)) (r_mov rfl) ?_
                       rcases Bool.eq_false_or_eq_true ((x646.length:Int)==1) with hc671 | hc671
                       ·replace h:=h.1 hc671
                        refine o_v (v:=.agg (cArena x138.1 A154 c155 A157 c158).toArray) (r_lda agg_api_Arena rfl (vs:=(cArena x138.1 A154 c155 A157 c158)) rfl ((B641.ex F646).part (n:=3) rfl)) (want_t (t:=194) rfl rfl hc671) rfl rfl ?_
                        obtain ⟨ha673,h⟩:=h
                        refine o_call cf_arena_Check rfl (arena_Check_c x138.1 (kArena_mk (d:=x138.1) (H156.up ((G605.trans (Fr.ext F622)).trans (Fr.ext F646)) sI (upc (.inr m390) (upc (.inr m296) (upc (.inr m229) (upc (.inr m170) (upc (.inl mH) (upc (.inl (mT mH)) (upc (.inl (mT (mT mH))) (upc (.inl (mT (mT (mT mH)))) (upc (.inl (mT (mT (mT (mT mH))))) (upc (.inl (mT (mT (mT (mT (mT mH)))))) (fun m hm=>Or.inl (mT (mT (mT (mT (mT (mT hm)))))))))))))))))) (H159.up ((G605.trans (Fr.ext F622)).trans (Fr.ext F646)) sI (upc (.inr m390) (upc (.inr m296) (upc (.inr m229) (upc (.inr m170) (upc (.inl mH) (upc (.inl (mT mH)) (upc (.inl (mT (mT mH))) (upc (.inl (mT (mT (mT mH)))) (upc (.inl (mT (mT (mT (mT mH))))) (upc (.inl (mT (mT (mT (mT (mT mH)))))) (fun m hm=>Or.inl (mT (mT (mT (mT (mT (mT hm))))))))))))))))))) (((((((((((hL.fr E651).cons (B635.ex F646).lt).cons (B636.ex F646).lt).cons (B637.ex F646).lt).cons (B638.ex F646).lt).cons (B639.ex F646).lt).cons (B640.ex F646).lt).cons (B641.ex F646).lt).cons (B642.ex F646).lt).cons (B643.ex F646).lt).cons (B644.ex F646).lt) (arCheck_ev x138.1 ha673)) (want_t (t:=194) rfl rfl hc671) rfl ?_
                        rintro _ w672 ⟨F672,rfl⟩
                        have E674:=E651.trans F672
                        have G675:=((G602.trans (Fr.ext F622)).trans (Fr.ext F646)).trans (Fr.ext F672)
                        have G676:=((G603.trans (Fr.ext F622)).trans (Fr.ext F646)).trans (Fr.ext F672)
                        refine o_v (v:=.bool ((checkA x138.1)==0)) (r_int rfl rfl rfl) (want_t (t:=194) rfl rfl hc671) rfl rfl ?_
                        refine o_w (v:=.bool ((checkA x138.1)==0)) (r_pickT rfl hc671 rfl) ?_
                        refine o_w (v:=.bool ((checkA x138.1)==0)) (r_mov rfl) ?_
                        rcases Bool.eq_false_or_eq_true ((checkA x138.1)==0) with hc695 | hc695
                        ·replace h:=h.1 hc695
                         refine o_v (v:=.agg #[.int .i64 0,.slice none ([]:List Ent).length 0,.slice none ([]:List Int).length 0]) (r_build bld_api_Arena (vs:=[]) (cells:=[.int .i64 0,.slice none ([]:List Ent).length 0,.slice none ([]:List Int).length 0]) rfl rfl) (want_t (t:=199) rfl rfl hc695) rfl rfl ?_
                         obtain ⟨ha697,h⟩:=h
                         obtain ⟨x696,hx696,h⟩:=h
                         refine o_call cf_arena_Check rfl (arena_Check_c (⟨(0:Int),([]:List Ent),([]:List Int)⟩:Arena) (kArena_mk (d:=(⟨(0:Int),([]:List Ent),([]:List Int)⟩:Arena)) stb_nil stb_nil) (((((((((((hL.fr E674).cons ((B635.ex F646).ex F672).lt).cons ((B636.ex F646).ex F672).lt).cons ((B637.ex F646).ex F672).lt).cons ((B638.ex F646).ex F672).lt).cons ((B639.ex F646).ex F672).lt).cons ((B640.ex F646).ex F672).lt).cons ((B641.ex F646).ex F672).lt).cons ((B642.ex F646).ex F672).lt).cons ((B643.ex F646).ex F672).lt).cons ((B644.ex F646).ex F672).lt) (eq_ev hx696 (arCheck_ev (⟨(0:Int),([]:List Ent),([]:List Int)⟩:Arena) ha697))) (want_t (t:=199) rfl rfl hc695) rfl ?_
                         rintro _ w696 ⟨F696,rfl⟩
                         have E698:=E674.trans F696
                         refine o_v (v:=.bool (x696==2)) (r_int rfl rfl rfl) (want_t (t:=199) rfl rfl hc695) rfl rfl ?_
                         refine o_w (v:=.bool (x696==2)) (r_pickT rfl hc695 rfl) ?_
                         refine o_w (v:=.bool (x696==2)) (r_mov rfl) ?_
                         rcases Bool.eq_false_or_eq_true (x696==2) with hc719 | hc719
                         ·replace h:=h.1 hc719
                          refine o_v (v:=.agg (cArena x21.1 A28 c29 A31 c32).toArray) (r_lda agg_api_Arena rfl (vs:=(cArena x21.1 A28 c29 A31 c32)) rfl ((((B638.ex F646).ex F672).ex F696).part (n:=3) rfl)) (want_t (t:=204) rfl rfl hc719) rfl rfl ?_
                          refine o_v (v:=.agg (cArena x50.1 A62 c63 A65 c66).toArray) (r_lda agg_api_Arena rfl (vs:=(cArena x50.1 A62 c63 A65 c66)) rfl ((((B639.ex F646).ex F672).ex F696).part (n:=3) rfl)) (want_t (t:=204) rfl rfl hc719) rfl rfl ?_
                          obtain ⟨ha721,h⟩:=h
                          refine o_call cf_arena_Same rfl (arena_Same_c x21.1 (kArena_mk (d:=x21.1) (H30.up (G675.trans (Fr.ext F696)) sI (upc (.inr m387) (upc (.inr m293) (upc (.inr m226) (upc (.inr m167) (upc (.inr m116) (upc (.inr m73) (upc (.inr m38) (upc (.inl mH) (upc (.inl (mT mH)) (upc (.inl (mT (mT mH))) (fun m hm=>Or.inl (mT (mT (mT hm))))))))))))))) (H33.up (G675.trans (Fr.ext F696)) sI (upc (.inr m387) (upc (.inr m293) (upc (.inr m226) (upc (.inr m167) (upc (.inr m116) (upc (.inr m73) (upc (.inr m38) (upc (.inl mH) (upc (.inl (mT mH)) (upc (.inl (mT (mT mH))) (fun m hm=>Or.inl (mT (mT (mT hm)))))))))))))))) x50.1 (kArena_mk (d:=x50.1) (H64.up (G676.trans (Fr.ext F696)) sI (upc (.inr m388) (upc (.inr m294) (upc (.inr m227) (upc (.inr m168) (upc (.inr m117) (upc (.inr m74) (upc (.inl mH) (upc (.inl (mT mH)) (upc (.inl (mT (mT mH))) (upc (.inl (mT (mT (mT mH)))) (fun m hm=>Or.inl (mT (mT (mT (mT hm)))))))))))))))) (H67.up (G676.trans (Fr.ext F696)) sI (upc (.inr m388) (upc (.inr m294) (upc (.inr m227) (upc (.inr m168) (upc (.inr m117) (upc (.inr m74) (upc (.inl mH) (upc (.inl (mT mH)) (upc (.inl (mT (mT mH))) (upc (.inl (mT (mT (mT mH)))) (fun m hm=>Or.inl (mT (mT (mT (mT hm))))))))))))))))) (((((((((((hL.fr E698).cons (((B635.ex F646).ex F672).ex F696).lt).cons (((B636.ex F646).ex F672).ex F696).lt).cons (((B637.ex F646).ex F672).ex F696).lt).cons (((B638.ex F646).ex F672).ex F696).lt).cons (((B639.ex F646).ex F672).ex F696).lt).cons (((B640.ex F646).ex F672).ex F696).lt).cons (((B641.ex F646).ex F672).ex F696).lt).cons (((B642.ex F646).ex F672).ex F696).lt).cons (((B643.ex F646).ex F672).ex F696).lt).cons (((B644.ex F646).ex F672).ex F696).lt) (arSame_ev x21.1 x50.1 ha721)) (want_t (t:=204) rfl rfl hc719) rfl ?_
                          rintro _ w720 ⟨F720,rfl⟩
                          have E722:=E698.trans F720
                          refine o_v (v:=.bool (!(sameA x21.1 x50.1))) (r_not rfl) (want_t (t:=204) rfl rfl hc719) rfl rfl ?_
                          refine o_w (v:=.bool (!(sameA x21.1 x50.1))) (r_pickT rfl hc719 rfl) ?_
                          refine o_w (v:=.bool (!(sameA x21.1 x50.1))) (r_asg rfl) ?_
                          refine eo_nil_sq ?_
                          refine ec_ret ?_
                          subst h
                          exact (end1 rfl ⟨_,rfl,E722,rfl⟩)
                         ·replace h:=h.2 hc719
                          iterate 4 refine o_no (want_f (t:=204) rfl rfl hc719) rfl ?_
                          refine o_w (v:=.bool false) (r_pickF rfl hc719 rfl) ?_
                          refine o_w (v:=.bool false) (r_asg rfl) ?_
                          refine eo_nil_sq ?_
                          refine ec_ret ?_
                          subst h
                          exact (end1 rfl ⟨_,rfl,E698,rfl⟩)
                        ·replace h:=h.2 hc695
                         iterate 3 refine o_no (want_f (t:=199) rfl rfl hc695) rfl ?_
                         refine o_w (v:=.bool false) (r_pickF rfl hc695 rfl) ?_
                         refine o_w (v:=.bool false) (r_mov rfl) ?_
                         iterate 4 refine o_no (want_f (t:=204) rfl rfl rfl) rfl ?_
                         refine o_w (v:=.bool false) (r_pickF rfl rfl rfl) ?_
                         refine o_w (v:=.bool false) (r_asg rfl) ?_
                         refine eo_nil_sq ?_
                         refine ec_ret ?_
                         subst h
                         exact (end1 rfl ⟨_,rfl,E674,rfl⟩)
                       ·replace h:=h.2 hc671
                        iterate 3 refine o_no (want_f (t:=194) rfl rfl hc671) rfl ?_
                        refine o_w (v:=.bool false) (r_pickF rfl hc671 rfl) ?_
                        refine o_w (v:=.bool false) (r_mov rfl) ?_
                        iterate 3 refine o_no (want_f (t:=199) rfl rfl rfl) rfl ?_
                        refine o_w (v:=.bool false) (r_pickF rfl rfl rfl) ?_
                        refine o_w (v:=.bool false) (r_mov rfl) ?_
                        iterate 4 refine o_no (want_f (t:=204) rfl rfl rfl) rfl ?_
                        refine o_w (v:=.bool false) (r_pickF rfl rfl rfl) ?_
                        refine o_w (v:=.bool false) (r_asg rfl) ?_
                        refine eo_nil_sq ?_
                        refine ec_ret ?_
                        subst h
                        exact (end1 rfl ⟨_,rfl,E651,rfl⟩)
                      ·replace h:=h.2 hc645
                       iterate 4 refine o_no (want_f (t:=188) rfl rfl hc645) rfl ?_
                       refine o_w (v:=.bool false) (r_pickF rfl hc645 rfl) ?_
                       refine o_w (v:=.bool false) (r_mov rfl) ?_
                       iterate 3 refine o_no (want_f (t:=194) rfl rfl rfl) rfl ?_
                       refine o_w (v:=.bool false) (r_pickF rfl rfl rfl) ?_
                       refine o_w (v:=.bool false) (r_mov rfl) ?_
                       iterate 3 refine o_no (want_f (t:=199) rfl rfl rfl) rfl ?_
                       refine o_w (v:=.bool false) (r_pickF rfl rfl rfl) ?_
                       refine o_w (v:=.bool false) (r_mov rfl) ?_
                       iterate 4 refine o_no (want_f (t:=204) rfl rfl rfl) rfl ?_
                       refine o_w (v:=.bool false) (r_pickF rfl rfl rfl) ?_
                       refine o_w (v:=.bool false) (r_asg rfl) ?_
                       refine eo_nil_sq ?_
                       refine ec_ret ?_
                       subst h
                       exact (end1 rfl ⟨_,rfl,E625,rfl⟩)
                     ·replace h:=h.2 hc621
                      iterate 3 refine o_no (want_f (t:=183) rfl rfl hc621) rfl ?_
                      refine o_w (v:=.bool false) (r_pickF rfl hc621 rfl) ?_
                      refine o_w (v:=.bool false) (r_mov rfl) ?_
                      iterate 4 refine o_no (want_f (t:=188) rfl rfl rfl) rfl ?_
                      refine o_w (v:=.bool false) (r_pickF rfl rfl rfl) ?_
                      refine o_w (v:=.bool false) (r_mov rfl) ?_
                      iterate 3 refine o_no (want_f (t:=194) rfl rfl rfl) rfl ?_
                      refine o_w (v:=.bool false) (r_pickF rfl rfl rfl) ?_
                      refine o_w (v:=.bool false) (r_mov rfl) ?_
                      iterate 3 refine o_no (want_f (t:=199) rfl rfl rfl) rfl ?_
                      refine o_w (v:=.bool false) (r_pickF rfl rfl rfl) ?_
                      refine o_w (v:=.bool false) (r_mov rfl) ?_
                      iterate 4 refine o_no (want_f (t:=204) rfl rfl rfl) rfl ?_
                      refine o_w (v:=.bool false) (r_pickF rfl rfl rfl) ?_
                      refine o_w (v:=.bool false) (r_asg rfl) ?_
                      refine eo_nil_sq ?_
                      refine ec_ret ?_
                      subst h
                      exact (end1 rfl ⟨_,rfl,E601,rfl⟩)
                    ·replace h:=h.2 hc597
                     iterate 4 refine o_no (want_f (t:=177) rfl rfl hc597) rfl ?_
                     refine o_w (v:=.bool false) (r_pickF rfl hc597 rfl) ?_
                     refine o_w (v:=.bool false) (r_mov rfl) ?_
                     iterate 3 refine o_no (want_f (t:=183) rfl rfl rfl) rfl ?_
                     refine o_w (v:=.bool false) (r_pickF rfl rfl rfl) ?_
                     refine o_w (v:=.bool false) (r_mov rfl) ?_
                     iterate 4 refine o_no (want_f (t:=188) rfl rfl rfl) rfl ?_
                     refine o_w (v:=.bool false) (r_pickF rfl rfl rfl) ?_
                     refine o_w (v:=.bool false) (r_mov rfl) ?_
                     iterate 3 refine o_no (want_f (t:=194) rfl rfl rfl) rfl ?_
                     refine o_w (v:=.bool false) (r_pickF rfl rfl rfl) ?_
                     refine o_w (v:=.bool false) (r_mov rfl) ?_
                     iterate 3 refine o_no (want_f (t:=199) rfl rfl rfl) rfl ?_
                     refine o_w (v:=.bool false) (r_pickF rfl rfl rfl) ?_
                     refine o_w (v:=.bool false) (r_mov rfl) ?_
                     iterate 4 refine o_no (want_f (t:=204) rfl rfl rfl) rfl ?_
                     refine o_w (v:=.bool false) (r_pickF rfl rfl rfl) ?_
                     refine o_w (v:=.bool false) (r_asg rfl) ?_
                     refine eo_nil_sq ?_
                     refine ec_ret ?_
                     subst h
                     exact (end1 rfl ⟨_,rfl,E577,rfl⟩)
                   ·replace h:=h.2 hc573
                    iterate 3 refine o_no (want_f (t:=172) rfl rfl hc573) rfl ?_
                    refine o_w (v:=.bool false) (r_pickF rfl hc573 rfl) ?_
                    refine o_w (v:=.bool false) (r_mov rfl) ?_
                    iterate 4 refine o_no (want_f (t:=177) rfl rfl rfl) rfl ?_
                    refine o_w (v:=.bool false) (r_pickF rfl rfl rfl) ?_
                    refine o_w (v:=.bool false) (r_mov rfl) ?_
                    iterate 3 refine o_no (want_f (t:=183) rfl rfl rfl) rfl ?_
                    refine o_w (v:=.bool false) (r_pickF rfl rfl rfl) ?_
                    refine o_w (v:=.bool false) (r_mov rfl) ?_
                    iterate 4 refine o_no (want_f (t:=188) rfl rfl rfl) rfl ?_
                    refine o_w (v:=.bool false) (r_pickF rfl rfl rfl) ?_
                    refine o_w (v:=.bool false) (r_mov rfl) ?_
                    iterate 3 refine o_no (want_f (t:=194) rfl rfl rfl) rfl ?_
                    refine o_w (v:=.bool false) (r_pickF rfl rfl rfl) ?_
                    refine o_w (v:=.bool false) (r_mov rfl) ?_
                    iterate 3 refine o_no (want_f (t:=199) rfl rfl rfl) rfl ?_
                    refine o_w (v:=.bool false) (r_pickF rfl rfl rfl) ?_
                    refine o_w (v:=.bool false) (r_mov rfl) ?_
                    iterate 4 refine o_no (want_f (t:=204) rfl rfl rfl) rfl ?_
                    refine o_w (v:=.bool false) (r_pickF rfl rfl rfl) ?_
                    refine o_w (v:=.bool false) (r_asg rfl) ?_
                    refine eo_nil_sq ?_
                    refine ec_ret ?_
                    subst h
                    exact (end1 rfl ⟨_,rfl,E553,rfl⟩)
                  ·replace h:=h.2 hc550
                   iterate 3 refine o_no (want_f (t:=167) rfl rfl hc550) rfl ?_
                   refine o_w (v:=.bool false) (r_pickF rfl hc550 rfl) ?_
                   refine o_w (v:=.bool false) (r_mov rfl) ?_
                   iterate 3 refine o_no (want_f (t:=172) rfl rfl rfl) rfl ?_
                   refine o_w (v:=.bool false) (r_pickF rfl rfl rfl) ?_
                   refine o_w (v:=.bool false) (r_mov rfl) ?_
                   iterate 4 refine o_no (want_f (t:=177) rfl rfl rfl) rfl ?_
                   refine o_w (v:=.bool false) (r_pickF rfl rfl rfl) ?_
                   refine o_w (v:=.bool false) (r_mov rfl) ?_
                   iterate 3 refine o_no (want_f (t:=183) rfl rfl rfl) rfl ?_
                   refine o_w (v:=.bool false) (r_pickF rfl rfl rfl) ?_
                   refine o_w (v:=.bool false) (r_mov rfl) ?_
                   iterate 4 refine o_no (want_f (t:=188) rfl rfl rfl) rfl ?_
                   refine o_w (v:=.bool false) (r_pickF rfl rfl rfl) ?_
                   refine o_w (v:=.bool false) (r_mov rfl) ?_
                   iterate 3 refine o_no (want_f (t:=194) rfl rfl rfl) rfl ?_
                   refine o_w (v:=.bool false) (r_pickF rfl rfl rfl) ?_
                   refine o_w (v:=.bool false) (r_mov rfl) ?_
                   iterate 3 refine o_no (want_f (t:=199) rfl rfl rfl) rfl ?_
                   refine o_w (v:=.bool false) (r_pickF rfl rfl rfl) ?_
                   refine o_w (v:=.bool false) (r_mov rfl) ?_
                   iterate 4 refine o_no (want_f (t:=204) rfl rfl rfl) rfl ?_
                   refine o_w (v:=.bool false) (r_pickF rfl rfl rfl) ?_
                   refine o_w (v:=.bool false) (r_asg rfl) ?_
                   refine eo_nil_sq ?_
                   refine ec_ret ?_
                   subst h
                   exact (end1 rfl ⟨_,rfl,E528,rfl⟩)
                 ·replace h:=h.2 hc549
                  iterate 2 refine o_no (want_f (t:=163) rfl rfl hc549) rfl ?_
                  refine o_w (v:=.bool false) (r_pickF rfl hc549 rfl) ?_
                  refine o_w (v:=.bool false) (r_mov rfl) ?_
                  iterate 3 refine o_no (want_f (t:=167) rfl rfl rfl) rfl ?_
                  refine o_w (v:=.bool false) (r_pickF rfl rfl rfl) ?_
                  refine o_w (v:=.bool false) (r_mov rfl) ?_
                  iterate 3 refine o_no (want_f (t:=172) rfl rfl rfl) rfl ?_
                  refine o_w (v:=.bool false) (r_pickF rfl rfl rfl) ?_
                  refine o_w (v:=.bool false) (r_mov rfl) ?_
                  iterate 4 refine o_no (want_f (t:=177) rfl rfl rfl) rfl ?_
                  refine o_w (v:=.bool false) (r_pickF rfl rfl rfl) ?_
                  refine o_w (v:=.bool false) (r_mov rfl) ?_
                  iterate 3 refine o_no (want_f (t:=183) rfl rfl rfl) rfl ?_
                  refine o_w (v:=.bool false) (r_pickF rfl rfl rfl) ?_
                  refine o_w (v:=.bool false) (r_mov rfl) ?_
                  iterate 4 refine o_no (want_f (t:=188) rfl rfl rfl) rfl ?_
                  refine o_w (v:=.bool false) (r_pickF rfl rfl rfl) ?_
                  refine o_w (v:=.bool false) (r_mov rfl) ?_
                  iterate 3 refine o_no (want_f (t:=194) rfl rfl rfl) rfl ?_
                  refine o_w (v:=.bool false) (r_pickF rfl rfl rfl) ?_
                  refine o_w (v:=.bool false) (r_mov rfl) ?_
                  iterate 3 refine o_no (want_f (t:=199) rfl rfl rfl) rfl ?_
                  refine o_w (v:=.bool false) (r_pickF rfl rfl rfl) ?_
                  refine o_w (v:=.bool false) (r_mov rfl) ?_
                  iterate 4 refine o_no (want_f (t:=204) rfl rfl rfl) rfl ?_
                  refine o_w (v:=.bool false) (r_pickF rfl rfl rfl) ?_
                  refine o_w (v:=.bool false) (r_asg rfl) ?_
                  refine eo_nil_sq ?_
                  refine ec_ret ?_
                  subst h
                  exact (end1 rfl ⟨_,rfl,E528,rfl⟩)
                ·replace h:=h.2 hc548
                 iterate 2 refine o_no (want_f (t:=159) rfl rfl hc548) rfl ?_
                 refine o_w (v:=.bool false) (r_pickF rfl hc548 rfl) ?_
                 refine o_w (v:=.bool false) (r_mov rfl) ?_
                 iterate 2 refine o_no (want_f (t:=163) rfl rfl rfl) rfl ?_
                 refine o_w (v:=.bool false) (r_pickF rfl rfl rfl) ?_
                 refine o_w (v:=.bool false) (r_mov rfl) ?_
                 iterate 3 refine o_no (want_f (t:=167) rfl rfl rfl) rfl ?_
                 refine o_w (v:=.bool false) (r_pickF rfl rfl rfl) ?_
                 refine o_w (v:=.bool false) (r_mov rfl) ?_
                 iterate 3 refine o_no (want_f (t:=172) rfl rfl rfl) rfl ?_
                 refine o_w (v:=.bool false) (r_pickF rfl rfl rfl) ?_
                 refine o_w (v:=.bool false) (r_mov rfl) ?_
                 iterate 4 refine o_no (want_f (t:=177) rfl rfl rfl) rfl ?_
                 refine o_w (v:=.bool false) (r_pickF rfl rfl rfl) ?_
                 refine o_w (v:=.bool false) (r_mov rfl) ?_
                 iterate 3 refine o_no (want_f (t:=183) rfl rfl rfl) rfl ?_
                 refine o_w (v:=.bool false) (r_pickF rfl rfl rfl) ?_
                 refine o_w (v:=.bool false) (r_mov rfl) ?_
                 iterate 4 refine o_no (want_f (t:=188) rfl rfl rfl) rfl ?_
                 refine o_w (v:=.bool false) (r_pickF rfl rfl rfl) ?_
                 refine o_w (v:=.bool false) (r_mov rfl) ?_
                 iterate 3 refine o_no (want_f (t:=194) rfl rfl rfl) rfl ?_
                 refine o_w (v:=.bool false) (r_pickF rfl rfl rfl) ?_
                 refine o_w (v:=.bool false) (r_mov rfl) ?_
                 iterate 3 refine o_no (want_f (t:=199) rfl rfl rfl) rfl ?_
                 refine o_w (v:=.bool false) (r_pickF rfl rfl rfl) ?_
                 refine o_w (v:=.bool false) (r_mov rfl) ?_
                 iterate 4 refine o_no (want_f (t:=204) rfl rfl rfl) rfl ?_
                 refine o_w (v:=.bool false) (r_pickF rfl rfl rfl) ?_
                 refine o_w (v:=.bool false) (r_asg rfl) ?_
                 refine eo_nil_sq ?_
                 refine ec_ret ?_
                 subst h
                 exact (end1 rfl ⟨_,rfl,E528,rfl⟩)
               ·replace h:=h.2 hc525
                iterate 3 refine o_no (want_f (t:=154) rfl rfl hc525) rfl ?_
                refine o_w (v:=.bool false) (r_pickF rfl hc525 rfl) ?_
                refine o_w (v:=.bool false) (r_mov rfl) ?_
                iterate 2 refine o_no (want_f (t:=159) rfl rfl rfl) rfl ?_
                refine o_w (v:=.bool false) (r_pickF rfl rfl rfl) ?_
                refine o_w (v:=.bool false) (r_mov rfl) ?_
                iterate 2 refine o_no (want_f (t:=163) rfl rfl rfl) rfl ?_
                refine o_w (v:=.bool false) (r_pickF rfl rfl rfl) ?_
                refine o_w (v:=.bool false) (r_mov rfl) ?_
                iterate 3 refine o_no (want_f (t:=167) rfl rfl rfl) rfl ?_
                refine o_w (v:=.bool false) (r_pickF rfl rfl rfl) ?_
                refine o_w (v:=.bool false) (r_mov rfl) ?_
                iterate 3 refine o_no (want_f (t:=172) rfl rfl rfl) rfl ?_
                refine o_w (v:=.bool false) (r_pickF rfl rfl rfl) ?_
                refine o_w (v:=.bool false) (r_mov rfl) ?_
                iterate 4 refine o_no (want_f (t:=177) rfl rfl rfl) rfl ?_
                refine o_w (v:=.bool false) (r_pickF rfl rfl rfl) ?_
                refine o_w (v:=.bool false) (r_mov rfl) ?_
                iterate 3 refine o_no (want_f (t:=183) rfl rfl rfl) rfl ?_
                refine o_w (v:=.bool false) (r_pickF rfl rfl rfl) ?_
                refine o_w (v:=.bool false) (r_mov rfl) ?_
                iterate 4 refine o_no (want_f (t:=188) rfl rfl rfl) rfl ?_
                refine o_w (v:=.bool false) (r_pickF rfl rfl rfl) ?_
                refine o_w (v:=.bool false) (r_mov rfl) ?_
                iterate 3 refine o_no (want_f (t:=194) rfl rfl rfl) rfl ?_
                refine o_w (v:=.bool false) (r_pickF rfl rfl rfl) ?_
                refine o_w (v:=.bool false) (r_mov rfl) ?_
                iterate 3 refine o_no (want_f (t:=199) rfl rfl rfl) rfl ?_
                refine o_w (v:=.bool false) (r_pickF rfl rfl rfl) ?_
                refine o_w (v:=.bool false) (r_mov rfl) ?_
                iterate 4 refine o_no (want_f (t:=204) rfl rfl rfl) rfl ?_
                refine o_w (v:=.bool false) (r_pickF rfl rfl rfl) ?_
                refine o_w (v:=.bool false) (r_asg rfl) ?_
                refine eo_nil_sq ?_
                refine ec_ret ?_
                subst h
                exact (end1 rfl ⟨_,rfl,E505,rfl⟩)
              ·replace h:=h.2 hc502
               iterate 3 refine o_no (want_f (t:=149) rfl rfl hc502) rfl ?_
               refine o_w (v:=.bool false) (r_pickF rfl hc502 rfl) ?_
               refine o_w (v:=.bool false) (r_mov rfl) ?_
               iterate 3 refine o_no (want_f (t:=154) rfl rfl rfl) rfl ?_
               refine o_w (v:=.bool false) (r_pickF rfl rfl rfl) ?_
               refine o_w (v:=.bool false) (r_mov rfl) ?_
               iterate 2 refine o_no (want_f (t:=159) rfl rfl rfl) rfl ?_
               refine o_w (v:=.bool false) (r_pickF rfl rfl rfl) ?_
               refine o_w (v:=.bool false) (r_mov rfl) ?_
               iterate 2 refine o_no (want_f (t:=163) rfl rfl rfl) rfl ?_
               refine o_w (v:=.bool false) (r_pickF rfl rfl rfl) ?_
               refine o_w (v:=.bool false) (r_mov rfl) ?_
               iterate 3 refine o_no (want_f (t:=167) rfl rfl rfl) rfl ?_
               refine o_w (v:=.bool false) (r_pickF rfl rfl rfl) ?_
               refine o_w (v:=.bool false) (r_mov rfl) ?_
               iterate 3 refine o_no (want_f (t:=172) rfl rfl rfl) rfl ?_
               refine o_w (v:=.bool false) (r_pickF rfl rfl rfl) ?_
               refine o_w (v:=.bool false) (r_mov rfl) ?_
               iterate 4 refine o_no (want_f (t:=177) rfl rfl rfl) rfl ?_
               refine o_w (v:=.bool false) (r_pickF rfl rfl rfl) ?_
               refine o_w (v:=.bool false) (r_mov rfl) ?_
               iterate 3 refine o_no (want_f (t:=183) rfl rfl rfl) rfl ?_
               refine o_w (v:=.bool false) (r_pickF rfl rfl rfl) ?_
               refine o_w (v:=.bool false) (r_mov rfl) ?_
               iterate 4 refine o_no (want_f (t:=188) rfl rfl rfl) rfl ?_
               refine o_w (v:=.bool false) (r_pickF rfl rfl rfl) ?_
               refine o_w (v:=.bool false) (r_mov rfl) ?_
               iterate 3 refine o_no (want_f (t:=194) rfl rfl rfl) rfl ?_
               refine o_w (v:=.bool false) (r_pickF rfl rfl rfl) ?_
               refine o_w (v:=.bool false) (r_mov rfl) ?_
               iterate 3 refine o_no (want_f (t:=199) rfl rfl rfl) rfl ?_
               refine o_w (v:=.bool false) (r_pickF rfl rfl rfl) ?_
               refine o_w (v:=.bool false) (r_mov rfl) ?_
               iterate 4 refine o_no (want_f (t:=204) rfl rfl rfl) rfl ?_
               refine o_w (v:=.bool false) (r_pickF rfl rfl rfl) ?_
               refine o_w (v:=.bool false) (r_asg rfl) ?_
               refine eo_nil_sq ?_
               refine ec_ret ?_
               subst h
               exact (end1 rfl ⟨_,rfl,E437,rfl⟩)
             ·replace h:=h.2 hc490
              iterate 7 refine o_no (want_f (t:=140) rfl rfl hc490) rfl ?_
              refine o_w (v:=.bool false) (r_pickF rfl hc490 rfl) ?_
              refine o_w (v:=.bool false) (r_mov rfl) ?_
              iterate 3 refine o_no (want_f (t:=149) rfl rfl rfl) rfl ?_
              refine o_w (v:=.bool false) (r_pickF rfl rfl rfl) ?_
              refine o_w (v:=.bool false) (r_mov rfl) ?_
              iterate 3 refine o_no (want_f (t:=154) rfl rfl rfl) rfl ?_
              refine o_w (v:=.bool false) (r_pickF rfl rfl rfl) ?_
              refine o_w (v:=.bool false) (r_mov rfl) ?_
              iterate 2 refine o_no (want_f (t:=159) rfl rfl rfl) rfl ?_
              refine o_w (v:=.bool false) (r_pickF rfl rfl rfl) ?_
              refine o_w (v:=.bool false) (r_mov rfl) ?_
              iterate 2 refine o_no (want_f (t:=163) rfl rfl rfl) rfl ?_
              refine o_w (v:=.bool false) (r_pickF rfl rfl rfl) ?_
              refine o_w (v:=.bool false) (r_mov rfl) ?_
              iterate 3 refine o_no (want_f (t:=167) rfl rfl rfl) rfl ?_
              refine o_w (v:=.bool false) (r_pickF rfl rfl rfl) ?_
              refine o_w (v:=.bool false) (r_mov rfl) ?_
              iterate 3 refine o_no (want_f (t:=172) rfl rfl rfl) rfl ?_
              refine o_w (v:=.bool false) (r_pickF rfl rfl rfl) ?_
              refine o_w (v:=.bool false) (r_mov rfl) ?_
              iterate 4 refine o_no (want_f (t:=177) rfl rfl rfl) rfl ?_
              refine o_w (v:=.bool false) (r_pickF rfl rfl rfl) ?_
              refine o_w (v:=.bool false) (r_mov rfl) ?_
              iterate 3 refine o_no (want_f (t:=183) rfl rfl rfl) rfl ?_
              refine o_w (v:=.bool false) (r_pickF rfl rfl rfl) ?_
              refine o_w (v:=.bool false) (r_mov rfl) ?_
              iterate 4 refine o_no (want_f (t:=188) rfl rfl rfl) rfl ?_
              refine o_w (v:=.bool false) (r_pickF rfl rfl rfl) ?_
              refine o_w (v:=.bool false) (r_mov rfl) ?_
              iterate 3 refine o_no (want_f (t:=194) rfl rfl rfl) rfl ?_
              refine o_w (v:=.bool false) (r_pickF rfl rfl rfl) ?_
              refine o_w (v:=.bool false) (r_mov rfl) ?_
              iterate 3 refine o_no (want_f (t:=199) rfl rfl rfl) rfl ?_
              refine o_w (v:=.bool false) (r_pickF rfl rfl rfl) ?_
              refine o_w (v:=.bool false) (r_mov rfl) ?_
              iterate 4 refine o_no (want_f (t:=204) rfl rfl rfl) rfl ?_
              refine o_w (v:=.bool false) (r_pickF rfl rfl rfl) ?_
              refine o_w (v:=.bool false) (r_asg rfl) ?_
              refine eo_nil_sq ?_
              refine ec_ret ?_
              subst h
              exact (end1 rfl ⟨_,rfl,E437,rfl⟩)
            ·replace h:=h.2 hc478
             iterate 5 refine o_no (want_f (t:=133) rfl rfl hc478) rfl ?_
             refine o_w (v:=.bool false) (r_pickF rfl hc478 rfl) ?_
             refine o_w (v:=.bool false) (r_mov rfl) ?_
             iterate 7 refine o_no (want_f (t:=140) rfl rfl rfl) rfl ?_
             refine o_w (v:=.bool false) (r_pickF rfl rfl rfl) ?_
             refine o_w (v:=.bool false) (r_mov rfl) ?_
             iterate 3 refine o_no (want_f (t:=149) rfl rfl rfl) rfl ?_
             refine o_w (v:=.bool false) (r_pickF rfl rfl rfl) ?_
             refine o_w (v:=.bool false) (r_mov rfl) ?_
             iterate 3 refine o_no (want_f (t:=154) rfl rfl rfl) rfl ?_
             refine o_w (v:=.bool false) (r_pickF rfl rfl rfl) ?_
             refine o_w (v:=.bool false) (r_mov rfl) ?_
             iterate 2 refine o_no (want_f (t:=159) rfl rfl rfl) rfl ?_
             refine o_w (v:=.bool false) (r_pickF rfl rfl rfl) ?_
             refine o_w (v:=.bool false) (r_mov rfl) ?_
             iterate 2 refine o_no (want_f (t:=163) rfl rfl rfl) rfl ?_
             refine o_w (v:=.bool false) (r_pickF rfl rfl rfl) ?_
             refine o_w (v:=.bool false) (r_mov rfl) ?_
             iterate 3 refine o_no (want_f (t:=167) rfl rfl rfl) rfl ?_
             refine o_w (v:=.bool false) (r_pickF rfl rfl rfl) ?_
             refine o_w (v:=.bool false) (r_mov rfl) ?_
             iterate 3 refine o_no (want_f (t:=172) rfl rfl rfl) rfl ?_
             refine o_w (v:=.bool false) (r_pickF rfl rfl rfl) ?_
             refine o_w (v:=.bool false) (r_mov rfl) ?_
             iterate 4 refine o_no (want_f (t:=177) rfl rfl rfl) rfl ?_
             refine o_w (v:=.bool false) (r_pickF rfl rfl rfl) ?_
             refine o_w (v:=.bool false) (r_mov rfl) ?_
             iterate 3 refine o_no (want_f (t:=183) rfl rfl rfl) rfl ?_
             refine o_w (v:=.bool false) (r_pickF rfl rfl rfl) ?_
             refine o_w (v:=.bool false) (r_mov rfl) ?_
             iterate 4 refine o_no (want_f (t:=188) rfl rfl rfl) rfl ?_
             refine o_w (v:=.bool false) (r_pickF rfl rfl rfl) ?_
             refine o_w (v:=.bool false) (r_mov rfl) ?_
             iterate 3 refine o_no (want_f (t:=194) rfl rfl rfl) rfl ?_
             refine o_w (v:=.bool false) (r_pickF rfl rfl rfl) ?_
             refine o_w (v:=.bool false) (r_mov rfl) ?_
             iterate 3 refine o_no (want_f (t:=199) rfl rfl rfl) rfl ?_
             refine o_w (v:=.bool false) (r_pickF rfl rfl rfl) ?_
             refine o_w (v:=.bool false) (r_mov rfl) ?_
             iterate 4 refine o_no (want_f (t:=204) rfl rfl rfl) rfl ?_
             refine o_w (v:=.bool false) (r_pickF rfl rfl rfl) ?_
             refine o_w (v:=.bool false) (r_asg rfl) ?_
             refine eo_nil_sq ?_
             refine ec_ret ?_
             subst h
             exact (end1 rfl ⟨_,rfl,E437,rfl⟩)
           ·replace h:=h.2 hc477
            iterate 2 refine o_no (want_f (t:=129) rfl rfl hc477) rfl ?_
            refine o_w (v:=.bool false) (r_pickF rfl hc477 rfl) ?_
            refine o_w (v:=.bool false) (r_mov rfl) ?_
            iterate 5 refine o_no (want_f (t:=133) rfl rfl rfl) rfl ?_
            refine o_w (v:=.bool false) (r_pickF rfl rfl rfl) ?_
            refine o_w (v:=.bool false) (r_mov rfl) ?_
            iterate 7 refine o_no (want_f (t:=140) rfl rfl rfl) rfl ?_
            refine o_w (v:=.bool false) (r_pickF rfl rfl rfl) ?_
            refine o_w (v:=.bool false) (r_mov rfl) ?_
            iterate 3 refine o_no (want_f (t:=149) rfl rfl rfl) rfl ?_
            refine o_w (v:=.bool false) (r_pickF rfl rfl rfl) ?_
            refine o_w (v:=.bool false) (r_mov rfl) ?_
            iterate 3 refine o_no (want_f (t:=154) rfl rfl rfl) rfl ?_
            refine o_w (v:=.bool false) (r_pickF rfl rfl rfl) ?_
            refine o_w (v:=.bool false) (r_mov rfl) ?_
            iterate 2 refine o_no (want_f (t:=159) rfl rfl rfl) rfl ?_
            refine o_w (v:=.bool false) (r_pickF rfl rfl rfl) ?_
            refine o_w (v:=.bool false) (r_mov rfl) ?_
            iterate 2 refine o_no (want_f (t:=163) rfl rfl rfl) rfl ?_
            refine o_w (v:=.bool false) (r_pickF rfl rfl rfl) ?_
            refine o_w (v:=.bool false) (r_mov rfl) ?_
            iterate 3 refine o_no (want_f (t:=167) rfl rfl rfl) rfl ?_
            refine o_w (v:=.bool false) (r_pickF rfl rfl rfl) ?_
            refine o_w (v:=.bool false) (r_mov rfl) ?_
            iterate 3 refine o_no (want_f (t:=172) rfl rfl rfl) rfl ?_
            refine o_w (v:=.bool false) (r_pickF rfl rfl rfl) ?_
            refine o_w (v:=.bool false) (r_mov rfl) ?_
            iterate 4 refine o_no (want_f (t:=177) rfl rfl rfl) rfl ?_
            refine o_w (v:=.bool false) (r_pickF rfl rfl rfl) ?_
            refine o_w (v:=.bool false) (r_mov rfl) ?_
            iterate 3 refine o_no (want_f (t:=183) rfl rfl rfl) rfl ?_
            refine o_w (v:=.bool false) (r_pickF rfl rfl rfl) ?_
            refine o_w (v:=.bool false) (r_mov rfl) ?_
            iterate 4 refine o_no (want_f (t:=188) rfl rfl rfl) rfl ?_
            refine o_w (v:=.bool false) (r_pickF rfl rfl rfl) ?_
            refine o_w (v:=.bool false) (r_mov rfl) ?_
            iterate 3 refine o_no (want_f (t:=194) rfl rfl rfl) rfl ?_
            refine o_w (v:=.bool false) (r_pickF rfl rfl rfl) ?_
            refine o_w (v:=.bool false) (r_mov rfl) ?_
            iterate 3 refine o_no (want_f (t:=199) rfl rfl rfl) rfl ?_
            refine o_w (v:=.bool false) (r_pickF rfl rfl rfl) ?_
            refine o_w (v:=.bool false) (r_mov rfl) ?_
            iterate 4 refine o_no (want_f (t:=204) rfl rfl rfl) rfl ?_
            refine o_w (v:=.bool false) (r_pickF rfl rfl rfl) ?_
            refine o_w (v:=.bool false) (r_asg rfl) ?_
            refine eo_nil_sq ?_
            refine ec_ret ?_
            subst h
            exact (end1 rfl ⟨_,rfl,E437,rfl⟩)
          ·replace h:=h.2 hc476
           iterate 2 refine o_no (want_f (t:=125) rfl rfl hc476) rfl ?_
           refine o_w (v:=.bool false) (r_pickF rfl hc476 rfl) ?_
           refine o_w (v:=.bool false) (r_mov rfl) ?_
           iterate 2 refine o_no (want_f (t:=129) rfl rfl rfl) rfl ?_
           refine o_w (v:=.bool false) (r_pickF rfl rfl rfl) ?_
           refine o_w (v:=.bool false) (r_mov rfl) ?_
           iterate 5 refine o_no (want_f (t:=133) rfl rfl rfl) rfl ?_
           refine o_w (v:=.bool false) (r_pickF rfl rfl rfl) ?_
           refine o_w (v:=.bool false) (r_mov rfl) ?_
           iterate 7 refine o_no (want_f (t:=140) rfl rfl rfl) rfl ?_
           refine o_w (v:=.bool false) (r_pickF rfl rfl rfl) ?_
           refine o_w (v:=.bool false) (r_mov rfl) ?_
           iterate 3 refine o_no (want_f (t:=149) rfl rfl rfl) rfl ?_
           refine o_w (v:=.bool false) (r_pickF rfl rfl rfl) ?_
           refine o_w (v:=.bool false) (r_mov rfl) ?_
           iterate 3 refine o_no (want_f (t:=154) rfl rfl rfl) rfl ?_
           refine o_w (v:=.bool false) (r_pickF rfl rfl rfl) ?_
           refine o_w (v:=.bool false) (r_mov rfl) ?_
           iterate 2 refine o_no (want_f (t:=159) rfl rfl rfl) rfl ?_
           refine o_w (v:=.bool false) (r_pickF rfl rfl rfl) ?_
           refine o_w (v:=.bool false) (r_mov rfl) ?_
           iterate 2 refine o_no (want_f (t:=163) rfl rfl rfl) rfl ?_
           refine o_w (v:=.bool false) (r_pickF rfl rfl rfl) ?_
           refine o_w (v:=.bool false) (r_mov rfl) ?_
           iterate 3 refine o_no (want_f (t:=167) rfl rfl rfl) rfl ?_
           refine o_w (v:=.bool false) (r_pickF rfl rfl rfl) ?_
           refine o_w (v:=.bool false) (r_mov rfl) ?_
           iterate 3 refine o_no (want_f (t:=172) rfl rfl rfl) rfl ?_
           refine o_w (v:=.bool false) (r_pickF rfl rfl rfl) ?_
           refine o_w (v:=.bool false) (r_mov rfl) ?_
           iterate 4 refine o_no (want_f (t:=177) rfl rfl rfl) rfl ?_
           refine o_w (v:=.bool false) (r_pickF rfl rfl rfl) ?_
           refine o_w (v:=.bool false) (r_mov rfl) ?_
           iterate 3 refine o_no (want_f (t:=183) rfl rfl rfl) rfl ?_
           refine o_w (v:=.bool false) (r_pickF rfl rfl rfl) ?_
           refine o_w (v:=.bool false) (r_mov rfl) ?_
           iterate 4 refine o_no (want_f (t:=188) rfl rfl rfl) rfl ?_
           refine o_w (v:=.bool false) (r_pickF rfl rfl rfl) ?_
           refine o_w (v:=.bool false) (r_mov rfl) ?_
           iterate 3 refine o_no (want_f (t:=194) rfl rfl rfl) rfl ?_
           refine o_w (v:=.bool false) (r_pickF rfl rfl rfl) ?_
           refine o_w (v:=.bool false) (r_mov rfl) ?_
           iterate 3 refine o_no (want_f (t:=199) rfl rfl rfl) rfl ?_
           refine o_w (v:=.bool false) (r_pickF rfl rfl rfl) ?_
           refine o_w (v:=.bool false) (r_mov rfl) ?_
           iterate 4 refine o_no (want_f (t:=204) rfl rfl rfl) rfl ?_
           refine o_w (v:=.bool false) (r_pickF rfl rfl rfl) ?_
           refine o_w (v:=.bool false) (r_asg rfl) ?_
           refine eo_nil_sq ?_
           refine ec_ret ?_
           subst h
           exact (end1 rfl ⟨_,rfl,E437,rfl⟩)
         ·replace h:=h.2 hc475
          iterate 2 refine o_no (want_f (t:=121) rfl rfl hc475) rfl ?_
          refine o_w (v:=.bool false) (r_pickF rfl hc475 rfl) ?_
          refine o_w (v:=.bool false) (r_mov rfl) ?_
          iterate 2 refine o_no (want_f (t:=125) rfl rfl rfl) rfl ?_
          refine o_w (v:=.bool false) (r_pickF rfl rfl rfl) ?_
          refine o_w (v:=.bool false) (r_mov rfl) ?_
          iterate 2 refine o_no (want_f (t:=129) rfl rfl rfl) rfl ?_
          refine o_w (v:=.bool false) (r_pickF rfl rfl rfl) ?_
          refine o_w (v:=.bool false) (r_mov rfl) ?_
          iterate 5 refine o_no (want_f (t:=133) rfl rfl rfl) rfl ?_
          refine o_w (v:=.bool false) (r_pickF rfl rfl rfl) ?_
          refine o_w (v:=.bool false) (r_mov rfl) ?_
          iterate 7 refine o_no (want_f (t:=140) rfl rfl rfl) rfl ?_
          refine o_w (v:=.bool false) (r_pickF rfl rfl rfl) ?_
          refine o_w (v:=.bool false) (r_mov rfl) ?_
          iterate 3 refine o_no (want_f (t:=149) rfl rfl rfl) rfl ?_
          refine o_w (v:=.bool false) (r_pickF rfl rfl rfl) ?_
          refine o_w (v:=.bool false) (r_mov rfl) ?_
          iterate 3 refine o_no (want_f (t:=154) rfl rfl rfl) rfl ?_
          refine o_w (v:=.bool false) (r_pickF rfl rfl rfl) ?_
          refine o_w (v:=.bool false) (r_mov rfl) ?_
          iterate 2 refine o_no (want_f (t:=159) rfl rfl rfl) rfl ?_
          refine o_w (v:=.bool false) (r_pickF rfl rfl rfl) ?_
          refine o_w (v:=.bool false) (r_mov rfl) ?_
          iterate 2 refine o_no (want_f (t:=163) rfl rfl rfl) rfl ?_
          refine o_w (v:=.bool false) (r_pickF rfl rfl rfl) ?_
          refine o_w (v:=.bool false) (r_mov rfl) ?_
          iterate 3 refine o_no (want_f (t:=167) rfl rfl rfl) rfl ?_
          refine o_w (v:=.bool false) (r_pickF rfl rfl rfl) ?_
          refine o_w (v:=.bool false) (r_mov rfl) ?_
          iterate 3 refine o_no (want_f (t:=172) rfl rfl rfl) rfl ?_
          refine o_w (v:=.bool false) (r_pickF rfl rfl rfl) ?_
          refine o_w (v:=.bool false) (r_mov rfl) ?_
          iterate 4 refine o_no (want_f (t:=177) rfl rfl rfl) rfl ?_
          refine o_w (v:=.bool false) (r_pickF rfl rfl rfl) ?_
          refine o_w (v:=.bool false) (r_mov rfl) ?_
          iterate 3 refine o_no (want_f (t:=183) rfl rfl rfl) rfl ?_
          refine o_w (v:=.bool false) (r_pickF rfl rfl rfl) ?_
          refine o_w (v:=.bool false) (r_mov rfl) ?_
          iterate 4 refine o_no (want_f (t:=188) rfl rfl rfl) rfl ?_
          refine o_w (v:=.bool false) (r_pickF rfl rfl rfl) ?_
          refine o_w (v:=.bool false) (r_mov rfl) ?_
          iterate 3 refine o_no (want_f (t:=194) rfl rfl rfl) rfl ?_
          refine o_w (v:=.bool false) (r_pickF rfl rfl rfl) ?_
          refine o_w (v:=.bool false) (r_mov rfl) ?_
          iterate 3 refine o_no (want_f (t:=199) rfl rfl rfl) rfl ?_
          refine o_w (v:=.bool false) (r_pickF rfl rfl rfl) ?_
          refine o_w (v:=.bool false) (r_mov rfl) ?_
          iterate 4 refine o_no (want_f (t:=204) rfl rfl rfl) rfl ?_
          refine o_w (v:=.bool false) (r_pickF rfl rfl rfl) ?_
          refine o_w (v:=.bool false) (r_asg rfl) ?_
          refine eo_nil_sq ?_
          refine ec_ret ?_
          subst h
          exact (end1 rfl ⟨_,rfl,E437,rfl⟩)
        ·replace h:=h.2 hc474
         iterate 2 refine o_no (want_f (t:=117) rfl rfl hc474) rfl ?_
         refine o_w (v:=.bool false) (r_pickF rfl hc474 rfl) ?_
         refine o_w (v:=.bool false) (r_mov rfl) ?_
         iterate 2 refine o_no (want_f (t:=121) rfl rfl rfl) rfl ?_
         refine o_w (v:=.bool false) (r_pickF rfl rfl rfl) ?_
         refine o_w (v:=.bool false) (r_mov rfl) ?_
         iterate 2 refine o_no (want_f (t:=125) rfl rfl rfl) rfl ?_
         refine o_w (v:=.bool false) (r_pickF rfl rfl rfl) ?_
         refine o_w (v:=.bool false) (r_mov rfl) ?_
         iterate 2 refine o_no (want_f (t:=129) rfl rfl rfl) rfl ?_
         refine o_w (v:=.bool false) (r_pickF rfl rfl rfl) ?_
         refine o_w (v:=.bool false) (r_mov rfl) ?_
         iterate 5 refine o_no (want_f (t:=133) rfl rfl rfl) rfl ?_
         refine o_w (v:=.bool false) (r_pickF rfl rfl rfl) ?_
         refine o_w (v:=.bool false) (r_mov rfl) ?_
         iterate 7 refine o_no (want_f (t:=140) rfl rfl rfl) rfl ?_
         refine o_w (v:=.bool false) (r_pickF rfl rfl rfl) ?_
         refine o_w (v:=.bool false) (r_mov rfl) ?_
         iterate 3 refine o_no (want_f (t:=149) rfl rfl rfl) rfl ?_
         refine o_w (v:=.bool false) (r_pickF rfl rfl rfl) ?_
         refine o_w (v:=.bool false) (r_mov rfl) ?_
         iterate 3 refine o_no (want_f (t:=154) rfl rfl rfl) rfl ?_
         refine o_w (v:=.bool false) (r_pickF rfl rfl rfl) ?_
         refine o_w (v:=.bool false) (r_mov rfl) ?_
         iterate 2 refine o_no (want_f (t:=159) rfl rfl rfl) rfl ?_
         refine o_w (v:=.bool false) (r_pickF rfl rfl rfl) ?_
         refine o_w (v:=.bool false) (r_mov rfl) ?_
         iterate 2 refine o_no (want_f (t:=163) rfl rfl rfl) rfl ?_
         refine o_w (v:=.bool false) (r_pickF rfl rfl rfl) ?_
         refine o_w (v:=.bool false) (r_mov rfl) ?_
         iterate 3 refine o_no (want_f (t:=167) rfl rfl rfl) rfl ?_
         refine o_w (v:=.bool false) (r_pickF rfl rfl rfl) ?_
         refine o_w (v:=.bool false) (r_mov rfl) ?_
         iterate 3 refine o_no (want_f (t:=172) rfl rfl rfl) rfl ?_
         refine o_w (v:=.bool false) (r_pickF rfl rfl rfl) ?_
         refine o_w (v:=.bool false) (r_mov rfl) ?_
         iterate 4 refine o_no (want_f (t:=177) rfl rfl rfl) rfl ?_
         refine o_w (v:=.bool false) (r_pickF rfl rfl rfl) ?_
         refine o_w (v:=.bool false) (r_mov rfl) ?_
         iterate 3 refine o_no (want_f (t:=183) rfl rfl rfl) rfl ?_
         refine o_w (v:=.bool false) (r_pickF rfl rfl rfl) ?_
         refine o_w (v:=.bool false) (r_mov rfl) ?_
         iterate 4 refine o_no (want_f (t:=188) rfl rfl rfl) rfl ?_
         refine o_w (v:=.bool false) (r_pickF rfl rfl rfl) ?_
         refine o_w (v:=.bool false) (r_mov rfl) ?_
         iterate 3 refine o_no (want_f (t:=194) rfl rfl rfl) rfl ?_
         refine o_w (v:=.bool false) (r_pickF rfl rfl rfl) ?_
         refine o_w (v:=.bool false) (r_mov rfl) ?_
         iterate 3 refine o_no (want_f (t:=199) rfl rfl rfl) rfl ?_
         refine o_w (v:=.bool false) (r_pickF rfl rfl rfl) ?_
         refine o_w (v:=.bool false) (r_mov rfl) ?_
         iterate 4 refine o_no (want_f (t:=204) rfl rfl rfl) rfl ?_
         refine o_w (v:=.bool false) (r_pickF rfl rfl rfl) ?_
         refine o_w (v:=.bool false) (r_asg rfl) ?_
         refine eo_nil_sq ?_
         refine ec_ret ?_
         subst h
         exact (end1 rfl ⟨_,rfl,E437,rfl⟩)
       ·replace h:=h.2 hc473
        iterate 2 refine o_no (want_f (t:=113) rfl rfl hc473) rfl ?_
        refine o_w (v:=.bool false) (r_pickF rfl hc473 rfl) ?_
        refine o_w (v:=.bool false) (r_mov rfl) ?_
        iterate 2 refine o_no (want_f (t:=117) rfl rfl rfl) rfl ?_
        refine o_w (v:=.bool false) (r_pickF rfl rfl rfl) ?_
        refine o_w (v:=.bool false) (r_mov rfl) ?_
        iterate 2 refine o_no (want_f (t:=121) rfl rfl rfl) rfl ?_
        refine o_w (v:=.bool false) (r_pickF rfl rfl rfl) ?_
        refine o_w (v:=.bool false) (r_mov rfl) ?_
        iterate 2 refine o_no (want_f (t:=125) rfl rfl rfl) rfl ?_
        refine o_w (v:=.bool false) (r_pickF rfl rfl rfl) ?_
        refine o_w (v:=.bool false) (r_mov rfl) ?_
        iterate 2 refine o_no (want_f (t:=129) rfl rfl rfl) rfl ?_
        refine o_w (v:=.bool false) (r_pickF rfl rfl rfl) ?_
        refine o_w (v:=.bool false) (r_mov rfl) ?_
        iterate 5 refine o_no (want_f (t:=133) rfl rfl rfl) rfl ?_
        refine o_w (v:=.bool false) (r_pickF rfl rfl rfl) ?_
        refine o_w (v:=.bool false) (r_mov rfl) ?_
        iterate 7 refine o_no (want_f (t:=140) rfl rfl rfl) rfl ?_
        refine o_w (v:=.bool false) (r_pickF rfl rfl rfl) ?_
        refine o_w (v:=.bool false) (r_mov rfl) ?_
        iterate 3 refine o_no (want_f (t:=149) rfl rfl rfl) rfl ?_
        refine o_w (v:=.bool false) (r_pickF rfl rfl rfl) ?_
        refine o_w (v:=.bool false) (r_mov rfl) ?_
        iterate 3 refine o_no (want_f (t:=154) rfl rfl rfl) rfl ?_
        refine o_w (v:=.bool false) (r_pickF rfl rfl rfl) ?_
        refine o_w (v:=.bool false) (r_mov rfl) ?_
        iterate 2 refine o_no (want_f (t:=159) rfl rfl rfl) rfl ?_
        refine o_w (v:=.bool false) (r_pickF rfl rfl rfl) ?_
        refine o_w (v:=.bool false) (r_mov rfl) ?_
        iterate 2 refine o_no (want_f (t:=163) rfl rfl rfl) rfl ?_
        refine o_w (v:=.bool false) (r_pickF rfl rfl rfl) ?_
        refine o_w (v:=.bool false) (r_mov rfl) ?_
        iterate 3 refine o_no (want_f (t:=167) rfl rfl rfl) rfl ?_
        refine o_w (v:=.bool false) (r_pickF rfl rfl rfl) ?_
        refine o_w (v:=.bool false) (r_mov rfl) ?_
        iterate 3 refine o_no (want_f (t:=172) rfl rfl rfl) rfl ?_
        refine o_w (v:=.bool false) (r_pickF rfl rfl rfl) ?_
        refine o_w (v:=.bool false) (r_mov rfl) ?_
        iterate 4 refine o_no (want_f (t:=177) rfl rfl rfl) rfl ?_
        refine o_w (v:=.bool false) (r_pickF rfl rfl rfl) ?_
        refine o_w (v:=.bool false) (r_mov rfl) ?_
        iterate 3 refine o_no (want_f (t:=183) rfl rfl rfl) rfl ?_
        refine o_w (v:=.bool false) (r_pickF rfl rfl rfl) ?_
        refine o_w (v:=.bool false) (r_mov rfl) ?_
        iterate 4 refine o_no (want_f (t:=188) rfl rfl rfl) rfl ?_
        refine o_w (v:=.bool false) (r_pickF rfl rfl rfl) ?_
        refine o_w (v:=.bool false) (r_mov rfl) ?_
        iterate 3 refine o_no (want_f (t:=194) rfl rfl rfl) rfl ?_
        refine o_w (v:=.bool false) (r_pickF rfl rfl rfl) ?_
        refine o_w (v:=.bool false) (r_mov rfl) ?_
        iterate 3 refine o_no (want_f (t:=199) rfl rfl rfl) rfl ?_
        refine o_w (v:=.bool false) (r_pickF rfl rfl rfl) ?_
        refine o_w (v:=.bool false) (r_mov rfl) ?_
        iterate 4 refine o_no (want_f (t:=204) rfl rfl rfl) rfl ?_
        refine o_w (v:=.bool false) (r_pickF rfl rfl rfl) ?_
        refine o_w (v:=.bool false) (r_asg rfl) ?_
        refine eo_nil_sq ?_
        refine ec_ret ?_
        subst h
        exact (end1 rfl ⟨_,rfl,E437,rfl⟩)
      ·replace h:=h.2 hc472
       refine o_no (want_f (t:=110) rfl rfl hc472) rfl ?_
       refine o_w (v:=.bool false) (r_pickF rfl hc472 rfl) ?_
       refine o_w (v:=.bool false) (r_mov rfl) ?_
       iterate 2 refine o_no (want_f (t:=113) rfl rfl rfl) rfl ?_
       refine o_w (v:=.bool false) (r_pickF rfl rfl rfl) ?_
       refine o_w (v:=.bool false) (r_mov rfl) ?_
       iterate 2 refine o_no (want_f (t:=117) rfl rfl rfl) rfl ?_
       refine o_w (v:=.bool false) (r_pickF rfl rfl rfl) ?_
       refine o_w (v:=.bool false) (r_mov rfl) ?_
       iterate 2 refine o_no (want_f (t:=121) rfl rfl rfl) rfl ?_
       refine o_w (v:=.bool false) (r_pickF rfl rfl rfl) ?_
       refine o_w (v:=.bool false) (r_mov rfl) ?_
       iterate 2 refine o_no (want_f (t:=125) rfl rfl rfl) rfl ?_
       refine o_w (v:=.bool false) (r_pickF rfl rfl rfl) ?_
       refine o_w (v:=.bool false) (r_mov rfl) ?_
       iterate 2 refine o_no (want_f (t:=129) rfl rfl rfl) rfl ?_
       refine o_w (v:=.bool false) (r_pickF rfl rfl rfl) ?_
       refine o_w (v:=.bool false) (r_mov rfl) ?_
       iterate 5 refine o_no (want_f (t:=133) rfl rfl rfl) rfl ?_
       refine o_w (v:=.bool false) (r_pickF rfl rfl rfl) ?_
       refine o_w (v:=.bool false) (r_mov rfl) ?_
       iterate 7 refine o_no (want_f (t:=140) rfl rfl rfl) rfl ?_
       refine o_w (v:=.bool false) (r_pickF rfl rfl rfl) ?_
       refine o_w (v:=.bool false) (r_mov rfl) ?_
       iterate 3 refine o_no (want_f (t:=149) rfl rfl rfl) rfl ?_
       refine o_w (v:=.bool false) (r_pickF rfl rfl rfl) ?_
       refine o_w (v:=.bool false) (r_mov rfl) ?_
       iterate 3 refine o_no (want_f (t:=154) rfl rfl rfl) rfl ?_
       refine o_w (v:=.bool false) (r_pickF rfl rfl rfl) ?_
       refine o_w (v:=.bool false) (r_mov rfl) ?_
       iterate 2 refine o_no (want_f (t:=159) rfl rfl rfl) rfl ?_
       refine o_w (v:=.bool false) (r_pickF rfl rfl rfl) ?_
       refine o_w (v:=.bool false) (r_mov rfl) ?_
       iterate 2 refine o_no (want_f (t:=163) rfl rfl rfl) rfl ?_
       refine o_w (v:=.bool false) (r_pickF rfl rfl rfl) ?_
       refine o_w (v:=.bool false) (r_mov rfl) ?_
       iterate 3 refine o_no (want_f (t:=167) rfl rfl rfl) rfl ?_
       refine o_w (v:=.bool false) (r_pickF rfl rfl rfl) ?_
       refine o_w (v:=.bool false) (r_mov rfl) ?_
       iterate 3 refine o_no (want_f (t:=172) rfl rfl rfl) rfl ?_
       refine o_w (v:=.bool false) (r_pickF rfl rfl rfl) ?_
       refine o_w (v:=.bool false) (r_mov rfl) ?_
       iterate 4 refine o_no (want_f (t:=177) rfl rfl rfl) rfl ?_
       refine o_w (v:=.bool false) (r_pickF rfl rfl rfl) ?_
       refine o_w (v:=.bool false) (r_mov rfl) ?_
       iterate 3 refine o_no (want_f (t:=183) rfl rfl rfl) rfl ?_
       refine o_w (v:=.bool false) (r_pickF rfl rfl rfl) ?_
       refine o_w (v:=.bool false) (r_mov rfl) ?_
       iterate 4 refine o_no (want_f (t:=188) rfl rfl rfl) rfl ?_
       refine o_w (v:=.bool false) (r_pickF rfl rfl rfl) ?_
       refine o_w (v:=.bool false) (r_mov rfl) ?_
       iterate 3 refine o_no (want_f (t:=194) rfl rfl rfl) rfl ?_
       refine o_w (v:=.bool false) (r_pickF rfl rfl rfl) ?_
       refine o_w (v:=.bool false) (r_mov rfl) ?_
       iterate 3 refine o_no (want_f (t:=199) rfl rfl rfl) rfl ?_
       refine o_w (v:=.bool false) (r_pickF rfl rfl rfl) ?_
       refine o_w (v:=.bool false) (r_mov rfl) ?_
       iterate 4 refine o_no (want_f (t:=204) rfl rfl rfl) rfl ?_
       refine o_w (v:=.bool false) (r_pickF rfl rfl rfl) ?_
       refine o_w (v:=.bool false) (r_asg rfl) ?_
       refine eo_nil_sq ?_
       refine ec_ret ?_
       subst h
       exact (end1 rfl ⟨_,rfl,E437,rfl⟩)
     ·replace h:=h.2 hc471
      iterate 2 refine o_no (want_f (t:=106) rfl rfl hc471) rfl ?_
      refine o_w (v:=.bool false) (r_pickF rfl hc471 rfl) ?_
      refine o_w (v:=.bool false) (r_mov rfl) ?_
      refine o_no (want_f (t:=110) rfl rfl rfl) rfl ?_
      refine o_w (v:=.bool false) (r_pickF rfl rfl rfl) ?_
      refine o_w (v:=.bool false) (r_mov rfl) ?_
      iterate 2 refine o_no (want_f (t:=113) rfl rfl rfl) rfl ?_
      refine o_w (v:=.bool false) (r_pickF rfl rfl rfl) ?_
      refine o_w (v:=.bool false) (r_mov rfl) ?_
      iterate 2 refine o_no (want_f (t:=117) rfl rfl rfl) rfl ?_
      refine o_w (v:=.bool false) (r_pickF rfl rfl rfl) ?_
      refine o_w (v:=.bool false) (r_mov rfl) ?_
      iterate 2 refine o_no (want_f (t:=121) rfl rfl rfl) rfl ?_
      refine o_w (v:=.bool false) (r_pickF rfl rfl rfl) ?_
      refine o_w (v:=.bool false) (r_mov rfl) ?_
      iterate 2 refine o_no (want_f (t:=125) rfl rfl rfl) rfl ?_
      refine o_w (v:=.bool false) (r_pickF rfl rfl rfl) ?_
      refine o_w (v:=.bool false) (r_mov rfl) ?_
      iterate 2 refine o_no (want_f (t:=129) rfl rfl rfl) rfl ?_
      refine o_w (v:=.bool false) (r_pickF rfl rfl rfl) ?_
      refine o_w (v:=.bool false) (r_mov rfl) ?_
      iterate 5 refine o_no (want_f (t:=133) rfl rfl rfl) rfl ?_
      refine o_w (v:=.bool false) (r_pickF rfl rfl rfl) ?_
      refine o_w (v:=.bool false) (r_mov rfl) ?_
      iterate 7 refine o_no (want_f (t:=140) rfl rfl rfl) rfl ?_
      refine o_w (v:=.bool false) (r_pickF rfl rfl rfl) ?_
      refine o_w (v:=.bool false) (r_mov rfl) ?_
      iterate 3 refine o_no (want_f (t:=149) rfl rfl rfl) rfl ?_
      refine o_w (v:=.bool false) (r_pickF rfl rfl rfl) ?_
      refine o_w (v:=.bool false) (r_mov rfl) ?_
      iterate 3 refine o_no (want_f (t:=154) rfl rfl rfl) rfl ?_
      refine o_w (v:=.bool false) (r_pickF rfl rfl rfl) ?_
      refine o_w (v:=.bool false) (r_mov rfl) ?_
      iterate 2 refine o_no (want_f (t:=159) rfl rfl rfl) rfl ?_
      refine o_w (v:=.bool false) (r_pickF rfl rfl rfl) ?_
      refine o_w (v:=.bool false) (r_mov rfl) ?_
      iterate 2 refine o_no (want_f (t:=163) rfl rfl rfl) rfl ?_
      refine o_w (v:=.bool false) (r_pickF rfl rfl rfl) ?_
      refine o_w (v:=.bool false) (r_mov rfl) ?_
      iterate 3 refine o_no (want_f (t:=167) rfl rfl rfl) rfl ?_
      refine o_w (v:=.bool false) (r_pickF rfl rfl rfl) ?_
      refine o_w (v:=.bool false) (r_mov rfl) ?_
      iterate 3 refine o_no (want_f (t:=172) rfl rfl rfl) rfl ?_
      refine o_w (v:=.bool false) (r_pickF rfl rfl rfl) ?_
      refine o_w (v:=.bool false) (r_mov rfl) ?_
      iterate 4 refine o_no (want_f (t:=177) rfl rfl rfl) rfl ?_
      refine o_w (v:=.bool false) (r_pickF rfl rfl rfl) ?_
      refine o_w (v:=.bool false) (r_mov rfl) ?_
      iterate 3 refine o_no (want_f (t:=183) rfl rfl rfl) rfl ?_
      refine o_w (v:=.bool false) (r_pickF rfl rfl rfl) ?_
      refine o_w (v:=.bool false) (r_mov rfl) ?_
      iterate 4 refine o_no (want_f (t:=188) rfl rfl rfl) rfl ?_
      refine o_w (v:=.bool false) (r_pickF rfl rfl rfl) ?_
      refine o_w (v:=.bool false) (r_mov rfl) ?_
      iterate 3 refine o_no (want_f (t:=194) rfl rfl rfl) rfl ?_
      refine o_w (v:=.bool false) (r_pickF rfl rfl rfl) ?_
      refine o_w (v:=.bool false) (r_mov rfl) ?_
      iterate 3 refine o_no (want_f (t:=199) rfl rfl rfl) rfl ?_
      refine o_w (v:=.bool false) (r_pickF rfl rfl rfl) ?_
      refine o_w (v:=.bool false) (r_mov rfl) ?_
      iterate 4 refine o_no (want_f (t:=204) rfl rfl rfl) rfl ?_
      refine o_w (v:=.bool false) (r_pickF rfl rfl rfl) ?_
      refine o_w (v:=.bool false) (r_asg rfl) ?_
      refine eo_nil_sq ?_
      refine ec_ret ?_
      subst h
      exact (end1 rfl ⟨_,rfl,E437,rfl⟩)
    ·replace h:=h.2 hc470
     refine o_no (want_f (t:=103) rfl rfl hc470) rfl ?_
     refine o_w (v:=.bool false) (r_pickF rfl hc470 rfl) ?_
     refine o_w (v:=.bool false) (r_mov rfl) ?_
     iterate 2 refine o_no (want_f (t:=106) rfl rfl rfl) rfl ?_
     refine o_w (v:=.bool false) (r_pickF rfl rfl rfl) ?_
     refine o_w (v:=.bool false) (r_mov rfl) ?_
     refine o_no (want_f (t:=110) rfl rfl rfl) rfl ?_
     refine o_w (v:=.bool false) (r_pickF rfl rfl rfl) ?_
     refine o_w (v:=.bool false) (r_mov rfl) ?_
     iterate 2 refine o_no (want_f (t:=113) rfl rfl rfl) rfl ?_
     refine o_w (v:=.bool false) (r_pickF rfl rfl rfl) ?_
     refine o_w (v:=.bool false) (r_mov rfl) ?_
     iterate 2 refine o_no (want_f (t:=117) rfl rfl rfl) rfl ?_
     refine o_w (v:=.bool false) (r_pickF rfl rfl rfl) ?_
     refine o_w (v:=.bool false) (r_mov rfl) ?_
     iterate 2 refine o_no (want_f (t:=121) rfl rfl rfl) rfl ?_
     refine o_w (v:=.bool false) (r_pickF rfl rfl rfl) ?_
     refine o_w (v:=.bool false) (r_mov rfl) ?_
     iterate 2 refine o_no (want_f (t:=125) rfl rfl rfl) rfl ?_
     refine o_w (v:=.bool false) (r_pickF rfl rfl rfl) ?_
     refine o_w (v:=.bool false) (r_mov rfl) ?_
     iterate 2 refine o_no (want_f (t:=129) rfl rfl rfl) rfl ?_
     refine o_w (v:=.bool false) (r_pickF rfl rfl rfl) ?_
     refine o_w (v:=.bool false) (r_mov rfl) ?_
     iterate 5 refine o_no (want_f (t:=133) rfl rfl rfl) rfl ?_
     refine o_w (v:=.bool false) (r_pickF rfl rfl rfl) ?_
     refine o_w (v:=.bool false) (r_mov rfl) ?_
     iterate 7 refine o_no (want_f (t:=140) rfl rfl rfl) rfl ?_
     refine o_w (v:=.bool false) (r_pickF rfl rfl rfl) ?_
     refine o_w (v:=.bool false) (r_mov rfl) ?_
     iterate 3 refine o_no (want_f (t:=149) rfl rfl rfl) rfl ?_
     refine o_w (v:=.bool false) (r_pickF rfl rfl rfl) ?_
     refine o_w (v:=.bool false) (r_mov rfl) ?_
     iterate 3 refine o_no (want_f (t:=154) rfl rfl rfl) rfl ?_
     refine o_w (v:=.bool false) (r_pickF rfl rfl rfl) ?_
     refine o_w (v:=.bool false) (r_mov rfl) ?_
     iterate 2 refine o_no (want_f (t:=159) rfl rfl rfl) rfl ?_
     refine o_w (v:=.bool false) (r_pickF rfl rfl rfl) ?_
     refine o_w (v:=.bool false) (r_mov rfl) ?_
     iterate 2 refine o_no (want_f (t:=163) rfl rfl rfl) rfl ?_
     refine o_w (v:=.bool false) (r_pickF rfl rfl rfl) ?_
     refine o_w (v:=.bool false) (r_mov rfl) ?_
     iterate 3 refine o_no (want_f (t:=167) rfl rfl rfl) rfl ?_
     refine o_w (v:=.bool false) (r_pickF rfl rfl rfl) ?_
     refine o_w (v:=.bool false) (r_mov rfl) ?_
     iterate 3 refine o_no (want_f (t:=172) rfl rfl rfl) rfl ?_
     refine o_w (v:=.bool false) (r_pickF rfl rfl rfl) ?_
     refine o_w (v:=.bool false) (r_mov rfl) ?_
     iterate 4 refine o_no (want_f (t:=177) rfl rfl rfl) rfl ?_
     refine o_w (v:=.bool false) (r_pickF rfl rfl rfl) ?_
     refine o_w (v:=.bool false) (r_mov rfl) ?_
     iterate 3 refine o_no (want_f (t:=183) rfl rfl rfl) rfl ?_
     refine o_w (v:=.bool false) (r_pickF rfl rfl rfl) ?_
     refine o_w (v:=.bool false) (r_mov rfl) ?_
     iterate 4 refine o_no (want_f (t:=188) rfl rfl rfl) rfl ?_
     refine o_w (v:=.bool false) (r_pickF rfl rfl rfl) ?_
     refine o_w (v:=.bool false) (r_mov rfl) ?_
     iterate 3 refine o_no (want_f (t:=194) rfl rfl rfl) rfl ?_
     refine o_w (v:=.bool false) (r_pickF rfl rfl rfl) ?_
     refine o_w (v:=.bool false) (r_mov rfl) ?_
     iterate 3 refine o_no (want_f (t:=199) rfl rfl rfl) rfl ?_
     refine o_w (v:=.bool false) (r_pickF rfl rfl rfl) ?_
     refine o_w (v:=.bool false) (r_mov rfl) ?_
     iterate 4 refine o_no (want_f (t:=204) rfl rfl rfl) rfl ?_
     refine o_w (v:=.bool false) (r_pickF rfl rfl rfl) ?_
     refine o_w (v:=.bool false) (r_asg rfl) ?_
     refine eo_nil_sq ?_
     refine ec_ret ?_
     subst h
     exact (end1 rfl ⟨_,rfl,E437,rfl⟩)
   ·replace h:=h.2 hc469
    iterate 2 refine o_no (want_f (t:=99) rfl rfl hc469) rfl ?_
    refine o_w (v:=.bool false) (r_pickF rfl hc469 rfl) ?_
    refine o_w (v:=.bool false) (r_mov rfl) ?_
    refine o_no (want_f (t:=103) rfl rfl rfl) rfl ?_
    refine o_w (v:=.bool false) (r_pickF rfl rfl rfl) ?_
    refine o_w (v:=.bool false) (r_mov rfl) ?_
    iterate 2 refine o_no (want_f (t:=106) rfl rfl rfl) rfl ?_
    refine o_w (v:=.bool false) (r_pickF rfl rfl rfl) ?_
    refine o_w (v:=.bool false) (r_mov rfl) ?_
    refine o_no (want_f (t:=110) rfl rfl rfl) rfl ?_
    refine o_w (v:=.bool false) (r_pickF rfl rfl rfl) ?_
    refine o_w (v:=.bool false) (r_mov rfl) ?_
    iterate 2 refine o_no (want_f (t:=113) rfl rfl rfl) rfl ?_
    refine o_w (v:=.bool false) (r_pickF rfl rfl rfl) ?_
    refine o_w (v:=.bool false) (r_mov rfl) ?_
    iterate 2 refine o_no (want_f (t:=117) rfl rfl rfl) rfl ?_
    refine o_w (v:=.bool false) (r_pickF rfl rfl rfl) ?_
    refine o_w (v:=.bool false) (r_mov rfl) ?_
    iterate 2 refine o_no (want_f (t:=121) rfl rfl rfl) rfl ?_
    refine o_w (v:=.bool false) (r_pickF rfl rfl rfl) ?_
    refine o_w (v:=.bool false) (r_mov rfl) ?_
    iterate 2 refine o_no (want_f (t:=125) rfl rfl rfl) rfl ?_
    refine o_w (v:=.bool false) (r_pickF rfl rfl rfl) ?_
    refine o_w (v:=.bool false) (r_mov rfl) ?_
    iterate 2 refine o_no (want_f (t:=129) rfl rfl rfl) rfl ?_
    refine o_w (v:=.bool false) (r_pickF rfl rfl rfl) ?_
    refine o_w (v:=.bool false) (r_mov rfl) ?_
    iterate 5 refine o_no (want_f (t:=133) rfl rfl rfl) rfl ?_
    refine o_w (v:=.bool false) (r_pickF rfl rfl rfl) ?_
    refine o_w (v:=.bool false) (r_mov rfl) ?_
    iterate 7 refine o_no (want_f (t:=140) rfl rfl rfl) rfl ?_
    refine o_w (v:=.bool false) (r_pickF rfl rfl rfl) ?_
    refine o_w (v:=.bool false) (r_mov rfl) ?_
    iterate 3 refine o_no (want_f (t:=149) rfl rfl rfl) rfl ?_
    refine o_w (v:=.bool false) (r_pickF rfl rfl rfl) ?_
    refine o_w (v:=.bool false) (r_mov rfl) ?_
    iterate 3 refine o_no (want_f (t:=154) rfl rfl rfl) rfl ?_
    refine o_w (v:=.bool false) (r_pickF rfl rfl rfl) ?_
    refine o_w (v:=.bool false) (r_mov rfl) ?_
    iterate 2 refine o_no (want_f (t:=159) rfl rfl rfl) rfl ?_
    refine o_w (v:=.bool false) (r_pickF rfl rfl rfl) ?_
    refine o_w (v:=.bool false) (r_mov rfl) ?_
    iterate 2 refine o_no (want_f (t:=163) rfl rfl rfl) rfl ?_
    refine o_w (v:=.bool false) (r_pickF rfl rfl rfl) ?_
    refine o_w (v:=.bool false) (r_mov rfl) ?_
    iterate 3 refine o_no (want_f (t:=167) rfl rfl rfl) rfl ?_
    refine o_w (v:=.bool false) (r_pickF rfl rfl rfl) ?_
    refine o_w (v:=.bool false) (r_mov rfl) ?_
    iterate 3 refine o_no (want_f (t:=172) rfl rfl rfl) rfl ?_
    refine o_w (v:=.bool false) (r_pickF rfl rfl rfl) ?_
    refine o_w (v:=.bool false) (r_mov rfl) ?_
    iterate 4 refine o_no (want_f (t:=177) rfl rfl rfl) rfl ?_
    refine o_w (v:=.bool false) (r_pickF rfl rfl rfl) ?_
    refine o_w (v:=.bool false) (r_mov rfl) ?_
    iterate 3 refine o_no (want_f (t:=183) rfl rfl rfl) rfl ?_
    refine o_w (v:=.bool false) (r_pickF rfl rfl rfl) ?_
    refine o_w (v:=.bool false) (r_mov rfl) ?_
    iterate 4 refine o_no (want_f (t:=188) rfl rfl rfl) rfl ?_
    refine o_w (v:=.bool false) (r_pickF rfl rfl rfl) ?_
    refine o_w (v:=.bool false) (r_mov rfl) ?_
    iterate 3 refine o_no (want_f (t:=194) rfl rfl rfl) rfl ?_
    refine o_w (v:=.bool false) (r_pickF rfl rfl rfl) ?_
    refine o_w (v:=.bool false) (r_mov rfl) ?_
    iterate 3 refine o_no (want_f (t:=199) rfl rfl rfl) rfl ?_
    refine o_w (v:=.bool false) (r_pickF rfl rfl rfl) ?_
    refine o_w (v:=.bool false) (r_mov rfl) ?_
    iterate 4 refine o_no (want_f (t:=204) rfl rfl rfl) rfl ?_
    refine o_w (v:=.bool false) (r_pickF rfl rfl rfl) ?_
    refine o_w (v:=.bool false) (r_asg rfl) ?_
    refine eo_nil_sq ?_
    refine ec_ret ?_
    subst h
    exact (end1 rfl ⟨_,rfl,E437,rfl⟩)
  ·replace h:=h.2 hc468
   refine o_no (want_f (t:=96) rfl rfl hc468) rfl ?_
   refine o_w (v:=.bool false) (r_pickF rfl hc468 rfl) ?_
   refine o_w (v:=.bool false) (r_mov rfl) ?_
   iterate 2 refine o_no (want_f (t:=99) rfl rfl rfl) rfl ?_
   refine o_w (v:=.bool false) (r_pickF rfl rfl rfl) ?_
   refine o_w (v:=.bool false) (r_mov rfl) ?_
   refine o_no (want_f (t:=103) rfl rfl rfl) rfl ?_
   refine o_w (v:=.bool false) (r_pickF rfl rfl rfl) ?_
   refine o_w (v:=.bool false) (r_mov rfl) ?_
   iterate 2 refine o_no (want_f (t:=106) rfl rfl rfl) rfl ?_
   refine o_w (v:=.bool false) (r_pickF rfl rfl rfl) ?_
   refine o_w (v:=.bool false) (r_mov rfl) ?_
   refine o_no (want_f (t:=110) rfl rfl rfl) rfl ?_
   refine o_w (v:=.bool false) (r_pickF rfl rfl rfl) ?_
   refine o_w (v:=.bool false) (r_mov rfl) ?_
   iterate 2 refine o_no (want_f (t:=113) rfl rfl rfl) rfl ?_
   refine o_w (v:=.bool false) (r_pickF rfl rfl rfl) ?_
   refine o_w (v:=.bool false) (r_mov rfl) ?_
   iterate 2 refine o_no (want_f (t:=117) rfl rfl rfl) rfl ?_
   refine o_w (v:=.bool false) (r_pickF rfl rfl rfl) ?_
   refine o_w (v:=.bool false) (r_mov rfl) ?_
   iterate 2 refine o_no (want_f (t:=121) rfl rfl rfl) rfl ?_
   refine o_w (v:=.bool false) (r_pickF rfl rfl rfl) ?_
   refine o_w (v:=.bool false) (r_mov rfl) ?_
   iterate 2 refine o_no (want_f (t:=125) rfl rfl rfl) rfl ?_
   refine o_w (v:=.bool false) (r_pickF rfl rfl rfl) ?_
   refine o_w (v:=.bool false) (r_mov rfl) ?_
   iterate 2 refine o_no (want_f (t:=129) rfl rfl rfl) rfl ?_
   refine o_w (v:=.bool false) (r_pickF rfl rfl rfl) ?_
   refine o_w (v:=.bool false) (r_mov rfl) ?_
   iterate 5 refine o_no (want_f (t:=133) rfl rfl rfl) rfl ?_
   refine o_w (v:=.bool false) (r_pickF rfl rfl rfl) ?_
   refine o_w (v:=.bool false) (r_mov rfl) ?_
   iterate 7 refine o_no (want_f (t:=140) rfl rfl rfl) rfl ?_
   refine o_w (v:=.bool false) (r_pickF rfl rfl rfl) ?_
   refine o_w (v:=.bool false) (r_mov rfl) ?_
   iterate 3 refine o_no (want_f (t:=149) rfl rfl rfl) rfl ?_
   refine o_w (v:=.bool false) (r_pickF rfl rfl rfl) ?_
   refine o_w (v:=.bool false) (r_mov rfl) ?_
   iterate 3 refine o_no (want_f (t:=154) rfl rfl rfl) rfl ?_
   refine o_w (v:=.bool false) (r_pickF rfl rfl rfl) ?_
   refine o_w (v:=.bool false) (r_mov rfl) ?_
   iterate 2 refine o_no (want_f (t:=159) rfl rfl rfl) rfl ?_
   refine o_w (v:=.bool false) (r_pickF rfl rfl rfl) ?_
   refine o_w (v:=.bool false) (r_mov rfl) ?_
   iterate 2 refine o_no (want_f (t:=163) rfl rfl rfl) rfl ?_
   refine o_w (v:=.bool false) (r_pickF rfl rfl rfl) ?_
   refine o_w (v:=.bool false) (r_mov rfl) ?_
   iterate 3 refine o_no (want_f (t:=167) rfl rfl rfl) rfl ?_
   refine o_w (v:=.bool false) (r_pickF rfl rfl rfl) ?_
   refine o_w (v:=.bool false) (r_mov rfl) ?_
   iterate 3 refine o_no (want_f (t:=172) rfl rfl rfl) rfl ?_
   refine o_w (v:=.bool false) (r_pickF rfl rfl rfl) ?_
   refine o_w (v:=.bool false) (r_mov rfl) ?_
   iterate 4 refine o_no (want_f (t:=177) rfl rfl rfl) rfl ?_
   refine o_w (v:=.bool false) (r_pickF rfl rfl rfl) ?_
   refine o_w (v:=.bool false) (r_mov rfl) ?_
   iterate 3 refine o_no (want_f (t:=183) rfl rfl rfl) rfl ?_
   refine o_w (v:=.bool false) (r_pickF rfl rfl rfl) ?_
   refine o_w (v:=.bool false) (r_mov rfl) ?_
   iterate 4 refine o_no (want_f (t:=188) rfl rfl rfl) rfl ?_
   refine o_w (v:=.bool false) (r_pickF rfl rfl rfl) ?_
   refine o_w (v:=.bool false) (r_mov rfl) ?_
   iterate 3 refine o_no (want_f (t:=194) rfl rfl rfl) rfl ?_
   refine o_w (v:=.bool false) (r_pickF rfl rfl rfl) ?_
   refine o_w (v:=.bool false) (r_mov rfl) ?_
   iterate 3 refine o_no (want_f (t:=199) rfl rfl rfl) rfl ?_
   refine o_w (v:=.bool false) (r_pickF rfl rfl rfl) ?_
   refine o_w (v:=.bool false) (r_mov rfl) ?_
   iterate 4 refine o_no (want_f (t:=204) rfl rfl rfl) rfl ?_
   refine o_w (v:=.bool false) (r_pickF rfl rfl rfl) ?_
   refine o_w (v:=.bool false) (r_asg rfl) ?_
   refine eo_nil_sq ?_
   refine ec_ret ?_
   subst h
   exact (end1 rfl ⟨_,rfl,E437,rfl⟩)
end Go.Proofs.Ythifkdgljapmeaa
