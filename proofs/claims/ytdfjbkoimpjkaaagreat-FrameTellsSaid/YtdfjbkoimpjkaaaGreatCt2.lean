import Derived.Test.YtdfjbkoimpjkaaaGreatWe
import Derived.Test.YtdfjbkoimpjkaaaGreatProg
namespace Go.Proofs.YtdfjbkoimpjkaaaGreat
open Go Go.RowKit
set_option linter.unusedVariables false
set_option linter.unusedSimpArgs false
structure Val where
 kind:Int
 time:Int
 node:Int
 dead:Bool
 text:Str
 plus:List Int
 minus:List Int
 flags:Int
instance:Inhabited Val:=⟨⟨(0:Int),(0:Int),(0:Int),false,([]:Str),([]:List Int),([]:List Int),(0:Int)⟩⟩
abbrev cVal (d:Val) (A1:Option Addr) (c1:Nat) (A2:Option Addr) (c2:Nat):List Value:=[.int .i64 d.kind,.int .i64 d.time,.int .i64 d.node,.bool d.dead,str d.text,.slice A1 d.plus.length c1,.slice A2 d.minus.length c2,.int .u64 d.flags]
def kVal:Kd Val:=⟨8,fun w cs d=>∃ A1 c1,∃ A2 c2,cs=[.int .i64 d.kind,.int .i64 d.time,.int .i64 d.node,.bool d.dead,str d.text,.slice A1 d.plus.length c1,.slice A2 d.minus.length c2,.int .u64 d.flags]∧SlC (kI .i64) w A1 c1 d.plus∧SlC (kI .i64) w A2 c2 d.minus⟩
theorem kVal_open {L:List Nat} {w:World} {cs:List Value} {d:Val} (h:Stb L w (fun w=>kVal.r w cs d)):∃ A1 c1,∃ A2 c2,cs=[.int .i64 d.kind,.int .i64 d.time,.int .i64 d.node,.bool d.dead,str d.text,.slice A1 d.plus.length c1,.slice A2 d.minus.length c2,.int .u64 d.flags]∧Stb L w (fun w=>SlC (kI .i64) w A1 c1 d.plus)∧Stb L w (fun w=>SlC (kI .i64) w A2 c2 d.minus):=by
 obtain ⟨A1,c1,A2,c2,e,h1,h2⟩:=h.now
 subst e
 exact ⟨A1,c1,A2,c2,rfl,fun w' ha=>by obtain ⟨_,_,_,_,e',h1',h2'⟩:=h w' ha; cases e'; exact h1',fun w' ha=>by obtain ⟨_,_,_,_,e',h1',h2'⟩:=h w' ha; cases e'; exact h2'⟩
theorem kVal_mk {L:List Nat} {w:World} {A1:Option Addr} {c1:Nat} {A2:Option Addr} {c2:Nat} {d:Val} (h1:Stb L w (fun w=>SlC (kI .i64) w A1 c1 d.plus)) (h2:Stb L w (fun w=>SlC (kI .i64) w A2 c2 d.minus)):Stb L w (fun w=>kVal.r w [.int .i64 d.kind,.int .i64 d.time,.int .i64 d.node,.bool d.dead,str d.text,.slice A1 d.plus.length c1,.slice A2 d.minus.length c2,.int .u64 d.flags] d) :=
 fun w' ha=>⟨A1,c1,A2,c2,rfl,h1 w' ha,h2 w' ha⟩
theorem un_int : Tryz.prog.underlying 3=some (.int .i64):=Tryz.underlying3
theorem in_int:(Tryz.prog.info? 3).map (fun i=>(i.zero,i.size,i.bytes))=some (some (.int .i64 0),1,8):=by kernel_rfl
theorem sz_int:Sz Tryz.prog 3 1:=sz_of in_int
theorem one_int:One Tryz.prog 3:=⟨⟨_,Tryz.underlying3,trivial⟩,sz_int⟩
theorem un_bool : Tryz.prog.underlying 4=some (.bool):=Tryz.underlying4
theorem in_bool:(Tryz.prog.info? 4).map (fun i=>(i.zero,i.size,i.bytes))=some (some (.bool false),1,1):=by kernel_rfl
theorem sz_bool:Sz Tryz.prog 4 1:=sz_of in_bool
theorem one_bool:One Tryz.prog 4:=⟨⟨_,Tryz.underlying4,trivial⟩,sz_bool⟩
theorem un_string : Tryz.prog.underlying 9=some (.string):=Tryz.underlying9
theorem in_string:(Tryz.prog.info? 9).map (fun i=>(i.zero,i.size,i.bytes))=some (some (str []),1,16):=by kernel_rfl
theorem zero_string:Zero Tryz.prog 9 (str []):=zero_of in_string
theorem sz_string:Sz Tryz.prog 9 1:=sz_of in_string
theorem one_string:One Tryz.prog 9:=⟨⟨_,Tryz.underlying9,trivial⟩,sz_string⟩
theorem un_s_int : Tryz.prog.underlying 51=some (.slice 3):=Tryz.underlying51
theorem in_s_int:(Tryz.prog.info? 51).map (fun i=>(i.zero,i.size,i.bytes))=some (some (.slice none 0 0),1,24):=by kernel_rfl
theorem sz_s_int:Sz Tryz.prog 51 1:=sz_of in_s_int
theorem one_s_int:One Tryz.prog 51:=⟨⟨_,Tryz.underlying51,trivial⟩,sz_s_int⟩
theorem un_uint64 : Tryz.prog.underlying 50=some (.int .u64):=Tryz.underlying50
theorem in_uint64:(Tryz.prog.info? 50).map (fun i=>(i.zero,i.size,i.bytes))=some (some (.int .u64 0),1,8):=by kernel_rfl
theorem sz_uint64:Sz Tryz.prog 50 1:=sz_of in_uint64
theorem one_uint64:One Tryz.prog 50:=⟨⟨_,Tryz.underlying50,trivial⟩,sz_uint64⟩
theorem in_api_Value:(Tryz.prog.info? 53).map (fun i=>(i.zero,i.size,i.bytes))=some (some (.agg #[.int .i64 0,.int .i64 0,.int .i64 0,.bool false,str [],.slice none 0 0,.slice none 0 0,.int .u64 0]),8,104):=by kernel_rfl
theorem zero_api_Value:Zero Tryz.prog 53 (.agg #[.int .i64 0,.int .i64 0,.int .i64 0,.bool false,str [],.slice none 0 0,.slice none 0 0,.int .u64 0]):=zero_of in_api_Value
theorem sz_api_Value:Sz Tryz.prog 53 8:=sz_of in_api_Value
theorem agg_api_Value:Agg Tryz.prog 53 8:=⟨⟨_,Tryz.underlying53,trivial⟩,sz_api_Value⟩
theorem in_value_register:(Tryz.prog.info? 146).map (fun i=>(i.zero,i.size,i.bytes))=some (some (.agg #[]),0,0):=by kernel_rfl
theorem zero_value_register:Zero Tryz.prog 146 (.agg #[]):=zero_of in_value_register
theorem in_value_counter:(Tryz.prog.info? 147).map (fun i=>(i.zero,i.size,i.bytes))=some (some (.agg #[]),0,0):=by kernel_rfl
theorem zero_value_counter:Zero Tryz.prog 147 (.agg #[]):=zero_of in_value_counter
theorem in_value_flags:(Tryz.prog.info? 148).map (fun i=>(i.zero,i.size,i.bytes))=some (some (.agg #[]),0,0):=by kernel_rfl
theorem zero_value_flags:Zero Tryz.prog 148 (.agg #[]):=zero_of in_value_flags
theorem fld_api_Value_0:Fld Tryz.prog 53 0 0:=⟨_,Tryz.underlying53,_,rfl,rfl,fnz in_int (by decide)⟩
theorem fld_api_Value_1:Fld Tryz.prog 53 1 1:=⟨_,Tryz.underlying53,_,rfl,rfl,fnz in_int (by decide)⟩
theorem fld_api_Value_2:Fld Tryz.prog 53 2 2:=⟨_,Tryz.underlying53,_,rfl,rfl,fnz in_int (by decide)⟩
theorem fld_api_Value_3:Fld Tryz.prog 53 3 3:=⟨_,Tryz.underlying53,_,rfl,rfl,fnz in_bool (by decide)⟩
theorem fld_api_Value_4:Fld Tryz.prog 53 4 4:=⟨_,Tryz.underlying53,_,rfl,rfl,fnz in_string (by decide)⟩
theorem fld_api_Value_5:Fld Tryz.prog 53 5 5:=⟨_,Tryz.underlying53,_,rfl,rfl,fnz in_s_int (by decide)⟩
theorem fld_api_Value_6:Fld Tryz.prog 53 6 6:=⟨_,Tryz.underlying53,_,rfl,rfl,fnz in_s_int (by decide)⟩
theorem fld_api_Value_7:Fld Tryz.prog 53 7 7:=⟨_,Tryz.underlying53,_,rfl,rfl,fnz in_uint64 (by decide)⟩
theorem slc_s_int:Slc Tryz.prog 51 3 1 8 (.int .i64 0):=⟨un_s_int,info_parts' in_int⟩
theorem bld_api_Value:Bld Tryz.prog 53 [(0,1),(1,1),(2,1),(3,1),(4,1),(5,1),(6,1),(7,1)] [.int .i64 0,.int .i64 0,.int .i64 0,.bool false,str [],.slice none 0 0,.slice none 0 0,.int .u64 0]:=bld_struct zero_api_Value rfl Tryz.underlying53 (fun _=>by kernel_rfl)
theorem bld_value_register:Bld Tryz.prog 146 [] []:=bld_struct zero_value_register rfl Tryz.underlying146 (fun _=>by kernel_rfl)
theorem bld_value_counter:Bld Tryz.prog 147 [] []:=bld_struct zero_value_counter rfl Tryz.underlying147 (fun _=>by kernel_rfl)
theorem bld_value_flags:Bld Tryz.prog 148 [] []:=bld_struct zero_value_flags rfl Tryz.underlying148 (fun _=>by kernel_rfl)
theorem conc_value_register : Tryz.prog.concrete 146=true:=by kernel_rfl
theorem conc_value_counter : Tryz.prog.concrete 147=true:=by kernel_rfl
theorem conc_value_flags : Tryz.prog.concrete 148=true:=by kernel_rfl
theorem mf_value_register_ouroboros_value_is:MF Tryz.prog 146 "ouroboros/value.is" 149:=fun _ _ _=>by kernel_rfl
theorem mf_value_counter_ouroboros_value_is:MF Tryz.prog 147 "ouroboros/value.is" 154:=fun _ _ _=>by kernel_rfl
theorem mf_value_flags_ouroboros_value_is:MF Tryz.prog 148 "ouroboros/value.is" 161:=fun _ _ _=>by kernel_rfl
theorem cf_value_counter_is_1:CF Tryz.prog 157:=fun _ _=>by kernel_rfl
theorem cf_value_counter_is_2:CF Tryz.prog 158:=fun _ _=>by kernel_rfl
theorem cf_value_flags_is_1:CF Tryz.prog 164:=fun _ _=>by kernel_rfl
theorem cf_value_register_is_1:CF Tryz.prog 153:=fun _ _=>by kernel_rfl
theorem cf_law06_Few:CF Tryz.prog 51:=fun _ _=>by kernel_rfl
theorem cf_ref01_Ints:CF Tryz.prog 101:=fun _ _=>by kernel_rfl
theorem cf_ref06_Check:CF Tryz.prog 79:=fun _ _=>by kernel_rfl
theorem cf_ref06_Same:CF Tryz.prog 87:=fun _ _=>by kernel_rfl
theorem cf_ref06_counts:CF Tryz.prog 94:=fun _ _=>by kernel_rfl
theorem cf_ref06_noCount:CF Tryz.prog 93:=fun _ _=>by kernel_rfl
theorem cf_ref06_noReg:CF Tryz.prog 95:=fun _ _=>by kernel_rfl
theorem cf_value_Check:CF Tryz.prog 69:=fun _ _=>by kernel_rfl
theorem cf_value_Same:CF Tryz.prog 71:=fun _ _=>by kernel_rfl
theorem cf_value_kinds:CF Tryz.prog 88:=fun _ _=>by kernel_rfl
theorem cf_value_only:CF Tryz.prog 152:=fun _ _=>by kernel_rfl
theorem cf_slices_ContainsFunc_int:CF Tryz.prog 159:=fun _ _=>by kernel_rfl
theorem cf_slices_Equal_int:CF Tryz.prog 89:=fun _ _=>by kernel_rfl
theorem cf_slices_IndexFunc_int:CF Tryz.prog 160:=fun _ _=>by kernel_rfl
structure Ent where
 key:Str
 val:Val
instance:Inhabited Ent:=⟨⟨([]:Str),(⟨(0:Int),(0:Int),(0:Int),false,([]:Str),([]:List Int),([]:List Int),(0:Int)⟩:Val)⟩⟩
structure Arena where
 cap:Int
 slots:List Ent
 idx:List Int
instance:Inhabited Arena:=⟨⟨(0:Int),([]:List Ent),([]:List Int)⟩⟩
structure Joined where
 a:Arena
 is:Bool
 e:Int
instance:Inhabited Joined:=⟨⟨(⟨(0:Int),([]:List Ent),([]:List Int)⟩:Arena),false,(0:Int)⟩⟩
abbrev cEnt (d:Ent) (A1:Option Addr) (c1:Nat) (A2:Option Addr) (c2:Nat):List Value:=[str d.key,.int .i64 d.val.kind,.int .i64 d.val.time,.int .i64 d.val.node,.bool d.val.dead,str d.val.text,.slice A1 d.val.plus.length c1,.slice A2 d.val.minus.length c2,.int .u64 d.val.flags]
def kEnt:Kd Ent:=⟨9,fun w cs d=>∃ A1 c1,∃ A2 c2,cs=[str d.key,.int .i64 d.val.kind,.int .i64 d.val.time,.int .i64 d.val.node,.bool d.val.dead,str d.val.text,.slice A1 d.val.plus.length c1,.slice A2 d.val.minus.length c2,.int .u64 d.val.flags]∧SlC (kI .i64) w A1 c1 d.val.plus∧SlC (kI .i64) w A2 c2 d.val.minus⟩
theorem kEnt_open {L:List Nat} {w:World} {cs:List Value} {d:Ent} (h:Stb L w (fun w=>kEnt.r w cs d)):∃ A1 c1,∃ A2 c2,cs=[str d.key,.int .i64 d.val.kind,.int .i64 d.val.time,.int .i64 d.val.node,.bool d.val.dead,str d.val.text,.slice A1 d.val.plus.length c1,.slice A2 d.val.minus.length c2,.int .u64 d.val.flags]∧Stb L w (fun w=>SlC (kI .i64) w A1 c1 d.val.plus)∧Stb L w (fun w=>SlC (kI .i64) w A2 c2 d.val.minus):=by
 obtain ⟨A1,c1,A2,c2,e,h1,h2⟩:=h.now
 subst e
 exact ⟨A1,c1,A2,c2,rfl,fun w' ha=>by obtain ⟨_,_,_,_,e',h1',h2'⟩:=h w' ha; cases e'; exact h1',fun w' ha=>by obtain ⟨_,_,_,_,e',h1',h2'⟩:=h w' ha; cases e'; exact h2'⟩
theorem kEnt_open2 {L:List Nat} {w:World} {a:Addr} {cs:List Value} {d:Ent} (h:Stb L w (fun w=>CellsAt w a cs∧kEnt.r w cs d)):∃ A1 c1,∃ A2 c2,cs=[str d.key,.int .i64 d.val.kind,.int .i64 d.val.time,.int .i64 d.val.node,.bool d.val.dead,str d.val.text,.slice A1 d.val.plus.length c1,.slice A2 d.val.minus.length c2,.int .u64 d.val.flags]∧Stb L w (fun w=>CellsAt w a [str d.key,.int .i64 d.val.kind,.int .i64 d.val.time,.int .i64 d.val.node,.bool d.val.dead,str d.val.text,.slice A1 d.val.plus.length c1,.slice A2 d.val.minus.length c2,.int .u64 d.val.flags]∧True)∧Stb L w (fun w=>SlC (kI .i64) w A1 c1 d.val.plus)∧Stb L w (fun w=>SlC (kI .i64) w A2 c2 d.val.minus):=by
 obtain ⟨A1,c1,A2,c2,e,h1,h2⟩:=kEnt_open (h.mono fun _ h=>h.2)
 subst e
 exact ⟨A1,c1,A2,c2,rfl,h.mono fun _ h=>⟨h.1,trivial⟩,h1,h2⟩
theorem kEnt_mk {L:List Nat} {w:World} {A1:Option Addr} {c1:Nat} {A2:Option Addr} {c2:Nat} {d:Ent} (h1:Stb L w (fun w=>SlC (kI .i64) w A1 c1 d.val.plus)) (h2:Stb L w (fun w=>SlC (kI .i64) w A2 c2 d.val.minus)):Stb L w (fun w=>kEnt.r w [str d.key,.int .i64 d.val.kind,.int .i64 d.val.time,.int .i64 d.val.node,.bool d.val.dead,str d.val.text,.slice A1 d.val.plus.length c1,.slice A2 d.val.minus.length c2,.int .u64 d.val.flags] d) :=
 fun w' ha=>⟨A1,c1,A2,c2,rfl,h1 w' ha,h2 w' ha⟩
theorem un_uint8 : Tryz.prog.underlying 5=some (.int .u8):=Tryz.underlying5
theorem in_uint8:(Tryz.prog.info? 5).map (fun i=>(i.zero,i.size,i.bytes))=some (some (.int .u8 0),1,1):=by kernel_rfl
theorem sz_uint8:Sz Tryz.prog 5 1:=sz_of in_uint8
theorem un_s_api_Entry : Tryz.prog.underlying 23=some (.slice 55):=Tryz.underlying23
theorem in_s_api_Entry:(Tryz.prog.info? 23).map (fun i=>(i.zero,i.size,i.bytes))=some (some (.slice none 0 0),1,24):=by kernel_rfl
theorem sz_s_api_Entry:Sz Tryz.prog 23 1:=sz_of in_s_api_Entry
theorem one_s_api_Entry:One Tryz.prog 23:=⟨⟨_,Tryz.underlying23,trivial⟩,sz_s_api_Entry⟩
theorem in_api_Errno:(Tryz.prog.info? 31).map (fun i=>(i.zero,i.size,i.bytes))=some (some (.int .i64 0),1,8):=by kernel_rfl
theorem zero_api_Errno:Zero Tryz.prog 31 (.int .i64 0):=zero_of in_api_Errno
theorem sz_api_Errno:Sz Tryz.prog 31 1:=sz_of in_api_Errno
theorem one_api_Errno:One Tryz.prog 31:=⟨⟨_,Tryz.underlying31,trivial⟩,sz_api_Errno⟩
theorem in_api_Entry:(Tryz.prog.info? 55).map (fun i=>(i.zero,i.size,i.bytes))=some (some (.agg #[str [],.int .i64 0,.int .i64 0,.int .i64 0,.bool false,str [],.slice none 0 0,.slice none 0 0,.int .u64 0]),9,120):=by kernel_rfl
theorem zero_api_Entry:Zero Tryz.prog 55 (.agg #[str [],.int .i64 0,.int .i64 0,.int .i64 0,.bool false,str [],.slice none 0 0,.slice none 0 0,.int .u64 0]):=zero_of in_api_Entry
theorem sz_api_Entry:Sz Tryz.prog 55 9:=sz_of in_api_Entry
theorem agg_api_Entry:Agg Tryz.prog 55 9:=⟨⟨_,Tryz.underlying55,trivial⟩,sz_api_Entry⟩
theorem fld_api_Entry_0:Fld Tryz.prog 55 0 0:=⟨_,Tryz.underlying55,_,rfl,rfl,fnz in_string (by decide)⟩
theorem fld_api_Entry_1:Fld Tryz.prog 55 1 1:=⟨_,Tryz.underlying55,_,rfl,rfl,fnz in_api_Value (by decide)⟩
theorem slc_s_api_Entry:Slc Tryz.prog 23 55 9 120 (.agg #[str [],.int .i64 0,.int .i64 0,.int .i64 0,.bool false,str [],.slice none 0 0,.slice none 0 0,.int .u64 0]):=⟨un_s_api_Entry,info_parts' in_api_Entry⟩
theorem bld_api_Entry:Bld Tryz.prog 55 [(0,1),(1,8)] [str [],.int .i64 0,.int .i64 0,.int .i64 0,.bool false,str [],.slice none 0 0,.slice none 0 0,.int .u64 0]:=bld_struct zero_api_Entry rfl Tryz.underlying55 (fun _=>by kernel_rfl)
theorem cf_entry_Check:CF Tryz.prog 34:=fun _ _=>by kernel_rfl
theorem cf_entry_Same:CF Tryz.prog 37:=fun _ _=>by kernel_rfl
theorem cf_law07_Few:CF Tryz.prog 21:=fun _ _=>by kernel_rfl
theorem cf_law08_Entries:CF Tryz.prog 10:=fun _ _=>by kernel_rfl
theorem cf_ref07_All:CF Tryz.prog 31:=fun _ _=>by kernel_rfl
theorem cf_ref07_Check:CF Tryz.prog 53:=fun _ _=>by kernel_rfl
theorem cf_ref07_Same:CF Tryz.prog 68:=fun _ _=>by kernel_rfl
theorem cf_slices_ContainsFunc_Entry:CF Tryz.prog 35:=fun _ _=>by kernel_rfl
theorem cf_slices_EqualFunc_Entry:CF Tryz.prog 36:=fun _ _=>by kernel_rfl
theorem cf_slices_IndexFunc_Entry:CF Tryz.prog 70:=fun _ _=>by kernel_rfl
end Go.Proofs.YtdfjbkoimpjkaaaGreat