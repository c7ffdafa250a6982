/- The law DeltaWrites: what it comes to. -/
import Derived.Test.YthhjcijhanacnaaLh
namespace Go.Proofs.Ythhjcijhanacnaa
open Go Go.RowKit
set_option linter.unusedVariables false
set_option linter.unusedSimpArgs false
def law09_DeltaWrites_raw (d0:Arena) (d1:Int) (d2:Str) (d3:Str) (d4:Int) (d5:Int) (y:Bool):Prop :=
 ((!(worksV))=true→(y=false))∧((!(worksV))=false→(((((!(fewA d0))||(decide ((100:Int)<(d2.length:Int))))||(decide ((100:Int)<(d3.length:Int))))=true→(y=(worksV)))∧((((!(fewA d0))||(decide ((100:Int)<(d2.length:Int))))||(decide ((100:Int)<(d3.length:Int))))=false→((sma d0)∧(∃ x19,x19=(putU d0 d1 d2 d3)∧(((x19.2==(0:Int))=true→((sma d0)∧((sm x19.1.val)∧((WfV x19.1.val)∧(∃ x46,x46=(joinA d0 x19.1)∧((sma x46.1)∧(∃ x82,x82=(textU x46.1 d2)∧((((((!x46.2.1)||(x46.2.2 != (0:Int)))||(!(x82.1==d3)))||(!x82.2))=true→(y=false))∧(((((!x46.2.1)||(x46.2.2 != (0:Int)))||(!(x82.1==d3)))||(!x82.2))=false→((sma d0)∧(∃ x92,x92=(delU d0 d1 d2)∧(((x92.2==(0:Int))=true→((sma d0)∧((sm x92.1.val)∧((WfV x92.1.val)∧(∃ x135,x135=(joinA d0 x92.1)∧((sma x135.1)∧(∃ x187,x187=(textU x135.1 d2)∧(((((!x135.2.1)||(x135.2.2 != (0:Int)))||x187.2)=true→(y=false))∧((((!x135.2.1)||(x135.2.2 != (0:Int)))||x187.2)=false→((sma d0)∧(∃ x201,x201=(addU d0 d1 d2 d4)∧(((x201.2==(0:Int))=true→((sma d0)∧((sm x201.1.val)∧((WfV x201.1.val)∧(∃ x260,x260=(joinA d0 x201.1)∧((sma d0)∧(∃ x328,x328=(sumU d0 d2)∧((sma x260.1)∧(∃ x345,x345=(sumU x260.1 d2)∧((((((!x260.2.1)||(x260.2.2 != (0:Int)))||(!x345.2))||(x345.1 != (IntKind.i64.wrap (x328.1 + d4))))=true→(y=false))∧(((((!x260.2.1)||(x260.2.2 != (0:Int)))||(!x345.2))||(x345.1 != (IntKind.i64.wrap (x328.1 + d4))))=false→((sma d0)∧(∃ x363,x363=(setU d0 d2 d5)∧(((x363.2==(0:Int))=true→((sma d0)∧((sm x363.1.val)∧((WfV x363.1.val)∧(∃ x438,x438=(joinA d0 x363.1)∧((sma d0)∧(∃ x522,x522=(flagsU d0 d2)∧((sma x438.1)∧(∃ x543,x543=(flagsU x438.1 d2)∧(((((x438.2.2 != (0:Int))||(!x543.2))||(x543.1 != (IntKind.u64.wrap ((BitVec.ofInt IntKind.u64.bits x522.1 ||| BitVec.ofInt IntKind.u64.bits d5).toNat:Int))))=true→(y=false))∧((((x438.2.2 != (0:Int))||(!x543.2))||(x543.1 != (IntKind.u64.wrap ((BitVec.ofInt IntKind.u64.bits x522.1 ||| BitVec.ofInt IntKind.u64.bits d5).toNat:Int))))=false→(y=(worksV)))))))))))))∧((x363.2==(0:Int))=false→(y=(worksV)))))))))))))))))∧((x201.2==(0:Int))=false→((sma d0)∧(∃ x565,x565=(setU d0 d2 d5)∧(((x565.2==(0:Int))=true→((sma d0)∧((sm x565.1.val)∧((WfV x565.1.val)∧(∃ x632,x632=(joinA d0 x565.1)∧((sma d0)∧(∃ x708,x708=(flagsU d0 d2)∧((sma x632.1)∧(∃ x727,x727=(flagsU x632.1 d2)∧(((((x632.2.2 != (0:Int))||(!x727.2))||(x727.1 != (IntKind.u64.wrap ((BitVec.ofInt IntKind.u64.bits x708.1 ||| BitVec.ofInt IntKind.u64.bits d5).toNat:Int))))=true→(y=false))∧((((x632.2.2 != (0:Int))||(!x727.2))||(x727.1 != (IntKind.u64.wrap ((BitVec.ofInt IntKind.u64.bits x708.1 ||| BitVec.ofInt IntKind.u64.bits d5).toNat:Int))))=false→(y=(worksV)))))))))))))∧((x565.2==(0:Int))=false→(y=(worksV)))))))))))))))))))∧((x92.2==(0:Int))=false→((sma d0)∧(∃ x747,x747=(addU d0 d1 d2 d4)∧(((x747.2==(0:Int))=true→((sma d0)∧((sm x747.1.val)∧((WfV x747.1.val)∧(∃ x798,x798=(joinA d0 x747.1)∧((sma d0)∧(∃ x858,x858=(sumU d0 d2)∧((sma x798.1)∧(∃ x873,x873=(sumU x798.1 d2)∧((((((!x798.2.1)||(x798.2.2 != (0:Int)))||(!x873.2))||(x873.1 != (IntKind.i64.wrap (x858.1 + d4))))=true→(y=false))∧(((((!x798.2.1)||(x798.2.2 != (0:Int)))||(!x873.2))||(x873.1 != (IntKind.i64.wrap (x858.1 + d4))))=false→((sma d0)∧(∃ x889,x889=(setU d0 d2 d5)∧(((x889.2==(0:Int))=true→((sma d0)∧((sm x889.1.val)∧((WfV x889.1.val)∧(∃ x956,x956=(joinA d0 x889.1)∧((sma d0)∧(∃ x1032,x1032=(flagsU d0 d2)∧((sma x956.1)∧(∃ x1051,x1051=(flagsU x956.1 d2)∧(((((x956.2.2 != (0:Int))||(!x1051.2))||(x1051.1 != (IntKind.u64.wrap ((BitVec.ofInt IntKind.u64.bits x1032.1 ||| BitVec.ofInt IntKind.u64.bits d5).toNat:Int))))=true→(y=false))∧((((x956.2.2 != (0:Int))||(!x1051.2))||(x1051.1 != (IntKind.u64.wrap ((BitVec.ofInt IntKind.u64.bits x1032.1 ||| BitVec.ofInt IntKind.u64.bits d5).toNat:Int))))=false→(y=(worksV)))))))))))))∧((x889.2==(0:Int))=false→(y=(worksV)))))))))))))))))∧((x747.2==(0:Int))=false→((sma d0)∧(∃ x1071,x1071=(setU d0 d2 d5)∧(((x1071.2==(0:Int))=true→((sma d0)∧((sm x1071.1.val)∧((WfV x1071.1.val)∧(∃ x1130,x1130=(joinA d0 x1071.1)∧((sma d0)∧(∃ x1198,x1198=(flagsU d0 d2)∧((sma x1130.1)∧(∃ x1215,x1215=(flagsU x1130.1 d2)∧(((((x1130.2.2 != (0:Int))||(!x1215.2))||(x1215.1 != (IntKind.u64.wrap ((BitVec.ofInt IntKind.u64.bits x1198.1 ||| BitVec.ofInt IntKind.u64.bits d5).toNat:Int))))=true→(y=false))∧((((x1130.2.2 != (0:Int))||(!x1215.2))||(x1215.1 != (IntKind.u64.wrap ((BitVec.ofInt IntKind.u64.bits x1198.1 ||| BitVec.ofInt IntKind.u64.bits d5).toNat:Int))))=false→(y=(worksV)))))))))))))∧((x1071.2==(0:Int))=false→(y=(worksV)))))))))))))))))))))))∧((x19.2==(0:Int))=false→((sma d0)∧(∃ x1233,x1233=(delU d0 d1 d2)∧(((x1233.2==(0:Int))=true→((sma d0)∧((sm x1233.1.val)∧((WfV x1233.1.val)∧(∃ x1268,x1268=(joinA d0 x1233.1)∧((sma x1268.1)∧(∃ x1312,x1312=(textU x1268.1 d2)∧(((((!x1268.2.1)||(x1268.2.2 != (0:Int)))||x1312.2)=true→(y=false))∧((((!x1268.2.1)||(x1268.2.2 != (0:Int)))||x1312.2)=false→((sma d0)∧(∃ x1324,x1324=(addU d0 d1 d2 d4)∧(((x1324.2==(0:Int))=true→((sma d0)∧((sm x1324.1.val)∧((WfV x1324.1.val)∧(∃ x1375,x1375=(joinA d0 x1324.1)∧((sma d0)∧(∃ x1435,x1435=(sumU d0 d2)∧((sma x1375.1)∧(∃ x1450,x1450=(sumU x1375.1 d2)∧((((((!x1375.2.1)||(x1375.2.2 != (0:Int)))||(!x1450.2))||(x1450.1 != (IntKind.i64.wrap (x1435.1 + d4))))=true→(y=false))∧(((((!x1375.2.1)||(x1375.2.2 != (0:Int)))||(!x1450.2))||(x1450.1 != (IntKind.i64.wrap (x1435.1 + d4))))=false→((sma d0)∧(∃ x1466,x1466=(setU d0 d2 d5)∧(((x1466.2==(0:Int))=true→((sma d0)∧((sm x1466.1.val)∧((WfV x1466.1.val)∧(∃ x1533,x1533=(joinA d0 x1466.1)∧((sma d0)∧(∃ x1609,x1609=(flagsU d0 d2)∧((sma x1533.1)∧(∃ x1628,x1628=(flagsU x1533.1 d2)∧(((((x1533.2.2 != (0:Int))||(!x1628.2))||(x1628.1 != (IntKind.u64.wrap ((BitVec.ofInt IntKind.u64.bits x1609.1 ||| BitVec.ofInt IntKind.u64.bits d5).toNat:Int))))=true→(y=false))∧((((x1533.2.2 != (0:Int))||(!x1628.2))||(x1628.1 != (IntKind.u64.wrap ((BitVec.ofInt IntKind.u64.bits x1609.1 ||| BitVec.ofInt IntKind.u64.bits d5).toNat:Int))))=false→(y=(worksV)))))))))))))∧((x1466.2==(0:Int))=false→(y=(worksV)))))))))))))))))∧((x1324.2==(0:Int))=false→((sma d0)∧(∃ x1648,x1648=(setU d0 d2 d5)∧(((x1648.2==(0:Int))=true→((sma d0)∧((sm x1648.1.val)∧((WfV x1648.1.val)∧(∃ x1707,x1707=(joinA d0 x1648.1)∧((sma d0)∧(∃ x1775,x1775=(flagsU d0 d2)∧((sma x1707.1)∧(∃ x1792,x1792=(flagsU x1707.1 d2)∧(((((x1707.2.2 != (0:Int))||(!x1792.2))||(x1792.1 != (IntKind.u64.wrap ((BitVec.ofInt IntKind.u64.bits x1775.1 ||| BitVec.ofInt IntKind.u64.bits d5).toNat:Int))))=true→(y=false))∧((((x1707.2.2 != (0:Int))||(!x1792.2))||(x1792.1 != (IntKind.u64.wrap ((BitVec.ofInt IntKind.u64.bits x1775.1 ||| BitVec.ofInt IntKind.u64.bits d5).toNat:Int))))=false→(y=(worksV)))))))))))))∧((x1648.2==(0:Int))=false→(y=(worksV)))))))))))))))))))∧((x1233.2==(0:Int))=false→((sma d0)∧(∃ x1810,x1810=(addU d0 d1 d2 d4)∧(((x1810.2==(0:Int))=true→((sma d0)∧((sm x1810.1.val)∧((WfV x1810.1.val)∧(∃ x1853,x1853=(joinA d0 x1810.1)∧((sma d0)∧(∃ x1905,x1905=(sumU d0 d2)∧((sma x1853.1)∧(∃ x1918,x1918=(sumU x1853.1 d2)∧((((((!x1853.2.1)||(x1853.2.2 != (0:Int)))||(!x1918.2))||(x1918.1 != (IntKind.i64.wrap (x1905.1 + d4))))=true→(y=false))∧(((((!x1853.2.1)||(x1853.2.2 != (0:Int)))||(!x1918.2))||(x1918.1 != (IntKind.i64.wrap (x1905.1 + d4))))=false→((sma d0)∧(∃ x1932,x1932=(setU d0 d2 d5)∧(((x1932.2==(0:Int))=true→((sma d0)∧((sm x1932.1.val)∧((WfV x1932.1.val)∧(∃ x1991,x1991=(joinA d0 x1932.1)∧((sma d0)∧(∃ x2059,x2059=(flagsU d0 d2)∧((sma x1991.1)∧(∃ x2076,x2076=(flagsU x1991.1 d2)∧(((((x1991.2.2 != (0:Int))||(!x2076.2))||(x2076.1 != (IntKind.u64.wrap ((BitVec.ofInt IntKind.u64.bits x2059.1 ||| BitVec.ofInt IntKind.u64.bits d5).toNat:Int))))=true→(y=false))∧((((x1991.2.2 != (0:Int))||(!x2076.2))||(x2076.1 != (IntKind.u64.wrap ((BitVec.ofInt IntKind.u64.bits x2059.1 ||| BitVec.ofInt IntKind.u64.bits d5).toNat:Int))))=false→(y=(worksV)))))))))))))∧((x1932.2==(0:Int))=false→(y=(worksV)))))))))))))))))∧((x1810.2==(0:Int))=false→((sma d0)∧(∃ x2094,x2094=(setU d0 d2 d5)∧(((x2094.2==(0:Int))=true→((sma d0)∧((sm x2094.1.val)∧((WfV x2094.1.val)∧(∃ x2145,x2145=(joinA d0 x2094.1)∧((sma d0)∧(∃ x2205,x2205=(flagsU d0 d2)∧((sma x2145.1)∧(∃ x2220,x2220=(flagsU x2145.1 d2)∧(((((x2145.2.2 != (0:Int))||(!x2220.2))||(x2220.1 != (IntKind.u64.wrap ((BitVec.ofInt IntKind.u64.bits x2205.1 ||| BitVec.ofInt IntKind.u64.bits d5).toNat:Int))))=true→(y=false))∧((((x2145.2.2 != (0:Int))||(!x2220.2))||(x2220.1 != (IntKind.u64.wrap ((BitVec.ofInt IntKind.u64.bits x2205.1 ||| BitVec.ofInt IntKind.u64.bits d5).toNat:Int))))=false→(y=(worksV)))))))))))))∧((x2094.2==(0:Int))=false→(y=(worksV)))))))))))))))))))))
set_option maxRecDepth 20000 in
set_option maxHeartbeats 4000000 in
theorem law09_DeltaWrites_c {L:List Nat} {w:World} {csP0:List Value} (d0:Arena) (HP0:Stb L w (fun w=>kArena.r w csP0 d0)) (d1:Int) (d2:Str) (d3:Str) (d4:Int) (d5:Int) (hL:Lt L w) {y:Bool} (h:law09_DeltaWrites_raw d0 d1 d2 d3 d4 d5 y) :
  Calls Try.prog 3 [.agg csP0.toArray,.int .i64 d1,str d2,str d3,.int .i64 d4,.int .u64 d5].toArray w (Ret fun v w'=>Ext w w'∧v=.bool y):=by
 obtain ⟨A1,c2,A4,c5,rfl,H3,H6⟩:=kArena_open HP0
 unfold law09_DeltaWrites_raw at h
 refine calls_ec Try.func3 rfl rfl rfl ?_
 refine ec_seq ?_
 refine ec_region ?_
 refine o_box (cs:=(cArena d0 A1 c2 A4 c5)) rfl rfl rfl ?_
 intro b7 w7 e7 F7 B7
 have S7:=B7.stb (nin hL e7)
 have G8:Fr L w w7:=Fr.ext F7
 refine o_w (v:=.bool false) (r_asg rfl) ?_
 refine eo_nil_sq ?_
 refine ec_seq ?_
 refine ec_region ?_
 refine o_call cf_law09_works rfl (law09_works_c (hL.fr F7) (works9_ev)) rfl rfl ?_
 rintro _ w9 ⟨F9,rfl⟩
 have E10:=F7.trans F9
 have G12:Fr L w7 w9:=Fr.ext F9
 refine o_w (v:=.bool (worksV)) (r_asg rfl) ?_
 refine eo_nil_sq ?_
 iterate 2 refine ec_seq ?_
 refine ec_region ?_
 refine o_w (v:=.bool (worksV)) (r_mov rfl) ?_
 refine o_w (v:=.bool (!(worksV))) (r_not rfl) ?_
 refine eo_nil_sq ?_
 refine ec_cond rfl (fun hc13=>?_) (fun hc13=>?_)
 ·replace h:=h.1 hc13
  refine ec_seq ?_
  refine ec_region ?_
  refine o_w (v:=.bool false) (r_asg rfl) ?_
  refine eo_nil_sq ?_
  refine ec_ret ?_
  refine sq_ret ?_
  subst h
  exact (end1 rfl ⟨_,rfl,E10,rfl⟩)
 ·replace h:=h.2 hc13
  refine ec_skip ?_
  refine sq_n ?_
  refine ec_seq ?_
  refine ec_region ?_
  refine o_w (v:=.agg (cArena d0 A1 c2 A4 c5).toArray) (r_lda agg_api_Arena rfl (vs:=(cArena d0 A1 c2 A4 c5)) rfl ((S7.fr G12 (fun _ h=>h)).now.part (n:=3) rfl)) ?_
  refine o_call cf_law08_Few rfl (law08_Few_c d0 (kArena_mk (d:=d0) (H3.fr (G8.trans (Fr.ext F9)) (fun _ h=>h)) (H6.fr (G8.trans (Fr.ext F9)) (fun _ h=>h))) (hL.fr E10) (fewA_ev d0)) rfl rfl ?_
  rintro _ w14 ⟨F14,rfl⟩
  have E15:=E10.trans F14
  refine o_w (v:=.bool (fewA d0)) (r_asg rfl) ?_
  refine eo_nil_sq ?_
  iterate 2 refine ec_seq ?_
  refine ec_region ?_
  refine o_w (v:=.bool (fewA d0)) (r_mov rfl) ?_
  refine o_w (v:=.bool (!(fewA d0))) (r_not rfl) ?_
  refine o_w (v:=.bool (!(fewA d0))) (r_mov rfl) ?_
  refine o_vg (v:=str d2) (want_cf (t:=54) rfl rfl) (fun hk=>(r_mov rfl)) rfl rfl ?_
  refine o_vg (v:=.int .i64 (d2.length:Int)) (want_cf (t:=54) rfl rfl) (fun hk=>(r_len_str un_string (gdT hk))) rfl rfl ?_
  refine o_vg (v:=.bool (decide ((100:Int)<(d2.length:Int)))) (want_cf (t:=54) rfl rfl) (fun hk=>(r_int (gdT hk) rfl rfl)) rfl rfl ?_
  refine o_w (v:=.bool ((!(fewA d0))||(decide ((100:Int)<(d2.length:Int))))) (r_pickOr rfl rfl (fun hf=>(gdT (notT hf)))) ?_
  refine o_w (v:=.bool ((!(fewA d0))||(decide ((100:Int)<(d2.length:Int))))) (r_mov rfl) ?_
  refine o_vg (v:=str d3) (want_cf (t:=59) rfl rfl) (fun hk=>(r_mov rfl)) rfl rfl ?_
  refine o_vg (v:=.int .i64 (d3.length:Int)) (want_cf (t:=59) rfl rfl) (fun hk=>(r_len_str un_string (gdT hk))) rfl rfl ?_
  refine o_vg (v:=.bool (decide ((100:Int)<(d3.length:Int)))) (want_cf (t:=59) rfl rfl) (fun hk=>(r_int (gdT hk) rfl rfl)) rfl rfl ?_
  refine o_w (v:=.bool (((!(fewA d0))||(decide ((100:Int)<(d2.length:Int))))||(decide ((100:Int)<(d3.length:Int))))) (r_pickOr rfl rfl (fun hf=>(gdT (notT hf)))) ?_
  refine eo_nil_sq ?_
  refine ec_cond rfl (fun hc18=>?_) (fun hc18=>?_)
  ·replace h:=h.1 hc18
   refine ec_seq ?_
   refine ec_region ?_
   refine o_w (v:=.bool (worksV)) (r_mov rfl) ?_
   refine o_w (v:=.bool (worksV)) (r_asg rfl) ?_
   refine eo_nil_sq ?_
   refine ec_ret ?_
   refine sq_ret ?_
   subst h
   exact (end1 rfl ⟨_,rfl,E15,rfl⟩)
  ·replace h:=h.2 hc18
   refine ec_skip ?_
   refine sq_n ?_
   refine ec_seq ?_
   refine ec_region ?_
   refine o_w (v:=.agg (cArena d0 A1 c2 A4 c5).toArray) (r_lda agg_api_Arena rfl (vs:=(cArena d0 A1 c2 A4 c5)) rfl ((S7.fr (G12.trans (Fr.ext F14)) (fun _ h=>h)).now.part (n:=3) rfl)) ?_
   refine o_w (v:=.int .i64 d1) (r_mov rfl) ?_
   refine o_w (v:=str d2) (r_mov rfl) ?_
   refine o_w (v:=str d3) (r_mov rfl) ?_
   obtain ⟨ha20,h⟩:=h
   obtain ⟨x19,hx19,h⟩:=h
   refine o_call cf_delta_Put rfl (delta_Put_c d0 (kArena_mk (d:=d0) (H3.fr ((G8.trans (Fr.ext F9)).trans (Fr.ext F14)) (fun _ h=>h)) (H6.fr ((G8.trans (Fr.ext F9)).trans (Fr.ext F14)) (fun _ h=>h))) d1 d2 d3 (hL.fr E15) (eq_ev hx19 (put_ev d0 d1 d2 d3 ha20))) rfl rfl ?_
   rintro _ w19 ⟨F19,cs21,rfl,H22⟩
   have E23:=E15.trans F19
   obtain ⟨A26,c27,A29,c30,rfl,H28,H31⟩:=kEnt_open H22
   refine o_w (v:=.tuple #[.agg (cEnt x19.1 A26 c27 A29 c30).toArray,.int .i64 x19.2]) (r_mov rfl) ?_
   refine o_w (v:=.agg (cEnt x19.1 A26 c27 A29 c30).toArray) (r_ext rfl rfl) ?_
   refine o_w (v:=.int .i64 x19.2) (r_ext rfl rfl) ?_
   refine o_alloc zero_api_Entry rfl rfl rfl ?_
   intro b32 w32 e32 F32 B32
   have n32:w.heap.size≤b32:=by rw [e32]; exact E23.size
   have m33:w.heap.size≤b32:=by rw [e32]; exact (((G8.trans (Fr.ext F9)).trans (Fr.ext F14)).trans (Fr.ext F19)).size
   have m34:w7.heap.size≤b32:=by rw [e32]; exact ((G12.trans (Fr.ext F14)).trans (Fr.ext F19)).size
   have m35:w19.heap.size≤b32:=Nat.le_of_eq e32.symm
   have E36:=E23.trans F32
   have G37:=(((G8.trans (Fr.ext F9)).trans (Fr.ext F14)).trans (Fr.ext F19)).trans (Fr.ext F32)
   have G39:Fr L w19 w32:=Fr.ext F32
   refine o_store rfl B32 (vs:=(cEnt x19.1 A26 c27 A29 c30)) rfl sz_api_Entry rfl rfl rfl ?_
   intro w40 F40 B40
   have E41:=Ext.st E36 F40 (by simp; omega)
   have G42:Fr L w w40:=G37.stp F40 (upc (.inr m33) (fun m hm=>by cases hm))
   have G43:Fr L w7 w40:=(((G12.trans (Fr.ext F14)).trans (Fr.ext F19)).trans (Fr.ext F32)).stp F40 (upc (.inr m34) (fun m hm=>by cases hm))
   have G44:Fr L w19 w40:=G39.stp F40 (upc (.inr m35) (fun m hm=>by cases hm))
   have B40':Blk w40 b32 _ (cEnt x19.1 A26 c27 A29 c30):=B40
   refine o_w (v:=.int .i64 x19.2) (r_asg rfl) ?_
   refine eo_nil_sq ?_
   iterate 2 refine ec_seq ?_
   refine ec_region ?_
   refine o_w (v:=.int .i64 x19.2) (r_mov rfl) ?_
   refine o_w (v:=.bool (x19.2==(0:Int))) (r_int rfl rfl rfl) ?_
   refine eo_nil_sq ?_
   refine ec_cond rfl (fun hc45=>?_) (fun hc45=>?_)
   ·replace h:=h.1 hc45
    refine ec_seq ?_
    refine ec_region ?_
    refine o_w (v:=.agg (cArena d0 A1 c2 A4 c5).toArray) (r_lda agg_api_Arena rfl (vs:=(cArena d0 A1 c2 A4 c5)) rfl ((S7.fr G43 (fun _ h=>h)).now.part (n:=3) rfl)) ?_
    refine o_w (v:=.agg (cEnt x19.1 A26 c27 A29 c30).toArray) (r_lda agg_api_Entry rfl (vs:=(cEnt x19.1 A26 c27 A29 c30)) rfl (B40'.part (n:=9) rfl)) ?_
    obtain ⟨ha47,h⟩:=h
    obtain ⟨ha48,h⟩:=h
    obtain ⟨ha49,h⟩:=h
    obtain ⟨x46,hx46,h⟩:=h
    refine o_call cf_arena_Join rfl (arena_Join_c d0 (kArena_mk (d:=d0) (H3.up G42 (fun _ h=>h) (upc (.inr m33) (fun _ h=>.inl h))) (H6.up G42 (fun _ h=>h) (upc (.inr m33) (fun _ h=>.inl h)))) x19.1 (kEnt_mk (d:=x19.1) (H28.up G44 (fun _ h=>h) (upc (.inr m35) (fun _ h=>.inl h))) (H31.up G44 (fun _ h=>h) (upc (.inr m35) (fun _ h=>.inl h)))) ((hL.fr E41).cons B40'.lt) (eq_ev hx46 (arJoin_ev d0 x19.1 ha47 ha48 ha49))) rfl rfl ?_
    rintro _ w46 ⟨F46,cs50,rfl,H51⟩
    have E52:=E41.trans F46
    obtain ⟨A57,c58,A60,c61,rfl,H59,H62⟩:=kArena_open H51
    refine o_w (v:=.tuple #[.agg (cArena x46.1 A57 c58 A60 c61).toArray,.bool x46.2.1,.int .i64 x46.2.2]) (r_mov rfl) ?_
    refine o_w (v:=.agg (cArena x46.1 A57 c58 A60 c61).toArray) (r_ext rfl rfl) ?_
    refine o_w (v:=.bool x46.2.1) (r_ext rfl rfl) ?_
    refine o_w (v:=.int .i64 x46.2.2) (r_ext rfl rfl) ?_
    refine o_alloc zero_api_Arena rfl rfl rfl ?_
    intro b63 w63 e63 F63 B63
    have n63:w.heap.size≤b63:=by rw [e63]; exact E52.size
    have q64:b32<b63:=by rw [e63]; exact (B40'.ex F46).lt
    have m65:w.heap.size≤b63:=by rw [e63]; exact (G42.trans (Fr.ext F46)).size
    have m66:w7.heap.size≤b63:=by rw [e63]; exact (G43.trans (Fr.ext F46)).size
    have m68:w46.heap.size≤b63:=Nat.le_of_eq e63.symm
    have E69:=E52.trans F63
    have G73:Fr (b32::L) w46 w63:=Fr.ext F63
    refine o_store rfl B63 (vs:=(cArena x46.1 A57 c58 A60 c61)) rfl sz_api_Arena rfl rfl rfl ?_
    intro w75 F75 B75
    have E76:=Ext.st E69 F75 (by simp; omega)
    have G77:Fr L w w75:=((G42.trans (Fr.ext F46)).trans (Fr.ext F63)).stp F75 (upc (.inr m65) (fun m hm=>by cases hm))
    have G78:Fr L w7 w75:=((G43.trans (Fr.ext F46)).trans (Fr.ext F63)).stp F75 (upc (.inr m66) (fun m hm=>by cases hm))
    have G80:Fr (b32::L) w46 w75:=G73.stp F75 (upc (.inr m68) (fun m hm=>by cases hm))
    have B81:=((B40'.ex F46).ex F63).fr F75 (by simp; omega)
    have B75':Blk w75 b63 _ (cArena x46.1 A57 c58 A60 c61):=B75
    refine o_w (v:=.bool x46.2.1) (r_asg rfl) ?_
    refine o_w (v:=.int .i64 x46.2.2) (r_asg rfl) ?_
    refine eo_nil_sq ?_
    refine ec_seq ?_
    refine ec_region ?_
    refine o_w (v:=.agg (cArena x46.1 A57 c58 A60 c61).toArray) (r_lda agg_api_Arena rfl (vs:=(cArena x46.1 A57 c58 A60 c61)) rfl (B75'.part (n:=3) rfl)) ?_
    refine o_w (v:=str d2) (r_mov rfl) ?_
    obtain ⟨ha83,h⟩:=h
    obtain ⟨x82,hx82,h⟩:=h
    refine o_call cf_delta_Text rfl (delta_Text_c x46.1 (kArena_mk (d:=x46.1) (H59.up G80 (fun _ h=>h) (upc (.inr m68) (upc (.inl (List.Mem.head _)) (fun m hm=>Or.inl (List.Mem.tail _ hm))))) (H62.up G80 (fun _ h=>h) (upc (.inr m68) (upc (.inl (List.Mem.head _)) (fun m hm=>Or.inl (List.Mem.tail _ hm)))))) d2 (((hL.fr E76).cons B81.lt).cons B75'.lt) (eq_ev hx82 (text_ev x46.1 d2 ha83))) rfl rfl ?_
    rintro _ w82 ⟨F82,rfl⟩
    have E84:=E76.trans F82
    refine o_w (v:=.tuple #[str x82.1,.bool x82.2]) (r_mov rfl) ?_
    refine o_w (v:=str x82.1) (r_ext rfl rfl) ?_
    refine o_w (v:=.bool x82.2) (r_ext rfl rfl) ?_
    refine o_w (v:=str x82.1) (r_asg rfl) ?_
    refine o_w (v:=.bool x82.2) (r_asg rfl) ?_
    refine eo_nil_sq ?_
    refine ec_seq ?_
    refine ec_region ?_
    refine o_w (v:=.bool x46.2.1) (r_mov rfl) ?_
    refine o_w (v:=.bool (!x46.2.1)) (r_not rfl) ?_
    refine o_w (v:=.bool (!x46.2.1)) (r_mov rfl) ?_
    refine o_vg (v:=.int .i64 x46.2.2) (want_cf (t:=90) rfl rfl) (fun hk=>(r_mov rfl)) rfl rfl ?_
    refine o_vg (v:=.bool (x46.2.2 != (0:Int))) (want_cf (t:=90) rfl rfl) (fun hk=>(r_int (gdT hk) rfl rfl)) rfl rfl ?_
    refine o_w (v:=.bool ((!x46.2.1)||(x46.2.2 != (0:Int)))) (r_pickOr rfl rfl (fun hf=>(gdT (notT hf)))) ?_
    refine o_w (v:=.bool ((!x46.2.1)||(x46.2.2 != (0:Int)))) (r_mov rfl) ?_
    refine o_vg (v:=str x82.1) (want_cf (t:=94) rfl rfl) (fun hk=>(r_mov rfl)) rfl rfl ?_
    refine o_vg (v:=str d3) (want_cf (t:=94) rfl rfl) (fun hk=>(r_mov rfl)) rfl rfl ?_
    refine o_vg (v:=.bool (!(x82.1==d3))) (want_cf (t:=94) rfl rfl) (fun hk=>(r_str (gdT hk) (gdT hk) rfl)) rfl rfl ?_
    refine o_w (v:=.bool (((!x46.2.1)||(x46.2.2 != (0:Int)))||(!(x82.1==d3)))) (r_pickOr rfl rfl (fun hf=>(gdT (notT hf)))) ?_
    refine o_w (v:=.bool (((!x46.2.1)||(x46.2.2 != (0:Int)))||(!(x82.1==d3)))) (r_mov rfl) ?_
    refine o_vg (v:=.bool x82.2) (want_cf (t:=99) rfl rfl) (fun hk=>(r_mov rfl)) rfl rfl ?_
    refine o_vg (v:=.bool (!x82.2)) (want_cf (t:=99) rfl rfl) (fun hk=>(r_not (gdT hk))) rfl rfl ?_
    refine o_w (v:=.bool ((((!x46.2.1)||(x46.2.2 != (0:Int)))||(!(x82.1==d3)))||(!x82.2))) (r_pickOr rfl rfl (fun hf=>(gdT (notT hf)))) ?_
    refine eo_nil_sq ?_
    refine ec_cond rfl (fun hc91=>?_) (fun hc91=>?_)
    ·replace h:=h.1 hc91
     refine ec_seq ?_
     refine ec_region ?_
     refine o_w (v:=.bool false) (r_asg rfl) ?_
     refine eo_nil_sq ?_
     refine ec_ret ?_
     refine sq_ret ?_
     subst h
     exact (end1 rfl ⟨_,rfl,E84,rfl⟩)
    ·replace h:=h.2 hc91
     refine ec_skip ?_
     refine sq_n ?_
     refine ec_seq ?_
     refine ec_region ?_
     refine o_w (v:=.agg (cArena d0 A1 c2 A4 c5).toArray) (r_lda agg_api_Arena rfl (vs:=(cArena d0 A1 c2 A4 c5)) rfl ((S7.fr (G78.trans (Fr.ext F82)) (fun _ h=>h)).now.part (n:=3) rfl)) ?_
     refine o_w (v:=.int .i64 d1) (r_mov rfl) ?_
     refine o_w (v:=str d2) (r_mov rfl) ?_
     obtain ⟨ha93,h⟩:=h
     obtain ⟨x92,hx92,h⟩:=h
     refine o_call cf_delta_Delete rfl (delta_Delete_c d0 (kArena_mk (d:=d0) (H3.up (G77.trans (Fr.ext F82)) (fun _ h=>h) (upc (.inr m65) (upc (.inr m33) (fun _ h=>.inl h)))) (H6.up (G77.trans (Fr.ext F82)) (fun _ h=>h) (upc (.inr m65) (upc (.inr m33) (fun _ h=>.inl h))))) d1 d2 (((hL.fr E84).cons (B81.ex F82).lt).cons (B75'.ex F82).lt) (eq_ev hx92 (del_ev d0 d1 d2 ha93))) rfl rfl ?_
     rintro _ w92 ⟨F92,cs94,rfl,H95⟩
     have E96:=E84.trans F92
     obtain ⟨A103,c104,A106,c107,rfl,H105,H108⟩:=kEnt_open H95
     refine o_w (v:=.tuple #[.agg (cEnt x92.1 A103 c104 A106 c107).toArray,.int .i64 x92.2]) (r_mov rfl) ?_
     refine o_w (v:=.agg (cEnt x92.1 A103 c104 A106 c107).toArray) (r_ext rfl rfl) ?_
     refine o_w (v:=.int .i64 x92.2) (r_ext rfl rfl) ?_
     refine o_alloc zero_api_Entry rfl rfl rfl ?_
     intro b109 w109 e109 F109 B109
     have n109:w.heap.size≤b109:=by rw [e109]; exact E96.size
     have q110:b32<b109:=by rw [e109]; exact ((B81.ex F82).ex F92).lt
     have q111:b63<b109:=by rw [e109]; exact ((B75'.ex F82).ex F92).lt
     have m112:w.heap.size≤b109:=by rw [e109]; exact ((G77.trans (Fr.ext F82)).trans (Fr.ext F92)).size
     have m113:w7.heap.size≤b109:=by rw [e109]; exact ((G78.trans (Fr.ext F82)).trans (Fr.ext F92)).size
     have m116:w92.heap.size≤b109:=Nat.le_of_eq e109.symm
     have E117:=E96.trans F109
     have G122:Fr (b63::(b32::L)) w92 w109:=Fr.ext F109
     refine o_store rfl B109 (vs:=(cEnt x92.1 A103 c104 A106 c107)) rfl sz_api_Entry rfl rfl rfl ?_
     intro w125 F125 B125
     have E126:=Ext.st E117 F125 (by simp; omega)
     have G127:Fr L w w125:=(((G77.trans (Fr.ext F82)).trans (Fr.ext F92)).trans (Fr.ext F109)).stp F125 (upc (.inr m112) (fun m hm=>by cases hm))
     have G128:Fr L w7 w125:=(((G78.trans (Fr.ext F82)).trans (Fr.ext F92)).trans (Fr.ext F109)).stp F125 (upc (.inr m113) (fun m hm=>by cases hm))
     have G131:Fr (b63::(b32::L)) w92 w125:=G122.stp F125 (upc (.inr m116) (fun m hm=>by cases hm))
     have B132:=(((B81.ex F82).ex F92).ex F109).fr F125 (by simp; omega)
     have B133:=(((B75'.ex F82).ex F92).ex F109).fr F125 (by simp; omega)
     have B125':Blk w125 b109 _ (cEnt x92.1 A103 c104 A106 c107):=B125
     refine o_w (v:=.int .i64 x92.2) (r_asg rfl) ?_
     refine eo_nil_sq ?_
     iterate 2 refine ec_seq ?_
     refine ec_region ?_
     refine o_w (v:=.int .i64 x92.2) (r_mov rfl) ?_
     refine o_w (v:=.bool (x92.2==(0:Int))) (r_int rfl rfl rfl) ?_
     refine eo_nil_sq ?_
     refine ec_cond rfl (fun hc134=>?_) (fun hc134=>?_)
     ·replace h:=h.1 hc134
      refine ec_seq ?_
      refine ec_region ?_
      refine o_w (v:=.agg (cArena d0 A1 c2 A4 c5).toArray) (r_lda agg_api_Arena rfl (vs:=(cArena d0 A1 c2 A4 c5)) rfl ((S7.fr G128 (fun _ h=>h)).now.part (n:=3) rfl)) ?_
      refine o_w (v:=.agg (cEnt x92.1 A103 c104 A106 c107).toArray) (r_lda agg_api_Entry rfl (vs:=(cEnt x92.1 A103 c104 A106 c107)) rfl (B125'.part (n:=9) rfl)) ?_
      obtain ⟨ha136,h⟩:=h
      obtain ⟨ha137,h⟩:=h
      obtain ⟨ha138,h⟩:=h
      obtain ⟨x135,hx135,h⟩:=h
      refine o_call cf_arena_Join rfl (arena_Join_c d0 (kArena_mk (d:=d0) (H3.up G127 (fun _ h=>h) (upc (.inr m112) (upc (.inr m65) (upc (.inr m33) (fun _ h=>.inl h))))) (H6.up G127 (fun _ h=>h) (upc (.inr m112) (upc (.inr m65) (upc (.inr m33) (fun _ h=>.inl h)))))) x92.1 (kEnt_mk (d:=x92.1) (H105.up G131 (fun _ h=>h) (upc (.inr m116) (upc (.inl (List.Mem.head _)) (upc (.inl (List.Mem.tail _ (List.Mem.head _))) (fun m hm=>Or.inl (List.Mem.tail _ (List.Mem.tail _ hm))))))) (H108.up G131 (fun _ h=>h) (upc (.inr m116) (upc (.inl (List.Mem.head _)) (upc (.inl (List.Mem.tail _ (List.Mem.head _))) (fun m hm=>Or.inl (List.Mem.tail _ (List.Mem.tail _ hm)))))))) ((((hL.fr E126).cons B132.lt).cons B133.lt).cons B125'.lt) (eq_ev hx135 (arJoin_ev d0 x92.1 ha136 ha137 ha138))) rfl rfl ?_
      rintro _ w135 ⟨F135,cs139,rfl,H140⟩
      have E141:=E126.trans F135
      obtain ⟨A150,c151,A153,c154,rfl,H152,H155⟩:=kArena_open H140
      refine o_w (v:=.tuple #[.agg (cArena x135.1 A150 c151 A153 c154).toArray,.bool x135.2.1,.int .i64 x135.2.2]) (r_mov rfl) ?_
      refine o_w (v:=.agg (cArena x135.1 A150 c151 A153 c154).toArray) (r_ext rfl rfl) ?_
      refine o_w (v:=.bool x135.2.1) (r_ext rfl rfl) ?_
      refine o_w (v:=.int .i64 x135.2.2) (r_ext rfl rfl) ?_
      refine o_alloc zero_api_Arena rfl rfl rfl ?_
      intro b156 w156 e156 F156 B156
      have n156:w.heap.size≤b156:=by rw [e156]; exact E141.size
      have q157:b32<b156:=by rw [e156]; exact (B132.ex F135).lt
      have q158:b63<b156:=by rw [e156]; exact (B133.ex F135).lt
      have q159:b109<b156:=by rw [e156]; exact (B125'.ex F135).lt
      have m160:w.heap.size≤b156:=by rw [e156]; exact (G127.trans (Fr.ext F135)).size
      have m161:w7.heap.size≤b156:=by rw [e156]; exact (G128.trans (Fr.ext F135)).size
      have m165:w135.heap.size≤b156:=Nat.le_of_eq e156.symm
      have E166:=E141.trans F156
      have G172:Fr (b109::(b63::(b32::L))) w135 w156:=Fr.ext F156
      refine o_store rfl B156 (vs:=(cArena x135.1 A150 c151 A153 c154)) rfl sz_api_Arena rfl rfl rfl ?_
      intro w176 F176 B176
      have E177:=Ext.st E166 F176 (by simp; omega)
      have G178:Fr L w w176:=((G127.trans (Fr.ext F135)).trans (Fr.ext F156)).stp F176 (upc (.inr m160) (fun m hm=>by cases hm))
      have G179:Fr L w7 w176:=((G128.trans (Fr.ext F135)).trans (Fr.ext F156)).stp F176 (upc (.inr m161) (fun m hm=>by cases hm))
      have G183:Fr (b109::(b63::(b32::L))) w135 w176:=G172.stp F176 (upc (.inr m165) (fun m hm=>by cases hm))
      have B184:=((B132.ex F135).ex F156).fr F176 (by simp; omega)
      have B185:=((B133.ex F135).ex F156).fr F176 (by simp; omega)
      have B186:=((B125'.ex F135).ex F156).fr F176 (by simp; omega)
      have B176':Blk w176 b156 _ (cArena x135.1 A150 c151 A153 c154):=B176
      refine o_w (v:=.bool x135.2.1) (r_asg rfl) ?_
      refine o_w (v:=.int .i64 x135.2.2) (r_asg rfl) ?_
      refine eo_nil_sq ?_
      refine ec_seq ?_
      refine ec_region ?_
      refine o_w (v:=.agg (cArena x135.1 A150 c151 A153 c154).toArray) (r_lda agg_api_Arena rfl (vs:=(cArena x135.1 A150 c151 A153 c154)) rfl (B176'.part (n:=3) rfl)) ?_
      refine o_w (v:=str d2) (r_mov rfl) ?_
      obtain ⟨ha188,h⟩:=h
      obtain ⟨x187,hx187,h⟩:=h
      refine o_call cf_delta_Text rfl (delta_Text_c x135.1 (kArena_mk (d:=x135.1) (H152.up G183 (fun _ h=>h) (upc (.inr m165) (upc (.inl (List.Mem.head _)) (upc (.inl (List.Mem.tail _ (List.Mem.head _))) (upc (.inl (List.Mem.tail _ (List.Mem.tail _ (List.Mem.head _)))) (fun m hm=>Or.inl (List.Mem.tail _ (List.Mem.tail _ (List.Mem.tail _ hm))))))))) (H155.up G183 (fun _ h=>h) (upc (.inr m165) (upc (.inl (List.Mem.head _)) (upc (.inl (List.Mem.tail _ (List.Mem.head _))) (upc (.inl (List.Mem.tail _ (List.Mem.tail _ (List.Mem.head _)))) (fun m hm=>Or.inl (List.Mem.tail _ (List.Mem.tail _ (List.Mem.tail _ hm)))))))))) d2 (((((hL.fr E177).cons B184.lt).cons B185.lt).cons B186.lt).cons B176'.lt) (eq_ev hx187 (text_ev x135.1 d2 ha188))) rfl rfl ?_
      rintro _ w187 ⟨F187,rfl⟩
      have E189:=E177.trans F187
      refine o_w (v:=.tuple #[str x187.1,.bool x187.2]) (r_mov rfl) ?_
      refine o_w (v:=str x187.1) (r_ext rfl rfl) ?_
      refine o_w (v:=.bool x187.2) (r_ext rfl rfl) ?_
      refine o_w (v:=str x187.1) (r_asg rfl) ?_
      refine o_w (v:=.bool x187.2) (r_asg rfl) ?_
      refine eo_nil_sq ?_
      refine ec_seq ?_
      refine ec_region ?_
      refine o_w (v:=.bool x135.2.1) (r_mov rfl) ?_
      refine o_w (v:=.bool (!x135.2.1)) (r_not rfl) ?_
      refine o_w (v:=.bool (!x135.2.1)) (r_mov rfl) ?_
      refine o_vg (v:=.int .i64 x135.2.2) (want_cf (t:=127) rfl rfl) (fun hk=>(r_mov rfl)) rfl rfl ?_
      refine o_vg (v:=.bool (x135.2.2 != (0:Int))) (want_cf (t:=127) rfl rfl) (fun hk=>(r_int (gdT hk) rfl rfl)) rfl rfl ?_
      refine o_w (v:=.bool ((!x135.2.1)||(x135.2.2 != (0:Int)))) (r_pickOr rfl rfl (fun hf=>(gdT (notT hf)))) ?_
      refine o_w (v:=.bool ((!x135.2.1)||(x135.2.2 != (0:Int)))) (r_mov rfl) ?_
      refine o_vg (v:=.bool x187.2) (want_cf (t:=131) rfl rfl) (fun hk=>(r_mov rfl)) rfl rfl ?_
      refine o_w (v:=.bool (((!x135.2.1)||(x135.2.2 != (0:Int)))||x187.2)) (r_pickOr rfl rfl (fun hf=>(gdT (notT hf)))) ?_
      refine eo_nil_sq ?_
      refine ec_cond rfl (fun hc200=>?_) (fun hc200=>?_)
      ·replace h:=h.1 hc200
       refine ec_seq ?_
       refine ec_region ?_
       refine o_w (v:=.bool false) (r_asg rfl) ?_
       refine eo_nil_sq ?_
       refine ec_ret ?_
       refine sq_ret ?_
       subst h
       exact (end1 rfl ⟨_,rfl,E189,rfl⟩)
      ·replace h:=h.2 hc200
       refine ec_skip ?_
       refine sq_n ?_
       refine ec_seq ?_
       refine ec_region ?_
       refine o_w (v:=.agg (cArena d0 A1 c2 A4 c5).toArray) (r_lda agg_api_Arena rfl (vs:=(cArena d0 A1 c2 A4 c5)) rfl ((S7.fr (G179.trans (Fr.ext F187)) (fun _ h=>h)).now.part (n:=3) rfl)) ?_
       refine o_w (v:=.int .i64 d1) (r_mov rfl) ?_
       refine o_w (v:=str d2) (r_mov rfl) ?_
       refine o_w (v:=.int .i64 d4) (r_mov rfl) ?_
       obtain ⟨ha202,h⟩:=h
       obtain ⟨x201,hx201,h⟩:=h
       refine o_call cf_delta_Add rfl (delta_Add_c d0 (kArena_mk (d:=d0) (H3.up (G178.trans (Fr.ext F187)) (fun _ h=>h) (upc (.inr m160) (upc (.inr m112) (upc (.inr m65) (upc (.inr m33) (fun _ h=>.inl h)))))) (H6.up (G178.trans (Fr.ext F187)) (fun _ h=>h) (upc (.inr m160) (upc (.inr m112) (upc (.inr m65) (upc (.inr m33) (fun _ h=>.inl h))))))) d1 d2 d4 (((((hL.fr E189).cons (B184.ex F187).lt).cons (B185.ex F187).lt).cons (B186.ex F187).lt).cons (B176'.ex F187).lt) (eq_ev hx201 (add_ev d0 d1 d2 d4 ha202))) rfl rfl ?_
       rintro _ w201 ⟨F201,cs203,rfl,H204⟩
       have E205:=E189.trans F201
       obtain ⟨A216,c217,A219,c220,rfl,H218,H221⟩:=kEnt_open H204
       refine o_w (v:=.tuple #[.agg (cEnt x201.1 A216 c217 A219 c220).toArray,.int .i64 x201.2]) (r_mov rfl) ?_
       refine o_w (v:=.agg (cEnt x201.1 A216 c217 A219 c220).toArray) (r_ext rfl rfl) ?_
       refine o_w (v:=.int .i64 x201.2) (r_ext rfl rfl) ?_
       refine o_alloc zero_api_Entry rfl rfl rfl ?_
       intro b222 w222 e222 F222 B222
       have n222:w.heap.size≤b222:=by rw [e222]; exact E205.size
       have q223:b32<b222:=by rw [e222]; exact ((B184.ex F187).ex F201).lt
       have q224:b63<b222:=by rw [e222]; exact ((B185.ex F187).ex F201).lt
       have q225:b109<b222:=by rw [e222]; exact ((B186.ex F187).ex F201).lt
       have q226:b156<b222:=by rw [e222]; exact ((B176'.ex F187).ex F201).lt
       have m227:w.heap.size≤b222:=by rw [e222]; exact ((G178.trans (Fr.ext F187)).trans (Fr.ext F201)).size
       have m228:w7.heap.size≤b222:=by rw [e222]; exact ((G179.trans (Fr.ext F187)).trans (Fr.ext F201)).size
       have m233:w201.heap.size≤b222:=Nat.le_of_eq e222.symm
       have E234:=E205.trans F222
       have G235:=((G178.trans (Fr.ext F187)).trans (Fr.ext F201)).trans (Fr.ext F222)
       have G236:=((G179.trans (Fr.ext F187)).trans (Fr.ext F201)).trans (Fr.ext F222)
       have G241:Fr (b156::(b109::(b63::(b32::L)))) w201 w222:=Fr.ext F222
       refine o_store rfl B222 (vs:=(cEnt x201.1 A216 c217 A219 c220)) rfl sz_api_Entry rfl rfl rfl ?_
       intro w246 F246 B246
       have E247:=Ext.st E234 F246 (by simp; omega)
       have G248:Fr L w w246:=G235.stp F246 (upc (.inr m227) (fun m hm=>by cases hm))
       have G249:Fr L w7 w246:=G236.stp F246 (upc (.inr m228) (fun m hm=>by cases hm))
       have G254:Fr (b156::(b109::(b63::(b32::L)))) w201 w246:=G241.stp F246 (upc (.inr m233) (fun m hm=>by cases hm))
       have B255:=(((B184.ex F187).ex F201).ex F222).fr F246 (by simp; omega)
       have B256:=(((B185.ex F187).ex F201).ex F222).fr F246 (by simp; omega)
       have B257:=(((B186.ex F187).ex F201).ex F222).fr F246 (by simp; omega)
       have B258:=(((B176'.ex F187).ex F201).ex F222).fr F246 (by simp; omega)
       have B246':Blk w246 b222 _ (cEnt x201.1 A216 c217 A219 c220):=B246
       refine o_w (v:=.int .i64 x201.2) (r_asg rfl) ?_
       refine eo_nil_sq ?_
       iterate 2 refine ec_seq ?_
       refine ec_region ?_
       refine o_w (v:=.int .i64 x201.2) (r_mov rfl) ?_
       refine o_w (v:=.bool (x201.2==(0:Int))) (r_int rfl rfl rfl) ?_
       refine eo_nil_sq ?_
       refine ec_cond rfl (fun hc259=>?_) (fun hc259=>?_)
       ·replace h:=h.1 hc259
        refine ec_seq ?_
        refine ec_region ?_
        refine o_w (v:=.agg (cArena d0 A1 c2 A4 c5).toArray) (r_lda agg_api_Arena rfl (vs:=(cArena d0 A1 c2 A4 c5)) rfl ((S7.fr G249 (fun _ h=>h)).now.part (n:=3) rfl)) ?_
        refine o_w (v:=.agg (cEnt x201.1 A216 c217 A219 c220).toArray) (r_lda agg_api_Entry rfl (vs:=(cEnt x201.1 A216 c217 A219 c220)) rfl (B246'.part (n:=9) rfl)) ?_
        obtain ⟨ha261,h⟩:=h
        obtain ⟨ha262,h⟩:=h
        obtain ⟨ha263,h⟩:=h
        obtain ⟨x260,hx260,h⟩:=h
        refine o_call cf_arena_Join rfl (arena_Join_c d0 (kArena_mk (d:=d0) (H3.up G248 (fun _ h=>h) (upc (.inr m227) (upc (.inr m160) (upc (.inr m112) (upc (.inr m65) (upc (.inr m33) (fun _ h=>.inl h))))))) (H6.up G248 (fun _ h=>h) (upc (.inr m227) (upc (.inr m160) (upc (.inr m112) (upc (.inr m65) (upc (.inr m33) (fun _ h=>.inl h)))))))) x201.1 (kEnt_mk (d:=x201.1) (H218.up G254 (fun _ h=>h) (upc (.inr m233) (upc (.inl (List.Mem.head _)) (upc (.inl (List.Mem.tail _ (List.Mem.head _))) (upc (.inl (List.Mem.tail _ (List.Mem.tail _ (List.Mem.head _)))) (upc (.inl (List.Mem.tail _ (List.Mem.tail _ (List.Mem.tail _ (List.Mem.head _))))) (fun m hm=>Or.inl (List.Mem.tail _ (List.Mem.tail _ (List.Mem.tail _ (List.Mem.tail _ hm))))))))))) (H221.up G254 (fun _ h=>h) (upc (.inr m233) (upc (.inl (List.Mem.head _)) (upc (.inl (List.Mem.tail _ (List.Mem.head _))) (upc (.inl (List.Mem.tail _ (List.Mem.tail _ (List.Mem.head _)))) (upc (.inl (List.Mem.tail _ (List.Mem.tail _ (List.Mem.tail _ (List.Mem.head _))))) (fun m hm=>Or.inl (List.Mem.tail _ (List.Mem.tail _ (List.Mem.tail _ (List.Mem.tail _ hm)))))))))))) ((((((hL.fr E247).cons B255.lt).cons B256.lt).cons B257.lt).cons B258.lt).cons B246'.lt) (eq_ev hx260 (arJoin_ev d0 x201.1 ha261 ha262 ha263))) rfl rfl ?_
        rintro _ w260 ⟨F260,cs264,rfl,H265⟩
        have E266:=E247.trans F260
        obtain ⟨A279,c280,A282,c283,rfl,H281,H284⟩:=kArena_open H265
        refine o_w (v:=.tuple #[.agg (cArena x260.1 A279 c280 A282 c283).toArray,.bool x260.2.1,.int .i64 x260.2.2]) (r_mov rfl) ?_
        refine o_w (v:=.agg (cArena x260.1 A279 c280 A282 c283).toArray) (r_ext rfl rfl) ?_
        refine o_w (v:=.bool x260.2.1) (r_ext rfl rfl) ?_
        refine o_w (v:=.int .i64 x260.2.2) (r_ext rfl rfl) ?_
        refine o_alloc zero_api_Arena rfl rfl rfl ?_
        intro b285 w285 e285 F285 B285
        have n285:w.heap.size≤b285:=by rw [e285]; exact E266.size
        have q286:b32<b285:=by rw [e285]; exact (B255.ex F260).lt
        have q287:b63<b285:=by rw [e285]; exact (B256.ex F260).lt
        have q288:b109<b285:=by rw [e285]; exact (B257.ex F260).lt
        have q289:b156<b285:=by rw [e285]; exact (B258.ex F260).lt
        have q290:b222<b285:=by rw [e285]; exact (B246'.ex F260).lt
        have m291:w.heap.size≤b285:=by rw [e285]; exact (G248.trans (Fr.ext F260)).size
        have m292:w7.heap.size≤b285:=by rw [e285]; exact (G249.trans (Fr.ext F260)).size
        have m298:w260.heap.size≤b285:=Nat.le_of_eq e285.symm
        have E299:=E266.trans F285
        have G307:Fr (b222::(b156::(b109::(b63::(b32::L))))) w260 w285:=Fr.ext F285
        refine o_store rfl B285 (vs:=(cArena x260.1 A279 c280 A282 c283)) rfl sz_api_Arena rfl rfl rfl ?_
        intro w313 F313 B313
        have E314:=Ext.st E299 F313 (by simp; omega)
        have G315:Fr L w w313:=((G248.trans (Fr.ext F260)).trans (Fr.ext F285)).stp F313 (upc (.inr m291) (fun m hm=>by cases hm))
        have G316:Fr L w7 w313:=((G249.trans (Fr.ext F260)).trans (Fr.ext F285)).stp F313 (upc (.inr m292) (fun m hm=>by cases hm))
        have G322:Fr (b222::(b156::(b109::(b63::(b32::L))))) w260 w313:=G307.stp F313 (upc (.inr m298) (fun m hm=>by cases hm))
        have B323:=((B255.ex F260).ex F285).fr F313 (by simp; omega)
        have B324:=((B256.ex F260).ex F285).fr F313 (by simp; omega)
        have B325:=((B257.ex F260).ex F285).fr F313 (by simp; omega)
        have B326:=((B258.ex F260).ex F285).fr F313 (by simp; omega)
        have B327:=((B246'.ex F260).ex F285).fr F313 (by simp; omega)
        have B313':Blk w313 b285 _ (cArena x260.1 A279 c280 A282 c283):=B313
        refine o_w (v:=.bool x260.2.1) (r_asg rfl) ?_
        refine o_w (v:=.int .i64 x260.2.2) (r_asg rfl) ?_
        refine eo_nil_sq ?_
        refine ec_seq ?_
        refine ec_region ?_
        refine o_w (v:=.agg (cArena d0 A1 c2 A4 c5).toArray) (r_lda agg_api_Arena rfl (vs:=(cArena d0 A1 c2 A4 c5)) rfl ((S7.fr G316 (fun _ h=>h)).now.part (n:=3) rfl)) ?_
        refine o_w (v:=str d2) (r_mov rfl) ?_
        obtain ⟨ha329,h⟩:=h
        obtain ⟨x328,hx328,h⟩:=h
        refine o_call cf_delta_Sum rfl (delta_Sum_c d0 (kArena_mk (d:=d0) (H3.up G315 (fun _ h=>h) (upc (.inr m291) (upc (.inr m227) (upc (.inr m160) (upc (.inr m112) (upc (.inr m65) (upc (.inr m33) (fun _ h=>.inl h)))))))) (H6.up G315 (fun _ h=>h) (upc (.inr m291) (upc (.inr m227) (upc (.inr m160) (upc (.inr m112) (upc (.inr m65) (upc (.inr m33) (fun _ h=>.inl h))))))))) d2 (((((((hL.fr E314).cons B323.lt).cons B324.lt).cons B325.lt).cons B326.lt).cons B327.lt).cons B313'.lt) (eq_ev hx328 (sum_ev d0 d2 ha329))) rfl rfl ?_
        rintro _ w328 ⟨F328,rfl⟩
        have E330:=E314.trans F328
        refine o_w (v:=.tuple #[.int .i64 x328.1,.bool x328.2]) (r_mov rfl) ?_
        refine o_w (v:=.int .i64 x328.1) (r_ext rfl rfl) ?_
        refine o_w (v:=.bool x328.2) (r_ext rfl rfl) ?_
        refine o_w (v:=.int .i64 x328.1) (r_asg rfl) ?_
        refine o_w (v:=.bool x328.2) (r_asg rfl) ?_
        refine eo_nil_sq ?_
        refine ec_seq ?_
        refine ec_region ?_
        refine o_w (v:=.agg (cArena x260.1 A279 c280 A282 c283).toArray) (r_lda agg_api_Arena rfl (vs:=(cArena x260.1 A279 c280 A282 c283)) rfl ((B313'.ex F328).part (n:=3) rfl)) ?_
        refine o_w (v:=str d2) (r_mov rfl) ?_
        obtain ⟨ha346,h⟩:=h
        obtain ⟨x345,hx345,h⟩:=h
        refine o_call cf_delta_Sum rfl (delta_Sum_c x260.1 (kArena_mk (d:=x260.1) (H281.up (G322.trans (Fr.ext F328)) (fun _ h=>h) (upc (.inr m298) (upc (.inl (List.Mem.head _)) (upc (.inl (List.Mem.tail _ (List.Mem.head _))) (upc (.inl (List.Mem.tail _ (List.Mem.tail _ (List.Mem.head _)))) (upc (.inl (List.Mem.tail _ (List.Mem.tail _ (List.Mem.tail _ (List.Mem.head _))))) (upc (.inl (List.Mem.tail _ (List.Mem.tail _ (List.Mem.tail _ (List.Mem.tail _ (List.Mem.head _)))))) (fun m hm=>Or.inl (List.Mem.tail _ (List.Mem.tail _ (List.Mem.tail _ (List.Mem.tail _ (List.Mem.tail _ hm))))))))))))) (H284.up (G322.trans (Fr.ext F328)) (fun _ h=>h) (upc (.inr m298) (upc (.inl (List.Mem.head _)) (upc (.inl (List.Mem.tail _ (List.Mem.head _))) (upc (.inl (List.Mem.tail _ (List.Mem.tail _ (List.Mem.head _)))) (upc (.inl (List.Mem.tail _ (List.Mem.tail _ (List.Mem.tail _ (List.Mem.head _))))) (upc (.inl (List.Mem.tail _ (List.Mem.tail _ (List.Mem.tail _ (List.Mem.tail _ (List.Mem.head _)))))) (fun m hm=>Or.inl (List.Mem.tail _ (List.Mem.tail _ (List.Mem.tail _ (List.Mem.tail _ (List.Mem.tail _ hm)))))))))))))) d2 (((((((hL.fr E330).cons (B323.ex F328).lt).cons (B324.ex F328).lt).cons (B325.ex F328).lt).cons (B326.ex F328).lt).cons (B327.ex F328).lt).cons (B313'.ex F328).lt) (eq_ev hx345 (sum_ev x260.1 d2 ha346))) rfl rfl ?_
        rintro _ w345 ⟨F345,rfl⟩
        have E347:=E330.trans F345
        refine o_w (v:=.tuple #[.int .i64 x345.1,.bool x345.2]) (r_mov rfl) ?_
        refine o_w (v:=.int .i64 x345.1) (r_ext rfl rfl) ?_
        refine o_w (v:=.bool x345.2) (r_ext rfl rfl) ?_
        refine o_w (v:=.int .i64 x345.1) (r_asg rfl) ?_
        refine o_w (v:=.bool x345.2) (r_asg rfl) ?_
        refine eo_nil_sq ?_
        refine ec_seq ?_
        refine ec_region ?_
        refine o_w (v:=.bool x260.2.1) (r_mov rfl) ?_
        refine o_w (v:=.bool (!x260.2.1)) (r_not rfl) ?_
        refine o_w (v:=.bool (!x260.2.1)) (r_mov rfl) ?_
        refine o_vg (v:=.int .i64 x260.2.2) (want_cf (t:=165) rfl rfl) (fun hk=>(r_mov rfl)) rfl rfl ?_
        refine o_vg (v:=.bool (x260.2.2 != (0:Int))) (want_cf (t:=165) rfl rfl) (fun hk=>(r_int (gdT hk) rfl rfl)) rfl rfl ?_
        refine o_w (v:=.bool ((!x260.2.1)||(x260.2.2 != (0:Int)))) (r_pickOr rfl rfl (fun hf=>(gdT (notT hf)))) ?_
        refine o_w (v:=.bool ((!x260.2.1)||(x260.2.2 != (0:Int)))) (r_mov rfl) ?_
        refine o_vg (v:=.bool x345.2) (want_cf (t:=169) rfl rfl) (fun hk=>(r_mov rfl)) rfl rfl ?_
        refine o_vg (v:=.bool (!x345.2)) (want_cf (t:=169) rfl rfl) (fun hk=>(r_not (gdT hk))) rfl rfl ?_
        refine o_w (v:=.bool (((!x260.2.1)||(x260.2.2 != (0:Int)))||(!x345.2))) (r_pickOr rfl rfl (fun hf=>(gdT (notT hf)))) ?_
        refine o_w (v:=.bool (((!x260.2.1)||(x260.2.2 != (0:Int)))||(!x345.2))) (r_mov rfl) ?_
        refine o_vg (v:=.int .i64 x345.1) (want_cf (t:=173) rfl rfl) (fun hk=>(r_mov rfl)) rfl rfl ?_
        refine o_vg (v:=.int .i64 x328.1) (want_cf (t:=173) rfl rfl) (fun hk=>(r_mov rfl)) rfl rfl ?_
        refine o_vg (v:=.int .i64 d4) (want_cf (t:=173) rfl rfl) (fun hk=>(r_mov rfl)) rfl rfl ?_
        refine o_vg (v:=.int .i64 (IntKind.i64.wrap (x328.1 + d4))) (want_cf (t:=173) rfl rfl) (fun hk=>(r_int (gdT hk) (gdT hk) rfl)) rfl rfl ?_
        refine o_vg (v:=.bool (x345.1 != (IntKind.i64.wrap (x328.1 + d4)))) (want_cf (t:=173) rfl rfl) (fun hk=>(r_int (gdT hk) (gdT hk) rfl)) rfl rfl ?_
        refine o_w (v:=.bool ((((!x260.2.1)||(x260.2.2 != (0:Int)))||(!x345.2))||(x345.1 != (IntKind.i64.wrap (x328.1 + d4))))) (r_pickOr rfl rfl (fun hf=>(gdT (notT hf)))) ?_
        refine eo_nil_sq ?_
        refine ec_cond rfl (fun hc362=>?_) (fun hc362=>?_)
        ·replace h:=h.1 hc362
         refine ec_seq ?_
         refine ec_region ?_
         refine o_w (v:=.bool false) (r_asg rfl) ?_
         refine eo_nil_sq ?_
         refine ec_ret ?_
         refine sq_ret ?_
         subst h
         exact (end1 rfl ⟨_,rfl,E347,rfl⟩)
        ·replace h:=h.2 hc362
         refine ec_skip ?_
         refine sq_n ?_
         refine ec_seq ?_
         refine ec_region ?_
         refine o_w (v:=.agg (cArena d0 A1 c2 A4 c5).toArray) (r_lda agg_api_Arena rfl (vs:=(cArena d0 A1 c2 A4 c5)) rfl ((S7.fr ((G316.trans (Fr.ext F328)).trans (Fr.ext F345)) (fun _ h=>h)).now.part (n:=3) rfl)) ?_
         refine o_w (v:=str d2) (r_mov rfl) ?_
         refine o_w (v:=.int .u64 d5) (r_mov rfl) ?_
         obtain ⟨ha364,h⟩:=h
         obtain ⟨x363,hx363,h⟩:=h
         refine o_call cf_delta_Set rfl (delta_Set_c d0 (kArena_mk (d:=d0) (H3.up ((G315.trans (Fr.ext F328)).trans (Fr.ext F345)) (fun _ h=>h) (upc (.inr m291) (upc (.inr m227) (upc (.inr m160) (upc (.inr m112) (upc (.inr m65) (upc (.inr m33) (fun _ h=>.inl h)))))))) (H6.up ((G315.trans (Fr.ext F328)).trans (Fr.ext F345)) (fun _ h=>h) (upc (.inr m291) (upc (.inr m227) (upc (.inr m160) (upc (.inr m112) (upc (.inr m65) (upc (.inr m33) (fun _ h=>.inl h))))))))) d2 d5 (((((((hL.fr E347).cons ((B323.ex F328).ex F345).lt).cons ((B324.ex F328).ex F345).lt).cons ((B325.ex F328).ex F345).lt).cons ((B326.ex F328).ex F345).lt).cons ((B327.ex F328).ex F345).lt).cons ((B313'.ex F328).ex F345).lt) (eq_ev hx363 (set_ev d0 d2 d5 ha364))) rfl rfl ?_
         rintro _ w363 ⟨F363,cs365,rfl,H366⟩
         have E367:=E347.trans F363
         have G368:=((G315.trans (Fr.ext F328)).trans (Fr.ext F345)).trans (Fr.ext F363)
         have G369:=((G316.trans (Fr.ext F328)).trans (Fr.ext F345)).trans (Fr.ext F363)
         obtain ⟨A382,c383,A385,c386,rfl,H384,H387⟩:=kEnt_open H366
         refine o_w (v:=.tuple #[.agg (cEnt x363.1 A382 c383 A385 c386).toArray,.int .i64 x363.2]) (r_mov rfl) ?_
         refine o_w (v:=.agg (cEnt x363.1 A382 c383 A385 c386).toArray) (r_ext rfl rfl) ?_
         refine o_w (v:=.int .i64 x363.2) (r_ext rfl rfl) ?_
         refine o_alloc zero_api_Entry rfl rfl rfl ?_
         intro b388 w388 e388 F388 B388
         have n388:w.heap.size≤b388:=by rw [e388]; exact E367.size
         have q389:b32<b388:=by rw [e388]; exact (((B323.ex F328).ex F345).ex F363).lt
         have q390:b63<b388:=by rw [e388]; exact (((B324.ex F328).ex F345).ex F363).lt
         have q391:b109<b388:=by rw [e388]; exact (((B325.ex F328).ex F345).ex F363).lt
         have q392:b156<b388:=by rw [e388]; exact (((B326.ex F328).ex F345).ex F363).lt
         have q393:b222<b388:=by rw [e388]; exact (((B327.ex F328).ex F345).ex F363).lt
         have q394:b285<b388:=by rw [e388]; exact (((B313'.ex F328).ex F345).ex F363).lt
         have m395:w.heap.size≤b388:=by rw [e388]; exact G368.size
         have m396:w7.heap.size≤b388:=by rw [e388]; exact G369.size
         have m403:w363.heap.size≤b388:=Nat.le_of_eq e388.symm
         have E404:=E367.trans F388
         have G413:Fr (b285::(b222::(b156::(b109::(b63::(b32::L)))))) w363 w388:=Fr.ext F388
         refine o_store rfl B388 (vs:=(cEnt x363.1 A382 c383 A385 c386)) rfl sz_api_Entry rfl rfl rfl ?_
         intro w420 F420 B420
         have E421:=Ext.st E404 F420 (by simp; omega)
         have G422:Fr L w w420:=(G368.trans (Fr.ext F388)).stp F420 (upc (.inr m395) (fun m hm=>by cases hm))
         have G423:Fr L w7 w420:=(G369.trans (Fr.ext F388)).stp F420 (upc (.inr m396) (fun m hm=>by cases hm))
         have G430:Fr (b285::(b222::(b156::(b109::(b63::(b32::L)))))) w363 w420:=G413.stp F420 (upc (.inr m403) (fun m hm=>by cases hm))
         have B431:=((((B323.ex F328).ex F345).ex F363).ex F388).fr F420 (by simp; omega)
         have B432:=((((B324.ex F328).ex F345).ex F363).ex F388).fr F420 (by simp; omega)
         have B433:=((((B325.ex F328).ex F345).ex F363).ex F388).fr F420 (by simp; omega)
         have B434:=((((B326.ex F328).ex F345).ex F363).ex F388).fr F420 (by simp; omega)
         have B435:=((((B327.ex F328).ex F345).ex F363).ex F388).fr F420 (by simp; omega)
         have B436:=((((B313'.ex F328).ex F345).ex F363).ex F388).fr F420 (by simp; omega)
         have B420':Blk w420 b388 _ (cEnt x363.1 A382 c383 A385 c386):=B420
         refine o_w (v:=.int .i64 x363.2) (r_asg rfl) ?_
         refine eo_nil_sq ?_
         iterate 2 refine ec_seq ?_
         refine ec_region ?_
         refine o_w (v:=.int .i64 x363.2) (r_mov rfl) ?_
         refine o_w (v:=.bool (x363.2==(0:Int))) (r_int rfl rfl rfl) ?_
         refine eo_nil_sq ?_
         refine ec_cond rfl (fun hc437=>?_) (fun hc437=>?_)
         ·replace h:=h.1 hc437
          refine ec_seq ?_
          refine ec_region ?_
          refine o_w (v:=.agg (cArena d0 A1 c2 A4 c5).toArray) (r_lda agg_api_Arena rfl (vs:=(cArena d0 A1 c2 A4 c5)) rfl ((S7.fr G423 (fun _ h=>h)).now.part (n:=3) rfl)) ?_
          refine o_w (v:=.agg (cEnt x363.1 A382 c383 A385 c386).toArray) (r_lda agg_api_Entry rfl (vs:=(cEnt x363.1 A382 c383 A385 c386)) rfl (B420'.part (n:=9) rfl)) ?_
          obtain ⟨ha439,h⟩:=h
          obtain ⟨ha440,h⟩:=h
          obtain ⟨ha441,h⟩:=h
          obtain ⟨x438,hx438,h⟩:=h
          refine o_call cf_arena_Join rfl (arena_Join_c d0 (kArena_mk (d:=d0) (H3.up G422 (fun _ h=>h) (upc (.inr m395) (upc (.inr m291) (upc (.inr m227) (upc (.inr m160) (upc (.inr m112) (upc (.inr m65) (upc (.inr m33) (fun _ h=>.inl h))))))))) (H6.up G422 (fun _ h=>h) (upc (.inr m395) (upc (.inr m291) (upc (.inr m227) (upc (.inr m160) (upc (.inr m112) (upc (.inr m65) (upc (.inr m33) (fun _ h=>.inl h)))))))))) x363.1 (kEnt_mk (d:=x363.1) (H384.up G430 (fun _ h=>h) (upc (.inr m403) (upc (.inl (List.Mem.head _)) (upc (.inl (List.Mem.tail _ (List.Mem.head _))) (upc (.inl (List.Mem.tail _ (List.Mem.tail _ (List.Mem.head _)))) (upc (.inl (List.Mem.tail _ (List.Mem.tail _ (List.Mem.tail _ (List.Mem.head _))))) (upc (.inl (List.Mem.tail _ (List.Mem.tail _ (List.Mem.tail _ (List.Mem.tail _ (List.Mem.head _)))))) (upc (.inl (List.Mem.tail _ (List.Mem.tail _ (List.Mem.tail _ (List.Mem.tail _ (List.Mem.tail _ (List.Mem.head _))))))) (fun m hm=>Or.inl (List.Mem.tail _ (List.Mem.tail _ (List.Mem.tail _ (List.Mem.tail _ (List.Mem.tail _ (List.Mem.tail _ hm))))))))))))))) (H387.up G430 (fun _ h=>h) (upc (.inr m403) (upc (.inl (List.Mem.head _)) (upc (.inl (List.Mem.tail _ (List.Mem.head _))) (upc (.inl (List.Mem.tail _ (List.Mem.tail _ (List.Mem.head _)))) (upc (.inl (List.Mem.tail _ (List.Mem.tail _ (List.Mem.tail _ (List.Mem.head _))))) (upc (.inl (List.Mem.tail _ (List.Mem.tail _ (List.Mem.tail _ (List.Mem.tail _ (List.Mem.head _)))))) (upc (.inl (List.Mem.tail _ (List.Mem.tail _ (List.Mem.tail _ (List.Mem.tail _ (List.Mem.tail _ (List.Mem.head _))))))) (fun m hm=>Or.inl (List.Mem.tail _ (List.Mem.tail _ (List.Mem.tail _ (List.Mem.tail _ (List.Mem.tail _ (List.Mem.tail _ hm)))))))))))))))) ((((((((hL.fr E421).cons B431.lt).cons B432.lt).cons B433.lt).cons B434.lt).cons B435.lt).cons B436.lt).cons B420'.lt) (eq_ev hx438 (arJoin_ev d0 x363.1 ha439 ha440 ha441))) rfl rfl ?_
          rintro _ w438 ⟨F438,cs442,rfl,H443⟩
          have E444:=E421.trans F438
          obtain ⟨A461,c462,A464,c465,rfl,H463,H466⟩:=kArena_open H443
          refine o_w (v:=.tuple #[.agg (cArena x438.1 A461 c462 A464 c465).toArray,.bool x438.2.1,.int .i64 x438.2.2]) (r_mov rfl) ?_
          refine o_w (v:=.agg (cArena x438.1 A461 c462 A464 c465).toArray) (r_ext rfl rfl) ?_
          refine o_w (v:=.bool x438.2.1) (r_ext rfl rfl) ?_
          refine o_w (v:=.int .i64 x438.2.2) (r_ext rfl rfl) ?_
          refine o_alloc zero_api_Arena rfl rfl rfl ?_
          intro b467 w467 e467 F467 B467
          have n467:w.heap.size≤b467:=by rw [e467]; exact E444.size
          have q468:b32<b467:=by rw [e467]; exact (B431.ex F438).lt
          have q469:b63<b467:=by rw [e467]; exact (B432.ex F438).lt
          have q470:b109<b467:=by rw [e467]; exact (B433.ex F438).lt
          have q471:b156<b467:=by rw [e467]; exact (B434.ex F438).lt
          have q472:b222<b467:=by rw [e467]; exact (B435.ex F438).lt
          have q473:b285<b467:=by rw [e467]; exact (B436.ex F438).lt
          have q474:b388<b467:=by rw [e467]; exact (B420'.ex F438).lt
          have m475:w.heap.size≤b467:=by rw [e467]; exact (G422.trans (Fr.ext F438)).size
          have m476:w7.heap.size≤b467:=by rw [e467]; exact (G423.trans (Fr.ext F438)).size
          have m484:w438.heap.size≤b467:=Nat.le_of_eq e467.symm
          have E485:=E444.trans F467
          have G495:Fr (b388::(b285::(b222::(b156::(b109::(b63::(b32::L))))))) w438 w467:=Fr.ext F467
          refine o_store rfl B467 (vs:=(cArena x438.1 A461 c462 A464 c465)) rfl sz_api_Arena rfl rfl rfl ?_
          intro w503 F503 B503
          have E504:=Ext.st E485 F503 (by simp; omega)
          have G505:Fr L w w503:=((G422.trans (Fr.ext F438)).trans (Fr.ext F467)).stp F503 (upc (.inr m475) (fun m hm=>by cases hm))
          have G506:Fr L w7 w503:=((G423.trans (Fr.ext F438)).trans (Fr.ext F467)).stp F503 (upc (.inr m476) (fun m hm=>by cases hm))
          have G514:Fr (b388::(b285::(b222::(b156::(b109::(b63::(b32::L))))))) w438 w503:=G495.stp F503 (upc (.inr m484) (fun m hm=>by cases hm))
          have B515:=((B431.ex F438).ex F467).fr F503 (by simp; omega)
          have B516:=((B432.ex F438).ex F467).fr F503 (by simp; omega)
          have B517:=((B433.ex F438).ex F467).fr F503 (by simp; omega)
          have B518:=((B434.ex F438).ex F467).fr F503 (by simp; omega)
          have B519:=((B435.ex F438).ex F467).fr F503 (by simp; omega)
          have B520:=((B436.ex F438).ex F467).fr F503 (by simp; omega)
          have B521:=((B420'.ex F438).ex F467).fr F503 (by simp; omega)
          have B503':Blk w503 b467 _ (cArena x438.1 A461 c462 A464 c465):=B503
          refine o_w (v:=.bool x438.2.1) (r_asg rfl) ?_
          refine o_w (v:=.int .i64 x438.2.2) (r_asg rfl) ?_
          refine eo_nil_sq ?_
          refine ec_seq ?_
          refine ec_region ?_
          refine o_w (v:=.agg (cArena d0 A1 c2 A4 c5).toArray) (r_lda agg_api_Arena rfl (vs:=(cArena d0 A1 c2 A4 c5)) rfl ((S7.fr G506 (fun _ h=>h)).now.part (n:=3) rfl)) ?_
          refine o_w (v:=str d2) (r_mov rfl) ?_
          obtain ⟨ha523,h⟩:=h
          obtain ⟨x522,hx522,h⟩:=h
          refine o_call cf_delta_Flags rfl (delta_Flags_c d0 (kArena_mk (d:=d0) (H3.up G505 (fun _ h=>h) (upc (.inr m475) (upc (.inr m395) (upc (.inr m291) (upc (.inr m227) (upc (.inr m160) (upc (.inr m112) (upc (.inr m65) (upc (.inr m33) (fun _ h=>.inl h)))))))))) (H6.up G505 (fun _ h=>h) (upc (.inr m475) (upc (.inr m395) (upc (.inr m291) (upc (.inr m227) (upc (.inr m160) (upc (.inr m112) (upc (.inr m65) (upc (.inr m33) (fun _ h=>.inl h))))))))))) d2 (((((((((hL.fr E504).cons B515.lt).cons B516.lt).cons B517.lt).cons B518.lt).cons B519.lt).cons B520.lt).cons B521.lt).cons B503'.lt) (eq_ev hx522 (flags_ev d0 d2 ha523))) rfl rfl ?_
          rintro _ w522 ⟨F522,rfl⟩
          have E524:=E504.trans F522
          refine o_w (v:=.tuple #[.int .u64 x522.1,.bool x522.2]) (r_mov rfl) ?_
          refine o_w (v:=.int .u64 x522.1) (r_ext rfl rfl) ?_
          refine o_w (v:=.bool x522.2) (r_ext rfl rfl) ?_
          refine o_w (v:=.int .u64 x522.1) (r_asg rfl) ?_
          refine o_w (v:=.bool x522.2) (r_asg rfl) ?_
          refine eo_nil_sq ?_
          refine ec_seq ?_
          refine ec_region ?_
          refine o_w (v:=.agg (cArena x438.1 A461 c462 A464 c465).toArray) (r_lda agg_api_Arena rfl (vs:=(cArena x438.1 A461 c462 A464 c465)) rfl ((B503'.ex F522).part (n:=3) rfl)) ?_
          refine o_w (v:=str d2) (r_mov rfl) ?_
          obtain ⟨ha544,h⟩:=h
          obtain ⟨x543,hx543,h⟩:=h
          refine o_call cf_delta_Flags rfl (delta_Flags_c x438.1 (kArena_mk (d:=x438.1) (H463.up (G514.trans (Fr.ext F522)) (fun _ h=>h) (upc (.inr m484) (upc (.inl (List.Mem.head _)) (upc (.inl (List.Mem.tail _ (List.Mem.head _))) (upc (.inl (List.Mem.tail _ (List.Mem.tail _ (List.Mem.head _)))) (upc (.inl (List.Mem.tail _ (List.Mem.tail _ (List.Mem.tail _ (List.Mem.head _))))) (upc (.inl (List.Mem.tail _ (List.Mem.tail _ (List.Mem.tail _ (List.Mem.tail _ (List.Mem.head _)))))) (upc (.inl (List.Mem.tail _ (List.Mem.tail _ (List.Mem.tail _ (List.Mem.tail _ (List.Mem.tail _ (List.Mem.head _))))))) (upc (.inl (List.Mem.tail _ (List.Mem.tail _ (List.Mem.tail _ (List.Mem.tail _ (List.Mem.tail _ (List.Mem.tail _ (List.Mem.head _)))))))) (fun m hm=>Or.inl (List.Mem.tail _ (List.Mem.tail _ (List.Mem.tail _ (List.Mem.tail _ (List.Mem.tail _ (List.Mem.tail _ (List.Mem.tail _ hm))))))))))))))))) (H466.up (G514.trans (Fr.ext F522)) (fun _ h=>h) (upc (.inr m484) (upc (.inl (List.Mem.head _)) (upc (.inl (List.Mem.tail _ (List.Mem.head _))) (upc (.inl (List.Mem.tail _ (List.Mem.tail _ (List.Mem.head _)))) (upc (.inl (List.Mem.tail _ (List.Mem.tail _ (List.Mem.tail _ (List.Mem.head _))))) (upc (.inl (List.Mem.tail _ (List.Mem.tail _ (List.Mem.tail _ (List.Mem.tail _ (List.Mem.head _)))))) (upc (.inl (List.Mem.tail _ (List.Mem.tail _ (List.Mem.tail _ (List.Mem.tail _ (List.Mem.tail _ (List.Mem.head _))))))) (upc (.inl (List.Mem.tail _ (List.Mem.tail _ (List.Mem.tail _ (List.Mem.tail _ (List.Mem.tail _ (List.Mem.tail _ (List.Mem.head _)))))))) (fun m hm=>Or.inl (List.Mem.tail _ (List.Mem.tail _ (List.Mem.tail _ (List.Mem.tail _ (List.Mem.tail _ (List.Mem.tail _ (List.Mem.tail _ hm)))))))))))))))))) d2 (((((((((hL.fr E524).cons (B515.ex F522).lt).cons (B516.ex F522).lt).cons (B517.ex F522).lt).cons (B518.ex F522).lt).cons (B519.ex F522).lt).cons (B520.ex F522).lt).cons (B521.ex F522).lt).cons (B503'.ex F522).lt) (eq_ev hx543 (flags_ev x438.1 d2 ha544))) rfl rfl ?_
          rintro _ w543 ⟨F543,rfl⟩
          have E545:=E524.trans F543
          refine o_w (v:=.tuple #[.int .u64 x543.1,.bool x543.2]) (r_mov rfl) ?_
          refine o_w (v:=.int .u64 x543.1) (r_ext rfl rfl) ?_
          refine o_w (v:=.bool x543.2) (r_ext rfl rfl) ?_
          refine o_w (v:=.int .u64 x543.1) (r_asg rfl) ?_
          refine o_w (v:=.bool x543.2) (r_asg rfl) ?_
          refine eo_nil_sq ?_
          refine ec_seq ?_
          refine ec_region ?_
          refine o_w (v:=.int .i64 x438.2.2) (r_mov rfl) ?_
          refine o_w (v:=.bool (x438.2.2 != (0:Int))) (r_int rfl rfl rfl) ?_
          refine o_w (v:=.bool (x438.2.2 != (0:Int))) (r_mov rfl) ?_
          refine o_vg (v:=.bool x543.2) (want_cf (t:=210) rfl rfl) (fun hk=>(r_mov rfl)) rfl rfl ?_
          refine o_vg (v:=.bool (!x543.2)) (want_cf (t:=210) rfl rfl) (fun hk=>(r_not (gdT hk))) rfl rfl ?_
          refine o_w (v:=.bool ((x438.2.2 != (0:Int))||(!x543.2))) (r_pickOr rfl rfl (fun hf=>(gdT (notT hf)))) ?_
          refine o_w (v:=.bool ((x438.2.2 != (0:Int))||(!x543.2))) (r_mov rfl) ?_
          refine o_vg (v:=.int .u64 x543.1) (want_cf (t:=214) rfl rfl) (fun hk=>(r_mov rfl)) rfl rfl ?_
          refine o_vg (v:=.int .u64 x522.1) (want_cf (t:=214) rfl rfl) (fun hk=>(r_mov rfl)) rfl rfl ?_
          refine o_vg (v:=.int .u64 d5) (want_cf (t:=214) rfl rfl) (fun hk=>(r_mov rfl)) rfl rfl ?_
          refine o_vg (v:=.int .u64 (IntKind.u64.wrap ((BitVec.ofInt IntKind.u64.bits x522.1 ||| BitVec.ofInt IntKind.u64.bits d5).toNat:Int))) (want_cf (t:=214) rfl rfl) (fun hk=>(r_int (gdT hk) (gdT hk) rfl)) rfl rfl ?_
          refine o_vg (v:=.bool (x543.1 != (IntKind.u64.wrap ((BitVec.ofInt IntKind.u64.bits x522.1 ||| BitVec.ofInt IntKind.u64.bits d5).toNat:Int)))) (want_cf (t:=214) rfl rfl) (fun hk=>(r_int (gdT hk) (gdT hk) rfl)) rfl rfl ?_
          refine o_w (v:=.bool (((x438.2.2 != (0:Int))||(!x543.2))||(x543.1 != (IntKind.u64.wrap ((BitVec.ofInt IntKind.u64.bits x522.1 ||| BitVec.ofInt IntKind.u64.bits d5).toNat:Int))))) (r_pickOr rfl rfl (fun hf=>(gdT (notT hf)))) ?_
          refine eo_nil_sq ?_
          refine ec_cond rfl (fun hc564=>?_) (fun hc564=>?_)
          ·replace h:=h.1 hc564
           refine ec_seq ?_
           refine ec_region ?_
           refine o_w (v:=.bool false) (r_asg rfl) ?_
           refine eo_nil_sq ?_
           refine ec_ret ?_
           refine sq_ret ?_
           subst h
           exact (end1 rfl ⟨_,rfl,E545,rfl⟩)
          ·replace h:=h.2 hc564
           refine ec_skip ?_
           refine sq_n ?_
           refine ec_seq ?_
           refine ec_region ?_
           refine o_w (v:=.bool (worksV)) (r_mov rfl) ?_
           refine o_w (v:=.bool (worksV)) (r_asg rfl) ?_
           refine eo_nil_sq ?_
           refine ec_ret ?_
           subst h
           exact (end1 rfl ⟨_,rfl,E545,rfl⟩)
         ·replace h:=h.2 hc437
          refine ec_skip ?_
          refine sq_n ?_
          refine ec_seq ?_
          refine ec_region ?_
          refine o_w (v:=.bool (worksV)) (r_mov rfl) ?_
          refine o_w (v:=.bool (worksV)) (r_asg rfl) ?_
          refine eo_nil_sq ?_
          refine ec_ret ?_
          subst h
          exact (end1 rfl ⟨_,rfl,E421,rfl⟩)
       ·replace h:=h.2 hc259
        refine ec_skip ?_
        refine sq_n ?_
        refine ec_seq ?_
        refine ec_region ?_
        refine o_w (v:=.agg (cArena d0 A1 c2 A4 c5).toArray) (r_lda agg_api_Arena rfl (vs:=(cArena d0 A1 c2 A4 c5)) rfl ((S7.fr G249 (fun _ h=>h)).now.part (n:=3) rfl)) ?_
        refine o_w (v:=str d2) (r_mov rfl) ?_
        refine o_w (v:=.int .u64 d5) (r_mov rfl) ?_
        obtain ⟨ha566,h⟩:=h
        obtain ⟨x565,hx565,h⟩:=h
        refine o_call cf_delta_Set rfl (delta_Set_c d0 (kArena_mk (d:=d0) (H3.up G248 (fun _ h=>h) (upc (.inr m227) (upc (.inr m160) (upc (.inr m112) (upc (.inr m65) (upc (.inr m33) (fun _ h=>.inl h))))))) (H6.up G248 (fun _ h=>h) (upc (.inr m227) (upc (.inr m160) (upc (.inr m112) (upc (.inr m65) (upc (.inr m33) (fun _ h=>.inl h)))))))) d2 d5 ((((((hL.fr E247).cons B255.lt).cons B256.lt).cons B257.lt).cons B258.lt).cons B246'.lt) (eq_ev hx565 (set_ev d0 d2 d5 ha566))) rfl rfl ?_
        rintro _ w565 ⟨F565,cs567,rfl,H568⟩
        have E569:=E247.trans F565
        obtain ⟨A582,c583,A585,c586,rfl,H584,H587⟩:=kEnt_open H568
        refine o_w (v:=.tuple #[.agg (cEnt x565.1 A582 c583 A585 c586).toArray,.int .i64 x565.2]) (r_mov rfl) ?_
        refine o_w (v:=.agg (cEnt x565.1 A582 c583 A585 c586).toArray) (r_ext rfl rfl) ?_
        refine o_w (v:=.int .i64 x565.2) (r_ext rfl rfl) ?_
        refine o_alloc zero_api_Entry rfl rfl rfl ?_
        intro b588 w588 e588 F588 B588
        have n588:w.heap.size≤b588:=by rw [e588]; exact E569.size
        have q589:b32<b588:=by rw [e588]; exact (B255.ex F565).lt
        have q590:b63<b588:=by rw [e588]; exact (B256.ex F565).lt
        have q591:b109<b588:=by rw [e588]; exact (B257.ex F565).lt
        have q592:b156<b588:=by rw [e588]; exact (B258.ex F565).lt
        have q593:b222<b588:=by rw [e588]; exact (B246'.ex F565).lt
        have m594:w.heap.size≤b588:=by rw [e588]; exact (G248.trans (Fr.ext F565)).size
        have m595:w7.heap.size≤b588:=by rw [e588]; exact (G249.trans (Fr.ext F565)).size
        have m601:w565.heap.size≤b588:=Nat.le_of_eq e588.symm
        have E602:=E569.trans F588
        have G610:Fr (b222::(b156::(b109::(b63::(b32::L))))) w565 w588:=Fr.ext F588
        refine o_store rfl B588 (vs:=(cEnt x565.1 A582 c583 A585 c586)) rfl sz_api_Entry rfl rfl rfl ?_
        intro w616 F616 B616
        have E617:=Ext.st E602 F616 (by simp; omega)
        have G618:Fr L w w616:=((G248.trans (Fr.ext F565)).trans (Fr.ext F588)).stp F616 (upc (.inr m594) (fun m hm=>by cases hm))
        have G619:Fr L w7 w616:=((G249.trans (Fr.ext F565)).trans (Fr.ext F588)).stp F616 (upc (.inr m595) (fun m hm=>by cases hm))
        have G625:Fr (b222::(b156::(b109::(b63::(b32::L))))) w565 w616:=G610.stp F616 (upc (.inr m601) (fun m hm=>by cases hm))
        have B626:=((B255.ex F565).ex F588).fr F616 (by simp; omega)
        have B627:=((B256.ex F565).ex F588).fr F616 (by simp; omega)
        have B628:=((B257.ex F565).ex F588).fr F616 (by simp; omega)
        have B629:=((B258.ex F565).ex F588).fr F616 (by simp; omega)
        have B630:=((B246'.ex F565).ex F588).fr F616 (by simp; omega)
        have B616':Blk w616 b588 _ (cEnt x565.1 A582 c583 A585 c586):=B616
        refine o_w (v:=.int .i64 x565.2) (r_asg rfl) ?_
        refine eo_nil_sq ?_
        iterate 2 refine ec_seq ?_
        refine ec_region ?_
        refine o_w (v:=.int .i64 x565.2) (r_mov rfl) ?_
        refine o_w (v:=.bool (x565.2==(0:Int))) (r_int rfl rfl rfl) ?_
        refine eo_nil_sq ?_
        refine ec_cond rfl (fun hc631=>?_) (fun hc631=>?_)
        ·replace h:=h.1 hc631
         refine ec_seq ?_
         refine ec_region ?_
         refine o_w (v:=.agg (cArena d0 A1 c2 A4 c5).toArray) (r_lda agg_api_Arena rfl (vs:=(cArena d0 A1 c2 A4 c5)) rfl ((S7.fr G619 (fun _ h=>h)).now.part (n:=3) rfl)) ?_
         refine o_w (v:=.agg (cEnt x565.1 A582 c583 A585 c586).toArray) (r_lda agg_api_Entry rfl (vs:=(cEnt x565.1 A582 c583 A585 c586)) rfl (B616'.part (n:=9) rfl)) ?_
         obtain ⟨ha633,h⟩:=h
         obtain ⟨ha634,h⟩:=h
         obtain ⟨ha635,h⟩:=h
         obtain ⟨x632,hx632,h⟩:=h
         refine o_call cf_arena_Join rfl (arena_Join_c d0 (kArena_mk (d:=d0) (H3.up G618 (fun _ h=>h) (upc (.inr m594) (upc (.inr m227) (upc (.inr m160) (upc (.inr m112) (upc (.inr m65) (upc (.inr m33) (fun _ h=>.inl h)))))))) (H6.up G618 (fun _ h=>h) (upc (.inr m594) (upc (.inr m227) (upc (.inr m160) (upc (.inr m112) (upc (.inr m65) (upc (.inr m33) (fun _ h=>.inl h))))))))) x565.1 (kEnt_mk (d:=x565.1) (H584.up G625 (fun _ h=>h) (upc (.inr m601) (upc (.inl (List.Mem.head _)) (upc (.inl (List.Mem.tail _ (List.Mem.head _))) (upc (.inl (List.Mem.tail _ (List.Mem.tail _ (List.Mem.head _)))) (upc (.inl (List.Mem.tail _ (List.Mem.tail _ (List.Mem.tail _ (List.Mem.head _))))) (upc (.inl (List.Mem.tail _ (List.Mem.tail _ (List.Mem.tail _ (List.Mem.tail _ (List.Mem.head _)))))) (fun m hm=>Or.inl (List.Mem.tail _ (List.Mem.tail _ (List.Mem.tail _ (List.Mem.tail _ (List.Mem.tail _ hm))))))))))))) (H587.up G625 (fun _ h=>h) (upc (.inr m601) (upc (.inl (List.Mem.head _)) (upc (.inl (List.Mem.tail _ (List.Mem.head _))) (upc (.inl (List.Mem.tail _ (List.Mem.tail _ (List.Mem.head _)))) (upc (.inl (List.Mem.tail _ (List.Mem.tail _ (List.Mem.tail _ (List.Mem.head _))))) (upc (.inl (List.Mem.tail _ (List.Mem.tail _ (List.Mem.tail _ (List.Mem.tail _ (List.Mem.head _)))))) (fun m hm=>Or.inl (List.Mem.tail _ (List.Mem.tail _ (List.Mem.tail _ (List.Mem.tail _ (List.Mem.tail _ hm)))))))))))))) (((((((hL.fr E617).cons B626.lt).cons B627.lt).cons B628.lt).cons B629.lt).cons B630.lt).cons B616'.lt) (eq_ev hx632 (arJoin_ev d0 x565.1 ha633 ha634 ha635))) rfl rfl ?_
         rintro _ w632 ⟨F632,cs636,rfl,H637⟩
         have E638:=E617.trans F632
         obtain ⟨A653,c654,A656,c657,rfl,H655,H658⟩:=kArena_open H637
         refine o_w (v:=.tuple #[.agg (cArena x632.1 A653 c654 A656 c657).toArray,.bool x632.2.1,.int .i64 x632.2.2]) (r_mov rfl) ?_
         refine o_w (v:=.agg (cArena x632.1 A653 c654 A656 c657).toArray) (r_ext rfl rfl) ?_
         refine o_w (v:=.bool x632.2.1) (r_ext rfl rfl) ?_
         refine o_w (v:=.int .i64 x632.2.2) (r_ext rfl rfl) ?_
         refine o_alloc zero_api_Arena rfl rfl rfl ?_
         intro b659 w659 e659 F659 B659
         have n659:w.heap.size≤b659:=by rw [e659]; exact E638.size
         have q660:b32<b659:=by rw [e659]; exact (B626.ex F632).lt
         have q661:b63<b659:=by rw [e659]; exact (B627.ex F632).lt
         have q662:b109<b659:=by rw [e659]; exact (B628.ex F632).lt
         have q663:b156<b659:=by rw [e659]; exact (B629.ex F632).lt
         have q664:b222<b659:=by rw [e659]; exact (B630.ex F632).lt
         have q665:b588<b659:=by rw [e659]; exact (B616'.ex F632).lt
         have m666:w.heap.size≤b659:=by rw [e659]; exact (G618.trans (Fr.ext F632)).size
         have m667:w7.heap.size≤b659:=by rw [e659]; exact (G619.trans (Fr.ext F632)).size
         have m674:w632.heap.size≤b659:=Nat.le_of_eq e659.symm
         have E675:=E638.trans F659
         have G684:Fr (b588::(b222::(b156::(b109::(b63::(b32::L)))))) w632 w659:=Fr.ext F659
         refine o_store rfl B659 (vs:=(cArena x632.1 A653 c654 A656 c657)) rfl sz_api_Arena rfl rfl rfl ?_
         intro w691 F691 B691
         have E692:=Ext.st E675 F691 (by simp; omega)
         have G693:Fr L w w691:=((G618.trans (Fr.ext F632)).trans (Fr.ext F659)).stp F691 (upc (.inr m666) (fun m hm=>by cases hm))
         have G694:Fr L w7 w691:=((G619.trans (Fr.ext F632)).trans (Fr.ext F659)).stp F691 (upc (.inr m667) (fun m hm=>by cases hm))
         have G701:Fr (b588::(b222::(b156::(b109::(b63::(b32::L)))))) w632 w691:=G684.stp F691 (upc (.inr m674) (fun m hm=>by cases hm))
         have B702:=((B626.ex F632).ex F659).fr F691 (by simp; omega)
         have B703:=((B627.ex F632).ex F659).fr F691 (by simp; omega)
         have B704:=((B628.ex F632).ex F659).fr F691 (by simp; omega)
         have B705:=((B629.ex F632).ex F659).fr F691 (by simp; omega)
         have B706:=((B630.ex F632).ex F659).fr F691 (by simp; omega)
         have B707:=((B616'.ex F632).ex F659).fr F691 (by simp; omega)
         have B691':Blk w691 b659 _ (cArena x632.1 A653 c654 A656 c657):=B691
         refine o_w (v:=.bool x632.2.1) (r_asg rfl) ?_
         refine o_w (v:=.int .i64 x632.2.2) (r_asg rfl) ?_
         refine eo_nil_sq ?_
         refine ec_seq ?_
         refine ec_region ?_
         refine o_w (v:=.agg (cArena d0 A1 c2 A4 c5).toArray) (r_lda agg_api_Arena rfl (vs:=(cArena d0 A1 c2 A4 c5)) rfl ((S7.fr G694 (fun _ h=>h)).now.part (n:=3) rfl)) ?_
         refine o_w (v:=str d2) (r_mov rfl) ?_
         obtain ⟨ha709,h⟩:=h
         obtain ⟨x708,hx708,h⟩:=h
         refine o_call cf_delta_Flags rfl (delta_Flags_c d0 (kArena_mk (d:=d0) (H3.up G693 (fun _ h=>h) (upc (.inr m666) (upc (.inr m594) (upc (.inr m227) (upc (.inr m160) (upc (.inr m112) (upc (.inr m65) (upc (.inr m33) (fun _ h=>.inl h))))))))) (H6.up G693 (fun _ h=>h) (upc (.inr m666) (upc (.inr m594) (upc (.inr m227) (upc (.inr m160) (upc (.inr m112) (upc (.inr m65) (upc (.inr m33) (fun _ h=>.inl h)))))))))) d2 ((((((((hL.fr E692).cons B702.lt).cons B703.lt).cons B704.lt).cons B705.lt).cons B706.lt).cons B707.lt).cons B691'.lt) (eq_ev hx708 (flags_ev d0 d2 ha709))) rfl rfl ?_
         rintro _ w708 ⟨F708,rfl⟩
         have E710:=E692.trans F708
         refine o_w (v:=.tuple #[.int .u64 x708.1,.bool x708.2]) (r_mov rfl) ?_
         refine o_w (v:=.int .u64 x708.1) (r_ext rfl rfl) ?_
         refine o_w (v:=.bool x708.2) (r_ext rfl rfl) ?_
         refine o_w (v:=.int .u64 x708.1) (r_asg rfl) ?_
         refine o_w (v:=.bool x708.2) (r_asg rfl) ?_
         refine eo_nil_sq ?_
         refine ec_seq ?_
         refine ec_region ?_
         refine o_w (v:=.agg (cArena x632.1 A653 c654 A656 c657).toArray) (r_lda agg_api_Arena rfl (vs:=(cArena x632.1 A653 c654 A656 c657)) rfl ((B691'.ex F708).part (n:=3) rfl)) ?_
         refine o_w (v:=str d2) (r_mov rfl) ?_
         obtain ⟨ha728,h⟩:=h
         obtain ⟨x727,hx727,h⟩:=h
         refine o_call cf_delta_Flags rfl (delta_Flags_c x632.1 (kArena_mk (d:=x632.1) (H655.up (G701.trans (Fr.ext F708)) (fun _ h=>h) (upc (.inr m674) (upc (.inl (List.Mem.head _)) (upc (.inl (List.Mem.tail _ (List.Mem.head _))) (upc (.inl (List.Mem.tail _ (List.Mem.tail _ (List.Mem.head _)))) (upc (.inl (List.Mem.tail _ (List.Mem.tail _ (List.Mem.tail _ (List.Mem.head _))))) (upc (.inl (List.Mem.tail _ (List.Mem.tail _ (List.Mem.tail _ (List.Mem.tail _ (List.Mem.head _)))))) (upc (.inl (List.Mem.tail _ (List.Mem.tail _ (List.Mem.tail _ (List.Mem.tail _ (List.Mem.tail _ (List.Mem.head _))))))) (fun m hm=>Or.inl (List.Mem.tail _ (List.Mem.tail _ (List.Mem.tail _ (List.Mem.tail _ (List.Mem.tail _ (List.Mem.tail _ hm))))))))))))))) (H658.up (G701.trans (Fr.ext F708)) (fun _ h=>h) (upc (.inr m674) (upc (.inl (List.Mem.head _)) (upc (.inl (List.Mem.tail _ (List.Mem.head _))) (upc (.inl (List.Mem.tail _ (List.Mem.tail _ (List.Mem.head _)))) (upc (.inl (List.Mem.tail _ (List.Mem.tail _ (List.Mem.tail _ (List.Mem.head _))))) (upc (.inl (List.Mem.tail _ (List.Mem.tail _ (List.Mem.tail _ (List.Mem.tail _ (List.Mem.head _)))))) (upc (.inl (List.Mem.tail _ (List.Mem.tail _ (List.Mem.tail _ (List.Mem.tail _ (List.Mem.tail _ (List.Mem.head _))))))) (fun m hm=>Or.inl (List.Mem.tail _ (List.Mem.tail _ (List.Mem.tail _ (List.Mem.tail _ (List.Mem.tail _ (List.Mem.tail _ hm)))))))))))))))) d2 ((((((((hL.fr E710).cons (B702.ex F708).lt).cons (B703.ex F708).lt).cons (B704.ex F708).lt).cons (B705.ex F708).lt).cons (B706.ex F708).lt).cons (B707.ex F708).lt).cons (B691'.ex F708).lt) (eq_ev hx727 (flags_ev x632.1 d2 ha728))) rfl rfl ?_
         rintro _ w727 ⟨F727,rfl⟩
         have E729:=E710.trans F727
         refine o_w (v:=.tuple #[.int .u64 x727.1,.bool x727.2]) (r_mov rfl) ?_
         refine o_w (v:=.int .u64 x727.1) (r_ext rfl rfl) ?_
         refine o_w (v:=.bool x727.2) (r_ext rfl rfl) ?_
         refine o_w (v:=.int .u64 x727.1) (r_asg rfl) ?_
         refine o_w (v:=.bool x727.2) (r_asg rfl) ?_
         refine eo_nil_sq ?_
         refine ec_seq ?_
         refine ec_region ?_
         refine o_w (v:=.int .i64 x632.2.2) (r_mov rfl) ?_
         refine o_w (v:=.bool (x632.2.2 != (0:Int))) (r_int rfl rfl rfl) ?_
         refine o_w (v:=.bool (x632.2.2 != (0:Int))) (r_mov rfl) ?_
         refine o_vg (v:=.bool x727.2) (want_cf (t:=210) rfl rfl) (fun hk=>(r_mov rfl)) rfl rfl ?_
         refine o_vg (v:=.bool (!x727.2)) (want_cf (t:=210) rfl rfl) (fun hk=>(r_not (gdT hk))) rfl rfl ?_
         refine o_w (v:=.bool ((x632.2.2 != (0:Int))||(!x727.2))) (r_pickOr rfl rfl (fun hf=>(gdT (notT hf)))) ?_
         refine o_w (v:=.bool ((x632.2.2 != (0:Int))||(!x727.2))) (r_mov rfl) ?_
         refine o_vg (v:=.int .u64 x727.1) (want_cf (t:=214) rfl rfl) (fun hk=>(r_mov rfl)) rfl rfl ?_
         refine o_vg (v:=.int .u64 x708.1) (want_cf (t:=214) rfl rfl) (fun hk=>(r_mov rfl)) rfl rfl ?_
         refine o_vg (v:=.int .u64 d5) (want_cf (t:=214) rfl rfl) (fun hk=>(r_mov rfl)) rfl rfl ?_
         refine o_vg (v:=.int .u64 (IntKind.u64.wrap ((BitVec.ofInt IntKind.u64.bits x708.1 ||| BitVec.ofInt IntKind.u64.bits d5).toNat:Int))) (want_cf (t:=214) rfl rfl) (fun hk=>(r_int (gdT hk) (gdT hk) rfl)) rfl rfl ?_
         refine o_vg (v:=.bool (x727.1 != (IntKind.u64.wrap ((BitVec.ofInt IntKind.u64.bits x708.1 ||| BitVec.ofInt IntKind.u64.bits d5).toNat:Int)))) (want_cf (t:=214) rfl rfl) (fun hk=>(r_int (gdT hk) (gdT hk) rfl)) rfl rfl ?_
         refine o_w (v:=.bool (((x632.2.2 != (0:Int))||(!x727.2))||(x727.1 != (IntKind.u64.wrap ((BitVec.ofInt IntKind.u64.bits x708.1 ||| BitVec.ofInt IntKind.u64.bits d5).toNat:Int))))) (r_pickOr rfl rfl (fun hf=>(gdT (notT hf)))) ?_
         refine eo_nil_sq ?_
         refine ec_cond rfl (fun hc746=>?_) (fun hc746=>?_)
         ·replace h:=h.1 hc746
          refine ec_seq ?_
          refine ec_region ?_
          refine o_w (v:=.bool false) (r_asg rfl) ?_
          refine eo_nil_sq ?_
          refine ec_ret ?_
          refine sq_ret ?_
          subst h
          exact (end1 rfl ⟨_,rfl,E729,rfl⟩)
         ·replace h:=h.2 hc746
          refine ec_skip ?_
          refine sq_n ?_
          refine ec_seq ?_
          refine ec_region ?_
          refine o_w (v:=.bool (worksV)) (r_mov rfl) ?_
          refine o_w (v:=.bool (worksV)) (r_asg rfl) ?_
          refine eo_nil_sq ?_
          refine ec_ret ?_
          subst h
          exact (end1 rfl ⟨_,rfl,E729,rfl⟩)
        ·replace h:=h.2 hc631
         refine ec_skip ?_
         refine sq_n ?_
         refine ec_seq ?_
         refine ec_region ?_
         refine o_w (v:=.bool (worksV)) (r_mov rfl) ?_
         refine o_w (v:=.bool (worksV)) (r_asg rfl) ?_
         refine eo_nil_sq ?_
         refine ec_ret ?_
         subst h
         exact (end1 rfl ⟨_,rfl,E617,rfl⟩)
     ·replace h:=h.2 hc134
      refine ec_skip ?_
      refine sq_n ?_
      refine ec_seq ?_
      refine ec_region ?_
      refine o_w (v:=.agg (cArena d0 A1 c2 A4 c5).toArray) (r_lda agg_api_Arena rfl (vs:=(cArena d0 A1 c2 A4 c5)) rfl ((S7.fr G128 (fun _ h=>h)).now.part (n:=3) rfl)) ?_
      refine o_w (v:=.int .i64 d1) (r_mov rfl) ?_
      refine o_w (v:=str d2) (r_mov rfl) ?_
      refine o_w (v:=.int .i64 d4) (r_mov rfl) ?_
      obtain ⟨ha748,h⟩:=h
      obtain ⟨x747,hx747,h⟩:=h
      refine o_call cf_delta_Add rfl (delta_Add_c d0 (kArena_mk (d:=d0) (H3.up G127 (fun _ h=>h) (upc (.inr m112) (upc (.inr m65) (upc (.inr m33) (fun _ h=>.inl h))))) (H6.up G127 (fun _ h=>h) (upc (.inr m112) (upc (.inr m65) (upc (.inr m33) (fun _ h=>.inl h)))))) d1 d2 d4 ((((hL.fr E126).cons B132.lt).cons B133.lt).cons B125'.lt) (eq_ev hx747 (add_ev d0 d1 d2 d4 ha748))) rfl rfl ?_
      rintro _ w747 ⟨F747,cs749,rfl,H750⟩
      have E751:=E126.trans F747
      obtain ⟨A760,c761,A763,c764,rfl,H762,H765⟩:=kEnt_open H750
      refine o_w (v:=.tuple #[.agg (cEnt x747.1 A760 c761 A763 c764).toArray,.int .i64 x747.2]) (r_mov rfl) ?_
      refine o_w (v:=.agg (cEnt x747.1 A760 c761 A763 c764).toArray) (r_ext rfl rfl) ?_
      refine o_w (v:=.int .i64 x747.2) (r_ext rfl rfl) ?_
      refine o_alloc zero_api_Entry rfl rfl rfl ?_
      intro b766 w766 e766 F766 B766
      have n766:w.heap.size≤b766:=by rw [e766]; exact E751.size
      have q767:b32<b766:=by rw [e766]; exact (B132.ex F747).lt
      have q768:b63<b766:=by rw [e766]; exact (B133.ex F747).lt
      have q769:b109<b766:=by rw [e766]; exact (B125'.ex F747).lt
      have m770:w.heap.size≤b766:=by rw [e766]; exact (G127.trans (Fr.ext F747)).size
      have m771:w7.heap.size≤b766:=by rw [e766]; exact (G128.trans (Fr.ext F747)).size
      have m775:w747.heap.size≤b766:=Nat.le_of_eq e766.symm
      have E776:=E751.trans F766
      have G782:Fr (b109::(b63::(b32::L))) w747 w766:=Fr.ext F766
      refine o_store rfl B766 (vs:=(cEnt x747.1 A760 c761 A763 c764)) rfl sz_api_Entry rfl rfl rfl ?_
      intro w786 F786 B786
      have E787:=Ext.st E776 F786 (by simp; omega)
      have G788:Fr L w w786:=((G127.trans (Fr.ext F747)).trans (Fr.ext F766)).stp F786 (upc (.inr m770) (fun m hm=>by cases hm))
      have G789:Fr L w7 w786:=((G128.trans (Fr.ext F747)).trans (Fr.ext F766)).stp F786 (upc (.inr m771) (fun m hm=>by cases hm))
      have G793:Fr (b109::(b63::(b32::L))) w747 w786:=G782.stp F786 (upc (.inr m775) (fun m hm=>by cases hm))
      have B794:=((B132.ex F747).ex F766).fr F786 (by simp; omega)
      have B795:=((B133.ex F747).ex F766).fr F786 (by simp; omega)
      have B796:=((B125'.ex F747).ex F766).fr F786 (by simp; omega)
      have B786':Blk w786 b766 _ (cEnt x747.1 A760 c761 A763 c764):=B786
      refine o_w (v:=.int .i64 x747.2) (r_asg rfl) ?_
      refine eo_nil_sq ?_
      iterate 2 refine ec_seq ?_
      refine ec_region ?_
      refine o_w (v:=.int .i64 x747.2) (r_mov rfl) ?_
      refine o_w (v:=.bool (x747.2==(0:Int))) (r_int rfl rfl rfl) ?_
      refine eo_nil_sq ?_
      refine ec_cond rfl (fun hc797=>?_) (fun hc797=>?_)
      ·replace h:=h.1 hc797
       refine ec_seq ?_
       refine ec_region ?_
       refine o_w (v:=.agg (cArena d0 A1 c2 A4 c5).toArray) (r_lda agg_api_Arena rfl (vs:=(cArena d0 A1 c2 A4 c5)) rfl ((S7.fr G789 (fun _ h=>h)).now.part (n:=3) rfl)) ?_
       refine o_w (v:=.agg (cEnt x747.1 A760 c761 A763 c764).toArray) (r_lda agg_api_Entry rfl (vs:=(cEnt x747.1 A760 c761 A763 c764)) rfl (B786'.part (n:=9) rfl)) ?_
       obtain ⟨ha799,h⟩:=h
       obtain ⟨ha800,h⟩:=h
       obtain ⟨ha801,h⟩:=h
       obtain ⟨x798,hx798,h⟩:=h
       refine o_call cf_arena_Join rfl (arena_Join_c d0 (kArena_mk (d:=d0) (H3.up G788 (fun _ h=>h) (upc (.inr m770) (upc (.inr m112) (upc (.inr m65) (upc (.inr m33) (fun _ h=>.inl h)))))) (H6.up G788 (fun _ h=>h) (upc (.inr m770) (upc (.inr m112) (upc (.inr m65) (upc (.inr m33) (fun _ h=>.inl h))))))) x747.1 (kEnt_mk (d:=x747.1) (H762.up G793 (fun _ h=>h) (upc (.inr m775) (upc (.inl (List.Mem.head _)) (upc (.inl (List.Mem.tail _ (List.Mem.head _))) (upc (.inl (List.Mem.tail _ (List.Mem.tail _ (List.Mem.head _)))) (fun m hm=>Or.inl (List.Mem.tail _ (List.Mem.tail _ (List.Mem.tail _ hm))))))))) (H765.up G793 (fun _ h=>h) (upc (.inr m775) (upc (.inl (List.Mem.head _)) (upc (.inl (List.Mem.tail _ (List.Mem.head _))) (upc (.inl (List.Mem.tail _ (List.Mem.tail _ (List.Mem.head _)))) (fun m hm=>Or.inl (List.Mem.tail _ (List.Mem.tail _ (List.Mem.tail _ hm)))))))))) (((((hL.fr E787).cons B794.lt).cons B795.lt).cons B796.lt).cons B786'.lt) (eq_ev hx798 (arJoin_ev d0 x747.1 ha799 ha800 ha801))) rfl rfl ?_
       rintro _ w798 ⟨F798,cs802,rfl,H803⟩
       have E804:=E787.trans F798
       obtain ⟨A815,c816,A818,c819,rfl,H817,H820⟩:=kArena_open H803
       refine o_w (v:=.tuple #[.agg (cArena x798.1 A815 c816 A818 c819).toArray,.bool x798.2.1,.int .i64 x798.2.2]) (r_mov rfl) ?_
       refine o_w (v:=.agg (cArena x798.1 A815 c816 A818 c819).toArray) (r_ext rfl rfl) ?_
       refine o_w (v:=.bool x798.2.1) (r_ext rfl rfl) ?_
       refine o_w (v:=.int .i64 x798.2.2) (r_ext rfl rfl) ?_
       refine o_alloc zero_api_Arena rfl rfl rfl ?_
       intro b821 w821 e821 F821 B821
       have n821:w.heap.size≤b821:=by rw [e821]; exact E804.size
       have q822:b32<b821:=by rw [e821]; exact (B794.ex F798).lt
       have q823:b63<b821:=by rw [e821]; exact (B795.ex F798).lt
       have q824:b109<b821:=by rw [e821]; exact (B796.ex F798).lt
       have q825:b766<b821:=by rw [e821]; exact (B786'.ex F798).lt
       have m826:w.heap.size≤b821:=by rw [e821]; exact (G788.trans (Fr.ext F798)).size
       have m827:w7.heap.size≤b821:=by rw [e821]; exact (G789.trans (Fr.ext F798)).size
       have m832:w798.heap.size≤b821:=Nat.le_of_eq e821.symm
       have E833:=E804.trans F821
       have G840:Fr (b766::(b109::(b63::(b32::L)))) w798 w821:=Fr.ext F821
       refine o_store rfl B821 (vs:=(cArena x798.1 A815 c816 A818 c819)) rfl sz_api_Arena rfl rfl rfl ?_
       intro w845 F845 B845
       have E846:=Ext.st E833 F845 (by simp; omega)
       have G847:Fr L w w845:=((G788.trans (Fr.ext F798)).trans (Fr.ext F821)).stp F845 (upc (.inr m826) (fun m hm=>by cases hm))
       have G848:Fr L w7 w845:=((G789.trans (Fr.ext F798)).trans (Fr.ext F821)).stp F845 (upc (.inr m827) (fun m hm=>by cases hm))
       have G853:Fr (b766::(b109::(b63::(b32::L)))) w798 w845:=G840.stp F845 (upc (.inr m832) (fun m hm=>by cases hm))
       have B854:=((B794.ex F798).ex F821).fr F845 (by simp; omega)
       have B855:=((B795.ex F798).ex F821).fr F845 (by simp; omega)
       have B856:=((B796.ex F798).ex F821).fr F845 (by simp; omega)
       have B857:=((B786'.ex F798).ex F821).fr F845 (by simp; omega)
       have B845':Blk w845 b821 _ (cArena x798.1 A815 c816 A818 c819):=B845
       refine o_w (v:=.bool x798.2.1) (r_asg rfl) ?_
       refine o_w (v:=.int .i64 x798.2.2) (r_asg rfl) ?_
       refine eo_nil_sq ?_
       refine ec_seq ?_
       refine ec_region ?_
       refine o_w (v:=.agg (cArena d0 A1 c2 A4 c5).toArray) (r_lda agg_api_Arena rfl (vs:=(cArena d0 A1 c2 A4 c5)) rfl ((S7.fr G848 (fun _ h=>h)).now.part (n:=3) rfl)) ?_
       refine o_w (v:=str d2) (r_mov rfl) ?_
       obtain ⟨ha859,h⟩:=h
       obtain ⟨x858,hx858,h⟩:=h
       refine o_call cf_delta_Sum rfl (delta_Sum_c d0 (kArena_mk (d:=d0) (H3.up G847 (fun _ h=>h) (upc (.inr m826) (upc (.inr m770) (upc (.inr m112) (upc (.inr m65) (upc (.inr m33) (fun _ h=>.inl h))))))) (H6.up G847 (fun _ h=>h) (upc (.inr m826) (upc (.inr m770) (upc (.inr m112) (upc (.inr m65) (upc (.inr m33) (fun _ h=>.inl h)))))))) d2 ((((((hL.fr E846).cons B854.lt).cons B855.lt).cons B856.lt).cons B857.lt).cons B845'.lt) (eq_ev hx858 (sum_ev d0 d2 ha859))) rfl rfl ?_
       rintro _ w858 ⟨F858,rfl⟩
       have E860:=E846.trans F858
       refine o_w (v:=.tuple #[.int .i64 x858.1,.bool x858.2]) (r_mov rfl) ?_
       refine o_w (v:=.int .i64 x858.1) (r_ext rfl rfl) ?_
       refine o_w (v:=.bool x858.2) (r_ext rfl rfl) ?_
       refine o_w (v:=.int .i64 x858.1) (r_asg rfl) ?_
       refine o_w (v:=.bool x858.2) (r_asg rfl) ?_
       refine eo_nil_sq ?_
       refine ec_seq ?_
       refine ec_region ?_
       refine o_w (v:=.agg (cArena x798.1 A815 c816 A818 c819).toArray) (r_lda agg_api_Arena rfl (vs:=(cArena x798.1 A815 c816 A818 c819)) rfl ((B845'.ex F858).part (n:=3) rfl)) ?_
       refine o_w (v:=str d2) (r_mov rfl) ?_
       obtain ⟨ha874,h⟩:=h
       obtain ⟨x873,hx873,h⟩:=h
       refine o_call cf_delta_Sum rfl (delta_Sum_c x798.1 (kArena_mk (d:=x798.1) (H817.up (G853.trans (Fr.ext F858)) (fun _ h=>h) (upc (.inr m832) (upc (.inl (List.Mem.head _)) (upc (.inl (List.Mem.tail _ (List.Mem.head _))) (upc (.inl (List.Mem.tail _ (List.Mem.tail _ (List.Mem.head _)))) (upc (.inl (List.Mem.tail _ (List.Mem.tail _ (List.Mem.tail _ (List.Mem.head _))))) (fun m hm=>Or.inl (List.Mem.tail _ (List.Mem.tail _ (List.Mem.tail _ (List.Mem.tail _ hm))))))))))) (H820.up (G853.trans (Fr.ext F858)) (fun _ h=>h) (upc (.inr m832) (upc (.inl (List.Mem.head _)) (upc (.inl (List.Mem.tail _ (List.Mem.head _))) (upc (.inl (List.Mem.tail _ (List.Mem.tail _ (List.Mem.head _)))) (upc (.inl (List.Mem.tail _ (List.Mem.tail _ (List.Mem.tail _ (List.Mem.head _))))) (fun m hm=>Or.inl (List.Mem.tail _ (List.Mem.tail _ (List.Mem.tail _ (List.Mem.tail _ hm)))))))))))) d2 ((((((hL.fr E860).cons (B854.ex F858).lt).cons (B855.ex F858).lt).cons (B856.ex F858).lt).cons (B857.ex F858).lt).cons (B845'.ex F858).lt) (eq_ev hx873 (sum_ev x798.1 d2 ha874))) rfl rfl ?_
       rintro _ w873 ⟨F873,rfl⟩
       have E875:=E860.trans F873
       refine o_w (v:=.tuple #[.int .i64 x873.1,.bool x873.2]) (r_mov rfl) ?_
       refine o_w (v:=.int .i64 x873.1) (r_ext rfl rfl) ?_
       refine o_w (v:=.bool x873.2) (r_ext rfl rfl) ?_
       refine o_w (v:=.int .i64 x873.1) (r_asg rfl) ?_
       refine o_w (v:=.bool x873.2) (r_asg rfl) ?_
       refine eo_nil_sq ?_
       refine ec_seq ?_
       refine ec_region ?_
       refine o_w (v:=.bool x798.2.1) (r_mov rfl) ?_
       refine o_w (v:=.bool (!x798.2.1)) (r_not rfl) ?_
       refine o_w (v:=.bool (!x798.2.1)) (r_mov rfl) ?_
       refine o_vg (v:=.int .i64 x798.2.2) (want_cf (t:=165) rfl rfl) (fun hk=>(r_mov rfl)) rfl rfl ?_
       refine o_vg (v:=.bool (x798.2.2 != (0:Int))) (want_cf (t:=165) rfl rfl) (fun hk=>(r_int (gdT hk) rfl rfl)) rfl rfl ?_
       refine o_w (v:=.bool ((!x798.2.1)||(x798.2.2 != (0:Int)))) (r_pickOr rfl rfl (fun hf=>(gdT (notT hf)))) ?_
       refine o_w (v:=.bool ((!x798.2.1)||(x798.2.2 != (0:Int)))) (r_mov rfl) ?_
       refine o_vg (v:=.bool x873.2) (want_cf (t:=169) rfl rfl) (fun hk=>(r_mov rfl)) rfl rfl ?_
       refine o_vg (v:=.bool (!x873.2)) (want_cf (t:=169) rfl rfl) (fun hk=>(r_not (gdT hk))) rfl rfl ?_
       refine o_w (v:=.bool (((!x798.2.1)||(x798.2.2 != (0:Int)))||(!x873.2))) (r_pickOr rfl rfl (fun hf=>(gdT (notT hf)))) ?_
       refine o_w (v:=.bool (((!x798.2.1)||(x798.2.2 != (0:Int)))||(!x873.2))) (r_mov rfl) ?_
       refine o_vg (v:=.int .i64 x873.1) (want_cf (t:=173) rfl rfl) (fun hk=>(r_mov rfl)) rfl rfl ?_
       refine o_vg (v:=.int .i64 x858.1) (want_cf (t:=173) rfl rfl) (fun hk=>(r_mov rfl)) rfl rfl ?_
       refine o_vg (v:=.int .i64 d4) (want_cf (t:=173) rfl rfl) (fun hk=>(r_mov rfl)) rfl rfl ?_
       refine o_vg (v:=.int .i64 (IntKind.i64.wrap (x858.1 + d4))) (want_cf (t:=173) rfl rfl) (fun hk=>(r_int (gdT hk) (gdT hk) rfl)) rfl rfl ?_
       refine o_vg (v:=.bool (x873.1 != (IntKind.i64.wrap (x858.1 + d4)))) (want_cf (t:=173) rfl rfl) (fun hk=>(r_int (gdT hk) (gdT hk) rfl)) rfl rfl ?_
       refine o_w (v:=.bool ((((!x798.2.1)||(x798.2.2 != (0:Int)))||(!x873.2))||(x873.1 != (IntKind.i64.wrap (x858.1 + d4))))) (r_pickOr rfl rfl (fun hf=>(gdT (notT hf)))) ?_
       refine eo_nil_sq ?_
       refine ec_cond rfl (fun hc888=>?_) (fun hc888=>?_)
       ·replace h:=h.1 hc888
        refine ec_seq ?_
        refine ec_region ?_
        refine o_w (v:=.bool false) (r_asg rfl) ?_
        refine eo_nil_sq ?_
        refine ec_ret ?_
        refine sq_ret ?_
        subst h
        exact (end1 rfl ⟨_,rfl,E875,rfl⟩)
       ·replace h:=h.2 hc888
        refine ec_skip ?_
        refine sq_n ?_
        refine ec_seq ?_
        refine ec_region ?_
        refine o_w (v:=.agg (cArena d0 A1 c2 A4 c5).toArray) (r_lda agg_api_Arena rfl (vs:=(cArena d0 A1 c2 A4 c5)) rfl ((S7.fr ((G848.trans (Fr.ext F858)).trans (Fr.ext F873)) (fun _ h=>h)).now.part (n:=3) rfl)) ?_
        refine o_w (v:=str d2) (r_mov rfl) ?_
        refine o_w (v:=.int .u64 d5) (r_mov rfl) ?_
        obtain ⟨ha890,h⟩:=h
        obtain ⟨x889,hx889,h⟩:=h
        refine o_call cf_delta_Set rfl (delta_Set_c d0 (kArena_mk (d:=d0) (H3.up ((G847.trans (Fr.ext F858)).trans (Fr.ext F873)) (fun _ h=>h) (upc (.inr m826) (upc (.inr m770) (upc (.inr m112) (upc (.inr m65) (upc (.inr m33) (fun _ h=>.inl h))))))) (H6.up ((G847.trans (Fr.ext F858)).trans (Fr.ext F873)) (fun _ h=>h) (upc (.inr m826) (upc (.inr m770) (upc (.inr m112) (upc (.inr m65) (upc (.inr m33) (fun _ h=>.inl h)))))))) d2 d5 ((((((hL.fr E875).cons ((B854.ex F858).ex F873).lt).cons ((B855.ex F858).ex F873).lt).cons ((B856.ex F858).ex F873).lt).cons ((B857.ex F858).ex F873).lt).cons ((B845'.ex F858).ex F873).lt) (eq_ev hx889 (set_ev d0 d2 d5 ha890))) rfl rfl ?_
        rintro _ w889 ⟨F889,cs891,rfl,H892⟩
        have E893:=E875.trans F889
        have G894:=((G847.trans (Fr.ext F858)).trans (Fr.ext F873)).trans (Fr.ext F889)
        have G895:=((G848.trans (Fr.ext F858)).trans (Fr.ext F873)).trans (Fr.ext F889)
        obtain ⟨A906,c907,A909,c910,rfl,H908,H911⟩:=kEnt_open H892
        refine o_w (v:=.tuple #[.agg (cEnt x889.1 A906 c907 A909 c910).toArray,.int .i64 x889.2]) (r_mov rfl) ?_
        refine o_w (v:=.agg (cEnt x889.1 A906 c907 A909 c910).toArray) (r_ext rfl rfl) ?_
        refine o_w (v:=.int .i64 x889.2) (r_ext rfl rfl) ?_
        refine o_alloc zero_api_Entry rfl rfl rfl ?_
        intro b912 w912 e912 F912 B912
        have n912:w.heap.size≤b912:=by rw [e912]; exact E893.size
        have q913:b32<b912:=by rw [e912]; exact (((B854.ex F858).ex F873).ex F889).lt
        have q914:b63<b912:=by rw [e912]; exact (((B855.ex F858).ex F873).ex F889).lt
        have q915:b109<b912:=by rw [e912]; exact (((B856.ex F858).ex F873).ex F889).lt
        have q916:b766<b912:=by rw [e912]; exact (((B857.ex F858).ex F873).ex F889).lt
        have q917:b821<b912:=by rw [e912]; exact (((B845'.ex F858).ex F873).ex F889).lt
        have m918:w.heap.size≤b912:=by rw [e912]; exact G894.size
        have m919:w7.heap.size≤b912:=by rw [e912]; exact G895.size
        have m925:w889.heap.size≤b912:=Nat.le_of_eq e912.symm
        have E926:=E893.trans F912
        have G934:Fr (b821::(b766::(b109::(b63::(b32::L))))) w889 w912:=Fr.ext F912
        refine o_store rfl B912 (vs:=(cEnt x889.1 A906 c907 A909 c910)) rfl sz_api_Entry rfl rfl rfl ?_
        intro w940 F940 B940
        have E941:=Ext.st E926 F940 (by simp; omega)
        have G942:Fr L w w940:=(G894.trans (Fr.ext F912)).stp F940 (upc (.inr m918) (fun m hm=>by cases hm))
        have G943:Fr L w7 w940:=(G895.trans (Fr.ext F912)).stp F940 (upc (.inr m919) (fun m hm=>by cases hm))
        have G949:Fr (b821::(b766::(b109::(b63::(b32::L))))) w889 w940:=G934.stp F940 (upc (.inr m925) (fun m hm=>by cases hm))
        have B950:=((((B854.ex F858).ex F873).ex F889).ex F912).fr F940 (by simp; omega)
        have B951:=((((B855.ex F858).ex F873).ex F889).ex F912).fr F940 (by simp; omega)
        have B952:=((((B856.ex F858).ex F873).ex F889).ex F912).fr F940 (by simp; omega)
        have B953:=((((B857.ex F858).ex F873).ex F889).ex F912).fr F940 (by simp; omega)
        have B954:=((((B845'.ex F858).ex F873).ex F889).ex F912).fr F940 (by simp; omega)
        have B940':Blk w940 b912 _ (cEnt x889.1 A906 c907 A909 c910):=B940
        refine o_w (v:=.int .i64 x889.2) (r_asg rfl) ?_
        refine eo_nil_sq ?_
        iterate 2 refine ec_seq ?_
        refine ec_region ?_
        refine o_w (v:=.int .i64 x889.2) (r_mov rfl) ?_
        refine o_w (v:=.bool (x889.2==(0:Int))) (r_int rfl rfl rfl) ?_
        refine eo_nil_sq ?_
        refine ec_cond rfl (fun hc955=>?_) (fun hc955=>?_)
        ·replace h:=h.1 hc955
         refine ec_seq ?_
         refine ec_region ?_
         refine o_w (v:=.agg (cArena d0 A1 c2 A4 c5).toArray) (r_lda agg_api_Arena rfl (vs:=(cArena d0 A1 c2 A4 c5)) rfl ((S7.fr G943 (fun _ h=>h)).now.part (n:=3) rfl)) ?_
         refine o_w (v:=.agg (cEnt x889.1 A906 c907 A909 c910).toArray) (r_lda agg_api_Entry rfl (vs:=(cEnt x889.1 A906 c907 A909 c910)) rfl (B940'.part (n:=9) rfl)) ?_
         obtain ⟨ha957,h⟩:=h
         obtain ⟨ha958,h⟩:=h
         obtain ⟨ha959,h⟩:=h
         obtain ⟨x956,hx956,h⟩:=h
         refine o_call cf_arena_Join rfl (arena_Join_c d0 (kArena_mk (d:=d0) (H3.up G942 (fun _ h=>h) (upc (.inr m918) (upc (.inr m826) (upc (.inr m770) (upc (.inr m112) (upc (.inr m65) (upc (.inr m33) (fun _ h=>.inl h)))))))) (H6.up G942 (fun _ h=>h) (upc (.inr m918) (upc (.inr m826) (upc (.inr m770) (upc (.inr m112) (upc (.inr m65) (upc (.inr m33) (fun _ h=>.inl h))))))))) x889.1 (kEnt_mk (d:=x889.1) (H908.up G949 (fun _ h=>h) (upc (.inr m925) (upc (.inl (List.Mem.head _)) (upc (.inl (List.Mem.tail _ (List.Mem.head _))) (upc (.inl (List.Mem.tail _ (List.Mem.tail _ (List.Mem.head _)))) (upc (.inl (List.Mem.tail _ (List.Mem.tail _ (List.Mem.tail _ (List.Mem.head _))))) (upc (.inl (List.Mem.tail _ (List.Mem.tail _ (List.Mem.tail _ (List.Mem.tail _ (List.Mem.head _)))))) (fun m hm=>Or.inl (List.Mem.tail _ (List.Mem.tail _ (List.Mem.tail _ (List.Mem.tail _ (List.Mem.tail _ hm))))))))))))) (H911.up G949 (fun _ h=>h) (upc (.inr m925) (upc (.inl (List.Mem.head _)) (upc (.inl (List.Mem.tail _ (List.Mem.head _))) (upc (.inl (List.Mem.tail _ (List.Mem.tail _ (List.Mem.head _)))) (upc (.inl (List.Mem.tail _ (List.Mem.tail _ (List.Mem.tail _ (List.Mem.head _))))) (upc (.inl (List.Mem.tail _ (List.Mem.tail _ (List.Mem.tail _ (List.Mem.tail _ (List.Mem.head _)))))) (fun m hm=>Or.inl (List.Mem.tail _ (List.Mem.tail _ (List.Mem.tail _ (List.Mem.tail _ (List.Mem.tail _ hm)))))))))))))) (((((((hL.fr E941).cons B950.lt).cons B951.lt).cons B952.lt).cons B953.lt).cons B954.lt).cons B940'.lt) (eq_ev hx956 (arJoin_ev d0 x889.1 ha957 ha958 ha959))) rfl rfl ?_
         rintro _ w956 ⟨F956,cs960,rfl,H961⟩
         have E962:=E941.trans F956
         obtain ⟨A977,c978,A980,c981,rfl,H979,H982⟩:=kArena_open H961
         refine o_w (v:=.tuple #[.agg (cArena x956.1 A977 c978 A980 c981).toArray,.bool x956.2.1,.int .i64 x956.2.2]) (r_mov rfl) ?_
         refine o_w (v:=.agg (cArena x956.1 A977 c978 A980 c981).toArray) (r_ext rfl rfl) ?_
         refine o_w (v:=.bool x956.2.1) (r_ext rfl rfl) ?_
         refine o_w (v:=.int .i64 x956.2.2) (r_ext rfl rfl) ?_
         refine o_alloc zero_api_Arena rfl rfl rfl ?_
         intro b983 w983 e983 F983 B983
         have n983:w.heap.size≤b983:=by rw [e983]; exact E962.size
         have q984:b32<b983:=by rw [e983]; exact (B950.ex F956).lt
         have q985:b63<b983:=by rw [e983]; exact (B951.ex F956).lt
         have q986:b109<b983:=by rw [e983]; exact (B952.ex F956).lt
         have q987:b766<b983:=by rw [e983]; exact (B953.ex F956).lt
         have q988:b821<b983:=by rw [e983]; exact (B954.ex F956).lt
         have q989:b912<b983:=by rw [e983]; exact (B940'.ex F956).lt
         have m990:w.heap.size≤b983:=by rw [e983]; exact (G942.trans (Fr.ext F956)).size
         have m991:w7.heap.size≤b983:=by rw [e983]; exact (G943.trans (Fr.ext F956)).size
         have m998:w956.heap.size≤b983:=Nat.le_of_eq e983.symm
         have E999:=E962.trans F983
         have G1008:Fr (b912::(b821::(b766::(b109::(b63::(b32::L)))))) w956 w983:=Fr.ext F983
         refine o_store rfl B983 (vs:=(cArena x956.1 A977 c978 A980 c981)) rfl sz_api_Arena rfl rfl rfl ?_
         intro w1015 F1015 B1015
         have E1016:=Ext.st E999 F1015 (by simp; omega)
         have G1017:Fr L w w1015:=((G942.trans (Fr.ext F956)).trans (Fr.ext F983)).stp F1015 (upc (.inr m990) (fun m hm=>by cases hm))
         have G1018:Fr L w7 w1015:=((G943.trans (Fr.ext F956)).trans (Fr.ext F983)).stp F1015 (upc (.inr m991) (fun m hm=>by cases hm))
         have G1025:Fr (b912::(b821::(b766::(b109::(b63::(b32::L)))))) w956 w1015:=G1008.stp F1015 (upc (.inr m998) (fun m hm=>by cases hm))
         have B1026:=((B950.ex F956).ex F983).fr F1015 (by simp; omega)
         have B1027:=((B951.ex F956).ex F983).fr F1015 (by simp; omega)
         have B1028:=((B952.ex F956).ex F983).fr F1015 (by simp; omega)
         have B1029:=((B953.ex F956).ex F983).fr F1015 (by simp; omega)
         have B1030:=((B954.ex F956).ex F983).fr F1015 (by simp; omega)
         have B1031:=((B940'.ex F956).ex F983).fr F1015 (by simp; omega)
         have B1015':Blk w1015 b983 _ (cArena x956.1 A977 c978 A980 c981):=B1015
         refine o_w (v:=.bool x956.2.1) (r_asg rfl) ?_
         refine o_w (v:=.int .i64 x956.2.2) (r_asg rfl) ?_
         refine eo_nil_sq ?_
         refine ec_seq ?_
         refine ec_region ?_
         refine o_w (v:=.agg (cArena d0 A1 c2 A4 c5).toArray) (r_lda agg_api_Arena rfl (vs:=(cArena d0 A1 c2 A4 c5)) rfl ((S7.fr G1018 (fun _ h=>h)).now.part (n:=3) rfl)) ?_
         refine o_w (v:=str d2) (r_mov rfl) ?_
         obtain ⟨ha1033,h⟩:=h
         obtain ⟨x1032,hx1032,h⟩:=h
         refine o_call cf_delta_Flags rfl (delta_Flags_c d0 (kArena_mk (d:=d0) (H3.up G1017 (fun _ h=>h) (upc (.inr m990) (upc (.inr m918) (upc (.inr m826) (upc (.inr m770) (upc (.inr m112) (upc (.inr m65) (upc (.inr m33) (fun _ h=>.inl h))))))))) (H6.up G1017 (fun _ h=>h) (upc (.inr m990) (upc (.inr m918) (upc (.inr m826) (upc (.inr m770) (upc (.inr m112) (upc (.inr m65) (upc (.inr m33) (fun _ h=>.inl h)))))))))) d2 ((((((((hL.fr E1016).cons B1026.lt).cons B1027.lt).cons B1028.lt).cons B1029.lt).cons B1030.lt).cons B1031.lt).cons B1015'.lt) (eq_ev hx1032 (flags_ev d0 d2 ha1033))) rfl rfl ?_
         rintro _ w1032 ⟨F1032,rfl⟩
         have E1034:=E1016.trans F1032
         refine o_w (v:=.tuple #[.int .u64 x1032.1,.bool x1032.2]) (r_mov rfl) ?_
         refine o_w (v:=.int .u64 x1032.1) (r_ext rfl rfl) ?_
         refine o_w (v:=.bool x1032.2) (r_ext rfl rfl) ?_
         refine o_w (v:=.int .u64 x1032.1) (r_asg rfl) ?_
         refine o_w (v:=.bool x1032.2) (r_asg rfl) ?_
         refine eo_nil_sq ?_
         refine ec_seq ?_
         refine ec_region ?_
         refine o_w (v:=.agg (cArena x956.1 A977 c978 A980 c981).toArray) (r_lda agg_api_Arena rfl (vs:=(cArena x956.1 A977 c978 A980 c981)) rfl ((B1015'.ex F1032).part (n:=3) rfl)) ?_
         refine o_w (v:=str d2) (r_mov rfl) ?_
         obtain ⟨ha1052,h⟩:=h
         obtain ⟨x1051,hx1051,h⟩:=h
         refine o_call cf_delta_Flags rfl (delta_Flags_c x956.1 (kArena_mk (d:=x956.1) (H979.up (G1025.trans (Fr.ext F1032)) (fun _ h=>h) (upc (.inr m998) (upc (.inl (List.Mem.head _)) (upc (.inl (List.Mem.tail _ (List.Mem.head _))) (upc (.inl (List.Mem.tail _ (List.Mem.tail _ (List.Mem.head _)))) (upc (.inl (List.Mem.tail _ (List.Mem.tail _ (List.Mem.tail _ (List.Mem.head _))))) (upc (.inl (List.Mem.tail _ (List.Mem.tail _ (List.Mem.tail _ (List.Mem.tail _ (List.Mem.head _)))))) (upc (.inl (List.Mem.tail _ (List.Mem.tail _ (List.Mem.tail _ (List.Mem.tail _ (List.Mem.tail _ (List.Mem.head _))))))) (fun m hm=>Or.inl (List.Mem.tail _ (List.Mem.tail _ (List.Mem.tail _ (List.Mem.tail _ (List.Mem.tail _ (List.Mem.tail _ hm))))))))))))))) (H982.up (G1025.trans (Fr.ext F1032)) (fun _ h=>h) (upc (.inr m998) (upc (.inl (List.Mem.head _)) (upc (.inl (List.Mem.tail _ (List.Mem.head _))) (upc (.inl (List.Mem.tail _ (List.Mem.tail _ (List.Mem.head _)))) (upc (.inl (List.Mem.tail _ (List.Mem.tail _ (List.Mem.tail _ (List.Mem.head _))))) (upc (.inl (List.Mem.tail _ (List.Mem.tail _ (List.Mem.tail _ (List.Mem.tail _ (List.Mem.head _)))))) (upc (.inl (List.Mem.tail _ (List.Mem.tail _ (List.Mem.tail _ (List.Mem.tail _ (List.Mem.tail _ (List.Mem.head _))))))) (fun m hm=>Or.inl (List.Mem.tail _ (List.Mem.tail _ (List.Mem.tail _ (List.Mem.tail _ (List.Mem.tail _ (List.Mem.tail _ hm)))))))))))))))) d2 ((((((((hL.fr E1034).cons (B1026.ex F1032).lt).cons (B1027.ex F1032).lt).cons (B1028.ex F1032).lt).cons (B1029.ex F1032).lt).cons (B1030.ex F1032).lt).cons (B1031.ex F1032).lt).cons (B1015'.ex F1032).lt) (eq_ev hx1051 (flags_ev x956.1 d2 ha1052))) rfl rfl ?_
         rintro _ w1051 ⟨F1051,rfl⟩
         have E1053:=E1034.trans F1051
         refine o_w (v:=.tuple #[.int .u64 x1051.1,.bool x1051.2]) (r_mov rfl) ?_
         refine o_w (v:=.int .u64 x1051.1) (r_ext rfl rfl) ?_
         refine o_w (v:=.bool x1051.2) (r_ext rfl rfl) ?_
         refine o_w (v:=.int .u64 x1051.1) (r_asg rfl) ?_
         refine o_w (v:=.bool x1051.2) (r_asg rfl) ?_
         refine eo_nil_sq ?_
         refine ec_seq ?_
         refine ec_region ?_
         refine o_w (v:=.int .i64 x956.2.2) (r_mov rfl) ?_
         refine o_w (v:=.bool (x956.2.2 != (0:Int))) (r_int rfl rfl rfl) ?_
         refine o_w (v:=.bool (x956.2.2 != (0:Int))) (r_mov rfl) ?_
         refine o_vg (v:=.bool x1051.2) (want_cf (t:=210) rfl rfl) (fun hk=>(r_mov rfl)) rfl rfl ?_
         refine o_vg (v:=.bool (!x1051.2)) (want_cf (t:=210) rfl rfl) (fun hk=>(r_not (gdT hk))) rfl rfl ?_
         refine o_w (v:=.bool ((x956.2.2 != (0:Int))||(!x1051.2))) (r_pickOr rfl rfl (fun hf=>(gdT (notT hf)))) ?_
         refine o_w (v:=.bool ((x956.2.2 != (0:Int))||(!x1051.2))) (r_mov rfl) ?_
         refine o_vg (v:=.int .u64 x1051.1) (want_cf (t:=214) rfl rfl) (fun hk=>(r_mov rfl)) rfl rfl ?_
         refine o_vg (v:=.int .u64 x1032.1) (want_cf (t:=214) rfl rfl) (fun hk=>(r_mov rfl)) rfl rfl ?_
         refine o_vg (v:=.int .u64 d5) (want_cf (t:=214) rfl rfl) (fun hk=>(r_mov rfl)) rfl rfl ?_
         refine o_vg (v:=.int .u64 (IntKind.u64.wrap ((BitVec.ofInt IntKind.u64.bits x1032.1 ||| BitVec.ofInt IntKind.u64.bits d5).toNat:Int))) (want_cf (t:=214) rfl rfl) (fun hk=>(r_int (gdT hk) (gdT hk) rfl)) rfl rfl ?_
         refine o_vg (v:=.bool (x1051.1 != (IntKind.u64.wrap ((BitVec.ofInt IntKind.u64.bits x1032.1 ||| BitVec.ofInt IntKind.u64.bits d5).toNat:Int)))) (want_cf (t:=214) rfl rfl) (fun hk=>(r_int (gdT hk) (gdT hk) rfl)) rfl rfl ?_
         refine o_w (v:=.bool (((x956.2.2 != (0:Int))||(!x1051.2))||(x1051.1 != (IntKind.u64.wrap ((BitVec.ofInt IntKind.u64.bits x1032.1 ||| BitVec.ofInt IntKind.u64.bits d5).toNat:Int))))) (r_pickOr rfl rfl (fun hf=>(gdT (notT hf)))) ?_
         refine eo_nil_sq ?_
         refine ec_cond rfl (fun hc1070=>?_) (fun hc1070=>?_)
         ·replace h:=h.1 hc1070
          refine ec_seq ?_
          refine ec_region ?_
          refine o_w (v:=.bool false) (r_asg rfl) ?_
          refine eo_nil_sq ?_
          refine ec_ret ?_
          refine sq_ret ?_
          subst h
          exact (end1 rfl ⟨_,rfl,E1053,rfl⟩)
         ·replace h:=h.2 hc1070
          refine ec_skip ?_
          refine sq_n ?_
          refine ec_seq ?_
          refine ec_region ?_
          refine o_w (v:=.bool (worksV)) (r_mov rfl) ?_
          refine o_w (v:=.bool (worksV)) (r_asg rfl) ?_
          refine eo_nil_sq ?_
          refine ec_ret ?_
          subst h
          exact (end1 rfl ⟨_,rfl,E1053,rfl⟩)
        ·replace h:=h.2 hc955
         refine ec_skip ?_
         refine sq_n ?_
         refine ec_seq ?_
         refine ec_region ?_
         refine o_w (v:=.bool (worksV)) (r_mov rfl) ?_
         refine o_w (v:=.bool (worksV)) (r_asg rfl) ?_
         refine eo_nil_sq ?_
         refine ec_ret ?_
         subst h
         exact (end1 rfl ⟨_,rfl,E941,rfl⟩)
      ·replace h:=h.2 hc797
       refine ec_skip ?_
       refine sq_n ?_
       refine ec_seq ?_
       refine ec_region ?_
       refine o_w (v:=.agg (cArena d0 A1 c2 A4 c5).toArray) (r_lda agg_api_Arena rfl (vs:=(cArena d0 A1 c2 A4 c5)) rfl ((S7.fr G789 (fun _ h=>h)).now.part (n:=3) rfl)) ?_
       refine o_w (v:=str d2) (r_mov rfl) ?_
       refine o_w (v:=.int .u64 d5) (r_mov rfl) ?_
       obtain ⟨ha1072,h⟩:=h
       obtain ⟨x1071,hx1071,h⟩:=h
       refine o_call cf_delta_Set rfl (delta_Set_c d0 (kArena_mk (d:=d0) (H3.up G788 (fun _ h=>h) (upc (.inr m770) (upc (.inr m112) (upc (.inr m65) (upc (.inr m33) (fun _ h=>.inl h)))))) (H6.up G788 (fun _ h=>h) (upc (.inr m770) (upc (.inr m112) (upc (.inr m65) (upc (.inr m33) (fun _ h=>.inl h))))))) d2 d5 (((((hL.fr E787).cons B794.lt).cons B795.lt).cons B796.lt).cons B786'.lt) (eq_ev hx1071 (set_ev d0 d2 d5 ha1072))) rfl rfl ?_
       rintro _ w1071 ⟨F1071,cs1073,rfl,H1074⟩
       have E1075:=E787.trans F1071
       obtain ⟨A1086,c1087,A1089,c1090,rfl,H1088,H1091⟩:=kEnt_open H1074
       refine o_w (v:=.tuple #[.agg (cEnt x1071.1 A1086 c1087 A1089 c1090).toArray,.int .i64 x1071.2]) (r_mov rfl) ?_
       refine o_w (v:=.agg (cEnt x1071.1 A1086 c1087 A1089 c1090).toArray) (r_ext rfl rfl) ?_
       refine o_w (v:=.int .i64 x1071.2) (r_ext rfl rfl) ?_
       refine o_alloc zero_api_Entry rfl rfl rfl ?_
       intro b1092 w1092 e1092 F1092 B1092
       have n1092:w.heap.size≤b1092:=by rw [e1092]; exact E1075.size
       have q1093:b32<b1092:=by rw [e1092]; exact (B794.ex F1071).lt
       have q1094:b63<b1092:=by rw [e1092]; exact (B795.ex F1071).lt
       have q1095:b109<b1092:=by rw [e1092]; exact (B796.ex F1071).lt
       have q1096:b766<b1092:=by rw [e1092]; exact (B786'.ex F1071).lt
       have m1097:w.heap.size≤b1092:=by rw [e1092]; exact (G788.trans (Fr.ext F1071)).size
       have m1098:w7.heap.size≤b1092:=by rw [e1092]; exact (G789.trans (Fr.ext F1071)).size
       have m1103:w1071.heap.size≤b1092:=Nat.le_of_eq e1092.symm
       have E1104:=E1075.trans F1092
       have G1111:Fr (b766::(b109::(b63::(b32::L)))) w1071 w1092:=Fr.ext F1092
       refine o_store rfl B1092 (vs:=(cEnt x1071.1 A1086 c1087 A1089 c1090)) rfl sz_api_Entry rfl rfl rfl ?_
       intro w1116 F1116 B1116
       have E1117:=Ext.st E1104 F1116 (by simp; omega)
       have G1118:Fr L w w1116:=((G788.trans (Fr.ext F1071)).trans (Fr.ext F1092)).stp F1116 (upc (.inr m1097) (fun m hm=>by cases hm))
       have G1119:Fr L w7 w1116:=((G789.trans (Fr.ext F1071)).trans (Fr.ext F1092)).stp F1116 (upc (.inr m1098) (fun m hm=>by cases hm))
       have G1124:Fr (b766::(b109::(b63::(b32::L)))) w1071 w1116:=G1111.stp F1116 (upc (.inr m1103) (fun m hm=>by cases hm))
       have B1125:=((B794.ex F1071).ex F1092).fr F1116 (by simp; omega)
       have B1126:=((B795.ex F1071).ex F1092).fr F1116 (by simp; omega)
       have B1127:=((B796.ex F1071).ex F1092).fr F1116 (by simp; omega)
       have B1128:=((B786'.ex F1071).ex F1092).fr F1116 (by simp; omega)
       have B1116':Blk w1116 b1092 _ (cEnt x1071.1 A1086 c1087 A1089 c1090):=B1116
       refine o_w (v:=.int .i64 x1071.2) (r_asg rfl) ?_
       refine eo_nil_sq ?_
       iterate 2 refine ec_seq ?_
       refine ec_region ?_
       refine o_w (v:=.int .i64 x1071.2) (r_mov rfl) ?_
       refine o_w (v:=.bool (x1071.2==(0:Int))) (r_int rfl rfl rfl) ?_
       refine eo_nil_sq ?_
       refine ec_cond rfl (fun hc1129=>?_) (fun hc1129=>?_)
       ·replace h:=h.1 hc1129
        refine ec_seq ?_
        refine ec_region ?_
        refine o_w (v:=.agg (cArena d0 A1 c2 A4 c5).toArray) (r_lda agg_api_Arena rfl (vs:=(cArena d0 A1 c2 A4 c5)) rfl ((S7.fr G1119 (fun _ h=>h)).now.part (n:=3) rfl)) ?_
        refine o_w (v:=.agg (cEnt x1071.1 A1086 c1087 A1089 c1090).toArray) (r_lda agg_api_Entry rfl (vs:=(cEnt x1071.1 A1086 c1087 A1089 c1090)) rfl (B1116'.part (n:=9) rfl)) ?_
        obtain ⟨ha1131,h⟩:=h
        obtain ⟨ha1132,h⟩:=h
        obtain ⟨ha1133,h⟩:=h
        obtain ⟨x1130,hx1130,h⟩:=h
        refine o_call cf_arena_Join rfl (arena_Join_c d0 (kArena_mk (d:=d0) (H3.up G1118 (fun _ h=>h) (upc (.inr m1097) (upc (.inr m770) (upc (.inr m112) (upc (.inr m65) (upc (.inr m33) (fun _ h=>.inl h))))))) (H6.up G1118 (fun _ h=>h) (upc (.inr m1097) (upc (.inr m770) (upc (.inr m112) (upc (.inr m65) (upc (.inr m33) (fun _ h=>.inl h)))))))) x1071.1 (kEnt_mk (d:=x1071.1) (H1088.up G1124 (fun _ h=>h) (upc (.inr m1103) (upc (.inl (List.Mem.head _)) (upc (.inl (List.Mem.tail _ (List.Mem.head _))) (upc (.inl (List.Mem.tail _ (List.Mem.tail _ (List.Mem.head _)))) (upc (.inl (List.Mem.tail _ (List.Mem.tail _ (List.Mem.tail _ (List.Mem.head _))))) (fun m hm=>Or.inl (List.Mem.tail _ (List.Mem.tail _ (List.Mem.tail _ (List.Mem.tail _ hm))))))))))) (H1091.up G1124 (fun _ h=>h) (upc (.inr m1103) (upc (.inl (List.Mem.head _)) (upc (.inl (List.Mem.tail _ (List.Mem.head _))) (upc (.inl (List.Mem.tail _ (List.Mem.tail _ (List.Mem.head _)))) (upc (.inl (List.Mem.tail _ (List.Mem.tail _ (List.Mem.tail _ (List.Mem.head _))))) (fun m hm=>Or.inl (List.Mem.tail _ (List.Mem.tail _ (List.Mem.tail _ (List.Mem.tail _ hm)))))))))))) ((((((hL.fr E1117).cons B1125.lt).cons B1126.lt).cons B1127.lt).cons B1128.lt).cons B1116'.lt) (eq_ev hx1130 (arJoin_ev d0 x1071.1 ha1131 ha1132 ha1133))) rfl rfl ?_
        rintro _ w1130 ⟨F1130,cs1134,rfl,H1135⟩
        have E1136:=E1117.trans F1130
        obtain ⟨A1149,c1150,A1152,c1153,rfl,H1151,H1154⟩:=kArena_open H1135
        refine o_w (v:=.tuple #[.agg (cArena x1130.1 A1149 c1150 A1152 c1153).toArray,.bool x1130.2.1,.int .i64 x1130.2.2]) (r_mov rfl) ?_
        refine o_w (v:=.agg (cArena x1130.1 A1149 c1150 A1152 c1153).toArray) (r_ext rfl rfl) ?_
        refine o_w (v:=.bool x1130.2.1) (r_ext rfl rfl) ?_
        refine o_w (v:=.int .i64 x1130.2.2) (r_ext rfl rfl) ?_
        refine o_alloc zero_api_Arena rfl rfl rfl ?_
        intro b1155 w1155 e1155 F1155 B1155
        have n1155:w.heap.size≤b1155:=by rw [e1155]; exact E1136.size
        have q1156:b32<b1155:=by rw [e1155]; exact (B1125.ex F1130).lt
        have q1157:b63<b1155:=by rw [e1155]; exact (B1126.ex F1130).lt
        have q1158:b109<b1155:=by rw [e1155]; exact (B1127.ex F1130).lt
        have q1159:b766<b1155:=by rw [e1155]; exact (B1128.ex F1130).lt
        have q1160:b1092<b1155:=by rw [e1155]; exact (B1116'.ex F1130).lt
        have m1161:w.heap.size≤b1155:=by rw [e1155]; exact (G1118.trans (Fr.ext F1130)).size
        have m1162:w7.heap.size≤b1155:=by rw [e1155]; exact (G1119.trans (Fr.ext F1130)).size
        have m1168:w1130.heap.size≤b1155:=Nat.le_of_eq e1155.symm
        have E1169:=E1136.trans F1155
        have G1177:Fr (b1092::(b766::(b109::(b63::(b32::L))))) w1130 w1155:=Fr.ext F1155
        refine o_store rfl B1155 (vs:=(cArena x1130.1 A1149 c1150 A1152 c1153)) rfl sz_api_Arena rfl rfl rfl ?_
        intro w1183 F1183 B1183
        have E1184:=Ext.st E1169 F1183 (by simp; omega)
        have G1185:Fr L w w1183:=((G1118.trans (Fr.ext F1130)).trans (Fr.ext F1155)).stp F1183 (upc (.inr m1161) (fun m hm=>by cases hm))
        have G1186:Fr L w7 w1183:=((G1119.trans (Fr.ext F1130)).trans (Fr.ext F1155)).stp F1183 (upc (.inr m1162) (fun m hm=>by cases hm))
        have G1192:Fr (b1092::(b766::(b109::(b63::(b32::L))))) w1130 w1183:=G1177.stp F1183 (upc (.inr m1168) (fun m hm=>by cases hm))
        have B1193:=((B1125.ex F1130).ex F1155).fr F1183 (by simp; omega)
        have B1194:=((B1126.ex F1130).ex F1155).fr F1183 (by simp; omega)
        have B1195:=((B1127.ex F1130).ex F1155).fr F1183 (by simp; omega)
        have B1196:=((B1128.ex F1130).ex F1155).fr F1183 (by simp; omega)
        have B1197:=((B1116'.ex F1130).ex F1155).fr F1183 (by simp; omega)
        have B1183':Blk w1183 b1155 _ (cArena x1130.1 A1149 c1150 A1152 c1153):=B1183
        refine o_w (v:=.bool x1130.2.1) (r_asg rfl) ?_
        refine o_w (v:=.int .i64 x1130.2.2) (r_asg rfl) ?_
        refine eo_nil_sq ?_
        refine ec_seq ?_
        refine ec_region ?_
        refine o_w (v:=.agg (cArena d0 A1 c2 A4 c5).toArray) (r_lda agg_api_Arena rfl (vs:=(cArena d0 A1 c2 A4 c5)) rfl ((S7.fr G1186 (fun _ h=>h)).now.part (n:=3) rfl)) ?_
        refine o_w (v:=str d2) (r_mov rfl) ?_
        obtain ⟨ha1199,h⟩:=h
        obtain ⟨x1198,hx1198,h⟩:=h
        refine o_call cf_delta_Flags rfl (delta_Flags_c d0 (kArena_mk (d:=d0) (H3.up G1185 (fun _ h=>h) (upc (.inr m1161) (upc (.inr m1097) (upc (.inr m770) (upc (.inr m112) (upc (.inr m65) (upc (.inr m33) (fun _ h=>.inl h)))))))) (H6.up G1185 (fun _ h=>h) (upc (.inr m1161) (upc (.inr m1097) (upc (.inr m770) (upc (.inr m112) (upc (.inr m65) (upc (.inr m33) (fun _ h=>.inl h))))))))) d2 (((((((hL.fr E1184).cons B1193.lt).cons B1194.lt).cons B1195.lt).cons B1196.lt).cons B1197.lt).cons B1183'.lt) (eq_ev hx1198 (flags_ev d0 d2 ha1199))) rfl rfl ?_
        rintro _ w1198 ⟨F1198,rfl⟩
        have E1200:=E1184.trans F1198
        refine o_w (v:=.tuple #[.int .u64 x1198.1,.bool x1198.2]) (r_mov rfl) ?_
        refine o_w (v:=.int .u64 x1198.1) (r_ext rfl rfl) ?_
        refine o_w (v:=.bool x1198.2) (r_ext rfl rfl) ?_
        refine o_w (v:=.int .u64 x1198.1) (r_asg rfl) ?_
        refine o_w (v:=.bool x1198.2) (r_asg rfl) ?_
        refine eo_nil_sq ?_
        refine ec_seq ?_
        refine ec_region ?_
        refine o_w (v:=.agg (cArena x1130.1 A1149 c1150 A1152 c1153).toArray) (r_lda agg_api_Arena rfl (vs:=(cArena x1130.1 A1149 c1150 A1152 c1153)) rfl ((B1183'.ex F1198).part (n:=3) rfl)) ?_
        refine o_w (v:=str d2) (r_mov rfl) ?_
        obtain ⟨ha1216,h⟩:=h
        obtain ⟨x1215,hx1215,h⟩:=h
        refine o_call cf_delta_Flags rfl (delta_Flags_c x1130.1 (kArena_mk (d:=x1130.1) (H1151.up (G1192.trans (Fr.ext F1198)) (fun _ h=>h) (upc (.inr m1168) (upc (.inl (List.Mem.head _)) (upc (.inl (List.Mem.tail _ (List.Mem.head _))) (upc (.inl (List.Mem.tail _ (List.Mem.tail _ (List.Mem.head _)))) (upc (.inl (List.Mem.tail _ (List.Mem.tail _ (List.Mem.tail _ (List.Mem.head _))))) (upc (.inl (List.Mem.tail _ (List.Mem.tail _ (List.Mem.tail _ (List.Mem.tail _ (List.Mem.head _)))))) (fun m hm=>Or.inl (List.Mem.tail _ (List.Mem.tail _ (List.Mem.tail _ (List.Mem.tail _ (List.Mem.tail _ hm))))))))))))) (H1154.up (G1192.trans (Fr.ext F1198)) (fun _ h=>h) (upc (.inr m1168) (upc (.inl (List.Mem.head _)) (upc (.inl (List.Mem.tail _ (List.Mem.head _))) (upc (.inl (List.Mem.tail _ (List.Mem.tail _ (List.Mem.head _)))) (upc (.inl (List.Mem.tail _ (List.Mem.tail _ (List.Mem.tail _ (List.Mem.head _))))) (upc (.inl (List.Mem.tail _ (List.Mem.tail _ (List.Mem.tail _ (List.Mem.tail _ (List.Mem.head _)))))) (fun m hm=>Or.inl (List.Mem.tail _ (List.Mem.tail _ (List.Mem.tail _ (List.Mem.tail _ (List.Mem.tail _ hm)))))))))))))) d2 (((((((hL.fr E1200).cons (B1193.ex F1198).lt).cons (B1194.ex F1198).lt).cons (B1195.ex F1198).lt).cons (B1196.ex F1198).lt).cons (B1197.ex F1198).lt).cons (B1183'.ex F1198).lt) (eq_ev hx1215 (flags_ev x1130.1 d2 ha1216))) rfl rfl ?_
        rintro _ w1215 ⟨F1215,rfl⟩
        have E1217:=E1200.trans F1215
        refine o_w (v:=.tuple #[.int .u64 x1215.1,.bool x1215.2]) (r_mov rfl) ?_
        refine o_w (v:=.int .u64 x1215.1) (r_ext rfl rfl) ?_
        refine o_w (v:=.bool x1215.2) (r_ext rfl rfl) ?_
        refine o_w (v:=.int .u64 x1215.1) (r_asg rfl) ?_
        refine o_w (v:=.bool x1215.2) (r_asg rfl) ?_
        refine eo_nil_sq ?_
        refine ec_seq ?_
        refine ec_region ?_
        refine o_w (v:=.int .i64 x1130.2.2) (r_mov rfl) ?_
        refine o_w (v:=.bool (x1130.2.2 != (0:Int))) (r_int rfl rfl rfl) ?_
        refine o_w (v:=.bool (x1130.2.2 != (0:Int))) (r_mov rfl) ?_
        refine o_vg (v:=.bool x1215.2) (want_cf (t:=210) rfl rfl) (fun hk=>(r_mov rfl)) rfl rfl ?_
        refine o_vg (v:=.bool (!x1215.2)) (want_cf (t:=210) rfl rfl) (fun hk=>(r_not (gdT hk))) rfl rfl ?_
        refine o_w (v:=.bool ((x1130.2.2 != (0:Int))||(!x1215.2))) (r_pickOr rfl rfl (fun hf=>(gdT (notT hf)))) ?_
        refine o_w (v:=.bool ((x1130.2.2 != (0:Int))||(!x1215.2))) (r_mov rfl) ?_
        refine o_vg (v:=.int .u64 x1215.1) (want_cf (t:=214) rfl rfl) (fun hk=>(r_mov rfl)) rfl rfl ?_
        refine o_vg (v:=.int .u64 x1198.1) (want_cf (t:=214) rfl rfl) (fun hk=>(r_mov rfl)) rfl rfl ?_
        refine o_vg (v:=.int .u64 d5) (want_cf (t:=214) rfl rfl) (fun hk=>(r_mov rfl)) rfl rfl ?_
        refine o_vg (v:=.int .u64 (IntKind.u64.wrap ((BitVec.ofInt IntKind.u64.bits x1198.1 ||| BitVec.ofInt IntKind.u64.bits d5).toNat:Int))) (want_cf (t:=214) rfl rfl) (fun hk=>(r_int (gdT hk) (gdT hk) rfl)) rfl rfl ?_
        refine o_vg (v:=.bool (x1215.1 != (IntKind.u64.wrap ((BitVec.ofInt IntKind.u64.bits x1198.1 ||| BitVec.ofInt IntKind.u64.bits d5).toNat:Int)))) (want_cf (t:=214) rfl rfl) (fun hk=>(r_int (gdT hk) (gdT hk) rfl)) rfl rfl ?_
        refine o_w (v:=.bool (((x1130.2.2 != (0:Int))||(!x1215.2))||(x1215.1 != (IntKind.u64.wrap ((BitVec.ofInt IntKind.u64.bits x1198.1 ||| BitVec.ofInt IntKind.u64.bits d5).toNat:Int))))) (r_pickOr rfl rfl (fun hf=>(gdT (notT hf)))) ?_
        refine eo_nil_sq ?_
        refine ec_cond rfl (fun hc1232=>?_) (fun hc1232=>?_)
        ·replace h:=h.1 hc1232
         refine ec_seq ?_
         refine ec_region ?_
         refine o_w (v:=.bool false) (r_asg rfl) ?_
         refine eo_nil_sq ?_
         refine ec_ret ?_
         refine sq_ret ?_
         subst h
         exact (end1 rfl ⟨_,rfl,E1217,rfl⟩)
        ·replace h:=h.2 hc1232
         refine ec_skip ?_
         refine sq_n ?_
         refine ec_seq ?_
         refine ec_region ?_
         refine o_w (v:=.bool (worksV)) (r_mov rfl) ?_
         refine o_w (v:=.bool (worksV)) (r_asg rfl) ?_
         refine eo_nil_sq ?_
         refine ec_ret ?_
         subst h
         exact (end1 rfl ⟨_,rfl,E1217,rfl⟩)
       ·replace h:=h.2 hc1129
        refine ec_skip ?_
        refine sq_n ?_
        refine ec_seq ?_
        refine ec_region ?_
        refine o_w (v:=.bool (worksV)) (r_mov rfl) ?_
        refine o_w (v:=.bool (worksV)) (r_asg rfl) ?_
        refine eo_nil_sq ?_
        refine ec_ret ?_
        subst h
        exact (end1 rfl ⟨_,rfl,E1117,rfl⟩)
   ·replace h:=h.2 hc45
    refine ec_skip ?_
    refine sq_n ?_
    refine ec_seq ?_
    refine ec_region ?_
    refine o_w (v:=.agg (cArena d0 A1 c2 A4 c5).toArray) (r_lda agg_api_Arena rfl (vs:=(cArena d0 A1 c2 A4 c5)) rfl ((S7.fr G43 (fun _ h=>h)).now.part (n:=3) rfl)) ?_
    refine o_w (v:=.int .i64 d1) (r_mov rfl) ?_
    refine o_w (v:=str d2) (r_mov rfl) ?_
    obtain ⟨ha1234,h⟩:=h
    obtain ⟨x1233,hx1233,h⟩:=h
    refine o_call cf_delta_Delete rfl (delta_Delete_c d0 (kArena_mk (d:=d0) (H3.up G42 (fun _ h=>h) (upc (.inr m33) (fun _ h=>.inl h))) (H6.up G42 (fun _ h=>h) (upc (.inr m33) (fun _ h=>.inl h)))) d1 d2 ((hL.fr E41).cons B40'.lt) (eq_ev hx1233 (del_ev d0 d1 d2 ha1234))) rfl rfl ?_
    rintro _ w1233 ⟨F1233,cs1235,rfl,H1236⟩
    have E1237:=E41.trans F1233
    obtain ⟨A1242,c1243,A1245,c1246,rfl,H1244,H1247⟩:=kEnt_open H1236
    refine o_w (v:=.tuple #[.agg (cEnt x1233.1 A1242 c1243 A1245 c1246).toArray,.int .i64 x1233.2]) (r_mov rfl) ?_
    refine o_w (v:=.agg (cEnt x1233.1 A1242 c1243 A1245 c1246).toArray) (r_ext rfl rfl) ?_
    refine o_w (v:=.int .i64 x1233.2) (r_ext rfl rfl) ?_
    refine o_alloc zero_api_Entry rfl rfl rfl ?_
    intro b1248 w1248 e1248 F1248 B1248
    have n1248:w.heap.size≤b1248:=by rw [e1248]; exact E1237.size
    have q1249:b32<b1248:=by rw [e1248]; exact (B40'.ex F1233).lt
    have m1250:w.heap.size≤b1248:=by rw [e1248]; exact (G42.trans (Fr.ext F1233)).size
    have m1251:w7.heap.size≤b1248:=by rw [e1248]; exact (G43.trans (Fr.ext F1233)).size
    have m1253:w1233.heap.size≤b1248:=Nat.le_of_eq e1248.symm
    have E1254:=E1237.trans F1248
    have G1258:Fr (b32::L) w1233 w1248:=Fr.ext F1248
    refine o_store rfl B1248 (vs:=(cEnt x1233.1 A1242 c1243 A1245 c1246)) rfl sz_api_Entry rfl rfl rfl ?_
    intro w1260 F1260 B1260
    have E1261:=Ext.st E1254 F1260 (by simp; omega)
    have G1262:Fr L w w1260:=((G42.trans (Fr.ext F1233)).trans (Fr.ext F1248)).stp F1260 (upc (.inr m1250) (fun m hm=>by cases hm))
    have G1263:Fr L w7 w1260:=((G43.trans (Fr.ext F1233)).trans (Fr.ext F1248)).stp F1260 (upc (.inr m1251) (fun m hm=>by cases hm))
    have G1265:Fr (b32::L) w1233 w1260:=G1258.stp F1260 (upc (.inr m1253) (fun m hm=>by cases hm))
    have B1266:=((B40'.ex F1233).ex F1248).fr F1260 (by simp; omega)
    have B1260':Blk w1260 b1248 _ (cEnt x1233.1 A1242 c1243 A1245 c1246):=B1260
    refine o_w (v:=.int .i64 x1233.2) (r_asg rfl) ?_
    refine eo_nil_sq ?_
    iterate 2 refine ec_seq ?_
    refine ec_region ?_
    refine o_w (v:=.int .i64 x1233.2) (r_mov rfl) ?_
    refine o_w (v:=.bool (x1233.2==(0:Int))) (r_int rfl rfl rfl) ?_
    refine eo_nil_sq ?_
    refine ec_cond rfl (fun hc1267=>?_) (fun hc1267=>?_)
    ·replace h:=h.1 hc1267
     refine ec_seq ?_
     refine ec_region ?_
     refine o_w (v:=.agg (cArena d0 A1 c2 A4 c5).toArray) (r_lda agg_api_Arena rfl (vs:=(cArena d0 A1 c2 A4 c5)) rfl ((S7.fr G1263 (fun _ h=>h)).now.part (n:=3) rfl)) ?_
     refine o_w (v:=.agg (cEnt x1233.1 A1242 c1243 A1245 c1246).toArray) (r_lda agg_api_Entry rfl (vs:=(cEnt x1233.1 A1242 c1243 A1245 c1246)) rfl (B1260'.part (n:=9) rfl)) ?_
     obtain ⟨ha1269,h⟩:=h
     obtain ⟨ha1270,h⟩:=h
     obtain ⟨ha1271,h⟩:=h
     obtain ⟨x1268,hx1268,h⟩:=h
     refine o_call cf_arena_Join rfl (arena_Join_c d0 (kArena_mk (d:=d0) (H3.up G1262 (fun _ h=>h) (upc (.inr m1250) (upc (.inr m33) (fun _ h=>.inl h)))) (H6.up G1262 (fun _ h=>h) (upc (.inr m1250) (upc (.inr m33) (fun _ h=>.inl h))))) x1233.1 (kEnt_mk (d:=x1233.1) (H1244.up G1265 (fun _ h=>h) (upc (.inr m1253) (upc (.inl (List.Mem.head _)) (fun m hm=>Or.inl (List.Mem.tail _ hm))))) (H1247.up G1265 (fun _ h=>h) (upc (.inr m1253) (upc (.inl (List.Mem.head _)) (fun m hm=>Or.inl (List.Mem.tail _ hm)))))) (((hL.fr E1261).cons B1266.lt).cons B1260'.lt) (eq_ev hx1268 (arJoin_ev d0 x1233.1 ha1269 ha1270 ha1271))) rfl rfl ?_
     rintro _ w1268 ⟨F1268,cs1272,rfl,H1273⟩
     have E1274:=E1261.trans F1268
     obtain ⟨A1281,c1282,A1284,c1285,rfl,H1283,H1286⟩:=kArena_open H1273
     refine o_w (v:=.tuple #[.agg (cArena x1268.1 A1281 c1282 A1284 c1285).toArray,.bool x1268.2.1,.int .i64 x1268.2.2]) (r_mov rfl) ?_
     refine o_w (v:=.agg (cArena x1268.1 A1281 c1282 A1284 c1285).toArray) (r_ext rfl rfl) ?_
     refine o_w (v:=.bool x1268.2.1) (r_ext rfl rfl) ?_
     refine o_w (v:=.int .i64 x1268.2.2) (r_ext rfl rfl) ?_
     refine o_alloc zero_api_Arena rfl rfl rfl ?_
     intro b1287 w1287 e1287 F1287 B1287
     have n1287:w.heap.size≤b1287:=by rw [e1287]; exact E1274.size
     have q1288:b32<b1287:=by rw [e1287]; exact (B1266.ex F1268).lt
     have q1289:b1248<b1287:=by rw [e1287]; exact (B1260'.ex F1268).lt
     have m1290:w.heap.size≤b1287:=by rw [e1287]; exact (G1262.trans (Fr.ext F1268)).size
     have m1291:w7.heap.size≤b1287:=by rw [e1287]; exact (G1263.trans (Fr.ext F1268)).size
     have m1294:w1268.heap.size≤b1287:=Nat.le_of_eq e1287.symm
     have E1295:=E1274.trans F1287
     have G1300:Fr (b1248::(b32::L)) w1268 w1287:=Fr.ext F1287
     refine o_store rfl B1287 (vs:=(cArena x1268.1 A1281 c1282 A1284 c1285)) rfl sz_api_Arena rfl rfl rfl ?_
     intro w1303 F1303 B1303
     have E1304:=Ext.st E1295 F1303 (by simp; omega)
     have G1305:Fr L w w1303:=((G1262.trans (Fr.ext F1268)).trans (Fr.ext F1287)).stp F1303 (upc (.inr m1290) (fun m hm=>by cases hm))
     have G1306:Fr L w7 w1303:=((G1263.trans (Fr.ext F1268)).trans (Fr.ext F1287)).stp F1303 (upc (.inr m1291) (fun m hm=>by cases hm))
     have G1309:Fr (b1248::(b32::L)) w1268 w1303:=G1300.stp F1303 (upc (.inr m1294) (fun m hm=>by cases hm))
     have B1310:=((B1266.ex F1268).ex F1287).fr F1303 (by simp; omega)
     have B1311:=((B1260'.ex F1268).ex F1287).fr F1303 (by simp; omega)
     have B1303':Blk w1303 b1287 _ (cArena x1268.1 A1281 c1282 A1284 c1285):=B1303
     refine o_w (v:=.bool x1268.2.1) (r_asg rfl) ?_
     refine o_w (v:=.int .i64 x1268.2.2) (r_asg rfl) ?_
     refine eo_nil_sq ?_
     refine ec_seq ?_
     refine ec_region ?_
     refine o_w (v:=.agg (cArena x1268.1 A1281 c1282 A1284 c1285).toArray) (r_lda agg_api_Arena rfl (vs:=(cArena x1268.1 A1281 c1282 A1284 c1285)) rfl (B1303'.part (n:=3) rfl)) ?_
     refine o_w (v:=str d2) (r_mov rfl) ?_
     obtain ⟨ha1313,h⟩:=h
     obtain ⟨x1312,hx1312,h⟩:=h
     refine o_call cf_delta_Text rfl (delta_Text_c x1268.1 (kArena_mk (d:=x1268.1) (H1283.up G1309 (fun _ h=>h) (upc (.inr m1294) (upc (.inl (List.Mem.head _)) (upc (.inl (List.Mem.tail _ (List.Mem.head _))) (fun m hm=>Or.inl (List.Mem.tail _ (List.Mem.tail _ hm))))))) (H1286.up G1309 (fun _ h=>h) (upc (.inr m1294) (upc (.inl (List.Mem.head _)) (upc (.inl (List.Mem.tail _ (List.Mem.head _))) (fun m hm=>Or.inl (List.Mem.tail _ (List.Mem.tail _ hm)))))))) d2 ((((hL.fr E1304).cons B1310.lt).cons B1311.lt).cons B1303'.lt) (eq_ev hx1312 (text_ev x1268.1 d2 ha1313))) rfl rfl ?_
     rintro _ w1312 ⟨F1312,rfl⟩
     have E1314:=E1304.trans F1312
     refine o_w (v:=.tuple #[str x1312.1,.bool x1312.2]) (r_mov rfl) ?_
     refine o_w (v:=str x1312.1) (r_ext rfl rfl) ?_
     refine o_w (v:=.bool x1312.2) (r_ext rfl rfl) ?_
     refine o_w (v:=str x1312.1) (r_asg rfl) ?_
     refine o_w (v:=.bool x1312.2) (r_asg rfl) ?_
     refine eo_nil_sq ?_
     refine ec_seq ?_
     refine ec_region ?_
     refine o_w (v:=.bool x1268.2.1) (r_mov rfl) ?_
     refine o_w (v:=.bool (!x1268.2.1)) (r_not rfl) ?_
     refine o_w (v:=.bool (!x1268.2.1)) (r_mov rfl) ?_
     refine o_vg (v:=.int .i64 x1268.2.2) (want_cf (t:=127) rfl rfl) (fun hk=>(r_mov rfl)) rfl rfl ?_
     refine o_vg (v:=.bool (x1268.2.2 != (0:Int))) (want_cf (t:=127) rfl rfl) (fun hk=>(r_int (gdT hk) rfl rfl)) rfl rfl ?_
     refine o_w (v:=.bool ((!x1268.2.1)||(x1268.2.2 != (0:Int)))) (r_pickOr rfl rfl (fun hf=>(gdT (notT hf)))) ?_
     refine o_w (v:=.bool ((!x1268.2.1)||(x1268.2.2 != (0:Int)))) (r_mov rfl) ?_
     refine o_vg (v:=.bool x1312.2) (want_cf (t:=131) rfl rfl) (fun hk=>(r_mov rfl)) rfl rfl ?_
     refine o_w (v:=.bool (((!x1268.2.1)||(x1268.2.2 != (0:Int)))||x1312.2)) (r_pickOr rfl rfl (fun hf=>(gdT (notT hf)))) ?_
     refine eo_nil_sq ?_
     refine ec_cond rfl (fun hc1323=>?_) (fun hc1323=>?_)
     ·replace h:=h.1 hc1323
      refine ec_seq ?_
      refine ec_region ?_
      refine o_w (v:=.bool false) (r_asg rfl) ?_
      refine eo_nil_sq ?_
      refine ec_ret ?_
      refine sq_ret ?_
      subst h
      exact (end1 rfl ⟨_,rfl,E1314,rfl⟩)
     ·replace h:=h.2 hc1323
      refine ec_skip ?_
      refine sq_n ?_
      refine ec_seq ?_
      refine ec_region ?_
      refine o_w (v:=.agg (cArena d0 A1 c2 A4 c5).toArray) (r_lda agg_api_Arena rfl (vs:=(cArena d0 A1 c2 A4 c5)) rfl ((S7.fr (G1306.trans (Fr.ext F1312)) (fun _ h=>h)).now.part (n:=3) rfl)) ?_
      refine o_w (v:=.int .i64 d1) (r_mov rfl) ?_
      refine o_w (v:=str d2) (r_mov rfl) ?_
      refine o_w (v:=.int .i64 d4) (r_mov rfl) ?_
      obtain ⟨ha1325,h⟩:=h
      obtain ⟨x1324,hx1324,h⟩:=h
      refine o_call cf_delta_Add rfl (delta_Add_c d0 (kArena_mk (d:=d0) (H3.up (G1305.trans (Fr.ext F1312)) (fun _ h=>h) (upc (.inr m1290) (upc (.inr m1250) (upc (.inr m33) (fun _ h=>.inl h))))) (H6.up (G1305.trans (Fr.ext F1312)) (fun _ h=>h) (upc (.inr m1290) (upc (.inr m1250) (upc (.inr m33) (fun _ h=>.inl h)))))) d1 d2 d4 ((((hL.fr E1314).cons (B1310.ex F1312).lt).cons (B1311.ex F1312).lt).cons (B1303'.ex F1312).lt) (eq_ev hx1324 (add_ev d0 d1 d2 d4 ha1325))) rfl rfl ?_
      rintro _ w1324 ⟨F1324,cs1326,rfl,H1327⟩
      have E1328:=E1314.trans F1324
      obtain ⟨A1337,c1338,A1340,c1341,rfl,H1339,H1342⟩:=kEnt_open H1327
      refine o_w (v:=.tuple #[.agg (cEnt x1324.1 A1337 c1338 A1340 c1341).toArray,.int .i64 x1324.2]) (r_mov rfl) ?_
      refine o_w (v:=.agg (cEnt x1324.1 A1337 c1338 A1340 c1341).toArray) (r_ext rfl rfl) ?_
      refine o_w (v:=.int .i64 x1324.2) (r_ext rfl rfl) ?_
      refine o_alloc zero_api_Entry rfl rfl rfl ?_
      intro b1343 w1343 e1343 F1343 B1343
      have n1343:w.heap.size≤b1343:=by rw [e1343]; exact E1328.size
      have q1344:b32<b1343:=by rw [e1343]; exact ((B1310.ex F1312).ex F1324).lt
      have q1345:b1248<b1343:=by rw [e1343]; exact ((B1311.ex F1312).ex F1324).lt
      have q1346:b1287<b1343:=by rw [e1343]; exact ((B1303'.ex F1312).ex F1324).lt
      have m1347:w.heap.size≤b1343:=by rw [e1343]; exact ((G1305.trans (Fr.ext F1312)).trans (Fr.ext F1324)).size
      have m1348:w7.heap.size≤b1343:=by rw [e1343]; exact ((G1306.trans (Fr.ext F1312)).trans (Fr.ext F1324)).size
      have m1352:w1324.heap.size≤b1343:=Nat.le_of_eq e1343.symm
      have E1353:=E1328.trans F1343
      have G1354:=((G1305.trans (Fr.ext F1312)).trans (Fr.ext F1324)).trans (Fr.ext F1343)
      have G1355:=((G1306.trans (Fr.ext F1312)).trans (Fr.ext F1324)).trans (Fr.ext F1343)
      have G1359:Fr (b1287::(b1248::(b32::L))) w1324 w1343:=Fr.ext F1343
      refine o_store rfl B1343 (vs:=(cEnt x1324.1 A1337 c1338 A1340 c1341)) rfl sz_api_Entry rfl rfl rfl ?_
      intro w1363 F1363 B1363
      have E1364:=Ext.st E1353 F1363 (by simp; omega)
      have G1365:Fr L w w1363:=G1354.stp F1363 (upc (.inr m1347) (fun m hm=>by cases hm))
      have G1366:Fr L w7 w1363:=G1355.stp F1363 (upc (.inr m1348) (fun m hm=>by cases hm))
      have G1370:Fr (b1287::(b1248::(b32::L))) w1324 w1363:=G1359.stp F1363 (upc (.inr m1352) (fun m hm=>by cases hm))
      have B1371:=(((B1310.ex F1312).ex F1324).ex F1343).fr F1363 (by simp; omega)
      have B1372:=(((B1311.ex F1312).ex F1324).ex F1343).fr F1363 (by simp; omega)
      have B1373:=(((B1303'.ex F1312).ex F1324).ex F1343).fr F1363 (by simp; omega)
      have B1363':Blk w1363 b1343 _ (cEnt x1324.1 A1337 c1338 A1340 c1341):=B1363
      refine o_w (v:=.int .i64 x1324.2) (r_asg rfl) ?_
      refine eo_nil_sq ?_
      iterate 2 refine ec_seq ?_
      refine ec_region ?_
      refine o_w (v:=.int .i64 x1324.2) (r_mov rfl) ?_
      refine o_w (v:=.bool (x1324.2==(0:Int))) (r_int rfl rfl rfl) ?_
      refine eo_nil_sq ?_
      refine ec_cond rfl (fun hc1374=>?_) (fun hc1374=>?_)
      ·replace h:=h.1 hc1374
       refine ec_seq ?_
       refine ec_region ?_
       refine o_w (v:=.agg (cArena d0 A1 c2 A4 c5).toArray) (r_lda agg_api_Arena rfl (vs:=(cArena d0 A1 c2 A4 c5)) rfl ((S7.fr G1366 (fun _ h=>h)).now.part (n:=3) rfl)) ?_
       refine o_w (v:=.agg (cEnt x1324.1 A1337 c1338 A1340 c1341).toArray) (r_lda agg_api_Entry rfl (vs:=(cEnt x1324.1 A1337 c1338 A1340 c1341)) rfl (B1363'.part (n:=9) rfl)) ?_
       obtain ⟨ha1376,h⟩:=h
       obtain ⟨ha1377,h⟩:=h
       obtain ⟨ha1378,h⟩:=h
       obtain ⟨x1375,hx1375,h⟩:=h
       refine o_call cf_arena_Join rfl (arena_Join_c d0 (kArena_mk (d:=d0) (H3.up G1365 (fun _ h=>h) (upc (.inr m1347) (upc (.inr m1290) (upc (.inr m1250) (upc (.inr m33) (fun _ h=>.inl h)))))) (H6.up G1365 (fun _ h=>h) (upc (.inr m1347) (upc (.inr m1290) (upc (.inr m1250) (upc (.inr m33) (fun _ h=>.inl h))))))) x1324.1 (kEnt_mk (d:=x1324.1) (H1339.up G1370 (fun _ h=>h) (upc (.inr m1352) (upc (.inl (List.Mem.head _)) (upc (.inl (List.Mem.tail _ (List.Mem.head _))) (upc (.inl (List.Mem.tail _ (List.Mem.tail _ (List.Mem.head _)))) (fun m hm=>Or.inl (List.Mem.tail _ (List.Mem.tail _ (List.Mem.tail _ hm))))))))) (H1342.up G1370 (fun _ h=>h) (upc (.inr m1352) (upc (.inl (List.Mem.head _)) (upc (.inl (List.Mem.tail _ (List.Mem.head _))) (upc (.inl (List.Mem.tail _ (List.Mem.tail _ (List.Mem.head _)))) (fun m hm=>Or.inl (List.Mem.tail _ (List.Mem.tail _ (List.Mem.tail _ hm)))))))))) (((((hL.fr E1364).cons B1371.lt).cons B1372.lt).cons B1373.lt).cons B1363'.lt) (eq_ev hx1375 (arJoin_ev d0 x1324.1 ha1376 ha1377 ha1378))) rfl rfl ?_
       rintro _ w1375 ⟨F1375,cs1379,rfl,H1380⟩
       have E1381:=E1364.trans F1375
       obtain ⟨A1392,c1393,A1395,c1396,rfl,H1394,H1397⟩:=kArena_open H1380
       refine o_w (v:=.tuple #[.agg (cArena x1375.1 A1392 c1393 A1395 c1396).toArray,.bool x1375.2.1,.int .i64 x1375.2.2]) (r_mov rfl) ?_
       refine o_w (v:=.agg (cArena x1375.1 A1392 c1393 A1395 c1396).toArray) (r_ext rfl rfl) ?_
       refine o_w (v:=.bool x1375.2.1) (r_ext rfl rfl) ?_
       refine o_w (v:=.int .i64 x1375.2.2) (r_ext rfl rfl) ?_
       refine o_alloc zero_api_Arena rfl rfl rfl ?_
       intro b1398 w1398 e1398 F1398 B1398
       have n1398:w.heap.size≤b1398:=by rw [e1398]; exact E1381.size
       have q1399:b32<b1398:=by rw [e1398]; exact (B1371.ex F1375).lt
       have q1400:b1248<b1398:=by rw [e1398]; exact (B1372.ex F1375).lt
       have q1401:b1287<b1398:=by rw [e1398]; exact (B1373.ex F1375).lt
       have q1402:b1343<b1398:=by rw [e1398]; exact (B1363'.ex F1375).lt
       have m1403:w.heap.size≤b1398:=by rw [e1398]; exact (G1365.trans (Fr.ext F1375)).size
       have m1404:w7.heap.size≤b1398:=by rw [e1398]; exact (G1366.trans (Fr.ext F1375)).size
       have m1409:w1375.heap.size≤b1398:=Nat.le_of_eq e1398.symm
       have E1410:=E1381.trans F1398
       have G1417:Fr (b1343::(b1287::(b1248::(b32::L)))) w1375 w1398:=Fr.ext F1398
       refine o_store rfl B1398 (vs:=(cArena x1375.1 A1392 c1393 A1395 c1396)) rfl sz_api_Arena rfl rfl rfl ?_
       intro w1422 F1422 B1422
       have E1423:=Ext.st E1410 F1422 (by simp; omega)
       have G1424:Fr L w w1422:=((G1365.trans (Fr.ext F1375)).trans (Fr.ext F1398)).stp F1422 (upc (.inr m1403) (fun m hm=>by cases hm))
       have G1425:Fr L w7 w1422:=((G1366.trans (Fr.ext F1375)).trans (Fr.ext F1398)).stp F1422 (upc (.inr m1404) (fun m hm=>by cases hm))
       have G1430:Fr (b1343::(b1287::(b1248::(b32::L)))) w1375 w1422:=G1417.stp F1422 (upc (.inr m1409) (fun m hm=>by cases hm))
       have B1431:=((B1371.ex F1375).ex F1398).fr F1422 (by simp; omega)
       have B1432:=((B1372.ex F1375).ex F1398).fr F1422 (by simp; omega)
       have B1433:=((B1373.ex F1375).ex F1398).fr F1422 (by simp; omega)
       have B1434:=((B1363'.ex F1375).ex F1398).fr F1422 (by simp; omega)
       have B1422':Blk w1422 b1398 _ (cArena x1375.1 A1392 c1393 A1395 c1396):=B1422
       refine o_w (v:=.bool x1375.2.1) (r_asg rfl) ?_
       refine o_w (v:=.int .i64 x1375.2.2) (r_asg rfl) ?_
       refine eo_nil_sq ?_
       refine ec_seq ?_
       refine ec_region ?_
       refine o_w (v:=.agg (cArena d0 A1 c2 A4 c5).toArray) (r_lda agg_api_Arena rfl (vs:=(cArena d0 A1 c2 A4 c5)) rfl ((S7.fr G1425 (fun _ h=>h)).now.part (n:=3) rfl)) ?_
       refine o_w (v:=str d2) (r_mov rfl) ?_
       obtain ⟨ha1436,h⟩:=h
       obtain ⟨x1435,hx1435,h⟩:=h
       refine o_call cf_delta_Sum rfl (delta_Sum_c d0 (kArena_mk (d:=d0) (H3.up G1424 (fun _ h=>h) (upc (.inr m1403) (upc (.inr m1347) (upc (.inr m1290) (upc (.inr m1250) (upc (.inr m33) (fun _ h=>.inl h))))))) (H6.up G1424 (fun _ h=>h) (upc (.inr m1403) (upc (.inr m1347) (upc (.inr m1290) (upc (.inr m1250) (upc (.inr m33) (fun _ h=>.inl h)))))))) d2 ((((((hL.fr E1423).cons B1431.lt).cons B1432.lt).cons B1433.lt).cons B1434.lt).cons B1422'.lt) (eq_ev hx1435 (sum_ev d0 d2 ha1436))) rfl rfl ?_
       rintro _ w1435 ⟨F1435,rfl⟩
       have E1437:=E1423.trans F1435
       refine o_w (v:=.tuple #[.int .i64 x1435.1,.bool x1435.2]) (r_mov rfl) ?_
       refine o_w (v:=.int .i64 x1435.1) (r_ext rfl rfl) ?_
       refine o_w (v:=.bool x1435.2) (r_ext rfl rfl) ?_
       refine o_w (v:=.int .i64 x1435.1) (r_asg rfl) ?_
       refine o_w (v:=.bool x1435.2) (r_asg rfl) ?_
       refine eo_nil_sq ?_
       refine ec_seq ?_
       refine ec_region ?_
       refine o_w (v:=.agg (cArena x1375.1 A1392 c1393 A1395 c1396).toArray) (r_lda agg_api_Arena rfl (vs:=(cArena x1375.1 A1392 c1393 A1395 c1396)) rfl ((B1422'.ex F1435).part (n:=3) rfl)) ?_
       refine o_w (v:=str d2) (r_mov rfl) ?_
       obtain ⟨ha1451,h⟩:=h
       obtain ⟨x1450,hx1450,h⟩:=h
       refine o_call cf_delta_Sum rfl (delta_Sum_c x1375.1 (kArena_mk (d:=x1375.1) (H1394.up (G1430.trans (Fr.ext F1435)) (fun _ h=>h) (upc (.inr m1409) (upc (.inl (List.Mem.head _)) (upc (.inl (List.Mem.tail _ (List.Mem.head _))) (upc (.inl (List.Mem.tail _ (List.Mem.tail _ (List.Mem.head _)))) (upc (.inl (List.Mem.tail _ (List.Mem.tail _ (List.Mem.tail _ (List.Mem.head _))))) (fun m hm=>Or.inl (List.Mem.tail _ (List.Mem.tail _ (List.Mem.tail _ (List.Mem.tail _ hm))))))))))) (H1397.up (G1430.trans (Fr.ext F1435)) (fun _ h=>h) (upc (.inr m1409) (upc (.inl (List.Mem.head _)) (upc (.inl (List.Mem.tail _ (List.Mem.head _))) (upc (.inl (List.Mem.tail _ (List.Mem.tail _ (List.Mem.head _)))) (upc (.inl (List.Mem.tail _ (List.Mem.tail _ (List.Mem.tail _ (List.Mem.head _))))) (fun m hm=>Or.inl (List.Mem.tail _ (List.Mem.tail _ (List.Mem.tail _ (List.Mem.tail _ hm)))))))))))) d2 ((((((hL.fr E1437).cons (B1431.ex F1435).lt).cons (B1432.ex F1435).lt).cons (B1433.ex F1435).lt).cons (B1434.ex F1435).lt).cons (B1422'.ex F1435).lt) (eq_ev hx1450 (sum_ev x1375.1 d2 ha1451))) rfl rfl ?_
       rintro _ w1450 ⟨F1450,rfl⟩
       have E1452:=E1437.trans F1450
       refine o_w (v:=.tuple #[.int .i64 x1450.1,.bool x1450.2]) (r_mov rfl) ?_
       refine o_w (v:=.int .i64 x1450.1) (r_ext rfl rfl) ?_
       refine o_w (v:=.bool x1450.2) (r_ext rfl rfl) ?_
       refine o_w (v:=.int .i64 x1450.1) (r_asg rfl) ?_
       refine o_w (v:=.bool x1450.2) (r_asg rfl) ?_
       refine eo_nil_sq ?_
       refine ec_seq ?_
       refine ec_region ?_
       refine o_w (v:=.bool x1375.2.1) (r_mov rfl) ?_
       refine o_w (v:=.bool (!x1375.2.1)) (r_not rfl) ?_
       refine o_w (v:=.bool (!x1375.2.1)) (r_mov rfl) ?_
       refine o_vg (v:=.int .i64 x1375.2.2) (want_cf (t:=165) rfl rfl) (fun hk=>(r_mov rfl)) rfl rfl ?_
       refine o_vg (v:=.bool (x1375.2.2 != (0:Int))) (want_cf (t:=165) rfl rfl) (fun hk=>(r_int (gdT hk) rfl rfl)) rfl rfl ?_
       refine o_w (v:=.bool ((!x1375.2.1)||(x1375.2.2 != (0:Int)))) (r_pickOr rfl rfl (fun hf=>(gdT (notT hf)))) ?_
       refine o_w (v:=.bool ((!x1375.2.1)||(x1375.2.2 != (0:Int)))) (r_mov rfl) ?_
       refine o_vg (v:=.bool x1450.2) (want_cf (t:=169) rfl rfl) (fun hk=>(r_mov rfl)) rfl rfl ?_
       refine o_vg (v:=.bool (!x1450.2)) (want_cf (t:=169) rfl rfl) (fun hk=>(r_not (gdT hk))) rfl rfl ?_
       refine o_w (v:=.bool (((!x1375.2.1)||(x1375.2.2 != (0:Int)))||(!x1450.2))) (r_pickOr rfl rfl (fun hf=>(gdT (notT hf)))) ?_
       refine o_w (v:=.bool (((!x1375.2.1)||(x1375.2.2 != (0:Int)))||(!x1450.2))) (r_mov rfl) ?_
       refine o_vg (v:=.int .i64 x1450.1) (want_cf (t:=173) rfl rfl) (fun hk=>(r_mov rfl)) rfl rfl ?_
       refine o_vg (v:=.int .i64 x1435.1) (want_cf (t:=173) rfl rfl) (fun hk=>(r_mov rfl)) rfl rfl ?_
       refine o_vg (v:=.int .i64 d4) (want_cf (t:=173) rfl rfl) (fun hk=>(r_mov rfl)) rfl rfl ?_
       refine o_vg (v:=.int .i64 (IntKind.i64.wrap (x1435.1 + d4))) (want_cf (t:=173) rfl rfl) (fun hk=>(r_int (gdT hk) (gdT hk) rfl)) rfl rfl ?_
       refine o_vg (v:=.bool (x1450.1 != (IntKind.i64.wrap (x1435.1 + d4)))) (want_cf (t:=173) rfl rfl) (fun hk=>(r_int (gdT hk) (gdT hk) rfl)) rfl rfl ?_
       refine o_w (v:=.bool ((((!x1375.2.1)||(x1375.2.2 != (0:Int)))||(!x1450.2))||(x1450.1 != (IntKind.i64.wrap (x1435.1 + d4))))) (r_pickOr rfl rfl (fun hf=>(gdT (notT hf)))) ?_
       refine eo_nil_sq ?_
       refine ec_cond rfl (fun hc1465=>?_) (fun hc1465=>?_)
       ·replace h:=h.1 hc1465
        refine ec_seq ?_
        refine ec_region ?_
        refine o_w (v:=.bool false) (r_asg rfl) ?_
        refine eo_nil_sq ?_
        refine ec_ret ?_
        refine sq_ret ?_
        subst h
        exact (end1 rfl ⟨_,rfl,E1452,rfl⟩)
       ·replace h:=h.2 hc1465
        refine ec_skip ?_
        refine sq_n ?_
        refine ec_seq ?_
        refine ec_region ?_
        refine o_w (v:=.agg (cArena d0 A1 c2 A4 c5).toArray) (r_lda agg_api_Arena rfl (vs:=(cArena d0 A1 c2 A4 c5)) rfl ((S7.fr ((G1425.trans (Fr.ext F1435)).trans (Fr.ext F1450)) (fun _ h=>h)).now.part (n:=3) rfl)) ?_
        refine o_w (v:=str d2) (r_mov rfl) ?_
        refine o_w (v:=.int .u64 d5) (r_mov rfl) ?_
        obtain ⟨ha1467,h⟩:=h
        obtain ⟨x1466,hx1466,h⟩:=h
        refine o_call cf_delta_Set rfl (delta_Set_c d0 (kArena_mk (d:=d0) (H3.up ((G1424.trans (Fr.ext F1435)).trans (Fr.ext F1450)) (fun _ h=>h) (upc (.inr m1403) (upc (.inr m1347) (upc (.inr m1290) (upc (.inr m1250) (upc (.inr m33) (fun _ h=>.inl h))))))) (H6.up ((G1424.trans (Fr.ext F1435)).trans (Fr.ext F1450)) (fun _ h=>h) (upc (.inr m1403) (upc (.inr m1347) (upc (.inr m1290) (upc (.inr m1250) (upc (.inr m33) (fun _ h=>.inl h)))))))) d2 d5 ((((((hL.fr E1452).cons ((B1431.ex F1435).ex F1450).lt).cons ((B1432.ex F1435).ex F1450).lt).cons ((B1433.ex F1435).ex F1450).lt).cons ((B1434.ex F1435).ex F1450).lt).cons ((B1422'.ex F1435).ex F1450).lt) (eq_ev hx1466 (set_ev d0 d2 d5 ha1467))) rfl rfl ?_
        rintro _ w1466 ⟨F1466,cs1468,rfl,H1469⟩
        have E1470:=E1452.trans F1466
        have G1471:=((G1424.trans (Fr.ext F1435)).trans (Fr.ext F1450)).trans (Fr.ext F1466)
        have G1472:=((G1425.trans (Fr.ext F1435)).trans (Fr.ext F1450)).trans (Fr.ext F1466)
        obtain ⟨A1483,c1484,A1486,c1487,rfl,H1485,H1488⟩:=kEnt_open H1469
        refine o_w (v:=.tuple #[.agg (cEnt x1466.1 A1483 c1484 A1486 c1487).toArray,.int .i64 x1466.2]) (r_mov rfl) ?_
        refine o_w (v:=.agg (cEnt x1466.1 A1483 c1484 A1486 c1487).toArray) (r_ext rfl rfl) ?_
        refine o_w (v:=.int .i64 x1466.2) (r_ext rfl rfl) ?_
        refine o_alloc zero_api_Entry rfl rfl rfl ?_
        intro b1489 w1489 e1489 F1489 B1489
        have n1489:w.heap.size≤b1489:=by rw [e1489]; exact E1470.size
        have q1490:b32<b1489:=by rw [e1489]; exact (((B1431.ex F1435).ex F1450).ex F1466).lt
        have q1491:b1248<b1489:=by rw [e1489]; exact (((B1432.ex F1435).ex F1450).ex F1466).lt
        have q1492:b1287<b1489:=by rw [e1489]; exact (((B1433.ex F1435).ex F1450).ex F1466).lt
        have q1493:b1343<b1489:=by rw [e1489]; exact (((B1434.ex F1435).ex F1450).ex F1466).lt
        have q1494:b1398<b1489:=by rw [e1489]; exact (((B1422'.ex F1435).ex F1450).ex F1466).lt
        have m1495:w.heap.size≤b1489:=by rw [e1489]; exact G1471.size
        have m1496:w7.heap.size≤b1489:=by rw [e1489]; exact G1472.size
        have m1502:w1466.heap.size≤b1489:=Nat.le_of_eq e1489.symm
        have E1503:=E1470.trans F1489
        have G1511:Fr (b1398::(b1343::(b1287::(b1248::(b32::L))))) w1466 w1489:=Fr.ext F1489
        refine o_store rfl B1489 (vs:=(cEnt x1466.1 A1483 c1484 A1486 c1487)) rfl sz_api_Entry rfl rfl rfl ?_
        intro w1517 F1517 B1517
        have E1518:=Ext.st E1503 F1517 (by simp; omega)
        have G1519:Fr L w w1517:=(G1471.trans (Fr.ext F1489)).stp F1517 (upc (.inr m1495) (fun m hm=>by cases hm))
        have G1520:Fr L w7 w1517:=(G1472.trans (Fr.ext F1489)).stp F1517 (upc (.inr m1496) (fun m hm=>by cases hm))
        have G1526:Fr (b1398::(b1343::(b1287::(b1248::(b32::L))))) w1466 w1517:=G1511.stp F1517 (upc (.inr m1502) (fun m hm=>by cases hm))
        have B1527:=((((B1431.ex F1435).ex F1450).ex F1466).ex F1489).fr F1517 (by simp; omega)
        have B1528:=((((B1432.ex F1435).ex F1450).ex F1466).ex F1489).fr F1517 (by simp; omega)
        have B1529:=((((B1433.ex F1435).ex F1450).ex F1466).ex F1489).fr F1517 (by simp; omega)
        have B1530:=((((B1434.ex F1435).ex F1450).ex F1466).ex F1489).fr F1517 (by simp; omega)
        have B1531:=((((B1422'.ex F1435).ex F1450).ex F1466).ex F1489).fr F1517 (by simp; omega)
        have B1517':Blk w1517 b1489 _ (cEnt x1466.1 A1483 c1484 A1486 c1487):=B1517
        refine o_w (v:=.int .i64 x1466.2) (r_asg rfl) ?_
        refine eo_nil_sq ?_
        iterate 2 refine ec_seq ?_
        refine ec_region ?_
        refine o_w (v:=.int .i64 x1466.2) (r_mov rfl) ?_
        refine o_w (v:=.bool (x1466.2==(0:Int))) (r_int rfl rfl rfl) ?_
        refine eo_nil_sq ?_
        refine ec_cond rfl (fun hc1532=>?_) (fun hc1532=>?_)
        ·replace h:=h.1 hc1532
         refine ec_seq ?_
         refine ec_region ?_
         refine o_w (v:=.agg (cArena d0 A1 c2 A4 c5).toArray) (r_lda agg_api_Arena rfl (vs:=(cArena d0 A1 c2 A4 c5)) rfl ((S7.fr G1520 (fun _ h=>h)).now.part (n:=3) rfl)) ?_
         refine o_w (v:=.agg (cEnt x1466.1 A1483 c1484 A1486 c1487).toArray) (r_lda agg_api_Entry rfl (vs:=(cEnt x1466.1 A1483 c1484 A1486 c1487)) rfl (B1517'.part (n:=9) rfl)) ?_
         obtain ⟨ha1534,h⟩:=h
         obtain ⟨ha1535,h⟩:=h
         obtain ⟨ha1536,h⟩:=h
         obtain ⟨x1533,hx1533,h⟩:=h
         refine o_call cf_arena_Join rfl (arena_Join_c d0 (kArena_mk (d:=d0) (H3.up G1519 (fun _ h=>h) (upc (.inr m1495) (upc (.inr m1403) (upc (.inr m1347) (upc (.inr m1290) (upc (.inr m1250) (upc (.inr m33) (fun _ h=>.inl h)))))))) (H6.up G1519 (fun _ h=>h) (upc (.inr m1495) (upc (.inr m1403) (upc (.inr m1347) (upc (.inr m1290) (upc (.inr m1250) (upc (.inr m33) (fun _ h=>.inl h))))))))) x1466.1 (kEnt_mk (d:=x1466.1) (H1485.up G1526 (fun _ h=>h) (upc (.inr m1502) (upc (.inl (List.Mem.head _)) (upc (.inl (List.Mem.tail _ (List.Mem.head _))) (upc (.inl (List.Mem.tail _ (List.Mem.tail _ (List.Mem.head _)))) (upc (.inl (List.Mem.tail _ (List.Mem.tail _ (List.Mem.tail _ (List.Mem.head _))))) (upc (.inl (List.Mem.tail _ (List.Mem.tail _ (List.Mem.tail _ (List.Mem.tail _ (List.Mem.head _)))))) (fun m hm=>Or.inl (List.Mem.tail _ (List.Mem.tail _ (List.Mem.tail _ (List.Mem.tail _ (List.Mem.tail _ hm))))))))))))) (H1488.up G1526 (fun _ h=>h) (upc (.inr m1502) (upc (.inl (List.Mem.head _)) (upc (.inl (List.Mem.tail _ (List.Mem.head _))) (upc (.inl (List.Mem.tail _ (List.Mem.tail _ (List.Mem.head _)))) (upc (.inl (List.Mem.tail _ (List.Mem.tail _ (List.Mem.tail _ (List.Mem.head _))))) (upc (.inl (List.Mem.tail _ (List.Mem.tail _ (List.Mem.tail _ (List.Mem.tail _ (List.Mem.head _)))))) (fun m hm=>Or.inl (List.Mem.tail _ (List.Mem.tail _ (List.Mem.tail _ (List.Mem.tail _ (List.Mem.tail _ hm)))))))))))))) (((((((hL.fr E1518).cons B1527.lt).cons B1528.lt).cons B1529.lt).cons B1530.lt).cons B1531.lt).cons B1517'.lt) (eq_ev hx1533 (arJoin_ev d0 x1466.1 ha1534 ha1535 ha1536))) rfl rfl ?_
         rintro _ w1533 ⟨F1533,cs1537,rfl,H1538⟩
         have E1539:=E1518.trans F1533
         obtain ⟨A1554,c1555,A1557,c1558,rfl,H1556,H1559⟩:=kArena_open H1538
         refine o_w (v:=.tuple #[.agg (cArena x1533.1 A1554 c1555 A1557 c1558).toArray,.bool x1533.2.1,.int .i64 x1533.2.2]) (r_mov rfl) ?_
         refine o_w (v:=.agg (cArena x1533.1 A1554 c1555 A1557 c1558).toArray) (r_ext rfl rfl) ?_
         refine o_w (v:=.bool x1533.2.1) (r_ext rfl rfl) ?_
         refine o_w (v:=.int .i64 x1533.2.2) (r_ext rfl rfl) ?_
         refine o_alloc zero_api_Arena rfl rfl rfl ?_
         intro b1560 w1560 e1560 F1560 B1560
         have n1560:w.heap.size≤b1560:=by rw [e1560]; exact E1539.size
         have q1561:b32<b1560:=by rw [e1560]; exact (B1527.ex F1533).lt
         have q1562:b1248<b1560:=by rw [e1560]; exact (B1528.ex F1533).lt
         have q1563:b1287<b1560:=by rw [e1560]; exact (B1529.ex F1533).lt
         have q1564:b1343<b1560:=by rw [e1560]; exact (B1530.ex F1533).lt
         have q1565:b1398<b1560:=by rw [e1560]; exact (B1531.ex F1533).lt
         have q1566:b1489<b1560:=by rw [e1560]; exact (B1517'.ex F1533).lt
         have m1567:w.heap.size≤b1560:=by rw [e1560]; exact (G1519.trans (Fr.ext F1533)).size
         have m1568:w7.heap.size≤b1560:=by rw [e1560]; exact (G1520.trans (Fr.ext F1533)).size
         have m1575:w1533.heap.size≤b1560:=Nat.le_of_eq e1560.symm
         have E1576:=E1539.trans F1560
         have G1585:Fr (b1489::(b1398::(b1343::(b1287::(b1248::(b32::L)))))) w1533 w1560:=Fr.ext F1560
         refine o_store rfl B1560 (vs:=(cArena x1533.1 A1554 c1555 A1557 c1558)) rfl sz_api_Arena rfl rfl rfl ?_
         intro w1592 F1592 B1592
         have E1593:=Ext.st E1576 F1592 (by simp; omega)
         have G1594:Fr L w w1592:=((G1519.trans (Fr.ext F1533)).trans (Fr.ext F1560)).stp F1592 (upc (.inr m1567) (fun m hm=>by cases hm))
         have G1595:Fr L w7 w1592:=((G1520.trans (Fr.ext F1533)).trans (Fr.ext F1560)).stp F1592 (upc (.inr m1568) (fun m hm=>by cases hm))
         have G1602:Fr (b1489::(b1398::(b1343::(b1287::(b1248::(b32::L)))))) w1533 w1592:=G1585.stp F1592 (upc (.inr m1575) (fun m hm=>by cases hm))
         have B1603:=((B1527.ex F1533).ex F1560).fr F1592 (by simp; omega)
         have B1604:=((B1528.ex F1533).ex F1560).fr F1592 (by simp; omega)
         have B1605:=((B1529.ex F1533).ex F1560).fr F1592 (by simp; omega)
         have B1606:=((B1530.ex F1533).ex F1560).fr F1592 (by simp; omega)
         have B1607:=((B1531.ex F1533).ex F1560).fr F1592 (by simp; omega)
         have B1608:=((B1517'.ex F1533).ex F1560).fr F1592 (by simp; omega)
         have B1592':Blk w1592 b1560 _ (cArena x1533.1 A1554 c1555 A1557 c1558):=B1592
         refine o_w (v:=.bool x1533.2.1) (r_asg rfl) ?_
         refine o_w (v:=.int .i64 x1533.2.2) (r_asg rfl) ?_
         refine eo_nil_sq ?_
         refine ec_seq ?_
         refine ec_region ?_
         refine o_w (v:=.agg (cArena d0 A1 c2 A4 c5).toArray) (r_lda agg_api_Arena rfl (vs:=(cArena d0 A1 c2 A4 c5)) rfl ((S7.fr G1595 (fun _ h=>h)).now.part (n:=3) rfl)) ?_
         refine o_w (v:=str d2) (r_mov rfl) ?_
         obtain ⟨ha1610,h⟩:=h
         obtain ⟨x1609,hx1609,h⟩:=h
         refine o_call cf_delta_Flags rfl (delta_Flags_c d0 (kArena_mk (d:=d0) (H3.up G1594 (fun _ h=>h) (upc (.inr m1567) (upc (.inr m1495) (upc (.inr m1403) (upc (.inr m1347) (upc (.inr m1290) (upc (.inr m1250) (upc (.inr m33) (fun _ h=>.inl h))))))))) (H6.up G1594 (fun _ h=>h) (upc (.inr m1567) (upc (.inr m1495) (upc (.inr m1403) (upc (.inr m1347) (upc (.inr m1290) (upc (.inr m1250) (upc (.inr m33) (fun _ h=>.inl h)))))))))) d2 ((((((((hL.fr E1593).cons B1603.lt).cons B1604.lt).cons B1605.lt).cons B1606.lt).cons B1607.lt).cons B1608.lt).cons B1592'.lt) (eq_ev hx1609 (flags_ev d0 d2 ha1610))) rfl rfl ?_
         rintro _ w1609 ⟨F1609,rfl⟩
         have E1611:=E1593.trans F1609
         refine o_w (v:=.tuple #[.int .u64 x1609.1,.bool x1609.2]) (r_mov rfl) ?_
         refine o_w (v:=.int .u64 x1609.1) (r_ext rfl rfl) ?_
         refine o_w (v:=.bool x1609.2) (r_ext rfl rfl) ?_
         refine o_w (v:=.int .u64 x1609.1) (r_asg rfl) ?_
         refine o_w (v:=.bool x1609.2) (r_asg rfl) ?_
         refine eo_nil_sq ?_
         refine ec_seq ?_
         refine ec_region ?_
         refine o_w (v:=.agg (cArena x1533.1 A1554 c1555 A1557 c1558).toArray) (r_lda agg_api_Arena rfl (vs:=(cArena x1533.1 A1554 c1555 A1557 c1558)) rfl ((B1592'.ex F1609).part (n:=3) rfl)) ?_
         refine o_w (v:=str d2) (r_mov rfl) ?_
         obtain ⟨ha1629,h⟩:=h
         obtain ⟨x1628,hx1628,h⟩:=h
         refine o_call cf_delta_Flags rfl (delta_Flags_c x1533.1 (kArena_mk (d:=x1533.1) (H1556.up (G1602.trans (Fr.ext F1609)) (fun _ h=>h) (upc (.inr m1575) (upc (.inl (List.Mem.head _)) (upc (.inl (List.Mem.tail _ (List.Mem.head _))) (upc (.inl (List.Mem.tail _ (List.Mem.tail _ (List.Mem.head _)))) (upc (.inl (List.Mem.tail _ (List.Mem.tail _ (List.Mem.tail _ (List.Mem.head _))))) (upc (.inl (List.Mem.tail _ (List.Mem.tail _ (List.Mem.tail _ (List.Mem.tail _ (List.Mem.head _)))))) (upc (.inl (List.Mem.tail _ (List.Mem.tail _ (List.Mem.tail _ (List.Mem.tail _ (List.Mem.tail _ (List.Mem.head _))))))) (fun m hm=>Or.inl (List.Mem.tail _ (List.Mem.tail _ (List.Mem.tail _ (List.Mem.tail _ (List.Mem.tail _ (List.Mem.tail _ hm))))))))))))))) (H1559.up (G1602.trans (Fr.ext F1609)) (fun _ h=>h) (upc (.inr m1575) (upc (.inl (List.Mem.head _)) (upc (.inl (List.Mem.tail _ (List.Mem.head _))) (upc (.inl (List.Mem.tail _ (List.Mem.tail _ (List.Mem.head _)))) (upc (.inl (List.Mem.tail _ (List.Mem.tail _ (List.Mem.tail _ (List.Mem.head _))))) (upc (.inl (List.Mem.tail _ (List.Mem.tail _ (List.Mem.tail _ (List.Mem.tail _ (List.Mem.head _)))))) (upc (.inl (List.Mem.tail _ (List.Mem.tail _ (List.Mem.tail _ (List.Mem.tail _ (List.Mem.tail _ (List.Mem.head _))))))) (fun m hm=>Or.inl (List.Mem.tail _ (List.Mem.tail _ (List.Mem.tail _ (List.Mem.tail _ (List.Mem.tail _ (List.Mem.tail _ hm)))))))))))))))) d2 ((((((((hL.fr E1611).cons (B1603.ex F1609).lt).cons (B1604.ex F1609).lt).cons (B1605.ex F1609).lt).cons (B1606.ex F1609).lt).cons (B1607.ex F1609).lt).cons (B1608.ex F1609).lt).cons (B1592'.ex F1609).lt) (eq_ev hx1628 (flags_ev x1533.1 d2 ha1629))) rfl rfl ?_
         rintro _ w1628 ⟨F1628,rfl⟩
         have E1630:=E1611.trans F1628
         refine o_w (v:=.tuple #[.int .u64 x1628.1,.bool x1628.2]) (r_mov rfl) ?_
         refine o_w (v:=.int .u64 x1628.1) (r_ext rfl rfl) ?_
         refine o_w (v:=.bool x1628.2) (r_ext rfl rfl) ?_
         refine o_w (v:=.int .u64 x1628.1) (r_asg rfl) ?_
         refine o_w (v:=.bool x1628.2) (r_asg rfl) ?_
         refine eo_nil_sq ?_
         refine ec_seq ?_
         refine ec_region ?_
         refine o_w (v:=.int .i64 x1533.2.2) (r_mov rfl) ?_
         refine o_w (v:=.bool (x1533.2.2 != (0:Int))) (r_int rfl rfl rfl) ?_
         refine o_w (v:=.bool (x1533.2.2 != (0:Int))) (r_mov rfl) ?_
         refine o_vg (v:=.bool x1628.2) (want_cf (t:=210) rfl rfl) (fun hk=>(r_mov rfl)) rfl rfl ?_
         refine o_vg (v:=.bool (!x1628.2)) (want_cf (t:=210) rfl rfl) (fun hk=>(r_not (gdT hk))) rfl rfl ?_
         refine o_w (v:=.bool ((x1533.2.2 != (0:Int))||(!x1628.2))) (r_pickOr rfl rfl (fun hf=>(gdT (notT hf)))) ?_
         refine o_w (v:=.bool ((x1533.2.2 != (0:Int))||(!x1628.2))) (r_mov rfl) ?_
         refine o_vg (v:=.int .u64 x1628.1) (want_cf (t:=214) rfl rfl) (fun hk=>(r_mov rfl)) rfl rfl ?_
         refine o_vg (v:=.int .u64 x1609.1) (want_cf (t:=214) rfl rfl) (fun hk=>(r_mov rfl)) rfl rfl ?_
         refine o_vg (v:=.int .u64 d5) (want_cf (t:=214) rfl rfl) (fun hk=>(r_mov rfl)) rfl rfl ?_
         refine o_vg (v:=.int .u64 (IntKind.u64.wrap ((BitVec.ofInt IntKind.u64.bits x1609.1 ||| BitVec.ofInt IntKind.u64.bits d5).toNat:Int))) (want_cf (t:=214) rfl rfl) (fun hk=>(r_int (gdT hk) (gdT hk) rfl)) rfl rfl ?_
         refine o_vg (v:=.bool (x1628.1 != (IntKind.u64.wrap ((BitVec.ofInt IntKind.u64.bits x1609.1 ||| BitVec.ofInt IntKind.u64.bits d5).toNat:Int)))) (want_cf (t:=214) rfl rfl) (fun hk=>(r_int (gdT hk) (gdT hk) rfl)) rfl rfl ?_
         refine o_w (v:=.bool (((x1533.2.2 != (0:Int))||(!x1628.2))||(x1628.1 != (IntKind.u64.wrap ((BitVec.ofInt IntKind.u64.bits x1609.1 ||| BitVec.ofInt IntKind.u64.bits d5).toNat:Int))))) (r_pickOr rfl rfl (fun hf=>(gdT (notT hf)))) ?_
         refine eo_nil_sq ?_
         refine ec_cond rfl (fun hc1647=>?_) (fun hc1647=>?_)
         ·replace h:=h.1 hc1647
          refine ec_seq ?_
          refine ec_region ?_
          refine o_w (v:=.bool false) (r_asg rfl) ?_
          refine eo_nil_sq ?_
          refine ec_ret ?_
          refine sq_ret ?_
          subst h
          exact (end1 rfl ⟨_,rfl,E1630,rfl⟩)
         ·replace h:=h.2 hc1647
          refine ec_skip ?_
          refine sq_n ?_
          refine ec_seq ?_
          refine ec_region ?_
          refine o_w (v:=.bool (worksV)) (r_mov rfl) ?_
          refine o_w (v:=.bool (worksV)) (r_asg rfl) ?_
          refine eo_nil_sq ?_
          refine ec_ret ?_
          subst h
          exact (end1 rfl ⟨_,rfl,E1630,rfl⟩)
        ·replace h:=h.2 hc1532
         refine ec_skip ?_
         refine sq_n ?_
         refine ec_seq ?_
         refine ec_region ?_
         refine o_w (v:=.bool (worksV)) (r_mov rfl) ?_
         refine o_w (v:=.bool (worksV)) (r_asg rfl) ?_
         refine eo_nil_sq ?_
         refine ec_ret ?_
         subst h
         exact (end1 rfl ⟨_,rfl,E1518,rfl⟩)
      ·replace h:=h.2 hc1374
       refine ec_skip ?_
       refine sq_n ?_
       refine ec_seq ?_
       refine ec_region ?_
       refine o_w (v:=.agg (cArena d0 A1 c2 A4 c5).toArray) (r_lda agg_api_Arena rfl (vs:=(cArena d0 A1 c2 A4 c5)) rfl ((S7.fr G1366 (fun _ h=>h)).now.part (n:=3) rfl)) ?_
       refine o_w (v:=str d2) (r_mov rfl) ?_
       refine o_w (v:=.int .u64 d5) (r_mov rfl) ?_
       obtain ⟨ha1649,h⟩:=h
       obtain ⟨x1648,hx1648,h⟩:=h
       refine o_call cf_delta_Set rfl (delta_Set_c d0 (kArena_mk (d:=d0) (H3.up G1365 (fun _ h=>h) (upc (.inr m1347) (upc (.inr m1290) (upc (.inr m1250) (upc (.inr m33) (fun _ h=>.inl h)))))) (H6.up G1365 (fun _ h=>h) (upc (.inr m1347) (upc (.inr m1290) (upc (.inr m1250) (upc (.inr m33) (fun _ h=>.inl h))))))) d2 d5 (((((hL.fr E1364).cons B1371.lt).cons B1372.lt).cons B1373.lt).cons B1363'.lt) (eq_ev hx1648 (set_ev d0 d2 d5 ha1649))) rfl rfl ?_
       rintro _ w1648 ⟨F1648,cs1650,rfl,H1651⟩
       have E1652:=E1364.trans F1648
       obtain ⟨A1663,c1664,A1666,c1667,rfl,H1665,H1668⟩:=kEnt_open H1651
       refine o_w (v:=.tuple #[.agg (cEnt x1648.1 A1663 c1664 A1666 c1667).toArray,.int .i64 x1648.2]) (r_mov rfl) ?_
       refine o_w (v:=.agg (cEnt x1648.1 A1663 c1664 A1666 c1667).toArray) (r_ext rfl rfl) ?_
       refine o_w (v:=.int .i64 x1648.2) (r_ext rfl rfl) ?_
       refine o_alloc zero_api_Entry rfl rfl rfl ?_
       intro b1669 w1669 e1669 F1669 B1669
       have n1669:w.heap.size≤b1669:=by rw [e1669]; exact E1652.size
       have q1670:b32<b1669:=by rw [e1669]; exact (B1371.ex F1648).lt
       have q1671:b1248<b1669:=by rw [e1669]; exact (B1372.ex F1648).lt
       have q1672:b1287<b1669:=by rw [e1669]; exact (B1373.ex F1648).lt
       have q1673:b1343<b1669:=by rw [e1669]; exact (B1363'.ex F1648).lt
       have m1674:w.heap.size≤b1669:=by rw [e1669]; exact (G1365.trans (Fr.ext F1648)).size
       have m1675:w7.heap.size≤b1669:=by rw [e1669]; exact (G1366.trans (Fr.ext F1648)).size
       have m1680:w1648.heap.size≤b1669:=Nat.le_of_eq e1669.symm
       have E1681:=E1652.trans F1669
       have G1688:Fr (b1343::(b1287::(b1248::(b32::L)))) w1648 w1669:=Fr.ext F1669
       refine o_store rfl B1669 (vs:=(cEnt x1648.1 A1663 c1664 A1666 c1667)) rfl sz_api_Entry rfl rfl rfl ?_
       intro w1693 F1693 B1693
       have E1694:=Ext.st E1681 F1693 (by simp; omega)
       have G1695:Fr L w w1693:=((G1365.trans (Fr.ext F1648)).trans (Fr.ext F1669)).stp F1693 (upc (.inr m1674) (fun m hm=>by cases hm))
       have G1696:Fr L w7 w1693:=((G1366.trans (Fr.ext F1648)).trans (Fr.ext F1669)).stp F1693 (upc (.inr m1675) (fun m hm=>by cases hm))
       have G1701:Fr (b1343::(b1287::(b1248::(b32::L)))) w1648 w1693:=G1688.stp F1693 (upc (.inr m1680) (fun m hm=>by cases hm))
       have B1702:=((B1371.ex F1648).ex F1669).fr F1693 (by simp; omega)
       have B1703:=((B1372.ex F1648).ex F1669).fr F1693 (by simp; omega)
       have B1704:=((B1373.ex F1648).ex F1669).fr F1693 (by simp; omega)
       have B1705:=((B1363'.ex F1648).ex F1669).fr F1693 (by simp; omega)
       have B1693':Blk w1693 b1669 _ (cEnt x1648.1 A1663 c1664 A1666 c1667):=B1693
       refine o_w (v:=.int .i64 x1648.2) (r_asg rfl) ?_
       refine eo_nil_sq ?_
       iterate 2 refine ec_seq ?_
       refine ec_region ?_
       refine o_w (v:=.int .i64 x1648.2) (r_mov rfl) ?_
       refine o_w (v:=.bool (x1648.2==(0:Int))) (r_int rfl rfl rfl) ?_
       refine eo_nil_sq ?_
       refine ec_cond rfl (fun hc1706=>?_) (fun hc1706=>?_)
       ·replace h:=h.1 hc1706
        refine ec_seq ?_
        refine ec_region ?_
        refine o_w (v:=.agg (cArena d0 A1 c2 A4 c5).toArray) (r_lda agg_api_Arena rfl (vs:=(cArena d0 A1 c2 A4 c5)) rfl ((S7.fr G1696 (fun _ h=>h)).now.part (n:=3) rfl)) ?_
        refine o_w (v:=.agg (cEnt x1648.1 A1663 c1664 A1666 c1667).toArray) (r_lda agg_api_Entry rfl (vs:=(cEnt x1648.1 A1663 c1664 A1666 c1667)) rfl (B1693'.part (n:=9) rfl)) ?_
        obtain ⟨ha1708,h⟩:=h
        obtain ⟨ha1709,h⟩:=h
        obtain ⟨ha1710,h⟩:=h
        obtain ⟨x1707,hx1707,h⟩:=h
        refine o_call cf_arena_Join rfl (arena_Join_c d0 (kArena_mk (d:=d0) (H3.up G1695 (fun _ h=>h) (upc (.inr m1674) (upc (.inr m1347) (upc (.inr m1290) (upc (.inr m1250) (upc (.inr m33) (fun _ h=>.inl h))))))) (H6.up G1695 (fun _ h=>h) (upc (.inr m1674) (upc (.inr m1347) (upc (.inr m1290) (upc (.inr m1250) (upc (.inr m33) (fun _ h=>.inl h)))))))) x1648.1 (kEnt_mk (d:=x1648.1) (H1665.up G1701 (fun _ h=>h) (upc (.inr m1680) (upc (.inl (List.Mem.head _)) (upc (.inl (List.Mem.tail _ (List.Mem.head _))) (upc (.inl (List.Mem.tail _ (List.Mem.tail _ (List.Mem.head _)))) (upc (.inl (List.Mem.tail _ (List.Mem.tail _ (List.Mem.tail _ (List.Mem.head _))))) (fun m hm=>Or.inl (List.Mem.tail _ (List.Mem.tail _ (List.Mem.tail _ (List.Mem.tail _ hm))))))))))) (H1668.up G1701 (fun _ h=>h) (upc (.inr m1680) (upc (.inl (List.Mem.head _)) (upc (.inl (List.Mem.tail _ (List.Mem.head _))) (upc (.inl (List.Mem.tail _ (List.Mem.tail _ (List.Mem.head _)))) (upc (.inl (List.Mem.tail _ (List.Mem.tail _ (List.Mem.tail _ (List.Mem.head _))))) (fun m hm=>Or.inl (List.Mem.tail _ (List.Mem.tail _ (List.Mem.tail _ (List.Mem.tail _ hm)))))))))))) ((((((hL.fr E1694).cons B1702.lt).cons B1703.lt).cons B1704.lt).cons B1705.lt).cons B1693'.lt) (eq_ev hx1707 (arJoin_ev d0 x1648.1 ha1708 ha1709 ha1710))) rfl rfl ?_
        rintro _ w1707 ⟨F1707,cs1711,rfl,H1712⟩
        have E1713:=E1694.trans F1707
        obtain ⟨A1726,c1727,A1729,c1730,rfl,H1728,H1731⟩:=kArena_open H1712
        refine o_w (v:=.tuple #[.agg (cArena x1707.1 A1726 c1727 A1729 c1730).toArray,.bool x1707.2.1,.int .i64 x1707.2.2]) (r_mov rfl) ?_
        refine o_w (v:=.agg (cArena x1707.1 A1726 c1727 A1729 c1730).toArray) (r_ext rfl rfl) ?_
        refine o_w (v:=.bool x1707.2.1) (r_ext rfl rfl) ?_
        refine o_w (v:=.int .i64 x1707.2.2) (r_ext rfl rfl) ?_
        refine o_alloc zero_api_Arena rfl rfl rfl ?_
        intro b1732 w1732 e1732 F1732 B1732
        have n1732:w.heap.size≤b1732:=by rw [e1732]; exact E1713.size
        have q1733:b32<b1732:=by rw [e1732]; exact (B1702.ex F1707).lt
        have q1734:b1248<b1732:=by rw [e1732]; exact (B1703.ex F1707).lt
        have q1735:b1287<b1732:=by rw [e1732]; exact (B1704.ex F1707).lt
        have q1736:b1343<b1732:=by rw [e1732]; exact (B1705.ex F1707).lt
        have q1737:b1669<b1732:=by rw [e1732]; exact (B1693'.ex F1707).lt
        have m1738:w.heap.size≤b1732:=by rw [e1732]; exact (G1695.trans (Fr.ext F1707)).size
        have m1739:w7.heap.size≤b1732:=by rw [e1732]; exact (G1696.trans (Fr.ext F1707)).size
        have m1745:w1707.heap.size≤b1732:=Nat.le_of_eq e1732.symm
        have E1746:=E1713.trans F1732
        have G1754:Fr (b1669::(b1343::(b1287::(b1248::(b32::L))))) w1707 w1732:=Fr.ext F1732
        refine o_store rfl B1732 (vs:=(cArena x1707.1 A1726 c1727 A1729 c1730)) rfl sz_api_Arena rfl rfl rfl ?_
        intro w1760 F1760 B1760
        have E1761:=Ext.st E1746 F1760 (by simp; omega)
        have G1762:Fr L w w1760:=((G1695.trans (Fr.ext F1707)).trans (Fr.ext F1732)).stp F1760 (upc (.inr m1738) (fun m hm=>by cases hm))
        have G1763:Fr L w7 w1760:=((G1696.trans (Fr.ext F1707)).trans (Fr.ext F1732)).stp F1760 (upc (.inr m1739) (fun m hm=>by cases hm))
        have G1769:Fr (b1669::(b1343::(b1287::(b1248::(b32::L))))) w1707 w1760:=G1754.stp F1760 (upc (.inr m1745) (fun m hm=>by cases hm))
        have B1770:=((B1702.ex F1707).ex F1732).fr F1760 (by simp; omega)
        have B1771:=((B1703.ex F1707).ex F1732).fr F1760 (by simp; omega)
        have B1772:=((B1704.ex F1707).ex F1732).fr F1760 (by simp; omega)
        have B1773:=((B1705.ex F1707).ex F1732).fr F1760 (by simp; omega)
        have B1774:=((B1693'.ex F1707).ex F1732).fr F1760 (by simp; omega)
        have B1760':Blk w1760 b1732 _ (cArena x1707.1 A1726 c1727 A1729 c1730):=B1760
        refine o_w (v:=.bool x1707.2.1) (r_asg rfl) ?_
        refine o_w (v:=.int .i64 x1707.2.2) (r_asg rfl) ?_
        refine eo_nil_sq ?_
        refine ec_seq ?_
        refine ec_region ?_
        refine o_w (v:=.agg (cArena d0 A1 c2 A4 c5).toArray) (r_lda agg_api_Arena rfl (vs:=(cArena d0 A1 c2 A4 c5)) rfl ((S7.fr G1763 (fun _ h=>h)).now.part (n:=3) rfl)) ?_
        refine o_w (v:=str d2) (r_mov rfl) ?_
        obtain ⟨ha1776,h⟩:=h
        obtain ⟨x1775,hx1775,h⟩:=h
        refine o_call cf_delta_Flags rfl (delta_Flags_c d0 (kArena_mk (d:=d0) (H3.up G1762 (fun _ h=>h) (upc (.inr m1738) (upc (.inr m1674) (upc (.inr m1347) (upc (.inr m1290) (upc (.inr m1250) (upc (.inr m33) (fun _ h=>.inl h)))))))) (H6.up G1762 (fun _ h=>h) (upc (.inr m1738) (upc (.inr m1674) (upc (.inr m1347) (upc (.inr m1290) (upc (.inr m1250) (upc (.inr m33) (fun _ h=>.inl h))))))))) d2 (((((((hL.fr E1761).cons B1770.lt).cons B1771.lt).cons B1772.lt).cons B1773.lt).cons B1774.lt).cons B1760'.lt) (eq_ev hx1775 (flags_ev d0 d2 ha1776))) rfl rfl ?_
        rintro _ w1775 ⟨F1775,rfl⟩
        have E1777:=E1761.trans F1775
        refine o_w (v:=.tuple #[.int .u64 x1775.1,.bool x1775.2]) (r_mov rfl) ?_
        refine o_w (v:=.int .u64 x1775.1) (r_ext rfl rfl) ?_
        refine o_w (v:=.bool x1775.2) (r_ext rfl rfl) ?_
        refine o_w (v:=.int .u64 x1775.1) (r_asg rfl) ?_
        refine o_w (v:=.bool x1775.2) (r_asg rfl) ?_
        refine eo_nil_sq ?_
        refine ec_seq ?_
        refine ec_region ?_
        refine o_w (v:=.agg (cArena x1707.1 A1726 c1727 A1729 c1730).toArray) (r_lda agg_api_Arena rfl (vs:=(cArena x1707.1 A1726 c1727 A1729 c1730)) rfl ((B1760'.ex F1775).part (n:=3) rfl)) ?_
        refine o_w (v:=str d2) (r_mov rfl) ?_
        obtain ⟨ha1793,h⟩:=h
        obtain ⟨x1792,hx1792,h⟩:=h
        refine o_call cf_delta_Flags rfl (delta_Flags_c x1707.1 (kArena_mk (d:=x1707.1) (H1728.up (G1769.trans (Fr.ext F1775)) (fun _ h=>h) (upc (.inr m1745) (upc (.inl (List.Mem.head _)) (upc (.inl (List.Mem.tail _ (List.Mem.head _))) (upc (.inl (List.Mem.tail _ (List.Mem.tail _ (List.Mem.head _)))) (upc (.inl (List.Mem.tail _ (List.Mem.tail _ (List.Mem.tail _ (List.Mem.head _))))) (upc (.inl (List.Mem.tail _ (List.Mem.tail _ (List.Mem.tail _ (List.Mem.tail _ (List.Mem.head _)))))) (fun m hm=>Or.inl (List.Mem.tail _ (List.Mem.tail _ (List.Mem.tail _ (List.Mem.tail _ (List.Mem.tail _ hm))))))))))))) (H1731.up (G1769.trans (Fr.ext F1775)) (fun _ h=>h) (upc (.inr m1745) (upc (.inl (List.Mem.head _)) (upc (.inl (List.Mem.tail _ (List.Mem.head _))) (upc (.inl (List.Mem.tail _ (List.Mem.tail _ (List.Mem.head _)))) (upc (.inl (List.Mem.tail _ (List.Mem.tail _ (List.Mem.tail _ (List.Mem.head _))))) (upc (.inl (List.Mem.tail _ (List.Mem.tail _ (List.Mem.tail _ (List.Mem.tail _ (List.Mem.head _)))))) (fun m hm=>Or.inl (List.Mem.tail _ (List.Mem.tail _ (List.Mem.tail _ (List.Mem.tail _ (List.Mem.tail _ hm)))))))))))))) d2 (((((((hL.fr E1777).cons (B1770.ex F1775).lt).cons (B1771.ex F1775).lt).cons (B1772.ex F1775).lt).cons (B1773.ex F1775).lt).cons (B1774.ex F1775).lt).cons (B1760'.ex F1775).lt) (eq_ev hx1792 (flags_ev x1707.1 d2 ha1793))) rfl rfl ?_
        rintro _ w1792 ⟨F1792,rfl⟩
        have E1794:=E1777.trans F1792
        refine o_w (v:=.tuple #[.int .u64 x1792.1,.bool x1792.2]) (r_mov rfl) ?_
        refine o_w (v:=.int .u64 x1792.1) (r_ext rfl rfl) ?_
        refine o_w (v:=.bool x1792.2) (r_ext rfl rfl) ?_
        refine o_w (v:=.int .u64 x1792.1) (r_asg rfl) ?_
        refine o_w (v:=.bool x1792.2) (r_asg rfl) ?_
        refine eo_nil_sq ?_
        refine ec_seq ?_
        refine ec_region ?_
        refine o_w (v:=.int .i64 x1707.2.2) (r_mov rfl) ?_
        refine o_w (v:=.bool (x1707.2.2 != (0:Int))) (r_int rfl rfl rfl) ?_
        refine o_w (v:=.bool (x1707.2.2 != (0:Int))) (r_mov rfl) ?_
        refine o_vg (v:=.bool x1792.2) (want_cf (t:=210) rfl rfl) (fun hk=>(r_mov rfl)) rfl rfl ?_
        refine o_vg (v:=.bool (!x1792.2)) (want_cf (t:=210) rfl rfl) (fun hk=>(r_not (gdT hk))) rfl rfl ?_
        refine o_w (v:=.bool ((x1707.2.2 != (0:Int))||(!x1792.2))) (r_pickOr rfl rfl (fun hf=>(gdT (notT hf)))) ?_
        refine o_w (v:=.bool ((x1707.2.2 != (0:Int))||(!x1792.2))) (r_mov rfl) ?_
        refine o_vg (v:=.int .u64 x1792.1) (want_cf (t:=214) rfl rfl) (fun hk=>(r_mov rfl)) rfl rfl ?_
        refine o_vg (v:=.int .u64 x1775.1) (want_cf (t:=214) rfl rfl) (fun hk=>(r_mov rfl)) rfl rfl ?_
        refine o_vg (v:=.int .u64 d5) (want_cf (t:=214) rfl rfl) (fun hk=>(r_mov rfl)) rfl rfl ?_
        refine o_vg (v:=.int .u64 (IntKind.u64.wrap ((BitVec.ofInt IntKind.u64.bits x1775.1 ||| BitVec.ofInt IntKind.u64.bits d5).toNat:Int))) (want_cf (t:=214) rfl rfl) (fun hk=>(r_int (gdT hk) (gdT hk) rfl)) rfl rfl ?_
        refine o_vg (v:=.bool (x1792.1 != (IntKind.u64.wrap ((BitVec.ofInt IntKind.u64.bits x1775.1 ||| BitVec.ofInt IntKind.u64.bits d5).toNat:Int)))) (want_cf (t:=214) rfl rfl) (fun hk=>(r_int (gdT hk) (gdT hk) rfl)) rfl rfl ?_
        refine o_w (v:=.bool (((x1707.2.2 != (0:Int))||(!x1792.2))||(x1792.1 != (IntKind.u64.wrap ((BitVec.ofInt IntKind.u64.bits x1775.1 ||| BitVec.ofInt IntKind.u64.bits d5).toNat:Int))))) (r_pickOr rfl rfl (fun hf=>(gdT (notT hf)))) ?_
        refine eo_nil_sq ?_
        refine ec_cond rfl (fun hc1809=>?_) (fun hc1809=>?_)
        ·replace h:=h.1 hc1809
         refine ec_seq ?_
         refine ec_region ?_
         refine o_w (v:=.bool false) (r_asg rfl) ?_
         refine eo_nil_sq ?_
         refine ec_ret ?_
         refine sq_ret ?_
         subst h
         exact (end1 rfl ⟨_,rfl,E1794,rfl⟩)
        ·replace h:=h.2 hc1809
         refine ec_skip ?_
         refine sq_n ?_
         refine ec_seq ?_
         refine ec_region ?_
         refine o_w (v:=.bool (worksV)) (r_mov rfl) ?_
         refine o_w (v:=.bool (worksV)) (r_asg rfl) ?_
         refine eo_nil_sq ?_
         refine ec_ret ?_
         subst h
         exact (end1 rfl ⟨_,rfl,E1794,rfl⟩)
       ·replace h:=h.2 hc1706
        refine ec_skip ?_
        refine sq_n ?_
        refine ec_seq ?_
        refine ec_region ?_
        refine o_w (v:=.bool (worksV)) (r_mov rfl) ?_
        refine o_w (v:=.bool (worksV)) (r_asg rfl) ?_
        refine eo_nil_sq ?_
        refine ec_ret ?_
        subst h
        exact (end1 rfl ⟨_,rfl,E1694,rfl⟩)
    ·replace h:=h.2 hc1267
     refine ec_skip ?_
     refine sq_n ?_
     refine ec_seq ?_
     refine ec_region ?_
     refine o_w (v:=.agg (cArena d0 A1 c2 A4 c5).toArray) (r_lda agg_api_Arena rfl (vs:=(cArena d0 A1 c2 A4 c5)) rfl ((S7.fr G1263 (fun _ h=>h)).now.part (n:=3) rfl)) ?_
     refine o_w (v:=.int .i64 d1) (r_mov rfl) ?_
     refine o_w (v:=str d2) (r_mov rfl) ?_
     refine o_w (v:=.int .i64 d4) (r_mov rfl) ?_
     obtain ⟨ha1811,h⟩:=h
     obtain ⟨x1810,hx1810,h⟩:=h
     refine o_call cf_delta_Add rfl (delta_Add_c d0 (kArena_mk (d:=d0) (H3.up G1262 (fun _ h=>h) (upc (.inr m1250) (upc (.inr m33) (fun _ h=>.inl h)))) (H6.up G1262 (fun _ h=>h) (upc (.inr m1250) (upc (.inr m33) (fun _ h=>.inl h))))) d1 d2 d4 (((hL.fr E1261).cons B1266.lt).cons B1260'.lt) (eq_ev hx1810 (add_ev d0 d1 d2 d4 ha1811))) rfl rfl ?_
     rintro _ w1810 ⟨F1810,cs1812,rfl,H1813⟩
     have E1814:=E1261.trans F1810
     obtain ⟨A1821,c1822,A1824,c1825,rfl,H1823,H1826⟩:=kEnt_open H1813
     refine o_w (v:=.tuple #[.agg (cEnt x1810.1 A1821 c1822 A1824 c1825).toArray,.int .i64 x1810.2]) (r_mov rfl) ?_
     refine o_w (v:=.agg (cEnt x1810.1 A1821 c1822 A1824 c1825).toArray) (r_ext rfl rfl) ?_
     refine o_w (v:=.int .i64 x1810.2) (r_ext rfl rfl) ?_
     refine o_alloc zero_api_Entry rfl rfl rfl ?_
     intro b1827 w1827 e1827 F1827 B1827
     have n1827:w.heap.size≤b1827:=by rw [e1827]; exact E1814.size
     have q1828:b32<b1827:=by rw [e1827]; exact (B1266.ex F1810).lt
     have q1829:b1248<b1827:=by rw [e1827]; exact (B1260'.ex F1810).lt
     have m1830:w.heap.size≤b1827:=by rw [e1827]; exact (G1262.trans (Fr.ext F1810)).size
     have m1831:w7.heap.size≤b1827:=by rw [e1827]; exact (G1263.trans (Fr.ext F1810)).size
     have m1834:w1810.heap.size≤b1827:=Nat.le_of_eq e1827.symm
     have E1835:=E1814.trans F1827
     have G1840:Fr (b1248::(b32::L)) w1810 w1827:=Fr.ext F1827
     refine o_store rfl B1827 (vs:=(cEnt x1810.1 A1821 c1822 A1824 c1825)) rfl sz_api_Entry rfl rfl rfl ?_
     intro w1843 F1843 B1843
     have E1844:=Ext.st E1835 F1843 (by simp; omega)
     have G1845:Fr L w w1843:=((G1262.trans (Fr.ext F1810)).trans (Fr.ext F1827)).stp F1843 (upc (.inr m1830) (fun m hm=>by cases hm))
     have G1846:Fr L w7 w1843:=((G1263.trans (Fr.ext F1810)).trans (Fr.ext F1827)).stp F1843 (upc (.inr m1831) (fun m hm=>by cases hm))
     have G1849:Fr (b1248::(b32::L)) w1810 w1843:=G1840.stp F1843 (upc (.inr m1834) (fun m hm=>by cases hm))
     have B1850:=((B1266.ex F1810).ex F1827).fr F1843 (by simp; omega)
     have B1851:=((B1260'.ex F1810).ex F1827).fr F1843 (by simp; omega)
     have B1843':Blk w1843 b1827 _ (cEnt x1810.1 A1821 c1822 A1824 c1825):=B1843
     refine o_w (v:=.int .i64 x1810.2) (r_asg rfl) ?_
     refine eo_nil_sq ?_
     iterate 2 refine ec_seq ?_
     refine ec_region ?_
     refine o_w (v:=.int .i64 x1810.2) (r_mov rfl) ?_
     refine o_w (v:=.bool (x1810.2==(0:Int))) (r_int rfl rfl rfl) ?_
     refine eo_nil_sq ?_
     refine ec_cond rfl (fun hc1852=>?_) (fun hc1852=>?_)
     ·replace h:=h.1 hc1852
      refine ec_seq ?_
      refine ec_region ?_
      refine o_w (v:=.agg (cArena d0 A1 c2 A4 c5).toArray) (r_lda agg_api_Arena rfl (vs:=(cArena d0 A1 c2 A4 c5)) rfl ((S7.fr G1846 (fun _ h=>h)).now.part (n:=3) rfl)) ?_
      refine o_w (v:=.agg (cEnt x1810.1 A1821 c1822 A1824 c1825).toArray) (r_lda agg_api_Entry rfl (vs:=(cEnt x1810.1 A1821 c1822 A1824 c1825)) rfl (B1843'.part (n:=9) rfl)) ?_
      obtain ⟨ha1854,h⟩:=h
      obtain ⟨ha1855,h⟩:=h
      obtain ⟨ha1856,h⟩:=h
      obtain ⟨x1853,hx1853,h⟩:=h
      refine o_call cf_arena_Join rfl (arena_Join_c d0 (kArena_mk (d:=d0) (H3.up G1845 (fun _ h=>h) (upc (.inr m1830) (upc (.inr m1250) (upc (.inr m33) (fun _ h=>.inl h))))) (H6.up G1845 (fun _ h=>h) (upc (.inr m1830) (upc (.inr m1250) (upc (.inr m33) (fun _ h=>.inl h)))))) x1810.1 (kEnt_mk (d:=x1810.1) (H1823.up G1849 (fun _ h=>h) (upc (.inr m1834) (upc (.inl (List.Mem.head _)) (upc (.inl (List.Mem.tail _ (List.Mem.head _))) (fun m hm=>Or.inl (List.Mem.tail _ (List.Mem.tail _ hm))))))) (H1826.up G1849 (fun _ h=>h) (upc (.inr m1834) (upc (.inl (List.Mem.head _)) (upc (.inl (List.Mem.tail _ (List.Mem.head _))) (fun m hm=>Or.inl (List.Mem.tail _ (List.Mem.tail _ hm)))))))) ((((hL.fr E1844).cons B1850.lt).cons B1851.lt).cons B1843'.lt) (eq_ev hx1853 (arJoin_ev d0 x1810.1 ha1854 ha1855 ha1856))) rfl rfl ?_
      rintro _ w1853 ⟨F1853,cs1857,rfl,H1858⟩
      have E1859:=E1844.trans F1853
      obtain ⟨A1868,c1869,A1871,c1872,rfl,H1870,H1873⟩:=kArena_open H1858
      refine o_w (v:=.tuple #[.agg (cArena x1853.1 A1868 c1869 A1871 c1872).toArray,.bool x1853.2.1,.int .i64 x1853.2.2]) (r_mov rfl) ?_
      refine o_w (v:=.agg (cArena x1853.1 A1868 c1869 A1871 c1872).toArray) (r_ext rfl rfl) ?_
      refine o_w (v:=.bool x1853.2.1) (r_ext rfl rfl) ?_
      refine o_w (v:=.int .i64 x1853.2.2) (r_ext rfl rfl) ?_
      refine o_alloc zero_api_Arena rfl rfl rfl ?_
      intro b1874 w1874 e1874 F1874 B1874
      have n1874:w.heap.size≤b1874:=by rw [e1874]; exact E1859.size
      have q1875:b32<b1874:=by rw [e1874]; exact (B1850.ex F1853).lt
      have q1876:b1248<b1874:=by rw [e1874]; exact (B1851.ex F1853).lt
      have q1877:b1827<b1874:=by rw [e1874]; exact (B1843'.ex F1853).lt
      have m1878:w.heap.size≤b1874:=by rw [e1874]; exact (G1845.trans (Fr.ext F1853)).size
      have m1879:w7.heap.size≤b1874:=by rw [e1874]; exact (G1846.trans (Fr.ext F1853)).size
      have m1883:w1853.heap.size≤b1874:=Nat.le_of_eq e1874.symm
      have E1884:=E1859.trans F1874
      have G1890:Fr (b1827::(b1248::(b32::L))) w1853 w1874:=Fr.ext F1874
      refine o_store rfl B1874 (vs:=(cArena x1853.1 A1868 c1869 A1871 c1872)) rfl sz_api_Arena rfl rfl rfl ?_
      intro w1894 F1894 B1894
      have E1895:=Ext.st E1884 F1894 (by simp; omega)
      have G1896:Fr L w w1894:=((G1845.trans (Fr.ext F1853)).trans (Fr.ext F1874)).stp F1894 (upc (.inr m1878) (fun m hm=>by cases hm))
      have G1897:Fr L w7 w1894:=((G1846.trans (Fr.ext F1853)).trans (Fr.ext F1874)).stp F1894 (upc (.inr m1879) (fun m hm=>by cases hm))
      have G1901:Fr (b1827::(b1248::(b32::L))) w1853 w1894:=G1890.stp F1894 (upc (.inr m1883) (fun m hm=>by cases hm))
      have B1902:=((B1850.ex F1853).ex F1874).fr F1894 (by simp; omega)
      have B1903:=((B1851.ex F1853).ex F1874).fr F1894 (by simp; omega)
      have B1904:=((B1843'.ex F1853).ex F1874).fr F1894 (by simp; omega)
      have B1894':Blk w1894 b1874 _ (cArena x1853.1 A1868 c1869 A1871 c1872):=B1894
      refine o_w (v:=.bool x1853.2.1) (r_asg rfl) ?_
      refine o_w (v:=.int .i64 x1853.2.2) (r_asg rfl) ?_
      refine eo_nil_sq ?_
      refine ec_seq ?_
      refine ec_region ?_
      refine o_w (v:=.agg (cArena d0 A1 c2 A4 c5).toArray) (r_lda agg_api_Arena rfl (vs:=(cArena d0 A1 c2 A4 c5)) rfl ((S7.fr G1897 (fun _ h=>h)).now.part (n:=3) rfl)) ?_
      refine o_w (v:=str d2) (r_mov rfl) ?_
      obtain ⟨ha1906,h⟩:=h
      obtain ⟨x1905,hx1905,h⟩:=h
      refine o_call cf_delta_Sum rfl (delta_Sum_c d0 (kArena_mk (d:=d0) (H3.up G1896 (fun _ h=>h) (upc (.inr m1878) (upc (.inr m1830) (upc (.inr m1250) (upc (.inr m33) (fun _ h=>.inl h)))))) (H6.up G1896 (fun _ h=>h) (upc (.inr m1878) (upc (.inr m1830) (upc (.inr m1250) (upc (.inr m33) (fun _ h=>.inl h))))))) d2 (((((hL.fr E1895).cons B1902.lt).cons B1903.lt).cons B1904.lt).cons B1894'.lt) (eq_ev hx1905 (sum_ev d0 d2 ha1906))) rfl rfl ?_
      rintro _ w1905 ⟨F1905,rfl⟩
      have E1907:=E1895.trans F1905
      refine o_w (v:=.tuple #[.int .i64 x1905.1,.bool x1905.2]) (r_mov rfl) ?_
      refine o_w (v:=.int .i64 x1905.1) (r_ext rfl rfl) ?_
      refine o_w (v:=.bool x1905.2) (r_ext rfl rfl) ?_
      refine o_w (v:=.int .i64 x1905.1) (r_asg rfl) ?_
      refine o_w (v:=.bool x1905.2) (r_asg rfl) ?_
      refine eo_nil_sq ?_
      refine ec_seq ?_
      refine ec_region ?_
      refine o_w (v:=.agg (cArena x1853.1 A1868 c1869 A1871 c1872).toArray) (r_lda agg_api_Arena rfl (vs:=(cArena x1853.1 A1868 c1869 A1871 c1872)) rfl ((B1894'.ex F1905).part (n:=3) rfl)) ?_
      refine o_w (v:=str d2) (r_mov rfl) ?_
      obtain ⟨ha1919,h⟩:=h
      obtain ⟨x1918,hx1918,h⟩:=h
      refine o_call cf_delta_Sum rfl (delta_Sum_c x1853.1 (kArena_mk (d:=x1853.1) (H1870.up (G1901.trans (Fr.ext F1905)) (fun _ h=>h) (upc (.inr m1883) (upc (.inl (List.Mem.head _)) (upc (.inl (List.Mem.tail _ (List.Mem.head _))) (upc (.inl (List.Mem.tail _ (List.Mem.tail _ (List.Mem.head _)))) (fun m hm=>Or.inl (List.Mem.tail _ (List.Mem.tail _ (List.Mem.tail _ hm))))))))) (H1873.up (G1901.trans (Fr.ext F1905)) (fun _ h=>h) (upc (.inr m1883) (upc (.inl (List.Mem.head _)) (upc (.inl (List.Mem.tail _ (List.Mem.head _))) (upc (.inl (List.Mem.tail _ (List.Mem.tail _ (List.Mem.head _)))) (fun m hm=>Or.inl (List.Mem.tail _ (List.Mem.tail _ (List.Mem.tail _ hm)))))))))) d2 (((((hL.fr E1907).cons (B1902.ex F1905).lt).cons (B1903.ex F1905).lt).cons (B1904.ex F1905).lt).cons (B1894'.ex F1905).lt) (eq_ev hx1918 (sum_ev x1853.1 d2 ha1919))) rfl rfl ?_
      rintro _ w1918 ⟨F1918,rfl⟩
      have E1920:=E1907.trans F1918
      refine o_w (v:=.tuple #[.int .i64 x1918.1,.bool x1918.2]) (r_mov rfl) ?_
      refine o_w (v:=.int .i64 x1918.1) (r_ext rfl rfl) ?_
      refine o_w (v:=.bool x1918.2) (r_ext rfl rfl) ?_
      refine o_w (v:=.int .i64 x1918.1) (r_asg rfl) ?_
      refine o_w (v:=.bool x1918.2) (r_asg rfl) ?_
      refine eo_nil_sq ?_
      refine ec_seq ?_
      refine ec_region ?_
      refine o_w (v:=.bool x1853.2.1) (r_mov rfl) ?_
      refine o_w (v:=.bool (!x1853.2.1)) (r_not rfl) ?_
      refine o_w (v:=.bool (!x1853.2.1)) (r_mov rfl) ?_
      refine o_vg (v:=.int .i64 x1853.2.2) (want_cf (t:=165) rfl rfl) (fun hk=>(r_mov rfl)) rfl rfl ?_
      refine o_vg (v:=.bool (x1853.2.2 != (0:Int))) (want_cf (t:=165) rfl rfl) (fun hk=>(r_int (gdT hk) rfl rfl)) rfl rfl ?_
      refine o_w (v:=.bool ((!x1853.2.1)||(x1853.2.2 != (0:Int)))) (r_pickOr rfl rfl (fun hf=>(gdT (notT hf)))) ?_
      refine o_w (v:=.bool ((!x1853.2.1)||(x1853.2.2 != (0:Int)))) (r_mov rfl) ?_
      refine o_vg (v:=.bool x1918.2) (want_cf (t:=169) rfl rfl) (fun hk=>(r_mov rfl)) rfl rfl ?_
      refine o_vg (v:=.bool (!x1918.2)) (want_cf (t:=169) rfl rfl) (fun hk=>(r_not (gdT hk))) rfl rfl ?_
      refine o_w (v:=.bool (((!x1853.2.1)||(x1853.2.2 != (0:Int)))||(!x1918.2))) (r_pickOr rfl rfl (fun hf=>(gdT (notT hf)))) ?_
      refine o_w (v:=.bool (((!x1853.2.1)||(x1853.2.2 != (0:Int)))||(!x1918.2))) (r_mov rfl) ?_
      refine o_vg (v:=.int .i64 x1918.1) (want_cf (t:=173) rfl rfl) (fun hk=>(r_mov rfl)) rfl rfl ?_
      refine o_vg (v:=.int .i64 x1905.1) (want_cf (t:=173) rfl rfl) (fun hk=>(r_mov rfl)) rfl rfl ?_
      refine o_vg (v:=.int .i64 d4) (want_cf (t:=173) rfl rfl) (fun hk=>(r_mov rfl)) rfl rfl ?_
      refine o_vg (v:=.int .i64 (IntKind.i64.wrap (x1905.1 + d4))) (want_cf (t:=173) rfl rfl) (fun hk=>(r_int (gdT hk) (gdT hk) rfl)) rfl rfl ?_
      refine o_vg (v:=.bool (x1918.1 != (IntKind.i64.wrap (x1905.1 + d4)))) (want_cf (t:=173) rfl rfl) (fun hk=>(r_int (gdT hk) (gdT hk) rfl)) rfl rfl ?_
      refine o_w (v:=.bool ((((!x1853.2.1)||(x1853.2.2 != (0:Int)))||(!x1918.2))||(x1918.1 != (IntKind.i64.wrap (x1905.1 + d4))))) (r_pickOr rfl rfl (fun hf=>(gdT (notT hf)))) ?_
      refine eo_nil_sq ?_
      refine ec_cond rfl (fun hc1931=>?_) (fun hc1931=>?_)
      ·replace h:=h.1 hc1931
       refine ec_seq ?_
       refine ec_region ?_
       refine o_w (v:=.bool false) (r_asg rfl) ?_
       refine eo_nil_sq ?_
       refine ec_ret ?_
       refine sq_ret ?_
       subst h
       exact (end1 rfl ⟨_,rfl,E1920,rfl⟩)
      ·replace h:=h.2 hc1931
       refine ec_skip ?_
       refine sq_n ?_
       refine ec_seq ?_
       refine ec_region ?_
       refine o_w (v:=.agg (cArena d0 A1 c2 A4 c5).toArray) (r_lda agg_api_Arena rfl (vs:=(cArena d0 A1 c2 A4 c5)) rfl ((S7.fr ((G1897.trans (Fr.ext F1905)).trans (Fr.ext F1918)) (fun _ h=>h)).now.part (n:=3) rfl)) ?_
       refine o_w (v:=str d2) (r_mov rfl) ?_
       refine o_w (v:=.int .u64 d5) (r_mov rfl) ?_
       obtain ⟨ha1933,h⟩:=h
       obtain ⟨x1932,hx1932,h⟩:=h
       refine o_call cf_delta_Set rfl (delta_Set_c d0 (kArena_mk (d:=d0) (H3.up ((G1896.trans (Fr.ext F1905)).trans (Fr.ext F1918)) (fun _ h=>h) (upc (.inr m1878) (upc (.inr m1830) (upc (.inr m1250) (upc (.inr m33) (fun _ h=>.inl h)))))) (H6.up ((G1896.trans (Fr.ext F1905)).trans (Fr.ext F1918)) (fun _ h=>h) (upc (.inr m1878) (upc (.inr m1830) (upc (.inr m1250) (upc (.inr m33) (fun _ h=>.inl h))))))) d2 d5 (((((hL.fr E1920).cons ((B1902.ex F1905).ex F1918).lt).cons ((B1903.ex F1905).ex F1918).lt).cons ((B1904.ex F1905).ex F1918).lt).cons ((B1894'.ex F1905).ex F1918).lt) (eq_ev hx1932 (set_ev d0 d2 d5 ha1933))) rfl rfl ?_
       rintro _ w1932 ⟨F1932,cs1934,rfl,H1935⟩
       have E1936:=E1920.trans F1932
       have G1937:=((G1896.trans (Fr.ext F1905)).trans (Fr.ext F1918)).trans (Fr.ext F1932)
       have G1938:=((G1897.trans (Fr.ext F1905)).trans (Fr.ext F1918)).trans (Fr.ext F1932)
       obtain ⟨A1947,c1948,A1950,c1951,rfl,H1949,H1952⟩:=kEnt_open H1935
       refine o_w (v:=.tuple #[.agg (cEnt x1932.1 A1947 c1948 A1950 c1951).toArray,.int .i64 x1932.2]) (r_mov rfl) ?_
       refine o_w (v:=.agg (cEnt x1932.1 A1947 c1948 A1950 c1951).toArray) (r_ext rfl rfl) ?_
       refine o_w (v:=.int .i64 x1932.2) (r_ext rfl rfl) ?_
       refine o_alloc zero_api_Entry rfl rfl rfl ?_
       intro b1953 w1953 e1953 F1953 B1953
       have n1953:w.heap.size≤b1953:=by rw [e1953]; exact E1936.size
       have q1954:b32<b1953:=by rw [e1953]; exact (((B1902.ex F1905).ex F1918).ex F1932).lt
       have q1955:b1248<b1953:=by rw [e1953]; exact (((B1903.ex F1905).ex F1918).ex F1932).lt
       have q1956:b1827<b1953:=by rw [e1953]; exact (((B1904.ex F1905).ex F1918).ex F1932).lt
       have q1957:b1874<b1953:=by rw [e1953]; exact (((B1894'.ex F1905).ex F1918).ex F1932).lt
       have m1958:w.heap.size≤b1953:=by rw [e1953]; exact G1937.size
       have m1959:w7.heap.size≤b1953:=by rw [e1953]; exact G1938.size
       have m1964:w1932.heap.size≤b1953:=Nat.le_of_eq e1953.symm
       have E1965:=E1936.trans F1953
       have G1972:Fr (b1874::(b1827::(b1248::(b32::L)))) w1932 w1953:=Fr.ext F1953
       refine o_store rfl B1953 (vs:=(cEnt x1932.1 A1947 c1948 A1950 c1951)) rfl sz_api_Entry rfl rfl rfl ?_
       intro w1977 F1977 B1977
       have E1978:=Ext.st E1965 F1977 (by simp; omega)
       have G1979:Fr L w w1977:=(G1937.trans (Fr.ext F1953)).stp F1977 (upc (.inr m1958) (fun m hm=>by cases hm))
       have G1980:Fr L w7 w1977:=(G1938.trans (Fr.ext F1953)).stp F1977 (upc (.inr m1959) (fun m hm=>by cases hm))
       have G1985:Fr (b1874::(b1827::(b1248::(b32::L)))) w1932 w1977:=G1972.stp F1977 (upc (.inr m1964) (fun m hm=>by cases hm))
       have B1986:=((((B1902.ex F1905).ex F1918).ex F1932).ex F1953).fr F1977 (by simp; omega)
       have B1987:=((((B1903.ex F1905).ex F1918).ex F1932).ex F1953).fr F1977 (by simp; omega)
       have B1988:=((((B1904.ex F1905).ex F1918).ex F1932).ex F1953).fr F1977 (by simp; omega)
       have B1989:=((((B1894'.ex F1905).ex F1918).ex F1932).ex F1953).fr F1977 (by simp; omega)
       have B1977':Blk w1977 b1953 _ (cEnt x1932.1 A1947 c1948 A1950 c1951):=B1977
       refine o_w (v:=.int .i64 x1932.2) (r_asg rfl) ?_
       refine eo_nil_sq ?_
       iterate 2 refine ec_seq ?_
       refine ec_region ?_
       refine o_w (v:=.int .i64 x1932.2) (r_mov rfl) ?_
       refine o_w (v:=.bool (x1932.2==(0:Int))) (r_int rfl rfl rfl) ?_
       refine eo_nil_sq ?_
       refine ec_cond rfl (fun hc1990=>?_) (fun hc1990=>?_)
       ·replace h:=h.1 hc1990
        refine ec_seq ?_
        refine ec_region ?_
        refine o_w (v:=.agg (cArena d0 A1 c2 A4 c5).toArray) (r_lda agg_api_Arena rfl (vs:=(cArena d0 A1 c2 A4 c5)) rfl ((S7.fr G1980 (fun _ h=>h)).now.part (n:=3) rfl)) ?_
        refine o_w (v:=.agg (cEnt x1932.1 A1947 c1948 A1950 c1951).toArray) (r_lda agg_api_Entry rfl (vs:=(cEnt x1932.1 A1947 c1948 A1950 c1951)) rfl (B1977'.part (n:=9) rfl)) ?_
        obtain ⟨ha1992,h⟩:=h
        obtain ⟨ha1993,h⟩:=h
        obtain ⟨ha1994,h⟩:=h
        obtain ⟨x1991,hx1991,h⟩:=h
        refine o_call cf_arena_Join rfl (arena_Join_c d0 (kArena_mk (d:=d0) (H3.up G1979 (fun _ h=>h) (upc (.inr m1958) (upc (.inr m1878) (upc (.inr m1830) (upc (.inr m1250) (upc (.inr m33) (fun _ h=>.inl h))))))) (H6.up G1979 (fun _ h=>h) (upc (.inr m1958) (upc (.inr m1878) (upc (.inr m1830) (upc (.inr m1250) (upc (.inr m33) (fun _ h=>.inl h)))))))) x1932.1 (kEnt_mk (d:=x1932.1) (H1949.up G1985 (fun _ h=>h) (upc (.inr m1964) (upc (.inl (List.Mem.head _)) (upc (.inl (List.Mem.tail _ (List.Mem.head _))) (upc (.inl (List.Mem.tail _ (List.Mem.tail _ (List.Mem.head _)))) (upc (.inl (List.Mem.tail _ (List.Mem.tail _ (List.Mem.tail _ (List.Mem.head _))))) (fun m hm=>Or.inl (List.Mem.tail _ (List.Mem.tail _ (List.Mem.tail _ (List.Mem.tail _ hm))))))))))) (H1952.up G1985 (fun _ h=>h) (upc (.inr m1964) (upc (.inl (List.Mem.head _)) (upc (.inl (List.Mem.tail _ (List.Mem.head _))) (upc (.inl (List.Mem.tail _ (List.Mem.tail _ (List.Mem.head _)))) (upc (.inl (List.Mem.tail _ (List.Mem.tail _ (List.Mem.tail _ (List.Mem.head _))))) (fun m hm=>Or.inl (List.Mem.tail _ (List.Mem.tail _ (List.Mem.tail _ (List.Mem.tail _ hm)))))))))))) ((((((hL.fr E1978).cons B1986.lt).cons B1987.lt).cons B1988.lt).cons B1989.lt).cons B1977'.lt) (eq_ev hx1991 (arJoin_ev d0 x1932.1 ha1992 ha1993 ha1994))) rfl rfl ?_
        rintro _ w1991 ⟨F1991,cs1995,rfl,H1996⟩
        have E1997:=E1978.trans F1991
        obtain ⟨A2010,c2011,A2013,c2014,rfl,H2012,H2015⟩:=kArena_open H1996
        refine o_w (v:=.tuple #[.agg (cArena x1991.1 A2010 c2011 A2013 c2014).toArray,.bool x1991.2.1,.int .i64 x1991.2.2]) (r_mov rfl) ?_
        refine o_w (v:=.agg (cArena x1991.1 A2010 c2011 A2013 c2014).toArray) (r_ext rfl rfl) ?_
        refine o_w (v:=.bool x1991.2.1) (r_ext rfl rfl) ?_
        refine o_w (v:=.int .i64 x1991.2.2) (r_ext rfl rfl) ?_
        refine o_alloc zero_api_Arena rfl rfl rfl ?_
        intro b2016 w2016 e2016 F2016 B2016
        have n2016:w.heap.size≤b2016:=by rw [e2016]; exact E1997.size
        have q2017:b32<b2016:=by rw [e2016]; exact (B1986.ex F1991).lt
        have q2018:b1248<b2016:=by rw [e2016]; exact (B1987.ex F1991).lt
        have q2019:b1827<b2016:=by rw [e2016]; exact (B1988.ex F1991).lt
        have q2020:b1874<b2016:=by rw [e2016]; exact (B1989.ex F1991).lt
        have q2021:b1953<b2016:=by rw [e2016]; exact (B1977'.ex F1991).lt
        have m2022:w.heap.size≤b2016:=by rw [e2016]; exact (G1979.trans (Fr.ext F1991)).size
        have m2023:w7.heap.size≤b2016:=by rw [e2016]; exact (G1980.trans (Fr.ext F1991)).size
        have m2029:w1991.heap.size≤b2016:=Nat.le_of_eq e2016.symm
        have E2030:=E1997.trans F2016
        have G2038:Fr (b1953::(b1874::(b1827::(b1248::(b32::L))))) w1991 w2016:=Fr.ext F2016
        refine o_store rfl B2016 (vs:=(cArena x1991.1 A2010 c2011 A2013 c2014)) rfl sz_api_Arena rfl rfl rfl ?_
        intro w2044 F2044 B2044
        have E2045:=Ext.st E2030 F2044 (by simp; omega)
        have G2046:Fr L w w2044:=((G1979.trans (Fr.ext F1991)).trans (Fr.ext F2016)).stp F2044 (upc (.inr m2022) (fun m hm=>by cases hm))
        have G2047:Fr L w7 w2044:=((G1980.trans (Fr.ext F1991)).trans (Fr.ext F2016)).stp F2044 (upc (.inr m2023) (fun m hm=>by cases hm))
        have G2053:Fr (b1953::(b1874::(b1827::(b1248::(b32::L))))) w1991 w2044:=G2038.stp F2044 (upc (.inr m2029) (fun m hm=>by cases hm))
        have B2054:=((B1986.ex F1991).ex F2016).fr F2044 (by simp; omega)
        have B2055:=((B1987.ex F1991).ex F2016).fr F2044 (by simp; omega)
        have B2056:=((B1988.ex F1991).ex F2016).fr F2044 (by simp; omega)
        have B2057:=((B1989.ex F1991).ex F2016).fr F2044 (by simp; omega)
        have B2058:=((B1977'.ex F1991).ex F2016).fr F2044 (by simp; omega)
        have B2044':Blk w2044 b2016 _ (cArena x1991.1 A2010 c2011 A2013 c2014):=B2044
        refine o_w (v:=.bool x1991.2.1) (r_asg rfl) ?_
        refine o_w (v:=.int .i64 x1991.2.2) (r_asg rfl) ?_
        refine eo_nil_sq ?_
        refine ec_seq ?_
        refine ec_region ?_
        refine o_w (v:=.agg (cArena d0 A1 c2 A4 c5).toArray) (r_lda agg_api_Arena rfl (vs:=(cArena d0 A1 c2 A4 c5)) rfl ((S7.fr G2047 (fun _ h=>h)).now.part (n:=3) rfl)) ?_
        refine o_w (v:=str d2) (r_mov rfl) ?_
        obtain ⟨ha2060,h⟩:=h
        obtain ⟨x2059,hx2059,h⟩:=h
        refine o_call cf_delta_Flags rfl (delta_Flags_c d0 (kArena_mk (d:=d0) (H3.up G2046 (fun _ h=>h) (upc (.inr m2022) (upc (.inr m1958) (upc (.inr m1878) (upc (.inr m1830) (upc (.inr m1250) (upc (.inr m33) (fun _ h=>.inl h)))))))) (H6.up G2046 (fun _ h=>h) (upc (.inr m2022) (upc (.inr m1958) (upc (.inr m1878) (upc (.inr m1830) (upc (.inr m1250) (upc (.inr m33) (fun _ h=>.inl h))))))))) d2 (((((((hL.fr E2045).cons B2054.lt).cons B2055.lt).cons B2056.lt).cons B2057.lt).cons B2058.lt).cons B2044'.lt) (eq_ev hx2059 (flags_ev d0 d2 ha2060))) rfl rfl ?_
        rintro _ w2059 ⟨F2059,rfl⟩
        have E2061:=E2045.trans F2059
        refine o_w (v:=.tuple #[.int .u64 x2059.1,.bool x2059.2]) (r_mov rfl) ?_
        refine o_w (v:=.int .u64 x2059.1) (r_ext rfl rfl) ?_
        refine o_w (v:=.bool x2059.2) (r_ext rfl rfl) ?_
        refine o_w (v:=.int .u64 x2059.1) (r_asg rfl) ?_
        refine o_w (v:=.bool x2059.2) (r_asg rfl) ?_
        refine eo_nil_sq ?_
        refine ec_seq ?_
        refine ec_region ?_
        refine o_w (v:=.agg (cArena x1991.1 A2010 c2011 A2013 c2014).toArray) (r_lda agg_api_Arena rfl (vs:=(cArena x1991.1 A2010 c2011 A2013 c2014)) rfl ((B2044'.ex F2059).part (n:=3) rfl)) ?_
        refine o_w (v:=str d2) (r_mov rfl) ?_
        obtain ⟨ha2077,h⟩:=h
        obtain ⟨x2076,hx2076,h⟩:=h
        refine o_call cf_delta_Flags rfl (delta_Flags_c x1991.1 (kArena_mk (d:=x1991.1) (H2012.up (G2053.trans (Fr.ext F2059)) (fun _ h=>h) (upc (.inr m2029) (upc (.inl (List.Mem.head _)) (upc (.inl (List.Mem.tail _ (List.Mem.head _))) (upc (.inl (List.Mem.tail _ (List.Mem.tail _ (List.Mem.head _)))) (upc (.inl (List.Mem.tail _ (List.Mem.tail _ (List.Mem.tail _ (List.Mem.head _))))) (upc (.inl (List.Mem.tail _ (List.Mem.tail _ (List.Mem.tail _ (List.Mem.tail _ (List.Mem.head _)))))) (fun m hm=>Or.inl (List.Mem.tail _ (List.Mem.tail _ (List.Mem.tail _ (List.Mem.tail _ (List.Mem.tail _ hm))))))))))))) (H2015.up (G2053.trans (Fr.ext F2059)) (fun _ h=>h) (upc (.inr m2029) (upc (.inl (List.Mem.head _)) (upc (.inl (List.Mem.tail _ (List.Mem.head _))) (upc (.inl (List.Mem.tail _ (List.Mem.tail _ (List.Mem.head _)))) (upc (.inl (List.Mem.tail _ (List.Mem.tail _ (List.Mem.tail _ (List.Mem.head _))))) (upc (.inl (List.Mem.tail _ (List.Mem.tail _ (List.Mem.tail _ (List.Mem.tail _ (List.Mem.head _)))))) (fun m hm=>Or.inl (List.Mem.tail _ (List.Mem.tail _ (List.Mem.tail _ (List.Mem.tail _ (List.Mem.tail _ hm)))))))))))))) d2 (((((((hL.fr E2061).cons (B2054.ex F2059).lt).cons (B2055.ex F2059).lt).cons (B2056.ex F2059).lt).cons (B2057.ex F2059).lt).cons (B2058.ex F2059).lt).cons (B2044'.ex F2059).lt) (eq_ev hx2076 (flags_ev x1991.1 d2 ha2077))) rfl rfl ?_
        rintro _ w2076 ⟨F2076,rfl⟩
        have E2078:=E2061.trans F2076
        refine o_w (v:=.tuple #[.int .u64 x2076.1,.bool x2076.2]) (r_mov rfl) ?_
        refine o_w (v:=.int .u64 x2076.1) (r_ext rfl rfl) ?_
        refine o_w (v:=.bool x2076.2) (r_ext rfl rfl) ?_
        refine o_w (v:=.int .u64 x2076.1) (r_asg rfl) ?_
        refine o_w (v:=.bool x2076.2) (r_asg rfl) ?_
        refine eo_nil_sq ?_
        refine ec_seq ?_
        refine ec_region ?_
        refine o_w (v:=.int .i64 x1991.2.2) (r_mov rfl) ?_
        refine o_w (v:=.bool (x1991.2.2 != (0:Int))) (r_int rfl rfl rfl) ?_
        refine o_w (v:=.bool (x1991.2.2 != (0:Int))) (r_mov rfl) ?_
        refine o_vg (v:=.bool x2076.2) (want_cf (t:=210) rfl rfl) (fun hk=>(r_mov rfl)) rfl rfl ?_
        refine o_vg (v:=.bool (!x2076.2)) (want_cf (t:=210) rfl rfl) (fun hk=>(r_not (gdT hk))) rfl rfl ?_
        refine o_w (v:=.bool ((x1991.2.2 != (0:Int))||(!x2076.2))) (r_pickOr rfl rfl (fun hf=>(gdT (notT hf)))) ?_
        refine o_w (v:=.bool ((x1991.2.2 != (0:Int))||(!x2076.2))) (r_mov rfl) ?_
        refine o_vg (v:=.int .u64 x2076.1) (want_cf (t:=214) rfl rfl) (fun hk=>(r_mov rfl)) rfl rfl ?_
        refine o_vg (v:=.int .u64 x2059.1) (want_cf (t:=214) rfl rfl) (fun hk=>(r_mov rfl)) rfl rfl ?_
        refine o_vg (v:=.int .u64 d5) (want_cf (t:=214) rfl rfl) (fun hk=>(r_mov rfl)) rfl rfl ?_
        refine o_vg (v:=.int .u64 (IntKind.u64.wrap ((BitVec.ofInt IntKind.u64.bits x2059.1 ||| BitVec.ofInt IntKind.u64.bits d5).toNat:Int))) (want_cf (t:=214) rfl rfl) (fun hk=>(r_int (gdT hk) (gdT hk) rfl)) rfl rfl ?_
        refine o_vg (v:=.bool (x2076.1 != (IntKind.u64.wrap ((BitVec.ofInt IntKind.u64.bits x2059.1 ||| BitVec.ofInt IntKind.u64.bits d5).toNat:Int)))) (want_cf (t:=214) rfl rfl) (fun hk=>(r_int (gdT hk) (gdT hk) rfl)) rfl rfl ?_
        refine o_w (v:=.bool (((x1991.2.2 != (0:Int))||(!x2076.2))||(x2076.1 != (IntKind.u64.wrap ((BitVec.ofInt IntKind.u64.bits x2059.1 ||| BitVec.ofInt IntKind.u64.bits d5).toNat:Int))))) (r_pickOr rfl rfl (fun hf=>(gdT (notT hf)))) ?_
        refine eo_nil_sq ?_
        refine ec_cond rfl (fun hc2093=>?_) (fun hc2093=>?_)
        ·replace h:=h.1 hc2093
         refine ec_seq ?_
         refine ec_region ?_
         refine o_w (v:=.bool false) (r_asg rfl) ?_
         refine eo_nil_sq ?_
         refine ec_ret ?_
         refine sq_ret ?_
         subst h
         exact (end1 rfl ⟨_,rfl,E2078,rfl⟩)
        ·replace h:=h.2 hc2093
         refine ec_skip ?_
         refine sq_n ?_
         refine ec_seq ?_
         refine ec_region ?_
         refine o_w (v:=.bool (worksV)) (r_mov rfl) ?_
         refine o_w (v:=.bool (worksV)) (r_asg rfl) ?_
         refine eo_nil_sq ?_
         refine ec_ret ?_
         subst h
         exact (end1 rfl ⟨_,rfl,E2078,rfl⟩)
       ·replace h:=h.2 hc1990
        refine ec_skip ?_
        refine sq_n ?_
        refine ec_seq ?_
        refine ec_region ?_
        refine o_w (v:=.bool (worksV)) (r_mov rfl) ?_
        refine o_w (v:=.bool (worksV)) (r_asg rfl) ?_
        refine eo_nil_sq ?_
        refine ec_ret ?_
        subst h
        exact (end1 rfl ⟨_,rfl,E1978,rfl⟩)
     ·replace h:=h.2 hc1852
      refine ec_skip ?_
      refine sq_n ?_
      refine ec_seq ?_
      refine ec_region ?_
      refine o_w (v:=.agg (cArena d0 A1 c2 A4 c5).toArray) (r_lda agg_api_Arena rfl (vs:=(cArena d0 A1 c2 A4 c5)) rfl ((S7.fr G1846 (fun _ h=>h)).now.part (n:=3) rfl)) ?_
      refine o_w (v:=str d2) (r_mov rfl) ?_
      refine o_w (v:=.int .u64 d5) (r_mov rfl) ?_
      obtain ⟨ha2095,h⟩:=h
      obtain ⟨x2094,hx2094,h⟩:=h
      refine o_call cf_delta_Set rfl (delta_Set_c d0 (kArena_mk (d:=d0) (H3.up G1845 (fun _ h=>h) (upc (.inr m1830) (upc (.inr m1250) (upc (.inr m33) (fun _ h=>.inl h))))) (H6.up G1845 (fun _ h=>h) (upc (.inr m1830) (upc (.inr m1250) (upc (.inr m33) (fun _ h=>.inl h)))))) d2 d5 ((((hL.fr E1844).cons B1850.lt).cons B1851.lt).cons B1843'.lt) (eq_ev hx2094 (set_ev d0 d2 d5 ha2095))) rfl rfl ?_
      rintro _ w2094 ⟨F2094,cs2096,rfl,H2097⟩
      have E2098:=E1844.trans F2094
      obtain ⟨A2107,c2108,A2110,c2111,rfl,H2109,H2112⟩:=kEnt_open H2097
      refine o_w (v:=.tuple #[.agg (cEnt x2094.1 A2107 c2108 A2110 c2111).toArray,.int .i64 x2094.2]) (r_mov rfl) ?_
      refine o_w (v:=.agg (cEnt x2094.1 A2107 c2108 A2110 c2111).toArray) (r_ext rfl rfl) ?_
      refine o_w (v:=.int .i64 x2094.2) (r_ext rfl rfl) ?_
      refine o_alloc zero_api_Entry rfl rfl rfl ?_
      intro b2113 w2113 e2113 F2113 B2113
      have n2113:w.heap.size≤b2113:=by rw [e2113]; exact E2098.size
      have q2114:b32<b2113:=by rw [e2113]; exact (B1850.ex F2094).lt
      have q2115:b1248<b2113:=by rw [e2113]; exact (B1851.ex F2094).lt
      have q2116:b1827<b2113:=by rw [e2113]; exact (B1843'.ex F2094).lt
      have m2117:w.heap.size≤b2113:=by rw [e2113]; exact (G1845.trans (Fr.ext F2094)).size
      have m2118:w7.heap.size≤b2113:=by rw [e2113]; exact (G1846.trans (Fr.ext F2094)).size
      have m2122:w2094.heap.size≤b2113:=Nat.le_of_eq e2113.symm
      have E2123:=E2098.trans F2113
      have G2129:Fr (b1827::(b1248::(b32::L))) w2094 w2113:=Fr.ext F2113
      refine o_store rfl B2113 (vs:=(cEnt x2094.1 A2107 c2108 A2110 c2111)) rfl sz_api_Entry rfl rfl rfl ?_
      intro w2133 F2133 B2133
      have E2134:=Ext.st E2123 F2133 (by simp; omega)
      have G2135:Fr L w w2133:=((G1845.trans (Fr.ext F2094)).trans (Fr.ext F2113)).stp F2133 (upc (.inr m2117) (fun m hm=>by cases hm))
      have G2136:Fr L w7 w2133:=((G1846.trans (Fr.ext F2094)).trans (Fr.ext F2113)).stp F2133 (upc (.inr m2118) (fun m hm=>by cases hm))
      have G2140:Fr (b1827::(b1248::(b32::L))) w2094 w2133:=G2129.stp F2133 (upc (.inr m2122) (fun m hm=>by cases hm))
      have B2141:=((B1850.ex F2094).ex F2113).fr F2133 (by simp; omega)
      have B2142:=((B1851.ex F2094).ex F2113).fr F2133 (by simp; omega)
      have B2143:=((B1843'.ex F2094).ex F2113).fr F2133 (by simp; omega)
      have B2133':Blk w2133 b2113 _ (cEnt x2094.1 A2107 c2108 A2110 c2111):=B2133
      refine o_w (v:=.int .i64 x2094.2) (r_asg rfl) ?_
      refine eo_nil_sq ?_
      iterate 2 refine ec_seq ?_
      refine ec_region ?_
      refine o_w (v:=.int .i64 x2094.2) (r_mov rfl) ?_
      refine o_w (v:=.bool (x2094.2==(0:Int))) (r_int rfl rfl rfl) ?_
      refine eo_nil_sq ?_
      refine ec_cond rfl (fun hc2144=>?_) (fun hc2144=>?_)
      ·replace h:=h.1 hc2144
       refine ec_seq ?_
       refine ec_region ?_
       refine o_w (v:=.agg (cArena d0 A1 c2 A4 c5).toArray) (r_lda agg_api_Arena rfl (vs:=(cArena d0 A1 c2 A4 c5)) rfl ((S7.fr G2136 (fun _ h=>h)).now.part (n:=3) rfl)) ?_
       refine o_w (v:=.agg (cEnt x2094.1 A2107 c2108 A2110 c2111).toArray) (r_lda agg_api_Entry rfl (vs:=(cEnt x2094.1 A2107 c2108 A2110 c2111)) rfl (B2133'.part (n:=9) rfl)) ?_
       obtain ⟨ha2146,h⟩:=h
       obtain ⟨ha2147,h⟩:=h
       obtain ⟨ha2148,h⟩:=h
       obtain ⟨x2145,hx2145,h⟩:=h
       refine o_call cf_arena_Join rfl (arena_Join_c d0 (kArena_mk (d:=d0) (H3.up G2135 (fun _ h=>h) (upc (.inr m2117) (upc (.inr m1830) (upc (.inr m1250) (upc (.inr m33) (fun _ h=>.inl h)))))) (H6.up G2135 (fun _ h=>h) (upc (.inr m2117) (upc (.inr m1830) (upc (.inr m1250) (upc (.inr m33) (fun _ h=>.inl h))))))) x2094.1 (kEnt_mk (d:=x2094.1) (H2109.up G2140 (fun _ h=>h) (upc (.inr m2122) (upc (.inl (List.Mem.head _)) (upc (.inl (List.Mem.tail _ (List.Mem.head _))) (upc (.inl (List.Mem.tail _ (List.Mem.tail _ (List.Mem.head _)))) (fun m hm=>Or.inl (List.Mem.tail _ (List.Mem.tail _ (List.Mem.tail _ hm))))))))) (H2112.up G2140 (fun _ h=>h) (upc (.inr m2122) (upc (.inl (List.Mem.head _)) (upc (.inl (List.Mem.tail _ (List.Mem.head _))) (upc (.inl (List.Mem.tail _ (List.Mem.tail _ (List.Mem.head _)))) (fun m hm=>Or.inl (List.Mem.tail _ (List.Mem.tail _ (List.Mem.tail _ hm)))))))))) (((((hL.fr E2134).cons B2141.lt).cons B2142.lt).cons B2143.lt).cons B2133'.lt) (eq_ev hx2145 (arJoin_ev d0 x2094.1 ha2146 ha2147 ha2148))) rfl rfl ?_
       rintro _ w2145 ⟨F2145,cs2149,rfl,H2150⟩
       have E2151:=E2134.trans F2145
       obtain ⟨A2162,c2163,A2165,c2166,rfl,H2164,H2167⟩:=kArena_open H2150
       refine o_w (v:=.tuple #[.agg (cArena x2145.1 A2162 c2163 A2165 c2166).toArray,.bool x2145.2.1,.int .i64 x2145.2.2]) (r_mov rfl) ?_
       refine o_w (v:=.agg (cArena x2145.1 A2162 c2163 A2165 c2166).toArray) (r_ext rfl rfl) ?_
       refine o_w (v:=.bool x2145.2.1) (r_ext rfl rfl) ?_
       refine o_w (v:=.int .i64 x2145.2.2) (r_ext rfl rfl) ?_
       refine o_alloc zero_api_Arena rfl rfl rfl ?_
       intro b2168 w2168 e2168 F2168 B2168
       have n2168:w.heap.size≤b2168:=by rw [e2168]; exact E2151.size
       have q2169:b32<b2168:=by rw [e2168]; exact (B2141.ex F2145).lt
       have q2170:b1248<b2168:=by rw [e2168]; exact (B2142.ex F2145).lt
       have q2171:b1827<b2168:=by rw [e2168]; exact (B2143.ex F2145).lt
       have q2172:b2113<b2168:=by rw [e2168]; exact (B2133'.ex F2145).lt
       have m2173:w.heap.size≤b2168:=by rw [e2168]; exact (G2135.trans (Fr.ext F2145)).size
       have m2174:w7.heap.size≤b2168:=by rw [e2168]; exact (G2136.trans (Fr.ext F2145)).size
       have m2179:w2145.heap.size≤b2168:=Nat.le_of_eq e2168.symm
       have E2180:=E2151.trans F2168
       have G2187:Fr (b2113::(b1827::(b1248::(b32::L)))) w2145 w2168:=Fr.ext F2168
       refine o_store rfl B2168 (vs:=(cArena x2145.1 A2162 c2163 A2165 c2166)) rfl sz_api_Arena rfl rfl rfl ?_
       intro w2192 F2192 B2192
       have E2193:=Ext.st E2180 F2192 (by simp; omega)
       have G2194:Fr L w w2192:=((G2135.trans (Fr.ext F2145)).trans (Fr.ext F2168)).stp F2192 (upc (.inr m2173) (fun m hm=>by cases hm))
       have G2195:Fr L w7 w2192:=((G2136.trans (Fr.ext F2145)).trans (Fr.ext F2168)).stp F2192 (upc (.inr m2174) (fun m hm=>by cases hm))
       have G2200:Fr (b2113::(b1827::(b1248::(b32::L)))) w2145 w2192:=G2187.stp F2192 (upc (.inr m2179) (fun m hm=>by cases hm))
       have B2201:=((B2141.ex F2145).ex F2168).fr F2192 (by simp; omega)
       have B2202:=((B2142.ex F2145).ex F2168).fr F2192 (by simp; omega)
       have B2203:=((B2143.ex F2145).ex F2168).fr F2192 (by simp; omega)
       have B2204:=((B2133'.ex F2145).ex F2168).fr F2192 (by simp; omega)
       have B2192':Blk w2192 b2168 _ (cArena x2145.1 A2162 c2163 A2165 c2166):=B2192
       refine o_w (v:=.bool x2145.2.1) (r_asg rfl) ?_
       refine o_w (v:=.int .i64 x2145.2.2) (r_asg rfl) ?_
       refine eo_nil_sq ?_
       refine ec_seq ?_
       refine ec_region ?_
       refine o_w (v:=.agg (cArena d0 A1 c2 A4 c5).toArray) (r_lda agg_api_Arena rfl (vs:=(cArena d0 A1 c2 A4 c5)) rfl ((S7.fr G2195 (fun _ h=>h)).now.part (n:=3) rfl)) ?_
       refine o_w (v:=str d2) (r_mov rfl) ?_
       obtain ⟨ha2206,h⟩:=h
       obtain ⟨x2205,hx2205,h⟩:=h
       refine o_call cf_delta_Flags rfl (delta_Flags_c d0 (kArena_mk (d:=d0) (H3.up G2194 (fun _ h=>h) (upc (.inr m2173) (upc (.inr m2117) (upc (.inr m1830) (upc (.inr m1250) (upc (.inr m33) (fun _ h=>.inl h))))))) (H6.up G2194 (fun _ h=>h) (upc (.inr m2173) (upc (.inr m2117) (upc (.inr m1830) (upc (.inr m1250) (upc (.inr m33) (fun _ h=>.inl h)))))))) d2 ((((((hL.fr E2193).cons B2201.lt).cons B2202.lt).cons B2203.lt).cons B2204.lt).cons B2192'.lt) (eq_ev hx2205 (flags_ev d0 d2 ha2206))) rfl rfl ?_
       rintro _ w2205 ⟨F2205,rfl⟩
       have E2207:=E2193.trans F2205
       refine o_w (v:=.tuple #[.int .u64 x2205.1,.bool x2205.2]) (r_mov rfl) ?_
       refine o_w (v:=.int .u64 x2205.1) (r_ext rfl rfl) ?_
       refine o_w (v:=.bool x2205.2) (r_ext rfl rfl) ?_
       refine o_w (v:=.int .u64 x2205.1) (r_asg rfl) ?_
       refine o_w (v:=.bool x2205.2) (r_asg rfl) ?_
       refine eo_nil_sq ?_
       refine ec_seq ?_
       refine ec_region ?_
       refine o_w (v:=.agg (cArena x2145.1 A2162 c2163 A2165 c2166).toArray) (r_lda agg_api_Arena rfl (vs:=(cArena x2145.1 A2162 c2163 A2165 c2166)) rfl ((B2192'.ex F2205).part (n:=3) rfl)) ?_
       refine o_w (v:=str d2) (r_mov rfl) ?_
       obtain ⟨ha2221,h⟩:=h
       obtain ⟨x2220,hx2220,h⟩:=h
       refine o_call cf_delta_Flags rfl (delta_Flags_c x2145.1 (kArena_mk (d:=x2145.1) (H2164.up (G2200.trans (Fr.ext F2205)) (fun _ h=>h) (upc (.inr m2179) (upc (.inl (List.Mem.head _)) (upc (.inl (List.Mem.tail _ (List.Mem.head _))) (upc (.inl (List.Mem.tail _ (List.Mem.tail _ (List.Mem.head _)))) (upc (.inl (List.Mem.tail _ (List.Mem.tail _ (List.Mem.tail _ (List.Mem.head _))))) (fun m hm=>Or.inl (List.Mem.tail _ (List.Mem.tail _ (List.Mem.tail _ (List.Mem.tail _ hm))))))))))) (H2167.up (G2200.trans (Fr.ext F2205)) (fun _ h=>h) (upc (.inr m2179) (upc (.inl (List.Mem.head _)) (upc (.inl (List.Mem.tail _ (List.Mem.head _))) (upc (.inl (List.Mem.tail _ (List.Mem.tail _ (List.Mem.head _)))) (upc (.inl (List.Mem.tail _ (List.Mem.tail _ (List.Mem.tail _ (List.Mem.head _))))) (fun m hm=>Or.inl (List.Mem.tail _ (List.Mem.tail _ (List.Mem.tail _ (List.Mem.tail _ hm)))))))))))) d2 ((((((hL.fr E2207).cons (B2201.ex F2205).lt).cons (B2202.ex F2205).lt).cons (B2203.ex F2205).lt).cons (B2204.ex F2205).lt).cons (B2192'.ex F2205).lt) (eq_ev hx2220 (flags_ev x2145.1 d2 ha2221))) rfl rfl ?_
       rintro _ w2220 ⟨F2220,rfl⟩
       have E2222:=E2207.trans F2220
       refine o_w (v:=.tuple #[.int .u64 x2220.1,.bool x2220.2]) (r_mov rfl) ?_
       refine o_w (v:=.int .u64 x2220.1) (r_ext rfl rfl) ?_
       refine o_w (v:=.bool x2220.2) (r_ext rfl rfl) ?_
       refine o_w (v:=.int .u64 x2220.1) (r_asg rfl) ?_
       refine o_w (v:=.bool x2220.2) (r_asg rfl) ?_
       refine eo_nil_sq ?_
       refine ec_seq ?_
       refine ec_region ?_
       refine o_w (v:=.int .i64 x2145.2.2) (r_mov rfl) ?_
       refine o_w (v:=.bool (x2145.2.2 != (0:Int))) (r_int rfl rfl rfl) ?_
       refine o_w (v:=.bool (x2145.2.2 != (0:Int))) (r_mov rfl) ?_
       refine o_vg (v:=.bool x2220.2) (want_cf (t:=210) rfl rfl) (fun hk=>(r_mov rfl)) rfl rfl ?_
       refine o_vg (v:=.bool (!x2220.2)) (want_cf (t:=210) rfl rfl) (fun hk=>(r_not (gdT hk))) rfl rfl ?_
       refine o_w (v:=.bool ((x2145.2.2 != (0:Int))||(!x2220.2))) (r_pickOr rfl rfl (fun hf=>(gdT (notT hf)))) ?_
       refine o_w (v:=.bool ((x2145.2.2 != (0:Int))||(!x2220.2))) (r_mov rfl) ?_
       refine o_vg (v:=.int .u64 x2220.1) (want_cf (t:=214) rfl rfl) (fun hk=>(r_mov rfl)) rfl rfl ?_
       refine o_vg (v:=.int .u64 x2205.1) (want_cf (t:=214) rfl rfl) (fun hk=>(r_mov rfl)) rfl rfl ?_
       refine o_vg (v:=.int .u64 d5) (want_cf (t:=214) rfl rfl) (fun hk=>(r_mov rfl)) rfl rfl ?_
       refine o_vg (v:=.int .u64 (IntKind.u64.wrap ((BitVec.ofInt IntKind.u64.bits x2205.1 ||| BitVec.ofInt IntKind.u64.bits d5).toNat:Int))) (want_cf (t:=214) rfl rfl) (fun hk=>(r_int (gdT hk) (gdT hk) rfl)) rfl rfl ?_
       refine o_vg (v:=.bool (x2220.1 != (IntKind.u64.wrap ((BitVec.ofInt IntKind.u64.bits x2205.1 ||| BitVec.ofInt IntKind.u64.bits d5).toNat:Int)))) (want_cf (t:=214) rfl rfl) (fun hk=>(r_int (gdT hk) (gdT hk) rfl)) rfl rfl ?_
       refine o_w (v:=.bool (((x2145.2.2 != (0:Int))||(!x2220.2))||(x2220.1 != (IntKind.u64.wrap ((BitVec.ofInt IntKind.u64.bits x2205.1 ||| BitVec.ofInt IntKind.u64.bits d5).toNat:Int))))) (r_pickOr rfl rfl (fun hf=>(gdT (notT hf)))) ?_
       refine eo_nil_sq ?_
       refine ec_cond rfl (fun hc2235=>?_) (fun hc2235=>?_)
       ·replace h:=h.1 hc2235
        refine ec_seq ?_
        refine ec_region ?_
        refine o_w (v:=.bool false) (r_asg rfl) ?_
        refine eo_nil_sq ?_
        refine ec_ret ?_
        refine sq_ret ?_
        subst h
        exact (end1 rfl ⟨_,rfl,E2222,rfl⟩)
       ·replace h:=h.2 hc2235
        refine ec_skip ?_
        refine sq_n ?_
        refine ec_seq ?_
        refine ec_region ?_
        refine o_w (v:=.bool (worksV)) (r_mov rfl) ?_
        refine o_w (v:=.bool (worksV)) (r_asg rfl) ?_
        refine eo_nil_sq ?_
        refine ec_ret ?_
        subst h
        exact (end1 rfl ⟨_,rfl,E2222,rfl⟩)
      ·replace h:=h.2 hc2144
       refine ec_skip ?_
       refine sq_n ?_
       refine ec_seq ?_
       refine ec_region ?_
       refine o_w (v:=.bool (worksV)) (r_mov rfl) ?_
       refine o_w (v:=.bool (worksV)) (r_asg rfl) ?_
       refine eo_nil_sq ?_
       refine ec_ret ?_
       subst h
       exact (end1 rfl ⟨_,rfl,E2134,rfl⟩)
end Go.Proofs.Ythhjcijhanacnaa
