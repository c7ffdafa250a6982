/- BufferYoungest: behind as many names as it has room for a buffer has just these. -/
import Derived.Test.YtpopikeebobjnaaGe6
import Derived.Test.YtpopikeebobjnaaSe20
namespace Go.Proofs.Ytpopikeebobjnaa
open Go Go.RowKit
set_option linter.unusedVariables false
set_option linter.unusedSimpArgs false

theorem bufferYoungest_ev (b:Buf) (a:Arena) (p:Int) (l:List Int) (gb:GBuf b) (ga:GArena a) (wp:inK .u8 p) (gl:Gs_uint8 l):law16_BufferYoungest_raw b a p l true:=by
 refine ⟨fun h=>(by cases h),fun _=>⟨fun _=>rfl,fun f1=>?_⟩⟩
 have f2:fewB b=true∧fewA a=true:=by revert f1; cases fewB b <;> cases fewA a <;> simp
 have s0:=fewB_smB f2.1
 have n0:=fewB_smN f2.1
 have sa:=fewA_sma f2.2
 refine ⟨sa,fun _=>rfl,fun c1=>⟨fun _=>rfl,fun c2=>⟨fun _=>rfl,fun c3=>⟨fun _=>rfl,fun c4=>⟨s0,sa,_,rfl,fun _=>rfl,fun c5=>?_⟩⟩⟩⟩⟩
 rw [checkA_ne] at c1
 have ho:arOk a=true:=by simpa using c1
 have hpos:0<a.slots.length:=List.length_pos_iff.2 (by simpa using c2)
 obtain ⟨m,hm,hm1,hm8⟩:=size8 wp
 rw [hm] at c3 c5 ⊢
 have hlm:m≤l.length:=by simp at c3; omega
 have hl20:l.length≤20:=by simp at c4; omega
 have hc0:okB (mendB b a (m:Int)) a (m:Int)=true:=mend_ok ho (by omega)
 have hf0:(mendB b a (m:Int)).first≤2147483000:=by simp at c5; omega
 have hl0:=(okB_iff.1 hc0).2.2.1
 -- the names of l
 let nm:Int→Nm:=fun i=>⟨(nth a.slots (Int.tmod (IntKind.i64.wrap i) (a.slots.length:Int))).val.kind,(nth a.slots (Int.tmod (IntKind.i64.wrap i) (a.slots.length:Int))).key⟩
 let Inv:List Nm × Int × Int × Int × List Nm→Prop:=fun s=>∃ k:Nat,k≤l.length∧s.2.1=(k:Int)∧s.1=(l.take k).map nm∧s.2.2.2.2.length≤100 ∧
  (mendB ⟨s.2.2.1,s.2.2.2.1,s.2.2.2.2⟩ a (m:Int)).names=((mendB b a (m:Int)).names++s.1).drop ((mendB b a (m:Int)).names.length + k - m)∧(mendB ⟨s.2.2.1,s.2.2.2.1,s.2.2.2.2⟩ a (m:Int)).first≤(mendB b a (m:Int)).first + k ∧
  (1≤k→mendB ⟨s.2.2.1,s.2.2.2.1,s.2.2.2.2⟩ a (m:Int)=⟨s.2.2.1,s.2.2.2.1,s.2.2.2.2⟩)
 obtain ⟨x,hx,hq⟩:=loop_run (body:=law16_BufferYoungest_b59 a p l) (fun s=>l.length - s.2.1.toNat) Inv (fun x=>Inv x∧x.2.1=(l.length:Int)) (by
  rintro ⟨ns,i,ep,fr,bn⟩ ⟨k,hk,h1,h2,h3,h4,h5,h6⟩
  simp only at h1 h2 h3 h4 h5 h6
  subst h1
  by_cases hlt:k<l.length
  ·have hu8:inK .u8 (nth l (k:Int)):=gl.2 _ (by rw [nth_nat]; exact getD_mem' hlt)
   obtain ⟨i,hi,hil⟩:=at_slot hu8 hpos
   have hxs:nth a.slots (i:Int)∈a.slots:=by rw [nth_nat]; exact getD_mem' hil
   have hco:okB (mendB ⟨ep,fr,bn⟩ a (m:Int)) a (m:Int)=true:=mend_ok ho (by omega)
   obtain ⟨hnk,hno⟩:=note_ok hco hm1 hm8 hxs (by omega)
   rw [← note_mend ho (by omega)] at hnk hno
   have hnm:nm (nth l (k:Int))=⟨(nth a.slots (i:Int)).val.kind,(nth a.slots (i:Int)).key⟩:=by show (⟨_,_⟩:Nm)=_; rw [hi]
   have htk:(l.take (k + 1)).map nm=(l.take k).map nm++[nm (nth l (k:Int))]:=by
    have et:l.take (k + 1)=l.take k++[l.getD k default]:=by rw [List.take_add_one]; simp [hlt]
    rw [et,List.map_append,nth_nat]; rfl
   have hnl:(noteB ⟨ep,fr,bn⟩ a (m:Int) (nth a.slots (i:Int))).names.length≤8:=by have:=(okB_iff.1 hno).2.2.1; omega
   have hcl:(mendB ⟨ep,fr,bn⟩ a (m:Int)).names.length=(mendB b a (m:Int)).names.length + k - ((mendB b a (m:Int)).names.length + k - m):=by
    rw [h4,h2]; simp; omega
   refine .inl ⟨((l.take (k + 1)).map nm,((k + 1:Nat):Int),(noteB ⟨ep,fr,bn⟩ a (m:Int) (nth a.slots (i:Int))).epoch,(noteB ⟨ep,fr,bn⟩ a (m:Int) (nth a.slots (i:Int))).first,(noteB ⟨ep,fr,bn⟩ a (m:Int) (nth a.slots (i:Int))).names),⟨fun _=>?_,fun c=>by simp at c; omega⟩,⟨k + 1,by omega,rfl,rfl,by show (noteB ⟨ep,fr,bn⟩ a (m:Int) (nth a.slots (i:Int))).names.length≤100; omega,?_,?_,fun _=>mend_of hno⟩,by simp; omega⟩
   ·simp only [hm,hi]
    refine ⟨⟨by omega,by omega⟩,c2,⟨by omega,by omega⟩,Nat.le_trans (m:=100) h3 (by decide),sa,_,rfl,?_,?_⟩
    ·rw [h2]; simp; omega
    ·rw [wrapS hlt (by omega),htk,hnm,h2]
   ·show (mendB (noteB ⟨ep,fr,bn⟩ a (m:Int) (nth a.slots (i:Int))) a (m:Int)).names=_
    rw [mend_of hno,hnk]
    show ((mendB ⟨ep,fr,bn⟩ a (m:Int)).names++_).drop _=_
    rw [hcl,h4,htk,hnm,← List.append_assoc,← h2]
    have hdl:(mendB b a (m:Int)).names.length + k - m≤((mendB b a (m:Int)).names++ns).length:=by rw [h2]; simp; omega
    rw [← List.drop_append_of_le_length hdl,List.drop_drop]
    congr 1; omega
   ·show (mendB (noteB ⟨ep,fr,bn⟩ a (m:Int) (nth a.slots (i:Int))) a (m:Int)).first≤_
    rw [mend_of hno,hnk]
    show (mendB ⟨ep,fr,bn⟩ a (m:Int)).first + _≤_
    omega
  ·obtain rfl:k=l.length:=by omega
   exact .inr ⟨_,⟨fun c=>by simp at c,fun _=>rfl⟩,⟨l.length,Nat.le_refl _,rfl,h2,h3,h4,h5,h6⟩,rfl⟩) ([],0,b.epoch,b.first,b.names) ⟨0,Nat.zero_le _,rfl,by simp,by have:=fewB_len f2.1; show b.names.length≤100; omega,by
   have:(mendB b a (m:Int)).names.length + 0 - m=0:=by omega
   rw [this]; simp,by simp,fun h=>by omega⟩
 obtain ⟨⟨k,hk,h1,h2,h3,h4,h5,h6⟩,he⟩:=hq
 obtain rfl:k=l.length:=by omega
 have h6':=h6 (by omega)
 rw [h6'] at h4
 have h4:x.2.2.2.2=(x.1).drop (l.length - m):=by
  refine h4.trans ?_
  rw [List.drop_append]
  have e1:(mendB b a (m:Int)).names.drop ((mendB b a (m:Int)).names.length + l.length - m)=[]:=List.drop_eq_nil_of_le (by omega)
  rw [e1,List.nil_append]; congr 1; omega
 have hxl:x.1.length=l.length:=by rw [h2]; simp
 have hbl:x.2.2.2.2.length=m:=by rw [h4,List.length_drop]; omega
 refine ⟨x,hx,fun c=>?_,fun _=>?_⟩
 ·exfalso; rw [hbl] at c; simp at c
 ·obtain ⟨z,hz,hz2⟩:=loop_scan (body:=law16_BufferYoungest_b236 p x) m (fun _=>true) (fun _=>true)
   (fun j hj _=>by
    have e1:IntKind.i64.wrap (IntKind.i64.wrap ((x.1.length:Int) - (m:Int)) + (j:Int))=((l.length - m + j:Nat):Int):=by rw [wrap64 (n:=(x.1.length:Int) - (m:Int)) (by omega) (by omega),wrap64 (by omega) (by omega)]; omega
    unfold law16_BufferYoungest_b236
    simp only [hm,e1,nth_nat]
    refine ⟨fun _=>⟨⟨by omega,by omega⟩,⟨by omega,by omega⟩,fun c=>?_,fun _=>by rw [wrap64 (by omega) (by omega)]; rfl⟩,fun c=>by simp at c; omega⟩
    have:x.2.2.2.2.getD j default=x.1.getD (l.length - m + j) default:=by
     rw [h4,List.getD_eq_getElem?_getD,List.getD_eq_getElem?_getD,List.getElem?_drop]
    rw [this] at c; simp at c)
   (fun j hj hp=>by cases hp) (by
    unfold law16_BufferYoungest_b236
    simp only [hm]
    exact ⟨fun c=>by simp at c,fun _=>by trivial⟩)
  refine ⟨z,hz,fun _ _=>rfl,fun y e3=>?_⟩
  rcases hz2 with ⟨h7,_⟩ | ⟨j,_,h7,_⟩
  ·rw [e3] at h7; cases h7
  ·cases h7
end Go.Proofs.Ytpopikeebobjnaa
