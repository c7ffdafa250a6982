/- value: Check, and Join, of the program and of its reference, in plain Lean. -/
import Derived.Test.YthhjcijhanacnaaGreatSa
namespace Go.Proofs.YthhjcijhanacnaaGreat
open Go Go.RowKit
set_option linter.unusedVariables false
set_option linter.unusedSimpArgs false

theorem noReg_ev (d:Val):ref06_noReg_raw d (noReg d):=by
 unfold ref06_noReg_raw noReg
 simp only [Bool.and_assoc]
theorem noCount_ev (d:Val) (h:sm d):ref06_noCount_raw d (d.plus==[]&&d.minus==[]):=by
 unfold ref06_noCount_raw
 obtain ⟨h1,h2⟩:=h
 have hw:(IntKind.i64.wrap ((d.plus.length:Int) + (d.minus.length:Int))=0)↔(d.plus.length:Int) + (d.minus.length:Int)=0:=by
  by_cases hs:(d.plus.length:Int) + (d.minus.length:Int)≤9223372036854775807
  ·rw [wrap64 (by omega) (by omega)]
  ·generalize hk:(d.plus.length:Int) + (d.minus.length:Int)=k at *
   have hk2:k≤18446744073709551614:=by omega
   have hk3:9223372036854775808≤k:=by omega
   have:IntKind.i64.wrap k=k - 18446744073709551616:=by
    unfold IntKind.wrap
    simp only [IntKind.signed,IntKind.bits]
    simp
    omega
   rw [this]; omega
 rw [Bool.eq_iff_iff]
 simp only [Bool.and_eq_true,beq_iff_eq,← List.length_eq_zero_iff]
 rw [hw]
 omega
theorem dec_cast {n m:Nat}:decide ((n:Int)≤(m:Int))=decide (n≤m):=by rw [Bool.eq_iff_iff]; simp
theorem dec_lt8 {n:Int}:decide (n<8)=decide (n≤7):=by rw [Bool.eq_iff_iff]; simp; omega
theorem refCheck_ev (d:Val) (h:sm d):ref06_Check_raw d (okV d):=by
 have hl:decide ((d.text.length:Int)≤8)=decide (d.text.length≤8):=dec_cast (m:=8)
 unfold ref06_Check_raw okV okR okC okF
 rw [hl]
 refine ⟨fun k1=>⟨_,fun _=>noCount_ev d h,?_⟩,fun k1=>⟨fun k2=>⟨_,counts_ev _ h.1,_,fun _=>counts_ev _ h.2,_,fun _=>noReg_ev d,?_⟩,fun k2=>⟨_,fun _=>noReg_ev d,_,fun _=>noCount_ev d h,?_⟩⟩⟩
 ·rw [k1,cond_true]; ac_rfl
 ·rw [k1,k2,cond_false,cond_true]; ac_rfl
 ·rw [k1,k2,cond_false,cond_false]; ac_rfl
theorem chk_ev {d:Val} {b:Bool} (e:b=okV d):(b=true→checkV d=0)∧(b=false→checkV d=2):=by
 subst e; unfold checkV
 exact ⟨fun h=>by rw [h]; rfl,fun h=>by rw [h]; rfl⟩
theorem checkV_f {d:Val} (h:okV d=false):checkV d=2:=by unfold checkV; rw [h]; rfl
theorem okN_and (l:List Int):okN l=(((l.length:Int)==8)&&l.all (fun n=>decide (0≤n)&&decide (n≤65535))):=by
 unfold okN; rw [Bool.and_comm]; congr 1; rw [Bool.eq_iff_iff]; simp; omega
theorem sameV_reg (d:Val):sameV d ⟨d.kind,d.time,d.node,d.dead,d.text,[],[],0⟩=(d.flags==0&&(d.plus==[]&&d.minus==[])):=by simp [sameV]
theorem sameV_cnt (d:Val):sameV d ⟨d.kind,0,0,false,[],d.plus,d.minus,0⟩=(noReg d&&d.flags==0):=by simp [sameV,noReg,Bool.and_assoc]
theorem sameV_flg (d:Val):sameV d ⟨d.kind,0,0,false,[],[],[],d.flags⟩=(noReg d&&(d.plus==[]&&d.minus==[])):=by simp [sameV,noReg,Bool.and_assoc]
theorem valCheck_ev (d:Val) (h:sm d):value_Check_raw d (checkV d):=by
 have hl:decide ((d.text.length:Int)≤8)=decide (d.text.length≤8):=dec_cast (m:=8)
 have s1:=valSame_ev d ⟨d.kind,d.time,d.node,d.dead,d.text,[],[],0⟩ h
 have s2:=valSame_ev d ⟨d.kind,0,0,false,[],d.plus,d.minus,0⟩ h
 have s3:=valSame_ev d ⟨d.kind,0,0,false,[],[],[],d.flags⟩ h
 rw [sameV_reg] at s1
 rw [sameV_cnt] at s2
 rw [sameV_flg] at s3
 unfold value_Check_raw
 rw [hl,dec_lt8]
 have e:okV d=bif d.kind==1 then okR d else bif d.kind==2 then okC d else d.kind==3&&okF d:=rfl
 refine ⟨fun k1=>⟨_,s1,chk_ev ?_⟩,fun k1=>⟨fun k2=>⟨_,s2,_,fun _=>contains_ev _ h.1,_,fun _=>contains_ev _ h.2,chk_ev ?_⟩,fun k2=>⟨fun k3=>⟨_,s3,chk_ev ?_⟩,fun k3=>?_⟩⟩⟩
 ·rw [e,k1,cond_true]; unfold okR; ac_rfl
 ·rw [e,k1,k2,cond_false,cond_true]; unfold okC; rw [okN_and,okN_and]; simp only [Bool.not_not]; ac_rfl
 ·rw [e,k1,k2,k3,cond_false,cond_false]; rfl
 ·exact checkV_f (by rw [e,k1,k2,k3,cond_false,cond_false]; rfl)
end Go.Proofs.YthhjcijhanacnaaGreat
