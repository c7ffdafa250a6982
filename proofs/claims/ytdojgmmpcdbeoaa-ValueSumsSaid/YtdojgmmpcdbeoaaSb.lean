/- value: Check, and Join, of the program and of its reference, in plain Lean. -/
import Derived.Test.YtdojgmmpcdbeoaaSa
namespace Go.Proofs.Ytdojgmmpcdbeoaa
open Go Go.RowKit
set_option linter.unusedVariables false
set_option linter.unusedSimpArgs false

theorem dec_cast {n m:Nat}:decide ((n:Int)≤(m:Int))=decide (n≤m):=by rw [Bool.eq_iff_iff]; simp
theorem dec_lt8 {n:Int}:decide (n<8)=decide (n≤7):=by rw [Bool.eq_iff_iff]; simp; omega
theorem chk_ev {d:Val} {b:Bool} (e:b=okV d):(b=true→checkV d=0)∧(b=false→checkV d=2):=by
 subst e; unfold checkV
 exact ⟨fun h=>by rw [h]; rfl,fun h=>by rw [h]; rfl⟩
theorem checkV_f {d:Val} (h:okV d=false):checkV d=2:=by unfold checkV; rw [h]; rfl
theorem okN_and (l:List Int):okN l=(((l.length:Int)==8)&&l.all (fun n=>decide (0≤n)&&decide (n≤65535))):=by
 unfold okN; rw [Bool.and_comm]; congr 1; rw [Bool.eq_iff_iff]; simp; omega
theorem sameV_reg (d:Val):sameV d ⟨d.kind,d.time,d.node,d.dead,d.text,[],[],0⟩=(d.flags==0&&(d.plus==[]&&d.minus==[])):=by simp [sameV]
theorem sameV_cnt (d:Val):sameV d ⟨d.kind,0,0,false,[],d.plus,d.minus,0⟩=(noReg d&&d.flags==0):=by simp [sameV,noReg,Bool.and_assoc]
theorem sameV_flg (d:Val):sameV d ⟨d.kind,0,0,false,[],[],[],d.flags⟩=(noReg d&&(d.plus==[]&&d.minus==[])):=by simp [sameV,noReg,Bool.and_assoc]
theorem valCheck_ev (d:Val) (h:sm d):value_Check_raw d (checkV d):=by
 have hl:decide ((d.text.length:Int)≤8)=decide (d.text.length≤8):=dec_cast (m:=8)
 have s1:=valSame_ev d ⟨d.kind,d.time,d.node,d.dead,d.text,[],[],0⟩ h
 have s2:=valSame_ev d ⟨d.kind,0,0,false,[],d.plus,d.minus,0⟩ h
 have s3:=valSame_ev d ⟨d.kind,0,0,false,[],[],[],d.flags⟩ h
 rw [sameV_reg] at s1
 rw [sameV_cnt] at s2
 rw [sameV_flg] at s3
 unfold value_Check_raw
 rw [hl,dec_lt8]
 have e:okV d=bif d.kind==1 then okR d else bif d.kind==2 then okC d else d.kind==3&&okF d:=rfl
 refine ⟨fun k1=>⟨_,s1,chk_ev ?_⟩,fun k1=>⟨fun k2=>⟨_,s2,_,fun _=>contains_ev _ h.1,_,fun _=>contains_ev _ h.2,chk_ev ?_⟩,fun k2=>⟨fun k3=>⟨_,s3,chk_ev ?_⟩,fun k3=>?_⟩⟩⟩
 ·rw [e,k1,cond_true]; unfold okR; ac_rfl
 ·rw [e,k1,k2,cond_false,cond_true]; unfold okC; rw [okN_and,okN_and]; simp only [Bool.not_not]; ac_rfl
 ·rw [e,k1,k2,k3,cond_false,cond_false]; rfl
 ·exact checkV_f (by rw [e,k1,k2,k3,cond_false,cond_false]; rfl)
end Go.Proofs.Ytdojgmmpcdbeoaa
