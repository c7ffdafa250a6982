/- Frames in plain Lean: what each function comes to. -/
import Derived.Test.YtdfjbkoimpjkaaaGreatPc
namespace Go.Proofs.YtdfjbkoimpjkaaaGreat
open Go Go.RowKit
set_option linter.unusedVariables false
set_option linter.unusedSimpArgs false

def formsL:List (Int × Fm):=[((1:Int),(⟨(0:Int),(2147483647:Int),(2147483647:Int),false,true⟩:Fm)),((2:Int),(⟨(0:Int),(2147483647:Int),(2147483647:Int),false,false⟩:Fm)),((3:Int),(⟨(0:Int),(0:Int),(0:Int),true,false⟩:Fm)),((4:Int),(⟨(1:Int),(15:Int),(0:Int),false,true⟩:Fm)),((5:Int),(⟨(0:Int),(0:Int),(0:Int),false,true⟩:Fm)),((6:Int),(⟨(0:Int),(2147483647:Int),(0:Int),false,true⟩:Fm)),((7:Int),(⟨(0:Int),(2147483647:Int),(0:Int),false,false⟩:Fm))]
def formF (k:Int):Fm:=getM (⟨(0:Int),(0:Int),(0:Int),false,false⟩:Fm) formsL k
def noSums (l:List Int):Bool:=(((nth l 0)==0)&&(((nth l 1)==0)&&(((nth l 2)==0)&&(((nth l 3)==0)&&true))))
def headF (f:Frm):Bool:=((((((((hasM formsL f.kind)&&((putD f.sums).2==(0:Int)))&&(decide ((formF f.kind).la≤f.a)))&&(decide (f.a≤(formF f.kind).ma)))&&(decide (0≤f.b)))&&(decide (f.b≤(formF f.kind).mb)))&&((formF f.kind).sums||noSums f.sums))&&((formF f.kind).ents||((f.entries.length:Int)==0)))
def oddF (f:Frm):Bool:=((!(headF f))||(decide (8<(f.entries.length:Int))))||oddE f.entries
def checkF (f:Frm):Int:=bif oddF f then 2 else 0
def sameF (a b:Frm):Bool:=(((((a.kind==b.kind)&&(a.a==b.a))&&(a.b==b.b))&&(((nth a.sums 0)==(nth b.sums 0))&&(((nth a.sums 1)==(nth b.sums 1))&&(((nth a.sums 2)==(nth b.sums 2))&&(((nth a.sums 3)==(nth b.sums 3))&&true)))))&&(allE a.entries b.entries))

theorem oddFr_ev (d:List Ent) (h:sml d) (hd:d.length≤1000000):conf_frame_raw d (oddE d):=by
 obtain ⟨x,hx,h2⟩:=loop_scan (body:=idxf_frame_b1 d) d.length (fun i=>okE (d.getD i default)) (fun i=>(i:Int))
  (fun i hi hp=>⟨fun _=>⟨⟨by omega,by omega⟩,_,⟨h.2 _ (by rw [nth_nat]; exact getD_mem hi),rfl⟩,fun e=>(by rw [nth_nat,checkE_odd,hp] at e; cases e),fun e=>by rw [wrapS hi (by omega)]⟩,fun h=>by simp at h; omega⟩)
  (fun i hi hp=>⟨fun _=>⟨⟨by omega,by omega⟩,_,⟨h.2 _ (by rw [nth_nat]; exact getD_mem hi),rfl⟩,fun e=>rfl,fun e=>(by rw [nth_nat,checkE_odd,hp] at e; cases e)⟩,fun h=>by simp at h; omega⟩)
  ⟨fun h=>by simp at h,fun _=>rfl⟩
 rcases h2 with ⟨h3,h4⟩ | ⟨i,hi,h4,_,h6⟩
 ·refine ⟨(-1:Int),⟨x,hx,fun _ _=>rfl,fun y e=>?_⟩,?_⟩
  ·rw [e] at h3; cases h3
  ·have:d.all okE=true:=by
    rw [List.all_eq_true]; intro e he
    obtain ⟨i,hi,rfl⟩:=List.getElem_of_mem he
    have:=h4 i hi; simpa [hi] using this
   unfold oddE; rw [this]; rfl
 ·refine ⟨(i:Int),⟨x,hx,fun s e=>?_,fun y e=>?_⟩,?_⟩
  ·rw [e] at h6; cases h6
  ·rw [e] at h6; cases h6; rfl
  ·have:d.all okE=false:=by rw [List.all_eq_false]; exact ⟨_,getD_mem hi,by simpa using h4⟩
   unfold oddE; rw [this]; simp
theorem frCheck_ev (f:Frm) (h:sml f.entries) (hl:f.entries.length≤1000000):frame_Check_raw f (checkF f):=by
 refine ⟨formsL,rfl,_,rfl,oddE f.entries,fun _=>oddFr_ev _ h hl,fun hc=>?_,fun hc=>?_⟩
 ·have h1:oddF f=true:=hc
  unfold checkF; rw [h1]; rfl
 ·have h1:oddF f=false:=hc
  unfold checkF; rw [h1]; rfl
theorem frSame_ev (a b:Frm) (h:sml a.entries):frame_Same_raw a b (sameF a b):=⟨fun _=>h,rfl⟩
end Go.Proofs.YtdfjbkoimpjkaaaGreat
