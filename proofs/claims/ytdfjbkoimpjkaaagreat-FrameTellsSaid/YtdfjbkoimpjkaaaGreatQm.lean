/- The reference: are these entries of a frame? -/
import Derived.Test.YtdfjbkoimpjkaaaGreatQc
namespace Go.Proofs.YtdfjbkoimpjkaaaGreat
open Go Go.RowKit
set_option linter.unusedVariables false
set_option linter.unusedSimpArgs false

def entsF (l:List Ent):Bool:=decide ((l.length:Int)≤8)&&l.all okE
theorem refEnts_ev (d:List Ent) (h:sml d) (hd:d.length≤1000000):ref14_entries_raw d (entsF d):=by
 obtain ⟨x,hx,h2⟩:=loop_scan (body:=ref14_entries_b1 d) d.length (fun i=>okE (d.getD i default)) (fun _=>false)
  (fun i hi hp=>⟨fun _=>⟨⟨by omega,by omega⟩,h.2 _ (by rw [nth_nat]; exact getD_mem hi),fun e=>(by rw [nth_nat,hp] at e; cases e),fun e=>by rw [wrapS hi (by omega)]⟩,fun h=>by simp at h; omega⟩)
  (fun i hi hp=>⟨fun _=>⟨⟨by omega,by omega⟩,h.2 _ (by rw [nth_nat]; exact getD_mem hi),fun e=>rfl,fun e=>(by rw [nth_nat,hp] at e; cases e)⟩,fun h=>by simp at h; omega⟩)
  ⟨fun h=>by simp at h,fun _=>rfl⟩
 refine ⟨x,hx,fun s e=>?_,fun y e=>?_⟩
 ·rcases h2 with ⟨h3,h4⟩ | ⟨i,hi,h4,_,h6⟩
  ·have:d.all okE=true:=by
    rw [List.all_eq_true]; intro e he
    obtain ⟨i,hi,rfl⟩:=List.getElem_of_mem he
    have:=h4 i hi; simpa [hi] using this
   unfold entsF; rw [this]; simp
  ·rw [e] at h6; cases h6
 ·rcases h2 with ⟨h3,h4⟩ | ⟨i,hi,h4,_,h6⟩
  ·rw [e] at h3; cases h3
  ·rw [e] at h6; cases h6
   have:d.all okE=false:=by rw [List.all_eq_false]; exact ⟨_,getD_mem hi,by simpa using h4⟩
   unfold entsF; rw [this]; simp
end Go.Proofs.YtdfjbkoimpjkaaaGreat
