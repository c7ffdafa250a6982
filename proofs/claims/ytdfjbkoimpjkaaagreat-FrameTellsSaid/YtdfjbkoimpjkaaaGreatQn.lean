/- The reference: is it a frame? -/
import Derived.Test.YtdfjbkoimpjkaaaGreatQd
namespace Go.Proofs.YtdfjbkoimpjkaaaGreat
open Go Go.RowKit
set_option linter.unusedVariables false
set_option linter.unusedSimpArgs false

def okFr (f:Frm):Bool:=checkF f==0
def ofF (f:Frm):Frm:=f
theorem okFr_odd (f:Frm):okFr f=!oddF f:=by unfold okFr checkF; cases oddF f <;> rfl
theorem ofF_ev (f:Frm):law14_Of_raw f (ofF f):=rfl
theorem refSameF_ev (a b:Frm) (h:sml a.entries):ref14_Same_raw a b (sameF a b):=⟨fun _=>h,rfl⟩
def badA (f:Frm):Bool:=(((((((decide (f.kind<1))||(decide (7<f.kind)))||(decide (f.a<0)))||(decide (2147483647<f.a)))||(decide (f.b<0)))||(decide (2147483647<f.b)))||((putD f.sums).2 != (0:Int)))
def badB (f:Frm):Bool:=(((f.kind==4)&&((decide (f.a<1))||(decide (15<f.a))))||(((f.kind != (4:Int))&&(!((((f.kind==1)||(f.kind==2))||(f.kind==6))||(f.kind==7))))&&(f.a != (0:Int))))
def goodC (f:Frm):Bool:=(((((f.kind==1)||(f.kind==2))||(f.b==0))&&((f.kind==3)||noSums f.sums))&&(((((f.kind==1)||(f.kind==4))||(f.kind==5))||(f.kind==6))||((f.entries.length:Int)==0)))
theorem okFr_eq (f:Frm):okFr f=((!(badA f||!entsF f.entries))&&((!badB f)&&goodC f)):=by
 obtain ⟨k,a,b,s,l⟩:=f
 rw [okFr_odd]
 unfold oddF headF badA badB goodC entsF oddE
 simp only []
 generalize hP:(putD s).2=P
 generalize noSums s=S
 generalize l.all okE=O
 generalize hL:(l.length:Int)=n
 by_cases hk:1≤k∧k≤7
 ·have h7:k=1∨k=2∨k=3∨k=4∨k=5∨k=6∨k=7:=by omega
  rcases h7 with rfl | rfl | rfl | rfl | rfl | rfl | rfl <;>
  ·simp only [show hasM formsL 1=true from rfl,show hasM formsL 2=true from rfl,show hasM formsL 3=true from rfl,show hasM formsL 4=true from rfl,show hasM formsL 5=true from rfl,show hasM formsL 6=true from rfl,show hasM formsL 7=true from rfl,
    show formF 1=⟨0,2147483647,2147483647,false,true⟩ from rfl,show formF 2=⟨0,2147483647,2147483647,false,false⟩ from rfl,show formF 3=⟨0,0,0,true,false⟩ from rfl,show formF 4=⟨1,15,0,false,true⟩ from rfl,show formF 5=⟨0,0,0,false,true⟩ from rfl,show formF 6=⟨0,2147483647,0,false,true⟩ from rfl,show formF 7=⟨0,2147483647,0,false,false⟩ from rfl]
   rw [Bool.eq_iff_iff]
   cases S <;> cases O <;> simp <;> omega
 ·have hb:(decide (k<1)||decide (7<k))=true:=by simp; omega
  have hh:hasM formsL k=false:=by
   unfold formsL
   simp only [hasM,Bool.or_eq_false_iff,beq_eq_false_iff_ne,and_true]
   omega
  rw [hh,hb]; simp
theorem refCheckF_ev (f:Frm) (h:sml f.entries) (hl:f.entries.length≤1000000) (hm:maxS f.sums):ref14_Check_raw f (okFr f):=by
 refine ⟨hm,_,rfl,fun _=>h,fun _=>hl,fun hc=>?_,fun hc=>⟨fun hd=>?_,fun hd=>?_⟩⟩
 ·have h1:(badA f||!entsF f.entries)=true:=hc
  rw [okFr_eq,h1]; rfl
 ·have h1:(badA f||!entsF f.entries)=false:=hc
  have h2:badB f=true:=hd
  rw [okFr_eq,h1,h2]; rfl
 ·have h1:(badA f||!entsF f.entries)=false:=hc
  have h2:badB f=false:=hd
  rw [okFr_eq,h1,h2]; rfl
end Go.Proofs.YtdfjbkoimpjkaaaGreat
