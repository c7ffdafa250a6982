/- Buffers, opened. -/
import Derived.Test.YthfkbabgkacfnaaSf2
import Derived.Test.YthfkbabgkacfnaaFs
import Derived.Test.YthfkbabgkacfnaaCt4
namespace Go.Proofs.Ythfkbabgkacfnaa
open Go Go.ChangeShapes Go.WideShapes Go.ChangeAt Go.RowKit Go.Deep
set_option linter.unusedVariables false
set_option linter.unusedSimpArgs false

theorem findA_ok' {a:Arena} (h:arOk a=true) (k:Int) (key:Str):findA a k key=findL a.slots k key:=by unfold findA; rw [h]; rfl
def GNm (n:Nm):Prop:=inI n.kind∧shortL n.key
theorem opens_Nm:Opens Try.prog 50 kNm GNm:=fun H enc w base spare held fuel cs x h=>by
 have hu:=Try.underlying50
 have hl:cs.length=2:=(trod_len hu h).trans (by kernel_rfl)
 obtain ⟨c0,c1,rfl⟩:∃ c0 c1,cs=[c0,c1]:=by
  match cs,hl with
  | [c0,c1],_=>exact ⟨_,_,rfl⟩
 obtain ⟨d0,_,g0,h0⟩:=trod_field hu h (k:=kI .i64) 0 rfl (opens_int un_int) (o:=0) rfl (by kernel_rfl)
 obtain ⟨d1,_,g1,h1⟩:=trod_field hu h (k:=kS) 1 rfl (opens_str un_string) (o:=1) rfl (by kernel_rfl)
 obtain rfl:c0=.int .i64 d0:=by have:=h0.now; simpa [kI] using this
 obtain rfl:c1=str d1:=by have:=h1.now; simpa [kS] using this
 exact ⟨⟨d0,d1⟩,rfl,⟨inK_i64 g0,g1⟩,kNm_mk (d:=⟨d0,d1⟩)⟩
abbrev Gs_buffer_Name (l:List Nm):Prop:=shortL l∧∀ e∈l,GNm e
theorem opens_s_buffer_Name:Opens Try.prog 22 (kSl kNm) Gs_buffer_Name:=opens_slice un_s_buffer_Name opens_Nm (by kernel_rfl) (by decide)
def GBuf (b:Buf):Prop:=inI b.epoch∧inI b.first∧Gs_buffer_Name b.names
theorem opens_Buf:Opens Try.prog 24 kBuf GBuf:=fun H enc w base spare held fuel cs x h=>by
 have hu:=Try.underlying24
 have hl:cs.length=3:=(trod_len hu h).trans (by kernel_rfl)
 obtain ⟨c0,c1,c2,rfl⟩:∃ c0 c1 c2,cs=[c0,c1,c2]:=by
  match cs,hl with
  | [c0,c1,c2],_=>exact ⟨_,_,_,rfl⟩
 obtain ⟨d0,_,g0,h0⟩:=trod_field hu h (k:=kI .i64) 0 rfl (opens_int un_int) (o:=0) rfl (by kernel_rfl)
 obtain ⟨d1,_,g1,h1⟩:=trod_field hu h (k:=kI .i64) 1 rfl (opens_int un_int) (o:=1) rfl (by kernel_rfl)
 obtain ⟨d2,_,g2,h2⟩:=trod_field hu h (k:=kSl kNm) 2 rfl opens_s_buffer_Name (o:=2) rfl (by kernel_rfl)
 obtain rfl:c0=.int .i64 d0:=by have:=h0.now; simpa [kI] using this
 obtain rfl:c1=.int .i64 d1:=by have:=h1.now; simpa [kI] using this
 obtain ⟨A2,q2,rfl,s2⟩:=Stb.sl (v:=c2) (k:=kNm) (d:=d2) (by simpa [kSl] using h2)
 exact ⟨⟨d0,d1,d2⟩,rfl,⟨inK_i64 g0,inK_i64 g1,g2⟩,kBuf_mk (d:=⟨d0,d1,d2⟩) s2⟩
end Go.Proofs.Ythfkbabgkacfnaa
