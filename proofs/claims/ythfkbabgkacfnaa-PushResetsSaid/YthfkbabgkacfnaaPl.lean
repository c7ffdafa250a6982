/- Sums as bytes. -/
import Derived.Test.YthfkbabgkacfnaaPb
namespace Go.Proofs.Ythfkbabgkacfnaa
open Go Go.RowKit
set_option linter.unusedVariables false
set_option linter.unusedSimpArgs false

def putDF:Nat→Nat→List Int→Str→Str × Int
 | 0,_,_,s=>(s,0)
 | k + 1,i,l,s=>bif (putO (nth l (i:Int)) 4).2 != 0 then ([],1) else putDF k (i + 1) l (s++(putO (nth l (i:Int)) 4).1)
def putD (l:List Int):Str × Int:=putDF 4 0 l []
theorem putD_run (l:List Int):∀ (k i:Nat) (s:Str),i + k=4→s.length≤7 * i→∃ x,LoopR (digest_Put_b2 l) (s,(i:Int)) x∧(∀ sx,x=.inl sx→putDF k i l s=(sx.1,(0:Int)))∧∀ y,x=.inr y→putDF k i l s=y
 | 0,i,s,hi,hs=>⟨.inl (s,(i:Int)),.done ⟨fun c=>by simp at c; omega,fun _=>rfl⟩,fun _ e=>by cases e; rfl,fun _ e=>by cases e⟩
 | k + 1,i,s,hi,hs=>by
  cases hc:((putO (nth l (i:Int)) 4).2 != 0) with
  | true=>
   refine ⟨.inr ([],1),.done ⟨fun _=>⟨⟨by omega,by omega⟩,_,rfl,fun _=>rfl,fun c=>by rw [hc] at c; cases c⟩,fun c=>by simp at c; omega⟩,fun _ e=>(by cases e),fun y e=>?_⟩
   cases e; unfold putDF; rw [hc]; rfl
  | false =>
   have hl:=putO_len (nth l (i:Int)) 4
   obtain ⟨x,hx,h1,h2⟩:=putD_run l k (i + 1) (s++(putO (nth l (i:Int)) 4).1) (by omega) (by simp; omega)
   refine ⟨x,.step ⟨fun _=>⟨⟨by omega,by omega⟩,_,rfl,fun c=>(by rw [hc] at c; cases c),fun _=>⟨by show s.length + (putO (nth l (i:Int)) 4).1.length≤_; omega,?_⟩⟩,fun c=>by simp at c; omega⟩ hx,fun sx e=>?_,fun y e=>?_⟩
   ·have e:IntKind.i64.wrap ((i:Int) + (1:Int))=((i + 1:Nat):Int):=wrapS (n:=i + 1) (by omega) (by omega)
    rw [e]
   ·rw [← h1 sx e]; rw [putDF,hc]; rfl
   ·rw [← h2 y e]; rw [putDF,hc]; rfl
theorem digPut_ev (l:List Int):digest_Put_raw l (putD l):=by
 obtain ⟨x,hx,h1,h2⟩:=putD_run l 4 0 [] rfl (by simp)
 exact ⟨x,hx,h1,h2⟩
end Go.Proofs.Ythfkbabgkacfnaa
