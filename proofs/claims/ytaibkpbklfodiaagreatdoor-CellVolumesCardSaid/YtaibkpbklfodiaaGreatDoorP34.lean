/- Package cell: Locate and Touched. Printed by gen/locate.py. -/
import Derived.Test.YtaibkpbklfodiaaGreatDoorP19
import Derived.Test.YtaibkpbklfodiaaGreatDoorP21
import Derived.Test.YtaibkpbklfodiaaGreatDoorP24
import Derived.Test.YtaibkpbklfodiaaGreatDoorP29
set_option linter.all false
set_option maxHeartbeats 100000000
section
namespace Dowel
open Go Go.RowKit
def LocI (fs:List (Q3 × Rat)) (p:Q3) (i:Nat) (z:Int):Prop:=(∀ j f,j<i→fs[j]?=some f→¬ f.2<dw f.1 p)∧((z=0∧∃ j f,j<i∧fs[j]?=some f∧dw f.1 p=f.2)∨(z=1∧∀ j f,j<i→fs[j]?=some f→dw f.1 p≠f.2))
variable {fs : List (Q3 × Rat)} {p : Q3} {i : Nat} {z : Int} {f : Q3 × Rat}
theorem LocI.on (h:LocI fs p i z) (hf:fs[i]?=some f) (h1:¬ f.2<dw f.1 p) (h2:dw f.1 p=f.2):LocI fs p (i+1) 0:=
 ⟨fun j g hj hg=>by
  by_cases e:j=i
  ·subst e;rw [hf] at hg;cases hg;exact h1
  ·exact h.1 j g ω hg,.inl ⟨rfl,i,f,by omega,hf,h2⟩⟩
theorem LocI.off (h:LocI fs p i z) (hf:fs[i]?=some f) (h1:¬ f.2<dw f.1 p) (h2:¬ dw f.1 p=f.2):LocI fs p (i+1) z:=
 ⟨fun j g hj hg=>by
  by_cases e:j=i
  ·subst e;rw [hf] at hg;cases hg;exact h1
  ·exact h.1 j g ω hg,by
  rcases h.2 with ⟨e,j,g,h3,h4,h5⟩ | ⟨e,h3⟩
  ·exact .inl ⟨e,j,g,by omega,h4,h5⟩
  ·exact .inr ⟨e,fun j g hj hg=>by
    by_cases e:j=i
    ·subst e;rw [hf] at hg;cases hg;exact h2
    ·exact h3 j g ω hg⟩⟩
end Dowel
namespace Go.Proofs.Υ
open Go.RowKit Dowel
end Go.Proofs.Υ
end
