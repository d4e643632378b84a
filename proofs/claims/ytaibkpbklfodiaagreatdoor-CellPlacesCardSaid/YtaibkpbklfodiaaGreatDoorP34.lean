/- The library's Insert of one element into a row of vectors of rationals. -/
import Derived.Test.YtaibkpbklfodiaaGreatDoorP33
import Derived.Test.YtaibkpbklfodiaaGreatDoorP29
import Derived.Test.YtaibkpbklfodiaaGreatDoorP21
set_option linter.all false
set_option maxHeartbeats 100000000
section
namespace Dowel
open Go Go.RowKit Go.Proofs.Υ
theorem vec12_one (r:RC × RC × RC):∀ u ∈ bO r,u.oneCell'=true:=fun u hu=>by
 have:=bU r.1 r.2.1 r.2.2;rw [Array.all_eq_true_iff_forall_mem] at this;exact this u (by unfold bO at hu;simpa using hu)
theorem Box.src12 {w:World} {g:Nat} {r:RC × RC × RC} {t:TypeId} (h:Box w g (ah r.1 r.2.1 r.2.2) t) (j:Nat) (u:Value) (hu:(bO r)[j]?=some u):w.cell? ⟨g,j,none⟩=some u:=by
 rw [h.cell,← hu];unfold bO;rw [Array.getElem?_toList]
end Dowel
namespace Go.Proofs.Υ
open Go.RowKit Dowel
end Go.Proofs.Υ
end
