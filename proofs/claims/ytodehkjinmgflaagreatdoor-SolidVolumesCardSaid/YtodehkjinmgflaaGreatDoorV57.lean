/- SolidVolumes: the row's facts about the program's text. -/
import Derived.Test.YtodehkjinmgflaaGreatDoorVA
import Derived.Test.YtodehkjinmgflaaGreatDoorRows
import Derived.ProofKit
import Derived.Stop.Joined
set_option linter.all false
set_option maxHeartbeats 100000000
section
namespace Go.Proofs.YtodehkjinmgflaaGreatDoor
open Go Go.ChangeShapes Go.WideShapes Go.ChangeAt Go.WideElems Go.RowKit
theorem and_t {a b:Bool} (h:a=true) (k:b=true):(a && b)=true:=by rw [h,k];rfl
set_option maxRecDepth 100000 in
theorem kU:joinedFacts Tryz.prog 5 Tryz.f5 Rows.solidVolumesSpec Rows.solidVolumesRow=true:=by
 unfold joinedFacts
 repeat' (with_reducible refine and_t ?_ ?_)
 all_goals (as_aux_lemma=>kernel_rfl)
end Go.Proofs.YtodehkjinmgflaaGreatDoor
end
