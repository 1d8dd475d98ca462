/- What is proved here is used by the law's card: ClosedExpandURI. -/
import Derived.Test.YtlocbpaikdgmbaaGreatDoorCu5
import Derived.ChangeMaps5
import Derived.JoinedOf
section
namespace Go.Proofs.YtlocbpaikdgmbaaGreatDoor
open Go.ChangeShapes Go.WideShapes Go.ChangeAt Go.RowKit
set_option linter.unusedVariables false
set_option maxRecDepth 100000
theorem expandURI_and {a b : Bool} (h : a = true) (k : b = true) : (a && b) = true := by rw [h, k]; rfl
set_option maxHeartbeats 8000000 in
theorem expandURI_closed : joinedFacts Tryz.pinned.checked.prog 4 Tryz.f4 Rows.expandURISpec Rows.expandURIRow = true := by
 unfold joinedFacts
 repeat' with_reducible apply expandURI_and
 all_goals (as_aux_lemma => kernel_rfl)
theorem expandURI_named : Tryz.pinned.checked.prog.funcNamed Rows.expandURIRow.func = some 4 := by kernel_rfl
end Go.Proofs.YtlocbpaikdgmbaaGreatDoor
end
