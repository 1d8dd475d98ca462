/- What is proved here is used by the law's card: ClosedExpandLimit. -/
import Derived.Test.YtlocbpaikdgmbaaGreatDoorCl6
import Derived.ChangeMaps5
import Derived.JoinedOf
section
namespace Go.Proofs.YtlocbpaikdgmbaaGreatDoor
open Go.ChangeShapes Go.WideShapes Go.ChangeAt Go.RowKit
set_option linter.unusedVariables false
set_option maxRecDepth 100000
theorem expandLimit_and {a b : Bool} (h : a = true) (k : b = true) : (a && b) = true := by rw [h, k]; rfl
set_option maxHeartbeats 8000000 in
theorem expandLimit_closed : joinedFacts Tryz.pinned.checked.prog 7 Tryz.f7 Rows.expandLimitSpec Rows.expandLimitRow = true := by
 unfold joinedFacts
 repeat' with_reducible apply expandLimit_and
 all_goals (as_aux_lemma => kernel_rfl)
theorem expandLimit_named : Tryz.pinned.checked.prog.funcNamed Rows.expandLimitRow.func = some 7 := by kernel_rfl
end Go.Proofs.YtlocbpaikdgmbaaGreatDoor
end
