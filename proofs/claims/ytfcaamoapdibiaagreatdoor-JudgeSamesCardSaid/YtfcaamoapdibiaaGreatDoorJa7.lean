/- JudgeSames: the closed facts of its row and card. -/
import Derived.Test.YtfcaamoapdibiaaGreatDoorCards
import Derived.ProofKit
import Derived.SevenTiedAt
set_option linter.unusedSimpArgs false
set_option linter.unusedVariables false
namespace Go.Proofs.YtfcaamoapdibiaaGreatDoor
open Go Go.ChangeShapes Go.WideShapes Go.ChangeAt Go.RowKit
set_option maxRecDepth 100000
set_option maxHeartbeats 1000000000
theorem named : Tryz.checked.prog.funcNamed Rows.judgeSamesRow.func = some 3 := by kernel_rfl
theorem closed_facts : joinedFacts Tryz.checked.prog 3 Tryz.f3 Rows.judgeSamesSpec Rows.judgeSamesRow = true := by
  unfold joinedFacts
  simp only [Bool.and_eq_true]
  repeat' refine And.intro ?_ ?_
  all_goals decide +kernel
theorem wf_text : Rows.judgeSamesRow.wfByText (OpenSpec.ofChange Rows.judgeSamesSpec) = true := by kernel_rfl
theorem main_is : Tryz.checked.prog.mainIs = some (Rows.judgeSamesCard.stood.harness.1, Rows.judgeSamesCard.stood.harness.2.toList) := by kernel_rfl
theorem goes_by : false = Rows.judgeSamesRow.goesBy Tryz.checked.prog := by kernel_rfl
theorem looks_in : true = Tryz.checked.prog.looks [] := by kernel_rfl
theorem inst : Tryz.f3.isInstance Tryz.checked.prog Rows.judgeSamesRow.origin Rows.judgeSamesRow.targs := of_decide_eq_true (by kernel_rfl)
end Go.Proofs.YtfcaamoapdibiaaGreatDoor
