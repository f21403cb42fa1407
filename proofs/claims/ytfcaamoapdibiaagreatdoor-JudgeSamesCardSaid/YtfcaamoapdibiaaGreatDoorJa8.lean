/- Proved here: the statement 'JudgeSames' of layer 11: for all two annotated programs it returns true, never panics, and its input reads as before; without conditions; its listed variables tied. -/
import Derived.Test.YtfcaamoapdibiaaGreatDoorJa6
import Derived.Test.YtfcaamoapdibiaaGreatDoorJa7
import Derived.Test.YtfcaamoapdibiaaGreatDoorTie
import Derived.SevenTiedAt
set_option linter.unusedSimpArgs false
set_option linter.unusedVariables false
namespace Go.Proofs.YtfcaamoapdibiaaGreatDoor
open Go Go.IM Go.ChangeShapes Go.WideShapes Go.ChangeAt Go.RowKit
set_option maxRecDepth 100000
set_option maxHeartbeats 1000000000
theorem judgeSames_said : Rows.JudgeSamesSaid :=
  OpenClaim.holds_of_wide 3 Tryz.f3 rfl rfl rfl rfl rfl rfl rfl ⟨rfl, rfl, rfl, rfl, rfl⟩ rfl rfl rfl rfl rfl named Tryz.func3 closed_facts
    inst (by unfold Func.isWrapper; rw [if_neg (by decide +kernel)]; exact ⟨rfl, rfl⟩)
    (fun os started H enc _ => judgeSames_lifted os started H enc)

/-- The tied card. -/
theorem judgeSames_holds : Rows.JudgeSamesCardSaid :=
  Claim7.holds_tied_plain_at .later [] [.data, .data, .data, .sentinel, .sentinel, .listed, .data] true Rows.judgeSamesCard.stood.harness true
    judgeSames_said (fun _ h => by cases h) wf_text (fun _ h => by cases h) judgeSames_row_tie rfl ⟨rfl, rfl⟩ main_is rfl
    (fun f fn hf hfn => by
      obtain rfl : f = 3 := (Option.some.inj (named.symm.trans hf)).symm
      obtain rfl : fn = Tryz.f3 := (Option.some.inj (Tryz.func3.symm.trans hfn)).symm
      exact ⟨looks_in, fun j t ht => by
        rw [show Tryz.f3.params = #[34, 34] from rfl] at ht
        have hm : t ∈ [34, 34] := by simpa using Array.mem_of_getElem? ht
        have hall : ([34, 34].all fun u => !Tryz.prog.wantsStandIn u) = true := by kernel_rfl
        exact (show Tryz.prog.wantsStandIn t = false by simpa using List.all_eq_true.1 hall t hm)⟩)
    goes_by
#print axioms judgeSames_holds
end Go.Proofs.YtfcaamoapdibiaaGreatDoor
