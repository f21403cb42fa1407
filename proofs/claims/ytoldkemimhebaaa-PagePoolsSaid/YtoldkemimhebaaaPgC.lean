/- Proved here: the statement 'PagePools' of layer 15: for every number of pages it returns true, never panics, and its input reads as before; without conditions. -/
import Derived.Test.YtoldkemimhebaaaPgB
set_option linter.unusedSimpArgs false
set_option linter.unusedVariables false
namespace Go.Proofs.Ytoldkemimhebaaa
open Go Go.IM Go.ChangeShapes Go.WideShapes Go.ChangeAt Go.RowKit

theorem Try.own : ownKnob Try.prog.godebug = none := by kernel_rfl
theorem Try.laidOut : laidOutB Try.prog = true := by kernel_rfl
theorem Try.mixed : Try.prog.follows .mixedOrders = true := by kernel_rfl

set_option maxRecDepth 100000 in
theorem pagePools_lifted (os : Os) (started : os.Started) (H : Type) (enc : TypeId × Value → H) :
    ReturnsInHanded Rows.pagePoolsRow.assume Try.checked os 3 .any (Rows.pagePoolsSpec.pre6 enc Try.prog Try.f3 Rows.pagePoolsRow.domain false) (Rows.pagePoolsSpec.post enc Try.prog Try.f3 false true false false) := by
  refine lifted_true (C := Try.checked) Try.own started (by kernel_rfl) Try.func3 Try.laidOut Try.mixed (by kernel_rfl) rfl (by kernel_rfl) rfl
    (ChangeSpec.witness6 (enc := enc) (C := Try.checked) false ⟨#[], #[.int .i64 0], []⟩ 8 (by kernel_rfl) (by kernel_rfl) (by kernel_rfl) (by kernel_rfl)) ?_ ?_
  · intro ds hd
    match ds, hd with
    | [d], _ => rfl
  · intro W base args ds before hval hA _
    obtain ⟨T, hp, hT⟩ : ∃ T, Try.f3.params = #[T] ∧ Try.prog.underlying T = some (.int .i64) := ⟨_, rfl, by kernel_rfl⟩
    rw [hp] at hA hval
    obtain ⟨v, d, rfl, rfl, h0⟩ := trodAll_one hA
    obtain ⟨n, rfl, -, -, -⟩ := open_int (P := Try.checked.prog) hT (hval 0 T v rfl rfl) h0
    exact pagePools_im n (oldSt W)

theorem pagePools_holds : Rows.PagePoolsSaid :=
  OpenClaim.holds_of_wide 3 Try.f3 rfl rfl rfl rfl rfl rfl rfl ⟨rfl, rfl, rfl, rfl, rfl⟩ rfl rfl rfl rfl rfl (by kernel_rfl) Try.func3 (by kernel_rfl)
    (of_decide_eq_true (by kernel_rfl)) (by unfold Func.isWrapper; rw [if_neg (by decide +kernel)]; exact ⟨rfl, rfl⟩)
    (fun os started H enc _ => pagePools_lifted os started H enc)
#print axioms pagePools_holds
end Go.Proofs.Ytoldkemimhebaaa
