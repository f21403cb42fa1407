/- Proved here: the statement 'PageApart' of layer 15: for every list of acts it returns true, never panics, and its input reads as before; without conditions. -/
import Derived.Test.YtoldkemimhebaaaPg6
set_option linter.unusedSimpArgs false
set_option linter.unusedVariables false
namespace Go.Proofs.Ytoldkemimhebaaa
open Go Go.IM Go.ChangeShapes Go.WideShapes Go.ChangeAt Go.RowKit

set_option maxRecDepth 100000 in
theorem pageApart_lifted (os : Os) (started : os.Started) (H : Type) (enc : TypeId × Value → H) :
    ReturnsInHanded Rows.pageApartRow.assume Try.checked os 4 .any (Rows.pageApartSpec.pre6 enc Try.prog Try.f4 Rows.pageApartRow.domain false) (Rows.pageApartSpec.post enc Try.prog Try.f4 false true false false) := by
  refine lifted_true (C := Try.checked) Try.own' started (by kernel_rfl) Try.func4 Try.laidOut' Try.mixed' (by kernel_rfl) rfl (by kernel_rfl) rfl
    (ChangeSpec.witness6 (enc := enc) (C := Try.checked) false ⟨#[], #[.slice none 0 0], []⟩ 8 (by kernel_rfl) (by kernel_rfl) (by kernel_rfl) (by kernel_rfl)) ?_ ?_
  · intro ds hd
    match ds, hd with
    | [d], _ => rfl
  · intro W base args ds before hval hA hwt
    have hp : Try.f4.params = #[35] := rfl
    rw [hp] at hA hval hwt
    obtain ⟨v, d, rfl, rfl, ⟨fuel, h0⟩⟩ := trodAll_one hA
    obtain ⟨a, len, cap, rfl⟩ := okWide_slice (P := Try.checked.prog) (e := 50) (by kernel_rfl) (hval 0 35 _ rfl rfl)
    obtain ⟨l, hl, hll⟩ := acts_of (sized_acts (j := 0) hwt rfl rfl) h0
    exact pageApart_im hl hll (oldSt W) rfl

theorem pageApart_holds : Rows.PageApartSaid :=
  OpenClaim.holds_of_wide 4 Try.f4 rfl rfl rfl rfl rfl rfl rfl ⟨rfl, rfl, rfl, rfl, rfl⟩ rfl rfl rfl rfl rfl (by kernel_rfl) Try.func4 (by kernel_rfl)
    (of_decide_eq_true (by kernel_rfl)) (by unfold Func.isWrapper; rw [if_neg (by decide +kernel)]; exact ⟨rfl, rfl⟩)
    (fun os started H enc _ => pageApart_lifted os started H enc)
#print axioms pageApart_holds
end Go.Proofs.Ytoldkemimhebaaa
