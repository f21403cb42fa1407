/- Proved here: the statement 'PageNils' of layer 15: for every list of acts and either flag it returns true, never panics, and its input reads as before; without conditions. -/
import Derived.Test.YtoldkemimhebaaaPgI
set_option linter.unusedSimpArgs false
set_option linter.unusedVariables false
namespace Go.Proofs.Ytoldkemimhebaaa
open Go Go.IM Go.ChangeShapes Go.WideShapes Go.ChangeAt Go.RowKit

set_option maxRecDepth 100000 in
theorem pageNils_lifted (os : Os) (started : os.Started) (H : Type) (enc : TypeId × Value → H) :
    ReturnsInHanded Rows.pageNilsRow.assume Try.checked os 6 .any (Rows.pageNilsSpec.pre6 enc Try.prog Try.f6 Rows.pageNilsRow.domain false) (Rows.pageNilsSpec.post enc Try.prog Try.f6 false true false false) := by
  refine lifted_true (C := Try.checked) Try.own' started (by kernel_rfl) Try.func6 Try.laidOut' Try.mixed' (by kernel_rfl) rfl (by kernel_rfl) rfl
    (ChangeSpec.witness6 (enc := enc) (C := Try.checked) false ⟨#[], #[.slice none 0 0, .bool false], []⟩ 8 (by kernel_rfl) (by kernel_rfl) (by kernel_rfl) (by kernel_rfl)) ?_ ?_
  · intro ds hd
    match ds, hd with
    | [d, d'], _ => rfl
  · intro W base args ds before hval hA hwt
    have hp : Try.f6.params = #[35, 4] := rfl
    rw [hp] at hA hval hwt
    obtain ⟨v, v', d, d', p, p', rfl, rfl, rfl, ⟨fuel, h0⟩, h1⟩ := trodAll_two hA
    obtain ⟨a, len, cap, rfl⟩ := okWide_slice (P := Try.checked.prog) (e := 50) (by kernel_rfl) (hval 0 35 _ rfl rfl)
    obtain ⟨b, rfl⟩ := okWide_bool (P := Try.checked.prog) (by kernel_rfl) (hval 1 4 v' rfl rfl)
    obtain ⟨l, hl, hll⟩ := acts_of (sized_acts (j := 0) hwt rfl rfl) h0
    exact pageNils_im hl hll b (oldSt W) rfl

theorem pageNils_holds : Rows.PageNilsSaid :=
  OpenClaim.holds_of_wide 6 Try.f6 rfl rfl rfl rfl rfl rfl rfl ⟨rfl, rfl, rfl, rfl, rfl⟩ rfl rfl rfl rfl rfl (by kernel_rfl) Try.func6 (by kernel_rfl)
    (of_decide_eq_true (by kernel_rfl)) (by unfold Func.isWrapper; rw [if_neg (by decide +kernel)]; exact ⟨rfl, rfl⟩)
    (fun os started H enc _ => pageNils_lifted os started H enc)
#print axioms pageNils_holds
end Go.Proofs.Ytoldkemimhebaaa
