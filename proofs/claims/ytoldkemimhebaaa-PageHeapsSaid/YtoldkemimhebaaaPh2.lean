/- Proved here: the statement 'PageHeaps' of layer 15: for every number of pages and every list of acts it returns true, never panics, and its input reads as before; without conditions. -/
import Derived.Test.YtoldkemimhebaaaPh1
set_option linter.unusedSimpArgs false
set_option linter.unusedVariables false
namespace Go.Proofs.Ytoldkemimhebaaa
open Go Go.IM Go.ChangeShapes Go.WideShapes Go.ChangeAt Go.RowKit

set_option maxRecDepth 100000 in
theorem pageHeaps_lifted (os : Os) (started : os.Started) (H : Type) (enc : TypeId × Value → H) :
    ReturnsInHanded Rows.pageHeapsRow.assume Try.checked os 8 .any (Rows.pageHeapsSpec.pre6 enc Try.prog Try.f8 Rows.pageHeapsRow.domain false) (Rows.pageHeapsSpec.post enc Try.prog Try.f8 false true false false) := by
  refine lifted_true (C := Try.checked) Try.own' started (by kernel_rfl) Try.func8 Try.laidOut' Try.mixed' (by kernel_rfl) rfl (by kernel_rfl) rfl
    (ChangeSpec.witness6 (enc := enc) (C := Try.checked) false ⟨#[], #[.int .u8 0, .slice none 0 0], []⟩ 8 (by kernel_rfl) (by kernel_rfl) (by kernel_rfl) (by kernel_rfl)) ?_ ?_
  · intro ds hd
    match ds, hd with
    | [d, d'], _ => rfl
  · intro W base args ds before hval hA hwt
    obtain ⟨T, hp, hT⟩ : ∃ T, Try.f8.params = #[T, 35] ∧ Try.prog.underlying T = some (.int .u8) := ⟨_, rfl, by kernel_rfl⟩
    rw [hp] at hA hval hwt
    obtain ⟨v, v', d, d', p, p', rfl, rfl, rfl, h1, ⟨fuel, h0⟩⟩ := trodAll_two hA
    obtain ⟨n, rfl, -, -, hn⟩ := open_int (P := Try.checked.prog) hT (hval 0 T v rfl rfl) h1
    obtain ⟨a, len, cap, rfl⟩ := okWide_slice (P := Try.checked.prog) (e := 50) (by kernel_rfl) (hval 1 35 _ rfl rfl)
    obtain ⟨l, hl, hll⟩ := acts_of (sized_acts (j := 1) hwt rfl rfl) h0
    have hn' := u8_range hn
    exact pageHeaps_im hl hll hn'.1 hn'.2 (oldSt W) rfl

theorem pageHeaps_holds : Rows.PageHeapsSaid :=
  OpenClaim.holds_of_wide 8 Try.f8 rfl rfl rfl rfl rfl rfl rfl ⟨rfl, rfl, rfl, rfl, rfl⟩ rfl rfl rfl rfl rfl (by kernel_rfl) Try.func8 (by kernel_rfl)
    (of_decide_eq_true (by kernel_rfl)) (by unfold Func.isWrapper; rw [if_neg (by decide +kernel)]; exact ⟨rfl, rfl⟩)
    (fun os started H enc _ => pageHeaps_lifted os started H enc)
#print axioms pageHeaps_holds
end Go.Proofs.Ytoldkemimhebaaa
