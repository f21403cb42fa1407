/- Proved here: the statement 'CollectPages' of layer 16: for every list of acts and all lists of roots it returns true, never panics, and its input reads as before; without conditions. -/
import Derived.Test.YtoldkemimhebaaaPd3
set_option linter.unusedSimpArgs false
set_option linter.unusedVariables false
namespace Go.Proofs.Ytoldkemimhebaaa
open Go Go.IM Go.ChangeShapes Go.WideShapes Go.ChangeAt Go.RowKit

set_option maxRecDepth 100000 in
theorem collectPages_lifted (os : Os) (started : os.Started) (H : Type) (enc : TypeId × Value → H) :
    ReturnsInHanded Rows.collectPagesRow.assume Try.checked os 11 .any (Rows.collectPagesSpec.pre6 enc Try.prog Try.f11 Rows.collectPagesRow.domain false) (Rows.collectPagesSpec.post enc Try.prog Try.f11 false true false false) := by
  refine lifted_true (C := Try.checked) Try.own' started (by kernel_rfl) Try.func11 Try.laidOut' Try.mixed' (by kernel_rfl) rfl (by kernel_rfl) rfl
    (ChangeSpec.witness6 (enc := enc) (C := Try.checked) false ⟨#[], #[.slice none 0 0, .slice none 0 0, .slice none 0 0], []⟩ 8 (by kernel_rfl) (by kernel_rfl) (by kernel_rfl) (by kernel_rfl)) ?_ ?_
  · intro ds hd
    match ds, hd with
    | [a, b, c], _ => rfl
  · intro W base args ds before hval hA hwt
    have hp : Try.f11.params = #[35, 54, 41] := rfl
    rw [hp] at hA hval hwt
    obtain ⟨v, v1, v2, d, d1, d2, p, p1, p2, rfl, rfl, rfl, ⟨fuel, h0⟩, ⟨fuel1, h1⟩, ⟨fuel2, h2⟩⟩ := trodAll_three hA
    obtain ⟨a, len, cap, rfl⟩ := okWide_slice (P := Try.checked.prog) (e := 50) (by kernel_rfl) (hval 0 35 _ rfl rfl)
    obtain ⟨a1, len1, cap1, rfl⟩ := okWide_slice (P := Try.checked.prog) (e := 3) (by kernel_rfl) (hval 1 54 _ rfl rfl)
    obtain ⟨a2, len2, cap2, rfl⟩ := okWide_slice (P := Try.checked.prog) (e := 47) (by kernel_rfl) (hval 2 41 _ rfl rfl)
    obtain ⟨l, hl, hll⟩ := acts_of (sized_acts (j := 0) hwt rfl rfl) h0
    obtain ⟨x, hx, hr⟩ := rep_of (P := Try.prog) (Ts := [54, 3]) (by kernel_rfl) fuel1 54 [.slice a1 len1 cap1] _ (by simp) h1
    obtain ⟨w, is, hw, hI⟩ := oldI_of hx hr
    have hw' : ofVal (.slice a1 len1 cap1) = w := by
      have : [ofVal (.slice a1 len1 cap1)] = [w] := hw
      simpa using this
    rw [← hw'] at hI
    obtain ⟨os', hO⟩ := oldW_of h2
    exact collectPages_im hl hll hI hO (oldSt W) rfl

theorem collectPages_holds : Rows.CollectPagesSaid :=
  OpenClaim.holds_of_wide 11 Try.f11 rfl rfl rfl rfl rfl rfl rfl ⟨rfl, rfl, rfl, rfl, rfl⟩ rfl rfl rfl rfl rfl (by kernel_rfl) Try.func11 (by kernel_rfl)
    (of_decide_eq_true (by kernel_rfl)) (by unfold Func.isWrapper; rw [if_neg (by decide +kernel)]; exact ⟨rfl, rfl⟩)
    (fun os started H enc _ => collectPages_lifted os started H enc)
#print axioms collectPages_holds
end Go.Proofs.Ytoldkemimhebaaa
