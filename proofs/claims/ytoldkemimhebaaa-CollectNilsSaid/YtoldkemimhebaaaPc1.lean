/- Proved here: the statement 'CollectNils' of layer 16: for every list of words it returns true, never panics, and its input reads as before; without conditions. -/
import Derived.Test.YtoldkemimhebaaaPc0
set_option linter.unusedSimpArgs false
set_option linter.unusedVariables false
namespace Go.Proofs.Ytoldkemimhebaaa
open Go Go.IM Go.ChangeShapes Go.WideShapes Go.ChangeAt Go.RowKit

theorem Try.own16 : ownKnob Try.prog.godebug = none := by kernel_rfl
theorem Try.laidOut16 : laidOutB Try.prog = true := by kernel_rfl
theorem Try.mixed16 : Try.prog.follows .mixedOrders = true := by kernel_rfl

set_option maxRecDepth 100000 in
theorem collectNils_lifted (os : Os) (started : os.Started) (H : Type) (enc : TypeId × Value → H) :
    ReturnsInHanded Rows.collectNilsRow.assume Try.checked os 15 .any (Rows.collectNilsSpec.pre6 enc Try.prog Try.f15 Rows.collectNilsRow.domain false) (Rows.collectNilsSpec.post enc Try.prog Try.f15 false true false false) := by
  refine lifted_true (C := Try.checked) Try.own16 started (by kernel_rfl) Try.func15 Try.laidOut16 Try.mixed16 (by kernel_rfl) rfl (by kernel_rfl) rfl
    (ChangeSpec.witness6 (enc := enc) (C := Try.checked) false ⟨#[], #[.slice none 0 0], []⟩ 8 (by kernel_rfl) (by kernel_rfl) (by kernel_rfl) (by kernel_rfl)) ?_ ?_
  · intro ds hd
    match ds, hd with
    | [d], _ => rfl
  · intro W base args ds before hval hA hwt
    have hp : Try.f15.params = #[41] := rfl
    rw [hp] at hA hval
    obtain ⟨v, d, rfl, rfl, ⟨fuel, h0⟩⟩ := trodAll_one hA
    obtain ⟨a, len, cap, rfl⟩ := okWide_slice (P := Try.checked.prog) (e := 47) (by kernel_rfl) (hval 0 41 _ rfl rfl)
    obtain ⟨x, hx, hr⟩ := rep_of (P := Try.prog) (Ts := [41, 47, 3]) (by kernel_rfl) fuel 41 [.slice a len cap] _ (by simp) h0
    obtain ⟨es, rfl, hl, hes⟩ := hx.slice (e := 47) (by kernel_rfl)
    obtain ⟨w, hw, hs⟩ := hr.slv
    rw [show ofVals (#[Value.slice a len cap] : Array Value).toList = [w] from hw]
    exact collectNils_im hs.len (oldSt W)

theorem collectNils_holds : Rows.CollectNilsSaid :=
  OpenClaim.holds_of_wide 15 Try.f15 rfl rfl rfl rfl rfl rfl rfl ⟨rfl, rfl, rfl, rfl, rfl⟩ rfl rfl rfl rfl rfl (by kernel_rfl) Try.func15 (by kernel_rfl)
    (of_decide_eq_true (by kernel_rfl)) (by unfold Func.isWrapper; rw [if_neg (by decide +kernel)]; exact ⟨rfl, rfl⟩)
    (fun os started H enc _ => collectNils_lifted os started H enc)
#print axioms collectNils_holds
end Go.Proofs.Ytoldkemimhebaaa
