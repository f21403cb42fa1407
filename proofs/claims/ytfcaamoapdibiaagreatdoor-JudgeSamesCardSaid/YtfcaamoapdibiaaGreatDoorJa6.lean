/- What is lifted of the statement 'JudgeSames' of layer 11: for all two annotated programs it returns true, never panics, and its input reads as before; without conditions; its listed variables tied. -/
import Derived.Test.YtfcaamoapdibiaaGreatDoorJa5
import Derived.Test.YtfcaamoapdibiaaGreatDoorIm21
import Derived.Test.YtfcaamoapdibiaaGreatDoorRows
set_option linter.unusedSimpArgs false
set_option linter.unusedVariables false
namespace Go.Proofs.YtfcaamoapdibiaaGreatDoor
open Go Go.IM Go.ChangeShapes Go.WideShapes Go.ChangeAt Go.RowKit

theorem Tryz.own' : ownKnob Tryz.prog.godebug = none := by kernel_rfl
theorem Tryz.laidOut' : laidOutB Tryz.prog = true := by kernel_rfl
theorem Tryz.mixed' : Tryz.prog.follows .mixedOrders = true := by kernel_rfl

set_option maxRecDepth 100000 in
theorem door_met (os : Os) (args : Array Value) : laidMetH Tryz.prog Rows.judgeSamesRow.laid ((World.doorLaid Tryz.prog 86 os).forCall (fun _ _ => 0) ⟨#[], args, []⟩).memory :=
  laidMetH_of_parts3 (fuel := 8) (laidMet_of_run' 257 (by kernel_rfl) (by kernel_rfl)) (by kernel_rfl) (by kernel_rfl)

set_option maxRecDepth 100000 in
theorem judgeSames_lifted (os : Os) (started : os.Started) (H : Type) (enc : TypeId × Value → H) :
    ReturnsInHanded Rows.judgeSamesRow.assume Tryz.checked os 3 .any (fun w args => (Rows.judgeSamesSpec.pre enc Tryz.prog Tryz.f3 Rows.judgeSamesRow.domain false w args ∧ laidMetH Tryz.prog Rows.judgeSamesRow.laid w) ∧ sizedMet enc Tryz.prog Tryz.f3 (OpenSpec.ofChange Rows.judgeSamesSpec) false w args) (Rows.judgeSamesSpec.post enc Tryz.prog Tryz.f3 false true false false) := by
  refine lifted_true_and (C := Tryz.checked) (X := fun w _ => laidMetH Tryz.prog Rows.judgeSamesRow.laid w) (fun _ _ _ hh h => h.of_heap hh) Tryz.own' started (by kernel_rfl) Tryz.func3 Tryz.laidOut' Tryz.mixed' (by kernel_rfl) rfl (by kernel_rfl) rfl
    (ChangeSpec.witness_shaped (enc := enc) (C := Tryz.checked) (os := os) (X := fun w _ => laidMetH Tryz.prog Rows.judgeSamesRow.laid w) false (World.doorLaid Tryz.prog 86 os) #[.agg #[.slice none 0 0, .slice none 0 0, .string ⟨#[]⟩, .string ⟨#[]⟩, .string ⟨#[]⟩, .string ⟨#[]⟩, .int .i64 0, .int .i64 0, .slice none 0 0, .slice none 0 0, .string ⟨#[]⟩, .string ⟨#[]⟩, .int .i64 0, .slice none 0 0, .slice none 0 0, .slice none 0 0, .slice none 0 0, .slice none 0 0, .slice none 0 0], .agg #[.slice none 0 0, .slice none 0 0, .string ⟨#[]⟩, .string ⟨#[]⟩, .string ⟨#[]⟩, .string ⟨#[]⟩, .int .i64 0, .int .i64 0, .slice none 0 0, .slice none 0 0, .string ⟨#[]⟩, .string ⟨#[]⟩, .int .i64 0, .slice none 0 0, .slice none 0 0, .slice none 0 0, .slice none 0 0, .slice none 0 0, .slice none 0 0]] 8 rfl (World.shaped_of_RefB (by kernel_rfl) (by kernel_rfl)) (by kernel_rfl) (by kernel_rfl) (by kernel_rfl) (door_met os _)) ?_ ?_
  · intro ds hd
    match ds, hd with
    | [a, b], _ => rfl
  · intro W base args ds before hval hA hwt
    have hp : Tryz.f3.params = #[34, 34] := rfl
    rw [hp] at hA hval hwt
    obtain ⟨v, v', d, d', p, p', rfl, rfl, rfl, ⟨fuel, h0⟩, ⟨fuel', h1⟩⟩ := trodAll_two hA
    obtain ⟨fs, hu⟩ : ∃ fs, Tryz.checked.prog.underlying 34 = some (.struct fs) := by
      have : structT Tryz.prog 34 = some [22, 23, 32] := by kernel_rfl
      unfold structT at this
      split at this
      · exact ⟨_, by assumption⟩
      · cases this
    obtain ⟨cs, rfl, _⟩ := okWide_struct (P := Tryz.checked.prog) hu (hval 0 34 _ rfl rfl)
    obtain ⟨cs', rfl, _⟩ := okWide_struct (P := Tryz.checked.prog) hu (hval 1 34 _ rfl rfl)
    have hT : tyOk Tryz.prog [3, 4, 9, 22, 23, 24, 25, 26, 27, 29, 30, 32, 34, 46, 48, 50, 52, 75] = true := by kernel_rfl
    obtain ⟨x, hx, hr⟩ := rep_of (P := Tryz.prog) hT fuel 34 cs.toList _ (by simp) h0
    obtain ⟨x', hx', hr'⟩ := rep_of (P := Tryz.prog) hT fuel' 34 cs'.toList _ (by simp) h1
    have e : ∀ cs : Array Value, ofVal (.agg cs) = .agg (ofVals cs.toList) := fun cs => by rw [ofVal]
    obtain ⟨st, hs⟩ := judgeSames_im (s := oldSt W) hx hx' hr hr'
    refine ⟨st, ?_⟩
    rw [← hs]
    show call (shutF Tryz.prog) 3 [ofVal (.agg cs), ofVal (.agg cs')] (oldSt W) = _
    rw [e, e]

end Go.Proofs.YtfcaamoapdibiaaGreatDoor
