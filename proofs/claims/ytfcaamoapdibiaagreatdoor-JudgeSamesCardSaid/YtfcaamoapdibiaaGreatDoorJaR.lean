/- Layer 11's closed calls: the table of functions; more functions, more answers. -/
import Derived.Test.YtfcaamoapdibiaaGreatDoorJb0
import Derived.Test.YtfcaamoapdibiaaGreatDoorJb1
import Derived.Test.YtfcaamoapdibiaaGreatDoorJb2
import Derived.Test.YtfcaamoapdibiaaGreatDoorJb3
import Derived.Test.YtfcaamoapdibiaaGreatDoorJb4
import Derived.Test.YtfcaamoapdibiaaGreatDoorJb5
set_option linter.unusedSimpArgs false
set_option linter.unusedVariables false
namespace Go.IM
/-- More functions, more answers. -/
theorem LC_monoF {F F' : Nat → Option IFn} (h : ∀ f c, F f = some c → F' f = some c) : ∀ n : Nat, Mle (LC F n) (LC F' n)
  | 0 => fun Y Y' hY => ⟨fun c e s K K' r hK h => by simp [LC] at h, fun f a s r h => by simp [LC] at h⟩
  | n + 1 => fun Y Y' hY => by
    have hM := LC_monoF h n
    obtain ⟨h1, h2⟩ := hM Y Y' hY
    refine ⟨fun c e s K K' r hK hr => ?_, fun f a s r hr => ?_⟩
    · cases c with
      | range f ps a b => exact rangeI_mono hM hY hK hr
      | _ => exact go_mono h1 h2 _ e s K K' hK hr
    · simp only [LC] at hr ⊢
      split at hr
      · rename_i h0
        rw [if_pos h0]
        cases e : F f with
        | none => rw [e] at hr; cases hr
        | some fn =>
          rw [e] at hr
          rw [h f fn e]
          exact go_mono h1 h2 _ _ _ _ _ (fun _ _ _ _ h => h) hr
      · rename_i h0
        rw [if_neg h0]
        exact hY _ _ _ _ hr
def tabF (l : List (Nat × IFn)) : Nat → Option IFn := fun f => (l.find? fun p => Nat.beq p.1 f).map (·.2)
theorem tabF_le {l : List (Nat × IFn)} {F : Nat → Option IFn} (h : ∀ p ∈ l, F p.1 = some p.2) : ∀ f c, tabF l f = some c → F f = some c := by
  intro f c hf
  unfold tabF at hf
  rw [Option.map_eq_some_iff] at hf
  obtain ⟨p, hp, rfl⟩ := hf
  have h1 := List.find?_some hp
  have h2 := h p (List.mem_of_find?_eq_some hp)
  rw [← Nat.eq_of_beq_eq_true h1]; exact h2
end Go.IM
namespace Go.Proofs.YtfcaamoapdibiaaGreatDoor
open Go Go.IM
section
set_option maxRecDepth 10000
def sTab : List (Nat × IFn) := S.tab0 ++ S.tab1 ++ S.tab2 ++ S.tab3 ++ S.tab4 ++ S.tab5
theorem sTab_ok : ∀ p ∈ sTab, PF p.1 = some p.2 := by
  intro p hp
  simp only [sTab, List.mem_append, or_assoc] at hp
  rcases hp with h0 | h1 | h2 | h3 | h4 | h5
  · exact S.tab0_ok p h0
  · exact S.tab1_ok p h1
  · exact S.tab2_ok p h2
  · exact S.tab3_ok p h3
  · exact S.tab4_ok p h4
  · exact S.tab5_ok p h5
end
end Go.Proofs.YtfcaamoapdibiaaGreatDoor
