/- Layer 11: the machine's functions; closed calls. -/
import Derived.Test.YtfcaamoapdibiaaGreatDoorIm19
import Derived.Test.YtfcaamoapdibiaaGreatDoorIm20
import Derived.Test.YtfcaamoapdibiaaGreatDoorProg
set_option linter.unusedSimpArgs false
set_option linter.unusedVariables false
namespace Go.Proofs.YtfcaamoapdibiaaGreatDoor
open Go Go.IM

noncomputable abbrev PF : Nat → Option IFn := shutF Tryz.prog

/-- A closed call, from any store. -/
theorem closed_at (n : Nat) {f : Nat} {a : List V} (ha : ∀ π, a.map (V.ren π) = a) (h : (match (LC PF n noY).2 f a ⟨fun _ => none, 0, fun _ => none⟩ with | some (.bool b, _) => b | _ => false) = true) (s : St) (h0 : f < yBase := by decide) :
    ∃ t, call PF f a s = some (.bool true, t) ∧ (∀ j, j < s.next → t.new j = s.new j) ∧ t.old = s.old ∧ s.next ≤ t.next := by
  split at h
  · rename_i b st hc
    subst h
    have hc' : call PF f a ⟨fun _ => none, 0, fun _ => none⟩ = some (.bool true, st) := call_some.2 ⟨n, hc⟩
    have hr : Ren (fun k => s.next + k) ⟨fun _ => none, 0, fun _ => none⟩ s := ⟨fun k _ => rfl, fun k o h => by simp at h, fun b o h => by simp at h, fun k k' h => by simpa using h⟩
    obtain ⟨t, h1, h2, h3⟩ := call_frame (F := PF) shutF_shut hr hc' h0
    rw [ha] at h1
    exact ⟨t, h1, fun j hj => h3.new j (fun k hk => by have : s.next + k = j := hk; omega), h3.old, h3.next⟩
  · cases h
theorem closed_wp (n : Nat) {f : Nat} {a : List V} (ha : ∀ π, a.map (V.ren π) = a) (h : (match (LC PF n noY).2 f a ⟨fun _ => none, 0, fun _ => none⟩ with | some (.bool b, _) => b | _ => false) = true)
    {o : Nat → Option O} {C : Ch} {s : St} {Q : V → St → Prop} (H : Holds o s C) (k : ∀ s', Holds o s' C → Q (.bool true) s') (h0 : f < yBase := by decide) : WP (call PF f a s) Q := by
  obtain ⟨t, h1, h2, h3, h4⟩ := closed_at n ha h s h0
  refine wp_res h1 (k t ⟨h3.trans H.old, H.nodup, fun j x m => ?_, fun j m => Nat.lt_of_lt_of_le (H.lt j m) h4⟩)
  rw [h2 j (H.lt j (Holds.ids_mem.2 ⟨x, m⟩))]
  exact H.at_ j x m
end Go.Proofs.YtfcaamoapdibiaaGreatDoor
