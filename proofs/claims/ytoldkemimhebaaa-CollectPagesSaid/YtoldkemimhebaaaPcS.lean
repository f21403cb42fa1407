/- Layer 16's closed call: example 1 of the chapter. -/
import Derived.Test.YtoldkemimhebaaaPgB
set_option linter.unusedSimpArgs false
set_option linter.unusedVariables false
namespace Go.Proofs.Ytoldkemimhebaaa
open Go Go.IM
section
set_option maxRecDepth 10000

theorem sane16_0 : (match (LC PF 100 noY).2 41 [] ⟨fun _ => none, 0, fun _ => none⟩ with | some (.bool b, _) => b | _ => false) = true := by kernel_rfl

theorem sane16 (s : St) : ∃ t, call PF 41 [] s = some (.bool true, t) ∧ (∀ j, j < s.next → t.new j = s.new j) ∧ t.old = s.old ∧ s.next ≤ t.next := closed_at 100 sane16_0 s
end
end Go.Proofs.Ytoldkemimhebaaa
