/- Layer 11: a program that is not accepted, by the kernel. -/
import Derived.Test.YtfcaamoapdibiaaGreatDoorJaR
set_option linter.unusedSimpArgs false
set_option linter.unusedVariables false
namespace Go.Proofs.YtfcaamoapdibiaaGreatDoor
open Go Go.IM
section
set_option maxRecDepth 10000
def txB : List V := [.str (ByteArray.mk #[116, 101, 120, 116]), .str (ByteArray.mk #[]), .str (ByteArray.mk #[]), .str (ByteArray.mk #[97, 98]), .int .i64 0, .int .i64 3, .slice none 0 (some 0), .slice none 0 (some 0), .str (ByteArray.mk #[]), .str (ByteArray.mk #[]), .int .i64 0, .slice none 0 (some 0), .slice none 0 (some 0), .slice none 0 (some 0), .slice none 0 (some 0), .slice none 0 (some 0), .slice none 0 (some 0)]
def rgQ (k j : Nat) : List V := [.slice none 0 (some 0), .slice none 0 (some 0), .str (ByteArray.mk #[114, 101, 103, 105, 111, 110]), .str (ByteArray.mk #[]), .str (ByteArray.mk #[]), .str (ByteArray.mk #[]), .int .i64 0, .int .i64 0, .slice (some ⟨.new k, 0⟩) 1 (some 1), .slice none 0 (some 0), .str (ByteArray.mk #[]), .str (ByteArray.mk #[]), .int .i64 0, .slice none 0 (some 0), .slice none 0 (some 0), .slice (some ⟨.new j, 0⟩) 1 (some 1), .slice none 0 (some 0), .slice none 0 (some 0), .slice none 0 (some 0)]
def smQ : St := ⟨fun _ => none, 2, fun k => match k with | 0 => some (.cells txB none) | 1 => some (.cells [.int .i64 3] none) | _ => none⟩
theorem acc12 : (match (LC (tabF sTab) 100 noY).2 12 [.agg (rgQ 0 1)] smQ with | some (.bool b, _) => !b | _ => false) = true := by kernel_rfl
end
end Go.Proofs.YtfcaamoapdibiaaGreatDoor
