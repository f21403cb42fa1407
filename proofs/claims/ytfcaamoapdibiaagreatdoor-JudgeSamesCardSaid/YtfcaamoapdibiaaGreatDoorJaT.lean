/- Layer 11: the type of example 1, by the kernel. -/
import Derived.Test.YtfcaamoapdibiaaGreatDoorJaR
set_option linter.unusedSimpArgs false
set_option linter.unusedVariables false
namespace Go.Proofs.YtfcaamoapdibiaaGreatDoor
open Go Go.IM
section
set_option maxRecDepth 10000
/-- A text in region 3. -/
def txA : List V := [.str (ByteArray.mk #[116, 101, 120, 116]), .str (ByteArray.mk #[]), .str (ByteArray.mk #[]), .str (ByteArray.mk #[97, 98]), .int .i64 0, .int .i64 3, .slice none 0 (some 0), .slice none 0 (some 0), .str (ByteArray.mk #[]), .str (ByteArray.mk #[]), .int .i64 0, .slice none 0 (some 0), .slice none 0 (some 0), .slice none 0 (some 0), .slice none 0 (some 0), .slice none 0 (some 0), .slice none 0 (some 0)]
/-- Its size. -/
def szA (k : Nat) : List V := [.str (ByteArray.mk #[111, 112]), .str (ByteArray.mk #[115, 105, 122, 101]), .str (ByteArray.mk #[]), .str (ByteArray.mk #[]), .int .i64 0, .int .i64 0, .slice (some ⟨.new k, 0⟩) 1 (some 1), .slice none 0 (some 0), .str (ByteArray.mk #[]), .str (ByteArray.mk #[]), .int .i64 0, .slice none 0 (some 0), .slice none 0 (some 0), .slice none 0 (some 0), .slice none 0 (some 0), .slice none 0 (some 0), .slice none 0 (some 0)]
/-- A program: an expression in a region. -/
def rgP (k j : Nat) : List V := [.slice none 0 (some 0), .slice none 0 (some 0), .str (ByteArray.mk #[114, 101, 103, 105, 111, 110]), .str (ByteArray.mk #[]), .str (ByteArray.mk #[]), .str (ByteArray.mk #[]), .int .i64 0, .int .i64 0, .slice (some ⟨.new k, 0⟩) 1 (some 1), .slice none 0 (some 0), .str (ByteArray.mk #[]), .str (ByteArray.mk #[]), .int .i64 0, .slice none 0 (some 0), .slice none 0 (some 0), .slice (some ⟨.new j, 0⟩) 1 (some 1), .slice none 0 (some 0), .slice none 0 (some 0), .slice none 0 (some 0)]
def smP : St := ⟨fun _ => none, 3, fun k => match k with | 0 => some (.cells txA none) | 1 => some (.cells (szA 0) none) | 2 => some (.cells [.int .i64 3] none) | _ => none⟩
theorem type11 : (match (LC (tabF sTab) 100 noY).2 11 [.agg (rgP 1 2)] smP with | some (.tuple [.agg (.str x :: .str _ :: .int .i64 _ :: .slice _ _ _ :: .slice _ _ _ :: []), .int .i64 y], _) => x.toList == [105, 110, 116] && y == 0 | _ => false) = true := by kernel_rfl
end
end Go.Proofs.YtfcaamoapdibiaaGreatDoor
