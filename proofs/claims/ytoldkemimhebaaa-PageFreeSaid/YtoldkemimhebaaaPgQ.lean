/- The functions of layer 15, on the ideal machine: giving pages back, closing, resetting. -/
import Derived.Test.YtoldkemimhebaaaPgP
set_option linter.unusedSimpArgs false
set_option linter.unusedVariables false
namespace Go.Proofs.Ytoldkemimhebaaa
open Go Go.IM

-- (*virgate/page.Heap).gives
def k76_0 : List Bool := [tt,tt,ff,ff,tt,ff,ff,ff,ff,ff,ff,ff,ff,ff,ff,ff,ff,ff,ff,ff,ff,ff,ff,ff,ff,ff,ff,ff,ff,ff,ff,ff,ff,ff,ff,ff,ff,ff,ff,ff,ff,ff,ff,ff,ff,ff]
def k76_1 : List Bool := [tt,tt,ff,ff,tt,ff,ff,ff,ff,ff,ff,tt,tt,tt,ff,ff,ff,ff,ff,ff,ff,ff,ff,ff,ff,ff,ff,ff,ff,ff,ff,ff,ff,ff,ff,ff,ff,ff,ff,ff,ff,ff,ff,ff,ff,ff]
def k76_2 : List Bool := [tt,tt,ff,ff,tt,ff,ff,ff,ff,ff,ff,tt,tt,tt,tt,ff,ff,ff,ff,ff,ff,ff,ff,ff,ff,ff,ff,ff,ff,ff,ff,ff,ff,ff,ff,ff,ff,ff,ff,ff,ff,ff,ff,ff,ff,ff]
def k76_3 : List Bool := [ff,tt,ff,ff,ff,ff,ff,ff,ff,ff,ff,ff,ff,ff,ff,ff,ff,ff,ff,ff,ff,ff,ff,ff,ff,ff,ff,ff,ff,ff,ff,ff,ff,ff,ff,ff,ff,ff,ff,ff,ff,ff,ff,ff,ff,ff]
def k76_4 : List Bool := [tt,tt,ff,ff,tt,ff,tt,ff,ff,ff,ff,tt,tt,tt,ff,ff,ff,ff,ff,ff,ff,ff,ff,ff,ff,ff,ff,ff,ff,ff,ff,ff,ff,ff,ff,ff,ff,ff,ff,ff,ff,ff,ff,ff,ff,ff]
def l76_0 : IC := (.seq (.seq (.region [⟨(some 14), .bin .lss (.t 13) (.t 12), none⟩] k76_2)
  (.seq (.cond (.t 14)
  .skip
  (.seq (.region [] k76_3)
  (.exit 0)))
  (.seq (.block 1
  (.seq (.region [⟨(some 15), .indexAddr 1 (.t 11) (.t 13), none⟩,
    ⟨(some 16), .load none (.t 15), none⟩,
    ⟨(some 6), .mov (.t 16), none⟩] k76_4)
  (.region [⟨(some 17), .mov (.t 0), none⟩,
    ⟨(some 18), .nilCheck (.t 17), none⟩,
    ⟨(some 19), .fieldAddr 0 (.t 18), none⟩,
    ⟨(some 20), .load none (.t 19), none⟩,
    ⟨(some 21), .nilCheck (.t 20), none⟩,
    ⟨(some 22), .fieldAddr 0 (.t 21), none⟩,
    ⟨(some 23), .load none (.t 22), none⟩,
    ⟨(some 24), .mov (.t 6), none⟩,
    ⟨(some 25), .indexAddr 1 (.t 23) (.t 24), none⟩,
    ⟨none, .store 1 (.t 25) (.c (.bool false)), none⟩] k76_1)))
  (.region [⟨(some 26), .bin .add (.t 13) (.c (.int .i64 (1))), none⟩,
    ⟨(some 13), .mov (.t 26), none⟩] k76_1))))
  (.region [] k76_1))
def k76_5 : List Bool := [ff,tt,ff,ff,ff,ff,ff,tt,ff,ff,ff,ff,ff,ff,ff,ff,ff,ff,ff,ff,ff,ff,ff,ff,ff,ff,ff,ff,ff,ff,ff,ff,ff,ff,ff,ff,ff,ff,ff,ff,ff,ff,ff,ff,ff,ff]
def k76_6 : List Bool := [ff,ff,ff,ff,ff,ff,ff,tt,ff,ff,ff,ff,ff,ff,ff,ff,ff,ff,ff,ff,ff,ff,ff,ff,ff,ff,ff,ff,ff,ff,ff,ff,ff,ff,ff,ff,ff,ff,ff,ff,ff,ff,ff,ff,ff,ff]
def k76_7 : List Bool := [ff,ff,ff,ff,tt,ff,ff,ff,ff,ff,ff,ff,ff,ff,ff,ff,ff,ff,ff,ff,ff,ff,ff,ff,ff,ff,ff,ff,ff,ff,ff,ff,ff,ff,ff,ff,ff,ff,ff,ff,ff,ff,ff,ff,ff,ff]
def c76 : IFn := ⟨46, [(4, none)],
  (.seq (.region [⟨(some 4), .mov (.c (.int .i64 (0))), none⟩] k76_0)
  (.seq (.seq (.region [⟨(some 8), .mov (.t 1), none⟩,
    ⟨(some 9), .nilCheck (.t 8), none⟩,
    ⟨(some 10), .fieldAddr 2 (.t 9), none⟩,
    ⟨(some 11), .load none (.t 10), none⟩,
    ⟨(some 12), .lenSlice (.t 11), none⟩,
    ⟨(some 13), .mov (.c (.int .i64 (0))), none⟩] k76_1)
  (.block 0
  (.seq (.region [] k76_1)
  (.loop l76_0))))
  (.seq (.region [⟨(some 27), .mov (.t 1), none⟩,
    ⟨(some 28), .nilCheck (.t 27), none⟩,
    ⟨(some 29), .fieldAddr 2 (.t 28), none⟩,
    ⟨(some 30), .load none (.t 29), none⟩,
    ⟨(some 31), .lenSlice (.t 30), none⟩,
    ⟨(some 7), .mov (.t 31), none⟩] k76_5)
  (.seq (.region [⟨(some 32), .mov (.t 1), none⟩,
    ⟨(some 33), .mov (.t 1), none⟩,
    ⟨(some 34), .mov (.t 1), none⟩,
    ⟨(some 35), .mov (.t 1), none⟩,
    ⟨(some 36), .mkMap, none⟩,
    ⟨(some 37), .nilCheck (.t 32), none⟩,
    ⟨(some 38), .fieldAddr 2 (.t 37), none⟩,
    ⟨none, .store 1 (.t 38) (.c (.slice none 0 (some 0))), none⟩,
    ⟨(some 39), .nilCheck (.t 33), none⟩,
    ⟨(some 40), .fieldAddr 3 (.t 39), none⟩,
    ⟨none, .store 1 (.t 40) (.c (.int .i64 (0))), none⟩,
    ⟨(some 41), .nilCheck (.t 34), none⟩,
    ⟨(some 42), .fieldAddr 4 (.t 41), none⟩,
    ⟨none, .store 1 (.t 42) (.c (.slice none 0 (some 0))), none⟩,
    ⟨(some 43), .nilCheck (.t 35), none⟩,
    ⟨(some 44), .fieldAddr 5 (.t 43), none⟩,
    ⟨none, .store 1 (.t 44) (.t 36), none⟩] k76_6)
  (.seq (.region [⟨(some 45), .mov (.t 7), none⟩,
    ⟨(some 4), .mov (.t 45), none⟩] k76_7)
  (.seq (.region [] k76_7)
  .ret))))))⟩
theorem F76 : shutF Try.prog 76 = some c76 := by kernel_rfl

-- (*virgate/page.Heap).Close
def k32_0 : List Bool := [tt,ff,ff,ff,ff,ff,ff,ff,ff,ff,ff,ff,ff,ff,ff,ff,ff,ff,ff,ff,ff,ff,ff,ff,ff,ff,ff,ff,ff,ff,ff,ff,ff,ff,ff,ff,ff,ff,ff,ff,ff]
def k32_1 : List Bool := [tt,ff,ff,ff,ff,ff,tt,ff,ff,ff,ff,ff,ff,ff,ff,ff,ff,ff,ff,ff,ff,ff,ff,ff,ff,ff,ff,ff,ff,ff,ff,ff,ff,ff,ff,ff,ff,ff,ff,ff,ff]
def k32_2 : List Bool := [ff,ff,tt,tt,ff,ff,ff,ff,ff,ff,ff,ff,ff,ff,ff,ff,ff,ff,ff,ff,ff,ff,ff,ff,ff,ff,ff,ff,ff,ff,ff,ff,ff,ff,ff,ff,ff,ff,ff,ff,ff]
def k32_3 : List Bool := [tt,ff,ff,ff,ff,ff,ff,ff,ff,tt,ff,ff,ff,ff,ff,ff,ff,ff,ff,ff,ff,ff,ff,ff,ff,ff,ff,ff,ff,ff,ff,ff,ff,ff,ff,ff,ff,ff,ff,ff,ff]
def k32_4 : List Bool := [tt,ff,ff,ff,tt,ff,ff,ff,ff,ff,ff,ff,ff,ff,ff,ff,ff,ff,ff,ff,ff,ff,ff,ff,ff,ff,ff,ff,ff,ff,ff,ff,ff,ff,ff,ff,ff,ff,ff,ff,ff]
def k32_5 : List Bool := [tt,ff,ff,ff,tt,tt,ff,ff,ff,ff,ff,ff,ff,ff,ff,ff,ff,ff,ff,ff,ff,ff,ff,ff,ff,ff,ff,ff,ff,ff,ff,ff,ff,ff,ff,ff,ff,ff,ff,ff,ff]
def k32_6 : List Bool := [ff,ff,ff,ff,ff,tt,ff,ff,ff,ff,ff,ff,ff,ff,ff,ff,ff,ff,ff,ff,ff,ff,ff,ff,ff,ff,ff,ff,ff,ff,ff,ff,ff,ff,ff,ff,ff,ff,ff,ff,ff]
def c32 : IFn := ⟨41, [(2, none), (3, none)],
  (.seq (.region [⟨(some 2), .mov (.c (.int .i64 (0))), none⟩,
    ⟨(some 3), .mov (.c (.int .i64 (0))), none⟩] k32_0)
  (.seq (.block 0
  (.seq (.region [⟨(some 7), .mov (.t 0), none⟩,
    ⟨(some 8), .call 71 [(.t 7)], none⟩,
    ⟨(some 6), .mov (.t 8), none⟩] k32_1)
  (.cond (.t 6)
  (.seq (.region [⟨(some 2), .mov (.c (.int .i64 (0))), none⟩,
    ⟨(some 3), .mov (.c (.int .i64 (6))), none⟩] k32_2)
  (.seq (.region [] k32_2)
  .ret))
  (.seq (.region [⟨(some 10), .mov (.t 0), none⟩,
    ⟨(some 11), .nilCheck (.t 10), none⟩,
    ⟨(some 12), .fieldAddr 1 (.t 11), none⟩,
    ⟨(some 13), .load none (.t 12), none⟩,
    ⟨(some 14), .lenSlice (.t 13), none⟩,
    ⟨(some 15), .bin .eql (.t 14) (.c (.int .i64 (1))), none⟩,
    ⟨(some 9), .mov (.t 15), none⟩] k32_3)
  (.cond (.t 9)
  (.seq (.region [⟨(some 2), .mov (.c (.int .i64 (0))), none⟩,
    ⟨(some 3), .mov (.c (.int .i64 (5))), none⟩] k32_2)
  (.seq (.region [] k32_2)
  .ret))
  .skip)))))
  (.seq (.region [⟨(some 16), .mov (.t 0), none⟩,
    ⟨(some 17), .nilCheck (.t 16), none⟩,
    ⟨(some 18), .fieldAddr 1 (.t 17), none⟩,
    ⟨(some 19), .load none (.t 18), none⟩,
    ⟨(some 20), .lenSlice (.t 19), none⟩,
    ⟨(some 21), .bin .sub (.t 20) (.c (.int .i64 (1))), none⟩,
    ⟨(some 4), .mov (.t 21), none⟩] k32_4)
  (.seq (.region [⟨(some 22), .mov (.t 0), none⟩,
    ⟨(some 23), .mov (.t 0), none⟩,
    ⟨(some 24), .nilCheck (.t 23), none⟩,
    ⟨(some 25), .fieldAddr 1 (.t 24), none⟩,
    ⟨(some 26), .load none (.t 25), none⟩,
    ⟨(some 27), .mov (.t 4), none⟩,
    ⟨(some 28), .indexAddr 1 (.t 26) (.t 27), none⟩,
    ⟨(some 29), .load none (.t 28), none⟩,
    ⟨(some 30), .call 76 [(.t 22), (.t 29)], none⟩,
    ⟨(some 5), .mov (.t 30), none⟩] k32_5)
  (.seq (.region [⟨(some 31), .mov (.t 0), none⟩,
    ⟨(some 32), .mov (.t 0), none⟩,
    ⟨(some 33), .nilCheck (.t 32), none⟩,
    ⟨(some 34), .fieldAddr 1 (.t 33), none⟩,
    ⟨(some 35), .load none (.t 34), none⟩,
    ⟨(some 36), .mov (.t 4), none⟩,
    ⟨(some 37), .slice 1 (.t 35) none (some (.t 36)) none, none⟩,
    ⟨(some 38), .nilCheck (.t 31), none⟩,
    ⟨(some 39), .fieldAddr 1 (.t 38), none⟩,
    ⟨none, .store 1 (.t 39) (.t 37), none⟩] k32_6)
  (.seq (.region [⟨(some 40), .mov (.t 5), none⟩,
    ⟨(some 2), .mov (.t 40), none⟩,
    ⟨(some 3), .mov (.c (.int .i64 (0))), none⟩] k32_2)
  (.seq (.region [] k32_2)
  .ret)))))))⟩
theorem F32 : shutF Try.prog 32 = some c32 := by kernel_rfl

-- (*virgate/page.Heap).Reset
def k31_0 : List Bool := [tt,tt,ff,ff,ff,ff,ff,ff,ff,ff,ff,ff,ff,ff,ff,ff,ff,ff,ff,ff,ff,ff,ff,ff,ff,ff,ff,ff,ff,ff,ff,ff,ff,ff,ff,ff,ff,ff,ff,ff,ff,ff,ff,ff,ff,ff,ff]
def k31_1 : List Bool := [tt,ff,ff,ff,ff,ff,tt,tt,ff,ff,ff,ff,ff,ff,ff,ff,ff,ff,ff,ff,ff,ff,ff,ff,ff,ff,ff,ff,ff,ff,ff,ff,ff,ff,ff,ff,ff,ff,ff,ff,ff,ff,ff,ff,ff,ff,ff]
def k31_2 : List Bool := [tt,ff,ff,ff,ff,ff,tt,tt,ff,ff,ff,ff,ff,ff,ff,ff,ff,ff,ff,ff,ff,ff,tt,ff,ff,ff,ff,ff,ff,ff,ff,ff,ff,ff,ff,ff,ff,ff,ff,ff,ff,ff,ff,ff,ff,ff,ff]
def k31_3 : List Bool := [tt,ff,ff,ff,ff,ff,tt,tt,ff,ff,ff,ff,ff,ff,ff,ff,ff,ff,ff,ff,ff,ff,ff,ff,tt,ff,ff,ff,ff,ff,ff,ff,ff,ff,ff,ff,ff,ff,ff,ff,ff,ff,ff,ff,ff,ff,ff]
def k31_4 : List Bool := [ff,ff,ff,ff,tt,tt,ff,ff,ff,ff,ff,ff,ff,ff,ff,ff,ff,ff,ff,ff,ff,ff,ff,ff,ff,ff,ff,ff,ff,ff,ff,ff,ff,ff,ff,ff,ff,ff,ff,ff,ff,ff,ff,ff,ff,ff,ff]
def k31_5 : List Bool := [tt,ff,ff,ff,ff,ff,tt,ff,ff,ff,ff,ff,ff,ff,ff,ff,ff,ff,ff,ff,ff,ff,ff,ff,ff,ff,ff,ff,ff,ff,ff,ff,ff,ff,ff,ff,ff,ff,ff,ff,ff,ff,ff,ff,ff,ff,ff]
def k31_6 : List Bool := [ff,ff,ff,ff,ff,ff,tt,ff,ff,ff,ff,ff,ff,ff,ff,ff,ff,ff,ff,ff,ff,ff,ff,ff,ff,ff,ff,ff,ff,ff,ff,ff,ff,ff,ff,ff,ff,ff,ff,ff,ff,ff,ff,ff,ff,ff,ff]
def c31 : IFn := ⟨47, [(4, none), (5, none)],
  (.seq (.region [⟨(some 4), .mov (.c (.int .i64 (0))), none⟩,
    ⟨(some 5), .mov (.c (.int .i64 (0))), none⟩] k31_0)
  (.seq (.region [⟨(some 9), .mov (.t 0), none⟩,
    ⟨(some 10), .mov (.t 1), none⟩,
    ⟨(some 11), .call 72 [(.t 9), (.t 10)], none⟩,
    ⟨(some 8), .mov (.t 11), none⟩,
    ⟨(some 12), .extract (.t 8) 0, none⟩,
    ⟨(some 13), .extract (.t 8) 1, none⟩,
    ⟨(some 6), .mov (.t 12), none⟩,
    ⟨(some 7), .mov (.t 13), none⟩] k31_1)
  (.seq (.seq (.region [⟨(some 14), .mov (.t 7), none⟩,
    ⟨(some 15), .bin .eql (.t 14) (.c (.int .i64 (0))), none⟩,
    ⟨(some 16), .mov (.t 15), none⟩,
    ⟨(some 17), .mov (.t 0), (some (16, true))⟩,
    ⟨(some 18), .nilCheck (.t 17), (some (16, true))⟩,
    ⟨(some 19), .fieldAddr 2 (.t 18), (some (16, true))⟩,
    ⟨(some 20), .load none (.t 19), (some (16, true))⟩,
    ⟨(some 21), .bin .geq (.t 20) (.c (.int .i64 (100000))), (some (16, true))⟩,
    ⟨(some 22), .pick (.t 16) (.t 21) (.c (.bool false)), none⟩] k31_2)
  (.cond (.t 22)
  (.region [⟨(some 7), .mov (.c (.int .i64 (4))), none⟩] k31_1)
  .skip))
  (.seq (.seq (.region [⟨(some 23), .mov (.t 7), none⟩,
    ⟨(some 24), .bin .neq (.t 23) (.c (.int .i64 (0))), none⟩] k31_3)
  (.cond (.t 24)
  (.seq (.region [⟨(some 25), .mov (.t 7), none⟩,
    ⟨(some 4), .mov (.c (.int .i64 (0))), none⟩,
    ⟨(some 5), .mov (.t 25), none⟩] k31_4)
  (.seq (.region [] k31_4)
  .ret))
  .skip))
  (.seq (.region [⟨(some 26), .mov (.t 0), none⟩,
    ⟨(some 27), .mov (.t 6), none⟩,
    ⟨(some 28), .call 76 [(.t 26), (.t 27)], none⟩] k31_5)
  (.seq (.region [⟨(some 29), .mov (.t 0), none⟩,
    ⟨(some 30), .nilCheck (.t 29), none⟩,
    ⟨(some 31), .fieldAddr 2 (.t 30), none⟩,
    ⟨(some 32), .load none (.t 31), none⟩,
    ⟨(some 33), .bin .add (.t 32) (.c (.int .i64 (1))), none⟩,
    ⟨(some 34), .nilCheck (.t 29), none⟩,
    ⟨(some 35), .fieldAddr 2 (.t 34), none⟩,
    ⟨none, .store 1 (.t 35) (.t 33), none⟩] k31_5)
  (.seq (.region [⟨(some 36), .mov (.t 6), none⟩,
    ⟨(some 37), .mov (.t 0), none⟩,
    ⟨(some 38), .nilCheck (.t 37), none⟩,
    ⟨(some 39), .fieldAddr 2 (.t 38), none⟩,
    ⟨(some 40), .load none (.t 39), none⟩,
    ⟨(some 41), .nilCheck (.t 36), none⟩,
    ⟨(some 42), .fieldAddr 0 (.t 41), none⟩,
    ⟨none, .store 1 (.t 42) (.t 40), none⟩] k31_6)
  (.seq (.region [⟨(some 43), .mov (.t 6), none⟩,
    ⟨(some 44), .nilCheck (.t 43), none⟩,
    ⟨(some 45), .fieldAddr 0 (.t 44), none⟩,
    ⟨(some 46), .load none (.t 45), none⟩,
    ⟨(some 4), .mov (.t 46), none⟩,
    ⟨(some 5), .mov (.c (.int .i64 (0))), none⟩] k31_4)
  (.seq (.region [] k31_4)
  .ret)))))))))⟩
theorem F31 : shutF Try.prog 31 = some c31 := by kernel_rfl

-- (*virgate/page.Heap).Drop
def k33_0 : List Bool := [tt,ff,ff,ff,ff,tt,ff,ff,ff,ff,ff,ff,ff,ff,ff,ff,ff,ff,ff,ff,ff,ff,ff,ff,ff]
def k33_1 : List Bool := [ff,ff,ff,ff,ff,ff,ff,ff,ff,ff,ff,ff,ff,ff,ff,ff,ff,ff,ff,ff,ff,ff,ff,ff,ff]
def k33_2 : List Bool := [tt,ff,ff,ff,ff,ff,ff,ff,ff,tt,tt,tt,ff,ff,ff,ff,ff,ff,ff,ff,ff,ff,ff,ff,ff]
def k33_3 : List Bool := [tt,ff,ff,ff,ff,ff,ff,ff,ff,tt,tt,tt,tt,ff,ff,ff,ff,ff,ff,ff,ff,ff,ff,ff,ff]
def k33_4 : List Bool := [tt,ff,ff,ff,ff,ff,ff,ff,ff,ff,ff,ff,ff,ff,ff,ff,ff,ff,ff,ff,ff,ff,ff,ff,ff]
def k33_5 : List Bool := [tt,ff,ff,tt,ff,ff,ff,ff,ff,tt,tt,tt,ff,ff,ff,ff,ff,ff,ff,ff,ff,ff,ff,ff,ff]
def l33_0 : IC := (.seq (.seq (.region [⟨(some 12), .bin .lss (.t 11) (.t 10), none⟩] k33_3)
  (.seq (.cond (.t 12)
  .skip
  (.seq (.region [] k33_4)
  (.exit 0)))
  (.seq (.block 1
  (.seq (.region [⟨(some 13), .indexAddr 1 (.t 9) (.t 11), none⟩,
    ⟨(some 14), .load none (.t 13), none⟩,
    ⟨(some 3), .mov (.t 14), none⟩] k33_5)
  (.region [⟨(some 15), .mov (.t 0), none⟩,
    ⟨(some 16), .mov (.t 3), none⟩,
    ⟨(some 17), .call 76 [(.t 15), (.t 16)], none⟩] k33_2)))
  (.region [⟨(some 18), .bin .add (.t 11) (.c (.int .i64 (1))), none⟩,
    ⟨(some 11), .mov (.t 18), none⟩] k33_2))))
  (.region [] k33_2))
def c33 : IFn := ⟨25, [],
  (.seq (.seq (.region [⟨(some 4), .mov (.t 0), none⟩,
    ⟨(some 5), .call 71 [(.t 4)], none⟩] k33_0)
  (.cond (.t 5)
  (.seq (.region [] k33_1)
  .ret)
  .skip))
  (.seq (.seq (.region [⟨(some 6), .mov (.t 0), none⟩,
    ⟨(some 7), .nilCheck (.t 6), none⟩,
    ⟨(some 8), .fieldAddr 1 (.t 7), none⟩,
    ⟨(some 9), .load none (.t 8), none⟩,
    ⟨(some 10), .lenSlice (.t 9), none⟩,
    ⟨(some 11), .mov (.c (.int .i64 (0))), none⟩] k33_2)
  (.block 0
  (.seq (.region [] k33_2)
  (.loop l33_0))))
  (.region [⟨(some 19), .mov (.t 0), none⟩,
    ⟨(some 20), .mov (.t 0), none⟩,
    ⟨(some 21), .nilCheck (.t 19), none⟩,
    ⟨(some 22), .fieldAddr 0 (.t 21), none⟩,
    ⟨none, .store 1 (.t 22) (.c (.ptr none)), none⟩,
    ⟨(some 23), .nilCheck (.t 20), none⟩,
    ⟨(some 24), .fieldAddr 1 (.t 23), none⟩,
    ⟨none, .store 1 (.t 24) (.c (.slice none 0 (some 0))), none⟩] k33_1)))⟩
theorem F33 : shutF Try.prog 33 = some c33 := by kernel_rfl


section
variable {o : Nat → Option O} {s : St} {C F : Ch} {Q : V → St → Prop}
set_option maxRecDepth 10000

theorem pages_get {l : List Nat} {i : Nat} (h : i < l.length) : (l.map fun n : Nat => I n)[i]? = some (I l[i]) := by simp [h]

theorem gives_loop {h p r pgk : Nat} {pages : List Nat} {c d v4 gp : V} {K : Kt} (mh : (h, some (.cells [ptrN p, c, d] none)) ∈ C) (mp : (pgk, pagesO pages) ∈ C) (hpl : pages.length ≤ 400) :
    ∀ (m i : Nat) (u : List Bool) (s : St), i + m = pages.length → u.length ≤ 400 → (∀ x ∈ pages, x < u.length) → Holds o s (poolC p r u ++ C) →
    (∀ s', Holds o s' (poolC p r (freeP u (pages.drop i)) ++ C) → WP (K (.exit 0) (.any :: gp :: .any :: .any :: .any :: .any :: .any :: .any :: .any :: .any :: .any :: .any :: .any :: .any :: .any :: .any :: .any :: .any :: .any :: .any :: .any :: .any :: .any :: .any :: .any :: .any :: .any :: .any :: .any :: .any :: .any :: .any :: .any :: .any :: .any :: .any :: .any :: .any :: .any :: .any :: .any :: .any :: .any :: .any :: .any :: .any :: []) s') Q) →
    WP (loop PF (.loop l76_0) ((ptrN h) :: gp :: .any :: .any :: v4 :: .any :: .any :: .any :: .any :: .any :: .any :: (rowV pgk pages.length) :: (I pages.length) :: (I i) :: .any :: .any :: .any :: .any :: .any :: .any :: .any :: .any :: .any :: .any :: .any :: .any :: .any :: .any :: .any :: .any :: .any :: .any :: .any :: .any :: .any :: .any :: .any :: .any :: .any :: .any :: .any :: .any :: .any :: .any :: .any :: .any :: []) s K) Q
  | 0, i, u, s, hi, hu, hx, H, q => by
    have hlt : ¬ ((i : Int) < (pages.length : Int)) := by omega
    refine wp_round fun LL hLL => ?_
    simp -implicitDefEqProofs only [↓GP, GB, GL, Nat.reduceAdd, Nat.reduceSub, Nat.reduceEqDiff, Nat.reduceMul, Nat.reduceLeDiff, Int.reduceBNe, Int.reduceBEq, Nat.reduceLT, reduceCtorEq, k76_0, k76_1, k76_2, k76_3, k76_4, k76_5, k76_6, k76_7, l76_0, hlt]
    refine q _ ?_
    rw [List.drop_eq_nil_of_le (by omega)]
    exact H
  | m + 1, i, u, s, hi, hu, hx, H, q => by
    have hlt : ((i : Int) < (pages.length : Int)) := by omega
    have hi' : i < pages.length := by omega
    have fh := H.mem (List.mem_append_right _ mh)
    rw [pagesO, rowO_pos (by omega)] at mp
    have fp := H.mem (List.mem_append_right _ mp)
    have f := Holds.f2 H
    have hpi : pages[i] < u.length := hx _ (List.getElem_mem hi')
    have hl : pages[i] < (u.map V.bool).length := by simpa using hpi
    have hw := wrap_add1 (a := i) (by omega)
    refine wp_round fun LL hLL => ?_
    simp -implicitDefEqProofs only [↓GP, GB, GL, Nat.reduceAdd, Nat.reduceSub, Nat.reduceEqDiff, Nat.reduceMul, Nat.reduceLeDiff, Int.reduceBNe, Int.reduceBEq, Nat.reduceLT, reduceCtorEq, k76_0, k76_1, k76_2, k76_3, k76_4, k76_5, k76_6, k76_7, l76_0, hlt, ix_row hi', fp, fh, f, pages_get hi', ix_cell hpi, hl, set_map, hw]
    rw [hLL]
    refine gives_loop (r := r) mh (by rw [pagesO, rowO_pos (by omega)]; exact mp) hpl m (i + 1) (u.set pages[i] false) _ (by omega) (by simpa using hu) (by simpa using hx) ?_ fun s' h' => q s' ?_
    · have := Holds.set1 H (.cells ((u.set pages[i] false).map .bool) none)
      simpa [poolC] using this
    · rw [List.drop_eq_getElem_cons hi']; exact h'

theorem s76 {h p r : Nat} {u : List Bool} {c d : V} {g : PReg} (H : Holds o s (poolC p r u ++ (g.ch ++ F))) (hu : u.length ≤ 400) (mh : (h, some (.cells [ptrN p, c, d] none)) ∈ F)
    (hp : ∀ x ∈ g.pages, x < u.length) (hpl : g.pages.length ≤ 400)
    (q : ∀ s' k, Holds o s' (poolC p r (freeP u g.pages) ++ (({ g with fill := 0, pages := [], objs := [], plk := k, pl := .map [] 0 } : PReg).ch ++ (g.objs.flatMap PObj.ch ++ F))) → Q (I g.pages.length) s') :
    WP (call PF 76 [ptrN h, ptrN g.id] s) Q := by
  have f := H.mem (List.mem_append_right _ (List.mem_append_left _ (List.mem_cons_self ..)))
  rw [call_run F76]; simp -implicitDefEqProofs only [↓GP, GB, GL, Nat.reduceAdd, Nat.reduceSub, Nat.reduceEqDiff, Nat.reduceMul, Nat.reduceLeDiff, Int.reduceBNe, Int.reduceBEq, Nat.reduceLT, reduceCtorEq, c76, k76_0, k76_1, k76_2, k76_3, k76_4, k76_5, k76_6, k76_7, f, PReg.hd]
  refine gives_loop (List.mem_append_right _ mh) (List.mem_append_left _ (List.mem_cons_of_mem _ (List.mem_cons_self ..))) hpl g.pages.length 0 u s (by omega) hu hp H fun s1 h1 => ?_
  rw [List.drop_zero] at h1
  have f := h1.mem (List.mem_append_right _ (List.mem_append_left _ (List.mem_cons_self ..)))
  simp -implicitDefEqProofs only [↓GP, GB, GL, Nat.reduceAdd, Nat.reduceSub, Nat.reduceEqDiff, Nat.reduceMul, Nat.reduceLeDiff, Int.reduceBNe, Int.reduceBEq, Nat.reduceLT, reduceCtorEq, k76_0, k76_1, k76_2, k76_3, k76_4, k76_5, k76_6, k76_7, f, PReg.hd]
  refine q _ s1.next ?_
  have h2 := ((((h1.alloc (.map [] 0)).set3 (.cells [I g.life, I g.size, .slice none 0 (some 0), I g.fill, rowV g.obk g.objs.length, .map (some (.new g.plk))] none)).set3
    (.cells [I g.life, I g.size, .slice none 0 (some 0), I 0, rowV g.obk g.objs.length, .map (some (.new g.plk))] none)).set3
    (.cells [I g.life, I g.size, .slice none 0 (some 0), I 0, .slice none 0 (some 0), .map (some (.new g.plk))] none)).set3
    (.cells [I g.life, I g.size, .slice none 0 (some 0), I 0, .slice none 0 (some 0), .map (some (.new s1.next))] none)
  exact (Holds.of (h2) (fun k => by simp +arith only [PReg.hd, rowV_zero, List.length_nil, Int.natCast_zero, I, ptrN, slN, alloc_next, set_next, World, PairG.ch, PairG.pc, PairG.hd, poolC, PReg.ch, PHeap.ch, PObj.ch, RReg.ch, RHeap.ch, RObj.ch, pagesO_nil, pObO_nil, rObO_nil, List.flatMap_append, List.flatMap_cons, List.flatMap_nil, List.append_eq, List.append_assoc, List.cons_append, List.nil_append, cnt_append, cnt_cons, cnt_nil, cnt1_ff, Option.isSome_some, Option.isSome_none]) (fun k x => by simp only [PReg.hd, rowV_zero, List.length_nil, Int.natCast_zero, I, ptrN, slN, alloc_next, set_next, World, PairG.ch, PairG.pc, PairG.hd, poolC, PReg.ch, PHeap.ch, PObj.ch, RReg.ch, RHeap.ch, RObj.ch, pagesO_nil, pObO_nil, rObO_nil, List.flatMap_append, List.flatMap_cons, List.flatMap_nil, List.append_eq, List.append_assoc, List.cons_append, List.nil_append, List.mem_append, List.mem_cons, List.not_mem_nil, mem_some_none, or_false, false_or]; grind only))

theorem s32_gone (hC : Holds o s C) {hv : V} (g : Gone C hv) : call PF 32 [hv] s = some (.tuple [I 0, I 6], s) := by
  have e := s71_gone hC g
  rw [call_run F32]; simp -implicitDefEqProofs only [↓GP, GB, GL, Nat.reduceAdd, Nat.reduceSub, Nat.reduceEqDiff, Nat.reduceMul, Nat.reduceLeDiff, Int.reduceBNe, Int.reduceBEq, Nat.reduceLT, reduceCtorEq, c32, k32_0, k32_1, k32_2, k32_3, k32_4, k32_5, k32_6, e]
theorem s32_one (hC : Holds o s C) {hp : PHeap} {p : Nat} (m1 : (hp.id, some (hp.hd p)) ∈ C) (h1 : hp.regs.length = 1) : call PF 32 [ptrN hp.id] s = some (.tuple [I 0, I 5], s) := by
  have f := hC.mem m1
  unfold PHeap.hd at f
  have e := s71 f.1
  rw [call_run F32]; simp -implicitDefEqProofs only [↓GP, GB, GL, Nat.reduceAdd, Nat.reduceSub, Nat.reduceEqDiff, Nat.reduceMul, Nat.reduceLeDiff, Int.reduceBNe, Int.reduceBEq, Nat.reduceLT, reduceCtorEq, c32, k32_0, k32_1, k32_2, k32_3, k32_4, k32_5, k32_6, e, f, h1, Int.cast_ofNat_Int]
theorem s32 {hp : PHeap} {p r : Nat} {u : List Bool} {A : List PReg} {g : PReg} (H : Holds o s (poolC p r u ++ (hp.ch p ++ F))) (hr : hp.regs = A ++ [g]) (hA : A ≠ []) (hlen : hp.regs.length ≤ 100000) (hu : u.length ≤ 400)
    (hp' : ∀ x ∈ g.pages, x < u.length) (hpl : g.pages.length ≤ 400)
    (q : ∀ s', Holds o s' (poolC p r (freeP u g.pages) ++ (({ hp with regs := A, sl := ptrN g.id :: hp.sl } : PHeap).ch p ++ F)) → Q (.tuple [I g.pages.length, I 0]) s') : WP (call PF 32 [ptrN hp.id] s) Q := by
  obtain ⟨id, rk, lives, regs, sl⟩ := hp
  simp only at hr
  subst hr
  have hApos : 0 < A.length := List.length_pos_iff.2 hA
  simp only [List.length_append, List.length_cons, List.length_nil] at hlen
  have hrow : PHeap.row ⟨id, rk, lives, A ++ [g], sl⟩ = some (.cells (A.map (fun r => ptrN r.id) ++ ptrN g.id :: sl) (some 1)) := by
    unfold PHeap.row; rw [rowO_pos (by simp)]; simp
  have hrow' : PHeap.row ⟨id, rk, lives, A, ptrN g.id :: sl⟩ = some (.cells (A.map (fun r => ptrN r.id) ++ ptrN g.id :: sl) (some 1)) := by
    unfold PHeap.row; rw [rowO_pos hApos]
  have hw : wrapI .i64 (((A.length + 1 : Nat) : Int) - 1) = I (A.length : Nat) := by rw [wrap_sub1 (by omega) (by omega)]; rfl
  have hne : (((A.length + 1 : Nat) : Int) == 1) = false := by simp; omega
  have H1 : Holds o s ((id, some (.cells [ptrN p, rowV rk (A.length + 1), I lives] none)) :: (rk, some (.cells (A.map (fun r => ptrN r.id) ++ ptrN g.id :: sl) (some 1))) :: (poolC p r u ++ (g.ch ++ (A.flatMap PReg.ch ++ F)))) := (Holds.of (H) (fun k => by simp +arith only [hrow, PHeap.hd, List.length_append, List.length_cons, List.length_nil, Nat.zero_add, I, ptrN, slN, alloc_next, set_next, World, PairG.ch, PairG.pc, PairG.hd, poolC, PReg.ch, PHeap.ch, PObj.ch, RReg.ch, RHeap.ch, RObj.ch, pagesO_nil, pObO_nil, rObO_nil, List.flatMap_append, List.flatMap_cons, List.flatMap_nil, List.append_eq, List.append_assoc, List.cons_append, List.nil_append, cnt_append, cnt_cons, cnt_nil, cnt1_ff, Option.isSome_some, Option.isSome_none]) (fun k x => by simp only [hrow, PHeap.hd, List.length_append, List.length_cons, List.length_nil, Nat.zero_add, I, ptrN, slN, alloc_next, set_next, World, PairG.ch, PairG.pc, PairG.hd, poolC, PReg.ch, PHeap.ch, PObj.ch, RReg.ch, RHeap.ch, RObj.ch, pagesO_nil, pObO_nil, rObO_nil, List.flatMap_append, List.flatMap_cons, List.flatMap_nil, List.append_eq, List.append_assoc, List.cons_append, List.nil_append, List.mem_append, List.mem_cons, List.not_mem_nil, mem_some_none, or_false, false_or]; grind only))
  have f := H1.f2
  have e := s71 f.1.1
  have hg : (A.map (fun r => ptrN r.id) ++ ptrN g.id :: sl)[A.length]? = some (ptrN g.id) := by simp
  rw [call_run F32]; simp -implicitDefEqProofs only [↓GP, GB, GL, Nat.reduceAdd, Nat.reduceSub, Nat.reduceEqDiff, Nat.reduceMul, Nat.reduceLeDiff, Int.reduceBNe, Int.reduceBEq, Nat.reduceLT, reduceCtorEq, c32, k32_0, k32_1, k32_2, k32_3, k32_4, k32_5, k32_6, e, f, hne, hw, ix_row (show A.length < A.length + 1 by omega), hg]
  refine wp_in (s76 (r := r) (u := u) (g := g) (F := (id, some (.cells [ptrN p, rowV rk (A.length + 1), I lives] none)) :: (rk, some (.cells (A.map (fun r => ptrN r.id) ++ ptrN g.id :: sl) (some 1))) :: (A.flatMap PReg.ch ++ F)) (Holds.of (H1) (fun k => by simp +arith only [I, ptrN, slN, alloc_next, set_next, World, PairG.ch, PairG.pc, PairG.hd, poolC, PReg.ch, PHeap.ch, PObj.ch, RReg.ch, RHeap.ch, RObj.ch, pagesO_nil, pObO_nil, rObO_nil, List.flatMap_append, List.flatMap_cons, List.flatMap_nil, List.append_eq, List.append_assoc, List.cons_append, List.nil_append, cnt_append, cnt_cons, cnt_nil, cnt1_ff, Option.isSome_some, Option.isSome_none]) (fun k x => by simp only [I, ptrN, slN, alloc_next, set_next, World, PairG.ch, PairG.pc, PairG.hd, poolC, PReg.ch, PHeap.ch, PObj.ch, RReg.ch, RHeap.ch, RObj.ch, pagesO_nil, pObO_nil, rObO_nil, List.flatMap_append, List.flatMap_cons, List.flatMap_nil, List.append_eq, List.append_assoc, List.cons_append, List.nil_append, List.mem_append, List.mem_cons, List.not_mem_nil, mem_some_none, or_false, false_or]; grind only)) hu (List.mem_cons_self ..) hp' hpl fun s1 k h1 => ?_)
  have h2 : Holds o s1 ((id, some (.cells [ptrN p, rowV rk (A.length + 1), I lives] none)) :: (rk, some (.cells (A.map (fun r => ptrN r.id) ++ ptrN g.id :: sl) (some 1))) :: (poolC p r (freeP u g.pages) ++ (A.flatMap PReg.ch ++ F))) := (Holds.of (h1) (fun k => by simp +arith only [I, ptrN, slN, alloc_next, set_next, World, PairG.ch, PairG.pc, PairG.hd, poolC, PReg.ch, PHeap.ch, PObj.ch, RReg.ch, RHeap.ch, RObj.ch, pagesO_nil, pObO_nil, rObO_nil, List.flatMap_append, List.flatMap_cons, List.flatMap_nil, List.append_eq, List.append_assoc, List.cons_append, List.nil_append, cnt_append, cnt_cons, cnt_nil, cnt1_ff, Option.isSome_some, Option.isSome_none]) (fun k x => by simp only [I, ptrN, slN, alloc_next, set_next, World, PairG.ch, PairG.pc, PairG.hd, poolC, PReg.ch, PHeap.ch, PObj.ch, RReg.ch, RHeap.ch, RObj.ch, pagesO_nil, pObO_nil, rObO_nil, List.flatMap_append, List.flatMap_cons, List.flatMap_nil, List.append_eq, List.append_assoc, List.cons_append, List.nil_append, List.mem_append, List.mem_cons, List.not_mem_nil, mem_some_none, or_false, false_or]; grind only))
  have f := h2.f2
  simp -implicitDefEqProofs only [↓GP, GB, GL, Nat.reduceAdd, Nat.reduceSub, Nat.reduceEqDiff, Nat.reduceMul, Nat.reduceLeDiff, Int.reduceBNe, Int.reduceBEq, Nat.reduceLT, reduceCtorEq, k32_0, k32_1, k32_2, k32_3, k32_4, k32_5, k32_6, f, slice_row hApos (show A.length ≤ A.length + 1 by omega), Option.map_none]
  refine q _ ?_
  have h3 := h2.set0 (.cells [ptrN p, rowV rk A.length, I lives] none)
  exact (Holds.of (h3) (fun k => by simp +arith only [hrow', PHeap.hd, I, ptrN, slN, alloc_next, set_next, World, PairG.ch, PairG.pc, PairG.hd, poolC, PReg.ch, PHeap.ch, PObj.ch, RReg.ch, RHeap.ch, RObj.ch, pagesO_nil, pObO_nil, rObO_nil, List.flatMap_append, List.flatMap_cons, List.flatMap_nil, List.append_eq, List.append_assoc, List.cons_append, List.nil_append, cnt_append, cnt_cons, cnt_nil, cnt1_ff, Option.isSome_some, Option.isSome_none]) (fun k x => by simp only [hrow', PHeap.hd, I, ptrN, slN, alloc_next, set_next, World, PairG.ch, PairG.pc, PairG.hd, poolC, PReg.ch, PHeap.ch, PObj.ch, RReg.ch, RHeap.ch, RObj.ch, pagesO_nil, pObO_nil, rObO_nil, List.flatMap_append, List.flatMap_cons, List.flatMap_nil, List.append_eq, List.append_assoc, List.cons_append, List.nil_append, List.mem_append, List.mem_cons, List.not_mem_nil, mem_some_none, or_false, false_or]; grind only))

theorem s31_err (hC : Holds o s C) {hv : V} {n err : Int} (e : AtErr C hv n err) (hone : hv.one = true) (hcl : hv.cells = [hv]) (q : ∀ s', Holds o s' C → Q (.tuple [I 0, I err]) s') : WP (call PF 31 [hv, I n] s) Q := by
  rw [call_run F31]; simp -implicitDefEqProofs only [↓GP, GB, GL, Nat.reduceAdd, Nat.reduceSub, Nat.reduceEqDiff, Nat.reduceMul, Nat.reduceLeDiff, Int.reduceBNe, Int.reduceBEq, Nat.reduceLT, reduceCtorEq, c31, k31_0, k31_1, k31_2, k31_3, k31_4, k31_5, k31_6]
  refine wp_in (s72_err hC e hone hcl fun s1 h1 => ?_)
  rcases e.ne with rfl | rfl
  · simp -implicitDefEqProofs only [↓GP, GB, GL, Nat.reduceAdd, Nat.reduceSub, Nat.reduceEqDiff, Nat.reduceMul, Nat.reduceLeDiff, Int.reduceBNe, Int.reduceBEq, Nat.reduceLT, reduceCtorEq, k31_0, k31_1, k31_2, k31_3, k31_4, k31_5, k31_6, Int.reduceBEq, Int.reduceBNe]
    exact q _ h1
  · simp -implicitDefEqProofs only [↓GP, GB, GL, Nat.reduceAdd, Nat.reduceSub, Nat.reduceEqDiff, Nat.reduceMul, Nat.reduceLeDiff, Int.reduceBNe, Int.reduceBEq, Nat.reduceLT, reduceCtorEq, k31_0, k31_1, k31_2, k31_3, k31_4, k31_5, k31_6, Int.reduceBEq, Int.reduceBNe]
    exact q _ h1

theorem s31_full (hC : Holds o s C) {hp : PHeap} {p i : Nat} (m1 : (hp.id, some (hp.hd p)) ∈ C) (m2 : (hp.rowk, hp.row) ∈ C) (hlen : hp.regs.length < 2 ^ 62) {r : PReg} (hr : hp.regs[i]? = some r) (hl : 100000 ≤ hp.lives)
    (q : ∀ s', Holds o s' C → Q (.tuple [I 0, I 4]) s') : WP (call PF 31 [ptrN hp.id, I i] s) Q := by
  rw [call_run F31]; simp -implicitDefEqProofs only [↓GP, GB, GL, Nat.reduceAdd, Nat.reduceSub, Nat.reduceEqDiff, Nat.reduceMul, Nat.reduceLeDiff, Int.reduceBNe, Int.reduceBEq, Nat.reduceLT, reduceCtorEq, c31, k31_0, k31_1, k31_2, k31_3, k31_4, k31_5, k31_6]
  refine wp_in (s72 hC m1 m2 hlen hr fun s1 h1 => ?_)
  have f := h1.mem m1
  unfold PHeap.hd at f
  have h0 : ((hp.lives : Int) ≥ 100000) := by omega
  simp -implicitDefEqProofs only [↓GP, GB, GL, Nat.reduceAdd, Nat.reduceSub, Nat.reduceEqDiff, Nat.reduceMul, Nat.reduceLeDiff, Int.reduceBNe, Int.reduceBEq, Nat.reduceLT, reduceCtorEq, k31_0, k31_1, k31_2, k31_3, k31_4, k31_5, k31_6, f, h0, Int.reduceBNe]
  exact q _ h1

theorem s31 {hp : PHeap} {p r : Nat} {u : List Bool} {A B : List PReg} {g : PReg} (H : Holds o s (poolC p r u ++ (hp.ch p ++ F))) (hr : hp.regs = A ++ g :: B) (hlen : hp.regs.length ≤ 100000) (hu : u.length ≤ 400)
    (hp' : ∀ x ∈ g.pages, x < u.length) (hpl : g.pages.length ≤ 400) (hl : hp.lives < 100000)
    (q : ∀ s' k, Holds o s' (poolC p r (freeP u g.pages) ++ (({ hp with lives := hp.lives + 1, regs := A ++ { g with life := hp.lives + 1, fill := 0, pages := [], objs := [], plk := k, pl := .map [] 0 } :: B } : PHeap).ch p ++ F)) →
      Q (.tuple [I (hp.lives + 1 : Nat), I 0]) s') : WP (call PF 31 [ptrN hp.id, I A.length] s) Q := by
  obtain ⟨id, rk, lives, regs, sl⟩ := hp
  simp only at hr
  subst hr
  rw [call_run F31]; simp -implicitDefEqProofs only [↓GP, GB, GL, Nat.reduceAdd, Nat.reduceSub, Nat.reduceEqDiff, Nat.reduceMul, Nat.reduceLeDiff, Int.reduceBNe, Int.reduceBEq, Nat.reduceLT, reduceCtorEq, c31, k31_0, k31_1, k31_2, k31_3, k31_4, k31_5, k31_6]
  refine wp_in (s72 (hp := ⟨id, rk, lives, A ++ g :: B, sl⟩) (r := g) (p := p) H (by simp [PHeap.ch]) (by simp [PHeap.ch]) (by simp only at hlen ⊢; omega) (by simp) fun s1 h1 => ?_)
  have f := h1.mem (k := id) (x := PHeap.hd p ⟨id, rk, lives, A ++ g :: B, sl⟩) (by simp [PHeap.ch])
  unfold PHeap.hd at f
  simp only at hl hlen
  have h0 : ¬ ((lives : Int) ≥ 100000) := by omega
  simp -implicitDefEqProofs only [↓GP, GB, GL, Nat.reduceAdd, Nat.reduceSub, Nat.reduceEqDiff, Nat.reduceMul, Nat.reduceLeDiff, Int.reduceBNe, Int.reduceBEq, Nat.reduceLT, reduceCtorEq, k31_0, k31_1, k31_2, k31_3, k31_4, k31_5, k31_6, f, h0, Int.reduceBNe]
  refine wp_in (s76 (r := r) (u := u) (g := g) (F := (id, some (PHeap.hd p ⟨id, rk, lives, A ++ g :: B, sl⟩)) :: (rk, PHeap.row ⟨id, rk, lives, A ++ g :: B, sl⟩) :: (A.flatMap PReg.ch ++ (B.flatMap PReg.ch ++ F))) (Holds.of (h1) (fun k => by simp +arith only [I, ptrN, slN, alloc_next, set_next, World, PairG.ch, PairG.pc, PairG.hd, poolC, PReg.ch, PHeap.ch, PObj.ch, RReg.ch, RHeap.ch, RObj.ch, pagesO_nil, pObO_nil, rObO_nil, List.flatMap_append, List.flatMap_cons, List.flatMap_nil, List.append_eq, List.append_assoc, List.cons_append, List.nil_append, cnt_append, cnt_cons, cnt_nil, cnt1_ff, Option.isSome_some, Option.isSome_none]) (fun k x => by simp only [I, ptrN, slN, alloc_next, set_next, World, PairG.ch, PairG.pc, PairG.hd, poolC, PReg.ch, PHeap.ch, PObj.ch, RReg.ch, RHeap.ch, RObj.ch, pagesO_nil, pObO_nil, rObO_nil, List.flatMap_append, List.flatMap_cons, List.flatMap_nil, List.append_eq, List.append_assoc, List.cons_append, List.nil_append, List.mem_append, List.mem_cons, List.not_mem_nil, mem_some_none, or_false, false_or]; grind only)) hu (List.mem_cons_self ..) hp' hpl fun s2 k h2 => ?_)
  have h3 : Holds o s2 ((id, some (.cells [ptrN p, rowV rk (A.length + (B.length + 1)), I lives] none)) :: (g.id, some (.cells [I g.life, I g.size, .slice none 0 (some 0), I 0, .slice none 0 (some 0), .map (some (.new k))] none)) ::
    (poolC p r (freeP u g.pages) ++ ((rk, PHeap.row ⟨id, rk, lives, A ++ g :: B, sl⟩) :: (k, some (.map [] 0)) :: (A.flatMap PReg.ch ++ (B.flatMap PReg.ch ++ F))))) := (Holds.of (h2) (fun k => by simp +arith only [PHeap.hd, PReg.hd, rowV_zero, List.length_nil, Int.natCast_zero, List.length_append, List.length_cons, I, ptrN, slN, alloc_next, set_next, World, PairG.ch, PairG.pc, PairG.hd, poolC, PReg.ch, PHeap.ch, PObj.ch, RReg.ch, RHeap.ch, RObj.ch, pagesO_nil, pObO_nil, rObO_nil, List.flatMap_append, List.flatMap_cons, List.flatMap_nil, List.append_eq, List.append_assoc, List.cons_append, List.nil_append, cnt_append, cnt_cons, cnt_nil, cnt1_ff, Option.isSome_some, Option.isSome_none]) (fun k x => by simp only [PHeap.hd, PReg.hd, rowV_zero, List.length_nil, Int.natCast_zero, List.length_append, List.length_cons, I, ptrN, slN, alloc_next, set_next, World, PairG.ch, PairG.pc, PairG.hd, poolC, PReg.ch, PHeap.ch, PObj.ch, RReg.ch, RHeap.ch, RObj.ch, pagesO_nil, pObO_nil, rObO_nil, List.flatMap_append, List.flatMap_cons, List.flatMap_nil, List.append_eq, List.append_assoc, List.cons_append, List.nil_append, List.mem_append, List.mem_cons, List.not_mem_nil, mem_some_none, or_false, false_or]; grind only))
  have f := h3.f2
  simp -implicitDefEqProofs only [↓GP, GB, GL, Nat.reduceAdd, Nat.reduceSub, Nat.reduceEqDiff, Nat.reduceMul, Nat.reduceLeDiff, Int.reduceBNe, Int.reduceBEq, Nat.reduceLT, reduceCtorEq, k31_0, k31_1, k31_2, k31_3, k31_4, k31_5, k31_6, f, wrap_add1 (show lives < 2 ^ 62 by omega)]
  refine q _ k ?_
  have h4 := (h3.set0 (.cells [ptrN p, rowV rk (A.length + (B.length + 1)), I (lives + 1 : Nat)] none)).set1 (.cells [I (lives + 1 : Nat), I g.size, .slice none 0 (some 0), I 0, .slice none 0 (some 0), .map (some (.new k))] none)
  exact (Holds.of (h4) (fun k => by simp +arith only [PHeap.hd, PReg.hd, PHeap.row, rowV_zero, List.length_nil, Int.natCast_zero, List.length_append, List.length_cons, List.map_append, List.map_cons, I, ptrN, slN, alloc_next, set_next, World, PairG.ch, PairG.pc, PairG.hd, poolC, PReg.ch, PHeap.ch, PObj.ch, RReg.ch, RHeap.ch, RObj.ch, pagesO_nil, pObO_nil, rObO_nil, List.flatMap_append, List.flatMap_cons, List.flatMap_nil, List.append_eq, List.append_assoc, List.cons_append, List.nil_append, cnt_append, cnt_cons, cnt_nil, cnt1_ff, Option.isSome_some, Option.isSome_none]) (fun k x => by simp only [PHeap.hd, PReg.hd, PHeap.row, rowV_zero, List.length_nil, Int.natCast_zero, List.length_append, List.length_cons, List.map_append, List.map_cons, I, ptrN, slN, alloc_next, set_next, World, PairG.ch, PairG.pc, PairG.hd, poolC, PReg.ch, PHeap.ch, PObj.ch, RReg.ch, RHeap.ch, RObj.ch, pagesO_nil, pObO_nil, rObO_nil, List.flatMap_append, List.flatMap_cons, List.flatMap_nil, List.append_eq, List.append_assoc, List.cons_append, List.nil_append, List.mem_append, List.mem_cons, List.not_mem_nil, mem_some_none, or_false, false_or]; grind only))

/-- All pages of all regions given back. -/
def freeAll (u : List Bool) (l : List (List Nat)) : List Bool := l.foldl freeP u
theorem drop_loop {h p r rk : Nat} {rs : List PReg} {sl : List V} {c d : V} {K : Kt} (mh : (h, some (.cells [ptrN p, c, d] none)) ∈ C) (mr : (rk, some (.cells (rs.map (fun r => ptrN r.id) ++ sl) (some 1))) ∈ C) (hn : rs.length ≤ 100000) :
    ∀ (m i : Nat) (u : List Bool) (s : St), i + m = rs.length → u.length ≤ 400 → (∀ g ∈ rs, (∀ x ∈ g.pages, x < u.length) ∧ g.pages.length ≤ 400) → Holds o s (poolC p r u ++ ((rs.drop i).flatMap PReg.ch ++ C)) →
    (∀ s', Holds o s' (poolC p r (freeAll u ((rs.drop i).map (·.pages))) ++ C) → WP (K (.exit 0) ((ptrN h) :: .any :: .any :: .any :: .any :: .any :: .any :: .any :: .any :: .any :: .any :: .any :: .any :: .any :: .any :: .any :: .any :: .any :: .any :: .any :: .any :: .any :: .any :: .any :: .any :: []) s') Q) →
    WP (loop PF (.loop l33_0) ((ptrN h) :: .any :: .any :: .any :: .any :: .any :: .any :: .any :: .any :: (rowV rk rs.length) :: (I rs.length) :: (I i) :: .any :: .any :: .any :: .any :: .any :: .any :: .any :: .any :: .any :: .any :: .any :: .any :: .any :: []) s K) Q
  | 0, i, u, s, hi, hu, hx, H, q => by
    have hlt : ¬ ((i : Int) < (rs.length : Int)) := by omega
    refine wp_round fun LL hLL => ?_
    simp -implicitDefEqProofs only [↓GP, GB, GL, Nat.reduceAdd, Nat.reduceSub, Nat.reduceEqDiff, Nat.reduceMul, Nat.reduceLeDiff, Int.reduceBNe, Int.reduceBEq, Nat.reduceLT, reduceCtorEq, k33_0, k33_1, k33_2, k33_3, k33_4, k33_5, l33_0, hlt]
    refine q _ ?_
    rw [List.drop_eq_nil_of_le (by omega)] at H ⊢
    exact H
  | m + 1, i, u, s, hi, hu, hx, H, q => by
    have hlt : ((i : Int) < (rs.length : Int)) := by omega
    have hi' : i < rs.length := by omega
    have hd : rs.drop i = rs[i] :: rs.drop (i + 1) := List.drop_eq_getElem_cons hi'
    have fr := H.mem (List.mem_append_right _ (List.mem_append_right _ mr))
    have hg : (rs.map (fun r => ptrN r.id) ++ sl)[i]? = some (ptrN rs[i].id) := by rw [List.getElem?_append_left (by simpa using hi')]; simp [hi']
    have hx' := hx rs[i] (List.getElem_mem hi')
    rw [hd] at H
    refine wp_round fun LL hLL => ?_
    simp -implicitDefEqProofs only [↓GP, GB, GL, Nat.reduceAdd, Nat.reduceSub, Nat.reduceEqDiff, Nat.reduceMul, Nat.reduceLeDiff, Int.reduceBNe, Int.reduceBEq, Nat.reduceLT, reduceCtorEq, k33_0, k33_1, k33_2, k33_3, k33_4, k33_5, l33_0, hlt, ix_row hi', fr, hg]
    refine wp_in (s76 (r := r) (u := u) (g := rs[i]) (F := (rs.drop (i + 1)).flatMap PReg.ch ++ C) (Holds.of (H) (fun k => by simp +arith only [I, ptrN, slN, alloc_next, set_next, World, PairG.ch, PairG.pc, PairG.hd, poolC, PReg.ch, PHeap.ch, PObj.ch, RReg.ch, RHeap.ch, RObj.ch, pagesO_nil, pObO_nil, rObO_nil, List.flatMap_append, List.flatMap_cons, List.flatMap_nil, List.append_eq, List.append_assoc, List.cons_append, List.nil_append, cnt_append, cnt_cons, cnt_nil, cnt1_ff, Option.isSome_some, Option.isSome_none]) (fun k x => by simp only [I, ptrN, slN, alloc_next, set_next, World, PairG.ch, PairG.pc, PairG.hd, poolC, PReg.ch, PHeap.ch, PObj.ch, RReg.ch, RHeap.ch, RObj.ch, pagesO_nil, pObO_nil, rObO_nil, List.flatMap_append, List.flatMap_cons, List.flatMap_nil, List.append_eq, List.append_assoc, List.cons_append, List.nil_append, List.mem_append, List.mem_cons, List.not_mem_nil, mem_some_none, or_false, false_or]; grind only)) hu (List.mem_append_right _ mh) hx'.1 hx'.2 fun s1 k h1 => ?_)
    simp -implicitDefEqProofs only [↓GP, GB, GL, Nat.reduceAdd, Nat.reduceSub, Nat.reduceEqDiff, Nat.reduceMul, Nat.reduceLeDiff, Int.reduceBNe, Int.reduceBEq, Nat.reduceLT, reduceCtorEq, k33_0, k33_1, k33_2, k33_3, k33_4, k33_5, wrap_add1 (show i < 2 ^ 62 by omega)]
    rw [hLL]
    refine drop_loop (r := r) mh mr hn m (i + 1) (freeP u rs[i].pages) _ (by omega) (by rw [freeP_len]; exact hu) (by rw [freeP_len]; exact hx) (Holds.of (h1) (fun k => by simp +arith only [I, ptrN, slN, alloc_next, set_next, World, PairG.ch, PairG.pc, PairG.hd, poolC, PReg.ch, PHeap.ch, PObj.ch, RReg.ch, RHeap.ch, RObj.ch, pagesO_nil, pObO_nil, rObO_nil, List.flatMap_append, List.flatMap_cons, List.flatMap_nil, List.append_eq, List.append_assoc, List.cons_append, List.nil_append, cnt_append, cnt_cons, cnt_nil, cnt1_ff, Option.isSome_some, Option.isSome_none]) (fun k x => by simp only [I, ptrN, slN, alloc_next, set_next, World, PairG.ch, PairG.pc, PairG.hd, poolC, PReg.ch, PHeap.ch, PObj.ch, RReg.ch, RHeap.ch, RObj.ch, pagesO_nil, pObO_nil, rObO_nil, List.flatMap_append, List.flatMap_cons, List.flatMap_nil, List.append_eq, List.append_assoc, List.cons_append, List.nil_append, List.mem_append, List.mem_cons, List.not_mem_nil, mem_some_none, or_false, false_or]; grind only)) fun s' h' => q s' ?_
    rw [hd]; exact h'

theorem s33_gone (hC : Holds o s C) {hv : V} (g : Gone C hv) : call PF 33 [hv] s = some (.tuple [], s) := by
  have e := s71_gone hC g
  rw [call_run F33]; simp -implicitDefEqProofs only [↓GP, GB, GL, Nat.reduceAdd, Nat.reduceSub, Nat.reduceEqDiff, Nat.reduceMul, Nat.reduceLeDiff, Int.reduceBNe, Int.reduceBEq, Nat.reduceLT, reduceCtorEq, c33, k33_0, k33_1, k33_2, k33_3, k33_4, k33_5, e]
theorem s33 {hp : PHeap} {p r : Nat} {u : List Bool} (H : Holds o s (poolC p r u ++ (hp.ch p ++ F))) (h0 : hp.regs ≠ []) (hlen : hp.regs.length ≤ 100000) (hu : u.length ≤ 400)
    (hx : ∀ g ∈ hp.regs, (∀ x ∈ g.pages, x < u.length) ∧ g.pages.length ≤ 400)
    (q : ∀ s', Holds o s' (poolC p r (freeAll u (hp.regs.map (·.pages))) ++ ((hp.id, some (.cells [.ptr none, .slice none 0 (some 0), I hp.lives] none)) :: F)) → Q (.tuple []) s') : WP (call PF 33 [ptrN hp.id] s) Q := by
  have hrow : hp.row = some (.cells (hp.regs.map (fun r => ptrN r.id) ++ hp.sl) (some 1)) := by unfold PHeap.row; rw [rowO_pos (List.length_pos_iff.2 h0)]
  have H1 : Holds o s (poolC p r u ++ (hp.regs.flatMap PReg.ch ++ ((hp.id, some (.cells [ptrN p, rowV hp.rowk hp.regs.length, I hp.lives] none)) :: (hp.rowk, some (.cells (hp.regs.map (fun r => ptrN r.id) ++ hp.sl) (some 1))) :: F))) := (Holds.of (H) (fun k => by simp +arith only [hrow, PHeap.hd, I, ptrN, slN, alloc_next, set_next, World, PairG.ch, PairG.pc, PairG.hd, poolC, PReg.ch, PHeap.ch, PObj.ch, RReg.ch, RHeap.ch, RObj.ch, pagesO_nil, pObO_nil, rObO_nil, List.flatMap_append, List.flatMap_cons, List.flatMap_nil, List.append_eq, List.append_assoc, List.cons_append, List.nil_append, cnt_append, cnt_cons, cnt_nil, cnt1_ff, Option.isSome_some, Option.isSome_none]) (fun k x => by simp only [hrow, PHeap.hd, I, ptrN, slN, alloc_next, set_next, World, PairG.ch, PairG.pc, PairG.hd, poolC, PReg.ch, PHeap.ch, PObj.ch, RReg.ch, RHeap.ch, RObj.ch, pagesO_nil, pObO_nil, rObO_nil, List.flatMap_append, List.flatMap_cons, List.flatMap_nil, List.append_eq, List.append_assoc, List.cons_append, List.nil_append, List.mem_append, List.mem_cons, List.not_mem_nil, mem_some_none, or_false, false_or]; grind only))
  have f := H1.mem (k := hp.id) (x := .cells [ptrN p, rowV hp.rowk hp.regs.length, I hp.lives] none) (by simp)
  have e := s71 f.1
  rw [call_run F33]; simp -implicitDefEqProofs only [↓GP, GB, GL, Nat.reduceAdd, Nat.reduceSub, Nat.reduceEqDiff, Nat.reduceMul, Nat.reduceLeDiff, Int.reduceBNe, Int.reduceBEq, Nat.reduceLT, reduceCtorEq, c33, k33_0, k33_1, k33_2, k33_3, k33_4, k33_5, e, f]
  refine drop_loop (r := r) (p := p) (sl := hp.sl) (C := (hp.id, some (.cells [ptrN p, rowV hp.rowk hp.regs.length, I hp.lives] none)) :: (hp.rowk, some (.cells (hp.regs.map (fun r => ptrN r.id) ++ hp.sl) (some 1))) :: F) (List.mem_cons_self ..) (List.mem_cons_of_mem _ (List.mem_cons_self ..)) hlen hp.regs.length 0 u s (by omega) hu hx (by rw [List.drop_zero]; exact H1) fun s1 h1 => ?_
  rw [List.drop_zero] at h1
  have h2 : Holds o s1 ((hp.id, some (.cells [ptrN p, rowV hp.rowk hp.regs.length, I hp.lives] none)) :: (poolC p r (freeAll u (hp.regs.map (·.pages))) ++ F)) := (Holds.of (h1) (fun k => by simp +arith only [I, ptrN, slN, alloc_next, set_next, World, PairG.ch, PairG.pc, PairG.hd, poolC, PReg.ch, PHeap.ch, PObj.ch, RReg.ch, RHeap.ch, RObj.ch, pagesO_nil, pObO_nil, rObO_nil, List.flatMap_append, List.flatMap_cons, List.flatMap_nil, List.append_eq, List.append_assoc, List.cons_append, List.nil_append, cnt_append, cnt_cons, cnt_nil, cnt1_ff, Option.isSome_some, Option.isSome_none]) (fun k x => by simp only [I, ptrN, slN, alloc_next, set_next, World, PairG.ch, PairG.pc, PairG.hd, poolC, PReg.ch, PHeap.ch, PObj.ch, RReg.ch, RHeap.ch, RObj.ch, pagesO_nil, pObO_nil, rObO_nil, List.flatMap_append, List.flatMap_cons, List.flatMap_nil, List.append_eq, List.append_assoc, List.cons_append, List.nil_append, List.mem_append, List.mem_cons, List.not_mem_nil, mem_some_none, or_false, false_or]; grind only))
  simp -implicitDefEqProofs only [↓GP, GB, GL, Nat.reduceAdd, Nat.reduceSub, Nat.reduceEqDiff, Nat.reduceMul, Nat.reduceLeDiff, Int.reduceBNe, Int.reduceBEq, Nat.reduceLT, reduceCtorEq, k33_0, k33_1, k33_2, k33_3, k33_4, k33_5, h2.f1]
  refine q _ ?_
  have h3 := (h2.set0 (.cells [.ptr none, rowV hp.rowk hp.regs.length, I hp.lives] none)).set0 (.cells [.ptr none, .slice none 0 (some 0), I hp.lives] none)
  exact (Holds.of (h3) (fun k => by simp +arith only [I, ptrN, slN, alloc_next, set_next, World, PairG.ch, PairG.pc, PairG.hd, poolC, PReg.ch, PHeap.ch, PObj.ch, RReg.ch, RHeap.ch, RObj.ch, pagesO_nil, pObO_nil, rObO_nil, List.flatMap_append, List.flatMap_cons, List.flatMap_nil, List.append_eq, List.append_assoc, List.cons_append, List.nil_append, cnt_append, cnt_cons, cnt_nil, cnt1_ff, Option.isSome_some, Option.isSome_none]) (fun k x => by simp only [I, ptrN, slN, alloc_next, set_next, World, PairG.ch, PairG.pc, PairG.hd, poolC, PReg.ch, PHeap.ch, PObj.ch, RReg.ch, RHeap.ch, RObj.ch, pagesO_nil, pObO_nil, rObO_nil, List.flatMap_append, List.flatMap_cons, List.flatMap_nil, List.append_eq, List.append_assoc, List.cons_append, List.nil_append, List.mem_append, List.mem_cons, List.not_mem_nil, mem_some_none, or_false, false_or]; grind only))
end
end Go.Proofs.Ytoldkemimhebaaa
