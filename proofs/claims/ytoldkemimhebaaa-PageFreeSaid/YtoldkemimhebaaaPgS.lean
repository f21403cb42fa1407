/- The functions of layer 15, on the ideal machine: laying objects, storing them, opening. -/
import Derived.Test.YtoldkemimhebaaaPgQ
set_option linter.unusedSimpArgs false
set_option linter.unusedVariables false
namespace Go.Proofs.Ytoldkemimhebaaa
open Go Go.IM

-- (*virgate/page.Heap).put
def k77_0 : List Bool := [tt,tt,tt,ff,ff,ff,ff,ff,ff,ff,ff,ff,ff,ff,ff,ff,ff,ff,ff,ff,ff,ff,ff,ff,ff,ff,ff,ff,ff,ff,ff,ff,ff,ff,ff,ff,ff,ff,ff,ff,ff,ff,ff,ff,ff,ff,ff,ff,ff,ff,ff,ff,ff,ff,ff,ff,ff,ff,ff,ff,ff,ff,ff,ff,ff,ff,ff,ff,ff,ff,ff,ff,ff,ff,ff,ff,ff,ff,ff,ff,ff,ff,ff,ff,ff,ff,ff,ff,ff,ff,ff,ff,ff,ff,ff,ff,ff,ff,ff,ff,ff,ff,ff,ff,ff,ff,ff,ff,ff,ff,ff,ff,ff,ff,ff,ff,ff,ff,ff,ff,ff,ff,ff]
def k77_1 : List Bool := [tt,tt,tt,ff,ff,ff,ff,tt,ff,ff,ff,ff,ff,ff,ff,ff,ff,ff,ff,ff,ff,ff,ff,ff,ff,ff,ff,ff,ff,ff,ff,ff,ff,ff,ff,ff,ff,ff,ff,ff,ff,ff,ff,ff,ff,ff,ff,ff,ff,ff,ff,ff,ff,ff,ff,ff,ff,ff,ff,ff,ff,ff,ff,ff,ff,ff,ff,ff,ff,ff,ff,ff,ff,ff,ff,ff,ff,ff,ff,ff,ff,ff,ff,ff,ff,ff,ff,ff,ff,ff,ff,ff,ff,ff,ff,ff,ff,ff,ff,ff,ff,ff,ff,ff,ff,ff,ff,ff,ff,ff,ff,ff,ff,ff,ff,ff,ff,ff,ff,ff,ff,ff,ff]
def k77_2 : List Bool := [tt,tt,tt,ff,ff,ff,ff,tt,ff,ff,ff,ff,ff,ff,ff,ff,ff,ff,ff,ff,ff,ff,ff,ff,ff,ff,ff,ff,ff,ff,ff,ff,ff,ff,ff,ff,ff,ff,ff,ff,ff,ff,ff,ff,ff,tt,ff,ff,ff,ff,ff,ff,ff,ff,ff,ff,ff,ff,ff,ff,ff,ff,ff,ff,ff,ff,ff,ff,ff,ff,ff,ff,ff,ff,ff,ff,ff,ff,ff,ff,ff,ff,ff,ff,ff,ff,ff,ff,ff,ff,ff,ff,ff,ff,ff,ff,ff,ff,ff,ff,ff,ff,ff,ff,ff,ff,ff,ff,ff,ff,ff,ff,ff,ff,ff,ff,ff,ff,ff,ff,ff,ff,ff]
def k77_3 : List Bool := [ff,tt,tt,ff,ff,ff,ff,ff,ff,ff,ff,ff,ff,ff,ff,ff,ff,ff,ff,ff,ff,ff,ff,ff,ff,ff,ff,ff,ff,ff,ff,ff,ff,ff,ff,ff,ff,ff,ff,ff,ff,ff,ff,ff,ff,ff,ff,ff,ff,ff,ff,ff,ff,ff,ff,ff,ff,ff,ff,ff,ff,ff,ff,ff,ff,ff,ff,ff,ff,ff,ff,ff,ff,ff,ff,ff,ff,ff,ff,ff,ff,ff,ff,ff,ff,ff,ff,ff,ff,ff,ff,ff,ff,ff,ff,ff,ff,ff,ff,ff,ff,ff,ff,ff,ff,ff,ff,ff,ff,ff,ff,ff,ff,ff,ff,ff,ff,ff,ff,ff,ff,ff,ff]
def k77_4 : List Bool := [tt,tt,tt,ff,ff,ff,ff,tt,ff,ff,ff,ff,ff,ff,ff,ff,ff,ff,ff,ff,ff,ff,ff,ff,ff,ff,ff,ff,ff,ff,ff,ff,ff,ff,ff,ff,ff,ff,ff,ff,ff,ff,ff,ff,ff,ff,ff,ff,ff,ff,ff,ff,ff,ff,ff,ff,ff,ff,ff,tt,ff,ff,ff,ff,ff,ff,ff,ff,ff,ff,ff,ff,ff,ff,ff,ff,ff,ff,ff,ff,ff,ff,ff,ff,ff,ff,ff,ff,ff,ff,ff,ff,ff,ff,ff,ff,ff,ff,ff,ff,ff,ff,ff,ff,ff,ff,ff,ff,ff,ff,ff,ff,ff,ff,ff,ff,ff,ff,ff,ff,ff,ff,ff]
def k77_5 : List Bool := [ff,tt,tt,ff,ff,ff,ff,tt,ff,ff,ff,ff,ff,ff,ff,ff,ff,ff,ff,ff,ff,ff,ff,ff,ff,ff,ff,ff,ff,ff,ff,ff,ff,ff,ff,ff,ff,ff,ff,ff,ff,ff,ff,ff,ff,ff,ff,ff,ff,ff,ff,ff,ff,ff,ff,ff,ff,ff,ff,ff,ff,ff,ff,ff,ff,ff,ff,ff,ff,ff,ff,ff,ff,ff,ff,ff,ff,ff,ff,ff,ff,ff,ff,ff,ff,ff,ff,ff,ff,ff,ff,ff,ff,ff,ff,ff,ff,ff,ff,ff,ff,ff,ff,ff,ff,ff,ff,ff,ff,ff,ff,ff,ff,ff,ff,ff,ff,ff,ff,ff,ff,ff,ff]
def k77_6 : List Bool := [ff,tt,tt,ff,ff,ff,ff,tt,tt,tt,ff,ff,ff,ff,ff,ff,ff,ff,ff,ff,ff,ff,ff,ff,ff,ff,ff,ff,ff,ff,ff,ff,ff,ff,ff,ff,ff,ff,ff,ff,ff,ff,ff,ff,ff,ff,ff,ff,ff,ff,ff,ff,ff,ff,ff,ff,ff,ff,ff,ff,ff,ff,ff,ff,ff,ff,ff,ff,ff,ff,ff,ff,ff,ff,ff,ff,ff,ff,ff,ff,ff,ff,ff,ff,ff,ff,ff,ff,ff,ff,ff,ff,ff,ff,ff,ff,ff,ff,ff,ff,ff,ff,ff,ff,ff,ff,ff,ff,ff,ff,ff,ff,ff,ff,ff,ff,ff,ff,ff,ff,ff,ff,ff]
def k77_7 : List Bool := [ff,tt,tt,ff,ff,ff,ff,tt,tt,ff,ff,ff,ff,ff,ff,ff,ff,ff,ff,ff,ff,ff,ff,ff,ff,tt,ff,ff,ff,ff,ff,ff,ff,ff,ff,ff,ff,ff,ff,ff,ff,ff,ff,ff,ff,ff,ff,ff,ff,ff,ff,ff,ff,ff,ff,ff,ff,ff,ff,ff,ff,ff,ff,ff,ff,ff,ff,ff,ff,ff,ff,ff,ff,ff,ff,ff,ff,ff,ff,ff,ff,ff,ff,ff,ff,ff,ff,ff,ff,ff,ff,ff,ff,ff,ff,ff,ff,ff,ff,ff,ff,ff,ff,ff,ff,ff,ff,ff,ff,ff,ff,ff,ff,ff,ff,ff,ff,ff,ff,ff,ff,ff,ff]
def k77_8 : List Bool := [ff,ff,ff,ff,ff,ff,tt,ff,ff,ff,ff,ff,ff,ff,ff,ff,ff,ff,ff,ff,ff,ff,ff,ff,ff,ff,ff,ff,ff,ff,ff,ff,ff,ff,ff,ff,ff,ff,ff,ff,ff,ff,ff,ff,ff,ff,ff,ff,ff,ff,ff,ff,ff,ff,ff,ff,ff,ff,ff,ff,ff,ff,ff,ff,ff,ff,ff,ff,ff,ff,ff,ff,ff,ff,ff,ff,ff,ff,ff,ff,ff,ff,ff,ff,ff,ff,ff,ff,ff,ff,ff,ff,ff,ff,ff,ff,ff,ff,ff,ff,ff,ff,ff,ff,ff,ff,ff,ff,ff,ff,ff,ff,ff,ff,ff,ff,ff,ff,ff,ff,ff,ff,ff]
def k77_9 : List Bool := [ff,tt,tt,ff,ff,ff,ff,tt,tt,ff,ff,ff,ff,ff,ff,ff,ff,ff,ff,ff,ff,ff,ff,ff,ff,ff,ff,ff,ff,ff,ff,ff,ff,ff,ff,ff,ff,ff,ff,ff,ff,ff,ff,ff,ff,ff,ff,ff,ff,ff,ff,ff,ff,ff,ff,ff,ff,ff,ff,ff,ff,ff,ff,ff,ff,ff,ff,ff,ff,ff,ff,ff,ff,ff,ff,ff,ff,ff,ff,ff,ff,ff,ff,ff,ff,ff,ff,ff,ff,ff,ff,ff,ff,ff,ff,ff,ff,ff,ff,ff,ff,ff,ff,ff,ff,ff,ff,ff,ff,ff,ff,ff,ff,ff,ff,ff,ff,ff,ff,ff,ff,ff,ff]
def k77_10 : List Bool := [ff,ff,ff,ff,ff,ff,ff,ff,ff,ff,ff,ff,ff,ff,ff,ff,ff,ff,ff,ff,ff,ff,ff,ff,ff,ff,ff,ff,ff,ff,ff,ff,ff,ff,ff,ff,ff,ff,ff,ff,ff,ff,ff,ff,ff,ff,ff,ff,ff,ff,ff,ff,ff,ff,ff,ff,ff,ff,ff,ff,ff,ff,ff,ff,ff,ff,ff,ff,ff,ff,ff,ff,ff,ff,ff,ff,ff,ff,ff,ff,ff,ff,ff,ff,ff,ff,ff,ff,ff,ff,ff,ff,ff,ff,ff,ff,ff,ff,ff,ff,ff,ff,ff,ff,ff,ff,ff,ff,ff,ff,ff,ff,ff,ff,ff,ff,ff,ff,ff,ff,ff,ff,ff]
def j77_bbaabbbbbb : IC := (.seq (.region [⟨(some 26), .mov (.t 1), none⟩,
    ⟨(some 27), .mov (.t 1), none⟩,
    ⟨(some 28), .nilCheck (.t 27), none⟩,
    ⟨(some 29), .fieldAddr 2 (.t 28), none⟩,
    ⟨(some 30), .load none (.t 29), none⟩,
    ⟨(some 31), .mov (.t 8), none⟩,
    ⟨(some 32), .buildSlice 1 [(.int .i64 (0))] [(0, 1, (.t 31))], none⟩,
    ⟨(some 33), .append 1 8 (.t 30) (.t 32), none⟩,
    ⟨(some 34), .nilCheck (.t 26), none⟩,
    ⟨(some 35), .fieldAddr 2 (.t 34), none⟩,
    ⟨none, .store 1 (.t 35) (.t 33), none⟩] k77_9)
  (.region [⟨(some 36), .mov (.t 2), none⟩,
    ⟨(some 37), .mov (.t 1), none⟩,
    ⟨(some 38), .mov (.t 8), none⟩,
    ⟨(some 39), .bin .mul (.t 38) (.c (.int .i64 (32))), none⟩,
    ⟨(some 40), .mov (.t 7), none⟩,
    ⟨(some 41), .nilCheck (.t 36), none⟩,
    ⟨(some 42), .fieldAddr 0 (.t 41), none⟩,
    ⟨none, .store 1 (.t 42) (.t 39), none⟩,
    ⟨(some 43), .nilCheck (.t 37), none⟩,
    ⟨(some 44), .fieldAddr 3 (.t 43), none⟩,
    ⟨none, .store 1 (.t 44) (.t 40), none⟩] k77_3))
def j77_bbb : IC := (.seq (.region [⟨(some 104), .mov (.t 1), none⟩,
    ⟨(some 105), .mov (.t 1), none⟩,
    ⟨(some 106), .nilCheck (.t 105), none⟩,
    ⟨(some 107), .fieldAddr 4 (.t 106), none⟩,
    ⟨(some 108), .load none (.t 107), none⟩,
    ⟨(some 109), .mov (.t 2), none⟩,
    ⟨(some 110), .buildSlice 1 [(.ptr none)] [(0, 1, (.t 109))], none⟩,
    ⟨(some 111), .append 1 8 (.t 108) (.t 110), none⟩,
    ⟨(some 112), .nilCheck (.t 104), none⟩,
    ⟨(some 113), .fieldAddr 4 (.t 112), none⟩,
    ⟨none, .store 1 (.t 113) (.t 111), none⟩] k77_3)
  (.seq (.region [⟨(some 114), .mov (.t 1), none⟩,
    ⟨(some 115), .nilCheck (.t 114), none⟩,
    ⟨(some 116), .fieldAddr 5 (.t 115), none⟩,
    ⟨(some 117), .load none (.t 116), none⟩,
    ⟨(some 118), .mov (.t 2), none⟩,
    ⟨(some 119), .nilCheck (.t 118), none⟩,
    ⟨(some 120), .fieldAddr 0 (.t 119), none⟩,
    ⟨(some 121), .load none (.t 120), none⟩,
    ⟨(some 122), .mov (.t 2), none⟩,
    ⟨none, .mapSet (.one .i) (.t 117) (.t 121) (.t 122), none⟩] k77_10)
  (.seq (.region [⟨(some 6), .mov (.c (.bool true)), none⟩] k77_8)
  (.seq (.region [] k77_8)
  .ret))))
def c77 : IFn := ⟨123, [(6, none)],
  (.seq (.region [⟨(some 6), .mov (.c (.bool false)), none⟩] k77_0)
  (.seq (.region [⟨(some 10), .mov (.t 2), none⟩,
    ⟨(some 11), .nilCheck (.t 10), none⟩,
    ⟨(some 12), .fieldAddr 2 (.t 11), none⟩,
    ⟨(some 13), .load none (.t 12), none⟩,
    ⟨(some 14), .lenSlice (.t 13), none⟩,
    ⟨(some 15), .bin .add (.t 14) (.c (.int .i64 (1))), none⟩,
    ⟨(some 7), .mov (.t 15), none⟩] k77_1)
  (.seq (.block 0
  (.seq (.region [⟨(some 46), .mov (.t 1), none⟩,
    ⟨(some 47), .nilCheck (.t 46), none⟩,
    ⟨(some 48), .fieldAddr 1 (.t 47), none⟩,
    ⟨(some 49), .load none (.t 48), none⟩,
    ⟨(some 50), .bin .gtr (.t 49) (.c (.int .i64 (0))), none⟩,
    ⟨(some 45), .mov (.t 50), none⟩] k77_2)
  (.cond (.t 45)
  (.region [⟨(some 51), .mov (.t 2), none⟩,
    ⟨(some 52), .mov (.t 1), none⟩,
    ⟨(some 53), .nilCheck (.t 52), none⟩,
    ⟨(some 54), .fieldAddr 0 (.t 53), none⟩,
    ⟨(some 55), .load none (.t 54), none⟩,
    ⟨(some 56), .bin .add (.c (.int .i64 (1000000))) (.t 55), none⟩,
    ⟨(some 57), .nilCheck (.t 51), none⟩,
    ⟨(some 58), .fieldAddr 0 (.t 57), none⟩,
    ⟨none, .store 1 (.t 58) (.t 56), none⟩] k77_3)
  (.seq (.region [⟨(some 60), .mov (.t 1), none⟩,
    ⟨(some 61), .nilCheck (.t 60), none⟩,
    ⟨(some 62), .fieldAddr 2 (.t 61), none⟩,
    ⟨(some 63), .load none (.t 62), none⟩,
    ⟨(some 64), .lenSlice (.t 63), none⟩,
    ⟨(some 65), .bin .gtr (.t 64) (.c (.int .i64 (0))), none⟩,
    ⟨(some 66), .mov (.t 65), none⟩,
    ⟨(some 67), .mov (.t 1), (some (66, true))⟩,
    ⟨(some 68), .nilCheck (.t 67), (some (66, true))⟩,
    ⟨(some 69), .fieldAddr 3 (.t 68), (some (66, true))⟩,
    ⟨(some 70), .load none (.t 69), (some (66, true))⟩,
    ⟨(some 71), .mov (.t 7), (some (66, true))⟩,
    ⟨(some 72), .bin .add (.t 70) (.t 71), (some (66, true))⟩,
    ⟨(some 73), .bin .leq (.t 72) (.c (.int .i64 (32))), (some (66, true))⟩,
    ⟨(some 74), .pick (.t 66) (.t 73) (.c (.bool false)), none⟩,
    ⟨(some 59), .mov (.t 74), none⟩] k77_4)
  (.cond (.t 59)
  (.seq (.region [⟨(some 75), .mov (.t 2), none⟩,
    ⟨(some 76), .mov (.t 1), none⟩,
    ⟨(some 77), .nilCheck (.t 76), none⟩,
    ⟨(some 78), .fieldAddr 2 (.t 77), none⟩,
    ⟨(some 79), .load none (.t 78), none⟩,
    ⟨(some 80), .mov (.t 1), none⟩,
    ⟨(some 81), .nilCheck (.t 80), none⟩,
    ⟨(some 82), .fieldAddr 2 (.t 81), none⟩,
    ⟨(some 83), .load none (.t 82), none⟩,
    ⟨(some 84), .lenSlice (.t 83), none⟩,
    ⟨(some 85), .bin .sub (.t 84) (.c (.int .i64 (1))), none⟩,
    ⟨(some 86), .indexAddr 1 (.t 79) (.t 85), none⟩,
    ⟨(some 87), .load none (.t 86), none⟩,
    ⟨(some 88), .bin .mul (.t 87) (.c (.int .i64 (32))), none⟩,
    ⟨(some 89), .mov (.t 1), none⟩,
    ⟨(some 90), .nilCheck (.t 89), none⟩,
    ⟨(some 91), .fieldAddr 3 (.t 90), none⟩,
    ⟨(some 92), .load none (.t 91), none⟩,
    ⟨(some 93), .bin .add (.t 88) (.t 92), none⟩,
    ⟨(some 94), .nilCheck (.t 75), none⟩,
    ⟨(some 95), .fieldAddr 0 (.t 94), none⟩,
    ⟨none, .store 1 (.t 95) (.t 93), none⟩] k77_5)
  (.region [⟨(some 96), .mov (.t 1), none⟩,
    ⟨(some 97), .nilCheck (.t 96), none⟩,
    ⟨(some 98), .fieldAddr 3 (.t 97), none⟩,
    ⟨(some 99), .load none (.t 98), none⟩,
    ⟨(some 100), .mov (.t 7), none⟩,
    ⟨(some 101), .bin .add (.t 99) (.t 100), none⟩,
    ⟨(some 102), .nilCheck (.t 96), none⟩,
    ⟨(some 103), .fieldAddr 3 (.t 102), none⟩,
    ⟨none, .store 1 (.t 103) (.t 101), none⟩] k77_3))
  (.seq (.region [⟨(some 17), .mov (.t 0), none⟩,
    ⟨(some 18), .nilCheck (.t 17), none⟩,
    ⟨(some 19), .fieldAddr 0 (.t 18), none⟩,
    ⟨(some 20), .load none (.t 19), none⟩,
    ⟨(some 21), .call 112 [(.t 20)], none⟩,
    ⟨(some 16), .mov (.t 21), none⟩,
    ⟨(some 22), .extract (.t 16) 0, none⟩,
    ⟨(some 23), .extract (.t 16) 1, none⟩,
    ⟨(some 8), .mov (.t 22), none⟩,
    ⟨(some 9), .mov (.t 23), none⟩] k77_6)
  (.seq (.seq (.region [⟨(some 24), .mov (.t 9), none⟩,
    ⟨(some 25), .un .not (.t 24), none⟩] k77_7)
  (.cond (.t 25)
  (.seq (.region [⟨(some 6), .mov (.c (.bool false)), none⟩] k77_8)
  (.seq (.region [] k77_8)
  .ret))
  .skip))
  j77_bbaabbbbbb)))))))
  j77_bbb)))⟩
theorem F77 : shutF Try.prog 77 = some c77 := by kernel_rfl

-- (*virgate/page.Heap).Store
def k34_0 : List Bool := [tt,tt,tt,tt,ff,ff,ff,ff,tt,ff,ff,ff,ff,ff,ff,ff,ff,ff,ff,ff,ff,ff,ff,ff,ff,ff,ff,ff,ff,ff,ff,ff,ff,ff,ff,ff,ff,ff,ff,ff,ff,ff,ff,ff,ff,ff,ff,ff,ff,ff,ff,ff,ff,ff,ff,ff,ff,ff,ff,ff,ff,ff,ff,ff,ff,ff,ff,ff,ff,ff,ff,ff,ff,ff,ff,ff,ff]
def k34_1 : List Bool := [tt,ff,tt,tt,ff,ff,ff,ff,tt,ff,tt,tt,ff,ff,ff,ff,ff,ff,ff,ff,ff,ff,ff,ff,ff,ff,ff,ff,ff,ff,ff,ff,ff,ff,ff,ff,ff,ff,ff,ff,ff,ff,ff,ff,ff,ff,ff,ff,ff,ff,ff,ff,ff,ff,ff,ff,ff,ff,ff,ff,ff,ff,ff,ff,ff,ff,ff,ff,ff,ff,ff,ff,ff,ff,ff,ff,ff]
def k34_2 : List Bool := [tt,ff,tt,tt,ff,ff,ff,ff,tt,ff,tt,tt,ff,ff,ff,ff,ff,ff,ff,tt,ff,ff,ff,ff,ff,ff,ff,ff,ff,ff,ff,ff,ff,ff,ff,ff,ff,ff,ff,ff,ff,ff,ff,ff,ff,ff,ff,ff,ff,ff,ff,ff,ff,ff,ff,ff,ff,ff,ff,ff,ff,ff,ff,ff,ff,ff,ff,ff,ff,ff,ff,ff,ff,ff,ff,ff,ff]
def k34_3 : List Bool := [ff,ff,ff,ff,ff,ff,ff,ff,tt,tt,ff,ff,ff,ff,ff,ff,ff,ff,ff,ff,ff,ff,ff,ff,ff,ff,ff,ff,ff,ff,ff,ff,ff,ff,ff,ff,ff,ff,ff,ff,ff,ff,ff,ff,ff,ff,ff,ff,ff,ff,ff,ff,ff,ff,ff,ff,ff,ff,ff,ff,ff,ff,ff,ff,ff,ff,ff,ff,ff,ff,ff,ff,ff,ff,ff,ff,ff]
def k34_4 : List Bool := [tt,ff,tt,tt,ff,ff,ff,ff,tt,ff,tt,ff,ff,ff,ff,ff,ff,ff,ff,ff,ff,ff,ff,ff,tt,ff,ff,ff,ff,ff,ff,ff,ff,ff,ff,ff,ff,ff,ff,ff,ff,ff,ff,ff,ff,ff,ff,ff,ff,ff,ff,ff,ff,ff,ff,ff,ff,ff,ff,ff,ff,ff,ff,ff,ff,ff,ff,ff,ff,ff,ff,ff,ff,ff,ff,ff,ff]
def k34_5 : List Bool := [tt,ff,ff,ff,ff,ff,ff,ff,tt,ff,tt,ff,tt,ff,ff,ff,ff,ff,ff,ff,ff,ff,ff,ff,ff,ff,ff,ff,ff,ff,ff,ff,ff,ff,ff,ff,ff,ff,ff,ff,ff,ff,ff,ff,ff,ff,ff,ff,ff,ff,ff,ff,ff,ff,ff,ff,ff,ff,ff,ff,ff,ff,ff,ff,ff,ff,ff,ff,ff,ff,ff,ff,ff,ff,ff,ff,ff]
def k34_6 : List Bool := [ff,ff,ff,ff,ff,ff,ff,ff,tt,ff,tt,ff,tt,ff,ff,ff,ff,ff,ff,ff,ff,ff,ff,ff,ff,ff,ff,ff,ff,ff,ff,ff,ff,ff,ff,ff,ff,ff,ff,ff,ff,ff,ff,ff,ff,ff,ff,ff,ff,ff,ff,ff,ff,ff,ff,ff,ff,ff,ff,ff,ff,ff,ff,ff,ff,ff,tt,ff,ff,ff,ff,ff,ff,ff,ff,ff,ff]
def j34_bbbbab : IC := (.cond (.t 66)
  (.seq (.region [⟨(some 67), .build [(.int .i64 (0)), (.int .i64 (0))] [], none⟩,
    ⟨none, .store 2 (.t 8) (.t 67), none⟩,
    ⟨(some 9), .mov (.c (.int .i64 (81))), none⟩] k34_3)
  (.seq (.region [] k34_3)
  .ret))
  .skip)
def j34_bbbbb : IC := (.seq (.region [⟨(some 68), .mov (.t 12), none⟩,
    ⟨(some 69), .nilCheck (.t 68), none⟩,
    ⟨(some 70), .fieldAddr 0 (.t 69), none⟩,
    ⟨(some 71), .load none (.t 70), none⟩,
    ⟨(some 72), .mov (.t 10), none⟩,
    ⟨(some 73), .nilCheck (.t 72), none⟩,
    ⟨(some 74), .fieldAddr 0 (.t 73), none⟩,
    ⟨(some 75), .load none (.t 74), none⟩,
    ⟨(some 76), .build [(.int .i64 (0)), (.int .i64 (0))] [(0, 1, (.t 71)), (1, 1, (.t 75))], none⟩,
    ⟨none, .store 2 (.t 8) (.t 76), none⟩,
    ⟨(some 9), .mov (.c (.int .i64 (0))), none⟩] k34_3)
  (.seq (.region [] k34_3)
  .ret))
def c34 : IFn := ⟨77, [(8, (some (some 2))), (9, none)],
  (.seq (.region [⟨(some 8), .alloc [(.int .i64 (0)), (.int .i64 (0))], none⟩,
    ⟨(some 9), .mov (.c (.int .i64 (0))), none⟩] k34_0)
  (.seq (.region [⟨(some 14), .mov (.t 0), none⟩,
    ⟨(some 15), .mov (.t 1), none⟩,
    ⟨(some 16), .call 72 [(.t 14), (.t 15)], none⟩,
    ⟨(some 13), .mov (.t 16), none⟩,
    ⟨(some 17), .extract (.t 13) 0, none⟩,
    ⟨(some 18), .extract (.t 13) 1, none⟩,
    ⟨(some 10), .mov (.t 17), none⟩,
    ⟨(some 11), .mov (.t 18), none⟩] k34_1)
  (.seq (.block 0
  (.seq (.region [⟨(some 20), .mov (.t 11), none⟩,
    ⟨(some 21), .bin .neq (.t 20) (.c (.int .i64 (0))), none⟩,
    ⟨(some 19), .mov (.t 21), none⟩] k34_2)
  (.cond (.t 19)
  (.seq (.region [⟨(some 22), .build [(.int .i64 (0)), (.int .i64 (0))] [], none⟩,
    ⟨(some 23), .mov (.t 11), none⟩,
    ⟨none, .store 2 (.t 8) (.t 22), none⟩,
    ⟨(some 9), .mov (.t 23), none⟩] k34_3)
  (.seq (.region [] k34_3)
  .ret))
  (.seq (.region [⟨(some 25), .mov (.t 2), none⟩,
    ⟨(some 26), .call 56 [(.c (.int .i64 (1))), (.t 25), (.c (.int .i64 (255)))], none⟩,
    ⟨(some 27), .un .not (.t 26), none⟩,
    ⟨(some 28), .mov (.t 27), none⟩,
    ⟨(some 29), .mov (.t 3), (some (28, false))⟩,
    ⟨(some 30), .call 56 [(.c (.int .i64 (1))), (.t 29), (.c (.int .i64 (31)))], (some (28, false))⟩,
    ⟨(some 31), .un .not (.t 30), (some (28, false))⟩,
    ⟨(some 32), .pick (.t 28) (.c (.bool true)) (.t 31), none⟩,
    ⟨(some 33), .mov (.t 32), none⟩,
    ⟨(some 34), .mov (.t 10), (some (33, false))⟩,
    ⟨(some 35), .nilCheck (.t 34), (some (33, false))⟩,
    ⟨(some 36), .fieldAddr 1 (.t 35), (some (33, false))⟩,
    ⟨(some 37), .load none (.t 36), (some (33, false))⟩,
    ⟨(some 38), .bin .gtr (.t 37) (.c (.int .i64 (0))), (some (33, false))⟩,
    ⟨(some 39), .mov (.t 38), (some (33, false))⟩,
    ⟨(some 40), .mov (.t 3), (some (39, true))⟩,
    ⟨(some 41), .mov (.t 10), (some (39, true))⟩,
    ⟨(some 42), .nilCheck (.t 41), (some (39, true))⟩,
    ⟨(some 43), .fieldAddr 1 (.t 42), (some (39, true))⟩,
    ⟨(some 44), .load none (.t 43), (some (39, true))⟩,
    ⟨(some 45), .bin .gtr (.t 40) (.t 44), (some (39, true))⟩,
    ⟨(some 46), .mov (.t 45), (some (39, true))⟩,
    ⟨(some 47), .mov (.t 10), (some (46, false))⟩,
    ⟨(some 48), .nilCheck (.t 47), (some (46, false))⟩,
    ⟨(some 49), .fieldAddr 4 (.t 48), (some (46, false))⟩,
    ⟨(some 50), .load none (.t 49), (some (46, false))⟩,
    ⟨(some 51), .lenSlice (.t 50), (some (46, false))⟩,
    ⟨(some 52), .bin .gtr (.t 51) (.c (.int .i64 (0))), (some (46, false))⟩,
    ⟨(some 53), .pick (.t 46) (.c (.bool true)) (.t 52), (some (39, true))⟩,
    ⟨(some 54), .pick (.t 39) (.t 53) (.c (.bool false)), (some (33, false))⟩,
    ⟨(some 55), .pick (.t 33) (.c (.bool true)) (.t 54), none⟩,
    ⟨(some 24), .mov (.t 55), none⟩] k34_4)
  (.cond (.t 24)
  (.seq (.region [⟨(some 56), .build [(.int .i64 (0)), (.int .i64 (0))] [], none⟩,
    ⟨none, .store 2 (.t 8) (.t 56), none⟩,
    ⟨(some 9), .mov (.c (.int .i64 (2))), none⟩] k34_3)
  (.seq (.region [] k34_3)
  .ret))
  .skip)))))
  (.seq (.region [⟨(some 57), .mov (.t 2), none⟩,
    ⟨(some 58), .mov (.t 3), none⟩,
    ⟨(some 59), .mkSlice 16 [(.int .i64 (0)), (.int .i64 (0))] (.t 58) (.t 58), none⟩,
    ⟨(some 60), .build [(.int .i64 (0)), (.int .i64 (0)), (.slice none 0 (some 0))] [(1, 1, (.t 57)), (2, 1, (.t 59))], none⟩,
    ⟨(some 61), .box (.t 60), none⟩,
    ⟨(some 12), .mov (.t 61), none⟩] k34_5)
  (.seq (.seq (.region [⟨(some 62), .mov (.t 0), none⟩,
    ⟨(some 63), .mov (.t 10), none⟩,
    ⟨(some 64), .mov (.t 12), none⟩,
    ⟨(some 65), .call 77 [(.t 62), (.t 63), (.t 64)], none⟩,
    ⟨(some 66), .un .not (.t 65), none⟩] k34_6)
  j34_bbbbab)
  j34_bbbbb)))))⟩
theorem F34 : shutF Try.prog 34 = some c34 := by kernel_rfl


section
variable {o : Nat → Option O} {s : St} {C F : Ch} {Q : V → St → Prop}
set_option maxRecDepth 10000

theorem s77_tail {gid obk plk xid at_ : Nat} {lv sv pgv fv kv slv : V} {l : List PObj} {pl : O} {f : Int → Option V}
    (H : Holds o s ((gid, some (.cells [lv, sv, pgv, fv, rowV obk l.length, .map (some (.new plk))] none)) :: (plk, some pl) :: (xid, some (.cells [I at_, kv, slv] none)) :: (obk, PReg.obO l) :: F))
    (hm : MapIs (fun n : Int => I n) f pl) (hl : l.length < 200000)
    (q : ∀ s' obk' pl', Holds o s' ((gid, some (.cells [lv, sv, pgv, fv, rowV obk' (l.length + 1), .map (some (.new plk))] none)) :: (plk, some pl') :: (xid, some (.cells [I at_, kv, slv] none)) :: (obk', rowO 1 (l.length + 1) (l.map (fun x => ptrN x.id) ++ [ptrN xid])) :: F) →
      MapIs (fun n : Int => I n) (fun b => if b = at_ then some (ptrN xid) else f b) pl' → Q (.bool true) s') :
    WP (go (loop PF) (call PF) j77_bbb (.any :: (ptrN gid) :: (ptrN xid) :: .any :: .any :: .any :: .any :: .any :: .any :: .any :: .any :: .any :: .any :: .any :: .any :: .any :: .any :: .any :: .any :: .any :: .any :: .any :: .any :: .any :: .any :: .any :: .any :: .any :: .any :: .any :: .any :: .any :: .any :: .any :: .any :: .any :: .any :: .any :: .any :: .any :: .any :: .any :: .any :: .any :: .any :: .any :: .any :: .any :: .any :: .any :: .any :: .any :: .any :: .any :: .any :: .any :: .any :: .any :: .any :: .any :: .any :: .any :: .any :: .any :: .any :: .any :: .any :: .any :: .any :: .any :: .any :: .any :: .any :: .any :: .any :: .any :: .any :: .any :: .any :: .any :: .any :: .any :: .any :: .any :: .any :: .any :: .any :: .any :: .any :: .any :: .any :: .any :: .any :: .any :: .any :: .any :: .any :: .any :: .any :: .any :: .any :: .any :: .any :: .any :: .any :: .any :: .any :: .any :: .any :: .any :: .any :: .any :: .any :: .any :: .any :: .any :: .any :: .any :: .any :: .any :: .any :: .any :: .any :: []) s (finR [(6, none)])) Q := by
  simp -implicitDefEqProofs only [↓GP, GB, GL, Nat.reduceAdd, Nat.reduceSub, Nat.reduceEqDiff, Nat.reduceMul, Nat.reduceLeDiff, Int.reduceBNe, Int.reduceBEq, Nat.reduceLT, reduceCtorEq, k77_0, k77_1, k77_2, k77_3, k77_4, k77_5, k77_6, k77_7, k77_8, k77_9, k77_10, j77_bbb, H.f3]
  refine wp_append (cs := l.map (fun x => ptrN x.id)) ((H.alloc _).r4) (by simp) (new_cells' (alloc_new_same _ _) rfl) rfl rfl (by omega) (by unfold maxRow; omega) (by unfold maxRow; omega) fun obk' s1 h1 => ?_
  have h2 := h1.r1.tl
  simp -implicitDefEqProofs only [↓GP, GB, GL, Nat.reduceAdd, Nat.reduceSub, Nat.reduceEqDiff, Nat.reduceMul, Nat.reduceLeDiff, Int.reduceBNe, Int.reduceBEq, Nat.reduceLT, reduceCtorEq, k77_0, k77_1, k77_2, k77_3, k77_4, k77_5, k77_6, k77_7, k77_8, k77_9, k77_10, h2.tl.f3]
  refine wp_mapSet (enc := fun n : Int => I n) keyOk_int hm ((h2.set1 _).tl.tl.g0) fun pl' hm' => ?_
  simp -implicitDefEqProofs only [↓GP, GB, GL, Nat.reduceAdd, Nat.reduceSub, Nat.reduceEqDiff, Nat.reduceMul, Nat.reduceLeDiff, Int.reduceBNe, Int.reduceBEq, Nat.reduceLT, reduceCtorEq, k77_0, k77_1, k77_2, k77_3, k77_4, k77_5, k77_6, k77_7, k77_8, k77_9, k77_10]
  have h4 := (h2.set1 (.cells [lv, sv, pgv, fv, rowV obk' (l.length + 1), .map (some (.new plk))] none)).set2 pl'
  exact q _ obk' pl' (Holds.of (h4) (fun k => by simp +arith only [I, ptrN, slN, alloc_next, set_next, World, PairG.ch, PairG.pc, PairG.hd, poolC, PReg.ch, PHeap.ch, PObj.ch, RReg.ch, RHeap.ch, RObj.ch, pagesO_nil, pObO_nil, rObO_nil, List.flatMap_append, List.flatMap_cons, List.flatMap_nil, List.append_eq, List.append_assoc, List.cons_append, List.nil_append, cnt_append, cnt_cons, cnt_nil, cnt1_ff, Option.isSome_some, Option.isSome_none]) (fun k x => by simp only [I, ptrN, slN, alloc_next, set_next, World, PairG.ch, PairG.pc, PairG.hd, poolC, PReg.ch, PHeap.ch, PObj.ch, RReg.ch, RHeap.ch, RObj.ch, pagesO_nil, pObO_nil, rObO_nil, List.flatMap_append, List.flatMap_cons, List.flatMap_nil, List.append_eq, List.append_assoc, List.cons_append, List.nil_append, List.mem_append, List.mem_cons, List.not_mem_nil, mem_some_none, or_false, false_or]; grind only)) hm'

theorem ok_add {g : PReg} (h : g.ok) {x : PObj} (hf : ∀ y ∈ g.objs, y.b.at_ ≠ x.b.at_) {pl' : O}
    (h' : MapIs (fun n : Int => I n) (fun b => if b = x.b.at_ then some (ptrN x.id) else (g.objs.find? fun x => decide ((x.b.at_ : Int) = b)).map fun x => ptrN x.id) pl') :
    MapIs (fun n : Int => I n) (fun a => ((g.objs ++ [x]).find? fun x => decide ((x.b.at_ : Int) = a)).map fun x => ptrN x.id) pl' := by
  obtain ⟨l, c, e, hl⟩ := h'
  refine ⟨l, c, e, fun a => (hl a).trans ?_⟩
  show (if a = x.b.at_ then some (ptrN x.id) else _) = Option.map _ ((g.objs ++ [x]).find? _)
  rw [List.find?_append]
  by_cases ha : a = x.b.at_
  · subst ha
    have : g.objs.find? (fun y => decide ((y.b.at_ : Int) = (x.b.at_ : Int))) = none := by
      rw [List.find?_eq_none]; intro y hy; have := hf y hy; simp; omega
    simp [this]
  · have : ¬ ((x.b.at_ : Int) = a) := fun e => ha e.symm
    simp [ha, this]

def PObj.at (x : PObj) (a : Nat) : PObj := { x with b := { x.b with at_ := a } }
/-- The region behind an object is laid. -/
def PReg.lay (g : PReg) (obk : Nat) (pl : O) (x : PObj) : PReg := { g with obk := obk, pl := pl, objs := g.objs ++ [x] }

theorem s77_fin {h p r : Nat} {u : List Bool} {c d : V} {g : PReg} {x : PObj} (H : Holds o s (g.ch ++ (x.ch ++ F))) (hg : g.ok) (hs : 0 < g.size) (hs' : g.size ≤ 31) (hl : g.life ≤ 100000) (hn : g.objs.length ≤ 100000) (hw : x.b.ws.length ≤ 31)
    (hf : ∀ y ∈ g.objs, y.b.at_ ≠ 1000000 + g.life)
    (q : ∀ s' obk' pl', Holds o s' ((g.lay obk' pl' (x.at (1000000 + g.life))).ch ++ F) → (g.lay obk' pl' (x.at (1000000 + g.life))).ok → Q (.bool true) s') :
    WP (call PF 77 [ptrN h, ptrN g.id, ptrN x.id] s) Q := by
  have H1 : Holds o s ((g.id, some g.hd) :: (g.plk, some g.pl) :: (x.id, some x.O) :: (g.obk, PReg.obO g.objs) :: ((g.pgk, pagesO g.pages) :: (x.wid, some x.W) :: (g.objs.flatMap PObj.ch ++ F))) := (Holds.of (H) (fun k => by simp +arith only [I, ptrN, slN, alloc_next, set_next, World, PairG.ch, PairG.pc, PairG.hd, poolC, PReg.ch, PHeap.ch, PObj.ch, RReg.ch, RHeap.ch, RObj.ch, pagesO_nil, pObO_nil, rObO_nil, List.flatMap_append, List.flatMap_cons, List.flatMap_nil, List.append_eq, List.append_assoc, List.cons_append, List.nil_append, cnt_append, cnt_cons, cnt_nil, cnt1_ff, Option.isSome_some, Option.isSome_none]) (fun k x => by simp only [I, ptrN, slN, alloc_next, set_next, World, PairG.ch, PairG.pc, PairG.hd, poolC, PReg.ch, PHeap.ch, PObj.ch, RReg.ch, RHeap.ch, RObj.ch, pagesO_nil, pObO_nil, rObO_nil, List.flatMap_append, List.flatMap_cons, List.flatMap_nil, List.append_eq, List.append_assoc, List.cons_append, List.nil_append, List.mem_append, List.mem_cons, List.not_mem_nil, mem_some_none, or_false, false_or]; grind only))
  have f := H1.f3
  simp only [PReg.hd, PObj.O] at f
  have h1 : ((g.size : Int) > 0) := by omega
  have w1 := wrap_add1 (a := x.b.ws.length) (by omega)
  have w2 : wrapI .i64 (1000000 + (g.life : Int)) = I ((1000000 + g.life : Nat) : Int) := wrap_nat (by omega) (by omega)
  rw [call_run F77]; simp -implicitDefEqProofs only [↓GP, GB, GL, Nat.reduceAdd, Nat.reduceSub, Nat.reduceEqDiff, Nat.reduceMul, Nat.reduceLeDiff, Int.reduceBNe, Int.reduceBEq, Nat.reduceLT, reduceCtorEq, c77, k77_0, k77_1, k77_2, k77_3, k77_4, k77_5, k77_6, k77_7, k77_8, k77_9, k77_10, f, w1, w2, h1]
  refine s77_tail (F := (g.pgk, pagesO g.pages) :: (x.wid, some x.W) :: (g.objs.flatMap PObj.ch ++ F)) (l := g.objs) (obk := g.obk) (plk := g.plk) (pl := g.pl) (H1.set2 (.cells [I (1000000 + g.life : Nat), I x.b.kind, slN x.wid x.b.ws.length] none)) hg (by omega) fun s' obk' pl' h' hm => ?_
  refine q s' obk' pl' (Holds.of (h') (fun k => by simp +arith only [PReg.lay, PObj.at, PReg.hd, PObj.O, PObj.W, PReg.obO, List.length_append, List.length_cons, List.length_nil, Nat.zero_add, List.map_append, List.map_cons, List.map_nil, I, ptrN, slN, alloc_next, set_next, World, PairG.ch, PairG.pc, PairG.hd, poolC, PReg.ch, PHeap.ch, PObj.ch, RReg.ch, RHeap.ch, RObj.ch, pagesO_nil, pObO_nil, rObO_nil, List.flatMap_append, List.flatMap_cons, List.flatMap_nil, List.append_eq, List.append_assoc, List.cons_append, List.nil_append, cnt_append, cnt_cons, cnt_nil, cnt1_ff, Option.isSome_some, Option.isSome_none]) (fun k x => by simp only [PReg.lay, PObj.at, PReg.hd, PObj.O, PObj.W, PReg.obO, List.length_append, List.length_cons, List.length_nil, Nat.zero_add, List.map_append, List.map_cons, List.map_nil, I, ptrN, slN, alloc_next, set_next, World, PairG.ch, PairG.pc, PairG.hd, poolC, PReg.ch, PHeap.ch, PObj.ch, RReg.ch, RHeap.ch, RObj.ch, pagesO_nil, pObO_nil, rObO_nil, List.flatMap_append, List.flatMap_cons, List.flatMap_nil, List.append_eq, List.append_assoc, List.cons_append, List.nil_append, List.mem_append, List.mem_cons, List.not_mem_nil, mem_some_none, or_false, false_or]; grind only)) ?_
  exact ok_add (x := x.at (1000000 + g.life)) hg hf hm

theorem s77_fit {h p r pg : Nat} {u : List Bool} {c d : V} {g : PReg} {x : PObj} (H : Holds o s (g.ch ++ (x.ch ++ F))) (hg : g.ok) (hs : g.size = 0) (hn : g.objs.length ≤ 100000) (hw : x.b.ws.length ≤ 31)
    (hpg : g.pages.getLast? = some pg) (hpg' : pg < 400) (hpl : g.pages.length ≤ 400) (hfit : g.fill + (x.b.ws.length + 1) ≤ 32)
    (hf : ∀ y ∈ g.objs, y.b.at_ ≠ pg * 32 + g.fill)
    (q : ∀ s' obk' pl', Holds o s' ((({ g with fill := g.fill + (x.b.ws.length + 1) } : PReg).lay obk' pl' (x.at (pg * 32 + g.fill))).ch ++ F) → (({ g with fill := g.fill + (x.b.ws.length + 1) } : PReg).lay obk' pl' (x.at (pg * 32 + g.fill))).ok → Q (.bool true) s') :
    WP (call PF 77 [ptrN h, ptrN g.id, ptrN x.id] s) Q := by
  have hpos : 0 < g.pages.length := by
    cases hp : g.pages with
    | nil => rw [hp] at hpg; simp at hpg
    | cons a l => simp
  have H1 : Holds o s ((g.id, some g.hd) :: (g.plk, some g.pl) :: (x.id, some x.O) :: (g.obk, PReg.obO g.objs) :: ((g.pgk, pagesO g.pages) :: (x.wid, some x.W) :: (g.objs.flatMap PObj.ch ++ F))) := (Holds.of (H) (fun k => by simp +arith only [I, ptrN, slN, alloc_next, set_next, World, PairG.ch, PairG.pc, PairG.hd, poolC, PReg.ch, PHeap.ch, PObj.ch, RReg.ch, RHeap.ch, RObj.ch, pagesO_nil, pObO_nil, rObO_nil, List.flatMap_append, List.flatMap_cons, List.flatMap_nil, List.append_eq, List.append_assoc, List.cons_append, List.nil_append, cnt_append, cnt_cons, cnt_nil, cnt1_ff, Option.isSome_some, Option.isSome_none]) (fun k x => by simp only [I, ptrN, slN, alloc_next, set_next, World, PairG.ch, PairG.pc, PairG.hd, poolC, PReg.ch, PHeap.ch, PObj.ch, RReg.ch, RHeap.ch, RObj.ch, pagesO_nil, pObO_nil, rObO_nil, List.flatMap_append, List.flatMap_cons, List.flatMap_nil, List.append_eq, List.append_assoc, List.cons_append, List.nil_append, List.mem_append, List.mem_cons, List.not_mem_nil, mem_some_none, or_false, false_or]; grind only))
  have f := H1.f3
  have fp : s.new g.pgk = some (.cells (g.pages.map fun n : Nat => I n) (some 1)) ∧ g.pgk < s.next := by
    have h5 := H1.tl.tl.tl.tl
    unfold pagesO at h5
    rw [rowO_pos hpos] at h5
    exact h5.f1
  have fne : g.pgk ≠ x.id := by
    have h5 := H1.tl.tl.r2
    unfold pagesO at h5
    rw [rowO_pos hpos] at h5
    exact h5.f2.2.2.1
  simp only [PReg.hd, PObj.O] at f
  have h1 : ¬ ((g.size : Int) > 0) := by omega
  have h2 : ((g.pages.length : Int) > 0) := by omega
  have h3 : (((g.fill + (x.b.ws.length + 1) : Nat) : Int) ≤ 32) := by omega
  have w1 := wrap_add1 (a := x.b.ws.length) (by omega)
  have w2 : wrapI .i64 ((g.fill : Int) + ((x.b.ws.length + 1 : Nat) : Int)) = I ((g.fill + (x.b.ws.length + 1) : Nat) : Int) := wrap_add (by omega) (by omega)
  have w3 := wrap_sub1 (a := g.pages.length) (by omega) hpos
  have w4 : wrapI .i64 ((pg : Int) * 32) = I ((pg * 32 : Nat) : Int) := wrap_nat (by omega) (by omega)
  have w5 : wrapI .i64 (((pg * 32 : Nat) : Int) + (g.fill : Int)) = I ((pg * 32 + g.fill : Nat) : Int) := wrap_add (by omega) (by omega)
  have hgl : (g.pages.map fun n : Nat => I n)[g.pages.length - 1]? = some (I pg) := by
    rw [List.getLast?_eq_getElem?] at hpg
    rw [List.getElem?_map, hpg]; rfl
  rw [call_run F77]; simp -implicitDefEqProofs only [↓GP, GB, GL, Nat.reduceAdd, Nat.reduceSub, Nat.reduceEqDiff, Nat.reduceMul, Nat.reduceLeDiff, Int.reduceBNe, Int.reduceBEq, Nat.reduceLT, reduceCtorEq, c77, k77_0, k77_1, k77_2, k77_3, k77_4, k77_5, k77_6, k77_7, k77_8, k77_9, k77_10, f, fp, fne, w1, w2, w3, w4, w5, h1, h2, h3, hgl, ix_row (show g.pages.length - 1 < g.pages.length by omega)]
  refine s77_tail (F := (g.pgk, pagesO g.pages) :: (x.wid, some x.W) :: (g.objs.flatMap PObj.ch ++ F)) (l := g.objs) (obk := g.obk) (plk := g.plk) (pl := g.pl) ((H1.set2 (.cells [I (pg * 32 + g.fill : Nat), I x.b.kind, slN x.wid x.b.ws.length] none)).set0 (.cells [I g.life, I g.size, rowV g.pgk g.pages.length, I (g.fill + (x.b.ws.length + 1) : Nat), rowV g.obk g.objs.length, .map (some (.new g.plk))] none)) hg (by omega) fun s' obk' pl' h' hm => ?_
  refine q s' obk' pl' (Holds.of (h') (fun k => by simp +arith only [PReg.lay, PObj.at, PReg.hd, PObj.O, PObj.W, PReg.obO, List.length_append, List.length_cons, List.length_nil, Nat.zero_add, List.map_append, List.map_cons, List.map_nil, I, ptrN, slN, alloc_next, set_next, World, PairG.ch, PairG.pc, PairG.hd, poolC, PReg.ch, PHeap.ch, PObj.ch, RReg.ch, RHeap.ch, RObj.ch, pagesO_nil, pObO_nil, rObO_nil, List.flatMap_append, List.flatMap_cons, List.flatMap_nil, List.append_eq, List.append_assoc, List.cons_append, List.nil_append, cnt_append, cnt_cons, cnt_nil, cnt1_ff, Option.isSome_some, Option.isSome_none]) (fun k x => by simp only [PReg.lay, PObj.at, PReg.hd, PObj.O, PObj.W, PReg.obO, List.length_append, List.length_cons, List.length_nil, Nat.zero_add, List.map_append, List.map_cons, List.map_nil, I, ptrN, slN, alloc_next, set_next, World, PairG.ch, PairG.pc, PairG.hd, poolC, PReg.ch, PHeap.ch, PObj.ch, RReg.ch, RHeap.ch, RObj.ch, pagesO_nil, pObO_nil, rObO_nil, List.flatMap_append, List.flatMap_cons, List.flatMap_nil, List.append_eq, List.append_assoc, List.cons_append, List.nil_append, List.mem_append, List.mem_cons, List.not_mem_nil, mem_some_none, or_false, false_or]; grind only)) ?_
  exact ok_add (g := g) (x := x.at (pg * 32 + g.fill)) hg hf hm

/-- A new page is needed. -/
def Needs (g : PReg) (need : Nat) : Prop := g.size = 0 ∧ (g.pages = [] ∨ ¬ g.fill + need ≤ 32)

theorem s77_full {h p r : Nat} {u : List Bool} {c d : V} {g : PReg} {x : PObj} (H : Holds o s (poolC p r u ++ (g.ch ++ (x.ch ++ F)))) (mh : (h, some (.cells [ptrN p, c, d] none)) ∈ F) (hu : u.length ≤ 400)
    (hw : x.b.ws.length ≤ 31) (hfl : g.fill ≤ 32) (hpl : g.pages.length ≤ 400) (hneed : Needs g (x.b.ws.length + 1)) (ht : takeP u = none) : call PF 77 [ptrN h, ptrN g.id, ptrN x.id] s = some (.bool false, s) := by
  have fh := H.mem (List.mem_append_right _ (List.mem_append_right _ (List.mem_append_right _ mh)))
  have H1 : Holds o s ((g.id, some g.hd) :: (x.id, some x.O) :: (poolC p r u ++ F)) := (Holds.of (H) (fun k => by simp +arith only [I, ptrN, slN, alloc_next, set_next, World, PairG.ch, PairG.pc, PairG.hd, poolC, PReg.ch, PHeap.ch, PObj.ch, RReg.ch, RHeap.ch, RObj.ch, pagesO_nil, pObO_nil, rObO_nil, List.flatMap_append, List.flatMap_cons, List.flatMap_nil, List.append_eq, List.append_assoc, List.cons_append, List.nil_append, cnt_append, cnt_cons, cnt_nil, cnt1_ff, Option.isSome_some, Option.isSome_none]) (fun k x => by simp only [I, ptrN, slN, alloc_next, set_next, World, PairG.ch, PairG.pc, PairG.hd, poolC, PReg.ch, PHeap.ch, PObj.ch, RReg.ch, RHeap.ch, RObj.ch, pagesO_nil, pObO_nil, rObO_nil, List.flatMap_append, List.flatMap_cons, List.flatMap_nil, List.append_eq, List.append_assoc, List.cons_append, List.nil_append, List.mem_append, List.mem_cons, List.not_mem_nil, mem_some_none, or_false, false_or]; grind only))
  have f := H1.f2
  simp only [PReg.hd, PObj.O] at f
  have e := s112_none (s := s) H1.tl.tl hu ht
  have h1 : ¬ ((g.size : Int) > 0) := by have := hneed.1; omega
  have w1 := wrap_add1 (a := x.b.ws.length) (by omega)
  rcases hneed.2 with hp | hp
  · have h2 : ¬ ((0 : Int) > 0) := by omega
    rw [call_run F77]; simp -implicitDefEqProofs only [↓GP, GB, GL, Nat.reduceAdd, Nat.reduceSub, Nat.reduceEqDiff, Nat.reduceMul, Nat.reduceLeDiff, Int.reduceBNe, Int.reduceBEq, Nat.reduceLT, reduceCtorEq, c77, k77_0, k77_1, k77_2, k77_3, k77_4, k77_5, k77_6, k77_7, k77_8, k77_9, k77_10, f, fh, w1, h1, h2, e, hp, rowV_zero, lenV_slice, Int.natCast_zero]
  · have w2 : wrapI .i64 ((g.fill : Int) + ((x.b.ws.length + 1 : Nat) : Int)) = I ((g.fill + (x.b.ws.length + 1) : Nat) : Int) := wrap_add (by omega) (by omega)
    have h3 : ¬ (((g.fill + (x.b.ws.length + 1) : Nat) : Int) ≤ 32) := by omega
    by_cases h2 : ((g.pages.length : Int) > 0)
    · rw [call_run F77]; simp -implicitDefEqProofs only [↓GP, GB, GL, Nat.reduceAdd, Nat.reduceSub, Nat.reduceEqDiff, Nat.reduceMul, Nat.reduceLeDiff, Int.reduceBNe, Int.reduceBEq, Nat.reduceLT, reduceCtorEq, c77, k77_0, k77_1, k77_2, k77_3, k77_4, k77_5, k77_6, k77_7, k77_8, k77_9, k77_10, f, fh, w1, w2, h1, h2, h3, e]
    · rw [call_run F77]; simp -implicitDefEqProofs only [↓GP, GB, GL, Nat.reduceAdd, Nat.reduceSub, Nat.reduceEqDiff, Nat.reduceMul, Nat.reduceLeDiff, Int.reduceBNe, Int.reduceBEq, Nat.reduceLT, reduceCtorEq, c77, k77_0, k77_1, k77_2, k77_3, k77_4, k77_5, k77_6, k77_7, k77_8, k77_9, k77_10, f, fh, w1, w2, h1, h2, h3, e]

theorem s77_page {h p r n : Nat} {u : List Bool} {c d : V} {g : PReg} {x : PObj} (H : Holds o s (poolC p r u ++ (g.ch ++ (x.ch ++ F)))) (mh : (h, some (.cells [ptrN p, c, d] none)) ∈ F) (hu : u.length ≤ 400)
    (hg : g.ok) (hn : g.objs.length ≤ 100000) (hw : x.b.ws.length ≤ 31) (hfl : g.fill ≤ 32) (hpl : g.pages.length ≤ 400) (hneed : Needs g (x.b.ws.length + 1)) (ht : takeP u = some n)
    (hf : ∀ y ∈ g.objs, y.b.at_ ≠ n * 32)
    (q : ∀ s' pgk' obk' pl', Holds o s' (poolC p r (u.set n true) ++ ((({ g with pgk := pgk', pages := g.pages ++ [n], fill := x.b.ws.length + 1 } : PReg).lay obk' pl' (x.at (n * 32))).ch ++ F)) →
      (({ g with pgk := pgk', pages := g.pages ++ [n], fill := x.b.ws.length + 1 } : PReg).lay obk' pl' (x.at (n * 32))).ok → Q (.bool true) s') : WP (call PF 77 [ptrN h, ptrN g.id, ptrN x.id] s) Q := by
  have hn' : n < u.length := (List.findIdx?_eq_some_iff_getElem.1 ht).1
  have fh := H.mem (List.mem_append_right _ (List.mem_append_right _ (List.mem_append_right _ mh)))
  have H1 : Holds o s ((g.id, some g.hd) :: (x.id, some x.O) :: (poolC p r u ++ F)) := (Holds.of (H) (fun k => by simp +arith only [I, ptrN, slN, alloc_next, set_next, World, PairG.ch, PairG.pc, PairG.hd, poolC, PReg.ch, PHeap.ch, PObj.ch, RReg.ch, RHeap.ch, RObj.ch, pagesO_nil, pObO_nil, rObO_nil, List.flatMap_append, List.flatMap_cons, List.flatMap_nil, List.append_eq, List.append_assoc, List.cons_append, List.nil_append, cnt_append, cnt_cons, cnt_nil, cnt1_ff, Option.isSome_some, Option.isSome_none]) (fun k x => by simp only [I, ptrN, slN, alloc_next, set_next, World, PairG.ch, PairG.pc, PairG.hd, poolC, PReg.ch, PHeap.ch, PObj.ch, RReg.ch, RHeap.ch, RObj.ch, pagesO_nil, pObO_nil, rObO_nil, List.flatMap_append, List.flatMap_cons, List.flatMap_nil, List.append_eq, List.append_assoc, List.cons_append, List.nil_append, List.mem_append, List.mem_cons, List.not_mem_nil, mem_some_none, or_false, false_or]; grind only))
  have f := H1.f2
  simp only [PReg.hd, PObj.O] at f
  have h1 : ¬ ((g.size : Int) > 0) := by have := hneed.1; omega
  have w1 := wrap_add1 (a := x.b.ws.length) (by omega)
  have w2 : wrapI .i64 ((g.fill : Int) + ((x.b.ws.length + 1 : Nat) : Int)) = I ((g.fill + (x.b.ws.length + 1) : Nat) : Int) := wrap_add (by omega) (by omega)
  have w3 : wrapI .i64 ((n : Int) * 32) = I ((n * 32 : Nat) : Int) := wrap_nat (by omega) (by omega)
  have fin : ∀ s1, Holds o s1 (poolC p r (u.set n true) ++ (g.ch ++ (x.ch ++ F))) →
      WP (go (loop PF) (call PF) j77_bbaabbbbbb (.any :: (ptrN g.id) :: (ptrN x.id) :: .any :: .any :: .any :: .any :: (I (x.b.ws.length + 1 : Nat)) :: (I n) :: .any :: .any :: .any :: .any :: .any :: .any :: .any :: .any :: .any :: .any :: .any :: .any :: .any :: .any :: .any :: .any :: (.bool false) :: .any :: .any :: .any :: .any :: .any :: .any :: .any :: .any :: .any :: .any :: .any :: .any :: .any :: .any :: .any :: .any :: .any :: .any :: .any :: .any :: .any :: .any :: .any :: .any :: .any :: .any :: .any :: .any :: .any :: .any :: .any :: .any :: .any :: .any :: .any :: .any :: .any :: .any :: .any :: .any :: .any :: .any :: .any :: .any :: .any :: .any :: .any :: .any :: .any :: .any :: .any :: .any :: .any :: .any :: .any :: .any :: .any :: .any :: .any :: .any :: .any :: .any :: .any :: .any :: .any :: .any :: .any :: .any :: .any :: .any :: .any :: .any :: .any :: .any :: .any :: .any :: .any :: .any :: .any :: .any :: .any :: .any :: .any :: .any :: .any :: .any :: .any :: .any :: .any :: .any :: .any :: .any :: .any :: .any :: .any :: .any :: .any :: []) s1 (blockK 0 (seqK (loop PF) (call PF) j77_bbb (finR [(6, none)])))) Q := by
    intro s1 H
    have H2 : Holds o s1 ((g.id, some g.hd) :: (g.pgk, pagesO g.pages) :: (x.id, some x.O) :: (g.plk, some g.pl) :: (g.obk, PReg.obO g.objs) :: (x.wid, some x.W) :: (g.objs.flatMap PObj.ch ++ (poolC p r (u.set n true) ++ F))) := (Holds.of (H) (fun k => by simp +arith only [I, ptrN, slN, alloc_next, set_next, World, PairG.ch, PairG.pc, PairG.hd, poolC, PReg.ch, PHeap.ch, PObj.ch, RReg.ch, RHeap.ch, RObj.ch, pagesO_nil, pObO_nil, rObO_nil, List.flatMap_append, List.flatMap_cons, List.flatMap_nil, List.append_eq, List.append_assoc, List.cons_append, List.nil_append, cnt_append, cnt_cons, cnt_nil, cnt1_ff, Option.isSome_some, Option.isSome_none]) (fun k x => by simp only [I, ptrN, slN, alloc_next, set_next, World, PairG.ch, PairG.pc, PairG.hd, poolC, PReg.ch, PHeap.ch, PObj.ch, RReg.ch, RHeap.ch, RObj.ch, pagesO_nil, pObO_nil, rObO_nil, List.flatMap_append, List.flatMap_cons, List.flatMap_nil, List.append_eq, List.append_assoc, List.cons_append, List.nil_append, List.mem_append, List.mem_cons, List.not_mem_nil, mem_some_none, or_false, false_or]; grind only))
    have f := H2.f1
    simp only [PReg.hd] at f
    simp -implicitDefEqProofs only [↓GP, GB, GL, Nat.reduceAdd, Nat.reduceSub, Nat.reduceEqDiff, Nat.reduceMul, Nat.reduceLeDiff, Int.reduceBNe, Int.reduceBEq, Nat.reduceLT, reduceCtorEq, k77_0, k77_1, k77_2, k77_3, k77_4, k77_5, k77_6, k77_7, k77_8, k77_9, k77_10, j77_bbaabbbbbb, f]
    refine wp_append (cs := g.pages.map (fun n : Nat => I n)) ((H2.alloc _).r2) (by simp) (new_cells' (alloc_new_same _ _) rfl) rfl rfl (by omega) (by unfold maxRow; omega) (by unfold maxRow; omega) fun pgk' s2 h2 => ?_
    have H3 : Holds o s2 ((g.id, some g.hd) :: (g.plk, some g.pl) :: (x.id, some x.O) :: (g.obk, PReg.obO g.objs) :: (pgk', rowO 1 (g.pages.length + 1) (g.pages.map (fun n : Nat => I n) ++ [I n])) :: (x.wid, some x.W) :: (g.objs.flatMap PObj.ch ++ (poolC p r (u.set n true) ++ F))) := (Holds.of (h2) (fun k => by simp +arith only [I, ptrN, slN, alloc_next, set_next, World, PairG.ch, PairG.pc, PairG.hd, poolC, PReg.ch, PHeap.ch, PObj.ch, RReg.ch, RHeap.ch, RObj.ch, pagesO_nil, pObO_nil, rObO_nil, List.flatMap_append, List.flatMap_cons, List.flatMap_nil, List.append_eq, List.append_assoc, List.cons_append, List.nil_append, cnt_append, cnt_cons, cnt_nil, cnt1_ff, Option.isSome_some, Option.isSome_none]) (fun k x => by simp only [I, ptrN, slN, alloc_next, set_next, World, PairG.ch, PairG.pc, PairG.hd, poolC, PReg.ch, PHeap.ch, PObj.ch, RReg.ch, RHeap.ch, RObj.ch, pagesO_nil, pObO_nil, rObO_nil, List.flatMap_append, List.flatMap_cons, List.flatMap_nil, List.append_eq, List.append_assoc, List.cons_append, List.nil_append, List.mem_append, List.mem_cons, List.not_mem_nil, mem_some_none, or_false, false_or]; grind only))
    have f := H3.f3
    simp only [PReg.hd, PObj.O] at f
    simp -implicitDefEqProofs only [↓GP, GB, GL, Nat.reduceAdd, Nat.reduceSub, Nat.reduceEqDiff, Nat.reduceMul, Nat.reduceLeDiff, Int.reduceBNe, Int.reduceBEq, Nat.reduceLT, reduceCtorEq, k77_0, k77_1, k77_2, k77_3, k77_4, k77_5, k77_6, k77_7, k77_8, k77_9, k77_10, f, w3]
    have H4 := ((H3.set0 (.cells [I g.life, I g.size, rowV pgk' (g.pages.length + 1), I g.fill, rowV g.obk g.objs.length, .map (some (.new g.plk))] none)).set2 (.cells [I (n * 32 : Nat), I x.b.kind, slN x.wid x.b.ws.length] none)).set0
      (.cells [I g.life, I g.size, rowV pgk' (g.pages.length + 1), I (x.b.ws.length + 1 : Nat), rowV g.obk g.objs.length, .map (some (.new g.plk))] none)
    refine s77_tail (F := (pgk', rowO 1 (g.pages.length + 1) (g.pages.map (fun n : Nat => I n) ++ [I n])) :: (x.wid, some x.W) :: (g.objs.flatMap PObj.ch ++ (poolC p r (u.set n true) ++ F))) (l := g.objs) (obk := g.obk) (plk := g.plk) (pl := g.pl) H4 hg (by omega) fun s' obk' pl' h' hm => ?_
    refine q s' pgk' obk' pl' (Holds.of (h') (fun k => by simp +arith only [PReg.lay, PObj.at, PReg.hd, PObj.O, PObj.W, PReg.obO, pagesO, List.length_append, List.length_cons, List.length_nil, Nat.zero_add, List.map_append, List.map_cons, List.map_nil, I, ptrN, slN, alloc_next, set_next, World, PairG.ch, PairG.pc, PairG.hd, poolC, PReg.ch, PHeap.ch, PObj.ch, RReg.ch, RHeap.ch, RObj.ch, pagesO_nil, pObO_nil, rObO_nil, List.flatMap_append, List.flatMap_cons, List.flatMap_nil, List.append_eq, List.append_assoc, List.cons_append, List.nil_append, cnt_append, cnt_cons, cnt_nil, cnt1_ff, Option.isSome_some, Option.isSome_none]) (fun k x => by simp only [PReg.lay, PObj.at, PReg.hd, PObj.O, PObj.W, PReg.obO, pagesO, List.length_append, List.length_cons, List.length_nil, Nat.zero_add, List.map_append, List.map_cons, List.map_nil, I, ptrN, slN, alloc_next, set_next, World, PairG.ch, PairG.pc, PairG.hd, poolC, PReg.ch, PHeap.ch, PObj.ch, RReg.ch, RHeap.ch, RObj.ch, pagesO_nil, pObO_nil, rObO_nil, List.flatMap_append, List.flatMap_cons, List.flatMap_nil, List.append_eq, List.append_assoc, List.cons_append, List.nil_append, List.mem_append, List.mem_cons, List.not_mem_nil, mem_some_none, or_false, false_or]; grind only)) ?_
    exact ok_add (g := g) (x := x.at (n * 32)) hg hf hm
  rcases hneed.2 with hp | hp
  · have h2 : ¬ ((0 : Int) > 0) := by omega
    rw [call_run F77]; simp -implicitDefEqProofs only [↓GP, GB, GL, Nat.reduceAdd, Nat.reduceSub, Nat.reduceEqDiff, Nat.reduceMul, Nat.reduceLeDiff, Int.reduceBNe, Int.reduceBEq, Nat.reduceLT, reduceCtorEq, c77, k77_0, k77_1, k77_2, k77_3, k77_4, k77_5, k77_6, k77_7, k77_8, k77_9, k77_10, f, fh, w1, h1, h2, hp, rowV_zero, lenV_slice, Int.natCast_zero, List.length_nil]
    refine wp_in (s112 (F := g.ch ++ (x.ch ++ F)) H hu ht fun s1 h1 => ?_)
    simp -implicitDefEqProofs only [↓GP, GB, GL, Nat.reduceAdd, Nat.reduceSub, Nat.reduceEqDiff, Nat.reduceMul, Nat.reduceLeDiff, Int.reduceBNe, Int.reduceBEq, Nat.reduceLT, reduceCtorEq, k77_0, k77_1, k77_2, k77_3, k77_4, k77_5, k77_6, k77_7, k77_8, k77_9, k77_10]
    exact fin s1 h1
  · have h3 : ¬ (((g.fill + (x.b.ws.length + 1) : Nat) : Int) ≤ 32) := by omega
    by_cases h2 : ((g.pages.length : Int) > 0)
    · rw [call_run F77]; simp -implicitDefEqProofs only [↓GP, GB, GL, Nat.reduceAdd, Nat.reduceSub, Nat.reduceEqDiff, Nat.reduceMul, Nat.reduceLeDiff, Int.reduceBNe, Int.reduceBEq, Nat.reduceLT, reduceCtorEq, c77, k77_0, k77_1, k77_2, k77_3, k77_4, k77_5, k77_6, k77_7, k77_8, k77_9, k77_10, f, fh, w1, w2, h1, h2, h3]
      refine wp_in (s112 (F := g.ch ++ (x.ch ++ F)) H hu ht fun s1 h1 => ?_)
      simp -implicitDefEqProofs only [↓GP, GB, GL, Nat.reduceAdd, Nat.reduceSub, Nat.reduceEqDiff, Nat.reduceMul, Nat.reduceLeDiff, Int.reduceBNe, Int.reduceBEq, Nat.reduceLT, reduceCtorEq, k77_0, k77_1, k77_2, k77_3, k77_4, k77_5, k77_6, k77_7, k77_8, k77_9, k77_10]
      exact fin s1 h1
    · rw [call_run F77]; simp -implicitDefEqProofs only [↓GP, GB, GL, Nat.reduceAdd, Nat.reduceSub, Nat.reduceEqDiff, Nat.reduceMul, Nat.reduceLeDiff, Int.reduceBNe, Int.reduceBEq, Nat.reduceLT, reduceCtorEq, c77, k77_0, k77_1, k77_2, k77_3, k77_4, k77_5, k77_6, k77_7, k77_8, k77_9, k77_10, f, fh, w1, w2, h1, h2, h3]
      refine wp_in (s112 (F := g.ch ++ (x.ch ++ F)) H hu ht fun s1 h1 => ?_)
      simp -implicitDefEqProofs only [↓GP, GB, GL, Nat.reduceAdd, Nat.reduceSub, Nat.reduceEqDiff, Nat.reduceMul, Nat.reduceLeDiff, Int.reduceBNe, Int.reduceBEq, Nat.reduceLT, reduceCtorEq, k77_0, k77_1, k77_2, k77_3, k77_4, k77_5, k77_6, k77_7, k77_8, k77_9, k77_10]
      exact fin s1 h1
end
end Go.Proofs.Ytoldkemimhebaaa
