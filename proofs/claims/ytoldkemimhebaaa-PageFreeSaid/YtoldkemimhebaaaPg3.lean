/- PageFree, on the ideal machine. -/
import Derived.Test.YtoldkemimhebaaaPg2
set_option linter.unusedSimpArgs false
set_option linter.unusedVariables false
namespace Go.Proofs.Ytoldkemimhebaaa
open Go Go.IM

-- virgate/virgatelaw15.PageFree
def k5_0 : List Bool := [tt,tt,ff,ff,tt,ff,ff,ff,ff,ff,ff,ff,ff,ff,ff,ff,ff,ff,ff,ff,ff,ff,ff,ff,ff,ff,ff,ff,ff,ff,ff,ff,ff,ff,ff,ff,ff,ff,ff,ff,ff,ff,ff,ff,ff,ff,ff,ff,ff,ff,ff,ff,ff,ff,ff,ff,ff,ff,ff,ff,ff,ff,ff,ff,ff,ff,ff,ff,ff,ff,ff,ff,ff,ff,ff,ff,ff,ff,ff,ff,tt,ff,ff,ff,ff,ff,ff,ff,ff,ff,ff,ff,ff,ff,ff,ff,ff,ff,ff,ff,ff,ff,ff,ff,ff,ff,ff,ff,ff,ff,ff,ff]
def k5_1 : List Bool := [tt,tt,ff,ff,tt,ff,ff,ff,ff,ff,ff,ff,ff,ff,ff,ff,ff,tt,ff,ff,ff,ff,ff,ff,ff,ff,ff,ff,ff,ff,ff,ff,ff,ff,ff,ff,ff,ff,ff,ff,ff,ff,ff,ff,ff,ff,ff,ff,ff,ff,ff,ff,ff,ff,ff,ff,ff,ff,ff,ff,ff,ff,ff,ff,ff,ff,ff,ff,ff,ff,ff,ff,ff,ff,ff,ff,ff,ff,ff,ff,tt,ff,ff,ff,ff,ff,ff,ff,ff,ff,ff,ff,ff,ff,ff,ff,ff,ff,ff,ff,ff,ff,ff,ff,ff,ff,ff,ff,ff,ff,ff,ff]
def k5_2 : List Bool := [ff,ff,ff,ff,tt,ff,ff,ff,ff,ff,ff,ff,ff,ff,ff,ff,ff,ff,ff,ff,ff,ff,ff,ff,ff,ff,ff,ff,ff,ff,ff,ff,ff,ff,ff,ff,ff,ff,ff,ff,ff,ff,ff,ff,ff,ff,ff,ff,ff,ff,ff,ff,ff,ff,ff,ff,ff,ff,ff,ff,ff,ff,ff,ff,ff,ff,ff,ff,ff,ff,ff,ff,ff,ff,ff,ff,ff,ff,ff,ff,ff,ff,ff,ff,ff,ff,ff,ff,ff,ff,ff,ff,ff,ff,ff,ff,ff,ff,ff,ff,ff,ff,ff,ff,ff,ff,ff,ff,ff,ff,ff,ff]
def k5_3 : List Bool := [tt,tt,ff,ff,tt,tt,tt,ff,tt,ff,ff,ff,ff,ff,ff,ff,ff,ff,ff,ff,ff,ff,ff,ff,ff,ff,ff,ff,ff,ff,ff,ff,ff,ff,ff,ff,ff,ff,ff,ff,ff,ff,ff,ff,ff,ff,ff,ff,ff,ff,ff,ff,ff,ff,ff,ff,ff,ff,ff,ff,ff,ff,ff,ff,ff,ff,ff,ff,ff,ff,ff,ff,ff,ff,ff,ff,ff,ff,ff,ff,tt,ff,ff,ff,ff,ff,ff,ff,ff,ff,ff,ff,ff,ff,ff,ff,ff,ff,ff,ff,ff,ff,ff,ff,ff,ff,ff,ff,ff,ff,ff,ff]
def k5_4 : List Bool := [tt,tt,ff,ff,tt,tt,tt,ff,ff,ff,ff,ff,ff,ff,ff,ff,ff,ff,ff,ff,ff,ff,ff,ff,ff,ff,tt,ff,ff,ff,ff,ff,ff,ff,ff,ff,ff,ff,ff,ff,ff,ff,ff,ff,ff,ff,ff,ff,ff,ff,ff,ff,ff,ff,ff,ff,ff,ff,ff,ff,ff,ff,ff,ff,ff,ff,ff,ff,ff,ff,ff,ff,ff,ff,ff,ff,ff,ff,ff,ff,tt,ff,ff,ff,ff,ff,ff,ff,ff,ff,ff,ff,ff,ff,ff,ff,ff,ff,ff,ff,ff,ff,ff,ff,ff,ff,ff,ff,ff,ff,ff,ff]
def k5_5 : List Bool := [tt,tt,ff,ff,tt,tt,tt,ff,ff,tt,ff,ff,ff,ff,ff,ff,ff,ff,ff,ff,ff,ff,ff,ff,ff,ff,ff,ff,ff,ff,ff,ff,ff,ff,ff,ff,ff,ff,ff,ff,ff,ff,ff,ff,ff,ff,ff,ff,ff,ff,ff,ff,ff,ff,ff,ff,ff,ff,ff,ff,ff,ff,ff,ff,ff,ff,ff,ff,ff,ff,ff,ff,ff,ff,ff,ff,ff,ff,ff,ff,tt,ff,ff,ff,ff,ff,ff,ff,ff,ff,ff,ff,ff,ff,ff,ff,ff,ff,ff,ff,ff,ff,ff,ff,ff,ff,ff,ff,ff,ff,ff,ff]
def k5_6 : List Bool := [tt,tt,ff,ff,tt,tt,tt,ff,ff,tt,tt,ff,ff,ff,ff,ff,ff,ff,ff,ff,ff,ff,ff,ff,ff,ff,ff,ff,ff,ff,ff,ff,ff,ff,ff,ff,ff,ff,ff,ff,ff,ff,ff,ff,ff,ff,ff,ff,ff,ff,ff,ff,ff,ff,ff,ff,ff,ff,ff,ff,ff,ff,ff,ff,ff,ff,ff,ff,ff,ff,ff,ff,ff,ff,ff,ff,ff,ff,ff,ff,tt,ff,ff,ff,ff,ff,ff,ff,ff,ff,ff,ff,ff,ff,ff,ff,ff,ff,ff,ff,ff,ff,ff,ff,ff,ff,ff,ff,ff,ff,ff,ff]
def k5_7 : List Bool := [tt,tt,ff,ff,tt,tt,tt,ff,ff,tt,tt,ff,ff,ff,ff,ff,ff,ff,ff,ff,ff,ff,ff,ff,ff,ff,ff,ff,ff,ff,ff,ff,ff,ff,ff,ff,tt,ff,ff,ff,ff,ff,ff,ff,ff,ff,ff,ff,ff,ff,ff,ff,ff,ff,ff,ff,ff,ff,ff,ff,ff,ff,ff,ff,ff,ff,ff,ff,ff,ff,ff,ff,ff,ff,ff,ff,ff,ff,ff,ff,tt,ff,ff,ff,ff,ff,ff,ff,ff,ff,ff,ff,ff,ff,ff,ff,ff,ff,ff,ff,ff,ff,ff,ff,ff,ff,ff,ff,ff,ff,ff,ff]
def k5_8 : List Bool := [ff,tt,ff,ff,tt,ff,tt,ff,ff,tt,ff,ff,ff,ff,ff,ff,ff,ff,ff,ff,ff,ff,ff,ff,ff,ff,ff,ff,ff,ff,ff,ff,ff,ff,ff,ff,ff,ff,ff,ff,ff,ff,ff,ff,ff,ff,ff,ff,ff,ff,ff,ff,ff,ff,ff,ff,ff,ff,ff,ff,ff,ff,ff,ff,ff,ff,ff,ff,ff,ff,ff,ff,ff,ff,ff,ff,ff,ff,ff,ff,tt,ff,ff,ff,ff,ff,ff,ff,ff,ff,ff,ff,ff,ff,ff,ff,ff,ff,ff,ff,ff,ff,ff,ff,ff,ff,ff,ff,ff,ff,ff,ff]
def l5_0 : IC := (.seq (.seq (.seq (.region [⟨(some 33), .mov (.t 10), none⟩,
    ⟨(some 34), .mov (.t 0), none⟩,
    ⟨(some 35), .lenSlice (.t 34), none⟩,
    ⟨(some 36), .bin .lss (.t 33) (.t 35), none⟩] k5_7)
  (.cond (.t 36)
  .skip
  (.seq (.region [] k5_8)
  (.exit 0))))
  (.seq (.block 1
  (.region [⟨(some 39), .mov (.t 5), none⟩,
    ⟨(some 40), .indexAddr 1 (.t 39) (.c (.int .i64 (0))), none⟩,
    ⟨(some 41), .load none (.t 40), none⟩,
    ⟨(some 42), .mov (.t 0), none⟩,
    ⟨(some 43), .mov (.t 10), none⟩,
    ⟨(some 44), .indexAddr 11 (.t 42) (.t 43), none⟩,
    ⟨(some 45), .load (some 11) (.t 44), none⟩,
    ⟨(some 46), .call 26 [(.t 41), (.t 45)], none⟩] k5_6))
  (.region [⟨(some 37), .mov (.t 10), none⟩,
    ⟨(some 38), .bin .add (.t 37) (.c (.int .i64 (1))), none⟩,
    ⟨(some 10), .mov (.t 38), none⟩] k5_6)))
  (.region [] k5_6))
def k5_9 : List Bool := [ff,tt,ff,ff,tt,ff,tt,ff,ff,tt,ff,ff,ff,ff,ff,ff,ff,ff,ff,ff,ff,ff,ff,ff,ff,ff,ff,ff,ff,ff,ff,ff,ff,ff,ff,ff,ff,ff,ff,ff,ff,ff,ff,ff,ff,ff,ff,ff,ff,tt,ff,ff,ff,ff,ff,ff,ff,ff,ff,ff,ff,ff,ff,ff,ff,ff,ff,ff,ff,ff,ff,ff,ff,ff,ff,ff,ff,ff,ff,ff,tt,ff,ff,ff,ff,ff,ff,ff,ff,ff,ff,ff,ff,ff,ff,ff,ff,ff,ff,ff,ff,ff,ff,ff,ff,ff,ff,ff,ff,ff,ff,ff]
def k5_10 : List Bool := [ff,ff,ff,ff,ff,ff,tt,ff,ff,tt,ff,ff,ff,ff,ff,ff,ff,ff,ff,ff,ff,ff,ff,ff,ff,ff,ff,ff,ff,ff,ff,ff,ff,ff,ff,ff,ff,ff,ff,ff,ff,ff,ff,ff,ff,ff,ff,ff,ff,ff,ff,ff,ff,ff,ff,ff,ff,ff,ff,ff,ff,ff,ff,ff,ff,ff,ff,ff,ff,ff,ff,ff,ff,ff,ff,ff,ff,ff,ff,ff,ff,ff,ff,ff,ff,ff,ff,ff,ff,ff,ff,ff,ff,ff,ff,ff,ff,ff,ff,ff,ff,ff,ff,ff,ff,ff,ff,ff,ff,ff,ff,ff]
def k5_11 : List Bool := [ff,tt,ff,ff,tt,ff,tt,ff,ff,tt,ff,tt,ff,ff,ff,ff,ff,ff,ff,ff,ff,ff,ff,ff,ff,ff,ff,ff,ff,ff,ff,ff,ff,ff,ff,ff,ff,ff,ff,ff,ff,ff,ff,ff,ff,ff,ff,ff,ff,ff,ff,ff,ff,ff,ff,ff,ff,ff,ff,ff,ff,ff,ff,ff,ff,ff,ff,ff,ff,ff,ff,ff,ff,ff,ff,ff,ff,ff,ff,ff,tt,ff,ff,ff,ff,ff,ff,ff,ff,ff,ff,ff,ff,ff,ff,ff,ff,ff,ff,ff,ff,ff,ff,ff,ff,ff,ff,ff,ff,ff,ff,ff]
def k5_12 : List Bool := [ff,tt,ff,ff,tt,ff,tt,ff,ff,tt,ff,tt,tt,tt,ff,ff,ff,ff,ff,ff,ff,ff,ff,ff,ff,ff,ff,ff,ff,ff,ff,ff,ff,ff,ff,ff,ff,ff,ff,ff,ff,ff,ff,ff,ff,ff,ff,ff,ff,ff,ff,ff,ff,ff,ff,ff,ff,ff,ff,ff,ff,ff,ff,ff,ff,ff,ff,ff,ff,ff,ff,ff,ff,ff,ff,ff,ff,ff,ff,ff,tt,ff,ff,ff,ff,ff,ff,ff,ff,ff,ff,ff,ff,ff,ff,ff,ff,ff,ff,ff,ff,ff,ff,ff,ff,ff,ff,ff,ff,ff,ff,ff]
def k5_13 : List Bool := [ff,tt,ff,ff,tt,ff,tt,ff,ff,tt,ff,tt,tt,tt,tt,ff,ff,ff,ff,ff,ff,ff,ff,ff,ff,ff,ff,ff,ff,ff,ff,ff,ff,ff,ff,ff,ff,ff,ff,ff,ff,ff,ff,ff,ff,ff,ff,ff,ff,ff,ff,ff,ff,ff,ff,ff,ff,ff,ff,ff,ff,ff,ff,ff,ff,ff,ff,ff,ff,ff,ff,ff,ff,ff,ff,ff,ff,ff,ff,ff,tt,ff,ff,ff,ff,ff,ff,ff,ff,ff,ff,ff,ff,ff,ff,ff,ff,ff,ff,ff,ff,ff,ff,ff,ff,ff,ff,ff,ff,ff,ff,ff]
def k5_14 : List Bool := [ff,tt,ff,ff,tt,ff,tt,ff,ff,tt,ff,tt,tt,ff,tt,ff,ff,ff,ff,ff,ff,ff,ff,ff,ff,ff,ff,ff,ff,ff,ff,ff,ff,ff,ff,ff,ff,ff,ff,ff,ff,ff,ff,ff,ff,ff,ff,ff,ff,ff,ff,ff,ff,ff,ff,ff,ff,ff,ff,ff,ff,ff,tt,ff,ff,ff,ff,ff,ff,ff,ff,ff,ff,ff,ff,ff,ff,ff,ff,ff,tt,ff,ff,ff,ff,ff,ff,ff,ff,ff,ff,ff,ff,ff,ff,ff,ff,ff,ff,ff,ff,ff,ff,ff,ff,ff,ff,ff,ff,ff,ff,ff]
def k5_15 : List Bool := [ff,tt,ff,ff,tt,ff,tt,ff,ff,tt,ff,tt,tt,ff,tt,ff,ff,ff,ff,ff,ff,ff,ff,ff,ff,ff,ff,ff,ff,ff,ff,ff,ff,ff,ff,ff,ff,ff,ff,ff,ff,ff,ff,ff,ff,ff,ff,ff,ff,ff,ff,ff,ff,ff,ff,ff,ff,ff,ff,ff,ff,ff,ff,tt,ff,ff,ff,ff,ff,ff,ff,ff,ff,ff,ff,ff,ff,ff,ff,ff,tt,ff,ff,ff,ff,ff,ff,ff,ff,ff,ff,ff,ff,ff,ff,ff,ff,ff,ff,ff,ff,ff,ff,ff,ff,ff,ff,ff,ff,ff,ff,ff]
def k5_16 : List Bool := [ff,tt,ff,ff,tt,ff,tt,ff,ff,tt,ff,ff,tt,tt,tt,ff,ff,ff,ff,ff,ff,ff,ff,ff,ff,ff,ff,ff,ff,ff,ff,ff,ff,ff,ff,ff,ff,ff,ff,ff,ff,ff,ff,ff,ff,ff,ff,ff,ff,ff,ff,ff,ff,ff,ff,ff,ff,ff,ff,ff,ff,ff,ff,ff,ff,ff,ff,ff,ff,ff,ff,ff,ff,ff,ff,ff,ff,ff,ff,ff,ff,ff,ff,ff,ff,ff,ff,ff,ff,ff,ff,ff,ff,ff,ff,ff,ff,ff,ff,ff,ff,ff,ff,ff,ff,ff,ff,ff,ff,ff,ff,ff]
def k5_17 : List Bool := [ff,tt,ff,ff,tt,ff,tt,ff,ff,tt,ff,ff,tt,ff,ff,ff,ff,ff,ff,ff,ff,ff,ff,ff,ff,ff,ff,ff,ff,ff,ff,ff,ff,ff,ff,ff,ff,ff,ff,ff,ff,ff,ff,ff,ff,ff,ff,ff,ff,ff,ff,ff,ff,ff,ff,ff,ff,ff,ff,ff,ff,ff,ff,ff,ff,ff,ff,ff,ff,ff,ff,ff,ff,ff,ff,ff,ff,ff,ff,ff,tt,ff,ff,ff,ff,ff,ff,ff,ff,ff,ff,ff,ff,ff,ff,ff,ff,ff,ff,ff,ff,ff,ff,ff,ff,ff,ff,ff,ff,ff,ff,ff]
def k5_18 : List Bool := [ff,tt,ff,ff,tt,ff,tt,ff,ff,tt,ff,ff,tt,ff,tt,ff,ff,ff,ff,ff,ff,ff,ff,ff,ff,ff,ff,ff,ff,ff,ff,ff,ff,ff,ff,ff,ff,ff,ff,ff,ff,ff,ff,ff,ff,ff,ff,ff,ff,ff,ff,ff,ff,ff,ff,ff,ff,ff,ff,ff,ff,ff,ff,ff,ff,ff,ff,ff,ff,ff,ff,ff,ff,ff,ff,ff,ff,ff,ff,ff,tt,ff,ff,ff,ff,ff,ff,ff,ff,ff,ff,ff,ff,ff,ff,ff,ff,ff,ff,ff,ff,ff,ff,ff,ff,ff,ff,ff,ff,ff,ff,ff]
def k5_19 : List Bool := [ff,tt,ff,ff,tt,ff,tt,ff,ff,tt,ff,ff,tt,tt,tt,tt,ff,ff,ff,ff,ff,ff,ff,ff,ff,ff,ff,ff,ff,ff,ff,ff,ff,ff,ff,ff,ff,ff,ff,ff,ff,ff,ff,ff,ff,ff,ff,ff,ff,ff,ff,ff,ff,ff,ff,ff,ff,ff,ff,ff,ff,ff,ff,ff,ff,ff,ff,ff,ff,ff,ff,ff,ff,ff,ff,ff,ff,ff,ff,ff,tt,ff,ff,ff,ff,ff,ff,ff,ff,ff,ff,ff,ff,ff,ff,ff,ff,ff,ff,ff,ff,ff,ff,ff,ff,ff,ff,ff,ff,ff,ff,ff]
def k5_20 : List Bool := [ff,tt,ff,ff,tt,ff,tt,ff,ff,tt,ff,ff,ff,ff,ff,ff,ff,ff,ff,ff,ff,ff,ff,ff,ff,ff,ff,ff,ff,ff,ff,ff,ff,ff,ff,ff,ff,ff,ff,ff,ff,ff,ff,ff,ff,ff,ff,ff,ff,ff,ff,ff,ff,ff,ff,ff,ff,ff,ff,ff,ff,ff,ff,ff,ff,ff,ff,ff,ff,ff,ff,ff,ff,ff,ff,ff,ff,ff,ff,ff,tt,ff,ff,ff,ff,ff,ff,ff,ff,ff,ff,ff,ff,ff,ff,ff,ff,ff,ff,ff,ff,ff,ff,tt,ff,ff,ff,ff,ff,ff,ff,ff]
def l5_1 : IC := (.seq (.seq (.seq (.region [⟨(some 47), .mov (.t 9), none⟩,
    ⟨(some 48), .call 27 [(.t 47)], none⟩,
    ⟨(some 49), .bin .gtr (.t 48) (.c (.int .i64 (1))), none⟩] k5_9)
  (.cond (.t 49)
  .skip
  (.seq (.region [] k5_10)
  (.exit 2))))
  (.block 3
  (.seq (.region [⟨(some 50), .mov (.t 9), none⟩,
    ⟨(some 51), .call 27 [(.t 50)], none⟩,
    ⟨(some 52), .bin .sub (.t 51) (.c (.int .i64 (1))), none⟩,
    ⟨(some 11), .mov (.t 52), none⟩] k5_11)
  (.seq (.region [⟨(some 54), .mov (.t 9), none⟩,
    ⟨(some 55), .mov (.t 11), none⟩,
    ⟨(some 56), .call 29 [(.t 54), (.t 55)], none⟩,
    ⟨(some 53), .mov (.t 56), none⟩,
    ⟨(some 57), .extract (.t 53) 0, none⟩,
    ⟨(some 58), .extract (.t 53) 1, none⟩,
    ⟨(some 12), .mov (.t 57), none⟩,
    ⟨(some 13), .mov (.t 58), none⟩] k5_12)
  (.seq (.region [⟨(some 59), .mov (.t 6), none⟩,
    ⟨(some 60), .call 19 [(.t 59)], none⟩,
    ⟨(some 14), .mov (.t 60), none⟩] k5_13)
  (.seq (.seq (.region [⟨(some 61), .mov (.t 13), none⟩,
    ⟨(some 62), .bin .neq (.t 61) (.c (.int .i64 (0))), none⟩] k5_14)
  (.cond (.t 62)
  (.seq (.region [⟨(some 4), .mov (.c (.bool false)), none⟩] k5_2)
  (.seq (.region [] k5_2)
  .ret))
  .skip))
  (.seq (.seq (.region [⟨(some 63), .mov (.t 1), none⟩] k5_15)
  (.cond (.t 63)
  (.seq (.region [⟨(some 65), .mov (.t 9), none⟩,
    ⟨(some 66), .mov (.t 11), none⟩,
    ⟨(some 67), .call 31 [(.t 65), (.t 66)], none⟩,
    ⟨(some 64), .mov (.t 67), none⟩,
    ⟨(some 68), .extract (.t 64) 0, none⟩,
    ⟨(some 69), .extract (.t 64) 1, none⟩,
    ⟨(some 13), .mov (.t 69), none⟩] k5_16)
  (.seq (.seq (.region [⟨(some 70), .mov (.t 13), none⟩,
    ⟨(some 71), .bin .neq (.t 70) (.c (.int .i64 (0))), none⟩,
    ⟨(some 72), .mov (.t 71), none⟩,
    ⟨(some 73), .mov (.t 6), (some (72, false))⟩,
    ⟨(some 74), .call 19 [(.t 73)], (some (72, false))⟩,
    ⟨(some 75), .mov (.t 14), (some (72, false))⟩,
    ⟨(some 76), .mov (.t 12), (some (72, false))⟩,
    ⟨(some 77), .lenSlice (.t 76), (some (72, false))⟩,
    ⟨(some 78), .bin .add (.t 75) (.t 77), (some (72, false))⟩,
    ⟨(some 79), .bin .neq (.t 74) (.t 78), (some (72, false))⟩,
    ⟨(some 80), .pick (.t 72) (.c (.bool true)) (.t 79), none⟩] k5_8)
  (.cond (.t 80)
  (.seq (.region [⟨(some 4), .mov (.c (.bool false)), none⟩] k5_2)
  (.seq (.region [] k5_2)
  .ret))
  .skip))
  (.seq (.region [⟨(some 12), .mov (.c (.slice none 0 (some 0))), none⟩] k5_17)
  (.region [⟨(some 81), .mov (.t 6), none⟩,
    ⟨(some 82), .call 19 [(.t 81)], none⟩,
    ⟨(some 14), .mov (.t 82), none⟩] k5_18))))
  .skip))
  (.seq (.region [⟨(some 84), .mov (.t 9), none⟩,
    ⟨(some 85), .call 32 [(.t 84)], none⟩,
    ⟨(some 83), .mov (.t 85), none⟩,
    ⟨(some 86), .extract (.t 83) 0, none⟩,
    ⟨(some 87), .extract (.t 83) 1, none⟩,
    ⟨(some 15), .mov (.t 86), none⟩,
    ⟨(some 13), .mov (.t 87), none⟩] k5_19)
  (.seq (.region [⟨(some 88), .mov (.t 13), none⟩,
    ⟨(some 89), .bin .neq (.t 88) (.c (.int .i64 (0))), none⟩,
    ⟨(some 90), .mov (.t 89), none⟩,
    ⟨(some 91), .mov (.t 15), (some (90, false))⟩,
    ⟨(some 92), .mov (.t 12), (some (90, false))⟩,
    ⟨(some 93), .lenSlice (.t 92), (some (90, false))⟩,
    ⟨(some 94), .bin .neq (.t 91) (.t 93), (some (90, false))⟩,
    ⟨(some 95), .pick (.t 90) (.c (.bool true)) (.t 94), none⟩,
    ⟨(some 96), .mov (.t 95), none⟩,
    ⟨(some 97), .mov (.t 6), (some (96, false))⟩,
    ⟨(some 98), .call 19 [(.t 97)], (some (96, false))⟩,
    ⟨(some 99), .mov (.t 14), (some (96, false))⟩,
    ⟨(some 100), .mov (.t 15), (some (96, false))⟩,
    ⟨(some 101), .bin .add (.t 99) (.t 100), (some (96, false))⟩,
    ⟨(some 102), .bin .neq (.t 98) (.t 101), (some (96, false))⟩,
    ⟨(some 103), .pick (.t 96) (.c (.bool true)) (.t 102), none⟩] k5_20)
  (.cond (.t 103)
  (.seq (.region [⟨(some 4), .mov (.c (.bool false)), none⟩] k5_2)
  (.seq (.region [] k5_2)
  .ret))
  .skip))))))))))
  (.region [] k5_8))
def k5_21 : List Bool := [ff,ff,ff,ff,ff,ff,tt,ff,ff,ff,ff,ff,ff,ff,ff,ff,ff,ff,ff,ff,ff,ff,ff,ff,ff,ff,ff,ff,ff,ff,ff,ff,ff,ff,ff,ff,ff,ff,ff,ff,ff,ff,ff,ff,ff,ff,ff,ff,ff,ff,ff,ff,ff,ff,ff,ff,ff,ff,ff,ff,ff,ff,ff,ff,ff,ff,ff,ff,ff,ff,ff,ff,ff,ff,ff,ff,ff,ff,ff,ff,ff,ff,ff,ff,ff,ff,ff,ff,ff,ff,ff,ff,ff,ff,ff,ff,ff,ff,ff,ff,ff,ff,ff,ff,ff,ff,ff,ff,ff,ff,ff,ff]
def c5 : IFn := ⟨112, [(4, none)],
  (.seq (.region [⟨(some 4), .mov (.c (.bool false)), none⟩] k5_0)
  (.seq (.seq (.region [⟨(some 16), .mov (.t 0), none⟩,
    ⟨(some 17), .call 24 [(.t 16)], none⟩] k5_1)
  (.cond (.t 17)
  (.seq (.region [⟨(some 18), .call 23 [], none⟩,
    ⟨(some 4), .mov (.t 18), none⟩] k5_2)
  (.seq (.region [] k5_2)
  .ret))
  .skip))
  (.seq (.region [⟨(some 20), .call 25 [(.c (.int .i64 (12))), (.c (.int .i64 (1)))], none⟩,
    ⟨(some 19), .mov (.t 20), none⟩,
    ⟨(some 21), .extract (.t 19) 0, none⟩,
    ⟨(some 22), .extract (.t 19) 1, none⟩,
    ⟨(some 23), .extract (.t 19) 2, none⟩,
    ⟨(some 24), .extract (.t 19) 3, none⟩,
    ⟨(some 5), .mov (.t 21), none⟩,
    ⟨(some 6), .mov (.t 22), none⟩,
    ⟨(some 7), .mov (.t 23), none⟩,
    ⟨(some 8), .mov (.t 24), none⟩] k5_3)
  (.seq (.seq (.region [⟨(some 25), .mov (.t 8), none⟩,
    ⟨(some 26), .un .not (.t 25), none⟩] k5_4)
  (.cond (.t 26)
  (.seq (.region [⟨(some 4), .mov (.c (.bool false)), none⟩] k5_2)
  (.seq (.region [] k5_2)
  .ret))
  .skip))
  (.seq (.region [⟨(some 27), .mov (.t 5), none⟩,
    ⟨(some 28), .indexAddr 1 (.t 27) (.c (.int .i64 (0))), none⟩,
    ⟨(some 29), .load none (.t 28), none⟩,
    ⟨(some 30), .nilCheck (.t 29), none⟩,
    ⟨(some 31), .fieldAddr 0 (.t 30), none⟩,
    ⟨(some 32), .load none (.t 31), none⟩,
    ⟨(some 9), .mov (.t 32), none⟩] k5_5)
  (.seq (.seq (.region [⟨(some 10), .mov (.c (.int .i64 (0))), none⟩] k5_6)
  (.block 0
  (.seq (.region [] k5_6)
  (.loop l5_0))))
  (.seq (.block 2
  (.seq (.region [] k5_8)
  (.loop l5_1)))
  (.seq (.region [⟨(some 104), .mov (.t 9), none⟩,
    ⟨(some 105), .call 33 [(.t 104)], none⟩] k5_21)
  (.seq (.region [⟨(some 106), .mov (.t 6), none⟩,
    ⟨(some 107), .call 21 [(.t 106)], none⟩,
    ⟨(some 108), .bin .eql (.t 107) (.c (.int .i64 (0))), none⟩,
    ⟨(some 109), .mov (.t 108), none⟩,
    ⟨(some 110), .call 23 [], (some (109, true))⟩,
    ⟨(some 111), .pick (.t 109) (.t 110) (.c (.bool false)), none⟩,
    ⟨(some 4), .mov (.t 111), none⟩] k5_2)
  (.seq (.region [] k5_2)
  .ret))))))))))⟩
theorem F5 : shutF Try.prog 5 = some c5 := by kernel_rfl


section
variable {o : Nat → Option O} {s : St} {C F : Ch} {Q : V → St → Prop} {p r q t : Nat} {u : List Bool} {others : List Nat} {G : PairG}
set_option maxRecDepth 10000
set_option maxHeartbeats 4000000

theorem acts_free {hk : Nat} {v v1 v4 v6 v9 v80 : V} {l : List (ActG × List Bool)} {K : Kt} (hA : ActsAt o v l) (hl : l.length ≤ 150) :
    ∀ (m i : Nat) (s : St) (u : List Bool) (G : PairG), i + m = l.length → PairOk u others G → G.ws.length ≤ 1000 * i → Holds o s (World p r q t u G ((hk, rowO 1 1 [ptrN G.id]) :: F)) →
    (∀ s' u' G', PairOk u' others G' → G'.id = G.id → G'.hp.id = G.hp.id → u'.length = u.length → G'.hp.lives ≤ G.hp.lives + m → Holds o s' (World p r q t u' G' ((hk, rowO 1 1 [ptrN G.id]) :: F)) → WP (K (.exit 0) (.any :: v1 :: .any :: .any :: v4 :: .any :: v6 :: .any :: .any :: v9 :: .any :: .any :: .any :: .any :: .any :: .any :: .any :: .any :: .any :: .any :: .any :: .any :: .any :: .any :: .any :: .any :: .any :: .any :: .any :: .any :: .any :: .any :: .any :: .any :: .any :: .any :: .any :: .any :: .any :: .any :: .any :: .any :: .any :: .any :: .any :: .any :: .any :: .any :: .any :: .any :: .any :: .any :: .any :: .any :: .any :: .any :: .any :: .any :: .any :: .any :: .any :: .any :: .any :: .any :: .any :: .any :: .any :: .any :: .any :: .any :: .any :: .any :: .any :: .any :: .any :: .any :: .any :: .any :: .any :: .any :: v80 :: .any :: .any :: .any :: .any :: .any :: .any :: .any :: .any :: .any :: .any :: .any :: .any :: .any :: .any :: .any :: .any :: .any :: .any :: .any :: .any :: .any :: .any :: .any :: .any :: .any :: .any :: .any :: .any :: .any :: .any :: .any :: []) s') Q) →
    WP (loop PF (.loop l5_0) (v :: v1 :: .any :: .any :: v4 :: (rowV hk 1) :: v6 :: .any :: .any :: v9 :: (I i) :: .any :: .any :: .any :: .any :: .any :: .any :: .any :: .any :: .any :: .any :: .any :: .any :: .any :: .any :: .any :: .any :: .any :: .any :: .any :: .any :: .any :: .any :: .any :: .any :: .any :: .any :: .any :: .any :: .any :: .any :: .any :: .any :: .any :: .any :: .any :: .any :: .any :: .any :: .any :: .any :: .any :: .any :: .any :: .any :: .any :: .any :: .any :: .any :: .any :: .any :: .any :: .any :: .any :: .any :: .any :: .any :: .any :: .any :: .any :: .any :: .any :: .any :: .any :: .any :: .any :: .any :: .any :: .any :: .any :: v80 :: .any :: .any :: .any :: .any :: .any :: .any :: .any :: .any :: .any :: .any :: .any :: .any :: .any :: .any :: .any :: .any :: .any :: .any :: .any :: .any :: .any :: .any :: .any :: .any :: .any :: .any :: .any :: .any :: .any :: .any :: .any :: []) s K) Q
  | 0, i, s, u, G, hi, h, hw, H, k => by
    have hlt : ¬ ((i : Int) < (l.length : Int)) := by omega
    refine wp_round fun LL hLL => ?_
    simp -implicitDefEqProofs only [↓GP, GB, GL, Nat.reduceAdd, Nat.reduceSub, Nat.reduceEqDiff, Nat.reduceMul, Nat.reduceLeDiff, Int.reduceBNe, Int.reduceBEq, Nat.reduceLT, reduceCtorEq, k5_0, k5_1, k5_2, k5_3, k5_4, k5_5, k5_6, k5_7, k5_8, k5_9, k5_10, k5_11, k5_12, k5_13, k5_14, k5_15, k5_16, k5_17, k5_18, k5_19, k5_20, k5_21, l5_0, hA.len, hlt]
    exact k s u G h rfl rfl rfl (by omega) H
  | m + 1, i, s, u, G, hi, h, hw, H, k => by
    have hlt : ((i : Int) < (l.length : Int)) := by omega
    have hi' : i < l.length := by omega
    obtain ⟨ad, a1, a2⟩ := hA.get i hi'
    have a3 := (a2 s H.old).1
    have mi := List.getElem_mem hi'
    have fh := H.mem (World.fr (List.mem_cons_self ..) : (hk, some (.cells [ptrN G.id] (some 1))) ∈ World p r q t u G ((hk, rowO 1 1 [ptrN G.id]) :: F))
    have hix := ix_row (sz := 1) (k := hk) (n := 1) (i := 0) (kk := .i64) (by omega)
    have hw1 := wrap_add1 (a := i) (by omega)
    simp only [Int.natCast_zero, Nat.zero_mul] at hix
    refine wp_round fun LL hLL => ?_
    simp -implicitDefEqProofs only [↓GP, GB, GL, Nat.reduceAdd, Nat.reduceSub, Nat.reduceEqDiff, Nat.reduceMul, Nat.reduceLeDiff, Int.reduceBNe, Int.reduceBEq, Nat.reduceLT, reduceCtorEq, k5_0, k5_1, k5_2, k5_3, k5_4, k5_5, k5_6, k5_7, k5_8, k5_9, k5_10, k5_11, k5_12, k5_13, k5_14, k5_15, k5_16, k5_17, k5_18, k5_19, k5_20, k5_21, l5_0, hA.len, hlt, hix, fh, a1, a3]
    refine wp_in (s26 (bs := l[i].2) l[i].1 (hA.d _ mi).1 (hA.some_ _ mi) h (by omega) H fun s1 u1 G1 n1 h1 => ?_)
    simp -implicitDefEqProofs only [↓GP, GB, GL, Nat.reduceAdd, Nat.reduceSub, Nat.reduceEqDiff, Nat.reduceMul, Nat.reduceLeDiff, Int.reduceBNe, Int.reduceBEq, Nat.reduceLT, reduceCtorEq, k5_0, k5_1, k5_2, k5_3, k5_4, k5_5, k5_6, k5_7, k5_8, k5_9, k5_10, k5_11, k5_12, k5_13, k5_14, k5_15, k5_16, k5_17, k5_18, k5_19, k5_20, k5_21, hw1]
    rw [hLL]
    refine acts_free hA hl m (i + 1) s1 u1 G1 (by omega) n1.ok (by have := n1.ws; omega) (by rw [n1.id]; exact h1) fun s2 u2 G2 ok2 e1 e2 e3 e4 h2 => k s2 u2 G2 ok2 (e1.trans n1.id) (e2.trans n1.pid) (e3.trans n1.ul) (by have := n1.lv; omega) (by rw [← n1.id]; exact h2)

/-- The program's heap alone. -/
structure POk (u : List Bool) (hp : PHeap) : Prop where
  ulen : u.length ≤ 30
  inv : HInv hp.lives (hp.regs.map PReg.m)
  pool : PoolInv u ((hp.regs.map PReg.m).flatMap (·.pages))
  pok : ∀ g ∈ hp.regs, g.ok
theorem PairOk.toP (h : PairOk u [] G) : POk u G.hp := ⟨h.ulen, h.inv, by have := h.pool; rwa [List.append_nil] at this, h.pok⟩
theorem POk.g {hp : PHeap} (h : POk u hp) {g : PReg} (hg : g ∈ hp.regs) : (∀ x ∈ g.pages, x < u.length) ∧ g.pages.length ≤ 30 := by
  have hr : g.m ∈ hp.regs.map PReg.m := List.mem_map.2 ⟨g, hg, rfl⟩
  have hs := sub_flatMap (fun r : Reg => r.pages) hr
  have := h.pool.sub_len hs
  have := h.ulen
  exact ⟨fun x hx => h.pool.lt (hs.subset hx), by simp only [PReg.m] at *; omega⟩
theorem POk.ne {hp : PHeap} (h : POk u hp) : hp.regs ≠ [] := fun e => h.inv.ne (by rw [e]; rfl)
theorem POk.len {hp : PHeap} (h : POk u hp) : hp.regs.length ≤ 100000 := by have h1 := h.inv.len; have h2 := h.inv.lives; rw [List.length_map] at h1; omega
theorem POk.last {hp : PHeap} (h : POk u hp) {A : List PReg} {g : PReg} (e : hp.regs = A ++ [g]) : PoolInv u (g.pages ++ (A.map PReg.m).flatMap (·.pages)) := by
  have := h.pool
  rw [e] at this
  refine this.perm ?_
  simp only [List.map_append, List.map_cons, List.map_nil, List.flatMap_append, List.flatMap_cons, List.flatMap_nil, List.append_nil]
  exact List.perm_append_comm
theorem POk.pop {hp : PHeap} (h : POk u hp) {A : List PReg} {g : PReg} (e : hp.regs = A ++ [g]) (h0 : A ≠ []) (sl : List V) : POk (freeP u g.pages) { hp with regs := A, sl := sl } where
  ulen := by rw [freeP_len]; exact h.ulen
  inv := by
    have hi := h.inv
    rw [e] at hi
    simp only [List.map_append, List.map_cons, List.map_nil] at hi
    refine ⟨hi.lives, by simpa using h0, by have := hi.len; simp at this ⊢; omega, ?_, fun r hr => hi.life r (List.mem_append_left _ hr), fun r hr => hi.reg r (List.mem_append_left _ hr)⟩
    have := hi.nodup
    rw [List.map_append, List.nodup_append] at this
    exact this.1
  pool := (h.last e).free
  pok := fun x hx => h.pok x (by rw [e]; exact List.mem_append_left _ hx)
theorem POk.reset {hp : PHeap} (h : POk u hp) {A : List PReg} {g : PReg} {k : Nat} (e : hp.regs = A ++ [g]) (hl : hp.lives < 100000) :
    POk (freeP u g.pages) { hp with lives := hp.lives + 1, regs := A ++ { g with life := hp.lives + 1, fill := 0, pages := [], objs := [], plk := k, pl := .map [] 0 } :: [] } where
  ulen := by rw [freeP_len]; exact h.ulen
  inv := by
    have hi := h.inv
    rw [e] at hi
    simp only [List.map_append, List.map_cons, List.map_nil] at hi
    refine ⟨by simp only; omega, by simp, by have := hi.len; simp at this ⊢; omega, ?_, ?_, ?_⟩
    · have hn := hi.nodup
      simp only [List.map_append, List.map_cons, List.map_nil, List.nodup_append] at hn ⊢
      refine ⟨hn.1, by simp, fun x hx y hy => ?_⟩
      obtain ⟨r, hr, rfl⟩ := List.mem_map.1 hx
      have := (hi.life r (List.mem_append_left _ hr)).2
      simp [PReg.m] at hy
      omega
    · intro r hr
      simp only [List.map_append, List.map_cons, List.map_nil, List.mem_append, List.mem_cons, List.not_mem_nil, or_false] at hr
      rcases hr with hr | rfl
      · have := hi.life r (List.mem_append_left _ hr); simp only; omega
      · simp only [PReg.m]; omega
    · intro r hr
      simp only [List.map_append, List.map_cons, List.map_nil, List.mem_append, List.mem_cons, List.not_mem_nil, or_false] at hr
      rcases hr with hr | rfl
      · exact hi.reg r (List.mem_append_left _ hr)
      · have := (hi.reg g.m (by simp)).size
        exact ⟨this, by simp [PReg.m], fun _ => by simp [PReg.m], fun _ => Packed.nil⟩
  pool := by
    have := (h.last e).free
    simpa [PReg.m] using this
  pok := by
    intro x hx
    simp only [List.mem_append, List.mem_cons, List.not_mem_nil, or_false] at hx
    rcases hx with hx | rfl
    · exact h.pok x (by rw [e]; simp [hx])
    · exact mapIs_nil
theorem freeP_nil (u : List Bool) : freeP u [] = u := rfl
theorem free_count {a : List Nat} (h : PoolInv u a) : u.count false + a.length = u.length := by
  have := h.count; have := count_both u; omega
theorem poolAt (H : Holds o s (poolC p r u ++ F)) : PoolAt s p r u := by
  have f := Holds.f2 H
  exact ⟨f.1.1, f.2.1.1⟩

/-- Closing, until one region is left. -/
theorem close_loop {hid : Nat} {b : Bool} {v4 : V} {K : Kt} : ∀ (d : Nat) (s : St) (u : List Bool) (hp : PHeap) (v80 : V), hp.regs.length = d + 1 → hp.id = hid → POk u hp → hp.lives + hp.regs.length ≤ 100000 → Holds o s (poolC p r u ++ (hp.ch p ++ F)) →
    (∀ s' u' hp', POk u' hp' → hp'.id = hid → Holds o s' (poolC p r u' ++ (hp'.ch p ++ F)) → WP (K (.exit 2) (.any :: .any :: .any :: .any :: .any :: .any :: (ptrN p) :: .any :: .any :: (ptrN hid) :: .any :: .any :: .any :: .any :: .any :: .any :: .any :: .any :: .any :: .any :: .any :: .any :: .any :: .any :: .any :: .any :: .any :: .any :: .any :: .any :: .any :: .any :: .any :: .any :: .any :: .any :: .any :: .any :: .any :: .any :: .any :: .any :: .any :: .any :: .any :: .any :: .any :: .any :: .any :: .any :: .any :: .any :: .any :: .any :: .any :: .any :: .any :: .any :: .any :: .any :: .any :: .any :: .any :: .any :: .any :: .any :: .any :: .any :: .any :: .any :: .any :: .any :: .any :: .any :: .any :: .any :: .any :: .any :: .any :: .any :: .any :: .any :: .any :: .any :: .any :: .any :: .any :: .any :: .any :: .any :: .any :: .any :: .any :: .any :: .any :: .any :: .any :: .any :: .any :: .any :: .any :: .any :: .any :: .any :: .any :: .any :: .any :: .any :: .any :: .any :: .any :: .any :: []) s') Q) →
    WP (loop PF (.loop l5_1) (.any :: (.bool b) :: .any :: .any :: v4 :: .any :: (ptrN p) :: .any :: .any :: (ptrN hid) :: .any :: .any :: .any :: .any :: .any :: .any :: .any :: .any :: .any :: .any :: .any :: .any :: .any :: .any :: .any :: .any :: .any :: .any :: .any :: .any :: .any :: .any :: .any :: .any :: .any :: .any :: .any :: .any :: .any :: .any :: .any :: .any :: .any :: .any :: .any :: .any :: .any :: .any :: .any :: .any :: .any :: .any :: .any :: .any :: .any :: .any :: .any :: .any :: .any :: .any :: .any :: .any :: .any :: .any :: .any :: .any :: .any :: .any :: .any :: .any :: .any :: .any :: .any :: .any :: .any :: .any :: .any :: .any :: .any :: .any :: v80 :: .any :: .any :: .any :: .any :: .any :: .any :: .any :: .any :: .any :: .any :: .any :: .any :: .any :: .any :: .any :: .any :: .any :: .any :: .any :: .any :: .any :: .any :: .any :: .any :: .any :: .any :: .any :: .any :: .any :: .any :: .any :: []) s K) Q
  | 0, s, u, hp, v80, hd, hid', h, hl, H, k => by
    subst hid'
    have hin : In (poolC p r u ++ (hp.ch p ++ F)) p hp := ⟨fun x hx => List.mem_append_right _ (List.mem_append_left _ hx)⟩
    have e := s27 H hin
    rw [hd] at e
    have hlt : ¬ (((0 + 1 : Nat) : Int) > 1) := by omega
    refine wp_round fun LL hLL => ?_
    simp -implicitDefEqProofs only [↓GP, GB, GL, Nat.reduceAdd, Nat.reduceSub, Nat.reduceEqDiff, Nat.reduceMul, Nat.reduceLeDiff, Int.reduceBNe, Int.reduceBEq, Nat.reduceLT, reduceCtorEq, k5_0, k5_1, k5_2, k5_3, k5_4, k5_5, k5_6, k5_7, k5_8, k5_9, k5_10, k5_11, k5_12, k5_13, k5_14, k5_15, k5_16, k5_17, k5_18, k5_19, k5_20, k5_21, l5_1, e, hlt, Int.cast_ofNat_Int, Nat.zero_add, gt_iff_lt, Int.reduceLT]
    exact k s u hp h rfl H
  | d + 1, s, u, hp, v80, hd, hid', h, hl, H, k => by
    subst hid'
    have hin : In (poolC p r u ++ (hp.ch p ++ F)) p hp := ⟨fun x hx => List.mem_append_right _ (List.mem_append_left _ hx)⟩
    have e := s27 H hin
    have hpl := h.len
    have hu := h.ulen
    have hgt : ((hp.regs.length : Int) > 1) := by omega
    obtain ⟨e1, l1⟩ := list_split (show hp.regs[hp.regs.length - 1]? = some (hp.regs[hp.regs.length - 1]'(by omega)) by simp [show hp.regs.length - 1 < hp.regs.length by omega])
    rw [List.drop_eq_nil_of_le (show hp.regs.length ≤ hp.regs.length - 1 + 1 by omega)] at e1
    generalize hAe : hp.regs.take (hp.regs.length - 1) = A at e1 l1
    generalize hge : hp.regs[hp.regs.length - 1]'(by omega) = g at e1
    have hA0 : A ≠ [] := by intro e; rw [e] at l1; simp at l1; omega
    have mg : g ∈ hp.regs := by rw [e1]; simp
    obtain ⟨g1, g2⟩ := h.g mg
    have hg : hp.regs[A.length]? = some g := by rw [e1]; simp
    have w1 : wrapI .i64 ((hp.regs.length : Int) - 1) = I (A.length : Nat) := by rw [wrap_sub1 (by omega) (by omega), l1]
    refine wp_round fun LL hLL => ?_
    simp -implicitDefEqProofs only [↓GP, GB, GL, Nat.reduceAdd, Nat.reduceSub, Nat.reduceEqDiff, Nat.reduceMul, Nat.reduceLeDiff, Int.reduceBNe, Int.reduceBEq, Nat.reduceLT, reduceCtorEq, k5_0, k5_1, k5_2, k5_3, k5_4, k5_5, k5_6, k5_7, k5_8, k5_9, k5_10, k5_11, k5_12, k5_13, k5_14, k5_15, k5_16, k5_17, k5_18, k5_19, k5_20, k5_21, l5_1, e, hgt, w1]
    refine wp_in (s29 H hin hpl hg (by omega) fun s1 pk h1 => ?_)
    have hc := free_count (h.last e1)
    have H1 : Holds o s1 (poolC p r u ++ ((pk, pagesO g.pages) :: (hp.ch p ++ F))) := (Holds.of (h1) (fun k => by simp +arith only [I, ptrN, slN, alloc_next, set_next, World, PairG.ch, PairG.pc, PairG.hd, poolC, PReg.ch, PHeap.ch, PObj.ch, RReg.ch, RHeap.ch, RObj.ch, pagesO_nil, pObO_nil, rObO_nil, List.flatMap_append, List.flatMap_cons, List.flatMap_nil, List.append_eq, List.append_assoc, List.cons_append, List.nil_append, cnt_append, cnt_cons, cnt_nil, cnt1_ff, Option.isSome_some, Option.isSome_none]) (fun k x => by simp only [I, ptrN, slN, alloc_next, set_next, World, PairG.ch, PairG.pc, PairG.hd, poolC, PReg.ch, PHeap.ch, PObj.ch, RReg.ch, RHeap.ch, RObj.ch, pagesO_nil, pObO_nil, rObO_nil, List.flatMap_append, List.flatMap_cons, List.flatMap_nil, List.append_eq, List.append_assoc, List.cons_append, List.nil_append, List.mem_append, List.mem_cons, List.not_mem_nil, mem_some_none, or_false, false_or]; grind only))
    have e19 := s19 (poolAt H1) (by omega)
    have hcf := free_count ((h.last e1).free)
    rw [freeP_len] at hcf
    rw [List.length_append] at hc
    have hrow : lenV (rowV pk g.pages.length) = some (.int .i64 g.pages.length) := rowV_len _ _
    have hw : wrapI .i64 (((u.count false : Nat) : Int) + (g.pages.length : Int)) = I (((freeP u g.pages).count false : Nat) : Int) := by rw [wrap_add (by omega) (by omega)]; congr 2; omega
    simp -implicitDefEqProofs only [↓GP, GB, GL, Nat.reduceAdd, Nat.reduceSub, Nat.reduceEqDiff, Nat.reduceMul, Nat.reduceLeDiff, Int.reduceBNe, Int.reduceBEq, Nat.reduceLT, reduceCtorEq, k5_0, k5_1, k5_2, k5_3, k5_4, k5_5, k5_6, k5_7, k5_8, k5_9, k5_10, k5_11, k5_12, k5_13, k5_14, k5_15, k5_16, k5_17, k5_18, k5_19, k5_20, k5_21, e19, Int.reduceBNe]
    cases b with
    | true =>
      simp -implicitDefEqProofs only [↓GP, GB, GL, Nat.reduceAdd, Nat.reduceSub, Nat.reduceEqDiff, Nat.reduceMul, Nat.reduceLeDiff, Int.reduceBNe, Int.reduceBEq, Nat.reduceLT, reduceCtorEq, k5_0, k5_1, k5_2, k5_3, k5_4, k5_5, k5_6, k5_7, k5_8, k5_9, k5_10, k5_11, k5_12, k5_13, k5_14, k5_15, k5_16, k5_17, k5_18, k5_19, k5_20, k5_21]
      refine wp_in (s31 (hp := hp) (p := p) (r := r) (u := u) (A := A) (B := []) (g := g) (F := (pk, pagesO g.pages) :: F) (Holds.of (H1) (fun k => by simp +arith only [I, ptrN, slN, alloc_next, set_next, World, PairG.ch, PairG.pc, PairG.hd, poolC, PReg.ch, PHeap.ch, PObj.ch, RReg.ch, RHeap.ch, RObj.ch, pagesO_nil, pObO_nil, rObO_nil, List.flatMap_append, List.flatMap_cons, List.flatMap_nil, List.append_eq, List.append_assoc, List.cons_append, List.nil_append, cnt_append, cnt_cons, cnt_nil, cnt1_ff, Option.isSome_some, Option.isSome_none]) (fun k x => by simp only [I, ptrN, slN, alloc_next, set_next, World, PairG.ch, PairG.pc, PairG.hd, poolC, PReg.ch, PHeap.ch, PObj.ch, RReg.ch, RHeap.ch, RObj.ch, pagesO_nil, pObO_nil, rObO_nil, List.flatMap_append, List.flatMap_cons, List.flatMap_nil, List.append_eq, List.append_assoc, List.cons_append, List.nil_append, List.mem_append, List.mem_cons, List.not_mem_nil, mem_some_none, or_false, false_or]; grind only)) e1 hpl (by omega) g1 (by omega) (by omega) fun s2 kk h2 => ?_)
      have e19' := s19 (poolAt h2) (by rw [freeP_len]; omega)
      have hbe : ((((freeP u g.pages).count false : Nat) : Int) != (((freeP u g.pages).count false : Nat) : Int)) = false := by simp
      simp -implicitDefEqProofs only [↓GP, GB, GL, Nat.reduceAdd, Nat.reduceSub, Nat.reduceEqDiff, Nat.reduceMul, Nat.reduceLeDiff, Int.reduceBNe, Int.reduceBEq, Nat.reduceLT, reduceCtorEq, k5_0, k5_1, k5_2, k5_3, k5_4, k5_5, k5_6, k5_7, k5_8, k5_9, k5_10, k5_11, k5_12, k5_13, k5_14, k5_15, k5_16, k5_17, k5_18, k5_19, k5_20, k5_21, e19', hw, hbe, Int.reduceBNe]
      have hok2 := h.reset (k := kk) e1 (by omega)
      refine wp_in (s32 (hp := { hp with lives := hp.lives + 1, regs := A ++ { g with life := hp.lives + 1, fill := 0, pages := [], objs := [], plk := kk, pl := .map [] 0 } :: [] }) (p := p) (r := r) (u := freeP u g.pages) (A := A) (g := { g with life := hp.lives + 1, fill := 0, pages := [], objs := [], plk := kk, pl := .map [] 0 }) (F := (pk, pagesO g.pages) :: F) h2 rfl hA0 hok2.len (by rw [freeP_len]; omega) (by simp) (by simp) fun s3 h3 => ?_)
      have hok3 := hok2.pop (A := A) rfl hA0 (ptrN g.id :: hp.sl)
      have e19'' := s19 (poolAt h3) (by rw [freeP_len, freeP_len]; omega)
      have hw2 : wrapI .i64 ((((freeP u g.pages).count false : Nat) : Int) + 0) = I (((freeP u g.pages).count false : Nat) : Int) := by rw [wrap64 (by omega) (by omega), Int.add_zero]
      simp -implicitDefEqProofs only [↓GP, GB, GL, Nat.reduceAdd, Nat.reduceSub, Nat.reduceEqDiff, Nat.reduceMul, Nat.reduceLeDiff, Int.reduceBNe, Int.reduceBEq, Nat.reduceLT, reduceCtorEq, k5_0, k5_1, k5_2, k5_3, k5_4, k5_5, k5_6, k5_7, k5_8, k5_9, k5_10, k5_11, k5_12, k5_13, k5_14, k5_15, k5_16, k5_17, k5_18, k5_19, k5_20, k5_21, e19'', hw2, hbe, Int.reduceBNe, Int.natCast_zero, List.length_nil, freeP_nil]
      rw [hLL]
      exact close_loop d s3 (freeP u g.pages) { hp with lives := hp.lives + 1, regs := A, sl := ptrN g.id :: hp.sl } _ (by simp only; omega) rfl hok3 (by simp only; omega) (Holds.of (h3) (fun k => by simp +arith only [freeP_nil, I, ptrN, slN, alloc_next, set_next, World, PairG.ch, PairG.pc, PairG.hd, poolC, PReg.ch, PHeap.ch, PObj.ch, RReg.ch, RHeap.ch, RObj.ch, pagesO_nil, pObO_nil, rObO_nil, List.flatMap_append, List.flatMap_cons, List.flatMap_nil, List.append_eq, List.append_assoc, List.cons_append, List.nil_append, cnt_append, cnt_cons, cnt_nil, cnt1_ff, Option.isSome_some, Option.isSome_none]) (fun k x => by simp only [freeP_nil, I, ptrN, slN, alloc_next, set_next, World, PairG.ch, PairG.pc, PairG.hd, poolC, PReg.ch, PHeap.ch, PObj.ch, RReg.ch, RHeap.ch, RObj.ch, pagesO_nil, pObO_nil, rObO_nil, List.flatMap_append, List.flatMap_cons, List.flatMap_nil, List.append_eq, List.append_assoc, List.cons_append, List.nil_append, List.mem_append, List.mem_cons, List.not_mem_nil, mem_some_none, or_false, false_or]; grind only)) k
    | false =>
      simp -implicitDefEqProofs only [↓GP, GB, GL, Nat.reduceAdd, Nat.reduceSub, Nat.reduceEqDiff, Nat.reduceMul, Nat.reduceLeDiff, Int.reduceBNe, Int.reduceBEq, Nat.reduceLT, reduceCtorEq, k5_0, k5_1, k5_2, k5_3, k5_4, k5_5, k5_6, k5_7, k5_8, k5_9, k5_10, k5_11, k5_12, k5_13, k5_14, k5_15, k5_16, k5_17, k5_18, k5_19, k5_20, k5_21]
      refine wp_in (s32 (hp := hp) (p := p) (r := r) (u := u) (A := A) (g := g) (F := (pk, pagesO g.pages) :: F) (Holds.of (H1) (fun k => by simp +arith only [I, ptrN, slN, alloc_next, set_next, World, PairG.ch, PairG.pc, PairG.hd, poolC, PReg.ch, PHeap.ch, PObj.ch, RReg.ch, RHeap.ch, RObj.ch, pagesO_nil, pObO_nil, rObO_nil, List.flatMap_append, List.flatMap_cons, List.flatMap_nil, List.append_eq, List.append_assoc, List.cons_append, List.nil_append, cnt_append, cnt_cons, cnt_nil, cnt1_ff, Option.isSome_some, Option.isSome_none]) (fun k x => by simp only [I, ptrN, slN, alloc_next, set_next, World, PairG.ch, PairG.pc, PairG.hd, poolC, PReg.ch, PHeap.ch, PObj.ch, RReg.ch, RHeap.ch, RObj.ch, pagesO_nil, pObO_nil, rObO_nil, List.flatMap_append, List.flatMap_cons, List.flatMap_nil, List.append_eq, List.append_assoc, List.cons_append, List.nil_append, List.mem_append, List.mem_cons, List.not_mem_nil, mem_some_none, or_false, false_or]; grind only)) e1 hA0 hpl (by omega) g1 (by omega) fun s2 h2 => ?_)
      have hok3 := h.pop e1 hA0 (ptrN g.id :: hp.sl)
      have e19' := s19 (poolAt h2) (by rw [freeP_len]; omega)
      have hbe : ((((freeP u g.pages).count false : Nat) : Int) != (((freeP u g.pages).count false : Nat) : Int)) = false := by simp
      have hbn : ((g.pages.length : Int) != (g.pages.length : Int)) = false := by simp
      simp -implicitDefEqProofs only [↓GP, GB, GL, Nat.reduceAdd, Nat.reduceSub, Nat.reduceEqDiff, Nat.reduceMul, Nat.reduceLeDiff, Int.reduceBNe, Int.reduceBEq, Nat.reduceLT, reduceCtorEq, k5_0, k5_1, k5_2, k5_3, k5_4, k5_5, k5_6, k5_7, k5_8, k5_9, k5_10, k5_11, k5_12, k5_13, k5_14, k5_15, k5_16, k5_17, k5_18, k5_19, k5_20, k5_21, e19', hw, hbe, hbn, Int.reduceBNe]
      rw [hLL]
      exact close_loop d s2 (freeP u g.pages) { hp with regs := A, sl := ptrN g.id :: hp.sl } _ (by simp only; omega) rfl hok3 (by simp only; omega) (Holds.of (h2) (fun k => by simp +arith only [I, ptrN, slN, alloc_next, set_next, World, PairG.ch, PairG.pc, PairG.hd, poolC, PReg.ch, PHeap.ch, PObj.ch, RReg.ch, RHeap.ch, RObj.ch, pagesO_nil, pObO_nil, rObO_nil, List.flatMap_append, List.flatMap_cons, List.flatMap_nil, List.append_eq, List.append_assoc, List.cons_append, List.nil_append, cnt_append, cnt_cons, cnt_nil, cnt1_ff, Option.isSome_some, Option.isSome_none]) (fun k x => by simp only [I, ptrN, slN, alloc_next, set_next, World, PairG.ch, PairG.pc, PairG.hd, poolC, PReg.ch, PHeap.ch, PObj.ch, RReg.ch, RHeap.ch, RObj.ch, pagesO_nil, pObO_nil, rObO_nil, List.flatMap_append, List.flatMap_cons, List.flatMap_nil, List.append_eq, List.append_assoc, List.cons_append, List.nil_append, List.mem_append, List.mem_cons, List.not_mem_nil, mem_some_none, or_false, false_or]; grind only)) k

theorem freeAll_inv : ∀ (L : List (List Nat)) {u : List Bool}, PoolInv u (L.flatMap id) → PoolInv (freeAll u L) []
  | [], u, h => h
  | a :: L, u, h => by
    rw [List.flatMap_cons] at h
    exact freeAll_inv L (u := freeP u a) h.free
theorem freeAll_len : ∀ (L : List (List Nat)) (u : List Bool), (freeAll u L).length = u.length
  | [], u => rfl
  | a :: L, u => (freeAll_len L (freeP u a)).trans (freeP_len u a)
theorem mod_one : (0 : Nat) < 1 := by omega

/-- PageFree: it answers true. -/
theorem pageFree_im {v : V} {l : List (ActG × List Bool)} (hA : ActsAt o v l) (hll : l.length < 2 ^ 61) (b : Bool) (s : St) (hs : s.old = o) : ∃ st, call PF 5 [v, .bool b] s = some (.bool true, st) := by
  suffices WP (call PF 5 [v, .bool b] s) fun v' _ => v' = .bool true by
    obtain ⟨v', st, e, rfl⟩ := this
    exact ⟨st, e⟩
  have e24 := s24 hs hA hll
  cases hlg : longB l with
  | true =>
    rw [hlg] at e24
    obtain ⟨t, ht, -⟩ := sane15 s
    rw [call_run F5]; simp -implicitDefEqProofs only [↓GP, GB, GL, Nat.reduceAdd, Nat.reduceSub, Nat.reduceEqDiff, Nat.reduceMul, Nat.reduceLeDiff, Int.reduceBNe, Int.reduceBEq, Nat.reduceLT, reduceCtorEq, c5, k5_0, k5_1, k5_2, k5_3, k5_4, k5_5, k5_6, k5_7, k5_8, k5_9, k5_10, k5_11, k5_12, k5_13, k5_14, k5_15, k5_16, k5_17, k5_18, k5_19, k5_20, k5_21, e24, ht]
  | false =>
    rw [hlg] at e24
    have hl : l.length ≤ 150 := by
      unfold longB at hlg
      rw [Bool.or_eq_false_iff] at hlg
      have := hlg.2
      simp at this; exact this
    rw [call_run F5]; simp -implicitDefEqProofs only [↓GP, GB, GL, Nat.reduceAdd, Nat.reduceSub, Nat.reduceEqDiff, Nat.reduceMul, Nat.reduceLeDiff, Int.reduceBNe, Int.reduceBEq, Nat.reduceLT, reduceCtorEq, c5, k5_0, k5_1, k5_2, k5_3, k5_4, k5_5, k5_6, k5_7, k5_8, k5_9, k5_10, k5_11, k5_12, k5_13, k5_14, k5_15, k5_16, k5_17, k5_18, k5_19, k5_20, k5_21, e24]
    have H0 : Holds o s [] := ⟨hs, List.nodup_nil, (fun k x m => by cases m), (fun k m => by cases m)⟩
    refine wp_in (s25 (n := 12) (by omega) (by omega) H0 fun s1 p r q t G hk ok hws hlv h1 => ?_)
    have h2 : Holds o s1 (World p r q t (List.replicate 12 false) G ((hk, rowO 1 1 [ptrN G.id]) :: [])) := (Holds.of (h1) (fun k => by simp +arith only [I, ptrN, slN, alloc_next, set_next, World, PairG.ch, PairG.pc, PairG.hd, poolC, PReg.ch, PHeap.ch, PObj.ch, RReg.ch, RHeap.ch, RObj.ch, pagesO_nil, pObO_nil, rObO_nil, List.flatMap_append, List.flatMap_cons, List.flatMap_nil, List.append_eq, List.append_assoc, List.cons_append, List.nil_append, cnt_append, cnt_cons, cnt_nil, cnt1_ff, Option.isSome_some, Option.isSome_none]) (fun k x => by simp only [I, ptrN, slN, alloc_next, set_next, World, PairG.ch, PairG.pc, PairG.hd, poolC, PReg.ch, PHeap.ch, PObj.ch, RReg.ch, RHeap.ch, RObj.ch, pagesO_nil, pObO_nil, rObO_nil, List.flatMap_append, List.flatMap_cons, List.flatMap_nil, List.append_eq, List.append_assoc, List.cons_append, List.nil_append, List.mem_append, List.mem_cons, List.not_mem_nil, mem_some_none, or_false, false_or]; grind only))
    have fh := h2.mem (World.fr (List.mem_cons_self ..) : (hk, some (.cells [ptrN G.id] (some 1))) ∈ World p r q t (List.replicate 12 false) G ((hk, rowO 1 1 [ptrN G.id]) :: []))
    have fG := h2.mem World.id
    simp only [PairG.hd] at fG
    have hix := ix_row (sz := 1) (k := hk) (n := 1) (i := 0) (kk := .i64) (by omega)
    simp only [Int.natCast_zero, Nat.zero_mul] at hix
    simp -implicitDefEqProofs only [↓GP, GB, GL, Nat.reduceAdd, Nat.reduceSub, Nat.reduceEqDiff, Nat.reduceMul, Nat.reduceLeDiff, Int.reduceBNe, Int.reduceBEq, Nat.reduceLT, reduceCtorEq, k5_0, k5_1, k5_2, k5_3, k5_4, k5_5, k5_6, k5_7, k5_8, k5_9, k5_10, k5_11, k5_12, k5_13, k5_14, k5_15, k5_16, k5_17, k5_18, k5_19, k5_20, k5_21, hix, fh, fG]
    refine acts_free (F := []) hA hl l.length 0 s1 (List.replicate 12 false) G (by omega) ok (by rw [hws]; simp) h2 fun s2 u2 G2 ok2 e1 e2 e3 e4 h3 => ?_
    simp -implicitDefEqProofs only [↓GP, GB, GL, Nat.reduceAdd, Nat.reduceSub, Nat.reduceEqDiff, Nat.reduceMul, Nat.reduceLeDiff, Int.reduceBNe, Int.reduceBEq, Nat.reduceLT, reduceCtorEq, k5_0, k5_1, k5_2, k5_3, k5_4, k5_5, k5_6, k5_7, k5_8, k5_9, k5_10, k5_11, k5_12, k5_13, k5_14, k5_15, k5_16, k5_17, k5_18, k5_19, k5_20, k5_21]
    have hp2 := ok2.toP
    have hlen : G2.hp.regs.length ≤ G2.hp.lives := ok2.plives
    have hne := List.length_pos_iff.2 ok2.pne
    rw [← e2]
    refine close_loop (p := p) (r := r) (F := poolC q t u2 ++ (G2.pc ++ (G2.hr.ch q ++ ((hk, rowO 1 1 [ptrN G.id]) :: [])))) (G2.hp.regs.length - 1) s2 u2 G2.hp _ (by omega) rfl hp2 (by omega) (Holds.of (h3) (fun k => by simp +arith only [I, ptrN, slN, alloc_next, set_next, World, PairG.ch, PairG.pc, PairG.hd, poolC, PReg.ch, PHeap.ch, PObj.ch, RReg.ch, RHeap.ch, RObj.ch, pagesO_nil, pObO_nil, rObO_nil, List.flatMap_append, List.flatMap_cons, List.flatMap_nil, List.append_eq, List.append_assoc, List.cons_append, List.nil_append, cnt_append, cnt_cons, cnt_nil, cnt1_ff, Option.isSome_some, Option.isSome_none]) (fun k x => by simp only [I, ptrN, slN, alloc_next, set_next, World, PairG.ch, PairG.pc, PairG.hd, poolC, PReg.ch, PHeap.ch, PObj.ch, RReg.ch, RHeap.ch, RObj.ch, pagesO_nil, pObO_nil, rObO_nil, List.flatMap_append, List.flatMap_cons, List.flatMap_nil, List.append_eq, List.append_assoc, List.cons_append, List.nil_append, List.mem_append, List.mem_cons, List.not_mem_nil, mem_some_none, or_false, false_or]; grind only)) fun s3 u3 hp3 ok3 e5 h4 => ?_
    simp -implicitDefEqProofs only [↓GP, GB, GL, Nat.reduceAdd, Nat.reduceSub, Nat.reduceEqDiff, Nat.reduceMul, Nat.reduceLeDiff, Int.reduceBNe, Int.reduceBEq, Nat.reduceLT, reduceCtorEq, k5_0, k5_1, k5_2, k5_3, k5_4, k5_5, k5_6, k5_7, k5_8, k5_9, k5_10, k5_11, k5_12, k5_13, k5_14, k5_15, k5_16, k5_17, k5_18, k5_19, k5_20, k5_21]
    rw [← e5]
    have hu3 := ok3.ulen
    refine wp_in (s33 h4 ok3.ne ok3.len (by omega) (fun g hg => ⟨(ok3.g hg).1, by have := (ok3.g hg).2; omega⟩) fun s4 h5 => ?_)
    have hin : PoolInv (freeAll u3 (hp3.regs.map (·.pages))) [] := freeAll_inv _ (by
      have := ok3.pool
      rw [List.flatMap_map] at this
      rw [List.flatMap_map]; exact this)
    have e21 := s21 (poolAt h5) (by rw [freeAll_len]; omega)
    rw [hin.count] at e21
    obtain ⟨t', ht', -⟩ := sane15 s4
    simp only [List.length_nil, Int.natCast_zero] at e21
    simp -implicitDefEqProofs only [↓GP, GB, GL, Nat.reduceAdd, Nat.reduceSub, Nat.reduceEqDiff, Nat.reduceMul, Nat.reduceLeDiff, Int.reduceBNe, Int.reduceBEq, Nat.reduceLT, reduceCtorEq, k5_0, k5_1, k5_2, k5_3, k5_4, k5_5, k5_6, k5_7, k5_8, k5_9, k5_10, k5_11, k5_12, k5_13, k5_14, k5_15, k5_16, k5_17, k5_18, k5_19, k5_20, k5_21, e21, ht', Int.reduceBEq]
end
end Go.Proofs.Ytoldkemimhebaaa
