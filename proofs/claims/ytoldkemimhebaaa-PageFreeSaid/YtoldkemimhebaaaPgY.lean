/- The functions of layer 15, on the ideal machine: storing, opening, making; looking at regions and objects. -/
import Derived.Test.YtoldkemimhebaaaPgV
set_option linter.unusedSimpArgs false
set_option linter.unusedVariables false
namespace Go.Proofs.Ytoldkemimhebaaa
open Go Go.IM

-- (*virgate/page.Heap).Depth
def k27_0 : List Bool := [tt,ff,ff,ff,ff,ff,ff,ff,ff,ff]
def k27_1 : List Bool := [tt,ff,ff,ff,tt,ff,ff,ff,ff,ff]
def k27_2 : List Bool := [ff,ff,tt,ff,ff,ff,ff,ff,ff,ff]
def c27 : IFn := ⟨10, [(2, none)],
  (.seq (.region [⟨(some 2), .mov (.c (.int .i64 (0))), none⟩] k27_0)
  (.seq (.seq (.region [⟨(some 3), .mov (.t 0), none⟩,
    ⟨(some 4), .call 71 [(.t 3)], none⟩] k27_1)
  (.cond (.t 4)
  (.seq (.region [⟨(some 2), .mov (.c (.int .i64 (0))), none⟩] k27_2)
  (.seq (.region [] k27_2)
  .ret))
  .skip))
  (.seq (.region [⟨(some 5), .mov (.t 0), none⟩,
    ⟨(some 6), .nilCheck (.t 5), none⟩,
    ⟨(some 7), .fieldAddr 1 (.t 6), none⟩,
    ⟨(some 8), .load none (.t 7), none⟩,
    ⟨(some 9), .lenSlice (.t 8), none⟩,
    ⟨(some 2), .mov (.t 9), none⟩] k27_2)
  (.seq (.region [] k27_2)
  .ret))))⟩
theorem F27 : shutF Try.prog 27 = some c27 := by kernel_rfl

-- (*virgate/page.Heap).Life
def k35_0 : List Bool := [tt,tt,ff,ff,ff,ff,ff,ff,ff,ff,ff,ff,ff,ff,ff,ff,ff,ff,ff,ff,ff]
def k35_1 : List Bool := [ff,ff,ff,ff,ff,ff,tt,tt,ff,ff,ff,ff,ff,ff,ff,ff,ff,ff,ff,ff,ff]
def k35_2 : List Bool := [ff,ff,ff,ff,ff,ff,tt,tt,ff,ff,ff,ff,ff,ff,ff,tt,ff,ff,ff,ff,ff]
def k35_3 : List Bool := [ff,ff,ff,ff,tt,tt,ff,ff,ff,ff,ff,ff,ff,ff,ff,ff,ff,ff,ff,ff,ff]
def c35 : IFn := ⟨21, [(4, none), (5, none)],
  (.seq (.region [⟨(some 4), .mov (.c (.int .i64 (0))), none⟩,
    ⟨(some 5), .mov (.c (.int .i64 (0))), none⟩] k35_0)
  (.seq (.region [⟨(some 9), .mov (.t 0), none⟩,
    ⟨(some 10), .mov (.t 1), none⟩,
    ⟨(some 11), .call 72 [(.t 9), (.t 10)], none⟩,
    ⟨(some 8), .mov (.t 11), none⟩,
    ⟨(some 12), .extract (.t 8) 0, none⟩,
    ⟨(some 13), .extract (.t 8) 1, none⟩,
    ⟨(some 6), .mov (.t 12), none⟩,
    ⟨(some 7), .mov (.t 13), none⟩] k35_1)
  (.seq (.seq (.region [⟨(some 14), .mov (.t 7), none⟩,
    ⟨(some 15), .bin .neq (.t 14) (.c (.int .i64 (0))), none⟩] k35_2)
  (.cond (.t 15)
  (.seq (.region [⟨(some 16), .mov (.t 7), none⟩,
    ⟨(some 4), .mov (.c (.int .i64 (0))), none⟩,
    ⟨(some 5), .mov (.t 16), none⟩] k35_3)
  (.seq (.region [] k35_3)
  .ret))
  .skip))
  (.seq (.region [⟨(some 17), .mov (.t 6), none⟩,
    ⟨(some 18), .nilCheck (.t 17), none⟩,
    ⟨(some 19), .fieldAddr 0 (.t 18), none⟩,
    ⟨(some 20), .load none (.t 19), none⟩,
    ⟨(some 4), .mov (.t 20), none⟩,
    ⟨(some 5), .mov (.c (.int .i64 (0))), none⟩] k35_3)
  (.seq (.region [] k35_3)
  .ret)))))⟩
theorem F35 : shutF Try.prog 35 = some c35 := by kernel_rfl

-- (*virgate/page.Heap).Pages
def k29_0 : List Bool := [tt,tt,ff,ff,ff,ff,ff,ff,ff,ff,ff,ff,ff,ff,ff,ff,ff,ff,ff,ff,ff,ff]
def k29_1 : List Bool := [ff,ff,ff,ff,ff,ff,tt,tt,ff,ff,ff,ff,ff,ff,ff,ff,ff,ff,ff,ff,ff,ff]
def k29_2 : List Bool := [ff,ff,ff,ff,ff,ff,tt,tt,ff,ff,ff,ff,ff,ff,ff,tt,ff,ff,ff,ff,ff,ff]
def k29_3 : List Bool := [ff,ff,ff,ff,tt,tt,ff,ff,ff,ff,ff,ff,ff,ff,ff,ff,ff,ff,ff,ff,ff,ff]
def c29 : IFn := ⟨22, [(4, none), (5, none)],
  (.seq (.region [⟨(some 4), .mov (.c (.slice none 0 (some 0))), none⟩,
    ⟨(some 5), .mov (.c (.int .i64 (0))), none⟩] k29_0)
  (.seq (.region [⟨(some 9), .mov (.t 0), none⟩,
    ⟨(some 10), .mov (.t 1), none⟩,
    ⟨(some 11), .call 72 [(.t 9), (.t 10)], none⟩,
    ⟨(some 8), .mov (.t 11), none⟩,
    ⟨(some 12), .extract (.t 8) 0, none⟩,
    ⟨(some 13), .extract (.t 8) 1, none⟩,
    ⟨(some 6), .mov (.t 12), none⟩,
    ⟨(some 7), .mov (.t 13), none⟩] k29_1)
  (.seq (.seq (.region [⟨(some 14), .mov (.t 7), none⟩,
    ⟨(some 15), .bin .neq (.t 14) (.c (.int .i64 (0))), none⟩] k29_2)
  (.cond (.t 15)
  (.seq (.region [⟨(some 16), .mov (.t 7), none⟩,
    ⟨(some 4), .mov (.c (.slice none 0 (some 0))), none⟩,
    ⟨(some 5), .mov (.t 16), none⟩] k29_3)
  (.seq (.region [] k29_3)
  .ret))
  .skip))
  (.seq (.region [⟨(some 17), .mov (.t 6), none⟩,
    ⟨(some 18), .nilCheck (.t 17), none⟩,
    ⟨(some 19), .fieldAddr 2 (.t 18), none⟩,
    ⟨(some 20), .load none (.t 19), none⟩,
    ⟨(some 21), .call 74 [(.t 20)], none⟩,
    ⟨(some 4), .mov (.t 21), none⟩,
    ⟨(some 5), .mov (.c (.int .i64 (0))), none⟩] k29_3)
  (.seq (.region [] k29_3)
  .ret)))))⟩
theorem F29 : shutF Try.prog 29 = some c29 := by kernel_rfl

-- slices.Clone[[]int,int]
def k74_0 : List Bool := [tt,ff,ff,ff,ff,ff,ff,ff]
def k74_1 : List Bool := [tt,ff,ff,ff,tt,ff,ff,ff]
def k74_2 : List Bool := [ff,ff,tt,ff,ff,ff,ff,ff]
def c74 : IFn := ⟨8, [(2, none)],
  (.seq (.region [⟨(some 2), .mov (.c (.slice none 0 (some 0))), none⟩] k74_0)
  (.seq (.seq (.region [⟨(some 3), .mov (.t 0), none⟩,
    ⟨(some 4), .eql false .slice (.t 3) (.c (.slice none 0 (some 0))), none⟩] k74_1)
  (.cond (.t 4)
  (.seq (.region [⟨(some 2), .mov (.c (.slice none 0 (some 0))), none⟩] k74_2)
  (.seq (.region [] k74_2)
  .ret))
  .skip))
  (.seq (.region [⟨(some 5), .buildSlice 0 [] [], none⟩,
    ⟨(some 6), .mov (.t 0), none⟩,
    ⟨(some 7), .append 1 8 (.t 5) (.t 6), none⟩,
    ⟨(some 2), .mov (.t 7), none⟩] k74_2)
  (.seq (.region [] k74_2)
  .ret))))⟩
theorem F74 : shutF Try.prog 74 = some c74 := by kernel_rfl

-- virgate/page.pointers
def k73_0 : List Bool := [tt,tt,ff,ff,tt,ff,ff,ff,ff,ff,ff,ff,ff,ff,ff,ff,ff,ff,ff,ff,ff,ff,ff,ff,ff,ff,ff,ff]
def k73_1 : List Bool := [tt,tt,ff,ff,tt,tt,ff,ff,ff,ff,ff,ff,ff,ff,ff,ff,ff,ff,ff,ff,ff,ff,ff,ff,ff,ff,ff,ff]
def k73_2 : List Bool := [tt,ff,ff,ff,tt,tt,ff,ff,tt,tt,tt,ff,ff,ff,ff,ff,ff,ff,ff,ff,ff,ff,ff,ff,ff,ff,ff,ff]
def k73_3 : List Bool := [tt,ff,ff,ff,tt,tt,ff,ff,tt,tt,tt,tt,ff,ff,ff,ff,ff,ff,ff,ff,ff,ff,ff,ff,ff,ff,ff,ff]
def k73_4 : List Bool := [ff,ff,ff,ff,ff,tt,ff,ff,ff,ff,ff,ff,ff,ff,ff,ff,ff,ff,ff,ff,ff,ff,ff,ff,ff,ff,ff,ff]
def k73_5 : List Bool := [tt,ff,ff,ff,tt,tt,ff,tt,tt,tt,tt,ff,ff,ff,ff,ff,ff,ff,ff,ff,ff,ff,ff,ff,ff,ff,ff,ff]
def l73_0 : IC := (.seq (.seq (.region [⟨(some 11), .bin .lss (.t 10) (.t 9), none⟩] k73_3)
  (.seq (.cond (.t 11)
  .skip
  (.seq (.region [] k73_4)
  (.exit 0)))
  (.seq (.block 1
  (.seq (.region [⟨(some 12), .indexAddr 1 (.t 8) (.t 10), none⟩,
    ⟨(some 13), .load none (.t 12), none⟩,
    ⟨(some 7), .mov (.t 13), none⟩] k73_5)
  (.region [⟨(some 14), .mov (.t 5), none⟩,
    ⟨(some 15), .mov (.t 7), none⟩,
    ⟨(some 16), .nilCheck (.t 15), none⟩,
    ⟨(some 17), .fieldAddr 0 (.t 16), none⟩,
    ⟨(some 18), .load none (.t 17), none⟩,
    ⟨(some 19), .mov (.t 0), none⟩,
    ⟨(some 20), .nilCheck (.t 19), none⟩,
    ⟨(some 21), .fieldAddr 0 (.t 20), none⟩,
    ⟨(some 22), .load none (.t 21), none⟩,
    ⟨(some 23), .build [(.int .i64 (0)), (.int .i64 (0))] [(0, 1, (.t 18)), (1, 1, (.t 22))], none⟩,
    ⟨(some 24), .buildSlice 1 [(.int .i64 (0)), (.int .i64 (0))] [(0, 2, (.t 23))], none⟩,
    ⟨(some 25), .append 2 16 (.t 14) (.t 24), none⟩,
    ⟨(some 5), .mov (.t 25), none⟩] k73_2)))
  (.region [⟨(some 26), .bin .add (.t 10) (.c (.int .i64 (1))), none⟩,
    ⟨(some 10), .mov (.t 26), none⟩] k73_2))))
  (.region [] k73_2))
def k73_6 : List Bool := [ff,ff,ff,ff,tt,ff,ff,ff,ff,ff,ff,ff,ff,ff,ff,ff,ff,ff,ff,ff,ff,ff,ff,ff,ff,ff,ff,ff]
def c73 : IFn := ⟨28, [(4, none)],
  (.seq (.region [⟨(some 4), .mov (.c (.slice none 0 (some 0))), none⟩] k73_0)
  (.seq (.region [⟨(some 5), .mov (.c (.slice none 0 (some 0))), none⟩] k73_1)
  (.seq (.seq (.region [⟨(some 8), .mov (.t 1), none⟩,
    ⟨(some 9), .lenSlice (.t 8), none⟩,
    ⟨(some 10), .mov (.c (.int .i64 (0))), none⟩] k73_2)
  (.block 0
  (.seq (.region [] k73_2)
  (.loop l73_0))))
  (.seq (.region [⟨(some 27), .mov (.t 5), none⟩,
    ⟨(some 4), .mov (.t 27), none⟩] k73_6)
  (.seq (.region [] k73_6)
  .ret)))))⟩
theorem F73 : shutF Try.prog 73 = some c73 := by kernel_rfl

-- (*virgate/page.Heap).Objects
def k28_0 : List Bool := [tt,tt,ff,ff,ff,ff,ff,ff,ff,ff,ff,ff,ff,ff,ff,ff,ff,ff,ff,ff,ff,ff,ff]
def k28_1 : List Bool := [ff,ff,ff,ff,ff,ff,tt,tt,ff,ff,ff,ff,ff,ff,ff,ff,ff,ff,ff,ff,ff,ff,ff]
def k28_2 : List Bool := [ff,ff,ff,ff,ff,ff,tt,tt,ff,ff,ff,ff,ff,ff,ff,tt,ff,ff,ff,ff,ff,ff,ff]
def k28_3 : List Bool := [ff,ff,ff,ff,tt,tt,ff,ff,ff,ff,ff,ff,ff,ff,ff,ff,ff,ff,ff,ff,ff,ff,ff]
def c28 : IFn := ⟨23, [(4, none), (5, none)],
  (.seq (.region [⟨(some 4), .mov (.c (.slice none 0 (some 0))), none⟩,
    ⟨(some 5), .mov (.c (.int .i64 (0))), none⟩] k28_0)
  (.seq (.region [⟨(some 9), .mov (.t 0), none⟩,
    ⟨(some 10), .mov (.t 1), none⟩,
    ⟨(some 11), .call 72 [(.t 9), (.t 10)], none⟩,
    ⟨(some 8), .mov (.t 11), none⟩,
    ⟨(some 12), .extract (.t 8) 0, none⟩,
    ⟨(some 13), .extract (.t 8) 1, none⟩,
    ⟨(some 6), .mov (.t 12), none⟩,
    ⟨(some 7), .mov (.t 13), none⟩] k28_1)
  (.seq (.seq (.region [⟨(some 14), .mov (.t 7), none⟩,
    ⟨(some 15), .bin .neq (.t 14) (.c (.int .i64 (0))), none⟩] k28_2)
  (.cond (.t 15)
  (.seq (.region [⟨(some 16), .mov (.t 7), none⟩,
    ⟨(some 4), .mov (.c (.slice none 0 (some 0))), none⟩,
    ⟨(some 5), .mov (.t 16), none⟩] k28_3)
  (.seq (.region [] k28_3)
  .ret))
  .skip))
  (.seq (.region [⟨(some 17), .mov (.t 6), none⟩,
    ⟨(some 18), .mov (.t 6), none⟩,
    ⟨(some 19), .nilCheck (.t 18), none⟩,
    ⟨(some 20), .fieldAddr 4 (.t 19), none⟩,
    ⟨(some 21), .load none (.t 20), none⟩,
    ⟨(some 22), .call 73 [(.t 17), (.t 21)], none⟩,
    ⟨(some 4), .mov (.t 22), none⟩,
    ⟨(some 5), .mov (.c (.int .i64 (0))), none⟩] k28_3)
  (.seq (.region [] k28_3)
  .ret)))))⟩
theorem F28 : shutF Try.prog 28 = some c28 := by kernel_rfl

-- (*virgate/page.Heap).Words
def k83_0 : List Bool := [tt,tt,ff,ff,tt,tt,ff,ff,ff,ff,ff,ff,ff,ff,ff,ff,ff,ff,ff,ff,ff,ff,ff,ff,ff,ff,ff,ff,ff,ff,ff,ff,ff,ff,ff,ff,ff,ff,ff]
def k83_1 : List Bool := [ff,ff,ff,ff,tt,tt,tt,tt,ff,ff,ff,ff,ff,ff,ff,ff,ff,ff,ff,ff,ff,ff,ff,ff,ff,ff,ff,ff,ff,ff,ff,ff,ff,ff,ff,ff,ff,ff,ff]
def k83_2 : List Bool := [ff,ff,ff,ff,tt,tt,tt,tt,ff,ff,ff,ff,ff,ff,ff,ff,ff,ff,tt,ff,ff,ff,ff,ff,ff,ff,ff,ff,ff,ff,ff,ff,ff,ff,ff,ff,ff,ff,ff]
def k83_3 : List Bool := [ff,ff,ff,ff,tt,tt,ff,ff,ff,ff,ff,ff,ff,ff,ff,ff,ff,ff,ff,ff,ff,ff,ff,ff,ff,ff,ff,ff,ff,ff,ff,ff,ff,ff,ff,ff,ff,ff,ff]
def k83_4 : List Bool := [ff,ff,ff,ff,tt,tt,tt,ff,tt,ff,ff,ff,ff,ff,ff,ff,ff,ff,ff,ff,ff,ff,ff,ff,ff,ff,ff,ff,ff,ff,ff,ff,ff,ff,ff,ff,ff,ff,ff]
def k83_5 : List Bool := [ff,ff,ff,ff,tt,tt,ff,ff,tt,ff,ff,ff,ff,ff,ff,ff,ff,ff,ff,ff,ff,ff,ff,tt,tt,tt,ff,ff,ff,ff,ff,ff,ff,ff,ff,ff,ff,ff,ff]
def k83_6 : List Bool := [ff,ff,ff,ff,tt,tt,ff,ff,tt,ff,ff,ff,ff,ff,ff,ff,ff,ff,ff,ff,ff,ff,ff,tt,tt,tt,tt,ff,ff,ff,ff,ff,ff,ff,ff,ff,ff,ff,ff]
def k83_7 : List Bool := [ff,ff,ff,ff,ff,ff,ff,ff,tt,ff,ff,ff,ff,ff,ff,ff,ff,ff,ff,ff,ff,ff,ff,ff,ff,ff,ff,ff,ff,ff,ff,ff,ff,ff,ff,ff,ff,ff,ff]
def k83_8 : List Bool := [ff,ff,ff,ff,tt,tt,ff,ff,tt,ff,tt,ff,ff,ff,ff,ff,ff,ff,ff,ff,ff,ff,ff,tt,tt,tt,ff,ff,ff,ff,ff,ff,ff,ff,ff,ff,ff,ff,ff]
def l83_0 : IC := (.seq (.seq (.region [⟨(some 26), .bin .lss (.t 25) (.t 24), none⟩] k83_6)
  (.seq (.cond (.t 26)
  .skip
  (.seq (.region [] k83_7)
  (.exit 0)))
  (.seq (.block 1
  (.seq (.region [⟨(some 27), .indexAddr 1 (.t 23) (.t 25), none⟩,
    ⟨(some 28), .load none (.t 27), none⟩,
    ⟨(some 10), .mov (.t 28), none⟩] k83_8)
  (.region [⟨(some 29), .mov (.t 8), none⟩,
    ⟨(some 30), .mov (.t 10), none⟩,
    ⟨(some 31), .nilCheck (.t 30), none⟩,
    ⟨(some 32), .fieldAddr 2 (.t 31), none⟩,
    ⟨(some 33), .load none (.t 32), none⟩,
    ⟨(some 34), .lenSlice (.t 33), none⟩,
    ⟨(some 35), .bin .add (.t 34) (.c (.int .i64 (1))), none⟩,
    ⟨(some 36), .bin .add (.t 29) (.t 35), none⟩,
    ⟨(some 8), .mov (.t 36), none⟩] k83_5)))
  (.region [⟨(some 37), .bin .add (.t 25) (.c (.int .i64 (1))), none⟩,
    ⟨(some 25), .mov (.t 37), none⟩] k83_5))))
  (.region [] k83_5))
def c83 : IFn := ⟨39, [(4, none), (5, none)],
  (.seq (.region [⟨(some 4), .mov (.c (.int .i64 (0))), none⟩,
    ⟨(some 5), .mov (.c (.int .i64 (0))), none⟩] k83_0)
  (.seq (.region [⟨(some 12), .mov (.t 0), none⟩,
    ⟨(some 13), .mov (.t 1), none⟩,
    ⟨(some 14), .call 72 [(.t 12), (.t 13)], none⟩,
    ⟨(some 11), .mov (.t 14), none⟩,
    ⟨(some 15), .extract (.t 11) 0, none⟩,
    ⟨(some 16), .extract (.t 11) 1, none⟩,
    ⟨(some 6), .mov (.t 15), none⟩,
    ⟨(some 7), .mov (.t 16), none⟩] k83_1)
  (.seq (.seq (.region [⟨(some 17), .mov (.t 7), none⟩,
    ⟨(some 18), .bin .neq (.t 17) (.c (.int .i64 (0))), none⟩] k83_2)
  (.cond (.t 18)
  (.seq (.region [⟨(some 19), .mov (.t 7), none⟩,
    ⟨(some 4), .mov (.c (.int .i64 (0))), none⟩,
    ⟨(some 5), .mov (.t 19), none⟩] k83_3)
  (.seq (.region [] k83_3)
  .ret))
  .skip))
  (.seq (.region [⟨(some 8), .mov (.c (.int .i64 (0))), none⟩] k83_4)
  (.seq (.seq (.region [⟨(some 20), .mov (.t 6), none⟩,
    ⟨(some 21), .nilCheck (.t 20), none⟩,
    ⟨(some 22), .fieldAddr 4 (.t 21), none⟩,
    ⟨(some 23), .load none (.t 22), none⟩,
    ⟨(some 24), .lenSlice (.t 23), none⟩,
    ⟨(some 25), .mov (.c (.int .i64 (0))), none⟩] k83_5)
  (.block 0
  (.seq (.region [] k83_5)
  (.loop l83_0))))
  (.seq (.region [⟨(some 38), .mov (.t 8), none⟩,
    ⟨(some 4), .mov (.t 38), none⟩,
    ⟨(some 5), .mov (.c (.int .i64 (0))), none⟩] k83_3)
  (.seq (.region [] k83_3)
  .ret)))))))⟩
theorem F83 : shutF Try.prog 83 = some c83 := by kernel_rfl

-- (*virgate/page.Heap).InUse
def k36_0 : List Bool := [tt,ff,tt,ff,ff,ff,ff,ff,ff,ff,ff,ff,ff,ff,ff,ff,ff,ff,ff,ff,ff,ff,ff,ff,ff,ff,ff]
def k36_1 : List Bool := [tt,ff,tt,tt,ff,ff,ff,ff,ff,ff,ff,ff,ff,ff,ff,ff,ff,ff,ff,ff,ff,ff,ff,ff,ff,ff,ff]
def k36_2 : List Bool := [tt,ff,tt,tt,ff,ff,ff,ff,tt,ff,ff,ff,ff,ff,ff,ff,ff,ff,ff,ff,ff,ff,ff,ff,ff,ff,ff]
def k36_3 : List Bool := [ff,ff,tt,tt,ff,ff,ff,ff,ff,ff,ff,ff,tt,tt,tt,ff,ff,ff,ff,ff,ff,ff,ff,ff,ff,ff,ff]
def k36_4 : List Bool := [ff,ff,tt,tt,ff,ff,ff,ff,ff,ff,ff,ff,tt,tt,tt,tt,ff,ff,ff,ff,ff,ff,ff,ff,ff,ff,ff]
def k36_5 : List Bool := [ff,ff,ff,tt,ff,ff,ff,ff,ff,ff,ff,ff,ff,ff,ff,ff,ff,ff,ff,ff,ff,ff,ff,ff,ff,ff,ff]
def k36_6 : List Bool := [ff,ff,tt,tt,ff,tt,ff,ff,ff,ff,ff,ff,tt,tt,tt,ff,ff,ff,ff,ff,ff,ff,ff,ff,ff,ff,ff]
def l36_0 : IC := (.seq (.seq (.region [⟨(some 15), .bin .lss (.t 14) (.t 13), none⟩] k36_4)
  (.seq (.cond (.t 15)
  .skip
  (.seq (.region [] k36_5)
  (.exit 0)))
  (.seq (.block 1
  (.seq (.region [⟨(some 16), .indexAddr 1 (.t 12) (.t 14), none⟩,
    ⟨(some 17), .load none (.t 16), none⟩,
    ⟨(some 5), .mov (.t 17), none⟩] k36_6)
  (.region [⟨(some 18), .mov (.t 3), none⟩,
    ⟨(some 19), .mov (.t 5), none⟩,
    ⟨(some 20), .nilCheck (.t 19), none⟩,
    ⟨(some 21), .fieldAddr 2 (.t 20), none⟩,
    ⟨(some 22), .load none (.t 21), none⟩,
    ⟨(some 23), .lenSlice (.t 22), none⟩,
    ⟨(some 24), .bin .add (.t 18) (.t 23), none⟩,
    ⟨(some 3), .mov (.t 24), none⟩] k36_3)))
  (.region [⟨(some 25), .bin .add (.t 14) (.c (.int .i64 (1))), none⟩,
    ⟨(some 14), .mov (.t 25), none⟩] k36_3))))
  (.region [] k36_3))
def k36_7 : List Bool := [ff,ff,tt,ff,ff,ff,ff,ff,ff,ff,ff,ff,ff,ff,ff,ff,ff,ff,ff,ff,ff,ff,ff,ff,ff,ff,ff]
def c36 : IFn := ⟨27, [(2, none)],
  (.seq (.region [⟨(some 2), .mov (.c (.int .i64 (0))), none⟩] k36_0)
  (.seq (.region [⟨(some 3), .mov (.c (.int .i64 (0))), none⟩] k36_1)
  (.seq (.seq (.region [⟨(some 6), .mov (.t 0), none⟩,
    ⟨(some 7), .call 71 [(.t 6)], none⟩,
    ⟨(some 8), .un .not (.t 7), none⟩] k36_2)
  (.cond (.t 8)
  (.seq (.region [⟨(some 9), .mov (.t 0), none⟩,
    ⟨(some 10), .nilCheck (.t 9), none⟩,
    ⟨(some 11), .fieldAddr 1 (.t 10), none⟩,
    ⟨(some 12), .load none (.t 11), none⟩,
    ⟨(some 13), .lenSlice (.t 12), none⟩,
    ⟨(some 14), .mov (.c (.int .i64 (0))), none⟩] k36_3)
  (.block 0
  (.seq (.region [] k36_3)
  (.loop l36_0))))
  .skip))
  (.seq (.region [⟨(some 26), .mov (.t 3), none⟩,
    ⟨(some 2), .mov (.t 26), none⟩] k36_7)
  (.seq (.region [] k36_7)
  .ret)))))⟩
theorem F36 : shutF Try.prog 36 = some c36 := by kernel_rfl

-- (*virgate/page.Heap).object
def k75_0 : List Bool := [tt,ff,ff,ff,tt,tt,tt,tt,ff,ff,ff,ff,ff,ff,ff,ff,ff,ff,ff,ff,ff,ff,ff,ff,ff,ff,ff,ff,ff,ff,ff,ff,ff,ff,ff,ff,ff,ff,ff,ff,ff,ff,ff,ff,ff,ff,ff,ff,ff,ff]
def k75_1 : List Bool := [tt,ff,ff,ff,tt,ff,tt,tt,tt,ff,ff,ff,ff,ff,ff,ff,ff,ff,ff,ff,ff,ff,ff,ff,ff,ff,ff,ff,ff,ff,ff,ff,ff,ff,ff,ff,ff,ff,ff,ff,ff,ff,ff,ff,ff,ff,ff,ff,ff,ff]
def k75_2 : List Bool := [tt,ff,ff,ff,tt,ff,tt,tt,tt,ff,ff,ff,ff,ff,ff,ff,ff,tt,ff,ff,ff,ff,ff,ff,ff,ff,ff,ff,ff,ff,ff,ff,ff,ff,ff,ff,ff,ff,ff,ff,ff,ff,ff,ff,ff,ff,ff,ff,ff,ff]
def k75_3 : List Bool := [ff,ff,ff,ff,ff,ff,tt,tt,ff,ff,ff,ff,ff,ff,ff,ff,ff,ff,ff,ff,ff,ff,ff,ff,ff,ff,ff,ff,ff,ff,ff,ff,ff,ff,ff,ff,ff,ff,ff,ff,ff,ff,ff,ff,ff,ff,ff,ff,ff,ff]
def k75_4 : List Bool := [ff,ff,ff,ff,tt,ff,tt,tt,ff,ff,ff,ff,ff,ff,ff,ff,ff,ff,ff,ff,ff,ff,tt,tt,tt,ff,ff,ff,ff,ff,ff,ff,ff,ff,ff,ff,ff,ff,ff,ff,ff,ff,ff,ff,ff,ff,ff,ff,ff,ff]
def k75_5 : List Bool := [ff,ff,ff,ff,tt,ff,tt,tt,ff,ff,ff,ff,ff,ff,ff,ff,ff,ff,ff,ff,ff,ff,tt,tt,tt,tt,ff,ff,ff,ff,ff,ff,ff,ff,ff,ff,ff,ff,ff,ff,ff,ff,ff,ff,ff,ff,ff,ff,ff,ff]
def k75_6 : List Bool := [ff,ff,ff,ff,ff,ff,ff,ff,ff,ff,ff,ff,ff,ff,ff,ff,ff,ff,ff,ff,ff,ff,ff,ff,ff,ff,ff,ff,ff,ff,ff,ff,ff,ff,ff,ff,ff,ff,ff,ff,ff,ff,ff,ff,ff,ff,ff,ff,ff,ff]
def k75_7 : List Bool := [ff,ff,ff,ff,tt,ff,tt,tt,ff,ff,tt,ff,ff,ff,ff,ff,ff,ff,ff,ff,ff,ff,tt,tt,tt,ff,ff,ff,ff,ff,ff,ff,ff,ff,ff,ff,ff,ff,ff,ff,ff,ff,ff,ff,ff,ff,ff,ff,ff,ff]
def k75_8 : List Bool := [ff,ff,ff,ff,tt,ff,tt,tt,ff,ff,tt,tt,tt,ff,ff,ff,ff,ff,ff,ff,ff,ff,tt,tt,tt,ff,ff,ff,ff,ff,ff,ff,ff,ff,ff,ff,ff,ff,ff,ff,ff,ff,ff,ff,ff,ff,ff,ff,ff,ff]
def k75_9 : List Bool := [ff,ff,ff,ff,tt,ff,tt,tt,ff,ff,ff,tt,ff,ff,ff,ff,ff,ff,ff,ff,ff,ff,tt,tt,tt,ff,ff,ff,ff,ff,ff,ff,ff,ff,ff,ff,ff,ff,ff,ff,ff,ff,ff,ff,ff,ff,ff,tt,ff,ff]
def l75_0 : IC := (.seq (.seq (.region [⟨(some 25), .bin .lss (.t 24) (.t 23), none⟩] k75_5)
  (.seq (.cond (.t 25)
  .skip
  (.seq (.region [] k75_6)
  (.exit 0)))
  (.seq (.block 1
  (.seq (.region [⟨(some 26), .indexAddr 1 (.t 22) (.t 24), none⟩,
    ⟨(some 27), .load none (.t 26), none⟩,
    ⟨(some 10), .mov (.t 27), none⟩] k75_7)
  (.seq (.region [⟨(some 29), .mov (.t 10), none⟩,
    ⟨(some 30), .nilCheck (.t 29), none⟩,
    ⟨(some 31), .fieldAddr 5 (.t 30), none⟩,
    ⟨(some 32), .load none (.t 31), none⟩,
    ⟨(some 33), .fieldAddr 0 (.t 4), none⟩,
    ⟨(some 34), .load none (.t 33), none⟩,
    ⟨(some 35), .lookup (.one .i) (.ptr none) true (.t 32) (.t 34), none⟩,
    ⟨(some 28), .mov (.t 35), none⟩,
    ⟨(some 36), .extract (.t 28) 0, none⟩,
    ⟨(some 37), .extract (.t 28) 1, none⟩,
    ⟨(some 11), .mov (.t 36), none⟩,
    ⟨(some 12), .mov (.t 37), none⟩] k75_8)
  (.seq (.region [⟨(some 38), .mov (.t 10), none⟩,
    ⟨(some 39), .nilCheck (.t 38), none⟩,
    ⟨(some 40), .fieldAddr 0 (.t 39), none⟩,
    ⟨(some 41), .load none (.t 40), none⟩,
    ⟨(some 42), .fieldAddr 1 (.t 4), none⟩,
    ⟨(some 43), .load none (.t 42), none⟩,
    ⟨(some 44), .bin .eql (.t 41) (.t 43), none⟩,
    ⟨(some 45), .mov (.t 44), none⟩,
    ⟨(some 46), .mov (.t 12), (some (45, true))⟩,
    ⟨(some 47), .pick (.t 45) (.t 46) (.c (.bool false)), none⟩] k75_9)
  (.cond (.t 47)
  (.seq (.region [⟨(some 48), .mov (.t 11), none⟩,
    ⟨(some 6), .mov (.t 48), none⟩,
    ⟨(some 7), .mov (.c (.int .i64 (0))), none⟩] k75_3)
  (.seq (.region [] k75_3)
  .ret))
  .skip)))))
  (.region [⟨(some 49), .bin .add (.t 24) (.c (.int .i64 (1))), none⟩,
    ⟨(some 24), .mov (.t 49), none⟩] k75_4))))
  (.region [] k75_4))
def c75 : IFn := ⟨50, [(6, none), (7, none)],
  (.seq (.region [⟨(some 4), .box (.t 1), none⟩,
    ⟨(some 5), .box (.t 2), none⟩,
    ⟨(some 6), .mov (.c (.ptr none)), none⟩,
    ⟨(some 7), .mov (.c (.int .i64 (0))), none⟩] k75_0)
  (.seq (.seq (.region [⟨(some 13), .mov (.t 0), none⟩,
    ⟨(some 14), .mkFunc 111 [] [(.t 4), (.t 5)], none⟩,
    ⟨(some 15), .call 104 [(.t 13), (.t 14)], none⟩,
    ⟨(some 8), .mov (.t 15), none⟩] k75_1)
  (.seq (.region [⟨(some 16), .mov (.t 8), none⟩,
    ⟨(some 17), .bin .neq (.t 16) (.c (.int .i64 (0))), none⟩] k75_2)
  (.cond (.t 17)
  (.seq (.region [⟨(some 18), .mov (.t 8), none⟩,
    ⟨(some 6), .mov (.c (.ptr none)), none⟩,
    ⟨(some 7), .mov (.t 18), none⟩] k75_3)
  (.seq (.region [] k75_3)
  .ret))
  .skip)))
  (.seq (.seq (.region [⟨(some 19), .mov (.t 0), none⟩,
    ⟨(some 20), .nilCheck (.t 19), none⟩,
    ⟨(some 21), .fieldAddr 1 (.t 20), none⟩,
    ⟨(some 22), .load none (.t 21), none⟩,
    ⟨(some 23), .lenSlice (.t 22), none⟩,
    ⟨(some 24), .mov (.c (.int .i64 (0))), none⟩] k75_4)
  (.block 0
  (.seq (.region [] k75_4)
  (.loop l75_0))))
  (.seq (.region [⟨(some 6), .mov (.c (.ptr none)), none⟩,
    ⟨(some 7), .mov (.c (.int .i64 (80))), none⟩] k75_3)
  (.seq (.region [] k75_3)
  .ret)))))⟩
theorem F75 : shutF Try.prog 75 = some c75 := by kernel_rfl

-- (*virgate/page.Heap).word
def k108_0 : List Bool := [tt,ff,tt,tt,ff,tt,ff,ff,ff,ff,ff,ff,ff,ff,ff,ff,ff,ff,ff,ff,ff,ff,ff,ff,ff,ff,ff,ff,ff,ff,ff,ff,ff,ff,ff,ff,ff,ff,ff]
def k108_1 : List Bool := [ff,ff,tt,ff,ff,ff,ff,ff,ff,ff,tt,tt,ff,ff,ff,ff,ff,ff,ff,ff,ff,ff,ff,ff,ff,ff,ff,ff,ff,ff,ff,ff,ff,ff,ff,ff,ff,ff,ff]
def k108_2 : List Bool := [ff,ff,tt,ff,ff,ff,ff,ff,ff,ff,tt,tt,ff,ff,ff,ff,ff,ff,ff,tt,ff,ff,ff,ff,ff,ff,ff,ff,ff,ff,ff,ff,ff,ff,ff,ff,ff,ff,ff]
def k108_3 : List Bool := [ff,ff,ff,ff,ff,ff,ff,ff,tt,tt,ff,ff,ff,ff,ff,ff,ff,ff,ff,ff,ff,ff,ff,ff,ff,ff,ff,ff,ff,ff,ff,ff,ff,ff,ff,ff,ff,ff,ff]
def k108_4 : List Bool := [ff,ff,tt,ff,ff,ff,ff,ff,ff,ff,tt,ff,ff,ff,ff,ff,ff,ff,ff,ff,ff,ff,ff,tt,ff,ff,ff,ff,ff,ff,ff,ff,ff,ff,ff,ff,ff,ff,ff]
def c108 : IFn := ⟨39, [(8, none), (9, none)],
  (.seq (.region [⟨(some 5), .box (.t 1), none⟩,
    ⟨(some 8), .mov (.c (.ptr none)), none⟩,
    ⟨(some 9), .mov (.c (.int .i64 (0))), none⟩] k108_0)
  (.seq (.region [⟨(some 13), .mov (.t 0), none⟩,
    ⟨(some 14), .load (some 2) (.t 5), none⟩,
    ⟨(some 15), .mov (.t 3), none⟩,
    ⟨(some 16), .call 75 [(.t 13), (.t 14), (.t 15)], none⟩,
    ⟨(some 12), .mov (.t 16), none⟩,
    ⟨(some 17), .extract (.t 12) 0, none⟩,
    ⟨(some 18), .extract (.t 12) 1, none⟩,
    ⟨(some 10), .mov (.t 17), none⟩,
    ⟨(some 11), .mov (.t 18), none⟩] k108_1)
  (.seq (.block 0
  (.seq (.region [⟨(some 20), .mov (.t 11), none⟩,
    ⟨(some 21), .bin .neq (.t 20) (.c (.int .i64 (0))), none⟩,
    ⟨(some 19), .mov (.t 21), none⟩] k108_2)
  (.cond (.t 19)
  (.seq (.region [⟨(some 22), .mov (.t 11), none⟩,
    ⟨(some 8), .mov (.c (.ptr none)), none⟩,
    ⟨(some 9), .mov (.t 22), none⟩] k108_3)
  (.seq (.region [] k108_3)
  .ret))
  (.seq (.region [⟨(some 24), .mov (.t 2), none⟩,
    ⟨(some 25), .mov (.t 10), none⟩,
    ⟨(some 26), .nilCheck (.t 25), none⟩,
    ⟨(some 27), .fieldAddr 2 (.t 26), none⟩,
    ⟨(some 28), .load none (.t 27), none⟩,
    ⟨(some 29), .lenSlice (.t 28), none⟩,
    ⟨(some 30), .bin .sub (.t 29) (.c (.int .i64 (1))), none⟩,
    ⟨(some 31), .call 56 [(.c (.int .i64 (0))), (.t 24), (.t 30)], none⟩,
    ⟨(some 32), .un .not (.t 31), none⟩,
    ⟨(some 23), .mov (.t 32), none⟩] k108_4)
  (.cond (.t 23)
  (.seq (.region [⟨(some 8), .mov (.c (.ptr none)), none⟩,
    ⟨(some 9), .mov (.c (.int .i64 (2))), none⟩] k108_3)
  (.seq (.region [] k108_3)
  .ret))
  .skip)))))
  (.seq (.region [⟨(some 33), .mov (.t 10), none⟩,
    ⟨(some 34), .nilCheck (.t 33), none⟩,
    ⟨(some 35), .fieldAddr 2 (.t 34), none⟩,
    ⟨(some 36), .load none (.t 35), none⟩,
    ⟨(some 37), .mov (.t 2), none⟩,
    ⟨(some 38), .indexAddr 2 (.t 36) (.t 37), none⟩,
    ⟨(some 8), .mov (.t 38), none⟩,
    ⟨(some 9), .mov (.c (.int .i64 (0))), none⟩] k108_3)
  (.seq (.region [] k108_3)
  .ret)))))⟩
theorem F108 : shutF Try.prog 108 = some c108 := by kernel_rfl

-- (*virgate/page.Heap).Get
def k67_0 : List Bool := [tt,ff,tt,ff,tt,ff,tt,ff,ff,ff,ff,ff,ff,ff,ff,ff,ff,ff,ff,ff,ff,ff,ff,ff]
def k67_1 : List Bool := [ff,ff,ff,ff,ff,ff,tt,ff,tt,tt,ff,ff,ff,ff,ff,ff,ff,ff,ff,ff,ff,ff,ff,ff]
def k67_2 : List Bool := [ff,ff,ff,ff,ff,ff,tt,ff,tt,tt,ff,ff,ff,ff,ff,ff,ff,ff,tt,ff,ff,ff,ff,ff]
def k67_3 : List Bool := [ff,ff,ff,ff,ff,ff,tt,tt,ff,ff,ff,ff,ff,ff,ff,ff,ff,ff,ff,ff,ff,ff,ff,ff]
def c67 : IFn := ⟨24, [(6, (some (some 2))), (7, none)],
  (.seq (.region [⟨(some 4), .box (.t 1), none⟩,
    ⟨(some 6), .alloc [(.int .i64 (0)), (.int .i64 (0))], none⟩,
    ⟨(some 7), .mov (.c (.int .i64 (0))), none⟩] k67_0)
  (.seq (.region [⟨(some 11), .mov (.t 0), none⟩,
    ⟨(some 12), .load (some 2) (.t 4), none⟩,
    ⟨(some 13), .mov (.t 2), none⟩,
    ⟨(some 14), .call 108 [(.t 11), (.t 12), (.t 13), (.c (.bool true))], none⟩,
    ⟨(some 10), .mov (.t 14), none⟩,
    ⟨(some 15), .extract (.t 10) 0, none⟩,
    ⟨(some 16), .extract (.t 10) 1, none⟩,
    ⟨(some 8), .mov (.t 15), none⟩,
    ⟨(some 9), .mov (.t 16), none⟩] k67_1)
  (.seq (.seq (.region [⟨(some 17), .mov (.t 9), none⟩,
    ⟨(some 18), .bin .neq (.t 17) (.c (.int .i64 (0))), none⟩] k67_2)
  (.cond (.t 18)
  (.seq (.region [⟨(some 19), .build [(.int .i64 (0)), (.int .i64 (0))] [], none⟩,
    ⟨(some 20), .mov (.t 9), none⟩,
    ⟨none, .store 2 (.t 6) (.t 19), none⟩,
    ⟨(some 7), .mov (.t 20), none⟩] k67_3)
  (.seq (.region [] k67_3)
  .ret))
  .skip))
  (.seq (.region [⟨(some 21), .mov (.t 8), none⟩,
    ⟨(some 22), .nilCheck (.t 21), none⟩,
    ⟨(some 23), .load (some 2) (.t 22), none⟩,
    ⟨none, .store 2 (.t 6) (.t 23), none⟩,
    ⟨(some 7), .mov (.c (.int .i64 (0))), none⟩] k67_3)
  (.seq (.region [] k67_3)
  .ret)))))⟩
theorem F67 : shutF Try.prog 67 = some c67 := by kernel_rfl

-- (*virgate/page.Heap).Set
def k65_0 : List Bool := [tt,ff,tt,ff,ff,tt,ff,tt,ff,ff,ff,ff,ff,ff,ff,ff,ff,ff,ff,ff,ff,ff,ff,ff,ff,ff,ff]
def k65_1 : List Bool := [ff,ff,ff,ff,ff,ff,ff,tt,ff,tt,tt,ff,ff,ff,ff,ff,ff,ff,ff,ff,ff,ff,ff,ff,ff,ff,ff]
def k65_2 : List Bool := [ff,ff,ff,ff,ff,ff,ff,tt,ff,tt,tt,ff,ff,ff,ff,ff,ff,ff,ff,ff,ff,ff,tt,ff,ff,ff,ff]
def k65_3 : List Bool := [ff,ff,ff,ff,ff,ff,ff,ff,ff,ff,tt,ff,ff,ff,ff,ff,ff,ff,ff,ff,ff,ff,ff,ff,ff,ff,ff]
def k65_4 : List Bool := [ff,ff,ff,ff,ff,ff,ff,ff,tt,ff,ff,ff,ff,ff,ff,ff,ff,ff,ff,ff,ff,ff,ff,ff,ff,ff,ff]
def c65 : IFn := ⟨27, [(8, none)],
  (.seq (.region [⟨(some 5), .box (.t 1), none⟩,
    ⟨(some 7), .box (.t 3), none⟩,
    ⟨(some 8), .mov (.c (.int .i64 (0))), none⟩] k65_0)
  (.seq (.region [⟨(some 12), .mov (.t 0), none⟩,
    ⟨(some 13), .load (some 2) (.t 5), none⟩,
    ⟨(some 14), .mov (.t 2), none⟩,
    ⟨(some 15), .fieldAddr 1 (.t 7), none⟩,
    ⟨(some 16), .load none (.t 15), none⟩,
    ⟨(some 17), .call 56 [(.c (.int .i64 (0))), (.t 16), (.c (.int .i64 (100000)))], none⟩,
    ⟨none, .again 13 (.load (some 2) (.t 5)), none⟩,
    ⟨(some 18), .call 108 [(.t 12), (.t 13), (.t 14), (.t 17)], none⟩,
    ⟨(some 11), .mov (.t 18), none⟩,
    ⟨(some 19), .extract (.t 11) 0, none⟩,
    ⟨(some 20), .extract (.t 11) 1, none⟩,
    ⟨(some 9), .mov (.t 19), none⟩,
    ⟨(some 10), .mov (.t 20), none⟩] k65_1)
  (.seq (.seq (.region [⟨(some 21), .mov (.t 10), none⟩,
    ⟨(some 22), .bin .eql (.t 21) (.c (.int .i64 (0))), none⟩] k65_2)
  (.cond (.t 22)
  (.region [⟨(some 23), .mov (.t 9), none⟩,
    ⟨(some 24), .load (some 2) (.t 7), none⟩,
    ⟨(some 25), .nilCheck (.t 23), none⟩,
    ⟨none, .store 2 (.t 25) (.t 24), none⟩] k65_3)
  .skip))
  (.seq (.region [⟨(some 26), .mov (.t 10), none⟩,
    ⟨(some 8), .mov (.t 26), none⟩] k65_4)
  (.seq (.region [] k65_4)
  .ret)))))⟩
theorem F65 : shutF Try.prog 65 = some c65 := by kernel_rfl

-- (*virgate/page.Heap).Head
def k30_0 : List Bool := [tt,ff,ff,tt,ff,ff,ff,ff,ff,ff,ff,ff,ff,ff,ff,ff,ff,ff,ff,ff,ff,ff,ff,ff,ff,ff,ff]
def k30_1 : List Bool := [ff,ff,ff,ff,ff,ff,ff,tt,tt,ff,ff,ff,ff,ff,ff,ff,ff,ff,ff,ff,ff,ff,ff,ff,ff,ff,ff]
def k30_2 : List Bool := [ff,ff,ff,ff,ff,ff,ff,tt,tt,ff,ff,ff,ff,ff,ff,ff,tt,ff,ff,ff,ff,ff,ff,ff,ff,ff,ff]
def k30_3 : List Bool := [ff,ff,ff,ff,tt,tt,tt,ff,ff,ff,ff,ff,ff,ff,ff,ff,ff,ff,ff,ff,ff,ff,ff,ff,ff,ff,ff]
def c30 : IFn := ⟨27, [(4, none), (5, none), (6, none)],
  (.seq (.region [⟨(some 3), .box (.t 1), none⟩,
    ⟨(some 4), .mov (.c (.int .i64 (0))), none⟩,
    ⟨(some 5), .mov (.c (.int .i64 (0))), none⟩,
    ⟨(some 6), .mov (.c (.int .i64 (0))), none⟩] k30_0)
  (.seq (.region [⟨(some 10), .mov (.t 0), none⟩,
    ⟨(some 11), .load (some 2) (.t 3), none⟩,
    ⟨(some 12), .call 75 [(.t 10), (.t 11), (.c (.bool true))], none⟩,
    ⟨(some 9), .mov (.t 12), none⟩,
    ⟨(some 13), .extract (.t 9) 0, none⟩,
    ⟨(some 14), .extract (.t 9) 1, none⟩,
    ⟨(some 7), .mov (.t 13), none⟩,
    ⟨(some 8), .mov (.t 14), none⟩] k30_1)
  (.seq (.seq (.region [⟨(some 15), .mov (.t 8), none⟩,
    ⟨(some 16), .bin .neq (.t 15) (.c (.int .i64 (0))), none⟩] k30_2)
  (.cond (.t 16)
  (.seq (.region [⟨(some 17), .mov (.t 8), none⟩,
    ⟨(some 4), .mov (.c (.int .i64 (0))), none⟩,
    ⟨(some 5), .mov (.c (.int .i64 (0))), none⟩,
    ⟨(some 6), .mov (.t 17), none⟩] k30_3)
  (.seq (.region [] k30_3)
  .ret))
  .skip))
  (.seq (.region [⟨(some 18), .mov (.t 7), none⟩,
    ⟨(some 19), .nilCheck (.t 18), none⟩,
    ⟨(some 20), .fieldAddr 1 (.t 19), none⟩,
    ⟨(some 21), .load none (.t 20), none⟩,
    ⟨(some 22), .mov (.t 7), none⟩,
    ⟨(some 23), .nilCheck (.t 22), none⟩,
    ⟨(some 24), .fieldAddr 2 (.t 23), none⟩,
    ⟨(some 25), .load none (.t 24), none⟩,
    ⟨(some 26), .lenSlice (.t 25), none⟩,
    ⟨(some 4), .mov (.t 21), none⟩,
    ⟨(some 5), .mov (.t 26), none⟩,
    ⟨(some 6), .mov (.c (.int .i64 (0))), none⟩] k30_3)
  (.seq (.region [] k30_3)
  .ret)))))⟩
theorem F30 : shutF Try.prog 30 = some c30 := by kernel_rfl


section
variable {o : Nat → Option O} {s : St} {C F : Ch} {Q : V → St → Prop}
set_option maxRecDepth 10000

theorem s34_full {hp : PHeap} {p r kind words : Nat} {u : List Bool} {A B : List PReg} {g : PReg} (H : Holds o s (poolC p r u ++ (hp.ch p ++ F))) (hr : hp.regs = A ++ g :: B) (hlen : hp.regs.length ≤ 100000) (hu : u.length ≤ 400) (hok : RegOk u.length g.m)
    (hb : GoodStore g kind words) (hput : putM u g.size g.life g.fill g.pages (words + 1) = none)
    (q : ∀ s', Holds o s' (poolC p r u ++ (hp.ch p ++ F)) → Q (.tuple [.agg [I 0, I 0], I 81]) s') : WP (call PF 34 [ptrN hp.id, I A.length, I kind, I words] s) Q := by
  refine s34_go H hr hlen hb fun s' t xid wid h1 => ?_
  refine wp_res (s77_none (c := rowV hp.rowk hp.regs.length) (d := I hp.lives) h1 (by simp [PHeap.hd]) hu hok.b (by simpa using hb.2.2.2.1) (by simpa using hput)) ⟨false, rfl, fun _ s3 e => ?_, fun h => by cases h⟩
  have h2 : Holds o s' ((t, some (.cells [I 0, I 0] none)) :: (poolC p r u ++ (g.ch ++ ((hp.id, some (hp.hd p)) :: (hp.rowk, hp.row) :: (A.flatMap PReg.ch ++ (B.flatMap PReg.ch ++ F)))))) := (Holds.of (h1) (fun k => by simp +arith only [I, ptrN, slN, alloc_next, set_next, World, PairG.ch, PairG.pc, PairG.hd, poolC, PReg.ch, PHeap.ch, PObj.ch, RReg.ch, RHeap.ch, RObj.ch, pagesO_nil, pObO_nil, rObO_nil, List.flatMap_append, List.flatMap_cons, List.flatMap_nil, List.append_eq, List.append_assoc, List.cons_append, List.nil_append, cnt_append, cnt_cons, cnt_nil, cnt1_ff, Option.isSome_some, Option.isSome_none]) (fun k x => by simp only [I, ptrN, slN, alloc_next, set_next, World, PairG.ch, PairG.pc, PairG.hd, poolC, PReg.ch, PHeap.ch, PObj.ch, RReg.ch, RHeap.ch, RObj.ch, pagesO_nil, pObO_nil, rObO_nil, List.flatMap_append, List.flatMap_cons, List.flatMap_nil, List.append_eq, List.append_assoc, List.cons_append, List.nil_append, List.mem_append, List.mem_cons, List.not_mem_nil, mem_some_none, or_false, false_or]; grind only))
  refine ⟨h2.g0, ?_⟩
  rw [e]
  exact q _ (Holds.of ((h2.set0 (.cells [I 0, I 0] none)).tl) (fun k => by simp +arith only [hr, I, ptrN, slN, alloc_next, set_next, World, PairG.ch, PairG.pc, PairG.hd, poolC, PReg.ch, PHeap.ch, PObj.ch, RReg.ch, RHeap.ch, RObj.ch, pagesO_nil, pObO_nil, rObO_nil, List.flatMap_append, List.flatMap_cons, List.flatMap_nil, List.append_eq, List.append_assoc, List.cons_append, List.nil_append, cnt_append, cnt_cons, cnt_nil, cnt1_ff, Option.isSome_some, Option.isSome_none]) (fun k x => by simp only [hr, I, ptrN, slN, alloc_next, set_next, World, PairG.ch, PairG.pc, PairG.hd, poolC, PReg.ch, PHeap.ch, PObj.ch, RReg.ch, RHeap.ch, RObj.ch, pagesO_nil, pObO_nil, rObO_nil, List.flatMap_append, List.flatMap_cons, List.flatMap_nil, List.append_eq, List.append_assoc, List.cons_append, List.nil_append, List.mem_append, List.mem_cons, List.not_mem_nil, mem_some_none, or_false, false_or]; grind only))

theorem s34 {hp : PHeap} {p r kind words : Nat} {u : List Bool} {A B : List PReg} {g : PReg} (H : Holds o s (poolC p r u ++ (hp.ch p ++ F))) (hr : hp.regs = A ++ g :: B) (hlen : hp.regs.length ≤ 100000) (hu : u.length ≤ 400) (hok : RegOk u.length g.m) (hg : g.ok) (hn : g.objs.length < 100000)
    (hb : GoodStore g kind words) {at_ fill : Nat} {u' : List Bool} {pages : List Nat} (hput : putM u g.size g.life g.fill g.pages (words + 1) = some (at_, u', fill, pages)) (hf : ∀ y ∈ g.objs, y.b.at_ ≠ at_)
    (q : ∀ s' pgk' obk' pl' xid wid, (({ g with pgk := pgk', pages := pages, fill := fill } : PReg).lay obk' pl' ⟨xid, wid, ⟨at_, kind, List.replicate words (0, 0)⟩⟩).ok →
      Holds o s' (poolC p r u' ++ (({ hp with regs := A ++ ({ g with pgk := pgk', pages := pages, fill := fill } : PReg).lay obk' pl' ⟨xid, wid, ⟨at_, kind, List.replicate words (0, 0)⟩⟩ :: B } : PHeap).ch p ++ F)) →
      Q (.tuple [.agg [I at_, I g.life], I 0]) s') : WP (call PF 34 [ptrN hp.id, I A.length, I kind, I words] s) Q := by
  refine s34_go H hr hlen hb fun s' t xid wid h1 => ?_
  refine s77 (c := rowV hp.rowk hp.regs.length) (d := I hp.lives) h1 (by simp [PHeap.hd]) hu hg hok.b hn (by simpa using hb.2.2.2.1) (by simpa using hput) hf fun s2 pgk' obk' pl' h2 hok' => ⟨true, rfl, (fun h => by cases h), fun _ => ?_⟩
  have h3 : Holds o s2 ((t, some (.cells [I 0, I 0] none)) :: (xid, some (.cells [I at_, I kind, slN wid words] none)) :: (g.id, some (.cells [I g.life, I g.size, rowV pgk' pages.length, I fill, rowV obk' (g.objs.length + 1), .map (some (.new g.plk))] none)) ::
    (pgk', pagesO pages) :: (obk', PReg.obO (g.objs ++ [⟨xid, wid, ⟨at_, kind, List.replicate words (0, 0)⟩⟩])) :: (g.plk, some pl') :: (wid, some (.cells ((List.replicate words ((0 : Int), (0 : Int))).flatMap encW) none)) :: (g.objs.flatMap PObj.ch ++ (poolC p r u' ++ ((hp.id, some (hp.hd p)) :: (hp.rowk, hp.row) :: (A.flatMap PReg.ch ++ (B.flatMap PReg.ch ++ F)))))) :=
      (Holds.of (h2) (fun k => by simp +arith only [PReg.lay, PObj.at, PReg.hd, PObj.O, PObj.W, List.length_append, List.length_cons, List.length_nil, Nat.zero_add, List.length_replicate, I, ptrN, slN, alloc_next, set_next, World, PairG.ch, PairG.pc, PairG.hd, poolC, PReg.ch, PHeap.ch, PObj.ch, RReg.ch, RHeap.ch, RObj.ch, pagesO_nil, pObO_nil, rObO_nil, List.flatMap_append, List.flatMap_cons, List.flatMap_nil, List.append_eq, List.append_assoc, List.cons_append, List.nil_append, cnt_append, cnt_cons, cnt_nil, cnt1_ff, Option.isSome_some, Option.isSome_none]) (fun k x => by simp only [PReg.lay, PObj.at, PReg.hd, PObj.O, PObj.W, List.length_append, List.length_cons, List.length_nil, Nat.zero_add, List.length_replicate, I, ptrN, slN, alloc_next, set_next, World, PairG.ch, PairG.pc, PairG.hd, poolC, PReg.ch, PHeap.ch, PObj.ch, RReg.ch, RHeap.ch, RObj.ch, pagesO_nil, pObO_nil, rObO_nil, List.flatMap_append, List.flatMap_cons, List.flatMap_nil, List.append_eq, List.append_assoc, List.cons_append, List.nil_append, List.mem_append, List.mem_cons, List.not_mem_nil, mem_some_none, or_false, false_or]; grind only))
  refine ⟨_, _, _, _, _, _, _, _, _, h3.g0, h3.tl.g0, h3.tl.tl.g0, fun s3 e => ?_⟩
  rw [e]
  refine q _ pgk' obk' pl' xid wid hok' (Holds.of ((h3.set0 (.cells [I at_, I g.life] none)).tl) (fun k => by simp +arith only [PReg.lay, PReg.hd, PObj.O, PObj.W, PHeap.hd, PHeap.row, hr, List.length_append, List.length_cons, List.length_nil, Nat.zero_add, List.length_replicate, List.map_append, List.map_cons, I, ptrN, slN, alloc_next, set_next, World, PairG.ch, PairG.pc, PairG.hd, poolC, PReg.ch, PHeap.ch, PObj.ch, RReg.ch, RHeap.ch, RObj.ch, pagesO_nil, pObO_nil, rObO_nil, List.flatMap_append, List.flatMap_cons, List.flatMap_nil, List.append_eq, List.append_assoc, List.cons_append, List.nil_append, cnt_append, cnt_cons, cnt_nil, cnt1_ff, Option.isSome_some, Option.isSome_none]) (fun k x => by simp only [PReg.lay, PReg.hd, PObj.O, PObj.W, PHeap.hd, PHeap.row, hr, List.length_append, List.length_cons, List.length_nil, Nat.zero_add, List.length_replicate, List.map_append, List.map_cons, I, ptrN, slN, alloc_next, set_next, World, PairG.ch, PairG.pc, PairG.hd, poolC, PReg.ch, PHeap.ch, PObj.ch, RReg.ch, RHeap.ch, RObj.ch, pagesO_nil, pObO_nil, rObO_nil, List.flatMap_append, List.flatMap_cons, List.flatMap_nil, List.append_eq, List.append_assoc, List.cons_append, List.nil_append, List.mem_append, List.mem_cons, List.not_mem_nil, mem_some_none, or_false, false_or]; grind only))

theorem s59_gone (hC : Holds o s C) {hv : V} {words : Int} (g : Gone C hv) (q : ∀ s', Holds o s' C → Q (.tuple [I 0, I 6]) s') : WP (call PF 59 [hv, I words] s) Q := by
  have h1 := hC.alloc (.cells [I words] none)
  have e := fun fv => s104_gone (fv := fv) h1 (hv := hv) (g.mono fun x hx => List.mem_cons_of_mem _ hx)
  rw [call_run F59]; simp -implicitDefEqProofs only [↓GP, GB, GL, Nat.reduceAdd, Nat.reduceSub, Nat.reduceEqDiff, Nat.reduceMul, Nat.reduceLeDiff, Int.reduceBNe, Int.reduceBEq, Nat.reduceLT, reduceCtorEq, c59, k59_0, k59_1, k59_2, k59_3, k59_4, k59_5, e, Int.reduceBNe, Int.reduceBEq]
  exact q _ h1.tl
theorem s105 {a : Nat} {n : Int} (f : s.new a = some (.cells [I n] none)) : call PF 105 [ptrN a] s = some (.bool (decide (0 ≤ n) && decide (n ≤ 31)), s) := by
  rw [call_run F105]; simp -implicitDefEqProofs only [↓GP, GB, GL, Nat.reduceAdd, Nat.reduceSub, Nat.reduceEqDiff, Nat.reduceMul, Nat.reduceLeDiff, Int.reduceBNe, Int.reduceBEq, Nat.reduceLT, reduceCtorEq, c105, k105_0, k105_1, f, s56]
theorem s59_bad (hC : Holds o s C) {hp : PHeap} {p : Nat} {words : Int} (m1 : (hp.id, some (hp.hd p)) ∈ C) (hb : ¬ (0 ≤ words ∧ words ≤ 31)) (q : ∀ s', Holds o s' C → Q (.tuple [I 0, I 2]) s') : WP (call PF 59 [ptrN hp.id, I words] s) Q := by
  have h1 := hC.alloc (.cells [I words] none)
  have f := h1.mem (List.mem_cons_of_mem _ m1)
  have hb' : (decide (0 ≤ words) && decide (words ≤ 31)) = false := by simpa using hb
  have e := s104 (g := 105) (caps := [ptrN s.next]) f.1 (s105 h1.g0)
  rw [hb'] at e
  rw [call_run F59]; simp -implicitDefEqProofs only [↓GP, GB, GL, Nat.reduceAdd, Nat.reduceSub, Nat.reduceEqDiff, Nat.reduceMul, Nat.reduceLeDiff, Int.reduceBNe, Int.reduceBEq, Nat.reduceLT, reduceCtorEq, c59, k59_0, k59_1, k59_2, k59_3, k59_4, k59_5, e, Int.reduceBNe, Int.reduceBEq]
  exact q _ h1.tl
theorem s59_full (hC : Holds o s C) {hp : PHeap} {p : Nat} {words : Int} (m1 : (hp.id, some (hp.hd p)) ∈ C) (hb : 0 ≤ words ∧ words ≤ 31) (hl : 100000 ≤ hp.lives) (q : ∀ s', Holds o s' C → Q (.tuple [I 0, I 4]) s') : WP (call PF 59 [ptrN hp.id, I words] s) Q := by
  have h1 := hC.alloc (.cells [I words] none)
  have f := h1.mem (List.mem_cons_of_mem _ m1)
  have f0 := hC.mem m1
  simp only [PHeap.hd] at f0
  have hb' : (decide (0 ≤ words) && decide (words ≤ 31)) = true := by simpa using hb
  have hl' : ((hp.lives : Int) ≥ 100000) := by omega
  have e := s104 (g := 105) (caps := [ptrN s.next]) f.1 (s105 h1.g0)
  rw [hb'] at e
  rw [call_run F59]; simp -implicitDefEqProofs only [↓GP, GB, GL, Nat.reduceAdd, Nat.reduceSub, Nat.reduceEqDiff, Nat.reduceMul, Nat.reduceLeDiff, Int.reduceBNe, Int.reduceBEq, Nat.reduceLT, reduceCtorEq, c59, k59_0, k59_1, k59_2, k59_3, k59_4, k59_5, e, f0, hl', Int.reduceBNe, Int.reduceBEq]
  exact q _ h1.tl
theorem s59 {hp : PHeap} {p words : Nat} (H : Holds o s (hp.ch p ++ F)) (h0 : hp.regs ≠ []) (hlen : hp.regs.length < 100000) (hb : words ≤ 31) (hl : hp.lives < 100000)
    (q : ∀ s' rk k m sl, Holds o s' (({ hp with rowk := rk, lives := hp.lives + 1, regs := hp.regs ++ [⟨k, 0, 0, m, .map [] 0, words, hp.lives + 1, 0, [], []⟩], sl := sl } : PHeap).ch p ++ F) → Q (.tuple [I hp.regs.length, I 0]) s') : WP (call PF 59 [ptrN hp.id, I words] s) Q := by
  have h1 := H.alloc (.cells [I words] none)
  have m1 : (hp.id, some (hp.hd p)) ∈ hp.ch p ++ F := by simp [PHeap.ch]
  have f := h1.mem (List.mem_cons_of_mem _ m1)
  have f0 := H.mem m1
  simp only [PHeap.hd] at f0
  have hb' : (decide (0 ≤ (words : Int)) && decide ((words : Int) ≤ 31)) = true := by simp; omega
  have hl' : ¬ ((hp.lives : Int) ≥ 100000) := by omega
  have e := s104 (g := 105) (caps := [ptrN s.next]) f.1 (s105 h1.g0)
  rw [hb'] at e
  rw [call_run F59]; simp -implicitDefEqProofs only [↓GP, GB, GL, Nat.reduceAdd, Nat.reduceSub, Nat.reduceEqDiff, Nat.reduceMul, Nat.reduceLeDiff, Int.reduceBNe, Int.reduceBEq, Nat.reduceLT, reduceCtorEq, c59, k59_0, k59_1, k59_2, k59_3, k59_4, k59_5, e, f0, hl', Int.reduceBNe, Int.reduceBEq]
  refine wp_in (s57 (h := hp.id) (rk := hp.rowk) (n := hp.regs.length) (pv := ptrN p) (lives := hp.lives) (cs := hp.regs.map fun r => ptrN r.id) (sl := hp.sl) (F := hp.regs.flatMap PReg.ch ++ F) (by omega) (by omega) (Holds.of (h1) (fun k => by simp +arith only [PHeap.hd, PHeap.row, I, ptrN, slN, alloc_next, set_next, World, PairG.ch, PairG.pc, PairG.hd, poolC, PReg.ch, PHeap.ch, PObj.ch, RReg.ch, RHeap.ch, RObj.ch, pagesO_nil, pObO_nil, rObO_nil, List.flatMap_append, List.flatMap_cons, List.flatMap_nil, List.append_eq, List.append_assoc, List.cons_append, List.nil_append, cnt_append, cnt_cons, cnt_nil, cnt1_ff, Option.isSome_some, Option.isSome_none]) (fun k x => by simp only [PHeap.hd, PHeap.row, I, ptrN, slN, alloc_next, set_next, World, PairG.ch, PairG.pc, PairG.hd, poolC, PReg.ch, PHeap.ch, PObj.ch, RReg.ch, RHeap.ch, RObj.ch, pagesO_nil, pObO_nil, rObO_nil, List.flatMap_append, List.flatMap_cons, List.flatMap_nil, List.append_eq, List.append_assoc, List.cons_append, List.nil_append, List.mem_append, List.mem_cons, List.not_mem_nil, mem_some_none, or_false, false_or]; grind only)) (by simp) (fun h => absurd (List.length_eq_zero_iff.1 h) h0) fun s1 rk k m sl h2 => ?_)
  have f := h2.f1
  have w : wrapI .i64 (((hp.regs.length + 1 : Nat) : Int) - 1) = I (hp.regs.length : Nat) := by rw [wrap_sub1 (by omega) (by omega)]; rfl
  simp -implicitDefEqProofs only [↓GP, GB, GL, Nat.reduceAdd, Nat.reduceSub, Nat.reduceEqDiff, Nat.reduceMul, Nat.reduceLeDiff, Int.reduceBNe, Int.reduceBEq, Nat.reduceLT, reduceCtorEq, k59_0, k59_1, k59_2, k59_3, k59_4, k59_5, f, w]
  refine q _ rk k m sl (Holds.of (h2) (fun k => by simp +arith only [PHeap.hd, PReg.hd, PHeap.row, rowV_zero, List.length_append, List.length_cons, List.length_nil, Nat.zero_add, List.map_append, List.map_cons, List.map_nil, Int.natCast_zero, I, ptrN, slN, alloc_next, set_next, World, PairG.ch, PairG.pc, PairG.hd, poolC, PReg.ch, PHeap.ch, PObj.ch, RReg.ch, RHeap.ch, RObj.ch, pagesO_nil, pObO_nil, rObO_nil, List.flatMap_append, List.flatMap_cons, List.flatMap_nil, List.append_eq, List.append_assoc, List.cons_append, List.nil_append, cnt_append, cnt_cons, cnt_nil, cnt1_ff, Option.isSome_some, Option.isSome_none]) (fun k x => by simp only [PHeap.hd, PReg.hd, PHeap.row, rowV_zero, List.length_append, List.length_cons, List.length_nil, Nat.zero_add, List.map_append, List.map_cons, List.map_nil, Int.natCast_zero, I, ptrN, slN, alloc_next, set_next, World, PairG.ch, PairG.pc, PairG.hd, poolC, PReg.ch, PHeap.ch, PObj.ch, RReg.ch, RHeap.ch, RObj.ch, pagesO_nil, pObO_nil, rObO_nil, List.flatMap_append, List.flatMap_cons, List.flatMap_nil, List.append_eq, List.append_assoc, List.cons_append, List.nil_append, List.mem_append, List.mem_cons, List.not_mem_nil, mem_some_none, or_false, false_or]; grind only))
end
end Go.Proofs.Ytoldkemimhebaaa
