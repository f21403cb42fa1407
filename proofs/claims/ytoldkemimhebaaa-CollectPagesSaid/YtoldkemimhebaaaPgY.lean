/- The functions of layer 15, on the ideal machine: storing, opening, making; looking at regions and objects. -/
import Derived.Test.YtoldkemimhebaaaPgV
set_option linter.unusedSimpArgs false
set_option linter.unusedVariables false
namespace Go.Proofs.Ytoldkemimhebaaa
open Go Go.IM

-- (*virgate/page.Heap).Depth

def c27 : IFn := ⟨10, [(2, none)],
  (.seq (.region [oa 2 (.mov (ai 0))] (kp 10 [0]))
  (.seq (.seq (.region [oa 3 (.mov (.t 0)), oa 4 (.call 71 [(.t 3)])] (kp 10 [0,4]))
  (.cond (.t 4)
  (.seq (.region [oa 2 (.mov (ai 0))] (kp 10 [2]))
  (sr 10 [2]))
  (sk 10 [0])))
  (.seq (.region [oa 5 (.mov (.t 0)), oa 6 (.nilCheck (.t 5)), oa 7 (.fieldAddr 1 (.t 6)), oa 8 (.load none (.t 7)), oa 9 (.lenSlice (.t 8)), oa 2 (.mov (.t 9))] (kp 10 [2]))
  (sr 10 [2]))))⟩
theorem F27 : shutF Try.prog 27 = some c27 := by kernel_rfl

-- (*virgate/page.Heap).Life

def c35 : IFn := ⟨21, [(4, none), (5, none)],
  (.seq (.region [oa 4 (.mov (ai 0)), oa 5 (.mov (ai 0))] (kp 21 [0,1]))
  (.seq (.region [oa 9 (.mov (.t 0)), oa 10 (.mov (.t 1)), oa 11 (.call 72 [(.t 9), (.t 10)]), oa 8 (.mov (.t 11)), oa 12 (.extract (.t 8) 0), oa 13 (.extract (.t 8) 1), oa 6 (.mov (.t 12)), oa 7 (.mov (.t 13))] (kp 21 [6,7]))
  (.seq (.seq (.region [oa 14 (.mov (.t 7)), oa 15 (.bin .neq (.t 14) (ai 0))] (kp 21 [6,7,15]))
  (.cond (.t 15)
  (.seq (.region [oa 16 (.mov (.t 7)), oa 4 (.mov (ai 0)), oa 5 (.mov (.t 16))] (kp 21 [4,5]))
  (sr 21 [4,5]))
  (sk 21 [6])))
  (.seq (.region [oa 17 (.mov (.t 6)), oa 18 (.nilCheck (.t 17)), oa 19 (.fieldAddr 0 (.t 18)), oa 20 (.load none (.t 19)), oa 4 (.mov (.t 20)), oa 5 (.mov (ai 0))] (kp 21 [4,5]))
  (sr 21 [4,5])))))⟩
theorem F35 : shutF Try.prog 35 = some c35 := by kernel_rfl

-- (*virgate/page.Heap).Pages

def c29 : IFn := ⟨22, [(4, none), (5, none)],
  (.seq (.region [oa 4 (.mov (.c (.slice none 0 (some 0)))), oa 5 (.mov (ai 0))] (kp 22 [0,1]))
  (.seq (.region [oa 9 (.mov (.t 0)), oa 10 (.mov (.t 1)), oa 11 (.call 72 [(.t 9), (.t 10)]), oa 8 (.mov (.t 11)), oa 12 (.extract (.t 8) 0), oa 13 (.extract (.t 8) 1), oa 6 (.mov (.t 12)), oa 7 (.mov (.t 13))] (kp 22 [6,7]))
  (.seq (.seq (.region [oa 14 (.mov (.t 7)), oa 15 (.bin .neq (.t 14) (ai 0))] (kp 22 [6,7,15]))
  (.cond (.t 15)
  (.seq (.region [oa 16 (.mov (.t 7)), oa 4 (.mov (.c (.slice none 0 (some 0)))), oa 5 (.mov (.t 16))] (kp 22 [4,5]))
  (sr 22 [4,5]))
  (sk 22 [6])))
  (.seq (.region [oa 17 (.mov (.t 6)), oa 18 (.nilCheck (.t 17)), oa 19 (.fieldAddr 2 (.t 18)), oa 20 (.load none (.t 19)), oa 21 (.call 74 [(.t 20)]), oa 4 (.mov (.t 21)), oa 5 (.mov (ai 0))] (kp 22 [4,5]))
  (sr 22 [4,5])))))⟩
theorem F29 : shutF Try.prog 29 = some c29 := by kernel_rfl

-- slices.Clone[[]int,int]

def c74 : IFn := ⟨8, [(2, none)],
  (.seq (.region [oa 2 (.mov (.c (.slice none 0 (some 0))))] (kp 8 [0]))
  (.seq (.seq (.region [oa 3 (.mov (.t 0)), oa 4 (.eql false .slice (.t 3) (.c (.slice none 0 (some 0))))] (kp 8 [0,4]))
  (.cond (.t 4)
  (.seq (.region [oa 2 (.mov (.c (.slice none 0 (some 0))))] (kp 8 [2]))
  (sr 8 [2]))
  (sk 8 [0])))
  (.seq (.region [oa 5 (.buildSlice 0 [] []), oa 6 (.mov (.t 0)), oa 7 (.append 1 8 (.t 5) (.t 6)), oa 2 (.mov (.t 7))] (kp 8 [2]))
  (sr 8 [2]))))⟩
theorem F74 : shutF Try.prog 74 = some c74 := by kernel_rfl

-- virgate/page.pointers
def l73_0 : IC := (.seq (.seq (.region [oa 11 (.bin .lss (.t 10) (.t 9))] (kp 28 [0,5,8,9,10,11]))
  (.seq (.cond (.t 11)
  (sk 28 [0,5,8,9,10])
  (sx 28 [5] 0))
  (.seq (.block 1
  (.seq (.region [oa 12 (.indexAddr 1 (.t 8) (.t 10)), oa 13 (.load none (.t 12)), oa 7 (.mov (.t 13))] (kp 28 [0,5,7,8,9,10]))
  (.region [oa 14 (.mov (.t 5)), oa 15 (.mov (.t 7)), oa 16 (.nilCheck (.t 15)), oa 17 (.fieldAddr 0 (.t 16)), oa 18 (.load none (.t 17)), oa 19 (.mov (.t 0)), oa 20 (.nilCheck (.t 19)), oa 21 (.fieldAddr 0 (.t 20)), oa 22 (.load none (.t 21)), oa 23 (.build [(.int .i64 (0)), (.int .i64 (0))] [(0, 1, (.t 18)), (1, 1, (.t 22))]), oa 24 (.buildSlice 1 [(.int .i64 (0)), (.int .i64 (0))] [(0, 2, (.t 23))]), oa 25 (.append 2 16 (.t 14) (.t 24)), oa 5 (.mov (.t 25))] (kp 28 [0,5,8,9,10]))))
  (.region [oa 26 (.bin .add (.t 10) (ai 1)), oa 10 (.mov (.t 26))] (kp 28 [0,5,8,9,10])))))
  (sk 28 [0,5,8,9,10]))
def c73 : IFn := ⟨28, [(4, none)],
  (.seq (.region [oa 4 (.mov (.c (.slice none 0 (some 0))))] (kp 28 [0,1]))
  (.seq (.region [oa 5 (.mov (.c (.slice none 0 (some 0))))] (kp 28 [0,1,5]))
  (.seq (.seq (.region [oa 8 (.mov (.t 1)), oa 9 (.lenSlice (.t 8)), oa 10 (.mov (ai 0))] (kp 28 [0,5,8,9,10]))
  (.block 0
  (.seq (sk 28 [0,5,8,9,10])
  (.loop l73_0))))
  (.seq (.region [oa 27 (.mov (.t 5)), oa 4 (.mov (.t 27))] (kp 28 [4]))
  (sr 28 [4])))))⟩
theorem F73 : shutF Try.prog 73 = some c73 := by kernel_rfl

-- (*virgate/page.Heap).Objects

def c28 : IFn := ⟨23, [(4, none), (5, none)],
  (.seq (.region [oa 4 (.mov (.c (.slice none 0 (some 0)))), oa 5 (.mov (ai 0))] (kp 23 [0,1]))
  (.seq (.region [oa 9 (.mov (.t 0)), oa 10 (.mov (.t 1)), oa 11 (.call 72 [(.t 9), (.t 10)]), oa 8 (.mov (.t 11)), oa 12 (.extract (.t 8) 0), oa 13 (.extract (.t 8) 1), oa 6 (.mov (.t 12)), oa 7 (.mov (.t 13))] (kp 23 [6,7]))
  (.seq (.seq (.region [oa 14 (.mov (.t 7)), oa 15 (.bin .neq (.t 14) (ai 0))] (kp 23 [6,7,15]))
  (.cond (.t 15)
  (.seq (.region [oa 16 (.mov (.t 7)), oa 4 (.mov (.c (.slice none 0 (some 0)))), oa 5 (.mov (.t 16))] (kp 23 [4,5]))
  (sr 23 [4,5]))
  (sk 23 [6])))
  (.seq (.region [oa 17 (.mov (.t 6)), oa 18 (.mov (.t 6)), oa 19 (.nilCheck (.t 18)), oa 20 (.fieldAddr 4 (.t 19)), oa 21 (.load none (.t 20)), oa 22 (.call 73 [(.t 17), (.t 21)]), oa 4 (.mov (.t 22)), oa 5 (.mov (ai 0))] (kp 23 [4,5]))
  (sr 23 [4,5])))))⟩
theorem F28 : shutF Try.prog 28 = some c28 := by kernel_rfl

-- (*virgate/page.Heap).Words
def l83_0 : IC := (.seq (.seq (.region [oa 26 (.bin .lss (.t 25) (.t 24))] (kp 39 [8,23,24,25,26]))
  (.seq (.cond (.t 26)
  (sk 39 [8,23,24,25])
  (sx 39 [8] 0))
  (.seq (.block 1
  (.seq (.region [oa 27 (.indexAddr 1 (.t 23) (.t 25)), oa 28 (.load none (.t 27)), oa 10 (.mov (.t 28))] (kp 39 [8,10,23,24,25]))
  (.region [oa 29 (.mov (.t 8)), oa 30 (.mov (.t 10)), oa 31 (.nilCheck (.t 30)), oa 32 (.fieldAddr 2 (.t 31)), oa 33 (.load none (.t 32)), oa 34 (.lenSlice (.t 33)), oa 35 (.bin .add (.t 34) (ai 1)), oa 36 (.bin .add (.t 29) (.t 35)), oa 8 (.mov (.t 36))] (kp 39 [8,23,24,25]))))
  (.region [oa 37 (.bin .add (.t 25) (ai 1)), oa 25 (.mov (.t 37))] (kp 39 [8,23,24,25])))))
  (sk 39 [8,23,24,25]))
def c83 : IFn := ⟨39, [(4, none), (5, none)],
  (.seq (.region [oa 4 (.mov (ai 0)), oa 5 (.mov (ai 0))] (kp 39 [0,1]))
  (.seq (.region [oa 12 (.mov (.t 0)), oa 13 (.mov (.t 1)), oa 14 (.call 72 [(.t 12), (.t 13)]), oa 11 (.mov (.t 14)), oa 15 (.extract (.t 11) 0), oa 16 (.extract (.t 11) 1), oa 6 (.mov (.t 15)), oa 7 (.mov (.t 16))] (kp 39 [6,7]))
  (.seq (.seq (.region [oa 17 (.mov (.t 7)), oa 18 (.bin .neq (.t 17) (ai 0))] (kp 39 [6,7,18]))
  (.cond (.t 18)
  (.seq (.region [oa 19 (.mov (.t 7)), oa 4 (.mov (ai 0)), oa 5 (.mov (.t 19))] (kp 39 [4,5]))
  (sr 39 [4,5]))
  (sk 39 [6])))
  (.seq (.region [oa 8 (.mov (ai 0))] (kp 39 [6,8]))
  (.seq (.seq (.region [oa 20 (.mov (.t 6)), oa 21 (.nilCheck (.t 20)), oa 22 (.fieldAddr 4 (.t 21)), oa 23 (.load none (.t 22)), oa 24 (.lenSlice (.t 23)), oa 25 (.mov (ai 0))] (kp 39 [8,23,24,25]))
  (.block 0
  (.seq (sk 39 [8,23,24,25])
  (.loop l83_0))))
  (.seq (.region [oa 38 (.mov (.t 8)), oa 4 (.mov (.t 38)), oa 5 (.mov (ai 0))] (kp 39 [4,5]))
  (sr 39 [4,5])))))))⟩
theorem F83 : shutF Try.prog 83 = some c83 := by kernel_rfl

-- (*virgate/page.Heap).InUse
def l36_0 : IC := (.seq (.seq (.region [oa 15 (.bin .lss (.t 14) (.t 13))] (kp 27 [3,12,13,14,15]))
  (.seq (.cond (.t 15)
  (sk 27 [3,12,13,14])
  (sx 27 [3] 0))
  (.seq (.block 1
  (.seq (.region [oa 16 (.indexAddr 1 (.t 12) (.t 14)), oa 17 (.load none (.t 16)), oa 5 (.mov (.t 17))] (kp 27 [3,5,12,13,14]))
  (.region [oa 18 (.mov (.t 3)), oa 19 (.mov (.t 5)), oa 20 (.nilCheck (.t 19)), oa 21 (.fieldAddr 2 (.t 20)), oa 22 (.load none (.t 21)), oa 23 (.lenSlice (.t 22)), oa 24 (.bin .add (.t 18) (.t 23)), oa 3 (.mov (.t 24))] (kp 27 [3,12,13,14]))))
  (.region [oa 25 (.bin .add (.t 14) (ai 1)), oa 14 (.mov (.t 25))] (kp 27 [3,12,13,14])))))
  (sk 27 [3,12,13,14]))
def c36 : IFn := ⟨27, [(2, none)],
  (.seq (.region [oa 2 (.mov (ai 0))] (kp 27 [0]))
  (.seq (.region [oa 3 (.mov (ai 0))] (kp 27 [0,3]))
  (.seq (.seq (.region [oa 6 (.mov (.t 0)), oa 7 (.call 71 [(.t 6)]), oa 8 (.un .not (.t 7))] (kp 27 [0,3,8]))
  (.cond (.t 8)
  (.seq (.region [oa 9 (.mov (.t 0)), oa 10 (.nilCheck (.t 9)), oa 11 (.fieldAddr 1 (.t 10)), oa 12 (.load none (.t 11)), oa 13 (.lenSlice (.t 12)), oa 14 (.mov (ai 0))] (kp 27 [3,12,13,14]))
  (.block 0
  (.seq (sk 27 [3,12,13,14])
  (.loop l36_0))))
  (sk 27 [3])))
  (.seq (.region [oa 26 (.mov (.t 3)), oa 2 (.mov (.t 26))] (kp 27 [2]))
  (sr 27 [2])))))⟩
theorem F36 : shutF Try.prog 36 = some c36 := by kernel_rfl

-- (*virgate/page.Heap).object
def l75_0 : IC := (.seq (.seq (.region [oa 25 (.bin .lss (.t 24) (.t 23))] (kp 50 [4,22,23,24,25]))
  (.seq (.cond (.t 25)
  (sk 50 [4,22,23,24])
  (sx 50 [] 0))
  (.seq (.block 1
  (.seq (.region [oa 26 (.indexAddr 1 (.t 22) (.t 24)), oa 27 (.load none (.t 26)), oa 10 (.mov (.t 27))] (kp 50 [4,10,22,23,24]))
  (.seq (.region [oa 29 (.mov (.t 10)), oa 30 (.nilCheck (.t 29)), oa 31 (.fieldAddr 5 (.t 30)), oa 32 (.load none (.t 31)), oa 33 (.fieldAddr 0 (.t 4)), oa 34 (.load none (.t 33)), oa 35 (.lookup (.one .i) (.ptr none) true (.t 32) (.t 34)), oa 28 (.mov (.t 35)), oa 36 (.extract (.t 28) 0), oa 37 (.extract (.t 28) 1), oa 11 (.mov (.t 36)), oa 12 (.mov (.t 37))] (kp 50 [4,10,11,12,22,23,24]))
  (.seq (.region [oa 38 (.mov (.t 10)), oa 39 (.nilCheck (.t 38)), oa 40 (.fieldAddr 0 (.t 39)), oa 41 (.load none (.t 40)), oa 42 (.fieldAddr 1 (.t 4)), oa 43 (.load none (.t 42)), oa 44 (.bin .eql (.t 41) (.t 43)), oa 45 (.mov (.t 44)), oc 46 (.mov (.t 12)) 45 tt, oa 47 (.pick (.t 45) (.t 46) (.c (.bool false)))] (kp 50 [4,11,22,23,24,47]))
  (.cond (.t 47)
  (.seq (.region [oa 48 (.mov (.t 11)), oa 6 (.mov (.t 48)), oa 7 (.mov (ai 0))] (kp 50 [6,7]))
  (sr 50 [6,7]))
  (sk 50 [4,22,23,24]))))))
  (.region [oa 49 (.bin .add (.t 24) (ai 1)), oa 24 (.mov (.t 49))] (kp 50 [4,22,23,24])))))
  (sk 50 [4,22,23,24]))
def c75 : IFn := ⟨50, [(6, none), (7, none)],
  (.seq (.region [oa 4 (.box (.t 1)), oa 5 (.box (.t 2)), oa 6 (.mov (.c (.ptr none))), oa 7 (.mov (ai 0))] (kp 50 [0,4,5]))
  (.seq (.seq (.region [oa 13 (.mov (.t 0)), oa 14 (.mkFunc 111 [] [(.t 4), (.t 5)]), oa 15 (.call 104 [(.t 13), (.t 14)]), oa 8 (.mov (.t 15))] (kp 50 [0,4,8]))
  (.seq (.region [oa 16 (.mov (.t 8)), oa 17 (.bin .neq (.t 16) (ai 0))] (kp 50 [0,4,8,17]))
  (.cond (.t 17)
  (.seq (.region [oa 18 (.mov (.t 8)), oa 6 (.mov (.c (.ptr none))), oa 7 (.mov (.t 18))] (kp 50 [6,7]))
  (sr 50 [6,7]))
  (sk 50 [0,4]))))
  (.seq (.seq (.region [oa 19 (.mov (.t 0)), oa 20 (.nilCheck (.t 19)), oa 21 (.fieldAddr 1 (.t 20)), oa 22 (.load none (.t 21)), oa 23 (.lenSlice (.t 22)), oa 24 (.mov (ai 0))] (kp 50 [4,22,23,24]))
  (.block 0
  (.seq (sk 50 [4,22,23,24])
  (.loop l75_0))))
  (.seq (.region [oa 6 (.mov (.c (.ptr none))), oa 7 (.mov (ai 80))] (kp 50 [6,7]))
  (sr 50 [6,7])))))⟩
theorem F75 : shutF Try.prog 75 = some c75 := by kernel_rfl

-- (*virgate/page.Heap).word

def c108 : IFn := ⟨39, [(8, none), (9, none)],
  (.seq (.region [oa 5 (.box (.t 1)), oa 8 (.mov (.c (.ptr none))), oa 9 (.mov (ai 0))] (kp 39 [0,2,3,5]))
  (.seq (.region [oa 13 (.mov (.t 0)), oa 14 (.load (some 2) (.t 5)), oa 15 (.mov (.t 3)), oa 16 (.call 75 [(.t 13), (.t 14), (.t 15)]), oa 12 (.mov (.t 16)), oa 17 (.extract (.t 12) 0), oa 18 (.extract (.t 12) 1), oa 10 (.mov (.t 17)), oa 11 (.mov (.t 18))] (kp 39 [2,10,11]))
  (.seq (.block 0
  (.seq (.region [oa 20 (.mov (.t 11)), oa 21 (.bin .neq (.t 20) (ai 0)), oa 19 (.mov (.t 21))] (kp 39 [2,10,11,19]))
  (.cond (.t 19)
  (.seq (.region [oa 22 (.mov (.t 11)), oa 8 (.mov (.c (.ptr none))), oa 9 (.mov (.t 22))] (kp 39 [8,9]))
  (sr 39 [8,9]))
  (.seq (.region [oa 24 (.mov (.t 2)), oa 25 (.mov (.t 10)), oa 26 (.nilCheck (.t 25)), oa 27 (.fieldAddr 2 (.t 26)), oa 28 (.load none (.t 27)), oa 29 (.lenSlice (.t 28)), oa 30 (.bin .sub (.t 29) (ai 1)), oa 31 (.call 56 [(ai 0), (.t 24), (.t 30)]), oa 32 (.un .not (.t 31)), oa 23 (.mov (.t 32))] (kp 39 [2,10,23]))
  (.cond (.t 23)
  (.seq (.region [oa 8 (.mov (.c (.ptr none))), oa 9 (.mov (ai 2))] (kp 39 [8,9]))
  (sr 39 [8,9]))
  (sk 39 [2,10]))))))
  (.seq (.region [oa 33 (.mov (.t 10)), oa 34 (.nilCheck (.t 33)), oa 35 (.fieldAddr 2 (.t 34)), oa 36 (.load none (.t 35)), oa 37 (.mov (.t 2)), oa 38 (.indexAddr 2 (.t 36) (.t 37)), oa 8 (.mov (.t 38)), oa 9 (.mov (ai 0))] (kp 39 [8,9]))
  (sr 39 [8,9])))))⟩
theorem F108 : shutF Try.prog 108 = some c108 := by kernel_rfl

-- (*virgate/page.Heap).Get

def c67 : IFn := ⟨24, [(6, (some (some 2))), (7, none)],
  (.seq (.region [oa 4 (.box (.t 1)), oa 6 (.alloc [(.int .i64 (0)), (.int .i64 (0))]), oa 7 (.mov (ai 0))] (kp 24 [0,2,4,6]))
  (.seq (.region [oa 11 (.mov (.t 0)), oa 12 (.load (some 2) (.t 4)), oa 13 (.mov (.t 2)), oa 14 (.call 108 [(.t 11), (.t 12), (.t 13), (.c (.bool true))]), oa 10 (.mov (.t 14)), oa 15 (.extract (.t 10) 0), oa 16 (.extract (.t 10) 1), oa 8 (.mov (.t 15)), oa 9 (.mov (.t 16))] (kp 24 [6,8,9]))
  (.seq (.seq (.region [oa 17 (.mov (.t 9)), oa 18 (.bin .neq (.t 17) (ai 0))] (kp 24 [6,8,9,18]))
  (.cond (.t 18)
  (.seq (.region [oa 19 (.build [(.int .i64 (0)), (.int .i64 (0))] []), oa 20 (.mov (.t 9)), ob (.store 2 (.t 6) (.t 19)), oa 7 (.mov (.t 20))] (kp 24 [6,7]))
  (sr 24 [6,7]))
  (sk 24 [6,8])))
  (.seq (.region [oa 21 (.mov (.t 8)), oa 22 (.nilCheck (.t 21)), oa 23 (.load (some 2) (.t 22)), ob (.store 2 (.t 6) (.t 23)), oa 7 (.mov (ai 0))] (kp 24 [6,7]))
  (sr 24 [6,7])))))⟩
theorem F67 : shutF Try.prog 67 = some c67 := by kernel_rfl

-- (*virgate/page.Heap).Set

def c65 : IFn := ⟨27, [(8, none)],
  (.seq (.region [oa 5 (.box (.t 1)), oa 7 (.box (.t 3)), oa 8 (.mov (ai 0))] (kp 27 [0,2,5,7]))
  (.seq (.region [oa 12 (.mov (.t 0)), oa 13 (.load (some 2) (.t 5)), oa 14 (.mov (.t 2)), oa 15 (.fieldAddr 1 (.t 7)), oa 16 (.load none (.t 15)), oa 17 (.call 56 [(ai 0), (.t 16), (ai 100000)]), ob (.again 13 (.load (some 2) (.t 5))), oa 18 (.call 108 [(.t 12), (.t 13), (.t 14), (.t 17)]), oa 11 (.mov (.t 18)), oa 19 (.extract (.t 11) 0), oa 20 (.extract (.t 11) 1), oa 9 (.mov (.t 19)), oa 10 (.mov (.t 20))] (kp 27 [7,9,10]))
  (.seq (.seq (.region [oa 21 (.mov (.t 10)), oa 22 (.bin .eql (.t 21) (ai 0))] (kp 27 [7,9,10,22]))
  (.cond (.t 22)
  (.region [oa 23 (.mov (.t 9)), oa 24 (.load (some 2) (.t 7)), oa 25 (.nilCheck (.t 23)), ob (.store 2 (.t 25) (.t 24))] (kp 27 [10]))
  (sk 27 [10])))
  (.seq (.region [oa 26 (.mov (.t 10)), oa 8 (.mov (.t 26))] (kp 27 [8]))
  (sr 27 [8])))))⟩
theorem F65 : shutF Try.prog 65 = some c65 := by kernel_rfl

-- (*virgate/page.Heap).Head

def c30 : IFn := ⟨27, [(4, none), (5, none), (6, none)],
  (.seq (.region [oa 3 (.box (.t 1)), oa 4 (.mov (ai 0)), oa 5 (.mov (ai 0)), oa 6 (.mov (ai 0))] (kp 27 [0,3]))
  (.seq (.region [oa 10 (.mov (.t 0)), oa 11 (.load (some 2) (.t 3)), oa 12 (.call 75 [(.t 10), (.t 11), (.c (.bool true))]), oa 9 (.mov (.t 12)), oa 13 (.extract (.t 9) 0), oa 14 (.extract (.t 9) 1), oa 7 (.mov (.t 13)), oa 8 (.mov (.t 14))] (kp 27 [7,8]))
  (.seq (.seq (.region [oa 15 (.mov (.t 8)), oa 16 (.bin .neq (.t 15) (ai 0))] (kp 27 [7,8,16]))
  (.cond (.t 16)
  (.seq (.region [oa 17 (.mov (.t 8)), oa 4 (.mov (ai 0)), oa 5 (.mov (ai 0)), oa 6 (.mov (.t 17))] (kp 27 [4,5,6]))
  (sr 27 [4,5,6]))
  (sk 27 [7])))
  (.seq (.region [oa 18 (.mov (.t 7)), oa 19 (.nilCheck (.t 18)), oa 20 (.fieldAddr 1 (.t 19)), oa 21 (.load none (.t 20)), oa 22 (.mov (.t 7)), oa 23 (.nilCheck (.t 22)), oa 24 (.fieldAddr 2 (.t 23)), oa 25 (.load none (.t 24)), oa 26 (.lenSlice (.t 25)), oa 4 (.mov (.t 21)), oa 5 (.mov (.t 26)), oa 6 (.mov (ai 0))] (kp 27 [4,5,6]))
  (sr 27 [4,5,6])))))⟩
theorem F30 : shutF Try.prog 30 = some c30 := by kernel_rfl


section
variable {o : Nat → Option O} {s : St} {C F : Ch} {Q : V → St → Prop}
set_option maxRecDepth 10000

theorem s34_full {hp : PHeap} {p r kind words : Nat} {u : List Bool} {A B : List PReg} {g : PReg} (H : Holds o s (poolC p r u ++ (hp.ch p ++ F))) (hr : hp.regs = A ++ g :: B) (hlen : hp.regs.length ≤ 100000) (hu : u.length ≤ 400) (hok : RegOk u.length g.m)
    (hb : GoodStore g kind words) (hput : putM u g.size g.life g.fill g.pages (words + 1) = none)
    (q : ∀ s', Holds o s' (poolC p r u ++ (hp.ch p ++ F)) → Q (.tuple [.agg [I 0, I 0], I 81]) s') : WP (call PF 34 [ptrN hp.id, I A.length, I kind, I words] s) Q := by
  refine s34_go H hr hlen hb fun s' t xid wid h1 => ?_
  refine wp_res (s77_none (c := rowV hp.rowk hp.regs.length) (d := I hp.lives) h1 (by simp [PHeap.hd]) hu hok.b (by simpa using hb.2.2.2.1) (by simpa using hput)) ⟨false, rfl, fun _ s3 e => ?_, fun h => by cases h⟩
  have h2 : Holds o s' ((t, some (.cells [I 0, I 0] none)) :: (poolC p r u ++ (g.ch ++ ((hp.id, some (hp.hd p)) :: (hp.rowk, hp.row) :: (A.flatMap PReg.ch ++ (B.flatMap PReg.ch ++ F)))))) := (Holds.of (h1) (fun k => by simp +arith only [HA, HB]) (fun k x => by simp only [HA, HC]; grind only))
  refine ⟨h2.g0, ?_⟩
  rw [e]
  exact q _ (Holds.of ((h2.set0 (.cells [I 0, I 0] none)).tl) (fun k => by simp +arith only [hr, HA, HB]) (fun k x => by simp only [hr, HA, HC]; grind only))

theorem s34 {hp : PHeap} {p r kind words : Nat} {u : List Bool} {A B : List PReg} {g : PReg} (H : Holds o s (poolC p r u ++ (hp.ch p ++ F))) (hr : hp.regs = A ++ g :: B) (hlen : hp.regs.length ≤ 100000) (hu : u.length ≤ 400) (hok : RegOk u.length g.m) (hg : g.ok) (hn : g.objs.length < 100000)
    (hb : GoodStore g kind words) {at_ fill : Nat} {u' : List Bool} {pages : List Nat} (hput : putM u g.size g.life g.fill g.pages (words + 1) = some (at_, u', fill, pages)) (hf : ∀ y ∈ g.objs, y.b.at_ ≠ at_)
    (q : ∀ s' pgk' obk' pl' xid wid, (({ g with pgk := pgk', pages := pages, fill := fill } : PReg).lay obk' pl' ⟨xid, wid, ⟨at_, kind, List.replicate words (0, 0)⟩⟩).ok →
      Holds o s' (poolC p r u' ++ (({ hp with regs := A ++ ({ g with pgk := pgk', pages := pages, fill := fill } : PReg).lay obk' pl' ⟨xid, wid, ⟨at_, kind, List.replicate words (0, 0)⟩⟩ :: B } : PHeap).ch p ++ F)) →
      Q (.tuple [.agg [I at_, I g.life], I 0]) s') : WP (call PF 34 [ptrN hp.id, I A.length, I kind, I words] s) Q := by
  refine s34_go H hr hlen hb fun s' t xid wid h1 => ?_
  refine s77 (c := rowV hp.rowk hp.regs.length) (d := I hp.lives) h1 (by simp [PHeap.hd]) hu hg hok.b hn (by simpa using hb.2.2.2.1) (by simpa using hput) hf fun s2 pgk' obk' pl' h2 hok' => ⟨true, rfl, (fun h => by cases h), fun _ => ?_⟩
  have h3 : Holds o s2 ((t, some (.cells [I 0, I 0] none)) :: (xid, some (.cells [I at_, I kind, slN wid words] none)) :: (g.id, some (.cells [I g.life, I g.size, rowV pgk' pages.length, I fill, rowV obk' (g.objs.length + 1), .map (some (.new g.plk))] none)) ::
    (pgk', pagesO pages) :: (obk', PReg.obO (g.objs ++ [⟨xid, wid, ⟨at_, kind, List.replicate words (0, 0)⟩⟩])) :: (g.plk, some pl') :: (wid, some (.cells ((List.replicate words ((0 : Int), (0 : Int))).flatMap encW) none)) :: (g.objs.flatMap PObj.ch ++ (poolC p r u' ++ ((hp.id, some (hp.hd p)) :: (hp.rowk, hp.row) :: (A.flatMap PReg.ch ++ (B.flatMap PReg.ch ++ F)))))) :=
      (Holds.of (h2) (fun k => by simp +arith only [PReg.lay, PObj.at, PReg.hd, PObj.O, PObj.W, List.length_append, List.length_cons, List.length_nil, Nat.zero_add, List.length_replicate, HA, HB]) (fun k x => by simp only [PReg.lay, PObj.at, PReg.hd, PObj.O, PObj.W, List.length_append, List.length_cons, List.length_nil, Nat.zero_add, List.length_replicate, HA, HC]; grind only))
  refine ⟨_, _, _, _, _, _, _, _, _, h3.g0, h3.tl.g0, h3.tl.tl.g0, fun s3 e => ?_⟩
  rw [e]
  refine q _ pgk' obk' pl' xid wid hok' (Holds.of ((h3.set0 (.cells [I at_, I g.life] none)).tl) (fun k => by simp +arith only [PReg.lay, PReg.hd, PObj.O, PObj.W, PHeap.hd, PHeap.row, hr, List.length_append, List.length_cons, List.length_nil, Nat.zero_add, List.length_replicate, List.map_append, List.map_cons, HA, HB]) (fun k x => by simp only [PReg.lay, PReg.hd, PObj.O, PObj.W, PHeap.hd, PHeap.row, hr, List.length_append, List.length_cons, List.length_nil, Nat.zero_add, List.length_replicate, List.map_append, List.map_cons, HA, HC]; grind only))

theorem s59_gone (hC : Holds o s C) {hv : V} {words : Int} (g : Gone C hv) (q : ∀ s', Holds o s' C → Q (.tuple [I 0, I 6]) s') : WP (call PF 59 [hv, I words] s) Q := by
  have h1 := hC.alloc (.cells [I words] none)
  have e := fun fv => s104_gone (fv := fv) h1 (hv := hv) (g.mono fun x hx => List.mem_cons_of_mem _ hx)
  rw [call_run F59]; simp -implicitDefEqProofs only [↓GP, GB, GL, Nat.reduceAdd, Nat.reduceSub, Nat.reduceEqDiff, Nat.reduceMul, Nat.reduceLeDiff, Int.reduceBNe, Int.reduceBEq, Nat.reduceLT, reduceCtorEq, c59, e, Int.reduceBNe, Int.reduceBEq]
  exact q _ h1.tl
theorem s105 {a : Nat} {n : Int} (f : s.new a = some (.cells [I n] none)) : call PF 105 [ptrN a] s = some (.bool (decide (0 ≤ n) && decide (n ≤ 31)), s) := by
  rw [call_run F105]; simp -implicitDefEqProofs only [↓GP, GB, GL, Nat.reduceAdd, Nat.reduceSub, Nat.reduceEqDiff, Nat.reduceMul, Nat.reduceLeDiff, Int.reduceBNe, Int.reduceBEq, Nat.reduceLT, reduceCtorEq, c105, f, s56]
theorem s59_bad (hC : Holds o s C) {hp : PHeap} {p : Nat} {words : Int} (m1 : (hp.id, some (hp.hd p)) ∈ C) (hb : ¬ (0 ≤ words ∧ words ≤ 31)) (q : ∀ s', Holds o s' C → Q (.tuple [I 0, I 2]) s') : WP (call PF 59 [ptrN hp.id, I words] s) Q := by
  have h1 := hC.alloc (.cells [I words] none)
  have f := h1.mem (List.mem_cons_of_mem _ m1)
  have hb' : (decide (0 ≤ words) && decide (words ≤ 31)) = false := by simpa using hb
  have e := s104 (g := 105) (caps := [ptrN s.next]) f.1 (s105 h1.g0)
  rw [hb'] at e
  rw [call_run F59]; simp -implicitDefEqProofs only [↓GP, GB, GL, Nat.reduceAdd, Nat.reduceSub, Nat.reduceEqDiff, Nat.reduceMul, Nat.reduceLeDiff, Int.reduceBNe, Int.reduceBEq, Nat.reduceLT, reduceCtorEq, c59, e, Int.reduceBNe, Int.reduceBEq]
  exact q _ h1.tl
theorem s59_full (hC : Holds o s C) {hp : PHeap} {p : Nat} {words : Int} (m1 : (hp.id, some (hp.hd p)) ∈ C) (hb : 0 ≤ words ∧ words ≤ 31) (hl : 100000 ≤ hp.lives) (q : ∀ s', Holds o s' C → Q (.tuple [I 0, I 4]) s') : WP (call PF 59 [ptrN hp.id, I words] s) Q := by
  have h1 := hC.alloc (.cells [I words] none)
  have f := h1.mem (List.mem_cons_of_mem _ m1)
  have f0 := hC.mem m1
  simp only [PHeap.hd] at f0
  have hb' : (decide (0 ≤ words) && decide (words ≤ 31)) = true := by simpa using hb
  have hl' : ((hp.lives : Int) ≥ 100000) := by omega
  have e := s104 (g := 105) (caps := [ptrN s.next]) f.1 (s105 h1.g0)
  rw [hb'] at e
  rw [call_run F59]; simp -implicitDefEqProofs only [↓GP, GB, GL, Nat.reduceAdd, Nat.reduceSub, Nat.reduceEqDiff, Nat.reduceMul, Nat.reduceLeDiff, Int.reduceBNe, Int.reduceBEq, Nat.reduceLT, reduceCtorEq, c59, e, f0, hl', Int.reduceBNe, Int.reduceBEq]
  exact q _ h1.tl
theorem s59 {hp : PHeap} {p words : Nat} (H : Holds o s (hp.ch p ++ F)) (h0 : hp.regs ≠ []) (hlen : hp.regs.length < 100000) (hb : words ≤ 31) (hl : hp.lives < 100000)
    (q : ∀ s' rk k m sl, Holds o s' (({ hp with rowk := rk, lives := hp.lives + 1, regs := hp.regs ++ [⟨k, 0, 0, m, .map [] 0, words, hp.lives + 1, 0, [], []⟩], sl := sl } : PHeap).ch p ++ F) → Q (.tuple [I hp.regs.length, I 0]) s') : WP (call PF 59 [ptrN hp.id, I words] s) Q := by
  have h1 := H.alloc (.cells [I words] none)
  have m1 : (hp.id, some (hp.hd p)) ∈ hp.ch p ++ F := by simp [PHeap.ch]
  have f := h1.mem (List.mem_cons_of_mem _ m1)
  have f0 := H.mem m1
  simp only [PHeap.hd] at f0
  have hb' : (decide (0 ≤ (words : Int)) && decide ((words : Int) ≤ 31)) = true := by simp; omega
  have hl' : ¬ ((hp.lives : Int) ≥ 100000) := by omega
  have e := s104 (g := 105) (caps := [ptrN s.next]) f.1 (s105 h1.g0)
  rw [hb'] at e
  rw [call_run F59]; simp -implicitDefEqProofs only [↓GP, GB, GL, Nat.reduceAdd, Nat.reduceSub, Nat.reduceEqDiff, Nat.reduceMul, Nat.reduceLeDiff, Int.reduceBNe, Int.reduceBEq, Nat.reduceLT, reduceCtorEq, c59, e, f0, hl', Int.reduceBNe, Int.reduceBEq]
  refine wp_in (s57 (h := hp.id) (rk := hp.rowk) (n := hp.regs.length) (pv := ptrN p) (lives := hp.lives) (cs := hp.regs.map fun r => ptrN r.id) (sl := hp.sl) (F := hp.regs.flatMap PReg.ch ++ F) (by omega) (by omega) (Holds.of (h1) (fun k => by simp +arith only [PHeap.hd, PHeap.row, HA, HB]) (fun k x => by simp only [PHeap.hd, PHeap.row, HA, HC]; grind only)) (by simp) (fun h => absurd (List.length_eq_zero_iff.1 h) h0) fun s1 rk k m sl h2 => ?_)
  have f := h2.f1
  have w : wrapI .i64 (((hp.regs.length + 1 : Nat) : Int) - 1) = I (hp.regs.length : Nat) := by rw [wrap_sub1 (by omega) (by omega)]; rfl
  simp -implicitDefEqProofs only [↓GP, GB, GL, Nat.reduceAdd, Nat.reduceSub, Nat.reduceEqDiff, Nat.reduceMul, Nat.reduceLeDiff, Int.reduceBNe, Int.reduceBEq, Nat.reduceLT, reduceCtorEq, f, w]
  refine q _ rk k m sl (Holds.of (h2) (fun k => by simp +arith only [PHeap.hd, PReg.hd, PHeap.row, rowV_zero, List.length_append, List.length_cons, List.length_nil, Nat.zero_add, List.map_append, List.map_cons, List.map_nil, Int.natCast_zero, HA, HB]) (fun k x => by simp only [PHeap.hd, PReg.hd, PHeap.row, rowV_zero, List.length_append, List.length_cons, List.length_nil, Nat.zero_add, List.map_append, List.map_cons, List.map_nil, Int.natCast_zero, HA, HC]; grind only))
end
end Go.Proofs.Ytoldkemimhebaaa
