/- The functions of layer 15's reference, on the ideal machine: looking. -/
import Derived.Test.YtoldkemimhebaaaPg0
set_option linter.unusedSimpArgs false
set_option linter.unusedVariables false
namespace Go.Proofs.Ytoldkemimhebaaa
open Go Go.IM

-- (*virgate/virgateref15.Heap).gone

def c87 : IFn := ⟨13, [(2, none)],
  (.seq (.region [oa 2 (.mov (.c (.bool false)))] (kp 13 [0]))
  (.seq (.region [oa 3 (.mov (.t 0)), oa 4 (.eql false .ptr (.t 3) (.c (.ptr none))), oa 5 (.mov (.t 4)), oc 6 (.mov (.t 0)) 5 ff, oc 7 (.nilCheck (.t 6)) 5 ff, oc 8 (.fieldAddr 1 (.t 7)) 5 ff, oc 9 (.load none (.t 8)) 5 ff, oc 10 (.lenSlice (.t 9)) 5 ff, oc 11 (.bin .eql (.t 10) (ai 0)) 5 ff, oa 12 (.pick (.t 5) (.c (.bool true)) (.t 11)), oa 2 (.mov (.t 12))] (kp 13 [2]))
  (sr 13 [2])))⟩
theorem F87 : shutF Try.prog 87 = some c87 := by kernel_rfl

-- (*virgate/virgateref15.Heap).Is

def c106 : IFn := ⟨16, [(4, none)],
  (.seq (.region [oa 4 (.mov (.c (.bool false)))] (kp 16 [0,1]))
  (.seq (.region [oa 5 (.mov (.t 1)), oa 6 (.bin .geq (.t 5) (ai 0)), oa 7 (.mov (.t 6)), oc 8 (.mov (.t 1)) 7 tt, oc 9 (.mov (.t 0)) 7 tt, oc 10 (.nilCheck (.t 9)) 7 tt, oc 11 (.fieldAddr 1 (.t 10)) 7 tt, oc 12 (.load none (.t 11)) 7 tt, oc 13 (.lenSlice (.t 12)) 7 tt, oc 14 (.bin .lss (.t 8) (.t 13)) 7 tt, oa 15 (.pick (.t 7) (.t 14) (.c (.bool false))), oa 4 (.mov (.t 15))] (kp 16 [4]))
  (sr 16 [4])))⟩
theorem F106 : shutF Try.prog 106 = some c106 := by kernel_rfl

-- (*virgate/virgateref15.Heap).asked

def c113 : IFn := ⟨11, [(4, none)],
  (.seq (.region [oa 4 (.mov (ai 0))] (kp 11 [0,1]))
  (.seq (.seq (.region [oa 5 (.mov (.t 0)), oa 6 (.call 87 [(.t 5)])] (kp 11 [0,1,6]))
  (.cond (.t 6)
  (.seq (.region [oa 4 (.mov (ai 6))] (kp 11 [4]))
  (sr 11 [4]))
  (sk 11 [0,1])))
  (.seq (.seq (.region [oa 7 (.mov (.t 0)), oa 8 (.mov (.t 1)), oa 9 (.call 106 [(.t 7), (.t 8)]), oa 10 (.un .not (.t 9))] (kp 11 [10]))
  (.cond (.t 10)
  (.seq (.region [oa 4 (.mov (ai 2))] (kp 11 [4]))
  (sr 11 [4]))
  (sk 11 [])))
  (.seq (.region [oa 4 (.mov (ai 0))] (kp 11 [4]))
  (sr 11 [4])))))⟩
theorem F113 : shutF Try.prog 113 = some c113 := by kernel_rfl

-- (*virgate/virgateref15.Heap).Depth

def c78 : IFn := ⟨10, [(2, none)],
  (.seq (.region [oa 2 (.mov (ai 0))] (kp 10 [0]))
  (.seq (.seq (.region [oa 3 (.mov (.t 0)), oa 4 (.call 87 [(.t 3)])] (kp 10 [0,4]))
  (.cond (.t 4)
  (.seq (.region [oa 2 (.mov (ai 0))] (kp 10 [2]))
  (sr 10 [2]))
  (sk 10 [0])))
  (.seq (.region [oa 5 (.mov (.t 0)), oa 6 (.nilCheck (.t 5)), oa 7 (.fieldAddr 1 (.t 6)), oa 8 (.load none (.t 7)), oa 9 (.lenSlice (.t 8)), oa 2 (.mov (.t 9))] (kp 10 [2]))
  (sr 10 [2]))))⟩
theorem F78 : shutF Try.prog 78 = some c78 := by kernel_rfl

-- (*virgate/virgateref15.Heap).InUse
def l79_0 : IC := (.seq (.seq (.seq (.region [oa 5 (.mov (.t 0)), oa 6 (.call 87 [(.t 5)]), oa 7 (.un .not (.t 6)), oa 8 (.mov (.t 7)), oc 9 (.mov (.t 4)) 8 tt, oc 10 (.mov (.t 0)) 8 tt, oc 11 (.nilCheck (.t 10)) 8 tt, oc 12 (.fieldAddr 1 (.t 11)) 8 tt, oc 13 (.load none (.t 12)) 8 tt, oc 14 (.lenSlice (.t 13)) 8 tt, oc 15 (.bin .lss (.t 9) (.t 14)) 8 tt, oa 16 (.pick (.t 8) (.t 15) (.c (.bool false)))] (kp 31 [0,3,4,16]))
  (.cond (.t 16)
  (sk 31 [0,3,4])
  (sx 31 [3] 0)))
  (.seq (.block 1
  (.region [oa 19 (.mov (.t 3)), oa 20 (.mov (.t 0)), oa 21 (.nilCheck (.t 20)), oa 22 (.fieldAddr 1 (.t 21)), oa 23 (.load none (.t 22)), oa 24 (.mov (.t 4)), oa 25 (.indexAddr 5 (.t 23) (.t 24)), oa 26 (.fieldAddr 2 (.t 25)), oa 27 (.load none (.t 26)), oa 28 (.lenSlice (.t 27)), oa 29 (.bin .add (.t 19) (.t 28)), oa 3 (.mov (.t 29))] (kp 31 [0,3,4])))
  (.region [oa 17 (.mov (.t 4)), oa 18 (.bin .add (.t 17) (ai 1)), oa 4 (.mov (.t 18))] (kp 31 [0,3,4]))))
  (sk 31 [0,3,4]))
def c79 : IFn := ⟨31, [(2, none)],
  (.seq (.region [oa 2 (.mov (ai 0))] (kp 31 [0]))
  (.seq (.region [oa 3 (.mov (ai 0))] (kp 31 [0,3]))
  (.seq (.seq (.region [oa 4 (.mov (ai 0))] (kp 31 [0,3,4]))
  (.block 0
  (.seq (sk 31 [0,3,4])
  (.loop l79_0))))
  (.seq (.region [oa 30 (.mov (.t 3)), oa 2 (.mov (.t 30))] (kp 31 [2]))
  (sr 31 [2])))))⟩
theorem F79 : shutF Try.prog 79 = some c79 := by kernel_rfl

-- (*virgate/virgateref15.Heap).PagesOf

def c80 : IFn := ⟨23, [(4, none), (5, none)],
  (.seq (.region [oa 4 (.mov (.c (.slice none 0 (some 0)))), oa 5 (.mov (ai 0))] (kp 23 [0,1]))
  (.seq (.region [oa 7 (.mov (.t 0)), oa 8 (.mov (.t 1)), oa 9 (.call 113 [(.t 7), (.t 8)]), oa 6 (.mov (.t 9))] (kp 23 [0,1,6]))
  (.seq (.seq (.region [oa 10 (.mov (.t 6)), oa 11 (.bin .neq (.t 10) (ai 0))] (kp 23 [0,1,6,11]))
  (.cond (.t 11)
  (.seq (.region [oa 12 (.mov (.t 6)), oa 4 (.mov (.c (.slice none 0 (some 0)))), oa 5 (.mov (.t 12))] (kp 23 [4,5]))
  (sr 23 [4,5]))
  (sk 23 [0,1])))
  (.seq (.region [oa 13 (.buildSlice 0 [] []), oa 14 (.mov (.t 0)), oa 15 (.nilCheck (.t 14)), oa 16 (.fieldAddr 1 (.t 15)), oa 17 (.load none (.t 16)), oa 18 (.mov (.t 1)), oa 19 (.indexAddr 5 (.t 17) (.t 18)), oa 20 (.fieldAddr 2 (.t 19)), oa 21 (.load none (.t 20)), oa 22 (.append 1 8 (.t 13) (.t 21)), oa 4 (.mov (.t 22)), oa 5 (.mov (ai 0))] (kp 23 [4,5]))
  (sr 23 [4,5])))))⟩
theorem F80 : shutF Try.prog 80 = some c80 := by kernel_rfl

-- (*virgate/virgateref15.Heap).ObjectsOf
def l81_0 : IC := (.seq (.seq (.seq (.region [oa 15 (.mov (.t 8)), oa 16 (.mov (.t 0)), oa 17 (.nilCheck (.t 16)), oa 18 (.fieldAddr 1 (.t 17)), oa 19 (.load none (.t 18)), oa 20 (.mov (.t 1)), oa 21 (.indexAddr 5 (.t 19) (.t 20)), oa 22 (.fieldAddr 4 (.t 21)), oa 23 (.load none (.t 22)), oa 24 (.lenSlice (.t 23)), oa 25 (.bin .lss (.t 15) (.t 24))] (kp 53 [0,1,7,8,25]))
  (.cond (.t 25)
  (sk 53 [0,1,7,8])
  (sx 53 [7] 0)))
  (.seq (.block 1
  (.region [oa 28 (.mov (.t 7)), oa 29 (.mov (.t 0)), oa 30 (.nilCheck (.t 29)), oa 31 (.fieldAddr 1 (.t 30)), oa 32 (.load none (.t 31)), oa 33 (.mov (.t 1)), oa 34 (.indexAddr 5 (.t 32) (.t 33)), oa 35 (.fieldAddr 4 (.t 34)), oa 36 (.load none (.t 35)), oa 37 (.mov (.t 8)), oa 38 (.indexAddr 3 (.t 36) (.t 37)), oa 39 (.fieldAddr 0 (.t 38)), oa 40 (.load none (.t 39)), oa 41 (.mov (.t 0)), oa 42 (.nilCheck (.t 41)), oa 43 (.fieldAddr 1 (.t 42)), oa 44 (.load none (.t 43)), oa 45 (.mov (.t 1)), oa 46 (.indexAddr 5 (.t 44) (.t 45)), oa 47 (.fieldAddr 1 (.t 46)), oa 48 (.load none (.t 47)), oa 49 (.build [(.int .i64 (0)), (.int .i64 (0))] [(0, 1, (.t 40)), (1, 1, (.t 48))]), oa 50 (.buildSlice 1 [(.int .i64 (0)), (.int .i64 (0))] [(0, 2, (.t 49))]), oa 51 (.append 2 16 (.t 28) (.t 50)), oa 7 (.mov (.t 51))] (kp 53 [0,1,7,8])))
  (.region [oa 26 (.mov (.t 8)), oa 27 (.bin .add (.t 26) (ai 1)), oa 8 (.mov (.t 27))] (kp 53 [0,1,7,8]))))
  (sk 53 [0,1,7,8]))
def c81 : IFn := ⟨53, [(4, none), (5, none)],
  (.seq (.region [oa 4 (.mov (.c (.slice none 0 (some 0)))), oa 5 (.mov (ai 0))] (kp 53 [0,1]))
  (.seq (.region [oa 9 (.mov (.t 0)), oa 10 (.mov (.t 1)), oa 11 (.call 113 [(.t 9), (.t 10)]), oa 6 (.mov (.t 11))] (kp 53 [0,1,6]))
  (.seq (.seq (.region [oa 12 (.mov (.t 6)), oa 13 (.bin .neq (.t 12) (ai 0))] (kp 53 [0,1,6,13]))
  (.cond (.t 13)
  (.seq (.region [oa 14 (.mov (.t 6)), oa 4 (.mov (.c (.slice none 0 (some 0)))), oa 5 (.mov (.t 14))] (kp 53 [4,5]))
  (sr 53 [4,5]))
  (sk 53 [0,1])))
  (.seq (.region [oa 7 (.mov (.c (.slice none 0 (some 0))))] (kp 53 [0,1,7]))
  (.seq (.seq (.region [oa 8 (.mov (ai 0))] (kp 53 [0,1,7,8]))
  (.block 0
  (.seq (sk 53 [0,1,7,8])
  (.loop l81_0))))
  (.seq (.region [oa 52 (.mov (.t 7)), oa 4 (.mov (.t 52)), oa 5 (.mov (ai 0))] (kp 53 [4,5]))
  (sr 53 [4,5])))))))⟩
theorem F81 : shutF Try.prog 81 = some c81 := by kernel_rfl

-- (*virgate/virgateref15.Heap).WordsOf
def l84_0 : IC := (.seq (.seq (.seq (.region [oa 15 (.mov (.t 8)), oa 16 (.mov (.t 0)), oa 17 (.nilCheck (.t 16)), oa 18 (.fieldAddr 1 (.t 17)), oa 19 (.load none (.t 18)), oa 20 (.mov (.t 1)), oa 21 (.indexAddr 5 (.t 19) (.t 20)), oa 22 (.fieldAddr 4 (.t 21)), oa 23 (.load none (.t 22)), oa 24 (.lenSlice (.t 23)), oa 25 (.bin .lss (.t 15) (.t 24))] (kp 45 [0,1,7,8,25]))
  (.cond (.t 25)
  (sk 45 [0,1,7,8])
  (sx 45 [7] 0)))
  (.seq (.block 1
  (.region [oa 28 (.mov (.t 7)), oa 29 (.bin .add (.t 28) (ai 1)), oa 30 (.mov (.t 0)), oa 31 (.nilCheck (.t 30)), oa 32 (.fieldAddr 1 (.t 31)), oa 33 (.load none (.t 32)), oa 34 (.mov (.t 1)), oa 35 (.indexAddr 5 (.t 33) (.t 34)), oa 36 (.fieldAddr 4 (.t 35)), oa 37 (.load none (.t 36)), oa 38 (.mov (.t 8)), oa 39 (.indexAddr 3 (.t 37) (.t 38)), oa 40 (.fieldAddr 2 (.t 39)), oa 41 (.load none (.t 40)), oa 42 (.lenSlice (.t 41)), oa 43 (.bin .add (.t 29) (.t 42)), oa 7 (.mov (.t 43))] (kp 45 [0,1,7,8])))
  (.region [oa 26 (.mov (.t 8)), oa 27 (.bin .add (.t 26) (ai 1)), oa 8 (.mov (.t 27))] (kp 45 [0,1,7,8]))))
  (sk 45 [0,1,7,8]))
def c84 : IFn := ⟨45, [(4, none), (5, none)],
  (.seq (.region [oa 4 (.mov (ai 0)), oa 5 (.mov (ai 0))] (kp 45 [0,1]))
  (.seq (.region [oa 9 (.mov (.t 0)), oa 10 (.mov (.t 1)), oa 11 (.call 113 [(.t 9), (.t 10)]), oa 6 (.mov (.t 11))] (kp 45 [0,1,6]))
  (.seq (.seq (.region [oa 12 (.mov (.t 6)), oa 13 (.bin .neq (.t 12) (ai 0))] (kp 45 [0,1,6,13]))
  (.cond (.t 13)
  (.seq (.region [oa 14 (.mov (.t 6)), oa 4 (.mov (ai 0)), oa 5 (.mov (.t 14))] (kp 45 [4,5]))
  (sr 45 [4,5]))
  (sk 45 [0,1])))
  (.seq (.region [oa 7 (.mov (ai 0))] (kp 45 [0,1,7]))
  (.seq (.seq (.region [oa 8 (.mov (ai 0))] (kp 45 [0,1,7,8]))
  (.block 0
  (.seq (sk 45 [0,1,7,8])
  (.loop l84_0))))
  (.seq (.region [oa 44 (.mov (.t 7)), oa 4 (.mov (.t 44)), oa 5 (.mov (ai 0))] (kp 45 [4,5]))
  (sr 45 [4,5])))))))⟩
theorem F84 : shutF Try.prog 84 = some c84 := by kernel_rfl

-- (*virgate/virgateref15.Heap).Life

def c85 : IFn := ⟨21, [(4, none), (5, none)],
  (.seq (.region [oa 4 (.mov (ai 0)), oa 5 (.mov (ai 0))] (kp 21 [0,1]))
  (.seq (.region [oa 7 (.mov (.t 0)), oa 8 (.mov (.t 1)), oa 9 (.call 113 [(.t 7), (.t 8)]), oa 6 (.mov (.t 9))] (kp 21 [0,1,6]))
  (.seq (.seq (.region [oa 10 (.mov (.t 6)), oa 11 (.bin .neq (.t 10) (ai 0))] (kp 21 [0,1,6,11]))
  (.cond (.t 11)
  (.seq (.region [oa 12 (.mov (.t 6)), oa 4 (.mov (ai 0)), oa 5 (.mov (.t 12))] (kp 21 [4,5]))
  (sr 21 [4,5]))
  (sk 21 [0,1])))
  (.seq (.region [oa 13 (.mov (.t 0)), oa 14 (.nilCheck (.t 13)), oa 15 (.fieldAddr 1 (.t 14)), oa 16 (.load none (.t 15)), oa 17 (.mov (.t 1)), oa 18 (.indexAddr 5 (.t 16) (.t 17)), oa 19 (.fieldAddr 1 (.t 18)), oa 20 (.load none (.t 19)), oa 4 (.mov (.t 20)), oa 5 (.mov (ai 0))] (kp 21 [4,5]))
  (sr 21 [4,5])))))⟩
theorem F85 : shutF Try.prog 85 = some c85 := by kernel_rfl

-- (*virgate/virgateref15.Heap).Find
def l103_0 : IC := (.seq (.seq (.seq (.region [oa 33 (.mov (.t 7)), oa 34 (.mov (.t 0)), oa 35 (.nilCheck (.t 34)), oa 36 (.fieldAddr 1 (.t 35)), oa 37 (.load none (.t 36)), oa 38 (.mov (.t 6)), oa 39 (.indexAddr 5 (.t 37) (.t 38)), oa 40 (.fieldAddr 4 (.t 39)), oa 41 (.load none (.t 40)), oa 42 (.lenSlice (.t 41)), oa 43 (.bin .lss (.t 33) (.t 42))] (kp 63 [0,3,6,7,43]))
  (.cond (.t 43)
  (sk 63 [0,3,6,7])
  (sx 63 [0,3,6] 2)))
  (.seq (.block 3
  (.seq (.region [oa 46 (.mov (.t 0)), oa 47 (.nilCheck (.t 46)), oa 48 (.fieldAddr 1 (.t 47)), oa 49 (.load none (.t 48)), oa 50 (.mov (.t 6)), oa 51 (.indexAddr 5 (.t 49) (.t 50)), oa 52 (.fieldAddr 4 (.t 51)), oa 53 (.load none (.t 52)), oa 54 (.mov (.t 7)), oa 55 (.indexAddr 3 (.t 53) (.t 54)), oa 56 (.fieldAddr 0 (.t 55)), oa 57 (.load none (.t 56)), oa 58 (.fieldAddr 0 (.t 3)), oa 59 (.load none (.t 58)), oa 60 (.bin .eql (.t 57) (.t 59))] (kp 63 [0,3,6,7,60]))
  (.cond (.t 60)
  (.seq (.region [oa 61 (.mov (.t 6)), oa 62 (.mov (.t 7)), oa 4 (.mov (.t 61)), oa 5 (.mov (.t 62))] (kp 63 [4,5]))
  (sr 63 [4,5]))
  (sk 63 [0,3,6,7]))))
  (.region [oa 44 (.mov (.t 7)), oa 45 (.bin .add (.t 44) (ai 1)), oa 7 (.mov (.t 45))] (kp 63 [0,3,6,7]))))
  (sk 63 [0,3,6,7]))
def l103_1 : IC := (.seq (.seq (.seq (.region [oa 8 (.mov (.t 6)), oa 9 (.mov (.t 0)), oa 10 (.nilCheck (.t 9)), oa 11 (.fieldAddr 1 (.t 10)), oa 12 (.load none (.t 11)), oa 13 (.lenSlice (.t 12)), oa 14 (.bin .lss (.t 8) (.t 13))] (kp 63 [0,3,6,14]))
  (.cond (.t 14)
  (sk 63 [0,3,6])
  (sx 63 [] 0)))
  (.seq (.block 1
  (.seq (.seq (.region [oa 17 (.fieldAddr 1 (.t 3)), oa 18 (.load none (.t 17)), oa 19 (.bin .lss (.t 18) (ai 1)), oa 20 (.mov (.t 19)), oc 21 (.mov (.t 0)) 20 ff, oc 22 (.nilCheck (.t 21)) 20 ff, oc 23 (.fieldAddr 1 (.t 22)) 20 ff, oc 24 (.load none (.t 23)) 20 ff, oc 25 (.mov (.t 6)) 20 ff, oc 26 (.indexAddr 5 (.t 24) (.t 25)) 20 ff, oc 27 (.fieldAddr 1 (.t 26)) 20 ff, oc 28 (.load none (.t 27)) 20 ff, oc 29 (.fieldAddr 1 (.t 3)) 20 ff, oc 30 (.load none (.t 29)) 20 ff, oc 31 (.bin .neq (.t 28) (.t 30)) 20 ff, oa 32 (.pick (.t 20) (.c (.bool true)) (.t 31))] (kp 63 [0,3,6,32]))
  (.cond (.t 32)
  (sx 63 [0,3,6] 1)
  (sk 63 [0,3,6])))
  (.seq (.region [oa 7 (.mov (ai 0))] (kp 63 [0,3,6,7]))
  (.block 2
  (.seq (sk 63 [0,3,6,7])
  (.loop l103_0))))))
  (.region [oa 15 (.mov (.t 6)), oa 16 (.bin .add (.t 15) (ai 1)), oa 6 (.mov (.t 16))] (kp 63 [0,3,6]))))
  (sk 63 [0,3,6]))
def c103 : IFn := ⟨63, [(4, none), (5, none)],
  (.seq (.region [oa 3 (.box (.t 1)), oa 4 (.mov (ai 0)), oa 5 (.mov (ai 0))] (kp 63 [0,3]))
  (.seq (.seq (.region [oa 6 (.mov (ai 0))] (kp 63 [0,3,6]))
  (.block 0
  (.seq (sk 63 [0,3,6])
  (.loop l103_1))))
  (.seq (.region [oa 4 (.mov (ai (-1))), oa 5 (.mov (ai (-1)))] (kp 63 [4,5]))
  (sr 63 [4,5]))))⟩
theorem F103 : shutF Try.prog 103 = some c103 := by kernel_rfl

-- (*virgate/virgateref15.Heap).Get

def c68 : IFn := ⟨61, [(6, (some (some 2))), (7, none)],
  (.seq (.region [oa 4 (.box (.t 1)), oa 6 (.alloc [(.int .i64 (0)), (.int .i64 (0))]), oa 7 (.mov (ai 0))] (kp 61 [0,2,4,6]))
  (.seq (.seq (.region [oa 10 (.mov (.t 0)), oa 11 (.call 87 [(.t 10)])] (kp 61 [0,2,4,6,11]))
  (.cond (.t 11)
  (.seq (.region [oa 12 (.build [(.int .i64 (0)), (.int .i64 (0))] []), ob (.store 2 (.t 6) (.t 12)), oa 7 (.mov (ai 6))] (kp 61 [6,7]))
  (sr 61 [6,7]))
  (sk 61 [0,2,4,6])))
  (.seq (.seq (.region [oa 13 (.fieldAddr 1 (.t 4)), oa 14 (.load none (.t 13)), oa 15 (.bin .lss (.t 14) (ai 1))] (kp 61 [0,2,4,6,15]))
  (.cond (.t 15)
  (.seq (.region [oa 16 (.build [(.int .i64 (0)), (.int .i64 (0))] []), ob (.store 2 (.t 6) (.t 16)), oa 7 (.mov (ai 2))] (kp 61 [6,7]))
  (sr 61 [6,7]))
  (sk 61 [0,2,4,6])))
  (.seq (.region [oa 18 (.mov (.t 0)), oa 19 (.load (some 2) (.t 4)), oa 20 (.call 103 [(.t 18), (.t 19)]), oa 17 (.mov (.t 20)), oa 21 (.extract (.t 17) 0), oa 22 (.extract (.t 17) 1), oa 8 (.mov (.t 21)), oa 9 (.mov (.t 22))] (kp 61 [0,2,6,8,9]))
  (.seq (.seq (.region [oa 23 (.mov (.t 8)), oa 24 (.bin .lss (.t 23) (ai 0))] (kp 61 [0,2,6,8,9,24]))
  (.cond (.t 24)
  (.seq (.region [oa 25 (.build [(.int .i64 (0)), (.int .i64 (0))] []), ob (.store 2 (.t 6) (.t 25)), oa 7 (.mov (ai 80))] (kp 61 [6,7]))
  (sr 61 [6,7]))
  (sk 61 [0,2,6,8,9])))
  (.seq (.seq (.region [oa 26 (.mov (.t 2)), oa 27 (.bin .lss (.t 26) (ai 0)), oa 28 (.mov (.t 27)), oc 29 (.mov (.t 2)) 28 ff, oc 30 (.mov (.t 0)) 28 ff, oc 31 (.nilCheck (.t 30)) 28 ff, oc 32 (.fieldAddr 1 (.t 31)) 28 ff, oc 33 (.load none (.t 32)) 28 ff, oc 34 (.mov (.t 8)) 28 ff, oc 35 (.indexAddr 5 (.t 33) (.t 34)) 28 ff, oc 36 (.fieldAddr 4 (.t 35)) 28 ff, oc 37 (.load none (.t 36)) 28 ff, oc 38 (.mov (.t 9)) 28 ff, oc 39 (.indexAddr 3 (.t 37) (.t 38)) 28 ff, oc 40 (.fieldAddr 2 (.t 39)) 28 ff, oc 41 (.load none (.t 40)) 28 ff, oc 42 (.lenSlice (.t 41)) 28 ff, oc 43 (.bin .geq (.t 29) (.t 42)) 28 ff, oa 44 (.pick (.t 28) (.c (.bool true)) (.t 43))] (kp 61 [0,2,6,8,9,44]))
  (.cond (.t 44)
  (.seq (.region [oa 45 (.build [(.int .i64 (0)), (.int .i64 (0))] []), ob (.store 2 (.t 6) (.t 45)), oa 7 (.mov (ai 2))] (kp 61 [6,7]))
  (sr 61 [6,7]))
  (sk 61 [0,2,6,8,9])))
  (.seq (.region [oa 46 (.mov (.t 0)), oa 47 (.nilCheck (.t 46)), oa 48 (.fieldAddr 1 (.t 47)), oa 49 (.load none (.t 48)), oa 50 (.mov (.t 8)), oa 51 (.indexAddr 5 (.t 49) (.t 50)), oa 52 (.fieldAddr 4 (.t 51)), oa 53 (.load none (.t 52)), oa 54 (.mov (.t 9)), oa 55 (.indexAddr 3 (.t 53) (.t 54)), oa 56 (.fieldAddr 2 (.t 55)), oa 57 (.load none (.t 56)), oa 58 (.mov (.t 2)), oa 59 (.indexAddr 2 (.t 57) (.t 58)), oa 60 (.load (some 2) (.t 59)), ob (.store 2 (.t 6) (.t 60)), oa 7 (.mov (ai 0))] (kp 61 [6,7]))
  (sr 61 [6,7]))))))))⟩
theorem F68 : shutF Try.prog 68 = some c68 := by kernel_rfl

-- (*virgate/virgateref15.Heap).Head

def c69 : IFn := ⟨47, [(4, none), (5, none), (6, none)],
  (.seq (.region [oa 3 (.box (.t 1)), oa 4 (.mov (ai 0)), oa 5 (.mov (ai 0)), oa 6 (.mov (ai 0))] (kp 47 [0,3]))
  (.seq (.seq (.region [oa 9 (.mov (.t 0)), oa 10 (.call 87 [(.t 9)])] (kp 47 [0,3,10]))
  (.cond (.t 10)
  (.seq (.region [oa 4 (.mov (ai 0)), oa 5 (.mov (ai 0)), oa 6 (.mov (ai 6))] (kp 47 [4,5,6]))
  (sr 47 [4,5,6]))
  (sk 47 [0,3])))
  (.seq (.seq (.region [oa 11 (.fieldAddr 1 (.t 3)), oa 12 (.load none (.t 11)), oa 13 (.bin .lss (.t 12) (ai 1))] (kp 47 [0,3,13]))
  (.cond (.t 13)
  (.seq (.region [oa 4 (.mov (ai 0)), oa 5 (.mov (ai 0)), oa 6 (.mov (ai 2))] (kp 47 [4,5,6]))
  (sr 47 [4,5,6]))
  (sk 47 [0,3])))
  (.seq (.region [oa 15 (.mov (.t 0)), oa 16 (.load (some 2) (.t 3)), oa 17 (.call 103 [(.t 15), (.t 16)]), oa 14 (.mov (.t 17)), oa 18 (.extract (.t 14) 0), oa 19 (.extract (.t 14) 1), oa 7 (.mov (.t 18)), oa 8 (.mov (.t 19))] (kp 47 [0,7,8]))
  (.seq (.seq (.region [oa 20 (.mov (.t 7)), oa 21 (.bin .lss (.t 20) (ai 0))] (kp 47 [0,7,8,21]))
  (.cond (.t 21)
  (.seq (.region [oa 4 (.mov (ai 0)), oa 5 (.mov (ai 0)), oa 6 (.mov (ai 80))] (kp 47 [4,5,6]))
  (sr 47 [4,5,6]))
  (sk 47 [0,7,8])))
  (.seq (.region [oa 22 (.mov (.t 0)), oa 23 (.nilCheck (.t 22)), oa 24 (.fieldAddr 1 (.t 23)), oa 25 (.load none (.t 24)), oa 26 (.mov (.t 7)), oa 27 (.indexAddr 5 (.t 25) (.t 26)), oa 28 (.fieldAddr 4 (.t 27)), oa 29 (.load none (.t 28)), oa 30 (.mov (.t 8)), oa 31 (.indexAddr 3 (.t 29) (.t 30)), oa 32 (.fieldAddr 1 (.t 31)), oa 33 (.load none (.t 32)), oa 34 (.mov (.t 0)), oa 35 (.nilCheck (.t 34)), oa 36 (.fieldAddr 1 (.t 35)), oa 37 (.load none (.t 36)), oa 38 (.mov (.t 7)), oa 39 (.indexAddr 5 (.t 37) (.t 38)), oa 40 (.fieldAddr 4 (.t 39)), oa 41 (.load none (.t 40)), oa 42 (.mov (.t 8)), oa 43 (.indexAddr 3 (.t 41) (.t 42)), oa 44 (.fieldAddr 2 (.t 43)), oa 45 (.load none (.t 44)), oa 46 (.lenSlice (.t 45)), oa 4 (.mov (.t 33)), oa 5 (.mov (.t 46)), oa 6 (.mov (ai 0))] (kp 47 [4,5,6]))
  (sr 47 [4,5,6])))))))⟩
theorem F69 : shutF Try.prog 69 = some c69 := by kernel_rfl


theorem RHeap.rv_one (h : RHeap) : h.rv.one = true := by unfold RHeap.rv; split; exact rowV_one _ _; rfl
theorem RHeap.rv_cells (h : RHeap) : h.rv.cells = [h.rv] := by unfold RHeap.rv; split; exact rowV_cells _ _; rfl
theorem RHeap.rv_len (h : RHeap) : lenV h.rv = some (.int .i64 h.regs.length) := by unfold RHeap.rv; split; exact rowV_len _ _; rfl
theorem RReg.enc_len (r : RReg) : r.enc.length = 5 := rfl
theorem RReg.enc_one (r : RReg) : r.enc.all V.one = true := by simp only [RReg.enc, List.all_cons, List.all_nil, rowV_one, one_int, Bool.and_true]
theorem RObj.enc_len (r : RObj) : r.enc.length = 3 := rfl
theorem RObj.enc_one (r : RObj) : r.enc.all V.one = true := rfl

/-- What is read of a region. -/
theorem rreg {h : RHeap} {i : Nat} {g : RReg} (hg : h.regs[i]? = some g) :
    (ixV 5 h.rv (.int .i64 (i : Int)) = some (.ptr (some ⟨.new h.rowk, i * 5⟩))) ∧ (ldC (i * 5) (some h.row) = some (I g.size)) ∧ (ldC (i * 5 + 1) (some h.row) = some (I g.life)) ∧ (ldC (i * 5 + 2) (some h.row) = some (rowV g.pgk g.pages.length)) ∧
    (ldC (i * 5 + 3) (some h.row) = some (I g.fill)) ∧ (ldC (i * 5 + 4) (some h.row) = some (rowV g.obk g.objs.length)) ∧ (ldN 5 (i * 5) (some h.row) = some (.agg g.enc)) := by
  have hi : i < h.regs.length := (List.getElem?_eq_some_iff.1 hg).1
  have t := fun f (hf : f < 5) => tab_get (enc := RReg.enc) (sz := 5) RReg.enc_len h.regs h.sl hg hf
  refine ⟨?_, ?_, ?_, ?_, ?_, ?_, ?_⟩
  · unfold RHeap.rv
    split
    · exact ix_row hi
    · rw [ix_cell hi, Nat.zero_add]
  · exact t 0 (by omega)
  · exact t 1 (by omega)
  · exact t 2 (by omega)
  · exact t 3 (by omega)
  · exact t 4 (by omega)
  · unfold RHeap.row; rw [ldN_some, tab_cut RReg.enc_len h.regs h.sl hg]; rfl

/-- What is read of an object. -/
theorem robj {l : List RObj} {j : Nat} {x : RObj} (hx : l[j]? = some x) :
    (ldC (j * 3) (some (.cells (l.flatMap RObj.enc) (some 3))) = some (I x.b.at_)) ∧ (ldC (j * 3 + 1) (some (.cells (l.flatMap RObj.enc) (some 3))) = some (I x.b.kind)) ∧ (ldC (j * 3 + 2) (some (.cells (l.flatMap RObj.enc) (some 3))) = some (slN x.wid x.b.ws.length)) ∧
    (ldN 3 (j * 3) (some (.cells (l.flatMap RObj.enc) (some 3))) = some (.agg x.enc)) := by
  have t := fun f (hf : f < 3) => tab_get (enc := RObj.enc) (sz := 3) RObj.enc_len l [] hx hf
  simp only [List.append_nil] at t
  exact ⟨t 0 (by omega), t 1 (by omega), t 2 (by omega), ldN_tab RObj.enc_len l (some 3) hx⟩

section
variable {o : Nat → Option O} {s : St} {C F : Ch} {Q : V → St → Prop}
set_option maxRecDepth 10000

/-- What a heap has, in a list of chunks. -/
structure RIn (C : Ch) (p : Nat) (hr : RHeap) : Prop where
  sub : ∀ x ∈ hr.ch p, x ∈ C
theorem RIn.id {hr : RHeap} {p : Nat} (h : RIn C p hr) : (hr.id, some (hr.hd p)) ∈ C := h.sub _ (List.mem_cons_self ..)
theorem RIn.row {hr : RHeap} {p : Nat} (h : RIn C p hr) : (hr.rowk, some hr.row) ∈ C := h.sub _ (List.mem_cons_of_mem _ (List.mem_cons_self ..))
theorem RIn.reg {hr : RHeap} {p : Nat} (h : RIn C p hr) {g : RReg} (m : g ∈ hr.regs) {x : Nat × Option O} (hx : x ∈ g.ch) : x ∈ C := h.sub _ (List.mem_cons_of_mem _ (List.mem_cons_of_mem _ (List.mem_flatMap.2 ⟨g, m, hx⟩)))
theorem RIn.pg {hr : RHeap} {p : Nat} (h : RIn C p hr) {g : RReg} (m : g ∈ hr.regs) : (g.pgk, pagesO g.pages) ∈ C := h.reg m (List.mem_cons_self ..)
theorem RIn.ob {hr : RHeap} {p : Nat} (h : RIn C p hr) {g : RReg} (m : g ∈ hr.regs) : (g.obk, RReg.obO g.objs) ∈ C := h.reg m (by simp [RReg.ch])
theorem RIn.w {hr : RHeap} {p : Nat} (h : RIn C p hr) {g : RReg} (m : g ∈ hr.regs) {x : RObj} (mx : x ∈ g.objs) : (x.wid, some (.cells (x.b.ws.flatMap encW) none)) ∈ C := h.reg m (by simp [RReg.ch, RObj.ch]; exact .inr (.inr ⟨x, mx, rfl, rfl⟩))
theorem RIn.mono {D : Ch} {hr : RHeap} {p : Nat} (h : RIn C p hr) (hs : ∀ x ∈ C, x ∈ D) : RIn D p hr := ⟨fun x hx => hs x (h.sub x hx)⟩
theorem RIn.cons {hr : RHeap} {p : Nat} (h : RIn C p hr) (x : Nat × Option O) : RIn (x :: C) p hr := h.mono fun _ h => List.mem_cons_of_mem _ h

/-- A heap that is none. -/
def RGone (C : Ch) (hv : V) : Prop := hv = .ptr none ∨ ∃ h c d, hv = ptrN h ∧ (h, some (.cells [c, .slice none 0 (some 0), d] none)) ∈ C
theorem RGone.mono {D : Ch} {hv : V} (h : RGone C hv) (hs : ∀ x ∈ C, x ∈ D) : RGone D hv := by
  rcases h with h | ⟨k, c, d, h, m⟩
  · exact .inl h
  · exact .inr ⟨k, c, d, h, hs _ m⟩
theorem s87_gone (hC : Holds o s C) {hv : V} (g : RGone C hv) : call PF 87 [hv] s = some (.bool true, s) := by
  rcases g with rfl | ⟨k, c, d, rfl, m⟩
  · rw [call_run F87]; simp -implicitDefEqProofs only [↓GP, GB, GL, Nat.reduceAdd, Nat.reduceSub, Nat.reduceEqDiff, Nat.reduceMul, Nat.reduceLeDiff, Int.reduceBNe, Int.reduceBEq, Nat.reduceLT, reduceCtorEq, c87]
  · have f := hC.mem m
    rw [call_run F87]; simp -implicitDefEqProofs only [↓GP, GB, GL, Nat.reduceAdd, Nat.reduceSub, Nat.reduceEqDiff, Nat.reduceMul, Nat.reduceLeDiff, Int.reduceBNe, Int.reduceBEq, Nat.reduceLT, reduceCtorEq, c87, f, Int.natCast_zero]
theorem s87 (hC : Holds o s C) {hr : RHeap} {p : Nat} (hin : RIn C p hr) (h0 : hr.regs ≠ []) : call PF 87 [ptrN hr.id] s = some (.bool false, s) := by
  have f := hC.mem hin.id
  simp only [RHeap.hd] at f
  have hb : ((hr.regs.length : Int) == 0) = false := by rw [beq_eq_false_iff_ne]; have := List.length_pos_iff.2 h0; omega
  rw [call_run F87]; simp -implicitDefEqProofs only [↓GP, GB, GL, Nat.reduceAdd, Nat.reduceSub, Nat.reduceEqDiff, Nat.reduceMul, Nat.reduceLeDiff, Int.reduceBNe, Int.reduceBEq, Nat.reduceLT, reduceCtorEq, c87, f, hr.rv_len, hb]
theorem s106 (hC : Holds o s C) {hr : RHeap} {p : Nat} (hin : RIn C p hr) (n : Int) : call PF 106 [ptrN hr.id, I n] s = some (.bool (decide (0 ≤ n) && decide (n < hr.regs.length)), s) := by
  have f := hC.mem hin.id
  simp only [RHeap.hd] at f
  by_cases h : (n ≥ 0)
  · have h' : (0 ≤ n) := h
    rw [call_run F106]; simp -implicitDefEqProofs only [↓GP, GB, GL, Nat.reduceAdd, Nat.reduceSub, Nat.reduceEqDiff, Nat.reduceMul, Nat.reduceLeDiff, Int.reduceBNe, Int.reduceBEq, Nat.reduceLT, reduceCtorEq, c106, f, hr.rv_len, h, h']
  · have h' : ¬ (0 ≤ n) := h
    rw [call_run F106]; simp -implicitDefEqProofs only [↓GP, GB, GL, Nat.reduceAdd, Nat.reduceSub, Nat.reduceEqDiff, Nat.reduceMul, Nat.reduceLeDiff, Int.reduceBNe, Int.reduceBEq, Nat.reduceLT, reduceCtorEq, c106, f, hr.rv_len, h, h']

/-- When a region is asked for and is not: the error. -/
def RAtErr (C : Ch) (hv : V) (n err : Int) : Prop := (RGone C hv ∧ err = 6) ∨ (err = 2 ∧ ∃ hr : RHeap, ∃ p, hv = ptrN hr.id ∧ RIn C p hr ∧ hr.regs ≠ [] ∧ ¬ (0 ≤ n ∧ n < hr.regs.length))
theorem RAtErr.ne {hv : V} {n err : Int} (h : RAtErr C hv n err) : err = 6 ∨ err = 2 := by
  rcases h with ⟨_, h⟩ | ⟨h, _⟩
  · exact .inl h
  · exact .inr h
theorem is_false {n : Int} {m : Nat} (h : ¬ (0 ≤ n ∧ n < m)) : (decide (0 ≤ n) && decide (n < m)) = false := by
  rw [Bool.and_eq_false_iff, decide_eq_false_iff_not, decide_eq_false_iff_not]; omega
theorem is_true {i m : Nat} (h : i < m) : (decide (0 ≤ (i : Int)) && decide ((i : Int) < (m : Int))) = true := by
  rw [Bool.and_eq_true, decide_eq_true_eq, decide_eq_true_eq]; omega
theorem s113_err (hC : Holds o s C) {hv : V} {n err : Int} (e : RAtErr C hv n err) : call PF 113 [hv, I n] s = some (I err, s) := by
  rcases e with ⟨g, rfl⟩ | ⟨rfl, hr, p, rfl, hin, h0, hb⟩
  · have e := s87_gone hC g
    rw [call_run F113]; simp -implicitDefEqProofs only [↓GP, GB, GL, Nat.reduceAdd, Nat.reduceSub, Nat.reduceEqDiff, Nat.reduceMul, Nat.reduceLeDiff, Int.reduceBNe, Int.reduceBEq, Nat.reduceLT, reduceCtorEq, c113, e]
  · have e := s87 hC hin h0
    have e2 := s106 hC hin n
    rw [is_false hb] at e2
    rw [call_run F113]; simp -implicitDefEqProofs only [↓GP, GB, GL, Nat.reduceAdd, Nat.reduceSub, Nat.reduceEqDiff, Nat.reduceMul, Nat.reduceLeDiff, Int.reduceBNe, Int.reduceBEq, Nat.reduceLT, reduceCtorEq, c113, e, e2]
theorem s113 (hC : Holds o s C) {hr : RHeap} {p i : Nat} (hin : RIn C p hr) (hi : i < hr.regs.length) : call PF 113 [ptrN hr.id, I i] s = some (I 0, s) := by
  have e := s87 hC hin (List.length_pos_iff.1 (by omega))
  have e2 := s106 hC hin i
  rw [is_true hi] at e2
  rw [call_run F113]; simp -implicitDefEqProofs only [↓GP, GB, GL, Nat.reduceAdd, Nat.reduceSub, Nat.reduceEqDiff, Nat.reduceMul, Nat.reduceLeDiff, Int.reduceBNe, Int.reduceBEq, Nat.reduceLT, reduceCtorEq, c113, e, e2]

theorem s78_gone (hC : Holds o s C) {hv : V} (g : RGone C hv) : call PF 78 [hv] s = some (I 0, s) := by
  have e := s87_gone hC g
  rw [call_run F78]; simp -implicitDefEqProofs only [↓GP, GB, GL, Nat.reduceAdd, Nat.reduceSub, Nat.reduceEqDiff, Nat.reduceMul, Nat.reduceLeDiff, Int.reduceBNe, Int.reduceBEq, Nat.reduceLT, reduceCtorEq, c78, e]
theorem s78 (hC : Holds o s C) {hr : RHeap} {p : Nat} (hin : RIn C p hr) (h0 : hr.regs ≠ []) : call PF 78 [ptrN hr.id] s = some (I hr.regs.length, s) := by
  have e := s87 hC hin h0
  have f := hC.mem hin.id
  simp only [RHeap.hd] at f
  rw [call_run F78]; simp -implicitDefEqProofs only [↓GP, GB, GL, Nat.reduceAdd, Nat.reduceSub, Nat.reduceEqDiff, Nat.reduceMul, Nat.reduceLeDiff, Int.reduceBNe, Int.reduceBEq, Nat.reduceLT, reduceCtorEq, c78, e, f, hr.rv_len]

theorem s85_err (hC : Holds o s C) {hv : V} {n err : Int} (e : RAtErr C hv n err) : call PF 85 [hv, I n] s = some (.tuple [I 0, I err], s) := by
  have e1 := s113_err hC e
  rcases e.ne with rfl | rfl
  · rw [call_run F85]; simp -implicitDefEqProofs only [↓GP, GB, GL, Nat.reduceAdd, Nat.reduceSub, Nat.reduceEqDiff, Nat.reduceMul, Nat.reduceLeDiff, Int.reduceBNe, Int.reduceBEq, Nat.reduceLT, reduceCtorEq, c85, e1, Int.reduceBNe]
  · rw [call_run F85]; simp -implicitDefEqProofs only [↓GP, GB, GL, Nat.reduceAdd, Nat.reduceSub, Nat.reduceEqDiff, Nat.reduceMul, Nat.reduceLeDiff, Int.reduceBNe, Int.reduceBEq, Nat.reduceLT, reduceCtorEq, c85, e1, Int.reduceBNe]
theorem s85 (hC : Holds o s C) {hr : RHeap} {p i : Nat} (hin : RIn C p hr) {g : RReg} (hg : hr.regs[i]? = some g) : call PF 85 [ptrN hr.id, I i] s = some (.tuple [I g.life, I 0], s) := by
  have e1 := s113 hC hin (List.getElem?_eq_some_iff.1 hg).1
  have f := hC.mem hin.id
  have fr := hC.mem hin.row
  simp only [RHeap.hd] at f
  rw [call_run F85]; simp -implicitDefEqProofs only [↓GP, GB, GL, Nat.reduceAdd, Nat.reduceSub, Nat.reduceEqDiff, Nat.reduceMul, Nat.reduceLeDiff, Int.reduceBNe, Int.reduceBEq, Nat.reduceLT, reduceCtorEq, c85, e1, f, fr, rreg hg, Int.reduceBNe]

theorem s80_err (hC : Holds o s C) {hv : V} {n err : Int} (e : RAtErr C hv n err) : call PF 80 [hv, I n] s = some (.tuple [.slice none 0 (some 0), I err], s) := by
  have e1 := s113_err hC e
  rcases e.ne with rfl | rfl
  · rw [call_run F80]; simp -implicitDefEqProofs only [↓GP, GB, GL, Nat.reduceAdd, Nat.reduceSub, Nat.reduceEqDiff, Nat.reduceMul, Nat.reduceLeDiff, Int.reduceBNe, Int.reduceBEq, Nat.reduceLT, reduceCtorEq, c80, e1, Int.reduceBNe]
  · rw [call_run F80]; simp -implicitDefEqProofs only [↓GP, GB, GL, Nat.reduceAdd, Nat.reduceSub, Nat.reduceEqDiff, Nat.reduceMul, Nat.reduceLeDiff, Int.reduceBNe, Int.reduceBEq, Nat.reduceLT, reduceCtorEq, c80, e1, Int.reduceBNe]
/-- A copy of pages. -/
def pagesV (k k0 n : Nat) : V := if n = 0 then .slice (some ⟨.new k0, 0⟩) 0 (some 0) else rowV k n
theorem s80 (hC : Holds o s C) {hr : RHeap} {p i : Nat} (hin : RIn C p hr) {g : RReg} (hg : hr.regs[i]? = some g) (hpl : g.pages.length ≤ 400)
    (q : ∀ s' k k0, Holds o s' ((k, pagesO g.pages) :: C) → Q (.tuple [pagesV k k0 g.pages.length, I 0]) s') : WP (call PF 80 [ptrN hr.id, I i] s) Q := by
  have e1 := s113 hC hin (List.getElem?_eq_some_iff.1 hg).1
  have f := hC.mem hin.id
  have fr := hC.mem hin.row
  have mg := List.mem_of_getElem? hg
  have mp := hin.pg mg
  simp only [RHeap.hd] at f
  rw [call_run F80]; simp -implicitDefEqProofs only [↓GP, GB, GL, Nat.reduceAdd, Nat.reduceSub, Nat.reduceEqDiff, Nat.reduceMul, Nat.reduceLeDiff, Int.reduceBNe, Int.reduceBEq, Nat.reduceLT, reduceCtorEq, c80, e1, f, fr, rreg hg, Int.reduceBNe]
  have h1 := hC.alloc (.cells [] none)
  by_cases h0 : g.pages.length = 0
  · rw [h0]
    refine wp_append00 rfl ?_
    simp -implicitDefEqProofs only [↓GP, GB, GL, Nat.reduceAdd, Nat.reduceSub, Nat.reduceEqDiff, Nat.reduceMul, Nat.reduceLeDiff, Int.reduceBNe, Int.reduceBEq, Nat.reduceLT, reduceCtorEq]
    have := q (s.alloc (.cells [] none)) 0 s.next (by rw [List.length_eq_zero_iff.1 h0]; exact h1.tl.nilEntry 0)
    rw [h0] at this
    exact this
  · rw [pagesO, rowO_pos (by omega)] at mp
    refine wp_append0 (sz := 1) h1 (new_row (.inr (h1.mem (List.mem_cons_of_mem _ mp)).1) (by simp)) (by omega) (by omega) (by unfold maxRow; omega) (by unfold maxRow; omega) fun k' s1 h2 => ?_
    simp -implicitDefEqProofs only [↓GP, GB, GL, Nat.reduceAdd, Nat.reduceSub, Nat.reduceEqDiff, Nat.reduceMul, Nat.reduceLeDiff, Int.reduceBNe, Int.reduceBEq, Nat.reduceLT, reduceCtorEq]
    have := q s1 k' 0 (by rw [pagesO, rowO_pos (by omega)]; exact h2)
    rw [pagesV, if_neg h0] at this
    exact this

def rencP (life : Nat) (x : RObj) : List V := [I x.b.at_, I life]
theorem objectsOf_loop {hr : RHeap} {p i : Nat} {g : RReg}  {K : Kt} (hin : RIn C p hr) (hg : hr.regs[i]? = some g) (hl : g.objs.length ≤ 100000) :
    ∀ (m j k : Nat) (s : St), j + m = g.objs.length → Holds o s ((k, rowO 2 j ((g.objs.take j).flatMap (rencP g.life))) :: C) →
    (∀ s' k', Holds o s' ((k', rowO 2 g.objs.length (g.objs.flatMap (rencP g.life))) :: C) → WP (K (.exit 0) (sp 53 [(7, rowV k' g.objs.length)]) s') Q) →
    WP (loop PF (.loop l81_0) (sp 53 [(0, ptrN hr.id), (1, I i), (7, rowV k j), (8, I j)]) s K) Q
  | 0, j, k, s, hj, H, q => by
    have hlt : ¬ ((j : Int) < (g.objs.length : Int)) := by omega
    have f := H.mem (List.mem_cons_of_mem _ hin.id)
    have fr := H.mem (List.mem_cons_of_mem _ hin.row)
    simp only [RHeap.hd] at f
    refine wp_round fun LL hLL => ?_
    simp -implicitDefEqProofs only [↓GP, GB, GL, Nat.reduceAdd, Nat.reduceSub, Nat.reduceEqDiff, Nat.reduceMul, Nat.reduceLeDiff, Int.reduceBNe, Int.reduceBEq, Nat.reduceLT, reduceCtorEq, l81_0, hlt, f, fr, rreg hg]
    have e : j = g.objs.length := by omega
    subst e
    rw [List.take_length] at H
    exact q s k H
  | m + 1, j, k, s, hj, H, q => by
    have hlt : ((j : Int) < (g.objs.length : Int)) := by omega
    have hj' : j < g.objs.length := by omega
    have f := H.mem (List.mem_cons_of_mem _ hin.id)
    have fr := H.mem (List.mem_cons_of_mem _ hin.row)
    simp only [RHeap.hd] at f
    have mg := List.mem_of_getElem? hg
    have mo := hin.ob mg
    unfold RReg.obO at mo
    rw [rowO_pos (by omega)] at mo
    have fo := H.mem (List.mem_cons_of_mem _ mo)
    have hx : g.objs[j]? = some g.objs[j] := by simp [hj']
    refine wp_round fun LL hLL => ?_
    simp -implicitDefEqProofs only [↓GP, GB, GL, Nat.reduceAdd, Nat.reduceSub, Nat.reduceEqDiff, Nat.reduceMul, Nat.reduceLeDiff, Int.reduceBNe, Int.reduceBEq, Nat.reduceLT, reduceCtorEq, l81_0, hlt, f, fr, fo, rreg hg, robj hx, ix_row hj']
    refine wp_append (cs := (g.objs.take j).flatMap (rencP g.life)) ((H.alloc _).r1) (by rw [tab_len (sz := 2) (fun _ => rfl)]; simp; omega) (new_cells' (alloc_new_same _ _) rfl) rfl rfl (by omega) (by unfold maxRow; omega) (by unfold maxRow; omega) fun k' s1 h1 => ?_
    have hw := wrap_add1 (a := j) (by omega)
    simp -implicitDefEqProofs only [↓GP, GB, GL, Nat.reduceAdd, Nat.reduceSub, Nat.reduceEqDiff, Nat.reduceMul, Nat.reduceLeDiff, Int.reduceBNe, Int.reduceBEq, Nat.reduceLT, reduceCtorEq, hw]
    rw [hLL]
    refine objectsOf_loop hin hg hl m (j + 1) k' s1 (by omega) ?_ q
    have e : (g.objs.take (j + 1)).flatMap (rencP g.life) = (g.objs.take j).flatMap (rencP g.life) ++ [I g.objs[j].b.at_, I g.life] := by
      rw [List.take_succ_eq_append_getElem hj', List.flatMap_append]; simp [rencP]
    rw [e]
    exact h1.r1.tl

theorem s81_err (hC : Holds o s C) {hv : V} {n err : Int} (e : RAtErr C hv n err) : call PF 81 [hv, I n] s = some (.tuple [.slice none 0 (some 0), I err], s) := by
  have e1 := s113_err hC e
  rcases e.ne with rfl | rfl
  · rw [call_run F81]; simp -implicitDefEqProofs only [↓GP, GB, GL, Nat.reduceAdd, Nat.reduceSub, Nat.reduceEqDiff, Nat.reduceMul, Nat.reduceLeDiff, Int.reduceBNe, Int.reduceBEq, Nat.reduceLT, reduceCtorEq, c81, e1, Int.reduceBNe]
  · rw [call_run F81]; simp -implicitDefEqProofs only [↓GP, GB, GL, Nat.reduceAdd, Nat.reduceSub, Nat.reduceEqDiff, Nat.reduceMul, Nat.reduceLeDiff, Int.reduceBNe, Int.reduceBEq, Nat.reduceLT, reduceCtorEq, c81, e1, Int.reduceBNe]
theorem s81 (hC : Holds o s C) {hr : RHeap} {p i : Nat} (hin : RIn C p hr) {g : RReg} (hg : hr.regs[i]? = some g) (hl : g.objs.length ≤ 100000)
    (q : ∀ s' k, Holds o s' ((k, rowO 2 g.objs.length (g.objs.flatMap (rencP g.life))) :: C) → Q (.tuple [rowV k g.objs.length, I 0]) s') : WP (call PF 81 [ptrN hr.id, I i] s) Q := by
  have e1 := s113 hC hin (List.getElem?_eq_some_iff.1 hg).1
  rw [call_run F81]; simp -implicitDefEqProofs only [↓GP, GB, GL, Nat.reduceAdd, Nat.reduceSub, Nat.reduceEqDiff, Nat.reduceMul, Nat.reduceLeDiff, Int.reduceBNe, Int.reduceBEq, Nat.reduceLT, reduceCtorEq, c81, e1, Int.reduceBNe]
  refine objectsOf_loop hin hg hl g.objs.length 0 0 s (by omega) (by simpa using hC.nilEntry 0) fun s1 k h1 => ?_
  simp -implicitDefEqProofs only [↓GP, GB, GL, Nat.reduceAdd, Nat.reduceSub, Nat.reduceEqDiff, Nat.reduceMul, Nat.reduceLeDiff, Int.reduceBNe, Int.reduceBEq, Nat.reduceLT, reduceCtorEq]
  exact q s1 k h1

theorem wordsOf_loop {hr : RHeap} {p i : Nat} {g : RReg}  {K : Kt} (hC : Holds o s C) (hin : RIn C p hr) (hg : hr.regs[i]? = some g) (hl : g.objs.length ≤ 100000) (hw : ∀ x ∈ g.objs, x.b.ws.length ≤ 31) :
    ∀ (m j c : Nat), j + m = g.objs.length → c ≤ 32 * j →
    loop PF (.loop l84_0) (sp 45 [(0, ptrN hr.id), (1, I i), (7, I c), (8, I j)]) s K = K (.exit 0) (sp 45 [(7, I (c + wordsM ((g.objs.drop j).map (·.b)) : Nat))]) s
  | 0, j, c, hj, hc => by
    have hlt : ¬ ((j : Int) < (g.objs.length : Int)) := by omega
    have f := hC.mem hin.id
    have fr := hC.mem hin.row
    simp only [RHeap.hd] at f
    refine round fun LL hLL => ?_
    simp -implicitDefEqProofs only [↓GP, GB, GL, Nat.reduceAdd, Nat.reduceSub, Nat.reduceEqDiff, Nat.reduceMul, Nat.reduceLeDiff, Int.reduceBNe, Int.reduceBEq, Nat.reduceLT, reduceCtorEq, l84_0, hlt, f, fr, rreg hg]
    rw [List.drop_eq_nil_of_le (by omega)]
    rfl
  | m + 1, j, c, hj, hc => by
    have hlt : ((j : Int) < (g.objs.length : Int)) := by omega
    have hj' : j < g.objs.length := by omega
    have f := hC.mem hin.id
    have fr := hC.mem hin.row
    simp only [RHeap.hd] at f
    have mg := List.mem_of_getElem? hg
    have mo := hin.ob mg
    unfold RReg.obO at mo
    rw [rowO_pos (by omega)] at mo
    have fo := hC.mem mo
    have hx : g.objs[j]? = some g.objs[j] := by simp [hj']
    have hwj := hw g.objs[j] (List.getElem_mem hj')
    have w1 := wrap_add1 (a := c) (by omega)
    have w2 : wrapI .i64 (((c + 1 : Nat) : Int) + (g.objs[j].b.ws.length : Int)) = I ((c + 1 + g.objs[j].b.ws.length : Nat) : Int) := wrap_add (by omega) (by omega)
    have w3 := wrap_add1 (a := j) (by omega)
    refine round fun LL hLL => ?_
    simp -implicitDefEqProofs only [↓GP, GB, GL, Nat.reduceAdd, Nat.reduceSub, Nat.reduceEqDiff, Nat.reduceMul, Nat.reduceLeDiff, Int.reduceBNe, Int.reduceBEq, Nat.reduceLT, reduceCtorEq, l84_0, hlt, f, fr, fo, rreg hg, robj hx, ix_row hj', w1, w2, w3]
    rw [hLL, wordsOf_loop hC hin hg hl hw m (j + 1) _ (by omega) (by omega)]
    have e : wordsM ((g.objs.drop j).map (·.b)) = (g.objs[j].b.ws.length + 1) + wordsM ((g.objs.drop (j + 1)).map (·.b)) := by
      rw [List.drop_eq_getElem_cons hj']; simp only [wordsM, List.map_cons, List.sum_cons]
    rw [e, show c + (1 + g.objs[j].b.ws.length) + wordsM ((g.objs.drop (j + 1)).map (·.b)) = c + (g.objs[j].b.ws.length + 1 + wordsM ((g.objs.drop (j + 1)).map (·.b))) by omega]

theorem s84_err (hC : Holds o s C) {hv : V} {n err : Int} (e : RAtErr C hv n err) : call PF 84 [hv, I n] s = some (.tuple [I 0, I err], s) := by
  have e1 := s113_err hC e
  rcases e.ne with rfl | rfl
  · rw [call_run F84]; simp -implicitDefEqProofs only [↓GP, GB, GL, Nat.reduceAdd, Nat.reduceSub, Nat.reduceEqDiff, Nat.reduceMul, Nat.reduceLeDiff, Int.reduceBNe, Int.reduceBEq, Nat.reduceLT, reduceCtorEq, c84, e1, Int.reduceBNe]
  · rw [call_run F84]; simp -implicitDefEqProofs only [↓GP, GB, GL, Nat.reduceAdd, Nat.reduceSub, Nat.reduceEqDiff, Nat.reduceMul, Nat.reduceLeDiff, Int.reduceBNe, Int.reduceBEq, Nat.reduceLT, reduceCtorEq, c84, e1, Int.reduceBNe]
theorem s84 (hC : Holds o s C) {hr : RHeap} {p i : Nat} (hin : RIn C p hr) {g : RReg} (hg : hr.regs[i]? = some g) (hl : g.objs.length ≤ 100000) (hw : ∀ x ∈ g.objs, x.b.ws.length ≤ 31) : call PF 84 [ptrN hr.id, I i] s = some (.tuple [I (wordsM g.m.objs), I 0], s) := by
  have e1 := s113 hC hin (List.getElem?_eq_some_iff.1 hg).1
  have e := fun K => wordsOf_loop (K := K) hC hin hg hl hw g.objs.length 0 0 (by omega) (by omega)
  simp only [Nat.zero_add, List.drop_zero, Int.natCast_zero] at e
  rw [call_run F84]; simp -implicitDefEqProofs only [↓GP, GB, GL, Nat.reduceAdd, Nat.reduceSub, Nat.reduceEqDiff, Nat.reduceMul, Nat.reduceLeDiff, Int.reduceBNe, Int.reduceBEq, Nat.reduceLT, reduceCtorEq, c84, e1, e, Int.reduceBNe]
  rfl

theorem rinUse_loop {hr : RHeap} {p : Nat}  {K : Kt} (hC : Holds o s C) (hin : RIn C p hr) (h0 : hr.regs ≠ []) (hl : hr.regs.length ≤ 100000) (hw : ∀ g ∈ hr.regs, g.pages.length ≤ 400) :
    ∀ (m i c : Nat), i + m = hr.regs.length → c ≤ 400 * i →
    loop PF (.loop l79_0) (sp 31 [(0, ptrN hr.id), (3, I c), (4, I i)]) s K = K (.exit 0) (sp 31 [(3, I (c + inUseM ((hr.regs.drop i).map (·.pages)) : Nat))]) s
  | 0, i, c, hi, hc => by
    have hlt : ¬ ((i : Int) < (hr.regs.length : Int)) := by omega
    have e := s87 hC hin h0
    have f := hC.mem hin.id
    simp only [RHeap.hd] at f
    refine round fun LL hLL => ?_
    simp -implicitDefEqProofs only [↓GP, GB, GL, Nat.reduceAdd, Nat.reduceSub, Nat.reduceEqDiff, Nat.reduceMul, Nat.reduceLeDiff, Int.reduceBNe, Int.reduceBEq, Nat.reduceLT, reduceCtorEq, l79_0, hlt, e, f, hr.rv_len]
    rw [List.drop_eq_nil_of_le (by omega)]
    rfl
  | m + 1, i, c, hi, hc => by
    have hlt : ((i : Int) < (hr.regs.length : Int)) := by omega
    have hi' : i < hr.regs.length := by omega
    have e := s87 hC hin h0
    have f := hC.mem hin.id
    have fr := hC.mem hin.row
    simp only [RHeap.hd] at f
    have hg : hr.regs[i]? = some hr.regs[i] := by simp [hi']
    have hwi := hw hr.regs[i] (List.getElem_mem hi')
    have w2 : wrapI .i64 ((c : Int) + (hr.regs[i].pages.length : Int)) = I ((c + hr.regs[i].pages.length : Nat) : Int) := wrap_add (by omega) (by omega)
    have w3 := wrap_add1 (a := i) (by omega)
    refine round fun LL hLL => ?_
    simp -implicitDefEqProofs only [↓GP, GB, GL, Nat.reduceAdd, Nat.reduceSub, Nat.reduceEqDiff, Nat.reduceMul, Nat.reduceLeDiff, Int.reduceBNe, Int.reduceBEq, Nat.reduceLT, reduceCtorEq, l79_0, hlt, e, f, fr, hr.rv_len, rreg hg, w2, w3]
    rw [hLL, rinUse_loop hC hin h0 hl hw m (i + 1) _ (by omega) (by omega)]
    have e : inUseM ((hr.regs.drop i).map (·.pages)) = hr.regs[i].pages.length + inUseM ((hr.regs.drop (i + 1)).map (·.pages)) := by
      rw [List.drop_eq_getElem_cons hi']; simp only [inUseM, List.map_cons, List.sum_cons]
    rw [e, Nat.add_assoc c]
theorem s79_gone (hC : Holds o s C) {hv : V} (g : RGone C hv) : call PF 79 [hv] s = some (I 0, s) := by
  have e := s87_gone hC g
  rw [call_run F79]; simp -implicitDefEqProofs only [↓GP, GB, GL, Nat.reduceAdd, Nat.reduceSub, Nat.reduceEqDiff, Nat.reduceMul, Nat.reduceLeDiff, Int.reduceBNe, Int.reduceBEq, Nat.reduceLT, reduceCtorEq, c79]
  refine round fun LL hLL => ?_
  simp -implicitDefEqProofs only [↓GP, GB, GL, Nat.reduceAdd, Nat.reduceSub, Nat.reduceEqDiff, Nat.reduceMul, Nat.reduceLeDiff, Int.reduceBNe, Int.reduceBEq, Nat.reduceLT, reduceCtorEq, l79_0, e]
theorem s79 (hC : Holds o s C) {hr : RHeap} {p : Nat} (hin : RIn C p hr) (h0 : hr.regs ≠ []) (hl : hr.regs.length ≤ 100000) (hw : ∀ g ∈ hr.regs, g.pages.length ≤ 400) : call PF 79 [ptrN hr.id] s = some (I (inUseM (hr.regs.map (·.pages))), s) := by
  have e := fun K => rinUse_loop (K := K) hC hin h0 hl hw hr.regs.length 0 0 (by omega) (by omega)
  simp only [Nat.zero_add, List.drop_zero, Int.natCast_zero] at e
  rw [call_run F79]; simp -implicitDefEqProofs only [↓GP, GB, GL, Nat.reduceAdd, Nat.reduceSub, Nat.reduceEqDiff, Nat.reduceMul, Nat.reduceLeDiff, Int.reduceBNe, Int.reduceBEq, Nat.reduceLT, reduceCtorEq, c79, e]

/-- Where the object of an address is. -/
def rfind (N L : Int) : List RReg → Nat → Option (Nat × Nat)
  | [], _ => none
  | g :: rs, i => if (g.life : Int) = L ∧ 1 ≤ L then match g.objs.findIdx? (fun x => decide ((x.b.at_ : Int) = N)) with
    | some k => some (i, k)
    | none => rfind N L rs (i + 1)
    else rfind N L rs (i + 1)

theorem find_inner {hr : RHeap} {p i t : Nat} {g : RReg} {N L : Int} {K : Kt} (hC : Holds o s C) (hin : RIn C p hr) (hg : hr.regs[i]? = some g) (hl : g.objs.length ≤ 100000) (mt : (t, some (.cells [I N, I L] none)) ∈ C) :
    ∀ (m j : Nat), j + m = g.objs.length →
    loop PF (.loop l103_0) (sp 63 [(0, ptrN hr.id), (3, ptrN t), (6, I i), (7, I j)]) s K =
      match (g.objs.drop j).findIdx? (fun x => decide ((x.b.at_ : Int) = N)) with
      | some k => K .ret (sp 63 [(4, I i), (5, I (j + k : Nat))]) s
      | none => K (.exit 2) (sp 63 [(0, ptrN hr.id), (3, ptrN t), (6, I i)]) s
  | 0, j, hj => by
    have hlt : ¬ ((j : Int) < (g.objs.length : Int)) := by omega
    have f := hC.mem hin.id
    have fr := hC.mem hin.row
    simp only [RHeap.hd] at f
    refine round fun LL hLL => ?_
    rw [List.drop_eq_nil_of_le (by omega)]
    have e : j = g.objs.length := by omega
    simp -implicitDefEqProofs only [↓GP, GB, GL, Nat.reduceAdd, Nat.reduceSub, Nat.reduceEqDiff, Nat.reduceMul, Nat.reduceLeDiff, Int.reduceBNe, Int.reduceBEq, Nat.reduceLT, reduceCtorEq, l103_0, hlt, f, fr, rreg hg]
    rw [e]
    rfl
  | m + 1, j, hj => by
    have hlt : ((j : Int) < (g.objs.length : Int)) := by omega
    have hj' : j < g.objs.length := by omega
    have f := hC.mem hin.id
    have fr := hC.mem hin.row
    have ft := hC.mem mt
    simp only [RHeap.hd] at f
    have mg := List.mem_of_getElem? hg
    have mo := hin.ob mg
    unfold RReg.obO at mo
    rw [rowO_pos (by omega)] at mo
    have fo := hC.mem mo
    have hx : g.objs[j]? = some g.objs[j] := by simp [hj']
    have hd : g.objs.drop j = g.objs[j] :: g.objs.drop (j + 1) := List.drop_eq_getElem_cons hj'
    have w3 := wrap_add1 (a := j) (by omega)
    rw [hd, List.findIdx?_cons]
    by_cases he : (g.objs[j].b.at_ : Int) = N
    · have hb : ((g.objs[j].b.at_ : Int) == N) = true := by simpa using he
      refine round fun LL hLL => ?_
      simp -implicitDefEqProofs only [↓GP, GB, GL, Nat.reduceAdd, Nat.reduceSub, Nat.reduceEqDiff, Nat.reduceMul, Nat.reduceLeDiff, Int.reduceBNe, Int.reduceBEq, Nat.reduceLT, reduceCtorEq, l103_0, hlt, f, fr, fo, ft, rreg hg, robj hx, ix_row hj', hb, he]
    · have hb : ((g.objs[j].b.at_ : Int) == N) = false := by simpa using he
      have ih := find_inner (K := K) hC hin hg hl mt m (j + 1) (by omega)
      refine round fun LL hLL => ?_
      simp -implicitDefEqProofs only [↓GP, GB, GL, Nat.reduceAdd, Nat.reduceSub, Nat.reduceEqDiff, Nat.reduceMul, Nat.reduceLeDiff, Int.reduceBNe, Int.reduceBEq, Nat.reduceLT, reduceCtorEq, l103_0, hlt, f, fr, fo, ft, rreg hg, robj hx, ix_row hj', hb, he, w3]
      rw [hLL, ih]
      cases (g.objs.drop (j + 1)).findIdx? (fun x => decide ((x.b.at_ : Int) = N)) with
      | none => rfl
      | some k => simp only [Option.map_some]; rw [show j + 1 + k = j + (k + 1) by omega]

theorem find_loop {hr : RHeap} {p t : Nat} {N L : Int}  {K : Kt} (hC : Holds o s C) (hin : RIn C p hr) (h0 : hr.regs.length ≤ 100000) (hl : ∀ g ∈ hr.regs, g.objs.length ≤ 100000) (mt : (t, some (.cells [I N, I L] none)) ∈ C) :
    ∀ (m i : Nat), i + m = hr.regs.length →
    loop PF (.loop l103_1) (sp 63 [(0, ptrN hr.id), (3, ptrN t), (6, I i)]) s K =
      match rfind N L (hr.regs.drop i) i with
      | some (a, b) => K .ret (sp 63 [(4, I a), (5, I b)]) s
      | none => K (.exit 0) (sp 63 []) s
  | 0, i, hi => by
    have hlt : ¬ ((i : Int) < (hr.regs.length : Int)) := by omega
    have f := hC.mem hin.id
    simp only [RHeap.hd] at f
    refine round fun LL hLL => ?_
    rw [List.drop_eq_nil_of_le (by omega)]
    simp -implicitDefEqProofs only [↓GP, GB, GL, Nat.reduceAdd, Nat.reduceSub, Nat.reduceEqDiff, Nat.reduceMul, Nat.reduceLeDiff, Int.reduceBNe, Int.reduceBEq, Nat.reduceLT, reduceCtorEq, l103_1, hlt, f, hr.rv_len]
    rfl
  | m + 1, i, hi => by
    have hlt : ((i : Int) < (hr.regs.length : Int)) := by omega
    have hi' : i < hr.regs.length := by omega
    have f := hC.mem hin.id
    have fr := hC.mem hin.row
    have ft := hC.mem mt
    simp only [RHeap.hd] at f
    have hg : hr.regs[i]? = some hr.regs[i] := by simp [hi']
    have hd : hr.regs.drop i = hr.regs[i] :: hr.regs.drop (i + 1) := List.drop_eq_getElem_cons hi'
    have w3 := wrap_add1 (a := i) (by omega)
    have ih := find_loop (K := K) hC hin h0 hl mt m (i + 1) (by omega)
    rw [hd, rfind]
    refine round fun LL hLL => ?_
    by_cases hL1 : L < 1
    · rw [if_neg (by omega)]
      simp -implicitDefEqProofs only [↓GP, GB, GL, Nat.reduceAdd, Nat.reduceSub, Nat.reduceEqDiff, Nat.reduceMul, Nat.reduceLeDiff, Int.reduceBNe, Int.reduceBEq, Nat.reduceLT, reduceCtorEq, l103_1, hlt, f, fr, ft, hr.rv_len, hL1, w3]
      rw [hLL, ih]
    · by_cases hL : (hr.regs[i].life : Int) = L
      · rw [if_pos ⟨hL, by omega⟩]
        have hb : ((hr.regs[i].life : Int) != L) = false := by simpa using hL
        have e := fun K => find_inner (K := K) hC hin hg (hl _ (List.getElem_mem hi')) mt hr.regs[i].objs.length 0 (by omega)
        simp only [List.drop_zero, Nat.zero_add, Int.natCast_zero] at e
        simp -implicitDefEqProofs only [↓GP, GB, GL, Nat.reduceAdd, Nat.reduceSub, Nat.reduceEqDiff, Nat.reduceMul, Nat.reduceLeDiff, Int.reduceBNe, Int.reduceBEq, Nat.reduceLT, reduceCtorEq, l103_1, hlt, f, fr, ft, hr.rv_len, rreg hg, hL1, hb]
        rw [e]
        cases hk : hr.regs[i].objs.findIdx? (fun x => decide ((x.b.at_ : Int) = N)) with
        | some k => simp -implicitDefEqProofs only [↓GP, GB, GL, Nat.reduceAdd, Nat.reduceSub, Nat.reduceEqDiff, Nat.reduceMul, Nat.reduceLeDiff, Int.reduceBNe, Int.reduceBEq, Nat.reduceLT, reduceCtorEq]
        | none =>
          simp -implicitDefEqProofs only [↓GP, GB, GL, Nat.reduceAdd, Nat.reduceSub, Nat.reduceEqDiff, Nat.reduceMul, Nat.reduceLeDiff, Int.reduceBNe, Int.reduceBEq, Nat.reduceLT, reduceCtorEq, w3]
          rw [hLL, ih]
      · rw [if_neg (fun h => hL h.1)]
        have hb : ((hr.regs[i].life : Int) != L) = true := by simpa using hL
        simp -implicitDefEqProofs only [↓GP, GB, GL, Nat.reduceAdd, Nat.reduceSub, Nat.reduceEqDiff, Nat.reduceMul, Nat.reduceLeDiff, Int.reduceBNe, Int.reduceBEq, Nat.reduceLT, reduceCtorEq, l103_1, hlt, f, fr, ft, hr.rv_len, rreg hg, hL1, hb, w3]
        rw [hLL, ih]

theorem s103 (hC : Holds o s C) {hr : RHeap} {p : Nat} {N L : Int} (hin : RIn C p hr) (h0 : hr.regs.length ≤ 100000) (hl : ∀ g ∈ hr.regs, g.objs.length ≤ 100000)
    (q : ∀ s', Holds o s' C → Q (match rfind N L hr.regs 0 with | some (a, b) => .tuple [I a, I b] | none => .tuple [I (-1), I (-1)]) s') : WP (call PF 103 [ptrN hr.id, .agg [I N, I L]] s) Q := by
  have h1 := hC.alloc (.cells [I N, I L] none)
  have e := fun K => find_loop (K := K) h1 (hin.cons _) h0 hl (List.mem_cons_self ..) hr.regs.length 0 (by omega)
  simp only [List.drop_zero, Int.natCast_zero] at e
  rw [call_run F103]; simp -implicitDefEqProofs only [↓GP, GB, GL, Nat.reduceAdd, Nat.reduceSub, Nat.reduceEqDiff, Nat.reduceMul, Nat.reduceLeDiff, Int.reduceBNe, Int.reduceBEq, Nat.reduceLT, reduceCtorEq, c103]
  rw [e]
  cases hf : rfind N L hr.regs 0 with
  | none =>
    rw [hf] at q
    simp -implicitDefEqProofs only [↓GP, GB, GL, Nat.reduceAdd, Nat.reduceSub, Nat.reduceEqDiff, Nat.reduceMul, Nat.reduceLeDiff, Int.reduceBNe, Int.reduceBEq, Nat.reduceLT, reduceCtorEq, Int.reduceNeg]
    exact q _ h1.tl
  | some ab =>
    obtain ⟨a, b⟩ := ab
    rw [hf] at q
    simp -implicitDefEqProofs only [↓GP, GB, GL, Nat.reduceAdd, Nat.reduceSub, Nat.reduceEqDiff, Nat.reduceMul, Nat.reduceLeDiff, Int.reduceBNe, Int.reduceBEq, Nat.reduceLT, reduceCtorEq]
    exact q _ h1.tl

theorem rfind_some {N L : Int} : ∀ {rs : List RReg} {i a b : Nat}, rfind N L rs i = some (a, b) → ∃ g x, i ≤ a ∧ rs[a - i]? = some g ∧ g.objs[b]? = some x ∧ (g.life : Int) = L ∧ (x.b.at_ : Int) = N ∧ ∀ k, k < b → ∀ y, g.objs[k]? = some y → (y.b.at_ : Int) ≠ N
  | [], _, _, _, h => by cases h
  | g :: rs, i, a, b, h => by
    rw [rfind] at h
    have rec' : rfind N L rs (i + 1) = some (a, b) → ∃ g' x, i ≤ a ∧ (g :: rs)[a - i]? = some g' ∧ g'.objs[b]? = some x ∧ (g'.life : Int) = L ∧ (x.b.at_ : Int) = N ∧ ∀ k, k < b → ∀ y, g'.objs[k]? = some y → (y.b.at_ : Int) ≠ N := fun h => by
      obtain ⟨g', x, h1, h2, h3⟩ := rfind_some h
      refine ⟨g', x, by omega, ?_, h3⟩
      rw [show a - i = (a - (i + 1)) + 1 by omega, List.getElem?_cons_succ]; exact h2
    split at h
    · rename_i hl
      split at h
      · rename_i k hk
        cases h
        obtain ⟨h1, h2, h3⟩ := List.findIdx?_eq_some_iff_getElem.1 hk
        refine ⟨g, g.objs[b], Nat.le_refl _, by simp, by simp [h1], hl.1, by simpa using h2, fun k hk y hy => ?_⟩
        have := h3 k hk
        rw [List.getElem?_eq_getElem (by omega)] at hy
        cases hy
        simpa using this
      · exact rec' h
    · exact rec' h

/-- When an object is asked for and is not: the error. -/
def RObjErr (C : Ch) (hv : V) (N L err : Int) : Prop := (RGone C hv ∧ err = 6) ∨
  ∃ hr : RHeap, ∃ p, hv = ptrN hr.id ∧ RIn C p hr ∧ hr.regs ≠ [] ∧ hr.regs.length ≤ 100000 ∧ (∀ g ∈ hr.regs, g.objs.length ≤ 100000) ∧ ((err = 2 ∧ L < 1) ∨ (err = 80 ∧ ¬ L < 1 ∧ rfind N L hr.regs 0 = none))
theorem RObjErr.mono {D : Ch} {hv : V} {N L err : Int} (h : RObjErr C hv N L err) (hs : ∀ x ∈ C, x ∈ D) : RObjErr D hv N L err := by
  rcases h with ⟨g, h⟩ | ⟨hp, p, h1, h2, h3⟩
  · exact .inl ⟨g.mono hs, h⟩
  · exact .inr ⟨hp, p, h1, h2.mono hs, h3⟩

theorem s69_err (hC : Holds o s C) {hv : V} {N L err : Int} (e : RObjErr C hv N L err) (q : ∀ s', Holds o s' C → Q (.tuple [I 0, I 0, I err]) s') : WP (call PF 69 [hv, .agg [I N, I L]] s) Q := by
  have h1 := hC.alloc (.cells [I N, I L] none)
  have hs : ∀ x ∈ C, x ∈ (s.next, some (.cells [I N, I L] none)) :: C := fun x hx => List.mem_cons_of_mem _ hx
  rcases e with ⟨g, rfl⟩ | ⟨hr, p, rfl, hin, h0, hlen, hl, h | h⟩
  · have e := s87_gone h1 (g.mono hs)
    rw [call_run F69]; simp -implicitDefEqProofs only [↓GP, GB, GL, Nat.reduceAdd, Nat.reduceSub, Nat.reduceEqDiff, Nat.reduceMul, Nat.reduceLeDiff, Int.reduceBNe, Int.reduceBEq, Nat.reduceLT, reduceCtorEq, c69, e]; exact q _ h1.tl
  · obtain ⟨rfl, hL⟩ := h
    have e := s87 h1 (hin.mono hs) h0
    rw [call_run F69]; simp -implicitDefEqProofs only [↓GP, GB, GL, Nat.reduceAdd, Nat.reduceSub, Nat.reduceEqDiff, Nat.reduceMul, Nat.reduceLeDiff, Int.reduceBNe, Int.reduceBEq, Nat.reduceLT, reduceCtorEq, c69, e, hL]; exact q _ h1.tl
  · obtain ⟨rfl, hL, hf⟩ := h
    have e := s87 h1 (hin.mono hs) h0
    rw [call_run F69]; simp -implicitDefEqProofs only [↓GP, GB, GL, Nat.reduceAdd, Nat.reduceSub, Nat.reduceEqDiff, Nat.reduceMul, Nat.reduceLeDiff, Int.reduceBNe, Int.reduceBEq, Nat.reduceLT, reduceCtorEq, c69, e, hL]
    refine wp_in (s103 h1 (hin.mono hs) hlen hl fun s1 h2 => ?_)
    rw [hf]
    simp -implicitDefEqProofs only [↓GP, GB, GL, Nat.reduceAdd, Nat.reduceSub, Nat.reduceEqDiff, Nat.reduceMul, Nat.reduceLeDiff, Int.reduceBNe, Int.reduceBEq, Nat.reduceLT, reduceCtorEq, Int.reduceNeg, Int.reduceLT]; exact q _ h2.tl
theorem s69 (hC : Holds o s C) {hr : RHeap} {p : Nat} {N L : Int} (hin : RIn C p hr) (h0 : hr.regs ≠ []) (hlen : hr.regs.length ≤ 100000) (hl : ∀ g ∈ hr.regs, g.objs.length ≤ 100000) (hL : ¬ L < 1) {a b : Nat} {g : RReg} {x : RObj} (hf : rfind N L hr.regs 0 = some (a, b)) (hg : hr.regs[a]? = some g) (hx : g.objs[b]? = some x)
    (q : ∀ s', Holds o s' C → Q (.tuple [I x.b.kind, I x.b.ws.length, I 0]) s') : WP (call PF 69 [ptrN hr.id, .agg [I N, I L]] s) Q := by
  have h1 := hC.alloc (.cells [I N, I L] none)
  have e := s87 h1 (hin.cons _) h0
  rw [call_run F69]; simp -implicitDefEqProofs only [↓GP, GB, GL, Nat.reduceAdd, Nat.reduceSub, Nat.reduceEqDiff, Nat.reduceMul, Nat.reduceLeDiff, Int.reduceBNe, Int.reduceBEq, Nat.reduceLT, reduceCtorEq, c69, e, hL]
  refine wp_in (s103 h1 (hin.cons _) hlen hl fun s1 h2 => ?_)
  rw [hf]
  have f := h2.mem (hin.cons _).id
  have fr := h2.mem (hin.cons _).row
  simp only [RHeap.hd] at f
  have mo := hin.ob (List.mem_of_getElem? hg)
  have hb := (List.getElem?_eq_some_iff.1 hx).1
  unfold RReg.obO at mo
  rw [rowO_pos (by omega)] at mo
  have fo := h2.mem (List.mem_cons_of_mem _ mo)
  have ha : ¬ ((a : Int) < 0) := by omega
  simp -implicitDefEqProofs only [↓GP, GB, GL, Nat.reduceAdd, Nat.reduceSub, Nat.reduceEqDiff, Nat.reduceMul, Nat.reduceLeDiff, Int.reduceBNe, Int.reduceBEq, Nat.reduceLT, reduceCtorEq, f, fr, fo, rreg hg, robj hx, ix_row hb, ha]
  exact q _ h2.tl

/-- When a word is asked for and is not: the error. -/
def RWordErr (C : Ch) (hv : V) (N L i err : Int) : Prop := RObjErr C hv N L err ∨
  (err = 2 ∧ ¬ L < 1 ∧ ∃ hr : RHeap, ∃ p a b g x, hv = ptrN hr.id ∧ RIn C p hr ∧ hr.regs ≠ [] ∧ hr.regs.length ≤ 100000 ∧ (∀ g ∈ hr.regs, g.objs.length ≤ 100000) ∧ rfind N L hr.regs 0 = some (a, b) ∧ hr.regs[a]? = some g ∧ g.objs[b]? = some x ∧ ¬ (0 ≤ i ∧ i < x.b.ws.length))

theorem s68_err (hC : Holds o s C) {hv : V} {N L i err : Int} (e : RWordErr C hv N L i err) (q : ∀ s', Holds o s' C → Q (.tuple [.agg [I 0, I 0], I err]) s') : WP (call PF 68 [hv, .agg [I N, I L], I i] s) Q := by
  have h1 := (hC.alloc (.cells [I N, I L] none)).alloc (.cells [I 0, I 0] none)
  have hs : ∀ x ∈ C, x ∈ (s.next + 1, some (.cells [I 0, I 0] none)) :: (s.next, some (.cells [I N, I L] none)) :: C := fun x hx => List.mem_cons_of_mem _ (List.mem_cons_of_mem _ hx)
  rcases e with e | ⟨rfl, hL, hr, p, a, b, g, x, rfl, hin, h0, hlen, hl, hf, hg, hx, hi⟩
  · rcases e with ⟨g, rfl⟩ | ⟨hr, p, rfl, hin, h0, hlen, hl, h | h⟩
    · have e := s87_gone h1 (g.mono hs)
      rw [call_run F68]; simp -implicitDefEqProofs only [↓GP, GB, GL, Nat.reduceAdd, Nat.reduceSub, Nat.reduceEqDiff, Nat.reduceMul, Nat.reduceLeDiff, Int.reduceBNe, Int.reduceBEq, Nat.reduceLT, reduceCtorEq, c68, e]; exact q _ (h1.set0 _).tl.tl
    · obtain ⟨rfl, hL⟩ := h
      have e := s87 h1 (hin.mono hs) h0
      rw [call_run F68]; simp -implicitDefEqProofs only [↓GP, GB, GL, Nat.reduceAdd, Nat.reduceSub, Nat.reduceEqDiff, Nat.reduceMul, Nat.reduceLeDiff, Int.reduceBNe, Int.reduceBEq, Nat.reduceLT, reduceCtorEq, c68, e, hL]; exact q _ (h1.set0 _).tl.tl
    · obtain ⟨rfl, hL, hf⟩ := h
      have e := s87 h1 (hin.mono hs) h0
      rw [call_run F68]; simp -implicitDefEqProofs only [↓GP, GB, GL, Nat.reduceAdd, Nat.reduceSub, Nat.reduceEqDiff, Nat.reduceMul, Nat.reduceLeDiff, Int.reduceBNe, Int.reduceBEq, Nat.reduceLT, reduceCtorEq, c68, e, hL]
      refine wp_in (s103 h1 (hin.mono hs) hlen hl fun s1 h2 => ?_)
      rw [hf]
      have f0 := h2.f1
      simp only [alloc_next] at f0
      simp -implicitDefEqProofs only [↓GP, GB, GL, Nat.reduceAdd, Nat.reduceSub, Nat.reduceEqDiff, Nat.reduceMul, Nat.reduceLeDiff, Int.reduceBNe, Int.reduceBEq, Nat.reduceLT, reduceCtorEq, f0, Int.reduceNeg, Int.reduceLT]; exact q _ (h2.set0 _).tl.tl
  · have e := s87 h1 (hin.mono hs) h0
    rw [call_run F68]; simp -implicitDefEqProofs only [↓GP, GB, GL, Nat.reduceAdd, Nat.reduceSub, Nat.reduceEqDiff, Nat.reduceMul, Nat.reduceLeDiff, Int.reduceBNe, Int.reduceBEq, Nat.reduceLT, reduceCtorEq, c68, e, hL]
    refine wp_in (s103 h1 (hin.mono hs) hlen hl fun s1 h2 => ?_)
    rw [hf]
    have f0 := h2.f1
    have f := h2.mem (hs _ hin.id)
    have fr := h2.mem (hs _ hin.row)
    simp only [alloc_next] at f0
    simp only [RHeap.hd] at f
    have mo := hin.ob (List.mem_of_getElem? hg)
    have hb := (List.getElem?_eq_some_iff.1 hx).1
    unfold RReg.obO at mo
    rw [rowO_pos (by omega)] at mo
    have fo := h2.mem (hs _ mo)
    have ha : ¬ ((a : Int) < 0) := by omega
    by_cases hi0 : i < 0
    · simp -implicitDefEqProofs only [↓GP, GB, GL, Nat.reduceAdd, Nat.reduceSub, Nat.reduceEqDiff, Nat.reduceMul, Nat.reduceLeDiff, Int.reduceBNe, Int.reduceBEq, Nat.reduceLT, reduceCtorEq, f0, hi0, ha]
      exact q _ (h2.set0 _).tl.tl
    · have hi1 : (i ≥ (x.b.ws.length : Int)) := by omega
      simp -implicitDefEqProofs only [↓GP, GB, GL, Nat.reduceAdd, Nat.reduceSub, Nat.reduceEqDiff, Nat.reduceMul, Nat.reduceLeDiff, Int.reduceBNe, Int.reduceBEq, Nat.reduceLT, reduceCtorEq, f0, f, fr, fo, rreg hg, robj hx, ix_row hb, hi0, hi1, ha]
      exact q _ (h2.set0 _).tl.tl
theorem s68 (hC : Holds o s C) {hr : RHeap} {p i : Nat} {N L : Int} (hin : RIn C p hr) (h0 : hr.regs ≠ []) (hlen : hr.regs.length ≤ 100000) (hl : ∀ g ∈ hr.regs, g.objs.length ≤ 100000) (hL : ¬ L < 1) {a b : Nat} {g : RReg} {x : RObj} (hf : rfind N L hr.regs 0 = some (a, b)) (hg : hr.regs[a]? = some g) (hx : g.objs[b]? = some x) {w : Int × Int} (hw : x.b.ws[i]? = some w)
    (q : ∀ s', Holds o s' C → Q (.tuple [.agg (encW w), I 0]) s') : WP (call PF 68 [ptrN hr.id, .agg [I N, I L], I i] s) Q := by
  have h1 := (hC.alloc (.cells [I N, I L] none)).alloc (.cells [I 0, I 0] none)
  have hs : ∀ x ∈ C, x ∈ (s.next + 1, some (.cells [I 0, I 0] none)) :: (s.next, some (.cells [I N, I L] none)) :: C := fun x hx => List.mem_cons_of_mem _ (List.mem_cons_of_mem _ hx)
  have e := s87 h1 (hin.mono hs) h0
  rw [call_run F68]; simp -implicitDefEqProofs only [↓GP, GB, GL, Nat.reduceAdd, Nat.reduceSub, Nat.reduceEqDiff, Nat.reduceMul, Nat.reduceLeDiff, Int.reduceBNe, Int.reduceBEq, Nat.reduceLT, reduceCtorEq, c68, e, hL]
  refine wp_in (s103 h1 (hin.mono hs) hlen hl fun s1 h2 => ?_)
  rw [hf]
  have f0 := h2.f1
  have f := h2.mem (hs _ hin.id)
  have fr := h2.mem (hs _ hin.row)
  simp only [alloc_next] at f0
  simp only [RHeap.hd] at f
  have mg := List.mem_of_getElem? hg
  have mo := hin.ob mg
  have hb := (List.getElem?_eq_some_iff.1 hx).1
  unfold RReg.obO at mo
  rw [rowO_pos (by omega)] at mo
  have fo := h2.mem (hs _ mo)
  have fw := h2.mem (hs _ (hin.w mg (List.mem_of_getElem? hx)))
  have hi := (List.getElem?_eq_some_iff.1 hw).1
  have ha : ¬ ((a : Int) < 0) := by omega
  have hi0 : ¬ ((i : Int) < 0) := by omega
  have hi1 : ¬ ((i : Int) ≥ (x.b.ws.length : Int)) := by omega
  have hld := ldN_tab encW_len x.b.ws none hw
  simp -implicitDefEqProofs only [↓GP, GB, GL, Nat.reduceAdd, Nat.reduceSub, Nat.reduceEqDiff, Nat.reduceMul, Nat.reduceLeDiff, Int.reduceBNe, Int.reduceBEq, Nat.reduceLT, reduceCtorEq, f0, f, fr, fo, fw, rreg hg, robj hx, ix_row hb, ix_cell hi, hld, encW, hi0, hi1, ha]
  exact q _ (h2.set0 _).tl.tl
end
end Go.Proofs.Ytoldkemimhebaaa
