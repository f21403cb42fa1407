/- Layer 11: the code of the functions that its closed call runs. -/
import Derived.Test.YtfcaamoapdibiaaGreatDoorJa0
set_option linter.unusedSimpArgs false
set_option linter.unusedVariables false
namespace Go.Proofs.YtfcaamoapdibiaaGreatDoor.S
open Go Go.IM Go.Proofs.YtfcaamoapdibiaaGreatDoor

-- (*virgate/judge.court).arg

def c85 : IFn := ⟨27, [(10, (some (some 6))), (11, none)],
  (.seq (.region [oa 6 (.box (.t 1)), oa 10 (.alloc [(.str (ByteArray.mk #[])), (.str (ByteArray.mk #[])), (.int .i64 (0)), (.slice none 0 (some 0)), (.slice none 0 (some 0)), (.slice none 0 (some 0))]), oa 11 (.mov (.c (.bool false)))] (kp 27 [0,2,3,4,6,10]))
  (.seq (.region [oa 12 (.mov (.t 0)), oa 13 (.fieldAddr 6 (.t 6)), oa 14 (.load none (.t 13)), oa 15 (.mov (.t 2)), oa 16 (.indexAddr 17 (.t 14) (.t 15)), oa 17 (.load (some 17) (.t 16)), oa 18 (.mov (.t 3)), oa 19 (.mov (.t 4)), oa 21 (.mov (.t 2)), oa 22 (.buildSlice 1 [(.int .i64 (0))] [(0, 1, (.t 21))]), oa 20 (.call 97 [(.t 19)]), ob (.again 14 (.load none (.t 13))), ob (.again 17 (.load (some 17) (.t 16))), oa 23 (.append 1 8 (.t 20) (.t 22)), ob (.again 14 (.load none (.t 13))), ob (.again 17 (.load (some 17) (.t 16))), oa 24 (.call 37 [(.t 12), (.t 17), (.t 18), (.t 23)]), oa 25 (.extract (.t 24) 0), oa 26 (.extract (.t 24) 1), ob (.store 6 (.t 10) (.t 25)), oa 11 (.mov (.t 26))] (kp 27 [10,11]))
  (sr 27 [10,11])))⟩
theorem F85 : shutF Tryz.prog 85 = some c85 := by kernel_rfl

-- virgate/judge.join

def c86 : IFn := ⟨10, [(2, none)],
  (.seq (.region [oa 2 (.mov (.c (.slice none 0 (some 0))))] (kp 10 [0]))
  (.seq (.region [oa 4 (.mov (.t 0)), oa 5 (.call 142 [(.t 4)]), oa 3 (.mov (.t 5))] (kp 10 [3]))
  (.seq (.region [oa 6 (.mov (.t 3)), oa 7 (.call 98 [(.t 6)])] (kp 10 [3]))
  (.seq (.region [oa 8 (.mov (.t 3)), oa 9 (.call 99 [(.t 8)]), oa 2 (.mov (.t 9))] (kp 10 [2]))
  (sr 10 [2])))))⟩
theorem F86 : shutF Tryz.prog 86 = some c86 := by kernel_rfl

-- (*virgate/judge.court).knowsSome

def c90 : IFn := ⟨8, [(4, none)],
  (.seq (.region [oa 2 (.box (.t 0)), oa 4 (.mov (.c (.bool false)))] (kp 8 [1,2]))
  (.seq (.region [oa 5 (.mov (.t 1)), oa 6 (.mkFunc 149 [] [(.t 2)]), oa 7 (.call 53 [(.t 5), (.t 6)]), oa 4 (.mov (.t 7))] (kp 8 [4]))
  (sr 8 [4])))⟩
theorem F90 : shutF Tryz.prog 90 = some c90 := by kernel_rfl

-- (*virgate/judge.court).with

def c91 : IFn := ⟨27, [(6, none)],
  (.seq (.region [oa 6 (.mov (.c (.bool false)))] (kp 27 [0,1,2]))
  (.seq (.region [oa 9 (.mov (.t 0)), oa 10 (.nilCheck (.t 9)), oa 11 (.fieldAddr 21 (.t 10)), oa 12 (.load none (.t 11)), oa 7 (.mov (.t 12))] (kp 27 [0,1,2,7]))
  (.seq (.region [oa 13 (.mov (.t 0)), oa 14 (.mov (.t 7)), oa 15 (.mov (.t 1)), oa 16 (.buildSlice 2 [(.slice none 0 (some 0)), (.slice none 0 (some 0))] [(0, 1, (.t 14)), (1, 1, (.t 15))]), oa 17 (.call 142 [(.t 16)]), oa 18 (.nilCheck (.t 13)), oa 19 (.fieldAddr 21 (.t 18)), ob (.store 1 (.t 19) (.t 17))] (kp 27 [0,2,7]))
  (.seq (.region [oa 20 (.mov (.t 2)), oa 21 (.callv (.t 20) []), oa 8 (.mov (.t 21))] (kp 27 [0,7,8]))
  (.seq (.region [oa 22 (.mov (.t 0)), oa 23 (.mov (.t 7)), oa 24 (.nilCheck (.t 22)), oa 25 (.fieldAddr 21 (.t 24)), ob (.store 1 (.t 25) (.t 23))] (kp 27 [8]))
  (.seq (.region [oa 26 (.mov (.t 8)), oa 6 (.mov (.t 26))] (kp 27 [6]))
  (sr 27 [6])))))))⟩
theorem F91 : shutF Tryz.prog 91 = some c91 := by kernel_rfl

-- (*virgate/judge.court).rule$1

def c92 : IFn := ⟨18, [(5, none)],
  (.seq (.region [oa 5 (.mov (.c (.bool false)))] (kp 18 [0,1,2,3,4]))
  (.seq (.region [oa 9 (.load none (.t 0)), oa 10 (.load (some 17) (.t 1)), oa 11 (.load none (.t 2)), oa 12 (.load none (.t 3)), oa 13 (.call 85 [(.t 9), (.t 10), (ai 0), (.t 11), (.t 12)]), oa 8 (.mov (.t 13)), oa 14 (.extract (.t 8) 0), oa 15 (.extract (.t 8) 1), oa 6 (.alloc [(.str (ByteArray.mk #[])), (.str (ByteArray.mk #[])), (.int .i64 (0)), (.slice none 0 (some 0)), (.slice none 0 (some 0)), (.slice none 0 (some 0))]), ob (.store 6 (.t 6) (.t 14)), oa 7 (.mov (.t 15))] (kp 18 [4,6,7]))
  (.seq (.region [oa 16 (.load (some 6) (.t 6)), ob (.store 6 (.t 4) (.t 16))] (kp 18 [7]))
  (.seq (.region [oa 17 (.mov (.t 7)), oa 5 (.mov (.t 17))] (kp 18 [5]))
  (sr 18 [5])))))⟩
theorem F92 : shutF Tryz.prog 92 = some c92 := by kernel_rfl

-- (*virgate/judge.court).rule$2

def c93 : IFn := ⟨8, [(3, none)],
  (.seq (.region [oa 3 (.mov (.c (.bool false)))] (kp 8 [0,1]))
  (.seq (.region [oa 4 (.fieldAddr 13 (.t 1)), oa 5 (.load none (.t 4)), oa 6 (.mov (.t 0)), oa 7 (.call 55 [(.t 5), (.t 6)]), oa 3 (.mov (.t 7))] (kp 8 [3]))
  (sr 8 [3])))⟩
theorem F93 : shutF Tryz.prog 93 = some c93 := by kernel_rfl

-- virgate/place.Without

def c94 : IFn := ⟨18, [(4, none), (5, none)],
  (.seq (.region [oa 3 (.box (.t 1)), oa 4 (.mov (.c (.slice none 0 (some 0)))), oa 5 (.mov (ai 0))] (kp 18 [0,3]))
  (.seq (.seq (.region [oa 6 (.mov (.t 0)), oa 7 (.call 150 [(.t 6)]), oa 8 (.un .not (.t 7)), oa 9 (.mov (.t 8)), oc 10 (.load none (.t 3)) 9 ff, oc 11 (.call 150 [(.t 10)]) 9 ff, oc 12 (.un .not (.t 11)) 9 ff, oa 13 (.pick (.t 9) (.c (.bool true)) (.t 12))] (kp 18 [0,3,13]))
  (.cond (.t 13)
  (.seq (.region [oa 4 (.mov (.c (.slice none 0 (some 0)))), oa 5 (.mov (ai 70))] (kp 18 [4,5]))
  (sr 18 [4,5]))
  (sk 18 [0,3])))
  (.seq (.region [oa 14 (.mov (.t 0)), oa 15 (.call 97 [(.t 14)]), oa 16 (.mkFunc 152 [] [(.t 3)]), oa 17 (.call 151 [(.t 15), (.t 16)]), oa 4 (.mov (.t 17)), oa 5 (.mov (ai 0))] (kp 18 [4,5]))
  (sr 18 [4,5]))))⟩
theorem F94 : shutF Tryz.prog 94 = some c94 := by kernel_rfl

-- (*virgate/judge.court).strict
def l95_0 : IC := (.seq (.seq (.region [oa 22 (.bin .lss (.t 21) (.t 20))] (kp 61 [0,2,3,5,8,10,11,20,21,22]))
  (.seq (.cond (.t 22)
  (sk 61 [0,2,3,5,8,10,11,20,21])
  (sx 61 [0,5,8,10,11] 0))
  (.seq (.block 1
  (.seq (.region [oa 23 (.mov (.t 21)), oa 12 (.mov (.t 23))] (kp 61 [0,2,3,5,8,10,11,12,20,21]))
  (.seq (.region [oa 25 (.mov (.t 0)), oa 26 (.load (some 17) (.t 5)), oa 27 (.mov (.t 12)), oa 28 (.mov (.t 2)), oa 29 (.mov (.t 3)), oa 30 (.call 85 [(.t 25), (.t 26), (.t 27), (.t 28), (.t 29)]), oa 24 (.mov (.t 30)), oa 31 (.extract (.t 24) 0), oa 32 (.extract (.t 24) 1), oa 13 (.alloc [(.str (ByteArray.mk #[])), (.str (ByteArray.mk #[])), (.int .i64 (0)), (.slice none 0 (some 0)), (.slice none 0 (some 0)), (.slice none 0 (some 0))]), ob (.store 6 (.t 13) (.t 31)), oa 14 (.mov (.t 32))] (kp 61 [0,2,3,5,8,10,11,13,14,20,21]))
  (.seq (.seq (.region [oa 33 (.mov (.t 14)), oa 34 (.un .not (.t 33))] (kp 61 [0,2,3,5,8,10,11,13,20,21,34]))
  (.cond (.t 34)
  (.seq (.region [oa 35 (.load (some 6) (.t 13)), ob (.store 6 (.t 8) (.t 35)), oa 9 (.mov (.c (.bool false)))] (kp 61 [8,9]))
  (sr 61 [8,9]))
  (sk 61 [0,2,3,5,8,10,11,13,20,21])))
  (.seq (.region [oa 36 (.mov (.t 10)), oa 37 (.load (some 6) (.t 13)), oa 38 (.buildSlice 1 [(.str (ByteArray.mk #[])), (.str (ByteArray.mk #[])), (.int .i64 (0)), (.slice none 0 (some 0)), (.slice none 0 (some 0)), (.slice none 0 (some 0))] [(0, 6, (.t 37))]), oa 39 (.append 6 112 (.t 36) (.t 38)), oa 10 (.mov (.t 39))] (kp 61 [0,2,3,5,8,10,11,13,20,21]))
  (.region [oa 40 (.mov (.t 11)), oa 41 (.fieldAddr 5 (.t 13)), oa 42 (.load none (.t 41)), oa 43 (.buildSlice 2 [(.slice none 0 (some 0)), (.slice none 0 (some 0))] [(0, 1, (.t 40)), (1, 1, (.t 42))]), oa 44 (.call 86 [(.t 43)]), oa 11 (.mov (.t 44))] (kp 61 [0,2,3,5,8,10,11,20,21])))))))
  (.region [oa 45 (.bin .add (.t 21) (ai 1)), oa 21 (.mov (.t 45))] (kp 61 [0,2,3,5,8,10,11,20,21])))))
  (sk 61 [0,2,3,5,8,10,11,20,21]))
def c95 : IFn := ⟨61, [(8, (some (some 6))), (9, none)],
  (.seq (.region [oa 5 (.box (.t 1)), oa 8 (.alloc [(.str (ByteArray.mk #[])), (.str (ByteArray.mk #[])), (.int .i64 (0)), (.slice none 0 (some 0)), (.slice none 0 (some 0)), (.slice none 0 (some 0))]), oa 9 (.mov (.c (.bool false)))] (kp 61 [0,2,3,5,8]))
  (.seq (.region [oa 10 (.mov (.c (.slice none 0 (some 0))))] (kp 61 [0,2,3,5,8,10]))
  (.seq (.region [oa 11 (.mov (.c (.slice none 0 (some 0))))] (kp 61 [0,2,3,5,8,10,11]))
  (.seq (.seq (.region [oa 18 (.fieldAddr 6 (.t 5)), oa 19 (.load none (.t 18)), oa 20 (.lenSlice (.t 19)), oa 21 (.mov (ai 0))] (kp 61 [0,2,3,5,8,10,11,20,21]))
  (.block 0
  (.seq (sk 61 [0,2,3,5,8,10,11,20,21])
  (.loop l95_0))))
  (.seq (.region [oa 47 (.mov (.t 0)), oa 48 (.load (some 17) (.t 5)), oa 49 (.mov (.t 10)), oa 50 (.call 153 [(.t 47), (.t 48), (.t 49)]), oa 46 (.mov (.t 50)), oa 51 (.extract (.t 46) 0), oa 52 (.extract (.t 46) 1), oa 53 (.extract (.t 46) 2), oa 15 (.alloc [(.str (ByteArray.mk #[])), (.str (ByteArray.mk #[])), (.int .i64 (0)), (.slice none 0 (some 0)), (.slice none 0 (some 0))]), ob (.store 5 (.t 15) (.t 51)), oa 16 (.mov (.t 52)), oa 17 (.mov (.t 53))] (kp 61 [8,11,15,16,17]))
  (.seq (.region [oa 54 (.load (some 5) (.t 15)), oa 55 (.mov (.t 11)), oa 56 (.mov (.t 16)), oa 57 (.buildSlice 2 [(.slice none 0 (some 0)), (.slice none 0 (some 0))] [(0, 1, (.t 55)), (1, 1, (.t 56))]), oa 60 (.mov (.t 17)), oa 58 (.call 86 [(.t 57)]), ob (.again 54 (.load (some 5) (.t 15))), oa 59 (.build [(.str (ByteArray.mk #[])), (.str (ByteArray.mk #[])), (.int .i64 (0)), (.slice none 0 (some 0)), (.slice none 0 (some 0)), (.slice none 0 (some 0))] [(0, 5, (.t 54)), (5, 1, (.t 58))]), ob (.store 6 (.t 8) (.t 59)), oa 9 (.mov (.t 60))] (kp 61 [8,9]))
  (sr 61 [8,9])))))))⟩
theorem F95 : shutF Tryz.prog 95 = some c95 := by kernel_rfl

-- virgate/place.validType

def c96 : IFn := ⟨84, [(4, none)],
  (.seq (.region [oa 2 (.box (.t 0)), oa 3 (.box (.t 1)), oa 4 (.mov (.c (.bool false)))] (kp 84 [2,3]))
  (.seq (.region [oa 8 (.fieldAddr 0 (.t 2)), oa 9 (.load none (.t 8)), oa 10 (.call 100 [(.t 9)]), oa 7 (.mov (.t 10)), oa 11 (.extract (.t 7) 0), oa 12 (.extract (.t 7) 1), oa 5 (.alloc [(.bool false), (.int .i64 (0))]), ob (.store 2 (.t 5) (.t 11)), oa 6 (.mov (.t 12))] (kp 84 [2,3,5,6]))
  (.seq (.seq (.region [oa 13 (.mov (.t 6)), oa 14 (.un .not (.t 13)), oa 15 (.mov (.t 14)), oc 16 (.load none (.t 3)) 15 ff, oc 17 (.call 128 [(.t 16)]) 15 ff, oc 18 (.un .not (.t 17)) 15 ff, oa 19 (.pick (.t 15) (.c (.bool true)) (.t 18)), oa 20 (.mov (.t 19)), oc 21 (.fieldAddr 4 (.t 2)) 20 ff, oc 22 (.load none (.t 21)) 20 ff, oc 23 (.lenSlice (.t 22)) 20 ff, oc 24 (.fieldAddr 1 (.t 5)) 20 ff, oc 25 (.load none (.t 24)) 20 ff, oc 26 (.bin .neq (.t 23) (.t 25)) 20 ff, oa 27 (.pick (.t 20) (.c (.bool true)) (.t 26)), oa 28 (.mov (.t 27)), oc 29 (.fieldAddr 0 (.t 2)) 28 ff, oc 30 (.load none (.t 29)) 28 ff, oc 31 (.bin .eql (.t 30) (.c (.str (ByteArray.mk #[100, 97, 116, 97])))) 28 ff, oc 32 (.fieldAddr 1 (.t 2)) 28 ff, oc 33 (.load none (.t 32)) 28 ff, oc 34 (.call 123 [(.t 33)]) 28 ff, oe (.again 30 (.load none (.t 29))) 28 ff, oc 35 (.eql true (.key (.one .b)) (.t 31) (.t 34)) 28 ff, oa 36 (.pick (.t 28) (.c (.bool true)) (.t 35)), oa 37 (.mov (.t 36)), oc 38 (.fieldAddr 0 (.t 2)) 37 ff, oc 39 (.load none (.t 38)) 37 ff, oc 40 (.bin .neq (.t 39) (.c (.str (ByteArray.mk #[100, 97, 116, 97])))) 37 ff, oc 41 (.mov (.t 40)) 37 ff, oc 42 (.fieldAddr 1 (.t 2)) 41 tt, oc 43 (.load none (.t 42)) 41 tt, oc 44 (.bin .neq (.t 43) (.c (.str (ByteArray.mk #[])))) 41 tt, oc 45 (.pick (.t 41) (.t 44) (.c (.bool false))) 37 ff, oa 46 (.pick (.t 37) (.c (.bool true)) (.t 45))] (kp 84 [2,3,5,46]))
  (.cond (.t 46)
  (.seq (.region [oa 4 (.mov (.c (.bool false)))] (kp 84 [4]))
  (sr 84 [4]))
  (sk 84 [2,3,5])))
  (.seq (.region [oa 47 (.mkFunc 154 [] [(.t 3)])] (kp 84 [2,3,5,47]))
  (.dfr (.t 47) []
  (.seq (.seq (.region [oa 48 (.fieldAddr 0 (.t 5)), oa 49 (.load none (.t 48)), oa 50 (.un .not (.t 49)), oa 51 (.mov (.t 50)), oc 52 (.fieldAddr 2 (.t 2)) 51 tt, oc 53 (.load none (.t 52)) 51 tt, oc 54 (.bin .neq (.t 53) (ai 0)) 51 tt, oa 55 (.pick (.t 51) (.t 54) (.c (.bool false))), oa 56 (.mov (.t 55)), oc 57 (.fieldAddr 2 (.t 2)) 56 ff, oc 58 (.load none (.t 57)) 56 ff, oc 59 (.call 76 [(.t 58)]) 56 ff, oc 60 (.un .not (.t 59)) 56 ff, oa 61 (.pick (.t 56) (.c (.bool true)) (.t 60)), oa 62 (.mov (.t 61)), oc 63 (.fieldAddr 0 (.t 2)) 62 ff, oc 64 (.load none (.t 63)) 62 ff, oc 65 (.bin .neq (.t 64) (.c (.str (ByteArray.mk #[102, 110])))) 62 ff, oc 66 (.mov (.t 65)) 62 ff, oc 67 (.fieldAddr 3 (.t 2)) 66 tt, oc 68 (.load none (.t 67)) 66 tt, oc 69 (.lenSlice (.t 68)) 66 tt, oc 70 (.bin .gtr (.t 69) (ai 0)) 66 tt, oc 71 (.pick (.t 66) (.t 70) (.c (.bool false))) 62 ff, oa 72 (.pick (.t 62) (.c (.bool true)) (.t 71)), oa 73 (.mov (.t 72)), oc 74 (.fieldAddr 3 (.t 2)) 73 ff, oc 75 (.load none (.t 74)) 73 ff, oc 76 (.call 150 [(.t 75)]) 73 ff, oc 77 (.un .not (.t 76)) 73 ff, oa 78 (.pick (.t 73) (.c (.bool true)) (.t 77))] (kp 84 [2,3,78]))
  (.cond (.t 78)
  (.seq (.region [oa 4 (.mov (.c (.bool false)))] (kp 84 [4]))
  (sr 84 [4]))
  (sk 84 [2,3])))
  (.seq (.region [oa 79 (.fieldAddr 4 (.t 2)), oa 80 (.load none (.t 79)), oa 81 (.mkFunc 156 [] [(.t 3)]), oa 82 (.call 155 [(.t 80), (.t 81)]), oa 83 (.un .not (.t 82)), oa 4 (.mov (.t 83))] (kp 84 [4]))
  (sr 84 [4]))))))))⟩
theorem F96 : shutF Tryz.prog 96 = some c96 := by kernel_rfl

-- slices.Clone[[]int,int]

def c97 : IFn := ⟨8, [(2, none)],
  (.seq (.region [oa 2 (.mov (.c (.slice none 0 (some 0))))] (kp 8 [0]))
  (.seq (.seq (.region [oa 3 (.mov (.t 0)), oa 4 (.eql false .slice (.t 3) (.c (.slice none 0 (some 0))))] (kp 8 [0,4]))
  (.cond (.t 4)
  (.seq (.region [oa 2 (.mov (.c (.slice none 0 (some 0))))] (kp 8 [2]))
  (sr 8 [2]))
  (sk 8 [0])))
  (.seq (.region [oa 5 (.buildSlice 0 [] []), oa 6 (.mov (.t 0)), oa 7 (.append 1 8 (.t 5) (.t 6)), oa 2 (.mov (.t 7))] (kp 8 [2]))
  (sr 8 [2]))))⟩
theorem F97 : shutF Tryz.prog 97 = some c97 := by kernel_rfl

-- slices.Sort[[]int,int]

def c98 : IFn := ⟨11, [],
  (.seq (.region [oa 3 (.mov (.t 0)), oa 4 (.lenSlice (.t 3)), oa 2 (.mov (.t 4))] (kp 11 [0,2]))
  (.region [oa 5 (.mov (.t 0)), oa 6 (.mov (.t 2)), oa 7 (.mov (.t 2)), oa 8 (.conv .u64 (.t 7)), oa 9 (.call 158 [(.t 8)]), oa 10 (.call 157 [(.t 5), (ai 0), (.t 6), (.t 9)])] (kp 11 [])))⟩
theorem F98 : shutF Tryz.prog 98 = some c98 := by kernel_rfl

-- slices.Compact[[]int,int]
def l99_0 : IC := (.seq (.seq (.seq (.region [oa 29 (.mov (.t 5)), oa 30 (.mov (.t 4)), oa 31 (.lenSlice (.t 30)), oa 32 (.bin .lss (.t 29) (.t 31))] (kp 61 [0,3,4,5,32]))
  (.cond (.t 32)
  (sk 61 [0,3,4,5])
  (sx 61 [0,3] 2)))
  (.seq (.block 3
  (.seq (.region [oa 35 (.mov (.t 4)), oa 36 (.mov (.t 5)), oa 37 (.indexAddr 1 (.t 35) (.t 36)), oa 38 (.load none (.t 37)), oa 39 (.mov (.t 4)), oa 40 (.mov (.t 5)), oa 41 (.bin .sub (.t 40) (ai 1)), oa 42 (.indexAddr 1 (.t 39) (.t 41)), oa 43 (.load none (.t 42)), oa 44 (.bin .neq (.t 38) (.t 43))] (kp 61 [0,3,4,5,44]))
  (.cond (.t 44)
  (.seq (.region [oa 45 (.mov (.t 0)), oa 46 (.mov (.t 3)), oa 47 (.mov (.t 4)), oa 48 (.mov (.t 5)), oa 49 (.indexAddr 1 (.t 47) (.t 48)), oa 50 (.load none (.t 49)), oa 51 (.indexAddr 1 (.t 45) (.t 46)), ob (.store 1 (.t 51) (.t 50))] (kp 61 [0,3,4,5]))
  (.region [oa 52 (.mov (.t 3)), oa 53 (.bin .add (.t 52) (ai 1)), oa 3 (.mov (.t 53))] (kp 61 [0,3,4,5])))
  (sk 61 [0,3,4,5]))))
  (.region [oa 33 (.mov (.t 5)), oa 34 (.bin .add (.t 33) (ai 1)), oa 5 (.mov (.t 34))] (kp 61 [0,3,4,5]))))
  (sk 61 [0,3,4,5]))
def l99_1 : IC := (.seq (.seq (.seq (.region [oa 10 (.mov (.t 3)), oa 11 (.mov (.t 0)), oa 12 (.lenSlice (.t 11)), oa 13 (.bin .lss (.t 10) (.t 12))] (kp 61 [0,3,13]))
  (.cond (.t 13)
  (sk 61 [0,3])
  (sx 61 [0] 0)))
  (.seq (.block 1
  (.seq (.region [oa 16 (.mov (.t 0)), oa 17 (.mov (.t 3)), oa 18 (.indexAddr 1 (.t 16) (.t 17)), oa 19 (.load none (.t 18)), oa 20 (.mov (.t 0)), oa 21 (.mov (.t 3)), oa 22 (.bin .sub (.t 21) (ai 1)), oa 23 (.indexAddr 1 (.t 20) (.t 22)), oa 24 (.load none (.t 23)), oa 25 (.bin .eql (.t 19) (.t 24))] (kp 61 [0,3,25]))
  (.cond (.t 25)
  (.seq (.region [oa 26 (.mov (.t 0)), oa 27 (.mov (.t 3)), oa 28 (.slice 1 (.t 26) (some (.t 27)) none none), oa 4 (.mov (.t 28))] (kp 61 [0,3,4]))
  (.seq (.seq (.region [oa 5 (.mov (ai 1))] (kp 61 [0,3,4,5]))
  (.block 2
  (.seq (sk 61 [0,3,4,5])
  (.loop l99_0))))
  (.seq (.region [oa 54 (.mov (.t 0)), oa 55 (.mov (.t 3)), oa 56 (.slice 1 (.t 54) (some (.t 55)) none none), ob (.clearSlice [(.int .i64 (0))] (.t 56))] (kp 61 [0,3]))
  (.seq (.region [oa 57 (.mov (.t 0)), oa 58 (.mov (.t 3)), oa 59 (.slice 1 (.t 57) none (some (.t 58)) none), oa 2 (.mov (.t 59))] (kp 61 [2]))
  (sr 61 [2])))))
  (sk 61 [0,3]))))
  (.region [oa 14 (.mov (.t 3)), oa 15 (.bin .add (.t 14) (ai 1)), oa 3 (.mov (.t 15))] (kp 61 [0,3]))))
  (sk 61 [0,3]))
def c99 : IFn := ⟨61, [(2, none)],
  (.seq (.region [oa 2 (.mov (.c (.slice none 0 (some 0))))] (kp 61 [0]))
  (.seq (.seq (.region [oa 6 (.mov (.t 0)), oa 7 (.lenSlice (.t 6)), oa 8 (.bin .lss (.t 7) (ai 2))] (kp 61 [0,8]))
  (.cond (.t 8)
  (.seq (.region [oa 9 (.mov (.t 0)), oa 2 (.mov (.t 9))] (kp 61 [2]))
  (sr 61 [2]))
  (sk 61 [0])))
  (.seq (.seq (.region [oa 3 (.mov (ai 1))] (kp 61 [0,3]))
  (.block 0
  (.seq (sk 61 [0,3])
  (.loop l99_1))))
  (.seq (.region [oa 60 (.mov (.t 0)), oa 2 (.mov (.t 60))] (kp 61 [2]))
  (sr 61 [2])))))⟩
theorem F99 : shutF Tryz.prog 99 = some c99 := by kernel_rfl

-- virgate/place.shapeOf

def c100 : IFn := ⟨23, [(2, (some (some 2))), (3, none)],
  (.seq (.region [oa 2 (.alloc [(.bool false), (.int .i64 (0))]), oa 3 (.mov (.c (.bool false)))] (kp 23 [0,2]))
  (.seq (.seq (.region [oa 4 (.mov (.t 0))] (kp 23 [2,4]))
  (.block 0
  (.seq (.seq (.region [oa 6 (.bin .eql (.t 4) (.c (.str (ByteArray.mk #[105, 110, 116])))), oa 5 (.mov (.t 6))] (kp 23 [2,4,5]))
  (.cond (.t 5)
  (sk 23 [2,4,5])
  (.seq (.region [oa 7 (.bin .eql (.t 4) (.c (.str (ByteArray.mk #[98, 111, 111, 108])))), oa 5 (.mov (.t 7))] (kp 23 [2,4,5]))
  (.cond (.t 5)
  (sk 23 [2,4,5])
  (.region [oa 8 (.bin .eql (.t 4) (.c (.str (ByteArray.mk #[117, 110, 105, 116])))), oa 5 (.mov (.t 8))] (kp 23 [2,4,5]))))))
  (.cond (.t 5)
  (.seq (.region [oa 9 (.build [(.bool false), (.int .i64 (0))] [(0, 1, (.c (.bool false))), (1, 1, (ai 0))]), ob (.store 2 (.t 2) (.t 9)), oa 3 (.mov (.c (.bool true)))] (kp 23 [2,3]))
  (sr 23 [2,3]))
  (.seq (.seq (.region [oa 11 (.bin .eql (.t 4) (.c (.str (ByteArray.mk #[116, 101, 120, 116])))), oa 10 (.mov (.t 11))] (kp 23 [2,4,10]))
  (.cond (.t 10)
  (sk 23 [2,4,10])
  (.region [oa 12 (.bin .eql (.t 4) (.c (.str (ByteArray.mk #[100, 97, 116, 97])))), oa 10 (.mov (.t 12))] (kp 23 [2,4,10]))))
  (.cond (.t 10)
  (.seq (.region [oa 13 (.build [(.bool false), (.int .i64 (0))] [(0, 1, (.c (.bool true))), (1, 1, (ai 0))]), ob (.store 2 (.t 2) (.t 13)), oa 3 (.mov (.c (.bool true)))] (kp 23 [2,3]))
  (sr 23 [2,3]))
  (.seq (.seq (.region [oa 15 (.bin .eql (.t 4) (.c (.str (ByteArray.mk #[108, 105, 115, 116])))), oa 14 (.mov (.t 15))] (kp 23 [2,4,14]))
  (.cond (.t 14)
  (sk 23 [2,4,14])
  (.region [oa 16 (.bin .eql (.t 4) (.c (.str (ByteArray.mk #[97, 114, 114, 97, 121])))), oa 14 (.mov (.t 16))] (kp 23 [2,4,14]))))
  (.cond (.t 14)
  (.seq (.region [oa 17 (.build [(.bool false), (.int .i64 (0))] [(0, 1, (.c (.bool true))), (1, 1, (ai 1))]), ob (.store 2 (.t 2) (.t 17)), oa 3 (.mov (.c (.bool true)))] (kp 23 [2,3]))
  (sr 23 [2,3]))
  (.seq (.seq (.region [oa 19 (.bin .eql (.t 4) (.c (.str (ByteArray.mk #[112, 97, 105, 114])))), oa 18 (.mov (.t 19))] (kp 23 [2,4,18]))
  (.cond (.t 18)
  (sk 23 [2,18])
  (.region [oa 20 (.bin .eql (.t 4) (.c (.str (ByteArray.mk #[102, 110])))), oa 18 (.mov (.t 20))] (kp 23 [2,18]))))
  (.cond (.t 18)
  (.seq (.region [oa 21 (.build [(.bool false), (.int .i64 (0))] [(0, 1, (.c (.bool true))), (1, 1, (ai 2))]), ob (.store 2 (.t 2) (.t 21)), oa 3 (.mov (.c (.bool true)))] (kp 23 [2,3]))
  (sr 23 [2,3]))
  (sk 23 [2])))))))))))
  (.seq (.region [oa 22 (.build [(.bool false), (.int .i64 (0))] []), ob (.store 2 (.t 2) (.t 22)), oa 3 (.mov (.c (.bool false)))] (kp 23 [2,3]))
  (sr 23 [2,3]))))⟩
theorem F100 : shutF Tryz.prog 100 = some c100 := by kernel_rfl

-- slices.IndexFunc[[]int,int]
def l101_0 : IC := (.seq (.seq (.region [oa 9 (.bin .lss (.t 8) (.t 7))] (kp 19 [0,1,7,8,9]))
  (.seq (.cond (.t 9)
  (sk 19 [0,1,7,8])
  (sx 19 [] 0))
  (.seq (.block 1
  (.seq (.region [oa 10 (.mov (.t 8)), oa 5 (.mov (.t 10))] (kp 19 [0,1,5,7,8]))
  (.seq (.region [oa 11 (.mov (.t 1)), oa 12 (.mov (.t 0)), oa 13 (.mov (.t 5)), oa 14 (.indexAddr 1 (.t 12) (.t 13)), oa 15 (.load none (.t 14)), oa 16 (.callv (.t 11) [(.t 15)])] (kp 19 [0,1,5,7,8,16]))
  (.cond (.t 16)
  (.seq (.region [oa 17 (.mov (.t 5)), oa 4 (.mov (.t 17))] (kp 19 [4]))
  (sr 19 [4]))
  (sk 19 [0,1,7,8])))))
  (.region [oa 18 (.bin .add (.t 8) (ai 1)), oa 8 (.mov (.t 18))] (kp 19 [0,1,7,8])))))
  (sk 19 [0,1,7,8]))
def c101 : IFn := ⟨19, [(4, none)],
  (.seq (.region [oa 4 (.mov (ai 0))] (kp 19 [0,1]))
  (.seq (.seq (.region [oa 6 (.mov (.t 0)), oa 7 (.lenSlice (.t 6)), oa 8 (.mov (ai 0))] (kp 19 [0,1,7,8]))
  (.block 0
  (.seq (sk 19 [0,1,7,8])
  (.loop l101_0))))
  (.seq (.region [oa 4 (.mov (ai (-1)))] (kp 19 [4]))
  (sr 19 [4]))))⟩
theorem F101 : shutF Tryz.prog 101 = some c101 := by kernel_rfl

-- slices.Index[[]int,int]
def l102_0 : IC := (.seq (.seq (.region [oa 9 (.bin .lss (.t 8) (.t 7))] (kp 19 [0,1,7,8,9]))
  (.seq (.cond (.t 9)
  (sk 19 [0,1,7,8])
  (sx 19 [] 0))
  (.seq (.block 1
  (.seq (.region [oa 10 (.mov (.t 8)), oa 5 (.mov (.t 10))] (kp 19 [0,1,5,7,8]))
  (.seq (.region [oa 11 (.mov (.t 1)), oa 12 (.mov (.t 0)), oa 13 (.mov (.t 5)), oa 14 (.indexAddr 1 (.t 12) (.t 13)), oa 15 (.load none (.t 14)), oa 16 (.bin .eql (.t 11) (.t 15))] (kp 19 [0,1,5,7,8,16]))
  (.cond (.t 16)
  (.seq (.region [oa 17 (.mov (.t 5)), oa 4 (.mov (.t 17))] (kp 19 [4]))
  (sr 19 [4]))
  (sk 19 [0,1,7,8])))))
  (.region [oa 18 (.bin .add (.t 8) (ai 1)), oa 8 (.mov (.t 18))] (kp 19 [0,1,7,8])))))
  (sk 19 [0,1,7,8]))
def c102 : IFn := ⟨19, [(4, none)],
  (.seq (.region [oa 4 (.mov (ai 0))] (kp 19 [0,1]))
  (.seq (.seq (.region [oa 6 (.mov (.t 0)), oa 7 (.lenSlice (.t 6)), oa 8 (.mov (ai 0))] (kp 19 [0,1,7,8]))
  (.block 0
  (.seq (sk 19 [0,1,7,8])
  (.loop l102_0))))
  (.seq (.region [oa 4 (.mov (ai (-1)))] (kp 19 [4]))
  (sr 19 [4]))))⟩
theorem F102 : shutF Tryz.prog 102 = some c102 := by kernel_rfl

-- virgate/module.builtin

def c103 : IFn := ⟨2, [(0, none)],
  (.seq (.region [oa 0 (.mov (.c (.slice none 0 (some 0))))] (kp 2 []))
  (.seq (.region [oa 1 (.buildSlice 4 [(.str (ByteArray.mk #[])), (.str (ByteArray.mk #[])), (.str (ByteArray.mk #[])), (.str (ByteArray.mk #[]))] [(0, 1, (.c (.str (ByteArray.mk #[68, 105, 118])))), (1, 1, (.c (.str (ByteArray.mk #[83, 105, 122, 101])))), (2, 1, (.c (.str (ByteArray.mk #[83, 117, 98, 115, 99, 114, 105, 112, 116])))), (3, 1, (.c (.str (ByteArray.mk #[77, 97, 116, 99, 104]))))]), oa 0 (.mov (.t 1))] (kp 2 [0]))
  (sr 2 [0])))⟩
theorem F103 : shutF Tryz.prog 103 = some c103 := by kernel_rfl

-- (virgate/tree.Rule).fields

def c104 : IFn := ⟨154, [(4, none), (5, none), (6, none), (7, none), (8, none)],
  (.seq (.region [oa 2 (.box (.t 0)), oa 3 (.box (.t 1)), oa 4 (.mov (.c (.str (ByteArray.mk #[])))), oa 5 (.mov (.c (.str (ByteArray.mk #[])))), oa 6 (.mov (.c (.str (ByteArray.mk #[])))), oa 7 (.mov (ai 0)), oa 8 (.mov (ai 0))] (kp 154 [2,3,4,5,6,7,8]))
  (.seq (.region [oa 9 (.mov (.c (.bool true)))] (kp 154 [2,3,4,5,6,7,8,9]))
  (.seq (.seq (.region [oa 10 (.fieldAddr 0 (.t 3)), oa 11 (.load none (.t 10))] (kp 154 [2,3,4,5,6,7,8,9,11]))
  (.block 0
  (.seq (.region [oa 13 (.bin .eql (.t 11) (.c (.str (ByteArray.mk #[105, 110, 116])))), oa 12 (.mov (.t 13))] (kp 154 [2,3,4,5,6,7,8,9,11,12]))
  (.cond (.t 12)
  (.region [oa 14 (.fieldAddr 4 (.t 3)), oa 15 (.load none (.t 14)), oa 7 (.mov (.t 15))] (kp 154 [4,5,6,7,8,9]))
  (.seq (.region [oa 17 (.bin .eql (.t 11) (.c (.str (ByteArray.mk #[98, 111, 111, 108])))), oa 16 (.mov (.t 17))] (kp 154 [2,3,4,5,6,7,8,9,11,16]))
  (.cond (.t 16)
  (.region [oa 18 (.fieldAddr 4 (.t 3)), oa 19 (.load none (.t 18)), oa 20 (.bin .and (.t 19) (ai 1)), oa 7 (.mov (.t 20))] (kp 154 [4,5,6,7,8,9]))
  (.seq (.seq (.region [oa 22 (.bin .eql (.t 11) (.c (.str (ByteArray.mk #[117, 110, 105, 116])))), oa 21 (.mov (.t 22))] (kp 154 [2,3,4,5,6,7,8,9,11,21]))
  (.cond (.t 21)
  (sk 154 [2,3,4,5,6,7,8,9,11,21])
  (.region [oa 23 (.bin .eql (.t 11) (.c (.str (ByteArray.mk #[110, 105, 108])))), oa 21 (.mov (.t 23))] (kp 154 [2,3,4,5,6,7,8,9,11,21]))))
  (.cond (.t 21)
  (sk 154 [4,5,6,7,8,9])
  (.seq (.region [oa 25 (.bin .eql (.t 11) (.c (.str (ByteArray.mk #[116, 101, 120, 116])))), oa 24 (.mov (.t 25))] (kp 154 [2,3,4,5,6,7,8,9,11,24]))
  (.cond (.t 24)
  (.region [oa 26 (.fieldAddr 3 (.t 3)), oa 27 (.load none (.t 26)), oa 28 (.fieldAddr 3 (.t 3)), oa 29 (.load none (.t 28)), oa 30 (.call 159 [(.t 29)]), ob (.again 27 (.load none (.t 26))), oa 6 (.mov (.t 27)), oa 9 (.mov (.t 30))] (kp 154 [4,5,6,7,8,9]))
  (.seq (.region [oa 32 (.bin .eql (.t 11) (.c (.str (ByteArray.mk #[118, 97, 114])))), oa 31 (.mov (.t 32))] (kp 154 [2,3,4,5,6,7,8,9,11,31]))
  (.cond (.t 31)
  (.region [oa 33 (.fieldAddr 1 (.t 3)), oa 34 (.load none (.t 33)), oa 35 (.fieldAddr 1 (.t 3)), oa 36 (.load none (.t 35)), oa 37 (.call 72 [(.t 36)]), ob (.again 34 (.load none (.t 33))), oa 4 (.mov (.t 34)), oa 9 (.mov (.t 37))] (kp 154 [4,5,6,7,8,9]))
  (.seq (.region [oa 39 (.bin .eql (.t 11) (.c (.str (ByteArray.mk #[102, 110])))), oa 38 (.mov (.t 39))] (kp 154 [2,3,4,5,6,7,8,9,11,38]))
  (.cond (.t 38)
  (.region [oa 40 (.fieldAddr 2 (.t 3)), oa 41 (.load none (.t 40)), oa 42 (.load (some 1) (.t 2)), oa 43 (.fieldAddr 2 (.t 3)), oa 44 (.load none (.t 43)), oa 45 (.call 160 [(.t 42), (.t 44)]), ob (.again 41 (.load none (.t 40))), oa 5 (.mov (.t 41)), oa 8 (.mov (ai 1)), oa 9 (.mov (.t 45))] (kp 154 [4,5,6,7,8,9]))
  (.seq (.region [oa 47 (.bin .eql (.t 11) (.c (.str (ByteArray.mk #[97, 112, 112])))), oa 46 (.mov (.t 47))] (kp 154 [2,3,4,5,6,7,8,9,11,46]))
  (.cond (.t 46)
  (.region [oa 48 (.fieldAddr 5 (.t 3)), oa 49 (.load none (.t 48)), oa 50 (.lenSlice (.t 49)), oa 51 (.bin .eql (.t 50) (ai 2)), oa 52 (.mov (.t 51)), oc 53 (.fieldAddr 5 (.t 3)) 52 tt, oc 54 (.load none (.t 53)) 52 tt, oc 55 (.indexAddr 12 (.t 54) (ai 0)) 52 tt, oc 56 (.fieldAddr 0 (.t 55)) 52 tt, oc 57 (.load none (.t 56)) 52 tt, oc 58 (.bin .neq (.t 57) (.c (.str (ByteArray.mk #[99, 111, 110])))) 52 tt, oc 59 (.mov (.t 58)) 52 tt, oc 60 (.fieldAddr 5 (.t 3)) 59 ff, oc 61 (.load none (.t 60)) 59 ff, oc 62 (.indexAddr 12 (.t 61) (ai 0)) 59 ff, oc 63 (.fieldAddr 5 (.t 62)) 59 ff, oc 64 (.load none (.t 63)) 59 ff, oc 65 (.lenSlice (.t 64)) 59 ff, oc 66 (.bin .gtr (.t 65) (ai 0)) 59 ff, oc 67 (.pick (.t 59) (.c (.bool true)) (.t 66)) 52 tt, oa 68 (.pick (.t 52) (.t 67) (.c (.bool false))), oa 8 (.mov (ai 2)), oa 9 (.mov (.t 68))] (kp 154 [4,5,6,7,8,9]))
  (.seq (.seq (.region [oa 70 (.bin .eql (.t 11) (.c (.str (ByteArray.mk #[112, 97, 105, 114])))), oa 69 (.mov (.t 70))] (kp 154 [2,3,4,5,6,7,8,9,11,69]))
  (.cond (.t 69)
  (sk 154 [2,3,4,5,6,7,8,9,11,69])
  (.region [oa 71 (.bin .eql (.t 11) (.c (.str (ByteArray.mk #[99, 111, 110, 115])))), oa 69 (.mov (.t 71))] (kp 154 [2,3,4,5,6,7,8,9,11,69]))))
  (.cond (.t 69)
  (.region [oa 8 (.mov (ai 2))] (kp 154 [4,5,6,7,8,9]))
  (.seq (.seq (.region [oa 73 (.bin .eql (.t 11) (.c (.str (ByteArray.mk #[99, 111, 110])))), oa 72 (.mov (.t 73))] (kp 154 [2,3,4,5,6,7,8,9,11,72]))
  (.cond (.t 72)
  (sk 154 [2,3,4,5,6,7,8,9,11,72])
  (.region [oa 74 (.bin .eql (.t 11) (.c (.str (ByteArray.mk #[114, 97, 105, 115, 101])))), oa 72 (.mov (.t 74))] (kp 154 [2,3,4,5,6,7,8,9,11,72]))))
  (.cond (.t 72)
  (.region [oa 75 (.fieldAddr 1 (.t 3)), oa 76 (.load none (.t 75)), oa 77 (.fieldAddr 5 (.t 3)), oa 78 (.load none (.t 77)), oa 79 (.lenSlice (.t 78)), oa 80 (.minmax false (.t 79) (ai 1)), oa 81 (.fieldAddr 1 (.t 3)), oa 82 (.load none (.t 81)), oa 83 (.call 123 [(.t 82)]), ob (.again 76 (.load none (.t 75))), ob (.again 78 (.load none (.t 77))), oa 4 (.mov (.t 76)), oa 8 (.mov (.t 80)), oa 9 (.mov (.t 83))] (kp 154 [4,5,6,7,8,9]))
  (.seq (.region [oa 85 (.bin .eql (.t 11) (.c (.str (ByteArray.mk #[108, 101, 116])))), oa 84 (.mov (.t 85))] (kp 154 [2,3,4,5,6,7,8,9,11,84]))
  (.cond (.t 84)
  (.region [oa 86 (.fieldAddr 2 (.t 3)), oa 87 (.load none (.t 86)), oa 88 (.load (some 1) (.t 2)), oa 89 (.fieldAddr 2 (.t 3)), oa 90 (.load none (.t 89)), oa 91 (.call 160 [(.t 88), (.t 90)]), ob (.again 87 (.load none (.t 86))), oa 5 (.mov (.t 87)), oa 8 (.mov (ai 2)), oa 9 (.mov (.t 91))] (kp 154 [4,5,6,7,8,9]))
  (.seq (.region [oa 93 (.bin .eql (.t 11) (.c (.str (ByteArray.mk #[102, 117, 110])))), oa 92 (.mov (.t 93))] (kp 154 [2,3,4,5,6,7,8,9,11,92]))
  (.cond (.t 92)
  (.region [oa 94 (.fieldAddr 1 (.t 3)), oa 95 (.load none (.t 94)), oa 96 (.fieldAddr 2 (.t 3)), oa 97 (.load none (.t 96)), oa 98 (.load (some 1) (.t 2)), oa 99 (.fieldAddr 1 (.t 3)), oa 100 (.load none (.t 99)), oa 101 (.call 160 [(.t 98), (.t 100)]), ob (.again 95 (.load none (.t 94))), ob (.again 97 (.load none (.t 96))), oa 102 (.mov (.t 101)), oc 103 (.load (some 1) (.t 2)) 102 tt, oc 104 (.fieldAddr 2 (.t 3)) 102 tt, oc 105 (.load none (.t 104)) 102 tt, oc 106 (.call 160 [(.t 103), (.t 105)]) 102 tt, ob (.again 95 (.load none (.t 94))), ob (.again 97 (.load none (.t 96))), oa 107 (.pick (.t 102) (.t 106) (.c (.bool false))), oa 4 (.mov (.t 95)), oa 5 (.mov (.t 97)), oa 8 (.mov (ai 2)), oa 9 (.mov (.t 107))] (kp 154 [4,5,6,7,8,9]))
  (.seq (.region [oa 109 (.bin .eql (.t 11) (.c (.str (ByteArray.mk #[105, 102])))), oa 108 (.mov (.t 109))] (kp 154 [2,3,4,5,6,7,8,9,11,108]))
  (.cond (.t 108)
  (.region [oa 8 (.mov (ai 3))] (kp 154 [4,5,6,7,8,9]))
  (.seq (.region [oa 111 (.bin .eql (.t 11) (.c (.str (ByteArray.mk #[99, 97, 115, 101])))), oa 110 (.mov (.t 111))] (kp 154 [2,3,4,5,6,7,8,11,110]))
  (.cond (.t 110)
  (.region [oa 112 (.fieldAddr 6 (.t 3)), oa 113 (.load none (.t 112)), oa 114 (.lenSlice (.t 113)), oa 115 (.bin .add (.t 114) (ai 1)), oa 116 (.fieldAddr 6 (.t 3)), oa 117 (.load none (.t 116)), oa 118 (.lenSlice (.t 117)), oa 119 (.bin .gtr (.t 118) (ai 0)), oa 8 (.mov (.t 115)), oa 9 (.mov (.t 119))] (kp 154 [4,5,6,7,8,9]))
  (.seq (.region [oa 121 (.bin .eql (.t 11) (.c (.str (ByteArray.mk #[111, 112])))), oa 120 (.mov (.t 121))] (kp 154 [2,3,4,5,6,7,8,11,120]))
  (.cond (.t 120)
  (.region [oa 122 (.fieldAddr 1 (.t 3)), oa 123 (.load none (.t 122)), oa 124 (.fieldAddr 1 (.t 3)), oa 125 (.load none (.t 124)), oa 126 (.call 161 [(.t 125)]), ob (.again 123 (.load none (.t 122))), oa 4 (.mov (.t 123)), oa 8 (.mov (.t 126)), oa 9 (.mov (.c (.bool true)))] (kp 154 [4,5,6,7,8,9]))
  (.seq (.region [oa 128 (.bin .eql (.t 11) (.c (.str (ByteArray.mk #[104, 97, 110, 100, 108, 101])))), oa 127 (.mov (.t 128))] (kp 154 [2,3,4,5,6,7,8,127]))
  (.cond (.t 127)
  (.region [oa 129 (.fieldAddr 1 (.t 3)), oa 130 (.load none (.t 129)), oa 131 (.fieldAddr 2 (.t 3)), oa 132 (.load none (.t 131)), oa 133 (.fieldAddr 1 (.t 3)), oa 134 (.load none (.t 133)), oa 135 (.call 123 [(.t 134)]), ob (.again 130 (.load none (.t 129))), ob (.again 132 (.load none (.t 131))), oa 136 (.mov (.t 135)), oc 137 (.fieldAddr 2 (.t 3)) 136 tt, oc 138 (.load none (.t 137)) 136 tt, oc 139 (.bin .eql (.t 138) (.c (.str (ByteArray.mk #[])))) 136 tt, oc 140 (.mov (.t 139)) 136 tt, oc 141 (.load (some 1) (.t 2)) 140 ff, oc 142 (.fieldAddr 2 (.t 3)) 140 ff, oc 143 (.load none (.t 142)) 140 ff, oc 144 (.call 160 [(.t 141), (.t 143)]) 140 ff, ob (.again 130 (.load none (.t 129))), ob (.again 132 (.load none (.t 131))), oc 145 (.pick (.t 140) (.c (.bool true)) (.t 144)) 136 tt, oa 146 (.pick (.t 136) (.t 145) (.c (.bool false))), oa 4 (.mov (.t 130)), oa 5 (.mov (.t 132)), oa 8 (.mov (ai 2)), oa 9 (.mov (.t 146))] (kp 154 [4,5,6,7,8,9]))
  (.region [oa 9 (.mov (.c (.bool false)))] (kp 154 [4,5,6,7,8,9]))))))))))))))))))))))))))))))))))
  (.seq (.seq (.region [oa 147 (.mov (.t 9)), oa 148 (.un .not (.t 147))] (kp 154 [4,5,6,7,8,148]))
  (.cond (.t 148)
  (.region [oa 8 (.mov (ai (-1)))] (kp 154 [4,5,6,7,8]))
  (sk 154 [4,5,6,7,8])))
  (.seq (.region [oa 149 (.mov (.t 4)), oa 150 (.mov (.t 5)), oa 151 (.mov (.t 6)), oa 152 (.mov (.t 7)), oa 153 (.mov (.t 8)), oa 4 (.mov (.t 149)), oa 5 (.mov (.t 150)), oa 6 (.mov (.t 151)), oa 7 (.mov (.t 152)), oa 8 (.mov (.t 153))] (kp 154 [4,5,6,7,8]))
  (sr 154 [4,5,6,7,8]))))))⟩
theorem F104 : shutF Tryz.prog 104 = some c104 := by kernel_rfl

-- slices.ContainsFunc[[]virgate/api.Pat,virgate/api.Pat]

def c105 : IFn := ⟨9, [(4, none)],
  (.seq (.region [oa 4 (.mov (.c (.bool false)))] (kp 9 [0,1]))
  (.seq (.region [oa 5 (.mov (.t 0)), oa 6 (.mov (.t 1)), oa 7 (.call 162 [(.t 5), (.t 6)]), oa 8 (.bin .geq (.t 7) (ai 0)), oa 4 (.mov (.t 8))] (kp 9 [4]))
  (sr 9 [4])))⟩
theorem F105 : shutF Tryz.prog 105 = some c105 := by kernel_rfl

-- slices.ContainsFunc[[]virgate/api.Exp,virgate/api.Exp]

def c108 : IFn := ⟨9, [(4, none)],
  (.seq (.region [oa 4 (.mov (.c (.bool false)))] (kp 9 [0,1]))
  (.seq (.region [oa 5 (.mov (.t 0)), oa 6 (.mov (.t 1)), oa 7 (.call 164 [(.t 5), (.t 6)]), oa 8 (.bin .geq (.t 7) (ai 0)), oa 4 (.mov (.t 8))] (kp 9 [4]))
  (sr 9 [4])))⟩
theorem F108 : shutF Tryz.prog 108 = some c108 := by kernel_rfl

-- virgate/tree.IsZero

def c110 : IFn := ⟨17, [(2, none)],
  (.seq (.region [oa 1 (.box (.t 0)), oa 2 (.mov (.c (.bool false)))] (kp 17 [1]))
  (.seq (.region [oa 3 (.fieldAddr 0 (.t 1)), oa 4 (.load none (.t 3)), oa 5 (.bin .eql (.t 4) (.c (.str (ByteArray.mk #[])))), oa 6 (.mov (.t 5)), oc 7 (.fieldAddr 1 (.t 1)) 6 tt, oc 8 (.load none (.t 7)) 6 tt, oc 9 (.bin .eql (.t 8) (.c (.str (ByteArray.mk #[])))) 6 tt, oa 10 (.pick (.t 6) (.t 9) (.c (.bool false))), oa 11 (.mov (.t 10)), oc 12 (.fieldAddr 2 (.t 1)) 11 tt, oc 13 (.load none (.t 12)) 11 tt, oc 14 (.lenSlice (.t 13)) 11 tt, oc 15 (.bin .eql (.t 14) (ai 0)) 11 tt, oa 16 (.pick (.t 11) (.t 15) (.c (.bool false))), oa 2 (.mov (.t 16))] (kp 17 [2]))
  (sr 17 [2])))⟩
theorem F110 : shutF Tryz.prog 110 = some c110 := by kernel_rfl

-- virgate/tree.above
def l113_0 : IC := (.seq (.seq (.region [oa 10 (.bin .lss (.t 9) (.t 8))] (kp 28 [2,3,7,8,9,10]))
  (.seq (.cond (.t 10)
  (sk 28 [2,3,7,8,9])
  (sx 28 [2,3] 0))
  (.seq (.block 1
  (.seq (.region [oa 11 (.indexAddr 2 (.t 7) (.t 9)), oa 12 (.load (some 2) (.t 11)), oa 5 (.alloc [(.int .i64 (0)), (.int .i64 (0))]), ob (.store 2 (.t 5) (.t 12))] (kp 28 [2,3,5,7,8,9]))
  (.seq (.region [oa 13 (.fieldAddr 0 (.t 3)), oa 14 (.load none (.t 13)), oa 15 (.fieldAddr 0 (.t 5)), oa 16 (.load none (.t 15)), oa 17 (.bin .add (.t 14) (.t 16)), oa 18 (.fieldAddr 0 (.t 3)), ob (.store 1 (.t 18) (.t 17))] (kp 28 [2,3,5,7,8,9]))
  (.region [oa 19 (.fieldAddr 1 (.t 3)), oa 20 (.load none (.t 19)), oa 21 (.fieldAddr 1 (.t 5)), oa 22 (.load none (.t 21)), oa 23 (.bin .add (.t 22) (ai 1)), oa 24 (.minmax true (.t 20) (.t 23)), oa 25 (.fieldAddr 1 (.t 3)), ob (.store 1 (.t 25) (.t 24))] (kp 28 [2,3,7,8,9])))))
  (.region [oa 26 (.bin .add (.t 9) (ai 1)), oa 9 (.mov (.t 26))] (kp 28 [2,3,7,8,9])))))
  (sk 28 [2,3,7,8,9]))
def c113 : IFn := ⟨28, [(2, (some (some 2)))],
  (.seq (.region [oa 2 (.alloc [(.int .i64 (0)), (.int .i64 (0))])] (kp 28 [0,2]))
  (.seq (.region [oa 6 (.build [(.int .i64 (0)), (.int .i64 (0))] [(0, 1, (ai 1)), (1, 1, (ai 1))]), oa 3 (.alloc [(.int .i64 (0)), (.int .i64 (0))]), ob (.store 2 (.t 3) (.t 6))] (kp 28 [0,2,3]))
  (.seq (.seq (.region [oa 7 (.mov (.t 0)), oa 8 (.lenSlice (.t 7)), oa 9 (.mov (ai 0))] (kp 28 [2,3,7,8,9]))
  (.block 0
  (.seq (sk 28 [2,3,7,8,9])
  (.loop l113_0))))
  (.seq (.region [oa 27 (.load (some 2) (.t 3)), ob (.store 2 (.t 2) (.t 27))] (kp 28 [2]))
  (sr 28 [2])))))⟩
theorem F113 : shutF Tryz.prog 113 = some c113 := by kernel_rfl

-- virgate/tree.free
def l114_0 : IC := (.seq (.seq (.region [oa 25 (.bin .lss (.t 24) (.t 23))] (kp 38 [1,2,3,22,23,24,25]))
  (.seq (.cond (.t 25)
  (sk 38 [1,2,3,22,23,24])
  (sx 38 [] 0))
  (.seq (.block 1
  (.seq (.region [oa 26 (.mov (.t 24)), oa 27 (.indexAddr 12 (.t 22) (.t 24)), oa 28 (.load (some 12) (.t 27)), oa 7 (.alloc [(.str (ByteArray.mk #[])), (.str (ByteArray.mk #[])), (.str (ByteArray.mk #[])), (.str (ByteArray.mk #[])), (.int .i64 (0)), (.slice none 0 (some 0)), (.slice none 0 (some 0)), (.str (ByteArray.mk #[])), (.str (ByteArray.mk #[])), (.slice none 0 (some 0)), (.slice none 0 (some 0)), (.slice none 0 (some 0))]), oa 6 (.mov (.t 26)), ob (.store 12 (.t 7) (.t 28))] (kp 38 [1,2,3,6,7,22,23,24]))
  (.region [oa 29 (.load (some 12) (.t 7)), oa 30 (.mov (.t 1)), oa 31 (.load (some 12) (.t 3)), oa 32 (.mov (.t 6)), oa 35 (.mov (.t 2)), oa 33 (.call 167 [(.t 31), (.t 32)]), ob (.again 29 (.load (some 12) (.t 7))), oa 34 (.call 166 [(.t 30), (.t 33)]), ob (.again 29 (.load (some 12) (.t 7))), oa 36 (.call 114 [(.t 29), (.t 34), (.t 35)])] (kp 38 [1,2,3,22,23,24]))))
  (.region [oa 37 (.bin .add (.t 24) (ai 1)), oa 24 (.mov (.t 37))] (kp 38 [1,2,3,22,23,24])))))
  (sk 38 [1,2,3,22,23,24]))
def c114 : IFn := ⟨38, [],
  (.seq (.region [oa 3 (.box (.t 0))] (kp 38 [1,2,3]))
  (.seq (.seq (.region [oa 8 (.fieldAddr 0 (.t 3)), oa 9 (.load none (.t 8)), oa 10 (.bin .eql (.t 9) (.c (.str (ByteArray.mk #[118, 97, 114])))), oa 11 (.mov (.t 10)), oc 12 (.mov (.t 1)) 11 tt, oc 13 (.fieldAddr 1 (.t 3)) 11 tt, oc 14 (.load none (.t 13)) 11 tt, oc 15 (.call 165 [(.t 12), (.t 14)]) 11 tt, oc 16 (.un .not (.t 15)) 11 tt, oa 17 (.pick (.t 11) (.t 16) (.c (.bool false)))] (kp 38 [1,2,3,17]))
  (.cond (.t 17)
  (.region [oa 18 (.mov (.t 2)), oa 19 (.fieldAddr 1 (.t 3)), oa 20 (.load none (.t 19)), ob (.mapSet (.one .s) (.t 18) (.t 20) (.c (.bool true)))] (kp 38 [1,2,3]))
  (sk 38 [1,2,3])))
  (.seq (.region [oa 21 (.fieldAddr 5 (.t 3)), oa 22 (.load none (.t 21)), oa 23 (.lenSlice (.t 22)), oa 24 (.mov (ai 0))] (kp 38 [1,2,3,22,23,24]))
  (.block 0
  (.seq (sk 38 [1,2,3,22,23,24])
  (.loop l114_0))))))⟩
theorem F114 : shutF Tryz.prog 114 = some c114 := by kernel_rfl

-- slices.Sort[[]string,string]

def c115 : IFn := ⟨11, [],
  (.seq (.region [oa 3 (.mov (.t 0)), oa 4 (.lenSlice (.t 3)), oa 2 (.mov (.t 4))] (kp 11 [0,2]))
  (.region [oa 5 (.mov (.t 0)), oa 6 (.mov (.t 2)), oa 7 (.mov (.t 2)), oa 8 (.conv .u64 (.t 7)), oa 9 (.call 158 [(.t 8)]), oa 10 (.call 168 [(.t 5), (ai 0), (.t 6), (.t 9)])] (kp 11 [])))⟩
theorem F115 : shutF Tryz.prog 115 = some c115 := by kernel_rfl

-- virgate/token.IsCon

def c123 : IFn := ⟨6, [(2, none)],
  (.seq (.region [oa 2 (.mov (.c (.bool false)))] (kp 6 [0]))
  (.seq (.region [oa 3 (.mov (.t 0)), oa 4 (.build [(.str (ByteArray.mk #[])), (.str (ByteArray.mk #[])), (.int .i64 (0))] [(0, 1, (.c (.str (ByteArray.mk #[99, 111, 110])))), (1, 1, (.t 3))]), oa 5 (.call 127 [(.t 4)]), oa 2 (.mov (.t 5))] (kp 6 [2]))
  (sr 6 [2])))⟩
theorem F123 : shutF Tryz.prog 123 = some c123 := by kernel_rfl

-- slices.IndexFunc[[]virgate/api.Con,virgate/api.Con]
def l125_0 : IC := (.seq (.seq (.region [oa 9 (.bin .lss (.t 8) (.t 7))] (kp 19 [0,1,7,8,9]))
  (.seq (.cond (.t 9)
  (sk 19 [0,1,7,8])
  (sx 19 [] 0))
  (.seq (.block 1
  (.seq (.region [oa 10 (.mov (.t 8)), oa 5 (.mov (.t 10))] (kp 19 [0,1,5,7,8]))
  (.seq (.region [oa 11 (.mov (.t 1)), oa 12 (.mov (.t 0)), oa 13 (.mov (.t 5)), oa 14 (.indexAddr 5 (.t 12) (.t 13)), oa 15 (.load (some 5) (.t 14)), oa 16 (.callv (.t 11) [(.t 15)])] (kp 19 [0,1,5,7,8,16]))
  (.cond (.t 16)
  (.seq (.region [oa 17 (.mov (.t 5)), oa 4 (.mov (.t 17))] (kp 19 [4]))
  (sr 19 [4]))
  (sk 19 [0,1,7,8])))))
  (.region [oa 18 (.bin .add (.t 8) (ai 1)), oa 8 (.mov (.t 18))] (kp 19 [0,1,7,8])))))
  (sk 19 [0,1,7,8]))
def c125 : IFn := ⟨19, [(4, none)],
  (.seq (.region [oa 4 (.mov (ai 0))] (kp 19 [0,1]))
  (.seq (.seq (.region [oa 6 (.mov (.t 0)), oa 7 (.lenSlice (.t 6)), oa 8 (.mov (ai 0))] (kp 19 [0,1,7,8]))
  (.block 0
  (.seq (sk 19 [0,1,7,8])
  (.loop l125_0))))
  (.seq (.region [oa 4 (.mov (ai (-1)))] (kp 19 [4]))
  (sr 19 [4]))))⟩
theorem F125 : shutF Tryz.prog 125 = some c125 := by kernel_rfl


def tab2 : List (Nat × IFn) := [(85, c85), (86, c86), (90, c90), (91, c91), (92, c92), (93, c93), (94, c94), (95, c95), (96, c96), (97, c97), (98, c98), (99, c99), (100, c100), (101, c101), (102, c102), (103, c103), (104, c104), (105, c105), (108, c108), (110, c110), (113, c113), (114, c114), (115, c115), (123, c123), (125, c125)]
theorem tab2_ok : ∀ p ∈ tab2, PF p.1 = some p.2 := by
  simp only [tab2, List.mem_cons, List.not_mem_nil, or_false, forall_eq_or_imp, forall_eq]
  exact ⟨F85, F86, F90, F91, F92, F93, F94, F95, F96, F97, F98, F99, F100, F101, F102, F103, F104, F105, F108, F110, F113, F114, F115, F123, F125⟩
end Go.Proofs.YtfcaamoapdibiaaGreatDoor.S
