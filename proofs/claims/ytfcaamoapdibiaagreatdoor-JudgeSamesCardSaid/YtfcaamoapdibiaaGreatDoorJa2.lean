/- Layer 11: how the program compares. -/
import Derived.Test.YtfcaamoapdibiaaGreatDoorJa1
set_option linter.unusedSimpArgs false
set_option linter.unusedVariables false
namespace Go.Proofs.YtfcaamoapdibiaaGreatDoor
open Go Go.IM

-- virgate/judge.Same

def c6 : IFn := ⟨24, [(4, none)],
  (.seq (.region [oa 2 (.box (.t 0)), oa 3 (.box (.t 1)), oa 4 (.mov (.c (.bool false)))] (kp 24 [2,3]))
  (.seq (.region [oa 5 (.fieldAddr 0 (.t 2)), oa 6 (.load none (.t 5)), oa 7 (.fieldAddr 0 (.t 3)), oa 8 (.load none (.t 7)), oa 9 (.call 13 [(.t 6), (.t 8), (.c (.func 14 [] []))]), oa 10 (.mov (.t 9)), oc 11 (.fieldAddr 1 (.t 2)) 10 tt, oc 12 (.load none (.t 11)) 10 tt, oc 13 (.fieldAddr 1 (.t 3)) 10 tt, oc 14 (.load none (.t 13)) 10 tt, oc 15 (.call 15 [(.t 12), (.t 14), (.c (.func 16 [] []))]) 10 tt, oa 16 (.pick (.t 10) (.t 15) (.c (.bool false))), oa 17 (.mov (.t 16)), oc 18 (.fieldAddr 2 (.t 2)) 17 tt, oc 19 (.load (some 17) (.t 18)) 17 tt, oc 20 (.fieldAddr 2 (.t 3)) 17 tt, oc 21 (.load (some 17) (.t 20)) 17 tt, oc 22 (.call 17 [(.t 19), (.t 21)]) 17 tt, oa 23 (.pick (.t 17) (.t 22) (.c (.bool false))), oa 4 (.mov (.t 23))] (kp 24 [4]))
  (sr 24 [4])))⟩
theorem F6 : shutF Tryz.prog 6 = some c6 := by kernel_rfl

-- slices.EqualFunc[[]virgate/api.Data,[]virgate/api.Data,virgate/api.Data,virgate/api.Data]
def l13_0 : IC := (.seq (.seq (.region [oa 18 (.bin .lss (.t 17) (.t 16))] (kp 32 [1,2,15,16,17,18]))
  (.seq (.cond (.t 18)
  (sk 32 [1,2,15,16,17])
  (sx 32 [] 0))
  (.seq (.block 1
  (.seq (.region [oa 19 (.mov (.t 17)), oa 20 (.indexAddr 2 (.t 15) (.t 17)), oa 21 (.load (some 2) (.t 20)), oa 8 (.alloc [(.str (ByteArray.mk #[])), (.slice none 0 (some 0))]), oa 7 (.mov (.t 19)), ob (.store 2 (.t 8) (.t 21))] (kp 32 [1,2,7,8,15,16,17]))
  (.seq (.region [oa 22 (.mov (.t 1)), oa 23 (.mov (.t 7)), oa 24 (.indexAddr 2 (.t 22) (.t 23)), oa 25 (.load (some 2) (.t 24)), oa 9 (.alloc [(.str (ByteArray.mk #[])), (.slice none 0 (some 0))]), ob (.store 2 (.t 9) (.t 25))] (kp 32 [1,2,8,9,15,16,17]))
  (.seq (.region [oa 26 (.mov (.t 2)), oa 27 (.load (some 2) (.t 8)), oa 28 (.load (some 2) (.t 9)), oa 29 (.callv (.t 26) [(.t 27), (.t 28)]), oa 30 (.un .not (.t 29))] (kp 32 [1,2,15,16,17,30]))
  (.cond (.t 30)
  (.seq (.region [oa 6 (.mov (.c (.bool false)))] (kp 32 [6]))
  (sr 32 [6]))
  (sk 32 [1,2,15,16,17]))))))
  (.region [oa 31 (.bin .add (.t 17) (ai 1)), oa 17 (.mov (.t 31))] (kp 32 [1,2,15,16,17])))))
  (sk 32 [1,2,15,16,17]))
def c13 : IFn := ⟨32, [(6, none)],
  (.seq (.region [oa 6 (.mov (.c (.bool false)))] (kp 32 [0,1,2]))
  (.seq (.seq (.region [oa 10 (.mov (.t 0)), oa 11 (.lenSlice (.t 10)), oa 12 (.mov (.t 1)), oa 13 (.lenSlice (.t 12)), oa 14 (.bin .neq (.t 11) (.t 13))] (kp 32 [0,1,2,14]))
  (.cond (.t 14)
  (.seq (.region [oa 6 (.mov (.c (.bool false)))] (kp 32 [6]))
  (sr 32 [6]))
  (sk 32 [0,1,2])))
  (.seq (.seq (.region [oa 15 (.mov (.t 0)), oa 16 (.lenSlice (.t 15)), oa 17 (.mov (ai 0))] (kp 32 [1,2,15,16,17]))
  (.block 0
  (.seq (sk 32 [1,2,15,16,17])
  (.loop l13_0))))
  (.seq (.region [oa 6 (.mov (.c (.bool true)))] (kp 32 [6]))
  (sr 32 [6])))))⟩
theorem F13 : shutF Tryz.prog 13 = some c13 := by kernel_rfl

-- virgate/judge.Same$1

def c14 : IFn := ⟨17, [(4, none)],
  (.seq (.region [oa 2 (.box (.t 0)), oa 3 (.box (.t 1)), oa 4 (.mov (.c (.bool false)))] (kp 17 [2,3]))
  (.seq (.region [oa 5 (.fieldAddr 0 (.t 2)), oa 6 (.load none (.t 5)), oa 7 (.fieldAddr 0 (.t 3)), oa 8 (.load none (.t 7)), oa 9 (.bin .eql (.t 6) (.t 8)), oa 10 (.mov (.t 9)), oc 11 (.fieldAddr 1 (.t 2)) 10 tt, oc 12 (.load none (.t 11)) 10 tt, oc 13 (.fieldAddr 1 (.t 3)) 10 tt, oc 14 (.load none (.t 13)) 10 tt, oc 15 (.call 15 [(.t 12), (.t 14), (.c (.func 16 [] []))]) 10 tt, oa 16 (.pick (.t 10) (.t 15) (.c (.bool false))), oa 4 (.mov (.t 16))] (kp 17 [4]))
  (sr 17 [4])))⟩
theorem F14 : shutF Tryz.prog 14 = some c14 := by kernel_rfl

-- slices.EqualFunc[[]virgate/api.Con,[]virgate/api.Con,virgate/api.Con,virgate/api.Con]
def l15_0 : IC := (.seq (.seq (.region [oa 18 (.bin .lss (.t 17) (.t 16))] (kp 32 [1,2,15,16,17,18]))
  (.seq (.cond (.t 18)
  (sk 32 [1,2,15,16,17])
  (sx 32 [] 0))
  (.seq (.block 1
  (.seq (.region [oa 19 (.mov (.t 17)), oa 20 (.indexAddr 5 (.t 15) (.t 17)), oa 21 (.load (some 5) (.t 20)), oa 8 (.alloc [(.str (ByteArray.mk #[])), (.bool false), (.str (ByteArray.mk #[])), (.str (ByteArray.mk #[])), (.slice none 0 (some 0))]), oa 7 (.mov (.t 19)), ob (.store 5 (.t 8) (.t 21))] (kp 32 [1,2,7,8,15,16,17]))
  (.seq (.region [oa 22 (.mov (.t 1)), oa 23 (.mov (.t 7)), oa 24 (.indexAddr 5 (.t 22) (.t 23)), oa 25 (.load (some 5) (.t 24)), oa 9 (.alloc [(.str (ByteArray.mk #[])), (.bool false), (.str (ByteArray.mk #[])), (.str (ByteArray.mk #[])), (.slice none 0 (some 0))]), ob (.store 5 (.t 9) (.t 25))] (kp 32 [1,2,8,9,15,16,17]))
  (.seq (.region [oa 26 (.mov (.t 2)), oa 27 (.load (some 5) (.t 8)), oa 28 (.load (some 5) (.t 9)), oa 29 (.callv (.t 26) [(.t 27), (.t 28)]), oa 30 (.un .not (.t 29))] (kp 32 [1,2,15,16,17,30]))
  (.cond (.t 30)
  (.seq (.region [oa 6 (.mov (.c (.bool false)))] (kp 32 [6]))
  (sr 32 [6]))
  (sk 32 [1,2,15,16,17]))))))
  (.region [oa 31 (.bin .add (.t 17) (ai 1)), oa 17 (.mov (.t 31))] (kp 32 [1,2,15,16,17])))))
  (sk 32 [1,2,15,16,17]))
def c15 : IFn := ⟨32, [(6, none)],
  (.seq (.region [oa 6 (.mov (.c (.bool false)))] (kp 32 [0,1,2]))
  (.seq (.seq (.region [oa 10 (.mov (.t 0)), oa 11 (.lenSlice (.t 10)), oa 12 (.mov (.t 1)), oa 13 (.lenSlice (.t 12)), oa 14 (.bin .neq (.t 11) (.t 13))] (kp 32 [0,1,2,14]))
  (.cond (.t 14)
  (.seq (.region [oa 6 (.mov (.c (.bool false)))] (kp 32 [6]))
  (sr 32 [6]))
  (sk 32 [0,1,2])))
  (.seq (.seq (.region [oa 15 (.mov (.t 0)), oa 16 (.lenSlice (.t 15)), oa 17 (.mov (ai 0))] (kp 32 [1,2,15,16,17]))
  (.block 0
  (.seq (sk 32 [1,2,15,16,17])
  (.loop l15_0))))
  (.seq (.region [oa 6 (.mov (.c (.bool true)))] (kp 32 [6]))
  (sr 32 [6])))))⟩
theorem F15 : shutF Tryz.prog 15 = some c15 := by kernel_rfl

-- virgate/judge.sameCon

def c16 : IFn := ⟨24, [(4, none)],
  (.seq (.region [oa 2 (.box (.t 0)), oa 3 (.box (.t 1)), oa 4 (.mov (.c (.bool false)))] (kp 24 [2,3]))
  (.seq (.region [oa 5 (.fieldAddr 0 (.t 2)), oa 6 (.load none (.t 5)), oa 7 (.fieldAddr 0 (.t 3)), oa 8 (.load none (.t 7)), oa 9 (.bin .eql (.t 6) (.t 8)), oa 10 (.mov (.t 9)), oc 11 (.fieldAddr 1 (.t 2)) 10 tt, oc 12 (.load none (.t 11)) 10 tt, oc 13 (.fieldAddr 1 (.t 3)) 10 tt, oc 14 (.load none (.t 13)) 10 tt, oc 15 (.eql false (.key (.one .b)) (.t 12) (.t 14)) 10 tt, oa 16 (.pick (.t 10) (.t 15) (.c (.bool false))), oa 17 (.mov (.t 16)), oc 18 (.fieldAddr 2 (.t 2)) 17 tt, oc 19 (.load (some 3) (.t 18)) 17 tt, oc 20 (.fieldAddr 2 (.t 3)) 17 tt, oc 21 (.load (some 3) (.t 20)) 17 tt, oc 22 (.call 22 [(.t 19), (.t 21)]) 17 tt, oa 23 (.pick (.t 17) (.t 22) (.c (.bool false))), oa 4 (.mov (.t 23))] (kp 24 [4]))
  (sr 24 [4])))⟩
theorem F16 : shutF Tryz.prog 16 = some c16 := by kernel_rfl

-- virgate/place.Same

def c17 : IFn := ⟨94, [(4, none)],
  (.seq (.region [oa 2 (.box (.t 0)), oa 3 (.box (.t 1)), oa 4 (.mov (.c (.bool false)))] (kp 94 [2,3]))
  (.seq (.region [oa 5 (.fieldAddr 0 (.t 2)), oa 6 (.load none (.t 5)), oa 7 (.fieldAddr 0 (.t 3)), oa 8 (.load none (.t 7)), oa 9 (.bin .eql (.t 6) (.t 8)), oa 10 (.mov (.t 9)), oc 11 (.fieldAddr 1 (.t 2)) 10 tt, oc 12 (.load none (.t 11)) 10 tt, oc 13 (.fieldAddr 1 (.t 3)) 10 tt, oc 14 (.load none (.t 13)) 10 tt, oc 15 (.bin .eql (.t 12) (.t 14)) 10 tt, oa 16 (.pick (.t 10) (.t 15) (.c (.bool false))), oa 17 (.mov (.t 16)), oc 18 (.fieldAddr 2 (.t 2)) 17 tt, oc 19 (.load none (.t 18)) 17 tt, oc 20 (.fieldAddr 2 (.t 3)) 17 tt, oc 21 (.load none (.t 20)) 17 tt, oc 22 (.bin .eql (.t 19) (.t 21)) 17 tt, oa 23 (.pick (.t 17) (.t 22) (.c (.bool false))), oa 24 (.mov (.t 23)), oc 25 (.fieldAddr 3 (.t 2)) 24 tt, oc 26 (.load none (.t 25)) 24 tt, oc 27 (.fieldAddr 3 (.t 3)) 24 tt, oc 28 (.load none (.t 27)) 24 tt, oc 29 (.bin .eql (.t 26) (.t 28)) 24 tt, oa 30 (.pick (.t 24) (.t 29) (.c (.bool false))), oa 31 (.mov (.t 30)), oc 32 (.fieldAddr 4 (.t 2)) 31 tt, oc 33 (.load none (.t 32)) 31 tt, oc 34 (.fieldAddr 4 (.t 3)) 31 tt, oc 35 (.load none (.t 34)) 31 tt, oc 36 (.bin .eql (.t 33) (.t 35)) 31 tt, oa 37 (.pick (.t 31) (.t 36) (.c (.bool false))), oa 38 (.mov (.t 37)), oc 39 (.fieldAddr 5 (.t 2)) 38 tt, oc 40 (.load none (.t 39)) 38 tt, oc 41 (.fieldAddr 5 (.t 3)) 38 tt, oc 42 (.load none (.t 41)) 38 tt, oc 43 (.bin .eql (.t 40) (.t 42)) 38 tt, oa 44 (.pick (.t 38) (.t 43) (.c (.bool false))), oa 45 (.mov (.t 44)), oc 46 (.fieldAddr 8 (.t 2)) 45 tt, oc 47 (.load (some 5) (.t 46)) 45 tt, oc 48 (.fieldAddr 8 (.t 3)) 45 tt, oc 49 (.load (some 5) (.t 48)) 45 tt, oc 50 (.call 23 [(.t 47), (.t 49)]) 45 tt, oa 51 (.pick (.t 45) (.t 50) (.c (.bool false))), oa 52 (.mov (.t 51)), oc 53 (.fieldAddr 13 (.t 2)) 52 tt, oc 54 (.load none (.t 53)) 52 tt, oc 55 (.fieldAddr 13 (.t 3)) 52 tt, oc 56 (.load none (.t 55)) 52 tt, oc 57 (.call 24 [(.t 54), (.t 56)]) 52 tt, oa 58 (.pick (.t 52) (.t 57) (.c (.bool false))), oa 59 (.mov (.t 58)), oc 60 (.fieldAddr 14 (.t 2)) 59 tt, oc 61 (.load none (.t 60)) 59 tt, oc 62 (.fieldAddr 14 (.t 3)) 59 tt, oc 63 (.load none (.t 62)) 59 tt, oc 64 (.call 24 [(.t 61), (.t 63)]) 59 tt, oa 65 (.pick (.t 59) (.t 64) (.c (.bool false))), oa 66 (.mov (.t 65)), oc 67 (.fieldAddr 15 (.t 2)) 66 tt, oc 68 (.load none (.t 67)) 66 tt, oc 69 (.fieldAddr 15 (.t 3)) 66 tt, oc 70 (.load none (.t 69)) 66 tt, oc 71 (.call 24 [(.t 68), (.t 70)]) 66 tt, oa 72 (.pick (.t 66) (.t 71) (.c (.bool false))), oa 73 (.mov (.t 72)), oc 74 (.fieldAddr 16 (.t 2)) 73 tt, oc 75 (.load none (.t 74)) 73 tt, oc 76 (.fieldAddr 16 (.t 3)) 73 tt, oc 77 (.load none (.t 76)) 73 tt, oc 78 (.call 25 [(.t 75), (.t 77), (.c (.func 24 [] []))]) 73 tt, oa 79 (.pick (.t 73) (.t 78) (.c (.bool false))), oa 80 (.mov (.t 79)), oc 81 (.fieldAddr 7 (.t 2)) 80 tt, oc 82 (.load none (.t 81)) 80 tt, oc 83 (.fieldAddr 7 (.t 3)) 80 tt, oc 84 (.load none (.t 83)) 80 tt, oc 85 (.call 26 [(.t 82), (.t 84), (.c (.func 27 [] []))]) 80 tt, oa 86 (.pick (.t 80) (.t 85) (.c (.bool false))), oa 87 (.mov (.t 86)), oc 88 (.fieldAddr 6 (.t 2)) 87 tt, oc 89 (.load none (.t 88)) 87 tt, oc 90 (.fieldAddr 6 (.t 3)) 87 tt, oc 91 (.load none (.t 90)) 87 tt, oc 92 (.call 28 [(.t 89), (.t 91), (.c (.func 17 [] []))]) 87 tt, oa 93 (.pick (.t 87) (.t 92) (.c (.bool false))), oa 4 (.mov (.t 93))] (kp 94 [4]))
  (sr 94 [4])))⟩
theorem F17 : shutF Tryz.prog 17 = some c17 := by kernel_rfl

-- virgate/judge.sameTy

def c22 : IFn := ⟨24, [(4, none)],
  (.seq (.region [oa 2 (.box (.t 0)), oa 3 (.box (.t 1)), oa 4 (.mov (.c (.bool false)))] (kp 24 [2,3]))
  (.seq (.region [oa 5 (.fieldAddr 0 (.t 2)), oa 6 (.load none (.t 5)), oa 7 (.fieldAddr 0 (.t 3)), oa 8 (.load none (.t 7)), oa 9 (.bin .eql (.t 6) (.t 8)), oa 10 (.mov (.t 9)), oc 11 (.fieldAddr 1 (.t 2)) 10 tt, oc 12 (.load none (.t 11)) 10 tt, oc 13 (.fieldAddr 1 (.t 3)) 10 tt, oc 14 (.load none (.t 13)) 10 tt, oc 15 (.bin .eql (.t 12) (.t 14)) 10 tt, oa 16 (.pick (.t 10) (.t 15) (.c (.bool false))), oa 17 (.mov (.t 16)), oc 18 (.fieldAddr 2 (.t 2)) 17 tt, oc 19 (.load none (.t 18)) 17 tt, oc 20 (.fieldAddr 2 (.t 3)) 17 tt, oc 21 (.load none (.t 20)) 17 tt, oc 22 (.call 40 [(.t 19), (.t 21), (.c (.func 22 [] []))]) 17 tt, oa 23 (.pick (.t 17) (.t 22) (.c (.bool false))), oa 4 (.mov (.t 23))] (kp 24 [4]))
  (sr 24 [4])))⟩
theorem F22 : shutF Tryz.prog 22 = some c22 := by kernel_rfl

-- virgate/place.SameType

def c23 : IFn := ⟨38, [(4, none)],
  (.seq (.region [oa 2 (.box (.t 0)), oa 3 (.box (.t 1)), oa 4 (.mov (.c (.bool false)))] (kp 38 [2,3]))
  (.seq (.region [oa 5 (.fieldAddr 0 (.t 2)), oa 6 (.load none (.t 5)), oa 7 (.fieldAddr 0 (.t 3)), oa 8 (.load none (.t 7)), oa 9 (.bin .eql (.t 6) (.t 8)), oa 10 (.mov (.t 9)), oc 11 (.fieldAddr 1 (.t 2)) 10 tt, oc 12 (.load none (.t 11)) 10 tt, oc 13 (.fieldAddr 1 (.t 3)) 10 tt, oc 14 (.load none (.t 13)) 10 tt, oc 15 (.bin .eql (.t 12) (.t 14)) 10 tt, oa 16 (.pick (.t 10) (.t 15) (.c (.bool false))), oa 17 (.mov (.t 16)), oc 18 (.fieldAddr 2 (.t 2)) 17 tt, oc 19 (.load none (.t 18)) 17 tt, oc 20 (.fieldAddr 2 (.t 3)) 17 tt, oc 21 (.load none (.t 20)) 17 tt, oc 22 (.bin .eql (.t 19) (.t 21)) 17 tt, oa 23 (.pick (.t 17) (.t 22) (.c (.bool false))), oa 24 (.mov (.t 23)), oc 25 (.fieldAddr 3 (.t 2)) 24 tt, oc 26 (.load none (.t 25)) 24 tt, oc 27 (.fieldAddr 3 (.t 3)) 24 tt, oc 28 (.load none (.t 27)) 24 tt, oc 29 (.call 24 [(.t 26), (.t 28)]) 24 tt, oa 30 (.pick (.t 24) (.t 29) (.c (.bool false))), oa 31 (.mov (.t 30)), oc 32 (.fieldAddr 4 (.t 2)) 31 tt, oc 33 (.load none (.t 32)) 31 tt, oc 34 (.fieldAddr 4 (.t 3)) 31 tt, oc 35 (.load none (.t 34)) 31 tt, oc 36 (.call 41 [(.t 33), (.t 35), (.c (.func 23 [] []))]) 31 tt, oa 37 (.pick (.t 31) (.t 36) (.c (.bool false))), oa 4 (.mov (.t 37))] (kp 38 [4]))
  (sr 38 [4])))⟩
theorem F23 : shutF Tryz.prog 23 = some c23 := by kernel_rfl

-- slices.Equal[[]int,int]
def l24_0 : IC := (.seq (.seq (.region [oa 14 (.bin .lss (.t 13) (.t 12))] (kp 26 [0,1,12,13,14]))
  (.seq (.cond (.t 14)
  (sk 26 [0,1,12,13])
  (sx 26 [] 0))
  (.seq (.block 1
  (.seq (.region [oa 15 (.mov (.t 13)), oa 5 (.mov (.t 15))] (kp 26 [0,1,5,12,13]))
  (.seq (.region [oa 16 (.mov (.t 0)), oa 17 (.mov (.t 5)), oa 18 (.indexAddr 1 (.t 16) (.t 17)), oa 19 (.load none (.t 18)), oa 20 (.mov (.t 1)), oa 21 (.mov (.t 5)), oa 22 (.indexAddr 1 (.t 20) (.t 21)), oa 23 (.load none (.t 22)), oa 24 (.bin .neq (.t 19) (.t 23))] (kp 26 [0,1,12,13,24]))
  (.cond (.t 24)
  (.seq (.region [oa 4 (.mov (.c (.bool false)))] (kp 26 [4]))
  (sr 26 [4]))
  (sk 26 [0,1,12,13])))))
  (.region [oa 25 (.bin .add (.t 13) (ai 1)), oa 13 (.mov (.t 25))] (kp 26 [0,1,12,13])))))
  (sk 26 [0,1,12,13]))
def c24 : IFn := ⟨26, [(4, none)],
  (.seq (.region [oa 4 (.mov (.c (.bool false)))] (kp 26 [0,1]))
  (.seq (.seq (.region [oa 6 (.mov (.t 0)), oa 7 (.lenSlice (.t 6)), oa 8 (.mov (.t 1)), oa 9 (.lenSlice (.t 8)), oa 10 (.bin .neq (.t 7) (.t 9))] (kp 26 [0,1,10]))
  (.cond (.t 10)
  (.seq (.region [oa 4 (.mov (.c (.bool false)))] (kp 26 [4]))
  (sr 26 [4]))
  (sk 26 [0,1])))
  (.seq (.seq (.region [oa 11 (.mov (.t 0)), oa 12 (.lenSlice (.t 11)), oa 13 (.mov (ai 0))] (kp 26 [0,1,12,13]))
  (.block 0
  (.seq (sk 26 [0,1,12,13])
  (.loop l24_0))))
  (.seq (.region [oa 4 (.mov (.c (.bool true)))] (kp 26 [4]))
  (sr 26 [4])))))⟩
theorem F24 : shutF Tryz.prog 24 = some c24 := by kernel_rfl

-- slices.EqualFunc[[][]int,[][]int,[]int,[]int]
def l25_0 : IC := (.seq (.seq (.region [oa 18 (.bin .lss (.t 17) (.t 16))] (kp 32 [1,2,15,16,17,18]))
  (.seq (.cond (.t 18)
  (sk 32 [1,2,15,16,17])
  (sx 32 [] 0))
  (.seq (.block 1
  (.seq (.region [oa 19 (.mov (.t 17)), oa 20 (.indexAddr 1 (.t 15) (.t 17)), oa 21 (.load none (.t 20)), oa 7 (.mov (.t 19)), oa 8 (.mov (.t 21))] (kp 32 [1,2,7,8,15,16,17]))
  (.seq (.region [oa 22 (.mov (.t 1)), oa 23 (.mov (.t 7)), oa 24 (.indexAddr 1 (.t 22) (.t 23)), oa 25 (.load none (.t 24)), oa 9 (.mov (.t 25))] (kp 32 [1,2,8,9,15,16,17]))
  (.seq (.region [oa 26 (.mov (.t 2)), oa 27 (.mov (.t 8)), oa 28 (.mov (.t 9)), oa 29 (.callv (.t 26) [(.t 27), (.t 28)]), oa 30 (.un .not (.t 29))] (kp 32 [1,2,15,16,17,30]))
  (.cond (.t 30)
  (.seq (.region [oa 6 (.mov (.c (.bool false)))] (kp 32 [6]))
  (sr 32 [6]))
  (sk 32 [1,2,15,16,17]))))))
  (.region [oa 31 (.bin .add (.t 17) (ai 1)), oa 17 (.mov (.t 31))] (kp 32 [1,2,15,16,17])))))
  (sk 32 [1,2,15,16,17]))
def c25 : IFn := ⟨32, [(6, none)],
  (.seq (.region [oa 6 (.mov (.c (.bool false)))] (kp 32 [0,1,2]))
  (.seq (.seq (.region [oa 10 (.mov (.t 0)), oa 11 (.lenSlice (.t 10)), oa 12 (.mov (.t 1)), oa 13 (.lenSlice (.t 12)), oa 14 (.bin .neq (.t 11) (.t 13))] (kp 32 [0,1,2,14]))
  (.cond (.t 14)
  (.seq (.region [oa 6 (.mov (.c (.bool false)))] (kp 32 [6]))
  (sr 32 [6]))
  (sk 32 [0,1,2])))
  (.seq (.seq (.region [oa 15 (.mov (.t 0)), oa 16 (.lenSlice (.t 15)), oa 17 (.mov (ai 0))] (kp 32 [1,2,15,16,17]))
  (.block 0
  (.seq (sk 32 [1,2,15,16,17])
  (.loop l25_0))))
  (.seq (.region [oa 6 (.mov (.c (.bool true)))] (kp 32 [6]))
  (sr 32 [6])))))⟩
theorem F25 : shutF Tryz.prog 25 = some c25 := by kernel_rfl

-- slices.EqualFunc[[]virgate/api.Pat,[]virgate/api.Pat,virgate/api.Pat,virgate/api.Pat]
def l26_0 : IC := (.seq (.seq (.region [oa 18 (.bin .lss (.t 17) (.t 16))] (kp 32 [1,2,15,16,17,18]))
  (.seq (.cond (.t 18)
  (sk 32 [1,2,15,16,17])
  (sx 32 [] 0))
  (.seq (.block 1
  (.seq (.region [oa 19 (.mov (.t 17)), oa 20 (.indexAddr 4 (.t 15) (.t 17)), oa 21 (.load (some 4) (.t 20)), oa 8 (.alloc [(.str (ByteArray.mk #[])), (.str (ByteArray.mk #[])), (.int .i64 (0)), (.slice none 0 (some 0))]), oa 7 (.mov (.t 19)), ob (.store 4 (.t 8) (.t 21))] (kp 32 [1,2,7,8,15,16,17]))
  (.seq (.region [oa 22 (.mov (.t 1)), oa 23 (.mov (.t 7)), oa 24 (.indexAddr 4 (.t 22) (.t 23)), oa 25 (.load (some 4) (.t 24)), oa 9 (.alloc [(.str (ByteArray.mk #[])), (.str (ByteArray.mk #[])), (.int .i64 (0)), (.slice none 0 (some 0))]), ob (.store 4 (.t 9) (.t 25))] (kp 32 [1,2,8,9,15,16,17]))
  (.seq (.region [oa 26 (.mov (.t 2)), oa 27 (.load (some 4) (.t 8)), oa 28 (.load (some 4) (.t 9)), oa 29 (.callv (.t 26) [(.t 27), (.t 28)]), oa 30 (.un .not (.t 29))] (kp 32 [1,2,15,16,17,30]))
  (.cond (.t 30)
  (.seq (.region [oa 6 (.mov (.c (.bool false)))] (kp 32 [6]))
  (sr 32 [6]))
  (sk 32 [1,2,15,16,17]))))))
  (.region [oa 31 (.bin .add (.t 17) (ai 1)), oa 17 (.mov (.t 31))] (kp 32 [1,2,15,16,17])))))
  (sk 32 [1,2,15,16,17]))
def c26 : IFn := ⟨32, [(6, none)],
  (.seq (.region [oa 6 (.mov (.c (.bool false)))] (kp 32 [0,1,2]))
  (.seq (.seq (.region [oa 10 (.mov (.t 0)), oa 11 (.lenSlice (.t 10)), oa 12 (.mov (.t 1)), oa 13 (.lenSlice (.t 12)), oa 14 (.bin .neq (.t 11) (.t 13))] (kp 32 [0,1,2,14]))
  (.cond (.t 14)
  (.seq (.region [oa 6 (.mov (.c (.bool false)))] (kp 32 [6]))
  (sr 32 [6]))
  (sk 32 [0,1,2])))
  (.seq (.seq (.region [oa 15 (.mov (.t 0)), oa 16 (.lenSlice (.t 15)), oa 17 (.mov (ai 0))] (kp 32 [1,2,15,16,17]))
  (.block 0
  (.seq (sk 32 [1,2,15,16,17])
  (.loop l26_0))))
  (.seq (.region [oa 6 (.mov (.c (.bool true)))] (kp 32 [6]))
  (sr 32 [6])))))⟩
theorem F26 : shutF Tryz.prog 26 = some c26 := by kernel_rfl

-- virgate/place.samePat

def c27 : IFn := ⟨31, [(4, none)],
  (.seq (.region [oa 2 (.box (.t 0)), oa 3 (.box (.t 1)), oa 4 (.mov (.c (.bool false)))] (kp 31 [2,3]))
  (.seq (.region [oa 5 (.fieldAddr 0 (.t 2)), oa 6 (.load none (.t 5)), oa 7 (.fieldAddr 0 (.t 3)), oa 8 (.load none (.t 7)), oa 9 (.bin .eql (.t 6) (.t 8)), oa 10 (.mov (.t 9)), oc 11 (.fieldAddr 1 (.t 2)) 10 tt, oc 12 (.load none (.t 11)) 10 tt, oc 13 (.fieldAddr 1 (.t 3)) 10 tt, oc 14 (.load none (.t 13)) 10 tt, oc 15 (.bin .eql (.t 12) (.t 14)) 10 tt, oa 16 (.pick (.t 10) (.t 15) (.c (.bool false))), oa 17 (.mov (.t 16)), oc 18 (.fieldAddr 2 (.t 2)) 17 tt, oc 19 (.load none (.t 18)) 17 tt, oc 20 (.fieldAddr 2 (.t 3)) 17 tt, oc 21 (.load none (.t 20)) 17 tt, oc 22 (.bin .eql (.t 19) (.t 21)) 17 tt, oa 23 (.pick (.t 17) (.t 22) (.c (.bool false))), oa 24 (.mov (.t 23)), oc 25 (.fieldAddr 3 (.t 2)) 24 tt, oc 26 (.load none (.t 25)) 24 tt, oc 27 (.fieldAddr 3 (.t 3)) 24 tt, oc 28 (.load none (.t 27)) 24 tt, oc 29 (.call 26 [(.t 26), (.t 28), (.c (.func 27 [] []))]) 24 tt, oa 30 (.pick (.t 24) (.t 29) (.c (.bool false))), oa 4 (.mov (.t 30))] (kp 31 [4]))
  (sr 31 [4])))⟩
theorem F27 : shutF Tryz.prog 27 = some c27 := by kernel_rfl

-- slices.EqualFunc[[]virgate/api.Ann,[]virgate/api.Ann,virgate/api.Ann,virgate/api.Ann]
def l28_0 : IC := (.seq (.seq (.region [oa 18 (.bin .lss (.t 17) (.t 16))] (kp 32 [1,2,15,16,17,18]))
  (.seq (.cond (.t 18)
  (sk 32 [1,2,15,16,17])
  (sx 32 [] 0))
  (.seq (.block 1
  (.seq (.region [oa 19 (.mov (.t 17)), oa 20 (.indexAddr 17 (.t 15) (.t 17)), oa 21 (.load (some 17) (.t 20)), oa 8 (.alloc [(.str (ByteArray.mk #[])), (.str (ByteArray.mk #[])), (.str (ByteArray.mk #[])), (.str (ByteArray.mk #[])), (.int .i64 (0)), (.int .i64 (0)), (.slice none 0 (some 0)), (.slice none 0 (some 0)), (.str (ByteArray.mk #[])), (.str (ByteArray.mk #[])), (.int .i64 (0)), (.slice none 0 (some 0)), (.slice none 0 (some 0)), (.slice none 0 (some 0)), (.slice none 0 (some 0)), (.slice none 0 (some 0)), (.slice none 0 (some 0))]), oa 7 (.mov (.t 19)), ob (.store 17 (.t 8) (.t 21))] (kp 32 [1,2,7,8,15,16,17]))
  (.seq (.region [oa 22 (.mov (.t 1)), oa 23 (.mov (.t 7)), oa 24 (.indexAddr 17 (.t 22) (.t 23)), oa 25 (.load (some 17) (.t 24)), oa 9 (.alloc [(.str (ByteArray.mk #[])), (.str (ByteArray.mk #[])), (.str (ByteArray.mk #[])), (.str (ByteArray.mk #[])), (.int .i64 (0)), (.int .i64 (0)), (.slice none 0 (some 0)), (.slice none 0 (some 0)), (.str (ByteArray.mk #[])), (.str (ByteArray.mk #[])), (.int .i64 (0)), (.slice none 0 (some 0)), (.slice none 0 (some 0)), (.slice none 0 (some 0)), (.slice none 0 (some 0)), (.slice none 0 (some 0)), (.slice none 0 (some 0))]), ob (.store 17 (.t 9) (.t 25))] (kp 32 [1,2,8,9,15,16,17]))
  (.seq (.region [oa 26 (.mov (.t 2)), oa 27 (.load (some 17) (.t 8)), oa 28 (.load (some 17) (.t 9)), oa 29 (.callv (.t 26) [(.t 27), (.t 28)]), oa 30 (.un .not (.t 29))] (kp 32 [1,2,15,16,17,30]))
  (.cond (.t 30)
  (.seq (.region [oa 6 (.mov (.c (.bool false)))] (kp 32 [6]))
  (sr 32 [6]))
  (sk 32 [1,2,15,16,17]))))))
  (.region [oa 31 (.bin .add (.t 17) (ai 1)), oa 17 (.mov (.t 31))] (kp 32 [1,2,15,16,17])))))
  (sk 32 [1,2,15,16,17]))
def c28 : IFn := ⟨32, [(6, none)],
  (.seq (.region [oa 6 (.mov (.c (.bool false)))] (kp 32 [0,1,2]))
  (.seq (.seq (.region [oa 10 (.mov (.t 0)), oa 11 (.lenSlice (.t 10)), oa 12 (.mov (.t 1)), oa 13 (.lenSlice (.t 12)), oa 14 (.bin .neq (.t 11) (.t 13))] (kp 32 [0,1,2,14]))
  (.cond (.t 14)
  (.seq (.region [oa 6 (.mov (.c (.bool false)))] (kp 32 [6]))
  (sr 32 [6]))
  (sk 32 [0,1,2])))
  (.seq (.seq (.region [oa 15 (.mov (.t 0)), oa 16 (.lenSlice (.t 15)), oa 17 (.mov (ai 0))] (kp 32 [1,2,15,16,17]))
  (.block 0
  (.seq (sk 32 [1,2,15,16,17])
  (.loop l28_0))))
  (.seq (.region [oa 6 (.mov (.c (.bool true)))] (kp 32 [6]))
  (sr 32 [6])))))⟩
theorem F28 : shutF Tryz.prog 28 = some c28 := by kernel_rfl

-- slices.EqualFunc[[]virgate/api.Ty,[]virgate/api.Ty,virgate/api.Ty,virgate/api.Ty]
def l40_0 : IC := (.seq (.seq (.region [oa 18 (.bin .lss (.t 17) (.t 16))] (kp 32 [1,2,15,16,17,18]))
  (.seq (.cond (.t 18)
  (sk 32 [1,2,15,16,17])
  (sx 32 [] 0))
  (.seq (.block 1
  (.seq (.region [oa 19 (.mov (.t 17)), oa 20 (.indexAddr 3 (.t 15) (.t 17)), oa 21 (.load (some 3) (.t 20)), oa 8 (.alloc [(.str (ByteArray.mk #[])), (.str (ByteArray.mk #[])), (.slice none 0 (some 0))]), oa 7 (.mov (.t 19)), ob (.store 3 (.t 8) (.t 21))] (kp 32 [1,2,7,8,15,16,17]))
  (.seq (.region [oa 22 (.mov (.t 1)), oa 23 (.mov (.t 7)), oa 24 (.indexAddr 3 (.t 22) (.t 23)), oa 25 (.load (some 3) (.t 24)), oa 9 (.alloc [(.str (ByteArray.mk #[])), (.str (ByteArray.mk #[])), (.slice none 0 (some 0))]), ob (.store 3 (.t 9) (.t 25))] (kp 32 [1,2,8,9,15,16,17]))
  (.seq (.region [oa 26 (.mov (.t 2)), oa 27 (.load (some 3) (.t 8)), oa 28 (.load (some 3) (.t 9)), oa 29 (.callv (.t 26) [(.t 27), (.t 28)]), oa 30 (.un .not (.t 29))] (kp 32 [1,2,15,16,17,30]))
  (.cond (.t 30)
  (.seq (.region [oa 6 (.mov (.c (.bool false)))] (kp 32 [6]))
  (sr 32 [6]))
  (sk 32 [1,2,15,16,17]))))))
  (.region [oa 31 (.bin .add (.t 17) (ai 1)), oa 17 (.mov (.t 31))] (kp 32 [1,2,15,16,17])))))
  (sk 32 [1,2,15,16,17]))
def c40 : IFn := ⟨32, [(6, none)],
  (.seq (.region [oa 6 (.mov (.c (.bool false)))] (kp 32 [0,1,2]))
  (.seq (.seq (.region [oa 10 (.mov (.t 0)), oa 11 (.lenSlice (.t 10)), oa 12 (.mov (.t 1)), oa 13 (.lenSlice (.t 12)), oa 14 (.bin .neq (.t 11) (.t 13))] (kp 32 [0,1,2,14]))
  (.cond (.t 14)
  (.seq (.region [oa 6 (.mov (.c (.bool false)))] (kp 32 [6]))
  (sr 32 [6]))
  (sk 32 [0,1,2])))
  (.seq (.seq (.region [oa 15 (.mov (.t 0)), oa 16 (.lenSlice (.t 15)), oa 17 (.mov (ai 0))] (kp 32 [1,2,15,16,17]))
  (.block 0
  (.seq (sk 32 [1,2,15,16,17])
  (.loop l40_0))))
  (.seq (.region [oa 6 (.mov (.c (.bool true)))] (kp 32 [6]))
  (sr 32 [6])))))⟩
theorem F40 : shutF Tryz.prog 40 = some c40 := by kernel_rfl

-- slices.EqualFunc[[]virgate/api.RTy,[]virgate/api.RTy,virgate/api.RTy,virgate/api.RTy]
def l41_0 : IC := (.seq (.seq (.region [oa 18 (.bin .lss (.t 17) (.t 16))] (kp 32 [1,2,15,16,17,18]))
  (.seq (.cond (.t 18)
  (sk 32 [1,2,15,16,17])
  (sx 32 [] 0))
  (.seq (.block 1
  (.seq (.region [oa 19 (.mov (.t 17)), oa 20 (.indexAddr 5 (.t 15) (.t 17)), oa 21 (.load (some 5) (.t 20)), oa 8 (.alloc [(.str (ByteArray.mk #[])), (.str (ByteArray.mk #[])), (.int .i64 (0)), (.slice none 0 (some 0)), (.slice none 0 (some 0))]), oa 7 (.mov (.t 19)), ob (.store 5 (.t 8) (.t 21))] (kp 32 [1,2,7,8,15,16,17]))
  (.seq (.region [oa 22 (.mov (.t 1)), oa 23 (.mov (.t 7)), oa 24 (.indexAddr 5 (.t 22) (.t 23)), oa 25 (.load (some 5) (.t 24)), oa 9 (.alloc [(.str (ByteArray.mk #[])), (.str (ByteArray.mk #[])), (.int .i64 (0)), (.slice none 0 (some 0)), (.slice none 0 (some 0))]), ob (.store 5 (.t 9) (.t 25))] (kp 32 [1,2,8,9,15,16,17]))
  (.seq (.region [oa 26 (.mov (.t 2)), oa 27 (.load (some 5) (.t 8)), oa 28 (.load (some 5) (.t 9)), oa 29 (.callv (.t 26) [(.t 27), (.t 28)]), oa 30 (.un .not (.t 29))] (kp 32 [1,2,15,16,17,30]))
  (.cond (.t 30)
  (.seq (.region [oa 6 (.mov (.c (.bool false)))] (kp 32 [6]))
  (sr 32 [6]))
  (sk 32 [1,2,15,16,17]))))))
  (.region [oa 31 (.bin .add (.t 17) (ai 1)), oa 17 (.mov (.t 31))] (kp 32 [1,2,15,16,17])))))
  (sk 32 [1,2,15,16,17]))
def c41 : IFn := ⟨32, [(6, none)],
  (.seq (.region [oa 6 (.mov (.c (.bool false)))] (kp 32 [0,1,2]))
  (.seq (.seq (.region [oa 10 (.mov (.t 0)), oa 11 (.lenSlice (.t 10)), oa 12 (.mov (.t 1)), oa 13 (.lenSlice (.t 12)), oa 14 (.bin .neq (.t 11) (.t 13))] (kp 32 [0,1,2,14]))
  (.cond (.t 14)
  (.seq (.region [oa 6 (.mov (.c (.bool false)))] (kp 32 [6]))
  (sr 32 [6]))
  (sk 32 [0,1,2])))
  (.seq (.seq (.region [oa 15 (.mov (.t 0)), oa 16 (.lenSlice (.t 15)), oa 17 (.mov (ai 0))] (kp 32 [1,2,15,16,17]))
  (.block 0
  (.seq (sk 32 [1,2,15,16,17])
  (.loop l41_0))))
  (.seq (.region [oa 6 (.mov (.c (.bool true)))] (kp 32 [6]))
  (sr 32 [6])))))⟩
theorem F41 : shutF Tryz.prog 41 = some c41 := by kernel_rfl


section
variable {o : Nat → Option O}
set_option maxRecDepth 10000
set_option maxHeartbeats 4000000
theorem l24_0_loop {es es' : List D} {v v' : V} {C : Ch} {Q : V → St → Prop} {K : Kt} (hv : SlD o 1 es v) (hv' : SlD o 1 es' v') (hl : es.length = es'.length) (ht : ∀ d ∈ es, HasTy Tryz.prog 3 d) (ht' : ∀ d ∈ es', HasTy Tryz.prog 3 d) (hm : es.length ≤ maxLen) :
    ∀ (m i : Nat) (z : Int) (s : St), z = ((i : Nat) : Int) → i + m = es.length → Holds o s C →
    (∀ s', Holds o s' C → beqDs (es.drop i) (es'.drop i) = true → WP (K (.exit 0) (sp 26 []) s') Q) →
    (∀ s', Holds o s' C → beqDs (es.drop i) (es'.drop i) = false → WP (K .ret (sp 26 [(4, .bool false)]) s') Q) → WP (loop PF (.loop l24_0) (sp 26 [(0, v), (1, v'), (12, I es.length), (13, I z)]) s K) Q
  | 0, i, z, s, hz, hi, H, kt, kf => by
    subst hz
    have hlt : ¬ ((i : Int) < (es.length : Int)) := by omega
    refine wp_round fun LL hLL => ?_
    simp -implicitDefEqProofs only [↓GP, GB, GL, Nat.reduceAdd, Nat.reduceSub, Nat.reduceEqDiff, Nat.reduceMul, Nat.reduceLeDiff, Int.reduceBNe, Int.reduceBEq, Nat.reduceLT, reduceCtorEq, l24_0, hlt]
    exact kt s H (by rw [List.drop_eq_nil_of_le (by omega), List.drop_eq_nil_of_le (by omega), beqDs_nil])
  | m + 1, i, z, s, hz, hi, H, kt, kf => by
    subst hz
    have hlt : ((i : Int) < (es.length : Int)) := by omega
    have hi1 : i < es.length := by omega
    have hi2 : i < es'.length := by omega
    have hw1 := wrap_len (a := i) (by omega)
    obtain ⟨b, off, M, c, x1, x2, x3, x4⟩ := hv.get i hi1
    obtain ⟨b', off', M', c', y1, y2, y3, y4⟩ := hv'.get i hi2
    have ta := ht _ (List.getElem_mem hi1)
    have ta' := ht' _ (List.getElem_mem hi2)
    have ed := beqDs_drop hi1 hi2
    obtain ⟨n, en, _⟩ := ta.intv (k := .i64) (by kernel_rfl)
    obtain ⟨n', en', _⟩ := ta'.intv (k := .i64) (by kernel_rfl)
    rw [en] at x2
    rw [en'] at y2
    cases x2.litv
    cases y2.litv
    rw [en, en', beqD_lit, show litEq (V.int .i64 n) (V.int .i64 n') = (n == n') from rfl] at ed
    have l1 := (ld_old H.old x3 x4 (by omega)).2.1
    have l2 := (ld_old H.old y3 y4 (by omega)).2.1
    simp only [List.getElem?_cons_zero] at l1 l2
    refine wp_round fun LL hLL => ?_
    simp -implicitDefEqProofs only [↓GP, GB, GL, Nat.reduceAdd, Nat.reduceSub, Nat.reduceEqDiff, Nat.reduceMul, Nat.reduceLeDiff, Int.reduceBNe, Int.reduceBEq, Nat.reduceLT, reduceCtorEq, l24_0, hlt, x1, y1, l1, l2, bne]
    cases g : (n == n') with
    | false =>
      rw [g, Bool.false_and] at ed
      simp -implicitDefEqProofs only [↓GP, GB, GL, Nat.reduceAdd, Nat.reduceSub, Nat.reduceEqDiff, Nat.reduceMul, Nat.reduceLeDiff, Int.reduceBNe, Int.reduceBEq, Nat.reduceLT, reduceCtorEq, g]
      exact kf _ (H) ed
    | true =>
      rw [g, Bool.true_and] at ed
      simp -implicitDefEqProofs only [↓GP, GB, GL, Nat.reduceAdd, Nat.reduceSub, Nat.reduceEqDiff, Nat.reduceMul, Nat.reduceLeDiff, Int.reduceBNe, Int.reduceBEq, Nat.reduceLT, reduceCtorEq, g, hw1]
      rw [hLL]
      exact l24_0_loop hv hv' hl ht ht' hm m (i + 1) _ _ rfl (by omega) (H) (fun s2 h2 e => kt s2 h2 (ed.trans e)) (fun s2 h2 e => kf s2 h2 (ed.trans e))
theorem l24 {es es' : List D} (ht : ∀ d ∈ es, HasTy Tryz.prog 3 d) (ht' : ∀ d ∈ es', HasTy Tryz.prog 3 d) (hm : es.length ≤ maxLen) : EqL o 24 1 es es' := by
  intro v v' C s Q hv hv' H k
  by_cases hl : es.length = es'.length
  · have hz : (((es.length : Nat) : Int) == ((es'.length : Nat) : Int)) = true := by rw [beq_iff_eq]; omega
    rw [call_run F24]; simp -implicitDefEqProofs only [↓GP, GB, GL, Nat.reduceAdd, Nat.reduceSub, Nat.reduceEqDiff, Nat.reduceMul, Nat.reduceLeDiff, Int.reduceBNe, Int.reduceBEq, Nat.reduceLT, reduceCtorEq, c24, hv.len, hv'.len, bne, hz]
    refine l24_0_loop hv hv' hl ht ht' hm _ 0 _ _ rfl (Nat.zero_add _) H (fun s1 h1 g => ?_) (fun s1 h1 g => ?_) <;> rw [List.drop_zero, List.drop_zero] at g <;> simp only [g] at k
    · simp -implicitDefEqProofs only [↓GP, GB, GL, Nat.reduceAdd, Nat.reduceSub, Nat.reduceEqDiff, Nat.reduceMul, Nat.reduceLeDiff, Int.reduceBNe, Int.reduceBEq, Nat.reduceLT, reduceCtorEq]
      exact k _ h1
    · simp -implicitDefEqProofs only [↓GP, GB, GL, Nat.reduceAdd, Nat.reduceSub, Nat.reduceEqDiff, Nat.reduceMul, Nat.reduceLeDiff, Int.reduceBNe, Int.reduceBEq, Nat.reduceLT, reduceCtorEq]
      exact k _ h1
  · have hz : (((es.length : Nat) : Int) == ((es'.length : Nat) : Int)) = false := by rw [beq_eq_false_iff_ne]; omega
    rw [call_run F24]; simp -implicitDefEqProofs only [↓GP, GB, GL, Nat.reduceAdd, Nat.reduceSub, Nat.reduceEqDiff, Nat.reduceMul, Nat.reduceLeDiff, Int.reduceBNe, Int.reduceBEq, Nat.reduceLT, reduceCtorEq, c24, hv.len, hv'.len, bne, hz]
    simp only [beqDs_ne hl] at k
    exact k _ H
theorem l25_0_loop {es es' : List D} {v v' : V} {C : Ch} {Q : V → St → Prop} {K : Kt} (hv : SlD o 1 es v) (hv' : SlD o 1 es' v') (hl : es.length = es'.length) (ht : ∀ d ∈ es, HasTy Tryz.prog 26 d) (ht' : ∀ d ∈ es', HasTy Tryz.prog 26 d) (hm : es.length ≤ maxLen) :
    ∀ (m i : Nat) (z : Int) (s : St), z = ((i : Nat) : Int) → i + m = es.length → Holds o s C →
    (∀ s', Holds o s' C → beqDs (es.drop i) (es'.drop i) = true → WP (K (.exit 0) (sp 32 []) s') Q) →
    (∀ s', Holds o s' C → beqDs (es.drop i) (es'.drop i) = false → WP (K .ret (sp 32 [(6, .bool false)]) s') Q) → WP (loop PF (.loop l25_0) (sp 32 [(1, v'), (2, .func 24 [] []), (15, v), (16, I es.length), (17, I z)]) s K) Q
  | 0, i, z, s, hz, hi, H, kt, kf => by
    subst hz
    have hlt : ¬ ((i : Int) < (es.length : Int)) := by omega
    refine wp_round fun LL hLL => ?_
    simp -implicitDefEqProofs only [↓GP, GB, GL, Nat.reduceAdd, Nat.reduceSub, Nat.reduceEqDiff, Nat.reduceMul, Nat.reduceLeDiff, Int.reduceBNe, Int.reduceBEq, Nat.reduceLT, reduceCtorEq, l25_0, hlt]
    exact kt s H (by rw [List.drop_eq_nil_of_le (by omega), List.drop_eq_nil_of_le (by omega), beqDs_nil])
  | m + 1, i, z, s, hz, hi, H, kt, kf => by
    subst hz
    have hlt : ((i : Int) < (es.length : Int)) := by omega
    have hi1 : i < es.length := by omega
    have hi2 : i < es'.length := by omega
    have hw1 := wrap_len (a := i) (by omega)
    obtain ⟨b, off, M, c, x1, x2, x3, x4⟩ := hv.get i hi1
    obtain ⟨b', off', M', c', y1, y2, y3, y4⟩ := hv'.get i hi2
    have ta := ht _ (List.getElem_mem hi1)
    have ta' := ht' _ (List.getElem_mem hi2)
    have ed := beqDs_drop hi1 hi2
    obtain ⟨es1, en, em, et⟩ := ta.slice (e := 3) (by kernel_rfl)
    obtain ⟨es2, en', em', et'⟩ := ta'.slice (e := 3) (by kernel_rfl)
    rw [cl3] at en en'
    rw [en] at x2
    rw [en'] at y2
    obtain ⟨va, rfl, hva⟩ := x2.slv
    obtain ⟨vb, rfl, hvb⟩ := y2.slv
    rw [en, en', beqD_sl] at ed
    have l1 := (ld_old H.old x3 x4 (by omega)).2.1
    have l2 := (ld_old H.old y3 y4 (by omega)).2.1
    simp only [List.getElem?_cons_zero] at l1 l2
    refine wp_round fun LL hLL => ?_
    simp -implicitDefEqProofs only [↓GP, GB, GL, Nat.reduceAdd, Nat.reduceSub, Nat.reduceEqDiff, Nat.reduceMul, Nat.reduceLeDiff, Int.reduceBNe, Int.reduceBEq, Nat.reduceLT, reduceCtorEq, l25_0, hlt, x1, y1, l1, l2]
    refine wp_in ((l24 et et' em) _ _ _ _ _ hva hvb H fun s1 h1 => ?_)
    cases g : beqDs es1 es2 with
    | false =>
      rw [g, Bool.false_and] at ed
      simp -implicitDefEqProofs only [↓GP, GB, GL, Nat.reduceAdd, Nat.reduceSub, Nat.reduceEqDiff, Nat.reduceMul, Nat.reduceLeDiff, Int.reduceBNe, Int.reduceBEq, Nat.reduceLT, reduceCtorEq, g]
      exact kf _ (h1) ed
    | true =>
      rw [g, Bool.true_and] at ed
      simp -implicitDefEqProofs only [↓GP, GB, GL, Nat.reduceAdd, Nat.reduceSub, Nat.reduceEqDiff, Nat.reduceMul, Nat.reduceLeDiff, Int.reduceBNe, Int.reduceBEq, Nat.reduceLT, reduceCtorEq, g, hw1]
      rw [hLL]
      exact l25_0_loop hv hv' hl ht ht' hm m (i + 1) _ _ rfl (by omega) (h1) (fun s2 h2 e => kt s2 h2 (ed.trans e)) (fun s2 h2 e => kf s2 h2 (ed.trans e))
theorem l25 {es es' : List D} (ht : ∀ d ∈ es, HasTy Tryz.prog 26 d) (ht' : ∀ d ∈ es', HasTy Tryz.prog 26 d) (hm : es.length ≤ maxLen) : EqLF o 25 1 24 es es' := by
  intro v v' C s Q hv hv' H k
  by_cases hl : es.length = es'.length
  · have hz : (((es.length : Nat) : Int) == ((es'.length : Nat) : Int)) = true := by rw [beq_iff_eq]; omega
    rw [call_run F25]; simp -implicitDefEqProofs only [↓GP, GB, GL, Nat.reduceAdd, Nat.reduceSub, Nat.reduceEqDiff, Nat.reduceMul, Nat.reduceLeDiff, Int.reduceBNe, Int.reduceBEq, Nat.reduceLT, reduceCtorEq, c25, hv.len, hv'.len, bne, hz]
    refine l25_0_loop hv hv' hl ht ht' hm _ 0 _ _ rfl (Nat.zero_add _) H (fun s1 h1 g => ?_) (fun s1 h1 g => ?_) <;> rw [List.drop_zero, List.drop_zero] at g <;> simp only [g] at k
    · simp -implicitDefEqProofs only [↓GP, GB, GL, Nat.reduceAdd, Nat.reduceSub, Nat.reduceEqDiff, Nat.reduceMul, Nat.reduceLeDiff, Int.reduceBNe, Int.reduceBEq, Nat.reduceLT, reduceCtorEq]
      exact k _ h1
    · simp -implicitDefEqProofs only [↓GP, GB, GL, Nat.reduceAdd, Nat.reduceSub, Nat.reduceEqDiff, Nat.reduceMul, Nat.reduceLeDiff, Int.reduceBNe, Int.reduceBEq, Nat.reduceLT, reduceCtorEq]
      exact k _ h1
  · have hz : (((es.length : Nat) : Int) == ((es'.length : Nat) : Int)) = false := by rw [beq_eq_false_iff_ne]; omega
    rw [call_run F25]; simp -implicitDefEqProofs only [↓GP, GB, GL, Nat.reduceAdd, Nat.reduceSub, Nat.reduceEqDiff, Nat.reduceMul, Nat.reduceLeDiff, Int.reduceBNe, Int.reduceBEq, Nat.reduceLT, reduceCtorEq, c25, hv.len, hv'.len, bne, hz]
    simp only [beqDs_ne hl] at k
    exact k _ H
theorem l40_0_loop {es es' : List D} {v v' : V} {C : Ch} {Q : V → St → Prop} {K : Kt} (hv : SlD o 3 es v) (hv' : SlD o 3 es' v') (hl : es.length = es'.length) (ht : ∀ d ∈ es, HasTy Tryz.prog 50 d) (ht' : ∀ d ∈ es', HasTy Tryz.prog 50 d) (hm : es.length ≤ maxLen) (IH : ∀ x ∈ es, ∀ x', EqS o 22 50 x x') :
    ∀ (m i : Nat) (z : Int) (s : St), z = ((i : Nat) : Int) → i + m = es.length → Holds o s C →
    (∀ s', Holds o s' C → beqDs (es.drop i) (es'.drop i) = true → WP (K (.exit 0) (sp 32 []) s') Q) →
    (∀ s', Holds o s' C → beqDs (es.drop i) (es'.drop i) = false → WP (K .ret (sp 32 [(6, .bool false)]) s') Q) → WP (loop PF (.loop l40_0) (sp 32 [(1, v'), (2, .func 22 [] []), (15, v), (16, I es.length), (17, I z)]) s K) Q
  | 0, i, z, s, hz, hi, H, kt, kf => by
    subst hz
    have hlt : ¬ ((i : Int) < (es.length : Int)) := by omega
    refine wp_round fun LL hLL => ?_
    simp -implicitDefEqProofs only [↓GP, GB, GL, Nat.reduceAdd, Nat.reduceSub, Nat.reduceEqDiff, Nat.reduceMul, Nat.reduceLeDiff, Int.reduceBNe, Int.reduceBEq, Nat.reduceLT, reduceCtorEq, l40_0, hlt]
    exact kt s H (by rw [List.drop_eq_nil_of_le (by omega), List.drop_eq_nil_of_le (by omega), beqDs_nil])
  | m + 1, i, z, s, hz, hi, H, kt, kf => by
    subst hz
    have hlt : ((i : Int) < (es.length : Int)) := by omega
    have hi1 : i < es.length := by omega
    have hi2 : i < es'.length := by omega
    have hw1 := wrap_len (a := i) (by omega)
    obtain ⟨b, off, M, c, x1, x2, x3, x4⟩ := hv.get i hi1
    obtain ⟨b', off', M', c', y1, y2, y3, y4⟩ := hv'.get i hi2
    have ta := ht _ (List.getElem_mem hi1)
    have ta' := ht' _ (List.getElem_mem hi2)
    have ed := beqDs_drop hi1 hi2
    obtain ⟨k1, k2, k3⟩ := zTy ta x2
    obtain ⟨k4, k5, k6⟩ := zTy ta' y2
    have l1 := (ld_old H.old x3 x4 (by omega)).1
    have l2 := (ld_old H.old y3 y4 (by omega)).1
    refine wp_round fun LL hLL => ?_
    simp -implicitDefEqProofs only [↓GP, GB, GL, Nat.reduceAdd, Nat.reduceSub, Nat.reduceEqDiff, Nat.reduceMul, Nat.reduceLeDiff, Int.reduceBNe, Int.reduceBEq, Nat.reduceLT, reduceCtorEq, l40_0, hlt, x1, y1, l1, l2, ldo_alloc, ldo_set, st_new, k1, k2, k3, k4, k5, k6, cells_agg, ldN_some]
    have h0 : Holds o ((((s.alloc (.cells [.str (ByteArray.mk #[]), .str (ByteArray.mk #[]), .slice none 0 (some 0)] none)).set s.next (.cells c none)).alloc (.cells [.str (ByteArray.mk #[]), .str (ByteArray.mk #[]), .slice none 0 (some 0)] none)).set (s.next + 1) (.cells c' none)) ((s.next + 1, some (.cells c' none)) :: (s.next, some (.cells c none)) :: C) := ((((H.alloc _).set0 _).alloc _).set0 _)
    refine wp_in (IH _ (List.getElem_mem hi1) _ _ _ _ _ _ ta ta' x2 y2 h0 fun s1 h1 => ?_)
    cases g : beqD es[i] es'[i] with
    | false =>
      rw [g, Bool.false_and] at ed
      simp -implicitDefEqProofs only [↓GP, GB, GL, Nat.reduceAdd, Nat.reduceSub, Nat.reduceEqDiff, Nat.reduceMul, Nat.reduceLeDiff, Int.reduceBNe, Int.reduceBEq, Nat.reduceLT, reduceCtorEq, g]
      exact kf _ (h1.tl.tl) ed
    | true =>
      rw [g, Bool.true_and] at ed
      simp -implicitDefEqProofs only [↓GP, GB, GL, Nat.reduceAdd, Nat.reduceSub, Nat.reduceEqDiff, Nat.reduceMul, Nat.reduceLeDiff, Int.reduceBNe, Int.reduceBEq, Nat.reduceLT, reduceCtorEq, g, hw1]
      rw [hLL]
      exact l40_0_loop hv hv' hl ht ht' hm IH m (i + 1) _ _ rfl (by omega) (h1.tl.tl) (fun s2 h2 e => kt s2 h2 (ed.trans e)) (fun s2 h2 e => kf s2 h2 (ed.trans e))
theorem l40 {es es' : List D} (ht : ∀ d ∈ es, HasTy Tryz.prog 50 d) (ht' : ∀ d ∈ es', HasTy Tryz.prog 50 d) (hm : es.length ≤ maxLen) (IH : ∀ x ∈ es, ∀ x', EqS o 22 50 x x') : EqLF o 40 3 22 es es' := by
  intro v v' C s Q hv hv' H k
  by_cases hl : es.length = es'.length
  · have hz : (((es.length : Nat) : Int) == ((es'.length : Nat) : Int)) = true := by rw [beq_iff_eq]; omega
    rw [call_run F40]; simp -implicitDefEqProofs only [↓GP, GB, GL, Nat.reduceAdd, Nat.reduceSub, Nat.reduceEqDiff, Nat.reduceMul, Nat.reduceLeDiff, Int.reduceBNe, Int.reduceBEq, Nat.reduceLT, reduceCtorEq, c40, hv.len, hv'.len, bne, hz]
    refine l40_0_loop hv hv' hl ht ht' hm IH _ 0 _ _ rfl (Nat.zero_add _) H (fun s1 h1 g => ?_) (fun s1 h1 g => ?_) <;> rw [List.drop_zero, List.drop_zero] at g <;> simp only [g] at k
    · simp -implicitDefEqProofs only [↓GP, GB, GL, Nat.reduceAdd, Nat.reduceSub, Nat.reduceEqDiff, Nat.reduceMul, Nat.reduceLeDiff, Int.reduceBNe, Int.reduceBEq, Nat.reduceLT, reduceCtorEq]
      exact k _ h1
    · simp -implicitDefEqProofs only [↓GP, GB, GL, Nat.reduceAdd, Nat.reduceSub, Nat.reduceEqDiff, Nat.reduceMul, Nat.reduceLeDiff, Int.reduceBNe, Int.reduceBEq, Nat.reduceLT, reduceCtorEq]
      exact k _ h1
  · have hz : (((es.length : Nat) : Int) == ((es'.length : Nat) : Int)) = false := by rw [beq_eq_false_iff_ne]; omega
    rw [call_run F40]; simp -implicitDefEqProofs only [↓GP, GB, GL, Nat.reduceAdd, Nat.reduceSub, Nat.reduceEqDiff, Nat.reduceMul, Nat.reduceLeDiff, Int.reduceBNe, Int.reduceBEq, Nat.reduceLT, reduceCtorEq, c40, hv.len, hv'.len, bne, hz]
    simp only [beqDs_ne hl] at k
    exact k _ H
/-- Function 22: Ty. -/
theorem t22 (d d' : D) (IH : ∀ x x' : D, SizeOf.sizeOf x < SizeOf.sizeOf d → EqS o 22 50 x x') : EqS o 22 50 d d' := by
    intro c c' C s Q ht ht' r r' H k
    obtain ⟨s0, s1, L2, v2, rfl, hc, w⟩ := vTy ht r
    obtain ⟨s0', s1', L2', v2', rfl, hc', w'⟩ := vTy ht' r'
    have qa0 : c[0]? = some (.str s0) := by rw [hc]; rfl
    have qa1 : c[1]? = some (.str s1) := by rw [hc]; rfl
    have qa2 : c[2]? = some (v2) := by rw [hc]; rfl
    have qaa : c.all V.one = true := by rw [hc]; simp only [List.all_cons, List.all_nil, one_s, one_i, one_b, Bool.and_true, w.e2.one]
    have qb0 : c'[0]? = some (.str s0') := by rw [hc']; rfl
    have qb1 : c'[1]? = some (.str s1') := by rw [hc']; rfl
    have qb2 : c'[2]? = some (v2') := by rw [hc']; rfl
    have qab : c'.all V.one = true := by rw [hc']; simp only [List.all_cons, List.all_nil, one_s, one_i, one_b, Bool.and_true, w'.e2.one]
    have h0 : Holds o ((s.alloc (.cells c none)).alloc (.cells c' none)) ((s.next + 1, some (.cells c' none)) :: (s.next, some (.cells c none)) :: C) := (H.alloc _).alloc _
    cases g1 : (s0.toList == s0'.toList) with
    | false =>
      rw [call_run F22]; simp -implicitDefEqProofs only [↓GP, GB, GL, Nat.reduceAdd, Nat.reduceSub, Nat.reduceEqDiff, Nat.reduceMul, Nat.reduceLeDiff, Int.reduceBNe, Int.reduceBEq, Nat.reduceLT, reduceCtorEq, c22, qa0, qa1, qa2, qaa, qb0, qb1, qb2, qab, cells_agg, ldC_some, ldN_some, b_seq, b_sne, bEq, bne, w.e2.len, w'.e2.len, g1]
      have e : beqD (.agg [.lit (.str s0), .lit (.str s1), .sl 3 L2]) (.agg [.lit (.str s0'), .lit (.str s1'), .sl 3 L2']) = false := by rw [beqD_agg]; simp only [beqDs_cons, beqDs_nil, beqD_sl, beqD_lit, litEq, g1, Bool.true_and, Bool.false_and, Bool.and_false, Bool.and_true]
      simp only [e] at k
      exact k _ h0.tl.tl
    | true =>
      cases g2 : (s1.toList == s1'.toList) with
      | false =>
        rw [call_run F22]; simp -implicitDefEqProofs only [↓GP, GB, GL, Nat.reduceAdd, Nat.reduceSub, Nat.reduceEqDiff, Nat.reduceMul, Nat.reduceLeDiff, Int.reduceBNe, Int.reduceBEq, Nat.reduceLT, reduceCtorEq, c22, qa0, qa1, qa2, qaa, qb0, qb1, qb2, qab, cells_agg, ldC_some, ldN_some, b_seq, b_sne, bEq, bne, w.e2.len, w'.e2.len, g1, g2]
        have e : beqD (.agg [.lit (.str s0), .lit (.str s1), .sl 3 L2]) (.agg [.lit (.str s0'), .lit (.str s1'), .sl 3 L2']) = false := by rw [beqD_agg]; simp only [beqDs_cons, beqDs_nil, beqD_sl, beqD_lit, litEq, g1, g2, Bool.true_and, Bool.false_and, Bool.and_false, Bool.and_true]
        simp only [e] at k
        exact k _ h0.tl.tl
      | true =>
        rw [call_run F22]; simp -implicitDefEqProofs only [↓GP, GB, GL, Nat.reduceAdd, Nat.reduceSub, Nat.reduceEqDiff, Nat.reduceMul, Nat.reduceLeDiff, Int.reduceBNe, Int.reduceBEq, Nat.reduceLT, reduceCtorEq, c22, qa0, qa1, qa2, qaa, qb0, qb1, qb2, qab, cells_agg, ldC_some, ldN_some, b_seq, b_sne, bEq, bne, w.e2.len, w'.e2.len, g1, g2]
        refine wp_in ((l40 w.t2 w'.t2 w.m2 fun x hx x' => IH x x' (mem_agg (ds := [.lit (.str s0), .lit (.str s1), .sl 3 L2]) (sz := 3) (List.mem_of_getElem? (i := 2) rfl) hx)) _ _ _ _ _ w.e2 w'.e2 h0 fun u3 h3 => ?_)
        have f3 := h3.f2
        cases g3 : beqDs L2 L2' with
        | false =>
          simp -implicitDefEqProofs only [↓GP, GB, GL, Nat.reduceAdd, Nat.reduceSub, Nat.reduceEqDiff, Nat.reduceMul, Nat.reduceLeDiff, Int.reduceBNe, Int.reduceBEq, Nat.reduceLT, reduceCtorEq, f3, qa0, qa1, qa2, qaa, qb0, qb1, qb2, qab, cells_agg, ldC_some, ldN_some, b_seq, b_sne, bEq, bne, w.e2.len, w'.e2.len, g3]
          have e : beqD (.agg [.lit (.str s0), .lit (.str s1), .sl 3 L2]) (.agg [.lit (.str s0'), .lit (.str s1'), .sl 3 L2']) = false := by rw [beqD_agg]; simp only [beqDs_cons, beqDs_nil, beqD_sl, beqD_lit, litEq, g1, g2, g3, Bool.true_and, Bool.false_and, Bool.and_false, Bool.and_true]
          simp only [e] at k
          exact k _ h3.tl.tl
        | true =>
          simp -implicitDefEqProofs only [↓GP, GB, GL, Nat.reduceAdd, Nat.reduceSub, Nat.reduceEqDiff, Nat.reduceMul, Nat.reduceLeDiff, Int.reduceBNe, Int.reduceBEq, Nat.reduceLT, reduceCtorEq, f3, qa0, qa1, qa2, qaa, qb0, qb1, qb2, qab, cells_agg, ldC_some, ldN_some, b_seq, b_sne, bEq, bne, w.e2.len, w'.e2.len, g3]
          have e : beqD (.agg [.lit (.str s0), .lit (.str s1), .sl 3 L2]) (.agg [.lit (.str s0'), .lit (.str s1'), .sl 3 L2']) = true := by rw [beqD_agg]; simp only [beqDs_cons, beqDs_nil, beqD_sl, beqD_lit, litEq, g1, g2, g3, Bool.true_and, Bool.false_and, Bool.and_false, Bool.and_true]
          simp only [e] at k
          exact k _ h3.tl.tl
theorem s22 : ∀ (m : Nat) (d d' : D), SizeOf.sizeOf d < m → EqS o 22 50 d d'
  | 0, _, _, hm => absurd hm (Nat.not_lt_zero _)
  | m + 1, d, d', hm => t22 d d' fun x x' h => s22 m x x' (Nat.lt_of_lt_of_le h (Nat.le_of_lt_succ hm))
theorem e22 (d d' : D) : EqS o 22 50 d d' := s22 _ d d' (Nat.lt_succ_self _)
/-- Function 16: Con. -/
theorem t16 (d d' : D) (IH : ∀ x x' : D, SizeOf.sizeOf x < SizeOf.sizeOf d → EqS o 16 52 x x') : EqS o 16 52 d d' := by
    intro c c' C s Q ht ht' r r' H k
    obtain ⟨s0, b1, s2_0, s2_1, L2_2, v2_2, rfl, hc, w⟩ := vCon ht r
    obtain ⟨s0', b1', s2_0', s2_1', L2_2', v2_2', rfl, hc', w'⟩ := vCon ht' r'
    have qa0 : c[0]? = some (.str s0) := by rw [hc]; rfl
    have qa1 : c[1]? = some (.bool b1) := by rw [hc]; rfl
    have qa2 : cut c 2 3 = some [.str s2_0, .str s2_1, v2_2] := by rw [hc]; rfl
    have qaa : c.all V.one = true := by rw [hc]; simp only [List.all_cons, List.all_nil, one_s, one_i, one_b, Bool.and_true, w.w2.e2.one]
    have qb0 : c'[0]? = some (.str s0') := by rw [hc']; rfl
    have qb1 : c'[1]? = some (.bool b1') := by rw [hc']; rfl
    have qb2 : cut c' 2 3 = some [.str s2_0', .str s2_1', v2_2'] := by rw [hc']; rfl
    have qab : c'.all V.one = true := by rw [hc']; simp only [List.all_cons, List.all_nil, one_s, one_i, one_b, Bool.and_true, w'.w2.e2.one]
    have h0 : Holds o ((s.alloc (.cells c none)).alloc (.cells c' none)) ((s.next + 1, some (.cells c' none)) :: (s.next, some (.cells c none)) :: C) := (H.alloc _).alloc _
    cases g1 : (s0.toList == s0'.toList) with
    | false =>
      rw [call_run F16]; simp -implicitDefEqProofs only [↓GP, GB, GL, Nat.reduceAdd, Nat.reduceSub, Nat.reduceEqDiff, Nat.reduceMul, Nat.reduceLeDiff, Int.reduceBNe, Int.reduceBEq, Nat.reduceLT, reduceCtorEq, c16, qa0, qa1, qa2, qaa, qb0, qb1, qb2, qab, cells_agg, ldC_some, ldN_some, b_seq, b_sne, bEq, bne, g1]
      have e : beqD (.agg [.lit (.str s0), .lit (.bool b1), .agg [.lit (.str s2_0), .lit (.str s2_1), .sl 3 L2_2]]) (.agg [.lit (.str s0'), .lit (.bool b1'), .agg [.lit (.str s2_0'), .lit (.str s2_1'), .sl 3 L2_2']]) = false := by rw [beqD_agg]; simp only [beqDs_cons, beqDs_nil, beqD_sl, beqD_lit, litEq, g1, Bool.true_and, Bool.false_and, Bool.and_false, Bool.and_true]
      simp only [e] at k
      exact k _ h0.tl.tl
    | true =>
      cases g2 : (b1 == b1') with
      | false =>
        rw [call_run F16]; simp -implicitDefEqProofs only [↓GP, GB, GL, Nat.reduceAdd, Nat.reduceSub, Nat.reduceEqDiff, Nat.reduceMul, Nat.reduceLeDiff, Int.reduceBNe, Int.reduceBEq, Nat.reduceLT, reduceCtorEq, c16, qa0, qa1, qa2, qaa, qb0, qb1, qb2, qab, cells_agg, ldC_some, ldN_some, b_seq, b_sne, bEq, bne, g1, g2]
        have e : beqD (.agg [.lit (.str s0), .lit (.bool b1), .agg [.lit (.str s2_0), .lit (.str s2_1), .sl 3 L2_2]]) (.agg [.lit (.str s0'), .lit (.bool b1'), .agg [.lit (.str s2_0'), .lit (.str s2_1'), .sl 3 L2_2']]) = false := by rw [beqD_agg]; simp only [beqDs_cons, beqDs_nil, beqD_sl, beqD_lit, litEq, g1, g2, Bool.true_and, Bool.false_and, Bool.and_false, Bool.and_true]
        simp only [e] at k
        exact k _ h0.tl.tl
      | true =>
        rw [call_run F16]; simp -implicitDefEqProofs only [↓GP, GB, GL, Nat.reduceAdd, Nat.reduceSub, Nat.reduceEqDiff, Nat.reduceMul, Nat.reduceLeDiff, Int.reduceBNe, Int.reduceBEq, Nat.reduceLT, reduceCtorEq, c16, qa0, qa1, qa2, qaa, qb0, qb1, qb2, qab, cells_agg, ldC_some, ldN_some, b_seq, b_sne, bEq, bne, g1, g2]
        refine wp_in ((e22 _ _) _ _ _ _ _ w.h2 w'.h2 w.r2 w'.r2 h0 fun u3 h3 => ?_)
        have f3 := h3.f2
        cases g3 : beqD (.agg [.lit (.str s2_0), .lit (.str s2_1), .sl 3 L2_2]) (.agg [.lit (.str s2_0'), .lit (.str s2_1'), .sl 3 L2_2']) with
        | false =>
          simp -implicitDefEqProofs only [↓GP, GB, GL, Nat.reduceAdd, Nat.reduceSub, Nat.reduceEqDiff, Nat.reduceMul, Nat.reduceLeDiff, Int.reduceBNe, Int.reduceBEq, Nat.reduceLT, reduceCtorEq, f3, qa0, qa1, qa2, qaa, qb0, qb1, qb2, qab, cells_agg, ldC_some, ldN_some, b_seq, b_sne, bEq, bne, g3]
          have e : beqD (.agg [.lit (.str s0), .lit (.bool b1), .agg [.lit (.str s2_0), .lit (.str s2_1), .sl 3 L2_2]]) (.agg [.lit (.str s0'), .lit (.bool b1'), .agg [.lit (.str s2_0'), .lit (.str s2_1'), .sl 3 L2_2']]) = false := by rw [beqD_agg]; simp only [beqDs_cons, beqDs_nil, beqD_sl, beqD_lit, litEq, g1, g2, g3, Bool.true_and, Bool.false_and, Bool.and_false, Bool.and_true]
          simp only [e] at k
          exact k _ h3.tl.tl
        | true =>
          simp -implicitDefEqProofs only [↓GP, GB, GL, Nat.reduceAdd, Nat.reduceSub, Nat.reduceEqDiff, Nat.reduceMul, Nat.reduceLeDiff, Int.reduceBNe, Int.reduceBEq, Nat.reduceLT, reduceCtorEq, f3, qa0, qa1, qa2, qaa, qb0, qb1, qb2, qab, cells_agg, ldC_some, ldN_some, b_seq, b_sne, bEq, bne, g3]
          have e : beqD (.agg [.lit (.str s0), .lit (.bool b1), .agg [.lit (.str s2_0), .lit (.str s2_1), .sl 3 L2_2]]) (.agg [.lit (.str s0'), .lit (.bool b1'), .agg [.lit (.str s2_0'), .lit (.str s2_1'), .sl 3 L2_2']]) = true := by rw [beqD_agg]; simp only [beqDs_cons, beqDs_nil, beqD_sl, beqD_lit, litEq, g1, g2, g3, Bool.true_and, Bool.false_and, Bool.and_false, Bool.and_true]
          simp only [e] at k
          exact k _ h3.tl.tl
theorem s16 : ∀ (m : Nat) (d d' : D), SizeOf.sizeOf d < m → EqS o 16 52 d d'
  | 0, _, _, hm => absurd hm (Nat.not_lt_zero _)
  | m + 1, d, d', hm => t16 d d' fun x x' h => s16 m x x' (Nat.lt_of_lt_of_le h (Nat.le_of_lt_succ hm))
theorem e16 (d d' : D) : EqS o 16 52 d d' := s16 _ d d' (Nat.lt_succ_self _)
theorem l15_0_loop {es es' : List D} {v v' : V} {C : Ch} {Q : V → St → Prop} {K : Kt} (hv : SlD o 5 es v) (hv' : SlD o 5 es' v') (hl : es.length = es'.length) (ht : ∀ d ∈ es, HasTy Tryz.prog 52 d) (ht' : ∀ d ∈ es', HasTy Tryz.prog 52 d) (hm : es.length ≤ maxLen) (IH : ∀ x ∈ es, ∀ x', EqS o 16 52 x x') :
    ∀ (m i : Nat) (z : Int) (s : St), z = ((i : Nat) : Int) → i + m = es.length → Holds o s C →
    (∀ s', Holds o s' C → beqDs (es.drop i) (es'.drop i) = true → WP (K (.exit 0) (sp 32 []) s') Q) →
    (∀ s', Holds o s' C → beqDs (es.drop i) (es'.drop i) = false → WP (K .ret (sp 32 [(6, .bool false)]) s') Q) → WP (loop PF (.loop l15_0) (sp 32 [(1, v'), (2, .func 16 [] []), (15, v), (16, I es.length), (17, I z)]) s K) Q
  | 0, i, z, s, hz, hi, H, kt, kf => by
    subst hz
    have hlt : ¬ ((i : Int) < (es.length : Int)) := by omega
    refine wp_round fun LL hLL => ?_
    simp -implicitDefEqProofs only [↓GP, GB, GL, Nat.reduceAdd, Nat.reduceSub, Nat.reduceEqDiff, Nat.reduceMul, Nat.reduceLeDiff, Int.reduceBNe, Int.reduceBEq, Nat.reduceLT, reduceCtorEq, l15_0, hlt]
    exact kt s H (by rw [List.drop_eq_nil_of_le (by omega), List.drop_eq_nil_of_le (by omega), beqDs_nil])
  | m + 1, i, z, s, hz, hi, H, kt, kf => by
    subst hz
    have hlt : ((i : Int) < (es.length : Int)) := by omega
    have hi1 : i < es.length := by omega
    have hi2 : i < es'.length := by omega
    have hw1 := wrap_len (a := i) (by omega)
    obtain ⟨b, off, M, c, x1, x2, x3, x4⟩ := hv.get i hi1
    obtain ⟨b', off', M', c', y1, y2, y3, y4⟩ := hv'.get i hi2
    have ta := ht _ (List.getElem_mem hi1)
    have ta' := ht' _ (List.getElem_mem hi2)
    have ed := beqDs_drop hi1 hi2
    obtain ⟨k1, k2, k3⟩ := zCon ta x2
    obtain ⟨k4, k5, k6⟩ := zCon ta' y2
    have l1 := (ld_old H.old x3 x4 (by omega)).1
    have l2 := (ld_old H.old y3 y4 (by omega)).1
    refine wp_round fun LL hLL => ?_
    simp -implicitDefEqProofs only [↓GP, GB, GL, Nat.reduceAdd, Nat.reduceSub, Nat.reduceEqDiff, Nat.reduceMul, Nat.reduceLeDiff, Int.reduceBNe, Int.reduceBEq, Nat.reduceLT, reduceCtorEq, l15_0, hlt, x1, y1, l1, l2, ldo_alloc, ldo_set, st_new, k1, k2, k3, k4, k5, k6, cells_agg, ldN_some]
    have h0 : Holds o ((((s.alloc (.cells [.str (ByteArray.mk #[]), .bool false, .str (ByteArray.mk #[]), .str (ByteArray.mk #[]), .slice none 0 (some 0)] none)).set s.next (.cells c none)).alloc (.cells [.str (ByteArray.mk #[]), .bool false, .str (ByteArray.mk #[]), .str (ByteArray.mk #[]), .slice none 0 (some 0)] none)).set (s.next + 1) (.cells c' none)) ((s.next + 1, some (.cells c' none)) :: (s.next, some (.cells c none)) :: C) := ((((H.alloc _).set0 _).alloc _).set0 _)
    refine wp_in (IH _ (List.getElem_mem hi1) _ _ _ _ _ _ ta ta' x2 y2 h0 fun s1 h1 => ?_)
    cases g : beqD es[i] es'[i] with
    | false =>
      rw [g, Bool.false_and] at ed
      simp -implicitDefEqProofs only [↓GP, GB, GL, Nat.reduceAdd, Nat.reduceSub, Nat.reduceEqDiff, Nat.reduceMul, Nat.reduceLeDiff, Int.reduceBNe, Int.reduceBEq, Nat.reduceLT, reduceCtorEq, g]
      exact kf _ (h1.tl.tl) ed
    | true =>
      rw [g, Bool.true_and] at ed
      simp -implicitDefEqProofs only [↓GP, GB, GL, Nat.reduceAdd, Nat.reduceSub, Nat.reduceEqDiff, Nat.reduceMul, Nat.reduceLeDiff, Int.reduceBNe, Int.reduceBEq, Nat.reduceLT, reduceCtorEq, g, hw1]
      rw [hLL]
      exact l15_0_loop hv hv' hl ht ht' hm IH m (i + 1) _ _ rfl (by omega) (h1.tl.tl) (fun s2 h2 e => kt s2 h2 (ed.trans e)) (fun s2 h2 e => kf s2 h2 (ed.trans e))
theorem l15 {es es' : List D} (ht : ∀ d ∈ es, HasTy Tryz.prog 52 d) (ht' : ∀ d ∈ es', HasTy Tryz.prog 52 d) (hm : es.length ≤ maxLen) (IH : ∀ x ∈ es, ∀ x', EqS o 16 52 x x') : EqLF o 15 5 16 es es' := by
  intro v v' C s Q hv hv' H k
  by_cases hl : es.length = es'.length
  · have hz : (((es.length : Nat) : Int) == ((es'.length : Nat) : Int)) = true := by rw [beq_iff_eq]; omega
    rw [call_run F15]; simp -implicitDefEqProofs only [↓GP, GB, GL, Nat.reduceAdd, Nat.reduceSub, Nat.reduceEqDiff, Nat.reduceMul, Nat.reduceLeDiff, Int.reduceBNe, Int.reduceBEq, Nat.reduceLT, reduceCtorEq, c15, hv.len, hv'.len, bne, hz]
    refine l15_0_loop hv hv' hl ht ht' hm IH _ 0 _ _ rfl (Nat.zero_add _) H (fun s1 h1 g => ?_) (fun s1 h1 g => ?_) <;> rw [List.drop_zero, List.drop_zero] at g <;> simp only [g] at k
    · simp -implicitDefEqProofs only [↓GP, GB, GL, Nat.reduceAdd, Nat.reduceSub, Nat.reduceEqDiff, Nat.reduceMul, Nat.reduceLeDiff, Int.reduceBNe, Int.reduceBEq, Nat.reduceLT, reduceCtorEq]
      exact k _ h1
    · simp -implicitDefEqProofs only [↓GP, GB, GL, Nat.reduceAdd, Nat.reduceSub, Nat.reduceEqDiff, Nat.reduceMul, Nat.reduceLeDiff, Int.reduceBNe, Int.reduceBEq, Nat.reduceLT, reduceCtorEq]
      exact k _ h1
  · have hz : (((es.length : Nat) : Int) == ((es'.length : Nat) : Int)) = false := by rw [beq_eq_false_iff_ne]; omega
    rw [call_run F15]; simp -implicitDefEqProofs only [↓GP, GB, GL, Nat.reduceAdd, Nat.reduceSub, Nat.reduceEqDiff, Nat.reduceMul, Nat.reduceLeDiff, Int.reduceBNe, Int.reduceBEq, Nat.reduceLT, reduceCtorEq, c15, hv.len, hv'.len, bne, hz]
    simp only [beqDs_ne hl] at k
    exact k _ H
/-- Function 14: Data. -/
theorem t14 (d d' : D) (IH : ∀ x x' : D, SizeOf.sizeOf x < SizeOf.sizeOf d → EqS o 14 46 x x') : EqS o 14 46 d d' := by
    intro c c' C s Q ht ht' r r' H k
    obtain ⟨s0, L1, v1, rfl, hc, w⟩ := vData ht r
    obtain ⟨s0', L1', v1', rfl, hc', w'⟩ := vData ht' r'
    have qa0 : c[0]? = some (.str s0) := by rw [hc]; rfl
    have qa1 : c[1]? = some (v1) := by rw [hc]; rfl
    have qaa : c.all V.one = true := by rw [hc]; simp only [List.all_cons, List.all_nil, one_s, one_i, one_b, Bool.and_true, w.e1.one]
    have qb0 : c'[0]? = some (.str s0') := by rw [hc']; rfl
    have qb1 : c'[1]? = some (v1') := by rw [hc']; rfl
    have qab : c'.all V.one = true := by rw [hc']; simp only [List.all_cons, List.all_nil, one_s, one_i, one_b, Bool.and_true, w'.e1.one]
    have h0 : Holds o ((s.alloc (.cells c none)).alloc (.cells c' none)) ((s.next + 1, some (.cells c' none)) :: (s.next, some (.cells c none)) :: C) := (H.alloc _).alloc _
    cases g1 : (s0.toList == s0'.toList) with
    | false =>
      rw [call_run F14]; simp -implicitDefEqProofs only [↓GP, GB, GL, Nat.reduceAdd, Nat.reduceSub, Nat.reduceEqDiff, Nat.reduceMul, Nat.reduceLeDiff, Int.reduceBNe, Int.reduceBEq, Nat.reduceLT, reduceCtorEq, c14, qa0, qa1, qaa, qb0, qb1, qab, cells_agg, ldC_some, ldN_some, b_seq, b_sne, bEq, bne, w.e1.len, w'.e1.len, g1]
      have e : beqD (.agg [.lit (.str s0), .sl 5 L1]) (.agg [.lit (.str s0'), .sl 5 L1']) = false := by rw [beqD_agg]; simp only [beqDs_cons, beqDs_nil, beqD_sl, beqD_lit, litEq, g1, Bool.true_and, Bool.false_and, Bool.and_false, Bool.and_true]
      simp only [e] at k
      exact k _ h0.tl.tl
    | true =>
      rw [call_run F14]; simp -implicitDefEqProofs only [↓GP, GB, GL, Nat.reduceAdd, Nat.reduceSub, Nat.reduceEqDiff, Nat.reduceMul, Nat.reduceLeDiff, Int.reduceBNe, Int.reduceBEq, Nat.reduceLT, reduceCtorEq, c14, qa0, qa1, qaa, qb0, qb1, qab, cells_agg, ldC_some, ldN_some, b_seq, b_sne, bEq, bne, w.e1.len, w'.e1.len, g1]
      refine wp_in ((l15 w.t1 w'.t1 w.m1 fun x _ x' => e16 x x') _ _ _ _ _ w.e1 w'.e1 h0 fun u2 h2 => ?_)
      have f2 := h2.f2
      cases g2 : beqDs L1 L1' with
      | false =>
        simp -implicitDefEqProofs only [↓GP, GB, GL, Nat.reduceAdd, Nat.reduceSub, Nat.reduceEqDiff, Nat.reduceMul, Nat.reduceLeDiff, Int.reduceBNe, Int.reduceBEq, Nat.reduceLT, reduceCtorEq, f2, qa0, qa1, qaa, qb0, qb1, qab, cells_agg, ldC_some, ldN_some, b_seq, b_sne, bEq, bne, w.e1.len, w'.e1.len, g2]
        have e : beqD (.agg [.lit (.str s0), .sl 5 L1]) (.agg [.lit (.str s0'), .sl 5 L1']) = false := by rw [beqD_agg]; simp only [beqDs_cons, beqDs_nil, beqD_sl, beqD_lit, litEq, g1, g2, Bool.true_and, Bool.false_and, Bool.and_false, Bool.and_true]
        simp only [e] at k
        exact k _ h2.tl.tl
      | true =>
        simp -implicitDefEqProofs only [↓GP, GB, GL, Nat.reduceAdd, Nat.reduceSub, Nat.reduceEqDiff, Nat.reduceMul, Nat.reduceLeDiff, Int.reduceBNe, Int.reduceBEq, Nat.reduceLT, reduceCtorEq, f2, qa0, qa1, qaa, qb0, qb1, qab, cells_agg, ldC_some, ldN_some, b_seq, b_sne, bEq, bne, w.e1.len, w'.e1.len, g2]
        have e : beqD (.agg [.lit (.str s0), .sl 5 L1]) (.agg [.lit (.str s0'), .sl 5 L1']) = true := by rw [beqD_agg]; simp only [beqDs_cons, beqDs_nil, beqD_sl, beqD_lit, litEq, g1, g2, Bool.true_and, Bool.false_and, Bool.and_false, Bool.and_true]
        simp only [e] at k
        exact k _ h2.tl.tl
theorem s14 : ∀ (m : Nat) (d d' : D), SizeOf.sizeOf d < m → EqS o 14 46 d d'
  | 0, _, _, hm => absurd hm (Nat.not_lt_zero _)
  | m + 1, d, d', hm => t14 d d' fun x x' h => s14 m x x' (Nat.lt_of_lt_of_le h (Nat.le_of_lt_succ hm))
theorem e14 (d d' : D) : EqS o 14 46 d d' := s14 _ d d' (Nat.lt_succ_self _)
theorem l41_0_loop {es es' : List D} {v v' : V} {C : Ch} {Q : V → St → Prop} {K : Kt} (hv : SlD o 5 es v) (hv' : SlD o 5 es' v') (hl : es.length = es'.length) (ht : ∀ d ∈ es, HasTy Tryz.prog 29 d) (ht' : ∀ d ∈ es', HasTy Tryz.prog 29 d) (hm : es.length ≤ maxLen) (IH : ∀ x ∈ es, ∀ x', EqS o 23 29 x x') :
    ∀ (m i : Nat) (z : Int) (s : St), z = ((i : Nat) : Int) → i + m = es.length → Holds o s C →
    (∀ s', Holds o s' C → beqDs (es.drop i) (es'.drop i) = true → WP (K (.exit 0) (sp 32 []) s') Q) →
    (∀ s', Holds o s' C → beqDs (es.drop i) (es'.drop i) = false → WP (K .ret (sp 32 [(6, .bool false)]) s') Q) → WP (loop PF (.loop l41_0) (sp 32 [(1, v'), (2, .func 23 [] []), (15, v), (16, I es.length), (17, I z)]) s K) Q
  | 0, i, z, s, hz, hi, H, kt, kf => by
    subst hz
    have hlt : ¬ ((i : Int) < (es.length : Int)) := by omega
    refine wp_round fun LL hLL => ?_
    simp -implicitDefEqProofs only [↓GP, GB, GL, Nat.reduceAdd, Nat.reduceSub, Nat.reduceEqDiff, Nat.reduceMul, Nat.reduceLeDiff, Int.reduceBNe, Int.reduceBEq, Nat.reduceLT, reduceCtorEq, l41_0, hlt]
    exact kt s H (by rw [List.drop_eq_nil_of_le (by omega), List.drop_eq_nil_of_le (by omega), beqDs_nil])
  | m + 1, i, z, s, hz, hi, H, kt, kf => by
    subst hz
    have hlt : ((i : Int) < (es.length : Int)) := by omega
    have hi1 : i < es.length := by omega
    have hi2 : i < es'.length := by omega
    have hw1 := wrap_len (a := i) (by omega)
    obtain ⟨b, off, M, c, x1, x2, x3, x4⟩ := hv.get i hi1
    obtain ⟨b', off', M', c', y1, y2, y3, y4⟩ := hv'.get i hi2
    have ta := ht _ (List.getElem_mem hi1)
    have ta' := ht' _ (List.getElem_mem hi2)
    have ed := beqDs_drop hi1 hi2
    obtain ⟨k1, k2, k3⟩ := zRTy ta x2
    obtain ⟨k4, k5, k6⟩ := zRTy ta' y2
    have l1 := (ld_old H.old x3 x4 (by omega)).1
    have l2 := (ld_old H.old y3 y4 (by omega)).1
    refine wp_round fun LL hLL => ?_
    simp -implicitDefEqProofs only [↓GP, GB, GL, Nat.reduceAdd, Nat.reduceSub, Nat.reduceEqDiff, Nat.reduceMul, Nat.reduceLeDiff, Int.reduceBNe, Int.reduceBEq, Nat.reduceLT, reduceCtorEq, l41_0, hlt, x1, y1, l1, l2, ldo_alloc, ldo_set, st_new, k1, k2, k3, k4, k5, k6, cells_agg, ldN_some]
    have h0 : Holds o ((((s.alloc (.cells [.str (ByteArray.mk #[]), .str (ByteArray.mk #[]), .int .i64 0, .slice none 0 (some 0), .slice none 0 (some 0)] none)).set s.next (.cells c none)).alloc (.cells [.str (ByteArray.mk #[]), .str (ByteArray.mk #[]), .int .i64 0, .slice none 0 (some 0), .slice none 0 (some 0)] none)).set (s.next + 1) (.cells c' none)) ((s.next + 1, some (.cells c' none)) :: (s.next, some (.cells c none)) :: C) := ((((H.alloc _).set0 _).alloc _).set0 _)
    refine wp_in (IH _ (List.getElem_mem hi1) _ _ _ _ _ _ ta ta' x2 y2 h0 fun s1 h1 => ?_)
    cases g : beqD es[i] es'[i] with
    | false =>
      rw [g, Bool.false_and] at ed
      simp -implicitDefEqProofs only [↓GP, GB, GL, Nat.reduceAdd, Nat.reduceSub, Nat.reduceEqDiff, Nat.reduceMul, Nat.reduceLeDiff, Int.reduceBNe, Int.reduceBEq, Nat.reduceLT, reduceCtorEq, g]
      exact kf _ (h1.tl.tl) ed
    | true =>
      rw [g, Bool.true_and] at ed
      simp -implicitDefEqProofs only [↓GP, GB, GL, Nat.reduceAdd, Nat.reduceSub, Nat.reduceEqDiff, Nat.reduceMul, Nat.reduceLeDiff, Int.reduceBNe, Int.reduceBEq, Nat.reduceLT, reduceCtorEq, g, hw1]
      rw [hLL]
      exact l41_0_loop hv hv' hl ht ht' hm IH m (i + 1) _ _ rfl (by omega) (h1.tl.tl) (fun s2 h2 e => kt s2 h2 (ed.trans e)) (fun s2 h2 e => kf s2 h2 (ed.trans e))
theorem l41 {es es' : List D} (ht : ∀ d ∈ es, HasTy Tryz.prog 29 d) (ht' : ∀ d ∈ es', HasTy Tryz.prog 29 d) (hm : es.length ≤ maxLen) (IH : ∀ x ∈ es, ∀ x', EqS o 23 29 x x') : EqLF o 41 5 23 es es' := by
  intro v v' C s Q hv hv' H k
  by_cases hl : es.length = es'.length
  · have hz : (((es.length : Nat) : Int) == ((es'.length : Nat) : Int)) = true := by rw [beq_iff_eq]; omega
    rw [call_run F41]; simp -implicitDefEqProofs only [↓GP, GB, GL, Nat.reduceAdd, Nat.reduceSub, Nat.reduceEqDiff, Nat.reduceMul, Nat.reduceLeDiff, Int.reduceBNe, Int.reduceBEq, Nat.reduceLT, reduceCtorEq, c41, hv.len, hv'.len, bne, hz]
    refine l41_0_loop hv hv' hl ht ht' hm IH _ 0 _ _ rfl (Nat.zero_add _) H (fun s1 h1 g => ?_) (fun s1 h1 g => ?_) <;> rw [List.drop_zero, List.drop_zero] at g <;> simp only [g] at k
    · simp -implicitDefEqProofs only [↓GP, GB, GL, Nat.reduceAdd, Nat.reduceSub, Nat.reduceEqDiff, Nat.reduceMul, Nat.reduceLeDiff, Int.reduceBNe, Int.reduceBEq, Nat.reduceLT, reduceCtorEq]
      exact k _ h1
    · simp -implicitDefEqProofs only [↓GP, GB, GL, Nat.reduceAdd, Nat.reduceSub, Nat.reduceEqDiff, Nat.reduceMul, Nat.reduceLeDiff, Int.reduceBNe, Int.reduceBEq, Nat.reduceLT, reduceCtorEq]
      exact k _ h1
  · have hz : (((es.length : Nat) : Int) == ((es'.length : Nat) : Int)) = false := by rw [beq_eq_false_iff_ne]; omega
    rw [call_run F41]; simp -implicitDefEqProofs only [↓GP, GB, GL, Nat.reduceAdd, Nat.reduceSub, Nat.reduceEqDiff, Nat.reduceMul, Nat.reduceLeDiff, Int.reduceBNe, Int.reduceBEq, Nat.reduceLT, reduceCtorEq, c41, hv.len, hv'.len, bne, hz]
    simp only [beqDs_ne hl] at k
    exact k _ H
/-- Function 23: RTy. -/
theorem t23 (d d' : D) (IH : ∀ x x' : D, SizeOf.sizeOf x < SizeOf.sizeOf d → EqS o 23 29 x x') : EqS o 23 29 d d' := by
    intro c c' C s Q ht ht' r r' H k
    obtain ⟨s0, s1, n2, L3, v3, L4, v4, rfl, hc, w⟩ := vRTy ht r
    obtain ⟨s0', s1', n2', L3', v3', L4', v4', rfl, hc', w'⟩ := vRTy ht' r'
    have qa0 : c[0]? = some (.str s0) := by rw [hc]; rfl
    have qa1 : c[1]? = some (.str s1) := by rw [hc]; rfl
    have qa2 : c[2]? = some (.int .i64 n2) := by rw [hc]; rfl
    have qa3 : c[3]? = some (v3) := by rw [hc]; rfl
    have qa4 : c[4]? = some (v4) := by rw [hc]; rfl
    have qaa : c.all V.one = true := by rw [hc]; simp only [List.all_cons, List.all_nil, one_s, one_i, one_b, Bool.and_true, w.e3.one, w.e4.one]
    have qb0 : c'[0]? = some (.str s0') := by rw [hc']; rfl
    have qb1 : c'[1]? = some (.str s1') := by rw [hc']; rfl
    have qb2 : c'[2]? = some (.int .i64 n2') := by rw [hc']; rfl
    have qb3 : c'[3]? = some (v3') := by rw [hc']; rfl
    have qb4 : c'[4]? = some (v4') := by rw [hc']; rfl
    have qab : c'.all V.one = true := by rw [hc']; simp only [List.all_cons, List.all_nil, one_s, one_i, one_b, Bool.and_true, w'.e3.one, w'.e4.one]
    have h0 : Holds o ((s.alloc (.cells c none)).alloc (.cells c' none)) ((s.next + 1, some (.cells c' none)) :: (s.next, some (.cells c none)) :: C) := (H.alloc _).alloc _
    cases g1 : (s0.toList == s0'.toList) with
    | false =>
      rw [call_run F23]; simp -implicitDefEqProofs only [↓GP, GB, GL, Nat.reduceAdd, Nat.reduceSub, Nat.reduceEqDiff, Nat.reduceMul, Nat.reduceLeDiff, Int.reduceBNe, Int.reduceBEq, Nat.reduceLT, reduceCtorEq, c23, qa0, qa1, qa2, qa3, qa4, qaa, qb0, qb1, qb2, qb3, qb4, qab, cells_agg, ldC_some, ldN_some, b_seq, b_sne, bEq, bne, w.e3.len, w.e4.len, w'.e3.len, w'.e4.len, g1]
      have e : beqD (.agg [.lit (.str s0), .lit (.str s1), .lit (.int .i64 n2), .sl 1 L3, .sl 5 L4]) (.agg [.lit (.str s0'), .lit (.str s1'), .lit (.int .i64 n2'), .sl 1 L3', .sl 5 L4']) = false := by rw [beqD_agg]; simp only [beqDs_cons, beqDs_nil, beqD_sl, beqD_lit, litEq, g1, Bool.true_and, Bool.false_and, Bool.and_false, Bool.and_true]
      simp only [e] at k
      exact k _ h0.tl.tl
    | true =>
      cases g2 : (s1.toList == s1'.toList) with
      | false =>
        rw [call_run F23]; simp -implicitDefEqProofs only [↓GP, GB, GL, Nat.reduceAdd, Nat.reduceSub, Nat.reduceEqDiff, Nat.reduceMul, Nat.reduceLeDiff, Int.reduceBNe, Int.reduceBEq, Nat.reduceLT, reduceCtorEq, c23, qa0, qa1, qa2, qa3, qa4, qaa, qb0, qb1, qb2, qb3, qb4, qab, cells_agg, ldC_some, ldN_some, b_seq, b_sne, bEq, bne, w.e3.len, w.e4.len, w'.e3.len, w'.e4.len, g1, g2]
        have e : beqD (.agg [.lit (.str s0), .lit (.str s1), .lit (.int .i64 n2), .sl 1 L3, .sl 5 L4]) (.agg [.lit (.str s0'), .lit (.str s1'), .lit (.int .i64 n2'), .sl 1 L3', .sl 5 L4']) = false := by rw [beqD_agg]; simp only [beqDs_cons, beqDs_nil, beqD_sl, beqD_lit, litEq, g1, g2, Bool.true_and, Bool.false_and, Bool.and_false, Bool.and_true]
        simp only [e] at k
        exact k _ h0.tl.tl
      | true =>
        cases g3 : (n2 == n2') with
        | false =>
          rw [call_run F23]; simp -implicitDefEqProofs only [↓GP, GB, GL, Nat.reduceAdd, Nat.reduceSub, Nat.reduceEqDiff, Nat.reduceMul, Nat.reduceLeDiff, Int.reduceBNe, Int.reduceBEq, Nat.reduceLT, reduceCtorEq, c23, qa0, qa1, qa2, qa3, qa4, qaa, qb0, qb1, qb2, qb3, qb4, qab, cells_agg, ldC_some, ldN_some, b_seq, b_sne, bEq, bne, w.e3.len, w.e4.len, w'.e3.len, w'.e4.len, g1, g2, g3]
          have e : beqD (.agg [.lit (.str s0), .lit (.str s1), .lit (.int .i64 n2), .sl 1 L3, .sl 5 L4]) (.agg [.lit (.str s0'), .lit (.str s1'), .lit (.int .i64 n2'), .sl 1 L3', .sl 5 L4']) = false := by rw [beqD_agg]; simp only [beqDs_cons, beqDs_nil, beqD_sl, beqD_lit, litEq, g1, g2, g3, Bool.true_and, Bool.false_and, Bool.and_false, Bool.and_true]
          simp only [e] at k
          exact k _ h0.tl.tl
        | true =>
          rw [call_run F23]; simp -implicitDefEqProofs only [↓GP, GB, GL, Nat.reduceAdd, Nat.reduceSub, Nat.reduceEqDiff, Nat.reduceMul, Nat.reduceLeDiff, Int.reduceBNe, Int.reduceBEq, Nat.reduceLT, reduceCtorEq, c23, qa0, qa1, qa2, qa3, qa4, qaa, qb0, qb1, qb2, qb3, qb4, qab, cells_agg, ldC_some, ldN_some, b_seq, b_sne, bEq, bne, w.e3.len, w.e4.len, w'.e3.len, w'.e4.len, g1, g2, g3]
          refine wp_in ((l24 w.t3 w'.t3 w.m3) _ _ _ _ _ w.e3 w'.e3 h0 fun u4 h4 => ?_)
          have f4 := h4.f2
          cases g4 : beqDs L3 L3' with
          | false =>
            simp -implicitDefEqProofs only [↓GP, GB, GL, Nat.reduceAdd, Nat.reduceSub, Nat.reduceEqDiff, Nat.reduceMul, Nat.reduceLeDiff, Int.reduceBNe, Int.reduceBEq, Nat.reduceLT, reduceCtorEq, f4, qa0, qa1, qa2, qa3, qa4, qaa, qb0, qb1, qb2, qb3, qb4, qab, cells_agg, ldC_some, ldN_some, b_seq, b_sne, bEq, bne, w.e3.len, w.e4.len, w'.e3.len, w'.e4.len, g4]
            have e : beqD (.agg [.lit (.str s0), .lit (.str s1), .lit (.int .i64 n2), .sl 1 L3, .sl 5 L4]) (.agg [.lit (.str s0'), .lit (.str s1'), .lit (.int .i64 n2'), .sl 1 L3', .sl 5 L4']) = false := by rw [beqD_agg]; simp only [beqDs_cons, beqDs_nil, beqD_sl, beqD_lit, litEq, g1, g2, g3, g4, Bool.true_and, Bool.false_and, Bool.and_false, Bool.and_true]
            simp only [e] at k
            exact k _ h4.tl.tl
          | true =>
            simp -implicitDefEqProofs only [↓GP, GB, GL, Nat.reduceAdd, Nat.reduceSub, Nat.reduceEqDiff, Nat.reduceMul, Nat.reduceLeDiff, Int.reduceBNe, Int.reduceBEq, Nat.reduceLT, reduceCtorEq, f4, qa0, qa1, qa2, qa3, qa4, qaa, qb0, qb1, qb2, qb3, qb4, qab, cells_agg, ldC_some, ldN_some, b_seq, b_sne, bEq, bne, w.e3.len, w.e4.len, w'.e3.len, w'.e4.len, g4]
            refine wp_in ((l41 w.t4 w'.t4 w.m4 fun x hx x' => IH x x' (mem_agg (ds := [.lit (.str s0), .lit (.str s1), .lit (.int .i64 n2), .sl 1 L3, .sl 5 L4]) (sz := 5) (List.mem_of_getElem? (i := 4) rfl) hx)) _ _ _ _ _ w.e4 w'.e4 h4 fun u5 h5 => ?_)
            have f5 := h5.f2
            cases g5 : beqDs L4 L4' with
            | false =>
              simp -implicitDefEqProofs only [↓GP, GB, GL, Nat.reduceAdd, Nat.reduceSub, Nat.reduceEqDiff, Nat.reduceMul, Nat.reduceLeDiff, Int.reduceBNe, Int.reduceBEq, Nat.reduceLT, reduceCtorEq, f5, qa0, qa1, qa2, qa3, qa4, qaa, qb0, qb1, qb2, qb3, qb4, qab, cells_agg, ldC_some, ldN_some, b_seq, b_sne, bEq, bne, w.e3.len, w.e4.len, w'.e3.len, w'.e4.len, g5]
              have e : beqD (.agg [.lit (.str s0), .lit (.str s1), .lit (.int .i64 n2), .sl 1 L3, .sl 5 L4]) (.agg [.lit (.str s0'), .lit (.str s1'), .lit (.int .i64 n2'), .sl 1 L3', .sl 5 L4']) = false := by rw [beqD_agg]; simp only [beqDs_cons, beqDs_nil, beqD_sl, beqD_lit, litEq, g1, g2, g3, g4, g5, Bool.true_and, Bool.false_and, Bool.and_false, Bool.and_true]
              simp only [e] at k
              exact k _ h5.tl.tl
            | true =>
              simp -implicitDefEqProofs only [↓GP, GB, GL, Nat.reduceAdd, Nat.reduceSub, Nat.reduceEqDiff, Nat.reduceMul, Nat.reduceLeDiff, Int.reduceBNe, Int.reduceBEq, Nat.reduceLT, reduceCtorEq, f5, qa0, qa1, qa2, qa3, qa4, qaa, qb0, qb1, qb2, qb3, qb4, qab, cells_agg, ldC_some, ldN_some, b_seq, b_sne, bEq, bne, w.e3.len, w.e4.len, w'.e3.len, w'.e4.len, g5]
              have e : beqD (.agg [.lit (.str s0), .lit (.str s1), .lit (.int .i64 n2), .sl 1 L3, .sl 5 L4]) (.agg [.lit (.str s0'), .lit (.str s1'), .lit (.int .i64 n2'), .sl 1 L3', .sl 5 L4']) = true := by rw [beqD_agg]; simp only [beqDs_cons, beqDs_nil, beqD_sl, beqD_lit, litEq, g1, g2, g3, g4, g5, Bool.true_and, Bool.false_and, Bool.and_false, Bool.and_true]
              simp only [e] at k
              exact k _ h5.tl.tl
theorem s23 : ∀ (m : Nat) (d d' : D), SizeOf.sizeOf d < m → EqS o 23 29 d d'
  | 0, _, _, hm => absurd hm (Nat.not_lt_zero _)
  | m + 1, d, d', hm => t23 d d' fun x x' h => s23 m x x' (Nat.lt_of_lt_of_le h (Nat.le_of_lt_succ hm))
theorem e23 (d d' : D) : EqS o 23 29 d d' := s23 _ d d' (Nat.lt_succ_self _)
theorem l26_0_loop {es es' : List D} {v v' : V} {C : Ch} {Q : V → St → Prop} {K : Kt} (hv : SlD o 4 es v) (hv' : SlD o 4 es' v') (hl : es.length = es'.length) (ht : ∀ d ∈ es, HasTy Tryz.prog 75 d) (ht' : ∀ d ∈ es', HasTy Tryz.prog 75 d) (hm : es.length ≤ maxLen) (IH : ∀ x ∈ es, ∀ x', EqS o 27 75 x x') :
    ∀ (m i : Nat) (z : Int) (s : St), z = ((i : Nat) : Int) → i + m = es.length → Holds o s C →
    (∀ s', Holds o s' C → beqDs (es.drop i) (es'.drop i) = true → WP (K (.exit 0) (sp 32 []) s') Q) →
    (∀ s', Holds o s' C → beqDs (es.drop i) (es'.drop i) = false → WP (K .ret (sp 32 [(6, .bool false)]) s') Q) → WP (loop PF (.loop l26_0) (sp 32 [(1, v'), (2, .func 27 [] []), (15, v), (16, I es.length), (17, I z)]) s K) Q
  | 0, i, z, s, hz, hi, H, kt, kf => by
    subst hz
    have hlt : ¬ ((i : Int) < (es.length : Int)) := by omega
    refine wp_round fun LL hLL => ?_
    simp -implicitDefEqProofs only [↓GP, GB, GL, Nat.reduceAdd, Nat.reduceSub, Nat.reduceEqDiff, Nat.reduceMul, Nat.reduceLeDiff, Int.reduceBNe, Int.reduceBEq, Nat.reduceLT, reduceCtorEq, l26_0, hlt]
    exact kt s H (by rw [List.drop_eq_nil_of_le (by omega), List.drop_eq_nil_of_le (by omega), beqDs_nil])
  | m + 1, i, z, s, hz, hi, H, kt, kf => by
    subst hz
    have hlt : ((i : Int) < (es.length : Int)) := by omega
    have hi1 : i < es.length := by omega
    have hi2 : i < es'.length := by omega
    have hw1 := wrap_len (a := i) (by omega)
    obtain ⟨b, off, M, c, x1, x2, x3, x4⟩ := hv.get i hi1
    obtain ⟨b', off', M', c', y1, y2, y3, y4⟩ := hv'.get i hi2
    have ta := ht _ (List.getElem_mem hi1)
    have ta' := ht' _ (List.getElem_mem hi2)
    have ed := beqDs_drop hi1 hi2
    obtain ⟨k1, k2, k3⟩ := zPat ta x2
    obtain ⟨k4, k5, k6⟩ := zPat ta' y2
    have l1 := (ld_old H.old x3 x4 (by omega)).1
    have l2 := (ld_old H.old y3 y4 (by omega)).1
    refine wp_round fun LL hLL => ?_
    simp -implicitDefEqProofs only [↓GP, GB, GL, Nat.reduceAdd, Nat.reduceSub, Nat.reduceEqDiff, Nat.reduceMul, Nat.reduceLeDiff, Int.reduceBNe, Int.reduceBEq, Nat.reduceLT, reduceCtorEq, l26_0, hlt, x1, y1, l1, l2, ldo_alloc, ldo_set, st_new, k1, k2, k3, k4, k5, k6, cells_agg, ldN_some]
    have h0 : Holds o ((((s.alloc (.cells [.str (ByteArray.mk #[]), .str (ByteArray.mk #[]), .int .i64 0, .slice none 0 (some 0)] none)).set s.next (.cells c none)).alloc (.cells [.str (ByteArray.mk #[]), .str (ByteArray.mk #[]), .int .i64 0, .slice none 0 (some 0)] none)).set (s.next + 1) (.cells c' none)) ((s.next + 1, some (.cells c' none)) :: (s.next, some (.cells c none)) :: C) := ((((H.alloc _).set0 _).alloc _).set0 _)
    refine wp_in (IH _ (List.getElem_mem hi1) _ _ _ _ _ _ ta ta' x2 y2 h0 fun s1 h1 => ?_)
    cases g : beqD es[i] es'[i] with
    | false =>
      rw [g, Bool.false_and] at ed
      simp -implicitDefEqProofs only [↓GP, GB, GL, Nat.reduceAdd, Nat.reduceSub, Nat.reduceEqDiff, Nat.reduceMul, Nat.reduceLeDiff, Int.reduceBNe, Int.reduceBEq, Nat.reduceLT, reduceCtorEq, g]
      exact kf _ (h1.tl.tl) ed
    | true =>
      rw [g, Bool.true_and] at ed
      simp -implicitDefEqProofs only [↓GP, GB, GL, Nat.reduceAdd, Nat.reduceSub, Nat.reduceEqDiff, Nat.reduceMul, Nat.reduceLeDiff, Int.reduceBNe, Int.reduceBEq, Nat.reduceLT, reduceCtorEq, g, hw1]
      rw [hLL]
      exact l26_0_loop hv hv' hl ht ht' hm IH m (i + 1) _ _ rfl (by omega) (h1.tl.tl) (fun s2 h2 e => kt s2 h2 (ed.trans e)) (fun s2 h2 e => kf s2 h2 (ed.trans e))
theorem l26 {es es' : List D} (ht : ∀ d ∈ es, HasTy Tryz.prog 75 d) (ht' : ∀ d ∈ es', HasTy Tryz.prog 75 d) (hm : es.length ≤ maxLen) (IH : ∀ x ∈ es, ∀ x', EqS o 27 75 x x') : EqLF o 26 4 27 es es' := by
  intro v v' C s Q hv hv' H k
  by_cases hl : es.length = es'.length
  · have hz : (((es.length : Nat) : Int) == ((es'.length : Nat) : Int)) = true := by rw [beq_iff_eq]; omega
    rw [call_run F26]; simp -implicitDefEqProofs only [↓GP, GB, GL, Nat.reduceAdd, Nat.reduceSub, Nat.reduceEqDiff, Nat.reduceMul, Nat.reduceLeDiff, Int.reduceBNe, Int.reduceBEq, Nat.reduceLT, reduceCtorEq, c26, hv.len, hv'.len, bne, hz]
    refine l26_0_loop hv hv' hl ht ht' hm IH _ 0 _ _ rfl (Nat.zero_add _) H (fun s1 h1 g => ?_) (fun s1 h1 g => ?_) <;> rw [List.drop_zero, List.drop_zero] at g <;> simp only [g] at k
    · simp -implicitDefEqProofs only [↓GP, GB, GL, Nat.reduceAdd, Nat.reduceSub, Nat.reduceEqDiff, Nat.reduceMul, Nat.reduceLeDiff, Int.reduceBNe, Int.reduceBEq, Nat.reduceLT, reduceCtorEq]
      exact k _ h1
    · simp -implicitDefEqProofs only [↓GP, GB, GL, Nat.reduceAdd, Nat.reduceSub, Nat.reduceEqDiff, Nat.reduceMul, Nat.reduceLeDiff, Int.reduceBNe, Int.reduceBEq, Nat.reduceLT, reduceCtorEq]
      exact k _ h1
  · have hz : (((es.length : Nat) : Int) == ((es'.length : Nat) : Int)) = false := by rw [beq_eq_false_iff_ne]; omega
    rw [call_run F26]; simp -implicitDefEqProofs only [↓GP, GB, GL, Nat.reduceAdd, Nat.reduceSub, Nat.reduceEqDiff, Nat.reduceMul, Nat.reduceLeDiff, Int.reduceBNe, Int.reduceBEq, Nat.reduceLT, reduceCtorEq, c26, hv.len, hv'.len, bne, hz]
    simp only [beqDs_ne hl] at k
    exact k _ H
/-- Function 27: Pat. -/
theorem t27 (d d' : D) (IH : ∀ x x' : D, SizeOf.sizeOf x < SizeOf.sizeOf d → EqS o 27 75 x x') : EqS o 27 75 d d' := by
    intro c c' C s Q ht ht' r r' H k
    obtain ⟨s0, s1, n2, L3, v3, rfl, hc, w⟩ := vPat ht r
    obtain ⟨s0', s1', n2', L3', v3', rfl, hc', w'⟩ := vPat ht' r'
    have qa0 : c[0]? = some (.str s0) := by rw [hc]; rfl
    have qa1 : c[1]? = some (.str s1) := by rw [hc]; rfl
    have qa2 : c[2]? = some (.int .i64 n2) := by rw [hc]; rfl
    have qa3 : c[3]? = some (v3) := by rw [hc]; rfl
    have qaa : c.all V.one = true := by rw [hc]; simp only [List.all_cons, List.all_nil, one_s, one_i, one_b, Bool.and_true, w.e3.one]
    have qb0 : c'[0]? = some (.str s0') := by rw [hc']; rfl
    have qb1 : c'[1]? = some (.str s1') := by rw [hc']; rfl
    have qb2 : c'[2]? = some (.int .i64 n2') := by rw [hc']; rfl
    have qb3 : c'[3]? = some (v3') := by rw [hc']; rfl
    have qab : c'.all V.one = true := by rw [hc']; simp only [List.all_cons, List.all_nil, one_s, one_i, one_b, Bool.and_true, w'.e3.one]
    have h0 : Holds o ((s.alloc (.cells c none)).alloc (.cells c' none)) ((s.next + 1, some (.cells c' none)) :: (s.next, some (.cells c none)) :: C) := (H.alloc _).alloc _
    cases g1 : (s0.toList == s0'.toList) with
    | false =>
      rw [call_run F27]; simp -implicitDefEqProofs only [↓GP, GB, GL, Nat.reduceAdd, Nat.reduceSub, Nat.reduceEqDiff, Nat.reduceMul, Nat.reduceLeDiff, Int.reduceBNe, Int.reduceBEq, Nat.reduceLT, reduceCtorEq, c27, qa0, qa1, qa2, qa3, qaa, qb0, qb1, qb2, qb3, qab, cells_agg, ldC_some, ldN_some, b_seq, b_sne, bEq, bne, w.e3.len, w'.e3.len, g1]
      have e : beqD (.agg [.lit (.str s0), .lit (.str s1), .lit (.int .i64 n2), .sl 4 L3]) (.agg [.lit (.str s0'), .lit (.str s1'), .lit (.int .i64 n2'), .sl 4 L3']) = false := by rw [beqD_agg]; simp only [beqDs_cons, beqDs_nil, beqD_sl, beqD_lit, litEq, g1, Bool.true_and, Bool.false_and, Bool.and_false, Bool.and_true]
      simp only [e] at k
      exact k _ h0.tl.tl
    | true =>
      cases g2 : (s1.toList == s1'.toList) with
      | false =>
        rw [call_run F27]; simp -implicitDefEqProofs only [↓GP, GB, GL, Nat.reduceAdd, Nat.reduceSub, Nat.reduceEqDiff, Nat.reduceMul, Nat.reduceLeDiff, Int.reduceBNe, Int.reduceBEq, Nat.reduceLT, reduceCtorEq, c27, qa0, qa1, qa2, qa3, qaa, qb0, qb1, qb2, qb3, qab, cells_agg, ldC_some, ldN_some, b_seq, b_sne, bEq, bne, w.e3.len, w'.e3.len, g1, g2]
        have e : beqD (.agg [.lit (.str s0), .lit (.str s1), .lit (.int .i64 n2), .sl 4 L3]) (.agg [.lit (.str s0'), .lit (.str s1'), .lit (.int .i64 n2'), .sl 4 L3']) = false := by rw [beqD_agg]; simp only [beqDs_cons, beqDs_nil, beqD_sl, beqD_lit, litEq, g1, g2, Bool.true_and, Bool.false_and, Bool.and_false, Bool.and_true]
        simp only [e] at k
        exact k _ h0.tl.tl
      | true =>
        cases g3 : (n2 == n2') with
        | false =>
          rw [call_run F27]; simp -implicitDefEqProofs only [↓GP, GB, GL, Nat.reduceAdd, Nat.reduceSub, Nat.reduceEqDiff, Nat.reduceMul, Nat.reduceLeDiff, Int.reduceBNe, Int.reduceBEq, Nat.reduceLT, reduceCtorEq, c27, qa0, qa1, qa2, qa3, qaa, qb0, qb1, qb2, qb3, qab, cells_agg, ldC_some, ldN_some, b_seq, b_sne, bEq, bne, w.e3.len, w'.e3.len, g1, g2, g3]
          have e : beqD (.agg [.lit (.str s0), .lit (.str s1), .lit (.int .i64 n2), .sl 4 L3]) (.agg [.lit (.str s0'), .lit (.str s1'), .lit (.int .i64 n2'), .sl 4 L3']) = false := by rw [beqD_agg]; simp only [beqDs_cons, beqDs_nil, beqD_sl, beqD_lit, litEq, g1, g2, g3, Bool.true_and, Bool.false_and, Bool.and_false, Bool.and_true]
          simp only [e] at k
          exact k _ h0.tl.tl
        | true =>
          rw [call_run F27]; simp -implicitDefEqProofs only [↓GP, GB, GL, Nat.reduceAdd, Nat.reduceSub, Nat.reduceEqDiff, Nat.reduceMul, Nat.reduceLeDiff, Int.reduceBNe, Int.reduceBEq, Nat.reduceLT, reduceCtorEq, c27, qa0, qa1, qa2, qa3, qaa, qb0, qb1, qb2, qb3, qab, cells_agg, ldC_some, ldN_some, b_seq, b_sne, bEq, bne, w.e3.len, w'.e3.len, g1, g2, g3]
          refine wp_in ((l26 w.t3 w'.t3 w.m3 fun x hx x' => IH x x' (mem_agg (ds := [.lit (.str s0), .lit (.str s1), .lit (.int .i64 n2), .sl 4 L3]) (sz := 4) (List.mem_of_getElem? (i := 3) rfl) hx)) _ _ _ _ _ w.e3 w'.e3 h0 fun u4 h4 => ?_)
          have f4 := h4.f2
          cases g4 : beqDs L3 L3' with
          | false =>
            simp -implicitDefEqProofs only [↓GP, GB, GL, Nat.reduceAdd, Nat.reduceSub, Nat.reduceEqDiff, Nat.reduceMul, Nat.reduceLeDiff, Int.reduceBNe, Int.reduceBEq, Nat.reduceLT, reduceCtorEq, f4, qa0, qa1, qa2, qa3, qaa, qb0, qb1, qb2, qb3, qab, cells_agg, ldC_some, ldN_some, b_seq, b_sne, bEq, bne, w.e3.len, w'.e3.len, g4]
            have e : beqD (.agg [.lit (.str s0), .lit (.str s1), .lit (.int .i64 n2), .sl 4 L3]) (.agg [.lit (.str s0'), .lit (.str s1'), .lit (.int .i64 n2'), .sl 4 L3']) = false := by rw [beqD_agg]; simp only [beqDs_cons, beqDs_nil, beqD_sl, beqD_lit, litEq, g1, g2, g3, g4, Bool.true_and, Bool.false_and, Bool.and_false, Bool.and_true]
            simp only [e] at k
            exact k _ h4.tl.tl
          | true =>
            simp -implicitDefEqProofs only [↓GP, GB, GL, Nat.reduceAdd, Nat.reduceSub, Nat.reduceEqDiff, Nat.reduceMul, Nat.reduceLeDiff, Int.reduceBNe, Int.reduceBEq, Nat.reduceLT, reduceCtorEq, f4, qa0, qa1, qa2, qa3, qaa, qb0, qb1, qb2, qb3, qab, cells_agg, ldC_some, ldN_some, b_seq, b_sne, bEq, bne, w.e3.len, w'.e3.len, g4]
            have e : beqD (.agg [.lit (.str s0), .lit (.str s1), .lit (.int .i64 n2), .sl 4 L3]) (.agg [.lit (.str s0'), .lit (.str s1'), .lit (.int .i64 n2'), .sl 4 L3']) = true := by rw [beqD_agg]; simp only [beqDs_cons, beqDs_nil, beqD_sl, beqD_lit, litEq, g1, g2, g3, g4, Bool.true_and, Bool.false_and, Bool.and_false, Bool.and_true]
            simp only [e] at k
            exact k _ h4.tl.tl
theorem s27 : ∀ (m : Nat) (d d' : D), SizeOf.sizeOf d < m → EqS o 27 75 d d'
  | 0, _, _, hm => absurd hm (Nat.not_lt_zero _)
  | m + 1, d, d', hm => t27 d d' fun x x' h => s27 m x x' (Nat.lt_of_lt_of_le h (Nat.le_of_lt_succ hm))
theorem e27 (d d' : D) : EqS o 27 75 d d' := s27 _ d d' (Nat.lt_succ_self _)
theorem l28_0_loop {es es' : List D} {v v' : V} {C : Ch} {Q : V → St → Prop} {K : Kt} (hv : SlD o 17 es v) (hv' : SlD o 17 es' v') (hl : es.length = es'.length) (ht : ∀ d ∈ es, HasTy Tryz.prog 32 d) (ht' : ∀ d ∈ es', HasTy Tryz.prog 32 d) (hm : es.length ≤ maxLen) (IH : ∀ x ∈ es, ∀ x', EqS o 17 32 x x') :
    ∀ (m i : Nat) (z : Int) (s : St), z = ((i : Nat) : Int) → i + m = es.length → Holds o s C →
    (∀ s', Holds o s' C → beqDs (es.drop i) (es'.drop i) = true → WP (K (.exit 0) (sp 32 []) s') Q) →
    (∀ s', Holds o s' C → beqDs (es.drop i) (es'.drop i) = false → WP (K .ret (sp 32 [(6, .bool false)]) s') Q) → WP (loop PF (.loop l28_0) (sp 32 [(1, v'), (2, .func 17 [] []), (15, v), (16, I es.length), (17, I z)]) s K) Q
  | 0, i, z, s, hz, hi, H, kt, kf => by
    subst hz
    have hlt : ¬ ((i : Int) < (es.length : Int)) := by omega
    refine wp_round fun LL hLL => ?_
    simp -implicitDefEqProofs only [↓GP, GB, GL, Nat.reduceAdd, Nat.reduceSub, Nat.reduceEqDiff, Nat.reduceMul, Nat.reduceLeDiff, Int.reduceBNe, Int.reduceBEq, Nat.reduceLT, reduceCtorEq, l28_0, hlt]
    exact kt s H (by rw [List.drop_eq_nil_of_le (by omega), List.drop_eq_nil_of_le (by omega), beqDs_nil])
  | m + 1, i, z, s, hz, hi, H, kt, kf => by
    subst hz
    have hlt : ((i : Int) < (es.length : Int)) := by omega
    have hi1 : i < es.length := by omega
    have hi2 : i < es'.length := by omega
    have hw1 := wrap_len (a := i) (by omega)
    obtain ⟨b, off, M, c, x1, x2, x3, x4⟩ := hv.get i hi1
    obtain ⟨b', off', M', c', y1, y2, y3, y4⟩ := hv'.get i hi2
    have ta := ht _ (List.getElem_mem hi1)
    have ta' := ht' _ (List.getElem_mem hi2)
    have ed := beqDs_drop hi1 hi2
    obtain ⟨k1, k2, k3⟩ := zAnn ta x2
    obtain ⟨k4, k5, k6⟩ := zAnn ta' y2
    have l1 := (ld_old H.old x3 x4 (by omega)).1
    have l2 := (ld_old H.old y3 y4 (by omega)).1
    refine wp_round fun LL hLL => ?_
    simp -implicitDefEqProofs only [↓GP, GB, GL, Nat.reduceAdd, Nat.reduceSub, Nat.reduceEqDiff, Nat.reduceMul, Nat.reduceLeDiff, Int.reduceBNe, Int.reduceBEq, Nat.reduceLT, reduceCtorEq, l28_0, hlt, x1, y1, l1, l2, ldo_alloc, ldo_set, st_new, k1, k2, k3, k4, k5, k6, cells_agg, ldN_some]
    have h0 : Holds o ((((s.alloc (.cells [.str (ByteArray.mk #[]), .str (ByteArray.mk #[]), .str (ByteArray.mk #[]), .str (ByteArray.mk #[]), .int .i64 0, .int .i64 0, .slice none 0 (some 0), .slice none 0 (some 0), .str (ByteArray.mk #[]), .str (ByteArray.mk #[]), .int .i64 0, .slice none 0 (some 0), .slice none 0 (some 0), .slice none 0 (some 0), .slice none 0 (some 0), .slice none 0 (some 0), .slice none 0 (some 0)] none)).set s.next (.cells c none)).alloc (.cells [.str (ByteArray.mk #[]), .str (ByteArray.mk #[]), .str (ByteArray.mk #[]), .str (ByteArray.mk #[]), .int .i64 0, .int .i64 0, .slice none 0 (some 0), .slice none 0 (some 0), .str (ByteArray.mk #[]), .str (ByteArray.mk #[]), .int .i64 0, .slice none 0 (some 0), .slice none 0 (some 0), .slice none 0 (some 0), .slice none 0 (some 0), .slice none 0 (some 0), .slice none 0 (some 0)] none)).set (s.next + 1) (.cells c' none)) ((s.next + 1, some (.cells c' none)) :: (s.next, some (.cells c none)) :: C) := ((((H.alloc _).set0 _).alloc _).set0 _)
    refine wp_in (IH _ (List.getElem_mem hi1) _ _ _ _ _ _ ta ta' x2 y2 h0 fun s1 h1 => ?_)
    cases g : beqD es[i] es'[i] with
    | false =>
      rw [g, Bool.false_and] at ed
      simp -implicitDefEqProofs only [↓GP, GB, GL, Nat.reduceAdd, Nat.reduceSub, Nat.reduceEqDiff, Nat.reduceMul, Nat.reduceLeDiff, Int.reduceBNe, Int.reduceBEq, Nat.reduceLT, reduceCtorEq, g]
      exact kf _ (h1.tl.tl) ed
    | true =>
      rw [g, Bool.true_and] at ed
      simp -implicitDefEqProofs only [↓GP, GB, GL, Nat.reduceAdd, Nat.reduceSub, Nat.reduceEqDiff, Nat.reduceMul, Nat.reduceLeDiff, Int.reduceBNe, Int.reduceBEq, Nat.reduceLT, reduceCtorEq, g, hw1]
      rw [hLL]
      exact l28_0_loop hv hv' hl ht ht' hm IH m (i + 1) _ _ rfl (by omega) (h1.tl.tl) (fun s2 h2 e => kt s2 h2 (ed.trans e)) (fun s2 h2 e => kf s2 h2 (ed.trans e))
theorem l28 {es es' : List D} (ht : ∀ d ∈ es, HasTy Tryz.prog 32 d) (ht' : ∀ d ∈ es', HasTy Tryz.prog 32 d) (hm : es.length ≤ maxLen) (IH : ∀ x ∈ es, ∀ x', EqS o 17 32 x x') : EqLF o 28 17 17 es es' := by
  intro v v' C s Q hv hv' H k
  by_cases hl : es.length = es'.length
  · have hz : (((es.length : Nat) : Int) == ((es'.length : Nat) : Int)) = true := by rw [beq_iff_eq]; omega
    rw [call_run F28]; simp -implicitDefEqProofs only [↓GP, GB, GL, Nat.reduceAdd, Nat.reduceSub, Nat.reduceEqDiff, Nat.reduceMul, Nat.reduceLeDiff, Int.reduceBNe, Int.reduceBEq, Nat.reduceLT, reduceCtorEq, c28, hv.len, hv'.len, bne, hz]
    refine l28_0_loop hv hv' hl ht ht' hm IH _ 0 _ _ rfl (Nat.zero_add _) H (fun s1 h1 g => ?_) (fun s1 h1 g => ?_) <;> rw [List.drop_zero, List.drop_zero] at g <;> simp only [g] at k
    · simp -implicitDefEqProofs only [↓GP, GB, GL, Nat.reduceAdd, Nat.reduceSub, Nat.reduceEqDiff, Nat.reduceMul, Nat.reduceLeDiff, Int.reduceBNe, Int.reduceBEq, Nat.reduceLT, reduceCtorEq]
      exact k _ h1
    · simp -implicitDefEqProofs only [↓GP, GB, GL, Nat.reduceAdd, Nat.reduceSub, Nat.reduceEqDiff, Nat.reduceMul, Nat.reduceLeDiff, Int.reduceBNe, Int.reduceBEq, Nat.reduceLT, reduceCtorEq]
      exact k _ h1
  · have hz : (((es.length : Nat) : Int) == ((es'.length : Nat) : Int)) = false := by rw [beq_eq_false_iff_ne]; omega
    rw [call_run F28]; simp -implicitDefEqProofs only [↓GP, GB, GL, Nat.reduceAdd, Nat.reduceSub, Nat.reduceEqDiff, Nat.reduceMul, Nat.reduceLeDiff, Int.reduceBNe, Int.reduceBEq, Nat.reduceLT, reduceCtorEq, c28, hv.len, hv'.len, bne, hz]
    simp only [beqDs_ne hl] at k
    exact k _ H
/-- Function 17: Ann. -/
theorem t17 (d d' : D) (IH : ∀ x x' : D, SizeOf.sizeOf x < SizeOf.sizeOf d → EqS o 17 32 x x') : EqS o 17 32 d d' := by
    intro c c' C s Q ht ht' r r' H k
    obtain ⟨s0, s1, s2, s3, n4, n5, L6, v6, L7, v7, s8_0, s8_1, n8_2, L8_3, v8_3, L8_4, v8_4, L9, v9, L10, v10, L11, v11, L12, v12, rfl, hc, w⟩ := vAnn ht r
    obtain ⟨s0', s1', s2', s3', n4', n5', L6', v6', L7', v7', s8_0', s8_1', n8_2', L8_3', v8_3', L8_4', v8_4', L9', v9', L10', v10', L11', v11', L12', v12', rfl, hc', w'⟩ := vAnn ht' r'
    have qa0 : c[0]? = some (.str s0) := by rw [hc]; rfl
    have qa1 : c[1]? = some (.str s1) := by rw [hc]; rfl
    have qa2 : c[2]? = some (.str s2) := by rw [hc]; rfl
    have qa3 : c[3]? = some (.str s3) := by rw [hc]; rfl
    have qa4 : c[4]? = some (.int .i64 n4) := by rw [hc]; rfl
    have qa5 : c[5]? = some (.int .i64 n5) := by rw [hc]; rfl
    have qa6 : c[6]? = some (v6) := by rw [hc]; rfl
    have qa7 : c[7]? = some (v7) := by rw [hc]; rfl
    have qa8 : cut c 8 5 = some [.str s8_0, .str s8_1, .int .i64 n8_2, v8_3, v8_4] := by rw [hc]; rfl
    have qa9 : c[13]? = some (v9) := by rw [hc]; rfl
    have qa10 : c[14]? = some (v10) := by rw [hc]; rfl
    have qa11 : c[15]? = some (v11) := by rw [hc]; rfl
    have qa12 : c[16]? = some (v12) := by rw [hc]; rfl
    have qaa : c.all V.one = true := by rw [hc]; simp only [List.all_cons, List.all_nil, one_s, one_i, one_b, Bool.and_true, w.e6.one, w.e7.one, w.w8.e3.one, w.w8.e4.one, w.e9.one, w.e10.one, w.e11.one, w.e12.one]
    have qb0 : c'[0]? = some (.str s0') := by rw [hc']; rfl
    have qb1 : c'[1]? = some (.str s1') := by rw [hc']; rfl
    have qb2 : c'[2]? = some (.str s2') := by rw [hc']; rfl
    have qb3 : c'[3]? = some (.str s3') := by rw [hc']; rfl
    have qb4 : c'[4]? = some (.int .i64 n4') := by rw [hc']; rfl
    have qb5 : c'[5]? = some (.int .i64 n5') := by rw [hc']; rfl
    have qb6 : c'[6]? = some (v6') := by rw [hc']; rfl
    have qb7 : c'[7]? = some (v7') := by rw [hc']; rfl
    have qb8 : cut c' 8 5 = some [.str s8_0', .str s8_1', .int .i64 n8_2', v8_3', v8_4'] := by rw [hc']; rfl
    have qb9 : c'[13]? = some (v9') := by rw [hc']; rfl
    have qb10 : c'[14]? = some (v10') := by rw [hc']; rfl
    have qb11 : c'[15]? = some (v11') := by rw [hc']; rfl
    have qb12 : c'[16]? = some (v12') := by rw [hc']; rfl
    have qab : c'.all V.one = true := by rw [hc']; simp only [List.all_cons, List.all_nil, one_s, one_i, one_b, Bool.and_true, w'.e6.one, w'.e7.one, w'.w8.e3.one, w'.w8.e4.one, w'.e9.one, w'.e10.one, w'.e11.one, w'.e12.one]
    have h0 : Holds o ((s.alloc (.cells c none)).alloc (.cells c' none)) ((s.next + 1, some (.cells c' none)) :: (s.next, some (.cells c none)) :: C) := (H.alloc _).alloc _
    cases g1 : (s0.toList == s0'.toList) with
    | false =>
      rw [call_run F17]; simp -implicitDefEqProofs only [↓GP, GB, GL, Nat.reduceAdd, Nat.reduceSub, Nat.reduceEqDiff, Nat.reduceMul, Nat.reduceLeDiff, Int.reduceBNe, Int.reduceBEq, Nat.reduceLT, reduceCtorEq, c17, qa0, qa1, qa2, qa3, qa4, qa5, qa6, qa7, qa8, qa9, qa10, qa11, qa12, qaa, qb0, qb1, qb2, qb3, qb4, qb5, qb6, qb7, qb8, qb9, qb10, qb11, qb12, qab, cells_agg, ldC_some, ldN_some, b_seq, b_sne, bEq, bne, w.e6.len, w.e7.len, w.e9.len, w.e10.len, w.e11.len, w.e12.len, w'.e6.len, w'.e7.len, w'.e9.len, w'.e10.len, w'.e11.len, w'.e12.len, g1]
      have e : beqD (.agg [.lit (.str s0), .lit (.str s1), .lit (.str s2), .lit (.str s3), .lit (.int .i64 n4), .lit (.int .i64 n5), .sl 17 L6, .sl 4 L7, .agg [.lit (.str s8_0), .lit (.str s8_1), .lit (.int .i64 n8_2), .sl 1 L8_3, .sl 5 L8_4], .sl 1 L9, .sl 1 L10, .sl 1 L11, .sl 1 L12]) (.agg [.lit (.str s0'), .lit (.str s1'), .lit (.str s2'), .lit (.str s3'), .lit (.int .i64 n4'), .lit (.int .i64 n5'), .sl 17 L6', .sl 4 L7', .agg [.lit (.str s8_0'), .lit (.str s8_1'), .lit (.int .i64 n8_2'), .sl 1 L8_3', .sl 5 L8_4'], .sl 1 L9', .sl 1 L10', .sl 1 L11', .sl 1 L12']) = false := by rw [beqD_agg]; simp only [beqDs_cons, beqDs_nil, beqD_sl, beqD_lit, litEq, g1, Bool.true_and, Bool.false_and, Bool.and_false, Bool.and_true]
      simp only [e] at k
      exact k _ h0.tl.tl
    | true =>
      cases g2 : (s1.toList == s1'.toList) with
      | false =>
        rw [call_run F17]; simp -implicitDefEqProofs only [↓GP, GB, GL, Nat.reduceAdd, Nat.reduceSub, Nat.reduceEqDiff, Nat.reduceMul, Nat.reduceLeDiff, Int.reduceBNe, Int.reduceBEq, Nat.reduceLT, reduceCtorEq, c17, qa0, qa1, qa2, qa3, qa4, qa5, qa6, qa7, qa8, qa9, qa10, qa11, qa12, qaa, qb0, qb1, qb2, qb3, qb4, qb5, qb6, qb7, qb8, qb9, qb10, qb11, qb12, qab, cells_agg, ldC_some, ldN_some, b_seq, b_sne, bEq, bne, w.e6.len, w.e7.len, w.e9.len, w.e10.len, w.e11.len, w.e12.len, w'.e6.len, w'.e7.len, w'.e9.len, w'.e10.len, w'.e11.len, w'.e12.len, g1, g2]
        have e : beqD (.agg [.lit (.str s0), .lit (.str s1), .lit (.str s2), .lit (.str s3), .lit (.int .i64 n4), .lit (.int .i64 n5), .sl 17 L6, .sl 4 L7, .agg [.lit (.str s8_0), .lit (.str s8_1), .lit (.int .i64 n8_2), .sl 1 L8_3, .sl 5 L8_4], .sl 1 L9, .sl 1 L10, .sl 1 L11, .sl 1 L12]) (.agg [.lit (.str s0'), .lit (.str s1'), .lit (.str s2'), .lit (.str s3'), .lit (.int .i64 n4'), .lit (.int .i64 n5'), .sl 17 L6', .sl 4 L7', .agg [.lit (.str s8_0'), .lit (.str s8_1'), .lit (.int .i64 n8_2'), .sl 1 L8_3', .sl 5 L8_4'], .sl 1 L9', .sl 1 L10', .sl 1 L11', .sl 1 L12']) = false := by rw [beqD_agg]; simp only [beqDs_cons, beqDs_nil, beqD_sl, beqD_lit, litEq, g1, g2, Bool.true_and, Bool.false_and, Bool.and_false, Bool.and_true]
        simp only [e] at k
        exact k _ h0.tl.tl
      | true =>
        cases g3 : (s2.toList == s2'.toList) with
        | false =>
          rw [call_run F17]; simp -implicitDefEqProofs only [↓GP, GB, GL, Nat.reduceAdd, Nat.reduceSub, Nat.reduceEqDiff, Nat.reduceMul, Nat.reduceLeDiff, Int.reduceBNe, Int.reduceBEq, Nat.reduceLT, reduceCtorEq, c17, qa0, qa1, qa2, qa3, qa4, qa5, qa6, qa7, qa8, qa9, qa10, qa11, qa12, qaa, qb0, qb1, qb2, qb3, qb4, qb5, qb6, qb7, qb8, qb9, qb10, qb11, qb12, qab, cells_agg, ldC_some, ldN_some, b_seq, b_sne, bEq, bne, w.e6.len, w.e7.len, w.e9.len, w.e10.len, w.e11.len, w.e12.len, w'.e6.len, w'.e7.len, w'.e9.len, w'.e10.len, w'.e11.len, w'.e12.len, g1, g2, g3]
          have e : beqD (.agg [.lit (.str s0), .lit (.str s1), .lit (.str s2), .lit (.str s3), .lit (.int .i64 n4), .lit (.int .i64 n5), .sl 17 L6, .sl 4 L7, .agg [.lit (.str s8_0), .lit (.str s8_1), .lit (.int .i64 n8_2), .sl 1 L8_3, .sl 5 L8_4], .sl 1 L9, .sl 1 L10, .sl 1 L11, .sl 1 L12]) (.agg [.lit (.str s0'), .lit (.str s1'), .lit (.str s2'), .lit (.str s3'), .lit (.int .i64 n4'), .lit (.int .i64 n5'), .sl 17 L6', .sl 4 L7', .agg [.lit (.str s8_0'), .lit (.str s8_1'), .lit (.int .i64 n8_2'), .sl 1 L8_3', .sl 5 L8_4'], .sl 1 L9', .sl 1 L10', .sl 1 L11', .sl 1 L12']) = false := by rw [beqD_agg]; simp only [beqDs_cons, beqDs_nil, beqD_sl, beqD_lit, litEq, g1, g2, g3, Bool.true_and, Bool.false_and, Bool.and_false, Bool.and_true]
          simp only [e] at k
          exact k _ h0.tl.tl
        | true =>
          cases g4 : (s3.toList == s3'.toList) with
          | false =>
            rw [call_run F17]; simp -implicitDefEqProofs only [↓GP, GB, GL, Nat.reduceAdd, Nat.reduceSub, Nat.reduceEqDiff, Nat.reduceMul, Nat.reduceLeDiff, Int.reduceBNe, Int.reduceBEq, Nat.reduceLT, reduceCtorEq, c17, qa0, qa1, qa2, qa3, qa4, qa5, qa6, qa7, qa8, qa9, qa10, qa11, qa12, qaa, qb0, qb1, qb2, qb3, qb4, qb5, qb6, qb7, qb8, qb9, qb10, qb11, qb12, qab, cells_agg, ldC_some, ldN_some, b_seq, b_sne, bEq, bne, w.e6.len, w.e7.len, w.e9.len, w.e10.len, w.e11.len, w.e12.len, w'.e6.len, w'.e7.len, w'.e9.len, w'.e10.len, w'.e11.len, w'.e12.len, g1, g2, g3, g4]
            have e : beqD (.agg [.lit (.str s0), .lit (.str s1), .lit (.str s2), .lit (.str s3), .lit (.int .i64 n4), .lit (.int .i64 n5), .sl 17 L6, .sl 4 L7, .agg [.lit (.str s8_0), .lit (.str s8_1), .lit (.int .i64 n8_2), .sl 1 L8_3, .sl 5 L8_4], .sl 1 L9, .sl 1 L10, .sl 1 L11, .sl 1 L12]) (.agg [.lit (.str s0'), .lit (.str s1'), .lit (.str s2'), .lit (.str s3'), .lit (.int .i64 n4'), .lit (.int .i64 n5'), .sl 17 L6', .sl 4 L7', .agg [.lit (.str s8_0'), .lit (.str s8_1'), .lit (.int .i64 n8_2'), .sl 1 L8_3', .sl 5 L8_4'], .sl 1 L9', .sl 1 L10', .sl 1 L11', .sl 1 L12']) = false := by rw [beqD_agg]; simp only [beqDs_cons, beqDs_nil, beqD_sl, beqD_lit, litEq, g1, g2, g3, g4, Bool.true_and, Bool.false_and, Bool.and_false, Bool.and_true]
            simp only [e] at k
            exact k _ h0.tl.tl
          | true =>
            cases g5 : (n4 == n4') with
            | false =>
              rw [call_run F17]; simp -implicitDefEqProofs only [↓GP, GB, GL, Nat.reduceAdd, Nat.reduceSub, Nat.reduceEqDiff, Nat.reduceMul, Nat.reduceLeDiff, Int.reduceBNe, Int.reduceBEq, Nat.reduceLT, reduceCtorEq, c17, qa0, qa1, qa2, qa3, qa4, qa5, qa6, qa7, qa8, qa9, qa10, qa11, qa12, qaa, qb0, qb1, qb2, qb3, qb4, qb5, qb6, qb7, qb8, qb9, qb10, qb11, qb12, qab, cells_agg, ldC_some, ldN_some, b_seq, b_sne, bEq, bne, w.e6.len, w.e7.len, w.e9.len, w.e10.len, w.e11.len, w.e12.len, w'.e6.len, w'.e7.len, w'.e9.len, w'.e10.len, w'.e11.len, w'.e12.len, g1, g2, g3, g4, g5]
              have e : beqD (.agg [.lit (.str s0), .lit (.str s1), .lit (.str s2), .lit (.str s3), .lit (.int .i64 n4), .lit (.int .i64 n5), .sl 17 L6, .sl 4 L7, .agg [.lit (.str s8_0), .lit (.str s8_1), .lit (.int .i64 n8_2), .sl 1 L8_3, .sl 5 L8_4], .sl 1 L9, .sl 1 L10, .sl 1 L11, .sl 1 L12]) (.agg [.lit (.str s0'), .lit (.str s1'), .lit (.str s2'), .lit (.str s3'), .lit (.int .i64 n4'), .lit (.int .i64 n5'), .sl 17 L6', .sl 4 L7', .agg [.lit (.str s8_0'), .lit (.str s8_1'), .lit (.int .i64 n8_2'), .sl 1 L8_3', .sl 5 L8_4'], .sl 1 L9', .sl 1 L10', .sl 1 L11', .sl 1 L12']) = false := by rw [beqD_agg]; simp only [beqDs_cons, beqDs_nil, beqD_sl, beqD_lit, litEq, g1, g2, g3, g4, g5, Bool.true_and, Bool.false_and, Bool.and_false, Bool.and_true]
              simp only [e] at k
              exact k _ h0.tl.tl
            | true =>
              cases g6 : (n5 == n5') with
              | false =>
                rw [call_run F17]; simp -implicitDefEqProofs only [↓GP, GB, GL, Nat.reduceAdd, Nat.reduceSub, Nat.reduceEqDiff, Nat.reduceMul, Nat.reduceLeDiff, Int.reduceBNe, Int.reduceBEq, Nat.reduceLT, reduceCtorEq, c17, qa0, qa1, qa2, qa3, qa4, qa5, qa6, qa7, qa8, qa9, qa10, qa11, qa12, qaa, qb0, qb1, qb2, qb3, qb4, qb5, qb6, qb7, qb8, qb9, qb10, qb11, qb12, qab, cells_agg, ldC_some, ldN_some, b_seq, b_sne, bEq, bne, w.e6.len, w.e7.len, w.e9.len, w.e10.len, w.e11.len, w.e12.len, w'.e6.len, w'.e7.len, w'.e9.len, w'.e10.len, w'.e11.len, w'.e12.len, g1, g2, g3, g4, g5, g6]
                have e : beqD (.agg [.lit (.str s0), .lit (.str s1), .lit (.str s2), .lit (.str s3), .lit (.int .i64 n4), .lit (.int .i64 n5), .sl 17 L6, .sl 4 L7, .agg [.lit (.str s8_0), .lit (.str s8_1), .lit (.int .i64 n8_2), .sl 1 L8_3, .sl 5 L8_4], .sl 1 L9, .sl 1 L10, .sl 1 L11, .sl 1 L12]) (.agg [.lit (.str s0'), .lit (.str s1'), .lit (.str s2'), .lit (.str s3'), .lit (.int .i64 n4'), .lit (.int .i64 n5'), .sl 17 L6', .sl 4 L7', .agg [.lit (.str s8_0'), .lit (.str s8_1'), .lit (.int .i64 n8_2'), .sl 1 L8_3', .sl 5 L8_4'], .sl 1 L9', .sl 1 L10', .sl 1 L11', .sl 1 L12']) = false := by rw [beqD_agg]; simp only [beqDs_cons, beqDs_nil, beqD_sl, beqD_lit, litEq, g1, g2, g3, g4, g5, g6, Bool.true_and, Bool.false_and, Bool.and_false, Bool.and_true]
                simp only [e] at k
                exact k _ h0.tl.tl
              | true =>
                rw [call_run F17]; simp -implicitDefEqProofs only [↓GP, GB, GL, Nat.reduceAdd, Nat.reduceSub, Nat.reduceEqDiff, Nat.reduceMul, Nat.reduceLeDiff, Int.reduceBNe, Int.reduceBEq, Nat.reduceLT, reduceCtorEq, c17, qa0, qa1, qa2, qa3, qa4, qa5, qa6, qa7, qa8, qa9, qa10, qa11, qa12, qaa, qb0, qb1, qb2, qb3, qb4, qb5, qb6, qb7, qb8, qb9, qb10, qb11, qb12, qab, cells_agg, ldC_some, ldN_some, b_seq, b_sne, bEq, bne, w.e6.len, w.e7.len, w.e9.len, w.e10.len, w.e11.len, w.e12.len, w'.e6.len, w'.e7.len, w'.e9.len, w'.e10.len, w'.e11.len, w'.e12.len, g1, g2, g3, g4, g5, g6]
                refine wp_in ((e23 _ _) _ _ _ _ _ w.h8 w'.h8 w.r8 w'.r8 h0 fun u7 h7 => ?_)
                have f7 := h7.f2
                cases g7 : beqD (.agg [.lit (.str s8_0), .lit (.str s8_1), .lit (.int .i64 n8_2), .sl 1 L8_3, .sl 5 L8_4]) (.agg [.lit (.str s8_0'), .lit (.str s8_1'), .lit (.int .i64 n8_2'), .sl 1 L8_3', .sl 5 L8_4']) with
                | false =>
                  simp -implicitDefEqProofs only [↓GP, GB, GL, Nat.reduceAdd, Nat.reduceSub, Nat.reduceEqDiff, Nat.reduceMul, Nat.reduceLeDiff, Int.reduceBNe, Int.reduceBEq, Nat.reduceLT, reduceCtorEq, f7, qa0, qa1, qa2, qa3, qa4, qa5, qa6, qa7, qa8, qa9, qa10, qa11, qa12, qaa, qb0, qb1, qb2, qb3, qb4, qb5, qb6, qb7, qb8, qb9, qb10, qb11, qb12, qab, cells_agg, ldC_some, ldN_some, b_seq, b_sne, bEq, bne, w.e6.len, w.e7.len, w.e9.len, w.e10.len, w.e11.len, w.e12.len, w'.e6.len, w'.e7.len, w'.e9.len, w'.e10.len, w'.e11.len, w'.e12.len, g7]
                  have e : beqD (.agg [.lit (.str s0), .lit (.str s1), .lit (.str s2), .lit (.str s3), .lit (.int .i64 n4), .lit (.int .i64 n5), .sl 17 L6, .sl 4 L7, .agg [.lit (.str s8_0), .lit (.str s8_1), .lit (.int .i64 n8_2), .sl 1 L8_3, .sl 5 L8_4], .sl 1 L9, .sl 1 L10, .sl 1 L11, .sl 1 L12]) (.agg [.lit (.str s0'), .lit (.str s1'), .lit (.str s2'), .lit (.str s3'), .lit (.int .i64 n4'), .lit (.int .i64 n5'), .sl 17 L6', .sl 4 L7', .agg [.lit (.str s8_0'), .lit (.str s8_1'), .lit (.int .i64 n8_2'), .sl 1 L8_3', .sl 5 L8_4'], .sl 1 L9', .sl 1 L10', .sl 1 L11', .sl 1 L12']) = false := by rw [beqD_agg]; simp only [beqDs_cons, beqDs_nil, beqD_sl, beqD_lit, litEq, g1, g2, g3, g4, g5, g6, g7, Bool.true_and, Bool.false_and, Bool.and_false, Bool.and_true]
                  simp only [e] at k
                  exact k _ h7.tl.tl
                | true =>
                  simp -implicitDefEqProofs only [↓GP, GB, GL, Nat.reduceAdd, Nat.reduceSub, Nat.reduceEqDiff, Nat.reduceMul, Nat.reduceLeDiff, Int.reduceBNe, Int.reduceBEq, Nat.reduceLT, reduceCtorEq, f7, qa0, qa1, qa2, qa3, qa4, qa5, qa6, qa7, qa8, qa9, qa10, qa11, qa12, qaa, qb0, qb1, qb2, qb3, qb4, qb5, qb6, qb7, qb8, qb9, qb10, qb11, qb12, qab, cells_agg, ldC_some, ldN_some, b_seq, b_sne, bEq, bne, w.e6.len, w.e7.len, w.e9.len, w.e10.len, w.e11.len, w.e12.len, w'.e6.len, w'.e7.len, w'.e9.len, w'.e10.len, w'.e11.len, w'.e12.len, g7]
                  refine wp_in ((l24 w.t9 w'.t9 w.m9) _ _ _ _ _ w.e9 w'.e9 h7 fun u8 h8 => ?_)
                  have f8 := h8.f2
                  cases g8 : beqDs L9 L9' with
                  | false =>
                    simp -implicitDefEqProofs only [↓GP, GB, GL, Nat.reduceAdd, Nat.reduceSub, Nat.reduceEqDiff, Nat.reduceMul, Nat.reduceLeDiff, Int.reduceBNe, Int.reduceBEq, Nat.reduceLT, reduceCtorEq, f8, qa0, qa1, qa2, qa3, qa4, qa5, qa6, qa7, qa8, qa9, qa10, qa11, qa12, qaa, qb0, qb1, qb2, qb3, qb4, qb5, qb6, qb7, qb8, qb9, qb10, qb11, qb12, qab, cells_agg, ldC_some, ldN_some, b_seq, b_sne, bEq, bne, w.e6.len, w.e7.len, w.e9.len, w.e10.len, w.e11.len, w.e12.len, w'.e6.len, w'.e7.len, w'.e9.len, w'.e10.len, w'.e11.len, w'.e12.len, g8]
                    have e : beqD (.agg [.lit (.str s0), .lit (.str s1), .lit (.str s2), .lit (.str s3), .lit (.int .i64 n4), .lit (.int .i64 n5), .sl 17 L6, .sl 4 L7, .agg [.lit (.str s8_0), .lit (.str s8_1), .lit (.int .i64 n8_2), .sl 1 L8_3, .sl 5 L8_4], .sl 1 L9, .sl 1 L10, .sl 1 L11, .sl 1 L12]) (.agg [.lit (.str s0'), .lit (.str s1'), .lit (.str s2'), .lit (.str s3'), .lit (.int .i64 n4'), .lit (.int .i64 n5'), .sl 17 L6', .sl 4 L7', .agg [.lit (.str s8_0'), .lit (.str s8_1'), .lit (.int .i64 n8_2'), .sl 1 L8_3', .sl 5 L8_4'], .sl 1 L9', .sl 1 L10', .sl 1 L11', .sl 1 L12']) = false := by rw [beqD_agg]; simp only [beqDs_cons, beqDs_nil, beqD_sl, beqD_lit, litEq, g1, g2, g3, g4, g5, g6, g7, g8, Bool.true_and, Bool.false_and, Bool.and_false, Bool.and_true]
                    simp only [e] at k
                    exact k _ h8.tl.tl
                  | true =>
                    simp -implicitDefEqProofs only [↓GP, GB, GL, Nat.reduceAdd, Nat.reduceSub, Nat.reduceEqDiff, Nat.reduceMul, Nat.reduceLeDiff, Int.reduceBNe, Int.reduceBEq, Nat.reduceLT, reduceCtorEq, f8, qa0, qa1, qa2, qa3, qa4, qa5, qa6, qa7, qa8, qa9, qa10, qa11, qa12, qaa, qb0, qb1, qb2, qb3, qb4, qb5, qb6, qb7, qb8, qb9, qb10, qb11, qb12, qab, cells_agg, ldC_some, ldN_some, b_seq, b_sne, bEq, bne, w.e6.len, w.e7.len, w.e9.len, w.e10.len, w.e11.len, w.e12.len, w'.e6.len, w'.e7.len, w'.e9.len, w'.e10.len, w'.e11.len, w'.e12.len, g8]
                    refine wp_in ((l24 w.t10 w'.t10 w.m10) _ _ _ _ _ w.e10 w'.e10 h8 fun u9 h9 => ?_)
                    have f9 := h9.f2
                    cases g9 : beqDs L10 L10' with
                    | false =>
                      simp -implicitDefEqProofs only [↓GP, GB, GL, Nat.reduceAdd, Nat.reduceSub, Nat.reduceEqDiff, Nat.reduceMul, Nat.reduceLeDiff, Int.reduceBNe, Int.reduceBEq, Nat.reduceLT, reduceCtorEq, f9, qa0, qa1, qa2, qa3, qa4, qa5, qa6, qa7, qa8, qa9, qa10, qa11, qa12, qaa, qb0, qb1, qb2, qb3, qb4, qb5, qb6, qb7, qb8, qb9, qb10, qb11, qb12, qab, cells_agg, ldC_some, ldN_some, b_seq, b_sne, bEq, bne, w.e6.len, w.e7.len, w.e9.len, w.e10.len, w.e11.len, w.e12.len, w'.e6.len, w'.e7.len, w'.e9.len, w'.e10.len, w'.e11.len, w'.e12.len, g9]
                      have e : beqD (.agg [.lit (.str s0), .lit (.str s1), .lit (.str s2), .lit (.str s3), .lit (.int .i64 n4), .lit (.int .i64 n5), .sl 17 L6, .sl 4 L7, .agg [.lit (.str s8_0), .lit (.str s8_1), .lit (.int .i64 n8_2), .sl 1 L8_3, .sl 5 L8_4], .sl 1 L9, .sl 1 L10, .sl 1 L11, .sl 1 L12]) (.agg [.lit (.str s0'), .lit (.str s1'), .lit (.str s2'), .lit (.str s3'), .lit (.int .i64 n4'), .lit (.int .i64 n5'), .sl 17 L6', .sl 4 L7', .agg [.lit (.str s8_0'), .lit (.str s8_1'), .lit (.int .i64 n8_2'), .sl 1 L8_3', .sl 5 L8_4'], .sl 1 L9', .sl 1 L10', .sl 1 L11', .sl 1 L12']) = false := by rw [beqD_agg]; simp only [beqDs_cons, beqDs_nil, beqD_sl, beqD_lit, litEq, g1, g2, g3, g4, g5, g6, g7, g8, g9, Bool.true_and, Bool.false_and, Bool.and_false, Bool.and_true]
                      simp only [e] at k
                      exact k _ h9.tl.tl
                    | true =>
                      simp -implicitDefEqProofs only [↓GP, GB, GL, Nat.reduceAdd, Nat.reduceSub, Nat.reduceEqDiff, Nat.reduceMul, Nat.reduceLeDiff, Int.reduceBNe, Int.reduceBEq, Nat.reduceLT, reduceCtorEq, f9, qa0, qa1, qa2, qa3, qa4, qa5, qa6, qa7, qa8, qa9, qa10, qa11, qa12, qaa, qb0, qb1, qb2, qb3, qb4, qb5, qb6, qb7, qb8, qb9, qb10, qb11, qb12, qab, cells_agg, ldC_some, ldN_some, b_seq, b_sne, bEq, bne, w.e6.len, w.e7.len, w.e9.len, w.e10.len, w.e11.len, w.e12.len, w'.e6.len, w'.e7.len, w'.e9.len, w'.e10.len, w'.e11.len, w'.e12.len, g9]
                      refine wp_in ((l24 w.t11 w'.t11 w.m11) _ _ _ _ _ w.e11 w'.e11 h9 fun u10 h10 => ?_)
                      have f10 := h10.f2
                      cases g10 : beqDs L11 L11' with
                      | false =>
                        simp -implicitDefEqProofs only [↓GP, GB, GL, Nat.reduceAdd, Nat.reduceSub, Nat.reduceEqDiff, Nat.reduceMul, Nat.reduceLeDiff, Int.reduceBNe, Int.reduceBEq, Nat.reduceLT, reduceCtorEq, f10, qa0, qa1, qa2, qa3, qa4, qa5, qa6, qa7, qa8, qa9, qa10, qa11, qa12, qaa, qb0, qb1, qb2, qb3, qb4, qb5, qb6, qb7, qb8, qb9, qb10, qb11, qb12, qab, cells_agg, ldC_some, ldN_some, b_seq, b_sne, bEq, bne, w.e6.len, w.e7.len, w.e9.len, w.e10.len, w.e11.len, w.e12.len, w'.e6.len, w'.e7.len, w'.e9.len, w'.e10.len, w'.e11.len, w'.e12.len, g10]
                        have e : beqD (.agg [.lit (.str s0), .lit (.str s1), .lit (.str s2), .lit (.str s3), .lit (.int .i64 n4), .lit (.int .i64 n5), .sl 17 L6, .sl 4 L7, .agg [.lit (.str s8_0), .lit (.str s8_1), .lit (.int .i64 n8_2), .sl 1 L8_3, .sl 5 L8_4], .sl 1 L9, .sl 1 L10, .sl 1 L11, .sl 1 L12]) (.agg [.lit (.str s0'), .lit (.str s1'), .lit (.str s2'), .lit (.str s3'), .lit (.int .i64 n4'), .lit (.int .i64 n5'), .sl 17 L6', .sl 4 L7', .agg [.lit (.str s8_0'), .lit (.str s8_1'), .lit (.int .i64 n8_2'), .sl 1 L8_3', .sl 5 L8_4'], .sl 1 L9', .sl 1 L10', .sl 1 L11', .sl 1 L12']) = false := by rw [beqD_agg]; simp only [beqDs_cons, beqDs_nil, beqD_sl, beqD_lit, litEq, g1, g2, g3, g4, g5, g6, g7, g8, g9, g10, Bool.true_and, Bool.false_and, Bool.and_false, Bool.and_true]
                        simp only [e] at k
                        exact k _ h10.tl.tl
                      | true =>
                        simp -implicitDefEqProofs only [↓GP, GB, GL, Nat.reduceAdd, Nat.reduceSub, Nat.reduceEqDiff, Nat.reduceMul, Nat.reduceLeDiff, Int.reduceBNe, Int.reduceBEq, Nat.reduceLT, reduceCtorEq, f10, qa0, qa1, qa2, qa3, qa4, qa5, qa6, qa7, qa8, qa9, qa10, qa11, qa12, qaa, qb0, qb1, qb2, qb3, qb4, qb5, qb6, qb7, qb8, qb9, qb10, qb11, qb12, qab, cells_agg, ldC_some, ldN_some, b_seq, b_sne, bEq, bne, w.e6.len, w.e7.len, w.e9.len, w.e10.len, w.e11.len, w.e12.len, w'.e6.len, w'.e7.len, w'.e9.len, w'.e10.len, w'.e11.len, w'.e12.len, g10]
                        refine wp_in ((l25 w.t12 w'.t12 w.m12) _ _ _ _ _ w.e12 w'.e12 h10 fun u11 h11 => ?_)
                        have f11 := h11.f2
                        cases g11 : beqDs L12 L12' with
                        | false =>
                          simp -implicitDefEqProofs only [↓GP, GB, GL, Nat.reduceAdd, Nat.reduceSub, Nat.reduceEqDiff, Nat.reduceMul, Nat.reduceLeDiff, Int.reduceBNe, Int.reduceBEq, Nat.reduceLT, reduceCtorEq, f11, qa0, qa1, qa2, qa3, qa4, qa5, qa6, qa7, qa8, qa9, qa10, qa11, qa12, qaa, qb0, qb1, qb2, qb3, qb4, qb5, qb6, qb7, qb8, qb9, qb10, qb11, qb12, qab, cells_agg, ldC_some, ldN_some, b_seq, b_sne, bEq, bne, w.e6.len, w.e7.len, w.e9.len, w.e10.len, w.e11.len, w.e12.len, w'.e6.len, w'.e7.len, w'.e9.len, w'.e10.len, w'.e11.len, w'.e12.len, g11]
                          have e : beqD (.agg [.lit (.str s0), .lit (.str s1), .lit (.str s2), .lit (.str s3), .lit (.int .i64 n4), .lit (.int .i64 n5), .sl 17 L6, .sl 4 L7, .agg [.lit (.str s8_0), .lit (.str s8_1), .lit (.int .i64 n8_2), .sl 1 L8_3, .sl 5 L8_4], .sl 1 L9, .sl 1 L10, .sl 1 L11, .sl 1 L12]) (.agg [.lit (.str s0'), .lit (.str s1'), .lit (.str s2'), .lit (.str s3'), .lit (.int .i64 n4'), .lit (.int .i64 n5'), .sl 17 L6', .sl 4 L7', .agg [.lit (.str s8_0'), .lit (.str s8_1'), .lit (.int .i64 n8_2'), .sl 1 L8_3', .sl 5 L8_4'], .sl 1 L9', .sl 1 L10', .sl 1 L11', .sl 1 L12']) = false := by rw [beqD_agg]; simp only [beqDs_cons, beqDs_nil, beqD_sl, beqD_lit, litEq, g1, g2, g3, g4, g5, g6, g7, g8, g9, g10, g11, Bool.true_and, Bool.false_and, Bool.and_false, Bool.and_true]
                          simp only [e] at k
                          exact k _ h11.tl.tl
                        | true =>
                          simp -implicitDefEqProofs only [↓GP, GB, GL, Nat.reduceAdd, Nat.reduceSub, Nat.reduceEqDiff, Nat.reduceMul, Nat.reduceLeDiff, Int.reduceBNe, Int.reduceBEq, Nat.reduceLT, reduceCtorEq, f11, qa0, qa1, qa2, qa3, qa4, qa5, qa6, qa7, qa8, qa9, qa10, qa11, qa12, qaa, qb0, qb1, qb2, qb3, qb4, qb5, qb6, qb7, qb8, qb9, qb10, qb11, qb12, qab, cells_agg, ldC_some, ldN_some, b_seq, b_sne, bEq, bne, w.e6.len, w.e7.len, w.e9.len, w.e10.len, w.e11.len, w.e12.len, w'.e6.len, w'.e7.len, w'.e9.len, w'.e10.len, w'.e11.len, w'.e12.len, g11]
                          refine wp_in ((l26 w.t7 w'.t7 w.m7 fun x _ x' => e27 x x') _ _ _ _ _ w.e7 w'.e7 h11 fun u12 h12 => ?_)
                          have f12 := h12.f2
                          cases g12 : beqDs L7 L7' with
                          | false =>
                            simp -implicitDefEqProofs only [↓GP, GB, GL, Nat.reduceAdd, Nat.reduceSub, Nat.reduceEqDiff, Nat.reduceMul, Nat.reduceLeDiff, Int.reduceBNe, Int.reduceBEq, Nat.reduceLT, reduceCtorEq, f12, qa0, qa1, qa2, qa3, qa4, qa5, qa6, qa7, qa8, qa9, qa10, qa11, qa12, qaa, qb0, qb1, qb2, qb3, qb4, qb5, qb6, qb7, qb8, qb9, qb10, qb11, qb12, qab, cells_agg, ldC_some, ldN_some, b_seq, b_sne, bEq, bne, w.e6.len, w.e7.len, w.e9.len, w.e10.len, w.e11.len, w.e12.len, w'.e6.len, w'.e7.len, w'.e9.len, w'.e10.len, w'.e11.len, w'.e12.len, g12]
                            have e : beqD (.agg [.lit (.str s0), .lit (.str s1), .lit (.str s2), .lit (.str s3), .lit (.int .i64 n4), .lit (.int .i64 n5), .sl 17 L6, .sl 4 L7, .agg [.lit (.str s8_0), .lit (.str s8_1), .lit (.int .i64 n8_2), .sl 1 L8_3, .sl 5 L8_4], .sl 1 L9, .sl 1 L10, .sl 1 L11, .sl 1 L12]) (.agg [.lit (.str s0'), .lit (.str s1'), .lit (.str s2'), .lit (.str s3'), .lit (.int .i64 n4'), .lit (.int .i64 n5'), .sl 17 L6', .sl 4 L7', .agg [.lit (.str s8_0'), .lit (.str s8_1'), .lit (.int .i64 n8_2'), .sl 1 L8_3', .sl 5 L8_4'], .sl 1 L9', .sl 1 L10', .sl 1 L11', .sl 1 L12']) = false := by rw [beqD_agg]; simp only [beqDs_cons, beqDs_nil, beqD_sl, beqD_lit, litEq, g1, g2, g3, g4, g5, g6, g7, g8, g9, g10, g11, g12, Bool.true_and, Bool.false_and, Bool.and_false, Bool.and_true]
                            simp only [e] at k
                            exact k _ h12.tl.tl
                          | true =>
                            simp -implicitDefEqProofs only [↓GP, GB, GL, Nat.reduceAdd, Nat.reduceSub, Nat.reduceEqDiff, Nat.reduceMul, Nat.reduceLeDiff, Int.reduceBNe, Int.reduceBEq, Nat.reduceLT, reduceCtorEq, f12, qa0, qa1, qa2, qa3, qa4, qa5, qa6, qa7, qa8, qa9, qa10, qa11, qa12, qaa, qb0, qb1, qb2, qb3, qb4, qb5, qb6, qb7, qb8, qb9, qb10, qb11, qb12, qab, cells_agg, ldC_some, ldN_some, b_seq, b_sne, bEq, bne, w.e6.len, w.e7.len, w.e9.len, w.e10.len, w.e11.len, w.e12.len, w'.e6.len, w'.e7.len, w'.e9.len, w'.e10.len, w'.e11.len, w'.e12.len, g12]
                            refine wp_in ((l28 w.t6 w'.t6 w.m6 fun x hx x' => IH x x' (mem_agg (ds := [.lit (.str s0), .lit (.str s1), .lit (.str s2), .lit (.str s3), .lit (.int .i64 n4), .lit (.int .i64 n5), .sl 17 L6, .sl 4 L7, .agg [.lit (.str s8_0), .lit (.str s8_1), .lit (.int .i64 n8_2), .sl 1 L8_3, .sl 5 L8_4], .sl 1 L9, .sl 1 L10, .sl 1 L11, .sl 1 L12]) (sz := 17) (List.mem_of_getElem? (i := 6) rfl) hx)) _ _ _ _ _ w.e6 w'.e6 h12 fun u13 h13 => ?_)
                            have f13 := h13.f2
                            cases g13 : beqDs L6 L6' with
                            | false =>
                              simp -implicitDefEqProofs only [↓GP, GB, GL, Nat.reduceAdd, Nat.reduceSub, Nat.reduceEqDiff, Nat.reduceMul, Nat.reduceLeDiff, Int.reduceBNe, Int.reduceBEq, Nat.reduceLT, reduceCtorEq, f13, qa0, qa1, qa2, qa3, qa4, qa5, qa6, qa7, qa8, qa9, qa10, qa11, qa12, qaa, qb0, qb1, qb2, qb3, qb4, qb5, qb6, qb7, qb8, qb9, qb10, qb11, qb12, qab, cells_agg, ldC_some, ldN_some, b_seq, b_sne, bEq, bne, w.e6.len, w.e7.len, w.e9.len, w.e10.len, w.e11.len, w.e12.len, w'.e6.len, w'.e7.len, w'.e9.len, w'.e10.len, w'.e11.len, w'.e12.len, g13]
                              have e : beqD (.agg [.lit (.str s0), .lit (.str s1), .lit (.str s2), .lit (.str s3), .lit (.int .i64 n4), .lit (.int .i64 n5), .sl 17 L6, .sl 4 L7, .agg [.lit (.str s8_0), .lit (.str s8_1), .lit (.int .i64 n8_2), .sl 1 L8_3, .sl 5 L8_4], .sl 1 L9, .sl 1 L10, .sl 1 L11, .sl 1 L12]) (.agg [.lit (.str s0'), .lit (.str s1'), .lit (.str s2'), .lit (.str s3'), .lit (.int .i64 n4'), .lit (.int .i64 n5'), .sl 17 L6', .sl 4 L7', .agg [.lit (.str s8_0'), .lit (.str s8_1'), .lit (.int .i64 n8_2'), .sl 1 L8_3', .sl 5 L8_4'], .sl 1 L9', .sl 1 L10', .sl 1 L11', .sl 1 L12']) = false := by rw [beqD_agg]; simp only [beqDs_cons, beqDs_nil, beqD_sl, beqD_lit, litEq, g1, g2, g3, g4, g5, g6, g7, g8, g9, g10, g11, g12, g13, Bool.true_and, Bool.false_and, Bool.and_false, Bool.and_true]
                              simp only [e] at k
                              exact k _ h13.tl.tl
                            | true =>
                              simp -implicitDefEqProofs only [↓GP, GB, GL, Nat.reduceAdd, Nat.reduceSub, Nat.reduceEqDiff, Nat.reduceMul, Nat.reduceLeDiff, Int.reduceBNe, Int.reduceBEq, Nat.reduceLT, reduceCtorEq, f13, qa0, qa1, qa2, qa3, qa4, qa5, qa6, qa7, qa8, qa9, qa10, qa11, qa12, qaa, qb0, qb1, qb2, qb3, qb4, qb5, qb6, qb7, qb8, qb9, qb10, qb11, qb12, qab, cells_agg, ldC_some, ldN_some, b_seq, b_sne, bEq, bne, w.e6.len, w.e7.len, w.e9.len, w.e10.len, w.e11.len, w.e12.len, w'.e6.len, w'.e7.len, w'.e9.len, w'.e10.len, w'.e11.len, w'.e12.len, g13]
                              have e : beqD (.agg [.lit (.str s0), .lit (.str s1), .lit (.str s2), .lit (.str s3), .lit (.int .i64 n4), .lit (.int .i64 n5), .sl 17 L6, .sl 4 L7, .agg [.lit (.str s8_0), .lit (.str s8_1), .lit (.int .i64 n8_2), .sl 1 L8_3, .sl 5 L8_4], .sl 1 L9, .sl 1 L10, .sl 1 L11, .sl 1 L12]) (.agg [.lit (.str s0'), .lit (.str s1'), .lit (.str s2'), .lit (.str s3'), .lit (.int .i64 n4'), .lit (.int .i64 n5'), .sl 17 L6', .sl 4 L7', .agg [.lit (.str s8_0'), .lit (.str s8_1'), .lit (.int .i64 n8_2'), .sl 1 L8_3', .sl 5 L8_4'], .sl 1 L9', .sl 1 L10', .sl 1 L11', .sl 1 L12']) = true := by rw [beqD_agg]; simp only [beqDs_cons, beqDs_nil, beqD_sl, beqD_lit, litEq, g1, g2, g3, g4, g5, g6, g7, g8, g9, g10, g11, g12, g13, Bool.true_and, Bool.false_and, Bool.and_false, Bool.and_true]
                              simp only [e] at k
                              exact k _ h13.tl.tl
theorem s17 : ∀ (m : Nat) (d d' : D), SizeOf.sizeOf d < m → EqS o 17 32 d d'
  | 0, _, _, hm => absurd hm (Nat.not_lt_zero _)
  | m + 1, d, d', hm => t17 d d' fun x x' h => s17 m x x' (Nat.lt_of_lt_of_le h (Nat.le_of_lt_succ hm))
theorem e17 (d d' : D) : EqS o 17 32 d d' := s17 _ d d' (Nat.lt_succ_self _)
theorem l13_0_loop {es es' : List D} {v v' : V} {C : Ch} {Q : V → St → Prop} {K : Kt} (hv : SlD o 2 es v) (hv' : SlD o 2 es' v') (hl : es.length = es'.length) (ht : ∀ d ∈ es, HasTy Tryz.prog 46 d) (ht' : ∀ d ∈ es', HasTy Tryz.prog 46 d) (hm : es.length ≤ maxLen) (IH : ∀ x ∈ es, ∀ x', EqS o 14 46 x x') :
    ∀ (m i : Nat) (z : Int) (s : St), z = ((i : Nat) : Int) → i + m = es.length → Holds o s C →
    (∀ s', Holds o s' C → beqDs (es.drop i) (es'.drop i) = true → WP (K (.exit 0) (sp 32 []) s') Q) →
    (∀ s', Holds o s' C → beqDs (es.drop i) (es'.drop i) = false → WP (K .ret (sp 32 [(6, .bool false)]) s') Q) → WP (loop PF (.loop l13_0) (sp 32 [(1, v'), (2, .func 14 [] []), (15, v), (16, I es.length), (17, I z)]) s K) Q
  | 0, i, z, s, hz, hi, H, kt, kf => by
    subst hz
    have hlt : ¬ ((i : Int) < (es.length : Int)) := by omega
    refine wp_round fun LL hLL => ?_
    simp -implicitDefEqProofs only [↓GP, GB, GL, Nat.reduceAdd, Nat.reduceSub, Nat.reduceEqDiff, Nat.reduceMul, Nat.reduceLeDiff, Int.reduceBNe, Int.reduceBEq, Nat.reduceLT, reduceCtorEq, l13_0, hlt]
    exact kt s H (by rw [List.drop_eq_nil_of_le (by omega), List.drop_eq_nil_of_le (by omega), beqDs_nil])
  | m + 1, i, z, s, hz, hi, H, kt, kf => by
    subst hz
    have hlt : ((i : Int) < (es.length : Int)) := by omega
    have hi1 : i < es.length := by omega
    have hi2 : i < es'.length := by omega
    have hw1 := wrap_len (a := i) (by omega)
    obtain ⟨b, off, M, c, x1, x2, x3, x4⟩ := hv.get i hi1
    obtain ⟨b', off', M', c', y1, y2, y3, y4⟩ := hv'.get i hi2
    have ta := ht _ (List.getElem_mem hi1)
    have ta' := ht' _ (List.getElem_mem hi2)
    have ed := beqDs_drop hi1 hi2
    obtain ⟨k1, k2, k3⟩ := zData ta x2
    obtain ⟨k4, k5, k6⟩ := zData ta' y2
    have l1 := (ld_old H.old x3 x4 (by omega)).1
    have l2 := (ld_old H.old y3 y4 (by omega)).1
    refine wp_round fun LL hLL => ?_
    simp -implicitDefEqProofs only [↓GP, GB, GL, Nat.reduceAdd, Nat.reduceSub, Nat.reduceEqDiff, Nat.reduceMul, Nat.reduceLeDiff, Int.reduceBNe, Int.reduceBEq, Nat.reduceLT, reduceCtorEq, l13_0, hlt, x1, y1, l1, l2, ldo_alloc, ldo_set, st_new, k1, k2, k3, k4, k5, k6, cells_agg, ldN_some]
    have h0 : Holds o ((((s.alloc (.cells [.str (ByteArray.mk #[]), .slice none 0 (some 0)] none)).set s.next (.cells c none)).alloc (.cells [.str (ByteArray.mk #[]), .slice none 0 (some 0)] none)).set (s.next + 1) (.cells c' none)) ((s.next + 1, some (.cells c' none)) :: (s.next, some (.cells c none)) :: C) := ((((H.alloc _).set0 _).alloc _).set0 _)
    refine wp_in (IH _ (List.getElem_mem hi1) _ _ _ _ _ _ ta ta' x2 y2 h0 fun s1 h1 => ?_)
    cases g : beqD es[i] es'[i] with
    | false =>
      rw [g, Bool.false_and] at ed
      simp -implicitDefEqProofs only [↓GP, GB, GL, Nat.reduceAdd, Nat.reduceSub, Nat.reduceEqDiff, Nat.reduceMul, Nat.reduceLeDiff, Int.reduceBNe, Int.reduceBEq, Nat.reduceLT, reduceCtorEq, g]
      exact kf _ (h1.tl.tl) ed
    | true =>
      rw [g, Bool.true_and] at ed
      simp -implicitDefEqProofs only [↓GP, GB, GL, Nat.reduceAdd, Nat.reduceSub, Nat.reduceEqDiff, Nat.reduceMul, Nat.reduceLeDiff, Int.reduceBNe, Int.reduceBEq, Nat.reduceLT, reduceCtorEq, g, hw1]
      rw [hLL]
      exact l13_0_loop hv hv' hl ht ht' hm IH m (i + 1) _ _ rfl (by omega) (h1.tl.tl) (fun s2 h2 e => kt s2 h2 (ed.trans e)) (fun s2 h2 e => kf s2 h2 (ed.trans e))
theorem l13 {es es' : List D} (ht : ∀ d ∈ es, HasTy Tryz.prog 46 d) (ht' : ∀ d ∈ es', HasTy Tryz.prog 46 d) (hm : es.length ≤ maxLen) (IH : ∀ x ∈ es, ∀ x', EqS o 14 46 x x') : EqLF o 13 2 14 es es' := by
  intro v v' C s Q hv hv' H k
  by_cases hl : es.length = es'.length
  · have hz : (((es.length : Nat) : Int) == ((es'.length : Nat) : Int)) = true := by rw [beq_iff_eq]; omega
    rw [call_run F13]; simp -implicitDefEqProofs only [↓GP, GB, GL, Nat.reduceAdd, Nat.reduceSub, Nat.reduceEqDiff, Nat.reduceMul, Nat.reduceLeDiff, Int.reduceBNe, Int.reduceBEq, Nat.reduceLT, reduceCtorEq, c13, hv.len, hv'.len, bne, hz]
    refine l13_0_loop hv hv' hl ht ht' hm IH _ 0 _ _ rfl (Nat.zero_add _) H (fun s1 h1 g => ?_) (fun s1 h1 g => ?_) <;> rw [List.drop_zero, List.drop_zero] at g <;> simp only [g] at k
    · simp -implicitDefEqProofs only [↓GP, GB, GL, Nat.reduceAdd, Nat.reduceSub, Nat.reduceEqDiff, Nat.reduceMul, Nat.reduceLeDiff, Int.reduceBNe, Int.reduceBEq, Nat.reduceLT, reduceCtorEq]
      exact k _ h1
    · simp -implicitDefEqProofs only [↓GP, GB, GL, Nat.reduceAdd, Nat.reduceSub, Nat.reduceEqDiff, Nat.reduceMul, Nat.reduceLeDiff, Int.reduceBNe, Int.reduceBEq, Nat.reduceLT, reduceCtorEq]
      exact k _ h1
  · have hz : (((es.length : Nat) : Int) == ((es'.length : Nat) : Int)) = false := by rw [beq_eq_false_iff_ne]; omega
    rw [call_run F13]; simp -implicitDefEqProofs only [↓GP, GB, GL, Nat.reduceAdd, Nat.reduceSub, Nat.reduceEqDiff, Nat.reduceMul, Nat.reduceLeDiff, Int.reduceBNe, Int.reduceBEq, Nat.reduceLT, reduceCtorEq, c13, hv.len, hv'.len, bne, hz]
    simp only [beqDs_ne hl] at k
    exact k _ H
/-- Function 6: RProg. -/
theorem t6 (d d' : D) (IH : ∀ x x' : D, SizeOf.sizeOf x < SizeOf.sizeOf d → EqS o 6 34 x x') : EqS o 6 34 d d' := by
    intro c c' C s Q ht ht' r r' H k
    obtain ⟨L0, v0, L1, v1, s2_0, s2_1, s2_2, s2_3, n2_4, n2_5, L2_6, v2_6, L2_7, v2_7, s2_8_0, s2_8_1, n2_8_2, L2_8_3, v2_8_3, L2_8_4, v2_8_4, L2_9, v2_9, L2_10, v2_10, L2_11, v2_11, L2_12, v2_12, rfl, hc, w⟩ := vRProg ht r
    obtain ⟨L0', v0', L1', v1', s2_0', s2_1', s2_2', s2_3', n2_4', n2_5', L2_6', v2_6', L2_7', v2_7', s2_8_0', s2_8_1', n2_8_2', L2_8_3', v2_8_3', L2_8_4', v2_8_4', L2_9', v2_9', L2_10', v2_10', L2_11', v2_11', L2_12', v2_12', rfl, hc', w'⟩ := vRProg ht' r'
    have qa0 : c[0]? = some (v0) := by rw [hc]; rfl
    have qa1 : c[1]? = some (v1) := by rw [hc]; rfl
    have qa2 : cut c 2 17 = some [.str s2_0, .str s2_1, .str s2_2, .str s2_3, .int .i64 n2_4, .int .i64 n2_5, v2_6, v2_7, .str s2_8_0, .str s2_8_1, .int .i64 n2_8_2, v2_8_3, v2_8_4, v2_9, v2_10, v2_11, v2_12] := by rw [hc]; rfl
    have qaa : c.all V.one = true := by rw [hc]; simp only [List.all_cons, List.all_nil, one_s, one_i, one_b, Bool.and_true, w.e0.one, w.e1.one, w.w2.e6.one, w.w2.e7.one, w.w2.w8.e3.one, w.w2.w8.e4.one, w.w2.e9.one, w.w2.e10.one, w.w2.e11.one, w.w2.e12.one]
    have qb0 : c'[0]? = some (v0') := by rw [hc']; rfl
    have qb1 : c'[1]? = some (v1') := by rw [hc']; rfl
    have qb2 : cut c' 2 17 = some [.str s2_0', .str s2_1', .str s2_2', .str s2_3', .int .i64 n2_4', .int .i64 n2_5', v2_6', v2_7', .str s2_8_0', .str s2_8_1', .int .i64 n2_8_2', v2_8_3', v2_8_4', v2_9', v2_10', v2_11', v2_12'] := by rw [hc']; rfl
    have qab : c'.all V.one = true := by rw [hc']; simp only [List.all_cons, List.all_nil, one_s, one_i, one_b, Bool.and_true, w'.e0.one, w'.e1.one, w'.w2.e6.one, w'.w2.e7.one, w'.w2.w8.e3.one, w'.w2.w8.e4.one, w'.w2.e9.one, w'.w2.e10.one, w'.w2.e11.one, w'.w2.e12.one]
    have h0 : Holds o ((s.alloc (.cells c none)).alloc (.cells c' none)) ((s.next + 1, some (.cells c' none)) :: (s.next, some (.cells c none)) :: C) := (H.alloc _).alloc _
    rw [call_run F6]; simp -implicitDefEqProofs only [↓GP, GB, GL, Nat.reduceAdd, Nat.reduceSub, Nat.reduceEqDiff, Nat.reduceMul, Nat.reduceLeDiff, Int.reduceBNe, Int.reduceBEq, Nat.reduceLT, reduceCtorEq, c6, qa0, qa1, qa2, qaa, qb0, qb1, qb2, qab, cells_agg, ldC_some, ldN_some, b_seq, b_sne, bEq, bne, w.e0.len, w.e1.len, w'.e0.len, w'.e1.len]
    refine wp_in ((l13 w.t0 w'.t0 w.m0 fun x _ x' => e14 x x') _ _ _ _ _ w.e0 w'.e0 h0 fun u1 h1 => ?_)
    have f1 := h1.f2
    cases g1 : beqDs L0 L0' with
    | false =>
      simp -implicitDefEqProofs only [↓GP, GB, GL, Nat.reduceAdd, Nat.reduceSub, Nat.reduceEqDiff, Nat.reduceMul, Nat.reduceLeDiff, Int.reduceBNe, Int.reduceBEq, Nat.reduceLT, reduceCtorEq, f1, qa0, qa1, qa2, qaa, qb0, qb1, qb2, qab, cells_agg, ldC_some, ldN_some, b_seq, b_sne, bEq, bne, w.e0.len, w.e1.len, w'.e0.len, w'.e1.len, g1]
      have e : beqD (.agg [.sl 2 L0, .sl 5 L1, .agg [.lit (.str s2_0), .lit (.str s2_1), .lit (.str s2_2), .lit (.str s2_3), .lit (.int .i64 n2_4), .lit (.int .i64 n2_5), .sl 17 L2_6, .sl 4 L2_7, .agg [.lit (.str s2_8_0), .lit (.str s2_8_1), .lit (.int .i64 n2_8_2), .sl 1 L2_8_3, .sl 5 L2_8_4], .sl 1 L2_9, .sl 1 L2_10, .sl 1 L2_11, .sl 1 L2_12]]) (.agg [.sl 2 L0', .sl 5 L1', .agg [.lit (.str s2_0'), .lit (.str s2_1'), .lit (.str s2_2'), .lit (.str s2_3'), .lit (.int .i64 n2_4'), .lit (.int .i64 n2_5'), .sl 17 L2_6', .sl 4 L2_7', .agg [.lit (.str s2_8_0'), .lit (.str s2_8_1'), .lit (.int .i64 n2_8_2'), .sl 1 L2_8_3', .sl 5 L2_8_4'], .sl 1 L2_9', .sl 1 L2_10', .sl 1 L2_11', .sl 1 L2_12']]) = false := by rw [beqD_agg]; simp only [beqDs_cons, beqDs_nil, beqD_sl, beqD_lit, litEq, g1, Bool.true_and, Bool.false_and, Bool.and_false, Bool.and_true]
      simp only [e] at k
      exact k _ h1.tl.tl
    | true =>
      simp -implicitDefEqProofs only [↓GP, GB, GL, Nat.reduceAdd, Nat.reduceSub, Nat.reduceEqDiff, Nat.reduceMul, Nat.reduceLeDiff, Int.reduceBNe, Int.reduceBEq, Nat.reduceLT, reduceCtorEq, f1, qa0, qa1, qa2, qaa, qb0, qb1, qb2, qab, cells_agg, ldC_some, ldN_some, b_seq, b_sne, bEq, bne, w.e0.len, w.e1.len, w'.e0.len, w'.e1.len, g1]
      refine wp_in ((l15 w.t1 w'.t1 w.m1 fun x _ x' => e16 x x') _ _ _ _ _ w.e1 w'.e1 h1 fun u2 h2 => ?_)
      have f2 := h2.f2
      cases g2 : beqDs L1 L1' with
      | false =>
        simp -implicitDefEqProofs only [↓GP, GB, GL, Nat.reduceAdd, Nat.reduceSub, Nat.reduceEqDiff, Nat.reduceMul, Nat.reduceLeDiff, Int.reduceBNe, Int.reduceBEq, Nat.reduceLT, reduceCtorEq, f2, qa0, qa1, qa2, qaa, qb0, qb1, qb2, qab, cells_agg, ldC_some, ldN_some, b_seq, b_sne, bEq, bne, w.e0.len, w.e1.len, w'.e0.len, w'.e1.len, g2]
        have e : beqD (.agg [.sl 2 L0, .sl 5 L1, .agg [.lit (.str s2_0), .lit (.str s2_1), .lit (.str s2_2), .lit (.str s2_3), .lit (.int .i64 n2_4), .lit (.int .i64 n2_5), .sl 17 L2_6, .sl 4 L2_7, .agg [.lit (.str s2_8_0), .lit (.str s2_8_1), .lit (.int .i64 n2_8_2), .sl 1 L2_8_3, .sl 5 L2_8_4], .sl 1 L2_9, .sl 1 L2_10, .sl 1 L2_11, .sl 1 L2_12]]) (.agg [.sl 2 L0', .sl 5 L1', .agg [.lit (.str s2_0'), .lit (.str s2_1'), .lit (.str s2_2'), .lit (.str s2_3'), .lit (.int .i64 n2_4'), .lit (.int .i64 n2_5'), .sl 17 L2_6', .sl 4 L2_7', .agg [.lit (.str s2_8_0'), .lit (.str s2_8_1'), .lit (.int .i64 n2_8_2'), .sl 1 L2_8_3', .sl 5 L2_8_4'], .sl 1 L2_9', .sl 1 L2_10', .sl 1 L2_11', .sl 1 L2_12']]) = false := by rw [beqD_agg]; simp only [beqDs_cons, beqDs_nil, beqD_sl, beqD_lit, litEq, g1, g2, Bool.true_and, Bool.false_and, Bool.and_false, Bool.and_true]
        simp only [e] at k
        exact k _ h2.tl.tl
      | true =>
        simp -implicitDefEqProofs only [↓GP, GB, GL, Nat.reduceAdd, Nat.reduceSub, Nat.reduceEqDiff, Nat.reduceMul, Nat.reduceLeDiff, Int.reduceBNe, Int.reduceBEq, Nat.reduceLT, reduceCtorEq, f2, qa0, qa1, qa2, qaa, qb0, qb1, qb2, qab, cells_agg, ldC_some, ldN_some, b_seq, b_sne, bEq, bne, w.e0.len, w.e1.len, w'.e0.len, w'.e1.len, g2]
        refine wp_in ((e17 _ _) _ _ _ _ _ w.h2 w'.h2 w.r2 w'.r2 h2 fun u3 h3 => ?_)
        have f3 := h3.f2
        cases g3 : beqD (.agg [.lit (.str s2_0), .lit (.str s2_1), .lit (.str s2_2), .lit (.str s2_3), .lit (.int .i64 n2_4), .lit (.int .i64 n2_5), .sl 17 L2_6, .sl 4 L2_7, .agg [.lit (.str s2_8_0), .lit (.str s2_8_1), .lit (.int .i64 n2_8_2), .sl 1 L2_8_3, .sl 5 L2_8_4], .sl 1 L2_9, .sl 1 L2_10, .sl 1 L2_11, .sl 1 L2_12]) (.agg [.lit (.str s2_0'), .lit (.str s2_1'), .lit (.str s2_2'), .lit (.str s2_3'), .lit (.int .i64 n2_4'), .lit (.int .i64 n2_5'), .sl 17 L2_6', .sl 4 L2_7', .agg [.lit (.str s2_8_0'), .lit (.str s2_8_1'), .lit (.int .i64 n2_8_2'), .sl 1 L2_8_3', .sl 5 L2_8_4'], .sl 1 L2_9', .sl 1 L2_10', .sl 1 L2_11', .sl 1 L2_12']) with
        | false =>
          simp -implicitDefEqProofs only [↓GP, GB, GL, Nat.reduceAdd, Nat.reduceSub, Nat.reduceEqDiff, Nat.reduceMul, Nat.reduceLeDiff, Int.reduceBNe, Int.reduceBEq, Nat.reduceLT, reduceCtorEq, f3, qa0, qa1, qa2, qaa, qb0, qb1, qb2, qab, cells_agg, ldC_some, ldN_some, b_seq, b_sne, bEq, bne, w.e0.len, w.e1.len, w'.e0.len, w'.e1.len, g3]
          have e : beqD (.agg [.sl 2 L0, .sl 5 L1, .agg [.lit (.str s2_0), .lit (.str s2_1), .lit (.str s2_2), .lit (.str s2_3), .lit (.int .i64 n2_4), .lit (.int .i64 n2_5), .sl 17 L2_6, .sl 4 L2_7, .agg [.lit (.str s2_8_0), .lit (.str s2_8_1), .lit (.int .i64 n2_8_2), .sl 1 L2_8_3, .sl 5 L2_8_4], .sl 1 L2_9, .sl 1 L2_10, .sl 1 L2_11, .sl 1 L2_12]]) (.agg [.sl 2 L0', .sl 5 L1', .agg [.lit (.str s2_0'), .lit (.str s2_1'), .lit (.str s2_2'), .lit (.str s2_3'), .lit (.int .i64 n2_4'), .lit (.int .i64 n2_5'), .sl 17 L2_6', .sl 4 L2_7', .agg [.lit (.str s2_8_0'), .lit (.str s2_8_1'), .lit (.int .i64 n2_8_2'), .sl 1 L2_8_3', .sl 5 L2_8_4'], .sl 1 L2_9', .sl 1 L2_10', .sl 1 L2_11', .sl 1 L2_12']]) = false := by rw [beqD_agg]; simp only [beqDs_cons, beqDs_nil, beqD_sl, beqD_lit, litEq, g1, g2, g3, Bool.true_and, Bool.false_and, Bool.and_false, Bool.and_true]
          simp only [e] at k
          exact k _ h3.tl.tl
        | true =>
          simp -implicitDefEqProofs only [↓GP, GB, GL, Nat.reduceAdd, Nat.reduceSub, Nat.reduceEqDiff, Nat.reduceMul, Nat.reduceLeDiff, Int.reduceBNe, Int.reduceBEq, Nat.reduceLT, reduceCtorEq, f3, qa0, qa1, qa2, qaa, qb0, qb1, qb2, qab, cells_agg, ldC_some, ldN_some, b_seq, b_sne, bEq, bne, w.e0.len, w.e1.len, w'.e0.len, w'.e1.len, g3]
          have e : beqD (.agg [.sl 2 L0, .sl 5 L1, .agg [.lit (.str s2_0), .lit (.str s2_1), .lit (.str s2_2), .lit (.str s2_3), .lit (.int .i64 n2_4), .lit (.int .i64 n2_5), .sl 17 L2_6, .sl 4 L2_7, .agg [.lit (.str s2_8_0), .lit (.str s2_8_1), .lit (.int .i64 n2_8_2), .sl 1 L2_8_3, .sl 5 L2_8_4], .sl 1 L2_9, .sl 1 L2_10, .sl 1 L2_11, .sl 1 L2_12]]) (.agg [.sl 2 L0', .sl 5 L1', .agg [.lit (.str s2_0'), .lit (.str s2_1'), .lit (.str s2_2'), .lit (.str s2_3'), .lit (.int .i64 n2_4'), .lit (.int .i64 n2_5'), .sl 17 L2_6', .sl 4 L2_7', .agg [.lit (.str s2_8_0'), .lit (.str s2_8_1'), .lit (.int .i64 n2_8_2'), .sl 1 L2_8_3', .sl 5 L2_8_4'], .sl 1 L2_9', .sl 1 L2_10', .sl 1 L2_11', .sl 1 L2_12']]) = true := by rw [beqD_agg]; simp only [beqDs_cons, beqDs_nil, beqD_sl, beqD_lit, litEq, g1, g2, g3, Bool.true_and, Bool.false_and, Bool.and_false, Bool.and_true]
          simp only [e] at k
          exact k _ h3.tl.tl
theorem s6 : ∀ (m : Nat) (d d' : D), SizeOf.sizeOf d < m → EqS o 6 34 d d'
  | 0, _, _, hm => absurd hm (Nat.not_lt_zero _)
  | m + 1, d, d', hm => t6 d d' fun x x' h => s6 m x x' (Nat.lt_of_lt_of_le h (Nat.le_of_lt_succ hm))
theorem e6 (d d' : D) : EqS o 6 34 d d' := s6 _ d d' (Nat.lt_succ_self _)
end
end Go.Proofs.YtfcaamoapdibiaaGreatDoor
