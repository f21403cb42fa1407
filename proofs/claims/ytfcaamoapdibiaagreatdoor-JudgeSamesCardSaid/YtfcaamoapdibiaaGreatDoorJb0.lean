/- Layer 11: the code of the functions that its closed call runs. -/
import Derived.Test.YtfcaamoapdibiaaGreatDoorJa0
set_option linter.unusedSimpArgs false
set_option linter.unusedVariables false
namespace Go.Proofs.YtfcaamoapdibiaaGreatDoor.S
open Go Go.IM Go.Proofs.YtfcaamoapdibiaaGreatDoor

-- virgate/virgatelaw11.Sane

def c5 : IFn := ⟨36, [(0, none)],
  (.seq (.region [oa 0 (.mov (.c (.bool false)))] (kp 36 []))
  (.seq (.region [oa 6 (.call 10 [(.c (.str (ByteArray.mk #[97, 98]))), (ai 3)]), oa 7 (.buildSlice 1 [(.str (ByteArray.mk #[])), (.str (ByteArray.mk #[])), (.str (ByteArray.mk #[])), (.str (ByteArray.mk #[])), (.int .i64 (0)), (.int .i64 (0)), (.slice none 0 (some 0)), (.slice none 0 (some 0)), (.str (ByteArray.mk #[])), (.str (ByteArray.mk #[])), (.int .i64 (0)), (.slice none 0 (some 0)), (.slice none 0 (some 0)), (.slice none 0 (some 0)), (.slice none 0 (some 0)), (.slice none 0 (some 0)), (.slice none 0 (some 0))] [(0, 17, (.t 6))]), oa 8 (.build [(.str (ByteArray.mk #[])), (.str (ByteArray.mk #[])), (.str (ByteArray.mk #[])), (.str (ByteArray.mk #[])), (.int .i64 (0)), (.int .i64 (0)), (.slice none 0 (some 0)), (.slice none 0 (some 0)), (.str (ByteArray.mk #[])), (.str (ByteArray.mk #[])), (.int .i64 (0)), (.slice none 0 (some 0)), (.slice none 0 (some 0)), (.slice none 0 (some 0)), (.slice none 0 (some 0)), (.slice none 0 (some 0)), (.slice none 0 (some 0))] [(0, 1, (.c (.str (ByteArray.mk #[111, 112])))), (1, 1, (.c (.str (ByteArray.mk #[115, 105, 122, 101])))), (6, 1, (.t 7))]), oa 1 (.alloc [(.str (ByteArray.mk #[])), (.str (ByteArray.mk #[])), (.str (ByteArray.mk #[])), (.str (ByteArray.mk #[])), (.int .i64 (0)), (.int .i64 (0)), (.slice none 0 (some 0)), (.slice none 0 (some 0)), (.str (ByteArray.mk #[])), (.str (ByteArray.mk #[])), (.int .i64 (0)), (.slice none 0 (some 0)), (.slice none 0 (some 0)), (.slice none 0 (some 0)), (.slice none 0 (some 0)), (.slice none 0 (some 0)), (.slice none 0 (some 0))]), ob (.store 17 (.t 1) (.t 8))] (kp 36 [1]))
  (.seq (.region [oa 9 (.buildSlice 1 [(.int .i64 (0))] [(0, 1, (ai 3))]), oa 10 (.load (some 17) (.t 1)), oa 11 (.buildSlice 1 [(.str (ByteArray.mk #[])), (.str (ByteArray.mk #[])), (.str (ByteArray.mk #[])), (.str (ByteArray.mk #[])), (.int .i64 (0)), (.int .i64 (0)), (.slice none 0 (some 0)), (.slice none 0 (some 0)), (.str (ByteArray.mk #[])), (.str (ByteArray.mk #[])), (.int .i64 (0)), (.slice none 0 (some 0)), (.slice none 0 (some 0)), (.slice none 0 (some 0)), (.slice none 0 (some 0)), (.slice none 0 (some 0)), (.slice none 0 (some 0))] [(0, 17, (.t 10))]), oa 12 (.build [(.str (ByteArray.mk #[])), (.str (ByteArray.mk #[])), (.str (ByteArray.mk #[])), (.str (ByteArray.mk #[])), (.int .i64 (0)), (.int .i64 (0)), (.slice none 0 (some 0)), (.slice none 0 (some 0)), (.str (ByteArray.mk #[])), (.str (ByteArray.mk #[])), (.int .i64 (0)), (.slice none 0 (some 0)), (.slice none 0 (some 0)), (.slice none 0 (some 0)), (.slice none 0 (some 0)), (.slice none 0 (some 0)), (.slice none 0 (some 0))] [(0, 1, (.c (.str (ByteArray.mk #[114, 101, 103, 105, 111, 110])))), (13, 1, (.t 9)), (6, 1, (.t 11))]), oa 13 (.build [(.slice none 0 (some 0)), (.slice none 0 (some 0)), (.str (ByteArray.mk #[])), (.str (ByteArray.mk #[])), (.str (ByteArray.mk #[])), (.str (ByteArray.mk #[])), (.int .i64 (0)), (.int .i64 (0)), (.slice none 0 (some 0)), (.slice none 0 (some 0)), (.str (ByteArray.mk #[])), (.str (ByteArray.mk #[])), (.int .i64 (0)), (.slice none 0 (some 0)), (.slice none 0 (some 0)), (.slice none 0 (some 0)), (.slice none 0 (some 0)), (.slice none 0 (some 0)), (.slice none 0 (some 0))] [(2, 17, (.t 12))]), oa 2 (.alloc [(.slice none 0 (some 0)), (.slice none 0 (some 0)), (.str (ByteArray.mk #[])), (.str (ByteArray.mk #[])), (.str (ByteArray.mk #[])), (.str (ByteArray.mk #[])), (.int .i64 (0)), (.int .i64 (0)), (.slice none 0 (some 0)), (.slice none 0 (some 0)), (.str (ByteArray.mk #[])), (.str (ByteArray.mk #[])), (.int .i64 (0)), (.slice none 0 (some 0)), (.slice none 0 (some 0)), (.slice none 0 (some 0)), (.slice none 0 (some 0)), (.slice none 0 (some 0)), (.slice none 0 (some 0))]), ob (.store 19 (.t 2) (.t 13))] (kp 36 [2]))
  (.seq (.region [oa 14 (.buildSlice 1 [(.int .i64 (0))] [(0, 1, (ai 3))]), oa 15 (.call 10 [(.c (.str (ByteArray.mk #[97, 98]))), (ai 3)]), oa 16 (.buildSlice 1 [(.str (ByteArray.mk #[])), (.str (ByteArray.mk #[])), (.str (ByteArray.mk #[])), (.str (ByteArray.mk #[])), (.int .i64 (0)), (.int .i64 (0)), (.slice none 0 (some 0)), (.slice none 0 (some 0)), (.str (ByteArray.mk #[])), (.str (ByteArray.mk #[])), (.int .i64 (0)), (.slice none 0 (some 0)), (.slice none 0 (some 0)), (.slice none 0 (some 0)), (.slice none 0 (some 0)), (.slice none 0 (some 0)), (.slice none 0 (some 0))] [(0, 17, (.t 15))]), oa 17 (.build [(.str (ByteArray.mk #[])), (.str (ByteArray.mk #[])), (.str (ByteArray.mk #[])), (.str (ByteArray.mk #[])), (.int .i64 (0)), (.int .i64 (0)), (.slice none 0 (some 0)), (.slice none 0 (some 0)), (.str (ByteArray.mk #[])), (.str (ByteArray.mk #[])), (.int .i64 (0)), (.slice none 0 (some 0)), (.slice none 0 (some 0)), (.slice none 0 (some 0)), (.slice none 0 (some 0)), (.slice none 0 (some 0)), (.slice none 0 (some 0))] [(0, 1, (.c (.str (ByteArray.mk #[114, 101, 103, 105, 111, 110])))), (13, 1, (.t 14)), (6, 1, (.t 16))]), oa 18 (.build [(.slice none 0 (some 0)), (.slice none 0 (some 0)), (.str (ByteArray.mk #[])), (.str (ByteArray.mk #[])), (.str (ByteArray.mk #[])), (.str (ByteArray.mk #[])), (.int .i64 (0)), (.int .i64 (0)), (.slice none 0 (some 0)), (.slice none 0 (some 0)), (.str (ByteArray.mk #[])), (.str (ByteArray.mk #[])), (.int .i64 (0)), (.slice none 0 (some 0)), (.slice none 0 (some 0)), (.slice none 0 (some 0)), (.slice none 0 (some 0)), (.slice none 0 (some 0)), (.slice none 0 (some 0))] [(2, 17, (.t 17))]), oa 3 (.alloc [(.slice none 0 (some 0)), (.slice none 0 (some 0)), (.str (ByteArray.mk #[])), (.str (ByteArray.mk #[])), (.str (ByteArray.mk #[])), (.str (ByteArray.mk #[])), (.int .i64 (0)), (.int .i64 (0)), (.slice none 0 (some 0)), (.slice none 0 (some 0)), (.str (ByteArray.mk #[])), (.str (ByteArray.mk #[])), (.int .i64 (0)), (.slice none 0 (some 0)), (.slice none 0 (some 0)), (.slice none 0 (some 0)), (.slice none 0 (some 0)), (.slice none 0 (some 0)), (.slice none 0 (some 0))]), ob (.store 19 (.t 3) (.t 18))] (kp 36 [2,3]))
  (.seq (.region [oa 20 (.load (some 19) (.t 2)), oa 21 (.call 11 [(.t 20)]), oa 19 (.mov (.t 21)), oa 22 (.extract (.t 19) 0), oa 23 (.extract (.t 19) 1), oa 4 (.alloc [(.str (ByteArray.mk #[])), (.str (ByteArray.mk #[])), (.int .i64 (0)), (.slice none 0 (some 0)), (.slice none 0 (some 0))]), ob (.store 5 (.t 4) (.t 22)), oa 5 (.mov (.t 23))] (kp 36 [3,4,5]))
  (.seq (.region [oa 24 (.mov (.t 5)), oa 25 (.bin .eql (.t 24) (ai 0)), oa 26 (.mov (.t 25)), oc 27 (.fieldAddr 0 (.t 4)) 26 tt, oc 28 (.load none (.t 27)) 26 tt, oc 29 (.bin .eql (.t 28) (.c (.str (ByteArray.mk #[105, 110, 116])))) 26 tt, oa 30 (.pick (.t 26) (.t 29) (.c (.bool false))), oa 31 (.mov (.t 30)), oc 32 (.load (some 19) (.t 3)) 31 tt, oc 33 (.call 12 [(.t 32)]) 31 tt, oc 34 (.un .not (.t 33)) 31 tt, oa 35 (.pick (.t 31) (.t 34) (.c (.bool false))), oa 0 (.mov (.t 35))] (kp 36 [0]))
  (sr 36 [0])))))))⟩
theorem F5 : shutF Tryz.prog 5 = some c5 := by kernel_rfl

-- virgate/virgatelaw11.text

def c10 : IFn := ⟨8, [(4, (some (some 17)))],
  (.seq (.region [oa 4 (.alloc [(.str (ByteArray.mk #[])), (.str (ByteArray.mk #[])), (.str (ByteArray.mk #[])), (.str (ByteArray.mk #[])), (.int .i64 (0)), (.int .i64 (0)), (.slice none 0 (some 0)), (.slice none 0 (some 0)), (.str (ByteArray.mk #[])), (.str (ByteArray.mk #[])), (.int .i64 (0)), (.slice none 0 (some 0)), (.slice none 0 (some 0)), (.slice none 0 (some 0)), (.slice none 0 (some 0)), (.slice none 0 (some 0)), (.slice none 0 (some 0))])] (kp 8 [0,1,4]))
  (.seq (.region [oa 5 (.mov (.t 0)), oa 6 (.mov (.t 1)), oa 7 (.build [(.str (ByteArray.mk #[])), (.str (ByteArray.mk #[])), (.str (ByteArray.mk #[])), (.str (ByteArray.mk #[])), (.int .i64 (0)), (.int .i64 (0)), (.slice none 0 (some 0)), (.slice none 0 (some 0)), (.str (ByteArray.mk #[])), (.str (ByteArray.mk #[])), (.int .i64 (0)), (.slice none 0 (some 0)), (.slice none 0 (some 0)), (.slice none 0 (some 0)), (.slice none 0 (some 0)), (.slice none 0 (some 0)), (.slice none 0 (some 0))] [(0, 1, (.c (.str (ByteArray.mk #[116, 101, 120, 116])))), (3, 1, (.t 5)), (5, 1, (.t 6))]), ob (.store 17 (.t 4) (.t 7))] (kp 8 [4]))
  (sr 8 [4])))⟩
theorem F10 : shutF Tryz.prog 10 = some c10 := by kernel_rfl

-- virgate/judge.Type

def c11 : IFn := ⟨16, [(2, (some (some 5))), (3, none)],
  (.seq (.region [oa 1 (.box (.t 0)), oa 2 (.alloc [(.str (ByteArray.mk #[])), (.str (ByteArray.mk #[])), (.int .i64 (0)), (.slice none 0 (some 0)), (.slice none 0 (some 0))]), oa 3 (.mov (ai 0))] (kp 16 [1,2]))
  (.seq (.region [oa 7 (.load (some 19) (.t 1)), oa 8 (.call 21 [(.t 7), (.c .nilFunc)]), oa 6 (.mov (.t 8)), oa 9 (.extract (.t 6) 0), oa 10 (.extract (.t 6) 1), oa 4 (.alloc [(.str (ByteArray.mk #[])), (.str (ByteArray.mk #[])), (.int .i64 (0)), (.slice none 0 (some 0)), (.slice none 0 (some 0)), (.slice none 0 (some 0))]), ob (.store 6 (.t 4) (.t 9)), oa 5 (.mov (.t 10))] (kp 16 [2,4,5]))
  (.seq (.seq (.region [oa 11 (.mov (.t 5)), oa 12 (.un .not (.t 11))] (kp 16 [2,4,12]))
  (.cond (.t 12)
  (.seq (.region [oa 13 (.build [(.str (ByteArray.mk #[])), (.str (ByteArray.mk #[])), (.int .i64 (0)), (.slice none 0 (some 0)), (.slice none 0 (some 0))] []), ob (.store 5 (.t 2) (.t 13)), oa 3 (.mov (ai 70))] (kp 16 [2,3]))
  (sr 16 [2,3]))
  (sk 16 [2,4])))
  (.seq (.region [oa 14 (.fieldAddr 0 (.t 4)), oa 15 (.load (some 5) (.t 14)), ob (.store 5 (.t 2) (.t 15)), oa 3 (.mov (ai 0))] (kp 16 [2,3]))
  (sr 16 [2,3])))))⟩
theorem F11 : shutF Tryz.prog 11 = some c11 := by kernel_rfl

-- virgate/judge.Accepts

def c12 : IFn := ⟨11, [(2, none)],
  (.seq (.region [oa 1 (.box (.t 0)), oa 2 (.mov (.c (.bool false)))] (kp 11 [1]))
  (.seq (.region [oa 6 (.load (some 19) (.t 1)), oa 7 (.call 21 [(.t 6), (.c .nilFunc)]), oa 5 (.mov (.t 7)), oa 8 (.extract (.t 5) 0), oa 9 (.extract (.t 5) 1), oa 3 (.alloc [(.str (ByteArray.mk #[])), (.str (ByteArray.mk #[])), (.int .i64 (0)), (.slice none 0 (some 0)), (.slice none 0 (some 0)), (.slice none 0 (some 0))]), ob (.store 6 (.t 3) (.t 8)), oa 4 (.mov (.t 9))] (kp 11 [4]))
  (.seq (.region [oa 10 (.mov (.t 4)), oa 2 (.mov (.t 10))] (kp 11 [2]))
  (sr 11 [2]))))⟩
theorem F12 : shutF Tryz.prog 12 = some c12 := by kernel_rfl

-- virgate/judge.judge

def c21 : IFn := ⟨49, [(4, (some (some 6))), (5, none)],
  (.seq (.region [oa 2 (.box (.t 0)), oa 4 (.alloc [(.str (ByteArray.mk #[])), (.str (ByteArray.mk #[])), (.int .i64 (0)), (.slice none 0 (some 0)), (.slice none 0 (some 0)), (.slice none 0 (some 0))]), oa 5 (.mov (.c (.bool false)))] (kp 49 [1,2,4]))
  (.seq (.region [oa 12 (.load (some 19) (.t 2)), oa 13 (.call 36 [(.t 12)]), oa 11 (.mov (.t 13)), oa 14 (.extract (.t 11) 0), oa 15 (.extract (.t 11) 1), oa 6 (.mov (.t 14)), oa 7 (.mov (.t 15))] (kp 49 [1,2,4,6,7]))
  (.seq (.seq (.region [oa 16 (.mov (.t 7)), oa 17 (.un .not (.t 16))] (kp 49 [1,2,4,6,17]))
  (.cond (.t 17)
  (.seq (.region [oa 18 (.build [(.str (ByteArray.mk #[])), (.str (ByteArray.mk #[])), (.int .i64 (0)), (.slice none 0 (some 0)), (.slice none 0 (some 0)), (.slice none 0 (some 0))] []), ob (.store 6 (.t 4) (.t 18)), oa 5 (.mov (.c (.bool false)))] (kp 49 [4,5]))
  (sr 49 [4,5]))
  (sk 49 [1,2,4,6])))
  (.seq (.region [oa 19 (.mov (.t 6)), oa 20 (.mov (.t 1)), oa 21 (.nilCheck (.t 19)), oa 22 (.fieldAddr 22 (.t 21)), ob (.store 1 (.t 22) (.t 20))] (kp 49 [2,4,6]))
  (.seq (.region [oa 24 (.mov (.t 6)), oa 25 (.fieldAddr 2 (.t 2)), oa 26 (.load (some 17) (.t 25)), oa 27 (.call 37 [(.t 24), (.t 26), (.c (.ptr none)), (.c (.slice none 0 (some 0)))]), oa 23 (.mov (.t 27)), oa 28 (.extract (.t 23) 0), oa 29 (.extract (.t 23) 1), oa 8 (.alloc [(.str (ByteArray.mk #[])), (.str (ByteArray.mk #[])), (.int .i64 (0)), (.slice none 0 (some 0)), (.slice none 0 (some 0)), (.slice none 0 (some 0))]), ob (.store 6 (.t 8) (.t 28)), oa 7 (.mov (.t 29))] (kp 49 [4,7,8]))
  (.seq (.seq (.region [oa 30 (.mov (.t 7)), oa 31 (.un .not (.t 30))] (kp 49 [4,8,31]))
  (.cond (.t 31)
  (.seq (.region [oa 32 (.build [(.str (ByteArray.mk #[])), (.str (ByteArray.mk #[])), (.int .i64 (0)), (.slice none 0 (some 0)), (.slice none 0 (some 0)), (.slice none 0 (some 0))] []), ob (.store 6 (.t 4) (.t 32)), oa 5 (.mov (.c (.bool false)))] (kp 49 [4,5]))
  (sr 49 [4,5]))
  (sk 49 [4,8])))
  (.seq (.region [oa 34 (.fieldAddr 0 (.t 8)), oa 35 (.load (some 5) (.t 34)), oa 36 (.call 38 [(.t 35)]), oa 33 (.mov (.t 36)), oa 37 (.extract (.t 33) 0), oa 38 (.extract (.t 33) 1), oa 9 (.mov (.t 37)), oa 10 (.mov (.t 38))] (kp 49 [4,8,9]))
  (.seq (.region [oa 39 (.load (some 6) (.t 8)), oa 40 (.mov (.t 9)), oa 41 (.buildSlice 1 [(.int .i64 (0))] [(0, 1, (ai 0))]), oa 42 (.call 39 [(.t 40), (.t 41)]), ob (.again 39 (.load (some 6) (.t 8))), oa 43 (.mov (.t 42)), oc 44 (.fieldAddr 5 (.t 8)) 43 tt, oc 45 (.load none (.t 44)) 43 tt, oc 46 (.buildSlice 1 [(.int .i64 (0))] [(0, 1, (ai 0))]) 43 tt, oc 47 (.call 39 [(.t 45), (.t 46)]) 43 tt, ob (.again 39 (.load (some 6) (.t 8))), oa 48 (.pick (.t 43) (.t 47) (.c (.bool false))), ob (.store 6 (.t 4) (.t 39)), oa 5 (.mov (.t 48))] (kp 49 [4,5]))
  (sr 49 [4,5])))))))))⟩
theorem F21 : shutF Tryz.prog 21 = some c21 := by kernel_rfl

-- virgate/place.SameType

def c23 : IFn := ⟨38, [(4, none)],
  (.seq (.region [oa 2 (.box (.t 0)), oa 3 (.box (.t 1)), oa 4 (.mov (.c (.bool false)))] (kp 38 [2,3]))
  (.seq (.region [oa 5 (.fieldAddr 0 (.t 2)), oa 6 (.load none (.t 5)), oa 7 (.fieldAddr 0 (.t 3)), oa 8 (.load none (.t 7)), oa 9 (.bin .eql (.t 6) (.t 8)), oa 10 (.mov (.t 9)), oc 11 (.fieldAddr 1 (.t 2)) 10 tt, oc 12 (.load none (.t 11)) 10 tt, oc 13 (.fieldAddr 1 (.t 3)) 10 tt, oc 14 (.load none (.t 13)) 10 tt, oc 15 (.bin .eql (.t 12) (.t 14)) 10 tt, oa 16 (.pick (.t 10) (.t 15) (.c (.bool false))), oa 17 (.mov (.t 16)), oc 18 (.fieldAddr 2 (.t 2)) 17 tt, oc 19 (.load none (.t 18)) 17 tt, oc 20 (.fieldAddr 2 (.t 3)) 17 tt, oc 21 (.load none (.t 20)) 17 tt, oc 22 (.bin .eql (.t 19) (.t 21)) 17 tt, oa 23 (.pick (.t 17) (.t 22) (.c (.bool false))), oa 24 (.mov (.t 23)), oc 25 (.fieldAddr 3 (.t 2)) 24 tt, oc 26 (.load none (.t 25)) 24 tt, oc 27 (.fieldAddr 3 (.t 3)) 24 tt, oc 28 (.load none (.t 27)) 24 tt, oc 29 (.call 24 [(.t 26), (.t 28)]) 24 tt, oa 30 (.pick (.t 24) (.t 29) (.c (.bool false))), oa 31 (.mov (.t 30)), oc 32 (.fieldAddr 4 (.t 2)) 31 tt, oc 33 (.load none (.t 32)) 31 tt, oc 34 (.fieldAddr 4 (.t 3)) 31 tt, oc 35 (.load none (.t 34)) 31 tt, oc 36 (.call 41 [(.t 33), (.t 35), (.c (.func 23 [] []))]) 31 tt, oa 37 (.pick (.t 31) (.t 36) (.c (.bool false))), oa 4 (.mov (.t 37))] (kp 38 [4]))
  (sr 38 [4])))⟩
theorem F23 : shutF Tryz.prog 23 = some c23 := by kernel_rfl

-- slices.Equal[[]int,int]
def l24_0 : IC := (.seq (.seq (.region [oa 14 (.bin .lss (.t 13) (.t 12))] (kp 26 [0,1,12,13,14]))
  (.seq (.cond (.t 14)
  (sk 26 [0,1,12,13])
  (sx 26 [] 0))
  (.seq (.block 1
  (.seq (.region [oa 15 (.mov (.t 13)), oa 5 (.mov (.t 15))] (kp 26 [0,1,5,12,13]))
  (.seq (.region [oa 16 (.mov (.t 0)), oa 17 (.mov (.t 5)), oa 18 (.indexAddr 1 (.t 16) (.t 17)), oa 19 (.load none (.t 18)), oa 20 (.mov (.t 1)), oa 21 (.mov (.t 5)), oa 22 (.indexAddr 1 (.t 20) (.t 21)), oa 23 (.load none (.t 22)), oa 24 (.bin .neq (.t 19) (.t 23))] (kp 26 [0,1,12,13,24]))
  (.cond (.t 24)
  (.seq (.region [oa 4 (.mov (.c (.bool false)))] (kp 26 [4]))
  (sr 26 [4]))
  (sk 26 [0,1,12,13])))))
  (.region [oa 25 (.bin .add (.t 13) (ai 1)), oa 13 (.mov (.t 25))] (kp 26 [0,1,12,13])))))
  (sk 26 [0,1,12,13]))
def c24 : IFn := ⟨26, [(4, none)],
  (.seq (.region [oa 4 (.mov (.c (.bool false)))] (kp 26 [0,1]))
  (.seq (.seq (.region [oa 6 (.mov (.t 0)), oa 7 (.lenSlice (.t 6)), oa 8 (.mov (.t 1)), oa 9 (.lenSlice (.t 8)), oa 10 (.bin .neq (.t 7) (.t 9))] (kp 26 [0,1,10]))
  (.cond (.t 10)
  (.seq (.region [oa 4 (.mov (.c (.bool false)))] (kp 26 [4]))
  (sr 26 [4]))
  (sk 26 [0,1])))
  (.seq (.seq (.region [oa 11 (.mov (.t 0)), oa 12 (.lenSlice (.t 11)), oa 13 (.mov (ai 0))] (kp 26 [0,1,12,13]))
  (.block 0
  (.seq (sk 26 [0,1,12,13])
  (.loop l24_0))))
  (.seq (.region [oa 4 (.mov (.c (.bool true)))] (kp 26 [4]))
  (sr 26 [4])))))⟩
theorem F24 : shutF Tryz.prog 24 = some c24 := by kernel_rfl

-- virgate/judge.newCourt
def l36_0 : IC := (.seq (.seq (.region [oa 46 (.bin .lss (.t 45) (.t 44))] (kp 98 [1,4,5,6,35,36,37,43,44,45,46]))
  (.seq (.cond (.t 46)
  (sk 98 [1,4,5,6,35,36,37,43,44,45])
  (sx 98 [1,4,5,35,36,37] 2))
  (.seq (.block 3
  (.seq (.region [oa 47 (.indexAddr 5 (.t 43) (.t 45)), oa 48 (.load (some 5) (.t 47)), oa 9 (.alloc [(.str (ByteArray.mk #[])), (.bool false), (.str (ByteArray.mk #[])), (.str (ByteArray.mk #[])), (.slice none 0 (some 0))]), ob (.store 5 (.t 9) (.t 48))] (kp 98 [1,4,5,6,9,35,36,37,43,44,45]))
  (.seq (.region [oa 49 (.mov (.t 4)), oa 50 (.nilCheck (.t 49)), oa 51 (.fieldAddr 19 (.t 50)), oa 52 (.load none (.t 51)), oa 53 (.fieldAddr 0 (.t 9)), oa 54 (.load none (.t 53)), oa 55 (.mov (.t 6)), oa 56 (.load (some 5) (.t 9)), oa 57 (.build [(.int .i64 (0)), (.str (ByteArray.mk #[])), (.bool false), (.str (ByteArray.mk #[])), (.str (ByteArray.mk #[])), (.slice none 0 (some 0))] [(0, 1, (.t 55)), (1, 5, (.t 56))]), ob (.mapSet (.one .s) (.t 52) (.t 54) (.t 57))] (kp 98 [1,4,5,6,9,35,36,37,43,44,45]))
  (.seq (.region [oa 58 (.mov (.t 5)), oa 59 (.load (some 5) (.t 9)), oa 60 (.callv (.t 58) [(.t 59)]), oa 61 (.un .not (.t 60))] (kp 98 [1,4,5,6,35,36,37,43,44,45,61]))
  (.cond (.t 61)
  (.seq (.region [oa 2 (.mov (.c (.ptr none))), oa 3 (.mov (.c (.bool false)))] (kp 98 [2,3]))
  (sr 98 [2,3]))
  (sk 98 [1,4,5,6,35,36,37,43,44,45]))))))
  (.region [oa 62 (.bin .add (.t 45) (ai 1)), oa 45 (.mov (.t 62))] (kp 98 [1,4,5,6,35,36,37,43,44,45])))))
  (sk 98 [1,4,5,6,35,36,37,43,44,45]))
def l36_1 : IC := (.seq (.seq (.region [oa 38 (.bin .lss (.t 37) (.t 36))] (kp 98 [1,4,5,35,36,37,38]))
  (.seq (.cond (.t 38)
  (sk 98 [1,4,5,35,36,37])
  (sx 98 [1,4,5] 0))
  (.seq (.block 1
  (.seq (.region [oa 39 (.mov (.t 37)), oa 40 (.indexAddr 2 (.t 35) (.t 37)), oa 41 (.load (some 2) (.t 40)), oa 7 (.alloc [(.str (ByteArray.mk #[])), (.slice none 0 (some 0))]), oa 6 (.mov (.t 39)), ob (.store 2 (.t 7) (.t 41))] (kp 98 [1,4,5,6,7,35,36,37]))
  (.seq (.region [oa 42 (.fieldAddr 1 (.t 7)), oa 43 (.load none (.t 42)), oa 44 (.lenSlice (.t 43)), oa 45 (.mov (ai 0))] (kp 98 [1,4,5,6,35,36,37,43,44,45]))
  (.block 2
  (.seq (sk 98 [1,4,5,6,35,36,37,43,44,45])
  (.loop l36_0))))))
  (.region [oa 63 (.bin .add (.t 37) (ai 1)), oa 37 (.mov (.t 63))] (kp 98 [1,4,5,35,36,37])))))
  (sk 98 [1,4,5,35,36,37]))
def l36_2 : IC := (.seq (.seq (.region [oa 67 (.bin .lss (.t 66) (.t 65))] (kp 98 [1,4,5,64,65,66,67]))
  (.seq (.cond (.t 67)
  (sk 98 [1,4,5,64,65,66])
  (sx 98 [1,4,5] 4))
  (.seq (.block 5
  (.seq (.region [oa 68 (.indexAddr 1 (.t 64) (.t 66)), oa 69 (.load none (.t 68)), oa 11 (.mov (.t 69))] (kp 98 [1,4,5,11,64,65,66]))
  (.region [oa 70 (.mov (.t 4)), oa 71 (.nilCheck (.t 70)), oa 72 (.fieldAddr 20 (.t 71)), oa 73 (.load none (.t 72)), oa 74 (.mov (.t 11)), oa 75 (.mov (.t 11)), oa 76 (.build [(.str (ByteArray.mk #[])), (.bool false), (.str (ByteArray.mk #[])), (.str (ByteArray.mk #[])), (.slice none 0 (some 0))] [(0, 1, (.t 75))]), ob (.mapSet (.one .s) (.t 73) (.t 74) (.t 76))] (kp 98 [1,4,5,64,65,66]))))
  (.region [oa 77 (.bin .add (.t 66) (ai 1)), oa 66 (.mov (.t 77))] (kp 98 [1,4,5,64,65,66])))))
  (sk 98 [1,4,5,64,65,66]))
def l36_3 : IC := (.seq (.seq (.region [oa 82 (.bin .lss (.t 81) (.t 80))] (kp 98 [4,5,79,80,81,82]))
  (.seq (.cond (.t 82)
  (sk 98 [4,5,79,80,81])
  (sx 98 [4] 6))
  (.seq (.block 7
  (.seq (.region [oa 83 (.indexAddr 5 (.t 79) (.t 81)), oa 84 (.load (some 5) (.t 83)), oa 13 (.alloc [(.str (ByteArray.mk #[])), (.bool false), (.str (ByteArray.mk #[])), (.str (ByteArray.mk #[])), (.slice none 0 (some 0))]), ob (.store 5 (.t 13) (.t 84))] (kp 98 [4,5,13,79,80,81]))
  (.seq (.region [oa 85 (.mov (.t 4)), oa 86 (.nilCheck (.t 85)), oa 87 (.fieldAddr 20 (.t 86)), oa 88 (.load none (.t 87)), oa 89 (.fieldAddr 0 (.t 13)), oa 90 (.load none (.t 89)), oa 91 (.load (some 5) (.t 13)), ob (.mapSet (.one .s) (.t 88) (.t 90) (.t 91))] (kp 98 [4,5,13,79,80,81]))
  (.seq (.region [oa 92 (.mov (.t 5)), oa 93 (.load (some 5) (.t 13)), oa 94 (.callv (.t 92) [(.t 93)]), oa 95 (.un .not (.t 94))] (kp 98 [4,5,79,80,81,95]))
  (.cond (.t 95)
  (.seq (.region [oa 2 (.mov (.c (.ptr none))), oa 3 (.mov (.c (.bool false)))] (kp 98 [2,3]))
  (sr 98 [2,3]))
  (sk 98 [4,5,79,80,81]))))))
  (.region [oa 96 (.bin .add (.t 81) (ai 1)), oa 81 (.mov (.t 96))] (kp 98 [4,5,79,80,81])))))
  (sk 98 [4,5,79,80,81]))
def c36 : IFn := ⟨98, [(2, none), (3, none)],
  (.seq (.region [oa 1 (.box (.t 0)), oa 2 (.mov (.c (.ptr none))), oa 3 (.mov (.c (.bool false)))] (kp 98 [1]))
  (.seq (.seq (.region [oa 14 (.fieldAddr 0 (.t 1)), oa 15 (.load none (.t 14)), oa 16 (.fieldAddr 1 (.t 1)), oa 17 (.load none (.t 16)), oa 18 (.build [(.str (ByteArray.mk #[])), (.str (ByteArray.mk #[])), (.str (ByteArray.mk #[])), (.str (ByteArray.mk #[])), (.int .i64 (0)), (.slice none 0 (some 0)), (.slice none 0 (some 0)), (.str (ByteArray.mk #[])), (.str (ByteArray.mk #[])), (.slice none 0 (some 0)), (.slice none 0 (some 0)), (.slice none 0 (some 0))] [(0, 1, (.c (.str (ByteArray.mk #[117, 110, 105, 116]))))]), oa 19 (.build [(.slice none 0 (some 0)), (.slice none 0 (some 0)), (.slice none 0 (some 0)), (.str (ByteArray.mk #[])), (.str (ByteArray.mk #[])), (.str (ByteArray.mk #[])), (.str (ByteArray.mk #[])), (.int .i64 (0)), (.slice none 0 (some 0)), (.slice none 0 (some 0)), (.str (ByteArray.mk #[])), (.str (ByteArray.mk #[])), (.slice none 0 (some 0)), (.slice none 0 (some 0)), (.slice none 0 (some 0))] [(0, 1, (.t 15)), (1, 1, (.t 17)), (3, 12, (.t 18))]), oa 20 (.call 45 [(.t 19)]), oa 21 (.un .not (.t 20)), oa 22 (.mov (.t 21)), oc 23 (.fieldAddr 2 (.t 1)) 22 ff, oc 24 (.load (some 17) (.t 23)) 22 ff, oc 25 (.call 46 [(.t 24)]) 22 ff, oc 26 (.un .not (.t 25)) 22 ff, oa 27 (.pick (.t 22) (.c (.bool true)) (.t 26))] (kp 98 [1,27]))
  (.cond (.t 27)
  (.seq (.region [oa 2 (.mov (.c (.ptr none))), oa 3 (.mov (.c (.bool false)))] (kp 98 [2,3]))
  (sr 98 [2,3]))
  (sk 98 [1])))
  (.seq (.region [oa 28 (.load (some 19) (.t 1)), oa 29 .mkMap, oa 30 .mkMap, oa 31 (.buildSlice 1 [(.int .i64 (0))] [(0, 1, (ai 0))]), oa 32 (.build [(.slice none 0 (some 0)), (.slice none 0 (some 0)), (.str (ByteArray.mk #[])), (.str (ByteArray.mk #[])), (.str (ByteArray.mk #[])), (.str (ByteArray.mk #[])), (.int .i64 (0)), (.int .i64 (0)), (.slice none 0 (some 0)), (.slice none 0 (some 0)), (.str (ByteArray.mk #[])), (.str (ByteArray.mk #[])), (.int .i64 (0)), (.slice none 0 (some 0)), (.slice none 0 (some 0)), (.slice none 0 (some 0)), (.slice none 0 (some 0)), (.slice none 0 (some 0)), (.slice none 0 (some 0)), (.map none), (.map none), (.slice none 0 (some 0)), .nilFunc] [(0, 19, (.t 28)), (19, 1, (.t 29)), (20, 1, (.t 30)), (21, 1, (.t 31))]), oa 33 (.box (.t 32)), oa 4 (.mov (.t 33))] (kp 98 [1,4]))
  (.seq (.region [oa 5 (.mov (.c (.func 47 [] [])))] (kp 98 [1,4,5]))
  (.seq (.seq (.region [oa 34 (.fieldAddr 0 (.t 1)), oa 35 (.load none (.t 34)), oa 36 (.lenSlice (.t 35)), oa 37 (.mov (ai 0))] (kp 98 [1,4,5,35,36,37]))
  (.block 0
  (.seq (sk 98 [1,4,5,35,36,37])
  (.loop l36_1))))
  (.seq (.seq (.region [oa 64 (.buildSlice 4 [(.str (ByteArray.mk #[])), (.str (ByteArray.mk #[])), (.str (ByteArray.mk #[])), (.str (ByteArray.mk #[]))] [(0, 1, (.c (.str (ByteArray.mk #[68, 105, 118])))), (1, 1, (.c (.str (ByteArray.mk #[83, 105, 122, 101])))), (2, 1, (.c (.str (ByteArray.mk #[83, 117, 98, 115, 99, 114, 105, 112, 116])))), (3, 1, (.c (.str (ByteArray.mk #[77, 97, 116, 99, 104]))))]), oa 65 (.lenSlice (.t 64)), oa 66 (.mov (ai 0))] (kp 98 [1,4,5,64,65,66]))
  (.block 4
  (.seq (sk 98 [1,4,5,64,65,66])
  (.loop l36_2))))
  (.seq (.seq (.region [oa 78 (.fieldAddr 1 (.t 1)), oa 79 (.load none (.t 78)), oa 80 (.lenSlice (.t 79)), oa 81 (.mov (ai 0))] (kp 98 [4,5,79,80,81]))
  (.block 6
  (.seq (sk 98 [4,5,79,80,81])
  (.loop l36_3))))
  (.seq (.region [oa 97 (.mov (.t 4)), oa 2 (.mov (.t 97)), oa 3 (.mov (.c (.bool true)))] (kp 98 [2,3]))
  (sr 98 [2,3])))))))))⟩
theorem F36 : shutF Tryz.prog 36 = some c36 := by kernel_rfl

-- (*virgate/judge.court).of

def c37 : IFn := ⟨48, [(8, (some (some 6))), (9, none)],
  (.seq (.region [oa 5 (.box (.t 1)), oa 8 (.alloc [(.str (ByteArray.mk #[])), (.str (ByteArray.mk #[])), (.int .i64 (0)), (.slice none 0 (some 0)), (.slice none 0 (some 0)), (.slice none 0 (some 0))]), oa 9 (.mov (.c (.bool false)))] (kp 48 [0,2,3,5,8]))
  (.seq (.region [oa 13 (.mov (.t 0)), oa 14 (.load (some 17) (.t 5)), oa 15 (.mov (.t 2)), oa 16 (.mov (.t 3)), oa 17 (.call 49 [(.t 13), (.t 14), (.t 15), (.t 16)]), oa 12 (.mov (.t 17)), oa 18 (.extract (.t 12) 0), oa 19 (.extract (.t 12) 1), oa 10 (.alloc [(.str (ByteArray.mk #[])), (.str (ByteArray.mk #[])), (.int .i64 (0)), (.slice none 0 (some 0)), (.slice none 0 (some 0)), (.slice none 0 (some 0))]), ob (.store 6 (.t 10) (.t 18)), oa 11 (.mov (.t 19))] (kp 48 [0,2,3,8,10,11]))
  (.seq (.region [oa 20 (.mov (.t 11)), oa 21 (.mov (.t 20)), oc 22 (.fieldAddr 0 (.t 10)) 21 tt, oc 23 (.load (some 5) (.t 22)) 21 tt, oc 24 (.call 50 [(.t 23)]) 21 tt, oa 25 (.pick (.t 21) (.t 24) (.c (.bool false))), oa 11 (.mov (.t 25))] (kp 48 [0,2,3,8,10,11]))
  (.seq (.seq (.region [oa 26 (.mov (.t 11)), oa 27 (.mov (.t 26)), oc 28 (.mov (.t 0)) 27 tt, oc 29 (.nilCheck (.t 28)) 27 tt, oc 30 (.fieldAddr 22 (.t 29)) 27 tt, oc 31 (.load none (.t 30)) 27 tt, oc 32 (.eql true .func (.t 31) (.c .nilFunc)) 27 tt, oa 33 (.pick (.t 27) (.t 32) (.c (.bool false)))] (kp 48 [0,2,3,8,10,11,33]))
  (.cond (.t 33)
  (.region [oa 34 (.mov (.t 0)), oa 35 (.nilCheck (.t 34)), oa 36 (.fieldAddr 22 (.t 35)), oa 37 (.load none (.t 36)), oa 38 (.mov (.t 3)), oa 39 (.mov (.t 0)), oa 40 (.nilCheck (.t 39)), oa 41 (.fieldAddr 21 (.t 40)), oa 42 (.load none (.t 41)), oa 43 (.mov (.t 2)), oa 44 (.load (some 6) (.t 10)), oa 45 (.callv (.t 37) [(.t 38), (.t 42), (.t 43), (.t 44)])] (kp 48 [8,10,11]))
  (sk 48 [8,10,11])))
  (.seq (.region [oa 46 (.load (some 6) (.t 10)), oa 47 (.mov (.t 11)), ob (.store 6 (.t 8) (.t 46)), oa 9 (.mov (.t 47))] (kp 48 [8,9]))
  (sr 48 [8,9]))))))⟩
theorem F37 : shutF Tryz.prog 37 = some c37 := by kernel_rfl

-- virgate/place.Atoms

def c38 : IFn := ⟨10, [(2, none), (3, none)],
  (.seq (.region [oa 1 (.box (.t 0)), oa 2 (.mov (.c (.slice none 0 (some 0)))), oa 3 (.mov (ai 0))] (kp 10 [1]))
  (.seq (.seq (.region [oa 4 (.load (some 5) (.t 1)), oa 5 (.call 50 [(.t 4)]), oa 6 (.un .not (.t 5))] (kp 10 [1,6]))
  (.cond (.t 6)
  (.seq (.region [oa 2 (.mov (.c (.slice none 0 (some 0)))), oa 3 (.mov (ai 70))] (kp 10 [2,3]))
  (sr 10 [2,3]))
  (sk 10 [1])))
  (.seq (.region [oa 7 (.load (some 5) (.t 1)), oa 8 (.call 52 [(.t 7), (.c (.slice none 0 (some 0)))]), oa 9 (.call 51 [(.t 8), (.c (.slice none 0 (some 0)))]), oa 2 (.mov (.t 9)), oa 3 (.mov (ai 0))] (kp 10 [2,3]))
  (sr 10 [2,3]))))⟩
theorem F38 : shutF Tryz.prog 38 = some c38 := by kernel_rfl

-- virgate/judge.within

def c39 : IFn := ⟨9, [(4, none)],
  (.seq (.region [oa 3 (.box (.t 1)), oa 4 (.mov (.c (.bool false)))] (kp 9 [0,3]))
  (.seq (.region [oa 5 (.mov (.t 0)), oa 6 (.mkFunc 54 [] [(.t 3)]), oa 7 (.call 53 [(.t 5), (.t 6)]), oa 8 (.un .not (.t 7)), oa 4 (.mov (.t 8))] (kp 9 [4]))
  (sr 9 [4])))⟩
theorem F39 : shutF Tryz.prog 39 = some c39 := by kernel_rfl

-- slices.EqualFunc[[]virgate/api.RTy,[]virgate/api.RTy,virgate/api.RTy,virgate/api.RTy]
def l41_0 : IC := (.seq (.seq (.region [oa 18 (.bin .lss (.t 17) (.t 16))] (kp 32 [1,2,15,16,17,18]))
  (.seq (.cond (.t 18)
  (sk 32 [1,2,15,16,17])
  (sx 32 [] 0))
  (.seq (.block 1
  (.seq (.region [oa 19 (.mov (.t 17)), oa 20 (.indexAddr 5 (.t 15) (.t 17)), oa 21 (.load (some 5) (.t 20)), oa 8 (.alloc [(.str (ByteArray.mk #[])), (.str (ByteArray.mk #[])), (.int .i64 (0)), (.slice none 0 (some 0)), (.slice none 0 (some 0))]), oa 7 (.mov (.t 19)), ob (.store 5 (.t 8) (.t 21))] (kp 32 [1,2,7,8,15,16,17]))
  (.seq (.region [oa 22 (.mov (.t 1)), oa 23 (.mov (.t 7)), oa 24 (.indexAddr 5 (.t 22) (.t 23)), oa 25 (.load (some 5) (.t 24)), oa 9 (.alloc [(.str (ByteArray.mk #[])), (.str (ByteArray.mk #[])), (.int .i64 (0)), (.slice none 0 (some 0)), (.slice none 0 (some 0))]), ob (.store 5 (.t 9) (.t 25))] (kp 32 [1,2,8,9,15,16,17]))
  (.seq (.region [oa 26 (.mov (.t 2)), oa 27 (.load (some 5) (.t 8)), oa 28 (.load (some 5) (.t 9)), oa 29 (.callv (.t 26) [(.t 27), (.t 28)]), oa 30 (.un .not (.t 29))] (kp 32 [1,2,15,16,17,30]))
  (.cond (.t 30)
  (.seq (.region [oa 6 (.mov (.c (.bool false)))] (kp 32 [6]))
  (sr 32 [6]))
  (sk 32 [1,2,15,16,17]))))))
  (.region [oa 31 (.bin .add (.t 17) (ai 1)), oa 17 (.mov (.t 31))] (kp 32 [1,2,15,16,17])))))
  (sk 32 [1,2,15,16,17]))
def c41 : IFn := ⟨32, [(6, none)],
  (.seq (.region [oa 6 (.mov (.c (.bool false)))] (kp 32 [0,1,2]))
  (.seq (.seq (.region [oa 10 (.mov (.t 0)), oa 11 (.lenSlice (.t 10)), oa 12 (.mov (.t 1)), oa 13 (.lenSlice (.t 12)), oa 14 (.bin .neq (.t 11) (.t 13))] (kp 32 [0,1,2,14]))
  (.cond (.t 14)
  (.seq (.region [oa 6 (.mov (.c (.bool false)))] (kp 32 [6]))
  (sr 32 [6]))
  (sk 32 [0,1,2])))
  (.seq (.seq (.region [oa 15 (.mov (.t 0)), oa 16 (.lenSlice (.t 15)), oa 17 (.mov (ai 0))] (kp 32 [1,2,15,16,17]))
  (.block 0
  (.seq (sk 32 [1,2,15,16,17])
  (.loop l41_0))))
  (.seq (.region [oa 6 (.mov (.c (.bool true)))] (kp 32 [6]))
  (sr 32 [6])))))⟩
theorem F41 : shutF Tryz.prog 41 = some c41 := by kernel_rfl

-- virgate/module.ValidProg
def l45_0 : IC := (.seq (.seq (.region [oa 56 (.bin .lss (.t 55) (.t 54))] (kp 82 [1,3,4,6,53,54,55,56]))
  (.seq (.cond (.t 56)
  (sk 82 [1,3,4,6,53,54,55])
  (sx 82 [1,4,6] 0))
  (.seq (.block 1
  (.seq (.region [oa 57 (.indexAddr 2 (.t 53) (.t 55)), oa 58 (.load (some 2) (.t 57)), oa 8 (.alloc [(.str (ByteArray.mk #[])), (.slice none 0 (some 0))]), ob (.store 2 (.t 8) (.t 58))] (kp 82 [1,3,4,6,8,53,54,55]))
  (.seq (.region [oa 59 (.load (some 1) (.t 3)), oa 60 (.load (some 2) (.t 8)), oa 61 (.call 66 [(.t 59), (.t 60)]), oa 62 (.un .not (.t 61)), oa 63 (.mov (.t 62)), oc 64 (.fieldAddr 1 (.t 8)) 63 ff, oc 65 (.load none (.t 64)) 63 ff, oc 66 (.mkFunc 68 [] [(.t 6)]) 63 ff, oc 67 (.call 67 [(.t 65), (.t 66)]) 63 ff, oa 68 (.pick (.t 63) (.c (.bool true)) (.t 67))] (kp 82 [1,3,4,6,53,54,55,68]))
  (.cond (.t 68)
  (.seq (.region [oa 2 (.mov (.c (.bool false)))] (kp 82 [2]))
  (sr 82 [2]))
  (sk 82 [1,3,4,6,53,54,55])))))
  (.region [oa 69 (.bin .add (.t 55) (ai 1)), oa 55 (.mov (.t 69))] (kp 82 [1,3,4,6,53,54,55])))))
  (sk 82 [1,3,4,6,53,54,55]))
def c45 : IFn := ⟨82, [(2, none)],
  (.seq (.region [oa 1 (.box (.t 0)), oa 2 (.mov (.c (.bool false)))] (kp 82 [1]))
  (.seq (.region [oa 9 (.build [(.bool false)] [(0, 1, (.c (.bool true)))]), oa 3 (.alloc [(.bool false)]), ob (.store 1 (.t 3) (.t 9))] (kp 82 [1,3]))
  (.seq (.region [oa 11 (.load (some 15) (.t 1)), oa 12 (.call 56 [(.t 11)]), oa 10 (.mov (.t 12)), oa 13 (.extract (.t 10) 0), oa 14 (.extract (.t 10) 1), oa 4 (.alloc [(.map none), (.map none), (.map none)]), ob (.store 3 (.t 4) (.t 13)), oa 5 (.mov (.t 14))] (kp 82 [1,3,4,5]))
  (.seq (.seq (.region [oa 15 (.mov (.t 5)), oa 16 (.un .not (.t 15)), oa 17 (.mov (.t 16)), oc 18 (.load (some 1) (.t 3)) 17 ff, oc 19 (.fieldAddr 3 (.t 1)) 17 ff, oc 20 (.load (some 12) (.t 19)) 17 ff, oc 21 (.call 57 [(.t 18), (.t 20)]) 17 ff, oc 22 (.un .not (.t 21)) 17 ff, oa 23 (.pick (.t 17) (.c (.bool true)) (.t 22)), oa 24 (.mov (.t 23)), oc 25 (.fieldAddr 3 (.t 1)) 24 ff, oc 26 (.load (some 12) (.t 25)) 24 ff, oc 27 (.call 58 [(.t 26)]) 24 ff, oc 28 (.un .not (.t 27)) 24 ff, oa 29 (.pick (.t 24) (.c (.bool true)) (.t 28)), oa 30 (.mov (.t 29)), oc 31 (.fieldAddr 3 (.t 1)) 30 ff, oc 32 (.load (some 12) (.t 31)) 30 ff, oc 33 (.call 59 [(.t 32)]) 30 ff, oc 34 (.call 60 [(.t 33)]) 30 ff, oc 35 (.un .not (.t 34)) 30 ff, oa 36 (.pick (.t 30) (.c (.bool true)) (.t 35)), oa 37 (.mov (.t 36)), oc 38 (.fieldAddr 3 (.t 1)) 37 ff, oc 39 (.load (some 12) (.t 38)) 37 ff, oc 40 (.call 61 [(.t 39)]) 37 ff, oc 41 (.lenSlice (.t 40)) 37 ff, oc 42 (.bin .gtr (.t 41) (ai 0)) 37 ff, oa 43 (.pick (.t 37) (.c (.bool true)) (.t 42)), oa 44 (.mov (.t 43)), oc 45 (.load (some 3) (.t 4)) 44 ff, oc 46 (.fieldAddr 3 (.t 1)) 44 ff, oc 47 (.load (some 12) (.t 46)) 44 ff, oc 48 (.call 62 [(.t 45), (.t 47)]) 44 ff, oc 49 (.un .not (.t 48)) 44 ff, oa 50 (.pick (.t 44) (.c (.bool true)) (.t 49))] (kp 82 [1,3,4,50]))
  (.cond (.t 50)
  (.seq (.region [oa 2 (.mov (.c (.bool false)))] (kp 82 [2]))
  (sr 82 [2]))
  (sk 82 [1,3,4])))
  (.seq (.region [oa 51 (.mkFunc 63 [] [(.t 3), (.t 4)]), oa 6 (.alloc [.nilFunc]), ob (.store 1 (.t 6) (.t 51))] (kp 82 [1,3,4,6]))
  (.seq (.seq (.region [oa 52 (.fieldAddr 0 (.t 1)), oa 53 (.load none (.t 52)), oa 54 (.lenSlice (.t 53)), oa 55 (.mov (ai 0))] (kp 82 [1,3,4,6,53,54,55]))
  (.block 0
  (.seq (sk 82 [1,3,4,6,53,54,55])
  (.loop l45_0))))
  (.seq (.region [oa 70 (.fieldAddr 1 (.t 1)), oa 71 (.load none (.t 70)), oa 72 (.mkFunc 69 [] [(.t 6)]), oa 73 (.call 67 [(.t 71), (.t 72)]), oa 74 (.un .not (.t 73)), oa 75 (.mov (.t 74)), oc 76 (.fieldAddr 2 (.t 1)) 75 tt, oc 77 (.load none (.t 76)) 75 tt, oc 78 (.mkFunc 71 [] [(.t 4)]) 75 tt, oc 79 (.call 70 [(.t 77), (.t 78)]) 75 tt, oc 80 (.un .not (.t 79)) 75 tt, oa 81 (.pick (.t 75) (.t 80) (.c (.bool false))), oa 2 (.mov (.t 81))] (kp 82 [2]))
  (sr 82 [2]))))))))⟩
theorem F45 : shutF Tryz.prog 45 = some c45 := by kernel_rfl

-- virgate/place.Valid

def c46 : IFn := ⟨7, [(2, none)],
  (.seq (.region [oa 1 (.box (.t 0)), oa 2 (.mov (.c (.bool false)))] (kp 7 [1]))
  (.seq (.region [oa 3 (.load (some 17) (.t 1)), oa 4 (.build [(.int .i64 (0)), (.int .i64 (0))] []), oa 5 (.box (.t 4)), oa 6 (.call 73 [(.t 3), (.t 5)]), oa 2 (.mov (.t 6))] (kp 7 [2]))
  (sr 7 [2])))⟩
theorem F46 : shutF Tryz.prog 46 = some c46 := by kernel_rfl


def tab0 : List (Nat × IFn) := [(5, c5), (10, c10), (11, c11), (12, c12), (21, c21), (23, c23), (24, c24), (36, c36), (37, c37), (38, c38), (39, c39), (41, c41), (45, c45), (46, c46)]
theorem tab0_ok : ∀ p ∈ tab0, PF p.1 = some p.2 := by
  simp only [tab0, List.mem_cons, List.not_mem_nil, or_false, forall_eq_or_imp, forall_eq]
  exact ⟨F5, F10, F11, F12, F21, F23, F24, F36, F37, F38, F39, F41, F45, F46⟩
end Go.Proofs.YtfcaamoapdibiaaGreatDoor.S
