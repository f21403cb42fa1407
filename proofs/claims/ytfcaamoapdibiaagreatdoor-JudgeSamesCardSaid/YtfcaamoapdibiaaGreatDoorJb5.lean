/- Layer 11: the code of the functions that its closed call runs. -/
import Derived.Test.YtfcaamoapdibiaaGreatDoorJa0
set_option linter.unusedSimpArgs false
set_option linter.unusedVariables false
namespace Go.Proofs.YtfcaamoapdibiaaGreatDoor.S
open Go Go.IM Go.Proofs.YtfcaamoapdibiaaGreatDoor

-- virgate/place.ascending
def l204_0 : IC := (.seq (.seq (.region [oa 10 (.bin .lss (.t 9) (.t 8))] (kp 32 [0,1,7,8,9,10]))
  (.seq (.cond (.t 10)
  (sk 32 [0,1,7,8,9])
  (sx 32 [] 0))
  (.seq (.block 1
  (.seq (.region [oa 11 (.mov (.t 9)), oa 12 (.indexAddr 1 (.t 7) (.t 9)), oa 13 (.load none (.t 12)), oa 5 (.mov (.t 11)), oa 6 (.mov (.t 13))] (kp 32 [0,1,5,6,7,8,9]))
  (.seq (.region [oa 14 (.mov (.t 1)), oa 15 (.mov (.t 6)), oa 16 (.callv (.t 14) [(.t 15)]), oa 17 (.un .not (.t 16)), oa 18 (.mov (.t 17)), oc 19 (.mov (.t 5)) 18 ff, oc 20 (.bin .gtr (.t 19) (ai 0)) 18 ff, oc 21 (.mov (.t 20)) 18 ff, oc 22 (.mov (.t 0)) 21 tt, oc 23 (.mov (.t 5)) 21 tt, oc 24 (.bin .sub (.t 23) (ai 1)) 21 tt, oc 25 (.indexAddr 1 (.t 22) (.t 24)) 21 tt, oc 26 (.load none (.t 25)) 21 tt, oc 27 (.mov (.t 6)) 21 tt, oc 28 (.bin .geq (.t 26) (.t 27)) 21 tt, oc 29 (.pick (.t 21) (.t 28) (.c (.bool false))) 18 ff, oa 30 (.pick (.t 18) (.c (.bool true)) (.t 29))] (kp 32 [0,1,7,8,9,30]))
  (.cond (.t 30)
  (.seq (.region [oa 4 (.mov (.c (.bool false)))] (kp 32 [4]))
  (sr 32 [4]))
  (sk 32 [0,1,7,8,9])))))
  (.region [oa 31 (.bin .add (.t 9) (ai 1)), oa 9 (.mov (.t 31))] (kp 32 [0,1,7,8,9])))))
  (sk 32 [0,1,7,8,9]))
def c204 : IFn := ⟨32, [(4, none)],
  (.seq (.region [oa 4 (.mov (.c (.bool false)))] (kp 32 [0,1]))
  (.seq (.seq (.region [oa 7 (.mov (.t 0)), oa 8 (.lenSlice (.t 7)), oa 9 (.mov (ai 0))] (kp 32 [0,1,7,8,9]))
  (.block 0
  (.seq (sk 32 [0,1,7,8,9])
  (.loop l204_0))))
  (.seq (.region [oa 4 (.mov (.c (.bool true)))] (kp 32 [4]))
  (sr 32 [4]))))⟩
theorem F204 : shutF Tryz.prog 204 = some c204 := by kernel_rfl

-- virgate/place.IsEffect$1

def c205 : IFn := ⟨5, [(2, none)],
  (.seq (.region [oa 2 (.mov (.c (.bool false)))] (kp 5 [0]))
  (.seq (.region [oa 3 (.mov (.t 0)), oa 4 (.call 139 [(ai (-9999)), (.t 3), (ai 9999)]), oa 2 (.mov (.t 4))] (kp 5 [2]))
  (sr 5 [2])))⟩
theorem F205 : shutF Tryz.prog 205 = some c205 := by kernel_rfl

-- (*virgate/judge.court).op

def c206 : IFn := ⟨177, [(6, (some (some 5))), (7, none), (8, none)],
  (.seq (.region [oa 4 (.box (.t 1)), oa 5 (.box (.t 2)), oa 6 (.alloc [(.str (ByteArray.mk #[])), (.str (ByteArray.mk #[])), (.int .i64 (0)), (.slice none 0 (some 0)), (.slice none 0 (some 0))]), oa 7 (.mov (.c (.slice none 0 (some 0)))), oa 8 (.mov (.c (.bool false)))] (kp 177 [0,4,5,6]))
  (.seq (.region [oa 12 (.mkFunc 256 [] [(.t 5)]), oa 9 (.mov (.t 12))] (kp 177 [0,4,5,6,9]))
  (.seq (.region [oa 13 (.mkFunc 257 [] [(.t 5)]), oa 10 (.mov (.t 13))] (kp 177 [0,4,5,6,9,10]))
  (.seq (.region [oa 14 (.fieldAddr 5 (.t 4)), oa 15 (.load none (.t 14)), oa 16 (.build [(.str (ByteArray.mk #[])), (.str (ByteArray.mk #[])), (.int .i64 (0)), (.slice none 0 (some 0)), (.slice none 0 (some 0))] [(0, 1, (.c (.str (ByteArray.mk #[116, 101, 120, 116])))), (2, 1, (.t 15))]), oa 11 (.alloc [(.str (ByteArray.mk #[])), (.str (ByteArray.mk #[])), (.int .i64 (0)), (.slice none 0 (some 0)), (.slice none 0 (some 0))]), ob (.store 5 (.t 11) (.t 16))] (kp 177 [0,4,5,6,9,10,11]))
  (.seq (.seq (.region [oa 17 (.fieldAddr 1 (.t 4)), oa 18 (.load none (.t 17))] (kp 177 [0,4,5,6,9,10,11,18]))
  (.block 0
  (.seq (.seq (.region [oa 20 (.bin .eql (.t 18) (.c (.str (ByteArray.mk #[43])))), oa 19 (.mov (.t 20))] (kp 177 [0,4,5,6,9,10,11,18,19]))
  (.cond (.t 19)
  (sk 177 [0,4,5,6,9,10,11,18,19])
  (.seq (.region [oa 21 (.bin .eql (.t 18) (.c (.str (ByteArray.mk #[45])))), oa 19 (.mov (.t 21))] (kp 177 [0,4,5,6,9,10,11,18,19]))
  (.cond (.t 19)
  (sk 177 [0,4,5,6,9,10,11,18,19])
  (.seq (.region [oa 22 (.bin .eql (.t 18) (.c (.str (ByteArray.mk #[42])))), oa 19 (.mov (.t 22))] (kp 177 [0,4,5,6,9,10,11,18,19]))
  (.cond (.t 19)
  (sk 177 [0,4,5,6,9,10,11,18,19])
  (.seq (.region [oa 23 (.bin .eql (.t 18) (.c (.str (ByteArray.mk #[47])))), oa 19 (.mov (.t 23))] (kp 177 [0,4,5,6,9,10,11,18,19]))
  (.cond (.t 19)
  (sk 177 [0,4,5,6,9,10,11,18,19])
  (.region [oa 24 (.bin .eql (.t 18) (.c (.str (ByteArray.mk #[37])))), oa 19 (.mov (.t 24))] (kp 177 [0,4,5,6,9,10,11,18,19]))))))))))
  (.cond (.t 19)
  (.seq (.region [oa 25 (.call 79 [(.c (.str (ByteArray.mk #[105, 110, 116])))]), oa 26 (.mov (.t 9)), oa 27 (.buildSlice 2 [(.str (ByteArray.mk #[])), (.str (ByteArray.mk #[]))] [(0, 1, (.c (.str (ByteArray.mk #[105, 110, 116])))), (1, 1, (.c (.str (ByteArray.mk #[105, 110, 116]))))]), oa 28 (.callv (.t 26) [(.t 27)]), ob (.store 5 (.t 6) (.t 25)), oa 7 (.mov (.c (.slice none 0 (some 0)))), oa 8 (.mov (.t 28))] (kp 177 [6,7,8]))
  (sr 177 [6,7,8]))
  (.seq (.seq (.region [oa 30 (.bin .eql (.t 18) (.c (.str (ByteArray.mk #[60])))), oa 29 (.mov (.t 30))] (kp 177 [0,4,5,6,9,10,11,18,29]))
  (.cond (.t 29)
  (sk 177 [0,4,5,6,9,10,11,18,29])
  (.region [oa 31 (.bin .eql (.t 18) (.c (.str (ByteArray.mk #[61])))), oa 29 (.mov (.t 31))] (kp 177 [0,4,5,6,9,10,11,18,29]))))
  (.cond (.t 29)
  (.seq (.region [oa 32 (.call 79 [(.c (.str (ByteArray.mk #[98, 111, 111, 108])))]), oa 33 (.mov (.t 9)), oa 34 (.buildSlice 2 [(.str (ByteArray.mk #[])), (.str (ByteArray.mk #[]))] [(0, 1, (.c (.str (ByteArray.mk #[105, 110, 116])))), (1, 1, (.c (.str (ByteArray.mk #[105, 110, 116]))))]), oa 35 (.callv (.t 33) [(.t 34)]), ob (.store 5 (.t 6) (.t 32)), oa 7 (.mov (.c (.slice none 0 (some 0)))), oa 8 (.mov (.t 35))] (kp 177 [6,7,8]))
  (sr 177 [6,7,8]))
  (.seq (.region [oa 37 (.bin .eql (.t 18) (.c (.str (ByteArray.mk #[94])))), oa 36 (.mov (.t 37))] (kp 177 [0,4,5,6,9,10,11,18,36]))
  (.cond (.t 36)
  (.seq (.region [oa 38 (.load (some 5) (.t 11)), oa 39 (.mov (.t 10)), oa 41 (.mov (.t 10)), oa 43 (.fieldAddr 5 (.t 4)), oa 44 (.load none (.t 43)), oa 46 (.mov (.t 9)), oa 47 (.buildSlice 2 [(.str (ByteArray.mk #[])), (.str (ByteArray.mk #[]))] [(0, 1, (.c (.str (ByteArray.mk #[116, 101, 120, 116])))), (1, 1, (.c (.str (ByteArray.mk #[116, 101, 120, 116]))))]), oa 40 (.callv (.t 39) [(ai 0)]), ob (.again 38 (.load (some 5) (.t 11))), ob (.again 44 (.load none (.t 43))), oa 42 (.callv (.t 41) [(ai 1)]), ob (.again 38 (.load (some 5) (.t 11))), ob (.again 44 (.load none (.t 43))), oa 45 (.buildSlice 3 [(.int .i64 (0)), (.int .i64 (0)), (.int .i64 (0))] [(0, 1, (.t 40)), (1, 1, (.t 42)), (2, 1, (.t 44))]), oa 48 (.callv (.t 46) [(.t 47)]), ob (.again 38 (.load (some 5) (.t 11))), ob (.again 44 (.load none (.t 43))), oa 49 (.mov (.t 48)), oc 50 (.mov (.t 0)) 49 tt, oc 51 (.fieldAddr 5 (.t 4)) 49 tt, oc 52 (.load none (.t 51)) 49 tt, oc 53 (.buildSlice 1 [(.int .i64 (0))] [(0, 1, (.t 52))]) 49 tt, oc 54 (.call 80 [(.t 50), (.t 53)]) 49 tt, ob (.again 38 (.load (some 5) (.t 11))), ob (.again 44 (.load none (.t 43))), oa 55 (.pick (.t 49) (.t 54) (.c (.bool false))), ob (.store 5 (.t 6) (.t 38)), ob (.again 44 (.load none (.t 43))), oa 7 (.mov (.t 45)), oa 8 (.mov (.t 55))] (kp 177 [6,7,8]))
  (sr 177 [6,7,8]))
  (.seq (.region [oa 57 (.bin .eql (.t 18) (.c (.str (ByteArray.mk #[115, 97, 109, 101])))), oa 56 (.mov (.t 57))] (kp 177 [0,4,5,6,9,10,11,18,56]))
  (.cond (.t 56)
  (.seq (.region [oa 58 (.call 79 [(.c (.str (ByteArray.mk #[98, 111, 111, 108])))]), oa 59 (.mov (.t 10)), oa 60 (.callv (.t 59) [(ai 0)]), oa 61 (.mov (.t 10)), oa 62 (.callv (.t 61) [(ai 1)]), oa 63 (.buildSlice 2 [(.int .i64 (0)), (.int .i64 (0))] [(0, 1, (.t 60)), (1, 1, (.t 62))]), oa 64 (.mov (.t 9)), oa 65 (.buildSlice 2 [(.str (ByteArray.mk #[])), (.str (ByteArray.mk #[]))] [(0, 1, (.c (.str (ByteArray.mk #[116, 101, 120, 116])))), (1, 1, (.c (.str (ByteArray.mk #[116, 101, 120, 116]))))]), oa 66 (.callv (.t 64) [(.t 65)]), ob (.store 5 (.t 6) (.t 58)), oa 7 (.mov (.t 63)), oa 8 (.mov (.t 66))] (kp 177 [6,7,8]))
  (sr 177 [6,7,8]))
  (.seq (.region [oa 68 (.bin .eql (.t 18) (.c (.str (ByteArray.mk #[115, 105, 122, 101])))), oa 67 (.mov (.t 68))] (kp 177 [0,4,5,6,9,10,11,18,67]))
  (.cond (.t 67)
  (.seq (.region [oa 69 (.call 79 [(.c (.str (ByteArray.mk #[105, 110, 116])))]), oa 70 (.mov (.t 10)), oa 71 (.callv (.t 70) [(ai 0)]), oa 72 (.buildSlice 1 [(.int .i64 (0))] [(0, 1, (.t 71))]), oa 73 (.mov (.t 9)), oa 74 (.buildSlice 1 [(.str (ByteArray.mk #[]))] [(0, 1, (.c (.str (ByteArray.mk #[116, 101, 120, 116]))))]), oa 75 (.callv (.t 73) [(.t 74)]), ob (.store 5 (.t 6) (.t 69)), oa 7 (.mov (.t 72)), oa 8 (.mov (.t 75))] (kp 177 [6,7,8]))
  (sr 177 [6,7,8]))
  (.seq (.region [oa 77 (.bin .eql (.t 18) (.c (.str (ByteArray.mk #[112, 114, 105, 110, 116])))), oa 76 (.mov (.t 77))] (kp 177 [0,4,5,6,9,10,11,18,76]))
  (.cond (.t 76)
  (.seq (.region [oa 78 (.call 79 [(.c (.str (ByteArray.mk #[117, 110, 105, 116])))]), oa 79 (.mov (.t 10)), oa 80 (.callv (.t 79) [(ai 0)]), oa 81 (.buildSlice 1 [(.int .i64 (0))] [(0, 1, (.t 80))]), oa 82 (.mov (.t 9)), oa 83 (.buildSlice 1 [(.str (ByteArray.mk #[]))] [(0, 1, (.c (.str (ByteArray.mk #[116, 101, 120, 116]))))]), oa 84 (.callv (.t 82) [(.t 83)]), ob (.store 5 (.t 6) (.t 78)), oa 7 (.mov (.t 81)), oa 8 (.mov (.t 84))] (kp 177 [6,7,8]))
  (sr 177 [6,7,8]))
  (.seq (.region [oa 86 (.bin .eql (.t 18) (.c (.str (ByteArray.mk #[98, 121, 116, 101])))), oa 85 (.mov (.t 86))] (kp 177 [0,4,5,6,9,10,11,18,85]))
  (.cond (.t 85)
  (.seq (.region [oa 87 (.call 79 [(.c (.str (ByteArray.mk #[105, 110, 116])))]), oa 88 (.mov (.t 10)), oa 89 (.callv (.t 88) [(ai 0)]), oa 90 (.buildSlice 1 [(.int .i64 (0))] [(0, 1, (.t 89))]), oa 91 (.mov (.t 9)), oa 92 (.buildSlice 2 [(.str (ByteArray.mk #[])), (.str (ByteArray.mk #[]))] [(0, 1, (.c (.str (ByteArray.mk #[116, 101, 120, 116])))), (1, 1, (.c (.str (ByteArray.mk #[105, 110, 116]))))]), oa 93 (.callv (.t 91) [(.t 92)]), ob (.store 5 (.t 6) (.t 87)), oa 7 (.mov (.t 90)), oa 8 (.mov (.t 93))] (kp 177 [6,7,8]))
  (sr 177 [6,7,8]))
  (.seq (.seq (.region [oa 95 (.bin .eql (.t 18) (.c (.str (ByteArray.mk #[99, 104, 97, 114])))), oa 94 (.mov (.t 95))] (kp 177 [0,4,5,6,9,10,11,18,94]))
  (.cond (.t 94)
  (sk 177 [0,4,5,6,9,10,11,18,94])
  (.region [oa 96 (.bin .eql (.t 18) (.c (.str (ByteArray.mk #[115, 104, 111, 119])))), oa 94 (.mov (.t 96))] (kp 177 [0,4,5,6,9,10,11,18,94]))))
  (.cond (.t 94)
  (.seq (.region [oa 97 (.load (some 5) (.t 11)), oa 98 (.fieldAddr 5 (.t 4)), oa 99 (.load none (.t 98)), oa 100 (.buildSlice 1 [(.int .i64 (0))] [(0, 1, (.t 99))]), oa 101 (.mov (.t 9)), oa 102 (.buildSlice 1 [(.str (ByteArray.mk #[]))] [(0, 1, (.c (.str (ByteArray.mk #[105, 110, 116]))))]), oa 103 (.callv (.t 101) [(.t 102)]), ob (.again 97 (.load (some 5) (.t 11))), ob (.again 99 (.load none (.t 98))), oa 104 (.mov (.t 103)), oc 105 (.mov (.t 0)) 104 tt, oc 106 (.fieldAddr 5 (.t 4)) 104 tt, oc 107 (.load none (.t 106)) 104 tt, oc 108 (.buildSlice 1 [(.int .i64 (0))] [(0, 1, (.t 107))]) 104 tt, oc 109 (.call 80 [(.t 105), (.t 108)]) 104 tt, ob (.again 97 (.load (some 5) (.t 11))), ob (.again 99 (.load none (.t 98))), oa 110 (.pick (.t 104) (.t 109) (.c (.bool false))), ob (.store 5 (.t 6) (.t 97)), ob (.again 99 (.load none (.t 98))), oa 7 (.mov (.t 100)), oa 8 (.mov (.t 110))] (kp 177 [6,7,8]))
  (sr 177 [6,7,8]))
  (.seq (.region [oa 112 (.bin .eql (.t 18) (.c (.str (ByteArray.mk #[97, 114, 114, 97, 121])))), oa 111 (.mov (.t 112))] (kp 177 [0,4,5,6,9,10,18,111]))
  (.cond (.t 111)
  (.seq (.region [oa 113 (.fieldAddr 5 (.t 4)), oa 114 (.load none (.t 113)), oa 115 (.load none (.t 5)), oa 116 (.indexAddr 6 (.t 115) (ai 1)), oa 117 (.fieldAddr 0 (.t 116)), oa 118 (.load (some 5) (.t 117)), oa 119 (.buildSlice 1 [(.str (ByteArray.mk #[])), (.str (ByteArray.mk #[])), (.int .i64 (0)), (.slice none 0 (some 0)), (.slice none 0 (some 0))] [(0, 5, (.t 118))]), oa 120 (.build [(.str (ByteArray.mk #[])), (.str (ByteArray.mk #[])), (.int .i64 (0)), (.slice none 0 (some 0)), (.slice none 0 (some 0))] [(0, 1, (.c (.str (ByteArray.mk #[97, 114, 114, 97, 121])))), (2, 1, (.t 114)), (4, 1, (.t 119))]), oa 121 (.fieldAddr 5 (.t 4)), oa 122 (.load none (.t 121)), oa 123 (.buildSlice 1 [(.int .i64 (0))] [(0, 1, (.t 122))]), oa 124 (.mov (.t 9)), oa 125 (.buildSlice 1 [(.str (ByteArray.mk #[]))] [(0, 1, (.c (.str (ByteArray.mk #[105, 110, 116]))))]), oa 126 (.callv (.t 124) [(.t 125)]), ob (.again 114 (.load none (.t 113))), ob (.again 115 (.load none (.t 5))), ob (.again 118 (.load (some 5) (.t 117))), ob (.again 122 (.load none (.t 121))), oa 127 (.mov (.t 126)), oc 128 (.mov (.t 0)) 127 tt, oc 129 (.fieldAddr 5 (.t 4)) 127 tt, oc 130 (.load none (.t 129)) 127 tt, oc 131 (.buildSlice 1 [(.int .i64 (0))] [(0, 1, (.t 130))]) 127 tt, oc 132 (.call 80 [(.t 128), (.t 131)]) 127 tt, ob (.again 114 (.load none (.t 113))), ob (.again 115 (.load none (.t 5))), ob (.again 118 (.load (some 5) (.t 117))), ob (.again 122 (.load none (.t 121))), oa 133 (.pick (.t 127) (.t 132) (.c (.bool false))), ob (.store 5 (.t 6) (.t 120)), ob (.again 122 (.load none (.t 121))), oa 7 (.mov (.t 123)), oa 8 (.mov (.t 133))] (kp 177 [6,7,8]))
  (sr 177 [6,7,8]))
  (.seq (.region [oa 135 (.bin .eql (.t 18) (.c (.str (ByteArray.mk #[108, 101, 110, 103, 116, 104])))), oa 134 (.mov (.t 135))] (kp 177 [4,5,6,9,10,134]))
  (.cond (.t 134)
  (.seq (.region [oa 136 (.call 79 [(.c (.str (ByteArray.mk #[105, 110, 116])))]), oa 137 (.mov (.t 10)), oa 138 (.callv (.t 137) [(ai 0)]), oa 139 (.buildSlice 1 [(.int .i64 (0))] [(0, 1, (.t 138))]), oa 140 (.mov (.t 9)), oa 141 (.buildSlice 1 [(.str (ByteArray.mk #[]))] [(0, 1, (.c (.str (ByteArray.mk #[97, 114, 114, 97, 121]))))]), oa 142 (.callv (.t 140) [(.t 141)]), ob (.store 5 (.t 6) (.t 136)), oa 7 (.mov (.t 139)), oa 8 (.mov (.t 142))] (kp 177 [6,7,8]))
  (sr 177 [6,7,8]))
  (sk 177 [4,5,6,9,10])))))))))))))))))))))))
  (.seq (.seq (.region [oa 143 (.mov (.t 9)), oa 144 (.buildSlice 2 [(.str (ByteArray.mk #[])), (.str (ByteArray.mk #[]))] [(0, 1, (.c (.str (ByteArray.mk #[97, 114, 114, 97, 121])))), (1, 1, (.c (.str (ByteArray.mk #[105, 110, 116]))))]), oa 145 (.callv (.t 143) [(.t 144)]), oa 146 (.un .not (.t 145))] (kp 177 [4,5,6,10,146]))
  (.cond (.t 146)
  (.seq (.region [oa 147 (.build [(.str (ByteArray.mk #[])), (.str (ByteArray.mk #[])), (.int .i64 (0)), (.slice none 0 (some 0)), (.slice none 0 (some 0))] []), ob (.store 5 (.t 6) (.t 147)), oa 7 (.mov (.c (.slice none 0 (some 0)))), oa 8 (.mov (.c (.bool false)))] (kp 177 [6,7,8]))
  (sr 177 [6,7,8]))
  (sk 177 [4,5,6,10])))
  (.seq (.seq (.region [oa 148 (.fieldAddr 1 (.t 4)), oa 149 (.load none (.t 148)), oa 150 (.bin .eql (.t 149) (.c (.str (ByteArray.mk #[103, 101, 116]))))] (kp 177 [5,6,10,150]))
  (.cond (.t 150)
  (.seq (.region [oa 151 (.load none (.t 5)), oa 152 (.indexAddr 6 (.t 151) (ai 0)), oa 153 (.fieldAddr 0 (.t 152)), oa 154 (.fieldAddr 4 (.t 153)), oa 155 (.load none (.t 154)), oa 156 (.indexAddr 5 (.t 155) (ai 0)), oa 157 (.load (some 5) (.t 156)), oa 158 (.mov (.t 10)), oa 159 (.callv (.t 158) [(ai 0)]), ob (.again 151 (.load none (.t 5))), ob (.again 155 (.load none (.t 154))), ob (.again 157 (.load (some 5) (.t 156))), oa 160 (.buildSlice 1 [(.int .i64 (0))] [(0, 1, (.t 159))]), ob (.store 5 (.t 6) (.t 157)), oa 7 (.mov (.t 160)), oa 8 (.mov (.c (.bool true)))] (kp 177 [6,7,8]))
  (sr 177 [6,7,8]))
  (sk 177 [5,6,10])))
  (.seq (.region [oa 162 (.mov (.t 10)), oa 165 (.load none (.t 5)), oa 166 (.indexAddr 6 (.t 165) (ai 0)), oa 167 (.fieldAddr 0 (.t 166)), oa 168 (.fieldAddr 4 (.t 167)), oa 169 (.load none (.t 168)), oa 170 (.indexAddr 5 (.t 169) (ai 0)), oa 171 (.load (some 5) (.t 170)), oa 172 (.load none (.t 5)), oa 173 (.indexAddr 6 (.t 172) (ai 2)), oa 174 (.fieldAddr 0 (.t 173)), oa 175 (.load (some 5) (.t 174)), oa 161 (.call 79 [(.c (.str (ByteArray.mk #[117, 110, 105, 116])))]), ob (.again 165 (.load none (.t 5))), ob (.again 169 (.load none (.t 168))), ob (.again 171 (.load (some 5) (.t 170))), ob (.again 172 (.load none (.t 5))), ob (.again 175 (.load (some 5) (.t 174))), oa 163 (.callv (.t 162) [(ai 0)]), ob (.again 165 (.load none (.t 5))), ob (.again 169 (.load none (.t 168))), ob (.again 171 (.load (some 5) (.t 170))), ob (.again 172 (.load none (.t 5))), ob (.again 175 (.load (some 5) (.t 174))), oa 164 (.buildSlice 1 [(.int .i64 (0))] [(0, 1, (.t 163))]), oa 176 (.call 23 [(.t 171), (.t 175)]), ob (.store 5 (.t 6) (.t 161)), oa 7 (.mov (.t 164)), oa 8 (.mov (.t 176))] (kp 177 [6,7,8]))
  (sr 177 [6,7,8])))))))))⟩
theorem F206 : shutF Tryz.prog 206 = some c206 := by kernel_rfl

-- slices.IndexFunc[[]virgate/api.RTy,virgate/api.RTy]
def l207_0 : IC := (.seq (.seq (.region [oa 9 (.bin .lss (.t 8) (.t 7))] (kp 19 [0,1,7,8,9]))
  (.seq (.cond (.t 9)
  (sk 19 [0,1,7,8])
  (sx 19 [] 0))
  (.seq (.block 1
  (.seq (.region [oa 10 (.mov (.t 8)), oa 5 (.mov (.t 10))] (kp 19 [0,1,5,7,8]))
  (.seq (.region [oa 11 (.mov (.t 1)), oa 12 (.mov (.t 0)), oa 13 (.mov (.t 5)), oa 14 (.indexAddr 5 (.t 12) (.t 13)), oa 15 (.load (some 5) (.t 14)), oa 16 (.callv (.t 11) [(.t 15)])] (kp 19 [0,1,5,7,8,16]))
  (.cond (.t 16)
  (.seq (.region [oa 17 (.mov (.t 5)), oa 4 (.mov (.t 17))] (kp 19 [4]))
  (sr 19 [4]))
  (sk 19 [0,1,7,8])))))
  (.region [oa 18 (.bin .add (.t 8) (ai 1)), oa 8 (.mov (.t 18))] (kp 19 [0,1,7,8])))))
  (sk 19 [0,1,7,8]))
def c207 : IFn := ⟨19, [(4, none)],
  (.seq (.region [oa 4 (.mov (ai 0))] (kp 19 [0,1]))
  (.seq (.seq (.region [oa 6 (.mov (.t 0)), oa 7 (.lenSlice (.t 6)), oa 8 (.mov (ai 0))] (kp 19 [0,1,7,8]))
  (.block 0
  (.seq (sk 19 [0,1,7,8])
  (.loop l207_0))))
  (.seq (.region [oa 4 (.mov (ai (-1)))] (kp 19 [4]))
  (sr 19 [4]))))⟩
theorem F207 : shutF Tryz.prog 207 = some c207 := by kernel_rfl

-- slices.insertionSortOrdered[int]
def l208_0 : IC := (.seq (.seq (.seq (.region [oa 16 (.mov (.t 7)), oa 17 (.mov (.t 1)), oa 18 (.bin .gtr (.t 16) (.t 17)), oa 19 (.mov (.t 18)), oc 20 (.mov (.t 0)) 19 tt, oc 21 (.mov (.t 7)) 19 tt, oc 22 (.indexAddr 1 (.t 20) (.t 21)) 19 tt, oc 23 (.load none (.t 22)) 19 tt, oc 24 (.mov (.t 0)) 19 tt, oc 25 (.mov (.t 7)) 19 tt, oc 26 (.bin .sub (.t 25) (ai 1)) 19 tt, oc 27 (.indexAddr 1 (.t 24) (.t 26)) 19 tt, oc 28 (.load none (.t 27)) 19 tt, oc 29 (.call 214 [(.t 23), (.t 28)]) 19 tt, oa 30 (.pick (.t 19) (.t 29) (.c (.bool false)))] (kp 49 [0,1,2,6,7,30]))
  (.cond (.t 30)
  (sk 49 [0,1,2,6,7])
  (sx 49 [0,1,2,6] 2)))
  (.seq (.block 3
  (.region [oa 33 (.mov (.t 0)), oa 34 (.mov (.t 7)), oa 35 (.mov (.t 0)), oa 36 (.mov (.t 7)), oa 37 (.bin .sub (.t 36) (ai 1)), oa 38 (.mov (.t 0)), oa 39 (.mov (.t 7)), oa 40 (.bin .sub (.t 39) (ai 1)), oa 41 (.indexAddr 1 (.t 38) (.t 40)), oa 42 (.load none (.t 41)), oa 43 (.mov (.t 0)), oa 44 (.mov (.t 7)), oa 45 (.indexAddr 1 (.t 43) (.t 44)), oa 46 (.load none (.t 45)), oa 47 (.indexAddr 1 (.t 33) (.t 34)), ob (.store 1 (.t 47) (.t 42)), oa 48 (.indexAddr 1 (.t 35) (.t 37)), ob (.store 1 (.t 48) (.t 46))] (kp 49 [0,1,2,6,7])))
  (.region [oa 31 (.mov (.t 7)), oa 32 (.bin .sub (.t 31) (ai 1)), oa 7 (.mov (.t 32))] (kp 49 [0,1,2,6,7]))))
  (sk 49 [0,1,2,6,7]))
def l208_1 : IC := (.seq (.seq (.seq (.region [oa 10 (.mov (.t 6)), oa 11 (.mov (.t 2)), oa 12 (.bin .lss (.t 10) (.t 11))] (kp 49 [0,1,2,6,12]))
  (.cond (.t 12)
  (sk 49 [0,1,2,6])
  (sx 49 [] 0)))
  (.seq (.block 1
  (.seq (.region [oa 15 (.mov (.t 6)), oa 7 (.mov (.t 15))] (kp 49 [0,1,2,6,7]))
  (.block 2
  (.seq (sk 49 [0,1,2,6,7])
  (.loop l208_0)))))
  (.region [oa 13 (.mov (.t 6)), oa 14 (.bin .add (.t 13) (ai 1)), oa 6 (.mov (.t 14))] (kp 49 [0,1,2,6]))))
  (sk 49 [0,1,2,6]))
def c208 : IFn := ⟨49, [],
  (.seq (.region [oa 8 (.mov (.t 1)), oa 9 (.bin .add (.t 8) (ai 1)), oa 6 (.mov (.t 9))] (kp 49 [0,1,2,6]))
  (.block 0
  (.seq (sk 49 [0,1,2,6])
  (.loop l208_1))))⟩
theorem F208 : shutF Tryz.prog 208 = some c208 := by kernel_rfl

-- cmp.Less[int]

def c214 : IFn := ⟨17, [(4, none)],
  (.seq (.region [oa 4 (.mov (.c (.bool false)))] (kp 17 [0,1]))
  (.seq (.region [oa 5 (.mov (.t 0)), oa 6 (.call 263 [(.t 5)]), oa 7 (.mov (.t 6)), oc 8 (.mov (.t 1)) 7 tt, oc 9 (.call 263 [(.t 8)]) 7 tt, oc 10 (.un .not (.t 9)) 7 tt, oa 11 (.pick (.t 7) (.t 10) (.c (.bool false))), oa 12 (.mov (.t 11)), oc 13 (.mov (.t 0)) 12 ff, oc 14 (.mov (.t 1)) 12 ff, oc 15 (.bin .lss (.t 13) (.t 14)) 12 ff, oa 16 (.pick (.t 12) (.c (.bool true)) (.t 15)), oa 4 (.mov (.t 16))] (kp 17 [4]))
  (sr 17 [4])))⟩
theorem F214 : shutF Tryz.prog 214 = some c214 := by kernel_rfl

-- math/bits.Len64

def c218 : IFn := ⟨25, [(2, none)],
  (.seq (.region [oa 2 (.mov (ai 0))] (kp 25 [0,2]))
  (.seq (.seq (.region [oa 3 (.mov (.t 0)), oa 4 (.bin .geq (.t 3) (.c (.int .u64 (4294967296))))] (kp 25 [0,2,4]))
  (.cond (.t 4)
  (.seq (.region [oa 5 (.mov (.t 0)), oa 6 (.bin .shr (.t 5) (.c (.int .u64 (32)))), oa 0 (.mov (.t 6))] (kp 25 [0]))
  (.region [oa 2 (.mov (ai 32))] (kp 25 [0,2])))
  (sk 25 [0,2])))
  (.seq (.seq (.region [oa 7 (.mov (.t 0)), oa 8 (.bin .geq (.t 7) (.c (.int .u64 (65536))))] (kp 25 [0,2,8]))
  (.cond (.t 8)
  (.seq (.region [oa 9 (.mov (.t 0)), oa 10 (.bin .shr (.t 9) (.c (.int .u64 (16)))), oa 0 (.mov (.t 10))] (kp 25 [0,2]))
  (.region [oa 11 (.mov (.t 2)), oa 12 (.bin .add (.t 11) (ai 16)), oa 2 (.mov (.t 12))] (kp 25 [0,2])))
  (sk 25 [0,2])))
  (.seq (.seq (.region [oa 13 (.mov (.t 0)), oa 14 (.bin .geq (.t 13) (.c (.int .u64 (256))))] (kp 25 [0,2,14]))
  (.cond (.t 14)
  (.seq (.region [oa 15 (.mov (.t 0)), oa 16 (.bin .shr (.t 15) (.c (.int .u64 (8)))), oa 0 (.mov (.t 16))] (kp 25 [0,2]))
  (.region [oa 17 (.mov (.t 2)), oa 18 (.bin .add (.t 17) (ai 8)), oa 2 (.mov (.t 18))] (kp 25 [0,2])))
  (sk 25 [0,2])))
  (.seq (.region [oa 19 (.mov (.t 2)), oa 20 (.mov (.t 0)), oa 21 (.conv .u8 (.t 20)), oa 22 (.indexStr (.c (.str (ByteArray.mk #[0, 1, 2, 2, 3, 3, 3, 3, 4, 4, 4, 4, 4, 4, 4, 4, 5, 5, 5, 5, 5, 5, 5, 5, 5, 5, 5, 5, 5, 5, 5, 5, 6, 6, 6, 6, 6, 6, 6, 6,
 6, 6, 6, 6, 6, 6, 6, 6, 6, 6, 6, 6, 6, 6, 6, 6, 6, 6, 6, 6, 6, 6, 6, 6, 7, 7, 7, 7, 7, 7, 7, 7, 7, 7, 7, 7, 7, 7, 7, 7,
 7, 7, 7, 7, 7, 7, 7, 7, 7, 7, 7, 7, 7, 7, 7, 7, 7, 7, 7, 7, 7, 7, 7, 7, 7, 7, 7, 7, 7, 7, 7, 7, 7, 7, 7, 7, 7, 7, 7, 7,
 7, 7, 7, 7, 7, 7, 7, 7, 8, 8, 8, 8, 8, 8, 8, 8, 8, 8, 8, 8, 8, 8, 8, 8, 8, 8, 8, 8, 8, 8, 8, 8, 8, 8, 8, 8, 8, 8, 8, 8,
 8, 8, 8, 8, 8, 8, 8, 8, 8, 8, 8, 8, 8, 8, 8, 8, 8, 8, 8, 8, 8, 8, 8, 8, 8, 8, 8, 8, 8, 8, 8, 8, 8, 8, 8, 8, 8, 8, 8, 8,
 8, 8, 8, 8, 8, 8, 8, 8, 8, 8, 8, 8, 8, 8, 8, 8, 8, 8, 8, 8, 8, 8, 8, 8, 8, 8, 8, 8, 8, 8, 8, 8, 8, 8, 8, 8, 8, 8, 8, 8,
 8, 8, 8, 8, 8, 8, 8, 8, 8, 8, 8, 8, 8, 8, 8, 8]))) (.t 21)), oa 23 (.conv .i64 (.t 22)), oa 24 (.bin .add (.t 19) (.t 23)), oa 2 (.mov (.t 24))] (kp 25 [2]))
  (sr 25 [2]))))))⟩
theorem F218 : shutF Tryz.prog 218 = some c218 := by kernel_rfl

-- slices.insertionSortOrdered[string]
def l223_0 : IC := (.seq (.seq (.seq (.region [oa 16 (.mov (.t 7)), oa 17 (.mov (.t 1)), oa 18 (.bin .gtr (.t 16) (.t 17)), oa 19 (.mov (.t 18)), oc 20 (.mov (.t 0)) 19 tt, oc 21 (.mov (.t 7)) 19 tt, oc 22 (.indexAddr 1 (.t 20) (.t 21)) 19 tt, oc 23 (.load none (.t 22)) 19 tt, oc 24 (.mov (.t 0)) 19 tt, oc 25 (.mov (.t 7)) 19 tt, oc 26 (.bin .sub (.t 25) (ai 1)) 19 tt, oc 27 (.indexAddr 1 (.t 24) (.t 26)) 19 tt, oc 28 (.load none (.t 27)) 19 tt, oc 29 (.call 229 [(.t 23), (.t 28)]) 19 tt, oa 30 (.pick (.t 19) (.t 29) (.c (.bool false)))] (kp 49 [0,1,2,6,7,30]))
  (.cond (.t 30)
  (sk 49 [0,1,2,6,7])
  (sx 49 [0,1,2,6] 2)))
  (.seq (.block 3
  (.region [oa 33 (.mov (.t 0)), oa 34 (.mov (.t 7)), oa 35 (.mov (.t 0)), oa 36 (.mov (.t 7)), oa 37 (.bin .sub (.t 36) (ai 1)), oa 38 (.mov (.t 0)), oa 39 (.mov (.t 7)), oa 40 (.bin .sub (.t 39) (ai 1)), oa 41 (.indexAddr 1 (.t 38) (.t 40)), oa 42 (.load none (.t 41)), oa 43 (.mov (.t 0)), oa 44 (.mov (.t 7)), oa 45 (.indexAddr 1 (.t 43) (.t 44)), oa 46 (.load none (.t 45)), oa 47 (.indexAddr 1 (.t 33) (.t 34)), ob (.store 1 (.t 47) (.t 42)), oa 48 (.indexAddr 1 (.t 35) (.t 37)), ob (.store 1 (.t 48) (.t 46))] (kp 49 [0,1,2,6,7])))
  (.region [oa 31 (.mov (.t 7)), oa 32 (.bin .sub (.t 31) (ai 1)), oa 7 (.mov (.t 32))] (kp 49 [0,1,2,6,7]))))
  (sk 49 [0,1,2,6,7]))
def l223_1 : IC := (.seq (.seq (.seq (.region [oa 10 (.mov (.t 6)), oa 11 (.mov (.t 2)), oa 12 (.bin .lss (.t 10) (.t 11))] (kp 49 [0,1,2,6,12]))
  (.cond (.t 12)
  (sk 49 [0,1,2,6])
  (sx 49 [] 0)))
  (.seq (.block 1
  (.seq (.region [oa 15 (.mov (.t 6)), oa 7 (.mov (.t 15))] (kp 49 [0,1,2,6,7]))
  (.block 2
  (.seq (sk 49 [0,1,2,6,7])
  (.loop l223_0)))))
  (.region [oa 13 (.mov (.t 6)), oa 14 (.bin .add (.t 13) (ai 1)), oa 6 (.mov (.t 14))] (kp 49 [0,1,2,6]))))
  (sk 49 [0,1,2,6]))
def c223 : IFn := ⟨49, [],
  (.seq (.region [oa 8 (.mov (.t 1)), oa 9 (.bin .add (.t 8) (ai 1)), oa 6 (.mov (.t 9))] (kp 49 [0,1,2,6]))
  (.block 0
  (.seq (sk 49 [0,1,2,6])
  (.loop l223_1))))⟩
theorem F223 : shutF Tryz.prog 223 = some c223 := by kernel_rfl

-- virgate/place.Arity

def c243 : IFn := ⟨25, [(2, none)],
  (.seq (.region [oa 2 (.mov (ai 0))] (kp 25 [0]))
  (.seq (.seq (.region [oa 3 (.mov (.t 0))] (kp 25 [3]))
  (.block 0
  (.seq (.seq (.region [oa 5 (.bin .eql (.t 3) (.c (.str (ByteArray.mk #[115, 105, 122, 101])))), oa 4 (.mov (.t 5))] (kp 25 [3,4]))
  (.cond (.t 4)
  (sk 25 [3,4])
  (.seq (.region [oa 6 (.bin .eql (.t 3) (.c (.str (ByteArray.mk #[99, 104, 97, 114])))), oa 4 (.mov (.t 6))] (kp 25 [3,4]))
  (.cond (.t 4)
  (sk 25 [3,4])
  (.seq (.region [oa 7 (.bin .eql (.t 3) (.c (.str (ByteArray.mk #[115, 104, 111, 119])))), oa 4 (.mov (.t 7))] (kp 25 [3,4]))
  (.cond (.t 4)
  (sk 25 [3,4])
  (.seq (.region [oa 8 (.bin .eql (.t 3) (.c (.str (ByteArray.mk #[108, 101, 110, 103, 116, 104])))), oa 4 (.mov (.t 8))] (kp 25 [3,4]))
  (.cond (.t 4)
  (sk 25 [3,4])
  (.region [oa 9 (.bin .eql (.t 3) (.c (.str (ByteArray.mk #[112, 114, 105, 110, 116])))), oa 4 (.mov (.t 9))] (kp 25 [3,4]))))))))))
  (.cond (.t 4)
  (.seq (.region [oa 2 (.mov (ai 1))] (kp 25 [2]))
  (sr 25 [2]))
  (.seq (.seq (.region [oa 11 (.bin .eql (.t 3) (.c (.str (ByteArray.mk #[43])))), oa 10 (.mov (.t 11))] (kp 25 [3,10]))
  (.cond (.t 10)
  (sk 25 [3,10])
  (.seq (.region [oa 12 (.bin .eql (.t 3) (.c (.str (ByteArray.mk #[45])))), oa 10 (.mov (.t 12))] (kp 25 [3,10]))
  (.cond (.t 10)
  (sk 25 [3,10])
  (.seq (.region [oa 13 (.bin .eql (.t 3) (.c (.str (ByteArray.mk #[42])))), oa 10 (.mov (.t 13))] (kp 25 [3,10]))
  (.cond (.t 10)
  (sk 25 [3,10])
  (.seq (.region [oa 14 (.bin .eql (.t 3) (.c (.str (ByteArray.mk #[47])))), oa 10 (.mov (.t 14))] (kp 25 [3,10]))
  (.cond (.t 10)
  (sk 25 [3,10])
  (.seq (.region [oa 15 (.bin .eql (.t 3) (.c (.str (ByteArray.mk #[37])))), oa 10 (.mov (.t 15))] (kp 25 [3,10]))
  (.cond (.t 10)
  (sk 25 [3,10])
  (.seq (.region [oa 16 (.bin .eql (.t 3) (.c (.str (ByteArray.mk #[60])))), oa 10 (.mov (.t 16))] (kp 25 [3,10]))
  (.cond (.t 10)
  (sk 25 [3,10])
  (.seq (.region [oa 17 (.bin .eql (.t 3) (.c (.str (ByteArray.mk #[61])))), oa 10 (.mov (.t 17))] (kp 25 [3,10]))
  (.cond (.t 10)
  (sk 25 [3,10])
  (.seq (.region [oa 18 (.bin .eql (.t 3) (.c (.str (ByteArray.mk #[94])))), oa 10 (.mov (.t 18))] (kp 25 [3,10]))
  (.cond (.t 10)
  (sk 25 [3,10])
  (.seq (.region [oa 19 (.bin .eql (.t 3) (.c (.str (ByteArray.mk #[98, 121, 116, 101])))), oa 10 (.mov (.t 19))] (kp 25 [3,10]))
  (.cond (.t 10)
  (sk 25 [3,10])
  (.seq (.region [oa 20 (.bin .eql (.t 3) (.c (.str (ByteArray.mk #[115, 97, 109, 101])))), oa 10 (.mov (.t 20))] (kp 25 [3,10]))
  (.cond (.t 10)
  (sk 25 [3,10])
  (.seq (.region [oa 21 (.bin .eql (.t 3) (.c (.str (ByteArray.mk #[97, 114, 114, 97, 121])))), oa 10 (.mov (.t 21))] (kp 25 [3,10]))
  (.cond (.t 10)
  (sk 25 [3,10])
  (.region [oa 22 (.bin .eql (.t 3) (.c (.str (ByteArray.mk #[103, 101, 116])))), oa 10 (.mov (.t 22))] (kp 25 [3,10]))))))))))))))))))))))))
  (.cond (.t 10)
  (.seq (.region [oa 2 (.mov (ai 2))] (kp 25 [2]))
  (sr 25 [2]))
  (.seq (.region [oa 24 (.bin .eql (.t 3) (.c (.str (ByteArray.mk #[115, 101, 116])))), oa 23 (.mov (.t 24))] (kp 25 [23]))
  (.cond (.t 23)
  (.seq (.region [oa 2 (.mov (ai 3))] (kp 25 [2]))
  (sr 25 [2]))
  (sk 25 [])))))))))
  (.seq (.region [oa 2 (.mov (ai (-1)))] (kp 25 [2]))
  (sr 25 [2]))))⟩
theorem F243 : shutF Tryz.prog 243 = some c243 := by kernel_rfl

-- virgate/place.Makes

def c244 : IFn := ⟨17, [(2, none)],
  (.seq (.region [oa 2 (.mov (.c (.bool false)))] (kp 17 [0]))
  (.seq (.region [oa 3 (.mov (.t 0)), oa 4 (.bin .eql (.t 3) (.c (.str (ByteArray.mk #[94])))), oa 5 (.mov (.t 4)), oc 6 (.mov (.t 0)) 5 ff, oc 7 (.bin .eql (.t 6) (.c (.str (ByteArray.mk #[99, 104, 97, 114])))) 5 ff, oa 8 (.pick (.t 5) (.c (.bool true)) (.t 7)), oa 9 (.mov (.t 8)), oc 10 (.mov (.t 0)) 9 ff, oc 11 (.bin .eql (.t 10) (.c (.str (ByteArray.mk #[115, 104, 111, 119])))) 9 ff, oa 12 (.pick (.t 9) (.c (.bool true)) (.t 11)), oa 13 (.mov (.t 12)), oc 14 (.mov (.t 0)) 13 ff, oc 15 (.bin .eql (.t 14) (.c (.str (ByteArray.mk #[97, 114, 114, 97, 121])))) 13 ff, oa 16 (.pick (.t 13) (.c (.bool true)) (.t 15)), oa 2 (.mov (.t 16))] (kp 17 [2]))
  (sr 17 [2])))⟩
theorem F244 : shutF Tryz.prog 244 = some c244 := by kernel_rfl

-- virgate/place.isBound

def c247 : IFn := ⟨5, [(2, none)],
  (.seq (.region [oa 2 (.mov (.c (.bool false)))] (kp 5 [0]))
  (.seq (.region [oa 3 (.mov (.t 0)), oa 4 (.call 139 [(ai 1), (.t 3), (ai 9999)]), oa 2 (.mov (.t 4))] (kp 5 [2]))
  (sr 5 [2])))⟩
theorem F247 : shutF Tryz.prog 247 = some c247 := by kernel_rfl

-- slices.ContainsFunc[[][]int,[]int]

def c250 : IFn := ⟨9, [(4, none)],
  (.seq (.region [oa 4 (.mov (.c (.bool false)))] (kp 9 [0,1]))
  (.seq (.region [oa 5 (.mov (.t 0)), oa 6 (.mov (.t 1)), oa 7 (.call 275 [(.t 5), (.t 6)]), oa 8 (.bin .geq (.t 7) (ai 0)), oa 4 (.mov (.t 8))] (kp 9 [4]))
  (sr 9 [4])))⟩
theorem F250 : shutF Tryz.prog 250 = some c250 := by kernel_rfl

-- (*virgate/judge.court).op$1
def l256_0 : IC := (.seq (.seq (.region [oa 9 (.bin .lss (.t 8) (.t 7))] (kp 26 [1,6,7,8,9]))
  (.seq (.cond (.t 9)
  (sk 26 [1,6,7,8])
  (sx 26 [] 0))
  (.seq (.block 1
  (.seq (.region [oa 10 (.mov (.t 8)), oa 11 (.indexAddr 1 (.t 6) (.t 8)), oa 12 (.load none (.t 11)), oa 4 (.mov (.t 10)), oa 5 (.mov (.t 12))] (kp 26 [1,4,5,6,7,8]))
  (.seq (.region [oa 13 (.mov (.t 5)), oa 14 (.bin .neq (.t 13) (.c (.str (ByteArray.mk #[])))), oa 15 (.mov (.t 14)), oc 16 (.load none (.t 1)) 15 tt, oc 17 (.mov (.t 4)) 15 tt, oc 18 (.indexAddr 6 (.t 16) (.t 17)) 15 tt, oc 19 (.fieldAddr 0 (.t 18)) 15 tt, oc 20 (.fieldAddr 0 (.t 19)) 15 tt, oc 21 (.load none (.t 20)) 15 tt, oc 22 (.mov (.t 5)) 15 tt, oc 23 (.bin .neq (.t 21) (.t 22)) 15 tt, oa 24 (.pick (.t 15) (.t 23) (.c (.bool false)))] (kp 26 [1,6,7,8,24]))
  (.cond (.t 24)
  (.seq (.region [oa 3 (.mov (.c (.bool false)))] (kp 26 [3]))
  (sr 26 [3]))
  (sk 26 [1,6,7,8])))))
  (.region [oa 25 (.bin .add (.t 8) (ai 1)), oa 8 (.mov (.t 25))] (kp 26 [1,6,7,8])))))
  (sk 26 [1,6,7,8]))
def c256 : IFn := ⟨26, [(3, none)],
  (.seq (.region [oa 3 (.mov (.c (.bool false)))] (kp 26 [0,1]))
  (.seq (.seq (.region [oa 6 (.mov (.t 0)), oa 7 (.lenSlice (.t 6)), oa 8 (.mov (ai 0))] (kp 26 [1,6,7,8]))
  (.block 0
  (.seq (sk 26 [1,6,7,8])
  (.loop l256_0))))
  (.seq (.region [oa 3 (.mov (.c (.bool true)))] (kp 26 [3]))
  (sr 26 [3]))))⟩
theorem F256 : shutF Tryz.prog 256 = some c256 := by kernel_rfl

-- (*virgate/judge.court).op$2

def c257 : IFn := ⟨10, [(3, none)],
  (.seq (.region [oa 3 (.mov (ai 0))] (kp 10 [0,1]))
  (.seq (.region [oa 4 (.load none (.t 1)), oa 5 (.mov (.t 0)), oa 6 (.indexAddr 6 (.t 4) (.t 5)), oa 7 (.fieldAddr 0 (.t 6)), oa 8 (.fieldAddr 2 (.t 7)), oa 9 (.load none (.t 8)), oa 3 (.mov (.t 9))] (kp 10 [3]))
  (sr 10 [3])))⟩
theorem F257 : shutF Tryz.prog 257 = some c257 := by kernel_rfl

-- cmp.isNaN[int]

def c263 : IFn := ⟨6, [(2, none)],
  (.seq (.region [oa 2 (.mov (.c (.bool false)))] (kp 6 [0]))
  (.seq (.region [oa 3 (.mov (.t 0)), oa 4 (.mov (.t 0)), oa 5 (.bin .neq (.t 3) (.t 4)), oa 2 (.mov (.t 5))] (kp 6 [2]))
  (sr 6 [2])))⟩
theorem F263 : shutF Tryz.prog 263 = some c263 := by kernel_rfl

-- slices.IndexFunc[[][]int,[]int]
def l275_0 : IC := (.seq (.seq (.region [oa 9 (.bin .lss (.t 8) (.t 7))] (kp 19 [0,1,7,8,9]))
  (.seq (.cond (.t 9)
  (sk 19 [0,1,7,8])
  (sx 19 [] 0))
  (.seq (.block 1
  (.seq (.region [oa 10 (.mov (.t 8)), oa 5 (.mov (.t 10))] (kp 19 [0,1,5,7,8]))
  (.seq (.region [oa 11 (.mov (.t 1)), oa 12 (.mov (.t 0)), oa 13 (.mov (.t 5)), oa 14 (.indexAddr 1 (.t 12) (.t 13)), oa 15 (.load none (.t 14)), oa 16 (.callv (.t 11) [(.t 15)])] (kp 19 [0,1,5,7,8,16]))
  (.cond (.t 16)
  (.seq (.region [oa 17 (.mov (.t 5)), oa 4 (.mov (.t 17))] (kp 19 [4]))
  (sr 19 [4]))
  (sk 19 [0,1,7,8])))))
  (.region [oa 18 (.bin .add (.t 8) (ai 1)), oa 8 (.mov (.t 18))] (kp 19 [0,1,7,8])))))
  (sk 19 [0,1,7,8]))
def c275 : IFn := ⟨19, [(4, none)],
  (.seq (.region [oa 4 (.mov (ai 0))] (kp 19 [0,1]))
  (.seq (.seq (.region [oa 6 (.mov (.t 0)), oa 7 (.lenSlice (.t 6)), oa 8 (.mov (ai 0))] (kp 19 [0,1,7,8]))
  (.block 0
  (.seq (sk 19 [0,1,7,8])
  (.loop l275_0))))
  (.seq (.region [oa 4 (.mov (ai (-1)))] (kp 19 [4]))
  (sr 19 [4]))))⟩
theorem F275 : shutF Tryz.prog 275 = some c275 := by kernel_rfl


def tab5 : List (Nat × IFn) := [(204, c204), (205, c205), (206, c206), (207, c207), (208, c208), (214, c214), (218, c218), (223, c223), (243, c243), (244, c244), (247, c247), (250, c250), (256, c256), (257, c257), (263, c263), (275, c275)]
theorem tab5_ok : ∀ p ∈ tab5, PF p.1 = some p.2 := by
  simp only [tab5, List.mem_cons, List.not_mem_nil, or_false, forall_eq_or_imp, forall_eq]
  exact ⟨F204, F205, F206, F207, F208, F214, F218, F223, F243, F244, F247, F250, F256, F257, F263, F275⟩
end Go.Proofs.YtfcaamoapdibiaaGreatDoor.S
