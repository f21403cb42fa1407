/- Layer 11: the code of the functions that its closed call runs. -/
import Derived.Test.YtfcaamoapdibiaaGreatDoorJa0
set_option linter.unusedSimpArgs false
set_option linter.unusedVariables false
namespace Go.Proofs.YtfcaamoapdibiaaGreatDoor.S
open Go Go.IM Go.Proofs.YtfcaamoapdibiaaGreatDoor

-- slices.IndexFunc[[]virgate/api.Claim,virgate/api.Claim]
def l126_0 : IC := (.seq (.seq (.region [oa 9 (.bin .lss (.t 8) (.t 7))] (kp 19 [0,1,7,8,9]))
  (.seq (.cond (.t 9)
  (sk 19 [0,1,7,8])
  (sx 19 [] 0))
  (.seq (.block 1
  (.seq (.region [oa 10 (.mov (.t 8)), oa 5 (.mov (.t 10))] (kp 19 [0,1,5,7,8]))
  (.seq (.region [oa 11 (.mov (.t 1)), oa 12 (.mov (.t 0)), oa 13 (.mov (.t 5)), oa 14 (.indexAddr 4 (.t 12) (.t 13)), oa 15 (.load (some 4) (.t 14)), oa 16 (.callv (.t 11) [(.t 15)])] (kp 19 [0,1,5,7,8,16]))
  (.cond (.t 16)
  (.seq (.region [oa 17 (.mov (.t 5)), oa 4 (.mov (.t 17))] (kp 19 [4]))
  (sr 19 [4]))
  (sk 19 [0,1,7,8])))))
  (.region [oa 18 (.bin .add (.t 8) (ai 1)), oa 8 (.mov (.t 18))] (kp 19 [0,1,7,8])))))
  (sk 19 [0,1,7,8]))
def c126 : IFn := ⟨19, [(4, none)],
  (.seq (.region [oa 4 (.mov (ai 0))] (kp 19 [0,1]))
  (.seq (.seq (.region [oa 6 (.mov (.t 0)), oa 7 (.lenSlice (.t 6)), oa 8 (.mov (ai 0))] (kp 19 [0,1,7,8]))
  (.block 0
  (.seq (sk 19 [0,1,7,8])
  (.loop l126_0))))
  (.seq (.region [oa 4 (.mov (ai (-1)))] (kp 19 [4]))
  (sr 19 [4]))))⟩
theorem F126 : shutF Tryz.prog 126 = some c126 := by kernel_rfl

-- virgate/token.Valid

def c127 : IFn := ⟨68, [(2, none)],
  (.seq (.region [oa 1 (.box (.t 0)), oa 2 (.mov (.c (.bool false)))] (kp 68 [1]))
  (.seq (.seq (.region [oa 7 (.fieldAddr 0 (.t 1)), oa 8 (.load none (.t 7))] (kp 68 [1,8]))
  (.block 0
  (.seq (.seq (.region [oa 10 (.bin .eql (.t 8) (.c (.str (ByteArray.mk #[110, 97, 109, 101])))), oa 9 (.mov (.t 10))] (kp 68 [1,8,9]))
  (.cond (.t 9)
  (sk 68 [1,8,9])
  (.seq (.region [oa 11 (.bin .eql (.t 8) (.c (.str (ByteArray.mk #[99, 111, 110])))), oa 9 (.mov (.t 11))] (kp 68 [1,8,9]))
  (.cond (.t 9)
  (sk 68 [1,8,9])
  (.region [oa 12 (.bin .eql (.t 8) (.c (.str (ByteArray.mk #[107, 101, 121])))), oa 9 (.mov (.t 12))] (kp 68 [1,8,9]))))))
  (.cond (.t 9)
  (.seq (.region [oa 14 (.fieldAddr 1 (.t 1)), oa 15 (.load none (.t 14)), oa 16 (.call 174 [(.t 15)]), oa 13 (.mov (.t 16)), oa 17 (.extract (.t 13) 0), oa 18 (.extract (.t 13) 1), oa 3 (.mov (.t 17)), oa 4 (.mov (.t 18))] (kp 68 [1,3,4]))
  (.seq (.region [oa 19 (.mov (.t 3)), oa 20 (.fieldAddr 1 (.t 1)), oa 21 (.load none (.t 20)), oa 22 (.lenStr (.t 21)), oa 23 (.bin .eql (.t 19) (.t 22)), oa 24 (.mov (.t 23)), oc 25 (.mov (.t 4)) 24 tt, oc 26 (.fieldAddr 0 (.t 1)) 24 tt, oc 27 (.load none (.t 26)) 24 tt, oc 28 (.bin .eql (.t 25) (.t 27)) 24 tt, oa 29 (.pick (.t 24) (.t 28) (.c (.bool false))), oa 2 (.mov (.t 29))] (kp 68 [2]))
  (sr 68 [2])))
  (.seq (.region [oa 31 (.bin .eql (.t 8) (.c (.str (ByteArray.mk #[105, 110, 116])))), oa 30 (.mov (.t 31))] (kp 68 [1,8,30]))
  (.cond (.t 30)
  (.seq (.region [oa 33 (.fieldAddr 1 (.t 1)), oa 34 (.load none (.t 33)), oa 35 (.call 175 [(.t 34)]), oa 32 (.mov (.t 35)), oa 36 (.extract (.t 32) 0), oa 37 (.extract (.t 32) 1), oa 5 (.mov (.t 36)), oa 6 (.mov (.t 37))] (kp 68 [6]))
  (.seq (.region [oa 38 (.mov (.t 6)), oa 2 (.mov (.t 38))] (kp 68 [2]))
  (sr 68 [2])))
  (.seq (.region [oa 40 (.bin .eql (.t 8) (.c (.str (ByteArray.mk #[116, 101, 120, 116])))), oa 39 (.mov (.t 40))] (kp 68 [1,8,39]))
  (.cond (.t 39)
  (.seq (.region [oa 41 (.fieldAddr 1 (.t 1)), oa 42 (.load none (.t 41)), oa 43 (.call 176 [(.t 42)]), oa 2 (.mov (.t 43))] (kp 68 [2]))
  (sr 68 [2]))
  (.seq (.region [oa 45 (.bin .eql (.t 8) (.c (.str (ByteArray.mk #[118, 97, 114])))), oa 44 (.mov (.t 45))] (kp 68 [1,8,44]))
  (.cond (.t 44)
  (.seq (.region [oa 46 (.fieldAddr 1 (.t 1)), oa 47 (.load none (.t 46)), oa 48 (.lenStr (.t 47)), oa 49 (.bin .eql (.t 48) (ai 2)), oa 50 (.mov (.t 49)), oc 51 (.fieldAddr 1 (.t 1)) 50 tt, oc 52 (.load none (.t 51)) 50 tt, oc 53 (.indexStr (.t 52) (ai 0)) 50 tt, oc 54 (.bin .eql (.t 53) (.c (.int .u8 (39)))) 50 tt, oa 55 (.pick (.t 50) (.t 54) (.c (.bool false))), oa 56 (.mov (.t 55)), oc 57 (.fieldAddr 1 (.t 1)) 56 tt, oc 58 (.load none (.t 57)) 56 tt, oc 59 (.indexStr (.t 58) (ai 1)) 56 tt, oc 60 (.call 177 [(.c (.int .u8 (97))), (.t 59), (.c (.int .u8 (122)))]) 56 tt, oa 61 (.pick (.t 56) (.t 60) (.c (.bool false))), oa 2 (.mov (.t 61))] (kp 68 [2]))
  (sr 68 [2]))
  (.seq (.region [oa 63 (.bin .eql (.t 8) (.c (.str (ByteArray.mk #[115, 105, 103, 110])))), oa 62 (.mov (.t 63))] (kp 68 [1,62]))
  (.cond (.t 62)
  (.seq (.region [oa 65 (.fieldAddr 1 (.t 1)), oa 66 (.load none (.t 65)), oa 64 (.call 179 [(.c (.str (ByteArray.mk #[40, 32, 41, 32, 91, 32, 93, 32, 44, 32, 59, 32, 58, 32, 61, 32, 124, 32, 95, 32, 43, 32, 45, 32, 42, 32, 47, 32, 37,
 32, 60, 32, 94, 32, 58, 58, 32, 61, 62, 32, 45, 62, 32, 58, 62])))]), ob (.again 66 (.load none (.t 65))), oa 67 (.call 178 [(.t 64), (.t 66)]), oa 2 (.mov (.t 67))] (kp 68 [2]))
  (sr 68 [2]))
  (sk 68 [])))))))))))))
  (.seq (.region [oa 2 (.mov (.c (.bool false)))] (kp 68 [2]))
  (sr 68 [2]))))⟩
theorem F127 : shutF Tryz.prog 127 = some c127 := by kernel_rfl

-- (*virgate/place.count).down

def c128 : IFn := ⟨29, [(2, none)],
  (.seq (.region [oa 2 (.mov (.c (.bool false)))] (kp 29 [0]))
  (.seq (.region [oa 3 (.mov (.t 0)), oa 4 (.nilCheck (.t 3)), oa 5 (.fieldAddr 0 (.t 4)), oa 6 (.load none (.t 5)), oa 7 (.bin .add (.t 6) (ai 1)), oa 8 (.nilCheck (.t 3)), oa 9 (.fieldAddr 0 (.t 8)), ob (.store 1 (.t 9) (.t 7))] (kp 29 [0]))
  (.seq (.region [oa 10 (.mov (.t 0)), oa 11 (.nilCheck (.t 10)), oa 12 (.fieldAddr 1 (.t 11)), oa 13 (.load none (.t 12)), oa 14 (.bin .add (.t 13) (ai 1)), oa 15 (.nilCheck (.t 10)), oa 16 (.fieldAddr 1 (.t 15)), ob (.store 1 (.t 16) (.t 14))] (kp 29 [0]))
  (.seq (.region [oa 17 (.mov (.t 0)), oa 18 (.nilCheck (.t 17)), oa 19 (.fieldAddr 0 (.t 18)), oa 20 (.load none (.t 19)), oa 21 (.bin .leq (.t 20) (ai 2000)), oa 22 (.mov (.t 21)), oc 23 (.mov (.t 0)) 22 tt, oc 24 (.nilCheck (.t 23)) 22 tt, oc 25 (.fieldAddr 1 (.t 24)) 22 tt, oc 26 (.load none (.t 25)) 22 tt, oc 27 (.bin .leq (.t 26) (ai 200)) 22 tt, oa 28 (.pick (.t 22) (.t 27) (.c (.bool false))), oa 2 (.mov (.t 28))] (kp 29 [2]))
  (sr 29 [2])))))⟩
theorem F128 : shutF Tryz.prog 128 = some c128 := by kernel_rfl

-- virgate/place.own

def c129 : IFn := ⟨166, [(4, none)],
  (.seq (.region [oa 2 (.box (.t 0)), oa 3 (.box (.t 1)), oa 4 (.mov (.c (.bool false)))] (kp 166 [2,3]))
  (.seq (.region [oa 8 (.load (some 17) (.t 2)), oa 9 (.call 180 [(.t 8)]), oa 7 (.mov (.t 9)), oa 10 (.extract (.t 7) 0), oa 11 (.extract (.t 7) 1), oa 5 (.alloc [(.int .i64 (0)), (.bool false), (.bool false), (.bool false), (.bool false), (.bool false), (.bool false), (.bool false), (.bool false), (.bool false)]), ob (.store 10 (.t 5) (.t 10)), oa 6 (.mov (.t 11))] (kp 166 [2,3,5,6]))
  (.seq (.seq (.region [oa 12 (.mov (.t 6)), oa 13 (.un .not (.t 12)), oa 14 (.mov (.t 13)), oc 15 (.fieldAddr 6 (.t 2)) 14 ff, oc 16 (.load none (.t 15)) 14 ff, oc 17 (.lenSlice (.t 16)) 14 ff, oc 18 (.fieldAddr 0 (.t 5)) 14 ff, oc 19 (.load none (.t 18)) 14 ff, oc 20 (.bin .neq (.t 17) (.t 19)) 14 ff, oa 21 (.pick (.t 14) (.c (.bool true)) (.t 20)), oa 22 (.mov (.t 21)), oc 23 (.fieldAddr 1 (.t 5)) 22 ff, oc 24 (.load none (.t 23)) 22 ff, oc 25 (.un .not (.t 24)) 22 ff, oc 26 (.mov (.t 25)) 22 ff, oc 27 (.fieldAddr 4 (.t 2)) 26 tt, oc 28 (.load none (.t 27)) 26 tt, oc 29 (.bin .neq (.t 28) (ai 0)) 26 tt, oc 30 (.pick (.t 26) (.t 29) (.c (.bool false))) 22 ff, oa 31 (.pick (.t 22) (.c (.bool true)) (.t 30)), oa 32 (.mov (.t 31)), oc 33 (.fieldAddr 0 (.t 2)) 32 ff, oc 34 (.load none (.t 33)) 32 ff, oc 35 (.bin .eql (.t 34) (.c (.str (ByteArray.mk #[98, 111, 111, 108])))) 32 ff, oc 36 (.mov (.t 35)) 32 ff, oc 37 (.fieldAddr 4 (.t 2)) 36 tt, oc 38 (.load none (.t 37)) 36 tt, oc 39 (.call 139 [(ai 0), (.t 38), (ai 1)]) 36 tt, oc 40 (.un .not (.t 39)) 36 tt, oc 41 (.pick (.t 36) (.t 40) (.c (.bool false))) 32 ff, oa 42 (.pick (.t 32) (.c (.bool true)) (.t 41))] (kp 166 [2,3,5,42]))
  (.cond (.t 42)
  (.seq (.region [oa 4 (.mov (.c (.bool false)))] (kp 166 [4]))
  (sr 166 [4]))
  (sk 166 [2,3,5])))
  (.seq (.seq (.region [oa 43 (.fieldAddr 2 (.t 5)), oa 44 (.load none (.t 43)), oa 45 (.fieldAddr 1 (.t 2)), oa 46 (.load none (.t 45)), oa 47 (.bin .neq (.t 46) (.c (.str (ByteArray.mk #[])))), oa 48 (.eql true (.key (.one .b)) (.t 44) (.t 47)), oa 49 (.mov (.t 48)), oc 50 (.fieldAddr 2 (.t 5)) 49 ff, oc 51 (.load none (.t 50)) 49 ff, oc 52 (.mov (.t 51)) 49 ff, oc 53 (.load (some 17) (.t 2)) 52 tt, oc 54 (.call 181 [(.t 53)]) 52 tt, oc 55 (.un .not (.t 54)) 52 tt, oc 56 (.pick (.t 52) (.t 55) (.c (.bool false))) 49 ff, oa 57 (.pick (.t 49) (.c (.bool true)) (.t 56)), oa 58 (.mov (.t 57)), oc 59 (.fieldAddr 3 (.t 5)) 58 ff, oc 60 (.load none (.t 59)) 58 ff, oc 61 (.fieldAddr 2 (.t 2)) 58 ff, oc 62 (.load none (.t 61)) 58 ff, oc 63 (.bin .neq (.t 62) (.c (.str (ByteArray.mk #[])))) 58 ff, oc 64 (.eql true (.key (.one .b)) (.t 60) (.t 63)) 58 ff, oa 65 (.pick (.t 58) (.c (.bool true)) (.t 64)), oa 66 (.mov (.t 65)), oc 67 (.fieldAddr 3 (.t 5)) 66 ff, oc 68 (.load none (.t 67)) 66 ff, oc 69 (.mov (.t 68)) 66 ff, oc 70 (.fieldAddr 2 (.t 2)) 69 tt, oc 71 (.load none (.t 70)) 69 tt, oc 72 (.call 72 [(.t 71)]) 69 tt, oc 73 (.un .not (.t 72)) 69 tt, oc 74 (.pick (.t 69) (.t 73) (.c (.bool false))) 66 ff, oa 75 (.pick (.t 66) (.c (.bool true)) (.t 74))] (kp 166 [2,3,5,75]))
  (.cond (.t 75)
  (.seq (.region [oa 4 (.mov (.c (.bool false)))] (kp 166 [4]))
  (sr 166 [4]))
  (sk 166 [2,3,5])))
  (.seq (.seq (.region [oa 76 (.fieldAddr 3 (.t 2)), oa 77 (.load none (.t 76)), oa 78 (.call 182 [(.t 77)]), oa 79 (.un .not (.t 78)), oa 80 (.mov (.t 79)), oc 81 (.fieldAddr 4 (.t 5)) 80 ff, oc 82 (.load none (.t 81)) 80 ff, oc 83 (.un .not (.t 82)) 80 ff, oc 84 (.mov (.t 83)) 80 ff, oc 85 (.fieldAddr 3 (.t 2)) 84 tt, oc 86 (.load none (.t 85)) 84 tt, oc 87 (.bin .neq (.t 86) (.c (.str (ByteArray.mk #[])))) 84 tt, oc 88 (.pick (.t 84) (.t 87) (.c (.bool false))) 80 ff, oa 89 (.pick (.t 80) (.c (.bool true)) (.t 88)), oa 90 (.mov (.t 89)), oc 91 (.fieldAddr 5 (.t 5)) 90 ff, oc 92 (.load none (.t 91)) 90 ff, oc 93 (.un .not (.t 92)) 90 ff, oc 94 (.mov (.t 93)) 90 ff, oc 95 (.fieldAddr 5 (.t 2)) 94 tt, oc 96 (.load none (.t 95)) 94 tt, oc 97 (.bin .neq (.t 96) (ai 0)) 94 tt, oc 98 (.pick (.t 94) (.t 97) (.c (.bool false))) 90 ff, oa 99 (.pick (.t 90) (.c (.bool true)) (.t 98)), oa 100 (.mov (.t 99)), oc 101 (.fieldAddr 5 (.t 2)) 100 ff, oc 102 (.load none (.t 101)) 100 ff, oc 103 (.call 76 [(.t 102)]) 100 ff, oc 104 (.un .not (.t 103)) 100 ff, oa 105 (.pick (.t 100) (.c (.bool true)) (.t 104))] (kp 166 [2,3,5,105]))
  (.cond (.t 105)
  (.seq (.region [oa 4 (.mov (.c (.bool false)))] (kp 166 [4]))
  (sr 166 [4]))
  (sk 166 [2,3,5])))
  (.seq (.seq (.region [oa 106 (.fieldAddr 0 (.t 2)), oa 107 (.load none (.t 106)), oa 108 (.bin .eql (.t 107) (.c (.str (ByteArray.mk #[97, 112, 112])))), oa 109 (.mov (.t 108)), oc 110 (.fieldAddr 6 (.t 2)) 109 tt, oc 111 (.load none (.t 110)) 109 tt, oc 112 (.indexAddr 17 (.t 111) (ai 0)) 109 tt, oc 113 (.fieldAddr 0 (.t 112)) 109 tt, oc 114 (.load none (.t 113)) 109 tt, oc 115 (.bin .eql (.t 114) (.c (.str (ByteArray.mk #[99, 111, 110])))) 109 tt, oa 116 (.pick (.t 109) (.t 115) (.c (.bool false))), oa 117 (.mov (.t 116)), oc 118 (.fieldAddr 6 (.t 2)) 117 tt, oc 119 (.load none (.t 118)) 117 tt, oc 120 (.indexAddr 17 (.t 119) (ai 0)) 117 tt, oc 121 (.fieldAddr 6 (.t 120)) 117 tt, oc 122 (.load none (.t 121)) 117 tt, oc 123 (.lenSlice (.t 122)) 117 tt, oc 124 (.bin .eql (.t 123) (ai 0)) 117 tt, oa 125 (.pick (.t 117) (.t 124) (.c (.bool false)))] (kp 166 [2,3,5,125]))
  (.cond (.t 125)
  (.seq (.region [oa 4 (.mov (.c (.bool false)))] (kp 166 [4]))
  (sr 166 [4]))
  (sk 166 [2,3,5])))
  (.seq (.seq (.region [oa 126 (.fieldAddr 7 (.t 2)), oa 127 (.load none (.t 126)), oa 128 (.lenSlice (.t 127)), oa 129 (.bin .gtr (.t 128) (ai 0)), oa 130 (.mov (.t 129)), oc 131 (.fieldAddr 9 (.t 5)) 130 tt, oc 132 (.load none (.t 131)) 130 tt, oc 133 (.un .not (.t 132)) 130 tt, oa 134 (.pick (.t 130) (.t 133) (.c (.bool false))), oa 135 (.mov (.t 134)), oc 136 (.fieldAddr 9 (.t 5)) 135 ff, oc 137 (.load none (.t 136)) 135 ff, oc 138 (.mov (.t 137)) 135 ff, oc 139 (.fieldAddr 7 (.t 2)) 138 tt, oc 140 (.load none (.t 139)) 138 tt, oc 141 (.lenSlice (.t 140)) 138 tt, oc 142 (.bin .eql (.t 141) (ai 0)) 138 tt, oc 143 (.pick (.t 138) (.t 142) (.c (.bool false))) 135 ff, oa 144 (.pick (.t 135) (.c (.bool true)) (.t 143)), oa 145 (.mov (.t 144)), oc 146 (.fieldAddr 7 (.t 2)) 145 ff, oc 147 (.load none (.t 146)) 145 ff, oc 148 (.mkFunc 183 [] [(.t 3)]) 145 ff, oc 149 (.call 105 [(.t 147), (.t 148)]) 145 ff, oa 150 (.pick (.t 145) (.c (.bool true)) (.t 149))] (kp 166 [2,3,5,150]))
  (.cond (.t 150)
  (.seq (.region [oa 4 (.mov (.c (.bool false)))] (kp 166 [4]))
  (sr 166 [4]))
  (sk 166 [2,3,5])))
  (.seq (.seq (.region [oa 151 (.fieldAddr 6 (.t 5)), oa 152 (.load none (.t 151))] (kp 166 [2,3,5,152]))
  (.cond (.t 152)
  (.seq (.region [oa 153 (.fieldAddr 8 (.t 2)), oa 154 (.load (some 5) (.t 153)), oa 155 (.load none (.t 3)), oa 156 (.call 96 [(.t 154), (.t 155)]), oa 157 (.un .not (.t 156))] (kp 166 [2,5,157]))
  (.cond (.t 157)
  (.seq (.region [oa 4 (.mov (.c (.bool false)))] (kp 166 [4]))
  (sr 166 [4]))
  (sk 166 [2,5])))
  (.seq (.region [oa 158 (.fieldAddr 8 (.t 2)), oa 159 (.load (some 5) (.t 158)), oa 160 (.build [(.str (ByteArray.mk #[])), (.str (ByteArray.mk #[])), (.int .i64 (0)), (.slice none 0 (some 0)), (.slice none 0 (some 0))] []), oa 161 (.call 23 [(.t 159), (.t 160)]), oa 162 (.un .not (.t 161))] (kp 166 [2,5,162]))
  (.cond (.t 162)
  (.seq (.region [oa 4 (.mov (.c (.bool false)))] (kp 166 [4]))
  (sr 166 [4]))
  (sk 166 [2,5])))))
  (.seq (.region [oa 163 (.load (some 17) (.t 2)), oa 164 (.load (some 10) (.t 5)), oa 165 (.call 185 [(.t 163), (.t 164)]), oa 4 (.mov (.t 165))] (kp 166 [4]))
  (sr 166 [4]))))))))))⟩
theorem F129 : shutF Tryz.prog 129 = some c129 := by kernel_rfl

-- virgate/place.valid$1

def c130 : IFn := ⟨8, [],
  (.region [oa 1 (.load none (.t 0)), oa 2 (.nilCheck (.t 1)), oa 3 (.fieldAddr 1 (.t 2)), oa 4 (.load none (.t 3)), oa 5 (.bin .sub (.t 4) (ai 1)), oa 6 (.nilCheck (.t 1)), oa 7 (.fieldAddr 1 (.t 6)), ob (.store 1 (.t 7) (.t 5))] (kp 8 []))⟩
theorem F130 : shutF Tryz.prog 130 = some c130 := by kernel_rfl

-- slices.ContainsFunc[[]virgate/api.Ann,virgate/api.Ann]

def c134 : IFn := ⟨9, [(4, none)],
  (.seq (.region [oa 4 (.mov (.c (.bool false)))] (kp 9 [0,1]))
  (.seq (.region [oa 5 (.mov (.t 0)), oa 6 (.mov (.t 1)), oa 7 (.call 186 [(.t 5), (.t 6)]), oa 8 (.bin .geq (.t 7) (ai 0)), oa 4 (.mov (.t 8))] (kp 9 [4]))
  (sr 9 [4])))⟩
theorem F134 : shutF Tryz.prog 134 = some c134 := by kernel_rfl

-- virgate/place.valid$2

def c135 : IFn := ⟨8, [(3, none)],
  (.seq (.region [oa 2 (.box (.t 0)), oa 3 (.mov (.c (.bool false)))] (kp 8 [1,2]))
  (.seq (.region [oa 4 (.load (some 17) (.t 2)), oa 5 (.load none (.t 1)), oa 6 (.call 73 [(.t 4), (.t 5)]), oa 7 (.un .not (.t 6)), oa 3 (.mov (.t 7))] (kp 8 [3]))
  (sr 8 [3])))⟩
theorem F135 : shutF Tryz.prog 135 = some c135 := by kernel_rfl

-- virgate/place.between

def c139 : IFn := ⟨15, [(6, none)],
  (.seq (.region [oa 6 (.mov (.c (.bool false)))] (kp 15 [0,1,2]))
  (.seq (.region [oa 7 (.mov (.t 0)), oa 8 (.mov (.t 1)), oa 9 (.bin .leq (.t 7) (.t 8)), oa 10 (.mov (.t 9)), oc 11 (.mov (.t 1)) 10 tt, oc 12 (.mov (.t 2)) 10 tt, oc 13 (.bin .leq (.t 11) (.t 12)) 10 tt, oa 14 (.pick (.t 10) (.t 13) (.c (.bool false))), oa 6 (.mov (.t 14))] (kp 15 [6]))
  (sr 15 [6])))⟩
theorem F139 : shutF Tryz.prog 139 = some c139 := by kernel_rfl

-- slices.Concat[[]int,int]
def l142_0 : IC := (.seq (.seq (.region [oa 12 (.bin .lss (.t 11) (.t 10))] (kp 36 [0,3,9,10,11,12]))
  (.seq (.cond (.t 12)
  (sk 36 [0,3,9,10,11])
  (sx 36 [0,3] 0))
  (.seq (.block 1
  (.seq (.region [oa 13 (.indexAddr 1 (.t 9) (.t 11)), oa 14 (.load none (.t 13)), oa 5 (.mov (.t 14))] (kp 36 [0,3,5,9,10,11]))
  (.seq (.region [oa 15 (.mov (.t 3)), oa 16 (.mov (.t 5)), oa 17 (.lenSlice (.t 16)), oa 18 (.bin .add (.t 15) (.t 17)), oa 3 (.mov (.t 18))] (kp 36 [0,3,9,10,11]))
  (.seq (.region [oa 19 (.mov (.t 3)), oa 20 (.bin .lss (.t 19) (ai 0))] (kp 36 [0,3,9,10,11,20]))
  (.cond (.t 20)
  (.region [oa 21 .dead, ob .dead] (kp 36 [0,3,9,10,11]))
  (sk 36 [0,3,9,10,11]))))))
  (.region [oa 22 (.bin .add (.t 11) (ai 1)), oa 11 (.mov (.t 22))] (kp 36 [0,3,9,10,11])))))
  (sk 36 [0,3,9,10,11]))
def l142_1 : IC := (.seq (.seq (.region [oa 28 (.bin .lss (.t 27) (.t 26))] (kp 36 [6,25,26,27,28]))
  (.seq (.cond (.t 28)
  (sk 36 [6,25,26,27])
  (sx 36 [6] 2))
  (.seq (.block 3
  (.seq (.region [oa 29 (.indexAddr 1 (.t 25) (.t 27)), oa 30 (.load none (.t 29)), oa 8 (.mov (.t 30))] (kp 36 [6,8,25,26,27]))
  (.region [oa 31 (.mov (.t 6)), oa 32 (.mov (.t 8)), oa 33 (.append 1 8 (.t 31) (.t 32)), oa 6 (.mov (.t 33))] (kp 36 [6,25,26,27]))))
  (.region [oa 34 (.bin .add (.t 27) (ai 1)), oa 27 (.mov (.t 34))] (kp 36 [6,25,26,27])))))
  (sk 36 [6,25,26,27]))
def c142 : IFn := ⟨36, [(2, none)],
  (.seq (.region [oa 2 (.mov (.c (.slice none 0 (some 0))))] (kp 36 [0]))
  (.seq (.region [oa 3 (.mov (ai 0))] (kp 36 [0,3]))
  (.seq (.seq (.region [oa 9 (.mov (.t 0)), oa 10 (.lenSlice (.t 9)), oa 11 (.mov (ai 0))] (kp 36 [0,3,9,10,11]))
  (.block 0
  (.seq (sk 36 [0,3,9,10,11])
  (.loop l142_0))))
  (.seq (.region [oa 23 (.mov (.t 3)), oa 24 (.call 195 [(.c (.slice none 0 (some 0))), (.t 23)]), oa 6 (.mov (.t 24))] (kp 36 [0,6]))
  (.seq (.seq (.region [oa 25 (.mov (.t 0)), oa 26 (.lenSlice (.t 25)), oa 27 (.mov (ai 0))] (kp 36 [6,25,26,27]))
  (.block 2
  (.seq (sk 36 [6,25,26,27])
  (.loop l142_1))))
  (.seq (.region [oa 35 (.mov (.t 6)), oa 2 (.mov (.t 35))] (kp 36 [2]))
  (sr 36 [2])))))))⟩
theorem F142 : shutF Tryz.prog 142 = some c142 := by kernel_rfl

-- (*virgate/judge.court).knowsSome$1

def c149 : IFn := ⟨10, [(3, none)],
  (.seq (.region [oa 3 (.mov (.c (.bool false)))] (kp 10 [0,1]))
  (.seq (.region [oa 4 (.load none (.t 1)), oa 5 (.nilCheck (.t 4)), oa 6 (.fieldAddr 21 (.t 5)), oa 7 (.load none (.t 6)), oa 8 (.mov (.t 0)), oa 9 (.call 55 [(.t 7), (.t 8)]), oa 3 (.mov (.t 9))] (kp 10 [3]))
  (sr 10 [3])))⟩
theorem F149 : shutF Tryz.prog 149 = some c149 := by kernel_rfl

-- virgate/place.IsEffect

def c150 : IFn := ⟨5, [(2, none)],
  (.seq (.region [oa 2 (.mov (.c (.bool false)))] (kp 5 [0]))
  (.seq (.region [oa 3 (.mov (.t 0)), oa 4 (.call 204 [(.t 3), (.c (.func 205 [] []))]), oa 2 (.mov (.t 4))] (kp 5 [2]))
  (sr 5 [2])))⟩
theorem F150 : shutF Tryz.prog 150 = some c150 := by kernel_rfl

-- slices.DeleteFunc[[]int,int]
def l151_0 : IC := (.seq (.seq (.seq (.region [oa 16 (.mov (.t 6)), oa 17 (.mov (.t 0)), oa 18 (.lenSlice (.t 17)), oa 19 (.bin .lss (.t 16) (.t 18))] (kp 42 [0,1,5,6,19]))
  (.cond (.t 19)
  (sk 42 [0,1,5,6])
  (sx 42 [0,5] 0)))
  (.seq (.block 1
  (.seq (.region [oa 22 (.mov (.t 0)), oa 23 (.mov (.t 6)), oa 24 (.indexAddr 1 (.t 22) (.t 23)), oa 25 (.load none (.t 24)), oa 7 (.mov (.t 25))] (kp 42 [0,1,5,6,7]))
  (.seq (.region [oa 26 (.mov (.t 1)), oa 27 (.mov (.t 7)), oa 28 (.callv (.t 26) [(.t 27)]), oa 29 (.un .not (.t 28))] (kp 42 [0,1,5,6,7,29]))
  (.cond (.t 29)
  (.seq (.region [oa 30 (.mov (.t 0)), oa 31 (.mov (.t 5)), oa 32 (.mov (.t 7)), oa 33 (.indexAddr 1 (.t 30) (.t 31)), ob (.store 1 (.t 33) (.t 32))] (kp 42 [0,1,5,6]))
  (.region [oa 34 (.mov (.t 5)), oa 35 (.bin .add (.t 34) (ai 1)), oa 5 (.mov (.t 35))] (kp 42 [0,1,5,6])))
  (sk 42 [0,1,5,6])))))
  (.region [oa 20 (.mov (.t 6)), oa 21 (.bin .add (.t 20) (ai 1)), oa 6 (.mov (.t 21))] (kp 42 [0,1,5,6]))))
  (sk 42 [0,1,5,6]))
def c151 : IFn := ⟨42, [(4, none)],
  (.seq (.region [oa 4 (.mov (.c (.slice none 0 (some 0))))] (kp 42 [0,1]))
  (.seq (.region [oa 8 (.mov (.t 0)), oa 9 (.mov (.t 1)), oa 10 (.call 101 [(.t 8), (.t 9)]), oa 5 (.mov (.t 10))] (kp 42 [0,1,5]))
  (.seq (.seq (.region [oa 11 (.mov (.t 5)), oa 12 (.bin .eql (.t 11) (ai (-1)))] (kp 42 [0,1,5,12]))
  (.cond (.t 12)
  (.seq (.region [oa 13 (.mov (.t 0)), oa 4 (.mov (.t 13))] (kp 42 [4]))
  (sr 42 [4]))
  (sk 42 [0,1,5])))
  (.seq (.seq (.region [oa 14 (.mov (.t 5)), oa 15 (.bin .add (.t 14) (ai 1)), oa 6 (.mov (.t 15))] (kp 42 [0,1,5,6]))
  (.block 0
  (.seq (sk 42 [0,1,5,6])
  (.loop l151_0))))
  (.seq (.region [oa 36 (.mov (.t 0)), oa 37 (.mov (.t 5)), oa 38 (.slice 1 (.t 36) (some (.t 37)) none none), ob (.clearSlice [(.int .i64 (0))] (.t 38))] (kp 42 [0,5]))
  (.seq (.region [oa 39 (.mov (.t 0)), oa 40 (.mov (.t 5)), oa 41 (.slice 1 (.t 39) none (some (.t 40)) none), oa 4 (.mov (.t 41))] (kp 42 [4]))
  (sr 42 [4])))))))⟩
theorem F151 : shutF Tryz.prog 151 = some c151 := by kernel_rfl

-- virgate/place.Without$1

def c152 : IFn := ⟨7, [(3, none)],
  (.seq (.region [oa 3 (.mov (.c (.bool false)))] (kp 7 [0,1]))
  (.seq (.region [oa 4 (.load none (.t 1)), oa 5 (.mov (.t 0)), oa 6 (.call 55 [(.t 4), (.t 5)]), oa 3 (.mov (.t 6))] (kp 7 [3]))
  (sr 7 [3])))⟩
theorem F152 : shutF Tryz.prog 152 = some c152 := by kernel_rfl

-- (*virgate/judge.court).made

def c153 : IFn := ⟨256, [(6, (some (some 5))), (7, none), (8, none)],
  (.seq (.region [oa 4 (.box (.t 1)), oa 6 (.alloc [(.str (ByteArray.mk #[])), (.str (ByteArray.mk #[])), (.int .i64 (0)), (.slice none 0 (some 0)), (.slice none 0 (some 0))]), oa 7 (.mov (.c (.slice none 0 (some 0)))), oa 8 (.mov (.c (.bool false)))] (kp 256 [0,2,4,6]))
  (.seq (.region [oa 18 (.fieldAddr 5 (.t 4)), oa 19 (.load none (.t 18)), oa 20 (.buildSlice 1 [(.int .i64 (0))] [(0, 1, (.t 19))]), oa 9 (.mov (.t 20))] (kp 256 [0,2,4,6,9]))
  (.seq (.region [oa 21 (.build [(.str (ByteArray.mk #[])), (.str (ByteArray.mk #[])), (.int .i64 (0)), (.slice none 0 (some 0)), (.slice none 0 (some 0))] []), oa 10 (.alloc [(.str (ByteArray.mk #[])), (.str (ByteArray.mk #[])), (.int .i64 (0)), (.slice none 0 (some 0)), (.slice none 0 (some 0))]), ob (.store 5 (.t 10) (.t 21))] (kp 256 [0,2,4,6,9,10]))
  (.seq (.seq (.region [oa 22 (.fieldAddr 0 (.t 4)), oa 23 (.load none (.t 22))] (kp 256 [0,2,4,6,9,10,23]))
  (.block 0
  (.seq (.region [oa 25 (.bin .eql (.t 23) (.c (.str (ByteArray.mk #[97, 112, 112])))), oa 24 (.mov (.t 25))] (kp 256 [0,2,4,6,9,10,23,24]))
  (.cond (.t 24)
  (.seq (.region [oa 26 (.mov (.t 2)), oa 27 (.indexAddr 6 (.t 26) (ai 0)), oa 28 (.fieldAddr 0 (.t 27)), oa 29 (.load (some 5) (.t 28)), oa 11 (.alloc [(.str (ByteArray.mk #[])), (.str (ByteArray.mk #[])), (.int .i64 (0)), (.slice none 0 (some 0)), (.slice none 0 (some 0))]), ob (.store 5 (.t 11) (.t 29))] (kp 256 [2,6,10,11]))
  (.seq (.seq (.region [oa 30 (.fieldAddr 0 (.t 11)), oa 31 (.load none (.t 30)), oa 32 (.bin .neq (.t 31) (.c (.str (ByteArray.mk #[102, 110])))), oa 33 (.mov (.t 32)), oc 34 (.fieldAddr 4 (.t 11)) 33 ff, oc 35 (.load none (.t 34)) 33 ff, oc 36 (.indexAddr 5 (.t 35) (ai 0)) 33 ff, oc 37 (.load (some 5) (.t 36)) 33 ff, oc 38 (.mov (.t 2)) 33 ff, oc 39 (.indexAddr 6 (.t 38) (ai 1)) 33 ff, oc 40 (.fieldAddr 0 (.t 39)) 33 ff, oc 41 (.load (some 5) (.t 40)) 33 ff, oc 42 (.call 23 [(.t 37), (.t 41)]) 33 ff, oc 43 (.un .not (.t 42)) 33 ff, oa 44 (.pick (.t 33) (.c (.bool true)) (.t 43))] (kp 256 [6,10,11,44]))
  (.cond (.t 44)
  (.seq (.region [oa 45 (.load (some 5) (.t 10)), ob (.store 5 (.t 6) (.t 45)), oa 7 (.mov (.c (.slice none 0 (some 0)))), oa 8 (.mov (.c (.bool false)))] (kp 256 [6,7,8]))
  (sr 256 [6,7,8]))
  (sk 256 [6,11])))
  (.seq (.region [oa 46 (.fieldAddr 4 (.t 11)), oa 47 (.load none (.t 46)), oa 48 (.indexAddr 5 (.t 47) (ai 1)), oa 49 (.load (some 5) (.t 48)), oa 50 (.fieldAddr 3 (.t 11)), oa 51 (.load none (.t 50)), oa 52 (.fieldAddr 2 (.t 11)), oa 53 (.load none (.t 52)), oa 54 (.buildSlice 1 [(.int .i64 (0))] [(0, 1, (.t 53))]), oa 55 (.buildSlice 2 [(.slice none 0 (some 0)), (.slice none 0 (some 0))] [(0, 1, (.t 51)), (1, 1, (.t 54))]), oa 56 (.call 86 [(.t 55)]), ob (.again 47 (.load none (.t 46))), ob (.again 49 (.load (some 5) (.t 48))), ob (.store 5 (.t 6) (.t 49)), oa 7 (.mov (.t 56)), oa 8 (.mov (.c (.bool true)))] (kp 256 [6,7,8]))
  (sr 256 [6,7,8]))))
  (.seq (.region [oa 58 (.bin .eql (.t 23) (.c (.str (ByteArray.mk #[112, 97, 105, 114])))), oa 57 (.mov (.t 58))] (kp 256 [0,2,4,6,9,10,23,57]))
  (.cond (.t 57)
  (.seq (.region [oa 59 (.fieldAddr 5 (.t 4)), oa 60 (.load none (.t 59)), oa 61 (.mov (.t 2)), oa 62 (.indexAddr 6 (.t 61) (ai 0)), oa 63 (.fieldAddr 0 (.t 62)), oa 64 (.load (some 5) (.t 63)), oa 65 (.mov (.t 2)), oa 66 (.indexAddr 6 (.t 65) (ai 1)), oa 67 (.fieldAddr 0 (.t 66)), oa 68 (.load (some 5) (.t 67)), oa 69 (.buildSlice 2 [(.str (ByteArray.mk #[])), (.str (ByteArray.mk #[])), (.int .i64 (0)), (.slice none 0 (some 0)), (.slice none 0 (some 0)), (.str (ByteArray.mk #[])), (.str (ByteArray.mk #[])), (.int .i64 (0)), (.slice none 0 (some 0)), (.slice none 0 (some 0))] [(0, 5, (.t 64)), (5, 5, (.t 68))]), oa 70 (.build [(.str (ByteArray.mk #[])), (.str (ByteArray.mk #[])), (.int .i64 (0)), (.slice none 0 (some 0)), (.slice none 0 (some 0))] [(0, 1, (.c (.str (ByteArray.mk #[112, 97, 105, 114])))), (2, 1, (.t 60)), (4, 1, (.t 69))]), oa 71 (.mov (.t 9)), oa 72 (.mov (.t 0)), oa 73 (.fieldAddr 5 (.t 4)), oa 74 (.load none (.t 73)), oa 75 (.buildSlice 1 [(.int .i64 (0))] [(0, 1, (.t 74))]), oa 76 (.call 80 [(.t 72), (.t 75)]), ob (.again 60 (.load none (.t 59))), ob (.again 64 (.load (some 5) (.t 63))), ob (.again 68 (.load (some 5) (.t 67))), ob (.store 5 (.t 6) (.t 70)), oa 7 (.mov (.t 71)), oa 8 (.mov (.t 76))] (kp 256 [6,7,8]))
  (sr 256 [6,7,8]))
  (.seq (.region [oa 78 (.bin .eql (.t 23) (.c (.str (ByteArray.mk #[99, 111, 110, 115])))), oa 77 (.mov (.t 78))] (kp 256 [0,2,4,6,9,10,23,77]))
  (.cond (.t 77)
  (.seq (.region [oa 79 (.mov (.t 2)), oa 80 (.indexAddr 6 (.t 79) (ai 1)), oa 81 (.fieldAddr 0 (.t 80)), oa 82 (.load (some 5) (.t 81)), oa 12 (.alloc [(.str (ByteArray.mk #[])), (.str (ByteArray.mk #[])), (.int .i64 (0)), (.slice none 0 (some 0)), (.slice none 0 (some 0))]), ob (.store 5 (.t 12) (.t 82))] (kp 256 [0,2,4,6,9,12]))
  (.seq (.region [oa 83 (.load (some 5) (.t 12)), oa 84 (.mov (.t 9)), oa 85 (.mov (.t 0)), oa 86 (.fieldAddr 5 (.t 4)), oa 87 (.load none (.t 86)), oa 88 (.buildSlice 1 [(.int .i64 (0))] [(0, 1, (.t 87))]), oa 89 (.call 80 [(.t 85), (.t 88)]), ob (.again 83 (.load (some 5) (.t 12))), oa 90 (.mov (.t 89)), oc 91 (.fieldAddr 0 (.t 12)) 90 tt, oc 92 (.load none (.t 91)) 90 tt, oc 93 (.bin .eql (.t 92) (.c (.str (ByteArray.mk #[108, 105, 115, 116])))) 90 tt, oa 94 (.pick (.t 90) (.t 93) (.c (.bool false))), oa 95 (.mov (.t 94)), oc 96 (.fieldAddr 2 (.t 12)) 95 tt, oc 97 (.load none (.t 96)) 95 tt, oc 98 (.fieldAddr 5 (.t 4)) 95 tt, oc 99 (.load none (.t 98)) 95 tt, oc 100 (.bin .eql (.t 97) (.t 99)) 95 tt, oa 101 (.pick (.t 95) (.t 100) (.c (.bool false))), oa 102 (.mov (.t 101)), oc 103 (.fieldAddr 4 (.t 12)) 102 tt, oc 104 (.load none (.t 103)) 102 tt, oc 105 (.indexAddr 5 (.t 104) (ai 0)) 102 tt, oc 106 (.load (some 5) (.t 105)) 102 tt, oc 107 (.mov (.t 2)) 102 tt, oc 108 (.indexAddr 6 (.t 107) (ai 0)) 102 tt, oc 109 (.fieldAddr 0 (.t 108)) 102 tt, oc 110 (.load (some 5) (.t 109)) 102 tt, oc 111 (.call 23 [(.t 106), (.t 110)]) 102 tt, ob (.again 83 (.load (some 5) (.t 12))), oa 112 (.pick (.t 102) (.t 111) (.c (.bool false))), ob (.store 5 (.t 6) (.t 83)), oa 7 (.mov (.t 84)), oa 8 (.mov (.t 112))] (kp 256 [6,7,8]))
  (sr 256 [6,7,8])))
  (.seq (.region [oa 114 (.bin .eql (.t 23) (.c (.str (ByteArray.mk #[99, 111, 110])))), oa 113 (.mov (.t 114))] (kp 256 [0,2,4,6,9,10,23,113]))
  (.cond (.t 113)
  (.seq (.region [oa 116 (.mov (.t 0)), oa 117 (.nilCheck (.t 116)), oa 118 (.fieldAddr 19 (.t 117)), oa 119 (.load none (.t 118)), oa 120 (.fieldAddr 1 (.t 4)), oa 121 (.load none (.t 120)), oa 122 (.lookup (.one .s) (.agg [(.int .i64 (0)), (.str (ByteArray.mk #[])), (.bool false), (.str (ByteArray.mk #[])), (.str (ByteArray.mk #[])), (.slice none 0 (some 0))]) true (.t 119) (.t 121)), oa 115 (.mov (.t 122)), oa 123 (.extract (.t 115) 0), oa 124 (.extract (.t 115) 1), oa 13 (.alloc [(.int .i64 (0)), (.str (ByteArray.mk #[])), (.bool false), (.str (ByteArray.mk #[])), (.str (ByteArray.mk #[])), (.slice none 0 (some 0))]), ob (.store 6 (.t 13) (.t 123)), oa 14 (.mov (.t 124))] (kp 256 [0,2,4,6,9,10,13,14]))
  (.seq (.seq (.region [oa 125 (.mov (.t 14)), oa 126 (.un .not (.t 125)), oa 127 (.mov (.t 126)), oc 128 (.fieldAddr 1 (.t 13)) 127 ff, oc 129 (.fieldAddr 1 (.t 128)) 127 ff, oc 130 (.load none (.t 129)) 127 ff, oc 131 (.fieldAddr 6 (.t 4)) 127 ff, oc 132 (.load none (.t 131)) 127 ff, oc 133 (.lenSlice (.t 132)) 127 ff, oc 134 (.bin .eql (.t 133) (ai 1)) 127 ff, oc 135 (.eql true (.key (.one .b)) (.t 130) (.t 134)) 127 ff, oa 136 (.pick (.t 127) (.c (.bool true)) (.t 135)), oa 137 (.mov (.t 136)), oc 138 (.mov (.t 0)) 137 ff, oc 139 (.fieldAddr 5 (.t 4)) 137 ff, oc 140 (.load none (.t 139)) 137 ff, oc 141 (.buildSlice 1 [(.int .i64 (0))] [(0, 1, (.t 140))]) 137 ff, oc 142 (.call 80 [(.t 138), (.t 141)]) 137 ff, oc 143 (.un .not (.t 142)) 137 ff, oa 144 (.pick (.t 137) (.c (.bool true)) (.t 143))] (kp 256 [0,2,4,6,9,10,13,144]))
  (.cond (.t 144)
  (.seq (.region [oa 145 (.load (some 5) (.t 10)), ob (.store 5 (.t 6) (.t 145)), oa 7 (.mov (.c (.slice none 0 (some 0)))), oa 8 (.mov (.c (.bool false)))] (kp 256 [6,7,8]))
  (sr 256 [6,7,8]))
  (sk 256 [0,2,4,6,9,13])))
  (.seq (.region [oa 146 (.mov (.t 0)), oa 147 (.nilCheck (.t 146)), oa 148 (.fieldAddr 0 (.t 147)), oa 149 (.fieldAddr 0 (.t 148)), oa 150 (.load none (.t 149)), oa 151 (.fieldAddr 0 (.t 13)), oa 152 (.load none (.t 151)), oa 153 (.indexAddr 2 (.t 150) (.t 152)), oa 154 (.fieldAddr 0 (.t 153)), oa 155 (.load none (.t 154)), oa 156 (.fieldAddr 5 (.t 4)), oa 157 (.load none (.t 156)), oa 158 (.build [(.str (ByteArray.mk #[])), (.str (ByteArray.mk #[])), (.int .i64 (0)), (.slice none 0 (some 0)), (.slice none 0 (some 0))] [(0, 1, (.c (.str (ByteArray.mk #[100, 97, 116, 97])))), (1, 1, (.t 155)), (2, 1, (.t 157))]), oa 15 (.alloc [(.str (ByteArray.mk #[])), (.str (ByteArray.mk #[])), (.int .i64 (0)), (.slice none 0 (some 0)), (.slice none 0 (some 0))]), ob (.store 5 (.t 15) (.t 158))] (kp 256 [2,4,6,9,13,15]))
  (.seq (.seq (.region [oa 159 (.fieldAddr 1 (.t 13)), oa 160 (.fieldAddr 1 (.t 159)), oa 161 (.load none (.t 160)), oa 162 (.un .not (.t 161))] (kp 256 [2,4,6,9,13,15,162]))
  (.cond (.t 162)
  (.seq (.region [oa 163 (.load (some 5) (.t 15)), ob (.store 5 (.t 6) (.t 163)), oa 7 (.mov (.c (.slice none 0 (some 0)))), oa 8 (.mov (.c (.bool true)))] (kp 256 [6,7,8]))
  (sr 256 [6,7,8]))
  (sk 256 [2,4,6,9,13,15])))
  (.seq (.region [oa 164 (.load (some 5) (.t 15)), oa 165 (.mov (.t 9)), oa 166 (.mov (.t 2)), oa 167 (.indexAddr 6 (.t 166) (ai 0)), oa 168 (.fieldAddr 0 (.t 167)), oa 169 (.load (some 5) (.t 168)), oa 170 (.fieldAddr 1 (.t 13)), oa 171 (.fieldAddr 2 (.t 170)), oa 172 (.load (some 3) (.t 171)), oa 173 (.fieldAddr 5 (.t 4)), oa 174 (.load none (.t 173)), oa 175 (.call 147 [(.t 172), (.t 174)]), ob (.again 164 (.load (some 5) (.t 15))), ob (.again 169 (.load (some 5) (.t 168))), oa 176 (.call 23 [(.t 169), (.t 175)]), ob (.again 164 (.load (some 5) (.t 15))), ob (.store 5 (.t 6) (.t 164)), oa 7 (.mov (.t 165)), oa 8 (.mov (.t 176))] (kp 256 [6,7,8]))
  (sr 256 [6,7,8]))))))
  (.seq (.region [oa 178 (.bin .eql (.t 23) (.c (.str (ByteArray.mk #[105, 102])))), oa 177 (.mov (.t 178))] (kp 256 [0,2,4,6,10,23,177]))
  (.cond (.t 177)
  (.seq (.region [oa 179 (.mov (.t 2)), oa 180 (.indexAddr 6 (.t 179) (ai 1)), oa 181 (.fieldAddr 0 (.t 180)), oa 182 (.load (some 5) (.t 181)), oa 183 (.mov (.t 2)), oa 184 (.indexAddr 6 (.t 183) (ai 0)), oa 185 (.fieldAddr 0 (.t 184)), oa 186 (.fieldAddr 0 (.t 185)), oa 187 (.load none (.t 186)), oa 188 (.bin .eql (.t 187) (.c (.str (ByteArray.mk #[98, 111, 111, 108])))), oa 189 (.mov (.t 188)), oc 190 (.mov (.t 2)) 189 tt, oc 191 (.indexAddr 6 (.t 190) (ai 1)) 189 tt, oc 192 (.fieldAddr 0 (.t 191)) 189 tt, oc 193 (.load (some 5) (.t 192)) 189 tt, oc 194 (.mov (.t 2)) 189 tt, oc 195 (.indexAddr 6 (.t 194) (ai 2)) 189 tt, oc 196 (.fieldAddr 0 (.t 195)) 189 tt, oc 197 (.load (some 5) (.t 196)) 189 tt, oc 198 (.call 23 [(.t 193), (.t 197)]) 189 tt, ob (.again 182 (.load (some 5) (.t 181))), oa 199 (.pick (.t 189) (.t 198) (.c (.bool false))), ob (.store 5 (.t 6) (.t 182)), oa 7 (.mov (.c (.slice none 0 (some 0)))), oa 8 (.mov (.t 199))] (kp 256 [6,7,8]))
  (sr 256 [6,7,8]))
  (.seq (.region [oa 201 (.bin .eql (.t 23) (.c (.str (ByteArray.mk #[114, 97, 105, 115, 101])))), oa 200 (.mov (.t 201))] (kp 256 [0,2,4,6,10,23,200]))
  (.cond (.t 200)
  (.seq (.region [oa 203 (.mov (.t 0)), oa 204 (.nilCheck (.t 203)), oa 205 (.fieldAddr 20 (.t 204)), oa 206 (.load none (.t 205)), oa 207 (.fieldAddr 1 (.t 4)), oa 208 (.load none (.t 207)), oa 209 (.lookup (.one .s) (.agg [(.str (ByteArray.mk #[])), (.bool false), (.str (ByteArray.mk #[])), (.str (ByteArray.mk #[])), (.slice none 0 (some 0))]) true (.t 206) (.t 208)), oa 202 (.mov (.t 209)), oa 210 (.extract (.t 202) 0), oa 211 (.extract (.t 202) 1), oa 16 (.alloc [(.str (ByteArray.mk #[])), (.bool false), (.str (ByteArray.mk #[])), (.str (ByteArray.mk #[])), (.slice none 0 (some 0))]), ob (.store 5 (.t 16) (.t 210)), oa 17 (.mov (.t 211))] (kp 256 [0,2,4,6,10,16,17]))
  (.seq (.seq (.region [oa 212 (.mov (.t 17)), oa 213 (.un .not (.t 212)), oa 214 (.mov (.t 213)), oc 215 (.fieldAddr 1 (.t 16)) 214 ff, oc 216 (.load none (.t 215)) 214 ff, oc 217 (.fieldAddr 6 (.t 4)) 214 ff, oc 218 (.load none (.t 217)) 214 ff, oc 219 (.lenSlice (.t 218)) 214 ff, oc 220 (.bin .eql (.t 219) (ai 1)) 214 ff, oc 221 (.eql true (.key (.one .b)) (.t 216) (.t 220)) 214 ff, oa 222 (.pick (.t 214) (.c (.bool true)) (.t 221)), oa 223 (.mov (.t 222)), oc 224 (.mov (.t 0)) 223 ff, oc 225 (.fieldAddr 8 (.t 4)) 223 ff, oc 226 (.load (some 5) (.t 225)) 223 ff, oc 227 (.call 82 [(.t 224), (.t 226)]) 223 ff, oc 228 (.un .not (.t 227)) 223 ff, oa 229 (.pick (.t 223) (.c (.bool true)) (.t 228))] (kp 256 [2,4,6,10,16,229]))
  (.cond (.t 229)
  (.seq (.region [oa 230 (.load (some 5) (.t 10)), ob (.store 5 (.t 6) (.t 230)), oa 7 (.mov (.c (.slice none 0 (some 0)))), oa 8 (.mov (.c (.bool false)))] (kp 256 [6,7,8]))
  (sr 256 [6,7,8]))
  (sk 256 [2,4,6,16])))
  (.seq (.region [oa 231 (.fieldAddr 8 (.t 4)), oa 232 (.load (some 5) (.t 231)), oa 233 (.fieldAddr 1 (.t 16)), oa 234 (.load none (.t 233)), oa 235 (.un .not (.t 234)), oa 236 (.mov (.t 235)), oc 237 (.mov (.t 2)) 236 ff, oc 238 (.indexAddr 6 (.t 237) (ai 0)) 236 ff, oc 239 (.fieldAddr 0 (.t 238)) 236 ff, oc 240 (.load (some 5) (.t 239)) 236 ff, oc 241 (.fieldAddr 2 (.t 16)) 236 ff, oc 242 (.load (some 3) (.t 241)) 236 ff, oc 243 (.call 147 [(.t 242), (ai 0)]) 236 ff, ob (.again 232 (.load (some 5) (.t 231))), oe (.again 240 (.load (some 5) (.t 239))) 236 ff, oc 244 (.call 23 [(.t 240), (.t 243)]) 236 ff, ob (.again 232 (.load (some 5) (.t 231))), oa 245 (.pick (.t 236) (.c (.bool true)) (.t 244)), ob (.store 5 (.t 6) (.t 232)), oa 7 (.mov (.c (.slice none 0 (some 0)))), oa 8 (.mov (.t 245))] (kp 256 [6,7,8]))
  (sr 256 [6,7,8]))))
  (.seq (.region [oa 247 (.bin .eql (.t 23) (.c (.str (ByteArray.mk #[111, 112])))), oa 246 (.mov (.t 247))] (kp 256 [0,2,4,6,10,246]))
  (.cond (.t 246)
  (.seq (.region [oa 248 (.mov (.t 0)), oa 249 (.load (some 17) (.t 4)), oa 250 (.mov (.t 2)), oa 251 (.call 206 [(.t 248), (.t 249), (.t 250)]), oa 252 (.extract (.t 251) 0), oa 253 (.extract (.t 251) 1), oa 254 (.extract (.t 251) 2), ob (.store 5 (.t 6) (.t 252)), oa 7 (.mov (.t 253)), oa 8 (.mov (.t 254))] (kp 256 [6,7,8]))
  (sr 256 [6,7,8]))
  (sk 256 [6,10])))))))))))))))))
  (.seq (.region [oa 255 (.load (some 5) (.t 10)), ob (.store 5 (.t 6) (.t 255)), oa 7 (.mov (.c (.slice none 0 (some 0)))), oa 8 (.mov (.c (.bool false)))] (kp 256 [6,7,8]))
  (sr 256 [6,7,8]))))))⟩
theorem F153 : shutF Tryz.prog 153 = some c153 := by kernel_rfl

-- virgate/place.validType$1

def c154 : IFn := ⟨8, [],
  (.region [oa 1 (.load none (.t 0)), oa 2 (.nilCheck (.t 1)), oa 3 (.fieldAddr 1 (.t 2)), oa 4 (.load none (.t 3)), oa 5 (.bin .sub (.t 4) (ai 1)), oa 6 (.nilCheck (.t 1)), oa 7 (.fieldAddr 1 (.t 6)), ob (.store 1 (.t 7) (.t 5))] (kp 8 []))⟩
theorem F154 : shutF Tryz.prog 154 = some c154 := by kernel_rfl

-- slices.ContainsFunc[[]virgate/api.RTy,virgate/api.RTy]

def c155 : IFn := ⟨9, [(4, none)],
  (.seq (.region [oa 4 (.mov (.c (.bool false)))] (kp 9 [0,1]))
  (.seq (.region [oa 5 (.mov (.t 0)), oa 6 (.mov (.t 1)), oa 7 (.call 207 [(.t 5), (.t 6)]), oa 8 (.bin .geq (.t 7) (ai 0)), oa 4 (.mov (.t 8))] (kp 9 [4]))
  (sr 9 [4])))⟩
theorem F155 : shutF Tryz.prog 155 = some c155 := by kernel_rfl


def tab3 : List (Nat × IFn) := [(126, c126), (127, c127), (128, c128), (129, c129), (130, c130), (134, c134), (135, c135), (139, c139), (142, c142), (149, c149), (150, c150), (151, c151), (152, c152), (153, c153), (154, c154), (155, c155)]
theorem tab3_ok : ∀ p ∈ tab3, PF p.1 = some p.2 := by
  simp only [tab3, List.mem_cons, List.not_mem_nil, or_false, forall_eq_or_imp, forall_eq]
  exact ⟨F126, F127, F128, F129, F130, F134, F135, F139, F142, F149, F150, F151, F152, F153, F154, F155⟩
end Go.Proofs.YtfcaamoapdibiaaGreatDoor.S
