/- Layer 11: the code of the functions that its closed call runs. -/
import Derived.Test.YtfcaamoapdibiaaGreatDoorJa0
set_option linter.unusedSimpArgs false
set_option linter.unusedVariables false
namespace Go.Proofs.YtfcaamoapdibiaaGreatDoor.S
open Go Go.IM Go.Proofs.YtfcaamoapdibiaaGreatDoor

-- (*virgate/judge.court).rule

def c49 : IFn := ⟨198, [(8, (some (some 6))), (9, none)],
  (.seq (.region [oa 4 (.box (.t 0)), oa 5 (.box (.t 1)), oa 6 (.box (.t 2)), oa 7 (.box (.t 3)), oa 8 (.alloc [(.str (ByteArray.mk #[])), (.str (ByteArray.mk #[])), (.int .i64 (0)), (.slice none 0 (some 0)), (.slice none 0 (some 0)), (.slice none 0 (some 0))]), oa 9 (.mov (.c (.bool false)))] (kp 198 [4,5,6,7,8]))
  (.seq (.seq (.region [oa 18 (.fieldAddr 0 (.t 5)), oa 19 (.load none (.t 18))] (kp 198 [4,5,6,7,8,19]))
  (.block 0
  (.seq (.seq (.region [oa 21 (.bin .eql (.t 19) (.c (.str (ByteArray.mk #[105, 110, 116])))), oa 20 (.mov (.t 21))] (kp 198 [4,5,6,7,8,19,20]))
  (.cond (.t 20)
  (sk 198 [4,5,6,7,8,19,20])
  (.seq (.region [oa 22 (.bin .eql (.t 19) (.c (.str (ByteArray.mk #[98, 111, 111, 108])))), oa 20 (.mov (.t 22))] (kp 198 [4,5,6,7,8,19,20]))
  (.cond (.t 20)
  (sk 198 [4,5,6,7,8,19,20])
  (.region [oa 23 (.bin .eql (.t 19) (.c (.str (ByteArray.mk #[117, 110, 105, 116])))), oa 20 (.mov (.t 23))] (kp 198 [4,5,6,7,8,19,20]))))))
  (.cond (.t 20)
  (.seq (.region [oa 24 (.fieldAddr 0 (.t 5)), oa 25 (.load none (.t 24)), oa 26 (.call 79 [(.t 25)]), oa 27 (.build [(.str (ByteArray.mk #[])), (.str (ByteArray.mk #[])), (.int .i64 (0)), (.slice none 0 (some 0)), (.slice none 0 (some 0)), (.slice none 0 (some 0))] [(0, 5, (.t 26))]), ob (.store 6 (.t 8) (.t 27)), oa 9 (.mov (.c (.bool true)))] (kp 198 [8,9]))
  (sr 198 [8,9]))
  (.seq (.region [oa 29 (.bin .eql (.t 19) (.c (.str (ByteArray.mk #[116, 101, 120, 116])))), oa 28 (.mov (.t 29))] (kp 198 [4,5,6,7,8,19,28]))
  (.cond (.t 28)
  (.seq (.region [oa 30 (.fieldAddr 5 (.t 5)), oa 31 (.load none (.t 30)), oa 32 (.build [(.str (ByteArray.mk #[])), (.str (ByteArray.mk #[])), (.int .i64 (0)), (.slice none 0 (some 0)), (.slice none 0 (some 0))] [(0, 1, (.c (.str (ByteArray.mk #[116, 101, 120, 116])))), (2, 1, (.t 31))]), oa 33 (.fieldAddr 5 (.t 5)), oa 34 (.load none (.t 33)), oa 35 (.buildSlice 1 [(.int .i64 (0))] [(0, 1, (.t 34))]), oa 36 (.build [(.str (ByteArray.mk #[])), (.str (ByteArray.mk #[])), (.int .i64 (0)), (.slice none 0 (some 0)), (.slice none 0 (some 0)), (.slice none 0 (some 0))] [(0, 5, (.t 32)), (5, 1, (.t 35))]), oa 37 (.load none (.t 4)), oa 38 (.fieldAddr 5 (.t 5)), oa 39 (.load none (.t 38)), oa 40 (.buildSlice 1 [(.int .i64 (0))] [(0, 1, (.t 39))]), oa 41 (.call 80 [(.t 37), (.t 40)]), ob (.again 31 (.load none (.t 30))), ob (.again 34 (.load none (.t 33))), ob (.store 6 (.t 8) (.t 36)), oa 9 (.mov (.t 41))] (kp 198 [8,9]))
  (sr 198 [8,9]))
  (.seq (.region [oa 43 (.bin .eql (.t 19) (.c (.str (ByteArray.mk #[118, 97, 114])))), oa 42 (.mov (.t 43))] (kp 198 [4,5,6,7,8,19,42]))
  (.cond (.t 42)
  (.seq (.region [oa 44 (.load none (.t 6)), oa 45 (.fieldAddr 1 (.t 5)), oa 46 (.load none (.t 45)), oa 47 (.call 81 [(.t 44), (.t 46)]), oa 10 (.mov (.t 47))] (kp 198 [8,10]))
  (.seq (.seq (.region [oa 48 (.mov (.t 10)), oa 49 (.eql false .ptr (.t 48) (.c (.ptr none))), oa 50 (.mov (.t 49)), oc 51 (.mov (.t 10)) 50 ff, oc 52 (.nilCheck (.t 51)) 50 ff, oc 53 (.fieldAddr 1 (.t 52)) 50 ff, oc 54 (.load none (.t 53)) 50 ff, oa 55 (.pick (.t 50) (.c (.bool true)) (.t 54))] (kp 198 [8,10,55]))
  (.cond (.t 55)
  (.seq (.region [oa 56 (.build [(.str (ByteArray.mk #[])), (.str (ByteArray.mk #[])), (.int .i64 (0)), (.slice none 0 (some 0)), (.slice none 0 (some 0)), (.slice none 0 (some 0))] []), ob (.store 6 (.t 8) (.t 56)), oa 9 (.mov (.c (.bool false)))] (kp 198 [8,9]))
  (sr 198 [8,9]))
  (sk 198 [8,10])))
  (.seq (.region [oa 57 (.mov (.t 10)), oa 58 (.nilCheck (.t 57)), oa 59 (.fieldAddr 4 (.t 58)), oa 60 (.load (some 5) (.t 59)), oa 61 (.build [(.str (ByteArray.mk #[])), (.str (ByteArray.mk #[])), (.int .i64 (0)), (.slice none 0 (some 0)), (.slice none 0 (some 0)), (.slice none 0 (some 0))] [(0, 5, (.t 60))]), ob (.store 6 (.t 8) (.t 61)), oa 9 (.mov (.c (.bool true)))] (kp 198 [8,9]))
  (sr 198 [8,9]))))
  (.seq (.region [oa 63 (.bin .eql (.t 19) (.c (.str (ByteArray.mk #[110, 105, 108])))), oa 62 (.mov (.t 63))] (kp 198 [4,5,6,7,8,19,62]))
  (.cond (.t 62)
  (.seq (.region [oa 64 (.fieldAddr 8 (.t 5)), oa 65 (.load (some 5) (.t 64)), oa 66 (.build [(.str (ByteArray.mk #[])), (.str (ByteArray.mk #[])), (.int .i64 (0)), (.slice none 0 (some 0)), (.slice none 0 (some 0)), (.slice none 0 (some 0))] [(0, 5, (.t 65))]), oa 67 (.load none (.t 4)), oa 68 (.fieldAddr 8 (.t 5)), oa 69 (.load (some 5) (.t 68)), oa 70 (.call 82 [(.t 67), (.t 69)]), ob (.again 65 (.load (some 5) (.t 64))), ob (.store 6 (.t 8) (.t 66)), oa 9 (.mov (.t 70))] (kp 198 [8,9]))
  (sr 198 [8,9]))
  (.seq (.region [oa 72 (.bin .eql (.t 19) (.c (.str (ByteArray.mk #[102, 110])))), oa 71 (.mov (.t 72))] (kp 198 [4,5,6,7,8,19,71]))
  (.cond (.t 71)
  (.seq (.region [oa 73 (.load none (.t 4)), oa 74 (.load (some 17) (.t 5)), oa 75 (.load none (.t 6)), oa 76 (.load none (.t 7)), oa 77 (.call 83 [(.t 73), (.t 74), (.t 75), (.t 76)]), oa 78 (.extract (.t 77) 0), oa 79 (.extract (.t 77) 1), ob (.store 6 (.t 8) (.t 78)), oa 9 (.mov (.t 79))] (kp 198 [8,9]))
  (sr 198 [8,9]))
  (.seq (.region [oa 81 (.bin .eql (.t 19) (.c (.str (ByteArray.mk #[102, 117, 110])))), oa 80 (.mov (.t 81))] (kp 198 [4,5,6,7,8,19,80]))
  (.cond (.t 80)
  (.seq (.region [oa 82 (.load none (.t 4)), oa 83 (.load (some 17) (.t 5)), oa 84 (.load none (.t 6)), oa 85 (.load none (.t 7)), oa 86 (.call 84 [(.t 82), (.t 83), (.t 84), (.t 85)]), oa 87 (.extract (.t 86) 0), oa 88 (.extract (.t 86) 1), ob (.store 6 (.t 8) (.t 87)), oa 9 (.mov (.t 88))] (kp 198 [8,9]))
  (sr 198 [8,9]))
  (.seq (.region [oa 90 (.bin .eql (.t 19) (.c (.str (ByteArray.mk #[108, 101, 116])))), oa 89 (.mov (.t 90))] (kp 198 [4,5,6,7,8,19,89]))
  (.cond (.t 89)
  (.seq (.region [oa 92 (.load none (.t 4)), oa 93 (.load (some 17) (.t 5)), oa 94 (.load none (.t 6)), oa 95 (.load none (.t 7)), oa 96 (.call 85 [(.t 92), (.t 93), (ai 0), (.t 94), (.t 95)]), oa 91 (.mov (.t 96)), oa 97 (.extract (.t 91) 0), oa 98 (.extract (.t 91) 1), oa 11 (.alloc [(.str (ByteArray.mk #[])), (.str (ByteArray.mk #[])), (.int .i64 (0)), (.slice none 0 (some 0)), (.slice none 0 (some 0)), (.slice none 0 (some 0))]), ob (.store 6 (.t 11) (.t 97)), oa 12 (.mov (.t 98))] (kp 198 [4,5,6,7,8,11,12]))
  (.seq (.seq (.region [oa 99 (.mov (.t 12)), oa 100 (.un .not (.t 99))] (kp 198 [4,5,6,7,8,11,100]))
  (.cond (.t 100)
  (.seq (.region [oa 101 (.load (some 6) (.t 11)), ob (.store 6 (.t 8) (.t 101)), oa 9 (.mov (.c (.bool false)))] (kp 198 [8,9]))
  (sr 198 [8,9]))
  (sk 198 [4,5,6,7,8,11])))
  (.seq (.region [oa 103 (.load none (.t 4)), oa 104 (.load (some 17) (.t 5)), oa 105 (.fieldAddr 2 (.t 5)), oa 106 (.load none (.t 105)), oa 107 (.fieldAddr 0 (.t 11)), oa 108 (.load (some 5) (.t 107)), oa 109 (.build [(.str (ByteArray.mk #[])), (.bool false), (.slice none 0 (some 0)), (.slice none 0 (some 0)), (.str (ByteArray.mk #[])), (.str (ByteArray.mk #[])), (.int .i64 (0)), (.slice none 0 (some 0)), (.slice none 0 (some 0))] [(0, 1, (.t 106)), (4, 5, (.t 108))]), oa 110 (.load none (.t 6)), oa 111 (.build [(.str (ByteArray.mk #[])), (.bool false), (.slice none 0 (some 0)), (.slice none 0 (some 0)), (.str (ByteArray.mk #[])), (.str (ByteArray.mk #[])), (.int .i64 (0)), (.slice none 0 (some 0)), (.slice none 0 (some 0)), (.ptr none)] [(0, 9, (.t 109)), (9, 1, (.t 110))]), oa 112 (.box (.t 111)), oa 113 (.load none (.t 7)), oa 114 (.call 85 [(.t 103), (.t 104), (ai 1), (.t 112), (.t 113)]), oa 102 (.mov (.t 114)), oa 115 (.extract (.t 102) 0), oa 116 (.extract (.t 102) 1), oa 13 (.alloc [(.str (ByteArray.mk #[])), (.str (ByteArray.mk #[])), (.int .i64 (0)), (.slice none 0 (some 0)), (.slice none 0 (some 0)), (.slice none 0 (some 0))]), ob (.store 6 (.t 13) (.t 115)), oa 12 (.mov (.t 116))] (kp 198 [8,11,12,13]))
  (.seq (.region [oa 117 (.fieldAddr 0 (.t 13)), oa 118 (.load (some 5) (.t 117)), oa 119 (.fieldAddr 5 (.t 11)), oa 120 (.load none (.t 119)), oa 121 (.fieldAddr 5 (.t 13)), oa 122 (.load none (.t 121)), oa 123 (.buildSlice 2 [(.slice none 0 (some 0)), (.slice none 0 (some 0))] [(0, 1, (.t 120)), (1, 1, (.t 122))]), oa 126 (.mov (.t 12)), oa 124 (.call 86 [(.t 123)]), ob (.again 118 (.load (some 5) (.t 117))), oa 125 (.build [(.str (ByteArray.mk #[])), (.str (ByteArray.mk #[])), (.int .i64 (0)), (.slice none 0 (some 0)), (.slice none 0 (some 0)), (.slice none 0 (some 0))] [(0, 5, (.t 118)), (5, 1, (.t 124))]), ob (.store 6 (.t 8) (.t 125)), oa 9 (.mov (.t 126))] (kp 198 [8,9]))
  (sr 198 [8,9])))))
  (.seq (.region [oa 128 (.bin .eql (.t 19) (.c (.str (ByteArray.mk #[99, 97, 115, 101])))), oa 127 (.mov (.t 128))] (kp 198 [4,5,6,7,8,19,127]))
  (.cond (.t 127)
  (.seq (.region [oa 129 (.load none (.t 4)), oa 130 (.load (some 17) (.t 5)), oa 131 (.load none (.t 6)), oa 132 (.load none (.t 7)), oa 133 (.call 87 [(.t 129), (.t 130), (.t 131), (.t 132)]), oa 134 (.extract (.t 133) 0), oa 135 (.extract (.t 133) 1), ob (.store 6 (.t 8) (.t 134)), oa 9 (.mov (.t 135))] (kp 198 [8,9]))
  (sr 198 [8,9]))
  (.seq (.region [oa 137 (.bin .eql (.t 19) (.c (.str (ByteArray.mk #[104, 97, 110, 100, 108, 101])))), oa 136 (.mov (.t 137))] (kp 198 [4,5,6,7,8,19,136]))
  (.cond (.t 136)
  (.seq (.region [oa 138 (.load none (.t 4)), oa 139 (.load (some 17) (.t 5)), oa 140 (.load none (.t 6)), oa 141 (.load none (.t 7)), oa 142 (.call 88 [(.t 138), (.t 139), (.t 140), (.t 141)]), oa 143 (.extract (.t 142) 0), oa 144 (.extract (.t 142) 1), ob (.store 6 (.t 8) (.t 143)), oa 9 (.mov (.t 144))] (kp 198 [8,9]))
  (sr 198 [8,9]))
  (.seq (.seq (.region [oa 146 (.bin .eql (.t 19) (.c (.str (ByteArray.mk #[105, 110, 115, 116])))), oa 145 (.mov (.t 146))] (kp 198 [4,5,6,7,8,19,145]))
  (.cond (.t 145)
  (sk 198 [4,5,6,7,8,19,145])
  (.region [oa 147 (.bin .eql (.t 19) (.c (.str (ByteArray.mk #[99, 97, 108, 108])))), oa 145 (.mov (.t 147))] (kp 198 [4,5,6,7,8,19,145]))))
  (.cond (.t 145)
  (.seq (.region [oa 148 (.load none (.t 4)), oa 149 (.load (some 17) (.t 5)), oa 150 (.load none (.t 6)), oa 151 (.load none (.t 7)), oa 152 (.call 89 [(.t 148), (.t 149), (.t 150), (.t 151)]), oa 153 (.extract (.t 152) 0), oa 154 (.extract (.t 152) 1), ob (.store 6 (.t 8) (.t 153)), oa 9 (.mov (.t 154))] (kp 198 [8,9]))
  (sr 198 [8,9]))
  (.seq (.region [oa 156 (.bin .eql (.t 19) (.c (.str (ByteArray.mk #[114, 101, 103, 105, 111, 110])))), oa 155 (.mov (.t 156))] (kp 198 [4,5,6,7,8,155]))
  (.cond (.t 155)
  (.seq (.seq (.region [oa 157 (.load none (.t 4)), oa 158 (.fieldAddr 13 (.t 5)), oa 159 (.load none (.t 158)), oa 160 (.call 90 [(.t 157), (.t 159)])] (kp 198 [4,5,6,7,8,160]))
  (.cond (.t 160)
  (.seq (.region [oa 161 (.build [(.str (ByteArray.mk #[])), (.str (ByteArray.mk #[])), (.int .i64 (0)), (.slice none 0 (some 0)), (.slice none 0 (some 0)), (.slice none 0 (some 0))] []), ob (.store 6 (.t 8) (.t 161)), oa 9 (.mov (.c (.bool false)))] (kp 198 [8,9]))
  (sr 198 [8,9]))
  (sk 198 [4,5,6,7,8])))
  (.seq (.region [oa 14 (.alloc [(.str (ByteArray.mk #[])), (.str (ByteArray.mk #[])), (.int .i64 (0)), (.slice none 0 (some 0)), (.slice none 0 (some 0)), (.slice none 0 (some 0))])] (kp 198 [4,5,6,7,8,14]))
  (.seq (.region [oa 162 (.load none (.t 4)), oa 163 (.fieldAddr 13 (.t 5)), oa 164 (.load none (.t 163)), oa 165 (.mkFunc 92 [] [(.t 4), (.t 5), (.t 6), (.t 7), (.t 14)]), oa 166 (.call 91 [(.t 162), (.t 164), (.t 165)]), oa 15 (.mov (.t 166))] (kp 198 [5,8,14,15]))
  (.seq (.region [oa 168 (.fieldAddr 0 (.t 14)), oa 169 (.load (some 5) (.t 168)), oa 170 (.call 38 [(.t 169)]), oa 167 (.mov (.t 170)), oa 171 (.extract (.t 167) 0), oa 172 (.extract (.t 167) 1), oa 16 (.mov (.t 171)), oa 17 (.mov (.t 172))] (kp 198 [5,8,14,15,16]))
  (.seq (.seq (.region [oa 173 (.mov (.t 15)), oa 174 (.un .not (.t 173)), oa 175 (.mov (.t 174)), oc 176 (.mov (.t 16)) 175 ff, oc 177 (.mkFunc 93 [] [(.t 5)]) 175 ff, oc 178 (.call 53 [(.t 176), (.t 177)]) 175 ff, oa 179 (.pick (.t 175) (.c (.bool true)) (.t 178))] (kp 198 [5,8,14,179]))
  (.cond (.t 179)
  (.seq (.region [oa 180 (.build [(.str (ByteArray.mk #[])), (.str (ByteArray.mk #[])), (.int .i64 (0)), (.slice none 0 (some 0)), (.slice none 0 (some 0)), (.slice none 0 (some 0))] []), ob (.store 6 (.t 8) (.t 180)), oa 9 (.mov (.c (.bool false)))] (kp 198 [8,9]))
  (sr 198 [8,9]))
  (sk 198 [5,8,14])))
  (.seq (.region [oa 182 (.fieldAddr 5 (.t 14)), oa 183 (.load none (.t 182)), oa 184 (.fieldAddr 13 (.t 5)), oa 185 (.load none (.t 184)), oa 186 (.call 94 [(.t 183), (.t 185)]), oa 181 (.mov (.t 186)), oa 187 (.extract (.t 181) 0), oa 188 (.extract (.t 181) 1), oa 189 (.fieldAddr 5 (.t 14)), ob (.store 1 (.t 189) (.t 187))] (kp 198 [8,14]))
  (.seq (.region [oa 190 (.load (some 6) (.t 14)), ob (.store 6 (.t 8) (.t 190)), oa 9 (.mov (.c (.bool true)))] (kp 198 [8,9]))
  (sr 198 [8,9]))))))))
  (sk 198 [4,5,6,7,8])))))))))))))))))))))))))
  (.seq (.region [oa 191 (.load none (.t 4)), oa 192 (.load (some 17) (.t 5)), oa 193 (.load none (.t 6)), oa 194 (.load none (.t 7)), oa 195 (.call 95 [(.t 191), (.t 192), (.t 193), (.t 194)]), oa 196 (.extract (.t 195) 0), oa 197 (.extract (.t 195) 1), ob (.store 6 (.t 8) (.t 196)), oa 9 (.mov (.t 197))] (kp 198 [8,9]))
  (sr 198 [8,9]))))⟩
theorem F49 : shutF Tryz.prog 49 = some c49 := by kernel_rfl

-- virgate/place.ValidType

def c50 : IFn := ⟨7, [(2, none)],
  (.seq (.region [oa 1 (.box (.t 0)), oa 2 (.mov (.c (.bool false)))] (kp 7 [1]))
  (.seq (.region [oa 3 (.load (some 5) (.t 1)), oa 4 (.build [(.int .i64 (0)), (.int .i64 (0))] []), oa 5 (.box (.t 4)), oa 6 (.call 96 [(.t 3), (.t 5)]), oa 2 (.mov (.t 6))] (kp 7 [2]))
  (sr 7 [2])))⟩
theorem F50 : shutF Tryz.prog 50 = some c50 := by kernel_rfl

-- virgate/place.unite

def c51 : IFn := ⟨14, [(4, none)],
  (.seq (.region [oa 4 (.mov (.c (.slice none 0 (some 0))))] (kp 14 [0,1]))
  (.seq (.region [oa 6 (.mov (.t 0)), oa 7 (.call 97 [(.t 6)]), oa 8 (.mov (.t 1)), oa 9 (.append 1 8 (.t 7) (.t 8)), oa 5 (.mov (.t 9))] (kp 14 [5]))
  (.seq (.region [oa 10 (.mov (.t 5)), oa 11 (.call 98 [(.t 10)])] (kp 14 [5]))
  (.seq (.region [oa 12 (.mov (.t 5)), oa 13 (.call 99 [(.t 12)]), oa 4 (.mov (.t 13))] (kp 14 [4]))
  (sr 14 [4])))))⟩
theorem F51 : shutF Tryz.prog 51 = some c51 := by kernel_rfl

-- virgate/place.atoms
def l52_0 : IC := (.seq (.seq (.region [oa 30 (.bin .lss (.t 29) (.t 28))] (kp 38 [1,27,28,29,30]))
  (.seq (.cond (.t 30)
  (sk 38 [1,27,28,29])
  (sx 38 [1] 0))
  (.seq (.block 1
  (.seq (.region [oa 31 (.indexAddr 5 (.t 27) (.t 29)), oa 32 (.load (some 5) (.t 31)), oa 8 (.alloc [(.str (ByteArray.mk #[])), (.str (ByteArray.mk #[])), (.int .i64 (0)), (.slice none 0 (some 0)), (.slice none 0 (some 0))]), ob (.store 5 (.t 8) (.t 32))] (kp 38 [1,8,27,28,29]))
  (.region [oa 33 (.load (some 5) (.t 8)), oa 34 (.mov (.t 1)), oa 35 (.call 52 [(.t 33), (.t 34)]), oa 1 (.mov (.t 35))] (kp 38 [1,27,28,29]))))
  (.region [oa 36 (.bin .add (.t 29) (ai 1)), oa 29 (.mov (.t 36))] (kp 38 [1,27,28,29])))))
  (sk 38 [1,27,28,29]))
def c52 : IFn := ⟨38, [(4, none)],
  (.seq (.region [oa 2 (.box (.t 0)), oa 4 (.mov (.c (.slice none 0 (some 0))))] (kp 38 [1,2]))
  (.seq (.seq (.region [oa 10 (.fieldAddr 0 (.t 2)), oa 11 (.load none (.t 10)), oa 12 (.call 100 [(.t 11)]), oa 9 (.mov (.t 12)), oa 13 (.extract (.t 9) 0), oa 14 (.extract (.t 9) 1), oa 5 (.alloc [(.bool false), (.int .i64 (0))]), ob (.store 2 (.t 5) (.t 13)), oa 6 (.mov (.t 14))] (kp 38 [1,2,5]))
  (.seq (.region [oa 15 (.fieldAddr 0 (.t 5)), oa 16 (.load none (.t 15))] (kp 38 [1,2,16]))
  (.cond (.t 16)
  (.region [oa 17 (.mov (.t 1)), oa 18 (.fieldAddr 2 (.t 2)), oa 19 (.load none (.t 18)), oa 20 (.buildSlice 1 [(.int .i64 (0))] [(0, 1, (.t 19))]), oa 21 (.append 1 8 (.t 17) (.t 20)), oa 1 (.mov (.t 21))] (kp 38 [1,2]))
  (sk 38 [1,2]))))
  (.seq (.region [oa 22 (.mov (.t 1)), oa 23 (.fieldAddr 3 (.t 2)), oa 24 (.load none (.t 23)), oa 25 (.append 1 8 (.t 22) (.t 24)), oa 1 (.mov (.t 25))] (kp 38 [1,2]))
  (.seq (.seq (.region [oa 26 (.fieldAddr 4 (.t 2)), oa 27 (.load none (.t 26)), oa 28 (.lenSlice (.t 27)), oa 29 (.mov (ai 0))] (kp 38 [1,27,28,29]))
  (.block 0
  (.seq (sk 38 [1,27,28,29])
  (.loop l52_0))))
  (.seq (.region [oa 37 (.mov (.t 1)), oa 4 (.mov (.t 37))] (kp 38 [4]))
  (sr 38 [4]))))))⟩
theorem F52 : shutF Tryz.prog 52 = some c52 := by kernel_rfl

-- slices.ContainsFunc[[]int,int]

def c53 : IFn := ⟨9, [(4, none)],
  (.seq (.region [oa 4 (.mov (.c (.bool false)))] (kp 9 [0,1]))
  (.seq (.region [oa 5 (.mov (.t 0)), oa 6 (.mov (.t 1)), oa 7 (.call 101 [(.t 5), (.t 6)]), oa 8 (.bin .geq (.t 7) (ai 0)), oa 4 (.mov (.t 8))] (kp 9 [4]))
  (sr 9 [4])))⟩
theorem F53 : shutF Tryz.prog 53 = some c53 := by kernel_rfl

-- virgate/judge.within$1

def c54 : IFn := ⟨8, [(3, none)],
  (.seq (.region [oa 3 (.mov (.c (.bool false)))] (kp 8 [0,1]))
  (.seq (.region [oa 4 (.load none (.t 1)), oa 5 (.mov (.t 0)), oa 6 (.call 55 [(.t 4), (.t 5)]), oa 7 (.un .not (.t 6)), oa 3 (.mov (.t 7))] (kp 8 [3]))
  (sr 8 [3])))⟩
theorem F54 : shutF Tryz.prog 54 = some c54 := by kernel_rfl

-- slices.Contains[[]int,int]

def c55 : IFn := ⟨9, [(4, none)],
  (.seq (.region [oa 4 (.mov (.c (.bool false)))] (kp 9 [0,1]))
  (.seq (.region [oa 5 (.mov (.t 0)), oa 6 (.mov (.t 1)), oa 7 (.call 102 [(.t 5), (.t 6)]), oa 8 (.bin .geq (.t 7) (ai 0)), oa 4 (.mov (.t 8))] (kp 9 [4]))
  (sr 9 [4])))⟩
theorem F55 : shutF Tryz.prog 55 = some c55 := by kernel_rfl

-- virgate/module.gathered
def l56_0 : IC := (.seq (.seq (.region [oa 21 (.bin .lss (.t 20) (.t 19))] (kp 109 [1,2,4,18,19,20,21]))
  (.seq (.cond (.t 21)
  (sk 109 [1,2,4,18,19,20])
  (sx 109 [1,2,4] 0))
  (.seq (.block 1
  (.seq (.region [oa 22 (.indexAddr 1 (.t 18) (.t 20)), oa 23 (.load none (.t 22)), oa 6 (.mov (.t 23))] (kp 109 [1,2,4,6,18,19,20]))
  (.region [oa 24 (.fieldAddr 2 (.t 4)), oa 25 (.load none (.t 24)), oa 26 (.mov (.t 6)), ob (.mapSet (.one .s) (.t 25) (.t 26) (.c (.bool true)))] (kp 109 [1,2,4,18,19,20]))))
  (.region [oa 27 (.bin .add (.t 20) (ai 1)), oa 20 (.mov (.t 27))] (kp 109 [1,2,4,18,19,20])))))
  (sk 109 [1,2,4,18,19,20]))
def l56_1 : IC := (.seq (.seq (.region [oa 52 (.bin .lss (.t 51) (.t 50))] (kp 109 [1,2,4,7,29,30,31,49,50,51,52]))
  (.seq (.cond (.t 52)
  (sk 109 [1,2,4,7,29,30,31,49,50,51])
  (sx 109 [1,2,4,7,29,30,31] 4))
  (.seq (.block 5
  (.seq (.region [oa 53 (.indexAddr 5 (.t 49) (.t 51)), oa 54 (.load (some 5) (.t 53)), oa 11 (.alloc [(.str (ByteArray.mk #[])), (.bool false), (.str (ByteArray.mk #[])), (.str (ByteArray.mk #[])), (.slice none 0 (some 0))]), ob (.store 5 (.t 11) (.t 54))] (kp 109 [1,2,4,7,11,29,30,31,49,50,51]))
  (.seq (.region [oa 55 (.mov (.t 7)), oa 56 (.mov (.t 55)), oc 57 (.fieldAddr 1 (.t 4)) 56 tt, oc 58 (.load none (.t 57)) 56 tt, oc 59 (.fieldAddr 0 (.t 11)) 56 tt, oc 60 (.load none (.t 59)) 56 tt, oc 61 (.lookup (.one .s) (.bool false) false (.t 58) (.t 60)) 56 tt, oc 62 (.un .not (.t 61)) 56 tt, oa 63 (.pick (.t 56) (.t 62) (.c (.bool false))), oa 64 (.mov (.t 63)), oc 65 (.fieldAddr 2 (.t 4)) 64 tt, oc 66 (.load none (.t 65)) 64 tt, oc 67 (.fieldAddr 0 (.t 11)) 64 tt, oc 68 (.load none (.t 67)) 64 tt, oc 69 (.lookup (.one .s) (.bool false) false (.t 66) (.t 68)) 64 tt, oc 70 (.un .not (.t 69)) 64 tt, oa 71 (.pick (.t 64) (.t 70) (.c (.bool false))), oa 7 (.mov (.t 71))] (kp 109 [1,2,4,7,11,29,30,31,49,50,51]))
  (.region [oa 72 (.fieldAddr 1 (.t 4)), oa 73 (.load none (.t 72)), oa 74 (.fieldAddr 0 (.t 11)), oa 75 (.load none (.t 74)), ob (.mapSet (.one .s) (.t 73) (.t 75) (.c (.bool true)))] (kp 109 [1,2,4,7,29,30,31,49,50,51])))))
  (.region [oa 76 (.bin .add (.t 51) (ai 1)), oa 51 (.mov (.t 76))] (kp 109 [1,2,4,7,29,30,31,49,50,51])))))
  (sk 109 [1,2,4,7,29,30,31,49,50,51]))
def l56_2 : IC := (.seq (.seq (.region [oa 32 (.bin .lss (.t 31) (.t 30))] (kp 109 [1,2,4,7,29,30,31,32]))
  (.seq (.cond (.t 32)
  (sk 109 [1,2,4,7,29,30,31])
  (sx 109 [1,2,4,7] 2))
  (.seq (.block 3
  (.seq (.region [oa 33 (.indexAddr 2 (.t 29) (.t 31)), oa 34 (.load (some 2) (.t 33)), oa 9 (.alloc [(.str (ByteArray.mk #[])), (.slice none 0 (some 0))]), ob (.store 2 (.t 9) (.t 34))] (kp 109 [1,2,4,7,9,29,30,31]))
  (.seq (.region [oa 35 (.mov (.t 7)), oa 36 (.mov (.t 35)), oc 37 (.fieldAddr 0 (.t 4)) 36 tt, oc 38 (.load none (.t 37)) 36 tt, oc 39 (.fieldAddr 0 (.t 9)) 36 tt, oc 40 (.load none (.t 39)) 36 tt, oc 41 (.lookup (.one .s) (.bool false) false (.t 38) (.t 40)) 36 tt, oc 42 (.un .not (.t 41)) 36 tt, oa 43 (.pick (.t 36) (.t 42) (.c (.bool false))), oa 7 (.mov (.t 43))] (kp 109 [1,2,4,7,9,29,30,31]))
  (.seq (.region [oa 44 (.fieldAddr 0 (.t 4)), oa 45 (.load none (.t 44)), oa 46 (.fieldAddr 0 (.t 9)), oa 47 (.load none (.t 46)), ob (.mapSet (.one .s) (.t 45) (.t 47) (.c (.bool true)))] (kp 109 [1,2,4,7,9,29,30,31]))
  (.seq (.region [oa 48 (.fieldAddr 1 (.t 9)), oa 49 (.load none (.t 48)), oa 50 (.lenSlice (.t 49)), oa 51 (.mov (ai 0))] (kp 109 [1,2,4,7,29,30,31,49,50,51]))
  (.block 4
  (.seq (sk 109 [1,2,4,7,29,30,31,49,50,51])
  (.loop l56_1))))))))
  (.region [oa 77 (.bin .add (.t 31) (ai 1)), oa 31 (.mov (.t 77))] (kp 109 [1,2,4,7,29,30,31])))))
  (sk 109 [1,2,4,7,29,30,31]))
def l56_3 : IC := (.seq (.seq (.region [oa 82 (.bin .lss (.t 81) (.t 80))] (kp 109 [2,4,7,79,80,81,82]))
  (.seq (.cond (.t 82)
  (sk 109 [2,4,7,79,80,81])
  (sx 109 [2,4,7] 6))
  (.seq (.block 7
  (.seq (.region [oa 83 (.indexAddr 5 (.t 79) (.t 81)), oa 84 (.load (some 5) (.t 83)), oa 13 (.alloc [(.str (ByteArray.mk #[])), (.bool false), (.str (ByteArray.mk #[])), (.str (ByteArray.mk #[])), (.slice none 0 (some 0))]), ob (.store 5 (.t 13) (.t 84))] (kp 109 [2,4,7,13,79,80,81]))
  (.seq (.region [oa 85 (.mov (.t 7)), oa 86 (.mov (.t 85)), oc 87 (.fieldAddr 1 (.t 4)) 86 tt, oc 88 (.load none (.t 87)) 86 tt, oc 89 (.fieldAddr 0 (.t 13)) 86 tt, oc 90 (.load none (.t 89)) 86 tt, oc 91 (.lookup (.one .s) (.bool false) false (.t 88) (.t 90)) 86 tt, oc 92 (.un .not (.t 91)) 86 tt, oa 93 (.pick (.t 86) (.t 92) (.c (.bool false))), oa 94 (.mov (.t 93)), oc 95 (.fieldAddr 2 (.t 4)) 94 tt, oc 96 (.load none (.t 95)) 94 tt, oc 97 (.fieldAddr 0 (.t 13)) 94 tt, oc 98 (.load none (.t 97)) 94 tt, oc 99 (.lookup (.one .s) (.bool false) false (.t 96) (.t 98)) 94 tt, oc 100 (.un .not (.t 99)) 94 tt, oa 101 (.pick (.t 94) (.t 100) (.c (.bool false))), oa 7 (.mov (.t 101))] (kp 109 [2,4,7,13,79,80,81]))
  (.region [oa 102 (.fieldAddr 2 (.t 4)), oa 103 (.load none (.t 102)), oa 104 (.fieldAddr 0 (.t 13)), oa 105 (.load none (.t 104)), ob (.mapSet (.one .s) (.t 103) (.t 105) (.c (.bool true)))] (kp 109 [2,4,7,79,80,81])))))
  (.region [oa 106 (.bin .add (.t 81) (ai 1)), oa 81 (.mov (.t 106))] (kp 109 [2,4,7,79,80,81])))))
  (sk 109 [2,4,7,79,80,81]))
def c56 : IFn := ⟨109, [(2, (some (some 3))), (3, none)],
  (.seq (.region [oa 1 (.box (.t 0)), oa 2 (.alloc [(.map none), (.map none), (.map none)]), oa 3 (.mov (.c (.bool false)))] (kp 109 [1,2]))
  (.seq (.region [oa 14 .mkMap, oa 15 .mkMap, oa 16 .mkMap, oa 17 (.build [(.map none), (.map none), (.map none)] [(0, 1, (.t 14)), (1, 1, (.t 15)), (2, 1, (.t 16))]), oa 4 (.alloc [(.map none), (.map none), (.map none)]), ob (.store 3 (.t 4) (.t 17))] (kp 109 [1,2,4]))
  (.seq (.seq (.region [oa 18 (.call 103 []), oa 19 (.lenSlice (.t 18)), oa 20 (.mov (ai 0))] (kp 109 [1,2,4,18,19,20]))
  (.block 0
  (.seq (sk 109 [1,2,4,18,19,20])
  (.loop l56_0))))
  (.seq (.region [oa 7 (.mov (.c (.bool true)))] (kp 109 [1,2,4,7]))
  (.seq (.seq (.region [oa 28 (.fieldAddr 0 (.t 1)), oa 29 (.load none (.t 28)), oa 30 (.lenSlice (.t 29)), oa 31 (.mov (ai 0))] (kp 109 [1,2,4,7,29,30,31]))
  (.block 2
  (.seq (sk 109 [1,2,4,7,29,30,31])
  (.loop l56_2))))
  (.seq (.seq (.region [oa 78 (.fieldAddr 1 (.t 1)), oa 79 (.load none (.t 78)), oa 80 (.lenSlice (.t 79)), oa 81 (.mov (ai 0))] (kp 109 [2,4,7,79,80,81]))
  (.block 6
  (.seq (sk 109 [2,4,7,79,80,81])
  (.loop l56_3))))
  (.seq (.region [oa 107 (.load (some 3) (.t 4)), oa 108 (.mov (.t 7)), ob (.store 3 (.t 2) (.t 107)), oa 3 (.mov (.t 108))] (kp 109 [2,3]))
  (sr 109 [2,3]))))))))⟩
theorem F56 : shutF Tryz.prog 56 = some c56 := by kernel_rfl

-- (virgate/tree.Rule).Exp

def c57 : IFn := ⟨71, [(4, none)],
  (.seq (.region [oa 2 (.box (.t 0)), oa 3 (.box (.t 1)), oa 4 (.mov (.c (.bool false)))] (kp 71 [2,3]))
  (.seq (.region [oa 11 (.load (some 1) (.t 2)), oa 12 (.load (some 12) (.t 3)), oa 13 (.call 104 [(.t 11), (.t 12)]), oa 10 (.mov (.t 13)), oa 14 (.extract (.t 10) 0), oa 15 (.extract (.t 10) 1), oa 16 (.extract (.t 10) 2), oa 17 (.extract (.t 10) 3), oa 18 (.extract (.t 10) 4), oa 5 (.mov (.t 14)), oa 6 (.mov (.t 15)), oa 7 (.mov (.t 16)), oa 8 (.mov (.t 17)), oa 9 (.mov (.t 18))] (kp 71 [2,3,5,6,7,8,9]))
  (.seq (.seq (.region [oa 19 (.fieldAddr 1 (.t 3)), oa 20 (.load none (.t 19)), oa 21 (.mov (.t 5)), oa 22 (.bin .neq (.t 20) (.t 21)), oa 23 (.mov (.t 22)), oc 24 (.fieldAddr 2 (.t 3)) 23 ff, oc 25 (.load none (.t 24)) 23 ff, oc 26 (.mov (.t 6)) 23 ff, oc 27 (.bin .neq (.t 25) (.t 26)) 23 ff, oa 28 (.pick (.t 23) (.c (.bool true)) (.t 27)), oa 29 (.mov (.t 28)), oc 30 (.fieldAddr 3 (.t 3)) 29 ff, oc 31 (.load none (.t 30)) 29 ff, oc 32 (.mov (.t 7)) 29 ff, oc 33 (.bin .neq (.t 31) (.t 32)) 29 ff, oa 34 (.pick (.t 29) (.c (.bool true)) (.t 33)), oa 35 (.mov (.t 34)), oc 36 (.fieldAddr 4 (.t 3)) 35 ff, oc 37 (.load none (.t 36)) 35 ff, oc 38 (.mov (.t 8)) 35 ff, oc 39 (.bin .neq (.t 37) (.t 38)) 35 ff, oa 40 (.pick (.t 35) (.c (.bool true)) (.t 39)), oa 41 (.mov (.t 40)), oc 42 (.fieldAddr 5 (.t 3)) 41 ff, oc 43 (.load none (.t 42)) 41 ff, oc 44 (.lenSlice (.t 43)) 41 ff, oc 45 (.mov (.t 9)) 41 ff, oc 46 (.bin .neq (.t 44) (.t 45)) 41 ff, oa 47 (.pick (.t 41) (.c (.bool true)) (.t 46)), oa 48 (.mov (.t 47)), oc 49 (.fieldAddr 0 (.t 3)) 48 ff, oc 50 (.load none (.t 49)) 48 ff, oc 51 (.bin .neq (.t 50) (.c (.str (ByteArray.mk #[99, 97, 115, 101])))) 48 ff, oc 52 (.mov (.t 51)) 48 ff, oc 53 (.fieldAddr 6 (.t 3)) 52 tt, oc 54 (.load none (.t 53)) 52 tt, oc 55 (.lenSlice (.t 54)) 52 tt, oc 56 (.bin .gtr (.t 55) (ai 0)) 52 tt, oc 57 (.pick (.t 52) (.t 56) (.c (.bool false))) 48 ff, oa 58 (.pick (.t 48) (.c (.bool true)) (.t 57))] (kp 71 [2,3,58]))
  (.cond (.t 58)
  (.seq (.region [oa 4 (.mov (.c (.bool false)))] (kp 71 [4]))
  (sr 71 [4]))
  (sk 71 [2,3])))
  (.seq (.region [oa 59 (.fieldAddr 6 (.t 3)), oa 60 (.load none (.t 59)), oa 61 (.mkFunc 106 [] [(.t 2)]), oa 62 (.call 105 [(.t 60), (.t 61)]), oa 63 (.un .not (.t 62)), oa 64 (.mov (.t 63)), oc 65 (.fieldAddr 5 (.t 3)) 64 tt, oc 66 (.load none (.t 65)) 64 tt, oc 67 (.mkFunc 109 [] [(.t 2)]) 64 tt, oc 68 (.call 108 [(.t 66), (.t 67)]) 64 tt, oc 69 (.un .not (.t 68)) 64 tt, oa 70 (.pick (.t 64) (.t 69) (.c (.bool false))), oa 4 (.mov (.t 70))] (kp 71 [4]))
  (sr 71 [4])))))⟩
theorem F57 : shutF Tryz.prog 57 = some c57 := by kernel_rfl

-- virgate/tree.IsBare

def c58 : IFn := ⟨24, [(2, none)],
  (.seq (.region [oa 1 (.box (.t 0)), oa 2 (.mov (.c (.bool false)))] (kp 24 [1]))
  (.seq (.region [oa 3 (.fieldAddr 7 (.t 1)), oa 4 (.load (some 3) (.t 3)), oa 5 (.call 110 [(.t 4)]), oa 6 (.mov (.t 5)), oc 7 (.fieldAddr 10 (.t 1)) 6 tt, oc 8 (.load none (.t 7)) 6 tt, oc 9 (.lenSlice (.t 8)) 6 tt, oc 10 (.bin .eql (.t 9) (ai 0)) 6 tt, oa 11 (.pick (.t 6) (.t 10) (.c (.bool false))), oa 12 (.mov (.t 11)), oc 13 (.fieldAddr 11 (.t 1)) 12 tt, oc 14 (.load none (.t 13)) 12 tt, oc 15 (.lenSlice (.t 14)) 12 tt, oc 16 (.bin .eql (.t 15) (ai 0)) 12 tt, oa 17 (.pick (.t 12) (.t 16) (.c (.bool false))), oa 18 (.mov (.t 17)), oc 19 (.fieldAddr 5 (.t 1)) 18 tt, oc 20 (.load none (.t 19)) 18 tt, oc 21 (.call 108 [(.t 20), (.c (.func 111 [] []))]) 18 tt, oc 22 (.un .not (.t 21)) 18 tt, oa 23 (.pick (.t 18) (.t 22) (.c (.bool false))), oa 2 (.mov (.t 23))] (kp 24 [2]))
  (sr 24 [2])))⟩
theorem F58 : shutF Tryz.prog 58 = some c58 := by kernel_rfl

-- virgate/tree.OfExp
def l59_0 : IC := (.seq (.seq (.region [oa 12 (.bin .lss (.t 11) (.t 10))] (kp 36 [1,2,3,9,10,11,12]))
  (.seq (.cond (.t 12)
  (sk 36 [1,2,3,9,10,11])
  (sx 36 [1,2,3] 0))
  (.seq (.block 1
  (.seq (.region [oa 13 (.indexAddr 12 (.t 9) (.t 11)), oa 14 (.load (some 12) (.t 13)), oa 5 (.alloc [(.str (ByteArray.mk #[])), (.str (ByteArray.mk #[])), (.str (ByteArray.mk #[])), (.str (ByteArray.mk #[])), (.int .i64 (0)), (.slice none 0 (some 0)), (.slice none 0 (some 0)), (.str (ByteArray.mk #[])), (.str (ByteArray.mk #[])), (.slice none 0 (some 0)), (.slice none 0 (some 0)), (.slice none 0 (some 0))]), ob (.store 12 (.t 5) (.t 14))] (kp 36 [1,2,3,5,9,10,11]))
  (.region [oa 15 (.mov (.t 3)), oa 16 (.load (some 12) (.t 5)), oa 17 (.call 59 [(.t 16)]), oa 18 (.buildSlice 1 [(.int .i64 (0)), (.int .i64 (0))] [(0, 2, (.t 17))]), oa 19 (.append 2 16 (.t 15) (.t 18)), oa 3 (.mov (.t 19))] (kp 36 [1,2,3,9,10,11]))))
  (.region [oa 20 (.bin .add (.t 11) (ai 1)), oa 11 (.mov (.t 20))] (kp 36 [1,2,3,9,10,11])))))
  (sk 36 [1,2,3,9,10,11]))
def l59_1 : IC := (.seq (.seq (.region [oa 25 (.bin .lss (.t 24) (.t 23))] (kp 36 [2,3,22,23,24,25]))
  (.seq (.cond (.t 25)
  (sk 36 [2,3,22,23,24])
  (sx 36 [2,3] 2))
  (.seq (.block 3
  (.seq (.region [oa 26 (.indexAddr 4 (.t 22) (.t 24)), oa 27 (.load (some 4) (.t 26)), oa 7 (.alloc [(.str (ByteArray.mk #[])), (.str (ByteArray.mk #[])), (.int .i64 (0)), (.slice none 0 (some 0))]), ob (.store 4 (.t 7) (.t 27))] (kp 36 [2,3,7,22,23,24]))
  (.region [oa 28 (.mov (.t 3)), oa 29 (.load (some 4) (.t 7)), oa 30 (.call 112 [(.t 29)]), oa 31 (.buildSlice 1 [(.int .i64 (0)), (.int .i64 (0))] [(0, 2, (.t 30))]), oa 32 (.append 2 16 (.t 28) (.t 31)), oa 3 (.mov (.t 32))] (kp 36 [2,3,22,23,24]))))
  (.region [oa 33 (.bin .add (.t 24) (ai 1)), oa 24 (.mov (.t 33))] (kp 36 [2,3,22,23,24])))))
  (sk 36 [2,3,22,23,24]))
def c59 : IFn := ⟨36, [(2, (some (some 2)))],
  (.seq (.region [oa 1 (.box (.t 0)), oa 2 (.alloc [(.int .i64 (0)), (.int .i64 (0))])] (kp 36 [1,2]))
  (.seq (.region [oa 3 (.mov (.c (.slice none 0 (some 0))))] (kp 36 [1,2,3]))
  (.seq (.seq (.region [oa 8 (.fieldAddr 5 (.t 1)), oa 9 (.load none (.t 8)), oa 10 (.lenSlice (.t 9)), oa 11 (.mov (ai 0))] (kp 36 [1,2,3,9,10,11]))
  (.block 0
  (.seq (sk 36 [1,2,3,9,10,11])
  (.loop l59_0))))
  (.seq (.seq (.region [oa 21 (.fieldAddr 6 (.t 1)), oa 22 (.load none (.t 21)), oa 23 (.lenSlice (.t 22)), oa 24 (.mov (ai 0))] (kp 36 [2,3,22,23,24]))
  (.block 2
  (.seq (sk 36 [2,3,22,23,24])
  (.loop l59_1))))
  (.seq (.region [oa 34 (.mov (.t 3)), oa 35 (.call 113 [(.t 34)]), ob (.store 2 (.t 2) (.t 35))] (kp 36 [2]))
  (sr 36 [2]))))))⟩
theorem F59 : shutF Tryz.prog 59 = some c59 := by kernel_rfl

-- (virgate/tree.Size).Fits

def c60 : IFn := ⟨11, [(2, none)],
  (.seq (.region [oa 1 (.box (.t 0)), oa 2 (.mov (.c (.bool false)))] (kp 11 [1]))
  (.seq (.region [oa 3 (.fieldAddr 0 (.t 1)), oa 4 (.load none (.t 3)), oa 5 (.bin .leq (.t 4) (ai 2000)), oa 6 (.mov (.t 5)), oc 7 (.fieldAddr 1 (.t 1)) 6 tt, oc 8 (.load none (.t 7)) 6 tt, oc 9 (.bin .leq (.t 8) (ai 200)) 6 tt, oa 10 (.pick (.t 6) (.t 9) (.c (.bool false))), oa 2 (.mov (.t 10))] (kp 11 [2]))
  (sr 11 [2])))⟩
theorem F60 : shutF Tryz.prog 60 = some c60 := by kernel_rfl

-- virgate/tree.Free
def l61_0 : IC := (.seq (.seq (.region [oa 12 (.nextMap (.t 11)), oa 13 (.extract (.t 12) 0)] (kp 23 [4,11,13]))
  (.seq (.cond (.t 13)
  (sk 23 [4,11])
  (sx 23 [4] 0))
  (.block 1
  (.seq (.region [oa 14 .dead, oa 15 (.extract (.t 14) 0), oa 5 (.mov (.t 15))] (kp 23 [4,5,11]))
  (.region [oa 16 (.mov (.t 4)), oa 17 (.mov (.t 5)), oa 18 (.buildSlice 1 [(.str (ByteArray.mk #[]))] [(0, 1, (.t 17))]), oa 19 (.append 1 16 (.t 16) (.t 18)), oa 4 (.mov (.t 19))] (kp 23 [4,11]))))))
  (sk 23 [4,11]))
def c61 : IFn := ⟨23, [(2, none)],
  (.seq (.region [oa 1 (.box (.t 0)), oa 2 (.mov (.c (.slice none 0 (some 0))))] (kp 23 [1]))
  (.seq (.region [oa 6 .mkMap, oa 3 (.mov (.t 6))] (kp 23 [1,3]))
  (.seq (.region [oa 7 (.load (some 12) (.t 1)), oa 8 (.mov (.t 3)), oa 9 (.call 114 [(.t 7), (.c (.slice none 0 (some 0))), (.t 8)])] (kp 23 [3]))
  (.seq (.region [oa 4 (.mov (.c (.slice none 0 (some 0))))] (kp 23 [3,4]))
  (.seq (.seq (.region [oa 10 (.mov (.t 3)), oa 11 (.rangeMap (.t 10))] (kp 23 [4,11]))
  (.block 0
  (.seq (sk 23 [4,11])
  (.loop l61_0))))
  (.seq (.region [oa 20 (.mov (.t 4)), oa 21 (.call 115 [(.t 20)])] (kp 23 [4]))
  (.seq (.region [oa 22 (.mov (.t 4)), oa 2 (.mov (.t 22))] (kp 23 [2]))
  (sr 23 [2]))))))))⟩
theorem F61 : shutF Tryz.prog 61 = some c61 := by kernel_rfl

-- (virgate/module.program).exp

def c62 : IFn := ⟨45, [(4, none)],
  (.seq (.region [oa 2 (.box (.t 0)), oa 3 (.box (.t 1)), oa 4 (.mov (.c (.bool false)))] (kp 45 [2,3]))
  (.seq (.block 0
  (.seq (.seq (.region [oa 6 (.fieldAddr 0 (.t 3)), oa 7 (.load none (.t 6)), oa 8 (.bin .eql (.t 7) (.c (.str (ByteArray.mk #[99, 111, 110])))), oa 9 (.mov (.t 8)), oc 10 (.fieldAddr 1 (.t 2)) 9 tt, oc 11 (.load none (.t 10)) 9 tt, oc 12 (.fieldAddr 1 (.t 3)) 9 tt, oc 13 (.load none (.t 12)) 9 tt, oc 14 (.lookup (.one .s) (.bool false) false (.t 11) (.t 13)) 9 tt, oc 15 (.un .not (.t 14)) 9 tt, oa 16 (.pick (.t 9) (.t 15) (.c (.bool false))), oa 5 (.mov (.t 16))] (kp 45 [2,3,5]))
  (.cond (.t 5)
  (sk 45 [2,3,5])
  (.region [oa 17 (.fieldAddr 0 (.t 3)), oa 18 (.load none (.t 17)), oa 19 (.bin .eql (.t 18) (.c (.str (ByteArray.mk #[114, 97, 105, 115, 101])))), oa 20 (.mov (.t 19)), oc 21 (.fieldAddr 0 (.t 3)) 20 ff, oc 22 (.load none (.t 21)) 20 ff, oc 23 (.bin .eql (.t 22) (.c (.str (ByteArray.mk #[104, 97, 110, 100, 108, 101])))) 20 ff, oa 24 (.pick (.t 20) (.c (.bool true)) (.t 23)), oa 25 (.mov (.t 24)), oc 26 (.fieldAddr 2 (.t 2)) 25 tt, oc 27 (.load none (.t 26)) 25 tt, oc 28 (.fieldAddr 1 (.t 3)) 25 tt, oc 29 (.load none (.t 28)) 25 tt, oc 30 (.lookup (.one .s) (.bool false) false (.t 27) (.t 29)) 25 tt, oc 31 (.un .not (.t 30)) 25 tt, oa 32 (.pick (.t 25) (.t 31) (.c (.bool false))), oa 5 (.mov (.t 32))] (kp 45 [2,3,5]))))
  (.cond (.t 5)
  (.seq (.region [oa 4 (.mov (.c (.bool false)))] (kp 45 [4]))
  (sr 45 [4]))
  (sk 45 [2,3]))))
  (.seq (.region [oa 33 (.fieldAddr 6 (.t 3)), oa 34 (.load none (.t 33)), oa 35 (.mkFunc 116 [] [(.t 2)]), oa 36 (.call 105 [(.t 34), (.t 35)]), oa 37 (.un .not (.t 36)), oa 38 (.mov (.t 37)), oc 39 (.fieldAddr 5 (.t 3)) 38 tt, oc 40 (.load none (.t 39)) 38 tt, oc 41 (.mkFunc 118 [] [(.t 2)]) 38 tt, oc 42 (.call 108 [(.t 40), (.t 41)]) 38 tt, oc 43 (.un .not (.t 42)) 38 tt, oa 44 (.pick (.t 38) (.t 43) (.c (.bool false))), oa 4 (.mov (.t 44))] (kp 45 [4]))
  (sr 45 [4]))))⟩
theorem F62 : shutF Tryz.prog 62 = some c62 := by kernel_rfl

-- slices.ContainsFunc[[]virgate/api.Con,virgate/api.Con]

def c67 : IFn := ⟨9, [(4, none)],
  (.seq (.region [oa 4 (.mov (.c (.bool false)))] (kp 9 [0,1]))
  (.seq (.region [oa 5 (.mov (.t 0)), oa 6 (.mov (.t 1)), oa 7 (.call 125 [(.t 5), (.t 6)]), oa 8 (.bin .geq (.t 7) (ai 0)), oa 4 (.mov (.t 8))] (kp 9 [4]))
  (sr 9 [4])))⟩
theorem F67 : shutF Tryz.prog 67 = some c67 := by kernel_rfl

-- slices.ContainsFunc[[]virgate/api.Claim,virgate/api.Claim]

def c70 : IFn := ⟨9, [(4, none)],
  (.seq (.region [oa 4 (.mov (.c (.bool false)))] (kp 9 [0,1]))
  (.seq (.region [oa 5 (.mov (.t 0)), oa 6 (.mov (.t 1)), oa 7 (.call 126 [(.t 5), (.t 6)]), oa 8 (.bin .geq (.t 7) (ai 0)), oa 4 (.mov (.t 8))] (kp 9 [4]))
  (sr 9 [4])))⟩
theorem F70 : shutF Tryz.prog 70 = some c70 := by kernel_rfl

-- virgate/place.valid
def l73_0 : IC := (.seq (.seq (.region [oa 22 (.bin .lss (.t 21) (.t 20))] (kp 42 [2,3,19,20,21,22]))
  (.seq (.cond (.t 22)
  (sk 42 [2,3,19,20,21])
  (sx 42 [2,3] 0))
  (.seq (.block 1
  (.seq (.region [oa 23 (.indexAddr 4 (.t 19) (.t 21)), oa 24 (.load (some 4) (.t 23)), oa 6 (.alloc [(.str (ByteArray.mk #[])), (.str (ByteArray.mk #[])), (.int .i64 (0)), (.slice none 0 (some 0))]), ob (.store 4 (.t 6) (.t 24))] (kp 42 [2,3,6,19,20,21]))
  (.seq (.region [oa 25 (.load (some 4) (.t 6)), oa 26 (.call 131 [(.t 25), (.c (.slice none 0 (some 0)))]), oa 7 (.mov (.t 26))] (kp 42 [2,3,7,19,20,21]))
  (.seq (.region [oa 27 (.mov (.t 7)), oa 28 (.call 115 [(.t 27)])] (kp 42 [2,3,7,19,20,21]))
  (.seq (.region [oa 29 (.mov (.t 7)), oa 30 (.call 133 [(.t 29)]), oa 31 (.call 132 [(.t 30)]), oa 32 (.lenSlice (.t 31)), oa 33 (.mov (.t 7)), oa 34 (.lenSlice (.t 33)), oa 35 (.bin .neq (.t 32) (.t 34))] (kp 42 [2,3,19,20,21,35]))
  (.cond (.t 35)
  (.seq (.region [oa 4 (.mov (.c (.bool false)))] (kp 42 [4]))
  (sr 42 [4]))
  (sk 42 [2,3,19,20,21])))))))
  (.region [oa 36 (.bin .add (.t 21) (ai 1)), oa 21 (.mov (.t 36))] (kp 42 [2,3,19,20,21])))))
  (sk 42 [2,3,19,20,21]))
def c73 : IFn := ⟨42, [(4, none)],
  (.seq (.region [oa 2 (.box (.t 0)), oa 3 (.box (.t 1)), oa 4 (.mov (.c (.bool false)))] (kp 42 [2,3]))
  (.seq (.seq (.region [oa 8 (.load none (.t 3)), oa 9 (.call 128 [(.t 8)]), oa 10 (.un .not (.t 9)), oa 11 (.mov (.t 10)), oc 12 (.load (some 17) (.t 2)) 11 ff, oc 13 (.load none (.t 3)) 11 ff, oc 14 (.call 129 [(.t 12), (.t 13)]) 11 ff, oc 15 (.un .not (.t 14)) 11 ff, oa 16 (.pick (.t 11) (.c (.bool true)) (.t 15))] (kp 42 [2,3,16]))
  (.cond (.t 16)
  (.seq (.region [oa 4 (.mov (.c (.bool false)))] (kp 42 [4]))
  (sr 42 [4]))
  (sk 42 [2,3])))
  (.seq (.region [oa 17 (.mkFunc 130 [] [(.t 3)])] (kp 42 [2,3,17]))
  (.dfr (.t 17) []
  (.seq (.seq (.region [oa 18 (.fieldAddr 7 (.t 2)), oa 19 (.load none (.t 18)), oa 20 (.lenSlice (.t 19)), oa 21 (.mov (ai 0))] (kp 42 [2,3,19,20,21]))
  (.block 0
  (.seq (sk 42 [2,3,19,20,21])
  (.loop l73_0))))
  (.seq (.region [oa 37 (.fieldAddr 6 (.t 2)), oa 38 (.load none (.t 37)), oa 39 (.mkFunc 135 [] [(.t 3)]), oa 40 (.call 134 [(.t 38), (.t 39)]), oa 41 (.un .not (.t 40)), oa 4 (.mov (.t 41))] (kp 42 [4]))
  (sr 42 [4])))))))⟩
theorem F73 : shutF Tryz.prog 73 = some c73 := by kernel_rfl

-- virgate/place.IsRegion

def c76 : IFn := ⟨5, [(2, none)],
  (.seq (.region [oa 2 (.mov (.c (.bool false)))] (kp 5 [0]))
  (.seq (.region [oa 3 (.mov (.t 0)), oa 4 (.call 139 [(ai 0), (.t 3), (ai 9999)]), oa 2 (.mov (.t 4))] (kp 5 [2]))
  (sr 5 [2])))⟩
theorem F76 : shutF Tryz.prog 76 = some c76 := by kernel_rfl

-- virgate/judge.unplaced

def c79 : IFn := ⟨5, [(2, (some (some 5)))],
  (.seq (.region [oa 2 (.alloc [(.str (ByteArray.mk #[])), (.str (ByteArray.mk #[])), (.int .i64 (0)), (.slice none 0 (some 0)), (.slice none 0 (some 0))])] (kp 5 [0,2]))
  (.seq (.region [oa 3 (.mov (.t 0)), oa 4 (.build [(.str (ByteArray.mk #[])), (.str (ByteArray.mk #[])), (.int .i64 (0)), (.slice none 0 (some 0)), (.slice none 0 (some 0))] [(0, 1, (.t 3))]), ob (.store 5 (.t 2) (.t 4))] (kp 5 [2]))
  (sr 5 [2])))⟩
theorem F79 : shutF Tryz.prog 79 = some c79 := by kernel_rfl

-- (*virgate/judge.court).knows

def c80 : IFn := ⟨11, [(4, none)],
  (.seq (.region [oa 4 (.mov (.c (.bool false)))] (kp 11 [0,1]))
  (.seq (.region [oa 5 (.mov (.t 1)), oa 6 (.mov (.t 0)), oa 7 (.nilCheck (.t 6)), oa 8 (.fieldAddr 21 (.t 7)), oa 9 (.load none (.t 8)), oa 10 (.call 39 [(.t 5), (.t 9)]), oa 4 (.mov (.t 10))] (kp 11 [4]))
  (sr 11 [4])))⟩
theorem F80 : shutF Tryz.prog 80 = some c80 := by kernel_rfl


def tab1 : List (Nat × IFn) := [(49, c49), (50, c50), (51, c51), (52, c52), (53, c53), (54, c54), (55, c55), (56, c56), (57, c57), (58, c58), (59, c59), (60, c60), (61, c61), (62, c62), (67, c67), (70, c70), (73, c73), (76, c76), (79, c79), (80, c80)]
theorem tab1_ok : ∀ p ∈ tab1, PF p.1 = some p.2 := by
  simp only [tab1, List.mem_cons, List.not_mem_nil, or_false, forall_eq_or_imp, forall_eq]
  exact ⟨F49, F50, F51, F52, F53, F54, F55, F56, F57, F58, F59, F60, F61, F62, F67, F70, F73, F76, F79, F80⟩
end Go.Proofs.YtfcaamoapdibiaaGreatDoor.S
