/- Layer 11: how the reference compares. -/
import Derived.Test.YtfcaamoapdibiaaGreatDoorJa1
set_option linter.unusedSimpArgs false
set_option linter.unusedVariables false
namespace Go.Proofs.YtfcaamoapdibiaaGreatDoor
open Go Go.IM

-- virgate/virgatelaw11.SameProg

def c7 : IFn := ⟨23, [(4, none)],
  (.seq (.region [oa 2 (.box (.t 0)), oa 3 (.box (.t 1)), oa 4 (.mov (.c (.bool false)))] (kp 23 [2,3]))
  (.seq (.region [oa 5 (.fieldAddr 0 (.t 2)), oa 6 (.load none (.t 5)), oa 7 (.fieldAddr 1 (.t 2)), oa 8 (.load none (.t 7)), oa 9 (.build [(.slice none 0 (some 0)), (.slice none 0 (some 0)), (.slice none 0 (some 0)), (.str (ByteArray.mk #[])), (.str (ByteArray.mk #[])), (.str (ByteArray.mk #[])), (.str (ByteArray.mk #[])), (.int .i64 (0)), (.slice none 0 (some 0)), (.slice none 0 (some 0)), (.str (ByteArray.mk #[])), (.str (ByteArray.mk #[])), (.slice none 0 (some 0)), (.slice none 0 (some 0)), (.slice none 0 (some 0))] [(0, 1, (.t 6)), (1, 1, (.t 8))]), oa 10 (.fieldAddr 0 (.t 3)), oa 11 (.load none (.t 10)), oa 12 (.fieldAddr 1 (.t 3)), oa 13 (.load none (.t 12)), oa 14 (.build [(.slice none 0 (some 0)), (.slice none 0 (some 0)), (.slice none 0 (some 0)), (.str (ByteArray.mk #[])), (.str (ByteArray.mk #[])), (.str (ByteArray.mk #[])), (.str (ByteArray.mk #[])), (.int .i64 (0)), (.slice none 0 (some 0)), (.slice none 0 (some 0)), (.str (ByteArray.mk #[])), (.str (ByteArray.mk #[])), (.slice none 0 (some 0)), (.slice none 0 (some 0)), (.slice none 0 (some 0))] [(0, 1, (.t 11)), (1, 1, (.t 13))]), oa 15 (.call 18 [(.t 9), (.t 14)]), oa 16 (.mov (.t 15)), oc 17 (.fieldAddr 2 (.t 2)) 16 tt, oc 18 (.load (some 17) (.t 17)) 16 tt, oc 19 (.fieldAddr 2 (.t 3)) 16 tt, oc 20 (.load (some 17) (.t 19)) 16 tt, oc 21 (.call 19 [(.t 18), (.t 20)]) 16 tt, oa 22 (.pick (.t 16) (.t 21) (.c (.bool false))), oa 4 (.mov (.t 22))] (kp 23 [4]))
  (sr 23 [4])))⟩
theorem F7 : shutF Tryz.prog 7 = some c7 := by kernel_rfl

-- virgate/virgateref03.Same
def l18_0 : IC := (.seq (.seq (.seq (.region [oa 29 (.mov (.t 5)), oa 30 (.fieldAddr 1 (.t 2)), oa 31 (.load none (.t 30)), oa 32 (.lenSlice (.t 31)), oa 33 (.bin .lss (.t 29) (.t 32))] (kp 53 [2,3,5,33]))
  (.cond (.t 33)
  (sk 53 [2,3,5])
  (sx 53 [2,3] 0)))
  (.seq (.block 1
  (.seq (.region [oa 36 (.fieldAddr 1 (.t 2)), oa 37 (.load none (.t 36)), oa 38 (.mov (.t 5)), oa 39 (.indexAddr 5 (.t 37) (.t 38)), oa 40 (.load (some 5) (.t 39)), oa 41 (.fieldAddr 1 (.t 3)), oa 42 (.load none (.t 41)), oa 43 (.mov (.t 5)), oa 44 (.indexAddr 5 (.t 42) (.t 43)), oa 45 (.load (some 5) (.t 44)), oa 46 (.call 31 [(.t 40), (.t 45)]), oa 47 (.un .not (.t 46))] (kp 53 [2,3,5,47]))
  (.cond (.t 47)
  (.seq (.region [oa 4 (.mov (.c (.bool false)))] (kp 53 [4]))
  (sr 53 [4]))
  (sk 53 [2,3,5]))))
  (.region [oa 34 (.mov (.t 5)), oa 35 (.bin .add (.t 34) (ai 1)), oa 5 (.mov (.t 35))] (kp 53 [2,3,5]))))
  (sk 53 [2,3,5]))
def c18 : IFn := ⟨53, [(4, none)],
  (.seq (.region [oa 2 (.box (.t 0)), oa 3 (.box (.t 1)), oa 4 (.mov (.c (.bool false)))] (kp 53 [2,3]))
  (.seq (.seq (.region [oa 6 (.fieldAddr 1 (.t 2)), oa 7 (.load none (.t 6)), oa 8 (.lenSlice (.t 7)), oa 9 (.fieldAddr 1 (.t 3)), oa 10 (.load none (.t 9)), oa 11 (.lenSlice (.t 10)), oa 12 (.bin .neq (.t 8) (.t 11)), oa 13 (.mov (.t 12)), oc 14 (.fieldAddr 0 (.t 2)) 13 ff, oc 15 (.load none (.t 14)) 13 ff, oc 16 (.fieldAddr 0 (.t 3)) 13 ff, oc 17 (.load none (.t 16)) 13 ff, oc 18 (.call 29 [(.t 15), (.t 17)]) 13 ff, oc 19 (.un .not (.t 18)) 13 ff, oa 20 (.pick (.t 13) (.c (.bool true)) (.t 19)), oa 21 (.mov (.t 20)), oc 22 (.fieldAddr 2 (.t 2)) 21 ff, oc 23 (.load none (.t 22)) 21 ff, oc 24 (.fieldAddr 2 (.t 3)) 21 ff, oc 25 (.load none (.t 24)) 21 ff, oc 26 (.call 30 [(.t 23), (.t 25)]) 21 ff, oc 27 (.un .not (.t 26)) 21 ff, oa 28 (.pick (.t 21) (.c (.bool true)) (.t 27))] (kp 53 [2,3,28]))
  (.cond (.t 28)
  (.seq (.region [oa 4 (.mov (.c (.bool false)))] (kp 53 [4]))
  (sr 53 [4]))
  (sk 53 [2,3])))
  (.seq (.seq (.region [oa 5 (.mov (ai 0))] (kp 53 [2,3,5]))
  (.block 0
  (.seq (sk 53 [2,3,5])
  (.loop l18_0))))
  (.seq (.region [oa 48 (.fieldAddr 3 (.t 2)), oa 49 (.load (some 12) (.t 48)), oa 50 (.fieldAddr 3 (.t 3)), oa 51 (.load (some 12) (.t 50)), oa 52 (.call 32 [(.t 49), (.t 51)]), oa 4 (.mov (.t 52))] (kp 53 [4]))
  (sr 53 [4])))))⟩
theorem F18 : shutF Tryz.prog 18 = some c18 := by kernel_rfl

-- virgate/virgateref10.Same
def l19_0 : IC := (.seq (.seq (.region [oa 109 (.bin .lss (.t 108) (.t 107))] (kp 162 [2,3,107,108,109]))
  (.seq (.cond (.t 109)
  (sk 162 [2,3,107,108])
  (sx 162 [2,3] 0))
  (.seq (.block 1
  (.seq (.region [oa 110 (.mov (.t 108)), oa 5 (.mov (.t 110))] (kp 162 [2,3,5,107,108]))
  (.seq (.region [oa 111 (.fieldAddr 16 (.t 2)), oa 112 (.load none (.t 111)), oa 113 (.mov (.t 5)), oa 114 (.indexAddr 1 (.t 112) (.t 113)), oa 115 (.load none (.t 114)), oa 116 (.fieldAddr 16 (.t 3)), oa 117 (.load none (.t 116)), oa 118 (.mov (.t 5)), oa 119 (.indexAddr 1 (.t 117) (.t 118)), oa 120 (.load none (.t 119)), oa 121 (.call 34 [(.t 115), (.t 120)]), oa 122 (.un .not (.t 121))] (kp 162 [2,3,107,108,122]))
  (.cond (.t 122)
  (.seq (.region [oa 4 (.mov (.c (.bool false)))] (kp 162 [4]))
  (sr 162 [4]))
  (sk 162 [2,3,107,108])))))
  (.region [oa 123 (.bin .add (.t 108) (ai 1)), oa 108 (.mov (.t 123))] (kp 162 [2,3,107,108])))))
  (sk 162 [2,3,107,108]))
def l19_1 : IC := (.seq (.seq (.region [oa 128 (.bin .lss (.t 127) (.t 126))] (kp 162 [2,3,126,127,128]))
  (.seq (.cond (.t 128)
  (sk 162 [2,3,126,127])
  (sx 162 [2,3] 2))
  (.seq (.block 3
  (.seq (.region [oa 129 (.mov (.t 127)), oa 6 (.mov (.t 129))] (kp 162 [2,3,6,126,127]))
  (.seq (.region [oa 130 (.fieldAddr 6 (.t 2)), oa 131 (.load none (.t 130)), oa 132 (.mov (.t 6)), oa 133 (.indexAddr 17 (.t 131) (.t 132)), oa 134 (.load (some 17) (.t 133)), oa 135 (.fieldAddr 6 (.t 3)), oa 136 (.load none (.t 135)), oa 137 (.mov (.t 6)), oa 138 (.indexAddr 17 (.t 136) (.t 137)), oa 139 (.load (some 17) (.t 138)), oa 140 (.call 19 [(.t 134), (.t 139)]), oa 141 (.un .not (.t 140))] (kp 162 [2,3,126,127,141]))
  (.cond (.t 141)
  (.seq (.region [oa 4 (.mov (.c (.bool false)))] (kp 162 [4]))
  (sr 162 [4]))
  (sk 162 [2,3,126,127])))))
  (.region [oa 142 (.bin .add (.t 127) (ai 1)), oa 127 (.mov (.t 142))] (kp 162 [2,3,126,127])))))
  (sk 162 [2,3,126,127]))
def l19_2 : IC := (.seq (.seq (.region [oa 147 (.bin .lss (.t 146) (.t 145))] (kp 162 [2,3,145,146,147]))
  (.seq (.cond (.t 147)
  (sk 162 [2,3,145,146])
  (sx 162 [] 4))
  (.seq (.block 5
  (.seq (.region [oa 148 (.mov (.t 146)), oa 7 (.mov (.t 148))] (kp 162 [2,3,7,145,146]))
  (.seq (.region [oa 149 (.fieldAddr 7 (.t 2)), oa 150 (.load none (.t 149)), oa 151 (.mov (.t 7)), oa 152 (.indexAddr 4 (.t 150) (.t 151)), oa 153 (.load (some 4) (.t 152)), oa 154 (.fieldAddr 7 (.t 3)), oa 155 (.load none (.t 154)), oa 156 (.mov (.t 7)), oa 157 (.indexAddr 4 (.t 155) (.t 156)), oa 158 (.load (some 4) (.t 157)), oa 159 (.call 35 [(.t 153), (.t 158)]), oa 160 (.un .not (.t 159))] (kp 162 [2,3,145,146,160]))
  (.cond (.t 160)
  (.seq (.region [oa 4 (.mov (.c (.bool false)))] (kp 162 [4]))
  (sr 162 [4]))
  (sk 162 [2,3,145,146])))))
  (.region [oa 161 (.bin .add (.t 146) (ai 1)), oa 146 (.mov (.t 161))] (kp 162 [2,3,145,146])))))
  (sk 162 [2,3,145,146]))
def c19 : IFn := ⟨162, [(4, none)],
  (.seq (.region [oa 2 (.box (.t 0)), oa 3 (.box (.t 1)), oa 4 (.mov (.c (.bool false)))] (kp 162 [2,3]))
  (.seq (.seq (.region [oa 8 (.fieldAddr 0 (.t 2)), oa 9 (.load none (.t 8)), oa 10 (.fieldAddr 0 (.t 3)), oa 11 (.load none (.t 10)), oa 12 (.bin .neq (.t 9) (.t 11)), oa 13 (.mov (.t 12)), oc 14 (.fieldAddr 1 (.t 2)) 13 ff, oc 15 (.load none (.t 14)) 13 ff, oc 16 (.fieldAddr 1 (.t 3)) 13 ff, oc 17 (.load none (.t 16)) 13 ff, oc 18 (.bin .neq (.t 15) (.t 17)) 13 ff, oa 19 (.pick (.t 13) (.c (.bool true)) (.t 18)), oa 20 (.mov (.t 19)), oc 21 (.fieldAddr 2 (.t 2)) 20 ff, oc 22 (.load none (.t 21)) 20 ff, oc 23 (.fieldAddr 2 (.t 3)) 20 ff, oc 24 (.load none (.t 23)) 20 ff, oc 25 (.bin .neq (.t 22) (.t 24)) 20 ff, oa 26 (.pick (.t 20) (.c (.bool true)) (.t 25)), oa 27 (.mov (.t 26)), oc 28 (.fieldAddr 3 (.t 2)) 27 ff, oc 29 (.load none (.t 28)) 27 ff, oc 30 (.fieldAddr 3 (.t 3)) 27 ff, oc 31 (.load none (.t 30)) 27 ff, oc 32 (.bin .neq (.t 29) (.t 31)) 27 ff, oa 33 (.pick (.t 27) (.c (.bool true)) (.t 32)), oa 34 (.mov (.t 33)), oc 35 (.fieldAddr 4 (.t 2)) 34 ff, oc 36 (.load none (.t 35)) 34 ff, oc 37 (.fieldAddr 4 (.t 3)) 34 ff, oc 38 (.load none (.t 37)) 34 ff, oc 39 (.bin .neq (.t 36) (.t 38)) 34 ff, oa 40 (.pick (.t 34) (.c (.bool true)) (.t 39)), oa 41 (.mov (.t 40)), oc 42 (.fieldAddr 5 (.t 2)) 41 ff, oc 43 (.load none (.t 42)) 41 ff, oc 44 (.fieldAddr 5 (.t 3)) 41 ff, oc 45 (.load none (.t 44)) 41 ff, oc 46 (.bin .neq (.t 43) (.t 45)) 41 ff, oa 47 (.pick (.t 41) (.c (.bool true)) (.t 46)), oa 48 (.mov (.t 47)), oc 49 (.fieldAddr 8 (.t 2)) 48 ff, oc 50 (.load (some 5) (.t 49)) 48 ff, oc 51 (.fieldAddr 8 (.t 3)) 48 ff, oc 52 (.load (some 5) (.t 51)) 48 ff, oc 53 (.call 33 [(.t 50), (.t 52)]) 48 ff, oc 54 (.un .not (.t 53)) 48 ff, oa 55 (.pick (.t 48) (.c (.bool true)) (.t 54))] (kp 162 [2,3,55]))
  (.cond (.t 55)
  (.seq (.region [oa 4 (.mov (.c (.bool false)))] (kp 162 [4]))
  (sr 162 [4]))
  (sk 162 [2,3])))
  (.seq (.seq (.region [oa 56 (.fieldAddr 13 (.t 2)), oa 57 (.load none (.t 56)), oa 58 (.fieldAddr 13 (.t 3)), oa 59 (.load none (.t 58)), oa 60 (.call 34 [(.t 57), (.t 59)]), oa 61 (.un .not (.t 60)), oa 62 (.mov (.t 61)), oc 63 (.fieldAddr 14 (.t 2)) 62 ff, oc 64 (.load none (.t 63)) 62 ff, oc 65 (.fieldAddr 14 (.t 3)) 62 ff, oc 66 (.load none (.t 65)) 62 ff, oc 67 (.call 34 [(.t 64), (.t 66)]) 62 ff, oc 68 (.un .not (.t 67)) 62 ff, oa 69 (.pick (.t 62) (.c (.bool true)) (.t 68)), oa 70 (.mov (.t 69)), oc 71 (.fieldAddr 15 (.t 2)) 70 ff, oc 72 (.load none (.t 71)) 70 ff, oc 73 (.fieldAddr 15 (.t 3)) 70 ff, oc 74 (.load none (.t 73)) 70 ff, oc 75 (.call 34 [(.t 72), (.t 74)]) 70 ff, oc 76 (.un .not (.t 75)) 70 ff, oa 77 (.pick (.t 70) (.c (.bool true)) (.t 76)), oa 78 (.mov (.t 77)), oc 79 (.fieldAddr 16 (.t 2)) 78 ff, oc 80 (.load none (.t 79)) 78 ff, oc 81 (.lenSlice (.t 80)) 78 ff, oc 82 (.fieldAddr 16 (.t 3)) 78 ff, oc 83 (.load none (.t 82)) 78 ff, oc 84 (.lenSlice (.t 83)) 78 ff, oc 85 (.bin .neq (.t 81) (.t 84)) 78 ff, oa 86 (.pick (.t 78) (.c (.bool true)) (.t 85)), oa 87 (.mov (.t 86)), oc 88 (.fieldAddr 6 (.t 2)) 87 ff, oc 89 (.load none (.t 88)) 87 ff, oc 90 (.lenSlice (.t 89)) 87 ff, oc 91 (.fieldAddr 6 (.t 3)) 87 ff, oc 92 (.load none (.t 91)) 87 ff, oc 93 (.lenSlice (.t 92)) 87 ff, oc 94 (.bin .neq (.t 90) (.t 93)) 87 ff, oa 95 (.pick (.t 87) (.c (.bool true)) (.t 94)), oa 96 (.mov (.t 95)), oc 97 (.fieldAddr 7 (.t 2)) 96 ff, oc 98 (.load none (.t 97)) 96 ff, oc 99 (.lenSlice (.t 98)) 96 ff, oc 100 (.fieldAddr 7 (.t 3)) 96 ff, oc 101 (.load none (.t 100)) 96 ff, oc 102 (.lenSlice (.t 101)) 96 ff, oc 103 (.bin .neq (.t 99) (.t 102)) 96 ff, oa 104 (.pick (.t 96) (.c (.bool true)) (.t 103))] (kp 162 [2,3,104]))
  (.cond (.t 104)
  (.seq (.region [oa 4 (.mov (.c (.bool false)))] (kp 162 [4]))
  (sr 162 [4]))
  (sk 162 [2,3])))
  (.seq (.seq (.region [oa 105 (.fieldAddr 16 (.t 2)), oa 106 (.load none (.t 105)), oa 107 (.lenSlice (.t 106)), oa 108 (.mov (ai 0))] (kp 162 [2,3,107,108]))
  (.block 0
  (.seq (sk 162 [2,3,107,108])
  (.loop l19_0))))
  (.seq (.seq (.region [oa 124 (.fieldAddr 6 (.t 2)), oa 125 (.load none (.t 124)), oa 126 (.lenSlice (.t 125)), oa 127 (.mov (ai 0))] (kp 162 [2,3,126,127]))
  (.block 2
  (.seq (sk 162 [2,3,126,127])
  (.loop l19_1))))
  (.seq (.seq (.region [oa 143 (.fieldAddr 7 (.t 2)), oa 144 (.load none (.t 143)), oa 145 (.lenSlice (.t 144)), oa 146 (.mov (ai 0))] (kp 162 [2,3,145,146]))
  (.block 4
  (.seq (sk 162 [2,3,145,146])
  (.loop l19_2))))
  (.seq (.region [oa 4 (.mov (.c (.bool true)))] (kp 162 [4]))
  (sr 162 [4]))))))))⟩
theorem F19 : shutF Tryz.prog 19 = some c19 := by kernel_rfl

-- virgate/virgateref03.SameDatas
def l29_0 : IC := (.seq (.seq (.seq (.region [oa 44 (.mov (.t 6)), oa 45 (.mov (.t 0)), oa 46 (.mov (.t 5)), oa 47 (.indexAddr 2 (.t 45) (.t 46)), oa 48 (.fieldAddr 1 (.t 47)), oa 49 (.load none (.t 48)), oa 50 (.lenSlice (.t 49)), oa 51 (.bin .lss (.t 44) (.t 50))] (kp 72 [0,1,5,6,51]))
  (.cond (.t 51)
  (sk 72 [0,1,5,6])
  (sx 72 [0,1,5] 2)))
  (.seq (.block 3
  (.seq (.region [oa 54 (.mov (.t 0)), oa 55 (.mov (.t 5)), oa 56 (.indexAddr 2 (.t 54) (.t 55)), oa 57 (.fieldAddr 1 (.t 56)), oa 58 (.load none (.t 57)), oa 59 (.mov (.t 6)), oa 60 (.indexAddr 5 (.t 58) (.t 59)), oa 61 (.load (some 5) (.t 60)), oa 62 (.mov (.t 1)), oa 63 (.mov (.t 5)), oa 64 (.indexAddr 2 (.t 62) (.t 63)), oa 65 (.fieldAddr 1 (.t 64)), oa 66 (.load none (.t 65)), oa 67 (.mov (.t 6)), oa 68 (.indexAddr 5 (.t 66) (.t 67)), oa 69 (.load (some 5) (.t 68)), oa 70 (.call 31 [(.t 61), (.t 69)]), oa 71 (.un .not (.t 70))] (kp 72 [0,1,5,6,71]))
  (.cond (.t 71)
  (.seq (.region [oa 4 (.mov (.c (.bool false)))] (kp 72 [4]))
  (sr 72 [4]))
  (sk 72 [0,1,5,6]))))
  (.region [oa 52 (.mov (.t 6)), oa 53 (.bin .add (.t 52) (ai 1)), oa 6 (.mov (.t 53))] (kp 72 [0,1,5,6]))))
  (sk 72 [0,1,5,6]))
def l29_1 : IC := (.seq (.seq (.seq (.region [oa 12 (.mov (.t 5)), oa 13 (.mov (.t 0)), oa 14 (.lenSlice (.t 13)), oa 15 (.bin .lss (.t 12) (.t 14))] (kp 72 [0,1,5,15]))
  (.cond (.t 15)
  (sk 72 [0,1,5])
  (sx 72 [] 0)))
  (.seq (.block 1
  (.seq (.seq (.region [oa 18 (.mov (.t 0)), oa 19 (.mov (.t 5)), oa 20 (.indexAddr 2 (.t 18) (.t 19)), oa 21 (.fieldAddr 0 (.t 20)), oa 22 (.load none (.t 21)), oa 23 (.mov (.t 1)), oa 24 (.mov (.t 5)), oa 25 (.indexAddr 2 (.t 23) (.t 24)), oa 26 (.fieldAddr 0 (.t 25)), oa 27 (.load none (.t 26)), oa 28 (.bin .neq (.t 22) (.t 27)), oa 29 (.mov (.t 28)), oc 30 (.mov (.t 0)) 29 ff, oc 31 (.mov (.t 5)) 29 ff, oc 32 (.indexAddr 2 (.t 30) (.t 31)) 29 ff, oc 33 (.fieldAddr 1 (.t 32)) 29 ff, oc 34 (.load none (.t 33)) 29 ff, oc 35 (.lenSlice (.t 34)) 29 ff, oc 36 (.mov (.t 1)) 29 ff, oc 37 (.mov (.t 5)) 29 ff, oc 38 (.indexAddr 2 (.t 36) (.t 37)) 29 ff, oc 39 (.fieldAddr 1 (.t 38)) 29 ff, oc 40 (.load none (.t 39)) 29 ff, oc 41 (.lenSlice (.t 40)) 29 ff, oc 42 (.bin .neq (.t 35) (.t 41)) 29 ff, oa 43 (.pick (.t 29) (.c (.bool true)) (.t 42))] (kp 72 [0,1,5,43]))
  (.cond (.t 43)
  (.seq (.region [oa 4 (.mov (.c (.bool false)))] (kp 72 [4]))
  (sr 72 [4]))
  (sk 72 [0,1,5])))
  (.seq (.region [oa 6 (.mov (ai 0))] (kp 72 [0,1,5,6]))
  (.block 2
  (.seq (sk 72 [0,1,5,6])
  (.loop l29_0))))))
  (.region [oa 16 (.mov (.t 5)), oa 17 (.bin .add (.t 16) (ai 1)), oa 5 (.mov (.t 17))] (kp 72 [0,1,5]))))
  (sk 72 [0,1,5]))
def c29 : IFn := ⟨72, [(4, none)],
  (.seq (.region [oa 4 (.mov (.c (.bool false)))] (kp 72 [0,1]))
  (.seq (.seq (.region [oa 7 (.mov (.t 0)), oa 8 (.lenSlice (.t 7)), oa 9 (.mov (.t 1)), oa 10 (.lenSlice (.t 9)), oa 11 (.bin .neq (.t 8) (.t 10))] (kp 72 [0,1,11]))
  (.cond (.t 11)
  (.seq (.region [oa 4 (.mov (.c (.bool false)))] (kp 72 [4]))
  (sr 72 [4]))
  (sk 72 [0,1])))
  (.seq (.seq (.region [oa 5 (.mov (ai 0))] (kp 72 [0,1,5]))
  (.block 0
  (.seq (sk 72 [0,1,5])
  (.loop l29_1))))
  (.seq (.region [oa 4 (.mov (.c (.bool true)))] (kp 72 [4]))
  (sr 72 [4])))))⟩
theorem F29 : shutF Tryz.prog 29 = some c29 := by kernel_rfl

-- virgate/virgateref03.SameCon

def c31 : IFn := ⟨24, [(4, none)],
  (.seq (.region [oa 2 (.box (.t 0)), oa 3 (.box (.t 1)), oa 4 (.mov (.c (.bool false)))] (kp 24 [2,3]))
  (.seq (.region [oa 5 (.fieldAddr 0 (.t 2)), oa 6 (.load none (.t 5)), oa 7 (.fieldAddr 0 (.t 3)), oa 8 (.load none (.t 7)), oa 9 (.bin .eql (.t 6) (.t 8)), oa 10 (.mov (.t 9)), oc 11 (.fieldAddr 1 (.t 2)) 10 tt, oc 12 (.load none (.t 11)) 10 tt, oc 13 (.fieldAddr 1 (.t 3)) 10 tt, oc 14 (.load none (.t 13)) 10 tt, oc 15 (.eql false (.key (.one .b)) (.t 12) (.t 14)) 10 tt, oa 16 (.pick (.t 10) (.t 15) (.c (.bool false))), oa 17 (.mov (.t 16)), oc 18 (.fieldAddr 2 (.t 2)) 17 tt, oc 19 (.load (some 3) (.t 18)) 17 tt, oc 20 (.fieldAddr 2 (.t 3)) 17 tt, oc 21 (.load (some 3) (.t 20)) 17 tt, oc 22 (.call 42 [(.t 19), (.t 21)]) 17 tt, oa 23 (.pick (.t 17) (.t 22) (.c (.bool false))), oa 4 (.mov (.t 23))] (kp 24 [4]))
  (sr 24 [4])))⟩
theorem F31 : shutF Tryz.prog 31 = some c31 := by kernel_rfl

-- virgate/virgateref10.SameType
def l33_0 : IC := (.seq (.seq (.region [oa 46 (.bin .lss (.t 45) (.t 44))] (kp 61 [2,3,44,45,46]))
  (.seq (.cond (.t 46)
  (sk 61 [2,3,44,45])
  (sx 61 [] 0))
  (.seq (.block 1
  (.seq (.region [oa 47 (.mov (.t 45)), oa 5 (.mov (.t 47))] (kp 61 [2,3,5,44,45]))
  (.seq (.region [oa 48 (.fieldAddr 4 (.t 2)), oa 49 (.load none (.t 48)), oa 50 (.mov (.t 5)), oa 51 (.indexAddr 5 (.t 49) (.t 50)), oa 52 (.load (some 5) (.t 51)), oa 53 (.fieldAddr 4 (.t 3)), oa 54 (.load none (.t 53)), oa 55 (.mov (.t 5)), oa 56 (.indexAddr 5 (.t 54) (.t 55)), oa 57 (.load (some 5) (.t 56)), oa 58 (.call 33 [(.t 52), (.t 57)]), oa 59 (.un .not (.t 58))] (kp 61 [2,3,44,45,59]))
  (.cond (.t 59)
  (.seq (.region [oa 4 (.mov (.c (.bool false)))] (kp 61 [4]))
  (sr 61 [4]))
  (sk 61 [2,3,44,45])))))
  (.region [oa 60 (.bin .add (.t 45) (ai 1)), oa 45 (.mov (.t 60))] (kp 61 [2,3,44,45])))))
  (sk 61 [2,3,44,45]))
def c33 : IFn := ⟨61, [(4, none)],
  (.seq (.region [oa 2 (.box (.t 0)), oa 3 (.box (.t 1)), oa 4 (.mov (.c (.bool false)))] (kp 61 [2,3]))
  (.seq (.seq (.region [oa 6 (.fieldAddr 0 (.t 2)), oa 7 (.load none (.t 6)), oa 8 (.fieldAddr 0 (.t 3)), oa 9 (.load none (.t 8)), oa 10 (.bin .neq (.t 7) (.t 9)), oa 11 (.mov (.t 10)), oc 12 (.fieldAddr 1 (.t 2)) 11 ff, oc 13 (.load none (.t 12)) 11 ff, oc 14 (.fieldAddr 1 (.t 3)) 11 ff, oc 15 (.load none (.t 14)) 11 ff, oc 16 (.bin .neq (.t 13) (.t 15)) 11 ff, oa 17 (.pick (.t 11) (.c (.bool true)) (.t 16)), oa 18 (.mov (.t 17)), oc 19 (.fieldAddr 2 (.t 2)) 18 ff, oc 20 (.load none (.t 19)) 18 ff, oc 21 (.fieldAddr 2 (.t 3)) 18 ff, oc 22 (.load none (.t 21)) 18 ff, oc 23 (.bin .neq (.t 20) (.t 22)) 18 ff, oa 24 (.pick (.t 18) (.c (.bool true)) (.t 23)), oa 25 (.mov (.t 24)), oc 26 (.fieldAddr 3 (.t 2)) 25 ff, oc 27 (.load none (.t 26)) 25 ff, oc 28 (.fieldAddr 3 (.t 3)) 25 ff, oc 29 (.load none (.t 28)) 25 ff, oc 30 (.call 34 [(.t 27), (.t 29)]) 25 ff, oc 31 (.un .not (.t 30)) 25 ff, oa 32 (.pick (.t 25) (.c (.bool true)) (.t 31)), oa 33 (.mov (.t 32)), oc 34 (.fieldAddr 4 (.t 2)) 33 ff, oc 35 (.load none (.t 34)) 33 ff, oc 36 (.lenSlice (.t 35)) 33 ff, oc 37 (.fieldAddr 4 (.t 3)) 33 ff, oc 38 (.load none (.t 37)) 33 ff, oc 39 (.lenSlice (.t 38)) 33 ff, oc 40 (.bin .neq (.t 36) (.t 39)) 33 ff, oa 41 (.pick (.t 33) (.c (.bool true)) (.t 40))] (kp 61 [2,3,41]))
  (.cond (.t 41)
  (.seq (.region [oa 4 (.mov (.c (.bool false)))] (kp 61 [4]))
  (sr 61 [4]))
  (sk 61 [2,3])))
  (.seq (.seq (.region [oa 42 (.fieldAddr 4 (.t 2)), oa 43 (.load none (.t 42)), oa 44 (.lenSlice (.t 43)), oa 45 (.mov (ai 0))] (kp 61 [2,3,44,45]))
  (.block 0
  (.seq (sk 61 [2,3,44,45])
  (.loop l33_0))))
  (.seq (.region [oa 4 (.mov (.c (.bool true)))] (kp 61 [4]))
  (sr 61 [4])))))⟩
theorem F33 : shutF Tryz.prog 33 = some c33 := by kernel_rfl

-- virgate/virgateref10.SameInts
def l34_0 : IC := (.seq (.seq (.region [oa 14 (.bin .lss (.t 13) (.t 12))] (kp 26 [0,1,12,13,14]))
  (.seq (.cond (.t 14)
  (sk 26 [0,1,12,13])
  (sx 26 [] 0))
  (.seq (.block 1
  (.seq (.region [oa 15 (.mov (.t 13)), oa 5 (.mov (.t 15))] (kp 26 [0,1,5,12,13]))
  (.seq (.region [oa 16 (.mov (.t 0)), oa 17 (.mov (.t 5)), oa 18 (.indexAddr 1 (.t 16) (.t 17)), oa 19 (.load none (.t 18)), oa 20 (.mov (.t 1)), oa 21 (.mov (.t 5)), oa 22 (.indexAddr 1 (.t 20) (.t 21)), oa 23 (.load none (.t 22)), oa 24 (.bin .neq (.t 19) (.t 23))] (kp 26 [0,1,12,13,24]))
  (.cond (.t 24)
  (.seq (.region [oa 4 (.mov (.c (.bool false)))] (kp 26 [4]))
  (sr 26 [4]))
  (sk 26 [0,1,12,13])))))
  (.region [oa 25 (.bin .add (.t 13) (ai 1)), oa 13 (.mov (.t 25))] (kp 26 [0,1,12,13])))))
  (sk 26 [0,1,12,13]))
def c34 : IFn := ⟨26, [(4, none)],
  (.seq (.region [oa 4 (.mov (.c (.bool false)))] (kp 26 [0,1]))
  (.seq (.seq (.region [oa 6 (.mov (.t 0)), oa 7 (.lenSlice (.t 6)), oa 8 (.mov (.t 1)), oa 9 (.lenSlice (.t 8)), oa 10 (.bin .neq (.t 7) (.t 9))] (kp 26 [0,1,10]))
  (.cond (.t 10)
  (.seq (.region [oa 4 (.mov (.c (.bool false)))] (kp 26 [4]))
  (sr 26 [4]))
  (sk 26 [0,1])))
  (.seq (.seq (.region [oa 11 (.mov (.t 0)), oa 12 (.lenSlice (.t 11)), oa 13 (.mov (ai 0))] (kp 26 [0,1,12,13]))
  (.block 0
  (.seq (sk 26 [0,1,12,13])
  (.loop l34_0))))
  (.seq (.region [oa 4 (.mov (.c (.bool true)))] (kp 26 [4]))
  (sr 26 [4])))))⟩
theorem F34 : shutF Tryz.prog 34 = some c34 := by kernel_rfl

-- virgate/virgateref02.SamePat
def l35_0 : IC := (.seq (.seq (.region [oa 38 (.bin .lss (.t 37) (.t 36))] (kp 53 [2,3,36,37,38]))
  (.seq (.cond (.t 38)
  (sk 53 [2,3,36,37])
  (sx 53 [] 0))
  (.seq (.block 1
  (.seq (.region [oa 39 (.mov (.t 37)), oa 5 (.mov (.t 39))] (kp 53 [2,3,5,36,37]))
  (.seq (.region [oa 40 (.fieldAddr 3 (.t 2)), oa 41 (.load none (.t 40)), oa 42 (.mov (.t 5)), oa 43 (.indexAddr 4 (.t 41) (.t 42)), oa 44 (.load (some 4) (.t 43)), oa 45 (.fieldAddr 3 (.t 3)), oa 46 (.load none (.t 45)), oa 47 (.mov (.t 5)), oa 48 (.indexAddr 4 (.t 46) (.t 47)), oa 49 (.load (some 4) (.t 48)), oa 50 (.call 35 [(.t 44), (.t 49)]), oa 51 (.un .not (.t 50))] (kp 53 [2,3,36,37,51]))
  (.cond (.t 51)
  (.seq (.region [oa 4 (.mov (.c (.bool false)))] (kp 53 [4]))
  (sr 53 [4]))
  (sk 53 [2,3,36,37])))))
  (.region [oa 52 (.bin .add (.t 37) (ai 1)), oa 37 (.mov (.t 52))] (kp 53 [2,3,36,37])))))
  (sk 53 [2,3,36,37]))
def c35 : IFn := ⟨53, [(4, none)],
  (.seq (.region [oa 2 (.box (.t 0)), oa 3 (.box (.t 1)), oa 4 (.mov (.c (.bool false)))] (kp 53 [2,3]))
  (.seq (.seq (.region [oa 6 (.fieldAddr 0 (.t 2)), oa 7 (.load none (.t 6)), oa 8 (.fieldAddr 0 (.t 3)), oa 9 (.load none (.t 8)), oa 10 (.bin .neq (.t 7) (.t 9)), oa 11 (.mov (.t 10)), oc 12 (.fieldAddr 1 (.t 2)) 11 ff, oc 13 (.load none (.t 12)) 11 ff, oc 14 (.fieldAddr 1 (.t 3)) 11 ff, oc 15 (.load none (.t 14)) 11 ff, oc 16 (.bin .neq (.t 13) (.t 15)) 11 ff, oa 17 (.pick (.t 11) (.c (.bool true)) (.t 16)), oa 18 (.mov (.t 17)), oc 19 (.fieldAddr 2 (.t 2)) 18 ff, oc 20 (.load none (.t 19)) 18 ff, oc 21 (.fieldAddr 2 (.t 3)) 18 ff, oc 22 (.load none (.t 21)) 18 ff, oc 23 (.bin .neq (.t 20) (.t 22)) 18 ff, oa 24 (.pick (.t 18) (.c (.bool true)) (.t 23)), oa 25 (.mov (.t 24)), oc 26 (.fieldAddr 3 (.t 2)) 25 ff, oc 27 (.load none (.t 26)) 25 ff, oc 28 (.lenSlice (.t 27)) 25 ff, oc 29 (.fieldAddr 3 (.t 3)) 25 ff, oc 30 (.load none (.t 29)) 25 ff, oc 31 (.lenSlice (.t 30)) 25 ff, oc 32 (.bin .neq (.t 28) (.t 31)) 25 ff, oa 33 (.pick (.t 25) (.c (.bool true)) (.t 32))] (kp 53 [2,3,33]))
  (.cond (.t 33)
  (.seq (.region [oa 4 (.mov (.c (.bool false)))] (kp 53 [4]))
  (sr 53 [4]))
  (sk 53 [2,3])))
  (.seq (.seq (.region [oa 34 (.fieldAddr 3 (.t 2)), oa 35 (.load none (.t 34)), oa 36 (.lenSlice (.t 35)), oa 37 (.mov (ai 0))] (kp 53 [2,3,36,37]))
  (.block 0
  (.seq (sk 53 [2,3,36,37])
  (.loop l35_0))))
  (.seq (.region [oa 4 (.mov (.c (.bool true)))] (kp 53 [4]))
  (sr 53 [4])))))⟩
theorem F35 : shutF Tryz.prog 35 = some c35 := by kernel_rfl

-- virgate/virgateref02.SameType

def c42 : IFn := ⟨24, [(4, none)],
  (.seq (.region [oa 2 (.box (.t 0)), oa 3 (.box (.t 1)), oa 4 (.mov (.c (.bool false)))] (kp 24 [2,3]))
  (.seq (.region [oa 5 (.fieldAddr 0 (.t 2)), oa 6 (.load none (.t 5)), oa 7 (.fieldAddr 0 (.t 3)), oa 8 (.load none (.t 7)), oa 9 (.bin .eql (.t 6) (.t 8)), oa 10 (.mov (.t 9)), oc 11 (.fieldAddr 1 (.t 2)) 10 tt, oc 12 (.load none (.t 11)) 10 tt, oc 13 (.fieldAddr 1 (.t 3)) 10 tt, oc 14 (.load none (.t 13)) 10 tt, oc 15 (.bin .eql (.t 12) (.t 14)) 10 tt, oa 16 (.pick (.t 10) (.t 15) (.c (.bool false))), oa 17 (.mov (.t 16)), oc 18 (.fieldAddr 2 (.t 2)) 17 tt, oc 19 (.load none (.t 18)) 17 tt, oc 20 (.fieldAddr 2 (.t 3)) 17 tt, oc 21 (.load none (.t 20)) 17 tt, oc 22 (.call 43 [(.t 19), (.t 21)]) 17 tt, oa 23 (.pick (.t 17) (.t 22) (.c (.bool false))), oa 4 (.mov (.t 23))] (kp 24 [4]))
  (sr 24 [4])))⟩
theorem F42 : shutF Tryz.prog 42 = some c42 := by kernel_rfl

-- virgate/virgateref02.sameTypes
def l43_0 : IC := (.seq (.seq (.region [oa 14 (.bin .lss (.t 13) (.t 12))] (kp 27 [0,1,12,13,14]))
  (.seq (.cond (.t 14)
  (sk 27 [0,1,12,13])
  (sx 27 [] 0))
  (.seq (.block 1
  (.seq (.region [oa 15 (.mov (.t 13)), oa 5 (.mov (.t 15))] (kp 27 [0,1,5,12,13]))
  (.seq (.region [oa 16 (.mov (.t 0)), oa 17 (.mov (.t 5)), oa 18 (.indexAddr 3 (.t 16) (.t 17)), oa 19 (.load (some 3) (.t 18)), oa 20 (.mov (.t 1)), oa 21 (.mov (.t 5)), oa 22 (.indexAddr 3 (.t 20) (.t 21)), oa 23 (.load (some 3) (.t 22)), oa 24 (.call 42 [(.t 19), (.t 23)]), oa 25 (.un .not (.t 24))] (kp 27 [0,1,12,13,25]))
  (.cond (.t 25)
  (.seq (.region [oa 4 (.mov (.c (.bool false)))] (kp 27 [4]))
  (sr 27 [4]))
  (sk 27 [0,1,12,13])))))
  (.region [oa 26 (.bin .add (.t 13) (ai 1)), oa 13 (.mov (.t 26))] (kp 27 [0,1,12,13])))))
  (sk 27 [0,1,12,13]))
def c43 : IFn := ⟨27, [(4, none)],
  (.seq (.region [oa 4 (.mov (.c (.bool false)))] (kp 27 [0,1]))
  (.seq (.seq (.region [oa 6 (.mov (.t 0)), oa 7 (.lenSlice (.t 6)), oa 8 (.mov (.t 1)), oa 9 (.lenSlice (.t 8)), oa 10 (.bin .neq (.t 7) (.t 9))] (kp 27 [0,1,10]))
  (.cond (.t 10)
  (.seq (.region [oa 4 (.mov (.c (.bool false)))] (kp 27 [4]))
  (sr 27 [4]))
  (sk 27 [0,1])))
  (.seq (.seq (.region [oa 11 (.mov (.t 0)), oa 12 (.lenSlice (.t 11)), oa 13 (.mov (ai 0))] (kp 27 [0,1,12,13]))
  (.block 0
  (.seq (sk 27 [0,1,12,13])
  (.loop l43_0))))
  (.seq (.region [oa 4 (.mov (.c (.bool true)))] (kp 27 [4]))
  (sr 27 [4])))))⟩
theorem F43 : shutF Tryz.prog 43 = some c43 := by kernel_rfl


section
variable {o : Nat → Option O}
set_option maxRecDepth 10000
set_option maxHeartbeats 4000000
theorem l43_0_loop {es es' : List D} {v v' : V} {C : Ch} {Q : V → St → Prop} {K : Kt} (hv : SlD o 3 es v) (hv' : SlD o 3 es' v') (hl : es.length = es'.length) (ht : ∀ d ∈ es, HasTy Tryz.prog 50 d) (ht' : ∀ d ∈ es', HasTy Tryz.prog 50 d) (hm : es.length ≤ maxLen) (IH : ∀ x ∈ es, ∀ x', EqS o 42 50 x x') :
    ∀ (m i : Nat) (z : Int) (s : St), z = ((i : Nat) : Int) → i + m = es.length → Holds o s C →
    (∀ s', Holds o s' C → beqDs (es.drop i) (es'.drop i) = true → WP (K (.exit 0) (sp 27 []) s') Q) →
    (∀ s', Holds o s' C → beqDs (es.drop i) (es'.drop i) = false → WP (K .ret (sp 27 [(4, .bool false)]) s') Q) → WP (loop PF (.loop l43_0) (sp 27 [(0, v), (1, v'), (12, I es.length), (13, I z)]) s K) Q
  | 0, i, z, s, hz, hi, H, kt, kf => by
    subst hz
    have hlt : ¬ ((i : Int) < (es.length : Int)) := by omega
    refine wp_round fun LL hLL => ?_
    simp -implicitDefEqProofs only [↓GP, GB, GL, Nat.reduceAdd, Nat.reduceSub, Nat.reduceEqDiff, Nat.reduceMul, Nat.reduceLeDiff, Int.reduceBNe, Int.reduceBEq, Nat.reduceLT, reduceCtorEq, l43_0, hlt]
    exact kt s H (by rw [List.drop_eq_nil_of_le (by omega), List.drop_eq_nil_of_le (by omega), beqDs_nil])
  | m + 1, i, z, s, hz, hi, H, kt, kf => by
    subst hz
    have hlt : ((i : Int) < (es.length : Int)) := by omega
    have hi1 : i < es.length := by omega
    have hi2 : i < es'.length := by omega
    have hw1 := wrap_len (a := i) (by omega)
    obtain ⟨b, off, M, c, x1, x2, x3, x4⟩ := hv.get i hi1
    obtain ⟨b', off', M', c', y1, y2, y3, y4⟩ := hv'.get i hi2
    have ta := ht _ (List.getElem_mem hi1)
    have ta' := ht' _ (List.getElem_mem hi2)
    have ed := beqDs_drop hi1 hi2
    have l1 := (ld_old H.old x3 x4 (by omega)).1
    have l2 := (ld_old H.old y3 y4 (by omega)).1
    refine wp_round fun LL hLL => ?_
    simp -implicitDefEqProofs only [↓GP, GB, GL, Nat.reduceAdd, Nat.reduceSub, Nat.reduceEqDiff, Nat.reduceMul, Nat.reduceLeDiff, Int.reduceBNe, Int.reduceBEq, Nat.reduceLT, reduceCtorEq, l43_0, hlt, x1, y1, l1, l2, ldo_alloc, ldo_set]
    refine wp_in (IH _ (List.getElem_mem hi1) _ _ _ _ _ _ ta ta' x2 y2 H fun s1 h1 => ?_)
    cases g : beqD es[i] es'[i] with
    | false =>
      rw [g, Bool.false_and] at ed
      simp -implicitDefEqProofs only [↓GP, GB, GL, Nat.reduceAdd, Nat.reduceSub, Nat.reduceEqDiff, Nat.reduceMul, Nat.reduceLeDiff, Int.reduceBNe, Int.reduceBEq, Nat.reduceLT, reduceCtorEq, g]
      exact kf _ (h1) ed
    | true =>
      rw [g, Bool.true_and] at ed
      simp -implicitDefEqProofs only [↓GP, GB, GL, Nat.reduceAdd, Nat.reduceSub, Nat.reduceEqDiff, Nat.reduceMul, Nat.reduceLeDiff, Int.reduceBNe, Int.reduceBEq, Nat.reduceLT, reduceCtorEq, g, hw1]
      rw [hLL]
      exact l43_0_loop hv hv' hl ht ht' hm IH m (i + 1) _ _ rfl (by omega) (h1) (fun s2 h2 e => kt s2 h2 (ed.trans e)) (fun s2 h2 e => kf s2 h2 (ed.trans e))
theorem l43 {es es' : List D} (ht : ∀ d ∈ es, HasTy Tryz.prog 50 d) (ht' : ∀ d ∈ es', HasTy Tryz.prog 50 d) (hm : es.length ≤ maxLen) (IH : ∀ x ∈ es, ∀ x', EqS o 42 50 x x') : EqL o 43 3 es es' := by
  intro v v' C s Q hv hv' H k
  by_cases hl : es.length = es'.length
  · have hz : (((es.length : Nat) : Int) == ((es'.length : Nat) : Int)) = true := by rw [beq_iff_eq]; omega
    rw [call_run F43]; simp -implicitDefEqProofs only [↓GP, GB, GL, Nat.reduceAdd, Nat.reduceSub, Nat.reduceEqDiff, Nat.reduceMul, Nat.reduceLeDiff, Int.reduceBNe, Int.reduceBEq, Nat.reduceLT, reduceCtorEq, c43, hv.len, hv'.len, bne, hz]
    refine l43_0_loop hv hv' hl ht ht' hm IH _ 0 _ _ rfl (Nat.zero_add _) H (fun s1 h1 g => ?_) (fun s1 h1 g => ?_) <;> rw [List.drop_zero, List.drop_zero] at g <;> simp only [g] at k
    · simp -implicitDefEqProofs only [↓GP, GB, GL, Nat.reduceAdd, Nat.reduceSub, Nat.reduceEqDiff, Nat.reduceMul, Nat.reduceLeDiff, Int.reduceBNe, Int.reduceBEq, Nat.reduceLT, reduceCtorEq]
      exact k _ h1
    · simp -implicitDefEqProofs only [↓GP, GB, GL, Nat.reduceAdd, Nat.reduceSub, Nat.reduceEqDiff, Nat.reduceMul, Nat.reduceLeDiff, Int.reduceBNe, Int.reduceBEq, Nat.reduceLT, reduceCtorEq]
      exact k _ h1
  · have hz : (((es.length : Nat) : Int) == ((es'.length : Nat) : Int)) = false := by rw [beq_eq_false_iff_ne]; omega
    rw [call_run F43]; simp -implicitDefEqProofs only [↓GP, GB, GL, Nat.reduceAdd, Nat.reduceSub, Nat.reduceEqDiff, Nat.reduceMul, Nat.reduceLeDiff, Int.reduceBNe, Int.reduceBEq, Nat.reduceLT, reduceCtorEq, c43, hv.len, hv'.len, bne, hz]
    simp only [beqDs_ne hl] at k
    exact k _ H
/-- Function 42: Ty. -/
theorem t42 (d d' : D) (IH : ∀ x x' : D, SizeOf.sizeOf x < SizeOf.sizeOf d → EqS o 42 50 x x') : EqS o 42 50 d d' := by
    intro c c' C s Q ht ht' r r' H k
    obtain ⟨s0, s1, L2, v2, rfl, hc, w⟩ := vTy ht r
    obtain ⟨s0', s1', L2', v2', rfl, hc', w'⟩ := vTy ht' r'
    have qa0 : c[0]? = some (.str s0) := by rw [hc]; rfl
    have qa1 : c[1]? = some (.str s1) := by rw [hc]; rfl
    have qa2 : c[2]? = some (v2) := by rw [hc]; rfl
    have qaa : c.all V.one = true := by rw [hc]; simp only [List.all_cons, List.all_nil, one_s, one_i, one_b, Bool.and_true, w.e2.one]
    have qb0 : c'[0]? = some (.str s0') := by rw [hc']; rfl
    have qb1 : c'[1]? = some (.str s1') := by rw [hc']; rfl
    have qb2 : c'[2]? = some (v2') := by rw [hc']; rfl
    have qab : c'.all V.one = true := by rw [hc']; simp only [List.all_cons, List.all_nil, one_s, one_i, one_b, Bool.and_true, w'.e2.one]
    have h0 : Holds o ((s.alloc (.cells c none)).alloc (.cells c' none)) ((s.next + 1, some (.cells c' none)) :: (s.next, some (.cells c none)) :: C) := (H.alloc _).alloc _
    cases g1 : (s0.toList == s0'.toList) with
    | false =>
      rw [call_run F42]; simp -implicitDefEqProofs only [↓GP, GB, GL, Nat.reduceAdd, Nat.reduceSub, Nat.reduceEqDiff, Nat.reduceMul, Nat.reduceLeDiff, Int.reduceBNe, Int.reduceBEq, Nat.reduceLT, reduceCtorEq, c42, qa0, qa1, qa2, qaa, qb0, qb1, qb2, qab, cells_agg, ldC_some, ldN_some, b_seq, b_sne, bEq, bne, w.e2.len, w'.e2.len, g1]
      have e : beqD (.agg [.lit (.str s0), .lit (.str s1), .sl 3 L2]) (.agg [.lit (.str s0'), .lit (.str s1'), .sl 3 L2']) = false := by rw [beqD_agg]; simp only [beqDs_cons, beqDs_nil, beqD_sl, beqD_lit, litEq, g1, Bool.true_and, Bool.false_and, Bool.and_false, Bool.and_true]
      simp only [e] at k
      exact k _ h0.tl.tl
    | true =>
      cases g2 : (s1.toList == s1'.toList) with
      | false =>
        rw [call_run F42]; simp -implicitDefEqProofs only [↓GP, GB, GL, Nat.reduceAdd, Nat.reduceSub, Nat.reduceEqDiff, Nat.reduceMul, Nat.reduceLeDiff, Int.reduceBNe, Int.reduceBEq, Nat.reduceLT, reduceCtorEq, c42, qa0, qa1, qa2, qaa, qb0, qb1, qb2, qab, cells_agg, ldC_some, ldN_some, b_seq, b_sne, bEq, bne, w.e2.len, w'.e2.len, g1, g2]
        have e : beqD (.agg [.lit (.str s0), .lit (.str s1), .sl 3 L2]) (.agg [.lit (.str s0'), .lit (.str s1'), .sl 3 L2']) = false := by rw [beqD_agg]; simp only [beqDs_cons, beqDs_nil, beqD_sl, beqD_lit, litEq, g1, g2, Bool.true_and, Bool.false_and, Bool.and_false, Bool.and_true]
        simp only [e] at k
        exact k _ h0.tl.tl
      | true =>
        rw [call_run F42]; simp -implicitDefEqProofs only [↓GP, GB, GL, Nat.reduceAdd, Nat.reduceSub, Nat.reduceEqDiff, Nat.reduceMul, Nat.reduceLeDiff, Int.reduceBNe, Int.reduceBEq, Nat.reduceLT, reduceCtorEq, c42, qa0, qa1, qa2, qaa, qb0, qb1, qb2, qab, cells_agg, ldC_some, ldN_some, b_seq, b_sne, bEq, bne, w.e2.len, w'.e2.len, g1, g2]
        refine wp_in ((l43 w.t2 w'.t2 w.m2 fun x hx x' => IH x x' (mem_agg (ds := [.lit (.str s0), .lit (.str s1), .sl 3 L2]) (sz := 3) (List.mem_of_getElem? (i := 2) rfl) hx)) _ _ _ _ _ w.e2 w'.e2 h0 fun u3 h3 => ?_)
        have f3 := h3.f2
        cases g3 : beqDs L2 L2' with
        | false =>
          simp -implicitDefEqProofs only [↓GP, GB, GL, Nat.reduceAdd, Nat.reduceSub, Nat.reduceEqDiff, Nat.reduceMul, Nat.reduceLeDiff, Int.reduceBNe, Int.reduceBEq, Nat.reduceLT, reduceCtorEq, f3, qa0, qa1, qa2, qaa, qb0, qb1, qb2, qab, cells_agg, ldC_some, ldN_some, b_seq, b_sne, bEq, bne, w.e2.len, w'.e2.len, g3]
          have e : beqD (.agg [.lit (.str s0), .lit (.str s1), .sl 3 L2]) (.agg [.lit (.str s0'), .lit (.str s1'), .sl 3 L2']) = false := by rw [beqD_agg]; simp only [beqDs_cons, beqDs_nil, beqD_sl, beqD_lit, litEq, g1, g2, g3, Bool.true_and, Bool.false_and, Bool.and_false, Bool.and_true]
          simp only [e] at k
          exact k _ h3.tl.tl
        | true =>
          simp -implicitDefEqProofs only [↓GP, GB, GL, Nat.reduceAdd, Nat.reduceSub, Nat.reduceEqDiff, Nat.reduceMul, Nat.reduceLeDiff, Int.reduceBNe, Int.reduceBEq, Nat.reduceLT, reduceCtorEq, f3, qa0, qa1, qa2, qaa, qb0, qb1, qb2, qab, cells_agg, ldC_some, ldN_some, b_seq, b_sne, bEq, bne, w.e2.len, w'.e2.len, g3]
          have e : beqD (.agg [.lit (.str s0), .lit (.str s1), .sl 3 L2]) (.agg [.lit (.str s0'), .lit (.str s1'), .sl 3 L2']) = true := by rw [beqD_agg]; simp only [beqDs_cons, beqDs_nil, beqD_sl, beqD_lit, litEq, g1, g2, g3, Bool.true_and, Bool.false_and, Bool.and_false, Bool.and_true]
          simp only [e] at k
          exact k _ h3.tl.tl
theorem s42 : ∀ (m : Nat) (d d' : D), SizeOf.sizeOf d < m → EqS o 42 50 d d'
  | 0, _, _, hm => absurd hm (Nat.not_lt_zero _)
  | m + 1, d, d', hm => t42 d d' fun x x' h => s42 m x x' (Nat.lt_of_lt_of_le h (Nat.le_of_lt_succ hm))
theorem e42 (d d' : D) : EqS o 42 50 d d' := s42 _ d d' (Nat.lt_succ_self _)
/-- Function 31: Con. -/
theorem t31 (d d' : D) (IH : ∀ x x' : D, SizeOf.sizeOf x < SizeOf.sizeOf d → EqS o 31 52 x x') : EqS o 31 52 d d' := by
    intro c c' C s Q ht ht' r r' H k
    obtain ⟨s0, b1, s2_0, s2_1, L2_2, v2_2, rfl, hc, w⟩ := vCon ht r
    obtain ⟨s0', b1', s2_0', s2_1', L2_2', v2_2', rfl, hc', w'⟩ := vCon ht' r'
    have qa0 : c[0]? = some (.str s0) := by rw [hc]; rfl
    have qa1 : c[1]? = some (.bool b1) := by rw [hc]; rfl
    have qa2 : cut c 2 3 = some [.str s2_0, .str s2_1, v2_2] := by rw [hc]; rfl
    have qaa : c.all V.one = true := by rw [hc]; simp only [List.all_cons, List.all_nil, one_s, one_i, one_b, Bool.and_true, w.w2.e2.one]
    have qb0 : c'[0]? = some (.str s0') := by rw [hc']; rfl
    have qb1 : c'[1]? = some (.bool b1') := by rw [hc']; rfl
    have qb2 : cut c' 2 3 = some [.str s2_0', .str s2_1', v2_2'] := by rw [hc']; rfl
    have qab : c'.all V.one = true := by rw [hc']; simp only [List.all_cons, List.all_nil, one_s, one_i, one_b, Bool.and_true, w'.w2.e2.one]
    have h0 : Holds o ((s.alloc (.cells c none)).alloc (.cells c' none)) ((s.next + 1, some (.cells c' none)) :: (s.next, some (.cells c none)) :: C) := (H.alloc _).alloc _
    cases g1 : (s0.toList == s0'.toList) with
    | false =>
      rw [call_run F31]; simp -implicitDefEqProofs only [↓GP, GB, GL, Nat.reduceAdd, Nat.reduceSub, Nat.reduceEqDiff, Nat.reduceMul, Nat.reduceLeDiff, Int.reduceBNe, Int.reduceBEq, Nat.reduceLT, reduceCtorEq, c31, qa0, qa1, qa2, qaa, qb0, qb1, qb2, qab, cells_agg, ldC_some, ldN_some, b_seq, b_sne, bEq, bne, g1]
      have e : beqD (.agg [.lit (.str s0), .lit (.bool b1), .agg [.lit (.str s2_0), .lit (.str s2_1), .sl 3 L2_2]]) (.agg [.lit (.str s0'), .lit (.bool b1'), .agg [.lit (.str s2_0'), .lit (.str s2_1'), .sl 3 L2_2']]) = false := by rw [beqD_agg]; simp only [beqDs_cons, beqDs_nil, beqD_sl, beqD_lit, litEq, g1, Bool.true_and, Bool.false_and, Bool.and_false, Bool.and_true]
      simp only [e] at k
      exact k _ h0.tl.tl
    | true =>
      cases g2 : (b1 == b1') with
      | false =>
        rw [call_run F31]; simp -implicitDefEqProofs only [↓GP, GB, GL, Nat.reduceAdd, Nat.reduceSub, Nat.reduceEqDiff, Nat.reduceMul, Nat.reduceLeDiff, Int.reduceBNe, Int.reduceBEq, Nat.reduceLT, reduceCtorEq, c31, qa0, qa1, qa2, qaa, qb0, qb1, qb2, qab, cells_agg, ldC_some, ldN_some, b_seq, b_sne, bEq, bne, g1, g2]
        have e : beqD (.agg [.lit (.str s0), .lit (.bool b1), .agg [.lit (.str s2_0), .lit (.str s2_1), .sl 3 L2_2]]) (.agg [.lit (.str s0'), .lit (.bool b1'), .agg [.lit (.str s2_0'), .lit (.str s2_1'), .sl 3 L2_2']]) = false := by rw [beqD_agg]; simp only [beqDs_cons, beqDs_nil, beqD_sl, beqD_lit, litEq, g1, g2, Bool.true_and, Bool.false_and, Bool.and_false, Bool.and_true]
        simp only [e] at k
        exact k _ h0.tl.tl
      | true =>
        rw [call_run F31]; simp -implicitDefEqProofs only [↓GP, GB, GL, Nat.reduceAdd, Nat.reduceSub, Nat.reduceEqDiff, Nat.reduceMul, Nat.reduceLeDiff, Int.reduceBNe, Int.reduceBEq, Nat.reduceLT, reduceCtorEq, c31, qa0, qa1, qa2, qaa, qb0, qb1, qb2, qab, cells_agg, ldC_some, ldN_some, b_seq, b_sne, bEq, bne, g1, g2]
        refine wp_in ((e42 _ _) _ _ _ _ _ w.h2 w'.h2 w.r2 w'.r2 h0 fun u3 h3 => ?_)
        have f3 := h3.f2
        cases g3 : beqD (.agg [.lit (.str s2_0), .lit (.str s2_1), .sl 3 L2_2]) (.agg [.lit (.str s2_0'), .lit (.str s2_1'), .sl 3 L2_2']) with
        | false =>
          simp -implicitDefEqProofs only [↓GP, GB, GL, Nat.reduceAdd, Nat.reduceSub, Nat.reduceEqDiff, Nat.reduceMul, Nat.reduceLeDiff, Int.reduceBNe, Int.reduceBEq, Nat.reduceLT, reduceCtorEq, f3, qa0, qa1, qa2, qaa, qb0, qb1, qb2, qab, cells_agg, ldC_some, ldN_some, b_seq, b_sne, bEq, bne, g3]
          have e : beqD (.agg [.lit (.str s0), .lit (.bool b1), .agg [.lit (.str s2_0), .lit (.str s2_1), .sl 3 L2_2]]) (.agg [.lit (.str s0'), .lit (.bool b1'), .agg [.lit (.str s2_0'), .lit (.str s2_1'), .sl 3 L2_2']]) = false := by rw [beqD_agg]; simp only [beqDs_cons, beqDs_nil, beqD_sl, beqD_lit, litEq, g1, g2, g3, Bool.true_and, Bool.false_and, Bool.and_false, Bool.and_true]
          simp only [e] at k
          exact k _ h3.tl.tl
        | true =>
          simp -implicitDefEqProofs only [↓GP, GB, GL, Nat.reduceAdd, Nat.reduceSub, Nat.reduceEqDiff, Nat.reduceMul, Nat.reduceLeDiff, Int.reduceBNe, Int.reduceBEq, Nat.reduceLT, reduceCtorEq, f3, qa0, qa1, qa2, qaa, qb0, qb1, qb2, qab, cells_agg, ldC_some, ldN_some, b_seq, b_sne, bEq, bne, g3]
          have e : beqD (.agg [.lit (.str s0), .lit (.bool b1), .agg [.lit (.str s2_0), .lit (.str s2_1), .sl 3 L2_2]]) (.agg [.lit (.str s0'), .lit (.bool b1'), .agg [.lit (.str s2_0'), .lit (.str s2_1'), .sl 3 L2_2']]) = true := by rw [beqD_agg]; simp only [beqDs_cons, beqDs_nil, beqD_sl, beqD_lit, litEq, g1, g2, g3, Bool.true_and, Bool.false_and, Bool.and_false, Bool.and_true]
          simp only [e] at k
          exact k _ h3.tl.tl
theorem s31 : ∀ (m : Nat) (d d' : D), SizeOf.sizeOf d < m → EqS o 31 52 d d'
  | 0, _, _, hm => absurd hm (Nat.not_lt_zero _)
  | m + 1, d, d', hm => t31 d d' fun x x' h => s31 m x x' (Nat.lt_of_lt_of_le h (Nat.le_of_lt_succ hm))
theorem e31 (d d' : D) : EqS o 31 52 d d' := s31 _ d d' (Nat.lt_succ_self _)
theorem l29_0_loop {es es' : List D} {v v' : V} {C : Ch} {Q : V → St → Prop} {K : Kt} (hv : SlD o 5 es v) (hv' : SlD o 5 es' v') (hl : es.length = es'.length) (ht : ∀ d ∈ es, HasTy Tryz.prog 52 d) (ht' : ∀ d ∈ es', HasTy Tryz.prog 52 d) (hm : es.length ≤ maxLen) (IH : ∀ x ∈ es, ∀ x', EqS o 31 52 x x') {a a' : V} {j B Bo B' Bo' : Nat} (xa : ixV 2 a (.int .i64 (j : Int)) = some (.ptr (some ⟨.old B, Bo⟩))) (ya : ixV 2 a' (.int .i64 (j : Int)) = some (.ptr (some ⟨.old B', Bo'⟩))) (qa : ∀ s : St, s.old = o → loadV none (.ptr (some ⟨.old B, Bo + 1⟩)) s = some v) (qa' : ∀ s : St, s.old = o → loadV none (.ptr (some ⟨.old B', Bo' + 1⟩)) s = some v') :
    ∀ (m i : Nat) (z : Int) (s : St), z = ((i : Nat) : Int) → i + m = es.length → Holds o s C →
    (∀ s', Holds o s' C → beqDs (es.drop i) (es'.drop i) = true → WP (K (.exit 2) (sp 72 [(0, a), (1, a'), (5, I j)]) s') Q) →
    (∀ s', Holds o s' C → beqDs (es.drop i) (es'.drop i) = false → WP (K .ret (sp 72 [(4, .bool false)]) s') Q) → WP (loop PF (.loop l29_0) (sp 72 [(0, a), (1, a'), (5, I j), (6, I z)]) s K) Q
  | 0, i, z, s, hz, hi, H, kt, kf => by
    subst hz
    have fq := qa s H.old
    have fq' := qa' s H.old
    have hlt : ¬ ((i : Int) < (es.length : Int)) := by omega
    refine wp_round fun LL hLL => ?_
    simp -implicitDefEqProofs only [↓GP, GB, GL, Nat.reduceAdd, Nat.reduceSub, Nat.reduceEqDiff, Nat.reduceMul, Nat.reduceLeDiff, Int.reduceBNe, Int.reduceBEq, Nat.reduceLT, reduceCtorEq, l29_0, hlt, xa, ya, fq, fq', hv.len, hv'.len]
    exact kt s H (by rw [List.drop_eq_nil_of_le (by omega), List.drop_eq_nil_of_le (by omega), beqDs_nil])
  | m + 1, i, z, s, hz, hi, H, kt, kf => by
    subst hz
    have fq := qa s H.old
    have fq' := qa' s H.old
    have hlt : ((i : Int) < (es.length : Int)) := by omega
    have hi1 : i < es.length := by omega
    have hi2 : i < es'.length := by omega
    have hw1 := wrap_len (a := i) (by omega)
    obtain ⟨b, off, M, c, x1, x2, x3, x4⟩ := hv.get i hi1
    obtain ⟨b', off', M', c', y1, y2, y3, y4⟩ := hv'.get i hi2
    have ta := ht _ (List.getElem_mem hi1)
    have ta' := ht' _ (List.getElem_mem hi2)
    have ed := beqDs_drop hi1 hi2
    have l1 := (ld_old H.old x3 x4 (by omega)).1
    have l2 := (ld_old H.old y3 y4 (by omega)).1
    refine wp_round fun LL hLL => ?_
    simp -implicitDefEqProofs only [↓GP, GB, GL, Nat.reduceAdd, Nat.reduceSub, Nat.reduceEqDiff, Nat.reduceMul, Nat.reduceLeDiff, Int.reduceBNe, Int.reduceBEq, Nat.reduceLT, reduceCtorEq, l29_0, hlt, x1, y1, l1, l2, ldo_alloc, ldo_set, xa, ya, fq, fq', hv.len, hv'.len]
    refine wp_in (IH _ (List.getElem_mem hi1) _ _ _ _ _ _ ta ta' x2 y2 H fun s1 h1 => ?_)
    cases g : beqD es[i] es'[i] with
    | false =>
      rw [g, Bool.false_and] at ed
      simp -implicitDefEqProofs only [↓GP, GB, GL, Nat.reduceAdd, Nat.reduceSub, Nat.reduceEqDiff, Nat.reduceMul, Nat.reduceLeDiff, Int.reduceBNe, Int.reduceBEq, Nat.reduceLT, reduceCtorEq, g]
      exact kf _ (h1) ed
    | true =>
      rw [g, Bool.true_and] at ed
      simp -implicitDefEqProofs only [↓GP, GB, GL, Nat.reduceAdd, Nat.reduceSub, Nat.reduceEqDiff, Nat.reduceMul, Nat.reduceLeDiff, Int.reduceBNe, Int.reduceBEq, Nat.reduceLT, reduceCtorEq, g, hw1]
      rw [hLL]
      exact l29_0_loop hv hv' hl ht ht' hm IH xa ya qa qa' m (i + 1) _ _ rfl (by omega) (h1) (fun s2 h2 e => kt s2 h2 (ed.trans e)) (fun s2 h2 e => kf s2 h2 (ed.trans e))
theorem l29_1_loop {es es' : List D} {v v' : V} {C : Ch} {Q : V → St → Prop} {K : Kt} (hv : SlD o 2 es v) (hv' : SlD o 2 es' v') (hl : es.length = es'.length) (ht : ∀ d ∈ es, HasTy Tryz.prog 46 d) (ht' : ∀ d ∈ es', HasTy Tryz.prog 46 d) (hm : es.length ≤ maxLen) :
    ∀ (m i : Nat) (z : Int) (s : St), z = ((i : Nat) : Int) → i + m = es.length → Holds o s C →
    (∀ s', Holds o s' C → beqDs (es.drop i) (es'.drop i) = true → WP (K (.exit 0) (sp 72 []) s') Q) →
    (∀ s', Holds o s' C → beqDs (es.drop i) (es'.drop i) = false → WP (K .ret (sp 72 [(4, .bool false)]) s') Q) → WP (loop PF (.loop l29_1) (sp 72 [(0, v), (1, v'), (5, I z)]) s K) Q
  | 0, i, z, s, hz, hi, H, kt, kf => by
    subst hz
    have hlt : ¬ ((i : Int) < (es.length : Int)) := by omega
    refine wp_round fun LL hLL => ?_
    simp -implicitDefEqProofs only [↓GP, GB, GL, Nat.reduceAdd, Nat.reduceSub, Nat.reduceEqDiff, Nat.reduceMul, Nat.reduceLeDiff, Int.reduceBNe, Int.reduceBEq, Nat.reduceLT, reduceCtorEq, l29_1, hlt, hv.len]
    exact kt s H (by rw [List.drop_eq_nil_of_le (by omega), List.drop_eq_nil_of_le (by omega), beqDs_nil])
  | m + 1, i, z, s, hz, hi, H, kt, kf => by
    subst hz
    have hlt : ((i : Int) < (es.length : Int)) := by omega
    have hi1 : i < es.length := by omega
    have hi2 : i < es'.length := by omega
    have hw1 := wrap_len (a := i) (by omega)
    obtain ⟨b, off, M, c, x1, x2, x3, x4⟩ := hv.get i hi1
    obtain ⟨b', off', M', c', y1, y2, y3, y4⟩ := hv'.get i hi2
    have ta := ht _ (List.getElem_mem hi1)
    have ta' := ht' _ (List.getElem_mem hi2)
    have ed := beqDs_drop hi1 hi2
    obtain ⟨s0, L1, v1, en, rfl, w⟩ := vData ta x2
    obtain ⟨s0', L1', v1', en', rfl, w'⟩ := vData ta' y2
    rw [en, en', beqD_agg] at ed
    simp only [beqDs_cons, beqDs_nil, beqD_sl, beqD_lit, litEq, Bool.and_true] at ed
    have l1 := (ld_old H.old x3 x4 (by omega)).2.1
    have l2 := (ld_old H.old y3 y4 (by omega)).2.1
    have l3 : ∀ s : St, s.old = o → loadV none (.ptr (some ⟨.old b, off + 1⟩)) s = some v1 := fun s h => (ld_old h x3 x4 (by omega)).2.2.1 1 (by omega)
    have l4 : ∀ s : St, s.old = o → loadV none (.ptr (some ⟨.old b', off' + 1⟩)) s = some v1' := fun s h => (ld_old h y3 y4 (by omega)).2.2.1 1 (by omega)
    have q3 := l3 s H.old
    have q4 := l4 s H.old
    simp only [List.getElem?_cons_zero] at l1 l2
    refine wp_round fun LL hLL => ?_
    cases g1 : (s0.toList == s0'.toList) with
    | false =>
      simp only [g1, Bool.false_and] at ed
      simp -implicitDefEqProofs only [↓GP, GB, GL, Nat.reduceAdd, Nat.reduceSub, Nat.reduceEqDiff, Nat.reduceMul, Nat.reduceLeDiff, Int.reduceBNe, Int.reduceBEq, Nat.reduceLT, reduceCtorEq, l29_1, hlt, hv.len, x1, y1, l1, l2, b_sne, g1]
      exact kf _ H ed
    | true =>
      simp only [g1, Bool.true_and] at ed
      by_cases g2 : L1.length = L1'.length
      · have z2 : (((L1.length : Nat) : Int) == ((L1'.length : Nat) : Int)) = true := by rw [beq_iff_eq]; omega
        simp -implicitDefEqProofs only [↓GP, GB, GL, Nat.reduceAdd, Nat.reduceSub, Nat.reduceEqDiff, Nat.reduceMul, Nat.reduceLeDiff, Int.reduceBNe, Int.reduceBEq, Nat.reduceLT, reduceCtorEq, l29_1, hlt, hv.len, x1, y1, l1, l2, q3, q4, w.e1.len, w'.e1.len, b_sne, bne, g1, z2]
        refine l29_0_loop w.e1 w'.e1 g2 w.t1 w'.t1 w.m1 (fun x _ x' => e31 x x') x1 y1 l3 l4 _ 0 _ _ rfl (Nat.zero_add _) H (fun s1 h1 g => ?_) (fun s1 h1 g => ?_) <;> rw [List.drop_zero, List.drop_zero] at g
        · simp only [g, Bool.true_and] at ed
          simp -implicitDefEqProofs only [↓GP, GB, GL, Nat.reduceAdd, Nat.reduceSub, Nat.reduceEqDiff, Nat.reduceMul, Nat.reduceLeDiff, Int.reduceBNe, Int.reduceBEq, Nat.reduceLT, reduceCtorEq, hw1]
          rw [hLL]
          exact l29_1_loop hv hv' hl ht ht' hm m (i + 1) _ _ rfl (by omega) h1 (fun s2 h2 e => kt s2 h2 (ed.trans e)) (fun s2 h2 e => kf s2 h2 (ed.trans e))
        · simp only [g, Bool.false_and] at ed
          simp -implicitDefEqProofs only [↓GP, GB, GL, Nat.reduceAdd, Nat.reduceSub, Nat.reduceEqDiff, Nat.reduceMul, Nat.reduceLeDiff, Int.reduceBNe, Int.reduceBEq, Nat.reduceLT, reduceCtorEq]
          exact kf _ h1 ed
      · have z2 : (((L1.length : Nat) : Int) == ((L1'.length : Nat) : Int)) = false := by rw [beq_eq_false_iff_ne]; omega
        simp only [beqDs_ne g2, Bool.false_and] at ed
        simp -implicitDefEqProofs only [↓GP, GB, GL, Nat.reduceAdd, Nat.reduceSub, Nat.reduceEqDiff, Nat.reduceMul, Nat.reduceLeDiff, Int.reduceBNe, Int.reduceBEq, Nat.reduceLT, reduceCtorEq, l29_1, hlt, hv.len, x1, y1, l1, l2, q3, q4, w.e1.len, w'.e1.len, b_sne, bne, g1, z2]
        exact kf _ H ed
theorem l29 {es es' : List D} (ht : ∀ d ∈ es, HasTy Tryz.prog 46 d) (ht' : ∀ d ∈ es', HasTy Tryz.prog 46 d) (hm : es.length ≤ maxLen) : EqL o 29 2 es es' := by
  intro v v' C s Q hv hv' H k
  by_cases hl : es.length = es'.length
  · have hz : (((es.length : Nat) : Int) == ((es'.length : Nat) : Int)) = true := by rw [beq_iff_eq]; omega
    rw [call_run F29]; simp -implicitDefEqProofs only [↓GP, GB, GL, Nat.reduceAdd, Nat.reduceSub, Nat.reduceEqDiff, Nat.reduceMul, Nat.reduceLeDiff, Int.reduceBNe, Int.reduceBEq, Nat.reduceLT, reduceCtorEq, c29, hv.len, hv'.len, bne, hz]
    refine l29_1_loop hv hv' hl ht ht' hm _ 0 _ _ rfl (Nat.zero_add _) H (fun s1 h1 g => ?_) (fun s1 h1 g => ?_) <;> rw [List.drop_zero, List.drop_zero] at g <;> simp only [g] at k
    · simp -implicitDefEqProofs only [↓GP, GB, GL, Nat.reduceAdd, Nat.reduceSub, Nat.reduceEqDiff, Nat.reduceMul, Nat.reduceLeDiff, Int.reduceBNe, Int.reduceBEq, Nat.reduceLT, reduceCtorEq]
      exact k _ h1
    · simp -implicitDefEqProofs only [↓GP, GB, GL, Nat.reduceAdd, Nat.reduceSub, Nat.reduceEqDiff, Nat.reduceMul, Nat.reduceLeDiff, Int.reduceBNe, Int.reduceBEq, Nat.reduceLT, reduceCtorEq]
      exact k _ h1
  · have hz : (((es.length : Nat) : Int) == ((es'.length : Nat) : Int)) = false := by rw [beq_eq_false_iff_ne]; omega
    rw [call_run F29]; simp -implicitDefEqProofs only [↓GP, GB, GL, Nat.reduceAdd, Nat.reduceSub, Nat.reduceEqDiff, Nat.reduceMul, Nat.reduceLeDiff, Int.reduceBNe, Int.reduceBEq, Nat.reduceLT, reduceCtorEq, c29, hv.len, hv'.len, bne, hz]
    simp only [beqDs_ne hl] at k
    exact k _ H
theorem l18_0_loop {es es' : List D} {v v' : V} {C : Ch} {Q : V → St → Prop} {K : Kt} (hv : SlD o 5 es v) (hv' : SlD o 5 es' v') (hl : es.length = es'.length) (ht : ∀ d ∈ es, HasTy Tryz.prog 52 d) (ht' : ∀ d ∈ es', HasTy Tryz.prog 52 d) (hm : es.length ≤ maxLen) (IH : ∀ x ∈ es, ∀ x', EqS o 31 52 x x') {p p' : Nat} {cs cs' : List V} (mp : (p, some (.cells cs none)) ∈ C) (mp' : (p', some (.cells cs' none)) ∈ C) (hc : cs[1]? = some v) (hc' : cs'[1]? = some v') :
    ∀ (m i : Nat) (z : Int) (s : St), z = ((i : Nat) : Int) → i + m = es.length → Holds o s C →
    (∀ s', Holds o s' C → beqDs (es.drop i) (es'.drop i) = true → WP (K (.exit 0) (sp 53 [(2, .ptr (some ⟨.new p, 0⟩)), (3, .ptr (some ⟨.new p', 0⟩))]) s') Q) →
    (∀ s', Holds o s' C → beqDs (es.drop i) (es'.drop i) = false → WP (K .ret (sp 53 [(4, .bool false)]) s') Q) → WP (loop PF (.loop l18_0) (sp 53 [(2, .ptr (some ⟨.new p, 0⟩)), (3, .ptr (some ⟨.new p', 0⟩)), (5, I z)]) s K) Q
  | 0, i, z, s, hz, hi, H, kt, kf => by
    subst hz
    have fp := (H.mem mp).1
    have fp' := (H.mem mp').1
    have hlt : ¬ ((i : Int) < (es.length : Int)) := by omega
    refine wp_round fun LL hLL => ?_
    simp -implicitDefEqProofs only [↓GP, GB, GL, Nat.reduceAdd, Nat.reduceSub, Nat.reduceEqDiff, Nat.reduceMul, Nat.reduceLeDiff, Int.reduceBNe, Int.reduceBEq, Nat.reduceLT, reduceCtorEq, l18_0, hlt, fp, fp', hc, hc', ldC_some, hv.len, hv'.len]
    exact kt s H (by rw [List.drop_eq_nil_of_le (by omega), List.drop_eq_nil_of_le (by omega), beqDs_nil])
  | m + 1, i, z, s, hz, hi, H, kt, kf => by
    subst hz
    have fp := (H.mem mp).1
    have fp' := (H.mem mp').1
    have hlt : ((i : Int) < (es.length : Int)) := by omega
    have hi1 : i < es.length := by omega
    have hi2 : i < es'.length := by omega
    have hw1 := wrap_len (a := i) (by omega)
    obtain ⟨b, off, M, c, x1, x2, x3, x4⟩ := hv.get i hi1
    obtain ⟨b', off', M', c', y1, y2, y3, y4⟩ := hv'.get i hi2
    have ta := ht _ (List.getElem_mem hi1)
    have ta' := ht' _ (List.getElem_mem hi2)
    have ed := beqDs_drop hi1 hi2
    have l1 := (ld_old H.old x3 x4 (by omega)).1
    have l2 := (ld_old H.old y3 y4 (by omega)).1
    refine wp_round fun LL hLL => ?_
    simp -implicitDefEqProofs only [↓GP, GB, GL, Nat.reduceAdd, Nat.reduceSub, Nat.reduceEqDiff, Nat.reduceMul, Nat.reduceLeDiff, Int.reduceBNe, Int.reduceBEq, Nat.reduceLT, reduceCtorEq, l18_0, hlt, x1, y1, l1, l2, ldo_alloc, ldo_set, fp, fp', hc, hc', ldC_some, hv.len, hv'.len]
    refine wp_in (IH _ (List.getElem_mem hi1) _ _ _ _ _ _ ta ta' x2 y2 H fun s1 h1 => ?_)
    cases g : beqD es[i] es'[i] with
    | false =>
      rw [g, Bool.false_and] at ed
      simp -implicitDefEqProofs only [↓GP, GB, GL, Nat.reduceAdd, Nat.reduceSub, Nat.reduceEqDiff, Nat.reduceMul, Nat.reduceLeDiff, Int.reduceBNe, Int.reduceBEq, Nat.reduceLT, reduceCtorEq, g]
      exact kf _ (h1) ed
    | true =>
      rw [g, Bool.true_and] at ed
      simp -implicitDefEqProofs only [↓GP, GB, GL, Nat.reduceAdd, Nat.reduceSub, Nat.reduceEqDiff, Nat.reduceMul, Nat.reduceLeDiff, Int.reduceBNe, Int.reduceBEq, Nat.reduceLT, reduceCtorEq, g, hw1]
      rw [hLL]
      exact l18_0_loop hv hv' hl ht ht' hm IH mp mp' hc hc' m (i + 1) _ _ rfl (by omega) (h1) (fun s2 h2 e => kt s2 h2 (ed.trans e)) (fun s2 h2 e => kf s2 h2 (ed.trans e))
theorem z30 {C : Ch} {s : St} {Q : V → St → Prop} (H : Holds o s C) (k : ∀ s', Holds o s' C → Q (.bool true) s') : WP (call PF 30 [.slice none 0 (some 0), .slice none 0 (some 0)] s) Q := closed_wp 100 (fun _ => rfl) (by kernel_rfl) H k
theorem z32 {C : Ch} {s : St} {Q : V → St → Prop} (H : Holds o s C) (k : ∀ s', Holds o s' C → Q (.bool true) s') : WP (call PF 32 [.agg [.str (ByteArray.mk #[]), .str (ByteArray.mk #[]), .str (ByteArray.mk #[]), .str (ByteArray.mk #[]), .int .i64 0, .slice none 0 (some 0), .slice none 0 (some 0), .str (ByteArray.mk #[]), .str (ByteArray.mk #[]), .slice none 0 (some 0), .slice none 0 (some 0), .slice none 0 (some 0)], .agg [.str (ByteArray.mk #[]), .str (ByteArray.mk #[]), .str (ByteArray.mk #[]), .str (ByteArray.mk #[]), .int .i64 0, .slice none 0 (some 0), .slice none 0 (some 0), .str (ByteArray.mk #[]), .str (ByteArray.mk #[]), .slice none 0 (some 0), .slice none 0 (some 0), .slice none 0 (some 0)]] s) Q := closed_wp 100 (fun _ => rfl) (by kernel_rfl) H k
theorem s18 {L0 L0' L1 L1' : List D} {v0 v0' v1 v1' : V} (a0 : SlD o 2 L0 v0) (a0' : SlD o 2 L0' v0') (a1 : SlD o 5 L1 v1) (a1' : SlD o 5 L1' v1') (t0 : ∀ d ∈ L0, HasTy Tryz.prog 46 d) (t0' : ∀ d ∈ L0', HasTy Tryz.prog 46 d) (t1 : ∀ d ∈ L1, HasTy Tryz.prog 52 d) (t1' : ∀ d ∈ L1', HasTy Tryz.prog 52 d) (m0 : L0.length ≤ maxLen) (m1 : L1.length ≤ maxLen)
    {C : Ch} {s : St} {Q : V → St → Prop} (H : Holds o s C) (k : ∀ s', Holds o s' C → Q (.bool (beqDs L0 L0' && beqDs L1 L1')) s') : WP (call PF 18 [.agg [v0, v1, .slice none 0 (some 0), .str (ByteArray.mk #[]), .str (ByteArray.mk #[]), .str (ByteArray.mk #[]), .str (ByteArray.mk #[]), .int .i64 0, .slice none 0 (some 0), .slice none 0 (some 0), .str (ByteArray.mk #[]), .str (ByteArray.mk #[]), .slice none 0 (some 0), .slice none 0 (some 0), .slice none 0 (some 0)], .agg [v0', v1', .slice none 0 (some 0), .str (ByteArray.mk #[]), .str (ByteArray.mk #[]), .str (ByteArray.mk #[]), .str (ByteArray.mk #[]), .int .i64 0, .slice none 0 (some 0), .slice none 0 (some 0), .str (ByteArray.mk #[]), .str (ByteArray.mk #[]), .slice none 0 (some 0), .slice none 0 (some 0), .slice none 0 (some 0)]] s) Q := by
  have h0 : Holds o ((s.alloc (.cells [v0, v1, .slice none 0 (some 0), .str (ByteArray.mk #[]), .str (ByteArray.mk #[]), .str (ByteArray.mk #[]), .str (ByteArray.mk #[]), .int .i64 0, .slice none 0 (some 0), .slice none 0 (some 0), .str (ByteArray.mk #[]), .str (ByteArray.mk #[]), .slice none 0 (some 0), .slice none 0 (some 0), .slice none 0 (some 0)] none)).alloc (.cells [v0', v1', .slice none 0 (some 0), .str (ByteArray.mk #[]), .str (ByteArray.mk #[]), .str (ByteArray.mk #[]), .str (ByteArray.mk #[]), .int .i64 0, .slice none 0 (some 0), .slice none 0 (some 0), .str (ByteArray.mk #[]), .str (ByteArray.mk #[]), .slice none 0 (some 0), .slice none 0 (some 0), .slice none 0 (some 0)] none)) ((s.next + 1, some (.cells [v0', v1', .slice none 0 (some 0), .str (ByteArray.mk #[]), .str (ByteArray.mk #[]), .str (ByteArray.mk #[]), .str (ByteArray.mk #[]), .int .i64 0, .slice none 0 (some 0), .slice none 0 (some 0), .str (ByteArray.mk #[]), .str (ByteArray.mk #[]), .slice none 0 (some 0), .slice none 0 (some 0), .slice none 0 (some 0)] none)) :: (s.next, some (.cells [v0, v1, .slice none 0 (some 0), .str (ByteArray.mk #[]), .str (ByteArray.mk #[]), .str (ByteArray.mk #[]), .str (ByteArray.mk #[]), .int .i64 0, .slice none 0 (some 0), .slice none 0 (some 0), .str (ByteArray.mk #[]), .str (ByteArray.mk #[]), .slice none 0 (some 0), .slice none 0 (some 0), .slice none 0 (some 0)] none)) :: C) := (H.alloc _).alloc _
  by_cases hl : L1.length = L1'.length
  · have hz : (((L1.length : Nat) : Int) == ((L1'.length : Nat) : Int)) = true := by rw [beq_iff_eq]; omega
    rw [call_run F18]; simp -implicitDefEqProofs only [↓GP, GB, GL, Nat.reduceAdd, Nat.reduceSub, Nat.reduceEqDiff, Nat.reduceMul, Nat.reduceLeDiff, Int.reduceBNe, Int.reduceBEq, Nat.reduceLT, reduceCtorEq, c18, a0.one, a0'.one, a1.one, a1'.one, a1.len, a1'.len, bne, hz]
    refine wp_in ((l29 t0 t0' m0) _ _ _ _ _ a0 a0' h0 fun u1 h1 => ?_)
    have f1 := h1.f2
    cases g1 : beqDs L0 L0' with
    | false =>
      simp only [g1, Bool.false_and] at k
      simp -implicitDefEqProofs only [↓GP, GB, GL, Nat.reduceAdd, Nat.reduceSub, Nat.reduceEqDiff, Nat.reduceMul, Nat.reduceLeDiff, Int.reduceBNe, Int.reduceBEq, Nat.reduceLT, reduceCtorEq, f1]
      exact k _ h1.tl.tl
    | true =>
      simp only [g1, Bool.true_and] at k
      simp -implicitDefEqProofs only [↓GP, GB, GL, Nat.reduceAdd, Nat.reduceSub, Nat.reduceEqDiff, Nat.reduceMul, Nat.reduceLeDiff, Int.reduceBNe, Int.reduceBEq, Nat.reduceLT, reduceCtorEq, f1]
      refine wp_in (z30 h1 fun u2 h2 => ?_)
      have f2 := h2.f2
      simp -implicitDefEqProofs only [↓GP, GB, GL, Nat.reduceAdd, Nat.reduceSub, Nat.reduceEqDiff, Nat.reduceMul, Nat.reduceLeDiff, Int.reduceBNe, Int.reduceBEq, Nat.reduceLT, reduceCtorEq, f2]
      refine l18_0_loop a1 a1' hl t1 t1' m1 (fun x _ x' => e31 x x') (cs := [v0, v1, .slice none 0 (some 0), .str (ByteArray.mk #[]), .str (ByteArray.mk #[]), .str (ByteArray.mk #[]), .str (ByteArray.mk #[]), .int .i64 0, .slice none 0 (some 0), .slice none 0 (some 0), .str (ByteArray.mk #[]), .str (ByteArray.mk #[]), .slice none 0 (some 0), .slice none 0 (some 0), .slice none 0 (some 0)]) (cs' := [v0', v1', .slice none 0 (some 0), .str (ByteArray.mk #[]), .str (ByteArray.mk #[]), .str (ByteArray.mk #[]), .str (ByteArray.mk #[]), .int .i64 0, .slice none 0 (some 0), .slice none 0 (some 0), .str (ByteArray.mk #[]), .str (ByteArray.mk #[]), .slice none 0 (some 0), .slice none 0 (some 0), .slice none 0 (some 0)]) (C := _ :: _ :: C) (List.mem_cons_of_mem _ (List.mem_cons_self ..)) (List.mem_cons_self ..) rfl rfl _ 0 _ _ rfl (Nat.zero_add _) h2 (fun u3 h3 g => ?_) (fun u3 h3 g => ?_) <;> rw [List.drop_zero, List.drop_zero] at g <;> simp only [g] at k
      · have f3 := h3.f2
        simp -implicitDefEqProofs only [↓GP, GB, GL, Nat.reduceAdd, Nat.reduceSub, Nat.reduceEqDiff, Nat.reduceMul, Nat.reduceLeDiff, Int.reduceBNe, Int.reduceBEq, Nat.reduceLT, reduceCtorEq, f3]
        refine wp_in (z32 h3 fun u4 h4 => ?_)
        simp -implicitDefEqProofs only [↓GP, GB, GL, Nat.reduceAdd, Nat.reduceSub, Nat.reduceEqDiff, Nat.reduceMul, Nat.reduceLeDiff, Int.reduceBNe, Int.reduceBEq, Nat.reduceLT, reduceCtorEq]
        exact k _ h4.tl.tl
      · simp -implicitDefEqProofs only [↓GP, GB, GL, Nat.reduceAdd, Nat.reduceSub, Nat.reduceEqDiff, Nat.reduceMul, Nat.reduceLeDiff, Int.reduceBNe, Int.reduceBEq, Nat.reduceLT, reduceCtorEq]
        exact k _ h3.tl.tl
  · have hz : (((L1.length : Nat) : Int) == ((L1'.length : Nat) : Int)) = false := by rw [beq_eq_false_iff_ne]; omega
    simp only [beqDs_ne hl, Bool.and_false] at k
    rw [call_run F18]; simp -implicitDefEqProofs only [↓GP, GB, GL, Nat.reduceAdd, Nat.reduceSub, Nat.reduceEqDiff, Nat.reduceMul, Nat.reduceLeDiff, Int.reduceBNe, Int.reduceBEq, Nat.reduceLT, reduceCtorEq, c18, a0.one, a0'.one, a1.one, a1'.one, a1.len, a1'.len, bne, hz]
    exact k _ h0.tl.tl
theorem l34_0_loop {es es' : List D} {v v' : V} {C : Ch} {Q : V → St → Prop} {K : Kt} (hv : SlD o 1 es v) (hv' : SlD o 1 es' v') (hl : es.length = es'.length) (ht : ∀ d ∈ es, HasTy Tryz.prog 3 d) (ht' : ∀ d ∈ es', HasTy Tryz.prog 3 d) (hm : es.length ≤ maxLen) :
    ∀ (m i : Nat) (z : Int) (s : St), z = ((i : Nat) : Int) → i + m = es.length → Holds o s C →
    (∀ s', Holds o s' C → beqDs (es.drop i) (es'.drop i) = true → WP (K (.exit 0) (sp 26 []) s') Q) →
    (∀ s', Holds o s' C → beqDs (es.drop i) (es'.drop i) = false → WP (K .ret (sp 26 [(4, .bool false)]) s') Q) → WP (loop PF (.loop l34_0) (sp 26 [(0, v), (1, v'), (12, I es.length), (13, I z)]) s K) Q
  | 0, i, z, s, hz, hi, H, kt, kf => by
    subst hz
    have hlt : ¬ ((i : Int) < (es.length : Int)) := by omega
    refine wp_round fun LL hLL => ?_
    simp -implicitDefEqProofs only [↓GP, GB, GL, Nat.reduceAdd, Nat.reduceSub, Nat.reduceEqDiff, Nat.reduceMul, Nat.reduceLeDiff, Int.reduceBNe, Int.reduceBEq, Nat.reduceLT, reduceCtorEq, l34_0, hlt]
    exact kt s H (by rw [List.drop_eq_nil_of_le (by omega), List.drop_eq_nil_of_le (by omega), beqDs_nil])
  | m + 1, i, z, s, hz, hi, H, kt, kf => by
    subst hz
    have hlt : ((i : Int) < (es.length : Int)) := by omega
    have hi1 : i < es.length := by omega
    have hi2 : i < es'.length := by omega
    have hw1 := wrap_len (a := i) (by omega)
    obtain ⟨b, off, M, c, x1, x2, x3, x4⟩ := hv.get i hi1
    obtain ⟨b', off', M', c', y1, y2, y3, y4⟩ := hv'.get i hi2
    have ta := ht _ (List.getElem_mem hi1)
    have ta' := ht' _ (List.getElem_mem hi2)
    have ed := beqDs_drop hi1 hi2
    obtain ⟨n, en, _⟩ := ta.intv (k := .i64) (by kernel_rfl)
    obtain ⟨n', en', _⟩ := ta'.intv (k := .i64) (by kernel_rfl)
    rw [en] at x2
    rw [en'] at y2
    cases x2.litv
    cases y2.litv
    rw [en, en', beqD_lit, show litEq (V.int .i64 n) (V.int .i64 n') = (n == n') from rfl] at ed
    have l1 := (ld_old H.old x3 x4 (by omega)).2.1
    have l2 := (ld_old H.old y3 y4 (by omega)).2.1
    simp only [List.getElem?_cons_zero] at l1 l2
    refine wp_round fun LL hLL => ?_
    simp -implicitDefEqProofs only [↓GP, GB, GL, Nat.reduceAdd, Nat.reduceSub, Nat.reduceEqDiff, Nat.reduceMul, Nat.reduceLeDiff, Int.reduceBNe, Int.reduceBEq, Nat.reduceLT, reduceCtorEq, l34_0, hlt, x1, y1, l1, l2, bne]
    cases g : (n == n') with
    | false =>
      rw [g, Bool.false_and] at ed
      simp -implicitDefEqProofs only [↓GP, GB, GL, Nat.reduceAdd, Nat.reduceSub, Nat.reduceEqDiff, Nat.reduceMul, Nat.reduceLeDiff, Int.reduceBNe, Int.reduceBEq, Nat.reduceLT, reduceCtorEq, g]
      exact kf _ (H) ed
    | true =>
      rw [g, Bool.true_and] at ed
      simp -implicitDefEqProofs only [↓GP, GB, GL, Nat.reduceAdd, Nat.reduceSub, Nat.reduceEqDiff, Nat.reduceMul, Nat.reduceLeDiff, Int.reduceBNe, Int.reduceBEq, Nat.reduceLT, reduceCtorEq, g, hw1]
      rw [hLL]
      exact l34_0_loop hv hv' hl ht ht' hm m (i + 1) _ _ rfl (by omega) (H) (fun s2 h2 e => kt s2 h2 (ed.trans e)) (fun s2 h2 e => kf s2 h2 (ed.trans e))
theorem l34 {es es' : List D} (ht : ∀ d ∈ es, HasTy Tryz.prog 3 d) (ht' : ∀ d ∈ es', HasTy Tryz.prog 3 d) (hm : es.length ≤ maxLen) : EqL o 34 1 es es' := by
  intro v v' C s Q hv hv' H k
  by_cases hl : es.length = es'.length
  · have hz : (((es.length : Nat) : Int) == ((es'.length : Nat) : Int)) = true := by rw [beq_iff_eq]; omega
    rw [call_run F34]; simp -implicitDefEqProofs only [↓GP, GB, GL, Nat.reduceAdd, Nat.reduceSub, Nat.reduceEqDiff, Nat.reduceMul, Nat.reduceLeDiff, Int.reduceBNe, Int.reduceBEq, Nat.reduceLT, reduceCtorEq, c34, hv.len, hv'.len, bne, hz]
    refine l34_0_loop hv hv' hl ht ht' hm _ 0 _ _ rfl (Nat.zero_add _) H (fun s1 h1 g => ?_) (fun s1 h1 g => ?_) <;> rw [List.drop_zero, List.drop_zero] at g <;> simp only [g] at k
    · simp -implicitDefEqProofs only [↓GP, GB, GL, Nat.reduceAdd, Nat.reduceSub, Nat.reduceEqDiff, Nat.reduceMul, Nat.reduceLeDiff, Int.reduceBNe, Int.reduceBEq, Nat.reduceLT, reduceCtorEq]
      exact k _ h1
    · simp -implicitDefEqProofs only [↓GP, GB, GL, Nat.reduceAdd, Nat.reduceSub, Nat.reduceEqDiff, Nat.reduceMul, Nat.reduceLeDiff, Int.reduceBNe, Int.reduceBEq, Nat.reduceLT, reduceCtorEq]
      exact k _ h1
  · have hz : (((es.length : Nat) : Int) == ((es'.length : Nat) : Int)) = false := by rw [beq_eq_false_iff_ne]; omega
    rw [call_run F34]; simp -implicitDefEqProofs only [↓GP, GB, GL, Nat.reduceAdd, Nat.reduceSub, Nat.reduceEqDiff, Nat.reduceMul, Nat.reduceLeDiff, Int.reduceBNe, Int.reduceBEq, Nat.reduceLT, reduceCtorEq, c34, hv.len, hv'.len, bne, hz]
    simp only [beqDs_ne hl] at k
    exact k _ H
theorem l33_0_loop {es es' : List D} {v v' : V} {C : Ch} {Q : V → St → Prop} {K : Kt} (hv : SlD o 5 es v) (hv' : SlD o 5 es' v') (hl : es.length = es'.length) (ht : ∀ d ∈ es, HasTy Tryz.prog 29 d) (ht' : ∀ d ∈ es', HasTy Tryz.prog 29 d) (hm : es.length ≤ maxLen) (IH : ∀ x ∈ es, ∀ x', EqS o 33 29 x x') {p p' : Nat} {cs cs' : List V} (mp : (p, some (.cells cs none)) ∈ C) (mp' : (p', some (.cells cs' none)) ∈ C) (hc : cs[4]? = some v) (hc' : cs'[4]? = some v') :
    ∀ (m i : Nat) (z : Int) (s : St), z = ((i : Nat) : Int) → i + m = es.length → Holds o s C →
    (∀ s', Holds o s' C → beqDs (es.drop i) (es'.drop i) = true → WP (K (.exit 0) (sp 61 []) s') Q) →
    (∀ s', Holds o s' C → beqDs (es.drop i) (es'.drop i) = false → WP (K .ret (sp 61 [(4, .bool false)]) s') Q) → WP (loop PF (.loop l33_0) (sp 61 [(2, .ptr (some ⟨.new p, 0⟩)), (3, .ptr (some ⟨.new p', 0⟩)), (44, I es.length), (45, I z)]) s K) Q
  | 0, i, z, s, hz, hi, H, kt, kf => by
    subst hz
    have fp := (H.mem mp).1
    have fp' := (H.mem mp').1
    have hlt : ¬ ((i : Int) < (es.length : Int)) := by omega
    refine wp_round fun LL hLL => ?_
    simp -implicitDefEqProofs only [↓GP, GB, GL, Nat.reduceAdd, Nat.reduceSub, Nat.reduceEqDiff, Nat.reduceMul, Nat.reduceLeDiff, Int.reduceBNe, Int.reduceBEq, Nat.reduceLT, reduceCtorEq, l33_0, hlt, fp, fp', hc, hc', ldC_some, hv.len, hv'.len]
    exact kt s H (by rw [List.drop_eq_nil_of_le (by omega), List.drop_eq_nil_of_le (by omega), beqDs_nil])
  | m + 1, i, z, s, hz, hi, H, kt, kf => by
    subst hz
    have fp := (H.mem mp).1
    have fp' := (H.mem mp').1
    have hlt : ((i : Int) < (es.length : Int)) := by omega
    have hi1 : i < es.length := by omega
    have hi2 : i < es'.length := by omega
    have hw1 := wrap_len (a := i) (by omega)
    obtain ⟨b, off, M, c, x1, x2, x3, x4⟩ := hv.get i hi1
    obtain ⟨b', off', M', c', y1, y2, y3, y4⟩ := hv'.get i hi2
    have ta := ht _ (List.getElem_mem hi1)
    have ta' := ht' _ (List.getElem_mem hi2)
    have ed := beqDs_drop hi1 hi2
    have l1 := (ld_old H.old x3 x4 (by omega)).1
    have l2 := (ld_old H.old y3 y4 (by omega)).1
    refine wp_round fun LL hLL => ?_
    simp -implicitDefEqProofs only [↓GP, GB, GL, Nat.reduceAdd, Nat.reduceSub, Nat.reduceEqDiff, Nat.reduceMul, Nat.reduceLeDiff, Int.reduceBNe, Int.reduceBEq, Nat.reduceLT, reduceCtorEq, l33_0, hlt, x1, y1, l1, l2, ldo_alloc, ldo_set, fp, fp', hc, hc', ldC_some, hv.len, hv'.len]
    refine wp_in (IH _ (List.getElem_mem hi1) _ _ _ _ _ _ ta ta' x2 y2 H fun s1 h1 => ?_)
    cases g : beqD es[i] es'[i] with
    | false =>
      rw [g, Bool.false_and] at ed
      simp -implicitDefEqProofs only [↓GP, GB, GL, Nat.reduceAdd, Nat.reduceSub, Nat.reduceEqDiff, Nat.reduceMul, Nat.reduceLeDiff, Int.reduceBNe, Int.reduceBEq, Nat.reduceLT, reduceCtorEq, g]
      exact kf _ (h1) ed
    | true =>
      rw [g, Bool.true_and] at ed
      simp -implicitDefEqProofs only [↓GP, GB, GL, Nat.reduceAdd, Nat.reduceSub, Nat.reduceEqDiff, Nat.reduceMul, Nat.reduceLeDiff, Int.reduceBNe, Int.reduceBEq, Nat.reduceLT, reduceCtorEq, g, hw1]
      rw [hLL]
      exact l33_0_loop hv hv' hl ht ht' hm IH mp mp' hc hc' m (i + 1) _ _ rfl (by omega) (h1) (fun s2 h2 e => kt s2 h2 (ed.trans e)) (fun s2 h2 e => kf s2 h2 (ed.trans e))
/-- Function 33: RTy. -/
theorem t33 (d d' : D) (IH : ∀ x x' : D, SizeOf.sizeOf x < SizeOf.sizeOf d → EqS o 33 29 x x') : EqS o 33 29 d d' := by
    intro c c' C s Q ht ht' r r' H k
    obtain ⟨s0, s1, n2, L3, v3, L4, v4, rfl, hc, w⟩ := vRTy ht r
    obtain ⟨s0', s1', n2', L3', v3', L4', v4', rfl, hc', w'⟩ := vRTy ht' r'
    have qa0 : c[0]? = some (.str s0) := by rw [hc]; rfl
    have qa1 : c[1]? = some (.str s1) := by rw [hc]; rfl
    have qa2 : c[2]? = some (.int .i64 n2) := by rw [hc]; rfl
    have qa3 : c[3]? = some (v3) := by rw [hc]; rfl
    have qa4 : c[4]? = some (v4) := by rw [hc]; rfl
    have qaa : c.all V.one = true := by rw [hc]; simp only [List.all_cons, List.all_nil, one_s, one_i, one_b, Bool.and_true, w.e3.one, w.e4.one]
    have qb0 : c'[0]? = some (.str s0') := by rw [hc']; rfl
    have qb1 : c'[1]? = some (.str s1') := by rw [hc']; rfl
    have qb2 : c'[2]? = some (.int .i64 n2') := by rw [hc']; rfl
    have qb3 : c'[3]? = some (v3') := by rw [hc']; rfl
    have qb4 : c'[4]? = some (v4') := by rw [hc']; rfl
    have qab : c'.all V.one = true := by rw [hc']; simp only [List.all_cons, List.all_nil, one_s, one_i, one_b, Bool.and_true, w'.e3.one, w'.e4.one]
    have h0 : Holds o ((s.alloc (.cells c none)).alloc (.cells c' none)) ((s.next + 1, some (.cells c' none)) :: (s.next, some (.cells c none)) :: C) := (H.alloc _).alloc _
    cases g1 : (s0.toList == s0'.toList) with
    | false =>
      rw [call_run F33]; simp -implicitDefEqProofs only [↓GP, GB, GL, Nat.reduceAdd, Nat.reduceSub, Nat.reduceEqDiff, Nat.reduceMul, Nat.reduceLeDiff, Int.reduceBNe, Int.reduceBEq, Nat.reduceLT, reduceCtorEq, c33, qa0, qa1, qa2, qa3, qa4, qaa, qb0, qb1, qb2, qb3, qb4, qab, cells_agg, ldC_some, ldN_some, b_seq, b_sne, bEq, bne, w.e3.len, w.e4.len, w'.e3.len, w'.e4.len, g1]
      have e : beqD (.agg [.lit (.str s0), .lit (.str s1), .lit (.int .i64 n2), .sl 1 L3, .sl 5 L4]) (.agg [.lit (.str s0'), .lit (.str s1'), .lit (.int .i64 n2'), .sl 1 L3', .sl 5 L4']) = false := by rw [beqD_agg]; simp only [beqDs_cons, beqDs_nil, beqD_sl, beqD_lit, litEq, g1, Bool.true_and, Bool.false_and, Bool.and_false, Bool.and_true]
      simp only [e] at k
      exact k _ h0.tl.tl
    | true =>
      cases g2 : (s1.toList == s1'.toList) with
      | false =>
        rw [call_run F33]; simp -implicitDefEqProofs only [↓GP, GB, GL, Nat.reduceAdd, Nat.reduceSub, Nat.reduceEqDiff, Nat.reduceMul, Nat.reduceLeDiff, Int.reduceBNe, Int.reduceBEq, Nat.reduceLT, reduceCtorEq, c33, qa0, qa1, qa2, qa3, qa4, qaa, qb0, qb1, qb2, qb3, qb4, qab, cells_agg, ldC_some, ldN_some, b_seq, b_sne, bEq, bne, w.e3.len, w.e4.len, w'.e3.len, w'.e4.len, g1, g2]
        have e : beqD (.agg [.lit (.str s0), .lit (.str s1), .lit (.int .i64 n2), .sl 1 L3, .sl 5 L4]) (.agg [.lit (.str s0'), .lit (.str s1'), .lit (.int .i64 n2'), .sl 1 L3', .sl 5 L4']) = false := by rw [beqD_agg]; simp only [beqDs_cons, beqDs_nil, beqD_sl, beqD_lit, litEq, g1, g2, Bool.true_and, Bool.false_and, Bool.and_false, Bool.and_true]
        simp only [e] at k
        exact k _ h0.tl.tl
      | true =>
        cases g3 : (n2 == n2') with
        | false =>
          rw [call_run F33]; simp -implicitDefEqProofs only [↓GP, GB, GL, Nat.reduceAdd, Nat.reduceSub, Nat.reduceEqDiff, Nat.reduceMul, Nat.reduceLeDiff, Int.reduceBNe, Int.reduceBEq, Nat.reduceLT, reduceCtorEq, c33, qa0, qa1, qa2, qa3, qa4, qaa, qb0, qb1, qb2, qb3, qb4, qab, cells_agg, ldC_some, ldN_some, b_seq, b_sne, bEq, bne, w.e3.len, w.e4.len, w'.e3.len, w'.e4.len, g1, g2, g3]
          have e : beqD (.agg [.lit (.str s0), .lit (.str s1), .lit (.int .i64 n2), .sl 1 L3, .sl 5 L4]) (.agg [.lit (.str s0'), .lit (.str s1'), .lit (.int .i64 n2'), .sl 1 L3', .sl 5 L4']) = false := by rw [beqD_agg]; simp only [beqDs_cons, beqDs_nil, beqD_sl, beqD_lit, litEq, g1, g2, g3, Bool.true_and, Bool.false_and, Bool.and_false, Bool.and_true]
          simp only [e] at k
          exact k _ h0.tl.tl
        | true =>
          rw [call_run F33]; simp -implicitDefEqProofs only [↓GP, GB, GL, Nat.reduceAdd, Nat.reduceSub, Nat.reduceEqDiff, Nat.reduceMul, Nat.reduceLeDiff, Int.reduceBNe, Int.reduceBEq, Nat.reduceLT, reduceCtorEq, c33, qa0, qa1, qa2, qa3, qa4, qaa, qb0, qb1, qb2, qb3, qb4, qab, cells_agg, ldC_some, ldN_some, b_seq, b_sne, bEq, bne, w.e3.len, w.e4.len, w'.e3.len, w'.e4.len, g1, g2, g3]
          refine wp_in ((l34 w.t3 w'.t3 w.m3) _ _ _ _ _ w.e3 w'.e3 h0 fun u4 h4 => ?_)
          have f4 := h4.f2
          cases g4 : beqDs L3 L3' with
          | false =>
            simp -implicitDefEqProofs only [↓GP, GB, GL, Nat.reduceAdd, Nat.reduceSub, Nat.reduceEqDiff, Nat.reduceMul, Nat.reduceLeDiff, Int.reduceBNe, Int.reduceBEq, Nat.reduceLT, reduceCtorEq, f4, qa0, qa1, qa2, qa3, qa4, qaa, qb0, qb1, qb2, qb3, qb4, qab, cells_agg, ldC_some, ldN_some, b_seq, b_sne, bEq, bne, w.e3.len, w.e4.len, w'.e3.len, w'.e4.len, g4]
            have e : beqD (.agg [.lit (.str s0), .lit (.str s1), .lit (.int .i64 n2), .sl 1 L3, .sl 5 L4]) (.agg [.lit (.str s0'), .lit (.str s1'), .lit (.int .i64 n2'), .sl 1 L3', .sl 5 L4']) = false := by rw [beqD_agg]; simp only [beqDs_cons, beqDs_nil, beqD_sl, beqD_lit, litEq, g1, g2, g3, g4, Bool.true_and, Bool.false_and, Bool.and_false, Bool.and_true]
            simp only [e] at k
            exact k _ h4.tl.tl
          | true =>
            by_cases g5 : L4.length = L4'.length
            rotate_left
            · have zg5 : (((L4.length : Nat) : Int) == ((L4'.length : Nat) : Int)) = false := by rw [beq_eq_false_iff_ne]; omega
              have yg5 := beqDs_ne g5
              simp -implicitDefEqProofs only [↓GP, GB, GL, Nat.reduceAdd, Nat.reduceSub, Nat.reduceEqDiff, Nat.reduceMul, Nat.reduceLeDiff, Int.reduceBNe, Int.reduceBEq, Nat.reduceLT, reduceCtorEq, f4, qa0, qa1, qa2, qa3, qa4, qaa, qb0, qb1, qb2, qb3, qb4, qab, cells_agg, ldC_some, ldN_some, b_seq, b_sne, bEq, bne, w.e3.len, w.e4.len, w'.e3.len, w'.e4.len, g4, zg5]
              have e : beqD (.agg [.lit (.str s0), .lit (.str s1), .lit (.int .i64 n2), .sl 1 L3, .sl 5 L4]) (.agg [.lit (.str s0'), .lit (.str s1'), .lit (.int .i64 n2'), .sl 1 L3', .sl 5 L4']) = false := by rw [beqD_agg]; simp only [beqDs_cons, beqDs_nil, beqD_sl, beqD_lit, litEq, g1, g2, g3, g4, yg5, Bool.true_and, Bool.false_and, Bool.and_false, Bool.and_true]
              simp only [e] at k
              exact k _ h4.tl.tl
            have zg5 : (((L4.length : Nat) : Int) == ((L4'.length : Nat) : Int)) = true := by rw [beq_iff_eq]; omega
            simp -implicitDefEqProofs only [↓GP, GB, GL, Nat.reduceAdd, Nat.reduceSub, Nat.reduceEqDiff, Nat.reduceMul, Nat.reduceLeDiff, Int.reduceBNe, Int.reduceBEq, Nat.reduceLT, reduceCtorEq, f4, qa0, qa1, qa2, qa3, qa4, qaa, qb0, qb1, qb2, qb3, qb4, qab, cells_agg, ldC_some, ldN_some, b_seq, b_sne, bEq, bne, w.e3.len, w.e4.len, w'.e3.len, w'.e4.len, g4, zg5]
            refine l33_0_loop w.e4 w'.e4 g5 w.t4 w'.t4 w.m4 (fun x hx x' => IH x x' (mem_agg (ds := [.lit (.str s0), .lit (.str s1), .lit (.int .i64 n2), .sl 1 L3, .sl 5 L4]) (sz := 5) (List.mem_of_getElem? (i := 4) rfl) hx)) (cs := c) (cs' := c') (C := _ :: _ :: C) (.tail _ (.head _)) (.head _) qa4 qb4 _ 0 _ _ rfl (Nat.zero_add _) h4 (fun u6 h6 g6 => ?_) (fun u6 h6 g6 => ?_)
            rotate_left
            · rw [List.drop_zero, List.drop_zero] at g6
              simp -implicitDefEqProofs only [↓GP, GB, GL, Nat.reduceAdd, Nat.reduceSub, Nat.reduceEqDiff, Nat.reduceMul, Nat.reduceLeDiff, Int.reduceBNe, Int.reduceBEq, Nat.reduceLT, reduceCtorEq]
              have e : beqD (.agg [.lit (.str s0), .lit (.str s1), .lit (.int .i64 n2), .sl 1 L3, .sl 5 L4]) (.agg [.lit (.str s0'), .lit (.str s1'), .lit (.int .i64 n2'), .sl 1 L3', .sl 5 L4']) = false := by rw [beqD_agg]; simp only [beqDs_cons, beqDs_nil, beqD_sl, beqD_lit, litEq, g1, g2, g3, g4, g6, Bool.true_and, Bool.false_and, Bool.and_false, Bool.and_true]
              simp only [e] at k
              exact k _ h6.tl.tl
            rw [List.drop_zero, List.drop_zero] at g6
            have f6 := h6.f2
            simp -implicitDefEqProofs only [↓GP, GB, GL, Nat.reduceAdd, Nat.reduceSub, Nat.reduceEqDiff, Nat.reduceMul, Nat.reduceLeDiff, Int.reduceBNe, Int.reduceBEq, Nat.reduceLT, reduceCtorEq, f6, qa0, qa1, qa2, qa3, qa4, qaa, qb0, qb1, qb2, qb3, qb4, qab, cells_agg, ldC_some, ldN_some, b_seq, b_sne, bEq, bne, w.e3.len, w.e4.len, w'.e3.len, w'.e4.len]
            have e : beqD (.agg [.lit (.str s0), .lit (.str s1), .lit (.int .i64 n2), .sl 1 L3, .sl 5 L4]) (.agg [.lit (.str s0'), .lit (.str s1'), .lit (.int .i64 n2'), .sl 1 L3', .sl 5 L4']) = true := by rw [beqD_agg]; simp only [beqDs_cons, beqDs_nil, beqD_sl, beqD_lit, litEq, g1, g2, g3, g4, g6, Bool.true_and, Bool.false_and, Bool.and_false, Bool.and_true]
            simp only [e] at k
            exact k _ h6.tl.tl
theorem s33 : ∀ (m : Nat) (d d' : D), SizeOf.sizeOf d < m → EqS o 33 29 d d'
  | 0, _, _, hm => absurd hm (Nat.not_lt_zero _)
  | m + 1, d, d', hm => t33 d d' fun x x' h => s33 m x x' (Nat.lt_of_lt_of_le h (Nat.le_of_lt_succ hm))
theorem e33 (d d' : D) : EqS o 33 29 d d' := s33 _ d d' (Nat.lt_succ_self _)
theorem l35_0_loop {es es' : List D} {v v' : V} {C : Ch} {Q : V → St → Prop} {K : Kt} (hv : SlD o 4 es v) (hv' : SlD o 4 es' v') (hl : es.length = es'.length) (ht : ∀ d ∈ es, HasTy Tryz.prog 75 d) (ht' : ∀ d ∈ es', HasTy Tryz.prog 75 d) (hm : es.length ≤ maxLen) (IH : ∀ x ∈ es, ∀ x', EqS o 35 75 x x') {p p' : Nat} {cs cs' : List V} (mp : (p, some (.cells cs none)) ∈ C) (mp' : (p', some (.cells cs' none)) ∈ C) (hc : cs[3]? = some v) (hc' : cs'[3]? = some v') :
    ∀ (m i : Nat) (z : Int) (s : St), z = ((i : Nat) : Int) → i + m = es.length → Holds o s C →
    (∀ s', Holds o s' C → beqDs (es.drop i) (es'.drop i) = true → WP (K (.exit 0) (sp 53 []) s') Q) →
    (∀ s', Holds o s' C → beqDs (es.drop i) (es'.drop i) = false → WP (K .ret (sp 53 [(4, .bool false)]) s') Q) → WP (loop PF (.loop l35_0) (sp 53 [(2, .ptr (some ⟨.new p, 0⟩)), (3, .ptr (some ⟨.new p', 0⟩)), (36, I es.length), (37, I z)]) s K) Q
  | 0, i, z, s, hz, hi, H, kt, kf => by
    subst hz
    have fp := (H.mem mp).1
    have fp' := (H.mem mp').1
    have hlt : ¬ ((i : Int) < (es.length : Int)) := by omega
    refine wp_round fun LL hLL => ?_
    simp -implicitDefEqProofs only [↓GP, GB, GL, Nat.reduceAdd, Nat.reduceSub, Nat.reduceEqDiff, Nat.reduceMul, Nat.reduceLeDiff, Int.reduceBNe, Int.reduceBEq, Nat.reduceLT, reduceCtorEq, l35_0, hlt, fp, fp', hc, hc', ldC_some, hv.len, hv'.len]
    exact kt s H (by rw [List.drop_eq_nil_of_le (by omega), List.drop_eq_nil_of_le (by omega), beqDs_nil])
  | m + 1, i, z, s, hz, hi, H, kt, kf => by
    subst hz
    have fp := (H.mem mp).1
    have fp' := (H.mem mp').1
    have hlt : ((i : Int) < (es.length : Int)) := by omega
    have hi1 : i < es.length := by omega
    have hi2 : i < es'.length := by omega
    have hw1 := wrap_len (a := i) (by omega)
    obtain ⟨b, off, M, c, x1, x2, x3, x4⟩ := hv.get i hi1
    obtain ⟨b', off', M', c', y1, y2, y3, y4⟩ := hv'.get i hi2
    have ta := ht _ (List.getElem_mem hi1)
    have ta' := ht' _ (List.getElem_mem hi2)
    have ed := beqDs_drop hi1 hi2
    have l1 := (ld_old H.old x3 x4 (by omega)).1
    have l2 := (ld_old H.old y3 y4 (by omega)).1
    refine wp_round fun LL hLL => ?_
    simp -implicitDefEqProofs only [↓GP, GB, GL, Nat.reduceAdd, Nat.reduceSub, Nat.reduceEqDiff, Nat.reduceMul, Nat.reduceLeDiff, Int.reduceBNe, Int.reduceBEq, Nat.reduceLT, reduceCtorEq, l35_0, hlt, x1, y1, l1, l2, ldo_alloc, ldo_set, fp, fp', hc, hc', ldC_some, hv.len, hv'.len]
    refine wp_in (IH _ (List.getElem_mem hi1) _ _ _ _ _ _ ta ta' x2 y2 H fun s1 h1 => ?_)
    cases g : beqD es[i] es'[i] with
    | false =>
      rw [g, Bool.false_and] at ed
      simp -implicitDefEqProofs only [↓GP, GB, GL, Nat.reduceAdd, Nat.reduceSub, Nat.reduceEqDiff, Nat.reduceMul, Nat.reduceLeDiff, Int.reduceBNe, Int.reduceBEq, Nat.reduceLT, reduceCtorEq, g]
      exact kf _ (h1) ed
    | true =>
      rw [g, Bool.true_and] at ed
      simp -implicitDefEqProofs only [↓GP, GB, GL, Nat.reduceAdd, Nat.reduceSub, Nat.reduceEqDiff, Nat.reduceMul, Nat.reduceLeDiff, Int.reduceBNe, Int.reduceBEq, Nat.reduceLT, reduceCtorEq, g, hw1]
      rw [hLL]
      exact l35_0_loop hv hv' hl ht ht' hm IH mp mp' hc hc' m (i + 1) _ _ rfl (by omega) (h1) (fun s2 h2 e => kt s2 h2 (ed.trans e)) (fun s2 h2 e => kf s2 h2 (ed.trans e))
/-- Function 35: Pat. -/
theorem t35 (d d' : D) (IH : ∀ x x' : D, SizeOf.sizeOf x < SizeOf.sizeOf d → EqS o 35 75 x x') : EqS o 35 75 d d' := by
    intro c c' C s Q ht ht' r r' H k
    obtain ⟨s0, s1, n2, L3, v3, rfl, hc, w⟩ := vPat ht r
    obtain ⟨s0', s1', n2', L3', v3', rfl, hc', w'⟩ := vPat ht' r'
    have qa0 : c[0]? = some (.str s0) := by rw [hc]; rfl
    have qa1 : c[1]? = some (.str s1) := by rw [hc]; rfl
    have qa2 : c[2]? = some (.int .i64 n2) := by rw [hc]; rfl
    have qa3 : c[3]? = some (v3) := by rw [hc]; rfl
    have qaa : c.all V.one = true := by rw [hc]; simp only [List.all_cons, List.all_nil, one_s, one_i, one_b, Bool.and_true, w.e3.one]
    have qb0 : c'[0]? = some (.str s0') := by rw [hc']; rfl
    have qb1 : c'[1]? = some (.str s1') := by rw [hc']; rfl
    have qb2 : c'[2]? = some (.int .i64 n2') := by rw [hc']; rfl
    have qb3 : c'[3]? = some (v3') := by rw [hc']; rfl
    have qab : c'.all V.one = true := by rw [hc']; simp only [List.all_cons, List.all_nil, one_s, one_i, one_b, Bool.and_true, w'.e3.one]
    have h0 : Holds o ((s.alloc (.cells c none)).alloc (.cells c' none)) ((s.next + 1, some (.cells c' none)) :: (s.next, some (.cells c none)) :: C) := (H.alloc _).alloc _
    cases g1 : (s0.toList == s0'.toList) with
    | false =>
      rw [call_run F35]; simp -implicitDefEqProofs only [↓GP, GB, GL, Nat.reduceAdd, Nat.reduceSub, Nat.reduceEqDiff, Nat.reduceMul, Nat.reduceLeDiff, Int.reduceBNe, Int.reduceBEq, Nat.reduceLT, reduceCtorEq, c35, qa0, qa1, qa2, qa3, qaa, qb0, qb1, qb2, qb3, qab, cells_agg, ldC_some, ldN_some, b_seq, b_sne, bEq, bne, w.e3.len, w'.e3.len, g1]
      have e : beqD (.agg [.lit (.str s0), .lit (.str s1), .lit (.int .i64 n2), .sl 4 L3]) (.agg [.lit (.str s0'), .lit (.str s1'), .lit (.int .i64 n2'), .sl 4 L3']) = false := by rw [beqD_agg]; simp only [beqDs_cons, beqDs_nil, beqD_sl, beqD_lit, litEq, g1, Bool.true_and, Bool.false_and, Bool.and_false, Bool.and_true]
      simp only [e] at k
      exact k _ h0.tl.tl
    | true =>
      cases g2 : (s1.toList == s1'.toList) with
      | false =>
        rw [call_run F35]; simp -implicitDefEqProofs only [↓GP, GB, GL, Nat.reduceAdd, Nat.reduceSub, Nat.reduceEqDiff, Nat.reduceMul, Nat.reduceLeDiff, Int.reduceBNe, Int.reduceBEq, Nat.reduceLT, reduceCtorEq, c35, qa0, qa1, qa2, qa3, qaa, qb0, qb1, qb2, qb3, qab, cells_agg, ldC_some, ldN_some, b_seq, b_sne, bEq, bne, w.e3.len, w'.e3.len, g1, g2]
        have e : beqD (.agg [.lit (.str s0), .lit (.str s1), .lit (.int .i64 n2), .sl 4 L3]) (.agg [.lit (.str s0'), .lit (.str s1'), .lit (.int .i64 n2'), .sl 4 L3']) = false := by rw [beqD_agg]; simp only [beqDs_cons, beqDs_nil, beqD_sl, beqD_lit, litEq, g1, g2, Bool.true_and, Bool.false_and, Bool.and_false, Bool.and_true]
        simp only [e] at k
        exact k _ h0.tl.tl
      | true =>
        cases g3 : (n2 == n2') with
        | false =>
          rw [call_run F35]; simp -implicitDefEqProofs only [↓GP, GB, GL, Nat.reduceAdd, Nat.reduceSub, Nat.reduceEqDiff, Nat.reduceMul, Nat.reduceLeDiff, Int.reduceBNe, Int.reduceBEq, Nat.reduceLT, reduceCtorEq, c35, qa0, qa1, qa2, qa3, qaa, qb0, qb1, qb2, qb3, qab, cells_agg, ldC_some, ldN_some, b_seq, b_sne, bEq, bne, w.e3.len, w'.e3.len, g1, g2, g3]
          have e : beqD (.agg [.lit (.str s0), .lit (.str s1), .lit (.int .i64 n2), .sl 4 L3]) (.agg [.lit (.str s0'), .lit (.str s1'), .lit (.int .i64 n2'), .sl 4 L3']) = false := by rw [beqD_agg]; simp only [beqDs_cons, beqDs_nil, beqD_sl, beqD_lit, litEq, g1, g2, g3, Bool.true_and, Bool.false_and, Bool.and_false, Bool.and_true]
          simp only [e] at k
          exact k _ h0.tl.tl
        | true =>
          by_cases g4 : L3.length = L3'.length
          rotate_left
          · have zg4 : (((L3.length : Nat) : Int) == ((L3'.length : Nat) : Int)) = false := by rw [beq_eq_false_iff_ne]; omega
            have yg4 := beqDs_ne g4
            rw [call_run F35]; simp -implicitDefEqProofs only [↓GP, GB, GL, Nat.reduceAdd, Nat.reduceSub, Nat.reduceEqDiff, Nat.reduceMul, Nat.reduceLeDiff, Int.reduceBNe, Int.reduceBEq, Nat.reduceLT, reduceCtorEq, c35, qa0, qa1, qa2, qa3, qaa, qb0, qb1, qb2, qb3, qab, cells_agg, ldC_some, ldN_some, b_seq, b_sne, bEq, bne, w.e3.len, w'.e3.len, g1, g2, g3, zg4]
            have e : beqD (.agg [.lit (.str s0), .lit (.str s1), .lit (.int .i64 n2), .sl 4 L3]) (.agg [.lit (.str s0'), .lit (.str s1'), .lit (.int .i64 n2'), .sl 4 L3']) = false := by rw [beqD_agg]; simp only [beqDs_cons, beqDs_nil, beqD_sl, beqD_lit, litEq, g1, g2, g3, yg4, Bool.true_and, Bool.false_and, Bool.and_false, Bool.and_true]
            simp only [e] at k
            exact k _ h0.tl.tl
          have zg4 : (((L3.length : Nat) : Int) == ((L3'.length : Nat) : Int)) = true := by rw [beq_iff_eq]; omega
          rw [call_run F35]; simp -implicitDefEqProofs only [↓GP, GB, GL, Nat.reduceAdd, Nat.reduceSub, Nat.reduceEqDiff, Nat.reduceMul, Nat.reduceLeDiff, Int.reduceBNe, Int.reduceBEq, Nat.reduceLT, reduceCtorEq, c35, qa0, qa1, qa2, qa3, qaa, qb0, qb1, qb2, qb3, qab, cells_agg, ldC_some, ldN_some, b_seq, b_sne, bEq, bne, w.e3.len, w'.e3.len, g1, g2, g3, zg4]
          refine l35_0_loop w.e3 w'.e3 g4 w.t3 w'.t3 w.m3 (fun x hx x' => IH x x' (mem_agg (ds := [.lit (.str s0), .lit (.str s1), .lit (.int .i64 n2), .sl 4 L3]) (sz := 4) (List.mem_of_getElem? (i := 3) rfl) hx)) (cs := c) (cs' := c') (C := _ :: _ :: C) (.tail _ (.head _)) (.head _) qa3 qb3 _ 0 _ _ rfl (Nat.zero_add _) h0 (fun u5 h5 g5 => ?_) (fun u5 h5 g5 => ?_)
          rotate_left
          · rw [List.drop_zero, List.drop_zero] at g5
            simp -implicitDefEqProofs only [↓GP, GB, GL, Nat.reduceAdd, Nat.reduceSub, Nat.reduceEqDiff, Nat.reduceMul, Nat.reduceLeDiff, Int.reduceBNe, Int.reduceBEq, Nat.reduceLT, reduceCtorEq]
            have e : beqD (.agg [.lit (.str s0), .lit (.str s1), .lit (.int .i64 n2), .sl 4 L3]) (.agg [.lit (.str s0'), .lit (.str s1'), .lit (.int .i64 n2'), .sl 4 L3']) = false := by rw [beqD_agg]; simp only [beqDs_cons, beqDs_nil, beqD_sl, beqD_lit, litEq, g1, g2, g3, g5, Bool.true_and, Bool.false_and, Bool.and_false, Bool.and_true]
            simp only [e] at k
            exact k _ h5.tl.tl
          rw [List.drop_zero, List.drop_zero] at g5
          have f5 := h5.f2
          simp -implicitDefEqProofs only [↓GP, GB, GL, Nat.reduceAdd, Nat.reduceSub, Nat.reduceEqDiff, Nat.reduceMul, Nat.reduceLeDiff, Int.reduceBNe, Int.reduceBEq, Nat.reduceLT, reduceCtorEq, f5, qa0, qa1, qa2, qa3, qaa, qb0, qb1, qb2, qb3, qab, cells_agg, ldC_some, ldN_some, b_seq, b_sne, bEq, bne, w.e3.len, w'.e3.len]
          have e : beqD (.agg [.lit (.str s0), .lit (.str s1), .lit (.int .i64 n2), .sl 4 L3]) (.agg [.lit (.str s0'), .lit (.str s1'), .lit (.int .i64 n2'), .sl 4 L3']) = true := by rw [beqD_agg]; simp only [beqDs_cons, beqDs_nil, beqD_sl, beqD_lit, litEq, g1, g2, g3, g5, Bool.true_and, Bool.false_and, Bool.and_false, Bool.and_true]
          simp only [e] at k
          exact k _ h5.tl.tl
theorem s35 : ∀ (m : Nat) (d d' : D), SizeOf.sizeOf d < m → EqS o 35 75 d d'
  | 0, _, _, hm => absurd hm (Nat.not_lt_zero _)
  | m + 1, d, d', hm => t35 d d' fun x x' h => s35 m x x' (Nat.lt_of_lt_of_le h (Nat.le_of_lt_succ hm))
theorem e35 (d d' : D) : EqS o 35 75 d d' := s35 _ d d' (Nat.lt_succ_self _)
theorem l19_0_loop {es es' : List D} {v v' : V} {C : Ch} {Q : V → St → Prop} {K : Kt} (hv : SlD o 1 es v) (hv' : SlD o 1 es' v') (hl : es.length = es'.length) (ht : ∀ d ∈ es, HasTy Tryz.prog 26 d) (ht' : ∀ d ∈ es', HasTy Tryz.prog 26 d) (hm : es.length ≤ maxLen) {p p' : Nat} {cs cs' : List V} (mp : (p, some (.cells cs none)) ∈ C) (mp' : (p', some (.cells cs' none)) ∈ C) (hc : cs[16]? = some v) (hc' : cs'[16]? = some v') :
    ∀ (m i : Nat) (z : Int) (s : St), z = ((i : Nat) : Int) → i + m = es.length → Holds o s C →
    (∀ s', Holds o s' C → beqDs (es.drop i) (es'.drop i) = true → WP (K (.exit 0) (sp 162 [(2, .ptr (some ⟨.new p, 0⟩)), (3, .ptr (some ⟨.new p', 0⟩))]) s') Q) →
    (∀ s', Holds o s' C → beqDs (es.drop i) (es'.drop i) = false → WP (K .ret (sp 162 [(4, .bool false)]) s') Q) → WP (loop PF (.loop l19_0) (sp 162 [(2, .ptr (some ⟨.new p, 0⟩)), (3, .ptr (some ⟨.new p', 0⟩)), (107, I es.length), (108, I z)]) s K) Q
  | 0, i, z, s, hz, hi, H, kt, kf => by
    subst hz
    have fp := (H.mem mp).1
    have fp' := (H.mem mp').1
    have hlt : ¬ ((i : Int) < (es.length : Int)) := by omega
    refine wp_round fun LL hLL => ?_
    simp -implicitDefEqProofs only [↓GP, GB, GL, Nat.reduceAdd, Nat.reduceSub, Nat.reduceEqDiff, Nat.reduceMul, Nat.reduceLeDiff, Int.reduceBNe, Int.reduceBEq, Nat.reduceLT, reduceCtorEq, l19_0, hlt, fp, fp', hc, hc', ldC_some, hv.len, hv'.len]
    exact kt s H (by rw [List.drop_eq_nil_of_le (by omega), List.drop_eq_nil_of_le (by omega), beqDs_nil])
  | m + 1, i, z, s, hz, hi, H, kt, kf => by
    subst hz
    have fp := (H.mem mp).1
    have fp' := (H.mem mp').1
    have hlt : ((i : Int) < (es.length : Int)) := by omega
    have hi1 : i < es.length := by omega
    have hi2 : i < es'.length := by omega
    have hw1 := wrap_len (a := i) (by omega)
    obtain ⟨b, off, M, c, x1, x2, x3, x4⟩ := hv.get i hi1
    obtain ⟨b', off', M', c', y1, y2, y3, y4⟩ := hv'.get i hi2
    have ta := ht _ (List.getElem_mem hi1)
    have ta' := ht' _ (List.getElem_mem hi2)
    have ed := beqDs_drop hi1 hi2
    obtain ⟨es1, en, em, et⟩ := ta.slice (e := 3) (by kernel_rfl)
    obtain ⟨es2, en', em', et'⟩ := ta'.slice (e := 3) (by kernel_rfl)
    rw [cl3] at en en'
    rw [en] at x2
    rw [en'] at y2
    obtain ⟨va, rfl, hva⟩ := x2.slv
    obtain ⟨vb, rfl, hvb⟩ := y2.slv
    rw [en, en', beqD_sl] at ed
    have l1 := (ld_old H.old x3 x4 (by omega)).2.1
    have l2 := (ld_old H.old y3 y4 (by omega)).2.1
    simp only [List.getElem?_cons_zero] at l1 l2
    refine wp_round fun LL hLL => ?_
    simp -implicitDefEqProofs only [↓GP, GB, GL, Nat.reduceAdd, Nat.reduceSub, Nat.reduceEqDiff, Nat.reduceMul, Nat.reduceLeDiff, Int.reduceBNe, Int.reduceBEq, Nat.reduceLT, reduceCtorEq, l19_0, hlt, x1, y1, l1, l2, fp, fp', hc, hc', ldC_some, hv.len, hv'.len]
    refine wp_in ((l34 et et' em) _ _ _ _ _ hva hvb H fun s1 h1 => ?_)
    cases g : beqDs es1 es2 with
    | false =>
      rw [g, Bool.false_and] at ed
      simp -implicitDefEqProofs only [↓GP, GB, GL, Nat.reduceAdd, Nat.reduceSub, Nat.reduceEqDiff, Nat.reduceMul, Nat.reduceLeDiff, Int.reduceBNe, Int.reduceBEq, Nat.reduceLT, reduceCtorEq, g]
      exact kf _ (h1) ed
    | true =>
      rw [g, Bool.true_and] at ed
      simp -implicitDefEqProofs only [↓GP, GB, GL, Nat.reduceAdd, Nat.reduceSub, Nat.reduceEqDiff, Nat.reduceMul, Nat.reduceLeDiff, Int.reduceBNe, Int.reduceBEq, Nat.reduceLT, reduceCtorEq, g, hw1]
      rw [hLL]
      exact l19_0_loop hv hv' hl ht ht' hm mp mp' hc hc' m (i + 1) _ _ rfl (by omega) (h1) (fun s2 h2 e => kt s2 h2 (ed.trans e)) (fun s2 h2 e => kf s2 h2 (ed.trans e))
theorem l19_1_loop {es es' : List D} {v v' : V} {C : Ch} {Q : V → St → Prop} {K : Kt} (hv : SlD o 17 es v) (hv' : SlD o 17 es' v') (hl : es.length = es'.length) (ht : ∀ d ∈ es, HasTy Tryz.prog 32 d) (ht' : ∀ d ∈ es', HasTy Tryz.prog 32 d) (hm : es.length ≤ maxLen) (IH : ∀ x ∈ es, ∀ x', EqS o 19 32 x x') {p p' : Nat} {cs cs' : List V} (mp : (p, some (.cells cs none)) ∈ C) (mp' : (p', some (.cells cs' none)) ∈ C) (hc : cs[6]? = some v) (hc' : cs'[6]? = some v') :
    ∀ (m i : Nat) (z : Int) (s : St), z = ((i : Nat) : Int) → i + m = es.length → Holds o s C →
    (∀ s', Holds o s' C → beqDs (es.drop i) (es'.drop i) = true → WP (K (.exit 2) (sp 162 [(2, .ptr (some ⟨.new p, 0⟩)), (3, .ptr (some ⟨.new p', 0⟩))]) s') Q) →
    (∀ s', Holds o s' C → beqDs (es.drop i) (es'.drop i) = false → WP (K .ret (sp 162 [(4, .bool false)]) s') Q) → WP (loop PF (.loop l19_1) (sp 162 [(2, .ptr (some ⟨.new p, 0⟩)), (3, .ptr (some ⟨.new p', 0⟩)), (126, I es.length), (127, I z)]) s K) Q
  | 0, i, z, s, hz, hi, H, kt, kf => by
    subst hz
    have fp := (H.mem mp).1
    have fp' := (H.mem mp').1
    have hlt : ¬ ((i : Int) < (es.length : Int)) := by omega
    refine wp_round fun LL hLL => ?_
    simp -implicitDefEqProofs only [↓GP, GB, GL, Nat.reduceAdd, Nat.reduceSub, Nat.reduceEqDiff, Nat.reduceMul, Nat.reduceLeDiff, Int.reduceBNe, Int.reduceBEq, Nat.reduceLT, reduceCtorEq, l19_1, hlt, fp, fp', hc, hc', ldC_some, hv.len, hv'.len]
    exact kt s H (by rw [List.drop_eq_nil_of_le (by omega), List.drop_eq_nil_of_le (by omega), beqDs_nil])
  | m + 1, i, z, s, hz, hi, H, kt, kf => by
    subst hz
    have fp := (H.mem mp).1
    have fp' := (H.mem mp').1
    have hlt : ((i : Int) < (es.length : Int)) := by omega
    have hi1 : i < es.length := by omega
    have hi2 : i < es'.length := by omega
    have hw1 := wrap_len (a := i) (by omega)
    obtain ⟨b, off, M, c, x1, x2, x3, x4⟩ := hv.get i hi1
    obtain ⟨b', off', M', c', y1, y2, y3, y4⟩ := hv'.get i hi2
    have ta := ht _ (List.getElem_mem hi1)
    have ta' := ht' _ (List.getElem_mem hi2)
    have ed := beqDs_drop hi1 hi2
    have l1 := (ld_old H.old x3 x4 (by omega)).1
    have l2 := (ld_old H.old y3 y4 (by omega)).1
    refine wp_round fun LL hLL => ?_
    simp -implicitDefEqProofs only [↓GP, GB, GL, Nat.reduceAdd, Nat.reduceSub, Nat.reduceEqDiff, Nat.reduceMul, Nat.reduceLeDiff, Int.reduceBNe, Int.reduceBEq, Nat.reduceLT, reduceCtorEq, l19_1, hlt, x1, y1, l1, l2, ldo_alloc, ldo_set, fp, fp', hc, hc', ldC_some, hv.len, hv'.len]
    refine wp_in (IH _ (List.getElem_mem hi1) _ _ _ _ _ _ ta ta' x2 y2 H fun s1 h1 => ?_)
    cases g : beqD es[i] es'[i] with
    | false =>
      rw [g, Bool.false_and] at ed
      simp -implicitDefEqProofs only [↓GP, GB, GL, Nat.reduceAdd, Nat.reduceSub, Nat.reduceEqDiff, Nat.reduceMul, Nat.reduceLeDiff, Int.reduceBNe, Int.reduceBEq, Nat.reduceLT, reduceCtorEq, g]
      exact kf _ (h1) ed
    | true =>
      rw [g, Bool.true_and] at ed
      simp -implicitDefEqProofs only [↓GP, GB, GL, Nat.reduceAdd, Nat.reduceSub, Nat.reduceEqDiff, Nat.reduceMul, Nat.reduceLeDiff, Int.reduceBNe, Int.reduceBEq, Nat.reduceLT, reduceCtorEq, g, hw1]
      rw [hLL]
      exact l19_1_loop hv hv' hl ht ht' hm IH mp mp' hc hc' m (i + 1) _ _ rfl (by omega) (h1) (fun s2 h2 e => kt s2 h2 (ed.trans e)) (fun s2 h2 e => kf s2 h2 (ed.trans e))
theorem l19_2_loop {es es' : List D} {v v' : V} {C : Ch} {Q : V → St → Prop} {K : Kt} (hv : SlD o 4 es v) (hv' : SlD o 4 es' v') (hl : es.length = es'.length) (ht : ∀ d ∈ es, HasTy Tryz.prog 75 d) (ht' : ∀ d ∈ es', HasTy Tryz.prog 75 d) (hm : es.length ≤ maxLen) (IH : ∀ x ∈ es, ∀ x', EqS o 35 75 x x') {p p' : Nat} {cs cs' : List V} (mp : (p, some (.cells cs none)) ∈ C) (mp' : (p', some (.cells cs' none)) ∈ C) (hc : cs[7]? = some v) (hc' : cs'[7]? = some v') :
    ∀ (m i : Nat) (z : Int) (s : St), z = ((i : Nat) : Int) → i + m = es.length → Holds o s C →
    (∀ s', Holds o s' C → beqDs (es.drop i) (es'.drop i) = true → WP (K (.exit 4) (sp 162 []) s') Q) →
    (∀ s', Holds o s' C → beqDs (es.drop i) (es'.drop i) = false → WP (K .ret (sp 162 [(4, .bool false)]) s') Q) → WP (loop PF (.loop l19_2) (sp 162 [(2, .ptr (some ⟨.new p, 0⟩)), (3, .ptr (some ⟨.new p', 0⟩)), (145, I es.length), (146, I z)]) s K) Q
  | 0, i, z, s, hz, hi, H, kt, kf => by
    subst hz
    have fp := (H.mem mp).1
    have fp' := (H.mem mp').1
    have hlt : ¬ ((i : Int) < (es.length : Int)) := by omega
    refine wp_round fun LL hLL => ?_
    simp -implicitDefEqProofs only [↓GP, GB, GL, Nat.reduceAdd, Nat.reduceSub, Nat.reduceEqDiff, Nat.reduceMul, Nat.reduceLeDiff, Int.reduceBNe, Int.reduceBEq, Nat.reduceLT, reduceCtorEq, l19_2, hlt, fp, fp', hc, hc', ldC_some, hv.len, hv'.len]
    exact kt s H (by rw [List.drop_eq_nil_of_le (by omega), List.drop_eq_nil_of_le (by omega), beqDs_nil])
  | m + 1, i, z, s, hz, hi, H, kt, kf => by
    subst hz
    have fp := (H.mem mp).1
    have fp' := (H.mem mp').1
    have hlt : ((i : Int) < (es.length : Int)) := by omega
    have hi1 : i < es.length := by omega
    have hi2 : i < es'.length := by omega
    have hw1 := wrap_len (a := i) (by omega)
    obtain ⟨b, off, M, c, x1, x2, x3, x4⟩ := hv.get i hi1
    obtain ⟨b', off', M', c', y1, y2, y3, y4⟩ := hv'.get i hi2
    have ta := ht _ (List.getElem_mem hi1)
    have ta' := ht' _ (List.getElem_mem hi2)
    have ed := beqDs_drop hi1 hi2
    have l1 := (ld_old H.old x3 x4 (by omega)).1
    have l2 := (ld_old H.old y3 y4 (by omega)).1
    refine wp_round fun LL hLL => ?_
    simp -implicitDefEqProofs only [↓GP, GB, GL, Nat.reduceAdd, Nat.reduceSub, Nat.reduceEqDiff, Nat.reduceMul, Nat.reduceLeDiff, Int.reduceBNe, Int.reduceBEq, Nat.reduceLT, reduceCtorEq, l19_2, hlt, x1, y1, l1, l2, ldo_alloc, ldo_set, fp, fp', hc, hc', ldC_some, hv.len, hv'.len]
    refine wp_in (IH _ (List.getElem_mem hi1) _ _ _ _ _ _ ta ta' x2 y2 H fun s1 h1 => ?_)
    cases g : beqD es[i] es'[i] with
    | false =>
      rw [g, Bool.false_and] at ed
      simp -implicitDefEqProofs only [↓GP, GB, GL, Nat.reduceAdd, Nat.reduceSub, Nat.reduceEqDiff, Nat.reduceMul, Nat.reduceLeDiff, Int.reduceBNe, Int.reduceBEq, Nat.reduceLT, reduceCtorEq, g]
      exact kf _ (h1) ed
    | true =>
      rw [g, Bool.true_and] at ed
      simp -implicitDefEqProofs only [↓GP, GB, GL, Nat.reduceAdd, Nat.reduceSub, Nat.reduceEqDiff, Nat.reduceMul, Nat.reduceLeDiff, Int.reduceBNe, Int.reduceBEq, Nat.reduceLT, reduceCtorEq, g, hw1]
      rw [hLL]
      exact l19_2_loop hv hv' hl ht ht' hm IH mp mp' hc hc' m (i + 1) _ _ rfl (by omega) (h1) (fun s2 h2 e => kt s2 h2 (ed.trans e)) (fun s2 h2 e => kf s2 h2 (ed.trans e))
/-- Function 19: Ann. -/
theorem t19 (d d' : D) (IH : ∀ x x' : D, SizeOf.sizeOf x < SizeOf.sizeOf d → EqS o 19 32 x x') : EqS o 19 32 d d' := by
    intro c c' C s Q ht ht' r r' H k
    obtain ⟨s0, s1, s2, s3, n4, n5, L6, v6, L7, v7, s8_0, s8_1, n8_2, L8_3, v8_3, L8_4, v8_4, L9, v9, L10, v10, L11, v11, L12, v12, rfl, hc, w⟩ := vAnn ht r
    obtain ⟨s0', s1', s2', s3', n4', n5', L6', v6', L7', v7', s8_0', s8_1', n8_2', L8_3', v8_3', L8_4', v8_4', L9', v9', L10', v10', L11', v11', L12', v12', rfl, hc', w'⟩ := vAnn ht' r'
    have qa0 : c[0]? = some (.str s0) := by rw [hc]; rfl
    have qa1 : c[1]? = some (.str s1) := by rw [hc]; rfl
    have qa2 : c[2]? = some (.str s2) := by rw [hc]; rfl
    have qa3 : c[3]? = some (.str s3) := by rw [hc]; rfl
    have qa4 : c[4]? = some (.int .i64 n4) := by rw [hc]; rfl
    have qa5 : c[5]? = some (.int .i64 n5) := by rw [hc]; rfl
    have qa6 : c[6]? = some (v6) := by rw [hc]; rfl
    have qa7 : c[7]? = some (v7) := by rw [hc]; rfl
    have qa8 : cut c 8 5 = some [.str s8_0, .str s8_1, .int .i64 n8_2, v8_3, v8_4] := by rw [hc]; rfl
    have qa9 : c[13]? = some (v9) := by rw [hc]; rfl
    have qa10 : c[14]? = some (v10) := by rw [hc]; rfl
    have qa11 : c[15]? = some (v11) := by rw [hc]; rfl
    have qa12 : c[16]? = some (v12) := by rw [hc]; rfl
    have qaa : c.all V.one = true := by rw [hc]; simp only [List.all_cons, List.all_nil, one_s, one_i, one_b, Bool.and_true, w.e6.one, w.e7.one, w.w8.e3.one, w.w8.e4.one, w.e9.one, w.e10.one, w.e11.one, w.e12.one]
    have qb0 : c'[0]? = some (.str s0') := by rw [hc']; rfl
    have qb1 : c'[1]? = some (.str s1') := by rw [hc']; rfl
    have qb2 : c'[2]? = some (.str s2') := by rw [hc']; rfl
    have qb3 : c'[3]? = some (.str s3') := by rw [hc']; rfl
    have qb4 : c'[4]? = some (.int .i64 n4') := by rw [hc']; rfl
    have qb5 : c'[5]? = some (.int .i64 n5') := by rw [hc']; rfl
    have qb6 : c'[6]? = some (v6') := by rw [hc']; rfl
    have qb7 : c'[7]? = some (v7') := by rw [hc']; rfl
    have qb8 : cut c' 8 5 = some [.str s8_0', .str s8_1', .int .i64 n8_2', v8_3', v8_4'] := by rw [hc']; rfl
    have qb9 : c'[13]? = some (v9') := by rw [hc']; rfl
    have qb10 : c'[14]? = some (v10') := by rw [hc']; rfl
    have qb11 : c'[15]? = some (v11') := by rw [hc']; rfl
    have qb12 : c'[16]? = some (v12') := by rw [hc']; rfl
    have qab : c'.all V.one = true := by rw [hc']; simp only [List.all_cons, List.all_nil, one_s, one_i, one_b, Bool.and_true, w'.e6.one, w'.e7.one, w'.w8.e3.one, w'.w8.e4.one, w'.e9.one, w'.e10.one, w'.e11.one, w'.e12.one]
    have h0 : Holds o ((s.alloc (.cells c none)).alloc (.cells c' none)) ((s.next + 1, some (.cells c' none)) :: (s.next, some (.cells c none)) :: C) := (H.alloc _).alloc _
    cases g1 : (s0.toList == s0'.toList) with
    | false =>
      rw [call_run F19]; simp -implicitDefEqProofs only [↓GP, GB, GL, Nat.reduceAdd, Nat.reduceSub, Nat.reduceEqDiff, Nat.reduceMul, Nat.reduceLeDiff, Int.reduceBNe, Int.reduceBEq, Nat.reduceLT, reduceCtorEq, c19, qa0, qa1, qa2, qa3, qa4, qa5, qa6, qa7, qa8, qa9, qa10, qa11, qa12, qaa, qb0, qb1, qb2, qb3, qb4, qb5, qb6, qb7, qb8, qb9, qb10, qb11, qb12, qab, cells_agg, ldC_some, ldN_some, b_seq, b_sne, bEq, bne, w.e6.len, w.e7.len, w.e9.len, w.e10.len, w.e11.len, w.e12.len, w'.e6.len, w'.e7.len, w'.e9.len, w'.e10.len, w'.e11.len, w'.e12.len, g1]
      have e : beqD (.agg [.lit (.str s0), .lit (.str s1), .lit (.str s2), .lit (.str s3), .lit (.int .i64 n4), .lit (.int .i64 n5), .sl 17 L6, .sl 4 L7, .agg [.lit (.str s8_0), .lit (.str s8_1), .lit (.int .i64 n8_2), .sl 1 L8_3, .sl 5 L8_4], .sl 1 L9, .sl 1 L10, .sl 1 L11, .sl 1 L12]) (.agg [.lit (.str s0'), .lit (.str s1'), .lit (.str s2'), .lit (.str s3'), .lit (.int .i64 n4'), .lit (.int .i64 n5'), .sl 17 L6', .sl 4 L7', .agg [.lit (.str s8_0'), .lit (.str s8_1'), .lit (.int .i64 n8_2'), .sl 1 L8_3', .sl 5 L8_4'], .sl 1 L9', .sl 1 L10', .sl 1 L11', .sl 1 L12']) = false := by rw [beqD_agg]; simp only [beqDs_cons, beqDs_nil, beqD_sl, beqD_lit, litEq, g1, Bool.true_and, Bool.false_and, Bool.and_false, Bool.and_true]
      simp only [e] at k
      exact k _ h0.tl.tl
    | true =>
      cases g2 : (s1.toList == s1'.toList) with
      | false =>
        rw [call_run F19]; simp -implicitDefEqProofs only [↓GP, GB, GL, Nat.reduceAdd, Nat.reduceSub, Nat.reduceEqDiff, Nat.reduceMul, Nat.reduceLeDiff, Int.reduceBNe, Int.reduceBEq, Nat.reduceLT, reduceCtorEq, c19, qa0, qa1, qa2, qa3, qa4, qa5, qa6, qa7, qa8, qa9, qa10, qa11, qa12, qaa, qb0, qb1, qb2, qb3, qb4, qb5, qb6, qb7, qb8, qb9, qb10, qb11, qb12, qab, cells_agg, ldC_some, ldN_some, b_seq, b_sne, bEq, bne, w.e6.len, w.e7.len, w.e9.len, w.e10.len, w.e11.len, w.e12.len, w'.e6.len, w'.e7.len, w'.e9.len, w'.e10.len, w'.e11.len, w'.e12.len, g1, g2]
        have e : beqD (.agg [.lit (.str s0), .lit (.str s1), .lit (.str s2), .lit (.str s3), .lit (.int .i64 n4), .lit (.int .i64 n5), .sl 17 L6, .sl 4 L7, .agg [.lit (.str s8_0), .lit (.str s8_1), .lit (.int .i64 n8_2), .sl 1 L8_3, .sl 5 L8_4], .sl 1 L9, .sl 1 L10, .sl 1 L11, .sl 1 L12]) (.agg [.lit (.str s0'), .lit (.str s1'), .lit (.str s2'), .lit (.str s3'), .lit (.int .i64 n4'), .lit (.int .i64 n5'), .sl 17 L6', .sl 4 L7', .agg [.lit (.str s8_0'), .lit (.str s8_1'), .lit (.int .i64 n8_2'), .sl 1 L8_3', .sl 5 L8_4'], .sl 1 L9', .sl 1 L10', .sl 1 L11', .sl 1 L12']) = false := by rw [beqD_agg]; simp only [beqDs_cons, beqDs_nil, beqD_sl, beqD_lit, litEq, g1, g2, Bool.true_and, Bool.false_and, Bool.and_false, Bool.and_true]
        simp only [e] at k
        exact k _ h0.tl.tl
      | true =>
        cases g3 : (s2.toList == s2'.toList) with
        | false =>
          rw [call_run F19]; simp -implicitDefEqProofs only [↓GP, GB, GL, Nat.reduceAdd, Nat.reduceSub, Nat.reduceEqDiff, Nat.reduceMul, Nat.reduceLeDiff, Int.reduceBNe, Int.reduceBEq, Nat.reduceLT, reduceCtorEq, c19, qa0, qa1, qa2, qa3, qa4, qa5, qa6, qa7, qa8, qa9, qa10, qa11, qa12, qaa, qb0, qb1, qb2, qb3, qb4, qb5, qb6, qb7, qb8, qb9, qb10, qb11, qb12, qab, cells_agg, ldC_some, ldN_some, b_seq, b_sne, bEq, bne, w.e6.len, w.e7.len, w.e9.len, w.e10.len, w.e11.len, w.e12.len, w'.e6.len, w'.e7.len, w'.e9.len, w'.e10.len, w'.e11.len, w'.e12.len, g1, g2, g3]
          have e : beqD (.agg [.lit (.str s0), .lit (.str s1), .lit (.str s2), .lit (.str s3), .lit (.int .i64 n4), .lit (.int .i64 n5), .sl 17 L6, .sl 4 L7, .agg [.lit (.str s8_0), .lit (.str s8_1), .lit (.int .i64 n8_2), .sl 1 L8_3, .sl 5 L8_4], .sl 1 L9, .sl 1 L10, .sl 1 L11, .sl 1 L12]) (.agg [.lit (.str s0'), .lit (.str s1'), .lit (.str s2'), .lit (.str s3'), .lit (.int .i64 n4'), .lit (.int .i64 n5'), .sl 17 L6', .sl 4 L7', .agg [.lit (.str s8_0'), .lit (.str s8_1'), .lit (.int .i64 n8_2'), .sl 1 L8_3', .sl 5 L8_4'], .sl 1 L9', .sl 1 L10', .sl 1 L11', .sl 1 L12']) = false := by rw [beqD_agg]; simp only [beqDs_cons, beqDs_nil, beqD_sl, beqD_lit, litEq, g1, g2, g3, Bool.true_and, Bool.false_and, Bool.and_false, Bool.and_true]
          simp only [e] at k
          exact k _ h0.tl.tl
        | true =>
          cases g4 : (s3.toList == s3'.toList) with
          | false =>
            rw [call_run F19]; simp -implicitDefEqProofs only [↓GP, GB, GL, Nat.reduceAdd, Nat.reduceSub, Nat.reduceEqDiff, Nat.reduceMul, Nat.reduceLeDiff, Int.reduceBNe, Int.reduceBEq, Nat.reduceLT, reduceCtorEq, c19, qa0, qa1, qa2, qa3, qa4, qa5, qa6, qa7, qa8, qa9, qa10, qa11, qa12, qaa, qb0, qb1, qb2, qb3, qb4, qb5, qb6, qb7, qb8, qb9, qb10, qb11, qb12, qab, cells_agg, ldC_some, ldN_some, b_seq, b_sne, bEq, bne, w.e6.len, w.e7.len, w.e9.len, w.e10.len, w.e11.len, w.e12.len, w'.e6.len, w'.e7.len, w'.e9.len, w'.e10.len, w'.e11.len, w'.e12.len, g1, g2, g3, g4]
            have e : beqD (.agg [.lit (.str s0), .lit (.str s1), .lit (.str s2), .lit (.str s3), .lit (.int .i64 n4), .lit (.int .i64 n5), .sl 17 L6, .sl 4 L7, .agg [.lit (.str s8_0), .lit (.str s8_1), .lit (.int .i64 n8_2), .sl 1 L8_3, .sl 5 L8_4], .sl 1 L9, .sl 1 L10, .sl 1 L11, .sl 1 L12]) (.agg [.lit (.str s0'), .lit (.str s1'), .lit (.str s2'), .lit (.str s3'), .lit (.int .i64 n4'), .lit (.int .i64 n5'), .sl 17 L6', .sl 4 L7', .agg [.lit (.str s8_0'), .lit (.str s8_1'), .lit (.int .i64 n8_2'), .sl 1 L8_3', .sl 5 L8_4'], .sl 1 L9', .sl 1 L10', .sl 1 L11', .sl 1 L12']) = false := by rw [beqD_agg]; simp only [beqDs_cons, beqDs_nil, beqD_sl, beqD_lit, litEq, g1, g2, g3, g4, Bool.true_and, Bool.false_and, Bool.and_false, Bool.and_true]
            simp only [e] at k
            exact k _ h0.tl.tl
          | true =>
            cases g5 : (n4 == n4') with
            | false =>
              rw [call_run F19]; simp -implicitDefEqProofs only [↓GP, GB, GL, Nat.reduceAdd, Nat.reduceSub, Nat.reduceEqDiff, Nat.reduceMul, Nat.reduceLeDiff, Int.reduceBNe, Int.reduceBEq, Nat.reduceLT, reduceCtorEq, c19, qa0, qa1, qa2, qa3, qa4, qa5, qa6, qa7, qa8, qa9, qa10, qa11, qa12, qaa, qb0, qb1, qb2, qb3, qb4, qb5, qb6, qb7, qb8, qb9, qb10, qb11, qb12, qab, cells_agg, ldC_some, ldN_some, b_seq, b_sne, bEq, bne, w.e6.len, w.e7.len, w.e9.len, w.e10.len, w.e11.len, w.e12.len, w'.e6.len, w'.e7.len, w'.e9.len, w'.e10.len, w'.e11.len, w'.e12.len, g1, g2, g3, g4, g5]
              have e : beqD (.agg [.lit (.str s0), .lit (.str s1), .lit (.str s2), .lit (.str s3), .lit (.int .i64 n4), .lit (.int .i64 n5), .sl 17 L6, .sl 4 L7, .agg [.lit (.str s8_0), .lit (.str s8_1), .lit (.int .i64 n8_2), .sl 1 L8_3, .sl 5 L8_4], .sl 1 L9, .sl 1 L10, .sl 1 L11, .sl 1 L12]) (.agg [.lit (.str s0'), .lit (.str s1'), .lit (.str s2'), .lit (.str s3'), .lit (.int .i64 n4'), .lit (.int .i64 n5'), .sl 17 L6', .sl 4 L7', .agg [.lit (.str s8_0'), .lit (.str s8_1'), .lit (.int .i64 n8_2'), .sl 1 L8_3', .sl 5 L8_4'], .sl 1 L9', .sl 1 L10', .sl 1 L11', .sl 1 L12']) = false := by rw [beqD_agg]; simp only [beqDs_cons, beqDs_nil, beqD_sl, beqD_lit, litEq, g1, g2, g3, g4, g5, Bool.true_and, Bool.false_and, Bool.and_false, Bool.and_true]
              simp only [e] at k
              exact k _ h0.tl.tl
            | true =>
              cases g6 : (n5 == n5') with
              | false =>
                rw [call_run F19]; simp -implicitDefEqProofs only [↓GP, GB, GL, Nat.reduceAdd, Nat.reduceSub, Nat.reduceEqDiff, Nat.reduceMul, Nat.reduceLeDiff, Int.reduceBNe, Int.reduceBEq, Nat.reduceLT, reduceCtorEq, c19, qa0, qa1, qa2, qa3, qa4, qa5, qa6, qa7, qa8, qa9, qa10, qa11, qa12, qaa, qb0, qb1, qb2, qb3, qb4, qb5, qb6, qb7, qb8, qb9, qb10, qb11, qb12, qab, cells_agg, ldC_some, ldN_some, b_seq, b_sne, bEq, bne, w.e6.len, w.e7.len, w.e9.len, w.e10.len, w.e11.len, w.e12.len, w'.e6.len, w'.e7.len, w'.e9.len, w'.e10.len, w'.e11.len, w'.e12.len, g1, g2, g3, g4, g5, g6]
                have e : beqD (.agg [.lit (.str s0), .lit (.str s1), .lit (.str s2), .lit (.str s3), .lit (.int .i64 n4), .lit (.int .i64 n5), .sl 17 L6, .sl 4 L7, .agg [.lit (.str s8_0), .lit (.str s8_1), .lit (.int .i64 n8_2), .sl 1 L8_3, .sl 5 L8_4], .sl 1 L9, .sl 1 L10, .sl 1 L11, .sl 1 L12]) (.agg [.lit (.str s0'), .lit (.str s1'), .lit (.str s2'), .lit (.str s3'), .lit (.int .i64 n4'), .lit (.int .i64 n5'), .sl 17 L6', .sl 4 L7', .agg [.lit (.str s8_0'), .lit (.str s8_1'), .lit (.int .i64 n8_2'), .sl 1 L8_3', .sl 5 L8_4'], .sl 1 L9', .sl 1 L10', .sl 1 L11', .sl 1 L12']) = false := by rw [beqD_agg]; simp only [beqDs_cons, beqDs_nil, beqD_sl, beqD_lit, litEq, g1, g2, g3, g4, g5, g6, Bool.true_and, Bool.false_and, Bool.and_false, Bool.and_true]
                simp only [e] at k
                exact k _ h0.tl.tl
              | true =>
                rw [call_run F19]; simp -implicitDefEqProofs only [↓GP, GB, GL, Nat.reduceAdd, Nat.reduceSub, Nat.reduceEqDiff, Nat.reduceMul, Nat.reduceLeDiff, Int.reduceBNe, Int.reduceBEq, Nat.reduceLT, reduceCtorEq, c19, qa0, qa1, qa2, qa3, qa4, qa5, qa6, qa7, qa8, qa9, qa10, qa11, qa12, qaa, qb0, qb1, qb2, qb3, qb4, qb5, qb6, qb7, qb8, qb9, qb10, qb11, qb12, qab, cells_agg, ldC_some, ldN_some, b_seq, b_sne, bEq, bne, w.e6.len, w.e7.len, w.e9.len, w.e10.len, w.e11.len, w.e12.len, w'.e6.len, w'.e7.len, w'.e9.len, w'.e10.len, w'.e11.len, w'.e12.len, g1, g2, g3, g4, g5, g6]
                refine wp_in ((e33 _ _) _ _ _ _ _ w.h8 w'.h8 w.r8 w'.r8 h0 fun u7 h7 => ?_)
                have f7 := h7.f2
                cases g7 : beqD (.agg [.lit (.str s8_0), .lit (.str s8_1), .lit (.int .i64 n8_2), .sl 1 L8_3, .sl 5 L8_4]) (.agg [.lit (.str s8_0'), .lit (.str s8_1'), .lit (.int .i64 n8_2'), .sl 1 L8_3', .sl 5 L8_4']) with
                | false =>
                  simp -implicitDefEqProofs only [↓GP, GB, GL, Nat.reduceAdd, Nat.reduceSub, Nat.reduceEqDiff, Nat.reduceMul, Nat.reduceLeDiff, Int.reduceBNe, Int.reduceBEq, Nat.reduceLT, reduceCtorEq, f7, qa0, qa1, qa2, qa3, qa4, qa5, qa6, qa7, qa8, qa9, qa10, qa11, qa12, qaa, qb0, qb1, qb2, qb3, qb4, qb5, qb6, qb7, qb8, qb9, qb10, qb11, qb12, qab, cells_agg, ldC_some, ldN_some, b_seq, b_sne, bEq, bne, w.e6.len, w.e7.len, w.e9.len, w.e10.len, w.e11.len, w.e12.len, w'.e6.len, w'.e7.len, w'.e9.len, w'.e10.len, w'.e11.len, w'.e12.len, g7]
                  have e : beqD (.agg [.lit (.str s0), .lit (.str s1), .lit (.str s2), .lit (.str s3), .lit (.int .i64 n4), .lit (.int .i64 n5), .sl 17 L6, .sl 4 L7, .agg [.lit (.str s8_0), .lit (.str s8_1), .lit (.int .i64 n8_2), .sl 1 L8_3, .sl 5 L8_4], .sl 1 L9, .sl 1 L10, .sl 1 L11, .sl 1 L12]) (.agg [.lit (.str s0'), .lit (.str s1'), .lit (.str s2'), .lit (.str s3'), .lit (.int .i64 n4'), .lit (.int .i64 n5'), .sl 17 L6', .sl 4 L7', .agg [.lit (.str s8_0'), .lit (.str s8_1'), .lit (.int .i64 n8_2'), .sl 1 L8_3', .sl 5 L8_4'], .sl 1 L9', .sl 1 L10', .sl 1 L11', .sl 1 L12']) = false := by rw [beqD_agg]; simp only [beqDs_cons, beqDs_nil, beqD_sl, beqD_lit, litEq, g1, g2, g3, g4, g5, g6, g7, Bool.true_and, Bool.false_and, Bool.and_false, Bool.and_true]
                  simp only [e] at k
                  exact k _ h7.tl.tl
                | true =>
                  simp -implicitDefEqProofs only [↓GP, GB, GL, Nat.reduceAdd, Nat.reduceSub, Nat.reduceEqDiff, Nat.reduceMul, Nat.reduceLeDiff, Int.reduceBNe, Int.reduceBEq, Nat.reduceLT, reduceCtorEq, f7, qa0, qa1, qa2, qa3, qa4, qa5, qa6, qa7, qa8, qa9, qa10, qa11, qa12, qaa, qb0, qb1, qb2, qb3, qb4, qb5, qb6, qb7, qb8, qb9, qb10, qb11, qb12, qab, cells_agg, ldC_some, ldN_some, b_seq, b_sne, bEq, bne, w.e6.len, w.e7.len, w.e9.len, w.e10.len, w.e11.len, w.e12.len, w'.e6.len, w'.e7.len, w'.e9.len, w'.e10.len, w'.e11.len, w'.e12.len, g7]
                  refine wp_in ((l34 w.t9 w'.t9 w.m9) _ _ _ _ _ w.e9 w'.e9 h7 fun u8 h8 => ?_)
                  have f8 := h8.f2
                  cases g8 : beqDs L9 L9' with
                  | false =>
                    simp -implicitDefEqProofs only [↓GP, GB, GL, Nat.reduceAdd, Nat.reduceSub, Nat.reduceEqDiff, Nat.reduceMul, Nat.reduceLeDiff, Int.reduceBNe, Int.reduceBEq, Nat.reduceLT, reduceCtorEq, f8, qa0, qa1, qa2, qa3, qa4, qa5, qa6, qa7, qa8, qa9, qa10, qa11, qa12, qaa, qb0, qb1, qb2, qb3, qb4, qb5, qb6, qb7, qb8, qb9, qb10, qb11, qb12, qab, cells_agg, ldC_some, ldN_some, b_seq, b_sne, bEq, bne, w.e6.len, w.e7.len, w.e9.len, w.e10.len, w.e11.len, w.e12.len, w'.e6.len, w'.e7.len, w'.e9.len, w'.e10.len, w'.e11.len, w'.e12.len, g8]
                    have e : beqD (.agg [.lit (.str s0), .lit (.str s1), .lit (.str s2), .lit (.str s3), .lit (.int .i64 n4), .lit (.int .i64 n5), .sl 17 L6, .sl 4 L7, .agg [.lit (.str s8_0), .lit (.str s8_1), .lit (.int .i64 n8_2), .sl 1 L8_3, .sl 5 L8_4], .sl 1 L9, .sl 1 L10, .sl 1 L11, .sl 1 L12]) (.agg [.lit (.str s0'), .lit (.str s1'), .lit (.str s2'), .lit (.str s3'), .lit (.int .i64 n4'), .lit (.int .i64 n5'), .sl 17 L6', .sl 4 L7', .agg [.lit (.str s8_0'), .lit (.str s8_1'), .lit (.int .i64 n8_2'), .sl 1 L8_3', .sl 5 L8_4'], .sl 1 L9', .sl 1 L10', .sl 1 L11', .sl 1 L12']) = false := by rw [beqD_agg]; simp only [beqDs_cons, beqDs_nil, beqD_sl, beqD_lit, litEq, g1, g2, g3, g4, g5, g6, g7, g8, Bool.true_and, Bool.false_and, Bool.and_false, Bool.and_true]
                    simp only [e] at k
                    exact k _ h8.tl.tl
                  | true =>
                    simp -implicitDefEqProofs only [↓GP, GB, GL, Nat.reduceAdd, Nat.reduceSub, Nat.reduceEqDiff, Nat.reduceMul, Nat.reduceLeDiff, Int.reduceBNe, Int.reduceBEq, Nat.reduceLT, reduceCtorEq, f8, qa0, qa1, qa2, qa3, qa4, qa5, qa6, qa7, qa8, qa9, qa10, qa11, qa12, qaa, qb0, qb1, qb2, qb3, qb4, qb5, qb6, qb7, qb8, qb9, qb10, qb11, qb12, qab, cells_agg, ldC_some, ldN_some, b_seq, b_sne, bEq, bne, w.e6.len, w.e7.len, w.e9.len, w.e10.len, w.e11.len, w.e12.len, w'.e6.len, w'.e7.len, w'.e9.len, w'.e10.len, w'.e11.len, w'.e12.len, g8]
                    refine wp_in ((l34 w.t10 w'.t10 w.m10) _ _ _ _ _ w.e10 w'.e10 h8 fun u9 h9 => ?_)
                    have f9 := h9.f2
                    cases g9 : beqDs L10 L10' with
                    | false =>
                      simp -implicitDefEqProofs only [↓GP, GB, GL, Nat.reduceAdd, Nat.reduceSub, Nat.reduceEqDiff, Nat.reduceMul, Nat.reduceLeDiff, Int.reduceBNe, Int.reduceBEq, Nat.reduceLT, reduceCtorEq, f9, qa0, qa1, qa2, qa3, qa4, qa5, qa6, qa7, qa8, qa9, qa10, qa11, qa12, qaa, qb0, qb1, qb2, qb3, qb4, qb5, qb6, qb7, qb8, qb9, qb10, qb11, qb12, qab, cells_agg, ldC_some, ldN_some, b_seq, b_sne, bEq, bne, w.e6.len, w.e7.len, w.e9.len, w.e10.len, w.e11.len, w.e12.len, w'.e6.len, w'.e7.len, w'.e9.len, w'.e10.len, w'.e11.len, w'.e12.len, g9]
                      have e : beqD (.agg [.lit (.str s0), .lit (.str s1), .lit (.str s2), .lit (.str s3), .lit (.int .i64 n4), .lit (.int .i64 n5), .sl 17 L6, .sl 4 L7, .agg [.lit (.str s8_0), .lit (.str s8_1), .lit (.int .i64 n8_2), .sl 1 L8_3, .sl 5 L8_4], .sl 1 L9, .sl 1 L10, .sl 1 L11, .sl 1 L12]) (.agg [.lit (.str s0'), .lit (.str s1'), .lit (.str s2'), .lit (.str s3'), .lit (.int .i64 n4'), .lit (.int .i64 n5'), .sl 17 L6', .sl 4 L7', .agg [.lit (.str s8_0'), .lit (.str s8_1'), .lit (.int .i64 n8_2'), .sl 1 L8_3', .sl 5 L8_4'], .sl 1 L9', .sl 1 L10', .sl 1 L11', .sl 1 L12']) = false := by rw [beqD_agg]; simp only [beqDs_cons, beqDs_nil, beqD_sl, beqD_lit, litEq, g1, g2, g3, g4, g5, g6, g7, g8, g9, Bool.true_and, Bool.false_and, Bool.and_false, Bool.and_true]
                      simp only [e] at k
                      exact k _ h9.tl.tl
                    | true =>
                      simp -implicitDefEqProofs only [↓GP, GB, GL, Nat.reduceAdd, Nat.reduceSub, Nat.reduceEqDiff, Nat.reduceMul, Nat.reduceLeDiff, Int.reduceBNe, Int.reduceBEq, Nat.reduceLT, reduceCtorEq, f9, qa0, qa1, qa2, qa3, qa4, qa5, qa6, qa7, qa8, qa9, qa10, qa11, qa12, qaa, qb0, qb1, qb2, qb3, qb4, qb5, qb6, qb7, qb8, qb9, qb10, qb11, qb12, qab, cells_agg, ldC_some, ldN_some, b_seq, b_sne, bEq, bne, w.e6.len, w.e7.len, w.e9.len, w.e10.len, w.e11.len, w.e12.len, w'.e6.len, w'.e7.len, w'.e9.len, w'.e10.len, w'.e11.len, w'.e12.len, g9]
                      refine wp_in ((l34 w.t11 w'.t11 w.m11) _ _ _ _ _ w.e11 w'.e11 h9 fun u10 h10 => ?_)
                      have f10 := h10.f2
                      cases g10 : beqDs L11 L11' with
                      | false =>
                        simp -implicitDefEqProofs only [↓GP, GB, GL, Nat.reduceAdd, Nat.reduceSub, Nat.reduceEqDiff, Nat.reduceMul, Nat.reduceLeDiff, Int.reduceBNe, Int.reduceBEq, Nat.reduceLT, reduceCtorEq, f10, qa0, qa1, qa2, qa3, qa4, qa5, qa6, qa7, qa8, qa9, qa10, qa11, qa12, qaa, qb0, qb1, qb2, qb3, qb4, qb5, qb6, qb7, qb8, qb9, qb10, qb11, qb12, qab, cells_agg, ldC_some, ldN_some, b_seq, b_sne, bEq, bne, w.e6.len, w.e7.len, w.e9.len, w.e10.len, w.e11.len, w.e12.len, w'.e6.len, w'.e7.len, w'.e9.len, w'.e10.len, w'.e11.len, w'.e12.len, g10]
                        have e : beqD (.agg [.lit (.str s0), .lit (.str s1), .lit (.str s2), .lit (.str s3), .lit (.int .i64 n4), .lit (.int .i64 n5), .sl 17 L6, .sl 4 L7, .agg [.lit (.str s8_0), .lit (.str s8_1), .lit (.int .i64 n8_2), .sl 1 L8_3, .sl 5 L8_4], .sl 1 L9, .sl 1 L10, .sl 1 L11, .sl 1 L12]) (.agg [.lit (.str s0'), .lit (.str s1'), .lit (.str s2'), .lit (.str s3'), .lit (.int .i64 n4'), .lit (.int .i64 n5'), .sl 17 L6', .sl 4 L7', .agg [.lit (.str s8_0'), .lit (.str s8_1'), .lit (.int .i64 n8_2'), .sl 1 L8_3', .sl 5 L8_4'], .sl 1 L9', .sl 1 L10', .sl 1 L11', .sl 1 L12']) = false := by rw [beqD_agg]; simp only [beqDs_cons, beqDs_nil, beqD_sl, beqD_lit, litEq, g1, g2, g3, g4, g5, g6, g7, g8, g9, g10, Bool.true_and, Bool.false_and, Bool.and_false, Bool.and_true]
                        simp only [e] at k
                        exact k _ h10.tl.tl
                      | true =>
                        by_cases g11 : L12.length = L12'.length
                        rotate_left
                        · have zg11 : (((L12.length : Nat) : Int) == ((L12'.length : Nat) : Int)) = false := by rw [beq_eq_false_iff_ne]; omega
                          have yg11 := beqDs_ne g11
                          simp -implicitDefEqProofs only [↓GP, GB, GL, Nat.reduceAdd, Nat.reduceSub, Nat.reduceEqDiff, Nat.reduceMul, Nat.reduceLeDiff, Int.reduceBNe, Int.reduceBEq, Nat.reduceLT, reduceCtorEq, f10, qa0, qa1, qa2, qa3, qa4, qa5, qa6, qa7, qa8, qa9, qa10, qa11, qa12, qaa, qb0, qb1, qb2, qb3, qb4, qb5, qb6, qb7, qb8, qb9, qb10, qb11, qb12, qab, cells_agg, ldC_some, ldN_some, b_seq, b_sne, bEq, bne, w.e6.len, w.e7.len, w.e9.len, w.e10.len, w.e11.len, w.e12.len, w'.e6.len, w'.e7.len, w'.e9.len, w'.e10.len, w'.e11.len, w'.e12.len, g10, zg11]
                          have e : beqD (.agg [.lit (.str s0), .lit (.str s1), .lit (.str s2), .lit (.str s3), .lit (.int .i64 n4), .lit (.int .i64 n5), .sl 17 L6, .sl 4 L7, .agg [.lit (.str s8_0), .lit (.str s8_1), .lit (.int .i64 n8_2), .sl 1 L8_3, .sl 5 L8_4], .sl 1 L9, .sl 1 L10, .sl 1 L11, .sl 1 L12]) (.agg [.lit (.str s0'), .lit (.str s1'), .lit (.str s2'), .lit (.str s3'), .lit (.int .i64 n4'), .lit (.int .i64 n5'), .sl 17 L6', .sl 4 L7', .agg [.lit (.str s8_0'), .lit (.str s8_1'), .lit (.int .i64 n8_2'), .sl 1 L8_3', .sl 5 L8_4'], .sl 1 L9', .sl 1 L10', .sl 1 L11', .sl 1 L12']) = false := by rw [beqD_agg]; simp only [beqDs_cons, beqDs_nil, beqD_sl, beqD_lit, litEq, g1, g2, g3, g4, g5, g6, g7, g8, g9, g10, yg11, Bool.true_and, Bool.false_and, Bool.and_false, Bool.and_true]
                          simp only [e] at k
                          exact k _ h10.tl.tl
                        have zg11 : (((L12.length : Nat) : Int) == ((L12'.length : Nat) : Int)) = true := by rw [beq_iff_eq]; omega
                        by_cases g12 : L6.length = L6'.length
                        rotate_left
                        · have zg12 : (((L6.length : Nat) : Int) == ((L6'.length : Nat) : Int)) = false := by rw [beq_eq_false_iff_ne]; omega
                          have yg12 := beqDs_ne g12
                          simp -implicitDefEqProofs only [↓GP, GB, GL, Nat.reduceAdd, Nat.reduceSub, Nat.reduceEqDiff, Nat.reduceMul, Nat.reduceLeDiff, Int.reduceBNe, Int.reduceBEq, Nat.reduceLT, reduceCtorEq, f10, qa0, qa1, qa2, qa3, qa4, qa5, qa6, qa7, qa8, qa9, qa10, qa11, qa12, qaa, qb0, qb1, qb2, qb3, qb4, qb5, qb6, qb7, qb8, qb9, qb10, qb11, qb12, qab, cells_agg, ldC_some, ldN_some, b_seq, b_sne, bEq, bne, w.e6.len, w.e7.len, w.e9.len, w.e10.len, w.e11.len, w.e12.len, w'.e6.len, w'.e7.len, w'.e9.len, w'.e10.len, w'.e11.len, w'.e12.len, g10, zg11, zg12]
                          have e : beqD (.agg [.lit (.str s0), .lit (.str s1), .lit (.str s2), .lit (.str s3), .lit (.int .i64 n4), .lit (.int .i64 n5), .sl 17 L6, .sl 4 L7, .agg [.lit (.str s8_0), .lit (.str s8_1), .lit (.int .i64 n8_2), .sl 1 L8_3, .sl 5 L8_4], .sl 1 L9, .sl 1 L10, .sl 1 L11, .sl 1 L12]) (.agg [.lit (.str s0'), .lit (.str s1'), .lit (.str s2'), .lit (.str s3'), .lit (.int .i64 n4'), .lit (.int .i64 n5'), .sl 17 L6', .sl 4 L7', .agg [.lit (.str s8_0'), .lit (.str s8_1'), .lit (.int .i64 n8_2'), .sl 1 L8_3', .sl 5 L8_4'], .sl 1 L9', .sl 1 L10', .sl 1 L11', .sl 1 L12']) = false := by rw [beqD_agg]; simp only [beqDs_cons, beqDs_nil, beqD_sl, beqD_lit, litEq, g1, g2, g3, g4, g5, g6, g7, g8, g9, g10, yg12, Bool.true_and, Bool.false_and, Bool.and_false, Bool.and_true]
                          simp only [e] at k
                          exact k _ h10.tl.tl
                        have zg12 : (((L6.length : Nat) : Int) == ((L6'.length : Nat) : Int)) = true := by rw [beq_iff_eq]; omega
                        by_cases g13 : L7.length = L7'.length
                        rotate_left
                        · have zg13 : (((L7.length : Nat) : Int) == ((L7'.length : Nat) : Int)) = false := by rw [beq_eq_false_iff_ne]; omega
                          have yg13 := beqDs_ne g13
                          simp -implicitDefEqProofs only [↓GP, GB, GL, Nat.reduceAdd, Nat.reduceSub, Nat.reduceEqDiff, Nat.reduceMul, Nat.reduceLeDiff, Int.reduceBNe, Int.reduceBEq, Nat.reduceLT, reduceCtorEq, f10, qa0, qa1, qa2, qa3, qa4, qa5, qa6, qa7, qa8, qa9, qa10, qa11, qa12, qaa, qb0, qb1, qb2, qb3, qb4, qb5, qb6, qb7, qb8, qb9, qb10, qb11, qb12, qab, cells_agg, ldC_some, ldN_some, b_seq, b_sne, bEq, bne, w.e6.len, w.e7.len, w.e9.len, w.e10.len, w.e11.len, w.e12.len, w'.e6.len, w'.e7.len, w'.e9.len, w'.e10.len, w'.e11.len, w'.e12.len, g10, zg11, zg12, zg13]
                          have e : beqD (.agg [.lit (.str s0), .lit (.str s1), .lit (.str s2), .lit (.str s3), .lit (.int .i64 n4), .lit (.int .i64 n5), .sl 17 L6, .sl 4 L7, .agg [.lit (.str s8_0), .lit (.str s8_1), .lit (.int .i64 n8_2), .sl 1 L8_3, .sl 5 L8_4], .sl 1 L9, .sl 1 L10, .sl 1 L11, .sl 1 L12]) (.agg [.lit (.str s0'), .lit (.str s1'), .lit (.str s2'), .lit (.str s3'), .lit (.int .i64 n4'), .lit (.int .i64 n5'), .sl 17 L6', .sl 4 L7', .agg [.lit (.str s8_0'), .lit (.str s8_1'), .lit (.int .i64 n8_2'), .sl 1 L8_3', .sl 5 L8_4'], .sl 1 L9', .sl 1 L10', .sl 1 L11', .sl 1 L12']) = false := by rw [beqD_agg]; simp only [beqDs_cons, beqDs_nil, beqD_sl, beqD_lit, litEq, g1, g2, g3, g4, g5, g6, g7, g8, g9, g10, yg13, Bool.true_and, Bool.false_and, Bool.and_false, Bool.and_true]
                          simp only [e] at k
                          exact k _ h10.tl.tl
                        have zg13 : (((L7.length : Nat) : Int) == ((L7'.length : Nat) : Int)) = true := by rw [beq_iff_eq]; omega
                        simp -implicitDefEqProofs only [↓GP, GB, GL, Nat.reduceAdd, Nat.reduceSub, Nat.reduceEqDiff, Nat.reduceMul, Nat.reduceLeDiff, Int.reduceBNe, Int.reduceBEq, Nat.reduceLT, reduceCtorEq, f10, qa0, qa1, qa2, qa3, qa4, qa5, qa6, qa7, qa8, qa9, qa10, qa11, qa12, qaa, qb0, qb1, qb2, qb3, qb4, qb5, qb6, qb7, qb8, qb9, qb10, qb11, qb12, qab, cells_agg, ldC_some, ldN_some, b_seq, b_sne, bEq, bne, w.e6.len, w.e7.len, w.e9.len, w.e10.len, w.e11.len, w.e12.len, w'.e6.len, w'.e7.len, w'.e9.len, w'.e10.len, w'.e11.len, w'.e12.len, g10, zg11, zg12, zg13]
                        refine l19_0_loop w.e12 w'.e12 g11 w.t12 w'.t12 w.m12  (cs := c) (cs' := c') (C := _ :: _ :: C) (.tail _ (.head _)) (.head _) qa12 qb12 _ 0 _ _ rfl (Nat.zero_add _) h10 (fun u14 h14 g14 => ?_) (fun u14 h14 g14 => ?_)
                        rotate_left
                        · rw [List.drop_zero, List.drop_zero] at g14
                          simp -implicitDefEqProofs only [↓GP, GB, GL, Nat.reduceAdd, Nat.reduceSub, Nat.reduceEqDiff, Nat.reduceMul, Nat.reduceLeDiff, Int.reduceBNe, Int.reduceBEq, Nat.reduceLT, reduceCtorEq]
                          have e : beqD (.agg [.lit (.str s0), .lit (.str s1), .lit (.str s2), .lit (.str s3), .lit (.int .i64 n4), .lit (.int .i64 n5), .sl 17 L6, .sl 4 L7, .agg [.lit (.str s8_0), .lit (.str s8_1), .lit (.int .i64 n8_2), .sl 1 L8_3, .sl 5 L8_4], .sl 1 L9, .sl 1 L10, .sl 1 L11, .sl 1 L12]) (.agg [.lit (.str s0'), .lit (.str s1'), .lit (.str s2'), .lit (.str s3'), .lit (.int .i64 n4'), .lit (.int .i64 n5'), .sl 17 L6', .sl 4 L7', .agg [.lit (.str s8_0'), .lit (.str s8_1'), .lit (.int .i64 n8_2'), .sl 1 L8_3', .sl 5 L8_4'], .sl 1 L9', .sl 1 L10', .sl 1 L11', .sl 1 L12']) = false := by rw [beqD_agg]; simp only [beqDs_cons, beqDs_nil, beqD_sl, beqD_lit, litEq, g1, g2, g3, g4, g5, g6, g7, g8, g9, g10, g14, Bool.true_and, Bool.false_and, Bool.and_false, Bool.and_true]
                          simp only [e] at k
                          exact k _ h14.tl.tl
                        rw [List.drop_zero, List.drop_zero] at g14
                        have f14 := h14.f2
                        simp -implicitDefEqProofs only [↓GP, GB, GL, Nat.reduceAdd, Nat.reduceSub, Nat.reduceEqDiff, Nat.reduceMul, Nat.reduceLeDiff, Int.reduceBNe, Int.reduceBEq, Nat.reduceLT, reduceCtorEq, f14, qa0, qa1, qa2, qa3, qa4, qa5, qa6, qa7, qa8, qa9, qa10, qa11, qa12, qaa, qb0, qb1, qb2, qb3, qb4, qb5, qb6, qb7, qb8, qb9, qb10, qb11, qb12, qab, cells_agg, ldC_some, ldN_some, b_seq, b_sne, bEq, bne, w.e6.len, w.e7.len, w.e9.len, w.e10.len, w.e11.len, w.e12.len, w'.e6.len, w'.e7.len, w'.e9.len, w'.e10.len, w'.e11.len, w'.e12.len]
                        refine l19_1_loop w.e6 w'.e6 g12 w.t6 w'.t6 w.m6 (fun x hx x' => IH x x' (mem_agg (ds := [.lit (.str s0), .lit (.str s1), .lit (.str s2), .lit (.str s3), .lit (.int .i64 n4), .lit (.int .i64 n5), .sl 17 L6, .sl 4 L7, .agg [.lit (.str s8_0), .lit (.str s8_1), .lit (.int .i64 n8_2), .sl 1 L8_3, .sl 5 L8_4], .sl 1 L9, .sl 1 L10, .sl 1 L11, .sl 1 L12]) (sz := 17) (List.mem_of_getElem? (i := 6) rfl) hx)) (cs := c) (cs' := c') (C := _ :: _ :: C) (.tail _ (.head _)) (.head _) qa6 qb6 _ 0 _ _ rfl (Nat.zero_add _) h14 (fun u15 h15 g15 => ?_) (fun u15 h15 g15 => ?_)
                        rotate_left
                        · rw [List.drop_zero, List.drop_zero] at g15
                          simp -implicitDefEqProofs only [↓GP, GB, GL, Nat.reduceAdd, Nat.reduceSub, Nat.reduceEqDiff, Nat.reduceMul, Nat.reduceLeDiff, Int.reduceBNe, Int.reduceBEq, Nat.reduceLT, reduceCtorEq]
                          have e : beqD (.agg [.lit (.str s0), .lit (.str s1), .lit (.str s2), .lit (.str s3), .lit (.int .i64 n4), .lit (.int .i64 n5), .sl 17 L6, .sl 4 L7, .agg [.lit (.str s8_0), .lit (.str s8_1), .lit (.int .i64 n8_2), .sl 1 L8_3, .sl 5 L8_4], .sl 1 L9, .sl 1 L10, .sl 1 L11, .sl 1 L12]) (.agg [.lit (.str s0'), .lit (.str s1'), .lit (.str s2'), .lit (.str s3'), .lit (.int .i64 n4'), .lit (.int .i64 n5'), .sl 17 L6', .sl 4 L7', .agg [.lit (.str s8_0'), .lit (.str s8_1'), .lit (.int .i64 n8_2'), .sl 1 L8_3', .sl 5 L8_4'], .sl 1 L9', .sl 1 L10', .sl 1 L11', .sl 1 L12']) = false := by rw [beqD_agg]; simp only [beqDs_cons, beqDs_nil, beqD_sl, beqD_lit, litEq, g1, g2, g3, g4, g5, g6, g7, g8, g9, g10, g14, g15, Bool.true_and, Bool.false_and, Bool.and_false, Bool.and_true]
                          simp only [e] at k
                          exact k _ h15.tl.tl
                        rw [List.drop_zero, List.drop_zero] at g15
                        have f15 := h15.f2
                        simp -implicitDefEqProofs only [↓GP, GB, GL, Nat.reduceAdd, Nat.reduceSub, Nat.reduceEqDiff, Nat.reduceMul, Nat.reduceLeDiff, Int.reduceBNe, Int.reduceBEq, Nat.reduceLT, reduceCtorEq, f15, qa0, qa1, qa2, qa3, qa4, qa5, qa6, qa7, qa8, qa9, qa10, qa11, qa12, qaa, qb0, qb1, qb2, qb3, qb4, qb5, qb6, qb7, qb8, qb9, qb10, qb11, qb12, qab, cells_agg, ldC_some, ldN_some, b_seq, b_sne, bEq, bne, w.e6.len, w.e7.len, w.e9.len, w.e10.len, w.e11.len, w.e12.len, w'.e6.len, w'.e7.len, w'.e9.len, w'.e10.len, w'.e11.len, w'.e12.len]
                        refine l19_2_loop w.e7 w'.e7 g13 w.t7 w'.t7 w.m7 (fun x _ x' => e35 x x') (cs := c) (cs' := c') (C := _ :: _ :: C) (.tail _ (.head _)) (.head _) qa7 qb7 _ 0 _ _ rfl (Nat.zero_add _) h15 (fun u16 h16 g16 => ?_) (fun u16 h16 g16 => ?_)
                        rotate_left
                        · rw [List.drop_zero, List.drop_zero] at g16
                          simp -implicitDefEqProofs only [↓GP, GB, GL, Nat.reduceAdd, Nat.reduceSub, Nat.reduceEqDiff, Nat.reduceMul, Nat.reduceLeDiff, Int.reduceBNe, Int.reduceBEq, Nat.reduceLT, reduceCtorEq]
                          have e : beqD (.agg [.lit (.str s0), .lit (.str s1), .lit (.str s2), .lit (.str s3), .lit (.int .i64 n4), .lit (.int .i64 n5), .sl 17 L6, .sl 4 L7, .agg [.lit (.str s8_0), .lit (.str s8_1), .lit (.int .i64 n8_2), .sl 1 L8_3, .sl 5 L8_4], .sl 1 L9, .sl 1 L10, .sl 1 L11, .sl 1 L12]) (.agg [.lit (.str s0'), .lit (.str s1'), .lit (.str s2'), .lit (.str s3'), .lit (.int .i64 n4'), .lit (.int .i64 n5'), .sl 17 L6', .sl 4 L7', .agg [.lit (.str s8_0'), .lit (.str s8_1'), .lit (.int .i64 n8_2'), .sl 1 L8_3', .sl 5 L8_4'], .sl 1 L9', .sl 1 L10', .sl 1 L11', .sl 1 L12']) = false := by rw [beqD_agg]; simp only [beqDs_cons, beqDs_nil, beqD_sl, beqD_lit, litEq, g1, g2, g3, g4, g5, g6, g7, g8, g9, g10, g14, g15, g16, Bool.true_and, Bool.false_and, Bool.and_false, Bool.and_true]
                          simp only [e] at k
                          exact k _ h16.tl.tl
                        rw [List.drop_zero, List.drop_zero] at g16
                        have f16 := h16.f2
                        simp -implicitDefEqProofs only [↓GP, GB, GL, Nat.reduceAdd, Nat.reduceSub, Nat.reduceEqDiff, Nat.reduceMul, Nat.reduceLeDiff, Int.reduceBNe, Int.reduceBEq, Nat.reduceLT, reduceCtorEq, f16, qa0, qa1, qa2, qa3, qa4, qa5, qa6, qa7, qa8, qa9, qa10, qa11, qa12, qaa, qb0, qb1, qb2, qb3, qb4, qb5, qb6, qb7, qb8, qb9, qb10, qb11, qb12, qab, cells_agg, ldC_some, ldN_some, b_seq, b_sne, bEq, bne, w.e6.len, w.e7.len, w.e9.len, w.e10.len, w.e11.len, w.e12.len, w'.e6.len, w'.e7.len, w'.e9.len, w'.e10.len, w'.e11.len, w'.e12.len]
                        have e : beqD (.agg [.lit (.str s0), .lit (.str s1), .lit (.str s2), .lit (.str s3), .lit (.int .i64 n4), .lit (.int .i64 n5), .sl 17 L6, .sl 4 L7, .agg [.lit (.str s8_0), .lit (.str s8_1), .lit (.int .i64 n8_2), .sl 1 L8_3, .sl 5 L8_4], .sl 1 L9, .sl 1 L10, .sl 1 L11, .sl 1 L12]) (.agg [.lit (.str s0'), .lit (.str s1'), .lit (.str s2'), .lit (.str s3'), .lit (.int .i64 n4'), .lit (.int .i64 n5'), .sl 17 L6', .sl 4 L7', .agg [.lit (.str s8_0'), .lit (.str s8_1'), .lit (.int .i64 n8_2'), .sl 1 L8_3', .sl 5 L8_4'], .sl 1 L9', .sl 1 L10', .sl 1 L11', .sl 1 L12']) = true := by rw [beqD_agg]; simp only [beqDs_cons, beqDs_nil, beqD_sl, beqD_lit, litEq, g1, g2, g3, g4, g5, g6, g7, g8, g9, g10, g14, g15, g16, Bool.true_and, Bool.false_and, Bool.and_false, Bool.and_true]
                        simp only [e] at k
                        exact k _ h16.tl.tl
theorem s19 : ∀ (m : Nat) (d d' : D), SizeOf.sizeOf d < m → EqS o 19 32 d d'
  | 0, _, _, hm => absurd hm (Nat.not_lt_zero _)
  | m + 1, d, d', hm => t19 d d' fun x x' h => s19 m x x' (Nat.lt_of_lt_of_le h (Nat.le_of_lt_succ hm))
theorem e19 (d d' : D) : EqS o 19 32 d d' := s19 _ d d' (Nat.lt_succ_self _)
theorem e7 (d d' : D) : EqS o 7 34 d d' := by
  intro c c' C s Q ht ht' r r' H k
  obtain ⟨L0, v0, L1, v1, s2_0, s2_1, s2_2, s2_3, n2_4, n2_5, L2_6, v2_6, L2_7, v2_7, s2_8_0, s2_8_1, n2_8_2, L2_8_3, v2_8_3, L2_8_4, v2_8_4, L2_9, v2_9, L2_10, v2_10, L2_11, v2_11, L2_12, v2_12, rfl, hc, w⟩ := vRProg ht r
  obtain ⟨L0', v0', L1', v1', s2_0', s2_1', s2_2', s2_3', n2_4', n2_5', L2_6', v2_6', L2_7', v2_7', s2_8_0', s2_8_1', n2_8_2', L2_8_3', v2_8_3', L2_8_4', v2_8_4', L2_9', v2_9', L2_10', v2_10', L2_11', v2_11', L2_12', v2_12', rfl, hc', w'⟩ := vRProg ht' r'
  have qa0 : c[0]? = some (v0) := by rw [hc]; rfl
  have qa1 : c[1]? = some (v1) := by rw [hc]; rfl
  have qa2 : cut c 2 17 = some [.str s2_0, .str s2_1, .str s2_2, .str s2_3, .int .i64 n2_4, .int .i64 n2_5, v2_6, v2_7, .str s2_8_0, .str s2_8_1, .int .i64 n2_8_2, v2_8_3, v2_8_4, v2_9, v2_10, v2_11, v2_12] := by rw [hc]; rfl
  have qaa : c.all V.one = true := by rw [hc]; simp only [List.all_cons, List.all_nil, one_s, one_i, one_b, Bool.and_true, w.e0.one, w.e1.one, w.w2.e6.one, w.w2.e7.one, w.w2.w8.e3.one, w.w2.w8.e4.one, w.w2.e9.one, w.w2.e10.one, w.w2.e11.one, w.w2.e12.one]
  have qb0 : c'[0]? = some (v0') := by rw [hc']; rfl
  have qb1 : c'[1]? = some (v1') := by rw [hc']; rfl
  have qb2 : cut c' 2 17 = some [.str s2_0', .str s2_1', .str s2_2', .str s2_3', .int .i64 n2_4', .int .i64 n2_5', v2_6', v2_7', .str s2_8_0', .str s2_8_1', .int .i64 n2_8_2', v2_8_3', v2_8_4', v2_9', v2_10', v2_11', v2_12'] := by rw [hc']; rfl
  have qab : c'.all V.one = true := by rw [hc']; simp only [List.all_cons, List.all_nil, one_s, one_i, one_b, Bool.and_true, w'.e0.one, w'.e1.one, w'.w2.e6.one, w'.w2.e7.one, w'.w2.w8.e3.one, w'.w2.w8.e4.one, w'.w2.e9.one, w'.w2.e10.one, w'.w2.e11.one, w'.w2.e12.one]
  have h0 : Holds o ((s.alloc (.cells c none)).alloc (.cells c' none)) ((s.next + 1, some (.cells c' none)) :: (s.next, some (.cells c none)) :: C) := (H.alloc _).alloc _
  rw [call_run F7]; simp -implicitDefEqProofs only [↓GP, GB, GL, Nat.reduceAdd, Nat.reduceSub, Nat.reduceEqDiff, Nat.reduceMul, Nat.reduceLeDiff, Int.reduceBNe, Int.reduceBEq, Nat.reduceLT, reduceCtorEq, c7, qa0, qa1, qa2, qaa, qb0, qb1, qb2, qab, cells_agg, ldC_some, ldN_some, w.e0.one, w.e1.one, w'.e0.one, w'.e1.one, w.e0.cells, w'.e0.cells, w.e1.cells, w'.e1.cells]
  refine wp_in (s18 w.e0 w'.e0 w.e1 w'.e1 w.t0 w'.t0 w.t1 w'.t1 w.m0 w.m1 h0 fun u1 h1 => ?_)
  have f1 := h1.f2
  cases g1 : (beqDs L0 L0' && beqDs L1 L1') with
  | false =>
    simp -implicitDefEqProofs only [↓GP, GB, GL, Nat.reduceAdd, Nat.reduceSub, Nat.reduceEqDiff, Nat.reduceMul, Nat.reduceLeDiff, Int.reduceBNe, Int.reduceBEq, Nat.reduceLT, reduceCtorEq, f1]
    have e : beqD (.agg [.sl 2 L0, .sl 5 L1, .agg [.lit (.str s2_0), .lit (.str s2_1), .lit (.str s2_2), .lit (.str s2_3), .lit (.int .i64 n2_4), .lit (.int .i64 n2_5), .sl 17 L2_6, .sl 4 L2_7, .agg [.lit (.str s2_8_0), .lit (.str s2_8_1), .lit (.int .i64 n2_8_2), .sl 1 L2_8_3, .sl 5 L2_8_4], .sl 1 L2_9, .sl 1 L2_10, .sl 1 L2_11, .sl 1 L2_12]]) (.agg [.sl 2 L0', .sl 5 L1', .agg [.lit (.str s2_0'), .lit (.str s2_1'), .lit (.str s2_2'), .lit (.str s2_3'), .lit (.int .i64 n2_4'), .lit (.int .i64 n2_5'), .sl 17 L2_6', .sl 4 L2_7', .agg [.lit (.str s2_8_0'), .lit (.str s2_8_1'), .lit (.int .i64 n2_8_2'), .sl 1 L2_8_3', .sl 5 L2_8_4'], .sl 1 L2_9', .sl 1 L2_10', .sl 1 L2_11', .sl 1 L2_12']]) = false := by
      rw [beqD_agg, beqDs_cons, beqDs_cons, beqD_sl, beqD_sl, ← Bool.and_assoc, g1, Bool.false_and]
    simp only [e] at k
    exact k _ h1.tl.tl
  | true =>
    simp -implicitDefEqProofs only [↓GP, GB, GL, Nat.reduceAdd, Nat.reduceSub, Nat.reduceEqDiff, Nat.reduceMul, Nat.reduceLeDiff, Int.reduceBNe, Int.reduceBEq, Nat.reduceLT, reduceCtorEq, f1, qa0, qa1, qa2, qaa, qb0, qb1, qb2, qab, cells_agg, ldC_some, ldN_some, w.e0.one, w.e1.one, w'.e0.one, w'.e1.one]
    refine wp_in ((e19 _ _) _ _ _ _ _ w.h2 w'.h2 w.r2 w'.r2 h1 fun u2 h2 => ?_)
    have e : beqD (.agg [.sl 2 L0, .sl 5 L1, .agg [.lit (.str s2_0), .lit (.str s2_1), .lit (.str s2_2), .lit (.str s2_3), .lit (.int .i64 n2_4), .lit (.int .i64 n2_5), .sl 17 L2_6, .sl 4 L2_7, .agg [.lit (.str s2_8_0), .lit (.str s2_8_1), .lit (.int .i64 n2_8_2), .sl 1 L2_8_3, .sl 5 L2_8_4], .sl 1 L2_9, .sl 1 L2_10, .sl 1 L2_11, .sl 1 L2_12]]) (.agg [.sl 2 L0', .sl 5 L1', .agg [.lit (.str s2_0'), .lit (.str s2_1'), .lit (.str s2_2'), .lit (.str s2_3'), .lit (.int .i64 n2_4'), .lit (.int .i64 n2_5'), .sl 17 L2_6', .sl 4 L2_7', .agg [.lit (.str s2_8_0'), .lit (.str s2_8_1'), .lit (.int .i64 n2_8_2'), .sl 1 L2_8_3', .sl 5 L2_8_4'], .sl 1 L2_9', .sl 1 L2_10', .sl 1 L2_11', .sl 1 L2_12']]) = beqD (.agg [.lit (.str s2_0), .lit (.str s2_1), .lit (.str s2_2), .lit (.str s2_3), .lit (.int .i64 n2_4), .lit (.int .i64 n2_5), .sl 17 L2_6, .sl 4 L2_7, .agg [.lit (.str s2_8_0), .lit (.str s2_8_1), .lit (.int .i64 n2_8_2), .sl 1 L2_8_3, .sl 5 L2_8_4], .sl 1 L2_9, .sl 1 L2_10, .sl 1 L2_11, .sl 1 L2_12]) (.agg [.lit (.str s2_0'), .lit (.str s2_1'), .lit (.str s2_2'), .lit (.str s2_3'), .lit (.int .i64 n2_4'), .lit (.int .i64 n2_5'), .sl 17 L2_6', .sl 4 L2_7', .agg [.lit (.str s2_8_0'), .lit (.str s2_8_1'), .lit (.int .i64 n2_8_2'), .sl 1 L2_8_3', .sl 5 L2_8_4'], .sl 1 L2_9', .sl 1 L2_10', .sl 1 L2_11', .sl 1 L2_12']) := by
      rw [beqD_agg, beqDs_cons, beqDs_cons, beqD_sl, beqD_sl, ← Bool.and_assoc, g1, Bool.true_and, beqDs_cons, beqDs_nil, Bool.and_true]
    simp only [e] at k
    simp -implicitDefEqProofs only [↓GP, GB, GL, Nat.reduceAdd, Nat.reduceSub, Nat.reduceEqDiff, Nat.reduceMul, Nat.reduceLeDiff, Int.reduceBNe, Int.reduceBEq, Nat.reduceLT, reduceCtorEq]
    exact k _ h2.tl.tl
end
end Go.Proofs.YtfcaamoapdibiaaGreatDoor
