/- Layer 11: the code of the functions that its closed call runs. -/
import Derived.Test.YtfcaamoapdibiaaGreatDoorJa0
set_option linter.unusedSimpArgs false
set_option linter.unusedVariables false
namespace Go.Proofs.YtfcaamoapdibiaaGreatDoor.S
open Go Go.IM Go.Proofs.YtfcaamoapdibiaaGreatDoor

-- slices.pdqsortOrdered[int]
def l157_0 : IC := (.seq (.block 1
  (.seq (.region [oa 19 (.mov (.t 2)), oa 20 (.mov (.t 1)), oa 21 (.bin .sub (.t 19) (.t 20)), oa 10 (.mov (.t 21))] (kp 134 [0,1,2,3,8,9,10]))
  (.seq (.seq (.region [oa 22 (.mov (.t 10)), oa 23 (.bin .leq (.t 22) (ai 12))] (kp 134 [0,1,2,3,8,9,10,23]))
  (.cond (.t 23)
  (.seq (.region [oa 24 (.mov (.t 0)), oa 25 (.mov (.t 1)), oa 26 (.mov (.t 2)), oa 27 (.call 208 [(.t 24), (.t 25), (.t 26)])] (kp 134 []))
  (sr 134 []))
  (sk 134 [0,1,2,3,8,9,10])))
  (.seq (.seq (.region [oa 28 (.mov (.t 3)), oa 29 (.bin .eql (.t 28) (ai 0))] (kp 134 [0,1,2,3,8,9,10,29]))
  (.cond (.t 29)
  (.seq (.region [oa 30 (.mov (.t 0)), oa 31 (.mov (.t 1)), oa 32 (.mov (.t 2)), oa 33 (.call 209 [(.t 30), (.t 31), (.t 32)])] (kp 134 []))
  (sr 134 []))
  (sk 134 [0,1,2,3,8,9,10])))
  (.seq (.seq (.region [oa 34 (.mov (.t 8)), oa 35 (.un .not (.t 34))] (kp 134 [0,1,2,3,8,9,10,35]))
  (.cond (.t 35)
  (.seq (.region [oa 36 (.mov (.t 0)), oa 37 (.mov (.t 1)), oa 38 (.mov (.t 2)), oa 39 (.call 210 [(.t 36), (.t 37), (.t 38)])] (kp 134 [0,1,2,3,8,9,10]))
  (.region [oa 40 (.mov (.t 3)), oa 41 (.bin .sub (.t 40) (ai 1)), oa 3 (.mov (.t 41))] (kp 134 [0,1,2,3,8,9,10])))
  (sk 134 [0,1,2,3,8,9,10])))
  (.seq (.region [oa 43 (.mov (.t 0)), oa 44 (.mov (.t 1)), oa 45 (.mov (.t 2)), oa 46 (.call 211 [(.t 43), (.t 44), (.t 45)]), oa 42 (.mov (.t 46)), oa 47 (.extract (.t 42) 0), oa 48 (.extract (.t 42) 1), oa 11 (.mov (.t 47)), oa 12 (.mov (.t 48))] (kp 134 [0,1,2,3,8,9,10,11,12]))
  (.seq (.seq (.region [oa 49 (.mov (.t 12)), oa 50 (.bin .eql (.t 49) (ai 2))] (kp 134 [0,1,2,3,8,9,10,11,12,50]))
  (.cond (.t 50)
  (.seq (.region [oa 51 (.mov (.t 0)), oa 52 (.mov (.t 1)), oa 53 (.mov (.t 2)), oa 54 (.call 212 [(.t 51), (.t 52), (.t 53)])] (kp 134 [0,1,2,3,8,9,10,11]))
  (.seq (.region [oa 55 (.mov (.t 2)), oa 56 (.bin .sub (.t 55) (ai 1)), oa 57 (.mov (.t 11)), oa 58 (.mov (.t 1)), oa 59 (.bin .sub (.t 57) (.t 58)), oa 60 (.bin .sub (.t 56) (.t 59)), oa 11 (.mov (.t 60))] (kp 134 [0,1,2,3,8,9,10,11]))
  (.region [oa 12 (.mov (ai 1))] (kp 134 [0,1,2,3,8,9,10,11,12]))))
  (sk 134 [0,1,2,3,8,9,10,11,12])))
  (.seq (.seq (.region [oa 61 (.mov (.t 8)), oa 62 (.mov (.t 61)), oc 63 (.mov (.t 9)) 62 tt, oa 64 (.pick (.t 62) (.t 63) (.c (.bool false))), oa 65 (.mov (.t 64)), oc 66 (.mov (.t 12)) 65 tt, oc 67 (.bin .eql (.t 66) (ai 1)) 65 tt, oa 68 (.pick (.t 65) (.t 67) (.c (.bool false)))] (kp 134 [0,1,2,3,8,9,10,11,68]))
  (.cond (.t 68)
  (.seq (.region [oa 69 (.mov (.t 0)), oa 70 (.mov (.t 1)), oa 71 (.mov (.t 2)), oa 72 (.call 213 [(.t 69), (.t 70), (.t 71)])] (kp 134 [0,1,2,3,8,9,10,11,72]))
  (.cond (.t 72)
  (sr 134 [])
  (sk 134 [0,1,2,3,8,9,10,11])))
  (sk 134 [0,1,2,3,8,9,10,11])))
  (.seq (.seq (.region [oa 73 (.mov (.t 1)), oa 74 (.bin .gtr (.t 73) (ai 0)), oa 75 (.mov (.t 74)), oc 76 (.mov (.t 0)) 75 tt, oc 77 (.mov (.t 1)) 75 tt, oc 78 (.bin .sub (.t 77) (ai 1)) 75 tt, oc 79 (.indexAddr 1 (.t 76) (.t 78)) 75 tt, oc 80 (.load none (.t 79)) 75 tt, oc 81 (.mov (.t 0)) 75 tt, oc 82 (.mov (.t 11)) 75 tt, oc 83 (.indexAddr 1 (.t 81) (.t 82)) 75 tt, oc 84 (.load none (.t 83)) 75 tt, oc 85 (.call 214 [(.t 80), (.t 84)]) 75 tt, oc 86 (.un .not (.t 85)) 75 tt, oa 87 (.pick (.t 75) (.t 86) (.c (.bool false)))] (kp 134 [0,1,2,3,8,9,10,11,87]))
  (.cond (.t 87)
  (.seq (.region [oa 88 (.mov (.t 0)), oa 89 (.mov (.t 1)), oa 90 (.mov (.t 2)), oa 91 (.mov (.t 11)), oa 92 (.call 215 [(.t 88), (.t 89), (.t 90), (.t 91)]), oa 13 (.mov (.t 92))] (kp 134 [0,2,3,8,9,13]))
  (.seq (.region [oa 93 (.mov (.t 13)), oa 1 (.mov (.t 93))] (kp 134 [0,1,2,3,8,9]))
  (sx 134 [0,1,2,3,8,9] 1)))
  (sk 134 [0,1,2,3,10,11])))
  (.seq (.region [oa 95 (.mov (.t 0)), oa 96 (.mov (.t 1)), oa 97 (.mov (.t 2)), oa 98 (.mov (.t 11)), oa 99 (.call 216 [(.t 95), (.t 96), (.t 97), (.t 98)]), oa 94 (.mov (.t 99)), oa 100 (.extract (.t 94) 0), oa 101 (.extract (.t 94) 1), oa 14 (.mov (.t 100)), oa 15 (.mov (.t 101))] (kp 134 [0,1,2,3,10,14,15]))
  (.seq (.region [oa 102 (.mov (.t 15)), oa 9 (.mov (.t 102))] (kp 134 [0,1,2,3,9,10,14]))
  (.seq (.region [oa 103 (.mov (.t 14)), oa 104 (.mov (.t 1)), oa 105 (.bin .sub (.t 103) (.t 104)), oa 106 (.mov (.t 2)), oa 107 (.mov (.t 14)), oa 108 (.bin .sub (.t 106) (.t 107)), oa 16 (.mov (.t 105)), oa 17 (.mov (.t 108))] (kp 134 [0,1,2,3,9,10,14,16,17]))
  (.seq (.region [oa 109 (.mov (.t 10)), oa 110 (.bin .quo (.t 109) (ai 8)), oa 18 (.mov (.t 110))] (kp 134 [0,1,2,3,9,14,16,17,18]))
  (.seq (.region [oa 111 (.mov (.t 16)), oa 112 (.mov (.t 17)), oa 113 (.bin .lss (.t 111) (.t 112))] (kp 134 [0,1,2,3,9,14,16,17,18,113]))
  (.cond (.t 113)
  (.seq (.region [oa 114 (.mov (.t 16)), oa 115 (.mov (.t 18)), oa 116 (.bin .geq (.t 114) (.t 115)), oa 8 (.mov (.t 116))] (kp 134 [0,1,2,3,8,9,14]))
  (.seq (.region [oa 117 (.mov (.t 0)), oa 118 (.mov (.t 1)), oa 119 (.mov (.t 14)), oa 120 (.mov (.t 3)), oa 121 (.call 157 [(.t 117), (.t 118), (.t 119), (.t 120)])] (kp 134 [0,2,3,8,9,14]))
  (.region [oa 122 (.mov (.t 14)), oa 123 (.bin .add (.t 122) (ai 1)), oa 1 (.mov (.t 123))] (kp 134 [0,1,2,3,8,9]))))
  (.seq (.region [oa 124 (.mov (.t 17)), oa 125 (.mov (.t 18)), oa 126 (.bin .geq (.t 124) (.t 125)), oa 8 (.mov (.t 126))] (kp 134 [0,1,2,3,8,9,14]))
  (.seq (.region [oa 127 (.mov (.t 0)), oa 128 (.mov (.t 14)), oa 129 (.bin .add (.t 128) (ai 1)), oa 130 (.mov (.t 2)), oa 131 (.mov (.t 3)), oa 132 (.call 157 [(.t 127), (.t 129), (.t 130), (.t 131)])] (kp 134 [0,1,3,8,9,14]))
  (.region [oa 133 (.mov (.t 14)), oa 2 (.mov (.t 133))] (kp 134 [0,1,2,3,8,9])))))))))))))))))))
  (sk 134 [0,1,2,3,8,9]))
def c157 : IFn := ⟨134, [],
  (.seq (.region [oa 8 (.mov (.c (.bool true)))] (kp 134 [0,1,2,3,8]))
  (.seq (.region [oa 9 (.mov (.c (.bool true)))] (kp 134 [0,1,2,3,8,9]))
  (.block 0
  (.seq (sk 134 [0,1,2,3,8,9])
  (.loop l157_0)))))⟩
theorem F157 : shutF Tryz.prog 157 = some c157 := by kernel_rfl

-- math/bits.Len

def c158 : IFn := ⟨8, [(2, none)],
  (.seq (.region [oa 2 (.mov (ai 0))] (kp 8 [0]))
  (.seq (.cond (.c (.bool false))
  (.seq (.region [oa 3 (.mov (.t 0)), oa 4 (.conv .u32 (.t 3)), oa 5 (.call 217 [(.t 4)]), oa 2 (.mov (.t 5))] (kp 8 [2]))
  (sr 8 [2]))
  (sk 8 [0]))
  (.seq (.region [oa 6 (.mov (.t 0)), oa 7 (.call 218 [(.t 6)]), oa 2 (.mov (.t 7))] (kp 8 [2]))
  (sr 8 [2]))))⟩
theorem F158 : shutF Tryz.prog 158 = some c158 := by kernel_rfl

-- slices.IndexFunc[[]virgate/api.Pat,virgate/api.Pat]
def l162_0 : IC := (.seq (.seq (.region [oa 9 (.bin .lss (.t 8) (.t 7))] (kp 19 [0,1,7,8,9]))
  (.seq (.cond (.t 9)
  (sk 19 [0,1,7,8])
  (sx 19 [] 0))
  (.seq (.block 1
  (.seq (.region [oa 10 (.mov (.t 8)), oa 5 (.mov (.t 10))] (kp 19 [0,1,5,7,8]))
  (.seq (.region [oa 11 (.mov (.t 1)), oa 12 (.mov (.t 0)), oa 13 (.mov (.t 5)), oa 14 (.indexAddr 4 (.t 12) (.t 13)), oa 15 (.load (some 4) (.t 14)), oa 16 (.callv (.t 11) [(.t 15)])] (kp 19 [0,1,5,7,8,16]))
  (.cond (.t 16)
  (.seq (.region [oa 17 (.mov (.t 5)), oa 4 (.mov (.t 17))] (kp 19 [4]))
  (sr 19 [4]))
  (sk 19 [0,1,7,8])))))
  (.region [oa 18 (.bin .add (.t 8) (ai 1)), oa 8 (.mov (.t 18))] (kp 19 [0,1,7,8])))))
  (sk 19 [0,1,7,8]))
def c162 : IFn := ⟨19, [(4, none)],
  (.seq (.region [oa 4 (.mov (ai 0))] (kp 19 [0,1]))
  (.seq (.seq (.region [oa 6 (.mov (.t 0)), oa 7 (.lenSlice (.t 6)), oa 8 (.mov (ai 0))] (kp 19 [0,1,7,8]))
  (.block 0
  (.seq (sk 19 [0,1,7,8])
  (.loop l162_0))))
  (.seq (.region [oa 4 (.mov (ai (-1)))] (kp 19 [4]))
  (sr 19 [4]))))⟩
theorem F162 : shutF Tryz.prog 162 = some c162 := by kernel_rfl

-- slices.IndexFunc[[]virgate/api.Exp,virgate/api.Exp]
def l164_0 : IC := (.seq (.seq (.region [oa 9 (.bin .lss (.t 8) (.t 7))] (kp 19 [0,1,7,8,9]))
  (.seq (.cond (.t 9)
  (sk 19 [0,1,7,8])
  (sx 19 [] 0))
  (.seq (.block 1
  (.seq (.region [oa 10 (.mov (.t 8)), oa 5 (.mov (.t 10))] (kp 19 [0,1,5,7,8]))
  (.seq (.region [oa 11 (.mov (.t 1)), oa 12 (.mov (.t 0)), oa 13 (.mov (.t 5)), oa 14 (.indexAddr 12 (.t 12) (.t 13)), oa 15 (.load (some 12) (.t 14)), oa 16 (.callv (.t 11) [(.t 15)])] (kp 19 [0,1,5,7,8,16]))
  (.cond (.t 16)
  (.seq (.region [oa 17 (.mov (.t 5)), oa 4 (.mov (.t 17))] (kp 19 [4]))
  (sr 19 [4]))
  (sk 19 [0,1,7,8])))))
  (.region [oa 18 (.bin .add (.t 8) (ai 1)), oa 8 (.mov (.t 18))] (kp 19 [0,1,7,8])))))
  (sk 19 [0,1,7,8]))
def c164 : IFn := ⟨19, [(4, none)],
  (.seq (.region [oa 4 (.mov (ai 0))] (kp 19 [0,1]))
  (.seq (.seq (.region [oa 6 (.mov (.t 0)), oa 7 (.lenSlice (.t 6)), oa 8 (.mov (ai 0))] (kp 19 [0,1,7,8]))
  (.block 0
  (.seq (sk 19 [0,1,7,8])
  (.loop l164_0))))
  (.seq (.region [oa 4 (.mov (ai (-1)))] (kp 19 [4]))
  (sr 19 [4]))))⟩
theorem F164 : shutF Tryz.prog 164 = some c164 := by kernel_rfl

-- slices.pdqsortOrdered[string]
def l168_0 : IC := (.seq (.block 1
  (.seq (.region [oa 19 (.mov (.t 2)), oa 20 (.mov (.t 1)), oa 21 (.bin .sub (.t 19) (.t 20)), oa 10 (.mov (.t 21))] (kp 134 [0,1,2,3,8,9,10]))
  (.seq (.seq (.region [oa 22 (.mov (.t 10)), oa 23 (.bin .leq (.t 22) (ai 12))] (kp 134 [0,1,2,3,8,9,10,23]))
  (.cond (.t 23)
  (.seq (.region [oa 24 (.mov (.t 0)), oa 25 (.mov (.t 1)), oa 26 (.mov (.t 2)), oa 27 (.call 223 [(.t 24), (.t 25), (.t 26)])] (kp 134 []))
  (sr 134 []))
  (sk 134 [0,1,2,3,8,9,10])))
  (.seq (.seq (.region [oa 28 (.mov (.t 3)), oa 29 (.bin .eql (.t 28) (ai 0))] (kp 134 [0,1,2,3,8,9,10,29]))
  (.cond (.t 29)
  (.seq (.region [oa 30 (.mov (.t 0)), oa 31 (.mov (.t 1)), oa 32 (.mov (.t 2)), oa 33 (.call 224 [(.t 30), (.t 31), (.t 32)])] (kp 134 []))
  (sr 134 []))
  (sk 134 [0,1,2,3,8,9,10])))
  (.seq (.seq (.region [oa 34 (.mov (.t 8)), oa 35 (.un .not (.t 34))] (kp 134 [0,1,2,3,8,9,10,35]))
  (.cond (.t 35)
  (.seq (.region [oa 36 (.mov (.t 0)), oa 37 (.mov (.t 1)), oa 38 (.mov (.t 2)), oa 39 (.call 225 [(.t 36), (.t 37), (.t 38)])] (kp 134 [0,1,2,3,8,9,10]))
  (.region [oa 40 (.mov (.t 3)), oa 41 (.bin .sub (.t 40) (ai 1)), oa 3 (.mov (.t 41))] (kp 134 [0,1,2,3,8,9,10])))
  (sk 134 [0,1,2,3,8,9,10])))
  (.seq (.region [oa 43 (.mov (.t 0)), oa 44 (.mov (.t 1)), oa 45 (.mov (.t 2)), oa 46 (.call 226 [(.t 43), (.t 44), (.t 45)]), oa 42 (.mov (.t 46)), oa 47 (.extract (.t 42) 0), oa 48 (.extract (.t 42) 1), oa 11 (.mov (.t 47)), oa 12 (.mov (.t 48))] (kp 134 [0,1,2,3,8,9,10,11,12]))
  (.seq (.seq (.region [oa 49 (.mov (.t 12)), oa 50 (.bin .eql (.t 49) (ai 2))] (kp 134 [0,1,2,3,8,9,10,11,12,50]))
  (.cond (.t 50)
  (.seq (.region [oa 51 (.mov (.t 0)), oa 52 (.mov (.t 1)), oa 53 (.mov (.t 2)), oa 54 (.call 227 [(.t 51), (.t 52), (.t 53)])] (kp 134 [0,1,2,3,8,9,10,11]))
  (.seq (.region [oa 55 (.mov (.t 2)), oa 56 (.bin .sub (.t 55) (ai 1)), oa 57 (.mov (.t 11)), oa 58 (.mov (.t 1)), oa 59 (.bin .sub (.t 57) (.t 58)), oa 60 (.bin .sub (.t 56) (.t 59)), oa 11 (.mov (.t 60))] (kp 134 [0,1,2,3,8,9,10,11]))
  (.region [oa 12 (.mov (ai 1))] (kp 134 [0,1,2,3,8,9,10,11,12]))))
  (sk 134 [0,1,2,3,8,9,10,11,12])))
  (.seq (.seq (.region [oa 61 (.mov (.t 8)), oa 62 (.mov (.t 61)), oc 63 (.mov (.t 9)) 62 tt, oa 64 (.pick (.t 62) (.t 63) (.c (.bool false))), oa 65 (.mov (.t 64)), oc 66 (.mov (.t 12)) 65 tt, oc 67 (.bin .eql (.t 66) (ai 1)) 65 tt, oa 68 (.pick (.t 65) (.t 67) (.c (.bool false)))] (kp 134 [0,1,2,3,8,9,10,11,68]))
  (.cond (.t 68)
  (.seq (.region [oa 69 (.mov (.t 0)), oa 70 (.mov (.t 1)), oa 71 (.mov (.t 2)), oa 72 (.call 228 [(.t 69), (.t 70), (.t 71)])] (kp 134 [0,1,2,3,8,9,10,11,72]))
  (.cond (.t 72)
  (sr 134 [])
  (sk 134 [0,1,2,3,8,9,10,11])))
  (sk 134 [0,1,2,3,8,9,10,11])))
  (.seq (.seq (.region [oa 73 (.mov (.t 1)), oa 74 (.bin .gtr (.t 73) (ai 0)), oa 75 (.mov (.t 74)), oc 76 (.mov (.t 0)) 75 tt, oc 77 (.mov (.t 1)) 75 tt, oc 78 (.bin .sub (.t 77) (ai 1)) 75 tt, oc 79 (.indexAddr 1 (.t 76) (.t 78)) 75 tt, oc 80 (.load none (.t 79)) 75 tt, oc 81 (.mov (.t 0)) 75 tt, oc 82 (.mov (.t 11)) 75 tt, oc 83 (.indexAddr 1 (.t 81) (.t 82)) 75 tt, oc 84 (.load none (.t 83)) 75 tt, oc 85 (.call 229 [(.t 80), (.t 84)]) 75 tt, oc 86 (.un .not (.t 85)) 75 tt, oa 87 (.pick (.t 75) (.t 86) (.c (.bool false)))] (kp 134 [0,1,2,3,8,9,10,11,87]))
  (.cond (.t 87)
  (.seq (.region [oa 88 (.mov (.t 0)), oa 89 (.mov (.t 1)), oa 90 (.mov (.t 2)), oa 91 (.mov (.t 11)), oa 92 (.call 230 [(.t 88), (.t 89), (.t 90), (.t 91)]), oa 13 (.mov (.t 92))] (kp 134 [0,2,3,8,9,13]))
  (.seq (.region [oa 93 (.mov (.t 13)), oa 1 (.mov (.t 93))] (kp 134 [0,1,2,3,8,9]))
  (sx 134 [0,1,2,3,8,9] 1)))
  (sk 134 [0,1,2,3,10,11])))
  (.seq (.region [oa 95 (.mov (.t 0)), oa 96 (.mov (.t 1)), oa 97 (.mov (.t 2)), oa 98 (.mov (.t 11)), oa 99 (.call 231 [(.t 95), (.t 96), (.t 97), (.t 98)]), oa 94 (.mov (.t 99)), oa 100 (.extract (.t 94) 0), oa 101 (.extract (.t 94) 1), oa 14 (.mov (.t 100)), oa 15 (.mov (.t 101))] (kp 134 [0,1,2,3,10,14,15]))
  (.seq (.region [oa 102 (.mov (.t 15)), oa 9 (.mov (.t 102))] (kp 134 [0,1,2,3,9,10,14]))
  (.seq (.region [oa 103 (.mov (.t 14)), oa 104 (.mov (.t 1)), oa 105 (.bin .sub (.t 103) (.t 104)), oa 106 (.mov (.t 2)), oa 107 (.mov (.t 14)), oa 108 (.bin .sub (.t 106) (.t 107)), oa 16 (.mov (.t 105)), oa 17 (.mov (.t 108))] (kp 134 [0,1,2,3,9,10,14,16,17]))
  (.seq (.region [oa 109 (.mov (.t 10)), oa 110 (.bin .quo (.t 109) (ai 8)), oa 18 (.mov (.t 110))] (kp 134 [0,1,2,3,9,14,16,17,18]))
  (.seq (.region [oa 111 (.mov (.t 16)), oa 112 (.mov (.t 17)), oa 113 (.bin .lss (.t 111) (.t 112))] (kp 134 [0,1,2,3,9,14,16,17,18,113]))
  (.cond (.t 113)
  (.seq (.region [oa 114 (.mov (.t 16)), oa 115 (.mov (.t 18)), oa 116 (.bin .geq (.t 114) (.t 115)), oa 8 (.mov (.t 116))] (kp 134 [0,1,2,3,8,9,14]))
  (.seq (.region [oa 117 (.mov (.t 0)), oa 118 (.mov (.t 1)), oa 119 (.mov (.t 14)), oa 120 (.mov (.t 3)), oa 121 (.call 168 [(.t 117), (.t 118), (.t 119), (.t 120)])] (kp 134 [0,2,3,8,9,14]))
  (.region [oa 122 (.mov (.t 14)), oa 123 (.bin .add (.t 122) (ai 1)), oa 1 (.mov (.t 123))] (kp 134 [0,1,2,3,8,9]))))
  (.seq (.region [oa 124 (.mov (.t 17)), oa 125 (.mov (.t 18)), oa 126 (.bin .geq (.t 124) (.t 125)), oa 8 (.mov (.t 126))] (kp 134 [0,1,2,3,8,9,14]))
  (.seq (.region [oa 127 (.mov (.t 0)), oa 128 (.mov (.t 14)), oa 129 (.bin .add (.t 128) (ai 1)), oa 130 (.mov (.t 2)), oa 131 (.mov (.t 3)), oa 132 (.call 168 [(.t 127), (.t 129), (.t 130), (.t 131)])] (kp 134 [0,1,3,8,9,14]))
  (.region [oa 133 (.mov (.t 14)), oa 2 (.mov (.t 133))] (kp 134 [0,1,2,3,8,9])))))))))))))))))))
  (sk 134 [0,1,2,3,8,9]))
def c168 : IFn := ⟨134, [],
  (.seq (.region [oa 8 (.mov (.c (.bool true)))] (kp 134 [0,1,2,3,8]))
  (.seq (.region [oa 9 (.mov (.c (.bool true)))] (kp 134 [0,1,2,3,8,9]))
  (.block 0
  (.seq (sk 134 [0,1,2,3,8,9])
  (.loop l168_0)))))⟩
theorem F168 : shutF Tryz.prog 168 = some c168 := by kernel_rfl

-- virgate/token.long
def l174_0 : IC := (.seq (.seq (.seq (.region [oa 6 (.mov (.t 4)), oa 7 (.mov (.t 0)), oa 8 (.lenStr (.t 7)), oa 9 (.bin .lss (.t 6) (.t 8))] (kp 59 [0,4,9]))
  (.cond (.t 9)
  (sk 59 [0,4])
  (sx 59 [] 0)))
  (.block 1
  (.seq (.region [oa 10 (.mov (.t 0)), oa 11 (.mov (.t 4)), oa 12 (.sliceStr (.t 10) (some (.t 11)) none), oa 13 (.call 236 [(.t 12)]), oa 5 (.mov (.t 13))] (kp 59 [0,4,5]))
  (.seq (.block 2
  (.seq (.region [oa 15 (.mov (.t 0)), oa 16 (.mov (.t 4)), oa 17 (.indexStr (.t 15) (.t 16)), oa 18 (.call 177 [(.c (.int .u8 (97))), (.t 17), (.c (.int .u8 (122)))]), oa 14 (.mov (.t 18))] (kp 59 [0,4,5,14]))
  (.cond (.t 14)
  (.seq (.seq (.region [oa 19 (.mov (.t 4)), oa 20 (.bin .eql (.t 19) (ai 0)), oa 21 (.mov (.t 20)), oc 22 (.mov (.t 0)) 21 tt, oc 23 (.mov (.t 5)) 21 tt, oc 24 (.sliceStr (.t 22) none (some (.t 23))) 21 tt, oc 25 (.call 237 [(.t 24)]) 21 tt, oa 26 (.pick (.t 21) (.t 25) (.c (.bool false)))] (kp 59 [4,5,26]))
  (.cond (.t 26)
  (.seq (.region [oa 27 (.mov (.t 5)), oa 2 (.mov (.t 27)), oa 3 (.mov (.c (.str (ByteArray.mk #[107, 101, 121]))))] (kp 59 [2,3]))
  (sr 59 [2,3]))
  (sk 59 [4,5])))
  (.seq (.region [oa 28 (.mov (.t 4)), oa 29 (.mov (.t 5)), oa 30 (.bin .add (.t 28) (.t 29)), oa 2 (.mov (.t 30)), oa 3 (.mov (.c (.str (ByteArray.mk #[110, 97, 109, 101]))))] (kp 59 [2,3]))
  (sr 59 [2,3])))
  (.seq (.region [oa 32 (.mov (.t 0)), oa 33 (.mov (.t 4)), oa 34 (.indexStr (.t 32) (.t 33)), oa 35 (.call 177 [(.c (.int .u8 (65))), (.t 34), (.c (.int .u8 (90)))]), oa 36 (.un .not (.t 35)), oa 31 (.mov (.t 36))] (kp 59 [0,4,5,31]))
  (.cond (.t 31)
  (.seq (.region [oa 2 (.mov (ai 0)), oa 3 (.mov (.c (.str (ByteArray.mk #[]))))] (kp 59 [2,3]))
  (sr 59 [2,3]))
  (.seq (.region [oa 38 (.mov (.t 4)), oa 39 (.mov (.t 5)), oa 40 (.bin .add (.t 38) (.t 39)), oa 41 (.mov (.t 0)), oa 42 (.lenStr (.t 41)), oa 43 (.bin .eql (.t 40) (.t 42)), oa 44 (.mov (.t 43)), oc 45 (.mov (.t 0)) 44 ff, oc 46 (.mov (.t 4)) 44 ff, oc 47 (.mov (.t 5)) 44 ff, oc 48 (.bin .add (.t 46) (.t 47)) 44 ff, oc 49 (.indexStr (.t 45) (.t 48)) 44 ff, oc 50 (.bin .neq (.t 49) (.c (.int .u8 (46)))) 44 ff, oa 51 (.pick (.t 44) (.c (.bool true)) (.t 50)), oa 37 (.mov (.t 51))] (kp 59 [0,4,5,37]))
  (.cond (.t 37)
  (.seq (.region [oa 52 (.mov (.t 4)), oa 53 (.mov (.t 5)), oa 54 (.bin .add (.t 52) (.t 53)), oa 2 (.mov (.t 54)), oa 3 (.mov (.c (.str (ByteArray.mk #[99, 111, 110]))))] (kp 59 [2,3]))
  (sr 59 [2,3]))
  (sk 59 [0,4,5]))))))))
  (.region [oa 55 (.mov (.t 4)), oa 56 (.mov (.t 5)), oa 57 (.bin .add (.t 56) (ai 1)), oa 58 (.bin .add (.t 55) (.t 57)), oa 4 (.mov (.t 58))] (kp 59 [0,4]))))))
  (sk 59 [0,4]))
def c174 : IFn := ⟨59, [(2, none), (3, none)],
  (.seq (.region [oa 2 (.mov (ai 0)), oa 3 (.mov (.c (.str (ByteArray.mk #[]))))] (kp 59 [0]))
  (.seq (.region [oa 4 (.mov (ai 0))] (kp 59 [0,4]))
  (.seq (.block 0
  (.seq (sk 59 [0,4])
  (.loop l174_0)))
  (.seq (.region [oa 2 (.mov (ai 0)), oa 3 (.mov (.c (.str (ByteArray.mk #[]))))] (kp 59 [2,3]))
  (sr 59 [2,3])))))⟩
theorem F174 : shutF Tryz.prog 174 = some c174 := by kernel_rfl

-- virgate/place.needs

def c180 : IFn := ⟨88, [(2, (some (some 10))), (3, none)],
  (.seq (.region [oa 1 (.box (.t 0)), oa 2 (.alloc [(.int .i64 (0)), (.bool false), (.bool false), (.bool false), (.bool false), (.bool false), (.bool false), (.bool false), (.bool false), (.bool false)]), oa 3 (.mov (.c (.bool false)))] (kp 88 [1,2]))
  (.seq (.seq (.region [oa 4 (.fieldAddr 0 (.t 1)), oa 5 (.load none (.t 4))] (kp 88 [1,2,5]))
  (.block 0
  (.seq (.seq (.region [oa 7 (.bin .eql (.t 5) (.c (.str (ByteArray.mk #[105, 110, 116])))), oa 6 (.mov (.t 7))] (kp 88 [1,2,5,6]))
  (.cond (.t 6)
  (sk 88 [1,2,5,6])
  (.region [oa 8 (.bin .eql (.t 5) (.c (.str (ByteArray.mk #[98, 111, 111, 108])))), oa 6 (.mov (.t 8))] (kp 88 [1,2,5,6]))))
  (.cond (.t 6)
  (.seq (.region [oa 9 (.build [(.int .i64 (0)), (.bool false), (.bool false), (.bool false), (.bool false), (.bool false), (.bool false), (.bool false), (.bool false), (.bool false)] [(1, 1, (.c (.bool true)))]), ob (.store 10 (.t 2) (.t 9)), oa 3 (.mov (.c (.bool true)))] (kp 88 [2,3]))
  (sr 88 [2,3]))
  (.seq (.region [oa 11 (.bin .eql (.t 5) (.c (.str (ByteArray.mk #[117, 110, 105, 116])))), oa 10 (.mov (.t 11))] (kp 88 [1,2,5,10]))
  (.cond (.t 10)
  (.seq (.region [oa 12 (.build [(.int .i64 (0)), (.bool false), (.bool false), (.bool false), (.bool false), (.bool false), (.bool false), (.bool false), (.bool false), (.bool false)] []), ob (.store 10 (.t 2) (.t 12)), oa 3 (.mov (.c (.bool true)))] (kp 88 [2,3]))
  (sr 88 [2,3]))
  (.seq (.region [oa 14 (.bin .eql (.t 5) (.c (.str (ByteArray.mk #[116, 101, 120, 116])))), oa 13 (.mov (.t 14))] (kp 88 [1,2,5,13]))
  (.cond (.t 13)
  (.seq (.region [oa 15 (.build [(.int .i64 (0)), (.bool false), (.bool false), (.bool false), (.bool false), (.bool false), (.bool false), (.bool false), (.bool false), (.bool false)] [(4, 1, (.c (.bool true))), (5, 1, (.c (.bool true)))]), ob (.store 10 (.t 2) (.t 15)), oa 3 (.mov (.c (.bool true)))] (kp 88 [2,3]))
  (sr 88 [2,3]))
  (.seq (.region [oa 17 (.bin .eql (.t 5) (.c (.str (ByteArray.mk #[118, 97, 114])))), oa 16 (.mov (.t 17))] (kp 88 [1,2,5,16]))
  (.cond (.t 16)
  (.seq (.region [oa 18 (.build [(.int .i64 (0)), (.bool false), (.bool false), (.bool false), (.bool false), (.bool false), (.bool false), (.bool false), (.bool false), (.bool false)] [(2, 1, (.c (.bool true)))]), ob (.store 10 (.t 2) (.t 18)), oa 3 (.mov (.c (.bool true)))] (kp 88 [2,3]))
  (sr 88 [2,3]))
  (.seq (.region [oa 20 (.bin .eql (.t 5) (.c (.str (ByteArray.mk #[110, 105, 108])))), oa 19 (.mov (.t 20))] (kp 88 [1,2,5,19]))
  (.cond (.t 19)
  (.seq (.region [oa 21 (.build [(.int .i64 (0)), (.bool false), (.bool false), (.bool false), (.bool false), (.bool false), (.bool false), (.bool false), (.bool false), (.bool false)] [(5, 1, (.c (.bool true))), (6, 1, (.c (.bool true)))]), ob (.store 10 (.t 2) (.t 21)), oa 3 (.mov (.c (.bool true)))] (kp 88 [2,3]))
  (sr 88 [2,3]))
  (.seq (.region [oa 23 (.bin .eql (.t 5) (.c (.str (ByteArray.mk #[102, 110])))), oa 22 (.mov (.t 23))] (kp 88 [1,2,5,22]))
  (.cond (.t 22)
  (.seq (.region [oa 24 (.build [(.int .i64 (0)), (.bool false), (.bool false), (.bool false), (.bool false), (.bool false), (.bool false), (.bool false), (.bool false), (.bool false)] [(0, 1, (ai 1)), (3, 1, (.c (.bool true))), (5, 1, (.c (.bool true))), (6, 1, (.c (.bool true)))]), ob (.store 10 (.t 2) (.t 24)), oa 3 (.mov (.c (.bool true)))] (kp 88 [2,3]))
  (sr 88 [2,3]))
  (.seq (.region [oa 26 (.bin .eql (.t 5) (.c (.str (ByteArray.mk #[97, 112, 112])))), oa 25 (.mov (.t 26))] (kp 88 [1,2,5,25]))
  (.cond (.t 25)
  (.seq (.region [oa 27 (.build [(.int .i64 (0)), (.bool false), (.bool false), (.bool false), (.bool false), (.bool false), (.bool false), (.bool false), (.bool false), (.bool false)] [(0, 1, (ai 2))]), ob (.store 10 (.t 2) (.t 27)), oa 3 (.mov (.c (.bool true)))] (kp 88 [2,3]))
  (sr 88 [2,3]))
  (.seq (.seq (.region [oa 29 (.bin .eql (.t 5) (.c (.str (ByteArray.mk #[112, 97, 105, 114])))), oa 28 (.mov (.t 29))] (kp 88 [1,2,5,28]))
  (.cond (.t 28)
  (sk 88 [1,2,5,28])
  (.region [oa 30 (.bin .eql (.t 5) (.c (.str (ByteArray.mk #[99, 111, 110, 115])))), oa 28 (.mov (.t 30))] (kp 88 [1,2,5,28]))))
  (.cond (.t 28)
  (.seq (.region [oa 31 (.build [(.int .i64 (0)), (.bool false), (.bool false), (.bool false), (.bool false), (.bool false), (.bool false), (.bool false), (.bool false), (.bool false)] [(0, 1, (ai 2)), (5, 1, (.c (.bool true)))]), ob (.store 10 (.t 2) (.t 31)), oa 3 (.mov (.c (.bool true)))] (kp 88 [2,3]))
  (sr 88 [2,3]))
  (.seq (.region [oa 33 (.bin .eql (.t 5) (.c (.str (ByteArray.mk #[99, 111, 110])))), oa 32 (.mov (.t 33))] (kp 88 [1,2,5,32]))
  (.cond (.t 32)
  (.seq (.region [oa 34 (.fieldAddr 6 (.t 1)), oa 35 (.load none (.t 34)), oa 36 (.lenSlice (.t 35)), oa 37 (.minmax false (.t 36) (ai 1)), oa 38 (.build [(.int .i64 (0)), (.bool false), (.bool false), (.bool false), (.bool false), (.bool false), (.bool false), (.bool false), (.bool false), (.bool false)] [(0, 1, (.t 37)), (2, 1, (.c (.bool true))), (5, 1, (.c (.bool true)))]), ob (.store 10 (.t 2) (.t 38)), oa 3 (.mov (.c (.bool true)))] (kp 88 [2,3]))
  (sr 88 [2,3]))
  (.seq (.region [oa 40 (.bin .eql (.t 5) (.c (.str (ByteArray.mk #[108, 101, 116])))), oa 39 (.mov (.t 40))] (kp 88 [1,2,5,39]))
  (.cond (.t 39)
  (.seq (.region [oa 41 (.build [(.int .i64 (0)), (.bool false), (.bool false), (.bool false), (.bool false), (.bool false), (.bool false), (.bool false), (.bool false), (.bool false)] [(0, 1, (ai 2)), (3, 1, (.c (.bool true)))]), ob (.store 10 (.t 2) (.t 41)), oa 3 (.mov (.c (.bool true)))] (kp 88 [2,3]))
  (sr 88 [2,3]))
  (.seq (.region [oa 43 (.bin .eql (.t 5) (.c (.str (ByteArray.mk #[102, 117, 110])))), oa 42 (.mov (.t 43))] (kp 88 [1,2,5,42]))
  (.cond (.t 42)
  (.seq (.region [oa 44 (.build [(.int .i64 (0)), (.bool false), (.bool false), (.bool false), (.bool false), (.bool false), (.bool false), (.bool false), (.bool false), (.bool false)] [(0, 1, (ai 2)), (2, 1, (.c (.bool true))), (3, 1, (.c (.bool true))), (5, 1, (.c (.bool true))), (6, 1, (.c (.bool true))), (7, 1, (.c (.bool true)))]), ob (.store 10 (.t 2) (.t 44)), oa 3 (.mov (.c (.bool true)))] (kp 88 [2,3]))
  (sr 88 [2,3]))
  (.seq (.region [oa 46 (.bin .eql (.t 5) (.c (.str (ByteArray.mk #[105, 102])))), oa 45 (.mov (.t 46))] (kp 88 [1,2,5,45]))
  (.cond (.t 45)
  (.seq (.region [oa 47 (.build [(.int .i64 (0)), (.bool false), (.bool false), (.bool false), (.bool false), (.bool false), (.bool false), (.bool false), (.bool false), (.bool false)] [(0, 1, (ai 3))]), ob (.store 10 (.t 2) (.t 47)), oa 3 (.mov (.c (.bool true)))] (kp 88 [2,3]))
  (sr 88 [2,3]))
  (.seq (.region [oa 49 (.bin .eql (.t 5) (.c (.str (ByteArray.mk #[99, 97, 115, 101])))), oa 48 (.mov (.t 49))] (kp 88 [1,2,5,48]))
  (.cond (.t 48)
  (.seq (.region [oa 50 (.fieldAddr 7 (.t 1)), oa 51 (.load none (.t 50)), oa 52 (.lenSlice (.t 51)), oa 53 (.minmax true (.t 52) (ai 1)), oa 54 (.bin .add (.t 53) (ai 1)), oa 55 (.build [(.int .i64 (0)), (.bool false), (.bool false), (.bool false), (.bool false), (.bool false), (.bool false), (.bool false), (.bool false), (.bool false)] [(0, 1, (.t 54)), (9, 1, (.c (.bool true)))]), ob (.store 10 (.t 2) (.t 55)), oa 3 (.mov (.c (.bool true)))] (kp 88 [2,3]))
  (sr 88 [2,3]))
  (.seq (.region [oa 57 (.bin .eql (.t 5) (.c (.str (ByteArray.mk #[111, 112])))), oa 56 (.mov (.t 57))] (kp 88 [1,2,5,56]))
  (.cond (.t 56)
  (.seq (.region [oa 58 (.fieldAddr 1 (.t 1)), oa 59 (.load none (.t 58)), oa 61 (.fieldAddr 1 (.t 1)), oa 62 (.load none (.t 61)), oa 60 (.call 243 [(.t 59)]), ob (.again 62 (.load none (.t 61))), oa 63 (.call 244 [(.t 62)]), oa 64 (.build [(.int .i64 (0)), (.bool false), (.bool false), (.bool false), (.bool false), (.bool false), (.bool false), (.bool false), (.bool false), (.bool false)] [(0, 1, (.t 60)), (2, 1, (.c (.bool true))), (5, 1, (.t 63))]), ob (.store 10 (.t 2) (.t 64)), oa 3 (.mov (.c (.bool true)))] (kp 88 [2,3]))
  (sr 88 [2,3]))
  (.seq (.region [oa 66 (.bin .eql (.t 5) (.c (.str (ByteArray.mk #[114, 97, 105, 115, 101])))), oa 65 (.mov (.t 66))] (kp 88 [1,2,5,65]))
  (.cond (.t 65)
  (.seq (.region [oa 67 (.fieldAddr 6 (.t 1)), oa 68 (.load none (.t 67)), oa 69 (.lenSlice (.t 68)), oa 70 (.minmax false (.t 69) (ai 1)), oa 71 (.build [(.int .i64 (0)), (.bool false), (.bool false), (.bool false), (.bool false), (.bool false), (.bool false), (.bool false), (.bool false), (.bool false)] [(0, 1, (.t 70)), (2, 1, (.c (.bool true))), (6, 1, (.c (.bool true)))]), ob (.store 10 (.t 2) (.t 71)), oa 3 (.mov (.c (.bool true)))] (kp 88 [2,3]))
  (sr 88 [2,3]))
  (.seq (.region [oa 73 (.bin .eql (.t 5) (.c (.str (ByteArray.mk #[104, 97, 110, 100, 108, 101])))), oa 72 (.mov (.t 73))] (kp 88 [1,2,5,72]))
  (.cond (.t 72)
  (.seq (.region [oa 74 (.fieldAddr 2 (.t 1)), oa 75 (.load none (.t 74)), oa 76 (.bin .neq (.t 75) (.c (.str (ByteArray.mk #[])))), oa 77 (.build [(.int .i64 (0)), (.bool false), (.bool false), (.bool false), (.bool false), (.bool false), (.bool false), (.bool false), (.bool false), (.bool false)] [(0, 1, (ai 2)), (2, 1, (.c (.bool true))), (3, 1, (.t 76))]), ob (.store 10 (.t 2) (.t 77)), oa 3 (.mov (.c (.bool true)))] (kp 88 [2,3]))
  (sr 88 [2,3]))
  (.seq (.region [oa 79 (.bin .eql (.t 5) (.c (.str (ByteArray.mk #[105, 110, 115, 116])))), oa 78 (.mov (.t 79))] (kp 88 [2,5,78]))
  (.cond (.t 78)
  (.seq (.region [oa 80 (.build [(.int .i64 (0)), (.bool false), (.bool false), (.bool false), (.bool false), (.bool false), (.bool false), (.bool false), (.bool false), (.bool false)] [(2, 1, (.c (.bool true))), (5, 1, (.c (.bool true))), (8, 1, (.c (.bool true)))]), ob (.store 10 (.t 2) (.t 80)), oa 3 (.mov (.c (.bool true)))] (kp 88 [2,3]))
  (sr 88 [2,3]))
  (.seq (.region [oa 82 (.bin .eql (.t 5) (.c (.str (ByteArray.mk #[99, 97, 108, 108])))), oa 81 (.mov (.t 82))] (kp 88 [2,5,81]))
  (.cond (.t 81)
  (.seq (.region [oa 83 (.build [(.int .i64 (0)), (.bool false), (.bool false), (.bool false), (.bool false), (.bool false), (.bool false), (.bool false), (.bool false), (.bool false)] [(0, 1, (ai 1)), (2, 1, (.c (.bool true))), (8, 1, (.c (.bool true)))]), ob (.store 10 (.t 2) (.t 83)), oa 3 (.mov (.c (.bool true)))] (kp 88 [2,3]))
  (sr 88 [2,3]))
  (.seq (.region [oa 85 (.bin .eql (.t 5) (.c (.str (ByteArray.mk #[114, 101, 103, 105, 111, 110])))), oa 84 (.mov (.t 85))] (kp 88 [2,84]))
  (.cond (.t 84)
  (.seq (.region [oa 86 (.build [(.int .i64 (0)), (.bool false), (.bool false), (.bool false), (.bool false), (.bool false), (.bool false), (.bool false), (.bool false), (.bool false)] [(0, 1, (ai 1)), (7, 1, (.c (.bool true)))]), ob (.store 10 (.t 2) (.t 86)), oa 3 (.mov (.c (.bool true)))] (kp 88 [2,3]))
  (sr 88 [2,3]))
  (sk 88 [2])))))))))))))))))))))))))))))))))))))))))
  (.seq (.region [oa 87 (.build [(.int .i64 (0)), (.bool false), (.bool false), (.bool false), (.bool false), (.bool false), (.bool false), (.bool false), (.bool false), (.bool false)] []), ob (.store 10 (.t 2) (.t 87)), oa 3 (.mov (.c (.bool false)))] (kp 88 [2,3]))
  (sr 88 [2,3]))))⟩
theorem F180 : shutF Tryz.prog 180 = some c180 := by kernel_rfl

-- virgate/place.isName

def c181 : IFn := ⟨21, [(2, none)],
  (.seq (.region [oa 1 (.box (.t 0)), oa 2 (.mov (.c (.bool false)))] (kp 21 [1]))
  (.seq (.seq (.region [oa 3 (.fieldAddr 0 (.t 1)), oa 4 (.load none (.t 3))] (kp 21 [1,4]))
  (.block 0
  (.seq (.seq (.region [oa 6 (.bin .eql (.t 4) (.c (.str (ByteArray.mk #[99, 111, 110])))), oa 5 (.mov (.t 6))] (kp 21 [1,4,5]))
  (.cond (.t 5)
  (sk 21 [1,4,5])
  (.seq (.region [oa 7 (.bin .eql (.t 4) (.c (.str (ByteArray.mk #[114, 97, 105, 115, 101])))), oa 5 (.mov (.t 7))] (kp 21 [1,4,5]))
  (.cond (.t 5)
  (sk 21 [1,4,5])
  (.region [oa 8 (.bin .eql (.t 4) (.c (.str (ByteArray.mk #[104, 97, 110, 100, 108, 101])))), oa 5 (.mov (.t 8))] (kp 21 [1,4,5]))))))
  (.cond (.t 5)
  (.seq (.region [oa 9 (.fieldAddr 1 (.t 1)), oa 10 (.load none (.t 9)), oa 11 (.call 123 [(.t 10)]), oa 2 (.mov (.t 11))] (kp 21 [2]))
  (sr 21 [2]))
  (.seq (.region [oa 13 (.bin .eql (.t 4) (.c (.str (ByteArray.mk #[111, 112])))), oa 12 (.mov (.t 13))] (kp 21 [1,12]))
  (.cond (.t 12)
  (.seq (.region [oa 14 (.fieldAddr 1 (.t 1)), oa 15 (.load none (.t 14)), oa 16 (.call 243 [(.t 15)]), oa 17 (.bin .geq (.t 16) (ai 0)), oa 2 (.mov (.t 17))] (kp 21 [2]))
  (sr 21 [2]))
  (sk 21 [1])))))))
  (.seq (.region [oa 18 (.fieldAddr 1 (.t 1)), oa 19 (.load none (.t 18)), oa 20 (.call 72 [(.t 19)]), oa 2 (.mov (.t 20))] (kp 21 [2]))
  (sr 21 [2]))))⟩
theorem F181 : shutF Tryz.prog 181 = some c181 := by kernel_rfl

-- virgate/place.isText
def l182_0 : IC := (.seq (.seq (.region [oa 7 (.bin .lss (.t 6) (.t 5))] (kp 25 [0,5,6,7]))
  (.seq (.cond (.t 7)
  (sk 25 [0,5,6])
  (sx 25 [0] 0))
  (.seq (.block 1
  (.seq (.region [oa 8 (.mov (.t 6)), oa 3 (.mov (.t 8))] (kp 25 [0,3,5,6]))
  (.seq (.region [oa 9 (.mov (.t 0)), oa 10 (.mov (.t 3)), oa 11 (.indexStr (.t 9) (.t 10)), oa 12 (.bin .neq (.t 11) (.c (.int .u8 (10)))), oa 13 (.mov (.t 12)), oc 14 (.mov (.t 0)) 13 tt, oc 15 (.mov (.t 3)) 13 tt, oc 16 (.indexStr (.t 14) (.t 15)) 13 tt, oc 17 (.conv .i64 (.t 16)) 13 tt, oc 18 (.call 139 [(ai 32), (.t 17), (ai 126)]) 13 tt, oc 19 (.un .not (.t 18)) 13 tt, oa 20 (.pick (.t 13) (.t 19) (.c (.bool false)))] (kp 25 [0,5,6,20]))
  (.cond (.t 20)
  (.seq (.region [oa 2 (.mov (.c (.bool false)))] (kp 25 [2]))
  (sr 25 [2]))
  (sk 25 [0,5,6])))))
  (.region [oa 21 (.bin .add (.t 6) (ai 1)), oa 6 (.mov (.t 21))] (kp 25 [0,5,6])))))
  (sk 25 [0,5,6]))
def c182 : IFn := ⟨25, [(2, none)],
  (.seq (.region [oa 2 (.mov (.c (.bool false)))] (kp 25 [0]))
  (.seq (.seq (.region [oa 4 (.mov (.t 0)), oa 5 (.lenStr (.t 4)), oa 6 (.mov (ai 0))] (kp 25 [0,5,6]))
  (.block 0
  (.seq (sk 25 [0,5,6])
  (.loop l182_0))))
  (.seq (.region [oa 22 (.mov (.t 0)), oa 23 (.lenStr (.t 22)), oa 24 (.bin .leq (.t 23) (ai 200)), oa 2 (.mov (.t 24))] (kp 25 [2]))
  (sr 25 [2]))))⟩
theorem F182 : shutF Tryz.prog 182 = some c182 := by kernel_rfl

-- virgate/place.annotated

def c185 : IFn := ⟨99, [(4, none)],
  (.seq (.region [oa 2 (.box (.t 0)), oa 3 (.box (.t 1)), oa 4 (.mov (.c (.bool false)))] (kp 99 [2,3]))
  (.seq (.seq (.region [oa 5 (.fieldAddr 0 (.t 2)), oa 6 (.load none (.t 5))] (kp 99 [2,3,6]))
  (.block 0
  (.seq (.seq (.region [oa 8 (.bin .eql (.t 6) (.c (.str (ByteArray.mk #[102, 110])))), oa 7 (.mov (.t 8))] (kp 99 [2,3,6,7]))
  (.cond (.t 7)
  (sk 99 [2,3,6,7])
  (.region [oa 9 (.bin .eql (.t 6) (.c (.str (ByteArray.mk #[102, 117, 110])))), oa 7 (.mov (.t 9))] (kp 99 [2,3,6,7]))))
  (.cond (.t 7)
  (.seq (.region [oa 10 (.fieldAddr 8 (.t 2)), oa 11 (.fieldAddr 0 (.t 10)), oa 12 (.load none (.t 11)), oa 13 (.bin .neq (.t 12) (.c (.str (ByteArray.mk #[102, 110])))), oa 14 (.mov (.t 13)), oc 15 (.fieldAddr 8 (.t 2)) 14 ff, oc 16 (.fieldAddr 2 (.t 15)) 14 ff, oc 17 (.load none (.t 16)) 14 ff, oc 18 (.fieldAddr 5 (.t 2)) 14 ff, oc 19 (.load none (.t 18)) 14 ff, oc 20 (.bin .neq (.t 17) (.t 19)) 14 ff, oa 21 (.pick (.t 14) (.c (.bool true)) (.t 20))] (kp 99 [2,3,21]))
  (.cond (.t 21)
  (.seq (.region [oa 4 (.mov (.c (.bool false)))] (kp 99 [4]))
  (sr 99 [4]))
  (sk 99 [2,3])))
  (.seq (.region [oa 23 (.bin .eql (.t 6) (.c (.str (ByteArray.mk #[110, 105, 108])))), oa 22 (.mov (.t 23))] (kp 99 [2,3,6,22]))
  (.cond (.t 22)
  (.seq (.region [oa 24 (.fieldAddr 8 (.t 2)), oa 25 (.fieldAddr 0 (.t 24)), oa 26 (.load none (.t 25)), oa 27 (.bin .neq (.t 26) (.c (.str (ByteArray.mk #[108, 105, 115, 116])))), oa 28 (.mov (.t 27)), oc 29 (.fieldAddr 8 (.t 2)) 28 ff, oc 30 (.fieldAddr 2 (.t 29)) 28 ff, oc 31 (.load none (.t 30)) 28 ff, oc 32 (.fieldAddr 5 (.t 2)) 28 ff, oc 33 (.load none (.t 32)) 28 ff, oc 34 (.bin .neq (.t 31) (.t 33)) 28 ff, oa 35 (.pick (.t 28) (.c (.bool true)) (.t 34))] (kp 99 [2,3,35]))
  (.cond (.t 35)
  (.seq (.region [oa 4 (.mov (.c (.bool false)))] (kp 99 [4]))
  (sr 99 [4]))
  (sk 99 [2,3])))
  (.seq (.region [oa 37 (.bin .eql (.t 6) (.c (.str (ByteArray.mk #[114, 101, 103, 105, 111, 110])))), oa 36 (.mov (.t 37))] (kp 99 [2,3,36]))
  (.cond (.t 36)
  (.seq (.region [oa 38 (.fieldAddr 13 (.t 2)), oa 39 (.load none (.t 38)), oa 40 (.lenSlice (.t 39)), oa 41 (.bin .eql (.t 40) (ai 0))] (kp 99 [2,3,41]))
  (.cond (.t 41)
  (.seq (.region [oa 4 (.mov (.c (.bool false)))] (kp 99 [4]))
  (sr 99 [4]))
  (sk 99 [2,3])))
  (sk 99 [2,3])))))))))
  (.seq (.seq (.region [oa 42 (.fieldAddr 7 (.t 3)), oa 43 (.load none (.t 42)), oa 44 (.un .not (.t 43)), oa 45 (.mov (.t 44)), oc 46 (.fieldAddr 13 (.t 2)) 45 tt, oc 47 (.load none (.t 46)) 45 tt, oc 48 (.lenSlice (.t 47)) 45 tt, oc 49 (.bin .gtr (.t 48) (ai 0)) 45 tt, oa 50 (.pick (.t 45) (.t 49) (.c (.bool false))), oa 51 (.mov (.t 50)), oc 52 (.fieldAddr 0 (.t 2)) 51 ff, oc 53 (.load none (.t 52)) 51 ff, oc 54 (.bin .neq (.t 53) (.c (.str (ByteArray.mk #[102, 117, 110])))) 51 ff, oc 55 (.mov (.t 54)) 51 ff, oc 56 (.fieldAddr 14 (.t 2)) 55 tt, oc 57 (.load none (.t 56)) 55 tt, oc 58 (.lenSlice (.t 57)) 55 tt, oc 59 (.bin .gtr (.t 58) (ai 0)) 55 tt, oc 60 (.pick (.t 55) (.t 59) (.c (.bool false))) 51 ff, oa 61 (.pick (.t 51) (.c (.bool true)) (.t 60)), oa 62 (.mov (.t 61)), oc 63 (.fieldAddr 13 (.t 2)) 62 ff, oc 64 (.load none (.t 63)) 62 ff, oc 65 (.call 204 [(.t 64), (.c (.func 247 [] []))]) 62 ff, oc 66 (.un .not (.t 65)) 62 ff, oa 67 (.pick (.t 62) (.c (.bool true)) (.t 66)), oa 68 (.mov (.t 67)), oc 69 (.fieldAddr 14 (.t 2)) 68 ff, oc 70 (.load none (.t 69)) 68 ff, oc 71 (.call 204 [(.t 70), (.c (.func 248 [] []))]) 68 ff, oc 72 (.un .not (.t 71)) 68 ff, oa 73 (.pick (.t 68) (.c (.bool true)) (.t 72))] (kp 99 [2,3,73]))
  (.cond (.t 73)
  (.seq (.region [oa 4 (.mov (.c (.bool false)))] (kp 99 [4]))
  (sr 99 [4]))
  (sk 99 [2,3])))
  (.seq (.seq (.region [oa 74 (.fieldAddr 8 (.t 3)), oa 75 (.load none (.t 74)), oa 76 (.un .not (.t 75)), oa 77 (.mov (.t 76)), oc 78 (.fieldAddr 15 (.t 2)) 77 tt, oc 79 (.load none (.t 78)) 77 tt, oc 80 (.lenSlice (.t 79)) 77 tt, oc 81 (.bin .gtr (.t 80) (ai 0)) 77 tt, oc 82 (.mov (.t 81)) 77 tt, oc 83 (.fieldAddr 16 (.t 2)) 82 ff, oc 84 (.load none (.t 83)) 82 ff, oc 85 (.lenSlice (.t 84)) 82 ff, oc 86 (.bin .gtr (.t 85) (ai 0)) 82 ff, oc 87 (.pick (.t 82) (.c (.bool true)) (.t 86)) 77 tt, oa 88 (.pick (.t 77) (.t 87) (.c (.bool false)))] (kp 99 [2,88]))
  (.cond (.t 88)
  (.seq (.region [oa 4 (.mov (.c (.bool false)))] (kp 99 [4]))
  (sr 99 [4]))
  (sk 99 [2])))
  (.seq (.region [oa 89 (.fieldAddr 15 (.t 2)), oa 90 (.load none (.t 89)), oa 91 (.call 53 [(.t 90), (.c (.func 249 [] []))]), oa 92 (.un .not (.t 91)), oa 93 (.mov (.t 92)), oc 94 (.fieldAddr 16 (.t 2)) 93 tt, oc 95 (.load none (.t 94)) 93 tt, oc 96 (.call 250 [(.t 95), (.c (.func 251 [] []))]) 93 tt, oc 97 (.un .not (.t 96)) 93 tt, oa 98 (.pick (.t 93) (.t 97) (.c (.bool false))), oa 4 (.mov (.t 98))] (kp 99 [4]))
  (sr 99 [4]))))))⟩
theorem F185 : shutF Tryz.prog 185 = some c185 := by kernel_rfl

-- slices.IndexFunc[[]virgate/api.Ann,virgate/api.Ann]
def l186_0 : IC := (.seq (.seq (.region [oa 9 (.bin .lss (.t 8) (.t 7))] (kp 19 [0,1,7,8,9]))
  (.seq (.cond (.t 9)
  (sk 19 [0,1,7,8])
  (sx 19 [] 0))
  (.seq (.block 1
  (.seq (.region [oa 10 (.mov (.t 8)), oa 5 (.mov (.t 10))] (kp 19 [0,1,5,7,8]))
  (.seq (.region [oa 11 (.mov (.t 1)), oa 12 (.mov (.t 0)), oa 13 (.mov (.t 5)), oa 14 (.indexAddr 17 (.t 12) (.t 13)), oa 15 (.load (some 17) (.t 14)), oa 16 (.callv (.t 11) [(.t 15)])] (kp 19 [0,1,5,7,8,16]))
  (.cond (.t 16)
  (.seq (.region [oa 17 (.mov (.t 5)), oa 4 (.mov (.t 17))] (kp 19 [4]))
  (sr 19 [4]))
  (sk 19 [0,1,7,8])))))
  (.region [oa 18 (.bin .add (.t 8) (ai 1)), oa 8 (.mov (.t 18))] (kp 19 [0,1,7,8])))))
  (sk 19 [0,1,7,8]))
def c186 : IFn := ⟨19, [(4, none)],
  (.seq (.region [oa 4 (.mov (ai 0))] (kp 19 [0,1]))
  (.seq (.seq (.region [oa 6 (.mov (.t 0)), oa 7 (.lenSlice (.t 6)), oa 8 (.mov (ai 0))] (kp 19 [0,1,7,8]))
  (.block 0
  (.seq (sk 19 [0,1,7,8])
  (.loop l186_0))))
  (.seq (.region [oa 4 (.mov (ai (-1)))] (kp 19 [4]))
  (sr 19 [4]))))⟩
theorem F186 : shutF Tryz.prog 186 = some c186 := by kernel_rfl

-- slices.Grow[[]int,int]

def c195 : IFn := ⟨27, [(4, none)],
  (.seq (.region [oa 4 (.mov (.c (.slice none 0 (some 0))))] (kp 27 [0,1]))
  (.seq (.seq (.region [oa 5 (.mov (.t 1)), oa 6 (.bin .lss (.t 5) (ai 0))] (kp 27 [0,1,6]))
  (.cond (.t 6)
  (.region [oa 7 .dead, ob .dead] (kp 27 [0,1]))
  (sk 27 [0,1])))
  (.seq (.seq (.region [oa 8 (.mov (.t 1)), oa 9 (.mov (.t 0)), oa 10 (.capSlice (.t 9)), oa 11 (.mov (.t 0)), oa 12 (.lenSlice (.t 11)), oa 13 (.bin .sub (.t 10) (.t 12)), oa 14 (.bin .sub (.t 8) (.t 13)), oa 1 (.mov (.t 14))] (kp 27 [0,1]))
  (.seq (.region [oa 15 (.mov (.t 1)), oa 16 (.bin .gtr (.t 15) (ai 0))] (kp 27 [0,1,16]))
  (.cond (.t 16)
  (.region [oa 17 (.mov (.t 0)), oa 18 (.mov (.t 0)), oa 19 (.capSlice (.t 18)), oa 20 (.slice 1 (.t 17) none (some (.t 19)) none), oa 21 (.mov (.t 1)), oa 22 (.appendZ 1 8 [(.int .i64 (0))] (.t 20) (.t 21)), oa 23 (.mov (.t 0)), oa 24 (.lenSlice (.t 23)), oa 25 (.slice 1 (.t 22) none (some (.t 24)) none), oa 0 (.mov (.t 25))] (kp 27 [0]))
  (sk 27 [0]))))
  (.seq (.region [oa 26 (.mov (.t 0)), oa 4 (.mov (.t 26))] (kp 27 [4]))
  (sr 27 [4])))))⟩
theorem F195 : shutF Tryz.prog 195 = some c195 := by kernel_rfl


def tab4 : List (Nat × IFn) := [(157, c157), (158, c158), (162, c162), (164, c164), (168, c168), (174, c174), (180, c180), (181, c181), (182, c182), (185, c185), (186, c186), (195, c195)]
theorem tab4_ok : ∀ p ∈ tab4, PF p.1 = some p.2 := by
  simp only [tab4, List.mem_cons, List.not_mem_nil, or_false, forall_eq_or_imp, forall_eq]
  exact ⟨F157, F158, F162, F164, F168, F174, F180, F181, F182, F185, F186, F195⟩
end Go.Proofs.YtfcaamoapdibiaaGreatDoor.S
