/- Layer 16: CollectNils: nil heaps. -/
import Derived.Test.YtoldkemimhebaaaPcS
import Derived.Test.YtoldkemimhebaaaIm20
set_option linter.unusedSimpArgs false
set_option linter.unusedVariables false
namespace Go.Proofs.Ytoldkemimhebaaa
open Go Go.IM

-- (*virgate/page.Heap).none

def c71 : IFn := ⟨12, [(2, none)],
  (.seq (.region [oa 2 (.mov (.c (.bool false)))] (kp 12 [0]))
  (.seq (.region [oa 3 (.mov (.t 0)), oa 4 (.eql false .ptr (.t 3) (.c (.ptr none))), oa 5 (.mov (.t 4)), oc 6 (.mov (.t 0)) 5 ff, oc 7 (.nilCheck (.t 6)) 5 ff, oc 8 (.fieldAddr 0 (.t 7)) 5 ff, oc 9 (.load none (.t 8)) 5 ff, oc 10 (.eql false .ptr (.t 9) (.c (.ptr none))) 5 ff, oa 11 (.pick (.t 5) (.c (.bool true)) (.t 10)), oa 2 (.mov (.t 11))] (kp 12 [2]))
  (sr 12 [2])))⟩
theorem F71 : shutF Try.prog 71 = some c71 := by kernel_rfl

-- (*virgate/page.Heap).Depth

def c27 : IFn := ⟨10, [(2, none)],
  (.seq (.region [oa 2 (.mov (ai 0))] (kp 10 [0]))
  (.seq (.seq (.region [oa 3 (.mov (.t 0)), oa 4 (.call 71 [(.t 3)])] (kp 10 [0,4]))
  (.cond (.t 4)
  (.seq (.region [oa 2 (.mov (ai 0))] (kp 10 [2]))
  (sr 10 [2]))
  (sk 10 [0])))
  (.seq (.region [oa 5 (.mov (.t 0)), oa 6 (.nilCheck (.t 5)), oa 7 (.fieldAddr 1 (.t 6)), oa 8 (.load none (.t 7)), oa 9 (.lenSlice (.t 8)), oa 2 (.mov (.t 9))] (kp 10 [2]))
  (sr 10 [2]))))⟩
theorem F27 : shutF Try.prog 27 = some c27 := by kernel_rfl

-- virgate/collect.none

def c89 : IFn := ⟨6, [(2, none)],
  (.seq (.region [oa 2 (.mov (.c (.bool false)))] (kp 6 [0]))
  (.seq (.region [oa 3 (.mov (.t 0)), oa 4 (.call 27 [(.t 3)]), oa 5 (.bin .eql (.t 4) (ai 0)), oa 2 (.mov (.t 5))] (kp 6 [2]))
  (sr 6 [2])))⟩
theorem F89 : shutF Try.prog 89 = some c89 := by kernel_rfl

-- virgate/collect.Reached

def c44 : IFn := ⟨14, [(4, none), (5, none)],
  (.seq (.region [oa 4 (.mov (.c (.slice none 0 (some 0)))), oa 5 (.mov (ai 0))] (kp 14 [0,1]))
  (.seq (.seq (.region [oa 6 (.mov (.t 0)), oa 7 (.call 89 [(.t 6)])] (kp 14 [0,1,7]))
  (.cond (.t 7)
  (.seq (.region [oa 4 (.mov (.c (.slice none 0 (some 0)))), oa 5 (.mov (ai 6))] (kp 14 [4,5]))
  (sr 14 [4,5]))
  (sk 14 [0,1])))
  (.seq (.region [oa 8 (.mov (.t 0)), oa 9 (.mov (.t 1)), oa 10 (.call 90 [(.t 8), (.t 9)]), oa 11 (.nilCheck (.t 10)), oa 12 (.fieldAddr 1 (.t 11)), oa 13 (.load none (.t 12)), oa 4 (.mov (.t 13)), oa 5 (.mov (ai 0))] (kp 14 [4,5]))
  (sr 14 [4,5]))))⟩
theorem F44 : shutF Try.prog 44 = some c44 := by kernel_rfl

-- virgate/collect.Collect
def l46_0 : IC := (.seq (.seq (.region [oa 52 (.bin .lss (.t 51) (.t 50))] (kp 132 [1,2,4,5,6,7,9,33,34,49,50,51,52]))
  (.seq (.cond (.t 52)
  (sk 132 [1,2,4,5,6,7,9,33,34,49,50,51])
  (sx 132 [1,2,4,5,6,7,9,33,34] 2))
  (.seq (.block 3
  (.seq (.region [oa 53 (.indexAddr 2 (.t 49) (.t 51)), oa 54 (.load (some 2) (.t 53)), oa 12 (.alloc [(.int .i64 (0)), (.int .i64 (0))]), ob (.store 2 (.t 12) (.t 54))] (kp 132 [1,2,4,5,6,7,9,12,33,34,49,50,51]))
  (.region [oa 55 (.load none (.t 6)), oa 56 (.nilCheck (.t 55)), oa 57 (.fieldAddr 2 (.t 56)), oa 58 (.load none (.t 57)), oa 59 (.load (some 2) (.t 12)), ob (.mapSet (.agg [.i, .i]) (.t 58) (.t 59) (.c (.bool true)))] (kp 132 [1,2,4,5,6,7,9,33,34,49,50,51]))))
  (.region [oa 60 (.bin .add (.t 51) (ai 1)), oa 51 (.mov (.t 60))] (kp 132 [1,2,4,5,6,7,9,33,34,49,50,51])))))
  (sk 132 [1,2,4,5,6,7,9,33,34,49,50,51]))
def l46_1 : IC := (.seq (.seq (.region [oa 35 (.bin .lss (.t 34) (.t 33))] (kp 132 [1,2,4,5,6,7,33,34,35]))
  (.seq (.cond (.t 35)
  (sk 132 [1,2,4,5,6,7,33,34])
  (sx 132 [1,2,4,5,6,7] 0))
  (.seq (.block 1
  (.seq (.region [oa 36 (.mov (.t 34)), oa 8 (.mov (.t 36))] (kp 132 [1,2,4,5,6,7,8,33,34]))
  (.seq (.region [oa 37 (.load none (.t 2)), oa 38 (.mov (.t 8)), oa 39 (.call 91 [(.t 37), (.t 38)])] (kp 132 [1,2,4,5,6,7,8,33,34,39]))
  (.cond (.t 39)
  (.region [oa 40 (.load none (.t 6)), oa 41 (.mov (.t 8)), oa 42 (.call 92 [(.t 40), (.t 41)])] (kp 132 [1,2,4,5,6,7,33,34]))
  (.seq (.region [oa 44 (.load none (.t 2)), oa 45 (.mov (.t 8)), oa 46 (.call 28 [(.t 44), (.t 45)]), oa 43 (.mov (.t 46)), oa 47 (.extract (.t 43) 0), oa 48 (.extract (.t 43) 1), oa 9 (.mov (.t 47)), oa 10 (.mov (.t 48))] (kp 132 [1,2,4,5,6,7,9,33,34]))
  (.seq (.seq (.region [oa 49 (.mov (.t 9)), oa 50 (.lenSlice (.t 49)), oa 51 (.mov (ai 0))] (kp 132 [1,2,4,5,6,7,9,33,34,49,50,51]))
  (.block 2
  (.seq (sk 132 [1,2,4,5,6,7,9,33,34,49,50,51])
  (.loop l46_0))))
  (.region [oa 61 (.mov (.t 7)), oa 62 (.mov (.t 9)), oa 63 (.append 2 16 (.t 61) (.t 62)), oa 7 (.mov (.t 63))] (kp 132 [1,2,4,5,6,7,33,34]))))))))
  (.region [oa 64 (.bin .add (.t 34) (ai 1)), oa 34 (.mov (.t 64))] (kp 132 [1,2,4,5,6,7,33,34])))))
  (sk 132 [1,2,4,5,6,7,33,34]))
def l46_2 : IC := (.seq (.seq (.region [oa 74 (.bin .lss (.t 73) (.t 72))] (kp 132 [1,2,4,5,6,7,71,72,73,74]))
  (.seq (.cond (.t 74)
  (sk 132 [1,2,4,5,6,7,71,72,73])
  (sx 132 [1,2,4,5,6,7] 4))
  (.seq (.block 5
  (.seq (.region [oa 75 (.indexAddr 2 (.t 71) (.t 73)), oa 76 (.load (some 2) (.t 75)), oa 14 (.alloc [(.int .i64 (0)), (.int .i64 (0))]), ob (.store 2 (.t 14) (.t 76))] (kp 132 [1,2,4,5,6,7,14,71,72,73]))
  (.seq (.region [oa 77 (.load none (.t 6)), oa 78 (.nilCheck (.t 77)), oa 79 (.fieldAddr 2 (.t 78)), oa 80 (.load none (.t 79)), oa 81 (.load (some 2) (.t 14)), oa 82 (.lookup (.agg [.i, .i]) (.bool false) false (.t 80) (.t 81)), oa 83 (.un .not (.t 82))] (kp 132 [1,2,4,5,6,7,14,71,72,73,83]))
  (.cond (.t 83)
  (.region [oa 84 (.mov (.t 7)), oa 85 (.load none (.t 6)), oa 86 (.nilCheck (.t 85)), oa 87 (.fieldAddr 1 (.t 86)), oa 88 (.load none (.t 87)), oa 89 (.load (some 2) (.t 14)), oa 90 (.lookup (.agg [.i, .i]) (.agg [(.int .i64 (0)), (.int .i64 (0))]) false (.t 88) (.t 89)), oa 91 (.buildSlice 1 [(.int .i64 (0)), (.int .i64 (0))] [(0, 2, (.t 90))]), oa 92 (.append 2 16 (.t 84) (.t 91)), oa 7 (.mov (.t 92))] (kp 132 [1,2,4,5,6,7,71,72,73]))
  (sk 132 [1,2,4,5,6,7,71,72,73])))))
  (.region [oa 93 (.bin .add (.t 73) (ai 1)), oa 73 (.mov (.t 93))] (kp 132 [1,2,4,5,6,7,71,72,73])))))
  (sk 132 [1,2,4,5,6,7,71,72,73]))
def a46_3 : IC := (.region [oa 18 (.alloc [(.int .i64 (0)), (.int .i64 (0))]), ob (.store 2 (.t 18) (.t 103))] (kp 132 [2,6,16,17,18]))
def b46_3 : IC := (.block 9
  (.seq (.seq (.region [oa 104 (.load none (.t 6)), oa 105 (.load (some 2) (.t 18)), oa 106 (.call 94 [(.t 104), (.t 105)]), oa 19 (.alloc [(.int .i64 (0)), (.int .i64 (0))]), ob (.store 2 (.t 19) (.t 106))] (kp 132 [2,16,17,18,19]))
  (.seq (.region [oa 107 (.load (some 2) (.t 19)), oa 108 (.load (some 2) (.t 18)), oa 109 (.eql true (.key (.agg [.i, .i])) (.t 107) (.t 108))] (kp 132 [2,16,17,19,109]))
  (.cond (.t 109)
  (.region [oa 110 (.load none (.t 2)), oa 111 (.load (some 2) (.t 16)), oa 112 (.load none (.t 17)), oa 113 (.load (some 2) (.t 19)), oa 114 (.call 65 [(.t 110), (.t 111), (.t 112), (.t 113)])] (kp 132 [17]))
  (sk 132 [17]))))
  (.region [oa 115 (.load none (.t 17)), oa 116 (.bin .add (.t 115) (ai 1)), ob (.store 1 (.t 17) (.t 116))] (kp 132 []))))
def l46_4 : IC := (.seq (.seq (.region [oa 97 (.bin .lss (.t 96) (.t 95))] (kp 132 [1,2,4,5,6,94,95,96,97]))
  (.seq (.cond (.t 97)
  (sk 132 [1,2,4,5,6,94,95,96])
  (sx 132 [1,6] 6))
  (.seq (.block 7
  (.seq (.region [oa 98 (.indexAddr 2 (.t 94) (.t 96)), oa 99 (.load (some 2) (.t 98)), oa 16 (.alloc [(.int .i64 (0)), (.int .i64 (0))]), ob (.store 2 (.t 16) (.t 99))] (kp 132 [1,2,4,5,6,16,94,95,96]))
  (.seq (.region [oa 17 (.alloc [(.int .i64 (0))]), ob (.store 1 (.t 17) (ai 0))] (kp 132 [1,2,4,5,6,16,17,94,95,96]))
  (.seq (.region [oa 100 (.load none (.t 2)), oa 101 (.load (some 2) (.t 16)), oa 102 (.call 93 [(.t 100), (.t 101)])] (kp 132 [1,2,4,5,6,16,17,94,95,96,102]))
  (.block 8
  (.seq (sk 132 [1,2,4,5,6,16,17,94,95,96,102])
  (.seq (.range (.t 102) [103] a46_3 b46_3)
  (sk 132 [1,2,4,5,6,94,95,96]))))))))
  (.region [oa 117 (.bin .add (.t 96) (ai 1)), oa 96 (.mov (.t 117))] (kp 132 [1,2,4,5,6,94,95,96])))))
  (sk 132 [1,2,4,5,6,94,95,96]))
def l46_5 : IC := (.seq (.seq (.region [oa 121 (.bin .lss (.t 120) (.t 119))] (kp 132 [6,20,118,119,120,121]))
  (.seq (.cond (.t 121)
  (sk 132 [6,20,118,119,120])
  (sx 132 [20] 10))
  (.seq (.block 11
  (.seq (.region [oa 122 (.indexAddr 2 (.t 118) (.t 120)), oa 123 (.load (some 2) (.t 122)), oa 22 (.alloc [(.int .i64 (0)), (.int .i64 (0))]), ob (.store 2 (.t 22) (.t 123))] (kp 132 [6,20,22,118,119,120]))
  (.region [oa 124 (.mov (.t 20)), oa 125 (.load none (.t 6)), oa 126 (.load (some 2) (.t 22)), oa 127 (.call 94 [(.t 125), (.t 126)]), oa 128 (.buildSlice 1 [(.int .i64 (0)), (.int .i64 (0))] [(0, 2, (.t 127))]), oa 129 (.append 2 16 (.t 124) (.t 128)), oa 20 (.mov (.t 129))] (kp 132 [6,20,118,119,120]))))
  (.region [oa 130 (.bin .add (.t 120) (ai 1)), oa 120 (.mov (.t 130))] (kp 132 [6,20,118,119,120])))))
  (sk 132 [6,20,118,119,120]))
def c46 : IFn := ⟨132, [(4, none), (5, none)],
  (.seq (.region [oa 2 (.box (.t 0)), oa 4 (.mov (.c (.slice none 0 (some 0)))), oa 5 (.mov (ai 0))] (kp 132 [1,2,4,5]))
  (.seq (.seq (.region [oa 23 (.load none (.t 2)), oa 24 (.call 89 [(.t 23)])] (kp 132 [1,2,4,5,24]))
  (.cond (.t 24)
  (.seq (.region [oa 4 (.mov (.c (.slice none 0 (some 0)))), oa 5 (.mov (ai 6))] (kp 132 [4,5]))
  (sr 132 [4,5]))
  (sk 132 [1,2,4,5])))
  (.seq (.region [oa 25 (.load none (.t 2)), oa 26 (.mov (.t 1)), oa 27 (.call 90 [(.t 25), (.t 26)]), oa 28 .mkMap, oa 29 .mkMap, oa 30 (.build [(.ptr none), (.map none), (.map none)] [(0, 1, (.t 27)), (1, 1, (.t 28)), (2, 1, (.t 29))]), oa 31 (.box (.t 30)), oa 6 (.alloc [(.ptr none)]), ob (.store 1 (.t 6) (.t 31))] (kp 132 [1,2,4,5,6]))
  (.seq (.region [oa 7 (.mov (.c (.slice none 0 (some 0))))] (kp 132 [1,2,4,5,6,7]))
  (.seq (.seq (.region [oa 32 (.load none (.t 2)), oa 33 (.call 27 [(.t 32)]), oa 34 (.mov (ai 0))] (kp 132 [1,2,4,5,6,7,33,34]))
  (.block 0
  (.seq (sk 132 [1,2,4,5,6,7,33,34])
  (.loop l46_1))))
  (.seq (.seq (.region [oa 65 (.load none (.t 6)), oa 66 (.nilCheck (.t 65)), oa 67 (.fieldAddr 0 (.t 66)), oa 68 (.load none (.t 67)), oa 69 (.nilCheck (.t 68)), oa 70 (.fieldAddr 1 (.t 69)), oa 71 (.load none (.t 70)), oa 72 (.lenSlice (.t 71)), oa 73 (.mov (ai 0))] (kp 132 [1,2,4,5,6,7,71,72,73]))
  (.block 4
  (.seq (sk 132 [1,2,4,5,6,7,71,72,73])
  (.loop l46_2))))
  (.seq (.seq (.region [oa 94 (.mov (.t 7)), oa 95 (.lenSlice (.t 94)), oa 96 (.mov (ai 0))] (kp 132 [1,2,4,5,6,94,95,96]))
  (.block 6
  (.seq (sk 132 [1,2,4,5,6,94,95,96])
  (.loop l46_4))))
  (.seq (.region [oa 20 (.mov (.c (.slice none 0 (some 0))))] (kp 132 [1,6,20]))
  (.seq (.seq (.region [oa 118 (.mov (.t 1)), oa 119 (.lenSlice (.t 118)), oa 120 (.mov (ai 0))] (kp 132 [6,20,118,119,120]))
  (.block 10
  (.seq (sk 132 [6,20,118,119,120])
  (.loop l46_5))))
  (.seq (.region [oa 131 (.mov (.t 20)), oa 4 (.mov (.t 131)), oa 5 (.mov (ai 0))] (kp 132 [4,5]))
  (sr 132 [4,5])))))))))))⟩
theorem F46 : shutF Try.prog 46 = some c46 := by kernel_rfl

-- virgate/collect.Garbage
def l53_0 : IC := (.seq (.seq (.region [oa 39 (.bin .lss (.t 38) (.t 37))] (kp 63 [0,6,7,22,23,36,37,38,39]))
  (.seq (.cond (.t 39)
  (sk 63 [0,6,7,22,23,36,37,38])
  (sx 63 [0,6,7,22,23] 2))
  (.seq (.block 3
  (.seq (.region [oa 40 (.indexAddr 2 (.t 36) (.t 38)), oa 41 (.load (some 2) (.t 40)), oa 12 (.alloc [(.int .i64 (0)), (.int .i64 (0))]), ob (.store 2 (.t 12) (.t 41))] (kp 63 [0,6,7,12,22,23,36,37,38]))
  (.seq (.region [oa 43 (.mov (.t 0)), oa 44 (.load (some 2) (.t 12)), oa 45 (.call 30 [(.t 43), (.t 44)]), oa 42 (.mov (.t 45)), oa 46 (.extract (.t 42) 0), oa 47 (.extract (.t 42) 1), oa 48 (.extract (.t 42) 2), oa 13 (.mov (.t 46)), oa 14 (.mov (.t 47)), oa 15 (.mov (.t 48))] (kp 63 [0,6,7,12,14,22,23,36,37,38]))
  (.seq (.region [oa 49 (.mov (.t 6)), oa 50 (.nilCheck (.t 49)), oa 51 (.fieldAddr 2 (.t 50)), oa 52 (.load none (.t 51)), oa 53 (.load (some 2) (.t 12)), oa 54 (.lookup (.agg [.i, .i]) (.bool false) false (.t 52) (.t 53)), oa 55 (.un .not (.t 54))] (kp 63 [0,6,7,14,22,23,36,37,38,55]))
  (.cond (.t 55)
  (.region [oa 56 (.mov (.t 7)), oa 57 (.mov (.t 14)), oa 58 (.bin .add (.t 57) (ai 1)), oa 59 (.bin .add (.t 56) (.t 58)), oa 7 (.mov (.t 59))] (kp 63 [0,6,7,22,23,36,37,38]))
  (sk 63 [0,6,7,22,23,36,37,38]))))))
  (.region [oa 60 (.bin .add (.t 38) (ai 1)), oa 38 (.mov (.t 60))] (kp 63 [0,6,7,22,23,36,37,38])))))
  (sk 63 [0,6,7,22,23,36,37,38]))
def l53_1 : IC := (.seq (.seq (.region [oa 24 (.bin .lss (.t 23) (.t 22))] (kp 63 [0,6,7,22,23,24]))
  (.seq (.cond (.t 24)
  (sk 63 [0,6,7,22,23])
  (sx 63 [7] 0))
  (.seq (.block 1
  (.seq (.region [oa 25 (.mov (.t 23)), oa 8 (.mov (.t 25))] (kp 63 [0,6,7,8,22,23]))
  (.seq (.seq (.region [oa 26 (.mov (.t 0)), oa 27 (.mov (.t 8)), oa 28 (.call 91 [(.t 26), (.t 27)]), oa 29 (.un .not (.t 28))] (kp 63 [0,6,7,8,22,23,29]))
  (.cond (.t 29)
  (sx 63 [0,6,7,22,23] 1)
  (sk 63 [0,6,7,8,22,23])))
  (.seq (.region [oa 31 (.mov (.t 0)), oa 32 (.mov (.t 8)), oa 33 (.call 28 [(.t 31), (.t 32)]), oa 30 (.mov (.t 33)), oa 34 (.extract (.t 30) 0), oa 35 (.extract (.t 30) 1), oa 9 (.mov (.t 34)), oa 10 (.mov (.t 35))] (kp 63 [0,6,7,9,22,23]))
  (.seq (.region [oa 36 (.mov (.t 9)), oa 37 (.lenSlice (.t 36)), oa 38 (.mov (ai 0))] (kp 63 [0,6,7,22,23,36,37,38]))
  (.block 2
  (.seq (sk 63 [0,6,7,22,23,36,37,38])
  (.loop l53_0))))))))
  (.region [oa 61 (.bin .add (.t 23) (ai 1)), oa 23 (.mov (.t 61))] (kp 63 [0,6,7,22,23])))))
  (sk 63 [0,6,7,22,23]))
def c53 : IFn := ⟨63, [(4, none), (5, none)],
  (.seq (.region [oa 4 (.mov (ai 0)), oa 5 (.mov (ai 0))] (kp 63 [0,1]))
  (.seq (.seq (.region [oa 16 (.mov (.t 0)), oa 17 (.call 89 [(.t 16)])] (kp 63 [0,1,17]))
  (.cond (.t 17)
  (.seq (.region [oa 4 (.mov (ai 0)), oa 5 (.mov (ai 6))] (kp 63 [4,5]))
  (sr 63 [4,5]))
  (sk 63 [0,1])))
  (.seq (.region [oa 18 (.mov (.t 0)), oa 19 (.mov (.t 1)), oa 20 (.call 90 [(.t 18), (.t 19)]), oa 6 (.mov (.t 20)), oa 7 (.mov (ai 0))] (kp 63 [0,6,7]))
  (.seq (.seq (.region [oa 21 (.mov (.t 0)), oa 22 (.call 27 [(.t 21)]), oa 23 (.mov (ai 0))] (kp 63 [0,6,7,22,23]))
  (.block 0
  (.seq (sk 63 [0,6,7,22,23])
  (.loop l53_1))))
  (.seq (.region [oa 62 (.mov (.t 7)), oa 4 (.mov (.t 62)), oa 5 (.mov (ai 0))] (kp 63 [4,5]))
  (sr 63 [4,5]))))))⟩
theorem F53 : shutF Try.prog 53 = some c53 := by kernel_rfl

-- virgate/collect.Alike
def l50_0 : IC := (.seq (.seq (.region [oa 50 (.bin .lss (.t 49) (.t 48))] (kp 153 [0,1,2,3,10,48,49,50]))
  (.seq (.cond (.t 50)
  (sk 153 [0,1,2,3,10,48,49])
  (sx 153 [0,2,10] 0))
  (.seq (.block 1
  (.seq (.region [oa 51 (.mov (.t 49)), oa 11 (.mov (.t 51))] (kp 153 [0,1,2,3,10,11,48,49]))
  (.region [oa 52 (.mov (.t 10)), oa 53 (.mov (.t 1)), oa 54 (.mov (.t 11)), oa 55 (.indexAddr 2 (.t 53) (.t 54)), oa 56 (.load (some 2) (.t 55)), oa 57 (.mov (.t 3)), oa 58 (.mov (.t 11)), oa 59 (.indexAddr 2 (.t 57) (.t 58)), oa 60 (.load (some 2) (.t 59)), oa 61 (.call 99 [(.t 52), (.t 56), (.t 60)])] (kp 153 [0,1,2,3,10,48,49]))))
  (.region [oa 62 (.bin .add (.t 49) (ai 1)), oa 49 (.mov (.t 62))] (kp 153 [0,1,2,3,10,48,49])))))
  (sk 153 [0,1,2,3,10,48,49]))
def l50_1 : IC := (.seq (.seq (.region [oa 127 (.bin .lss (.t 126) (.t 125))] (kp 153 [0,2,10,12,13,14,125,126,127]))
  (.seq (.cond (.t 127)
  (sk 153 [0,2,10,12,13,14,125,126])
  (sx 153 [0,2,10,12] 4))
  (.seq (.block 5
  (.seq (.region [oa 128 (.mov (.t 126)), oa 21 (.mov (.t 128))] (kp 153 [0,2,10,12,13,14,21,125,126]))
  (.seq (.region [oa 130 (.mov (.t 0)), oa 131 (.load (some 2) (.t 13)), oa 132 (.mov (.t 21)), oa 133 (.call 67 [(.t 130), (.t 131), (.t 132)]), oa 129 (.mov (.t 133)), oa 134 (.extract (.t 129) 0), oa 135 (.extract (.t 129) 1), oa 22 (.alloc [(.int .i64 (0)), (.int .i64 (0))]), ob (.store 2 (.t 22) (.t 134)), oa 23 (.mov (.t 135))] (kp 153 [0,2,10,12,13,14,21,22,125,126]))
  (.seq (.region [oa 137 (.mov (.t 2)), oa 138 (.load (some 2) (.t 14)), oa 139 (.mov (.t 21)), oa 140 (.call 67 [(.t 137), (.t 138), (.t 139)]), oa 136 (.mov (.t 140)), oa 141 (.extract (.t 136) 0), oa 142 (.extract (.t 136) 1), oa 24 (.alloc [(.int .i64 (0)), (.int .i64 (0))]), ob (.store 2 (.t 24) (.t 141)), oa 25 (.mov (.t 142))] (kp 153 [0,2,10,12,13,14,22,24,125,126]))
  (.region [oa 143 (.mov (.t 10)), oa 144 (.load (some 2) (.t 22)), oa 145 (.load (some 2) (.t 24)), oa 146 (.call 99 [(.t 143), (.t 144), (.t 145)])] (kp 153 [0,2,10,12,13,14,125,126]))))))
  (.region [oa 147 (.bin .add (.t 126) (ai 1)), oa 126 (.mov (.t 147))] (kp 153 [0,2,10,12,13,14,125,126])))))
  (sk 153 [0,2,10,12,13,14,125,126]))
def l50_2 : IC := (.seq (.seq (.seq (.region [oa 63 (.mov (.t 12)), oa 64 (.mov (.t 10)), oa 65 (.nilCheck (.t 64)), oa 66 (.fieldAddr 4 (.t 65)), oa 67 (.load none (.t 66)), oa 68 (.lenSlice (.t 67)), oa 69 (.bin .lss (.t 63) (.t 68)), oa 70 (.mov (.t 69)), oc 71 (.mov (.t 10)) 70 tt, oc 72 (.nilCheck (.t 71)) 70 tt, oc 73 (.fieldAddr 5 (.t 72)) 70 tt, oc 74 (.load none (.t 73)) 70 tt, oc 75 (.un .not (.t 74)) 70 tt, oa 76 (.pick (.t 70) (.t 75) (.c (.bool false)))] (kp 153 [0,2,10,12,76]))
  (.cond (.t 76)
  (sk 153 [0,2,10,12])
  (sx 153 [10] 2)))
  (.seq (.block 3
  (.seq (.region [oa 79 (.mov (.t 10)), oa 80 (.nilCheck (.t 79)), oa 81 (.fieldAddr 4 (.t 80)), oa 82 (.load none (.t 81)), oa 83 (.mov (.t 12)), oa 84 (.indexAddr 2 (.t 82) (.t 83)), oa 85 (.load (some 2) (.t 84)), oa 13 (.alloc [(.int .i64 (0)), (.int .i64 (0))]), ob (.store 2 (.t 13) (.t 85))] (kp 153 [0,2,10,12,13]))
  (.seq (.region [oa 86 (.mov (.t 10)), oa 87 (.nilCheck (.t 86)), oa 88 (.fieldAddr 2 (.t 87)), oa 89 (.load none (.t 88)), oa 90 (.load (some 2) (.t 13)), oa 91 (.lookup (.agg [.i, .i]) (.agg [(.int .i64 (0)), (.int .i64 (0))]) false (.t 89) (.t 90)), oa 14 (.alloc [(.int .i64 (0)), (.int .i64 (0))]), ob (.store 2 (.t 14) (.t 91))] (kp 153 [0,2,10,12,13,14]))
  (.seq (.region [oa 93 (.mov (.t 0)), oa 94 (.load (some 2) (.t 13)), oa 95 (.call 30 [(.t 93), (.t 94)]), oa 92 (.mov (.t 95)), oa 96 (.extract (.t 92) 0), oa 97 (.extract (.t 92) 1), oa 98 (.extract (.t 92) 2), oa 15 (.mov (.t 96)), oa 16 (.mov (.t 97)), oa 17 (.mov (.t 98))] (kp 153 [0,2,10,12,13,14,15,16]))
  (.seq (.region [oa 100 (.mov (.t 2)), oa 101 (.load (some 2) (.t 14)), oa 102 (.call 30 [(.t 100), (.t 101)]), oa 99 (.mov (.t 102)), oa 103 (.extract (.t 99) 0), oa 104 (.extract (.t 99) 1), oa 105 (.extract (.t 99) 2), oa 18 (.mov (.t 103)), oa 19 (.mov (.t 104)), oa 20 (.mov (.t 105))] (kp 153 [0,2,10,12,13,14,15,16,18,19]))
  (.seq (.seq (.region [oa 106 (.mov (.t 15)), oa 107 (.mov (.t 18)), oa 108 (.bin .neq (.t 106) (.t 107)), oa 109 (.mov (.t 108)), oc 110 (.mov (.t 16)) 109 ff, oc 111 (.mov (.t 19)) 109 ff, oc 112 (.bin .neq (.t 110) (.t 111)) 109 ff, oa 113 (.pick (.t 109) (.c (.bool true)) (.t 112)), oa 114 (.mov (.t 113)), oc 115 (.mov (.t 0)) 114 ff, oc 116 (.fieldAddr 1 (.t 13)) 114 ff, oc 117 (.load none (.t 116)) 114 ff, oc 119 (.mov (.t 2)) 114 ff, oc 120 (.fieldAddr 1 (.t 14)) 114 ff, oc 121 (.load none (.t 120)) 114 ff, oc 118 (.call 100 [(.t 115), (.t 117)]) 114 ff, oe (.again 121 (.load none (.t 120))) 114 ff, oc 122 (.call 100 [(.t 119), (.t 121)]) 114 ff, oc 123 (.bin .neq (.t 118) (.t 122)) 114 ff, oa 124 (.pick (.t 114) (.c (.bool true)) (.t 123))] (kp 153 [0,2,10,12,13,14,16,124]))
  (.cond (.t 124)
  (.seq (.region [oa 8 (.mov (.c (.bool false))), oa 9 (.mov (ai 0))] (kp 153 [8,9]))
  (sr 153 [8,9]))
  (sk 153 [0,2,10,12,13,14,16])))
  (.seq (.region [oa 125 (.mov (.t 16)), oa 126 (.mov (ai 0))] (kp 153 [0,2,10,12,13,14,125,126]))
  (.block 4
  (.seq (sk 153 [0,2,10,12,13,14,125,126])
  (.loop l50_1))))))))))
  (.region [oa 77 (.mov (.t 12)), oa 78 (.bin .add (.t 77) (ai 1)), oa 12 (.mov (.t 78))] (kp 153 [0,2,10,12]))))
  (sk 153 [0,2,10,12]))
def c50 : IFn := ⟨153, [(8, none), (9, none)],
  (.seq (.region [oa 8 (.mov (.c (.bool false))), oa 9 (.mov (ai 0))] (kp 153 [0,1,2,3]))
  (.seq (.seq (.region [oa 26 (.mov (.t 0)), oa 27 (.call 89 [(.t 26)]), oa 28 (.mov (.t 27)), oc 29 (.mov (.t 2)) 28 ff, oc 30 (.call 89 [(.t 29)]) 28 ff, oa 31 (.pick (.t 28) (.c (.bool true)) (.t 30))] (kp 153 [0,1,2,3,31]))
  (.cond (.t 31)
  (.seq (.region [oa 8 (.mov (.c (.bool false))), oa 9 (.mov (ai 6))] (kp 153 [8,9]))
  (sr 153 [8,9]))
  (sk 153 [0,1,2,3])))
  (.seq (.seq (.region [oa 32 (.mov (.t 1)), oa 33 (.lenSlice (.t 32)), oa 34 (.mov (.t 3)), oa 35 (.lenSlice (.t 34)), oa 36 (.bin .neq (.t 33) (.t 35))] (kp 153 [0,1,2,3,36]))
  (.cond (.t 36)
  (.seq (.region [oa 8 (.mov (.c (.bool false))), oa 9 (.mov (ai 0))] (kp 153 [8,9]))
  (sr 153 [8,9]))
  (sk 153 [0,1,2,3])))
  (.seq (.region [oa 37 (.mov (.t 0)), oa 38 (.build [(.ptr none), (.slice none 0 (some 0)), (.map none)] [(0, 1, (.t 37))]), oa 39 (.box (.t 38)), oa 40 (.mov (.t 2)), oa 41 (.build [(.ptr none), (.slice none 0 (some 0)), (.map none)] [(0, 1, (.t 40))]), oa 42 (.box (.t 41)), oa 43 .mkMap, oa 44 .mkMap, oa 45 (.build [(.ptr none), (.ptr none), (.map none), (.map none), (.slice none 0 (some 0)), (.bool false)] [(0, 1, (.t 39)), (1, 1, (.t 42)), (2, 1, (.t 43)), (3, 1, (.t 44))]), oa 46 (.box (.t 45)), oa 10 (.mov (.t 46))] (kp 153 [0,1,2,3,10]))
  (.seq (.seq (.region [oa 47 (.mov (.t 1)), oa 48 (.lenSlice (.t 47)), oa 49 (.mov (ai 0))] (kp 153 [0,1,2,3,10,48,49]))
  (.block 0
  (.seq (sk 153 [0,1,2,3,10,48,49])
  (.loop l50_0))))
  (.seq (.seq (.region [oa 12 (.mov (ai 0))] (kp 153 [0,2,10,12]))
  (.block 2
  (.seq (sk 153 [0,2,10,12])
  (.loop l50_2))))
  (.seq (.region [oa 148 (.mov (.t 10)), oa 149 (.nilCheck (.t 148)), oa 150 (.fieldAddr 5 (.t 149)), oa 151 (.load none (.t 150)), oa 152 (.un .not (.t 151)), oa 8 (.mov (.t 152)), oa 9 (.mov (ai 0))] (kp 153 [8,9]))
  (sr 153 [8,9]))))))))⟩
theorem F50 : shutF Try.prog 50 = some c50 := by kernel_rfl

-- virgate/collect.Pages
def l49_0 : IC := (.seq (.seq (.region [oa 40 (.bin .lss (.t 39) (.t 38))] (kp 70 [0,6,7,9,23,24,37,38,39,40]))
  (.seq (.cond (.t 40)
  (sk 70 [0,6,7,9,23,24,37,38,39])
  (sx 70 [0,6,7,23,24] 2))
  (.seq (.block 3
  (.seq (.region [oa 41 (.indexAddr 2 (.t 37) (.t 39)), oa 42 (.load (some 2) (.t 41)), oa 13 (.alloc [(.int .i64 (0)), (.int .i64 (0))]), ob (.store 2 (.t 13) (.t 42))] (kp 70 [0,6,7,9,13,23,24,37,38,39]))
  (.seq (.region [oa 44 (.mov (.t 0)), oa 45 (.load (some 2) (.t 13)), oa 46 (.call 30 [(.t 44), (.t 45)]), oa 43 (.mov (.t 46)), oa 47 (.extract (.t 43) 0), oa 48 (.extract (.t 43) 1), oa 49 (.extract (.t 43) 2), oa 14 (.mov (.t 47)), oa 15 (.mov (.t 48)), oa 16 (.mov (.t 49))] (kp 70 [0,6,7,9,13,15,23,24,37,38,39]))
  (.seq (.seq (.region [oa 50 (.mov (.t 6)), oa 51 (.nilCheck (.t 50)), oa 52 (.fieldAddr 2 (.t 51)), oa 53 (.load none (.t 52)), oa 54 (.load (some 2) (.t 13)), oa 55 (.lookup (.agg [.i, .i]) (.bool false) false (.t 53) (.t 54)), oa 56 (.un .not (.t 55))] (kp 70 [0,6,7,9,15,23,24,37,38,39,56]))
  (.cond (.t 56)
  (sx 70 [0,6,7,9,23,24,37,38,39] 3)
  (sk 70 [0,6,7,9,15,23,24,37,38,39])))
  (.seq (.seq (.region [oa 57 (.mov (.t 9)), oa 58 (.mov (.t 15)), oa 59 (.bin .add (.t 58) (ai 1)), oa 60 (.bin .lss (.t 57) (.t 59))] (kp 70 [0,6,7,9,15,23,24,37,38,39,60]))
  (.cond (.t 60)
  (.seq (.region [oa 61 (.mov (.t 7)), oa 62 (.bin .add (.t 61) (ai 1)), oa 7 (.mov (.t 62))] (kp 70 [0,6,7,15,23,24,37,38,39]))
  (.region [oa 9 (.mov (ai 32))] (kp 70 [0,6,7,9,15,23,24,37,38,39])))
  (sk 70 [0,6,7,9,15,23,24,37,38,39])))
  (.region [oa 63 (.mov (.t 9)), oa 64 (.mov (.t 15)), oa 65 (.bin .add (.t 64) (ai 1)), oa 66 (.bin .sub (.t 63) (.t 65)), oa 9 (.mov (.t 66))] (kp 70 [0,6,7,9,23,24,37,38,39])))))))
  (.region [oa 67 (.bin .add (.t 39) (ai 1)), oa 39 (.mov (.t 67))] (kp 70 [0,6,7,9,23,24,37,38,39])))))
  (sk 70 [0,6,7,9,23,24,37,38,39]))
def l49_1 : IC := (.seq (.seq (.region [oa 25 (.bin .lss (.t 24) (.t 23))] (kp 70 [0,6,7,23,24,25]))
  (.seq (.cond (.t 25)
  (sk 70 [0,6,7,23,24])
  (sx 70 [7] 0))
  (.seq (.block 1
  (.seq (.region [oa 26 (.mov (.t 24)), oa 8 (.mov (.t 26))] (kp 70 [0,6,7,8,23,24]))
  (.seq (.seq (.region [oa 27 (.mov (.t 0)), oa 28 (.mov (.t 8)), oa 29 (.call 91 [(.t 27), (.t 28)]), oa 30 (.un .not (.t 29))] (kp 70 [0,6,7,8,23,24,30]))
  (.cond (.t 30)
  (sx 70 [0,6,7,23,24] 1)
  (sk 70 [0,6,7,8,23,24])))
  (.seq (.region [oa 9 (.mov (ai 0))] (kp 70 [0,6,7,8,9,23,24]))
  (.seq (.region [oa 32 (.mov (.t 0)), oa 33 (.mov (.t 8)), oa 34 (.call 28 [(.t 32), (.t 33)]), oa 31 (.mov (.t 34)), oa 35 (.extract (.t 31) 0), oa 36 (.extract (.t 31) 1), oa 10 (.mov (.t 35)), oa 11 (.mov (.t 36))] (kp 70 [0,6,7,9,10,23,24]))
  (.seq (.region [oa 37 (.mov (.t 10)), oa 38 (.lenSlice (.t 37)), oa 39 (.mov (ai 0))] (kp 70 [0,6,7,9,23,24,37,38,39]))
  (.block 2
  (.seq (sk 70 [0,6,7,9,23,24,37,38,39])
  (.loop l49_0)))))))))
  (.region [oa 68 (.bin .add (.t 24) (ai 1)), oa 24 (.mov (.t 68))] (kp 70 [0,6,7,23,24])))))
  (sk 70 [0,6,7,23,24]))
def c49 : IFn := ⟨70, [(4, none), (5, none)],
  (.seq (.region [oa 4 (.mov (ai 0)), oa 5 (.mov (ai 0))] (kp 70 [0,1]))
  (.seq (.seq (.region [oa 17 (.mov (.t 0)), oa 18 (.call 89 [(.t 17)])] (kp 70 [0,1,18]))
  (.cond (.t 18)
  (.seq (.region [oa 4 (.mov (ai 0)), oa 5 (.mov (ai 6))] (kp 70 [4,5]))
  (sr 70 [4,5]))
  (sk 70 [0,1])))
  (.seq (.region [oa 19 (.mov (.t 0)), oa 20 (.mov (.t 1)), oa 21 (.call 90 [(.t 19), (.t 20)]), oa 6 (.mov (.t 21)), oa 7 (.mov (ai 0))] (kp 70 [0,6,7]))
  (.seq (.seq (.region [oa 22 (.mov (.t 0)), oa 23 (.call 27 [(.t 22)]), oa 24 (.mov (ai 0))] (kp 70 [0,6,7,23,24]))
  (.block 0
  (.seq (sk 70 [0,6,7,23,24])
  (.loop l49_1))))
  (.seq (.region [oa 69 (.mov (.t 7)), oa 4 (.mov (.t 69)), oa 5 (.mov (ai 0))] (kp 70 [4,5]))
  (sr 70 [4,5]))))))⟩
theorem F49 : shutF Try.prog 49 = some c49 := by kernel_rfl

-- virgate/virgatelaw16.CollectNils

def c15 : IFn := ⟨71, [(2, none)],
  (.seq (.region [oa 2 (.mov (.c (.bool false)))] (kp 71 [0]))
  (.seq (.seq (.region [oa 14 (.mov (.t 0)), oa 15 (.lenSlice (.t 14)), oa 16 (.bin .gtr (.t 15) (ai 50))] (kp 71 [0,16]))
  (.cond (.t 16)
  (.seq (.region [oa 17 (.call 41 []), oa 2 (.mov (.t 17))] (kp 71 [2]))
  (sr 71 [2]))
  (sk 71 [0])))
  (.seq (.region [oa 3 (.mov (.c (.ptr none)))] (kp 71 [0,3]))
  (.seq (.region [oa 19 (.mov (.t 3)), oa 20 (.mov (.t 0)), oa 21 (.call 44 [(.t 19), (.t 20)]), oa 18 (.mov (.t 21)), oa 22 (.extract (.t 18) 0), oa 23 (.extract (.t 18) 1), oa 4 (.mov (.t 22)), oa 5 (.mov (.t 23))] (kp 71 [0,3,5]))
  (.seq (.region [oa 25 (.mov (.t 3)), oa 26 (.mov (.t 0)), oa 27 (.call 46 [(.t 25), (.t 26)]), oa 24 (.mov (.t 27)), oa 28 (.extract (.t 24) 0), oa 29 (.extract (.t 24) 1), oa 6 (.mov (.t 28)), oa 7 (.mov (.t 29))] (kp 71 [0,3,5,7]))
  (.seq (.region [oa 31 (.mov (.t 3)), oa 32 (.mov (.t 0)), oa 33 (.call 53 [(.t 31), (.t 32)]), oa 30 (.mov (.t 33)), oa 34 (.extract (.t 30) 0), oa 35 (.extract (.t 30) 1), oa 8 (.mov (.t 34)), oa 9 (.mov (.t 35))] (kp 71 [0,3,5,7,9]))
  (.seq (.region [oa 37 (.mov (.t 3)), oa 38 (.mov (.t 0)), oa 39 (.mov (.t 3)), oa 40 (.mov (.t 0)), oa 41 (.call 50 [(.t 37), (.t 38), (.t 39), (.t 40)]), oa 36 (.mov (.t 41)), oa 42 (.extract (.t 36) 0), oa 43 (.extract (.t 36) 1), oa 10 (.mov (.t 42)), oa 11 (.mov (.t 43))] (kp 71 [0,3,5,7,9,11]))
  (.seq (.region [oa 45 (.mov (.t 3)), oa 46 (.mov (.t 0)), oa 47 (.call 49 [(.t 45), (.t 46)]), oa 44 (.mov (.t 47)), oa 48 (.extract (.t 44) 0), oa 49 (.extract (.t 44) 1), oa 12 (.mov (.t 48)), oa 13 (.mov (.t 49))] (kp 71 [5,7,9,11,13]))
  (.seq (.region [oa 50 (.mov (.t 5)), oa 51 (.bin .eql (.t 50) (ai 6)), oa 52 (.mov (.t 51)), oc 53 (.mov (.t 7)) 52 tt, oc 54 (.bin .eql (.t 53) (ai 6)) 52 tt, oa 55 (.pick (.t 52) (.t 54) (.c (.bool false))), oa 56 (.mov (.t 55)), oc 57 (.mov (.t 9)) 56 tt, oc 58 (.bin .eql (.t 57) (ai 6)) 56 tt, oa 59 (.pick (.t 56) (.t 58) (.c (.bool false))), oa 60 (.mov (.t 59)), oc 61 (.mov (.t 11)) 60 tt, oc 62 (.bin .eql (.t 61) (ai 6)) 60 tt, oa 63 (.pick (.t 60) (.t 62) (.c (.bool false))), oa 64 (.mov (.t 63)), oc 65 (.mov (.t 13)) 64 tt, oc 66 (.bin .eql (.t 65) (ai 6)) 64 tt, oa 67 (.pick (.t 64) (.t 66) (.c (.bool false))), oa 68 (.mov (.t 67)), oc 69 (.call 41 []) 68 tt, oa 70 (.pick (.t 68) (.t 69) (.c (.bool false))), oa 2 (.mov (.t 70))] (kp 71 [2]))
  (sr 71 [2]))))))))))⟩
theorem F15 : shutF Try.prog 15 = some c15 := by kernel_rfl


section
variable {s : St} {Q : V → St → Prop}
set_option maxRecDepth 10000
set_option maxHeartbeats 4000000

theorem n71 : call PF 71 [.ptr none] s = some (.bool true, s) := by
  rw [call_run F71]; simp -implicitDefEqProofs only [↓GP, GB, GL, Nat.reduceAdd, Nat.reduceSub, Nat.reduceEqDiff, Nat.reduceMul, Nat.reduceLeDiff, Int.reduceBNe, Int.reduceBEq, Nat.reduceLT, reduceCtorEq, c71]
theorem n27 : call PF 27 [.ptr none] s = some (I 0, s) := by
  rw [call_run F27]; simp -implicitDefEqProofs only [↓GP, GB, GL, Nat.reduceAdd, Nat.reduceSub, Nat.reduceEqDiff, Nat.reduceMul, Nat.reduceLeDiff, Int.reduceBNe, Int.reduceBEq, Nat.reduceLT, reduceCtorEq, c27, n71]
theorem n89 : call PF 89 [.ptr none] s = some (.bool true, s) := by
  rw [call_run F89]; simp -implicitDefEqProofs only [↓GP, GB, GL, Nat.reduceAdd, Nat.reduceSub, Nat.reduceEqDiff, Nat.reduceMul, Nat.reduceLeDiff, Int.reduceBNe, Int.reduceBEq, Nat.reduceLT, reduceCtorEq, c89, n27]
theorem n44 {v : V} : call PF 44 [.ptr none, v] s = some (.tuple [.slice none 0 (some 0), I 6], s) := by
  rw [call_run F44]; simp -implicitDefEqProofs only [↓GP, GB, GL, Nat.reduceAdd, Nat.reduceSub, Nat.reduceEqDiff, Nat.reduceMul, Nat.reduceLeDiff, Int.reduceBNe, Int.reduceBEq, Nat.reduceLT, reduceCtorEq, c44, n89]
theorem n46 {v : V} : call PF 46 [.ptr none, v] s = some (.tuple [.slice none 0 (some 0), I 6], s.alloc (.cells [.ptr none] none)) := by
  rw [call_run F46]; simp -implicitDefEqProofs only [↓GP, GB, GL, Nat.reduceAdd, Nat.reduceSub, Nat.reduceEqDiff, Nat.reduceMul, Nat.reduceLeDiff, Int.reduceBNe, Int.reduceBEq, Nat.reduceLT, reduceCtorEq, c46, n89]
theorem n53 {v : V} : call PF 53 [.ptr none, v] s = some (.tuple [I 0, I 6], s) := by
  rw [call_run F53]; simp -implicitDefEqProofs only [↓GP, GB, GL, Nat.reduceAdd, Nat.reduceSub, Nat.reduceEqDiff, Nat.reduceMul, Nat.reduceLeDiff, Int.reduceBNe, Int.reduceBEq, Nat.reduceLT, reduceCtorEq, c53, n89]
theorem n49 {v : V} : call PF 49 [.ptr none, v] s = some (.tuple [I 0, I 6], s) := by
  rw [call_run F49]; simp -implicitDefEqProofs only [↓GP, GB, GL, Nat.reduceAdd, Nat.reduceSub, Nat.reduceEqDiff, Nat.reduceMul, Nat.reduceLeDiff, Int.reduceBNe, Int.reduceBEq, Nat.reduceLT, reduceCtorEq, c49, n89]
theorem n50 {v : V} : call PF 50 [.ptr none, v, .ptr none, v] s = some (.tuple [.bool false, I 6], s) := by
  rw [call_run F50]; simp -implicitDefEqProofs only [↓GP, GB, GL, Nat.reduceAdd, Nat.reduceSub, Nat.reduceEqDiff, Nat.reduceMul, Nat.reduceLeDiff, Int.reduceBNe, Int.reduceBEq, Nat.reduceLT, reduceCtorEq, c50, n89]
theorem im_true' {f : Nat} {args : List V} {s : St} (h : WP (call PF f args s) fun v _ => v = .bool true) : ∃ st, call PF f args s = some (.bool true, st) := by
  obtain ⟨v, s', h1, rfl⟩ := h
  exact ⟨s', h1⟩
theorem collectNils_im {v : V} {n : Nat} (hv : lenV v = some (I n)) (s : St) : ∃ st, call PF 15 [v] s = some (.bool true, st) := by
  refine im_true' ?_
  by_cases hn : (n : Int) > 50
  · obtain ⟨t, ht, -⟩ := sane16 s
    rw [call_run F15]; simp -implicitDefEqProofs only [↓GP, GB, GL, Nat.reduceAdd, Nat.reduceSub, Nat.reduceEqDiff, Nat.reduceMul, Nat.reduceLeDiff, Int.reduceBNe, Int.reduceBEq, Nat.reduceLT, reduceCtorEq, c15, hv, hn, ht]
  · obtain ⟨t, ht, -⟩ := sane16 (s.alloc (.cells [.ptr none] none))
    rw [call_run F15]; simp -implicitDefEqProofs only [↓GP, GB, GL, Nat.reduceAdd, Nat.reduceSub, Nat.reduceEqDiff, Nat.reduceMul, Nat.reduceLeDiff, Int.reduceBNe, Int.reduceBEq, Nat.reduceLT, reduceCtorEq, c15, hv, hn, n44, n46, n53, n50, n49, ht, Int.reduceBEq]
end
end Go.Proofs.Ytoldkemimhebaaa
