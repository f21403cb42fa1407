/- Layer 15: a heap is that of the specification in all that it tells. -/
import Derived.Test.YtoldkemimhebaaaPg4
set_option linter.unusedSimpArgs false
set_option linter.unusedVariables false
namespace Go.Proofs.Ytoldkemimhebaaa
open Go Go.IM

-- (*virgate/virgatelaw15.Pair).objects
def l86_0 : IC := (.seq (.seq (.seq (.region [oa 62 (.mov (.t 12)), oa 63 (.mov (.t 10)), oa 64 (.bin .lss (.t 62) (.t 63))] (kp 101 [0,1,5,10,12,64]))
  (.cond (.t 64)
  (sk 101 [0,1,5,10,12])
  (sx 101 [0,1,5] 2)))
  (.seq (.block 3
  (.seq (.region [oa 68 (.mov (.t 0)), oa 69 (.nilCheck (.t 68)), oa 70 (.fieldAddr 0 (.t 69)), oa 71 (.load none (.t 70)), oa 72 (.mov (.t 1)), oa 73 (.mov (.t 5)), oa 74 (.indexAddr 2 (.t 72) (.t 73)), oa 75 (.load (some 2) (.t 74)), oa 76 (.mov (.t 12)), oa 13 (.alloc [(.int .i64 (0)), (.int .i64 (0))]), oa 77 (.call 67 [(.t 71), (.t 75), (.t 76)]), oa 67 (.mov (.t 77)), oa 78 (.extract (.t 67) 0), oa 79 (.extract (.t 67) 1), ob (.store 2 (.t 13) (.t 78)), oa 14 (.mov (.t 79))] (kp 101 [0,1,5,10,12,13,14]))
  (.seq (.region [oa 81 (.mov (.t 0)), oa 82 (.nilCheck (.t 81)), oa 83 (.fieldAddr 1 (.t 82)), oa 84 (.load none (.t 83)), oa 85 (.mov (.t 1)), oa 86 (.mov (.t 5)), oa 87 (.indexAddr 2 (.t 85) (.t 86)), oa 88 (.load (some 2) (.t 87)), oa 89 (.mov (.t 12)), oa 15 (.alloc [(.int .i64 (0)), (.int .i64 (0))]), oa 90 (.call 68 [(.t 84), (.t 88), (.t 89)]), oa 80 (.mov (.t 90)), oa 91 (.extract (.t 80) 0), oa 92 (.extract (.t 80) 1), ob (.store 2 (.t 15) (.t 91)), oa 16 (.mov (.t 92))] (kp 101 [0,1,5,10,12,13,14,15,16]))
  (.seq (.region [oa 93 (.load (some 2) (.t 13)), oa 94 (.load (some 2) (.t 15)), oa 95 (.eql true (.key (.agg [.i, .i])) (.t 93) (.t 94)), oa 96 (.mov (.t 95)), oc 97 (.mov (.t 14)) 96 ff, oc 98 (.mov (.t 16)) 96 ff, oc 99 (.bin .neq (.t 97) (.t 98)) 96 ff, oa 100 (.pick (.t 96) (.c (.bool true)) (.t 99))] (kp 101 [0,1,5,10,12,100]))
  (.cond (.t 100)
  (.seq (.region [oa 4 (.mov (.c (.bool false)))] (kp 101 [4]))
  (sr 101 [4]))
  (sk 101 [0,1,5,10,12]))))))
  (.region [oa 65 (.mov (.t 12)), oa 66 (.bin .add (.t 65) (ai 1)), oa 12 (.mov (.t 66))] (kp 101 [0,1,5,10,12]))))
  (sk 101 [0,1,5,10,12]))
def l86_1 : IC := (.seq (.seq (.seq (.region [oa 17 (.mov (.t 5)), oa 18 (.mov (.t 1)), oa 19 (.lenSlice (.t 18)), oa 20 (.bin .lss (.t 17) (.t 19))] (kp 101 [0,1,5,20]))
  (.cond (.t 20)
  (sk 101 [0,1,5])
  (sx 101 [] 0)))
  (.seq (.block 1
  (.seq (.region [oa 24 (.mov (.t 0)), oa 25 (.nilCheck (.t 24)), oa 26 (.fieldAddr 0 (.t 25)), oa 27 (.load none (.t 26)), oa 28 (.mov (.t 1)), oa 29 (.mov (.t 5)), oa 30 (.indexAddr 2 (.t 28) (.t 29)), oa 31 (.load (some 2) (.t 30)), oa 32 (.call 30 [(.t 27), (.t 31)]), oa 23 (.mov (.t 32)), oa 33 (.extract (.t 23) 0), oa 34 (.extract (.t 23) 1), oa 35 (.extract (.t 23) 2), oa 6 (.mov (.t 33)), oa 7 (.mov (.t 34)), oa 8 (.mov (.t 35))] (kp 101 [0,1,5,6,7,8]))
  (.seq (.region [oa 37 (.mov (.t 0)), oa 38 (.nilCheck (.t 37)), oa 39 (.fieldAddr 1 (.t 38)), oa 40 (.load none (.t 39)), oa 41 (.mov (.t 1)), oa 42 (.mov (.t 5)), oa 43 (.indexAddr 2 (.t 41) (.t 42)), oa 44 (.load (some 2) (.t 43)), oa 45 (.call 69 [(.t 40), (.t 44)]), oa 36 (.mov (.t 45)), oa 46 (.extract (.t 36) 0), oa 47 (.extract (.t 36) 1), oa 48 (.extract (.t 36) 2), oa 9 (.mov (.t 46)), oa 10 (.mov (.t 47)), oa 11 (.mov (.t 48))] (kp 101 [0,1,5,6,7,8,9,10,11]))
  (.seq (.seq (.region [oa 49 (.mov (.t 6)), oa 50 (.mov (.t 9)), oa 51 (.bin .neq (.t 49) (.t 50)), oa 52 (.mov (.t 51)), oc 53 (.mov (.t 7)) 52 ff, oc 54 (.mov (.t 10)) 52 ff, oc 55 (.bin .neq (.t 53) (.t 54)) 52 ff, oa 56 (.pick (.t 52) (.c (.bool true)) (.t 55)), oa 57 (.mov (.t 56)), oc 58 (.mov (.t 8)) 57 ff, oc 59 (.mov (.t 11)) 57 ff, oc 60 (.bin .neq (.t 58) (.t 59)) 57 ff, oa 61 (.pick (.t 57) (.c (.bool true)) (.t 60))] (kp 101 [0,1,5,10,61]))
  (.cond (.t 61)
  (.seq (.region [oa 4 (.mov (.c (.bool false)))] (kp 101 [4]))
  (sr 101 [4]))
  (sk 101 [0,1,5,10])))
  (.seq (.region [oa 12 (.mov (ai 0))] (kp 101 [0,1,5,10,12]))
  (.block 2
  (.seq (sk 101 [0,1,5,10,12])
  (.loop l86_0))))))))
  (.region [oa 21 (.mov (.t 5)), oa 22 (.bin .add (.t 21) (ai 1)), oa 5 (.mov (.t 22))] (kp 101 [0,1,5]))))
  (sk 101 [0,1,5]))
def c86 : IFn := ⟨101, [(4, none)],
  (.seq (.region [oa 4 (.mov (.c (.bool false)))] (kp 101 [0,1]))
  (.seq (.seq (.region [oa 5 (.mov (ai 0))] (kp 101 [0,1,5]))
  (.block 0
  (.seq (sk 101 [0,1,5])
  (.loop l86_1))))
  (.seq (.region [oa 4 (.mov (.c (.bool true)))] (kp 101 [4]))
  (sr 101 [4]))))⟩
theorem F86 : shutF Try.prog 86 = some c86 := by kernel_rfl

-- (*virgate/virgatelaw15.Pair).Is
def l38_0 : IC := (.seq (.seq (.seq (.region [oa 40 (.mov (.t 3)), oa 41 (.mov (.t 0)), oa 42 (.nilCheck (.t 41)), oa 43 (.fieldAddr 1 (.t 42)), oa 44 (.load none (.t 43)), oa 45 (.call 78 [(.t 44)]), oa 46 (.bin .leq (.t 40) (.t 45))] (kp 162 [0,3,46]))
  (.cond (.t 46)
  (sk 162 [0,3])
  (sx 162 [] 0)))
  (.seq (.block 1
  (.seq (.region [oa 50 (.mov (.t 0)), oa 51 (.nilCheck (.t 50)), oa 52 (.fieldAddr 0 (.t 51)), oa 53 (.load none (.t 52)), oa 54 (.mov (.t 3)), oa 55 (.call 29 [(.t 53), (.t 54)]), oa 49 (.mov (.t 55)), oa 56 (.extract (.t 49) 0), oa 57 (.extract (.t 49) 1), oa 4 (.mov (.t 56)), oa 5 (.mov (.t 57))] (kp 162 [0,3,4,5]))
  (.seq (.region [oa 59 (.mov (.t 0)), oa 60 (.nilCheck (.t 59)), oa 61 (.fieldAddr 1 (.t 60)), oa 62 (.load none (.t 61)), oa 63 (.mov (.t 3)), oa 64 (.call 80 [(.t 62), (.t 63)]), oa 58 (.mov (.t 64)), oa 65 (.extract (.t 58) 0), oa 66 (.extract (.t 58) 1), oa 6 (.mov (.t 65)), oa 7 (.mov (.t 66))] (kp 162 [0,3,4,5,6,7]))
  (.seq (.region [oa 68 (.mov (.t 0)), oa 69 (.nilCheck (.t 68)), oa 70 (.fieldAddr 0 (.t 69)), oa 71 (.load none (.t 70)), oa 72 (.mov (.t 3)), oa 73 (.call 28 [(.t 71), (.t 72)]), oa 67 (.mov (.t 73)), oa 74 (.extract (.t 67) 0), oa 75 (.extract (.t 67) 1), oa 8 (.mov (.t 74)), oa 9 (.mov (.t 75))] (kp 162 [0,3,4,5,6,7,8,9]))
  (.seq (.region [oa 77 (.mov (.t 0)), oa 78 (.nilCheck (.t 77)), oa 79 (.fieldAddr 1 (.t 78)), oa 80 (.load none (.t 79)), oa 81 (.mov (.t 3)), oa 82 (.call 81 [(.t 80), (.t 81)]), oa 76 (.mov (.t 82)), oa 83 (.extract (.t 76) 0), oa 84 (.extract (.t 76) 1), oa 10 (.mov (.t 83)), oa 11 (.mov (.t 84))] (kp 162 [0,3,4,5,6,7,8,9,10,11]))
  (.seq (.seq (.region [oa 85 (.mov (.t 4)), oa 86 (.mov (.t 5)), oa 87 (.mov (.t 6)), oa 88 (.mov (.t 7)), oa 89 (.call 82 [(.t 85), (.t 86), (.t 87), (.t 88)]), oa 90 (.un .not (.t 89)), oa 91 (.mov (.t 90)), oc 92 (.mov (.t 9)) 91 ff, oc 93 (.mov (.t 11)) 91 ff, oc 94 (.bin .neq (.t 92) (.t 93)) 91 ff, oa 95 (.pick (.t 91) (.c (.bool true)) (.t 94)), oa 96 (.mov (.t 95)), oc 97 (.mov (.t 8)) 96 ff, oc 98 (.mov (.t 10)) 96 ff, oc 99 (.call 48 [(.t 97), (.t 98)]) 96 ff, oc 100 (.un .not (.t 99)) 96 ff, oa 101 (.pick (.t 96) (.c (.bool true)) (.t 100))] (kp 162 [0,3,10,101]))
  (.cond (.t 101)
  (.seq (.region [oa 2 (.mov (.c (.bool false)))] (kp 162 [2]))
  (sr 162 [2]))
  (sk 162 [0,3,10])))
  (.seq (.region [oa 103 (.mov (.t 0)), oa 104 (.nilCheck (.t 103)), oa 105 (.fieldAddr 0 (.t 104)), oa 106 (.load none (.t 105)), oa 107 (.mov (.t 3)), oa 108 (.call 83 [(.t 106), (.t 107)]), oa 102 (.mov (.t 108)), oa 109 (.extract (.t 102) 0), oa 110 (.extract (.t 102) 1), oa 12 (.mov (.t 109)), oa 5 (.mov (.t 110))] (kp 162 [0,3,5,10,12]))
  (.seq (.region [oa 112 (.mov (.t 0)), oa 113 (.nilCheck (.t 112)), oa 114 (.fieldAddr 1 (.t 113)), oa 115 (.load none (.t 114)), oa 116 (.mov (.t 3)), oa 117 (.call 84 [(.t 115), (.t 116)]), oa 111 (.mov (.t 117)), oa 118 (.extract (.t 111) 0), oa 119 (.extract (.t 111) 1), oa 13 (.mov (.t 118)), oa 7 (.mov (.t 119))] (kp 162 [0,3,5,7,10,12,13]))
  (.seq (.region [oa 121 (.mov (.t 0)), oa 122 (.nilCheck (.t 121)), oa 123 (.fieldAddr 0 (.t 122)), oa 124 (.load none (.t 123)), oa 125 (.mov (.t 3)), oa 126 (.call 35 [(.t 124), (.t 125)]), oa 120 (.mov (.t 126)), oa 127 (.extract (.t 120) 0), oa 128 (.extract (.t 120) 1), oa 14 (.mov (.t 127)), oa 9 (.mov (.t 128))] (kp 162 [0,3,5,7,9,10,12,13,14]))
  (.seq (.region [oa 130 (.mov (.t 0)), oa 131 (.nilCheck (.t 130)), oa 132 (.fieldAddr 1 (.t 131)), oa 133 (.load none (.t 132)), oa 134 (.mov (.t 3)), oa 135 (.call 85 [(.t 133), (.t 134)]), oa 129 (.mov (.t 135)), oa 136 (.extract (.t 129) 0), oa 137 (.extract (.t 129) 1), oa 15 (.mov (.t 136)), oa 11 (.mov (.t 137))] (kp 162 [0,3,5,7,9,10,11,12,13,14,15]))
  (.seq (.region [oa 138 (.mov (.t 12)), oa 139 (.mov (.t 13)), oa 140 (.bin .neq (.t 138) (.t 139)), oa 141 (.mov (.t 140)), oc 142 (.mov (.t 5)) 141 ff, oc 143 (.mov (.t 7)) 141 ff, oc 144 (.bin .neq (.t 142) (.t 143)) 141 ff, oa 145 (.pick (.t 141) (.c (.bool true)) (.t 144)), oa 146 (.mov (.t 145)), oc 147 (.mov (.t 14)) 146 ff, oc 148 (.mov (.t 15)) 146 ff, oc 149 (.bin .neq (.t 147) (.t 148)) 146 ff, oa 150 (.pick (.t 146) (.c (.bool true)) (.t 149)), oa 151 (.mov (.t 150)), oc 152 (.mov (.t 9)) 151 ff, oc 153 (.mov (.t 11)) 151 ff, oc 154 (.bin .neq (.t 152) (.t 153)) 151 ff, oa 155 (.pick (.t 151) (.c (.bool true)) (.t 154)), oa 156 (.mov (.t 155)), oc 157 (.mov (.t 0)) 156 ff, oc 158 (.mov (.t 10)) 156 ff, oc 159 (.call 86 [(.t 157), (.t 158)]) 156 ff, oc 160 (.un .not (.t 159)) 156 ff, oa 161 (.pick (.t 156) (.c (.bool true)) (.t 160))] (kp 162 [0,3,161]))
  (.cond (.t 161)
  (.seq (.region [oa 2 (.mov (.c (.bool false)))] (kp 162 [2]))
  (sr 162 [2]))
  (sk 162 [0,3])))))))))))))
  (.region [oa 47 (.mov (.t 3)), oa 48 (.bin .add (.t 47) (ai 1)), oa 3 (.mov (.t 48))] (kp 162 [0,3]))))
  (sk 162 [0,3]))
def c38 : IFn := ⟨162, [(2, none)],
  (.seq (.region [oa 2 (.mov (.c (.bool false)))] (kp 162 [0]))
  (.seq (.seq (.region [oa 16 (.mov (.t 0)), oa 17 (.nilCheck (.t 16)), oa 18 (.fieldAddr 0 (.t 17)), oa 19 (.load none (.t 18)), oa 21 (.mov (.t 0)), oa 22 (.nilCheck (.t 21)), oa 23 (.fieldAddr 1 (.t 22)), oa 24 (.load none (.t 23)), oa 20 (.call 27 [(.t 19)]), ob (.again 24 (.load none (.t 23))), oa 25 (.call 78 [(.t 24)]), oa 26 (.bin .neq (.t 20) (.t 25)), oa 27 (.mov (.t 26)), oc 28 (.mov (.t 0)) 27 ff, oc 29 (.nilCheck (.t 28)) 27 ff, oc 30 (.fieldAddr 0 (.t 29)) 27 ff, oc 31 (.load none (.t 30)) 27 ff, oc 33 (.mov (.t 0)) 27 ff, oc 34 (.nilCheck (.t 33)) 27 ff, oc 35 (.fieldAddr 1 (.t 34)) 27 ff, oc 36 (.load none (.t 35)) 27 ff, oc 32 (.call 36 [(.t 31)]) 27 ff, oe (.again 36 (.load none (.t 35))) 27 ff, oc 37 (.call 79 [(.t 36)]) 27 ff, oc 38 (.bin .neq (.t 32) (.t 37)) 27 ff, oa 39 (.pick (.t 27) (.c (.bool true)) (.t 38))] (kp 162 [0,39]))
  (.cond (.t 39)
  (.seq (.region [oa 2 (.mov (.c (.bool false)))] (kp 162 [2]))
  (sr 162 [2]))
  (sk 162 [0])))
  (.seq (.seq (.region [oa 3 (.mov (ai (-1)))] (kp 162 [0,3]))
  (.block 0
  (.seq (sk 162 [0,3])
  (.loop l38_0))))
  (.seq (.region [oa 2 (.mov (.c (.bool true)))] (kp 162 [2]))
  (sr 162 [2])))))⟩
theorem F38 : shutF Try.prog 38 = some c38 := by kernel_rfl


theorem sl_pagesV {C : Ch} {k k0 : Nat} {l : List Nat} (m : (k, pagesO l) ∈ C) : SlAt C (pagesV k k0 l.length) l.length (l.map fun n : Nat => I n) := by
  unfold pagesV
  split
  · rename_i h; rw [h]; exact .inl ⟨rfl, _, _, rfl⟩
  · exact .row m
section
variable {o : Nat → Option O} {s : St} {C F : Ch} {Q : V → St → Prop} {p r q t : Nat} {u : List Bool} {others : List Nat} {G : PairG}
set_option maxRecDepth 10000
set_option maxHeartbeats 4000000

theorem objw_loop {vl : V} {ws : List (Int × Int)} {k a b : Nat} {w : Int × Int} {x : PObj} {x' : RObj} {g' : RReg} {K : Kt} (hin : In C p G.hp) (rin : RIn C q G.hr) (mid : (G.id, some G.hd) ∈ C) (h : PairOk u others G)
    (hv : SlAt C vl ws.length (ws.flatMap encW)) (hk : ws[k]? = some w) (hL : 1 ≤ w.2) (hp : pfind w.1 w.2 G.hp.regs = some x) (hr : rfind w.1 w.2 G.hr.regs 0 = some (a, b)) (hg : G.hr.regs[a]? = some g') (hx : g'.objs[b]? = some x') (hb : x.b = x'.b) (hws : x.b.ws.length ≤ 31)
    (q1 : ∀ s', Holds o s' C → WP (K (.exit 2) (sp 101 [(0, ptrN G.id), (1, vl), (5, I k)]) s') Q) :
    ∀ (m j : Nat) (s : St), j + m = x.b.ws.length → Holds o s C →
    WP (loop PF (.loop l86_0) (sp 101 [(0, ptrN G.id), (1, vl), (5, I k), (10, I x.b.ws.length), (12, I j)]) s K) Q
  | 0, j, s, hj, H => by
    have hlt : ¬ ((j : Int) < (x.b.ws.length : Int)) := by omega
    refine wp_round fun LL hLL => ?_
    simp -implicitDefEqProofs only [↓GP, GB, GL, Nat.reduceAdd, Nat.reduceSub, Nat.reduceEqDiff, Nat.reduceMul, Nat.reduceLeDiff, Int.reduceBNe, Int.reduceBEq, Nat.reduceLT, reduceCtorEq, l86_0, hlt]
    exact q1 s H
  | m + 1, j, s, hj, H => by
    have hlt : ((j : Int) < (x.b.ws.length : Int)) := by omega
    have hj' : j < x.b.ws.length := by omega
    have f := H.mem mid
    simp only [PairG.hd] at f
    obtain ⟨k1, g1, e1, m1⟩ := hv.at_ (List.getElem?_eq_some_iff.1 hk).1 2
    have f1 := H.mem m1
    have hld := ldN_tab encW_len ws g1 hk
    obtain ⟨wx, hwx⟩ : ∃ wx, x.b.ws[j]? = some wx := ⟨x.b.ws[j], by simp [hj']⟩
    have hw1 := wrap_add1 (a := j) (by omega)
    refine wp_round fun LL hLL => ?_
    simp -implicitDefEqProofs only [↓GP, GB, GL, Nat.reduceAdd, Nat.reduceSub, Nat.reduceEqDiff, Nat.reduceMul, Nat.reduceLeDiff, Int.reduceBNe, Int.reduceBEq, Nat.reduceLT, reduceCtorEq, l86_0, hlt, f, e1, f1, hld, encW]
    refine wp_in (s67 (H.alloc (.cells [I 0, I 0] none)) (hin.cons _) h.pne h.plen h.pok (by omega) hp hwx hws fun s1 h1 => ?_)
    have d1 := h1.ne (Holds.ids_mem.2 ⟨_, mid⟩)
    have d2 := h1.ne (Holds.ids_mem.2 ⟨_, m1⟩)
    have fa := h1.f1
    have fb := h1.tl.mem mid
    have fc := h1.tl.mem m1
    simp only [PairG.hd] at fb
    simp -implicitDefEqProofs only [↓GP, GB, GL, Nat.reduceAdd, Nat.reduceSub, Nat.reduceEqDiff, Nat.reduceMul, Nat.reduceLeDiff, Int.reduceBNe, Int.reduceBEq, Nat.reduceLT, reduceCtorEq, encW, fa, fb, fc, d1, d2, e1, hld]
    have h2 := (h1.set0 (.cells [I wx.1, I wx.2] none)).alloc (.cells [I 0, I 0] none)
    refine wp_in (s68 h2 ((rin.cons _).cons _) h.rne h.rlen h.rol' (by omega) hr hg hx (by rw [← hb]; exact hwx) fun s2 h3 => ?_)
    simp only [set_next, alloc_next] at h3
    have fd := h3.f2
    simp -implicitDefEqProofs only [↓GP, GB, GL, Nat.reduceAdd, Nat.reduceSub, Nat.reduceEqDiff, Nat.reduceMul, Nat.reduceLeDiff, Int.reduceBNe, Int.reduceBEq, Nat.reduceLT, reduceCtorEq, encW, fd, words_eq, Int.reduceBNe, hw1]
    rw [hLL]
    exact objw_loop hin rin mid h hv hk hL hp hr hg hx hb hws q1 m (j + 1) _ (by omega) (h3.set0 _).tl.tl

theorem objs_loop {vl : V} {ws : List (Int × Int)} {K : Kt} (hin : In C p G.hp) (rin : RIn C q G.hr) (mid : (G.id, some G.hd) ∈ C) (h : PairOk u others G)
    (hv : SlAt C vl ws.length (ws.flatMap encW)) (hl : ws.length ≤ 100000) (hL : ∀ w ∈ ws, 1 ≤ w.2) (q1 : ∀ s', Holds o s' C → WP (K (.exit 0) (sp 101 []) s') Q) :
    ∀ (m k : Nat) (s : St), k + m = ws.length → Holds o s C → WP (loop PF (.loop l86_1) (sp 101 [(0, ptrN G.id), (1, vl), (5, I k)]) s K) Q
  | 0, k, s, hk, H => by
    have hlt : ¬ ((k : Int) < (ws.length : Int)) := by omega
    refine wp_round fun LL hLL => ?_
    simp -implicitDefEqProofs only [↓GP, GB, GL, Nat.reduceAdd, Nat.reduceSub, Nat.reduceEqDiff, Nat.reduceMul, Nat.reduceLeDiff, Int.reduceBNe, Int.reduceBEq, Nat.reduceLT, reduceCtorEq, l86_1, hv.len, hlt]
    exact q1 s H
  | m + 1, k, s, hk, H => by
    have hlt : ((k : Int) < (ws.length : Int)) := by omega
    have hk' : k < ws.length := by omega
    have f := fun s (H : Holds o s C) => H.mem mid
    simp only [PairG.hd] at f
    obtain ⟨k1, g1, e1, m1⟩ := hv.at_ hk' 2
    obtain ⟨w, hw⟩ : ∃ w, ws[k]? = some w := ⟨ws[k], by simp [hk']⟩
    have hld := ldN_tab encW_len ws g1 hw
    have hL1 := hL w (List.mem_of_getElem? hw)
    have hw1 := wrap_add1 (a := k) (by omega)
    refine wp_round fun LL hLL => ?_
    simp -implicitDefEqProofs only [↓GP, GB, GL, Nat.reduceAdd, Nat.reduceSub, Nat.reduceEqDiff, Nat.reduceMul, Nat.reduceLeDiff, Int.reduceBNe, Int.reduceBEq, Nat.reduceLT, reduceCtorEq, l86_1, hv.len, hlt, f s H, e1, H.mem m1, hld, encW]
    rcases h.find (N := w.1) (L := w.2) hL1 with ⟨hr, hp⟩ | ⟨a, b, A, g, B, A', g', B', X, x, Y, X', x', Y', hr, hp, hg, hx, hb, mg, mx, -⟩
    · refine wp_in (s30_err H (.inr ⟨G.hp, p, rfl, hin, h.pne, h.plen, h.pok, .inr ⟨rfl, by omega, rfl, hp⟩⟩) fun s1 h1 => ?_)
      simp -implicitDefEqProofs only [↓GP, GB, GL, Nat.reduceAdd, Nat.reduceSub, Nat.reduceEqDiff, Nat.reduceMul, Nat.reduceLeDiff, Int.reduceBNe, Int.reduceBEq, Nat.reduceLT, reduceCtorEq, f s1 h1, e1, h1.mem m1, hld, encW]
      refine wp_in (s69_err h1 (.inr ⟨G.hr, q, rfl, rin, h.rne, h.rlen, h.rol', .inr ⟨rfl, by omega, hr⟩⟩) fun s2 h2 => ?_)
      simp -implicitDefEqProofs only [↓GP, GB, GL, Nat.reduceAdd, Nat.reduceSub, Nat.reduceEqDiff, Nat.reduceMul, Nat.reduceLeDiff, Int.reduceBNe, Int.reduceBEq, Nat.reduceLT, reduceCtorEq, Int.reduceBNe]
      refine wp_round fun LL2 hLL2 => ?_
      simp -implicitDefEqProofs only [↓GP, GB, GL, Nat.reduceAdd, Nat.reduceSub, Nat.reduceEqDiff, Nat.reduceMul, Nat.reduceLeDiff, Int.reduceBNe, Int.reduceBEq, Nat.reduceLT, reduceCtorEq, l86_0, Int.reduceLT, hw1]
      rw [hLL]
      exact objs_loop hin rin mid h hv hl hL q1 m (k + 1) s2 (by omega) h2
    · refine wp_in (s30 H hin h.pne h.plen h.pok (by omega) hp fun s1 h1 => ?_)
      simp -implicitDefEqProofs only [↓GP, GB, GL, Nat.reduceAdd, Nat.reduceSub, Nat.reduceEqDiff, Nat.reduceMul, Nat.reduceLeDiff, Int.reduceBNe, Int.reduceBEq, Nat.reduceLT, reduceCtorEq, f s1 h1, e1, h1.mem m1, hld, encW]
      refine wp_in (s69 h1 rin h.rne h.rlen h.rol' (by omega) hr hg hx fun s2 h2 => ?_)
      have hws := ((h.okp mg).1.ws x.b (List.mem_map.2 ⟨x, mx, rfl⟩))
      simp -implicitDefEqProofs only [↓GP, GB, GL, Nat.reduceAdd, Nat.reduceSub, Nat.reduceEqDiff, Nat.reduceMul, Nat.reduceLeDiff, Int.reduceBNe, Int.reduceBEq, Nat.reduceLT, reduceCtorEq, hb, Int.reduceBNe, bne_self_eq_false]
      rw [← hb]
      have := objw_loop (K := blockK 2 (blockK 1 (seqK (loop PF) (call PF) (.region [oa 21 (.mov (.t 5)), oa 22 (.bin .add (.t 21) (ai 1)), oa 5 (.mov (.t 22))] (kp 101 [0,1,5])) (seqK (loop PF) (call PF) (sk 101 [0,1,5]) (roundK LL K))))) hin rin mid h hv hw hL1 hp hr hg hx hb hws (Q := Q) (fun s3 h3 => ?_) x.b.ws.length 0 s2 (by omega) h2
      · exact this
      · simp -implicitDefEqProofs only [↓GP, GB, GL, Nat.reduceAdd, Nat.reduceSub, Nat.reduceEqDiff, Nat.reduceMul, Nat.reduceLeDiff, Int.reduceBNe, Int.reduceBEq, Nat.reduceLT, reduceCtorEq, hw1]
        rw [hLL]
        exact objs_loop hin rin mid h hv hl hL q1 m (k + 1) s3 (by omega) h3

theorem s86 {vl : V} {ws : List (Int × Int)} (hin : In C p G.hp) (rin : RIn C q G.hr) (mid : (G.id, some G.hd) ∈ C) (h : PairOk u others G)
    (hv : SlAt C vl ws.length (ws.flatMap encW)) (hl : ws.length ≤ 100000) (hL : ∀ w ∈ ws, 1 ≤ w.2) (H : Holds o s C) (q1 : ∀ s', Holds o s' C → Q (.bool true) s') : WP (call PF 86 [ptrN G.id, vl] s) Q := by
  rw [call_run F86]; simp -implicitDefEqProofs only [↓GP, GB, GL, Nat.reduceAdd, Nat.reduceSub, Nat.reduceEqDiff, Nat.reduceMul, Nat.reduceLeDiff, Int.reduceBNe, Int.reduceBEq, Nat.reduceLT, reduceCtorEq, c86]
  refine objs_loop hin rin mid h hv hl hL (fun s1 h1 => ?_) ws.length 0 s (by omega) H
  simp -implicitDefEqProofs only [↓GP, GB, GL, Nat.reduceAdd, Nat.reduceSub, Nat.reduceEqDiff, Nat.reduceMul, Nat.reduceLeDiff, Int.reduceBNe, Int.reduceBEq, Nat.reduceLT, reduceCtorEq]
  exact q1 s1 h1

theorem s86_nil {id : Nat} : call PF 86 [ptrN id, .slice none 0 (some 0)] s = some (.bool true, s) := by
  rw [call_run F86]; simp -implicitDefEqProofs only [↓GP, GB, GL, Nat.reduceAdd, Nat.reduceSub, Nat.reduceEqDiff, Nat.reduceMul, Nat.reduceLeDiff, Int.reduceBNe, Int.reduceBEq, Nat.reduceLT, reduceCtorEq, c86]
  refine round fun LL hLL => ?_
  simp -implicitDefEqProofs only [↓GP, GB, GL, Nat.reduceAdd, Nat.reduceSub, Nat.reduceEqDiff, Nat.reduceMul, Nat.reduceLeDiff, Int.reduceBNe, Int.reduceBEq, Nat.reduceLT, reduceCtorEq, l86_1, Int.natCast_zero, Int.reduceLT]

/-- Objects' words. -/
theorem encP_ws (life : Nat) (l : List PObj) : l.flatMap (encP life) = (l.map fun x => ((x.b.at_ : Int), (life : Int))).flatMap encW := by
  rw [List.flatMap_map]; rfl
theorem rencP_ws (life : Nat) (l : List RObj) : l.flatMap (rencP life) = (l.map fun x => ((x.b.at_ : Int), (life : Int))).flatMap encW := by
  rw [List.flatMap_map]; rfl

/-- What there is at a number, in both: nothing, with the same error; or a region. -/
def IsAt (C : Ch) (id : Nat) (hv rv : V) (i : Int) : Prop := (∃ err, AtErr C hv i err ∧ RAtErr C rv i err) ∨
  ∃ (u : List Bool) (others : List Nat) (G : PairG) (p q n : Nat), PairOk u others G ∧ In C p G.hp ∧ RIn C q G.hr ∧ (G.id, some G.hd) ∈ C ∧ id = G.id ∧ hv = ptrN G.hp.id ∧ rv = ptrN G.hr.id ∧ i = (n : Int) ∧ n < G.hp.regs.length

theorem is_loop {id n : Nat} {hv rv wv : V} {K : Kt} (mid : (id, some (.cells [hv, rv, wv] none)) ∈ C) (h1 : hv.one = true) (h2 : hv.cells = [hv]) (hn : n ≤ 100000) (hd : ∀ s, Holds o s C → call PF 78 [rv] s = some (I n, s))
    (hi : ∀ i : Int, -1 ≤ i → i ≤ n → IsAt C id hv rv i) (q1 : ∀ s', Holds o s' C → WP (K (.exit 0) (sp 162 []) s') Q) :
    ∀ (m j : Nat) (s : St), j + m = n + 2 → Holds o s C → WP (loop PF (.loop l38_0) (sp 162 [(0, ptrN id), (3, I ((j : Int) - 1))]) s K) Q
  | 0, j, s, hj, H => by
    have hle : ¬ ((j : Int) - 1 ≤ (n : Int)) := by omega
    refine wp_round fun LL hLL => ?_
    simp -implicitDefEqProofs only [↓GP, GB, GL, Nat.reduceAdd, Nat.reduceSub, Nat.reduceEqDiff, Nat.reduceMul, Nat.reduceLeDiff, Int.reduceBNe, Int.reduceBEq, Nat.reduceLT, reduceCtorEq, l38_0, H.mem mid, hd s H, hle]
    exact q1 s H
  | m + 1, j, s, hj, H => by
    have hle : ((j : Int) - 1 ≤ (n : Int)) := by omega
    have hw1 : wrapI .i64 ((j : Int) - 1 + 1) = I (((j + 1 : Nat) : Int) - 1) := by rw [wrap64 (by omega) (by omega)]; show V.int _ _ = V.int _ _; congr 1; omega
    have at1 := hi ((j : Int) - 1) (by omega) hle
    refine wp_round fun LL hLL => ?_
    simp -implicitDefEqProofs only [↓GP, GB, GL, Nat.reduceAdd, Nat.reduceSub, Nat.reduceEqDiff, Nat.reduceMul, Nat.reduceLeDiff, Int.reduceBNe, Int.reduceBEq, Nat.reduceLT, reduceCtorEq, l38_0, H.mem mid, hd s H, hle]
    rcases at1 with ⟨err, a, b⟩ | ⟨u, others, G, p, q, i, h, hin, rin, mG, rfl, rfl, rfl, hii, hlt⟩
    · refine wp_in (s29_err H a h1 h2 fun s1 k1 => ?_)
      simp -implicitDefEqProofs only [↓GP, GB, GL, Nat.reduceAdd, Nat.reduceSub, Nat.reduceEqDiff, Nat.reduceMul, Nat.reduceLeDiff, Int.reduceBNe, Int.reduceBEq, Nat.reduceLT, reduceCtorEq, k1.mem mid, s80_err k1 b]
      refine wp_in (s28_err k1 a h1 h2 fun s2 k2 => ?_)
      have e82 := fun err => s82 (err := err) k2 (l := []) SlAt.nil SlAt.nil (by simp)
      have e48 := s48 k2 (l := []) SlAt.nil SlAt.nil (by simp)
      simp -implicitDefEqProofs only [↓GP, GB, GL, Nat.reduceAdd, Nat.reduceSub, Nat.reduceEqDiff, Nat.reduceMul, Nat.reduceLeDiff, Int.reduceBNe, Int.reduceBEq, Nat.reduceLT, reduceCtorEq, k2.mem mid, s81_err k2 b, e82, e48, bne_self_eq_false]
      refine wp_in (s83_err k2 a h1 h2 fun s3 k3 => ?_)
      simp -implicitDefEqProofs only [↓GP, GB, GL, Nat.reduceAdd, Nat.reduceSub, Nat.reduceEqDiff, Nat.reduceMul, Nat.reduceLeDiff, Int.reduceBNe, Int.reduceBEq, Nat.reduceLT, reduceCtorEq, k3.mem mid, s84_err k3 b]
      refine wp_in (s35_err k3 a h1 h2 fun s4 k4 => ?_)
      simp -implicitDefEqProofs only [↓GP, GB, GL, Nat.reduceAdd, Nat.reduceSub, Nat.reduceEqDiff, Nat.reduceMul, Nat.reduceLeDiff, Int.reduceBNe, Int.reduceBEq, Nat.reduceLT, reduceCtorEq, k4.mem mid, s85_err k4 b, bne_self_eq_false]
      simp -implicitDefEqProofs only [↓GP, GB, GL, Nat.reduceAdd, Nat.reduceSub, Nat.reduceEqDiff, Nat.reduceMul, Nat.reduceLeDiff, Int.reduceBNe, Int.reduceBEq, Nat.reduceLT, reduceCtorEq, s86_nil, hw1, k4.mem mid]
      rw [hLL]
      exact is_loop mid h1 h2 hn hd hi q1 m (j + 1) s4 (by omega) k4
    · obtain ⟨A, g, B, A', g', B', e1, e2, l1, l2, hm, -, -⟩ := h.at_ hlt
      have hg : G.hp.regs[i]? = some g := by rw [e1, ← l1]; simp
      have hg' : G.hr.regs[i]? = some g' := by rw [e2, ← l2]; simp
      have mg : g ∈ G.hp.regs := List.mem_of_getElem? hg
      have mg' : g' ∈ G.hr.regs := List.mem_of_getElem? hg'
      obtain ⟨o1, o2, o3⟩ := h.okp mg
      obtain ⟨o1', o2', o3'⟩ := h.okr mg'
      have hpg : g.pages = g'.pages := congrArg Reg.pages hm
      have hlf : g.life = g'.life := congrArg Reg.life hm
      have hob : g.objs.map (·.b) = g'.objs.map (·.b) := congrArg Reg.objs hm
      have hlv := h.inv.life _ (List.mem_map.2 ⟨g, mg, rfl⟩)
      have p1 := h.pol mg
      have p2 := h.rol mg'
      simp only [PReg.m] at o2 hlv
      simp only [RReg.m] at o2'
      have w31 : ∀ x ∈ g.objs, x.b.ws.length ≤ 31 := fun x hx => o1.ws x.b (List.mem_map.2 ⟨x, hx, rfl⟩)
      have w31' : ∀ x ∈ g'.objs, x.b.ws.length ≤ 31 := fun x hx => o1'.ws x.b (List.mem_map.2 ⟨x, hx, rfl⟩)
      obtain ⟨ws, hws⟩ : ∃ ws, ws = g.objs.map fun x => ((x.b.at_ : Int), (g.life : Int)) := ⟨_, rfl⟩
      have hws' : ws = g'.objs.map fun x => ((x.b.at_ : Int), (g'.life : Int)) := by
        have := congrArg (List.map fun b : Obj => ((b.at_ : Int), (g.life : Int))) hob
        rw [List.map_map, List.map_map] at this
        rw [hws, ← hlf]; exact this
      have hwl : g.objs.length = ws.length := by rw [hws, List.length_map]
      have hwl' : g'.objs.length = ws.length := by rw [hws', List.length_map]
      have hwe : g.objs.flatMap (encP g.life) = ws.flatMap encW := by rw [encP_ws, hws]
      have hwe' : g'.objs.flatMap (rencP g'.life) = ws.flatMap encW := by rw [rencP_ws, hws']
      have hL : ∀ w ∈ ws, 1 ≤ w.2 := by
        intro w hw
        rw [hws] at hw
        obtain ⟨x, -, rfl⟩ := List.mem_map.1 hw
        simp only; omega
      have up : ∀ {D : Ch} {x y : Nat × Option O}, y ∈ D → y ∈ x :: D := fun h => List.mem_cons_of_mem _ h
      have hw2 : wrapI .i64 ((i : Int) + 1) = I (((j + 1 : Nat) : Int) - 1) := by rw [wrap64 (by omega) (by omega)]; show V.int _ _ = V.int _ _; congr 1; omega
      rw [hii]
      refine wp_in (s29 H hin h.plen hg (by omega) fun s1 a1 k1 => ?_)
      simp -implicitDefEqProofs only [↓GP, GB, GL, Nat.reduceAdd, Nat.reduceSub, Nat.reduceEqDiff, Nat.reduceMul, Nat.reduceLeDiff, Int.reduceBNe, Int.reduceBEq, Nat.reduceLT, reduceCtorEq, k1.mem (up mid)]
      refine wp_in (s80 k1 (rin.cons _) hg' (by omega) fun s2 a2 a0 k2 => ?_)
      rw [← hpg] at k2 ⊢
      simp -implicitDefEqProofs only [↓GP, GB, GL, Nat.reduceAdd, Nat.reduceSub, Nat.reduceEqDiff, Nat.reduceMul, Nat.reduceLeDiff, Int.reduceBNe, Int.reduceBEq, Nat.reduceLT, reduceCtorEq, k2.mem (up (up mid))]
      refine wp_in (s28 k2 ((hin.cons _).cons _) h.plen hg (by omega) fun s3 a3 k3 => ?_)
      simp only [hwl, hwe] at k3 ⊢
      simp -implicitDefEqProofs only [↓GP, GB, GL, Nat.reduceAdd, Nat.reduceSub, Nat.reduceEqDiff, Nat.reduceMul, Nat.reduceLeDiff, Int.reduceBNe, Int.reduceBEq, Nat.reduceLT, reduceCtorEq, k3.mem (up (up (up mid)))]
      refine wp_in (s81 k3 (((rin.cons _).cons _).cons _) hg' (by omega) fun s4 a4 k4 => ?_)
      simp only [hwl', hwe'] at k4 ⊢
      have m4 := up (x := (a4, rowO 2 ws.length (ws.flatMap encW))) (up (x := (a3, rowO 2 ws.length (ws.flatMap encW))) (up (x := (a2, pagesO g.pages)) (up (x := (a1, pagesO g.pages)) mid)))
      have e82 := s82 (err := 0) k4 (l := g.pages) (.row (up (up (up (List.mem_cons_self ..))))) (sl_pagesV (k0 := a0) (up (up (List.mem_cons_self ..)))) (by omega)
      have e48 := s48 k4 (l := ws) (.row (up (List.mem_cons_self ..))) (.row (List.mem_cons_self ..)) (by omega)
      simp -implicitDefEqProofs only [↓GP, GB, GL, Nat.reduceAdd, Nat.reduceSub, Nat.reduceEqDiff, Nat.reduceMul, Nat.reduceLeDiff, Int.reduceBNe, Int.reduceBEq, Nat.reduceLT, reduceCtorEq, k4.mem m4, e82, e48, Int.reduceBNe]
      have hin4 := (((hin.cons (a1, pagesO g.pages)).cons (a2, pagesO g.pages)).cons (a3, rowO 2 ws.length (ws.flatMap encW))).cons (a4, rowO 2 ws.length (ws.flatMap encW))
      have rin4 := (((rin.cons (a1, pagesO g.pages)).cons (a2, pagesO g.pages)).cons (a3, rowO 2 ws.length (ws.flatMap encW))).cons (a4, rowO 2 ws.length (ws.flatMap encW))
      refine wp_in (s83 k4 hin4 h.plen hg (by omega) w31 fun s5 k5 => ?_)
      have e84 := s84 k5 rin4 hg' (by omega) w31'
      rw [← hm] at e84
      simp -implicitDefEqProofs only [↓GP, GB, GL, Nat.reduceAdd, Nat.reduceSub, Nat.reduceEqDiff, Nat.reduceMul, Nat.reduceLeDiff, Int.reduceBNe, Int.reduceBEq, Nat.reduceLT, reduceCtorEq, k5.mem m4, e84, Int.reduceBNe]
      refine wp_in (s35 k5 hin4 h.plen hg fun s6 k6 => ?_)
      have e85 := s85 k6 rin4 hg'
      rw [← hlf] at e85
      simp -implicitDefEqProofs only [↓GP, GB, GL, Nat.reduceAdd, Nat.reduceSub, Nat.reduceEqDiff, Nat.reduceMul, Nat.reduceLeDiff, Int.reduceBNe, Int.reduceBEq, Nat.reduceLT, reduceCtorEq, k6.mem m4, e85, Int.reduceBNe, bne_self_eq_false]
      refine wp_in (s86 hin4 rin4 (up (up (up (up mG)))) h (.row (List.mem_cons_self ..)) (by omega) hL k6 fun s7 k7 => ?_)
      simp -implicitDefEqProofs only [↓GP, GB, GL, Nat.reduceAdd, Nat.reduceSub, Nat.reduceEqDiff, Nat.reduceMul, Nat.reduceLeDiff, Int.reduceBNe, Int.reduceBEq, Nat.reduceLT, reduceCtorEq, hw2]
      rw [hLL]
      exact is_loop mid h1 h2 hn hd hi q1 m (j + 1) s7 (by omega) k7.tl.tl.tl.tl

/-- A pair's heaps are alike in all that they tell. -/
theorem s38 {id n : Nat} {hv rv wv : V} (mid : (id, some (.cells [hv, rv, wv] none)) ∈ C) (h1 : hv.one = true) (h2 : hv.cells = [hv]) (hn : n ≤ 100000) (hd : ∀ s, Holds o s C → call PF 78 [rv] s = some (I n, s) ∧ call PF 27 [hv] s = some (I n, s))
    (hu : ∃ k : Nat, call PF 36 [hv] s = some (I k, s) ∧ call PF 79 [rv] s = some (I k, s)) (hb : ∀ s : St, againV rv rv s = some (.any, s)) (hi : ∀ i : Int, -1 ≤ i → i ≤ n → IsAt C id hv rv i) (H : Holds o s C) (q1 : ∀ s', Holds o s' C → Q (.bool true) s') : WP (call PF 38 [ptrN id] s) Q := by
  obtain ⟨k, k1, k2⟩ := hu
  rw [call_run F38]; simp -implicitDefEqProofs only [↓GP, GB, GL, Nat.reduceAdd, Nat.reduceSub, Nat.reduceEqDiff, Nat.reduceMul, Nat.reduceLeDiff, Int.reduceBNe, Int.reduceBEq, Nat.reduceLT, reduceCtorEq, c38, H.mem mid, hd s H, k1, k2, hb, bne_self_eq_false]
  refine is_loop mid h1 h2 hn (fun s h => (hd s h).1) hi (fun s1 g1 => ?_) (n + 2) 0 s (by omega) H
  simp -implicitDefEqProofs only [↓GP, GB, GL, Nat.reduceAdd, Nat.reduceSub, Nat.reduceEqDiff, Nat.reduceMul, Nat.reduceLeDiff, Int.reduceBNe, Int.reduceBEq, Nat.reduceLT, reduceCtorEq]
  exact q1 s1 g1
theorem pair_is (h : PairOk u others G) (hin : In C p G.hp) (rin : RIn C q G.hr) (mid : (G.id, some G.hd) ∈ C) (H : Holds o s C) (q1 : ∀ s', Holds o s' C → Q (.bool true) s') : WP (call PF 38 [ptrN G.id] s) Q := by
  have hl := h.plen
  have hp : ∀ g ∈ G.hp.regs, g.pages.length ≤ 400 := fun g hg => by have := (h.okp hg).2.1; simp only [PReg.m] at this; omega
  have hp' : ∀ g ∈ G.hr.regs, g.pages.length ≤ 400 := fun g hg => by have := (h.okr hg).2.1; simp only [RReg.m] at this; omega
  have hsame : G.hp.regs.map (·.pages) = G.hr.regs.map (·.pages) := by
    have := congrArg (List.map Reg.pages) h.same
    rwa [List.map_map, List.map_map] at this
  refine s38 (n := G.hp.regs.length) mid rfl rfl hl (fun s H => ⟨by rw [h.len]; exact s78 H rin h.rne, s27 H hin⟩) ⟨_, s36 H hin h.pne hl hp, by rw [hsame]; exact s79 H rin h.rne h.rlen hp'⟩ (fun s => againV_ptr _ s) (fun i h0 h1 => ?_) H q1
  by_cases hb : 0 ≤ i ∧ i < G.hp.regs.length
  · exact .inr ⟨u, others, G, p, q, i.toNat, h, hin, rin, mid, rfl, rfl, rfl, by omega, by omega⟩
  · exact .inl ⟨2, AtErr.of hin h.pne hl hb, RAtErr.of rin h.rne (by rw [← h.len]; exact hb)⟩
/-- Heaps that are gone. -/
theorem gone_is {id : Nat} {hv rv wv : V} (g : Gone C hv) (g' : RGone C rv) (mid : (id, some (.cells [hv, rv, wv] none)) ∈ C) (H : Holds o s C) (q1 : ∀ s', Holds o s' C → Q (.bool true) s') : WP (call PF 38 [ptrN id] s) Q := by
  have hv1 : hv.one = true ∧ hv.cells = [hv] := by rcases g with rfl | ⟨_, _, _, rfl, _⟩ <;> exact ⟨rfl, rfl⟩
  have hr1 : ∀ s, againV rv rv s = some (.any, s) := by rcases g' with rfl | ⟨_, _, _, rfl, _⟩ <;> exact fun s => againV_ptr _ s
  exact s38 (n := 0) mid hv1.1 hv1.2 (by omega) (fun s H => ⟨s78_gone H g', s27_gone H g⟩) ⟨0, s36_gone H g, s79_gone H g'⟩ hr1 (fun i _ _ => .inl ⟨6, .inl ⟨g, rfl⟩, .inl ⟨g', rfl⟩⟩) H q1
end
end Go.Proofs.Ytoldkemimhebaaa
