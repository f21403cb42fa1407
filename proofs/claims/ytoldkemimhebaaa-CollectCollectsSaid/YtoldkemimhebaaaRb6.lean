/- Proved here: the statement 'CollectCollects' of layer 16: for every list of acts and all lists of roots it returns true, never panics, and its input reads as before; without conditions. -/
import Derived.Deep.Grids
import Derived.Deep.Slices
import Derived.Test.YtoldkemimhebaaaRb5

set_option linter.unusedSimpArgs false
set_option linter.unusedVariables false
namespace Go.Proofs.Ytoldkemimhebaaa
open Go Go.IM
def l47_0 : IC := (.seq (.seq (.seq (.region [oa 59 (.mov (.t 15)), oa 60 (.mov (.t 12)), oa 61 (.lenSlice (.t 60)), oa 62 (.bin .lss (.t 59) (.t 61))] (kp 160 [0,1,6,8,9,10,11,12,14,15,62]))
  (.cond (.t 62)
  (sk 160 [0,1,6,8,9,10,11,12,14,15])
  (sx 160 [0,1,6,8,9,10,11,14] 2)))
  (.seq (.block 3
  (.seq (.region [oa 65 (.mov (.t 6)), oa 66 (.mov (.t 12)), oa 67 (.mov (.t 15)), oa 68 (.indexAddr 2 (.t 66) (.t 67)), oa 69 (.load (some 2) (.t 68)), oa 70 (.call 96 [(.t 65), (.t 69)])] (kp 160 [0,1,6,8,9,10,11,12,14,15,70]))
  (.cond (.t 70)
  (.region [oa 71 (.mov (.t 14)), oa 72 (.mov (.t 12)), oa 73 (.mov (.t 15)), oa 74 (.indexAddr 2 (.t 72) (.t 73)), oa 75 (.load (some 2) (.t 74)), oa 76 (.buildSlice 1 [(.int .i64 (0)), (.int .i64 (0))] [(0, 2, (.t 75))]), oa 77 (.append 2 16 (.t 71) (.t 76)), oa 14 (.mov (.t 77))] (kp 160 [0,1,6,8,9,10,11,12,14,15]))
  (sk 160 [0,1,6,8,9,10,11,12,14,15]))))
  (.region [oa 63 (.mov (.t 15)), oa 64 (.bin .add (.t 63) (ai 1)), oa 15 (.mov (.t 64))] (kp 160 [0,1,6,8,9,10,11,12,14,15]))))
  (sk 160 [0,1,6,8,9,10,11,12,14,15]))
def j47_1xabaabbbb : IC := (.seq (.region [oa 79 (.mov (.t 0)), oa 80 (.mov (.t 11)), oa 81 (.mov (.t 14)), oa 82 (.call 97 [(.t 79), (.t 80), (.t 81)]), oa 78 (.mov (.t 82)), oa 83 (.extract (.t 78) 0), oa 84 (.extract (.t 78) 1), oa 16 (.mov (.t 83)), oa 17 (.mov (.t 84))] (kp 160 [0,1,6,8,9,10,11,14,16]))
  (.seq (.region [oa 85 (.mov (.t 9)), oa 86 (.mov (.t 14)), oa 87 (.append 2 16 (.t 85) (.t 86)), oa 9 (.mov (.t 87))] (kp 160 [0,1,6,8,9,10,11,16]))
  (.region [oa 88 (.mov (.t 10)), oa 89 (.mov (.t 16)), oa 90 (.append 2 16 (.t 88) (.t 89)), oa 10 (.mov (.t 90))] (kp 160 [0,1,6,8,9,10,11]))))
def l47_1 : IC := (.seq (.seq (.seq (.region [oa 35 (.mov (.t 11)), oa 36 (.mov (.t 0)), oa 37 (.nilCheck (.t 36)), oa 38 (.fieldAddr 1 (.t 37)), oa 39 (.load none (.t 38)), oa 40 (.lenSlice (.t 39)), oa 41 (.bin .lss (.t 35) (.t 40))] (kp 160 [0,1,6,8,9,10,11,41]))
  (.cond (.t 41)
  (sk 160 [0,1,6,8,9,10,11])
  (sx 160 [0,1,8,9,10] 0)))
  (.seq (.block 1
  (.seq (.seq (.region [oa 44 (.mov (.t 0)), oa 45 (.nilCheck (.t 44)), oa 46 (.fieldAddr 1 (.t 45)), oa 47 (.load none (.t 46)), oa 48 (.mov (.t 11)), oa 49 (.indexAddr 5 (.t 47) (.t 48)), oa 50 (.fieldAddr 0 (.t 49)), oa 51 (.load none (.t 50)), oa 52 (.bin .gtr (.t 51) (ai 0))] (kp 160 [0,1,6,8,9,10,11,52]))
  (.cond (.t 52)
  (sx 160 [0,1,6,8,9,10,11] 1)
  (sk 160 [0,1,6,8,9,10,11])))
  (.seq (.region [oa 54 (.mov (.t 0)), oa 55 (.mov (.t 11)), oa 56 (.call 81 [(.t 54), (.t 55)]), oa 53 (.mov (.t 56)), oa 57 (.extract (.t 53) 0), oa 58 (.extract (.t 53) 1), oa 12 (.mov (.t 57)), oa 13 (.mov (.t 58))] (kp 160 [0,1,6,8,9,10,11,12]))
  (.seq (.region [oa 14 (.mov (.c (.slice none 0 (some 0))))] (kp 160 [0,1,6,8,9,10,11,12,14]))
  (.seq (.seq (.region [oa 15 (.mov (ai 0))] (kp 160 [0,1,6,8,9,10,11,12,14,15]))
  (.block 2
  (.seq (sk 160 [0,1,6,8,9,10,11,12,14,15])
  (.loop l47_0))))
  j47_1xabaabbbb)))))
  (.region [oa 42 (.mov (.t 11)), oa 43 (.bin .add (.t 42) (ai 1)), oa 11 (.mov (.t 43))] (kp 160 [0,1,6,8,9,10,11]))))
  (sk 160 [0,1,6,8,9,10,11]))
def l47_2 : IC := (.seq (.seq (.seq (.region [oa 125 (.mov (.t 21)), oa 126 (.mov (.t 20)), oa 127 (.lenSlice (.t 126)), oa 128 (.bin .lss (.t 125) (.t 127))] (kp 160 [0,1,8,9,10,18,19,20,21,128]))
  (.cond (.t 128)
  (sk 160 [0,1,8,9,10,18,19,20,21])
  (sx 160 [0,1,8,9,10,18,19] 8)))
  (.seq (.block 9
  (.region [oa 131 (.mov (.t 20)), oa 132 (.mov (.t 21)), oa 133 (.mov (.t 8)), oa 134 (.mov (.t 9)), oa 135 (.mov (.t 10)), oa 136 (.mov (.t 20)), oa 137 (.mov (.t 21)), oa 138 (.indexAddr 2 (.t 136) (.t 137)), oa 139 (.load (some 2) (.t 138)), oa 140 (.call 98 [(.t 133), (.t 134), (.t 135), (.t 139)]), oa 141 (.indexAddr 2 (.t 131) (.t 132)), ob (.store 2 (.t 141) (.t 140))] (kp 160 [0,1,8,9,10,18,19,20,21])))
  (.region [oa 129 (.mov (.t 21)), oa 130 (.bin .add (.t 129) (ai 1)), oa 21 (.mov (.t 130))] (kp 160 [0,1,8,9,10,18,19,20,21]))))
  (sk 160 [0,1,8,9,10,18,19,20,21]))
def l47_3 : IC := (.seq (.seq (.seq (.region [oa 100 (.mov (.t 19)), oa 101 (.mov (.t 0)), oa 102 (.nilCheck (.t 101)), oa 103 (.fieldAddr 1 (.t 102)), oa 104 (.load none (.t 103)), oa 105 (.mov (.t 18)), oa 106 (.indexAddr 5 (.t 104) (.t 105)), oa 107 (.fieldAddr 4 (.t 106)), oa 108 (.load none (.t 107)), oa 109 (.lenSlice (.t 108)), oa 110 (.bin .lss (.t 100) (.t 109))] (kp 160 [0,1,8,9,10,18,19,110]))
  (.cond (.t 110)
  (sk 160 [0,1,8,9,10,18,19])
  (sx 160 [0,1,8,9,10,18] 6)))
  (.seq (.block 7
  (.seq (.region [oa 113 (.mov (.t 0)), oa 114 (.nilCheck (.t 113)), oa 115 (.fieldAddr 1 (.t 114)), oa 116 (.load none (.t 115)), oa 117 (.mov (.t 18)), oa 118 (.indexAddr 5 (.t 116) (.t 117)), oa 119 (.fieldAddr 4 (.t 118)), oa 120 (.load none (.t 119)), oa 121 (.mov (.t 19)), oa 122 (.indexAddr 3 (.t 120) (.t 121)), oa 123 (.fieldAddr 2 (.t 122)), oa 124 (.load none (.t 123)), oa 20 (.mov (.t 124))] (kp 160 [0,1,8,9,10,18,19,20]))
  (.seq (.region [oa 21 (.mov (ai 0))] (kp 160 [0,1,8,9,10,18,19,20,21]))
  (.block 8
  (.seq (sk 160 [0,1,8,9,10,18,19,20,21])
  (.loop l47_2))))))
  (.region [oa 111 (.mov (.t 19)), oa 112 (.bin .add (.t 111) (ai 1)), oa 19 (.mov (.t 112))] (kp 160 [0,1,8,9,10,18,19]))))
  (sk 160 [0,1,8,9,10,18,19]))
def l47_4 : IC := (.seq (.seq (.seq (.region [oa 91 (.mov (.t 18)), oa 92 (.mov (.t 0)), oa 93 (.nilCheck (.t 92)), oa 94 (.fieldAddr 1 (.t 93)), oa 95 (.load none (.t 94)), oa 96 (.lenSlice (.t 95)), oa 97 (.bin .lss (.t 91) (.t 96))] (kp 160 [0,1,8,9,10,18,97]))
  (.cond (.t 97)
  (sk 160 [0,1,8,9,10,18])
  (sx 160 [1,8,9,10] 4)))
  (.seq (.block 5
  (.seq (.region [oa 19 (.mov (ai 0))] (kp 160 [0,1,8,9,10,18,19]))
  (.block 6
  (.seq (sk 160 [0,1,8,9,10,18,19])
  (.loop l47_3)))))
  (.region [oa 98 (.mov (.t 18)), oa 99 (.bin .add (.t 98) (ai 1)), oa 18 (.mov (.t 99))] (kp 160 [0,1,8,9,10,18]))))
  (sk 160 [0,1,8,9,10,18]))
def l47_5 : IC := (.seq (.seq (.seq (.region [oa 142 (.mov (.t 23)), oa 143 (.mov (.t 1)), oa 144 (.lenSlice (.t 143)), oa 145 (.bin .lss (.t 142) (.t 144))] (kp 160 [1,8,9,10,22,23,145]))
  (.cond (.t 145)
  (sk 160 [1,8,9,10,22,23])
  (sx 160 [22] 10)))
  (.seq (.block 11
  (.region [oa 148 (.mov (.t 22)), oa 149 (.mov (.t 8)), oa 150 (.mov (.t 9)), oa 151 (.mov (.t 10)), oa 152 (.mov (.t 1)), oa 153 (.mov (.t 23)), oa 154 (.indexAddr 2 (.t 152) (.t 153)), oa 155 (.load (some 2) (.t 154)), oa 156 (.call 98 [(.t 149), (.t 150), (.t 151), (.t 155)]), oa 157 (.buildSlice 1 [(.int .i64 (0)), (.int .i64 (0))] [(0, 2, (.t 156))]), oa 158 (.append 2 16 (.t 148) (.t 157)), oa 22 (.mov (.t 158))] (kp 160 [1,8,9,10,22,23])))
  (.region [oa 146 (.mov (.t 23)), oa 147 (.bin .add (.t 146) (ai 1)), oa 23 (.mov (.t 147))] (kp 160 [1,8,9,10,22,23]))))
  (sk 160 [1,8,9,10,22,23]))
def j47_bbbbbbbbb : IC := (.seq (.region [oa 159 (.mov (.t 22)), oa 4 (.mov (.t 159)), oa 5 (.mov (ai 0))] (kp 160 [4,5]))
  (sr 160 [4,5]))
def j47_bbbbbbb : IC := (.seq (.region [oa 22 (.mov (.c (.slice none 0 (some 0))))] (kp 160 [1,8,9,10,22]))
  (.seq (.seq (.region [oa 23 (.mov (ai 0))] (kp 160 [1,8,9,10,22,23]))
  (.block 10
  (.seq (sk 160 [1,8,9,10,22,23])
  (.loop l47_5))))
  j47_bbbbbbbbb))
def j47_bbbbbb : IC := (.seq (.seq (.region [oa 18 (.mov (ai 0))] (kp 160 [0,1,8,9,10,18]))
  (.block 4
  (.seq (sk 160 [0,1,8,9,10,18])
  (.loop l47_4))))
  j47_bbbbbbb)
def c47 : IFn := ⟨160, [(4, none), (5, none)],
  (.seq (.region [oa 4 (.mov (.c (.slice none 0 (some 0)))), oa 5 (.mov (ai 0))] (kp 160 [0,1]))
  (.seq (.region [oa 25 (.mov (.t 0)), oa 26 (.mov (.t 1)), oa 27 (.call 52 [(.t 25), (.t 26)]), oa 24 (.mov (.t 27)), oa 28 (.extract (.t 24) 0), oa 29 (.extract (.t 24) 1), oa 6 (.mov (.t 28)), oa 7 (.mov (.t 29))] (kp 160 [0,1,6,7]))
  (.seq (.seq (.region [oa 30 (.mov (.t 7)), oa 31 (.bin .neq (.t 30) (ai 0))] (kp 160 [0,1,6,7,31]))
  (.cond (.t 31)
  (.seq (.region [oa 32 (.mov (.t 7)), oa 4 (.mov (.c (.slice none 0 (some 0)))), oa 5 (.mov (.t 32))] (kp 160 [4,5]))
  (sr 160 [4,5]))
  (sk 160 [0,1,6])))
  (.seq (.region [oa 33 (.mov (.t 0)), oa 34 (.call 95 [(.t 33)]), oa 8 (.mov (.t 34))] (kp 160 [0,1,6,8]))
  (.seq (.region [oa 9 (.mov (.c (.slice none 0 (some 0)))), oa 10 (.mov (.c (.slice none 0 (some 0))))] (kp 160 [0,1,6,8,9,10]))
  (.seq (.seq (.region [oa 11 (.mov (ai 0))] (kp 160 [0,1,6,8,9,10,11]))
  (.block 0
  (.seq (sk 160 [0,1,6,8,9,10,11])
  (.loop l47_1))))
  j47_bbbbbb))))))⟩
theorem F47 : shutF Try.prog 47 = some c47 := by kernel_rfl
theorem noPages {g : Reg} (h : RInv g) (hs : g.size = 0) (hp : g.pages = []) : g.objs = [] ∧ g.fill = 0 := by
  have hf := (h.inf hs).facts h.os
  have h2 := (h.inf hs).fold
  rw [hp] at hf h2
  have h3 : g.objs = [] := by
    have := hf.2.2.1
    rw [List.length_map] at this
    simp at this
    exact List.length_eq_zero_iff.1 (by simpa using this)
  rw [h3] at h2
  simp only [List.map_nil, List.foldl_nil, Prod.mk.injEq] at h2
  exact ⟨h3, h2.2.symm⟩
theorem rfind_has {rs : List RReg} {g : RReg} {w : Int × Int} (hn : (rs.map (·.life)).Nodup) (hg : g ∈ rs) (h1 : 1 ≤ g.life) (hw : w ∈ wordsR g.m) : ∃ a b, rfind w.1 w.2 rs 0 = some (a, b) ∧ rs[a]? = some g := by
  obtain ⟨A, B, rfl⟩ := List.append_of_mem hg
  obtain ⟨y, hy, rfl⟩ := List.mem_map.1 hw
  obtain ⟨x, hx, rfl⟩ := List.mem_map.1 hy
  show ∃ a b, rfind (x.b.at_ : Int) (g.life : Int) (A ++ g :: B) 0 = some (a, b) ∧ _
  rw [rfind_at hn h1]
  cases h : g.objs.findIdx? fun z => decide ((z.b.at_ : Int) = (x.b.at_ : Int)) with
  | none =>
    have := List.findIdx?_eq_none_iff.1 h x hx
    simp at this
  | some k => exact ⟨A.length, k, rfl, by simp⟩
theorem moved_now {hc : RHeap} {rs : List Reg} {fr tt : List (Int × Int)} {S : ColS} {lv : Nat} {u : List Bool} (hm : hc.regs.map RReg.m = rs) (h : RsOk lv u rs) (hmv : ∀ w, lookW fr tt w = S.mv w) (hfx : ∀ w, w ∈ S.fx ↔ ∃ g ∈ rs, ¬ 0 < g.pages.length ∧ w ∈ wordsR g) (w : Int × Int) :
    movedR hc fr tt w = nowW S.mv S.fx w := by
  unfold movedR nowW
  rw [hmv]
  have hn : (hc.regs.map (·.life)).Nodup := by
    have := h.inv.nodup
    rw [← hm, List.map_map] at this
    exact this
  have key : finR hc w = decide (w ∈ S.fx) := by
    unfold finR
    cases hf : rfind w.1 w.2 hc.regs 0 with
    | none =>
      refine (decide_eq_false fun m => ?_).symm
      obtain ⟨g0, hg0, _, hw⟩ := (hfx w).1 m
      rw [← hm] at hg0
      obtain ⟨g, hg, rfl⟩ := List.mem_map.1 hg0
      obtain ⟨a, b, e, _⟩ := rfind_has hn hg (h.inv.life g.m (hm ▸ List.mem_map.2 ⟨g, hg, rfl⟩)).1 hw
      rw [hf] at e; cases e
    | some ab =>
      obtain ⟨a, b⟩ := ab
      obtain ⟨g, x, _, k2, k3, k4, k5, _⟩ := rfind_some hf
      rw [Nat.sub_zero] at k2
      simp only [k2]
      have hg := List.mem_of_getElem? k2
      have hgm : g.m ∈ rs := hm ▸ List.mem_map.2 ⟨g, hg, rfl⟩
      have hri := h.inv.reg g.m hgm
      have hw : w ∈ wordsR g.m := List.mem_map.2 ⟨x.b, List.mem_map.2 ⟨x, List.mem_of_getElem? k3, rfl⟩, Prod.ext k5 k4⟩
      by_cases hs : 0 < g.size
      · rw [decide_eq_true hs]
        exact (decide_eq_true ((hfx w).2 ⟨g.m, hgm, by have := (hri.fin hs).1; rw [this]; simp, hw⟩)).symm
      · rw [decide_eq_false hs]
        refine (decide_eq_false fun m => ?_).symm
        obtain ⟨g0, hg0, hp0, hw0⟩ := (hfx w).1 m
        have : g0 = g.m := life_inj h.inv.nodup hg0 hgm (by have := wordsR_life hw; have := wordsR_life hw0; omega)
        subst this
        have := (noPages hri (by show g.size = 0; omega) (List.length_eq_zero_iff.1 (by omega))).1
        unfold wordsR at hw
        rw [this] at hw
        cases hw
  rw [key]
  by_cases h0 : w.2 = 0
  · rw [if_pos h0, if_pos h0]
  · rw [if_neg h0, if_neg h0]
    cases S.mv w with
    | some n => rfl
    | none => by_cases hw : w ∈ S.fx <;> simp [hw]
section
variable {o : Nat → Option O} {s : St} {C F : Ch} {Q : V → St → Prop} {p q t : Nat} {u : List Bool}
set_option maxRecDepth 10000
set_option maxHeartbeats 4000000
theorem words_rm (g : RReg) : g.objs.flatMap (rencP g.life) = (wordsR g.m).flatMap encW := by
  unfold wordsR
  show _ = List.flatMap encW (List.map _ (g.objs.map (·.b)))
  rw [List.map_map, List.flatMap_map]
  rfl
theorem words_rlen (g : RReg) : (wordsR g.m).length = g.objs.length := by simp [wordsR, RReg.m]
theorem keep47 {kl ko : Nat} {v0 v1 v8 v9 v10 v11 : V} {L W : List (Int × Int)} {m : Nat} {K : Kt} (ml : (kl, rowO 2 L.length (L.flatMap encW)) ∈ C) (hL : L.length ≤ 1000000) (hm : W.length = m) (mo : (ko, rowO 2 m (W.flatMap encW)) ∈ C) (hl : m ≤ 100000) :
    ∀ (n i k : Nat) (acc : List (Int × Int)) (s : St), i + n = m → acc.length ≤ i → Holds o s ((k, rowO 2 acc.length (acc.flatMap encW)) :: C) →
    (∀ s' k' R, R = acc ++ (W.drop i).filter (decide <| · ∈ L) → Holds o s' ((k', rowO 2 R.length (R.flatMap encW)) :: C) → WP (K (.exit 2) (sp 160 [(0, v0), (1, v1), (6, rowV kl L.length), (8, v8), (9, v9), (10, v10), (11, v11), (14, rowV k' R.length)]) s') Q) →
    WP (loop PF (.loop l47_0) (sp 160 [(0, v0), (1, v1), (6, rowV kl L.length), (8, v8), (9, v9), (10, v10), (11, v11), (12, rowV ko m), (14, rowV k acc.length), (15, I i)]) s K) Q
  | 0, i, k, acc, s, hi, ha, H, q => by
    have hlt : ¬ ((i : Int) < (m : Int)) := by omega
    refine wp_round fun LL hLL => ?_
    simp -implicitDefEqProofs only [↓GP, GB, GL, Nat.reduceAdd, Nat.reduceSub, Nat.reduceEqDiff, Nat.reduceMul, Nat.reduceLeDiff, Int.reduceBNe, Int.reduceBEq, Nat.reduceLT, reduceCtorEq, l47_0, hlt]
    exact q s k acc (by rw [List.drop_eq_nil_of_le (by omega)]; simp) H
  | n + 1, i, k, acc, s, hi, ha, H, q => by
    have hlt : ((i : Int) < (m : Int)) := by omega
    have hi' : i < W.length := by omega
    have hw1 := wrap_add1 (a := i) (by omega)
    have hix := ix_row (sz := 2) (k := ko) (n := m) (i := i) (kk := .i64) (by omega)
    have er : rowO 2 m (W.flatMap encW) = some (.cells (W.flatMap encW) (some 2)) := by unfold rowO; rw [if_neg (by omega)]
    have fr := H.mem (List.mem_cons_of_mem _ (er ▸ mo))
    have hld := ldN_tab (enc := encW) encW_len W (some 2) (List.getElem?_eq_getElem hi')
    rw [List.drop_eq_getElem_cons hi', List.filter_cons] at q
    generalize W[i] = w at q hld
    refine wp_round fun LL hLL => ?_
    simp -implicitDefEqProofs only [↓GP, GB, GL, Nat.reduceAdd, Nat.reduceSub, Nat.reduceEqDiff, Nat.reduceMul, Nat.reduceLeDiff, Int.reduceBNe, Int.reduceBEq, Nat.reduceLT, reduceCtorEq, l47_0, hlt, hix, fr, hld, encW]
    refine wp_in (s96 (w := w) H (List.mem_cons_of_mem _ ml) hL fun s1 h1 => ?_)
    have fr1 := h1.mem (List.mem_cons_of_mem _ (er ▸ mo))
    by_cases hw : w ∈ L
    · rw [decide_eq_true hw]
      rw [if_pos (by simpa using hw)] at q
      simp -implicitDefEqProofs only [↓GP, GB, GL, Nat.reduceAdd, Nat.reduceSub, Nat.reduceEqDiff, Nat.reduceMul, Nat.reduceLeDiff, Int.reduceBNe, Int.reduceBEq, Nat.reduceLT, reduceCtorEq, hix, fr1, hld, encW]
      refine wp_append (sz := 2) (bytes := 16) (m := 1) (cs := acc.flatMap encW) ((h1.alloc _).r1) (by rw [tab_len encW_len]) (new_cells' (alloc_new_same _ _) rfl) rfl rfl (by omega) (by unfold maxRow; omega) (by unfold maxRow; omega) fun k' s2 h2 => ?_
      simp -implicitDefEqProofs only [↓GP, GB, GL, Nat.reduceAdd, Nat.reduceSub, Nat.reduceEqDiff, Nat.reduceMul, Nat.reduceLeDiff, Int.reduceBNe, Int.reduceBEq, Nat.reduceLT, reduceCtorEq, hw1]
      rw [hLL]
      have hl1 : (acc ++ [w]).length = acc.length + 1 := by simp
      have := keep47 (K := K) (v0 := v0) (v1 := v1) (v8 := v8) (v9 := v9) (v10 := v10) (v11 := v11) ml hL hm mo hl n (i + 1) k' (acc ++ [w]) s2 (by omega) (by simp; omega) (by
        have h3 := h2.r1.tl
        rw [List.flatMap_append]; simpa [encW] using h3) fun s' k' R hR => q s' k' R (by rw [hR]; simp)
      rw [hl1] at this
      exact this
    · rw [decide_eq_false hw]
      rw [if_neg (by simpa using hw)] at q
      simp -implicitDefEqProofs only [↓GP, GB, GL, Nat.reduceAdd, Nat.reduceSub, Nat.reduceEqDiff, Nat.reduceMul, Nat.reduceLeDiff, Int.reduceBNe, Int.reduceBEq, Nat.reduceLT, reduceCtorEq, hw1]
      rw [hLL]
      exact keep47 ml hL hm mo hl n (i + 1) k acc s1 (by omega) (by omega) h1 q
theorem rrelay_b : ∀ (xs : List RObj) (ats : List Nat), (rrelay xs ats).map (·.b) = layObj (xs.map (·.b)) ats
  | [], _ => by simp [rrelay, layObj]
  | _ :: _, [] => by simp [rrelay, layObj]
  | x :: xs, a :: ats => by
    have := rrelay_b xs ats
    simp only [rrelay, layObj] at this
    simp only [rrelay, layObj, List.zipWith_cons_cons, List.map_cons, this]
theorem pick_kept {A B : List RReg} {g : RReg} {L : List (Int × Int)} (hn : ((A ++ g :: B).map (·.life)).Nodup) (h1 : 1 ≤ g.life) (hi : RInv g.m) :
    ∃ xs, rpick (A ++ g :: B) A.length 0 ((wordsR g.m).filter (decide <| · ∈ L)) = some xs ∧ xs.map (·.b) = keptM L g.m := by
  obtain ⟨g0, hm⟩ : ∃ g0 : PReg, g0.m = g.m := ⟨⟨0, 0, 0, 0, .map [] 0, g.size, g.life, g.fill, g.pages, g.objs.map fun x => ⟨0, 0, x.b⟩⟩, by simp [PReg.m, RReg.m]⟩
  have hd : (g0.objs.map (·.b.at_)).Nodup := by
    have := hi.nodup
    rw [← hm] at this
    simpa [PReg.m, List.map_map, Function.comp_def] using this
  have hps := pick_same (A := A) (B := B) hn h1 hm hd ((wordsR g.m).filter (decide <| · ∈ L)) 0
  have hpf := pick_filter (life := g0.life) (fun x => decide (((x.b.at_ : Int), (g0.life : Int)) ∈ L)) hd
  have hw : wordsP g0.life (g0.objs.filter fun x => decide (((x.b.at_ : Int), (g0.life : Int)) ∈ L)) = (wordsR g.m).filter (decide <| · ∈ L) := by
    rw [← hm, words_m]
    unfold wordsP; rw [List.filter_map]; rfl
  rw [hw] at hpf
  rw [List.drop_zero, hpf] at hps
  cases hr : rpick (A ++ g :: B) A.length 0 ((wordsR g.m).filter (decide <| · ∈ L)) with
  | none => rw [hr] at hps; exact hps.elim
  | some xs =>
    rw [hr] at hps
    simp only at hps
    exact ⟨xs, rfl, by rw [← hps, ← hm, kept_m]⟩
theorem colStep_skip {L : List (Int × Int)} {S : ColS} {g : Reg} (hp : ¬ 0 < g.pages.length) : colStep L S g = ⟨S.regs ++ [g], S.u, S.mv, S.fx ++ wordsR g, S.objs ++ wordsR g⟩ := by
  unfold colStep; rw [if_neg hp]
theorem regs47 {hr : RHeap} {kl lv hc r : Nat} {L : List (Int × Int)} {v1 : V} {K : Kt} (ml : (kl, rowO 2 L.length (L.flatMap encW)) ∈ F) (hL : L.length ≤ 1000000) (hlen : hr.regs.length ≤ 100000) :
    ∀ (n i kf kt : Nat) (D : List RReg) (S : ColS) (fr tt : List (Int × Int)) (s : St), i + n = hr.regs.length → D.map RReg.m = S.regs → ColInv L lv ((hr.regs.take i).map RReg.m) ((hr.regs.drop i).map RReg.m) S → (∀ w, lookW fr tt w = S.mv w) → (∀ w ∈ fr, ∃ g ∈ hr.regs.take i, (g.life : Int) = w.2) → fr.length ≤ 1000 * i → tt.length = fr.length →
    ((∀ g ∈ hr.regs, g.pages.length = 0 → g.pgk = 0) → ∀ g ∈ D, g.pages.length = 0 → g.pgk = 0) →
    Holds o s ((kf, rowO 2 fr.length (fr.flatMap encW)) :: (kt, rowO 2 fr.length (tt.flatMap encW)) :: (poolC q r S.u ++ (RHeap.ch q { hr with regs := D ++ hr.regs.drop i } ++ F))) →
    (∀ s' kf' kt' fr' tt' (D' : List RReg), D'.map RReg.m = (((hr.regs.drop i).map RReg.m).foldl (colStep L) S).regs → (∀ w, lookW fr' tt' w = (((hr.regs.drop i).map RReg.m).foldl (colStep L) S).mv w) → fr'.length ≤ 1000 * hr.regs.length → tt'.length = fr'.length →
      ((∀ g ∈ hr.regs, g.pages.length = 0 → g.pgk = 0) → ∀ g ∈ D', g.pages.length = 0 → g.pgk = 0) →
      Holds o s' ((kf', rowO 2 fr'.length (fr'.flatMap encW)) :: (kt', rowO 2 fr'.length (tt'.flatMap encW)) :: (poolC q r (((hr.regs.drop i).map RReg.m).foldl (colStep L) S).u ++ (RHeap.ch q { hr with regs := D' } ++ F))) →
      WP (K (.exit 0) (sp 160 [(0, ptrN hr.id), (1, v1), (8, ptrN hc), (9, rowV kf' fr'.length), (10, rowV kt' fr'.length)]) s') Q) →
    WP (loop PF (.loop l47_1) (sp 160 [(0, ptrN hr.id), (1, v1), (6, rowV kl L.length), (8, ptrN hc), (9, rowV kf fr.length), (10, rowV kt fr.length), (11, I i)]) s K) Q
  | 0, i, kf, kt, D, S, fr, tt, s, hi, hD, hI, hmv, hfr, hfl, htl, hz, H, k => by
    have hd : hr.regs.drop i = [] := List.drop_eq_nil_of_le (by omega)
    have hlt : ¬ ((i : Int) < (hr.regs.length : Int)) := by omega
    have hDl : D.length = i := by have := congrArg List.length hD; have h2 := congrArg List.length hI.lives; simp at this h2; omega
    have rin : RIn ((kf, rowO 2 fr.length (fr.flatMap encW)) :: (kt, rowO 2 fr.length (tt.flatMap encW)) :: (poolC q r S.u ++ (RHeap.ch q { hr with regs := D ++ hr.regs.drop i } ++ F))) q { hr with regs := D ++ hr.regs.drop i } :=
      ⟨fun x hx => List.mem_cons_of_mem _ (List.mem_cons_of_mem _ (List.mem_append_right _ (List.mem_append_left _ hx)))⟩
    have f := H.mem rin.id
    have hrl : (D ++ hr.regs.drop i).length = hr.regs.length := by rw [hd]; simp; omega
    have hrvl := RHeap.rv_len { hr with regs := D ++ hr.regs.drop i }
    simp only [hrl] at hrvl
    simp only [RHeap.hd] at f
    refine wp_round fun LL hLL => ?_
    simp -implicitDefEqProofs only [↓GP, GB, GL, Nat.reduceAdd, Nat.reduceSub, Nat.reduceEqDiff, Nat.reduceMul, Nat.reduceLeDiff, Int.reduceBNe, Int.reduceBEq, Nat.reduceLT, reduceCtorEq, l47_1, f, hrvl, hlt]
    rw [hd] at H k
    rw [List.append_nil] at H
    exact k s kf kt fr tt D hD hmv (by omega) htl hz H
  | n + 1, i, kf, kt, D, S, fr, tt, s, hi, hD, hI, hmv, hfr, hfl, htl, hz, H, k => by
    have hi' : i < hr.regs.length := by omega
    have hlt : ((i : Int) < (hr.regs.length : Int)) := by omega
    have hw1 := wrap_add1 (a := i) (by omega)
    have hDl : D.length = i := by have := congrArg List.length hD; have h2 := congrArg List.length hI.lives; simp at this h2; omega
    have hrl : (D ++ hr.regs.drop i).length = hr.regs.length := by simp; omega
    have hg0 := List.getElem?_eq_getElem hi'
    have hd : hr.regs.drop i = hr.regs[i] :: hr.regs.drop (i + 1) := List.drop_eq_getElem_cons hi'
    have htk : hr.regs.take (i + 1) = hr.regs.take i ++ [hr.regs[i]] := by rw [List.take_add_one, hg0]; rfl
    have mg0 := List.getElem_mem hi'
    generalize hr.regs[i] = g at hg0 hd htk mg0
    rw [hd] at hI H k hrl
    rw [List.map_cons] at hI
    have rin : RIn ((kf, rowO 2 fr.length (fr.flatMap encW)) :: (kt, rowO 2 fr.length (tt.flatMap encW)) :: (poolC q r S.u ++ (RHeap.ch q { hr with regs := D ++ g :: hr.regs.drop (i + 1) } ++ F))) q { hr with regs := D ++ g :: hr.regs.drop (i + 1) } :=
      ⟨fun x hx => List.mem_cons_of_mem _ (List.mem_cons_of_mem _ (List.mem_append_right _ (List.mem_append_left _ hx)))⟩
    have f := H.mem rin.id
    have frw := H.mem rin.row
    have hg : ({ hr with regs := D ++ g :: hr.regs.drop (i + 1) } : RHeap).regs[i]? = some g := by simp [← hDl]
    have hrvl := RHeap.rv_len { hr with regs := D ++ g :: hr.regs.drop (i + 1) }
    simp only [hrl] at hrvl
    simp only [RHeap.hd] at f
    have hstep := hI.step
    rw [show (hr.regs.take i).map RReg.m ++ [g.m] = (hr.regs.take (i + 1)).map RReg.m by rw [htk]; simp] at hstep
    have hR := hI.ok
    have hgm : g.m ∈ S.regs ++ g.m :: (hr.regs.drop (i + 1)).map RReg.m := by simp
    have hri := hR.inv.reg g.m hgm
    rw [List.map_cons, List.foldl_cons] at k
    by_cases hs : 0 < g.size
    · have hsz : ((g.size : Int) > 0) := by omega
      have hp : ¬ 0 < g.m.pages.length := by rw [(hri.fin hs).1]; simp
      have e := colStep_skip (L := L) (S := S) hp
      refine wp_round fun LL hLL => ?_
      simp -implicitDefEqProofs only [↓GP, GB, GL, Nat.reduceAdd, Nat.reduceSub, Nat.reduceEqDiff, Nat.reduceMul, Nat.reduceLeDiff, Int.reduceBNe, Int.reduceBEq, Nat.reduceLT, reduceCtorEq, l47_1, f, frw, hrvl, rreg hg, hlt, hsz, hw1]
      rw [hLL]
      refine regs47 (r := r) (hc := hc) ml hL hlen n (i + 1) kf kt (D ++ [g]) (colStep L S g.m) fr tt s (by omega) (by rw [e, List.map_append, hD]; rfl) hstep (by rw [e]; exact hmv) (fun w hw => ?_) (by omega) htl (fun hz0 x hx => ?_) ?_ k
      · obtain ⟨g1, h1, h2⟩ := hfr w hw
        exact ⟨g1, by rw [htk]; exact List.mem_append_left _ h1, h2⟩
      · rcases List.mem_append.1 hx with hx | hx
        · exact hz hz0 x hx
        · simp at hx; subst hx; exact hz0 x mg0
      · rw [e, List.append_assoc]; exact H
    · have hs0 : g.size = 0 := by omega
      have hsz : ¬ ((g.size : Int) > 0) := by omega
      have hnob := hri.nobjs
      have hsb := sub_flatMap (fun r : Reg => r.pages) hgm
      have hpl0 := hR.pool.sub_len hsb
      have hul := hR.ulen
      have hgl : g.objs.length ≤ 1000 := by simp only [RReg.m, List.length_map] at *; omega
      refine wp_round fun LL hLL => ?_
      simp -implicitDefEqProofs only [↓GP, GB, GL, Nat.reduceAdd, Nat.reduceSub, Nat.reduceEqDiff, Nat.reduceMul, Nat.reduceLeDiff, Int.reduceBNe, Int.reduceBEq, Nat.reduceLT, reduceCtorEq, l47_1, f, frw, hrvl, rreg hg, hlt, hsz]
      refine wp_in (s81 (hr := { hr with regs := D ++ g :: hr.regs.drop (i + 1) }) H rin hg (by omega) fun s1 ko h1 => ?_)
      rw [words_rm] at h1
      simp -implicitDefEqProofs only [↓GP, GB, GL, Nat.reduceAdd, Nat.reduceSub, Nat.reduceEqDiff, Nat.reduceMul, Nat.reduceLeDiff, Int.reduceBNe, Int.reduceBEq, Nat.reduceLT, reduceCtorEq]
      rw [← rowV_z 0, I0]
      have h1' := h1.nilEntry 0
      refine keep47 (acc := []) (L := L) (W := wordsR g.m) (m := g.objs.length) (List.mem_cons_of_mem _ (List.mem_cons_of_mem _ (List.mem_cons_of_mem _ (List.mem_append_right _ (List.mem_append_right _ ml))))) hL (words_rlen g) (List.mem_cons_self ..) (by omega) g.objs.length 0 0 s1 (by omega) (by simp) h1' fun s2 kk W hW h2 => ?_
      rw [List.drop_zero, List.nil_append] at hW
      have hWn : ∀ w ∈ W, w.2 = g.life := fun w hw => by rw [hW] at hw; exact wordsR_life (List.mem_filter.1 hw).1
      have hWl : W.length ≤ 1000 := by rw [hW]; exact Nat.le_trans (List.length_filter_le ..) (by rw [words_rlen]; omega)
      have hln : ((D ++ g :: hr.regs.drop (i + 1)).map (·.life)).Nodup := by
        have := hR.inv.nodup
        rw [← hD, ← List.map_cons, ← List.map_append, List.map_map] at this
        exact this
      have hglf := hR.inv.life g.m hgm
      obtain ⟨xs, hpick, hxb⟩ := pick_kept (L := L) hln hglf.1 hri
      rw [← hW] at hpick
      obtain ⟨ats, u', fill', pages', hlay, hnd, hpl', hal, hul', hR'⟩ := hR.turn hs0 (ys := keptM L g.m) (List.filter_sublist ..)
      have hlay2 : layM 0 g.life (xs.map fun x => x.b.ws.length + 1) (freeP S.u g.pages) 0 [] = some (ats, u', fill', pages') := by
        rw [← hxb, List.map_map] at hlay; exact hlay
      have hxl : xs.length = ats.length := by rw [hal, ← hxb]; simp
      have hWx : W.length = ats.length := by
        rw [hal, hW, ← kept_words]; simp
      have hrok : RegOk S.u.length g.m := hri.ok (by have := hR.inv.lives; omega) (fun x hx => hR.pool.lt (hsb.subset hx)) (by omega) (by omega)
      have hobl : ∀ g0 ∈ ({ hr with regs := D ++ g :: hr.regs.drop (i + 1) } : RHeap).regs, g0.objs.length ≤ 5000 := fun g0 m0 => by
        have hm0 : g0.m ∈ S.regs ++ g.m :: (hr.regs.drop (i + 1)).map RReg.m := by
          rw [← hD, ← List.map_cons, ← List.map_append]; exact List.mem_map.2 ⟨g0, m0, rfl⟩
        have h1 := (hR.inv.reg g0.m hm0).nobjs
        have h2 := hR.pool.sub_len (sub_flatMap (fun r : Reg => r.pages) hm0)
        simp only [RReg.m, List.length_map] at *; omega
      have hagree : colStep L S g.m = ⟨S.regs ++ [{ g.m with fill := fill', pages := pages', objs := layObj (keptM L g.m) ats }], u', (W.zip (ats.map fun a : Nat => ((a : Int), (g.life : Int)))).foldl updF S.mv, (colStep L S g.m).fx, (colStep L S g.m).objs⟩ := by
        unfold colStep
        by_cases hp : 0 < g.m.pages.length
        · rw [if_pos hp, hlay]
          simp only
          rw [kept_words, ← hW]
          rfl
        · rw [if_neg hp]
          have hp0 : g.m.pages = [] := List.length_eq_zero_iff.1 (by omega)
          obtain ⟨n1, n2⟩ := noPages hri hs0 hp0
          have hk : keptM L g.m = [] := by unfold keptM; rw [n1]; rfl
          have hW0 : W = [] := by rw [hW, ← kept_words, hk]; rfl
          rw [hk] at hlay
          rw [hp0] at hlay
          simp only [List.map_nil, layM, Option.some.injEq, Prod.mk.injEq] at hlay
          obtain ⟨e1, e2, e3, e4⟩ := hlay
          subst e1 e3 e4
          rw [hW0]
          simp only [List.zip_nil_left, List.foldl_nil, ColS.mk.injEq, and_true, List.append_cancel_left_eq, List.cons.injEq]
          refine ⟨?_, by rw [← e2]; rfl⟩
          rw [hk]
          have : g.m = ⟨g.size, g.life, g.fill, g.pages, g.objs.map (·.b)⟩ := rfl
          rw [this] at n1 n2 hp0
          simp only at n1 n2 hp0
          simp [RReg.m, n1, n2, hp0, layObj]
      simp -implicitDefEqProofs only [↓GP, GB, GL, Nat.reduceAdd, Nat.reduceSub, Nat.reduceEqDiff, Nat.reduceMul, Nat.reduceLeDiff, Int.reduceBNe, Int.reduceBEq, Nat.reduceLT, reduceCtorEq, j47_1xabaabbbb]
      have h97 := fun Q' => s97 (o := o) (s := s2) (Q := Q') (hr := { hr with regs := D ++ g :: hr.regs.drop (i + 1) }) (p := q) (r := r) (wk := kk) (u := S.u) (A := D) (B := hr.regs.drop (i + 1)) (g := g) (ws := W) (xs := xs) (ats := ats) (u' := u') (fill' := fill') (pages' := pages')
        (F := (kk, rowO 2 W.length (W.flatMap encW)) :: (kf, rowO 2 fr.length (fr.flatMap encW)) :: (kt, rowO 2 fr.length (tt.flatMap encW)) :: F) (Holds.of (h2) (fun k => by simp +arith only [HA, HB]) (fun k x => by simp only [HA, HC]; grind only)) rfl (by simp only; omega) hobl (by omega) hrok (by omega) (List.mem_cons_self ..) hs0 hpick hlay2 (by omega)
      rw [hDl] at h97
      refine wp_in (h97 _ fun s3 pgk obk kn hz3 h3 => ?_)
      rw [rrelay_enc _ _ _ hxl.symm] at h3
      generalize hN : (ats.map fun a : Nat => ((a : Int), (g.life : Int))) = N at h3 hagree
      have hNl : N.length = W.length := by rw [← hN]; simp; omega
      generalize hgd : ({ g with pgk := pgk, obk := obk, fill := fill', pages := pages', objs := rrelay xs ats } : RReg) = g1 at h3
      have hg1m : g1.m = { g.m with fill := fill', pages := pages', objs := layObj (keptM L g.m) ats } := by
        subst hgd
        show (⟨g.size, g.life, fill', pages', (rrelay xs ats).map (·.b)⟩ : Reg) = _
        rw [rrelay_b, hxb]
        rfl
      have hnr : ∀ {k : Nat} {l : List (Int × Int)} {s : St}, Holds o s ((k, rowO 2 W.length (l.flatMap encW)) :: []) → W.length = 0 ∨ s.new k = some (.cells (l.flatMap encW) (some 2)) := fun {k l s} h => by
        rcases Nat.eq_zero_or_pos W.length with h0 | h0
        · exact .inl h0
        · rw [rowO_pos h0] at h; exact .inr h.g0
      simp -implicitDefEqProofs only [↓GP, GB, GL, Nat.reduceAdd, Nat.reduceSub, Nat.reduceEqDiff, Nat.reduceMul, Nat.reduceLeDiff, Int.reduceBNe, Int.reduceBEq, Nat.reduceLT, reduceCtorEq]
      refine wp_append (k := kf) (n := fr.length) (sz := 2) (bytes := 16) (m := W.length) (cs := fr.flatMap encW) (F := (kk, rowO 2 W.length (W.flatMap encW)) :: (kn, rowO 2 W.length (N.flatMap encW)) :: (kt, rowO 2 fr.length (tt.flatMap encW)) :: (poolC q r u' ++ (RHeap.ch q { hr with regs := D ++ g1 :: hr.regs.drop (i + 1) } ++ F))) (Holds.of (h3) (fun k => by simp +arith only [HA, HB]) (fun k x => by simp only [HA, HC]; grind only))
        (by rw [tab_len encW_len]) (new_row (hnr (Holds.of (h3) (fun k => by simp +arith only [HA, HB]) (fun k x => by simp only [HA, HC]; grind only))) (by rw [tab_len encW_len])) (by rw [tab_len encW_len]) (by rw [List.all_flatMap]; simp [encW, V.one]) (by omega) (by unfold maxRow; omega) (by unfold maxRow; omega) fun kf' s4 h4 => ?_
      simp -implicitDefEqProofs only [↓GP, GB, GL, Nat.reduceAdd, Nat.reduceSub, Nat.reduceEqDiff, Nat.reduceMul, Nat.reduceLeDiff, Int.reduceBNe, Int.reduceBEq, Nat.reduceLT, reduceCtorEq]
      refine wp_append (k := kt) (n := fr.length) (sz := 2) (bytes := 16) (m := W.length) (cs := tt.flatMap encW) (F := (kf', rowO 2 (fr.length + W.length) (fr.flatMap encW ++ W.flatMap encW)) :: (kn, rowO 2 W.length (N.flatMap encW)) :: (poolC q r u' ++ (RHeap.ch q { hr with regs := D ++ g1 :: hr.regs.drop (i + 1) } ++ F))) (Holds.of (h4) (fun k => by simp +arith only [HA, HB]) (fun k x => by simp only [HA, HC]; grind only))
        (by rw [tab_len encW_len, htl]) (new_row (hnr (Holds.of (h4) (fun k => by simp +arith only [HA, HB]) (fun k x => by simp only [HA, HC]; grind only))) (by rw [tab_len encW_len, hNl])) (by rw [tab_len encW_len, hNl]) (by rw [List.all_flatMap]; simp [encW, V.one]) (by omega) (by unfold maxRow; omega) (by unfold maxRow; omega) fun kt' s5 h5 => ?_
      simp -implicitDefEqProofs only [↓GP, GB, GL, Nat.reduceAdd, Nat.reduceSub, Nat.reduceEqDiff, Nat.reduceMul, Nat.reduceLeDiff, Int.reduceBNe, Int.reduceBEq, Nat.reduceLT, reduceCtorEq, hw1]
      rw [hLL]
      have hWnd : W.Nodup := by rw [hW]; exact (wordsR_nodup hri).sublist (List.filter_sublist ..)
      have hla : (fr ++ W).length = fr.length + W.length := by simp
      have := regs47 (K := K) (v1 := v1) (r := r) (hc := hc) ml hL hlen n (i + 1) kf' kt' (D ++ [g1]) (colStep L S g.m) (fr ++ W) (tt ++ N) s5 (by omega) (by rw [hagree, List.map_append, hD]; simp [hg1m]) hstep (fun w => ?_) (fun w hw => ?_) (by omega) (by simp; omega) (fun hz0 x hx => ?_) ?_ k
      · rw [hla] at this; exact this
      · rw [hagree, lookW_append w W N htl]
        show _ = ((W.zip N).foldl updF S.mv) w
        rw [look_upd w S.mv hWnd hNl, hmv]
        cases h1 : lookW W N w with
        | none => simp
        | some nn =>
          cases h2 : S.mv w with
          | none => simp
          | some mm =>
            rw [← hmv] at h2
            obtain ⟨g2, m2, e2⟩ := hfr w (lookW_mem h2).1
            have e3 := hWn w (lookW_mem h1).1
            have hnn := hR.inv.nodup
            rw [List.map_append, List.map_cons, hI.lives, List.nodup_append] at hnn
            exact (hnn.2.2 _ (List.mem_map.2 ⟨g2.m, List.mem_map.2 ⟨g2, m2, rfl⟩, rfl⟩) _ (List.mem_cons_self ..) (by show g2.life = g.life; omega)).elim
      · rcases List.mem_append.1 hw with hw | hw
        · obtain ⟨g2, m2, e2⟩ := hfr w hw
          exact ⟨g2, by rw [htk]; exact List.mem_append_left _ m2, e2⟩
        · exact ⟨g, by rw [htk]; exact List.mem_append_right _ (List.mem_cons_self ..), (hWn w hw).symm⟩
      · rcases List.mem_append.1 hx with hx | hx
        · exact hz hz0 x hx
        · simp at hx; subst hx; subst hgd; exact hz3
      · rw [hagree]
        show Holds o s5 (_ :: _ :: (poolC q r u' ++ _))
        exact (Holds.of (h5) (fun k => by simp +arith only [hla, List.append_assoc, List.flatMap_append, HA, HB]) (fun k x => by simp only [hla, List.append_assoc, List.flatMap_append, HA, HC]; grind only))
end
end Go.Proofs.Ytoldkemimhebaaa

set_option linter.unusedSimpArgs false
set_option linter.unusedVariables false
namespace Go.Proofs.Ytoldkemimhebaaa
open Go Go.IM
def skR (g : RReg) : Ch := [(g.pgk, pagesO g.pages), (g.obk, RReg.obO g.objs)]
def skH (q : Nat) (h : RHeap) : Ch := (h.id, some (h.hd q)) :: (h.rowk, some h.row) :: h.regs.flatMap skR
def wsH (h : RHeap) : List RObj := h.regs.flatMap (·.objs)
theorem regs_perm : ∀ rs : List RReg, (rs.flatMap RReg.ch).Perm (rs.flatMap skR ++ (rs.flatMap (·.objs)).flatMap RObj.ch)
  | [] => List.Perm.refl _
  | g :: rs => by
    have := regs_perm rs
    rw [List.flatMap_cons, List.flatMap_cons, List.flatMap_cons, List.flatMap_append]
    refine (List.Perm.append_left _ this).trans ?_
    unfold RReg.ch skR
    simp only [List.cons_append, List.nil_append, List.append_assoc]
    refine List.Perm.cons _ (List.Perm.cons _ ?_)
    exact List.perm_append_comm_assoc _ _ _
theorem ch_perm (q : Nat) (h : RHeap) : (h.ch q).Perm (skH q h ++ (wsH h).flatMap RObj.ch) := by
  unfold RHeap.ch skH wsH
  exact List.Perm.cons _ (List.Perm.cons _ (regs_perm h.regs))
def mapO (f : Int × Int → Int × Int) (x : RObj) : RObj := { x with b := { x.b with ws := x.b.ws.map f } }
def mapRR (f : Int × Int → Int × Int) (g : RReg) : RReg := { g with objs := g.objs.map (mapO f) }
theorem mapO_enc (f : Int × Int → Int × Int) (x : RObj) : (mapO f x).enc = x.enc := by simp [mapO, RObj.enc]
theorem mapRR_enc (f : Int × Int → Int × Int) (g : RReg) : (mapRR f g).enc = g.enc := by simp [mapRR, RReg.enc]
theorem mapRR_ob (f : Int × Int → Int × Int) (l : List RObj) : RReg.obO (l.map (mapO f)) = RReg.obO l := by
  unfold RReg.obO
  rw [List.length_map, List.flatMap_map]
  congr 1
  exact congrArg List.flatten (List.map_congr_left fun x _ => mapO_enc f x)
theorem mapRR_m (f : Int × Int → Int × Int) (g : RReg) : (mapRR f g).m = mapReg (List.map f) g.m := by
  simp only [mapRR, RReg.m, mapReg, List.map_map]
  congr 1
theorem skH_map (q : Nat) (f : Int × Int → Int × Int) (h : RHeap) : skH q { h with regs := h.regs.map (mapRR f) } = skH q h := by
  unfold skH RHeap.hd RHeap.rv RHeap.row
  simp only [List.length_map, List.flatMap_map]
  have e1 : h.regs.flatMap (fun a => RReg.enc (mapRR f a)) = h.regs.flatMap RReg.enc := congrArg List.flatten (List.map_congr_left fun g _ => mapRR_enc f g)
  have e2 : h.regs.flatMap (fun a => skR (mapRR f a)) = h.regs.flatMap skR := congrArg List.flatten (List.map_congr_left fun g _ => by
    unfold skR; simp only [mapRR]; rw [mapRR_ob])
  rw [e1, e2]
theorem wsH_map (f : Int × Int → Int × Int) (h : RHeap) : wsH { h with regs := h.regs.map (mapRR f) } = (wsH h).map (mapO f) := by
  unfold wsH
  rw [List.flatMap_map, List.map_flatMap]
  rfl
section
variable {o : Nat → Option O} {s : St} {C F : Ch} {Q : V → St → Prop} {p q : Nat}
set_option maxRecDepth 10000
set_option maxHeartbeats 4000000
theorem w47_2 {hc : RHeap} {kf kt wid : Nat} {gr : Bool} {v0 v1 v18 v19 : V} {fr tt ws : List (Int × Int)} {K : Kt} (h : RLook C p hc) (mf : (kf, rowO 2 fr.length (fr.flatMap encW)) ∈ C) (mt : (kt, rowO 2 fr.length (tt.flatMap encW)) ∈ C) (hl : fr.length ≤ 1000000) (htl : tt.length = fr.length) (hw : ws.length ≤ 31) :
    ∀ (n m : Nat) (s : St), m + n = ws.length → Holds o s ((wid, some (.cells (((ws.take m).map (movedR hc fr tt) ++ ws.drop m).flatMap encW) (cG gr 2))) :: C) →
    (∀ s', Holds o s' ((wid, some (.cells ((ws.map (movedR hc fr tt)).flatMap encW) (cG gr 2))) :: C) → WP (K (.exit 8) (sp 160 [(0, v0), (1, v1), (8, ptrN hc.id), (9, rowV kf fr.length), (10, rowV kt fr.length), (18, v18), (19, v19)]) s') Q) →
    WP (loop PF (.loop l47_2) (sp 160 [(0, v0), (1, v1), (8, ptrN hc.id), (9, rowV kf fr.length), (10, rowV kt fr.length), (18, v18), (19, v19), (20, cV gr wid ws.length), (21, I m)]) s K) Q
  | 0, m, s, hm, H, k => by
    have hlt : ¬ ((m : Int) < (ws.length : Int)) := by omega
    refine wp_round fun LL hLL => ?_
    simp -implicitDefEqProofs only [↓GP, GB, GL, Nat.reduceAdd, Nat.reduceSub, Nat.reduceEqDiff, Nat.reduceMul, Nat.reduceLeDiff, Int.reduceBNe, Int.reduceBEq, Nat.reduceLT, reduceCtorEq, l47_2, hlt]
    rw [List.take_of_length_le (by omega), List.drop_eq_nil_of_le (by omega), List.append_nil] at H
    exact k s H
  | n + 1, m, s, hm, H, k => by
    have hlt : ((m : Int) < (ws.length : Int)) := by omega
    have hm' : m < ws.length := by omega
    have hw1 := wrap_add1 (a := m) (by omega)
    have hv : ws[m]? = some ws[m] := List.getElem?_eq_getElem hm'
    have hgv : ((ws.take m).map (movedR hc fr tt) ++ ws.drop m)[m]? = some ws[m] := by rw [upd_get, hv]
    have hst := upd_step (movedR hc fr tt) hv
    generalize ws[m] = v at hv hgv hst
    have hlen : m < ((ws.take m).map (movedR hc fr tt) ++ ws.drop m).length := (List.getElem?_eq_some_iff.1 hgv).1
    have hll : ((ws.take m).map (movedR hc fr tt) ++ ws.drop m).length = ws.length := by simp; omega
    have hix := fun {kk : IntKind} => ix_cV (gr := gr) (sz := 2) (k := wid) (n := ws.length) (i := m) (kk := kk) hm'
    have f := H.f1
    have hld := ldN_tab (enc := encW) encW_len _ (cG gr 2) hgv
    refine wp_round fun LL hLL => ?_
    simp -implicitDefEqProofs only [↓GP, GB, GL, Nat.reduceAdd, Nat.reduceSub, Nat.reduceEqDiff, Nat.reduceMul, Nat.reduceLeDiff, Int.reduceBNe, Int.reduceBEq, Nat.reduceLT, reduceCtorEq, l47_2, hlt, hix, f, hld, encW]
    refine wp_in (s98 (w := v) H (h.cons _) (List.mem_cons_of_mem _ mf) (List.mem_cons_of_mem _ mt) hl htl fun s1 h1 => ?_)
    have f1 := h1.f1
    have hsc := fun s => stC_tab encW_len (fun _ => rfl) _ (cG gr 2) hlen (movedR hc fr tt v) wid s
    simp only [encW] at hsc
    simp -implicitDefEqProofs only [↓GP, GB, GL, Nat.reduceAdd, Nat.reduceSub, Nat.reduceEqDiff, Nat.reduceMul, Nat.reduceLeDiff, Int.reduceBNe, Int.reduceBEq, Nat.reduceLT, reduceCtorEq, hix, f1, hsc, hw1, encW]
    rw [hLL]
    refine w47_2 h mf mt hl htl hw n (m + 1) _ (by omega) ?_ k
    rw [← hst]
    exact h1.set0 _
def wsB (f : Int × Int → Int × Int) (X : List RObj) (b : Nat) : Ch := ((X.take b).map (mapO f) ++ X.drop b).flatMap RObj.ch
theorem w47_3 {hr hc : RHeap} {kf kt i base : Nat} {v1 : V} {fr tt : List (Int × Int)} {g : RReg} {X : List RObj} {K : Kt} (hsk : ∀ x ∈ skH q hr, x ∈ C) (hg : hr.regs[i]? = some g) (hol : g.objs.length ≤ 100000) (hws : ∀ x ∈ g.objs, x.b.ws.length ≤ 31)
    (h : RLook C p hc) (mf : (kf, rowO 2 fr.length (fr.flatMap encW)) ∈ C) (mt : (kt, rowO 2 fr.length (tt.flatMap encW)) ∈ C) (hl : fr.length ≤ 1000000) (htl : tt.length = fr.length) (hX : ∀ (j : Nat) x, g.objs[j]? = some x → X[base + j]? = some x) :
    ∀ (n j : Nat) (s : St), j + n = g.objs.length → Holds o s (wsB (movedR hc fr tt) X (base + j) ++ C) →
    (∀ s', Holds o s' (wsB (movedR hc fr tt) X (base + g.objs.length) ++ C) → WP (K (.exit 6) (sp 160 [(0, ptrN hr.id), (1, v1), (8, ptrN hc.id), (9, rowV kf fr.length), (10, rowV kt fr.length), (18, I i)]) s') Q) →
    WP (loop PF (.loop l47_3) (sp 160 [(0, ptrN hr.id), (1, v1), (8, ptrN hc.id), (9, rowV kf fr.length), (10, rowV kt fr.length), (18, I i), (19, I j)]) s K) Q
  | 0, j, s, hj, H, k => by
    have hlt : ¬ ((j : Int) < (g.objs.length : Int)) := by omega
    have f := H.mem (List.mem_append_right _ (hsk _ (List.mem_cons_self ..)))
    have frw := H.mem (List.mem_append_right _ (hsk _ (List.mem_cons_of_mem _ (List.mem_cons_self ..))))
    simp only [RHeap.hd] at f
    refine wp_round fun LL hLL => ?_
    simp -implicitDefEqProofs only [↓GP, GB, GL, Nat.reduceAdd, Nat.reduceSub, Nat.reduceEqDiff, Nat.reduceMul, Nat.reduceLeDiff, Int.reduceBNe, Int.reduceBEq, Nat.reduceLT, reduceCtorEq, l47_3, f, frw, rreg hg, hlt]
    rw [show j = g.objs.length by omega] at H
    exact k s H
  | n + 1, j, s, hj, H, k => by
    have hlt : ((j : Int) < (g.objs.length : Int)) := by omega
    have hj' : j < g.objs.length := by omega
    have hw1 := wrap_add1 (a := j) (by omega)
    have f := H.mem (List.mem_append_right _ (hsk _ (List.mem_cons_self ..)))
    have frw := H.mem (List.mem_append_right _ (hsk _ (List.mem_cons_of_mem _ (List.mem_cons_self ..))))
    have mo : (g.obk, RReg.obO g.objs) ∈ C := hsk _ (List.mem_cons_of_mem _ (List.mem_cons_of_mem _ (List.mem_flatMap.2 ⟨g, List.mem_of_getElem? hg, by simp [skR]⟩)))
    unfold RReg.obO at mo
    rw [rowO_pos (by omega : 0 < g.objs.length)] at mo
    have fo := H.mem (List.mem_append_right _ mo)
    simp only [RHeap.hd] at f
    have hx := List.getElem?_eq_getElem hj'
    have mx := List.getElem_mem hj'
    generalize g.objs[j] = x at hx mx
    have hXx := hX j x hx
    have hXl : base + j < X.length := (List.getElem?_eq_some_iff.1 hXx).1
    have hXd : X.drop (base + j) = x :: X.drop (base + j + 1) := by
      rw [List.drop_eq_getElem_cons hXl]; congr 1; exact (List.getElem?_eq_some_iff.1 hXx).2
    have hXt : X.take (base + j + 1) = X.take (base + j) ++ [x] := by rw [List.take_add_one, hXx]; rfl
    have hw31 := hws x mx
    refine wp_round fun LL hLL => ?_
    simp -implicitDefEqProofs only [↓GP, GB, GL, Nat.reduceAdd, Nat.reduceSub, Nat.reduceEqDiff, Nat.reduceMul, Nat.reduceLeDiff, Int.reduceBNe, Int.reduceBEq, Nat.reduceLT, reduceCtorEq, l47_3, f, frw, rreg hg, hlt, fo, robj hx, ix_row hj']
    rw [I0]
    have h1 : Holds o s ((x.wid, some (.cells (((x.b.ws.take 0).map (movedR hc fr tt) ++ x.b.ws.drop 0).flatMap encW) (cG x.gr 2))) :: (((X.take (base + j)).map (mapO (movedR hc fr tt))).flatMap RObj.ch ++ ((X.drop (base + j + 1)).flatMap RObj.ch ++ C))) := by
      unfold wsB at H
      rw [hXd] at H
      exact (Holds.of (H) (fun k => by simp +arith only [List.take_zero, List.map_nil, List.nil_append, List.drop_zero, HA, HB]) (fun k x => by simp only [List.take_zero, List.map_nil, List.nil_append, List.drop_zero, HA, HC]; grind only))
    have hup : ∀ y ∈ C, y ∈ ((X.take (base + j)).map (mapO (movedR hc fr tt))).flatMap RObj.ch ++ ((X.drop (base + j + 1)).flatMap RObj.ch ++ C) := fun y hy => List.mem_append_right _ (List.mem_append_right _ hy)
    refine w47_2 (h.mono hup) (hup _ mf) (hup _ mt) hl htl hw31 x.b.ws.length 0 s (by omega) h1 fun s1 h2 => ?_
    simp -implicitDefEqProofs only [↓GP, GB, GL, Nat.reduceAdd, Nat.reduceSub, Nat.reduceEqDiff, Nat.reduceMul, Nat.reduceLeDiff, Int.reduceBNe, Int.reduceBEq, Nat.reduceLT, reduceCtorEq, hw1]
    rw [hLL]
    refine w47_3 hsk hg hol hws h mf mt hl htl hX n (j + 1) s1 (by omega) ?_ k
    unfold wsB
    rw [← Nat.add_assoc, hXt]
    exact (Holds.of (h2) (fun k => by simp +arith only [List.map_append, List.map_cons, List.map_nil, mapO, HA, HB]) (fun k x => by simp only [List.map_append, List.map_cons, List.map_nil, mapO, HA, HC]; grind only))
theorem w47_4 {hr hc : RHeap} {kf kt : Nat} {v1 : V} {fr tt : List (Int × Int)} {K : Kt} (hsk : ∀ x ∈ skH q hr, x ∈ C) (hlen : hr.regs.length ≤ 100000) (hol : ∀ g ∈ hr.regs, g.objs.length ≤ 100000) (hws : ∀ g ∈ hr.regs, ∀ x ∈ g.objs, x.b.ws.length ≤ 31)
    (h : RLook C p hc) (mf : (kf, rowO 2 fr.length (fr.flatMap encW)) ∈ C) (mt : (kt, rowO 2 fr.length (tt.flatMap encW)) ∈ C) (hl : fr.length ≤ 1000000) (htl : tt.length = fr.length) :
    ∀ (n i : Nat) (s : St), i + n = hr.regs.length → Holds o s (wsB (movedR hc fr tt) (wsH hr) ((hr.regs.take i).flatMap (·.objs)).length ++ C) →
    (∀ s', Holds o s' (wsB (movedR hc fr tt) (wsH hr) (wsH hr).length ++ C) → WP (K (.exit 4) (sp 160 [(1, v1), (8, ptrN hc.id), (9, rowV kf fr.length), (10, rowV kt fr.length)]) s') Q) →
    WP (loop PF (.loop l47_4) (sp 160 [(0, ptrN hr.id), (1, v1), (8, ptrN hc.id), (9, rowV kf fr.length), (10, rowV kt fr.length), (18, I i)]) s K) Q
  | 0, i, s, hi, H, k => by
    have hlt : ¬ ((i : Int) < (hr.regs.length : Int)) := by omega
    have f := H.mem (List.mem_append_right _ (hsk _ (List.mem_cons_self ..)))
    simp only [RHeap.hd] at f
    refine wp_round fun LL hLL => ?_
    simp -implicitDefEqProofs only [↓GP, GB, GL, Nat.reduceAdd, Nat.reduceSub, Nat.reduceEqDiff, Nat.reduceMul, Nat.reduceLeDiff, Int.reduceBNe, Int.reduceBEq, Nat.reduceLT, reduceCtorEq, l47_4, f, hr.rv_len, hlt]
    rw [List.take_of_length_le (by omega)] at H
    exact k s H
  | n + 1, i, s, hi, H, k => by
    have hlt : ((i : Int) < (hr.regs.length : Int)) := by omega
    have hi' : i < hr.regs.length := by omega
    have hw1 := wrap_add1 (a := i) (by omega)
    have f := H.mem (List.mem_append_right _ (hsk _ (List.mem_cons_self ..)))
    simp only [RHeap.hd] at f
    have hg := List.getElem?_eq_getElem hi'
    have mg := List.getElem_mem hi'
    have htk : hr.regs.take (i + 1) = hr.regs.take i ++ [hr.regs[i]] := by rw [List.take_add_one, hg]; rfl
    have hsp : wsH hr = (hr.regs.take i).flatMap (·.objs) ++ (hr.regs[i].objs ++ (hr.regs.drop (i + 1)).flatMap (·.objs)) := by
      have := congrArg (List.flatMap fun g : RReg => g.objs) (List.take_append_drop i hr.regs)
      rw [List.flatMap_append, List.drop_eq_getElem_cons hi', List.flatMap_cons] at this
      exact this.symm
    generalize hr.regs[i] = g at hg mg htk hsp
    refine wp_round fun LL hLL => ?_
    simp -implicitDefEqProofs only [↓GP, GB, GL, Nat.reduceAdd, Nat.reduceSub, Nat.reduceEqDiff, Nat.reduceMul, Nat.reduceLeDiff, Int.reduceBNe, Int.reduceBEq, Nat.reduceLT, reduceCtorEq, l47_4, f, hr.rv_len, hlt]
    rw [I0]
    refine w47_3 (base := ((hr.regs.take i).flatMap (·.objs)).length) hsk hg (hol g mg) (hws g mg) h mf mt hl htl (fun j x hj => ?_) g.objs.length 0 s (by omega) H fun s1 h1 => ?_
    · rw [hsp, List.getElem?_append_right (by omega), Nat.add_sub_cancel_left, List.getElem?_append_left (List.getElem?_eq_some_iff.1 hj).1]
      exact hj
    · simp -implicitDefEqProofs only [↓GP, GB, GL, Nat.reduceAdd, Nat.reduceSub, Nat.reduceEqDiff, Nat.reduceMul, Nat.reduceLeDiff, Int.reduceBNe, Int.reduceBEq, Nat.reduceLT, reduceCtorEq, hw1]
      rw [hLL]
      refine w47_4 hsk hlen hol hws h mf mt hl htl n (i + 1) s1 (by omega) ?_ k
      rw [htk, List.flatMap_append, List.flatMap_cons, List.flatMap_nil, List.append_nil, List.length_append]
      exact h1
theorem out47 {hc : RHeap} {kf kt kr : Nat} {fr tt roots : List (Int × Int)} {K : Kt} (h : RLook C p hc) (mf : (kf, rowO 2 fr.length (fr.flatMap encW)) ∈ C) (mt : (kt, rowO 2 fr.length (tt.flatMap encW)) ∈ C) (hl : fr.length ≤ 1000000) (htl : tt.length = fr.length) (mr : (kr, rowO 2 roots.length (roots.flatMap encW)) ∈ C) (hrl : roots.length ≤ 1000) :
    ∀ (n i k : Nat) (s : St), i + n = roots.length → Holds o s ((k, rowO 2 i (((roots.take i).map (movedR hc fr tt)).flatMap encW)) :: C) →
    (∀ s' k', Holds o s' ((k', rowO 2 roots.length ((roots.map (movedR hc fr tt)).flatMap encW)) :: C) → WP (K (.exit 10) (sp 160 [(22, rowV k' roots.length)]) s') Q) →
    WP (loop PF (.loop l47_5) (sp 160 [(1, rowV kr roots.length), (8, ptrN hc.id), (9, rowV kf fr.length), (10, rowV kt fr.length), (22, rowV k i), (23, I i)]) s K) Q
  | 0, i, k, s, hi, H, q => by
    have hlt : ¬ ((i : Int) < (roots.length : Int)) := by omega
    have e : i = roots.length := by omega
    subst e
    rw [List.take_length] at H
    refine wp_round fun LL hLL => ?_
    simp -implicitDefEqProofs only [↓GP, GB, GL, Nat.reduceAdd, Nat.reduceSub, Nat.reduceEqDiff, Nat.reduceMul, Nat.reduceLeDiff, Int.reduceBNe, Int.reduceBEq, Nat.reduceLT, reduceCtorEq, l47_5, hlt]
    exact q s k H
  | n + 1, i, k, s, hi, H, q => by
    have hlt : ((i : Int) < (roots.length : Int)) := by omega
    have hi' : i < roots.length := by omega
    have hw1 := wrap_add1 (a := i) (by omega)
    have hix := ix_row (sz := 2) (k := kr) (n := roots.length) (i := i) (kk := .i64) hi'
    have er : rowO 2 roots.length (roots.flatMap encW) = some (.cells (roots.flatMap encW) (some 2)) := by unfold rowO; rw [if_neg (by omega)]
    have fr' := H.mem (List.mem_cons_of_mem _ (er ▸ mr))
    have hv := List.getElem?_eq_getElem hi'
    have hld := ldN_tab (enc := encW) encW_len roots (some 2) hv
    have htk : roots.take (i + 1) = roots.take i ++ [roots[i]] := by rw [List.take_add_one, hv]; rfl
    generalize roots[i] = w at hld htk
    refine wp_round fun LL hLL => ?_
    simp -implicitDefEqProofs only [↓GP, GB, GL, Nat.reduceAdd, Nat.reduceSub, Nat.reduceEqDiff, Nat.reduceMul, Nat.reduceLeDiff, Int.reduceBNe, Int.reduceBEq, Nat.reduceLT, reduceCtorEq, l47_5, hlt, hix, fr', hld, encW]
    refine wp_in (s98 (w := w) H (h.cons _) (List.mem_cons_of_mem _ mf) (List.mem_cons_of_mem _ mt) hl htl fun s1 h1 => ?_)
    simp -implicitDefEqProofs only [↓GP, GB, GL, Nat.reduceAdd, Nat.reduceSub, Nat.reduceEqDiff, Nat.reduceMul, Nat.reduceLeDiff, Int.reduceBNe, Int.reduceBEq, Nat.reduceLT, reduceCtorEq, encW]
    refine wp_append (sz := 2) (bytes := 16) (m := 1) (cs := ((roots.take i).map (movedR hc fr tt)).flatMap encW) ((h1.alloc _).r1) (by rw [tab_len encW_len]; simp; omega) (new_cells' (alloc_new_same _ _) rfl) rfl rfl (by omega) (by unfold maxRow; omega) (by unfold maxRow; omega) fun k' s2 h2 => ?_
    simp -implicitDefEqProofs only [↓GP, GB, GL, Nat.reduceAdd, Nat.reduceSub, Nat.reduceEqDiff, Nat.reduceMul, Nat.reduceLeDiff, Int.reduceBNe, Int.reduceBEq, Nat.reduceLT, reduceCtorEq, hw1]
    rw [hLL]
    refine out47 h mf mt hl htl mr hrl n (i + 1) k' s2 (by omega) ?_ q
    rw [htk, List.map_append, List.flatMap_append]
    exact h2.r1.tl
end
end Go.Proofs.Ytoldkemimhebaaa

set_option linter.unusedSimpArgs false
set_option linter.unusedVariables false
namespace Go.Proofs.Ytoldkemimhebaaa
open Go Go.IM
section
set_option maxRecDepth 10000
theorem sane16_0 : (match (LC PF 100 noY).2 41 [] ⟨fun _ => none, 0, fun _ => none⟩ with | some (.bool b, _) => b | _ => false) = true := by kernel_rfl
theorem sane16 (s : St) : ∃ t, call PF 41 [] s = some (.bool true, t) ∧ (∀ j, j < s.next → t.new j = s.new j) ∧ t.old = s.old ∧ s.next ≤ t.next := closed_at 100 sane16_0 s
end
end Go.Proofs.Ytoldkemimhebaaa

set_option linter.unusedSimpArgs false
set_option linter.unusedVariables false
namespace Go.Proofs.Ytoldkemimhebaaa
open Go Go.IM
section
variable {o : Nat → Option O} {s : St} {C F : Ch} {Q : V → St → Prop} {p r q t : Nat} {u : List Bool} {G : PairG}
set_option maxRecDepth 10000
set_option maxHeartbeats 4000000
theorem H0c (hs : s.old = o) : Holds o s [] := ⟨hs, List.nodup_nil, (fun k x m => by cases m), (fun k m => by cases m)⟩
theorem im_trueC {f : Nat} {args : List V} (h : WP (call PF f args s) fun v' _ => v' = .bool true) : ∃ st, call PF f args s = some (.bool true, st) := by
  obtain ⟨v', st, e, rfl⟩ := h
  exact ⟨st, e⟩
theorem longB_lenC {l : List (ActG × List Bool)} (h : longB l = false) : l.length ≤ 150 := by
  unfold longB at h
  rw [Bool.or_eq_false_iff] at h
  have := h.2
  simp at this; exact this
theorem longR_false {l : List (ActG × List Bool)} {n m : Nat} (h : longR l n m = false) : longB l = false ∧ n ≤ 40 ∧ m ≤ 20 := by
  unfold longR at h
  simp only [Bool.or_eq_false_iff, decide_eq_false_iff_not] at h
  exact ⟨h.1.1, by omega, by omega⟩
theorem all_len : ∀ gs : List PReg, (∀ g ∈ gs, g.objs.length ≤ 32 * g.pages.length + 1) → (gs.flatMap fun g => g.objs.map fun x => ((x.b.at_ : Int), (g.life : Int))).length ≤ 32 * ((gs.map PReg.m).flatMap (·.pages)).length + gs.length
  | [], _ => by simp
  | g :: gs, h => by
    have h1 := all_len gs fun x hx => h x (List.mem_cons_of_mem _ hx)
    have h2 := h g (List.mem_cons_self ..)
    simp only [List.flatMap_cons, List.map_cons, List.length_append, List.length_map, List.length_cons] at h1 ⊢
    have : g.m.pages.length = g.pages.length := rfl
    omega
theorem PairOk.rs (h : PairOk u [] G) : RsOk G.hp.lives u (G.hp.regs.map PReg.m) := ⟨h.ulen, h.inv, by have := h.pool; rwa [List.append_nil] at this⟩
theorem RsOk.all {hp : PHeap} {lv : Nat} (h : RsOk lv u (hp.regs.map PReg.m)) (hl : lv ≤ 151) : (allW hp).length ≤ 90000 ∧ hp.regs.length ≤ 151 := by
  have h1 := all_len hp.regs fun g hg => by
    have := (h.inv.reg g.m (List.mem_map.2 ⟨g, hg, rfl⟩)).nobjs
    simpa [PReg.m] using this
  have h2 := h.pool.len
  have h3 := h.ulen
  have h4 := h.inv.len
  rw [List.length_map] at h4
  unfold allW
  exact ⟨by omega, by omega⟩
end
end Go.Proofs.Ytoldkemimhebaaa

set_option linter.unusedSimpArgs false
set_option linter.unusedVariables false
namespace Go.Proofs.Ytoldkemimhebaaa
open Go Go.IM
section
variable {o : Nat → Option O} {s : St} {C F : Ch} {Q : V → St → Prop} {p q r : Nat} {u : List Bool}
set_option maxRecDepth 10000
set_option maxHeartbeats 4000000
theorem RsOk.pg {rs : List Reg} {lv : Nat} (h : RsOk lv u rs) {g : Reg} (hg : g ∈ rs) : g.pages.length ≤ 30 ∧ g.objs.length ≤ 1000 := by
  have h1 := (h.inv.reg g hg).nobjs
  have h2 := h.pool.sub_len (sub_flatMap (fun r : Reg => r.pages) hg)
  have h3 := h.ulen
  omega
theorem RsOk.rlook {hr : RHeap} {D : Ch} {lv : Nat} (h : RsOk lv u (hr.regs.map RReg.m)) (hD : ∀ y ∈ hr.ch p, y ∈ D) : RLook D p hr where
  rin := ⟨hD⟩
  ne := fun e => h.inv.ne (by rw [e]; rfl)
  len := by have h1 := h.inv.len; have h2 := h.inv.lives; rw [List.length_map] at h1; omega
  objs := fun g hg => by have := (h.pg (List.mem_map.2 ⟨g, hg, rfl⟩)).2; simp only [RReg.m, List.length_map] at this; omega
  ws := fun g hg x hx => by
    have := (h.inv.reg g.m (List.mem_map.2 ⟨g, hg, rfl⟩)).ws x.b (List.mem_map.2 ⟨x, hx, rfl⟩)
    exact ⟨this.1, this.2.1⟩
theorem sk_out {h : RHeap} {X Y : Ch} (H : Holds o s (X ++ (h.ch q ++ Y))) : Holds o s ((wsH h).flatMap RObj.ch ++ (skH q h ++ (X ++ Y))) := by
  refine H.perm ((List.perm_append_comm_assoc _ _ _).trans ?_)
  rw [← List.append_assoc ((wsH h).flatMap RObj.ch)]
  exact ((ch_perm q h).trans List.perm_append_comm).append_right _
theorem sk_in {h : RHeap} {Z : Ch} (H : Holds o s ((wsH h).flatMap RObj.ch ++ (skH q h ++ Z))) : Holds o s (h.ch q ++ Z) := by
  refine H.perm ?_
  rw [← List.append_assoc]
  exact (List.perm_append_comm.trans (ch_perm q h).symm).append_right _
theorem s47 {hp : PHeap} {hr : RHeap} {kr lv : Nat} {roots : List (Int × Int)} (H : Holds o s (poolC q r u ++ (hr.ch q ++ F))) (hm : hp.regs.map PReg.m = hr.regs.map RReg.m) (hR : RsOk lv u (hr.regs.map RReg.m)) (hu : 0 < u.length) (hlen : hr.regs.length ≤ 900) (hr' : (kr, rowO 2 roots.length (roots.flatMap encW)) ∈ F) (hrl : roots.length ≤ 1000) (hall : (allW hp).length ≤ 90000)
    (k : ∀ s' (D : List RReg) kout, D.map RReg.m = colRegs (reachW hp roots) (colAll (reachW hp roots) u (hr.regs.map RReg.m)) → ((∀ g ∈ hr.regs, g.pages.length = 0 → g.pgk = 0) → ∀ g ∈ D, g.pages.length = 0 → g.pgk = 0) →
      Holds o s' ((kout, rowO 2 roots.length ((roots.map (nowW (colAll (reachW hp roots) u (hr.regs.map RReg.m)).mv (colAll (reachW hp roots) u (hr.regs.map RReg.m)).fx)).flatMap encW)) :: (poolC q r (colAll (reachW hp roots) u (hr.regs.map RReg.m)).u ++ (RHeap.ch q { hr with regs := D } ++ F))) →
      Q (.tuple [rowV kout roots.length, I 0]) s') : WP (call PF 47 [ptrN hr.id, rowV kr roots.length] s) Q := by
  have rl : RLook (poolC q r u ++ (hr.ch q ++ F)) q hr := hR.rlook fun y hy => List.mem_append_right _ (List.mem_append_left _ hy)
  have hw : ∀ g ∈ hp.regs, ∀ x ∈ g.objs, x.b.ws.length ≤ 31 := fun g hg x hx => by
    have hgm : g.m ∈ hr.regs.map RReg.m := hm ▸ List.mem_map.2 ⟨g, hg, rfl⟩
    exact ((hR.inv.reg g.m hgm).ws x.b (List.mem_map.2 ⟨x, hx, rfl⟩)).2.1
  have hLp : ∀ w ∈ reachW hp roots, Points (hr.regs.map RReg.m) w := fun w hw => hm ▸ thereB_m ((Found.reach hp roots).there w hw)
  have hLn := (Found.reach hp roots).nodup
  have hLl : (reachW hp roots).length ≤ 90000 := Nat.le_trans (Found.reach hp roots).len hall
  have hul := hR.ulen
  have hpl : ∀ g ∈ hr.regs, g.pages.length ≤ 400 := fun g hg => by have := (hR.pg (List.mem_map.2 ⟨g, hg, rfl⟩)).1; simp only [RReg.m] at this; omega
  generalize hLd : reachW hp roots = L at *
  rw [call_run F47]; simp -implicitDefEqProofs only [↓GP, GB, GL, Nat.reduceAdd, Nat.reduceSub, Nat.reduceEqDiff, Nat.reduceMul, Nat.reduceLeDiff, Int.reduceBNe, Int.reduceBEq, Nat.reduceLT, reduceCtorEq, c47]
  refine wp_in (s52 H rl hm hw (List.mem_append_right _ (List.mem_append_right _ hr')) hrl hall fun s1 kl h1 => ?_)
  rw [hLd] at h1 ⊢
  simp -implicitDefEqProofs only [↓GP, GB, GL, Nat.reduceAdd, Nat.reduceSub, Nat.reduceEqDiff, Nat.reduceMul, Nat.reduceLeDiff, Int.reduceBNe, Int.reduceBEq, Nat.reduceLT, reduceCtorEq, Int.reduceBNe]
  refine wp_in (s95 (p := q) (r := r) (u := u) (C := (kl, rowO 2 L.length (L.flatMap encW)) :: (hr.ch q ++ F)) (Holds.of (h1) (fun k => by simp +arith only [HA, HB]) (fun k x => by simp only [HA, HC]; grind only)) (hR.rlook fun y hy => List.mem_cons_of_mem _ (List.mem_append_left _ hy)) ⟨hu, by omega⟩ hpl fun s2 hc p2 r2 e1 e2 e3 e4 h2 => ?_)
  simp -implicitDefEqProofs only [↓GP, GB, GL, Nat.reduceAdd, Nat.reduceSub, Nat.reduceEqDiff, Nat.reduceMul, Nat.reduceLeDiff, Int.reduceBNe, Int.reduceBEq, Nat.reduceLT, reduceCtorEq]
  rw [← rowV_z 0, I0]
  refine regs47 (q := q) (r := r) (hc := hc.id) (lv := lv) (F := (kl, rowO 2 L.length (L.flatMap encW)) :: (p2, some (.cells [rowV r2 u.length] none)) :: (r2, rowO 1 u.length (u.map .bool)) :: (hc.ch p2 ++ F)) (List.mem_cons_self ..) (by omega) (by omega) hr.regs.length 0 0 0 [] ⟨[], u, fun _ => none, [], []⟩ [] [] s2 (by omega) rfl
    (by rw [List.take_zero, List.drop_zero]; exact ColInv.start hR) (fun w => rfl) (fun w hw => by cases hw) (by simp) rfl (fun _ g hg => by cases hg) (by
      have := (h2.nilEntry 0).nilEntry 0
      have e0 : ({ hr with regs := [] ++ hr.regs.drop 0 } : RHeap) = hr := by rw [List.drop_zero]; rfl
      rw [e0]
      exact (Holds.of (this) (fun k => by simp +arith only [List.length_nil, List.flatMap_nil, rowO_z, HA, HB]) (fun k x => by simp only [List.length_nil, List.flatMap_nil, rowO_z, HA, HC]; grind only))) fun s3 kf kt fr tt D hD hmv hfl htl hz h3 => ?_
  rw [List.drop_zero] at hD hmv h3
  change D.map RReg.m = (colAll L u (hr.regs.map RReg.m)).regs at hD
  change ∀ w, lookW fr tt w = (colAll L u (hr.regs.map RReg.m)).mv w at hmv
  change Holds o s3 (_ :: _ :: (poolC q r (colAll L u (hr.regs.map RReg.m)).u ++ _)) at h3
  have hI := (ColInv.start (L := L) hR).all
  have hI2 := (ColInv2.start (L := L) (u := u) (B := hr.regs.map RReg.m)).all (ColInv.start (L := L) hR)
  rw [List.nil_append] at hI hI2
  change ColInv L lv (hr.regs.map RReg.m) [] (colAll L u (hr.regs.map RReg.m)) at hI
  change ColInv2 L (hr.regs.map RReg.m) [] (colAll L u (hr.regs.map RReg.m)) at hI2
  have hcm := colRegs_map hR hLp hLn
  generalize colAll L u (hr.regs.map RReg.m) = S at hD hmv h3 hI hI2 hcm k
  have hRS := hI.ok
  rw [List.append_nil, ← hD] at hRS
  have hmn : movedR hc fr tt = nowW S.mv S.fx := funext fun w => moved_now (rs := hr.regs.map RReg.m) e1 hR hmv hI2.fx w
  simp -implicitDefEqProofs only [↓GP, GB, GL, Nat.reduceAdd, Nat.reduceSub, Nat.reduceEqDiff, Nat.reduceMul, Nat.reduceLeDiff, Int.reduceBNe, Int.reduceBEq, Nat.reduceLT, reduceCtorEq, j47_bbbbbb]
  rw [I0]
  have hRc : RsOk lv u (hc.regs.map RReg.m) := by rw [e1]; exact hR
  have hDl : D.length = hr.regs.length := by
    have h1 := congrArg List.length hD
    have h2 := congrArg List.length hI.lives
    simp at h1 h2; omega
  have h4 := sk_out (h := { hr with regs := D }) (X := (kf, rowO 2 fr.length (fr.flatMap encW)) :: (kt, rowO 2 fr.length (tt.flatMap encW)) :: poolC q r S.u) h3
  have h5 : Holds o s3 (wsB (movedR hc fr tt) (wsH { hr with regs := D }) ((({ hr with regs := D } : RHeap).regs.take 0).flatMap (·.objs)).length ++ (skH q { hr with regs := D } ++ ((kf, rowO 2 fr.length (fr.flatMap encW)) :: (kt, rowO 2 fr.length (tt.flatMap encW)) :: poolC q r S.u ++ ((kl, rowO 2 L.length (L.flatMap encW)) :: (p2, some (.cells [rowV r2 u.length] none)) :: (r2, rowO 1 u.length (u.map .bool)) :: (hc.ch p2 ++ F))))) := by
    unfold wsB; simpa using h4
  have hin : ∀ y ∈ hc.ch p2, y ∈ skH q { hr with regs := D } ++ ((kf, rowO 2 fr.length (fr.flatMap encW)) :: (kt, rowO 2 fr.length (tt.flatMap encW)) :: poolC q r S.u ++ ((kl, rowO 2 L.length (L.flatMap encW)) :: (p2, some (.cells [rowV r2 u.length] none)) :: (r2, rowO 1 u.length (u.map .bool)) :: (hc.ch p2 ++ F))) :=
    fun y hy => List.mem_append_right _ (List.mem_append_right _ (List.mem_cons_of_mem _ (List.mem_cons_of_mem _ (List.mem_cons_of_mem _ (List.mem_append_left _ hy)))))
  refine w47_4 (q := q) (hr := { hr with regs := D }) (p := p2) (hc := hc) (fun x hx => List.mem_append_left _ hx) (by simp only; omega) (fun g hg => by have := (hRS.pg (List.mem_map.2 ⟨g, hg, rfl⟩)).2; simp only [RReg.m, List.length_map] at this; omega)
    (fun g hg x hx => ((hRS.inv.reg g.m (List.mem_map.2 ⟨g, hg, rfl⟩)).ws x.b (List.mem_map.2 ⟨x, hx, rfl⟩)).2.1) (hRc.rlook hin) (List.mem_append_right _ (List.mem_append_left _ (List.mem_cons_self ..))) (List.mem_append_right _ (List.mem_append_left _ (List.mem_cons_of_mem _ (List.mem_cons_self ..)))) (by omega) htl D.length 0 s3 (by simp) h5 fun s4 h6 => ?_
  have h7 : Holds o s4 ((wsH { hr with regs := D.map (mapRR (movedR hc fr tt)) }).flatMap RObj.ch ++ (skH q { hr with regs := D.map (mapRR (movedR hc fr tt)) } ++ ((kf, rowO 2 fr.length (fr.flatMap encW)) :: (kt, rowO 2 fr.length (tt.flatMap encW)) :: poolC q r S.u ++ ((kl, rowO 2 L.length (L.flatMap encW)) :: (p2, some (.cells [rowV r2 u.length] none)) :: (r2, rowO 1 u.length (u.map .bool)) :: (hc.ch p2 ++ F))))) := by
    have e5 := skH_map q (movedR hc fr tt) { hr with regs := D }
    have e6 := wsH_map (movedR hc fr tt) { hr with regs := D }
    simp only at e5 e6
    rw [e5, e6]
    unfold wsB at h6
    rw [List.take_length, List.drop_length, List.append_nil] at h6
    exact h6
  have h8 := sk_in h7
  simp -implicitDefEqProofs only [↓GP, GB, GL, Nat.reduceAdd, Nat.reduceSub, Nat.reduceEqDiff, Nat.reduceMul, Nat.reduceLeDiff, Int.reduceBNe, Int.reduceBEq, Nat.reduceLT, reduceCtorEq, j47_bbbbbbb]
  rw [← rowV_z 0, I0]
  have h9 : Holds o s4 ((0, rowO 2 0 (((roots.take 0).map (movedR hc fr tt)).flatMap encW)) :: (RHeap.ch q { hr with regs := D.map (mapRR (movedR hc fr tt)) } ++ ((kf, rowO 2 fr.length (fr.flatMap encW)) :: (kt, rowO 2 fr.length (tt.flatMap encW)) :: poolC q r S.u ++ ((kl, rowO 2 L.length (L.flatMap encW)) :: (p2, some (.cells [rowV r2 u.length] none)) :: (r2, rowO 1 u.length (u.map .bool)) :: (hc.ch p2 ++ F))))) := h8.nilEntry 0
  refine out47 (p := p2) (hc := hc) (hRc.rlook fun y hy => List.mem_append_right _ (List.mem_append_right _ (List.mem_cons_of_mem _ (List.mem_cons_of_mem _ (List.mem_cons_of_mem _ (List.mem_append_left _ hy)))))) (List.mem_append_right _ (List.mem_append_left _ (List.mem_cons_self ..))) (List.mem_append_right _ (List.mem_append_left _ (List.mem_cons_of_mem _ (List.mem_cons_self ..)))) (by omega) htl
    (List.mem_append_right _ (List.mem_append_right _ (List.mem_cons_of_mem _ (List.mem_cons_of_mem _ (List.mem_cons_of_mem _ (List.mem_append_right _ hr')))))) hrl roots.length 0 0 s4 (by omega) h9 fun s5 kout h10 => ?_
  simp -implicitDefEqProofs only [↓GP, GB, GL, Nat.reduceAdd, Nat.reduceSub, Nat.reduceEqDiff, Nat.reduceMul, Nat.reduceLeDiff, Int.reduceBNe, Int.reduceBEq, Nat.reduceLT, reduceCtorEq, j47_bbbbbbbbb]
  refine k s5 (D.map (mapRR (movedR hc fr tt))) kout ?_ (fun hz0 g hg => ?_) ?_
  · rw [hcm, List.map_map, ← hD, List.map_map, hmn]
    exact List.map_congr_left fun g _ => mapRR_m _ g
  · obtain ⟨g0, m0, rfl⟩ := List.mem_map.1 hg
    exact hz hz0 g0 m0
  · rw [← hmn]
    exact (Holds.of (h10) (fun k => by simp +arith only [HA, HB]) (fun k x => by simp only [HA, HC]; grind only))
end
end Go.Proofs.Ytoldkemimhebaaa

set_option linter.unusedSimpArgs false
set_option linter.unusedVariables false
namespace Go.Proofs.Ytoldkemimhebaaa
open Go Go.IM Go.ChangeShapes Go.WideShapes Go.RowKit
section
variable {H : Type} {enc : TypeId × Value → H} {W : Go.World}
set_option maxRecDepth 10000
theorem ofVals_map : ∀ l : List Value, ofVals l = l.map ofVal
  | [] => rfl
  | v :: l => by rw [ofVals, ofVals_map l]; rfl
theorem rd {base n : Nat} {a : Addr} {cs : List Value} (hn : 0 < n) (h : W.cells? base a n = some cs) : a.spot = none ∧ ∃ C, (oldSt W).old a.block = some (.cells C none) ∧ cut C a.off n = some (ofVals cs) := by
  obtain ⟨_, hlen, hc⟩ := Go.World.cells?_some h
  have h0 := hc 0 hn
  rw [show a.add 0 = a from rfl, List.getElem?_eq_getElem (by omega)] at h0
  unfold Go.World.cell? at h0
  split at h0
  · rename_i c el fr hb
    split at h0
    · cases h0
    · rename_i hs
      refine ⟨by simpa using hs, ofVals c.toList, by simp [oldSt, hb], ?_⟩
      have hget : ∀ i, i < n → c[a.off + i]? = cs[i]? := by
        intro i hi
        have := hc i hi
        rw [← this]
        unfold Go.World.cell? Addr.add
        by_cases h0 : i = 0
        · subst h0; simp [hb, hs]
        · simp [h0, hb]
      have hsz : a.off + n ≤ c.size := by
        have := hget (n - 1) (by omega)
        rw [List.getElem?_eq_getElem (by omega)] at this
        have := (Array.getElem?_eq_some_iff.1 this).1
        omega
      rw [ofVals_map, ofVals_map]
      unfold cut
      rw [if_pos (by simp; exact hsz)]
      congr 1
      apply List.ext_getElem?
      intro i
      by_cases hi : i < n
      · rw [List.getElem?_take, if_pos hi, List.getElem?_drop, List.getElem?_map, List.getElem?_map, Array.getElem?_toList, hget i hi]
      · rw [List.getElem?_eq_none (by simp; omega), List.getElem?_eq_none (by simp; omega)]
  · cases h0
theorem cut_get {l cs : List V} {off n : Nat} (h : cut l off n = some cs) {i : Nat} (hi : i < n) : l[off + i]? = cs[i]? := by
  unfold cut at h
  split at h
  · cases h
    rw [List.getElem?_take, if_pos hi, List.getElem?_drop]
  · cases h
theorem old_load {o : Nat → Option O} {s : St} {b off n : Nat} {C cs : List V} {g : Option Nat} (hs : s.old = o) (hb : o b = some (.cells C g)) (hc : cut C off n = some cs) : loadV (some n) (.ptr (some ⟨.old b, off⟩)) s = some (.agg cs) := by
  rw [loadV_ptr]
  show (readCells s ⟨.old b, off⟩ n).bind (packI (some n)) = _
  simp only [readCells, St.row, St.get, hs, hb, hc]
  rfl
theorem old_load1 {o : Nat → Option O} {s : St} {b off : Nat} {C : List V} {g : Option Nat} {v : V} (hs : s.old = o) (hb : o b = some (.cells C g)) (hc : C[off]? = some v) : loadV none (.ptr (some ⟨.old b, off⟩)) s = some v := by
  rw [loadV_ptr]
  show (readCells s ⟨.old b, off⟩ 1).bind (packI none) = _
  simp only [readCells, St.row, St.get, hs, hb]
  rw [cut_one', hc]
theorem ix_old {sz len cap i : Nat} {b off : Nat} {kk : IntKind} (h : i < len) : ixV sz (.slice (some ⟨.old b, off⟩) len (some cap)) (.int kk (i : Int)) = some (.ptr (some ⟨.old b, off + i * sz⟩)) := by
  rw [ixV_int (by omega) (by omega)]
  simp
theorem ofVal_slice {a : Addr} {len cap : Nat} (hl : len ≤ cap) (hsp : 0 < cap → a.spot = none) : ofVal (.slice (some a) len cap) = .slice (some ⟨.old a.block, a.off⟩) len (some cap) := by
  obtain ⟨b, off, sp⟩ := a
  cases sp with
  | none => simp [ofVal, hl]
  | some x =>
    have hc : cap = 0 := by
      rcases Nat.eq_zero_or_pos cap with h | h
      · exact h
      · have := hsp h; simp at this
    subst hc
    have : len = 0 := by omega
    subst this
    rfl
theorem someAt_of {fuel : Nat} {cs : List Value} {x : DataW H × List MemPlace} (h : DataW.trod enc Try.prog W 0 (fun _ => true) true fuel 48 cs = some x) :
    ∃ sa sn sc bs, ofVals cs = [.slice sa sn sc] ∧ ∀ y : ActG, y.sa = sa → y.sn = sn → y.sc = sc → SomeAt (oldSt W).old y bs := by
  rcases Go.Deep.open_bools (P := Try.prog) (t := 48) (e := 4) (by kernel_rfl) (by kernel_rfl) (by kernel_rfl) h with ⟨rfl, _⟩ | ⟨a, len, cap, B, rfl, hb, hl, hm, _, hB⟩
  · exact ⟨none, 0, some 0, [], rfl, fun y _ e _ => ⟨by rw [e]; rfl, fun i hi => by simp at hi⟩⟩
  · have hsp : 0 < cap → a.spot = none := by
      intro hc
      have := hB 0 hc
      rw [show a.add 0 = a from rfl] at this
      unfold Go.World.cell? at this
      split at this
      · split at this
        · cases this
        · rename_i h; simpa using h
      · cases this
    refine ⟨some ⟨.old a.block, a.off⟩, len, some cap, (List.range len).map B, by rw [ofVals, ofVal_slice hl hsp]; rfl, fun y e1 e2 e3 => ⟨by rw [e2]; simp, fun i hi => ?_⟩⟩
    simp at hi
    have hi' : i < y.sn := by omega
    rw [e1, e2, e3]
    refine ⟨⟨.old a.block, a.off + i * 1⟩, ix_old (by omega), fun s hs => ?_⟩
    have hc := hB i (by omega)
    unfold Go.World.cell? at hc
    split at hc
    · rename_i c el fr hbk
      split at hc
      · cases hc
      · have hbk' : W.heap[a.block]? = some (.cells c el fr) := by
          have : (a.add i).block = a.block := by unfold Addr.add; split <;> rfl
          rw [this] at hbk; exact hbk
        have hoff : (a.add i).off = a.off + i := by unfold Addr.add; split <;> simp_all
        rw [hoff] at hc
        refine old_load1 (C := ofVals c.toList) (g := none) hs (by simp [oldSt, hbk']) ?_
        rw [Nat.mul_one, ofVals_map, List.getElem?_map, Array.getElem?_toList, hc]
        simp [ofVal]
    · cases hc
theorem fields_of {fuel T : Nat} {cs : List Value} {x : DataW H × List MemPlace} {L : List (Nat × Nat)} (hL : (match Try.prog.underlying T with | some (.struct fs) => some (fs.toList.map fun f => (f.type, f.offset)) | _ => none) = some L)
    (h : DataW.trod enc Try.prog W 0 (fun _ => true) true fuel T cs = some x) : cs.length = Try.prog.cellsOf T ∧ ∃ n, ∀ (i T' off : Nat), L[i]? = some (T', off) → ∃ y, DataW.trod enc Try.prog W 0 (fun _ => true) true n T' ((cs.drop off).take (Try.prog.cellsOf T')) = some y := by
  split at hL
  · rename_i fs hu
    cases hL
    obtain ⟨xs, n, _, _, hlen, hxl, hf⟩ := DataW.trod_struct hu h
    refine ⟨hlen, n, fun i T' off hi => ?_⟩
    rw [List.getElem?_map] at hi
    cases hfi : fs.toList[i]? with
    | none => rw [hfi] at hi; cases hi
    | some f =>
      rw [hfi] at hi
      simp only [Option.map_some, Option.some.injEq, Prod.mk.injEq] at hi
      obtain ⟨rfl, rfl⟩ := hi
      have hfs : fs[i]? = some f := by rw [← Array.getElem?_toList]; exact hfi
      have := hf i f hfs
      have hix : i < xs.length := by rw [hxl]; exact (Array.getElem?_eq_some_iff.1 hfs).1
      rw [List.getElem?_eq_getElem hix] at this
      exact ⟨_, this⟩
  · cases hL
theorem u5 : Try.prog.underlying 5 = some (.int .u8) := by kernel_rfl
theorem u3 : Try.prog.underlying 3 = some (.int .i64) := by kernel_rfl
theorem word_of {fuel : Nat} {cs : List Value} {x : DataW H × List MemPlace} (h : DataW.trod enc Try.prog W 0 (fun _ => true) true fuel 47 cs = some x) : ∃ a b : Int, cs = [.int .i64 a, .int .i64 b] := by
  obtain ⟨hlen, n, hf⟩ := fields_of (L := [(3, 0), (3, 1)]) (by kernel_rfl) h
  rw [show Try.prog.cellsOf 47 = 2 by kernel_rfl] at hlen
  have c3 : Try.prog.cellsOf 3 = 1 := by kernel_rfl
  match cs, hlen with
  | [v0, v1], _ =>
    obtain ⟨y0, h0⟩ := hf 0 3 0 rfl
    obtain ⟨y1, h1⟩ := hf 1 3 1 rfl
    rw [c3] at h0 h1
    obtain ⟨a, e0, _⟩ := DataW.trod_int u3 h0
    obtain ⟨b, e1, _⟩ := DataW.trod_int u3 h1
    simp at e0 e1
    exact ⟨a, b, by rw [e0, e1]⟩
theorem act_of {fuel : Nat} {cs : List Value} {x : DataW H × List MemPlace} (h : DataW.trod enc Try.prog W 0 (fun _ => true) true fuel 50 cs = some x) :
    ∃ (y : ActG) (bs : List Bool), ofVals cs = y.cells ∧ SomeAt (oldSt W).old y bs ∧ (0 ≤ y.d ∧ y.d < 256 ∧ 0 ≤ y.hn ∧ y.hn < 256) := by
  obtain ⟨hlen, n, hf⟩ := fields_of (L := [(5, 0), (5, 1), (3, 2), (3, 3), (3, 4), (3, 5), (47, 6), (47, 8), (48, 10)]) (by kernel_rfl) h
  rw [show Try.prog.cellsOf 50 = 11 by kernel_rfl] at hlen
  have c3 : Try.prog.cellsOf 3 = 1 := by kernel_rfl
  have c5 : Try.prog.cellsOf 5 = 1 := by kernel_rfl
  have c47 : Try.prog.cellsOf 47 = 2 := by kernel_rfl
  have c48 : Try.prog.cellsOf 48 = 1 := by kernel_rfl
  match cs, hlen with
  | [v0, v1, v2, v3, v4, v5, v6, v7, v8, v9, v10], _ =>
    obtain ⟨y0, h0⟩ := hf 0 5 0 rfl
    obtain ⟨y1, h1⟩ := hf 1 5 1 rfl
    obtain ⟨y2, h2⟩ := hf 2 3 2 rfl
    obtain ⟨y3, h3⟩ := hf 3 3 3 rfl
    obtain ⟨y4, h4⟩ := hf 4 3 4 rfl
    obtain ⟨y5, h5⟩ := hf 5 3 5 rfl
    obtain ⟨y6, h6⟩ := hf 6 47 6 rfl
    obtain ⟨y7, h7⟩ := hf 7 47 8 rfl
    obtain ⟨y8, h8⟩ := hf 8 48 10 rfl
    rw [c5] at h0 h1
    rw [c3] at h2 h3 h4 h5
    rw [c47] at h6 h7
    rw [c48] at h8
    obtain ⟨d, e0, _, w0⟩ := DataW.trod_int u5 h0
    obtain ⟨hn, e1, _, w1⟩ := DataW.trod_int u5 h1
    obtain ⟨a, e2, _⟩ := DataW.trod_int u3 h2
    obtain ⟨b, e3, _⟩ := DataW.trod_int u3 h3
    obtain ⟨c, e4, _⟩ := DataW.trod_int u3 h4
    obtain ⟨wh, e5, _⟩ := DataW.trod_int u3 h5
    obtain ⟨w1', w2', e6⟩ := word_of h6
    obtain ⟨z1, z2, e7⟩ := word_of h7
    obtain ⟨sa, sn, sc, bs, e8, hS⟩ := someAt_of h8
    simp only [List.drop_zero, List.drop_succ_cons, List.take_succ_cons, List.take_zero, List.cons.injEq, and_true] at e0 e1 e2 e3 e4 e5 e6 e7 e8
    obtain ⟨rfl, rfl⟩ := e6
    obtain ⟨rfl, rfl⟩ := e7
    subst e0 e1 e2 e3 e4 e5
    refine ⟨⟨d, hn, a, b, c, wh, (w1', w2'), (z1, z2), sa, sn, sc⟩, bs, ?_, hS _ rfl rfl rfl, ?_⟩
    · simp only [ofVals, List.cons.injEq, and_true] at e8
      simp only [ofVals, e8]
      rfl
    · have m : ∀ n : Int, (Lit.int .u8 n).wf = true → 0 ≤ n ∧ n < 256 := by
        intro n hw
        simp only [Lit.wf, Bool.and_eq_true, decide_eq_true_eq] at hw
        have e1 : IntKind.u8.min = 0 := by decide
        have e2 : IntKind.u8.max = 255 := by decide
        rw [e1, e2] at hw
        omega
      have := m d w0
      have := m hn w1
      simp only; omega
instance : Inhabited (ActG × List Bool) := ⟨⟨⟨0, 0, 0, 0, 0, 0, (0, 0), (0, 0), none, 0, none⟩, []⟩⟩
theorem acts_of {fuel : Nat} {v : Value} {x : DataW H × List MemPlace} (hw : ∀ es sp, x.1 = .slice es sp → es.length < 2 ^ 61) (h : DataW.trod enc Try.prog W 0 (fun _ => true) true fuel 35 [v] = some x) : ∃ l : List (ActG × List Bool), ActsAt (oldSt W).old (ofVal v) l ∧ l.length < 2 ^ 61 := by
  rcases Go.Deep.open_slice (P := Try.prog) (t := 35) (e := 50) (by kernel_rfl) h with ⟨e, _⟩ | ⟨a, len, cap, m, n, D, Pl, e, hb, hl, hm, hmm, hxe, hx⟩
  · cases e
    exact ⟨[], ⟨rfl, fun i hi => by simp at hi, fun x hx => (by cases hx), fun x hx => (by cases hx)⟩, by simp⟩
  · cases e
    have c50 : Try.prog.cellsOf 50 = 11 := by kernel_rfl
    rw [c50] at hx
    have hm' : m = cap := by simpa using hmm
    have hsp : 0 < cap → a.spot = none := fun hc => by
      obtain ⟨cs, h1, _⟩ := hx 0 (by omega)
      exact (rd (by omega) h1).1
    have each : ∀ i, i < len → ∃ (y : ActG) (bs : List Bool), (∃ C, (oldSt W).old a.block = some (.cells C none) ∧ cut C (a.off + i * 11) 11 = some y.cells) ∧ SomeAt (oldSt W).old y bs ∧ (0 ≤ y.d ∧ y.d < 256 ∧ 0 ≤ y.hn ∧ y.hn < 256) := by
      intro i hi
      obtain ⟨cs, h1, h2⟩ := hx i (by omega)
      obtain ⟨y, bs, e1, e2, e3⟩ := act_of h2
      obtain ⟨_, C, k1, k2⟩ := rd (by omega) h1
      rw [e1] at k2
      have b1 : (a.add (i * 11)).block = a.block := by unfold Addr.add; split <;> rfl
      have b2 : (a.add (i * 11)).off = a.off + i * 11 := by unfold Addr.add; split <;> simp_all
      rw [b1] at k1
      rw [b2] at k2
      exact ⟨y, bs, ⟨C, k1, k2⟩, e2, e3⟩
    obtain ⟨f, hf⟩ := Go.Deep.choose_lt (α := ActG × List Bool) (p := fun i q => (∃ C, (oldSt W).old a.block = some (.cells C none) ∧ cut C (a.off + i * 11) 11 = some q.1.cells) ∧ SomeAt (oldSt W).old q.1 q.2 ∧ (0 ≤ q.1.d ∧ q.1.d < 256 ∧ 0 ≤ q.1.hn ∧ q.1.hn < 256)) (fun i hi => by
      obtain ⟨y, bs, h⟩ := each i hi
      exact ⟨(y, bs), h⟩)
    refine ⟨(List.range len).map f, ⟨?_, fun i hi => ?_, ?_, ?_⟩, ?_⟩
    · rw [ofVal_slice hl hsp, lenV_slice]; simp
    · simp at hi
      obtain ⟨⟨C, k1, k2⟩, _⟩ := hf i hi
      rw [ofVal_slice hl hsp]
      refine ⟨⟨.old a.block, a.off + i * 11⟩, ix_old hi, fun s hs => ?_⟩
      simp only [List.getElem_map, List.getElem_range]
      refine ⟨old_load hs k1 k2, old_load1 hs k1 ?_⟩
      rw [show a.off + i * 11 + 10 = (a.off + i * 11) + 10 from rfl, cut_get k2 (by omega)]
      rfl
    · intro x hx
      obtain ⟨i, hi, rfl⟩ := List.mem_map.1 hx
      exact (hf i (List.mem_range.1 hi)).2.1
    · intro x hx
      obtain ⟨i, hi, rfl⟩ := List.mem_map.1 hx
      exact (hf i (List.mem_range.1 hi)).2.2
    · have := hw _ _ (by rw [hxe])
      simpa using this
end
open Go.ChangeAt
theorem Try.own' : ownKnob Try.prog.godebug = none := by kernel_rfl
theorem Try.laidOut' : laidOutB Try.prog = true := by kernel_rfl
theorem Try.mixed' : Try.prog.follows .mixedOrders = true := by kernel_rfl
theorem sized_acts {H : Type} {ts : List TypeId} {ds : List (DataW H)} (h : (DataW.weightsEach Try.prog ts ds).all (· ≤ reachBytes) = true) {j : Nat} (ht : ts[j]? = some 35) {d : DataW H} (hd : ds[j]? = some d) :
    ∀ es sp, d = .slice es sp → es.length < 2 ^ 61 := by
  intro es sp e
  subst e
  have h1 := sized_slice (e := 50) h ht hd (by kernel_rfl)
  have hb : (decide (0 < Try.prog.bytesOf 50)) = true := by kernel_rfl
  have hb' : 0 < Try.prog.bytesOf 50 := of_decide_eq_true hb
  have h2 : es.length ≤ (es.length + sp.length) * Try.prog.bytesOf 50 := Nat.le_trans (Nat.le_add_right _ _) (Nat.le_mul_of_pos_right _ hb')
  have h3 : reachBytes < 2 ^ 61 := by decide
  omega
end Go.Proofs.Ytoldkemimhebaaa

set_option linter.unusedSimpArgs false
set_option linter.unusedVariables false
namespace Go.Proofs.Ytoldkemimhebaaa
open Go Go.IM
def l86_0 : IC := (.seq (.seq (.seq (.region [oa 62 (.mov (.t 12)), oa 63 (.mov (.t 10)), oa 64 (.bin .lss (.t 62) (.t 63))] (kp 101 [0,1,5,10,12,64]))
  (.cond (.t 64)
  (sk 101 [0,1,5,10,12])
  (sx 101 [0,1,5] 2)))
  (.seq (.block 3
  (.seq (.region [oa 68 (.mov (.t 0)), oa 69 (.nilCheck (.t 68)), oa 70 (.fieldAddr 0 (.t 69)), oa 71 (.load none (.t 70)), oa 72 (.mov (.t 1)), oa 73 (.mov (.t 5)), oa 74 (.indexAddr 2 (.t 72) (.t 73)), oa 75 (.load (some 2) (.t 74)), oa 76 (.mov (.t 12)), oa 13 (.alloc [(.int .i64 (0)), (.int .i64 (0))]), oa 77 (.call 67 [(.t 71), (.t 75), (.t 76)]), oa 67 (.mov (.t 77)), oa 78 (.extract (.t 67) 0), oa 79 (.extract (.t 67) 1), ob (.store 2 (.t 13) (.t 78)), oa 14 (.mov (.t 79))] (kp 101 [0,1,5,10,12,13,14]))
  (.seq (.region [oa 81 (.mov (.t 0)), oa 82 (.nilCheck (.t 81)), oa 83 (.fieldAddr 1 (.t 82)), oa 84 (.load none (.t 83)), oa 85 (.mov (.t 1)), oa 86 (.mov (.t 5)), oa 87 (.indexAddr 2 (.t 85) (.t 86)), oa 88 (.load (some 2) (.t 87)), oa 89 (.mov (.t 12)), oa 15 (.alloc [(.int .i64 (0)), (.int .i64 (0))]), oa 90 (.call 68 [(.t 84), (.t 88), (.t 89)]), oa 80 (.mov (.t 90)), oa 91 (.extract (.t 80) 0), oa 92 (.extract (.t 80) 1), ob (.store 2 (.t 15) (.t 91)), oa 16 (.mov (.t 92))] (kp 101 [0,1,5,10,12,13,14,15,16]))
  (.seq (.region [oa 93 (.load (some 2) (.t 13)), oa 94 (.load (some 2) (.t 15)), oa 95 (.eql true (.key (.agg [.i, .i])) (.t 93) (.t 94)), oa 96 (.mov (.t 95)), oc 97 (.mov (.t 14)) 96 ff, oc 98 (.mov (.t 16)) 96 ff, oc 99 (.bin .neq (.t 97) (.t 98)) 96 ff, oa 100 (.pick (.t 96) (.c (.bool true)) (.t 99))] (kp 101 [0,1,5,10,12,100]))
  (.cond (.t 100)
  (.seq (.region [oa 4 (.mov (.c (.bool false)))] (kp 101 [4]))
  (sr 101 [4]))
  (sk 101 [0,1,5,10,12]))))))
  (.region [oa 65 (.mov (.t 12)), oa 66 (.bin .add (.t 65) (ai 1)), oa 12 (.mov (.t 66))] (kp 101 [0,1,5,10,12]))))
  (sk 101 [0,1,5,10,12]))
def l86_1 : IC := (.seq (.seq (.seq (.region [oa 17 (.mov (.t 5)), oa 18 (.mov (.t 1)), oa 19 (.lenSlice (.t 18)), oa 20 (.bin .lss (.t 17) (.t 19))] (kp 101 [0,1,5,20]))
  (.cond (.t 20)
  (sk 101 [0,1,5])
  (sx 101 [] 0)))
  (.seq (.block 1
  (.seq (.region [oa 24 (.mov (.t 0)), oa 25 (.nilCheck (.t 24)), oa 26 (.fieldAddr 0 (.t 25)), oa 27 (.load none (.t 26)), oa 28 (.mov (.t 1)), oa 29 (.mov (.t 5)), oa 30 (.indexAddr 2 (.t 28) (.t 29)), oa 31 (.load (some 2) (.t 30)), oa 32 (.call 30 [(.t 27), (.t 31)]), oa 23 (.mov (.t 32)), oa 33 (.extract (.t 23) 0), oa 34 (.extract (.t 23) 1), oa 35 (.extract (.t 23) 2), oa 6 (.mov (.t 33)), oa 7 (.mov (.t 34)), oa 8 (.mov (.t 35))] (kp 101 [0,1,5,6,7,8]))
  (.seq (.region [oa 37 (.mov (.t 0)), oa 38 (.nilCheck (.t 37)), oa 39 (.fieldAddr 1 (.t 38)), oa 40 (.load none (.t 39)), oa 41 (.mov (.t 1)), oa 42 (.mov (.t 5)), oa 43 (.indexAddr 2 (.t 41) (.t 42)), oa 44 (.load (some 2) (.t 43)), oa 45 (.call 69 [(.t 40), (.t 44)]), oa 36 (.mov (.t 45)), oa 46 (.extract (.t 36) 0), oa 47 (.extract (.t 36) 1), oa 48 (.extract (.t 36) 2), oa 9 (.mov (.t 46)), oa 10 (.mov (.t 47)), oa 11 (.mov (.t 48))] (kp 101 [0,1,5,6,7,8,9,10,11]))
  (.seq (.seq (.region [oa 49 (.mov (.t 6)), oa 50 (.mov (.t 9)), oa 51 (.bin .neq (.t 49) (.t 50)), oa 52 (.mov (.t 51)), oc 53 (.mov (.t 7)) 52 ff, oc 54 (.mov (.t 10)) 52 ff, oc 55 (.bin .neq (.t 53) (.t 54)) 52 ff, oa 56 (.pick (.t 52) (.c (.bool true)) (.t 55)), oa 57 (.mov (.t 56)), oc 58 (.mov (.t 8)) 57 ff, oc 59 (.mov (.t 11)) 57 ff, oc 60 (.bin .neq (.t 58) (.t 59)) 57 ff, oa 61 (.pick (.t 57) (.c (.bool true)) (.t 60))] (kp 101 [0,1,5,10,61]))
  (.cond (.t 61)
  (.seq (.region [oa 4 (.mov (.c (.bool false)))] (kp 101 [4]))
  (sr 101 [4]))
  (sk 101 [0,1,5,10])))
  (.seq (.region [oa 12 (.mov (ai 0))] (kp 101 [0,1,5,10,12]))
  (.block 2
  (.seq (sk 101 [0,1,5,10,12])
  (.loop l86_0))))))))
  (.region [oa 21 (.mov (.t 5)), oa 22 (.bin .add (.t 21) (ai 1)), oa 5 (.mov (.t 22))] (kp 101 [0,1,5]))))
  (sk 101 [0,1,5]))
def c86 : IFn := ⟨101, [(4, none)],
  (.seq (.region [oa 4 (.mov (.c (.bool false)))] (kp 101 [0,1]))
  (.seq (.seq (.region [oa 5 (.mov (ai 0))] (kp 101 [0,1,5]))
  (.block 0
  (.seq (sk 101 [0,1,5])
  (.loop l86_1))))
  (.seq (.region [oa 4 (.mov (.c (.bool true)))] (kp 101 [4]))
  (sr 101 [4]))))⟩
theorem F86 : shutF Try.prog 86 = some c86 := by kernel_rfl
def l38_0 : IC := (.seq (.seq (.seq (.region [oa 40 (.mov (.t 3)), oa 41 (.mov (.t 0)), oa 42 (.nilCheck (.t 41)), oa 43 (.fieldAddr 1 (.t 42)), oa 44 (.load none (.t 43)), oa 45 (.call 78 [(.t 44)]), oa 46 (.bin .leq (.t 40) (.t 45))] (kp 162 [0,3,46]))
  (.cond (.t 46)
  (sk 162 [0,3])
  (sx 162 [] 0)))
  (.seq (.block 1
  (.seq (.region [oa 50 (.mov (.t 0)), oa 51 (.nilCheck (.t 50)), oa 52 (.fieldAddr 0 (.t 51)), oa 53 (.load none (.t 52)), oa 54 (.mov (.t 3)), oa 55 (.call 29 [(.t 53), (.t 54)]), oa 49 (.mov (.t 55)), oa 56 (.extract (.t 49) 0), oa 57 (.extract (.t 49) 1), oa 4 (.mov (.t 56)), oa 5 (.mov (.t 57))] (kp 162 [0,3,4,5]))
  (.seq (.region [oa 59 (.mov (.t 0)), oa 60 (.nilCheck (.t 59)), oa 61 (.fieldAddr 1 (.t 60)), oa 62 (.load none (.t 61)), oa 63 (.mov (.t 3)), oa 64 (.call 80 [(.t 62), (.t 63)]), oa 58 (.mov (.t 64)), oa 65 (.extract (.t 58) 0), oa 66 (.extract (.t 58) 1), oa 6 (.mov (.t 65)), oa 7 (.mov (.t 66))] (kp 162 [0,3,4,5,6,7]))
  (.seq (.region [oa 68 (.mov (.t 0)), oa 69 (.nilCheck (.t 68)), oa 70 (.fieldAddr 0 (.t 69)), oa 71 (.load none (.t 70)), oa 72 (.mov (.t 3)), oa 73 (.call 28 [(.t 71), (.t 72)]), oa 67 (.mov (.t 73)), oa 74 (.extract (.t 67) 0), oa 75 (.extract (.t 67) 1), oa 8 (.mov (.t 74)), oa 9 (.mov (.t 75))] (kp 162 [0,3,4,5,6,7,8,9]))
  (.seq (.region [oa 77 (.mov (.t 0)), oa 78 (.nilCheck (.t 77)), oa 79 (.fieldAddr 1 (.t 78)), oa 80 (.load none (.t 79)), oa 81 (.mov (.t 3)), oa 82 (.call 81 [(.t 80), (.t 81)]), oa 76 (.mov (.t 82)), oa 83 (.extract (.t 76) 0), oa 84 (.extract (.t 76) 1), oa 10 (.mov (.t 83)), oa 11 (.mov (.t 84))] (kp 162 [0,3,4,5,6,7,8,9,10,11]))
  (.seq (.seq (.region [oa 85 (.mov (.t 4)), oa 86 (.mov (.t 5)), oa 87 (.mov (.t 6)), oa 88 (.mov (.t 7)), oa 89 (.call 82 [(.t 85), (.t 86), (.t 87), (.t 88)]), oa 90 (.un .not (.t 89)), oa 91 (.mov (.t 90)), oc 92 (.mov (.t 9)) 91 ff, oc 93 (.mov (.t 11)) 91 ff, oc 94 (.bin .neq (.t 92) (.t 93)) 91 ff, oa 95 (.pick (.t 91) (.c (.bool true)) (.t 94)), oa 96 (.mov (.t 95)), oc 97 (.mov (.t 8)) 96 ff, oc 98 (.mov (.t 10)) 96 ff, oc 99 (.call 48 [(.t 97), (.t 98)]) 96 ff, oc 100 (.un .not (.t 99)) 96 ff, oa 101 (.pick (.t 96) (.c (.bool true)) (.t 100))] (kp 162 [0,3,10,101]))
  (.cond (.t 101)
  (.seq (.region [oa 2 (.mov (.c (.bool false)))] (kp 162 [2]))
  (sr 162 [2]))
  (sk 162 [0,3,10])))
  (.seq (.region [oa 103 (.mov (.t 0)), oa 104 (.nilCheck (.t 103)), oa 105 (.fieldAddr 0 (.t 104)), oa 106 (.load none (.t 105)), oa 107 (.mov (.t 3)), oa 108 (.call 83 [(.t 106), (.t 107)]), oa 102 (.mov (.t 108)), oa 109 (.extract (.t 102) 0), oa 110 (.extract (.t 102) 1), oa 12 (.mov (.t 109)), oa 5 (.mov (.t 110))] (kp 162 [0,3,5,10,12]))
  (.seq (.region [oa 112 (.mov (.t 0)), oa 113 (.nilCheck (.t 112)), oa 114 (.fieldAddr 1 (.t 113)), oa 115 (.load none (.t 114)), oa 116 (.mov (.t 3)), oa 117 (.call 84 [(.t 115), (.t 116)]), oa 111 (.mov (.t 117)), oa 118 (.extract (.t 111) 0), oa 119 (.extract (.t 111) 1), oa 13 (.mov (.t 118)), oa 7 (.mov (.t 119))] (kp 162 [0,3,5,7,10,12,13]))
  (.seq (.region [oa 121 (.mov (.t 0)), oa 122 (.nilCheck (.t 121)), oa 123 (.fieldAddr 0 (.t 122)), oa 124 (.load none (.t 123)), oa 125 (.mov (.t 3)), oa 126 (.call 35 [(.t 124), (.t 125)]), oa 120 (.mov (.t 126)), oa 127 (.extract (.t 120) 0), oa 128 (.extract (.t 120) 1), oa 14 (.mov (.t 127)), oa 9 (.mov (.t 128))] (kp 162 [0,3,5,7,9,10,12,13,14]))
  (.seq (.region [oa 130 (.mov (.t 0)), oa 131 (.nilCheck (.t 130)), oa 132 (.fieldAddr 1 (.t 131)), oa 133 (.load none (.t 132)), oa 134 (.mov (.t 3)), oa 135 (.call 85 [(.t 133), (.t 134)]), oa 129 (.mov (.t 135)), oa 136 (.extract (.t 129) 0), oa 137 (.extract (.t 129) 1), oa 15 (.mov (.t 136)), oa 11 (.mov (.t 137))] (kp 162 [0,3,5,7,9,10,11,12,13,14,15]))
  (.seq (.region [oa 138 (.mov (.t 12)), oa 139 (.mov (.t 13)), oa 140 (.bin .neq (.t 138) (.t 139)), oa 141 (.mov (.t 140)), oc 142 (.mov (.t 5)) 141 ff, oc 143 (.mov (.t 7)) 141 ff, oc 144 (.bin .neq (.t 142) (.t 143)) 141 ff, oa 145 (.pick (.t 141) (.c (.bool true)) (.t 144)), oa 146 (.mov (.t 145)), oc 147 (.mov (.t 14)) 146 ff, oc 148 (.mov (.t 15)) 146 ff, oc 149 (.bin .neq (.t 147) (.t 148)) 146 ff, oa 150 (.pick (.t 146) (.c (.bool true)) (.t 149)), oa 151 (.mov (.t 150)), oc 152 (.mov (.t 9)) 151 ff, oc 153 (.mov (.t 11)) 151 ff, oc 154 (.bin .neq (.t 152) (.t 153)) 151 ff, oa 155 (.pick (.t 151) (.c (.bool true)) (.t 154)), oa 156 (.mov (.t 155)), oc 157 (.mov (.t 0)) 156 ff, oc 158 (.mov (.t 10)) 156 ff, oc 159 (.call 86 [(.t 157), (.t 158)]) 156 ff, oc 160 (.un .not (.t 159)) 156 ff, oa 161 (.pick (.t 156) (.c (.bool true)) (.t 160))] (kp 162 [0,3,161]))
  (.cond (.t 161)
  (.seq (.region [oa 2 (.mov (.c (.bool false)))] (kp 162 [2]))
  (sr 162 [2]))
  (sk 162 [0,3])))))))))))))
  (.region [oa 47 (.mov (.t 3)), oa 48 (.bin .add (.t 47) (ai 1)), oa 3 (.mov (.t 48))] (kp 162 [0,3]))))
  (sk 162 [0,3]))
def c38 : IFn := ⟨162, [(2, none)],
  (.seq (.region [oa 2 (.mov (.c (.bool false)))] (kp 162 [0]))
  (.seq (.seq (.region [oa 16 (.mov (.t 0)), oa 17 (.nilCheck (.t 16)), oa 18 (.fieldAddr 0 (.t 17)), oa 19 (.load none (.t 18)), oa 21 (.mov (.t 0)), oa 22 (.nilCheck (.t 21)), oa 23 (.fieldAddr 1 (.t 22)), oa 24 (.load none (.t 23)), oa 20 (.call 27 [(.t 19)]), ob (.again 24 (.load none (.t 23))), oa 25 (.call 78 [(.t 24)]), oa 26 (.bin .neq (.t 20) (.t 25)), oa 27 (.mov (.t 26)), oc 28 (.mov (.t 0)) 27 ff, oc 29 (.nilCheck (.t 28)) 27 ff, oc 30 (.fieldAddr 0 (.t 29)) 27 ff, oc 31 (.load none (.t 30)) 27 ff, oc 33 (.mov (.t 0)) 27 ff, oc 34 (.nilCheck (.t 33)) 27 ff, oc 35 (.fieldAddr 1 (.t 34)) 27 ff, oc 36 (.load none (.t 35)) 27 ff, oc 32 (.call 36 [(.t 31)]) 27 ff, oe (.again 36 (.load none (.t 35))) 27 ff, oc 37 (.call 79 [(.t 36)]) 27 ff, oc 38 (.bin .neq (.t 32) (.t 37)) 27 ff, oa 39 (.pick (.t 27) (.c (.bool true)) (.t 38))] (kp 162 [0,39]))
  (.cond (.t 39)
  (.seq (.region [oa 2 (.mov (.c (.bool false)))] (kp 162 [2]))
  (sr 162 [2]))
  (sk 162 [0])))
  (.seq (.seq (.region [oa 3 (.mov (ai (-1)))] (kp 162 [0,3]))
  (.block 0
  (.seq (sk 162 [0,3])
  (.loop l38_0))))
  (.seq (.region [oa 2 (.mov (.c (.bool true)))] (kp 162 [2]))
  (sr 162 [2])))))⟩
theorem F38 : shutF Try.prog 38 = some c38 := by kernel_rfl
theorem sl_pagesV {C : Ch} {k k0 : Nat} {l : List Nat} (m : (k, pagesO l) ∈ C) : SlAt C (pagesV k k0 l.length) l.length (l.map fun n : Nat => I n) := by
  unfold pagesV
  split
  · rename_i h; rw [h]; exact .inl ⟨rfl, _, _, rfl⟩
  · exact .row m
section
variable {o : Nat → Option O} {s : St} {C F : Ch} {Q : V → St → Prop} {p r q t : Nat} {u : List Bool} {others : List Nat} {G : PairG}
set_option maxRecDepth 10000
set_option maxHeartbeats 4000000
theorem objw_loop {vl : V} {ws : List (Int × Int)} {k a b : Nat} {w : Int × Int} {x : PObj} {x' : RObj} {g' : RReg} {K : Kt} (hin : In C p G.hp) (rin : RIn C q G.hr) (mid : (G.id, some G.hd) ∈ C) (h : PairOk u others G)
    (hv : SlAt C vl ws.length (ws.flatMap encW)) (hk : ws[k]? = some w) (hL : 1 ≤ w.2) (hp : pfind w.1 w.2 G.hp.regs = some x) (hr : rfind w.1 w.2 G.hr.regs 0 = some (a, b)) (hg : G.hr.regs[a]? = some g') (hx : g'.objs[b]? = some x') (hb : x.b = x'.b) (hws : x.b.ws.length ≤ 31)
    (q1 : ∀ s', Holds o s' C → WP (K (.exit 2) (sp 101 [(0, ptrN G.id), (1, vl), (5, I k)]) s') Q) :
    ∀ (m j : Nat) (s : St), j + m = x.b.ws.length → Holds o s C →
    WP (loop PF (.loop l86_0) (sp 101 [(0, ptrN G.id), (1, vl), (5, I k), (10, I x.b.ws.length), (12, I j)]) s K) Q
  | 0, j, s, hj, H => by
    have hlt : ¬ ((j : Int) < (x.b.ws.length : Int)) := by omega
    refine wp_round fun LL hLL => ?_
    simp -implicitDefEqProofs only [↓GP, GB, GL, Nat.reduceAdd, Nat.reduceSub, Nat.reduceEqDiff, Nat.reduceMul, Nat.reduceLeDiff, Int.reduceBNe, Int.reduceBEq, Nat.reduceLT, reduceCtorEq, l86_0, hlt]
    exact q1 s H
  | m + 1, j, s, hj, H => by
    have hlt : ((j : Int) < (x.b.ws.length : Int)) := by omega
    have hj' : j < x.b.ws.length := by omega
    have f := H.mem mid
    simp only [PairG.hd] at f
    obtain ⟨k1, g1, e1, m1⟩ := hv.at_ (List.getElem?_eq_some_iff.1 hk).1 2
    have f1 := H.mem m1
    have hld := ldN_tab encW_len ws g1 hk
    obtain ⟨wx, hwx⟩ : ∃ wx, x.b.ws[j]? = some wx := ⟨x.b.ws[j], by simp [hj']⟩
    have hw1 := wrap_add1 (a := j) (by omega)
    refine wp_round fun LL hLL => ?_
    simp -implicitDefEqProofs only [↓GP, GB, GL, Nat.reduceAdd, Nat.reduceSub, Nat.reduceEqDiff, Nat.reduceMul, Nat.reduceLeDiff, Int.reduceBNe, Int.reduceBEq, Nat.reduceLT, reduceCtorEq, l86_0, hlt, f, e1, f1, hld, encW]
    refine wp_in (s67 (H.alloc (.cells [I 0, I 0] none)) (hin.cons _) h.pne h.plen h.pok (by omega) hp hwx hws fun s1 h1 => ?_)
    have d1 := h1.ne (Holds.ids_mem.2 ⟨_, mid⟩)
    have d2 := h1.ne (Holds.ids_mem.2 ⟨_, m1⟩)
    have fa := h1.f1
    have fb := h1.tl.mem mid
    have fc := h1.tl.mem m1
    simp only [PairG.hd] at fb
    simp -implicitDefEqProofs only [↓GP, GB, GL, Nat.reduceAdd, Nat.reduceSub, Nat.reduceEqDiff, Nat.reduceMul, Nat.reduceLeDiff, Int.reduceBNe, Int.reduceBEq, Nat.reduceLT, reduceCtorEq, encW, fa, fb, fc, d1, d2, e1, hld]
    have h2 := (h1.set0 (.cells [I wx.1, I wx.2] none)).alloc (.cells [I 0, I 0] none)
    refine wp_in (s68 h2 ((rin.cons _).cons _) h.rne h.rlen h.rol' (by omega) hr hg hx (by rw [← hb]; exact hwx) fun s2 h3 => ?_)
    simp only [set_next, alloc_next] at h3
    have fd := h3.f2
    simp -implicitDefEqProofs only [↓GP, GB, GL, Nat.reduceAdd, Nat.reduceSub, Nat.reduceEqDiff, Nat.reduceMul, Nat.reduceLeDiff, Int.reduceBNe, Int.reduceBEq, Nat.reduceLT, reduceCtorEq, encW, fd, words_eq, Int.reduceBNe, hw1]
    rw [hLL]
    exact objw_loop hin rin mid h hv hk hL hp hr hg hx hb hws q1 m (j + 1) _ (by omega) (h3.set0 _).tl.tl
theorem objs_loop {vl : V} {ws : List (Int × Int)} {K : Kt} (hin : In C p G.hp) (rin : RIn C q G.hr) (mid : (G.id, some G.hd) ∈ C) (h : PairOk u others G)
    (hv : SlAt C vl ws.length (ws.flatMap encW)) (hl : ws.length ≤ 100000) (hL : ∀ w ∈ ws, 1 ≤ w.2) (q1 : ∀ s', Holds o s' C → WP (K (.exit 0) (sp 101 []) s') Q) :
    ∀ (m k : Nat) (s : St), k + m = ws.length → Holds o s C → WP (loop PF (.loop l86_1) (sp 101 [(0, ptrN G.id), (1, vl), (5, I k)]) s K) Q
  | 0, k, s, hk, H => by
    have hlt : ¬ ((k : Int) < (ws.length : Int)) := by omega
    refine wp_round fun LL hLL => ?_
    simp -implicitDefEqProofs only [↓GP, GB, GL, Nat.reduceAdd, Nat.reduceSub, Nat.reduceEqDiff, Nat.reduceMul, Nat.reduceLeDiff, Int.reduceBNe, Int.reduceBEq, Nat.reduceLT, reduceCtorEq, l86_1, hv.len, hlt]
    exact q1 s H
  | m + 1, k, s, hk, H => by
    have hlt : ((k : Int) < (ws.length : Int)) := by omega
    have hk' : k < ws.length := by omega
    have f := fun s (H : Holds o s C) => H.mem mid
    simp only [PairG.hd] at f
    obtain ⟨k1, g1, e1, m1⟩ := hv.at_ hk' 2
    obtain ⟨w, hw⟩ : ∃ w, ws[k]? = some w := ⟨ws[k], by simp [hk']⟩
    have hld := ldN_tab encW_len ws g1 hw
    have hL1 := hL w (List.mem_of_getElem? hw)
    have hw1 := wrap_add1 (a := k) (by omega)
    refine wp_round fun LL hLL => ?_
    simp -implicitDefEqProofs only [↓GP, GB, GL, Nat.reduceAdd, Nat.reduceSub, Nat.reduceEqDiff, Nat.reduceMul, Nat.reduceLeDiff, Int.reduceBNe, Int.reduceBEq, Nat.reduceLT, reduceCtorEq, l86_1, hv.len, hlt, f s H, e1, H.mem m1, hld, encW]
    rcases h.find (N := w.1) (L := w.2) hL1 with ⟨hr, hp⟩ | ⟨a, b, A, g, B, A', g', B', X, x, Y, X', x', Y', hr, hp, hg, hx, hb, mg, mx, -⟩
    · refine wp_in (s30_err H (.inr ⟨G.hp, p, rfl, hin, h.pne, h.plen, h.pok, .inr ⟨rfl, by omega, rfl, hp⟩⟩) fun s1 h1 => ?_)
      simp -implicitDefEqProofs only [↓GP, GB, GL, Nat.reduceAdd, Nat.reduceSub, Nat.reduceEqDiff, Nat.reduceMul, Nat.reduceLeDiff, Int.reduceBNe, Int.reduceBEq, Nat.reduceLT, reduceCtorEq, f s1 h1, e1, h1.mem m1, hld, encW]
      refine wp_in (s69_err h1 (.inr ⟨G.hr, q, rfl, rin, h.rne, h.rlen, h.rol', .inr ⟨rfl, by omega, hr⟩⟩) fun s2 h2 => ?_)
      simp -implicitDefEqProofs only [↓GP, GB, GL, Nat.reduceAdd, Nat.reduceSub, Nat.reduceEqDiff, Nat.reduceMul, Nat.reduceLeDiff, Int.reduceBNe, Int.reduceBEq, Nat.reduceLT, reduceCtorEq, Int.reduceBNe]
      refine wp_round fun LL2 hLL2 => ?_
      simp -implicitDefEqProofs only [↓GP, GB, GL, Nat.reduceAdd, Nat.reduceSub, Nat.reduceEqDiff, Nat.reduceMul, Nat.reduceLeDiff, Int.reduceBNe, Int.reduceBEq, Nat.reduceLT, reduceCtorEq, l86_0, Int.reduceLT, hw1]
      rw [hLL]
      exact objs_loop hin rin mid h hv hl hL q1 m (k + 1) s2 (by omega) h2
    · refine wp_in (s30 H hin h.pne h.plen h.pok (by omega) hp fun s1 h1 => ?_)
      simp -implicitDefEqProofs only [↓GP, GB, GL, Nat.reduceAdd, Nat.reduceSub, Nat.reduceEqDiff, Nat.reduceMul, Nat.reduceLeDiff, Int.reduceBNe, Int.reduceBEq, Nat.reduceLT, reduceCtorEq, f s1 h1, e1, h1.mem m1, hld, encW]
      refine wp_in (s69 h1 rin h.rne h.rlen h.rol' (by omega) hr hg hx fun s2 h2 => ?_)
      have hws := ((h.okp mg).1.ws x.b (List.mem_map.2 ⟨x, mx, rfl⟩))
      simp -implicitDefEqProofs only [↓GP, GB, GL, Nat.reduceAdd, Nat.reduceSub, Nat.reduceEqDiff, Nat.reduceMul, Nat.reduceLeDiff, Int.reduceBNe, Int.reduceBEq, Nat.reduceLT, reduceCtorEq, hb, Int.reduceBNe, bne_self_eq_false]
      rw [← hb]
      have := objw_loop (K := blockK 2 (blockK 1 (seqK (loop PF) (call PF) (.region [oa 21 (.mov (.t 5)), oa 22 (.bin .add (.t 21) (ai 1)), oa 5 (.mov (.t 22))] (kp 101 [0,1,5])) (seqK (loop PF) (call PF) (sk 101 [0,1,5]) (roundK LL K))))) hin rin mid h hv hw hL1 hp hr hg hx hb hws (Q := Q) (fun s3 h3 => ?_) x.b.ws.length 0 s2 (by omega) h2
      · exact this
      · simp -implicitDefEqProofs only [↓GP, GB, GL, Nat.reduceAdd, Nat.reduceSub, Nat.reduceEqDiff, Nat.reduceMul, Nat.reduceLeDiff, Int.reduceBNe, Int.reduceBEq, Nat.reduceLT, reduceCtorEq, hw1]
        rw [hLL]
        exact objs_loop hin rin mid h hv hl hL q1 m (k + 1) s3 (by omega) h3
theorem s86 {vl : V} {ws : List (Int × Int)} (hin : In C p G.hp) (rin : RIn C q G.hr) (mid : (G.id, some G.hd) ∈ C) (h : PairOk u others G)
    (hv : SlAt C vl ws.length (ws.flatMap encW)) (hl : ws.length ≤ 100000) (hL : ∀ w ∈ ws, 1 ≤ w.2) (H : Holds o s C) (q1 : ∀ s', Holds o s' C → Q (.bool true) s') : WP (call PF 86 [ptrN G.id, vl] s) Q := by
  rw [call_run F86]; simp -implicitDefEqProofs only [↓GP, GB, GL, Nat.reduceAdd, Nat.reduceSub, Nat.reduceEqDiff, Nat.reduceMul, Nat.reduceLeDiff, Int.reduceBNe, Int.reduceBEq, Nat.reduceLT, reduceCtorEq, c86]
  refine objs_loop hin rin mid h hv hl hL (fun s1 h1 => ?_) ws.length 0 s (by omega) H
  simp -implicitDefEqProofs only [↓GP, GB, GL, Nat.reduceAdd, Nat.reduceSub, Nat.reduceEqDiff, Nat.reduceMul, Nat.reduceLeDiff, Int.reduceBNe, Int.reduceBEq, Nat.reduceLT, reduceCtorEq]
  exact q1 s1 h1
theorem s86_nil {id : Nat} : call PF 86 [ptrN id, .slice none 0 (some 0)] s = some (.bool true, s) := by
  rw [call_run F86]; simp -implicitDefEqProofs only [↓GP, GB, GL, Nat.reduceAdd, Nat.reduceSub, Nat.reduceEqDiff, Nat.reduceMul, Nat.reduceLeDiff, Int.reduceBNe, Int.reduceBEq, Nat.reduceLT, reduceCtorEq, c86]
  refine round fun LL hLL => ?_
  simp -implicitDefEqProofs only [↓GP, GB, GL, Nat.reduceAdd, Nat.reduceSub, Nat.reduceEqDiff, Nat.reduceMul, Nat.reduceLeDiff, Int.reduceBNe, Int.reduceBEq, Nat.reduceLT, reduceCtorEq, l86_1, Int.natCast_zero, Int.reduceLT]
theorem encP_ws (life : Nat) (l : List PObj) : l.flatMap (encP life) = (l.map fun x => ((x.b.at_ : Int), (life : Int))).flatMap encW := by
  rw [List.flatMap_map]; rfl
theorem rencP_ws (life : Nat) (l : List RObj) : l.flatMap (rencP life) = (l.map fun x => ((x.b.at_ : Int), (life : Int))).flatMap encW := by
  rw [List.flatMap_map]; rfl
def IsAt (C : Ch) (id : Nat) (hv rv : V) (i : Int) : Prop := (∃ err, AtErr C hv i err ∧ RAtErr C rv i err) ∨
  ∃ (u : List Bool) (others : List Nat) (G : PairG) (p q n : Nat), PairOk u others G ∧ In C p G.hp ∧ RIn C q G.hr ∧ (G.id, some G.hd) ∈ C ∧ id = G.id ∧ hv = ptrN G.hp.id ∧ rv = ptrN G.hr.id ∧ i = (n : Int) ∧ n < G.hp.regs.length
theorem is_loop {id n : Nat} {hv rv wv : V} {K : Kt} (mid : (id, some (.cells [hv, rv, wv] none)) ∈ C) (h1 : hv.one = true) (h2 : hv.cells = [hv]) (hn : n ≤ 100000) (hd : ∀ s, Holds o s C → call PF 78 [rv] s = some (I n, s))
    (hi : ∀ i : Int, -1 ≤ i → i ≤ n → IsAt C id hv rv i) (q1 : ∀ s', Holds o s' C → WP (K (.exit 0) (sp 162 []) s') Q) :
    ∀ (m j : Nat) (s : St), j + m = n + 2 → Holds o s C → WP (loop PF (.loop l38_0) (sp 162 [(0, ptrN id), (3, I ((j : Int) - 1))]) s K) Q
  | 0, j, s, hj, H => by
    have hle : ¬ ((j : Int) - 1 ≤ (n : Int)) := by omega
    refine wp_round fun LL hLL => ?_
    simp -implicitDefEqProofs only [↓GP, GB, GL, Nat.reduceAdd, Nat.reduceSub, Nat.reduceEqDiff, Nat.reduceMul, Nat.reduceLeDiff, Int.reduceBNe, Int.reduceBEq, Nat.reduceLT, reduceCtorEq, l38_0, H.mem mid, hd s H, hle]
    exact q1 s H
  | m + 1, j, s, hj, H => by
    have hle : ((j : Int) - 1 ≤ (n : Int)) := by omega
    have hw1 : wrapI .i64 ((j : Int) - 1 + 1) = I (((j + 1 : Nat) : Int) - 1) := by rw [wrap64 (by omega) (by omega)]; show V.int _ _ = V.int _ _; congr 1; omega
    have at1 := hi ((j : Int) - 1) (by omega) hle
    refine wp_round fun LL hLL => ?_
    simp -implicitDefEqProofs only [↓GP, GB, GL, Nat.reduceAdd, Nat.reduceSub, Nat.reduceEqDiff, Nat.reduceMul, Nat.reduceLeDiff, Int.reduceBNe, Int.reduceBEq, Nat.reduceLT, reduceCtorEq, l38_0, H.mem mid, hd s H, hle]
    rcases at1 with ⟨err, a, b⟩ | ⟨u, others, G, p, q, i, h, hin, rin, mG, rfl, rfl, rfl, hii, hlt⟩
    · refine wp_in (s29_err H a h1 h2 fun s1 k1 => ?_)
      simp -implicitDefEqProofs only [↓GP, GB, GL, Nat.reduceAdd, Nat.reduceSub, Nat.reduceEqDiff, Nat.reduceMul, Nat.reduceLeDiff, Int.reduceBNe, Int.reduceBEq, Nat.reduceLT, reduceCtorEq, k1.mem mid, s80_err k1 b]
      refine wp_in (s28_err k1 a h1 h2 fun s2 k2 => ?_)
      have e82 := fun err => s82 (err := err) k2 (l := []) SlAt.nil SlAt.nil (by simp)
      have e48 := s48 k2 (l := []) SlAt.nil SlAt.nil (by simp)
      simp -implicitDefEqProofs only [↓GP, GB, GL, Nat.reduceAdd, Nat.reduceSub, Nat.reduceEqDiff, Nat.reduceMul, Nat.reduceLeDiff, Int.reduceBNe, Int.reduceBEq, Nat.reduceLT, reduceCtorEq, k2.mem mid, s81_err k2 b, e82, e48, bne_self_eq_false]
      refine wp_in (s83_err k2 a h1 h2 fun s3 k3 => ?_)
      simp -implicitDefEqProofs only [↓GP, GB, GL, Nat.reduceAdd, Nat.reduceSub, Nat.reduceEqDiff, Nat.reduceMul, Nat.reduceLeDiff, Int.reduceBNe, Int.reduceBEq, Nat.reduceLT, reduceCtorEq, k3.mem mid, s84_err k3 b]
      refine wp_in (s35_err k3 a h1 h2 fun s4 k4 => ?_)
      simp -implicitDefEqProofs only [↓GP, GB, GL, Nat.reduceAdd, Nat.reduceSub, Nat.reduceEqDiff, Nat.reduceMul, Nat.reduceLeDiff, Int.reduceBNe, Int.reduceBEq, Nat.reduceLT, reduceCtorEq, k4.mem mid, s85_err k4 b, bne_self_eq_false]
      simp -implicitDefEqProofs only [↓GP, GB, GL, Nat.reduceAdd, Nat.reduceSub, Nat.reduceEqDiff, Nat.reduceMul, Nat.reduceLeDiff, Int.reduceBNe, Int.reduceBEq, Nat.reduceLT, reduceCtorEq, s86_nil, hw1, k4.mem mid]
      rw [hLL]
      exact is_loop mid h1 h2 hn hd hi q1 m (j + 1) s4 (by omega) k4
    · obtain ⟨A, g, B, A', g', B', e1, e2, l1, l2, hm, -, -⟩ := h.at_ hlt
      have hg : G.hp.regs[i]? = some g := by rw [e1, ← l1]; simp
      have hg' : G.hr.regs[i]? = some g' := by rw [e2, ← l2]; simp
      have mg : g ∈ G.hp.regs := List.mem_of_getElem? hg
      have mg' : g' ∈ G.hr.regs := List.mem_of_getElem? hg'
      obtain ⟨o1, o2, o3⟩ := h.okp mg
      obtain ⟨o1', o2', o3'⟩ := h.okr mg'
      have hpg : g.pages = g'.pages := congrArg Reg.pages hm
      have hlf : g.life = g'.life := congrArg Reg.life hm
      have hob : g.objs.map (·.b) = g'.objs.map (·.b) := congrArg Reg.objs hm
      have hlv := h.inv.life _ (List.mem_map.2 ⟨g, mg, rfl⟩)
      have p1 := h.pol mg
      have p2 := h.rol mg'
      simp only [PReg.m] at o2 hlv
      simp only [RReg.m] at o2'
      have w31 : ∀ x ∈ g.objs, x.b.ws.length ≤ 31 := fun x hx => o1.ws x.b (List.mem_map.2 ⟨x, hx, rfl⟩)
      have w31' : ∀ x ∈ g'.objs, x.b.ws.length ≤ 31 := fun x hx => o1'.ws x.b (List.mem_map.2 ⟨x, hx, rfl⟩)
      obtain ⟨ws, hws⟩ : ∃ ws, ws = g.objs.map fun x => ((x.b.at_ : Int), (g.life : Int)) := ⟨_, rfl⟩
      have hws' : ws = g'.objs.map fun x => ((x.b.at_ : Int), (g'.life : Int)) := by
        have := congrArg (List.map fun b : Obj => ((b.at_ : Int), (g.life : Int))) hob
        rw [List.map_map, List.map_map] at this
        rw [hws, ← hlf]; exact this
      have hwl : g.objs.length = ws.length := by rw [hws, List.length_map]
      have hwl' : g'.objs.length = ws.length := by rw [hws', List.length_map]
      have hwe : g.objs.flatMap (encP g.life) = ws.flatMap encW := by rw [encP_ws, hws]
      have hwe' : g'.objs.flatMap (rencP g'.life) = ws.flatMap encW := by rw [rencP_ws, hws']
      have hL : ∀ w ∈ ws, 1 ≤ w.2 := by
        intro w hw
        rw [hws] at hw
        obtain ⟨x, -, rfl⟩ := List.mem_map.1 hw
        simp only; omega
      have up : ∀ {D : Ch} {x y : Nat × Option O}, y ∈ D → y ∈ x :: D := fun h => List.mem_cons_of_mem _ h
      have hw2 : wrapI .i64 ((i : Int) + 1) = I (((j + 1 : Nat) : Int) - 1) := by rw [wrap64 (by omega) (by omega)]; show V.int _ _ = V.int _ _; congr 1; omega
      rw [hii]
      refine wp_in (s29 H hin h.plen hg (by omega) fun s1 a1 k1 => ?_)
      simp -implicitDefEqProofs only [↓GP, GB, GL, Nat.reduceAdd, Nat.reduceSub, Nat.reduceEqDiff, Nat.reduceMul, Nat.reduceLeDiff, Int.reduceBNe, Int.reduceBEq, Nat.reduceLT, reduceCtorEq, k1.mem (up mid)]
      refine wp_in (s80 k1 (rin.cons _) hg' (by omega) fun s2 a2 a0 k2 => ?_)
      rw [← hpg] at k2 ⊢
      simp -implicitDefEqProofs only [↓GP, GB, GL, Nat.reduceAdd, Nat.reduceSub, Nat.reduceEqDiff, Nat.reduceMul, Nat.reduceLeDiff, Int.reduceBNe, Int.reduceBEq, Nat.reduceLT, reduceCtorEq, k2.mem (up (up mid))]
      refine wp_in (s28 k2 ((hin.cons _).cons _) h.plen hg (by omega) fun s3 a3 k3 => ?_)
      simp only [hwl, hwe] at k3 ⊢
      simp -implicitDefEqProofs only [↓GP, GB, GL, Nat.reduceAdd, Nat.reduceSub, Nat.reduceEqDiff, Nat.reduceMul, Nat.reduceLeDiff, Int.reduceBNe, Int.reduceBEq, Nat.reduceLT, reduceCtorEq, k3.mem (up (up (up mid)))]
      refine wp_in (s81 k3 (((rin.cons _).cons _).cons _) hg' (by omega) fun s4 a4 k4 => ?_)
      simp only [hwl', hwe'] at k4 ⊢
      have m4 := up (x := (a4, rowO 2 ws.length (ws.flatMap encW))) (up (x := (a3, rowO 2 ws.length (ws.flatMap encW))) (up (x := (a2, pagesO g.pages)) (up (x := (a1, pagesO g.pages)) mid)))
      have e82 := s82 (err := 0) k4 (l := g.pages) (.row (up (up (up (List.mem_cons_self ..))))) (sl_pagesV (k0 := a0) (up (up (List.mem_cons_self ..)))) (by omega)
      have e48 := s48 k4 (l := ws) (.row (up (List.mem_cons_self ..))) (.row (List.mem_cons_self ..)) (by omega)
      simp -implicitDefEqProofs only [↓GP, GB, GL, Nat.reduceAdd, Nat.reduceSub, Nat.reduceEqDiff, Nat.reduceMul, Nat.reduceLeDiff, Int.reduceBNe, Int.reduceBEq, Nat.reduceLT, reduceCtorEq, k4.mem m4, e82, e48, Int.reduceBNe]
      have hin4 := (((hin.cons (a1, pagesO g.pages)).cons (a2, pagesO g.pages)).cons (a3, rowO 2 ws.length (ws.flatMap encW))).cons (a4, rowO 2 ws.length (ws.flatMap encW))
      have rin4 := (((rin.cons (a1, pagesO g.pages)).cons (a2, pagesO g.pages)).cons (a3, rowO 2 ws.length (ws.flatMap encW))).cons (a4, rowO 2 ws.length (ws.flatMap encW))
      refine wp_in (s83 k4 hin4 h.plen hg (by omega) w31 fun s5 k5 => ?_)
      have e84 := s84 k5 rin4 hg' (by omega) w31'
      rw [← hm] at e84
      simp -implicitDefEqProofs only [↓GP, GB, GL, Nat.reduceAdd, Nat.reduceSub, Nat.reduceEqDiff, Nat.reduceMul, Nat.reduceLeDiff, Int.reduceBNe, Int.reduceBEq, Nat.reduceLT, reduceCtorEq, k5.mem m4, e84, Int.reduceBNe]
      refine wp_in (s35 k5 hin4 h.plen hg fun s6 k6 => ?_)
      have e85 := s85 k6 rin4 hg'
      rw [← hlf] at e85
      simp -implicitDefEqProofs only [↓GP, GB, GL, Nat.reduceAdd, Nat.reduceSub, Nat.reduceEqDiff, Nat.reduceMul, Nat.reduceLeDiff, Int.reduceBNe, Int.reduceBEq, Nat.reduceLT, reduceCtorEq, k6.mem m4, e85, Int.reduceBNe, bne_self_eq_false]
      refine wp_in (s86 hin4 rin4 (up (up (up (up mG)))) h (.row (List.mem_cons_self ..)) (by omega) hL k6 fun s7 k7 => ?_)
      simp -implicitDefEqProofs only [↓GP, GB, GL, Nat.reduceAdd, Nat.reduceSub, Nat.reduceEqDiff, Nat.reduceMul, Nat.reduceLeDiff, Int.reduceBNe, Int.reduceBEq, Nat.reduceLT, reduceCtorEq, hw2]
      rw [hLL]
      exact is_loop mid h1 h2 hn hd hi q1 m (j + 1) s7 (by omega) k7.tl.tl.tl.tl
theorem s38 {id n : Nat} {hv rv wv : V} (mid : (id, some (.cells [hv, rv, wv] none)) ∈ C) (h1 : hv.one = true) (h2 : hv.cells = [hv]) (hn : n ≤ 100000) (hd : ∀ s, Holds o s C → call PF 78 [rv] s = some (I n, s) ∧ call PF 27 [hv] s = some (I n, s))
    (hu : ∃ k : Nat, call PF 36 [hv] s = some (I k, s) ∧ call PF 79 [rv] s = some (I k, s)) (hb : ∀ s : St, againV rv rv s = some (.any, s)) (hi : ∀ i : Int, -1 ≤ i → i ≤ n → IsAt C id hv rv i) (H : Holds o s C) (q1 : ∀ s', Holds o s' C → Q (.bool true) s') : WP (call PF 38 [ptrN id] s) Q := by
  obtain ⟨k, k1, k2⟩ := hu
  rw [call_run F38]; simp -implicitDefEqProofs only [↓GP, GB, GL, Nat.reduceAdd, Nat.reduceSub, Nat.reduceEqDiff, Nat.reduceMul, Nat.reduceLeDiff, Int.reduceBNe, Int.reduceBEq, Nat.reduceLT, reduceCtorEq, c38, H.mem mid, hd s H, k1, k2, hb, bne_self_eq_false]
  refine is_loop mid h1 h2 hn (fun s h => (hd s h).1) hi (fun s1 g1 => ?_) (n + 2) 0 s (by omega) H
  simp -implicitDefEqProofs only [↓GP, GB, GL, Nat.reduceAdd, Nat.reduceSub, Nat.reduceEqDiff, Nat.reduceMul, Nat.reduceLeDiff, Int.reduceBNe, Int.reduceBEq, Nat.reduceLT, reduceCtorEq]
  exact q1 s1 g1
theorem pair_is (h : PairOk u others G) (hin : In C p G.hp) (rin : RIn C q G.hr) (mid : (G.id, some G.hd) ∈ C) (H : Holds o s C) (q1 : ∀ s', Holds o s' C → Q (.bool true) s') : WP (call PF 38 [ptrN G.id] s) Q := by
  have hl := h.plen
  have hp : ∀ g ∈ G.hp.regs, g.pages.length ≤ 400 := fun g hg => by have := (h.okp hg).2.1; simp only [PReg.m] at this; omega
  have hp' : ∀ g ∈ G.hr.regs, g.pages.length ≤ 400 := fun g hg => by have := (h.okr hg).2.1; simp only [RReg.m] at this; omega
  have hsame : G.hp.regs.map (·.pages) = G.hr.regs.map (·.pages) := by
    have := congrArg (List.map Reg.pages) h.same
    rwa [List.map_map, List.map_map] at this
  refine s38 (n := G.hp.regs.length) mid rfl rfl hl (fun s H => ⟨by rw [h.len]; exact s78 H rin h.rne, s27 H hin⟩) ⟨_, s36 H hin h.pne hl hp, by rw [hsame]; exact s79 H rin h.rne h.rlen hp'⟩ (fun s => againV_ptr _ s) (fun i h0 h1 => ?_) H q1
  by_cases hb : 0 ≤ i ∧ i < G.hp.regs.length
  · exact .inr ⟨u, others, G, p, q, i.toNat, h, hin, rin, mid, rfl, rfl, rfl, by omega, by omega⟩
  · exact .inl ⟨2, AtErr.of hin h.pne hl hb, RAtErr.of rin h.rne (by rw [← h.len]; exact hb)⟩
end
end Go.Proofs.Ytoldkemimhebaaa

set_option linter.unusedSimpArgs false
set_option linter.unusedVariables false
namespace Go.Proofs.Ytoldkemimhebaaa
open Go Go.IM
def c10 : IFn := ⟨63, [(6, none)],
  (.seq (.region [oa 6 (.mov (.c (.bool false)))] (kp 63 [0,1,2]))
  (.seq (.seq (.region [oa 14 (.mov (.t 0)), oa 15 (.mov (.t 1)), oa 16 (.mov (.t 2)), oa 17 (.call 40 [(.t 14), (.t 15), (.t 16)])] (kp 63 [0,1,2,17]))
  (.cond (.t 17)
  (.seq (.region [oa 18 (.call 41 []), oa 6 (.mov (.t 18))] (kp 63 [6]))
  (sr 63 [6]))
  (sk 63 [0,1,2])))
  (.seq (.region [oa 20 (.mov (.t 0)), oa 21 (.call 42 [(.t 20)]), oa 19 (.mov (.t 21)), oa 22 (.extract (.t 19) 0), oa 23 (.extract (.t 19) 1), oa 7 (.mov (.t 22)), oa 8 (.mov (.t 23))] (kp 63 [1,2,7,8]))
  (.seq (.seq (.region [oa 24 (.mov (.t 8)), oa 25 (.un .not (.t 24))] (kp 63 [1,2,7,25]))
  (.cond (.t 25)
  (.seq (.region [oa 6 (.mov (.c (.bool false)))] (kp 63 [6]))
  (sr 63 [6]))
  (sk 63 [1,2,7])))
  (.seq (.region [oa 26 (.mov (.t 7)), oa 27 (.mov (.t 1)), oa 28 (.mov (.t 2)), oa 29 (.call 43 [(.t 26), (.t 27), (.t 28)]), oa 9 (.mov (.t 29))] (kp 63 [7,9]))
  (.seq (.region [oa 31 (.mov (.t 7)), oa 32 (.nilCheck (.t 31)), oa 33 (.fieldAddr 0 (.t 32)), oa 34 (.load none (.t 33)), oa 35 (.mov (.t 9)), oa 36 (.call 46 [(.t 34), (.t 35)]), oa 30 (.mov (.t 36)), oa 37 (.extract (.t 30) 0), oa 38 (.extract (.t 30) 1), oa 10 (.mov (.t 37)), oa 11 (.mov (.t 38))] (kp 63 [7,9,10,11]))
  (.seq (.region [oa 40 (.mov (.t 7)), oa 41 (.nilCheck (.t 40)), oa 42 (.fieldAddr 1 (.t 41)), oa 43 (.load none (.t 42)), oa 44 (.mov (.t 9)), oa 45 (.call 47 [(.t 43), (.t 44)]), oa 39 (.mov (.t 45)), oa 46 (.extract (.t 39) 0), oa 47 (.extract (.t 39) 1), oa 12 (.mov (.t 46)), oa 13 (.mov (.t 47))] (kp 63 [7,10,11,12,13]))
  (.seq (.region [oa 48 (.mov (.t 11)), oa 49 (.mov (.t 13)), oa 50 (.bin .eql (.t 48) (.t 49)), oa 51 (.mov (.t 50)), oc 52 (.mov (.t 10)) 51 tt, oc 53 (.mov (.t 12)) 51 tt, oc 54 (.call 48 [(.t 52), (.t 53)]) 51 tt, oa 55 (.pick (.t 51) (.t 54) (.c (.bool false))), oa 56 (.mov (.t 55)), oc 57 (.mov (.t 7)) 56 tt, oc 58 (.call 38 [(.t 57)]) 56 tt, oa 59 (.pick (.t 56) (.t 58) (.c (.bool false))), oa 60 (.mov (.t 59)), oc 61 (.call 41 []) 60 tt, oa 62 (.pick (.t 60) (.t 61) (.c (.bool false))), oa 6 (.mov (.t 62))] (kp 63 [6]))
  (sr 63 [6])))))))))⟩
theorem F10 : shutF Try.prog 10 = some c10 := by kernel_rfl
section
variable {o : Nat → Option O} {s : St} {C F : Ch} {Q : V → St → Prop} {p q r t : Nat} {u : List Bool} {G : PairG}
set_option maxRecDepth 10000
set_option maxHeartbeats 4000000
theorem PairOk.collected (h : PairOk u [] G) {L : List (Int × Int)} {hp' : PHeap} {D : List RReg} (d2 : hp'.lives = G.hp.lives) (d4 : hp'.regs.map PReg.m = colRegs L (colAll L u (G.hp.regs.map PReg.m))) (hR : RsOk G.hp.lives (colAll L u (G.hp.regs.map PReg.m)).u (hp'.regs.map PReg.m)) (hok : ∀ g ∈ hp'.regs, g.ok)
    (hD : D.map RReg.m = colRegs L (colAll L u (G.hp.regs.map PReg.m))) (hz : ∀ g ∈ D, g.pages.length = 0 → g.pgk = 0) (hl : hp'.regs.length = G.hp.regs.length) :
    PairOk (colAll L u (G.hp.regs.map PReg.m)).u [] { G with hp := hp', hr := { G.hr with regs := D } } where
  ulen := hR.ulen
  lives := by rw [d2]; exact h.lives
  same := by rw [d4, hD]
  inv := by rw [show ({ G with hp := hp', hr := { G.hr with regs := D } } : PairG).hp.lives = hp'.lives from rfl, d2]; exact hR.inv
  pool := by rw [List.append_nil]; exact hR.pool
  pok := hok
  grown := h.grown
  pz := hz
  one := fun e => by
    have h1 := h.one e
    have h2 := congrArg List.length (d4.trans hD.symm)
    simp only [List.length_map] at h2
    show D.length = 1
    have h3 := h.len
    omega
theorem collectCollects_im {v v1 v2 : V} {l : List (ActG × List Bool)} {is : List Int} {os : List (Int × Int)} (hA : ActsAt o v l) (hll : l.length < 2 ^ 61) (hI : OldI o v1 is) (hO : OldW o v2 os) (s : St) (hs : s.old = o) : ∃ st, call PF 10 [v, v1, v2] s = some (.bool true, st) := by
  refine im_trueC ?_
  have e40 := s40 hs hA hll hI.len hO.len
  cases hlg : longR l is.length os.length with
  | true =>
    rw [hlg] at e40
    obtain ⟨t, ht, -⟩ := sane16 s
    rw [call_run F10]; simp -implicitDefEqProofs only [↓GP, GB, GL, Nat.reduceAdd, Nat.reduceSub, Nat.reduceEqDiff, Nat.reduceMul, Nat.reduceLeDiff, Int.reduceBNe, Int.reduceBEq, Nat.reduceLT, reduceCtorEq, c10, e40, ht]
  | false =>
    rw [hlg] at e40
    obtain ⟨hlb, hil, hol⟩ := longR_false hlg
    have hl := longB_lenC hlb
    rw [call_run F10]; simp -implicitDefEqProofs only [↓GP, GB, GL, Nat.reduceAdd, Nat.reduceSub, Nat.reduceEqDiff, Nat.reduceMul, Nat.reduceLeDiff, Int.reduceBNe, Int.reduceBEq, Nat.reduceLT, reduceCtorEq, c10, e40]
    refine wp_in (s42 hA hl (H0c hs) fun s1 p r q t u G ok hul hlv hws h1 => ?_)
    simp -implicitDefEqProofs only [↓GP, GB, GL, Nat.reduceAdd, Nat.reduceSub, Nat.reduceEqDiff, Nat.reduceMul, Nat.reduceLeDiff, Int.reduceBNe, Int.reduceBEq, Nat.reduceLT, reduceCtorEq]
    have hR := ok.rs
    obtain ⟨hall, hlen⟩ := hR.all hlv
    refine wp_in (s43 hI hil hO hol (by omega) World.id World.wk h1 fun s2 kr h2 => ?_)
    have hrl : (pickL G.ws is ++ os).length ≤ 60 := by
      have : (pickL G.ws is).length ≤ 40 := by unfold pickL; exact Nat.le_trans (List.length_filterMap_le ..) hil
      simp; omega
    generalize pickL G.ws is ++ os = roots at h2 hrl
    have fG := h2.mem (List.mem_cons_of_mem _ World.id)
    simp only [PairG.hd] at fG
    simp -implicitDefEqProofs only [↓GP, GB, GL, Nat.reduceAdd, Nat.reduceSub, Nat.reduceEqDiff, Nat.reduceMul, Nat.reduceLeDiff, Int.reduceBNe, Int.reduceBEq, Nat.reduceLT, reduceCtorEq, fG]
    refine wp_in (s46 (p := p) (r := r) (u := u) (hp := G.hp) (F := (kr, rowO 2 roots.length (roots.flatMap encW)) :: (G.id, some (.cells [ptrN G.hp.id, ptrN G.hr.id, rowV G.wk G.ws.length] none)) :: (G.wk, rowO 2 G.ws.length (G.ws.flatMap encW)) :: (poolC q t u ++ G.hr.ch q))
      (Holds.of (h2) (fun k => by simp +arith only [HA, HB]) (fun k x => by simp only [HA, HC]; grind only)) hR ok.pok (List.mem_cons_self ..) (by omega) hall fun s5 hp' kout d1 d2 d3 d4 hR' hok' h5 => ?_)
    have hRr : RsOk G.hp.lives u (G.hr.regs.map RReg.m) := by rw [← ok.same]; exact hR
    have fG5 := h5.mem (List.mem_cons_of_mem _ (List.mem_append_right _ (List.mem_append_right _ (List.mem_cons_of_mem _ (List.mem_cons_self ..)))) : (G.id, some (O.cells [ptrN G.hp.id, ptrN G.hr.id, rowV G.wk G.ws.length] none)) ∈ _)
    simp -implicitDefEqProofs only [↓GP, GB, GL, Nat.reduceAdd, Nat.reduceSub, Nat.reduceEqDiff, Nat.reduceMul, Nat.reduceLeDiff, Int.reduceBNe, Int.reduceBEq, Nat.reduceLT, reduceCtorEq, fG5]
    refine wp_in (s47 (hp := G.hp) (hr := G.hr) (q := q) (r := t) (u := u) (lv := G.hp.lives) (F := (kr, rowO 2 roots.length (roots.flatMap encW)) :: (kout, rowO 2 roots.length ((roots.map (nowW (colAll (reachW G.hp roots) u (G.hp.regs.map PReg.m)).mv (colAll (reachW G.hp roots) u (G.hp.regs.map PReg.m)).fx)).flatMap encW)) ::
      (G.id, some (.cells [ptrN G.hp.id, ptrN G.hr.id, rowV G.wk G.ws.length] none)) :: (G.wk, rowO 2 G.ws.length (G.ws.flatMap encW)) :: (poolC p r (colAll (reachW G.hp roots) u (G.hp.regs.map PReg.m)).u ++ hp'.ch p))
      (Holds.of (h5) (fun k => by simp +arith only [HA, HB]) (fun k x => by simp only [HA, HC]; grind only)) ok.same hRr (by omega) (by rw [← ok.len]; omega) (List.mem_cons_self ..) (by omega) hall fun s6 D kout2 q1 q2 h6 => ?_)
    rw [← ok.same] at q1 h6
    have ok' := ok.collected d2 d4 hR' hok' q1 (q2 ok.pz) d3
    generalize hS : colAll (reachW G.hp roots) u (G.hp.regs.map PReg.m) = S at *
    have hnl : (roots.map (nowW S.mv S.fx)).length = roots.length := by simp
    generalize roots.map (nowW S.mv S.fx) = N at *
    generalize hG' : ({ G with hp := hp', hr := { G.hr with regs := D } } : PairG) = G' at ok'
    have h7 : Holds o s6 ((kout, rowO 2 N.length (N.flatMap encW)) :: (kout2, rowO 2 N.length (N.flatMap encW)) :: World p r q t S.u G' []) := by
      subst hG'
      rw [hnl]
      exact (Holds.of (h6) (fun k => by simp +arith only [d1, RHeap.hd, RHeap.rv, List.append_nil, HA, HB]) (fun k x => by simp only [d1, RHeap.hd, RHeap.rv, List.append_nil, HA, HC]; grind only))
    have e48 := s48 h7 (l := N) (v := rowV kout N.length) (v' := rowV kout2 N.length) (SlAt.row (sz := 2) (List.mem_cons_self ..)) (SlAt.row (sz := 2) (List.mem_cons_of_mem _ (List.mem_cons_self ..))) (by omega)
    rw [hnl] at e48
    have eid : G.id = G'.id := by subst hG'; rfl
    simp -implicitDefEqProofs only [↓GP, GB, GL, Nat.reduceAdd, Nat.reduceSub, Nat.reduceEqDiff, Nat.reduceMul, Nat.reduceLeDiff, Int.reduceBNe, Int.reduceBEq, Nat.reduceLT, reduceCtorEq, e48, Int.reduceBEq]
    rw [eid]
    refine wp_in (pair_is (p := p) (q := q) ok' ⟨fun x hx => List.mem_cons_of_mem _ (List.mem_cons_of_mem _ (World.in_.sub x hx))⟩ ⟨fun x hx => List.mem_cons_of_mem _ (List.mem_cons_of_mem _ (World.rin.sub x hx))⟩ (List.mem_cons_of_mem _ (List.mem_cons_of_mem _ World.id)) h7 fun s7 h8 => ?_)
    obtain ⟨t', ht', -⟩ := sane16 s7
    simp -implicitDefEqProofs only [↓GP, GB, GL, Nat.reduceAdd, Nat.reduceSub, Nat.reduceEqDiff, Nat.reduceMul, Nat.reduceLeDiff, Int.reduceBNe, Int.reduceBEq, Nat.reduceLT, reduceCtorEq, ht']
end
end Go.Proofs.Ytoldkemimhebaaa

set_option linter.unusedSimpArgs false
set_option linter.unusedVariables false
namespace Go.IM
open Go.ChangeShapes Go.WideShapes Go.RowKit
inductive D where
  | lit (v : V)
  | agg (ds : List D)
  | sl (sz : Nat) (es : List D)
  deriving Inhabited
mutual
inductive Rep (o : Nat → Option O) : D → List V → Prop
  | lit (v : V) : Rep o (.lit v) [v]
  | agg {ds : List D} {cs : List V} : Reps o ds cs → Rep o (.agg ds) cs
  | nil {sz : Nat} {a : Option Ad} {c : Option Nat} : Rep o (.sl sz []) [.slice a 0 c]
  | sl {sz b off cap : Nat} {d : D} {es : List D} {C : List V} : o b = some (.cells C none) → RepE o C sz off (d :: es) → Rep o (.sl sz (d :: es)) [.slice (some ⟨.old b, off⟩) (d :: es).length (some cap)]
inductive Reps (o : Nat → Option O) : List D → List V → Prop
  | nil : Reps o [] []
  | cons {d : D} {ds : List D} {c cs : List V} : Rep o d c → Reps o ds cs → Reps o (d :: ds) (c ++ cs)
inductive RepE (o : Nat → Option O) : List V → Nat → Nat → List D → Prop
  | nil {C : List V} {sz off : Nat} : RepE o C sz off []
  | cons {C : List V} {sz off : Nat} {d : D} {ds : List D} {c : List V} : cut C off sz = some c → Rep o d c → RepE o C sz (off + sz) ds → RepE o C sz off (d :: ds)
end

mutual
inductive HasTy (P : Program) : TypeId → D → Prop
  | bool {t : TypeId} {b : Bool} : P.underlying t = some .bool → HasTy P t (.lit (.bool b))
  | int {t : TypeId} {k : IntKind} {n : Int} : P.underlying t = some (.int k) → (Lit.int k n).wf = true → HasTy P t (.lit (.int k n))
  | str {t : TypeId} {s : ByteArray} : P.underlying t = some .string → s.size ≤ maxLen → HasTy P t (.lit (.str s))
  | sl {t e : TypeId} {es : List D} : P.underlying t = some (.slice e) → es.length ≤ maxLen → (∀ d ∈ es, HasTy P e d) → HasTy P t (.sl (P.cellsOf e) es)
  | agg {t : TypeId} {fs : Array Field} {ds : List D} : P.underlying t = some (.struct fs) → HasTys P fs.toList ds → HasTy P t (.agg ds)
inductive HasTys (P : Program) : List Field → List D → Prop
  | nil : HasTys P [] []
  | cons {f : Field} {fs : List Field} {d : D} {ds : List D} : HasTy P f.type d → HasTys P fs ds → HasTys P (f :: fs) (d :: ds)
end

def tileB (P : Program) (total : Nat) : Nat → List Field → Bool
  | off, [] => off == total
  | off, f :: fs => f.offset == off && tileB P total (off + P.cellsOf f.type) fs
def tyOk (P : Program) (Ts : List TypeId) : Bool := Ts.all fun t => match P.underlying t with
  | some .bool | some (.int _) | some .string => true
  | some (.slice e) => Ts.contains e && decide (0 < P.cellsOf e)
  | some (.struct fs) => fs.toList.all (fun f => Ts.contains f.type) && tileB P (P.cellsOf t) 0 fs.toList
  | _ => false
theorem ofVals_map : ∀ l : List Value, ofVals l = l.map ofVal
  | [] => rfl
  | v :: l => by rw [ofVals, ofVals_map l]; rfl
theorem ofVals_append (l m : List Value) : ofVals (l ++ m) = ofVals l ++ ofVals m := by rw [ofVals_map, ofVals_map, ofVals_map, List.map_append]
section
variable {H : Type} {enc : TypeId × Value → H} {W : Go.World} {P : Program}
theorem rd {base n : Nat} {a : Addr} {cs : List Value} (hn : 0 < n) (h : W.cells? base a n = some cs) : a.spot = none ∧ ∃ C, (oldSt W).old a.block = some (.cells C none) ∧ cut C a.off n = some (ofVals cs) := by
  obtain ⟨_, hlen, hc⟩ := Go.World.cells?_some h
  have h0 := hc 0 hn
  rw [show a.add 0 = a from rfl, List.getElem?_eq_getElem (by omega)] at h0
  unfold Go.World.cell? at h0
  split at h0
  · rename_i c el fr hb
    split at h0
    · cases h0
    · rename_i hs
      refine ⟨by simpa using hs, ofVals c.toList, by simp [oldSt, hb], ?_⟩
      have hget : ∀ i, i < n → c[a.off + i]? = cs[i]? := by
        intro i hi
        have := hc i hi
        rw [← this]
        unfold Go.World.cell? Addr.add
        by_cases h0 : i = 0
        · subst h0; simp [hb, hs]
        · simp [h0, hb]
      have hsz : a.off + n ≤ c.size := by
        have := hget (n - 1) (by omega)
        rw [List.getElem?_eq_getElem (by omega)] at this
        have := (Array.getElem?_eq_some_iff.1 this).1
        omega
      rw [ofVals_map, ofVals_map]
      unfold cut
      rw [if_pos (by simp; exact hsz)]
      congr 1
      apply List.ext_getElem?
      intro i
      by_cases hi : i < n
      · rw [List.getElem?_take, if_pos hi, List.getElem?_drop, List.getElem?_map, List.getElem?_map, Array.getElem?_toList, hget i hi]
      · rw [List.getElem?_eq_none (by simp; omega), List.getElem?_eq_none (by simp; omega)]
  · cases h0
theorem ofVal_slice {a : Addr} {len cap : Nat} (hl : len ≤ cap) (hsp : 0 < cap → a.spot = none) : ofVal (.slice (some a) len cap) = .slice (some ⟨.old a.block, a.off⟩) len (some cap) := by
  obtain ⟨b, off, sp⟩ := a
  cases sp with
  | none => simp [ofVal, hl]
  | some x =>
    have hc : cap = 0 := by
      rcases Nat.eq_zero_or_pos cap with h | h
      · exact h
      · have := hsp h; simp at this
    subst hc
    have : len = 0 := by omega
    subst this
    rfl
theorem add_block (a : Addr) (i : Nat) : (a.add i).block = a.block := by unfold Addr.add; split <;> rfl
theorem add_off (a : Addr) (i : Nat) : (a.add i).off = a.off + i := by unfold Addr.add; split <;> simp_all
theorem rep_of {Ts : List TypeId} (hT : tyOk P Ts = true) : ∀ (fuel : Nat) (t : TypeId) (cs : List Value) (x : DataW H × List MemPlace), t ∈ Ts → DataW.trod enc P W 0 (fun _ => true) true fuel t cs = some x →
    ∃ d, HasTy P t d ∧ Rep (oldSt W).old d (ofVals cs) := by
  intro fuel
  induction fuel using Nat.strongRecOn with
  | _ fuel ih =>
    intro t cs x ht h
    have hk := List.all_eq_true.1 hT t ht
    split at hk
    · rename_i hu
      obtain ⟨b, rfl, _⟩ := DataW.trod_bool hu h
      exact ⟨_, .bool hu, .lit _⟩
    · rename_i k hu
      obtain ⟨n, rfl, _, hw⟩ := DataW.trod_int hu h
      exact ⟨_, .int hu hw, .lit _⟩
    · rename_i hu
      obtain ⟨s, rfl, _, hs⟩ := DataW.trod_string hu h
      exact ⟨_, .str hu hs, .lit _⟩
    · rename_i e hu
      rw [Bool.and_eq_true, List.contains_eq_mem, decide_eq_true_eq, decide_eq_true_eq] at hk
      obtain ⟨he, h0⟩ := hk
      rcases DataW.trod_slice hu h with ⟨rfl, _⟩ | ⟨a, len, cap, elems, rest, n, rfl, rfl, _, hb, hl, hm, hlen, hel, hsp, _⟩
      · exact ⟨.sl _ [], .sl hu (by simp [maxLen]) (fun d hd => by cases hd), .nil⟩
      · have hspot : 0 < cap → a.spot = none := fun hc => by
          have hx : ∃ y, (W.cells? 0 a (P.cellsOf e)).bind (DataW.trod enc P W 0 (fun _ => true) true n e) = some y := by
            rcases Nat.eq_zero_or_pos len with h1 | h1
            · obtain ⟨q1, q2⟩ := hsp rfl
              have := q2 0 (by omega)
              rw [h1, show ((0 + 0) * P.cellsOf e) = 0 by simp, show a.add 0 = a from rfl, List.getElem?_eq_getElem (by omega)] at this
              exact ⟨_, this⟩
            · have := hel 0 h1
              rw [show (0 * P.cellsOf e) = 0 by simp, show a.add 0 = a from rfl, List.getElem?_eq_getElem (by omega)] at this
              exact ⟨_, this⟩
          obtain ⟨y, hy⟩ := hx
          rw [Option.bind_eq_some_iff] at hy
          obtain ⟨c, hc, _⟩ := hy
          exact (rd h0 hc).1
        have each : ∀ i, i < len → ∃ d c, HasTy P e d ∧ Rep (oldSt W).old d c ∧ ∃ C, (oldSt W).old a.block = some (.cells C none) ∧ cut C (a.off + i * P.cellsOf e) (P.cellsOf e) = some c := by
          intro i hi
          have := hel i hi
          rw [List.getElem?_eq_getElem (by omega), Option.bind_eq_some_iff] at this
          obtain ⟨c, h1, h2⟩ := this
          obtain ⟨d, k1, k2⟩ := ih n (by omega) e c _ he h2
          obtain ⟨_, C, k3, k4⟩ := rd h0 h1
          rw [add_block] at k3
          rw [add_off] at k4
          exact ⟨d, _, k1, k2, C, k3, k4⟩
        have all : ∀ m i, i + m = len → ∀ C, (oldSt W).old a.block = some (.cells C none) → ∃ es, es.length = m ∧ (∀ d ∈ es, HasTy P e d) ∧ RepE (oldSt W).old C (P.cellsOf e) (a.off + i * P.cellsOf e) es := by
          intro m
          induction m with
          | zero => exact fun i _ C _ => ⟨[], rfl, (fun d hd => by cases hd), .nil⟩
          | succ m ihm =>
            intro i hi C hC
            obtain ⟨d, c, k1, k2, C', k3, k4⟩ := each i (by omega)
            rw [hC] at k3; cases k3
            obtain ⟨es, q1, q2, q3⟩ := ihm (i + 1) (by omega) C hC
            refine ⟨d :: es, by simp [q1], fun d' hd' => ?_, .cons k4 k2 ?_⟩
            · rcases List.mem_cons.1 hd' with rfl | hd'
              · exact k1
              · exact q2 _ hd'
            · rw [Nat.add_mul, Nat.one_mul, ← Nat.add_assoc] at q3; exact q3
        rw [show ofVals [Value.slice (some a) len cap] = [ofVal (.slice (some a) len cap)] from rfl, ofVal_slice hl hspot]
        rcases Nat.eq_zero_or_pos len with h1 | h1
        · subst h1
          exact ⟨.sl _ [], .sl hu (by simp [maxLen]) (fun d hd => by cases hd), .nil⟩
        · obtain ⟨_, _, _, _, C, hC, _⟩ := each 0 h1
          obtain ⟨es, q1, q2, q3⟩ := all len 0 (by omega) C hC
          rw [Nat.zero_mul, Nat.add_zero] at q3
          match es, q1 with
          | [], q1 => simp at q1; omega
          | d :: es, q1 =>
            refine ⟨.sl _ (d :: es), .sl hu (by omega) q2, ?_⟩
            rw [← q1]
            exact .sl hC q3
    · rename_i fs hu
      rw [Bool.and_eq_true] at hk
      obtain ⟨hm, htile⟩ := hk
      obtain ⟨xs, n, rfl, _, hlen, hxl, hf⟩ := DataW.trod_struct hu h
      have each : ∀ f ∈ fs.toList, ∃ d, HasTy P f.type d ∧ Rep (oldSt W).old d (ofVals ((cs.drop f.offset).take (P.cellsOf f.type))) := by
        intro f hfm
        obtain ⟨i, hi, rfl⟩ := List.mem_iff_getElem.1 hfm
        have hi' : i < fs.size := by simpa using hi
        have := hf i fs[i] (by simp [hi'])
        rw [List.getElem?_eq_getElem (by omega)] at this
        have hmem := List.all_eq_true.1 hm _ (List.getElem_mem hi)
        rw [List.contains_eq_mem, decide_eq_true_eq] at hmem
        simp only [Array.getElem_toList] at hmem ⊢
        exact ih n (by omega) _ _ _ hmem this
      have go : ∀ (l : List Field) (off : Nat), (∀ f ∈ l, f ∈ fs.toList) → tileB P (P.cellsOf t) off l = true → off ≤ cs.length → ∃ ds, HasTys P l ds ∧ Reps (oldSt W).old ds (ofVals (cs.drop off)) := by
        intro l
        induction l with
        | nil =>
          intro off _ h1 _
          have : off = P.cellsOf t := by simpa [tileB] using h1
          exact ⟨[], .nil, by rw [List.drop_eq_nil_of_le (by omega)]; exact .nil⟩
        | cons f l ihl =>
          intro off h0 h1 h2
          simp only [tileB, Bool.and_eq_true, beq_iff_eq] at h1
          obtain ⟨d, k1, k2⟩ := each f (h0 f (List.mem_cons_self ..))
          have le : ∀ (l : List Field) (off : Nat), tileB P (P.cellsOf t) off l = true → off ≤ P.cellsOf t := by
            intro l
            induction l with
            | nil => intro off h; have : off = P.cellsOf t := by simpa [tileB] using h
                     omega
            | cons f l ihl => intro off h; simp only [tileB, Bool.and_eq_true, beq_iff_eq] at h; have := ihl _ h.2; omega
          obtain ⟨ds, q1, q2⟩ := ihl (off + P.cellsOf f.type) (fun g hg => h0 g (List.mem_cons_of_mem _ hg)) h1.2 (by rw [hlen]; exact le _ _ h1.2)
          refine ⟨d :: ds, .cons k1 q1, ?_⟩
          rw [h1.1] at k2
          have e : cs.drop off = (cs.drop off).take (P.cellsOf f.type) ++ cs.drop (off + P.cellsOf f.type) := by
            rw [← List.drop_drop, List.take_append_drop]
          rw [e, ofVals_append]
          exact .cons k2 q2
      obtain ⟨ds, q1, q2⟩ := go fs.toList 0 (fun _ h => h) htile (by omega)
      exact ⟨.agg ds, .agg hu q1, .agg (by rw [List.drop_zero] at q2; exact q2)⟩
    · cases hk
end
def litEq : V → V → Bool
  | .bool a, .bool b => a == b
  | .int _ a, .int _ b => a == b
  | .str a, .str b => a.toList == b.toList
  | _, _ => false
mutual
def beqD : D → D → Bool
  | .lit a, .lit b => litEq a b
  | .agg a, .agg b => beqDs a b
  | .sl _ a, .sl _ b => beqDs a b
  | _, _ => false
def beqDs : List D → List D → Bool
  | [], [] => true
  | x :: xs, y :: ys => beqD x y && beqDs xs ys
  | _, _ => false
end

section
variable {o : Nat → Option O} {P : Program}
def Tys (P : Program) : List TypeId → List D → Prop
  | [], [] => True
  | t :: ts, d :: ds => HasTy P t d ∧ Tys P ts ds
  | _, _ => False
theorem HasTys.tys : ∀ {fs : List Field} {ds : List D}, HasTys P fs ds → Tys P (fs.map (·.type)) ds
  | [], _, .nil => trivial
  | _ :: _, _, .cons h hs => ⟨h, hs.tys⟩
def structT (P : Program) (t : TypeId) : Option (List TypeId) := match P.underlying t with
  | some (.struct fs) => some (fs.toList.map (·.type))
  | _ => none
theorem HasTy.struct {t : TypeId} {d : D} {L : List TypeId} (h : HasTy P t d) (hL : structT P t = some L) : ∃ ds, d = .agg ds ∧ Tys P L ds := by
  unfold structT at hL
  cases h with
  | agg hu hf => rw [hu] at hL; cases hL; exact ⟨_, rfl, hf.tys⟩
  | bool hu => rw [hu] at hL; cases hL
  | int hu _ => rw [hu] at hL; cases hL
  | str hu _ => rw [hu] at hL; cases hL
  | sl hu _ _ => rw [hu] at hL; cases hL
theorem HasTy.slice {t e : TypeId} {d : D} (h : HasTy P t d) (ht : P.underlying t = some (.slice e)) : ∃ es, d = .sl (P.cellsOf e) es ∧ es.length ≤ maxLen ∧ ∀ d ∈ es, HasTy P e d := by
  cases h with
  | sl hu hl he => rw [ht] at hu; cases hu; exact ⟨_, rfl, hl, he⟩
  | bool hu => rw [ht] at hu; cases hu
  | int hu _ => rw [ht] at hu; cases hu
  | str hu _ => rw [ht] at hu; cases hu
  | agg hu _ => rw [ht] at hu; cases hu
theorem HasTy.intv {t : TypeId} {k : IntKind} {d : D} (h : HasTy P t d) (ht : P.underlying t = some (.int k)) : ∃ n, d = .lit (.int k n) ∧ (Lit.int k n).wf = true := by
  cases h with
  | int hu hw => rw [ht] at hu; cases hu; exact ⟨_, rfl, hw⟩
  | bool hu => rw [ht] at hu; cases hu
  | str hu _ => rw [ht] at hu; cases hu
  | sl hu _ _ => rw [ht] at hu; cases hu
  | agg hu _ => rw [ht] at hu; cases hu
structure SlD (o : Nat → Option O) (sz : Nat) (es : List D) (v : V) : Prop where
  len : lenV v = some (.int .i64 es.length)
  get : ∀ (i : Nat) (h : i < es.length), ∃ b off C c, ixV sz v (.int .i64 (i : Int)) = some (.ptr (some ⟨.old b, off⟩)) ∧ Rep o es[i] c ∧ o b = some (.cells C none) ∧ cut C off sz = some c
  one : v.one = true
  cells : v.cells = [v]
  again : ∀ s : St, againV v v s = some (.any, s)
theorem RepE.get {C : List V} {sz : Nat} : ∀ {off : Nat} {es : List D}, RepE o C sz off es → ∀ (i : Nat) (h : i < es.length), ∃ c, cut C (off + i * sz) sz = some c ∧ Rep o es[i] c
  | _, _, .nil, i, h => by simp at h
  | _, _, .cons hc hr _, 0, h => ⟨_, by simpa using hc, hr⟩
  | off, _, .cons (ds := ds) _ _ hs, i + 1, h => by
    obtain ⟨c, h1, h2⟩ := hs.get i (by simpa using h)
    refine ⟨c, ?_, h2⟩
    rw [show off + (i + 1) * sz = off + sz + i * sz by rw [Nat.add_mul]; omega]
    exact h1
theorem Rep.slv {sz : Nat} {es : List D} {cs : List V} (h : Rep o (.sl sz es) cs) : ∃ v, cs = [v] ∧ SlD o sz es v := by
  cases h with
  | nil => exact ⟨_, rfl, rfl, fun i h => by simp at h, rfl, rfl, fun s => againV_slice _ _ _ s⟩
  | sl hC hE =>
    refine ⟨_, rfl, rfl, fun i hi => ?_, rfl, rfl, fun s => againV_slice _ _ _ s⟩
    obtain ⟨c, h1, h2⟩ := hE.get i hi
    refine ⟨_, _, _, c, ?_, h2, hC, h1⟩
    rw [ixV_int (by omega) (by omega)]
    simp
theorem Rep.litv {v : V} {cs : List V} (h : Rep o (.lit v) cs) : cs = [v] := by cases h; rfl
theorem Rep.aggv {ds : List D} {cs : List V} (h : Rep o (.agg ds) cs) : Reps o ds cs := by cases h; assumption
theorem Reps.consv {d : D} {ds : List D} {cs : List V} (h : Reps o (d :: ds) cs) : ∃ c c', cs = c ++ c' ∧ Rep o d c ∧ Reps o ds c' := by cases h; exact ⟨_, _, rfl, ‹_›, ‹_›⟩
theorem Reps.nilv {cs : List V} (h : Reps o [] cs) : cs = [] := by cases h; rfl
theorem ld_old {s : St} {b off sz : Nat} {C c : List V} (hs : s.old = o) (hC : o b = some (.cells C none)) (hc : cut C off sz = some c) (h0 : 0 < sz) :
    (loadV (some sz) (.ptr (some ⟨.old b, off⟩)) s = some (.agg c)) ∧ (loadV none (.ptr (some ⟨.old b, off⟩)) s = c[0]?) ∧ (∀ f, f < sz → loadV none (.ptr (some ⟨.old b, off + f⟩)) s = c[f]?) ∧
    (∀ f n, f + n ≤ sz → loadV (some n) (.ptr (some ⟨.old b, off + f⟩)) s = some (.agg ((c.drop f).take n))) := by
  have hrow : s.row (.old b) = some (C, none) := by simp only [St.row, St.get, hs, hC]
  have hcut : off + sz ≤ C.length ∧ c = (C.drop off).take sz := by
    unfold cut at hc; split at hc
    · cases hc; exact ⟨by assumption, rfl⟩
    · cases hc
  obtain ⟨h1, rfl⟩ := hcut
  have l1 : ∀ f, f < sz → loadV none (.ptr (some ⟨.old b, off + f⟩)) s = ((C.drop off).take sz)[f]? := by
    intro f hf
    rw [loadV_ptr]
    simp only [readCells, hrow, Option.getD_none]
    rw [cut_one', List.getElem?_take, if_pos hf, List.getElem?_drop]
  refine ⟨?_, by have := l1 0 h0; rwa [Nat.add_zero] at this, l1, fun f n hf => ?_⟩
  · rw [loadV_ptr]
    simp only [readCells, hrow, Option.getD_some, cut, if_pos h1]
    rfl
  · rw [loadV_ptr]
    simp only [readCells, hrow, Option.getD_some, cut]
    rw [if_pos (by omega)]
    show some (V.agg _) = _
    rw [List.drop_take, List.take_take, List.drop_drop, Nat.min_eq_left (by omega)]
end
end Go.IM

set_option linter.unusedSimpArgs false
set_option linter.unusedVariables false
namespace Go.Proofs.Ytoldkemimhebaaa
open Go Go.IM Go.ChangeShapes Go.WideShapes Go.RowKit
section
variable {H : Type} {enc : TypeId × Value → H} {W : Go.World} {o : Nat → Option O}
theorem oldI_of {d : D} {cs : List V} (hx : HasTy Try.prog 54 d) (hr : Rep o d cs) : ∃ v l, cs = [v] ∧ OldI o v l := by
  obtain ⟨es, rfl, hl, hes⟩ := hx.slice (e := 3) (by kernel_rfl)
  have c3 : Try.prog.cellsOf 3 = 1 := by kernel_rfl
  rw [c3] at hr
  obtain ⟨v, rfl, hs⟩ := hr.slv
  let val : D → Int := fun d => match d with | .lit (.int _ n) => n | _ => 0
  refine ⟨v, es.map val, rfl, by rw [List.length_map]; exact hs.len, fun i hi => ?_⟩
  have hi' : i < es.length := by simpa using hi
  obtain ⟨b, off, C, c, h1, h2, h3, h4⟩ := hs.get i hi'
  refine ⟨⟨.old b, off⟩, h1, fun s he => ?_⟩
  obtain ⟨n, en, _⟩ := (hes _ (List.getElem_mem hi')).intv (k := .i64) (by kernel_rfl)
  rw [List.getElem_map]
  rw [en] at h2 ⊢
  have := h2.litv
  subst this
  rw [(ld_old he h3 h4 (by omega)).2.1]
  rfl
theorem RepE.flat {C : List V} : ∀ {off : Nat} {es : List D}, RepE o C 2 off es → (∀ d ∈ es, ∃ a b : Int, d = .agg [.lit (.int .i64 a), .lit (.int .i64 b)]) →
    ∃ l : List (Int × Int), l.length = es.length ∧ (C.drop off).take (es.length * 2) = l.flatMap encW ∧ (es ≠ [] → off + es.length * 2 ≤ C.length)
  | _, _, .nil, _ => ⟨[], rfl, by simp, fun h => absurd rfl h⟩
  | off, _, .cons (d := d) (ds := ds) (c := c) hc hr hs, hd => by
    obtain ⟨l, h1, h2, h3⟩ := RepE.flat hs fun x hx => hd x (List.mem_cons_of_mem _ hx)
    obtain ⟨a, b, rfl⟩ := hd d (List.mem_cons_self ..)
    have hc2 : c = [V.int .i64 a, V.int .i64 b] := by
      have h4 := hr.aggv
      obtain ⟨c1, c2, rfl, k1, k2⟩ := h4.consv
      obtain ⟨c3, c4, rfl, k3, k4⟩ := k2.consv
      rw [k1.litv, k3.litv, k4.nilv]; rfl
    unfold cut at hc
    split at hc
    · rename_i hle
      simp only [Option.some.injEq] at hc
      have hlen : ds = [] → off + 2 ≤ C.length := fun _ => hle
      refine ⟨(a, b) :: l, by simp [h1], ?_, fun _ => ?_⟩
      · rw [List.length_cons, show (ds.length + 1) * 2 = 2 + ds.length * 2 by omega, List.take_add, hc, hc2, List.drop_drop, h2, List.flatMap_cons]
        rfl
      · cases ds with
        | nil => simpa using hle
        | cons x xs => have := h3 (by simp); simp at this ⊢; omega
    · cases hc
theorem oldW_of {fuel : Nat} {v : Value} {x : DataW H × List MemPlace} (h : DataW.trod enc Try.prog W 0 (fun _ => true) true fuel 41 [v] = some x) : ∃ l, OldW (oldSt W).old (ofVal v) l := by
  obtain ⟨d, hd, hr⟩ := rep_of (P := Try.prog) (Ts := [41, 47, 3]) (by kernel_rfl) fuel 41 [v] x (by simp) h
  obtain ⟨es, rfl, hl, hes⟩ := hd.slice (e := 47) (by kernel_rfl)
  have c47 : Try.prog.cellsOf 47 = 2 := by kernel_rfl
  rw [c47] at hr
  have hes' : ∀ d ∈ es, ∃ a b : Int, d = .agg [.lit (.int .i64 a), .lit (.int .i64 b)] := fun d hd => by
    obtain ⟨ds, rfl, ht⟩ := (hes d hd).struct (L := [3, 3]) (by kernel_rfl)
    obtain ⟨d1, ds1, rfl, t1, t2⟩ : ∃ d1 ds1, ds = d1 :: ds1 ∧ HasTy Try.prog 3 d1 ∧ Tys Try.prog [3] ds1 := by
      cases ds with
      | nil => exact ht.elim
      | cons a b => exact ⟨a, b, rfl, ht.1, ht.2⟩
    obtain ⟨d2, ds2, rfl, t3, t4⟩ : ∃ d1 ds2, ds1 = d1 :: ds2 ∧ HasTy Try.prog 3 d1 ∧ Tys Try.prog [] ds2 := by
      cases ds1 with
      | nil => exact t2.elim
      | cons a b => exact ⟨a, b, rfl, t2.1, t2.2⟩
    have e4 : ds2 = [] := by cases ds2 with | nil => rfl | cons _ _ => exact t4.elim
    obtain ⟨a, rfl, _⟩ := t1.intv (k := .i64) (by kernel_rfl)
    obtain ⟨b, rfl, _⟩ := t3.intv (k := .i64) (by kernel_rfl)
    exact ⟨a, b, by rw [e4]⟩
  rcases Go.Deep.open_slice (P := Try.prog) (t := 41) (e := 47) (by kernel_rfl) h with ⟨e, _⟩ | ⟨a, len, cap, m, n, DD, Pl, e, hb, hln, hm, hmm, hxe, hx⟩
  · cases e
    exact ⟨[], oldW_nil⟩
  · cases e
    rw [c47] at hx
    have hm' : m = cap := by simpa using hmm
    have hsp : 0 < cap → a.spot = none := fun hc => by
      obtain ⟨cs, h1, _⟩ := hx 0 (by omega)
      exact (rd (by omega) h1).1
    have hv := ofVal_slice hln hsp
    rw [show ofVals [Value.slice (some a) len cap] = [ofVal (.slice (some a) len cap)] from rfl, hv] at hr
    rw [hv]
    cases hr with
    | nil => exact ⟨[], rfl, fun s hs => by simp [newCells]⟩
    | sl hC hE =>
      rename_i C
      obtain ⟨l, h1, h2, h3⟩ := RepE.flat hE hes'
      refine ⟨l, by rw [h1]; rfl, fun s hs => ?_⟩
      have hrow : s.row (.old a.block) = some (C, none) := by simp only [St.row, St.get, hs]; rw [hC]
      rw [newCells, if_neg (by simp), readCells]
      simp only [hrow]
      rw [cut, if_pos (by have := h3 (by simp); simpa using this), Option.map_some, h2, h1]
end
end Go.Proofs.Ytoldkemimhebaaa

set_option linter.unusedSimpArgs false
set_option linter.unusedVariables false
namespace Go.Proofs.Ytoldkemimhebaaa
open Go Go.IM Go.ChangeShapes Go.WideShapes Go.ChangeAt Go.RowKit
set_option maxRecDepth 100000 in
theorem collectCollects_lifted (os : Os) (started : os.Started) (H : Type) (enc : TypeId × Value → H) :
    ReturnsInHanded Rows.collectCollectsRow.assume Try.checked os 10 .any (Rows.collectCollectsSpec.pre6 enc Try.prog Try.f10 Rows.collectCollectsRow.domain false) (Rows.collectCollectsSpec.post enc Try.prog Try.f10 false true false false) := by
  refine lifted_true (C := Try.checked) Try.own' started (by kernel_rfl) Try.func10 Try.laidOut' Try.mixed' (by kernel_rfl) rfl (by kernel_rfl) rfl
    (ChangeSpec.witness6 (enc := enc) (C := Try.checked) false ⟨#[], #[.slice none 0 0, .slice none 0 0, .slice none 0 0], []⟩ 8 (by kernel_rfl) (by kernel_rfl) (by kernel_rfl) (by kernel_rfl)) ?_ ?_
  · intro ds hd
    match ds, hd with
    | [a, b, c], _ => rfl
  · intro W base args ds before hval hA hwt
    have hp : Try.f10.params = #[35, 54, 41] := rfl
    rw [hp] at hA hval hwt
    obtain ⟨v, v1, v2, d, d1, d2, p, p1, p2, rfl, rfl, rfl, ⟨fuel, h0⟩, ⟨fuel1, h1⟩, ⟨fuel2, h2⟩⟩ := trodAll_three hA
    obtain ⟨a, len, cap, rfl⟩ := okWide_slice (P := Try.checked.prog) (e := 50) (by kernel_rfl) (hval 0 35 _ rfl rfl)
    obtain ⟨a1, len1, cap1, rfl⟩ := okWide_slice (P := Try.checked.prog) (e := 3) (by kernel_rfl) (hval 1 54 _ rfl rfl)
    obtain ⟨a2, len2, cap2, rfl⟩ := okWide_slice (P := Try.checked.prog) (e := 47) (by kernel_rfl) (hval 2 41 _ rfl rfl)
    obtain ⟨l, hl, hll⟩ := acts_of (sized_acts (j := 0) hwt rfl rfl) h0
    obtain ⟨x, hx, hr⟩ := rep_of (P := Try.prog) (Ts := [54, 3]) (by kernel_rfl) fuel1 54 [.slice a1 len1 cap1] _ (by simp) h1
    obtain ⟨w, is, hw, hI⟩ := oldI_of hx hr
    have hw' : ofVal (.slice a1 len1 cap1) = w := by
      have : [ofVal (.slice a1 len1 cap1)] = [w] := hw
      simpa using this
    rw [← hw'] at hI
    obtain ⟨os', hO⟩ := oldW_of h2
    exact collectCollects_im hl hll hI hO (oldSt W) rfl
theorem collectCollects_holds : Rows.CollectCollectsSaid :=
  OpenClaim.holds_of_wide 10 Try.f10 rfl rfl rfl rfl rfl rfl rfl ⟨rfl, rfl, rfl, rfl, rfl⟩ rfl rfl rfl rfl rfl (by kernel_rfl) Try.func10 (by kernel_rfl)
    (of_decide_eq_true (by kernel_rfl)) (by unfold Func.isWrapper; rw [if_neg (by decide +kernel)]; exact ⟨rfl, rfl⟩)
    (fun os started H enc _ => collectCollects_lifted os started H enc)
#print axioms collectCollects_holds
end Go.Proofs.Ytoldkemimhebaaa