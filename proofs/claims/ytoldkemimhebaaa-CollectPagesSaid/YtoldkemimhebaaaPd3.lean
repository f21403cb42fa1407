/- Pcd, Pce, Pcf, Pcg, in one text. -/
import Derived.Test.YtoldkemimhebaaaPd2
import Derived.Test.YtoldkemimhebaaaPcS
import Derived.Test.YtoldkemimhebaaaPc2
import Derived.Test.YtoldkemimhebaaaPg4
import Derived.Test.YtoldkemimhebaaaIm20
/- Layer 16: Pages, on the program's side. -/
set_option linter.unusedSimpArgs false
set_option linter.unusedVariables false
namespace Go.Proofs.Ytoldkemimhebaaa
open Go Go.IM

-- virgate/collect.Pages
def l49_0 : IC := (.seq (.seq (.region [oa 40 (.bin .lss (.t 39) (.t 38))] (kp 70 [0,6,7,9,23,24,37,38,39,40]))
  (.seq (.cond (.t 40)
  (sk 70 [0,6,7,9,23,24,37,38,39])
  (sx 70 [0,6,7,23,24] 2))
  (.seq (.block 3
  (.seq (.region [oa 41 (.indexAddr 2 (.t 37) (.t 39)), oa 42 (.load (some 2) (.t 41)), oa 13 (.alloc [(.int .i64 (0)), (.int .i64 (0))]), ob (.store 2 (.t 13) (.t 42))] (kp 70 [0,6,7,9,13,23,24,37,38,39]))
  (.seq (.region [oa 44 (.mov (.t 0)), oa 45 (.load (some 2) (.t 13)), oa 46 (.call 30 [(.t 44), (.t 45)]), oa 43 (.mov (.t 46)), oa 47 (.extract (.t 43) 0), oa 48 (.extract (.t 43) 1), oa 49 (.extract (.t 43) 2), oa 14 (.mov (.t 47)), oa 15 (.mov (.t 48)), oa 16 (.mov (.t 49))] (kp 70 [0,6,7,9,13,15,23,24,37,38,39]))
  (.seq (.seq (.region [oa 50 (.mov (.t 6)), oa 51 (.nilCheck (.t 50)), oa 52 (.fieldAddr 2 (.t 51)), oa 53 (.load none (.t 52)), oa 54 (.load (some 2) (.t 13)), oa 55 (.lookup (.agg [.i, .i]) (.bool false) false (.t 53) (.t 54)), oa 56 (.un .not (.t 55))] (kp 70 [0,6,7,9,15,23,24,37,38,39,56]))
  (.cond (.t 56)
  (sx 70 [0,6,7,9,23,24,37,38,39] 3)
  (sk 70 [0,6,7,9,15,23,24,37,38,39])))
  (.seq (.seq (.region [oa 57 (.mov (.t 9)), oa 58 (.mov (.t 15)), oa 59 (.bin .add (.t 58) (ai 1)), oa 60 (.bin .lss (.t 57) (.t 59))] (kp 70 [0,6,7,9,15,23,24,37,38,39,60]))
  (.cond (.t 60)
  (.seq (.region [oa 61 (.mov (.t 7)), oa 62 (.bin .add (.t 61) (ai 1)), oa 7 (.mov (.t 62))] (kp 70 [0,6,7,15,23,24,37,38,39]))
  (.region [oa 9 (.mov (ai 32))] (kp 70 [0,6,7,9,15,23,24,37,38,39])))
  (sk 70 [0,6,7,9,15,23,24,37,38,39])))
  (.region [oa 63 (.mov (.t 9)), oa 64 (.mov (.t 15)), oa 65 (.bin .add (.t 64) (ai 1)), oa 66 (.bin .sub (.t 63) (.t 65)), oa 9 (.mov (.t 66))] (kp 70 [0,6,7,9,23,24,37,38,39])))))))
  (.region [oa 67 (.bin .add (.t 39) (ai 1)), oa 39 (.mov (.t 67))] (kp 70 [0,6,7,9,23,24,37,38,39])))))
  (sk 70 [0,6,7,9,23,24,37,38,39]))
def l49_1 : IC := (.seq (.seq (.region [oa 25 (.bin .lss (.t 24) (.t 23))] (kp 70 [0,6,7,23,24,25]))
  (.seq (.cond (.t 25)
  (sk 70 [0,6,7,23,24])
  (sx 70 [7] 0))
  (.seq (.block 1
  (.seq (.region [oa 26 (.mov (.t 24)), oa 8 (.mov (.t 26))] (kp 70 [0,6,7,8,23,24]))
  (.seq (.seq (.region [oa 27 (.mov (.t 0)), oa 28 (.mov (.t 8)), oa 29 (.call 91 [(.t 27), (.t 28)]), oa 30 (.un .not (.t 29))] (kp 70 [0,6,7,8,23,24,30]))
  (.cond (.t 30)
  (sx 70 [0,6,7,23,24] 1)
  (sk 70 [0,6,7,8,23,24])))
  (.seq (.region [oa 9 (.mov (ai 0))] (kp 70 [0,6,7,8,9,23,24]))
  (.seq (.region [oa 32 (.mov (.t 0)), oa 33 (.mov (.t 8)), oa 34 (.call 28 [(.t 32), (.t 33)]), oa 31 (.mov (.t 34)), oa 35 (.extract (.t 31) 0), oa 36 (.extract (.t 31) 1), oa 10 (.mov (.t 35)), oa 11 (.mov (.t 36))] (kp 70 [0,6,7,9,10,23,24]))
  (.seq (.region [oa 37 (.mov (.t 10)), oa 38 (.lenSlice (.t 37)), oa 39 (.mov (ai 0))] (kp 70 [0,6,7,9,23,24,37,38,39]))
  (.block 2
  (.seq (sk 70 [0,6,7,9,23,24,37,38,39])
  (.loop l49_0)))))))))
  (.region [oa 68 (.bin .add (.t 24) (ai 1)), oa 24 (.mov (.t 68))] (kp 70 [0,6,7,23,24])))))
  (sk 70 [0,6,7,23,24]))
def j49_bbbb : IC := (.seq (.region [oa 69 (.mov (.t 7)), oa 4 (.mov (.t 69)), oa 5 (.mov (ai 0))] (kp 70 [4,5]))
  (sr 70 [4,5]))
def c49 : IFn := ⟨70, [(4, none), (5, none)],
  (.seq (.region [oa 4 (.mov (ai 0)), oa 5 (.mov (ai 0))] (kp 70 [0,1]))
  (.seq (.seq (.region [oa 17 (.mov (.t 0)), oa 18 (.call 89 [(.t 17)])] (kp 70 [0,1,18]))
  (.cond (.t 18)
  (.seq (.region [oa 4 (.mov (ai 0)), oa 5 (.mov (ai 6))] (kp 70 [4,5]))
  (sr 70 [4,5]))
  (sk 70 [0,1])))
  (.seq (.region [oa 19 (.mov (.t 0)), oa 20 (.mov (.t 1)), oa 21 (.call 90 [(.t 19), (.t 20)]), oa 6 (.mov (.t 21)), oa 7 (.mov (ai 0))] (kp 70 [0,6,7]))
  (.seq (.seq (.region [oa 22 (.mov (.t 0)), oa 23 (.call 27 [(.t 22)]), oa 24 (.mov (ai 0))] (kp 70 [0,6,7,23,24]))
  (.block 0
  (.seq (sk 70 [0,6,7,23,24])
  (.loop l49_1))))
  j49_bbbb))))⟩
theorem F49 : shutF Try.prog 49 = some c49 := by kernel_rfl


/-- The room that is left in the last page. -/
def roomN (a : Nat × Nat) : Nat := if 0 < a.1 then 32 - a.2 else 0
def isIn (L : List (Int × Int)) (life : Nat) (x : PObj) : Bool := decide (((x.b.at_ : Int), (life : Int)) ∈ L)
def pgF (xs : List PObj) (a : Nat × Nat) : Nat × Nat := (xs.map fun x => x.b.ws.length + 1).foldl step a
theorem step_small {a : Nat × Nat} {n : Nat} (h : a.2 ≤ 32) (hn : n ≤ 32) : (step a n).2 ≤ 32 := by unfold step; split <;> simp only <;> omega
theorem pfind_own {g : PReg} {x : PObj} (hx : x ∈ g.objs) (hn : (g.objs.map (·.b.at_)).Nodup) : ∀ rs : List PReg, (rs.map (·.life)).Nodup → g ∈ rs → pfind x.b.at_ g.life rs = some x
  | [], _, h => by cases h
  | r :: rs, hl, h => by
    rw [List.map_cons, List.nodup_cons] at hl
    unfold pfind
    rw [List.findSome?_cons]
    by_cases e : r = g
    · subst e
      have : pf x.b.at_ r.life r = some x := by
        unfold pf
        rw [if_pos rfl]
        obtain ⟨X, Y, he⟩ := List.append_of_mem hx
        rw [he] at hn ⊢
        rw [List.map_append, List.map_cons, List.nodup_append] at hn
        rw [List.find?_append, List.find?_eq_none.2 (fun y hy => by
          have := hn.2.2 _ (List.mem_map.2 ⟨y, hy, rfl⟩) _ (List.mem_cons_self ..)
          simp; omega), List.find?_cons_of_pos (by simp)]
        rfl
      rw [this]
    · have hg : g ∈ rs := by rcases List.mem_cons.1 h with h | h; exact absurd h.symm e; exact h
      have : pf x.b.at_ g.life r = none := by
        unfold pf
        rw [if_neg]
        intro e2
        exact hl.1 (List.mem_map.2 ⟨g, hg, by omega⟩)
      rw [this]
      exact pfind_own hx hn rs hl.2 hg
section
variable {o : Nat → Option O} {s : St} {C F : Ch} {Q : V → St → Prop} {p r : Nat} {u : List Bool}
set_option maxRecDepth 10000
set_option maxHeartbeats 4000000

theorem pg_inner {hp : PHeap} {g : PReg} {t lk mk ko n0 : Nat} {v23 v24 : V} {L : List (Int × Int)} {m : O} {K : Kt} (h : Look C p hp) (mg : g ∈ hp.regs) (hat : (g.objs.map (·.b.at_)).Nodup) (hlf : (hp.regs.map (·.life)).Nodup) (h1 : 1 ≤ g.life)
    (hs : ∀ x ∈ huntC t lk mk (ptrN hp.id) L m, x ∈ C) (hm : MapIs encA (seenF L) m) (mo : (ko, rowO 2 g.objs.length (g.objs.flatMap (encP g.life))) ∈ C) (hl : g.objs.length ≤ 100000) (hn0 : n0 ≤ 10000000) :
    ∀ (n i : Nat) (a : Nat × Nat) (s : St), i + n = g.objs.length → a.2 ≤ 32 → a.1 ≤ i → Holds o s C →
    (∀ s', Holds o s' C → WP (K (.exit 2) (sp 70 [(0, ptrN hp.id), (6, ptrN t), (7, I ((n0 + (pgF ((g.objs.drop i).filter (isIn L g.life)) a).1 : Nat) : Int)), (23, v23), (24, v24)]) s') Q) →
    WP (loop PF (.loop l49_0) (sp 70 [(0, ptrN hp.id), (6, ptrN t), (7, I ((n0 + a.1 : Nat) : Int)), (9, I (roomN a)), (23, v23), (24, v24), (37, rowV ko g.objs.length), (38, I g.objs.length), (39, I i)]) s K) Q
  | 0, i, a, s, hi, ha, hai, H, q => by
    have hlt : ¬ ((i : Int) < (g.objs.length : Int)) := by omega
    rw [List.drop_eq_nil_of_le (by omega), List.filter_nil] at q
    refine wp_round fun LL hLL => ?_
    simp -implicitDefEqProofs only [↓GP, GB, GL, Nat.reduceAdd, Nat.reduceSub, Nat.reduceEqDiff, Nat.reduceMul, Nat.reduceLeDiff, Int.reduceBNe, Int.reduceBEq, Nat.reduceLT, reduceCtorEq, l49_0, hlt]
    exact q s H
  | n + 1, i, a, s, hi, ha, hai, H, q => by
    have hlt : ((i : Int) < (g.objs.length : Int)) := by omega
    have hi' : i < g.objs.length := by omega
    have hw1 := wrap_add1 (a := i) (by omega)
    have hix := ix_row (sz := 2) (k := ko) (n := g.objs.length) (i := i) (kk := .i64) hi'
    have er : rowO 2 g.objs.length (g.objs.flatMap (encP g.life)) = some (.cells (g.objs.flatMap (encP g.life)) (some 2)) := by unfold rowO; rw [if_neg (by omega)]
    have fr := H.mem (er ▸ mo)
    have hld := ldN_tab (sz := 2) (enc := encP g.life) (fun _ => rfl) g.objs (some 2) (List.getElem?_eq_getElem hi')
    have mx := List.getElem_mem hi'
    rw [List.drop_eq_getElem_cons hi', List.filter_cons] at q
    generalize g.objs[i] = x at q hld mx
    have hx := pfind_own mx hat hp.regs hlf mg
    have hxw := h.ws g mg x mx
    have h2 := (H.alloc (.cells [I 0, I 0] none)).set0 (.cells [I x.b.at_, I g.life] none)
    refine wp_round fun LL hLL => ?_
    simp -implicitDefEqProofs only [↓GP, GB, GL, Nat.reduceAdd, Nat.reduceSub, Nat.reduceEqDiff, Nat.reduceMul, Nat.reduceLeDiff, Int.reduceBNe, Int.reduceBEq, Nat.reduceLT, reduceCtorEq, l49_0, hlt, hix, fr, hld, encP]
    refine wp_in (s30 h2 (h.cons _).hin h.ne h.len h.ok (by omega) hx fun s1 h3 => ?_)
    have ft := h3.mem (List.mem_cons_of_mem _ (hs (t, some (.cells [ptrN hp.id, rowV lk L.length, .map (some (.new mk))] none)) (List.mem_cons_self ..)))
    have mm := hs (mk, some m) (List.mem_cons_of_mem _ (List.mem_cons_of_mem _ (List.mem_cons_self ..)))
    have f0 := h3.g0
    have el := lookup_map keyA hm (h3.mem (List.mem_cons_of_mem _ mm)).1 (.bool false) false ((x.b.at_ : Int), (g.life : Int))
    simp only [encA, encW, Bool.false_eq_true, if_false] at el
    have hww := wrap_add1 (a := x.b.ws.length) (by omega)
    by_cases hw : ((x.b.at_ : Int), (g.life : Int)) ∈ L
    · rw [show seenF L ((x.b.at_ : Int), (g.life : Int)) = some (.bool true) from if_pos hw, Option.getD_some] at el
      rw [if_pos (show isIn L g.life x = true by unfold isIn; simpa using hw)] at q
      have qq : pgF (x :: (g.objs.drop (i + 1)).filter (isIn L g.life)) a = pgF ((g.objs.drop (i + 1)).filter (isIn L g.life)) (step a (x.b.ws.length + 1)) := rfl
      rw [qq] at q
      by_cases hc : 0 < a.1 ∧ a.2 + (x.b.ws.length + 1) ≤ 32
      · have hr : ¬ ((roomN a : Int) < ((x.b.ws.length + 1 : Nat) : Int)) := by unfold roomN; rw [if_pos hc.1]; omega
        have e1 : step a (x.b.ws.length + 1) = (a.1, a.2 + (x.b.ws.length + 1)) := if_pos hc
        simp -implicitDefEqProofs only [↓GP, GB, GL, Nat.reduceAdd, Nat.reduceSub, Nat.reduceEqDiff, Nat.reduceMul, Nat.reduceLeDiff, Int.reduceBNe, Int.reduceBEq, Nat.reduceLT, reduceCtorEq, ft, f0, el, hww, hr]
        have hsub : wrapI .i64 ((roomN a : Int) - ((x.b.ws.length + 1 : Nat) : Int)) = I (roomN (step a (x.b.ws.length + 1))) := wrap_nat (by rw [e1]; unfold roomN; simp only [if_pos hc.1]; omega) (by unfold roomN; split <;> omega)
        rw [hsub, hw1, hLL, show n0 + a.1 = n0 + (step a (x.b.ws.length + 1)).1 by rw [e1]]
        exact pg_inner h mg hat hlf h1 hs hm mo hl hn0 n (i + 1) _ s1 (by omega) (step_small ha (by omega)) (by rw [e1]; simp only; omega) h3.tl q
      · have hr : ((roomN a : Int) < ((x.b.ws.length + 1 : Nat) : Int)) := by unfold roomN; split <;> omega
        have e1 : step a (x.b.ws.length + 1) = (a.1 + 1, x.b.ws.length + 1) := if_neg hc
        simp -implicitDefEqProofs only [↓GP, GB, GL, Nat.reduceAdd, Nat.reduceSub, Nat.reduceEqDiff, Nat.reduceMul, Nat.reduceLeDiff, Int.reduceBNe, Int.reduceBEq, Nat.reduceLT, reduceCtorEq, ft, f0, el, hww, hr]
        have hsub : wrapI .i64 (32 - ((x.b.ws.length + 1 : Nat) : Int)) = I (roomN (step a (x.b.ws.length + 1))) := wrap_nat (by rw [e1]; unfold roomN; simp only [if_pos (Nat.succ_pos a.1)]; omega) (by unfold roomN; split <;> omega)
        rw [hsub, hw1, wrap_add1 (by omega), hLL, show n0 + a.1 + 1 = n0 + (step a (x.b.ws.length + 1)).1 by rw [e1]; rfl]
        exact pg_inner h mg hat hlf h1 hs hm mo hl hn0 n (i + 1) _ s1 (by omega) (step_small ha (by omega)) (by rw [e1]; simp only; omega) h3.tl q
    · rw [show seenF L ((x.b.at_ : Int), (g.life : Int)) = none from if_neg hw, Option.getD_none] at el
      rw [if_neg (show ¬ isIn L g.life x = true by unfold isIn; simpa using hw)] at q
      simp -implicitDefEqProofs only [↓GP, GB, GL, Nat.reduceAdd, Nat.reduceSub, Nat.reduceEqDiff, Nat.reduceMul, Nat.reduceLeDiff, Int.reduceBNe, Int.reduceBEq, Nat.reduceLT, reduceCtorEq, ft, f0, el, hw1]
      rw [hLL]
      exact pg_inner h mg hat hlf h1 hs hm mo hl hn0 n (i + 1) a s1 (by omega) ha (by omega) h3.tl q

def pgReg (L : List (Int × Int)) (g : PReg) : Nat := if 0 < g.pages.length then (pgF (g.objs.filter (isIn L g.life)) (0, 0)).1 else 0
def pgSum (L : List (Int × Int)) (gs : List PReg) : Nat := (gs.map (pgReg L)).sum
theorem pgF_le : ∀ (xs : List PObj) (a : Nat × Nat), (pgF xs a).1 ≤ a.1 + xs.length
  | [], a => Nat.le_refl _
  | x :: xs, a => by
    have := pgF_le xs (step a (x.b.ws.length + 1))
    have h2 : (step a (x.b.ws.length + 1)).1 ≤ a.1 + 1 := by unfold step; split <;> simp
    show (pgF xs (step a (x.b.ws.length + 1))).1 ≤ _
    simp; omega
theorem pgReg_le (L : List (Int × Int)) (g : PReg) : pgReg L g ≤ g.objs.length := by
  unfold pgReg
  split
  · have := pgF_le (g.objs.filter (isIn L g.life)) (0, 0)
    have := List.length_filter_le (isIn L g.life) g.objs
    omega
  · omega

theorem pg_outer {hp : PHeap} {t lk mk : Nat} {L : List (Int × Int)} {m : O} {K : Kt} {lv : Nat} (hR : RsOk lv u (hp.regs.map PReg.m)) (h : Look C p hp) (hs : ∀ x ∈ huntC t lk mk (ptrN hp.id) L m, x ∈ C) (hm : MapIs encA (seenF L) m) (hlen : hp.regs.length ≤ 1000) :
    ∀ (n i n0 : Nat) (s : St), i + n = hp.regs.length → n0 ≤ 1000 * i → Holds o s C →
    (∀ s', Holds o s' C → WP (K (.exit 0) (sp 70 [(7, I ((n0 + pgSum L (hp.regs.drop i) : Nat) : Int))]) s') Q) →
    WP (loop PF (.loop l49_1) (sp 70 [(0, ptrN hp.id), (6, ptrN t), (7, I n0), (23, I hp.regs.length), (24, I i)]) s K) Q
  | 0, i, n0, s, hi, hn0, H, q => by
    have hlt : ¬ ((i : Int) < (hp.regs.length : Int)) := by omega
    rw [List.drop_eq_nil_of_le (by omega)] at q
    refine wp_round fun LL hLL => ?_
    simp -implicitDefEqProofs only [↓GP, GB, GL, Nat.reduceAdd, Nat.reduceSub, Nat.reduceEqDiff, Nat.reduceMul, Nat.reduceLeDiff, Int.reduceBNe, Int.reduceBEq, Nat.reduceLT, reduceCtorEq, l49_1, hlt]
    exact q s H
  | n + 1, i, n0, s, hi, hn0, H, q => by
    have hlt : ((i : Int) < (hp.regs.length : Int)) := by omega
    have hi' : i < hp.regs.length := by omega
    have hw1 := wrap_add1 (a := i) (by omega)
    have hg := List.getElem?_eq_getElem hi'
    have mg := List.getElem_mem hi'
    rw [List.drop_eq_getElem_cons hi'] at q
    generalize hp.regs[i] = g at q hg mg
    have hri := hR.inv.reg g.m (List.mem_map.2 ⟨g, mg, rfl⟩)
    have hlf := hR.inv.life g.m (List.mem_map.2 ⟨g, mg, rfl⟩)
    have hpl : g.pages.length ≤ 30 := by
      have hrm : g.m ∈ hp.regs.map PReg.m := List.mem_map.2 ⟨g, mg, rfl⟩
      have hsb := sub_flatMap (fun r : Reg => r.pages) hrm
      have := hR.pool.sub_len hsb
      have := hR.ulen
      simp only [PReg.m] at *; omega
    have hno : g.objs.length ≤ 961 := by have := hri.nobjs; simp only [PReg.m, List.length_map] at this; omega
    have hat : (g.objs.map (·.b.at_)).Nodup := by have := hri.nodup; simpa [PReg.m, List.map_map, Function.comp_def] using this
    have hlfs : (hp.regs.map (·.life)).Nodup := by have := hR.inv.nodup; rw [List.map_map] at this; exact this
    have hpr := pgReg_le L g
    have hsum : pgSum L (g :: hp.regs.drop (i + 1)) = pgReg L g + pgSum L (hp.regs.drop (i + 1)) := by simp [pgSum]
    rw [hsum, ← Nat.add_assoc] at q
    refine wp_round fun LL hLL => ?_
    simp -implicitDefEqProofs only [↓GP, GB, GL, Nat.reduceAdd, Nat.reduceSub, Nat.reduceEqDiff, Nat.reduceMul, Nat.reduceLeDiff, Int.reduceBNe, Int.reduceBEq, Nat.reduceLT, reduceCtorEq, l49_1, hlt]
    refine wp_in (s91 H h.hin h.len hg (by omega) fun s1 h1 => ?_)
    by_cases hp0 : 0 < g.pages.length
    · rw [decide_eq_true hp0]
      simp -implicitDefEqProofs only [↓GP, GB, GL, Nat.reduceAdd, Nat.reduceSub, Nat.reduceEqDiff, Nat.reduceMul, Nat.reduceLeDiff, Int.reduceBNe, Int.reduceBEq, Nat.reduceLT, reduceCtorEq]
      refine wp_in (s28 h1 h.hin h.len hg (by omega) fun s2 ko h2 => ?_)
      simp -implicitDefEqProofs only [↓GP, GB, GL, Nat.reduceAdd, Nat.reduceSub, Nat.reduceEqDiff, Nat.reduceMul, Nat.reduceLeDiff, Int.reduceBNe, Int.reduceBEq, Nat.reduceLT, reduceCtorEq]
      have := pg_inner (K := blockK 2 (blockK 1 (seqK (loop PF) (call PF) (.region [oa 68 (.bin .add (.t 24) (ai 1)), oa 24 (.mov (.t 68))] (kp 70 [0,6,7,23,24])) (seqK (loop PF) (call PF) (sk 70 [0,6,7,23,24]) (roundK LL K))))) (Q := Q) (n0 := n0) (v23 := I hp.regs.length) (v24 := I i) (h.cons (ko, rowO 2 g.objs.length (g.objs.flatMap (encP g.life)))) mg hat hlfs hlf.1 (fun x hx => List.mem_cons_of_mem _ (hs x hx)) hm (List.mem_cons_self ..) (by omega) (by omega) g.objs.length 0 (0, 0) s2 (by omega) (by omega) (by omega) h2
      simp only [List.drop_zero, Int.natCast_zero, Nat.add_zero] at this
      refine this fun s3 h3 => ?_
      clear this
      have e1 : (pgF (g.objs.filter (isIn L g.life)) (0, 0)).1 = pgReg L g := by unfold pgReg; rw [if_pos hp0]
      simp -implicitDefEqProofs only [↓GP, GB, GL, Nat.reduceAdd, Nat.reduceSub, Nat.reduceEqDiff, Nat.reduceMul, Nat.reduceLeDiff, Int.reduceBNe, Int.reduceBEq, Nat.reduceLT, reduceCtorEq, hw1, e1]
      rw [hLL]
      exact pg_outer hR h hs hm hlen n (i + 1) (n0 + pgReg L g) s3 (by omega) (by omega) h3.tl q
    · rw [decide_eq_false hp0]
      simp -implicitDefEqProofs only [↓GP, GB, GL, Nat.reduceAdd, Nat.reduceSub, Nat.reduceEqDiff, Nat.reduceMul, Nat.reduceLeDiff, Int.reduceBNe, Int.reduceBEq, Nat.reduceLT, reduceCtorEq, hw1]
      rw [hLL]
      have e1 : pgReg L g = 0 := by unfold pgReg; rw [if_neg hp0]
      rw [e1, Nat.add_zero] at q
      exact pg_outer hR h hs hm hlen n (i + 1) n0 s1 (by omega) (by omega) h1 q

theorem s49 {hp : PHeap} {kr lv : Nat} {roots : List (Int × Int)} (H : Holds o s C) (h : Look C p hp) (hR : RsOk lv u (hp.regs.map PReg.m)) (hr : (kr, rowO 2 roots.length (roots.flatMap encW)) ∈ C) (hrl : roots.length ≤ 1000) (hall : (allW hp).length ≤ 90000) (hlen : hp.regs.length ≤ 1000)
    (q : ∀ s', Holds o s' C → Q (.tuple [I (pgSum (reachW hp roots) hp.regs), I 0]) s') : WP (call PF 49 [ptrN hp.id, rowV kr roots.length] s) Q := by
  have e89 := s89 H h.hin h.ne h.len
  rw [call_run F49]; simp -implicitDefEqProofs only [↓GP, GB, GL, Nat.reduceAdd, Nat.reduceSub, Nat.reduceEqDiff, Nat.reduceMul, Nat.reduceLeDiff, Int.reduceBNe, Int.reduceBEq, Nat.reduceLT, reduceCtorEq, c49, e89]
  refine wp_in (s90 H h hr (by omega) hall fun s1 t lk mk m hm h1 => ?_)
  have lk2 : Look (huntC t lk mk (ptrN hp.id) (reachW hp roots) m ++ C) p hp := h.mono fun x hx => List.mem_append_right _ hx
  have e27 := s27 h1 lk2.hin
  simp -implicitDefEqProofs only [↓GP, GB, GL, Nat.reduceAdd, Nat.reduceSub, Nat.reduceEqDiff, Nat.reduceMul, Nat.reduceLeDiff, Int.reduceBNe, Int.reduceBEq, Nat.reduceLT, reduceCtorEq, e27]
  have := pg_outer (K := blockK 0 (seqK (loop PF) (call PF) j49_bbbb (finR [(4, none), (5, none)]))) (Q := Q) (u := u) hR lk2 (fun x hx => List.mem_append_left _ hx) hm hlen hp.regs.length 0 0 s1 (by omega) (by omega) h1
  simp only [List.drop_zero, Int.natCast_zero, Nat.zero_add] at this
  refine this fun s2 h2 => ?_
  simp -implicitDefEqProofs only [↓GP, GB, GL, Nat.reduceAdd, Nat.reduceSub, Nat.reduceEqDiff, Nat.reduceMul, Nat.reduceLeDiff, Int.reduceBNe, Int.reduceBEq, Nat.reduceLT, reduceCtorEq, j49_bbbb]
  exact q s2 (Holds.subl (X := huntC t lk mk (ptrN hp.id) (reachW hp roots) m) h2 (List.nil_sublist _))
end
end Go.Proofs.Ytoldkemimhebaaa

/- Layer 16: CollectPages: the law, on models. -/
set_option linter.unusedSimpArgs false
set_option linter.unusedVariables false
namespace Go.Proofs.Ytoldkemimhebaaa
open Go Go.IM

/-- The pages that a region will have. -/
def pgM (L : List (Int × Int)) (g : Reg) : Nat := if 0 < g.pages.length then (((keptM L g).map fun x => x.ws.length + 1).foldl step (0, 0)).1 else 0
theorem pgReg_m (L : List (Int × Int)) (g : PReg) : pgReg L g = pgM L g.m := by
  unfold pgReg pgM pgF
  rw [kept_m, List.map_map]
  rfl
theorem layM_pagesLen {life : Nat} {ns : List Nat} {u : List Bool} {fill : Nat} {pages : List Nat} {r : List Nat × List Bool × Nat × List Nat} (h : layM 0 life ns u fill pages = some r) (hc : (ns.foldl step (pages.length, fill)).1 ≤ pages.length + u.count false) :
    r.2.2.2.length = (ns.foldl step (pages.length, fill)).1 := by
  obtain ⟨r', h1, h2⟩ := layM_some (life := life) ns u fill pages hc
  rw [h] at h1
  cases h1
  exact h2
theorem kept_le {L : List (Int × Int)} {g : Reg} (hi : RInv g) (hs : g.size = 0) : (((keptM L g).map fun x => x.ws.length + 1).foldl step (0, 0)).1 ≤ g.pages.length := by
  have hf := (hi.inf hs).fold
  have hsub : ((keptM L g).map fun x => x.ws.length + 1).Sublist ((g.objs.map fun x => (x.at_, x.ws.length + 1)).map (·.2)) := by
    simp only [List.map_map]
    exact (List.filter_sublist (l := g.objs)).map _
  have hle := fold_sub hsub (Le2.refl (0, 0))
  rw [hf] at hle
  unfold Le2 at hle
  omega
theorem pgM_le {L : List (Int × Int)} {g : Reg} (hi : RInv g) : pgM L g ≤ g.pages.length := by
  unfold pgM
  split
  · rename_i hp
    have hs : g.size = 0 := by
      rcases Nat.eq_zero_or_pos g.size with h | h
      · exact h
      · have := (hi.fin h).1; rw [this] at hp; simp at hp
    exact kept_le hi hs
  · omega

theorem col_pages {L : List (Int × Int)} {lv : Nat} : ∀ {B A : List Reg} {S : ColS}, ColInv L lv A B S → S.regs.map (·.pages.length) = A.map (pgM L) → (B.foldl (colStep L) S).regs.map (·.pages.length) = (A ++ B).map (pgM L)
  | [], A, S, _, e => by simpa using e
  | g :: B, A, S, h, e => by
    have hI := h.ok.inv
    have hri := hI.reg g (by simp)
    have key : (colStep L S g).regs.map (·.pages.length) = (A ++ [g]).map (pgM L) := by
      unfold colStep
      by_cases hp : 0 < g.pages.length
      · rw [if_pos hp]
        have hs : g.size = 0 := by
          rcases Nat.eq_zero_or_pos g.size with h | h
          · exact h
          · have := (hri.fin h).1; rw [this] at hp; simp at hp
        obtain ⟨ats, u', fill', pages', hlay, _⟩ := h.ok.turn hs (ys := keptM L g) (List.filter_sublist ..)
        have hfr : PoolInv (freeP S.u g.pages) (S.regs.flatMap (·.pages) ++ B.flatMap (·.pages)) := by
          have := h.ok.pool
          have h2 : PoolInv S.u (g.pages ++ (S.regs.flatMap (·.pages) ++ B.flatMap (·.pages))) := by
            refine this.perm ?_
            simp only [List.flatMap_append, List.flatMap_cons]
            exact (List.perm_append_comm_assoc _ _ _).symm
          exact h2.free
        have hp1 : PoolInv S.u (g.pages ++ (S.regs.flatMap (·.pages) ++ B.flatMap (·.pages))) := by
          have := h.ok.pool
          refine this.perm ?_
          simp only [List.flatMap_append, List.flatMap_cons]
          exact (List.perm_append_comm_assoc _ _ _).symm
        have hcnt : g.pages.length ≤ (freeP S.u g.pages).count false := by
          have c1 := hfr.count
          have c2 := count_both (freeP S.u g.pages)
          have c3 := hp1.len
          rw [freeP_len] at c2
          rw [List.length_append] at c3
          omega
        have hlen := layM_pagesLen hlay (by have := kept_le (L := L) hri hs; simp only [List.length_nil]; omega)
        rw [hlay]
        simp only [List.map_append, e, List.map_cons, List.map_nil]
        congr 2
        unfold pgM
        rw [if_pos hp]
        exact hlen
      · rw [if_neg hp]
        simp only [List.map_append, e, List.map_cons, List.map_nil]
        congr 2
        unfold pgM
        rw [if_neg hp]; omega
    have := col_pages (h.step) key
    rw [List.append_assoc] at this
    exact this

theorem fix_shape (mv : ToF) (fx : List (Int × Int)) : ∀ (Os : List (Int × Int)) (rs : List Reg), (Os.foldl (fixM mv fx) rs).map shapeR = rs.map shapeR
  | [], _ => rfl
  | w :: Os, rs => by
    rw [List.foldl_cons, fix_shape mv fx Os]
    exact setM_shape w (map_len _) rs
theorem shape_pages {rs rs' : List Reg} (e : rs'.map shapeR = rs.map shapeR) : rs'.map (·.pages.length) = rs.map (·.pages.length) := by
  have := congrArg (List.map fun t : Nat × Nat × Nat × List Nat × List (Nat × Nat × Nat) => t.2.2.2.1.length) e
  simpa [List.map_map, Function.comp_def, shapeR] using this
theorem shape_lives {rs rs' : List Reg} (e : rs'.map shapeR = rs.map shapeR) : rs'.map (·.life) = rs.map (·.life) := by
  have := congrArg (List.map fun t : Nat × Nat × Nat × List Nat × List (Nat × Nat × Nat) => t.2.1) e
  simpa [List.map_map, Function.comp_def, shapeR] using this

/-- Pages, lives behind a collection. -/
theorem collected {L : List (Int × Int)} {lv : Nat} {u : List Bool} {rs : List Reg} (h : RsOk lv u rs) : (colRegs L (colAll L u rs)).map (·.pages.length) = rs.map (pgM L) ∧ (colRegs L (colAll L u rs)).map (·.life) = rs.map (·.life) := by
  have hs := fix_shape (colAll L u rs).mv (colAll L u rs).fx (colObjs L (colAll L u rs)) (colAll L u rs).regs
  have hI := (ColInv.start (L := L) h)
  exact ⟨(shape_pages hs).trans (by have := col_pages hI rfl; rw [List.nil_append] at this; exact this), (shape_lives hs).trans (by have := hI.all.lives; rw [List.nil_append] at this; exact this)⟩
theorem pg_sum {L : List (Int × Int)} (gs : List PReg) : pgSum L gs = ((gs.map PReg.m).map (pgM L)).sum := by
  unfold pgSum
  rw [List.map_map]
  congr 1
  exact List.map_congr_left fun g _ => pgReg_m L g
theorem sum_le : ∀ {l m : List Nat}, l.length = m.length → (∀ (i : Nat) (h : i < l.length) (h' : i < m.length), l[i] ≤ m[i]) → l.sum ≤ m.sum
  | [], [], _, _ => Nat.le_refl _
  | a :: l, b :: m, hl, h => by
    have h0 := h 0 (by simp) (by simp)
    have := sum_le (l := l) (m := m) (by simpa using hl) fun i h1 h2 => h (i + 1) (by simpa using h1) (by simpa using h2)
    simp at h0 ⊢; omega
theorem told_le {L : List (Int × Int)} {lv : Nat} {u : List Bool} {gs : List PReg} (h : RsOk lv u (gs.map PReg.m)) : pgSum L gs ≤ inUseM (gs.map (·.pages)) := by
  unfold pgSum inUseM
  refine sum_le (by simp) fun i h1 h2 => ?_
  simp only [List.getElem_map]
  rw [pgReg_m]
  exact pgM_le (h.inv.reg _ (List.mem_map.2 ⟨_, List.getElem_mem _, rfl⟩))
theorem told_is {L : List (Int × Int)} {lv : Nat} {u : List Bool} {gs gs' : List PReg} (h : RsOk lv u (gs.map PReg.m)) (e : gs'.map PReg.m = colRegs L (colAll L u (gs.map PReg.m))) : inUseM (gs'.map (·.pages)) = pgSum L gs ∧ gs'.map (·.life) = gs.map (·.life) := by
  obtain ⟨h1, h2⟩ := collected (L := L) h
  rw [← e] at h1 h2
  refine ⟨?_, by simpa [List.map_map, Function.comp_def, PReg.m] using h2⟩
  rw [pg_sum, ← h1]
  unfold inUseM
  simp [List.map_map, Function.comp_def, PReg.m]
end Go.Proofs.Ytoldkemimhebaaa

/- Layer 16: CollectPages, on the ideal machine. -/
set_option linter.unusedSimpArgs false
set_option linter.unusedVariables false
namespace Go.Proofs.Ytoldkemimhebaaa
open Go Go.IM

-- virgate/virgatelaw16.CollectPages
def l11_0 : IC := (.seq (.seq (.seq (.region [oa 58 (.mov (.t 15)), oa 59 (.mov (.t 13)), oa 60 (.bin .lss (.t 58) (.t 59))] (kp 139 [7,9,10,11,12,13,14,15,60]))
  (.cond (.t 60)
  (sk 139 [7,9,10,11,12,13,14,15])
  (sx 139 [7,9,10,11,12,13,14] 0)))
  (.seq (.block 1
  (.seq (.region [oa 64 (.mov (.t 7)), oa 65 (.nilCheck (.t 64)), oa 66 (.fieldAddr 0 (.t 65)), oa 67 (.load none (.t 66)), oa 68 (.mov (.t 15)), oa 69 (.call 35 [(.t 67), (.t 68)]), oa 63 (.mov (.t 69)), oa 70 (.extract (.t 63) 0), oa 71 (.extract (.t 63) 1), oa 16 (.mov (.t 70)), oa 17 (.mov (.t 71))] (kp 139 [7,9,10,11,12,13,14,15,16]))
  (.region [oa 72 (.mov (.t 14)), oa 73 (.mov (.t 16)), oa 74 (.buildSlice 1 [(.int .i64 (0))] [(0, 1, (.t 73))]), oa 75 (.append 1 8 (.t 72) (.t 74)), oa 14 (.mov (.t 75))] (kp 139 [7,9,10,11,12,13,14,15]))))
  (.region [oa 61 (.mov (.t 15)), oa 62 (.bin .add (.t 61) (ai 1)), oa 15 (.mov (.t 62))] (kp 139 [7,9,10,11,12,13,14,15]))))
  (sk 139 [7,9,10,11,12,13,14,15]))
def l11_1 : IC := (.seq (.seq (.seq (.region [oa 114 (.mov (.t 20)), oa 115 (.mov (.t 13)), oa 116 (.bin .lss (.t 114) (.t 115))] (kp 139 [7,13,14,20,116]))
  (.cond (.t 116)
  (sk 139 [7,13,14,20])
  (sx 139 [] 2)))
  (.seq (.block 3
  (.seq (.region [oa 120 (.mov (.t 7)), oa 121 (.nilCheck (.t 120)), oa 122 (.fieldAddr 0 (.t 121)), oa 123 (.load none (.t 122)), oa 124 (.mov (.t 20)), oa 125 (.call 35 [(.t 123), (.t 124)]), oa 119 (.mov (.t 125)), oa 126 (.extract (.t 119) 0), oa 127 (.extract (.t 119) 1), oa 21 (.mov (.t 126)), oa 22 (.mov (.t 127))] (kp 139 [7,13,14,20,21,22]))
  (.seq (.region [oa 128 (.mov (.t 22)), oa 129 (.bin .neq (.t 128) (ai 0)), oa 130 (.mov (.t 129)), oc 131 (.mov (.t 21)) 130 ff, oc 132 (.mov (.t 14)) 130 ff, oc 133 (.mov (.t 20)) 130 ff, oc 134 (.indexAddr 1 (.t 132) (.t 133)) 130 ff, oc 135 (.load none (.t 134)) 130 ff, oc 136 (.bin .neq (.t 131) (.t 135)) 130 ff, oa 137 (.pick (.t 130) (.c (.bool true)) (.t 136))] (kp 139 [7,13,14,20,137]))
  (.cond (.t 137)
  (.seq (.region [oa 6 (.mov (.c (.bool false)))] (kp 139 [6]))
  (sr 139 [6]))
  (sk 139 [7,13,14,20])))))
  (.region [oa 117 (.mov (.t 20)), oa 118 (.bin .add (.t 117) (ai 1)), oa 20 (.mov (.t 118))] (kp 139 [7,13,14,20]))))
  (sk 139 [7,13,14,20]))
def j11_bbbbbbbbbbbb : IC := (.seq (.region [oa 138 (.call 41 []), oa 6 (.mov (.t 138))] (kp 139 [6]))
  (sr 139 [6]))
def j11_bbbbbbbbb : IC := (.seq (.region [oa 77 (.mov (.t 7)), oa 78 (.nilCheck (.t 77)), oa 79 (.fieldAddr 0 (.t 78)), oa 80 (.load none (.t 79)), oa 81 (.mov (.t 9)), oa 82 (.call 46 [(.t 80), (.t 81)]), oa 76 (.mov (.t 82)), oa 83 (.extract (.t 76) 0), oa 84 (.extract (.t 76) 1), oa 18 (.mov (.t 83)), oa 19 (.mov (.t 84))] (kp 139 [7,10,11,12,13,14,19]))
  (.seq (.seq (.region [oa 85 (.mov (.t 11)), oa 86 (.bin .neq (.t 85) (ai 0)), oa 87 (.mov (.t 86)), oc 88 (.mov (.t 19)) 87 ff, oc 89 (.bin .neq (.t 88) (ai 0)) 87 ff, oa 90 (.pick (.t 87) (.c (.bool true)) (.t 89)), oa 91 (.mov (.t 90)), oc 92 (.mov (.t 7)) 91 ff, oc 93 (.nilCheck (.t 92)) 91 ff, oc 94 (.fieldAddr 0 (.t 93)) 91 ff, oc 95 (.load none (.t 94)) 91 ff, oc 96 (.call 36 [(.t 95)]) 91 ff, oc 97 (.mov (.t 10)) 91 ff, oc 98 (.bin .neq (.t 96) (.t 97)) 91 ff, oa 99 (.pick (.t 91) (.c (.bool true)) (.t 98)), oa 100 (.mov (.t 99)), oc 101 (.mov (.t 10)) 100 ff, oc 102 (.mov (.t 12)) 100 ff, oc 103 (.bin .gtr (.t 101) (.t 102)) 100 ff, oa 104 (.pick (.t 100) (.c (.bool true)) (.t 103)), oa 105 (.mov (.t 104)), oc 106 (.mov (.t 7)) 105 ff, oc 107 (.nilCheck (.t 106)) 105 ff, oc 108 (.fieldAddr 0 (.t 107)) 105 ff, oc 109 (.load none (.t 108)) 105 ff, oc 110 (.call 27 [(.t 109)]) 105 ff, oc 111 (.mov (.t 13)) 105 ff, oc 112 (.bin .neq (.t 110) (.t 111)) 105 ff, oa 113 (.pick (.t 105) (.c (.bool true)) (.t 112))] (kp 139 [7,13,14,113]))
  (.cond (.t 113)
  (.seq (.region [oa 6 (.mov (.c (.bool false)))] (kp 139 [6]))
  (sr 139 [6]))
  (sk 139 [7,13,14])))
  (.seq (.seq (.region [oa 20 (.mov (ai 0))] (kp 139 [7,13,14,20]))
  (.block 2
  (.seq (sk 139 [7,13,14,20])
  (.loop l11_1))))
  j11_bbbbbbbbbbbb)))
def c11 : IFn := ⟨139, [(6, none)],
  (.seq (.region [oa 6 (.mov (.c (.bool false)))] (kp 139 [0,1,2]))
  (.seq (.seq (.region [oa 23 (.mov (.t 0)), oa 24 (.mov (.t 1)), oa 25 (.mov (.t 2)), oa 26 (.call 40 [(.t 23), (.t 24), (.t 25)])] (kp 139 [0,1,2,26]))
  (.cond (.t 26)
  (.seq (.region [oa 27 (.call 41 []), oa 6 (.mov (.t 27))] (kp 139 [6]))
  (sr 139 [6]))
  (sk 139 [0,1,2])))
  (.seq (.region [oa 29 (.mov (.t 0)), oa 30 (.call 42 [(.t 29)]), oa 28 (.mov (.t 30)), oa 31 (.extract (.t 28) 0), oa 32 (.extract (.t 28) 1), oa 7 (.mov (.t 31)), oa 8 (.mov (.t 32))] (kp 139 [1,2,7,8]))
  (.seq (.seq (.region [oa 33 (.mov (.t 8)), oa 34 (.un .not (.t 33))] (kp 139 [1,2,7,34]))
  (.cond (.t 34)
  (.seq (.region [oa 6 (.mov (.c (.bool false)))] (kp 139 [6]))
  (sr 139 [6]))
  (sk 139 [1,2,7])))
  (.seq (.region [oa 35 (.mov (.t 7)), oa 36 (.mov (.t 1)), oa 37 (.mov (.t 2)), oa 38 (.call 43 [(.t 35), (.t 36), (.t 37)]), oa 9 (.mov (.t 38))] (kp 139 [7,9]))
  (.seq (.region [oa 40 (.mov (.t 7)), oa 41 (.nilCheck (.t 40)), oa 42 (.fieldAddr 0 (.t 41)), oa 43 (.load none (.t 42)), oa 44 (.mov (.t 9)), oa 45 (.call 49 [(.t 43), (.t 44)]), oa 39 (.mov (.t 45)), oa 46 (.extract (.t 39) 0), oa 47 (.extract (.t 39) 1), oa 10 (.mov (.t 46)), oa 11 (.mov (.t 47))] (kp 139 [7,9,10,11]))
  (.seq (.region [oa 48 (.mov (.t 7)), oa 49 (.nilCheck (.t 48)), oa 50 (.fieldAddr 0 (.t 49)), oa 51 (.load none (.t 50)), oa 53 (.mov (.t 7)), oa 54 (.nilCheck (.t 53)), oa 55 (.fieldAddr 0 (.t 54)), oa 56 (.load none (.t 55)), oa 52 (.call 36 [(.t 51)]), ob (.again 56 (.load none (.t 55))), oa 57 (.call 27 [(.t 56)]), oa 12 (.mov (.t 52)), oa 13 (.mov (.t 57))] (kp 139 [7,9,10,11,12,13]))
  (.seq (.region [oa 14 (.mov (.c (.slice none 0 (some 0))))] (kp 139 [7,9,10,11,12,13,14]))
  (.seq (.seq (.region [oa 15 (.mov (ai 0))] (kp 139 [7,9,10,11,12,13,14,15]))
  (.block 0
  (.seq (sk 139 [7,9,10,11,12,13,14,15])
  (.loop l11_0))))
  j11_bbbbbbbbb)))))))))⟩
theorem F11 : shutF Try.prog 11 = some c11 := by kernel_rfl


section
variable {o : Nat → Option O} {s : St} {C F : Ch} {Q : V → St → Prop} {p r q t : Nat} {u : List Bool} {G : PairG}
set_option maxRecDepth 10000
set_option maxHeartbeats 4000000

theorem H0c (hs : s.old = o) : Holds o s [] := ⟨hs, List.nodup_nil, (fun k x m => by cases m), (fun k m => by cases m)⟩
theorem im_trueC {f : Nat} {args : List V} (h : WP (call PF f args s) fun v' _ => v' = .bool true) : ∃ st, call PF f args s = some (.bool true, st) := by
  obtain ⟨v', st, e, rfl⟩ := h
  exact ⟨st, e⟩
theorem longB_lenC {l : List (ActG × List Bool)} (h : longB l = false) : l.length ≤ 150 := by
  unfold longB at h
  rw [Bool.or_eq_false_iff] at h
  have := h.2
  simp at this; exact this
theorem longR_false {l : List (ActG × List Bool)} {n m : Nat} (h : longR l n m = false) : longB l = false ∧ n ≤ 40 ∧ m ≤ 20 := by
  unfold longR at h
  simp only [Bool.or_eq_false_iff, decide_eq_false_iff_not] at h
  exact ⟨h.1.1, by omega, by omega⟩
theorem all_len : ∀ gs : List PReg, (∀ g ∈ gs, g.objs.length ≤ 32 * g.pages.length + 1) → (gs.flatMap fun g => g.objs.map fun x => ((x.b.at_ : Int), (g.life : Int))).length ≤ 32 * ((gs.map PReg.m).flatMap (·.pages)).length + gs.length
  | [], _ => by simp
  | g :: gs, h => by
    have h1 := all_len gs fun x hx => h x (List.mem_cons_of_mem _ hx)
    have h2 := h g (List.mem_cons_self ..)
    simp only [List.flatMap_cons, List.map_cons, List.length_append, List.length_map, List.length_cons] at h1 ⊢
    have : g.m.pages.length = g.pages.length := rfl
    omega

theorem PairOk.rs (h : PairOk u [] G) : RsOk G.hp.lives u (G.hp.regs.map PReg.m) := ⟨h.ulen, h.inv, by have := h.pool; rwa [List.append_nil] at this⟩
theorem RsOk.all {hp : PHeap} {lv : Nat} (h : RsOk lv u (hp.regs.map PReg.m)) (hl : lv ≤ 151) : (allW hp).length ≤ 90000 ∧ hp.regs.length ≤ 151 := by
  have h1 := all_len hp.regs fun g hg => by
    have := (h.inv.reg g.m (List.mem_map.2 ⟨g, hg, rfl⟩)).nobjs
    simpa [PReg.m] using this
  have h2 := h.pool.len
  have h3 := h.ulen
  have h4 := h.inv.len
  rw [List.length_map] at h4
  unfold allW
  exact ⟨by omega, by omega⟩

theorem lives_row {hp : PHeap} {id : Nat} {hv2 hv3 v9 v10 v11 v12 : V} {K : Kt} (hin : In C p hp) (hlen : hp.regs.length ≤ 100000) (mid : (id, some (.cells [ptrN hp.id, hv2, hv3] none)) ∈ C) :
    ∀ (n i k : Nat) (s : St), i + n = hp.regs.length → Holds o s ((k, rowO 1 i ((hp.regs.take i).map fun g : PReg => I g.life)) :: C) →
    (∀ s' k', Holds o s' ((k', rowO 1 hp.regs.length (hp.regs.map fun g : PReg => I g.life)) :: C) → WP (K (.exit 0) (sp 139 [(7, ptrN id), (9, v9), (10, v10), (11, v11), (12, v12), (13, I hp.regs.length), (14, rowV k' hp.regs.length)]) s') Q) →
    WP (loop PF (.loop l11_0) (sp 139 [(7, ptrN id), (9, v9), (10, v10), (11, v11), (12, v12), (13, I hp.regs.length), (14, rowV k i), (15, I i)]) s K) Q
  | 0, i, k, s, hi, H, q => by
    have hlt : ¬ ((i : Int) < (hp.regs.length : Int)) := by omega
    have e : i = hp.regs.length := by omega
    subst e
    rw [List.take_length] at H
    refine wp_round fun LL hLL => ?_
    simp -implicitDefEqProofs only [↓GP, GB, GL, Nat.reduceAdd, Nat.reduceSub, Nat.reduceEqDiff, Nat.reduceMul, Nat.reduceLeDiff, Int.reduceBNe, Int.reduceBEq, Nat.reduceLT, reduceCtorEq, l11_0, hlt]
    exact q s k H
  | n + 1, i, k, s, hi, H, q => by
    have hlt : ((i : Int) < (hp.regs.length : Int)) := by omega
    have hi' : i < hp.regs.length := by omega
    have hw1 := wrap_add1 (a := i) (by omega)
    have f := H.mem (List.mem_cons_of_mem _ mid)
    have hg := List.getElem?_eq_getElem hi'
    refine wp_round fun LL hLL => ?_
    simp -implicitDefEqProofs only [↓GP, GB, GL, Nat.reduceAdd, Nat.reduceSub, Nat.reduceEqDiff, Nat.reduceMul, Nat.reduceLeDiff, Int.reduceBNe, Int.reduceBEq, Nat.reduceLT, reduceCtorEq, l11_0, hlt, f]
    refine wp_in (s35 H (hin.cons _) hlen hg fun s1 h1 => ?_)
    simp -implicitDefEqProofs only [↓GP, GB, GL, Nat.reduceAdd, Nat.reduceSub, Nat.reduceEqDiff, Nat.reduceMul, Nat.reduceLeDiff, Int.reduceBNe, Int.reduceBEq, Nat.reduceLT, reduceCtorEq]
    refine wp_append (sz := 1) (bytes := 8) (m := 1) (cs := (hp.regs.take i).map fun g : PReg => I g.life) ((h1.alloc _).r1) (by simp; omega) (new_cells' (alloc_new_same _ _) rfl) rfl rfl (by omega) (by unfold maxRow; omega) (by unfold maxRow; omega) fun k' s2 h2 => ?_
    simp -implicitDefEqProofs only [↓GP, GB, GL, Nat.reduceAdd, Nat.reduceSub, Nat.reduceEqDiff, Nat.reduceMul, Nat.reduceLeDiff, Int.reduceBNe, Int.reduceBEq, Nat.reduceLT, reduceCtorEq, hw1]
    rw [hLL]
    refine lives_row hin hlen mid n (i + 1) k' s2 (by omega) ?_ q
    have h3 := h2.r1.tl
    rw [List.take_add_one, hg, Option.toList_some, List.map_append]
    exact h3

theorem lives_same {hp : PHeap} {id kl : Nat} {hv2 hv3 : V} {Ls : List Nat} {K : Kt} (hin : In C p hp) (hlen : hp.regs.length ≤ 100000) (mid : (id, some (.cells [ptrN hp.id, hv2, hv3] none)) ∈ C) (ml : (kl, rowO 1 Ls.length (Ls.map fun n : Nat => I n)) ∈ C) (hL : hp.regs.map (·.life) = Ls) :
    ∀ (n i : Nat) (s : St), i + n = Ls.length → Holds o s C → (∀ s', Holds o s' C → WP (K (.exit 2) (sp 139 []) s') Q) →
    WP (loop PF (.loop l11_1) (sp 139 [(7, ptrN id), (13, I Ls.length), (14, rowV kl Ls.length), (20, I i)]) s K) Q
  | 0, i, s, hi, H, q => by
    have hlt : ¬ ((i : Int) < (Ls.length : Int)) := by omega
    refine wp_round fun LL hLL => ?_
    simp -implicitDefEqProofs only [↓GP, GB, GL, Nat.reduceAdd, Nat.reduceSub, Nat.reduceEqDiff, Nat.reduceMul, Nat.reduceLeDiff, Int.reduceBNe, Int.reduceBEq, Nat.reduceLT, reduceCtorEq, l11_1, hlt]
    exact q s H
  | n + 1, i, s, hi, H, q => by
    have hlt : ((i : Int) < (Ls.length : Int)) := by omega
    have hi' : i < Ls.length := by omega
    have hll : hp.regs.length = Ls.length := by rw [← hL]; simp
    have hw1 := wrap_add1 (a := i) (by omega)
    have f := H.mem mid
    have hg := List.getElem?_eq_getElem (show i < hp.regs.length by omega)
    have hix := ix_row (sz := 1) (k := kl) (n := Ls.length) (i := i) (kk := .i64) hi'
    rw [Nat.mul_one] at hix
    have er : rowO 1 Ls.length (Ls.map fun n : Nat => I n) = some (.cells (Ls.map fun n : Nat => I n) (some 1)) := by unfold rowO; rw [if_neg (by omega)]
    refine wp_round fun LL hLL => ?_
    simp -implicitDefEqProofs only [↓GP, GB, GL, Nat.reduceAdd, Nat.reduceSub, Nat.reduceEqDiff, Nat.reduceMul, Nat.reduceLeDiff, Int.reduceBNe, Int.reduceBEq, Nat.reduceLT, reduceCtorEq, l11_1, hlt, f]
    refine wp_in (s35 H hin hlen hg fun s1 h1 => ?_)
    have fr := h1.mem (er ▸ ml)
    have hld : ldC i (some (O.cells (Ls.map fun n : Nat => I n) (some 1))) = some (I (hp.regs[i]'(by omega)).life) := by
      have : Ls[i]? = some (hp.regs[i]'(by omega)).life := by
        have := congrArg (fun l : List Nat => l[i]?) hL
        simp only [List.getElem?_map, hg, Option.map_some] at this
        exact this.symm
      show (Ls.map fun n : Nat => I n)[i]? = _
      rw [List.getElem?_map, this]; rfl
    have hne : (((hp.regs[i]'(by omega)).life : Int) != ((hp.regs[i]'(by omega)).life : Int)) = false := by simp
    generalize (hp.regs[i]'(by omega)).life = lf at hld hne
    simp -implicitDefEqProofs only [↓GP, GB, GL, Nat.reduceAdd, Nat.reduceSub, Nat.reduceEqDiff, Nat.reduceMul, Nat.reduceLeDiff, Int.reduceBNe, Int.reduceBEq, Nat.reduceLT, reduceCtorEq, hix, fr, hld, hne, hw1]
    rw [hLL]
    exact lives_same hin hlen mid ml hL n (i + 1) s1 (by omega) h1 q

theorem collectPages_im {v v1 v2 : V} {l : List (ActG × List Bool)} {is : List Int} {os : List (Int × Int)} (hA : ActsAt o v l) (hll : l.length < 2 ^ 61) (hI : OldI o v1 is) (hO : OldW o v2 os) (s : St) (hs : s.old = o) : ∃ st, call PF 11 [v, v1, v2] s = some (.bool true, st) := by
  refine im_trueC ?_
  have e40 := s40 hs hA hll hI.len hO.len
  cases hlg : longR l is.length os.length with
  | true =>
    rw [hlg] at e40
    obtain ⟨t, ht, -⟩ := sane16 s
    rw [call_run F11]; simp -implicitDefEqProofs only [↓GP, GB, GL, Nat.reduceAdd, Nat.reduceSub, Nat.reduceEqDiff, Nat.reduceMul, Nat.reduceLeDiff, Int.reduceBNe, Int.reduceBEq, Nat.reduceLT, reduceCtorEq, c11, e40, ht]
  | false =>
    rw [hlg] at e40
    obtain ⟨hlb, hil, hol⟩ := longR_false hlg
    have hl := longB_lenC hlb
    rw [call_run F11]; simp -implicitDefEqProofs only [↓GP, GB, GL, Nat.reduceAdd, Nat.reduceSub, Nat.reduceEqDiff, Nat.reduceMul, Nat.reduceLeDiff, Int.reduceBNe, Int.reduceBEq, Nat.reduceLT, reduceCtorEq, c11, e40]
    refine wp_in (s42 hA hl (H0c hs) fun s1 p r q t u G ok hul hlv hws h1 => ?_)
    simp -implicitDefEqProofs only [↓GP, GB, GL, Nat.reduceAdd, Nat.reduceSub, Nat.reduceEqDiff, Nat.reduceMul, Nat.reduceLeDiff, Int.reduceBNe, Int.reduceBEq, Nat.reduceLT, reduceCtorEq]
    have hR := ok.rs
    obtain ⟨hall, hlen⟩ := hR.all hlv
    refine wp_in (s43 hI hil hO hol (by omega) World.id World.wk h1 fun s2 kr h2 => ?_)
    have hrl : (pickL G.ws is ++ os).length ≤ 60 := by
      have : (pickL G.ws is).length ≤ 40 := by unfold pickL; exact Nat.le_trans (List.length_filterMap_le ..) hil
      simp; omega
    generalize pickL G.ws is ++ os = roots at h2 hrl
    have fG := h2.mem (List.mem_cons_of_mem _ World.id)
    simp only [PairG.hd] at fG
    simp -implicitDefEqProofs only [↓GP, GB, GL, Nat.reduceAdd, Nat.reduceSub, Nat.reduceEqDiff, Nat.reduceMul, Nat.reduceLeDiff, Int.reduceBNe, Int.reduceBEq, Nat.reduceLT, reduceCtorEq, fG]
    have lk2 : Look ((kr, rowO 2 roots.length (roots.flatMap encW)) :: World p r q t u G []) p G.hp := hR.look ok.pok fun y hy => List.mem_cons_of_mem _ (World.in_.sub y hy)
    refine wp_in (s49 h2 lk2 hR (List.mem_cons_self ..) (by omega) hall (by omega) fun s3 h3 => ?_)
    have fG3 := h3.mem (List.mem_cons_of_mem _ World.id)
    simp only [PairG.hd] at fG3
    have e36 := s36 h3 lk2.hin lk2.ne lk2.len (fun g hg => by
      have hrm : g.m ∈ G.hp.regs.map PReg.m := List.mem_map.2 ⟨g, hg, rfl⟩
      have hsb := sub_flatMap (fun r : Reg => r.pages) hrm
      have := hR.pool.sub_len hsb
      have := hR.ulen
      simp only [PReg.m] at *; omega)
    have e27 := s27 h3 lk2.hin
    simp -implicitDefEqProofs only [↓GP, GB, GL, Nat.reduceAdd, Nat.reduceSub, Nat.reduceEqDiff, Nat.reduceMul, Nat.reduceLeDiff, Int.reduceBNe, Int.reduceBEq, Nat.reduceLT, reduceCtorEq, fG3, e36, e27]
    have hlr := lives_row (K := blockK 0 (seqK (loop PF) (call PF) j11_bbbbbbbbb (finR [(6, none)]))) (Q := fun v' _ => v' = .bool true) (v9 := rowV kr roots.length) (v10 := I (pgSum (reachW G.hp roots) G.hp.regs)) (v11 := I 0) (v12 := I (inUseM (G.hp.regs.map (·.pages)))) lk2.hin lk2.len (List.mem_cons_of_mem _ World.id) G.hp.regs.length 0 0 s3 (by omega) (h3.nilEntry 0)
    simp only [Int.natCast_zero] at hlr
    refine hlr fun s4 kl h4 => ?_
    clear hlr
    have fG4 := h4.mem (List.mem_cons_of_mem _ (List.mem_cons_of_mem _ World.id))
    simp only [PairG.hd] at fG4
    simp -implicitDefEqProofs only [↓GP, GB, GL, Nat.reduceAdd, Nat.reduceSub, Nat.reduceEqDiff, Nat.reduceMul, Nat.reduceLeDiff, Int.reduceBNe, Int.reduceBEq, Nat.reduceLT, reduceCtorEq, j11_bbbbbbbbb, fG4]
    refine wp_in (s46 (p := p) (r := r) (u := u) (hp := G.hp) (F := (kl, rowO 1 G.hp.regs.length (G.hp.regs.map fun g : PReg => I g.life)) :: (kr, rowO 2 roots.length (roots.flatMap encW)) :: (G.id, some (.cells [ptrN G.hp.id, ptrN G.hr.id, rowV G.wk G.ws.length] none)) :: (G.wk, rowO 2 G.ws.length (G.ws.flatMap encW)) :: (poolC q t u ++ G.hr.ch q))
      (Holds.of (h4) (fun k => by simp +arith only [HA, HB]) (fun k x => by simp only [HA, HC]; grind only)) hR ok.pok (List.mem_cons_of_mem _ (List.mem_cons_self ..)) (by omega) hall fun s5 hp' kout d1 d2 d3 d4 hR' hok' h5 => ?_)
    have mG5 : (G.id, some (O.cells [ptrN G.hp.id, ptrN G.hr.id, rowV G.wk G.ws.length] none)) ∈ (kout, rowO 2 roots.length ((roots.map (nowW (colAll (reachW G.hp roots) u (G.hp.regs.map PReg.m)).mv (colAll (reachW G.hp roots) u (G.hp.regs.map PReg.m)).fx)).flatMap encW)) :: (poolC p r (colAll (reachW G.hp roots) u (G.hp.regs.map PReg.m)).u ++ (hp'.ch p ++
      ((kl, rowO 1 G.hp.regs.length (G.hp.regs.map fun g : PReg => I g.life)) :: (kr, rowO 2 roots.length (roots.flatMap encW)) :: (G.id, some (.cells [ptrN G.hp.id, ptrN G.hr.id, rowV G.wk G.ws.length] none)) :: (G.wk, rowO 2 G.ws.length (G.ws.flatMap encW)) :: (poolC q t u ++ G.hr.ch q)))) :=
      List.mem_cons_of_mem _ (List.mem_append_right _ (List.mem_append_right _ (List.mem_cons_of_mem _ (List.mem_cons_of_mem _ (List.mem_cons_self ..)))))
    have ml5 : (kl, rowO 1 G.hp.regs.length (G.hp.regs.map fun g : PReg => I g.life)) ∈ (kout, rowO 2 roots.length ((roots.map (nowW (colAll (reachW G.hp roots) u (G.hp.regs.map PReg.m)).mv (colAll (reachW G.hp roots) u (G.hp.regs.map PReg.m)).fx)).flatMap encW)) :: (poolC p r (colAll (reachW G.hp roots) u (G.hp.regs.map PReg.m)).u ++ (hp'.ch p ++
      ((kl, rowO 1 G.hp.regs.length (G.hp.regs.map fun g : PReg => I g.life)) :: (kr, rowO 2 roots.length (roots.flatMap encW)) :: (G.id, some (.cells [ptrN G.hp.id, ptrN G.hr.id, rowV G.wk G.ws.length] none)) :: (G.wk, rowO 2 G.ws.length (G.ws.flatMap encW)) :: (poolC q t u ++ G.hr.ch q)))) :=
      List.mem_cons_of_mem _ (List.mem_append_right _ (List.mem_append_right _ (List.mem_cons_self ..)))
    have fG5 := h5.mem mG5
    have lk5 := hR'.look (p := p) (D := (kout, rowO 2 roots.length ((roots.map (nowW (colAll (reachW G.hp roots) u (G.hp.regs.map PReg.m)).mv (colAll (reachW G.hp roots) u (G.hp.regs.map PReg.m)).fx)).flatMap encW)) :: (poolC p r (colAll (reachW G.hp roots) u (G.hp.regs.map PReg.m)).u ++ (hp'.ch p ++
      ((kl, rowO 1 G.hp.regs.length (G.hp.regs.map fun g : PReg => I g.life)) :: (kr, rowO 2 roots.length (roots.flatMap encW)) :: (G.id, some (.cells [ptrN G.hp.id, ptrN G.hr.id, rowV G.wk G.ws.length] none)) :: (G.wk, rowO 2 G.ws.length (G.ws.flatMap encW)) :: (poolC q t u ++ G.hr.ch q))))) hok' fun y hy => List.mem_cons_of_mem _ (List.mem_append_right _ (List.mem_append_left _ hy))
    have e36' := s36 h5 lk5.hin lk5.ne lk5.len (fun g hg => by
      have hrm : g.m ∈ hp'.regs.map PReg.m := List.mem_map.2 ⟨g, hg, rfl⟩
      have hsb := sub_flatMap (fun r : Reg => r.pages) hrm
      have := hR'.pool.sub_len hsb
      have := hR'.ulen
      simp only [PReg.m] at *; omega)
    have e27' := s27 h5 lk5.hin
    obtain ⟨t1, t2⟩ := told_is hR d4
    have t3 := told_le (L := reachW G.hp roots) hR
    rw [d1, t1] at e36'
    rw [d1, d3] at e27'
    have hb1 : ((pgSum (reachW G.hp roots) G.hp.regs : Int) != (pgSum (reachW G.hp roots) G.hp.regs : Int)) = false := by simp
    have hb2 : ((G.hp.regs.length : Int) != (G.hp.regs.length : Int)) = false := by simp
    have hgt : ¬ ((pgSum (reachW G.hp roots) G.hp.regs : Int) > (inUseM (G.hp.regs.map (·.pages)) : Int)) := by omega
    simp -implicitDefEqProofs only [↓GP, GB, GL, Nat.reduceAdd, Nat.reduceSub, Nat.reduceEqDiff, Nat.reduceMul, Nat.reduceLeDiff, Int.reduceBNe, Int.reduceBEq, Nat.reduceLT, reduceCtorEq, fG5, e36', e27', hb1, hb2, hgt, Int.reduceBNe]
    have hLl : (G.hp.regs.map (·.life)).length = G.hp.regs.length := by simp
    have hls := lives_same (K := blockK 2 (seqK (loop PF) (call PF) j11_bbbbbbbbbbbb (finR [(6, none)]))) (Q := fun v' _ => v' = .bool true) (id := G.id) (kl := kl) (Ls := G.hp.regs.map (·.life)) lk5.hin lk5.len (by rw [d1]; exact mG5) (by rw [hLl, List.map_map]; exact ml5) t2 (G.hp.regs.map (·.life)).length 0 s5 (by omega) h5
    rw [hLl] at hls
    simp only [Int.natCast_zero] at hls
    refine hls fun s6 h6 => ?_
    obtain ⟨t', ht', -⟩ := sane16 s6
    simp -implicitDefEqProofs only [↓GP, GB, GL, Nat.reduceAdd, Nat.reduceSub, Nat.reduceEqDiff, Nat.reduceMul, Nat.reduceLeDiff, Int.reduceBNe, Int.reduceBEq, Nat.reduceLT, reduceCtorEq, j11_bbbbbbbbbbbb, ht']
end
end Go.Proofs.Ytoldkemimhebaaa

/- Layer 16: lists of numbers and of words that are handed in. -/
set_option linter.unusedSimpArgs false
set_option linter.unusedVariables false
namespace Go.Proofs.Ytoldkemimhebaaa
open Go Go.IM Go.ChangeShapes Go.WideShapes Go.RowKit

section
variable {H : Type} {enc : TypeId × Value → H} {W : Go.World} {o : Nat → Option O}

theorem oldI_of {d : D} {cs : List V} (hx : HasTy Try.prog 54 d) (hr : Rep o d cs) : ∃ v l, cs = [v] ∧ OldI o v l := by
  obtain ⟨es, rfl, hl, hes⟩ := hx.slice (e := 3) (by kernel_rfl)
  have c3 : Try.prog.cellsOf 3 = 1 := by kernel_rfl
  rw [c3] at hr
  obtain ⟨v, rfl, hs⟩ := hr.slv
  let val : D → Int := fun d => match d with | .lit (.int _ n) => n | _ => 0
  refine ⟨v, es.map val, rfl, by rw [List.length_map]; exact hs.len, fun i hi => ?_⟩
  have hi' : i < es.length := by simpa using hi
  obtain ⟨b, off, C, c, h1, h2, h3, h4⟩ := hs.get i hi'
  refine ⟨⟨.old b, off⟩, h1, fun s he => ?_⟩
  obtain ⟨n, en, _⟩ := (hes _ (List.getElem_mem hi')).intv (k := .i64) (by kernel_rfl)
  rw [List.getElem_map]
  rw [en] at h2 ⊢
  have := h2.litv
  subst this
  rw [(ld_old he h3 h4 (by omega)).2.1]
  rfl

theorem RepE.flat {C : List V} : ∀ {off : Nat} {es : List D}, RepE o C 2 off es → (∀ d ∈ es, ∃ a b : Int, d = .agg [.lit (.int .i64 a), .lit (.int .i64 b)]) →
    ∃ l : List (Int × Int), l.length = es.length ∧ (C.drop off).take (es.length * 2) = l.flatMap encW ∧ (es ≠ [] → off + es.length * 2 ≤ C.length)
  | _, _, .nil, _ => ⟨[], rfl, by simp, fun h => absurd rfl h⟩
  | off, _, .cons (d := d) (ds := ds) (c := c) hc hr hs, hd => by
    obtain ⟨l, h1, h2, h3⟩ := RepE.flat hs fun x hx => hd x (List.mem_cons_of_mem _ hx)
    obtain ⟨a, b, rfl⟩ := hd d (List.mem_cons_self ..)
    have hc2 : c = [V.int .i64 a, V.int .i64 b] := by
      have h4 := hr.aggv
      obtain ⟨c1, c2, rfl, k1, k2⟩ := h4.consv
      obtain ⟨c3, c4, rfl, k3, k4⟩ := k2.consv
      rw [k1.litv, k3.litv, k4.nilv]; rfl
    unfold cut at hc
    split at hc
    · rename_i hle
      simp only [Option.some.injEq] at hc
      have hlen : ds = [] → off + 2 ≤ C.length := fun _ => hle
      refine ⟨(a, b) :: l, by simp [h1], ?_, fun _ => ?_⟩
      · rw [List.length_cons, show (ds.length + 1) * 2 = 2 + ds.length * 2 by omega, List.take_add, hc, hc2, List.drop_drop, h2, List.flatMap_cons]
        rfl
      · cases ds with
        | nil => simpa using hle
        | cons x xs => have := h3 (by simp); simp at this ⊢; omega
    · cases hc

theorem oldW_of {fuel : Nat} {v : Value} {x : DataW H × List MemPlace} (h : DataW.trod enc Try.prog W 0 (fun _ => true) true fuel 41 [v] = some x) : ∃ l, OldW (oldSt W).old (ofVal v) l := by
  obtain ⟨d, hd, hr⟩ := rep_of (P := Try.prog) (Ts := [41, 47, 3]) (by kernel_rfl) fuel 41 [v] x (by simp) h
  obtain ⟨es, rfl, hl, hes⟩ := hd.slice (e := 47) (by kernel_rfl)
  have c47 : Try.prog.cellsOf 47 = 2 := by kernel_rfl
  rw [c47] at hr
  have hes' : ∀ d ∈ es, ∃ a b : Int, d = .agg [.lit (.int .i64 a), .lit (.int .i64 b)] := fun d hd => by
    obtain ⟨ds, rfl, ht⟩ := (hes d hd).struct (L := [3, 3]) (by kernel_rfl)
    obtain ⟨d1, ds1, rfl, t1, t2⟩ : ∃ d1 ds1, ds = d1 :: ds1 ∧ HasTy Try.prog 3 d1 ∧ Tys Try.prog [3] ds1 := by
      cases ds with
      | nil => exact ht.elim
      | cons a b => exact ⟨a, b, rfl, ht.1, ht.2⟩
    obtain ⟨d2, ds2, rfl, t3, t4⟩ : ∃ d1 ds2, ds1 = d1 :: ds2 ∧ HasTy Try.prog 3 d1 ∧ Tys Try.prog [] ds2 := by
      cases ds1 with
      | nil => exact t2.elim
      | cons a b => exact ⟨a, b, rfl, t2.1, t2.2⟩
    have e4 : ds2 = [] := by cases ds2 with | nil => rfl | cons _ _ => exact t4.elim
    obtain ⟨a, rfl, _⟩ := t1.intv (k := .i64) (by kernel_rfl)
    obtain ⟨b, rfl, _⟩ := t3.intv (k := .i64) (by kernel_rfl)
    exact ⟨a, b, by rw [e4]⟩
  rcases Go.Deep.open_slice (P := Try.prog) (t := 41) (e := 47) (by kernel_rfl) h with ⟨e, _⟩ | ⟨a, len, cap, m, n, DD, Pl, e, hb, hln, hm, hmm, hxe, hx⟩
  · cases e
    exact ⟨[], oldW_nil⟩
  · cases e
    rw [c47] at hx
    have hm' : m = cap := by simpa using hmm
    have hsp : 0 < cap → a.spot = none := fun hc => by
      obtain ⟨cs, h1, _⟩ := hx 0 (by omega)
      exact (rd (by omega) h1).1
    have hv := ofVal_slice hln hsp
    rw [show ofVals [Value.slice (some a) len cap] = [ofVal (.slice (some a) len cap)] from rfl, hv] at hr
    rw [hv]
    cases hr with
    | nil => exact ⟨[], rfl, fun s hs => by simp [newCells]⟩
    | sl hC hE =>
      rename_i C
      obtain ⟨l, h1, h2, h3⟩ := RepE.flat hE hes'
      refine ⟨l, by rw [h1]; rfl, fun s hs => ?_⟩
      have hrow : s.row (.old a.block) = some (C, none) := by simp only [St.row, St.get, hs]; rw [hC]
      rw [newCells, if_neg (by simp), readCells]
      simp only [hrow]
      rw [cut, if_pos (by have := h3 (by simp); simpa using this), Option.map_some, h2, h1]
end
end Go.Proofs.Ytoldkemimhebaaa
