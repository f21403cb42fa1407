/- Proved here: the statement 'CollectReached' of layer 16: for every list of acts and all lists of roots it returns true, never panics, and its input reads as before; without conditions. -/
import Derived.Deep.Grids
import Derived.Deep.Slices
import Derived.Test.YtoldkemimhebaaaRc5

set_option linter.unusedSimpArgs false
set_option linter.unusedVariables false
namespace Go.Proofs.Ytoldkemimhebaaa
open Go Go.IM
def l53_0 : IC := (.seq (.seq (.region [oa 39 (.bin .lss (.t 38) (.t 37))] (kp 63 [0,6,7,22,23,36,37,38,39]))
  (.seq (.cond (.t 39)
  (sk 63 [0,6,7,22,23,36,37,38])
  (sx 63 [0,6,7,22,23] 2))
  (.seq (.block 3
  (.seq (.region [oa 40 (.indexAddr 2 (.t 36) (.t 38)), oa 41 (.load (some 2) (.t 40)), oa 12 (.alloc [(.int .i64 (0)), (.int .i64 (0))]), ob (.store 2 (.t 12) (.t 41))] (kp 63 [0,6,7,12,22,23,36,37,38]))
  (.seq (.region [oa 43 (.mov (.t 0)), oa 44 (.load (some 2) (.t 12)), oa 45 (.call 30 [(.t 43), (.t 44)]), oa 42 (.mov (.t 45)), oa 46 (.extract (.t 42) 0), oa 47 (.extract (.t 42) 1), oa 48 (.extract (.t 42) 2), oa 13 (.mov (.t 46)), oa 14 (.mov (.t 47)), oa 15 (.mov (.t 48))] (kp 63 [0,6,7,12,14,22,23,36,37,38]))
  (.seq (.region [oa 49 (.mov (.t 6)), oa 50 (.nilCheck (.t 49)), oa 51 (.fieldAddr 2 (.t 50)), oa 52 (.load none (.t 51)), oa 53 (.load (some 2) (.t 12)), oa 54 (.lookup (.agg [.i, .i]) (.bool false) false (.t 52) (.t 53)), oa 55 (.un .not (.t 54))] (kp 63 [0,6,7,14,22,23,36,37,38,55]))
  (.cond (.t 55)
  (.region [oa 56 (.mov (.t 7)), oa 57 (.mov (.t 14)), oa 58 (.bin .add (.t 57) (ai 1)), oa 59 (.bin .add (.t 56) (.t 58)), oa 7 (.mov (.t 59))] (kp 63 [0,6,7,22,23,36,37,38]))
  (sk 63 [0,6,7,22,23,36,37,38]))))))
  (.region [oa 60 (.bin .add (.t 38) (ai 1)), oa 38 (.mov (.t 60))] (kp 63 [0,6,7,22,23,36,37,38])))))
  (sk 63 [0,6,7,22,23,36,37,38]))
def l53_1 : IC := (.seq (.seq (.region [oa 24 (.bin .lss (.t 23) (.t 22))] (kp 63 [0,6,7,22,23,24]))
  (.seq (.cond (.t 24)
  (sk 63 [0,6,7,22,23])
  (sx 63 [7] 0))
  (.seq (.block 1
  (.seq (.region [oa 25 (.mov (.t 23)), oa 8 (.mov (.t 25))] (kp 63 [0,6,7,8,22,23]))
  (.seq (.seq (.region [oa 26 (.mov (.t 0)), oa 27 (.mov (.t 8)), oa 28 (.call 91 [(.t 26), (.t 27)]), oa 29 (.un .not (.t 28))] (kp 63 [0,6,7,8,22,23,29]))
  (.cond (.t 29)
  (sx 63 [0,6,7,22,23] 1)
  (sk 63 [0,6,7,8,22,23])))
  (.seq (.region [oa 31 (.mov (.t 0)), oa 32 (.mov (.t 8)), oa 33 (.call 28 [(.t 31), (.t 32)]), oa 30 (.mov (.t 33)), oa 34 (.extract (.t 30) 0), oa 35 (.extract (.t 30) 1), oa 9 (.mov (.t 34)), oa 10 (.mov (.t 35))] (kp 63 [0,6,7,9,22,23]))
  (.seq (.region [oa 36 (.mov (.t 9)), oa 37 (.lenSlice (.t 36)), oa 38 (.mov (ai 0))] (kp 63 [0,6,7,22,23,36,37,38]))
  (.block 2
  (.seq (sk 63 [0,6,7,22,23,36,37,38])
  (.loop l53_0))))))))
  (.region [oa 61 (.bin .add (.t 23) (ai 1)), oa 23 (.mov (.t 61))] (kp 63 [0,6,7,22,23])))))
  (sk 63 [0,6,7,22,23]))
def j53_bbbb : IC := (.seq (.region [oa 62 (.mov (.t 7)), oa 4 (.mov (.t 62)), oa 5 (.mov (ai 0))] (kp 63 [4,5]))
  (sr 63 [4,5]))
def c53 : IFn := ⟨63, [(4, none), (5, none)],
  (.seq (.region [oa 4 (.mov (ai 0)), oa 5 (.mov (ai 0))] (kp 63 [0,1]))
  (.seq (.seq (.region [oa 16 (.mov (.t 0)), oa 17 (.call 89 [(.t 16)])] (kp 63 [0,1,17]))
  (.cond (.t 17)
  (.seq (.region [oa 4 (.mov (ai 0)), oa 5 (.mov (ai 6))] (kp 63 [4,5]))
  (sr 63 [4,5]))
  (sk 63 [0,1])))
  (.seq (.region [oa 18 (.mov (.t 0)), oa 19 (.mov (.t 1)), oa 20 (.call 90 [(.t 18), (.t 19)]), oa 6 (.mov (.t 20)), oa 7 (.mov (ai 0))] (kp 63 [0,6,7]))
  (.seq (.seq (.region [oa 21 (.mov (.t 0)), oa 22 (.call 27 [(.t 21)]), oa 23 (.mov (ai 0))] (kp 63 [0,6,7,22,23]))
  (.block 0
  (.seq (sk 63 [0,6,7,22,23])
  (.loop l53_1))))
  j53_bbbb))))⟩
theorem F53 : shutF Try.prog 53 = some c53 := by kernel_rfl
def l54_0 : IC := (.seq (.seq (.seq (.region [oa 37 (.fieldAddr 0 (.t 10)), oa 38 (.load none (.t 37)), oa 39 (.bin .eql (.t 38) (ai 0)), oa 40 (.mov (.t 39)), oc 41 (.mov (.t 11)) 40 tt, oc 42 (.fieldAddr 4 (.t 10)) 40 tt, oc 43 (.load none (.t 42)) 40 tt, oc 44 (.lenSlice (.t 43)) 40 tt, oc 45 (.bin .lss (.t 41) (.t 44)) 40 tt, oa 46 (.pick (.t 40) (.t 45) (.c (.bool false)))] (kp 72 [0,6,8,9,10,11,46]))
  (.cond (.t 46)
  (sk 72 [0,6,8,9,10,11])
  (sx 72 [0,6,8,9] 2)))
  (.seq (.block 3
  (.seq (.region [oa 49 (.mov (.t 6)), oa 50 (.fieldAddr 4 (.t 10)), oa 51 (.load none (.t 50)), oa 52 (.mov (.t 11)), oa 53 (.indexAddr 3 (.t 51) (.t 52)), oa 54 (.fieldAddr 0 (.t 53)), oa 55 (.load none (.t 54)), oa 56 (.fieldAddr 1 (.t 10)), oa 57 (.load none (.t 56)), oa 58 (.build [(.int .i64 (0)), (.int .i64 (0))] [(0, 1, (.t 55)), (1, 1, (.t 57))]), oa 59 (.call 96 [(.t 49), (.t 58)]), oa 60 (.un .not (.t 59))] (kp 72 [0,6,8,9,10,11,60]))
  (.cond (.t 60)
  (.region [oa 61 (.mov (.t 8)), oa 62 (.bin .add (.t 61) (ai 1)), oa 63 (.fieldAddr 4 (.t 10)), oa 64 (.load none (.t 63)), oa 65 (.mov (.t 11)), oa 66 (.indexAddr 3 (.t 64) (.t 65)), oa 67 (.fieldAddr 2 (.t 66)), oa 68 (.load none (.t 67)), oa 69 (.lenSlice (.t 68)), oa 70 (.bin .add (.t 62) (.t 69)), oa 8 (.mov (.t 70))] (kp 72 [0,6,8,9,10,11]))
  (sk 72 [0,6,8,9,10,11]))))
  (.region [oa 47 (.mov (.t 11)), oa 48 (.bin .add (.t 47) (ai 1)), oa 11 (.mov (.t 48))] (kp 72 [0,6,8,9,10,11]))))
  (sk 72 [0,6,8,9,10,11]))
def l54_1 : IC := (.seq (.seq (.seq (.region [oa 21 (.mov (.t 9)), oa 22 (.mov (.t 0)), oa 23 (.nilCheck (.t 22)), oa 24 (.fieldAddr 1 (.t 23)), oa 25 (.load none (.t 24)), oa 26 (.lenSlice (.t 25)), oa 27 (.bin .lss (.t 21) (.t 26))] (kp 72 [0,6,8,9,27]))
  (.cond (.t 27)
  (sk 72 [0,6,8,9])
  (sx 72 [8] 0)))
  (.seq (.block 1
  (.seq (.region [oa 30 (.mov (.t 0)), oa 31 (.nilCheck (.t 30)), oa 32 (.fieldAddr 1 (.t 31)), oa 33 (.load none (.t 32)), oa 34 (.mov (.t 9)), oa 35 (.indexAddr 5 (.t 33) (.t 34)), oa 36 (.load (some 5) (.t 35)), oa 10 (.alloc [(.int .i64 (0)), (.int .i64 (0)), (.slice none 0 (some 0)), (.int .i64 (0)), (.slice none 0 (some 0))]), ob (.store 5 (.t 10) (.t 36))] (kp 72 [0,6,8,9,10]))
  (.seq (.region [oa 11 (.mov (ai 0))] (kp 72 [0,6,8,9,10,11]))
  (.block 2
  (.seq (sk 72 [0,6,8,9,10,11])
  (.loop l54_0))))))
  (.region [oa 28 (.mov (.t 9)), oa 29 (.bin .add (.t 28) (ai 1)), oa 9 (.mov (.t 29))] (kp 72 [0,6,8,9]))))
  (sk 72 [0,6,8,9]))
def j54_bbbbb : IC := (.seq (.region [oa 71 (.mov (.t 8)), oa 4 (.mov (.t 71)), oa 5 (.mov (ai 0))] (kp 72 [4,5]))
  (sr 72 [4,5]))
def c54 : IFn := ⟨72, [(4, none), (5, none)],
  (.seq (.region [oa 4 (.mov (ai 0)), oa 5 (.mov (ai 0))] (kp 72 [0,1]))
  (.seq (.region [oa 13 (.mov (.t 0)), oa 14 (.mov (.t 1)), oa 15 (.call 52 [(.t 13), (.t 14)]), oa 12 (.mov (.t 15)), oa 16 (.extract (.t 12) 0), oa 17 (.extract (.t 12) 1), oa 6 (.mov (.t 16)), oa 7 (.mov (.t 17))] (kp 72 [0,6,7]))
  (.seq (.seq (.region [oa 18 (.mov (.t 7)), oa 19 (.bin .neq (.t 18) (ai 0))] (kp 72 [0,6,7,19]))
  (.cond (.t 19)
  (.seq (.region [oa 20 (.mov (.t 7)), oa 4 (.mov (ai 0)), oa 5 (.mov (.t 20))] (kp 72 [4,5]))
  (sr 72 [4,5]))
  (sk 72 [0,6])))
  (.seq (.region [oa 8 (.mov (ai 0))] (kp 72 [0,6,8]))
  (.seq (.seq (.region [oa 9 (.mov (ai 0))] (kp 72 [0,6,8,9]))
  (.block 0
  (.seq (sk 72 [0,6,8,9])
  (.loop l54_1))))
  j54_bbbbb)))))⟩
theorem F54 : shutF Try.prog 54 = some c54 := by kernel_rfl
def gbO (L : List (Int × Int)) (life : Nat) (x : Obj) : Nat := if ((x.at_ : Int), (life : Int)) ∈ L then 0 else x.ws.length + 1
def gbL (L : List (Int × Int)) (life : Nat) (xs : List Obj) : Nat := (xs.map (gbO L life)).sum
def gbR (L : List (Int × Int)) (g : Reg) : Nat := if g.size = 0 then gbL L g.life g.objs else 0
def gbS (L : List (Int × Int)) (gs : List Reg) : Nat := (gs.map (gbR L)).sum
theorem gbL_cons (L : List (Int × Int)) (life : Nat) (x : Obj) (xs : List Obj) : gbL L life (x :: xs) = gbO L life x + gbL L life xs := by simp [gbL]
theorem gbS_cons (L : List (Int × Int)) (g : Reg) (gs : List Reg) : gbS L (g :: gs) = gbR L g + gbS L gs := by simp [gbS]
theorem gbL_le {L : List (Int × Int)} {life : Nat} : ∀ {xs : List Obj}, (∀ x ∈ xs, x.ws.length ≤ 31) → gbL L life xs ≤ 32 * xs.length
  | [], _ => by simp [gbL]
  | x :: xs, h => by
    have := gbL_le (L := L) (life := life) fun y hy => h y (List.mem_cons_of_mem _ hy)
    have h2 := h x (List.mem_cons_self ..)
    rw [gbL_cons, List.length_cons]
    have : gbO L life x ≤ 32 := by unfold gbO; split <;> omega
    omega
theorem gbR_le {L : List (Int × Int)} {lv : Nat} {u : List Bool} {rs : List Reg} (h : RsOk lv u rs) {g : Reg} (hg : g ∈ rs) : gbR L g ≤ 32000 := by
  unfold gbR
  split
  · have := gbL_le (L := L) (life := g.life) fun x hx => ((h.inv.reg g hg).ws x hx).2.1
    have := (h.pg hg).2
    omega
  · omega
theorem gbR_zero {L : List (Int × Int)} {g : Reg} (h : RInv g) (hp : ¬ 0 < g.pages.length) : gbR L g = 0 := by
  unfold gbR
  split
  · rename_i hs
    rw [(noPages h hs (List.length_eq_zero_iff.1 (by omega))).1]; rfl
  · rfl
theorem gbR_inf {L : List (Int × Int)} {g : Reg} (h : RInv g) (hp : 0 < g.pages.length) : gbR L g = gbL L g.life g.objs := by
  unfold gbR
  rw [if_pos]
  rcases Nat.eq_zero_or_pos g.size with hs | hs
  · exact hs
  · have := (h.fin hs).1; rw [this] at hp; simp at hp
section
variable {o : Nat → Option O} {s : St} {C F : Ch} {Q : V → St → Prop} {p q r : Nat} {u : List Bool}
set_option maxRecDepth 10000
set_option maxHeartbeats 4000000
theorem gb_inner {hp : PHeap} {g : PReg} {t lk mk ko : Nat} {v22 v23 : V} {L : List (Int × Int)} {m : O} {K : Kt} (h : Look C p hp) (mg : g ∈ hp.regs) (hat : (g.objs.map (·.b.at_)).Nodup) (hlf : (hp.regs.map (·.life)).Nodup) (h1 : 1 ≤ g.life)
    (hs : ∀ x ∈ huntC t lk mk (ptrN hp.id) L m, x ∈ C) (hm : MapIs encA (seenF L) m) (mo : (ko, rowO 2 g.objs.length (g.objs.flatMap (encP g.life))) ∈ C) (hl : g.objs.length ≤ 100000) :
    ∀ (n i n0 : Nat) (s : St), i + n = g.objs.length → n0 ≤ 100000000 + 32 * i → Holds o s C →
    (∀ s', Holds o s' C → WP (K (.exit 2) (sp 63 [(0, ptrN hp.id), (6, ptrN t), (7, I ((n0 + gbL L g.life ((g.objs.drop i).map (·.b)) : Nat) : Int)), (22, v22), (23, v23)]) s') Q) →
    WP (loop PF (.loop l53_0) (sp 63 [(0, ptrN hp.id), (6, ptrN t), (7, I n0), (22, v22), (23, v23), (36, rowV ko g.objs.length), (37, I g.objs.length), (38, I i)]) s K) Q
  | 0, i, n0, s, hi, hn0, H, q => by
    have hlt : ¬ ((i : Int) < (g.objs.length : Int)) := by omega
    rw [List.drop_eq_nil_of_le (by omega)] at q
    refine wp_round fun LL hLL => ?_
    simp -implicitDefEqProofs only [↓GP, GB, GL, Nat.reduceAdd, Nat.reduceSub, Nat.reduceEqDiff, Nat.reduceMul, Nat.reduceLeDiff, Int.reduceBNe, Int.reduceBEq, Nat.reduceLT, reduceCtorEq, l53_0, hlt]
    exact q s H
  | n + 1, i, n0, s, hi, hn0, H, q => by
    have hlt : ((i : Int) < (g.objs.length : Int)) := by omega
    have hi' : i < g.objs.length := by omega
    have hw1 := wrap_add1 (a := i) (by omega)
    have hix := ix_row (sz := 2) (k := ko) (n := g.objs.length) (i := i) (kk := .i64) hi'
    have er : rowO 2 g.objs.length (g.objs.flatMap (encP g.life)) = some (.cells (g.objs.flatMap (encP g.life)) (some 2)) := by unfold rowO; rw [if_neg (by omega)]
    have fr := H.mem (er ▸ mo)
    have hld := ldN_tab (sz := 2) (enc := encP g.life) (fun _ => rfl) g.objs (some 2) (List.getElem?_eq_getElem hi')
    have mx := List.getElem_mem hi'
    rw [List.drop_eq_getElem_cons hi', List.map_cons, gbL_cons, ← Nat.add_assoc] at q
    generalize g.objs[i] = x at q hld mx
    have hx := pfind_own mx hat hp.regs hlf mg
    have hxw := h.ws g mg x mx
    have h2 := (H.alloc (.cells [I 0, I 0] none)).set0 (.cells [I x.b.at_, I g.life] none)
    refine wp_round fun LL hLL => ?_
    simp -implicitDefEqProofs only [↓GP, GB, GL, Nat.reduceAdd, Nat.reduceSub, Nat.reduceEqDiff, Nat.reduceMul, Nat.reduceLeDiff, Int.reduceBNe, Int.reduceBEq, Nat.reduceLT, reduceCtorEq, l53_0, hlt, hix, fr, hld, encP]
    refine wp_in (s30 h2 (h.cons _).hin h.ne h.len h.ok (by omega) hx fun s1 h3 => ?_)
    have ft := h3.mem (List.mem_cons_of_mem _ (hs (t, some (.cells [ptrN hp.id, rowV lk L.length, .map (some (.new mk))] none)) (List.mem_cons_self ..)))
    have mm := hs (mk, some m) (List.mem_cons_of_mem _ (List.mem_cons_of_mem _ (List.mem_cons_self ..)))
    have f0 := h3.g0
    have el := lookup_map keyA hm (h3.mem (List.mem_cons_of_mem _ mm)).1 (.bool false) false ((x.b.at_ : Int), (g.life : Int))
    simp only [encA, encW, Bool.false_eq_true, if_false] at el
    have hww := wrap_add1 (a := x.b.ws.length) (by omega)
    by_cases hw : ((x.b.at_ : Int), (g.life : Int)) ∈ L
    · rw [show seenF L ((x.b.at_ : Int), (g.life : Int)) = some (.bool true) from if_pos hw, Option.getD_some] at el
      have e0 : gbO L g.life x.b = 0 := if_pos hw
      rw [e0, Nat.add_zero] at q
      simp -implicitDefEqProofs only [↓GP, GB, GL, Nat.reduceAdd, Nat.reduceSub, Nat.reduceEqDiff, Nat.reduceMul, Nat.reduceLeDiff, Int.reduceBNe, Int.reduceBEq, Nat.reduceLT, reduceCtorEq, ft, f0, el, hw1]
      rw [hLL]
      exact gb_inner h mg hat hlf h1 hs hm mo hl n (i + 1) n0 s1 (by omega) (by omega) h3.tl q
    · rw [show seenF L ((x.b.at_ : Int), (g.life : Int)) = none from if_neg hw, Option.getD_none] at el
      have e0 : gbO L g.life x.b = x.b.ws.length + 1 := if_neg hw
      rw [e0] at q
      have hsum := wrap_add (a := n0) (b := x.b.ws.length + 1) (by omega) (by omega)
      simp -implicitDefEqProofs only [↓GP, GB, GL, Nat.reduceAdd, Nat.reduceSub, Nat.reduceEqDiff, Nat.reduceMul, Nat.reduceLeDiff, Int.reduceBNe, Int.reduceBEq, Nat.reduceLT, reduceCtorEq, ft, f0, el, hww, hsum, hw1]
      rw [hLL]
      exact gb_inner h mg hat hlf h1 hs hm mo hl n (i + 1) (n0 + (x.b.ws.length + 1)) s1 (by omega) (by omega) h3.tl q
theorem gb_outer {hp : PHeap} {t lk mk : Nat} {L : List (Int × Int)} {m : O} {K : Kt} {lv : Nat} (hR : RsOk lv u (hp.regs.map PReg.m)) (h : Look C p hp) (hs : ∀ x ∈ huntC t lk mk (ptrN hp.id) L m, x ∈ C) (hm : MapIs encA (seenF L) m) (hlen : hp.regs.length ≤ 1000) :
    ∀ (n i n0 : Nat) (s : St), i + n = hp.regs.length → n0 ≤ 32000 * i → Holds o s C →
    (∀ s', Holds o s' C → WP (K (.exit 0) (sp 63 [(7, I ((n0 + gbS L ((hp.regs.drop i).map PReg.m) : Nat) : Int))]) s') Q) →
    WP (loop PF (.loop l53_1) (sp 63 [(0, ptrN hp.id), (6, ptrN t), (7, I n0), (22, I hp.regs.length), (23, I i)]) s K) Q
  | 0, i, n0, s, hi, hn0, H, q => by
    have hlt : ¬ ((i : Int) < (hp.regs.length : Int)) := by omega
    rw [List.drop_eq_nil_of_le (by omega)] at q
    refine wp_round fun LL hLL => ?_
    simp -implicitDefEqProofs only [↓GP, GB, GL, Nat.reduceAdd, Nat.reduceSub, Nat.reduceEqDiff, Nat.reduceMul, Nat.reduceLeDiff, Int.reduceBNe, Int.reduceBEq, Nat.reduceLT, reduceCtorEq, l53_1, hlt]
    exact q s H
  | n + 1, i, n0, s, hi, hn0, H, q => by
    have hlt : ((i : Int) < (hp.regs.length : Int)) := by omega
    have hi' : i < hp.regs.length := by omega
    have hw1 := wrap_add1 (a := i) (by omega)
    have hg := List.getElem?_eq_getElem hi'
    have mg := List.getElem_mem hi'
    rw [List.drop_eq_getElem_cons hi', List.map_cons, gbS_cons, ← Nat.add_assoc] at q
    generalize hp.regs[i] = g at q hg mg
    have mm : g.m ∈ hp.regs.map PReg.m := List.mem_map.2 ⟨g, mg, rfl⟩
    have hri := hR.inv.reg g.m mm
    have hlf := hR.inv.life g.m mm
    have hpo := hR.pg mm
    have hpl : g.pages.length ≤ 30 := hpo.1
    have hno : g.objs.length ≤ 1000 := by have := hpo.2; simpa [PReg.m] using this
    have hat : (g.objs.map (·.b.at_)).Nodup := by have := hri.nodup; simpa [PReg.m, List.map_map, Function.comp_def] using this
    have hlfs : (hp.regs.map (·.life)).Nodup := by have := hR.inv.nodup; rw [List.map_map] at this; exact this
    have hgr := gbR_le (L := L) hR mm
    refine wp_round fun LL hLL => ?_
    simp -implicitDefEqProofs only [↓GP, GB, GL, Nat.reduceAdd, Nat.reduceSub, Nat.reduceEqDiff, Nat.reduceMul, Nat.reduceLeDiff, Int.reduceBNe, Int.reduceBEq, Nat.reduceLT, reduceCtorEq, l53_1, hlt]
    refine wp_in (s91 H h.hin h.len hg (by omega) fun s1 h1 => ?_)
    by_cases hp0 : 0 < g.pages.length
    · rw [decide_eq_true hp0]
      have eg : gbR L g.m = gbL L g.life (g.objs.map (·.b)) := gbR_inf hri hp0
      rw [eg] at q hgr
      simp -implicitDefEqProofs only [↓GP, GB, GL, Nat.reduceAdd, Nat.reduceSub, Nat.reduceEqDiff, Nat.reduceMul, Nat.reduceLeDiff, Int.reduceBNe, Int.reduceBEq, Nat.reduceLT, reduceCtorEq]
      refine wp_in (s28 h1 h.hin h.len hg (by omega) fun s2 ko h2 => ?_)
      simp -implicitDefEqProofs only [↓GP, GB, GL, Nat.reduceAdd, Nat.reduceSub, Nat.reduceEqDiff, Nat.reduceMul, Nat.reduceLeDiff, Int.reduceBNe, Int.reduceBEq, Nat.reduceLT, reduceCtorEq]
      rw [I0]
      refine gb_inner (h.cons (ko, _)) mg hat hlfs hlf.1 (fun x hx => List.mem_cons_of_mem _ (hs x hx)) hm (List.mem_cons_self ..) (by omega) g.objs.length 0 n0 s2 (by omega) (by omega) h2 fun s3 h3 => ?_
      rw [List.drop_zero]
      simp -implicitDefEqProofs only [↓GP, GB, GL, Nat.reduceAdd, Nat.reduceSub, Nat.reduceEqDiff, Nat.reduceMul, Nat.reduceLeDiff, Int.reduceBNe, Int.reduceBEq, Nat.reduceLT, reduceCtorEq, hw1]
      rw [hLL]
      exact gb_outer hR h hs hm hlen n (i + 1) _ s3 (by omega) (by omega) h3.tl q
    · rw [decide_eq_false hp0]
      rw [gbR_zero hri hp0, Nat.add_zero] at q
      simp -implicitDefEqProofs only [↓GP, GB, GL, Nat.reduceAdd, Nat.reduceSub, Nat.reduceEqDiff, Nat.reduceMul, Nat.reduceLeDiff, Int.reduceBNe, Int.reduceBEq, Nat.reduceLT, reduceCtorEq, hw1]
      rw [hLL]
      exact gb_outer hR h hs hm hlen n (i + 1) n0 s1 (by omega) (by omega) h1 q
theorem s53 {hp : PHeap} {kr lv : Nat} {roots : List (Int × Int)} (H : Holds o s C) (h : Look C p hp) (hR : RsOk lv u (hp.regs.map PReg.m)) (hr : (kr, rowO 2 roots.length (roots.flatMap encW)) ∈ C) (hrl : roots.length ≤ 1000) (hall : (allW hp).length ≤ 90000) (hlen : hp.regs.length ≤ 1000)
    (k : ∀ s', Holds o s' C → Q (.tuple [I (gbS (reachW hp roots) (hp.regs.map PReg.m)), I 0]) s') : WP (call PF 53 [ptrN hp.id, rowV kr roots.length] s) Q := by
  have e89 := s89 H h.hin h.ne h.len
  rw [call_run F53]; simp -implicitDefEqProofs only [↓GP, GB, GL, Nat.reduceAdd, Nat.reduceSub, Nat.reduceEqDiff, Nat.reduceMul, Nat.reduceLeDiff, Int.reduceBNe, Int.reduceBEq, Nat.reduceLT, reduceCtorEq, c53, e89]
  refine wp_in (s90 H h hr (by omega) hall fun s1 t lk mk m hm h1 => ?_)
  have lk2 : Look (huntC t lk mk (ptrN hp.id) (reachW hp roots) m ++ C) p hp := h.mono fun x hx => List.mem_append_right _ hx
  have e27 := s27 h1 lk2.hin
  simp -implicitDefEqProofs only [↓GP, GB, GL, Nat.reduceAdd, Nat.reduceSub, Nat.reduceEqDiff, Nat.reduceMul, Nat.reduceLeDiff, Int.reduceBNe, Int.reduceBEq, Nat.reduceLT, reduceCtorEq, e27]
  rw [I0]
  refine gb_outer (u := u) hR lk2 (fun x hx => List.mem_append_left _ hx) hm hlen hp.regs.length 0 0 s1 (by omega) (by omega) h1 fun s2 h2 => ?_
  rw [Nat.zero_add, List.drop_zero]
  simp -implicitDefEqProofs only [↓GP, GB, GL, Nat.reduceAdd, Nat.reduceSub, Nat.reduceEqDiff, Nat.reduceMul, Nat.reduceLeDiff, Int.reduceBNe, Int.reduceBEq, Nat.reduceLT, reduceCtorEq, j53_bbbb]
  exact k s2 (Holds.subl (X := huntC t lk mk (ptrN hp.id) (reachW hp roots) m) h2 (List.nil_sublist _))
theorem rgb_inner {g : RReg} {tb lk : Nat} {v0 v9 : V} {L : List (Int × Int)} {K : Kt} (ml : (lk, rowO 2 L.length (L.flatMap encW)) ∈ C) (hL : L.length ≤ 1000000) (mb : (tb, some (.cells [I g.size, I g.life, pgV g.pgk g.pages.length, I g.fill, rowV g.obk g.objs.length] none)) ∈ C) (mo : (g.obk, RReg.obO g.objs) ∈ C) (hl : g.objs.length ≤ 100000) (hw31 : ∀ x ∈ g.objs, x.b.ws.length ≤ 31) :
    ∀ (n i n0 : Nat) (s : St), i + n = g.objs.length → n0 ≤ 100000000 + 32 * i → Holds o s C →
    (∀ s' z, z = n0 + (if g.size = 0 then gbL L g.life ((g.objs.drop i).map (·.b)) else 0) → Holds o s' C → WP (K (.exit 2) (sp 72 [(0, v0), (6, rowV lk L.length), (8, I z), (9, v9)]) s') Q) →
    WP (loop PF (.loop l54_0) (sp 72 [(0, v0), (6, rowV lk L.length), (8, I n0), (9, v9), (10, ptrN tb), (11, I i)]) s K) Q
  | 0, i, n0, s, hi, hn0, H, q => by
    have hlt : ¬ ((i : Int) < (g.objs.length : Int)) := by omega
    have fb := H.mem mb
    rw [List.drop_eq_nil_of_le (by omega)] at q
    by_cases hs : g.size = 0
    · have hb : ((g.size : Int) == 0) = true := by rw [hs]; rfl
      refine wp_round fun LL hLL => ?_
      simp -implicitDefEqProofs only [↓GP, GB, GL, Nat.reduceAdd, Nat.reduceSub, Nat.reduceEqDiff, Nat.reduceMul, Nat.reduceLeDiff, Int.reduceBNe, Int.reduceBEq, Nat.reduceLT, reduceCtorEq, l54_0, fb, hb, hlt]
      exact q s n0 (by split <;> simp [gbL]) H
    · have hb : ((g.size : Int) == 0) = false := by rw [beq_eq_false_iff_ne]; omega
      refine wp_round fun LL hLL => ?_
      simp -implicitDefEqProofs only [↓GP, GB, GL, Nat.reduceAdd, Nat.reduceSub, Nat.reduceEqDiff, Nat.reduceMul, Nat.reduceLeDiff, Int.reduceBNe, Int.reduceBEq, Nat.reduceLT, reduceCtorEq, l54_0, fb, hb]
      exact q s n0 (by rw [if_neg hs]; rfl) H
  | n + 1, i, n0, s, hi, hn0, H, q => by
    have fb := H.mem mb
    by_cases hs : g.size = 0
    · have hb : ((g.size : Int) == 0) = true := by rw [hs]; rfl
      have hlt : ((i : Int) < (g.objs.length : Int)) := by omega
      have hi' : i < g.objs.length := by omega
      have hw1 := wrap_add1 (a := i) (by omega)
      have mo' := mo
      unfold RReg.obO at mo'
      rw [rowO_pos (by omega : 0 < g.objs.length)] at mo'
      have fo := H.mem mo'
      have hx := List.getElem?_eq_getElem hi'
      have mx := List.getElem_mem hi'
      rw [if_pos hs, List.drop_eq_getElem_cons hi', List.map_cons, gbL_cons, ← Nat.add_assoc] at q
      generalize g.objs[i] = x at q hx mx
      have hxw := hw31 x mx
      refine wp_round fun LL hLL => ?_
      simp -implicitDefEqProofs only [↓GP, GB, GL, Nat.reduceAdd, Nat.reduceSub, Nat.reduceEqDiff, Nat.reduceMul, Nat.reduceLeDiff, Int.reduceBNe, Int.reduceBEq, Nat.reduceLT, reduceCtorEq, l54_0, fb, hb, hlt, fo, robj hx, ix_row hi']
      refine wp_in (s96 (w := ((x.b.at_ : Int), (g.life : Int))) H ml hL fun s1 h1 => ?_)
      have fb1 := h1.mem mb
      have fo1 := h1.mem mo'
      by_cases hw : ((x.b.at_ : Int), (g.life : Int)) ∈ L
      · rw [decide_eq_true hw]
        have e0 : gbO L g.life x.b = 0 := if_pos hw
        rw [e0, Nat.add_zero] at q
        simp -implicitDefEqProofs only [↓GP, GB, GL, Nat.reduceAdd, Nat.reduceSub, Nat.reduceEqDiff, Nat.reduceMul, Nat.reduceLeDiff, Int.reduceBNe, Int.reduceBEq, Nat.reduceLT, reduceCtorEq, hw1]
        rw [hLL]
        exact rgb_inner ml hL mb mo hl hw31 n (i + 1) n0 s1 (by omega) (by omega) h1 fun s' z hz => q s' z (by rw [hz, if_pos hs])
      · rw [decide_eq_false hw]
        have e0 : gbO L g.life x.b = x.b.ws.length + 1 := if_neg hw
        rw [e0] at q
        have hww := wrap_add1 (a := n0) (by omega)
        have hsum := wrap_add (a := n0 + 1) (b := x.b.ws.length) (by omega) (by omega)
        simp -implicitDefEqProofs only [↓GP, GB, GL, Nat.reduceAdd, Nat.reduceSub, Nat.reduceEqDiff, Nat.reduceMul, Nat.reduceLeDiff, Int.reduceBNe, Int.reduceBEq, Nat.reduceLT, reduceCtorEq, fb1, fo1, robj hx, ix_row hi', hww, hsum, hw1]
        rw [hLL]
        exact rgb_inner ml hL mb mo hl hw31 n (i + 1) (n0 + (1 + x.b.ws.length)) s1 (by omega) (by omega) h1 fun s' z hz => q s' z (by rw [hz, if_pos hs]; omega)
    · have hb : ((g.size : Int) == 0) = false := by rw [beq_eq_false_iff_ne]; omega
      refine wp_round fun LL hLL => ?_
      simp -implicitDefEqProofs only [↓GP, GB, GL, Nat.reduceAdd, Nat.reduceSub, Nat.reduceEqDiff, Nat.reduceMul, Nat.reduceLeDiff, Int.reduceBNe, Int.reduceBEq, Nat.reduceLT, reduceCtorEq, l54_0, fb, hb]
      exact q s n0 (by rw [if_neg hs]; rfl) H
theorem rgb_outer {hr : RHeap} {lk : Nat} {L : List (Int × Int)} {K : Kt} {lv : Nat} (hR : RsOk lv u (hr.regs.map RReg.m)) (h : RLook C q hr) (ml : (lk, rowO 2 L.length (L.flatMap encW)) ∈ C) (hL : L.length ≤ 1000000) (hlen : hr.regs.length ≤ 1000) :
    ∀ (n i n0 : Nat) (s : St), i + n = hr.regs.length → n0 ≤ 32000 * i → Holds o s C →
    (∀ s', Holds o s' C → WP (K (.exit 0) (sp 72 [(8, I ((n0 + gbS L ((hr.regs.drop i).map RReg.m) : Nat) : Int))]) s') Q) →
    WP (loop PF (.loop l54_1) (sp 72 [(0, ptrN hr.id), (6, rowV lk L.length), (8, I n0), (9, I i)]) s K) Q
  | 0, i, n0, s, hi, hn0, H, k => by
    have hlt : ¬ ((i : Int) < (hr.regs.length : Int)) := by omega
    have f := H.mem h.rin.id
    simp only [RHeap.hd] at f
    rw [List.drop_eq_nil_of_le (by omega)] at k
    refine wp_round fun LL hLL => ?_
    simp -implicitDefEqProofs only [↓GP, GB, GL, Nat.reduceAdd, Nat.reduceSub, Nat.reduceEqDiff, Nat.reduceMul, Nat.reduceLeDiff, Int.reduceBNe, Int.reduceBEq, Nat.reduceLT, reduceCtorEq, l54_1, f, hr.rv_len, hlt]
    exact k s H
  | n + 1, i, n0, s, hi, hn0, H, k => by
    have hlt : ((i : Int) < (hr.regs.length : Int)) := by omega
    have hi' : i < hr.regs.length := by omega
    have hw1 := wrap_add1 (a := i) (by omega)
    have f := H.mem h.rin.id
    have frw := H.mem h.rin.row
    simp only [RHeap.hd] at f
    have hg := List.getElem?_eq_getElem hi'
    have mg := List.getElem_mem hi'
    rw [List.drop_eq_getElem_cons hi', List.map_cons, gbS_cons, ← Nat.add_assoc] at k
    generalize hr.regs[i] = g at k hg mg
    have mm : g.m ∈ hr.regs.map RReg.m := List.mem_map.2 ⟨g, mg, rfl⟩
    have hpo := hR.pg mm
    have hgr := gbR_le (L := L) hR mm
    have hno : g.objs.length ≤ 1000 := by have := hpo.2; simpa [RReg.m] using this
    refine wp_round fun LL hLL => ?_
    simp -implicitDefEqProofs only [↓GP, GB, GL, Nat.reduceAdd, Nat.reduceSub, Nat.reduceEqDiff, Nat.reduceMul, Nat.reduceLeDiff, Int.reduceBNe, Int.reduceBEq, Nat.reduceLT, reduceCtorEq, l54_1, f, frw, hr.rv_len, rreg hg, hlt, RReg.enc]
    have h1 := (H.alloc (.cells [I 0, I 0, .slice none 0 (some 0), I 0, .slice none 0 (some 0)] none)).set0 (.cells [I g.size, I g.life, pgV g.pgk g.pages.length, I g.fill, rowV g.obk g.objs.length] none)
    rw [I0]
    refine rgb_inner (g := g) (List.mem_cons_of_mem _ ml) hL (List.mem_cons_self ..) (List.mem_cons_of_mem _ (h.rin.ob mg)) (by omega) (fun x hx => (h.ws g mg x hx).2) g.objs.length 0 n0 _ (by omega) (by omega) h1 fun s2 z hz h2 => ?_
    rw [List.drop_zero] at hz
    have ez : z = n0 + gbR L g.m := hz
    rw [← ez] at k
    simp -implicitDefEqProofs only [↓GP, GB, GL, Nat.reduceAdd, Nat.reduceSub, Nat.reduceEqDiff, Nat.reduceMul, Nat.reduceLeDiff, Int.reduceBNe, Int.reduceBEq, Nat.reduceLT, reduceCtorEq, hw1]
    rw [hLL]
    exact rgb_outer hR h ml hL hlen n (i + 1) z s2 (by omega) (by omega) h2.tl k
theorem s54 {hp : PHeap} {hr : RHeap} {kr lv : Nat} {roots : List (Int × Int)} (H : Holds o s C) (h : RLook C q hr) (hm : hp.regs.map PReg.m = hr.regs.map RReg.m) (hR : RsOk lv u (hr.regs.map RReg.m)) (hw : ∀ g ∈ hp.regs, ∀ x ∈ g.objs, x.b.ws.length ≤ 31) (hr' : (kr, rowO 2 roots.length (roots.flatMap encW)) ∈ C) (hrl : roots.length ≤ 1000) (hall : (allW hp).length ≤ 90000) (hlen : hr.regs.length ≤ 1000)
    (k : ∀ s', Holds o s' C → Q (.tuple [I (gbS (reachW hp roots) (hr.regs.map RReg.m)), I 0]) s') : WP (call PF 54 [ptrN hr.id, rowV kr roots.length] s) Q := by
  rw [call_run F54]; simp -implicitDefEqProofs only [↓GP, GB, GL, Nat.reduceAdd, Nat.reduceSub, Nat.reduceEqDiff, Nat.reduceMul, Nat.reduceLeDiff, Int.reduceBNe, Int.reduceBEq, Nat.reduceLT, reduceCtorEq, c54]
  refine wp_in (s52 H h hm hw hr' hrl hall fun s1 kl h1 => ?_)
  simp -implicitDefEqProofs only [↓GP, GB, GL, Nat.reduceAdd, Nat.reduceSub, Nat.reduceEqDiff, Nat.reduceMul, Nat.reduceLeDiff, Int.reduceBNe, Int.reduceBEq, Nat.reduceLT, reduceCtorEq, Int.reduceBNe]
  rw [I0]
  have hLl : (reachW hp roots).length ≤ 90000 := Nat.le_trans (Found.reach hp roots).len hall
  refine rgb_outer (u := u) hR (h.cons (kl, _)) (List.mem_cons_self ..) (by omega) hlen hr.regs.length 0 0 s1 (by omega) (by omega) h1 fun s2 h2 => ?_
  rw [Nat.zero_add, List.drop_zero]
  simp -implicitDefEqProofs only [↓GP, GB, GL, Nat.reduceAdd, Nat.reduceSub, Nat.reduceEqDiff, Nat.reduceMul, Nat.reduceLeDiff, Int.reduceBNe, Int.reduceBEq, Nat.reduceLT, reduceCtorEq, j54_bbbbb]
  exact k s2 h2.tl
end
end Go.Proofs.Ytoldkemimhebaaa

set_option linter.unusedSimpArgs false
set_option linter.unusedVariables false
namespace Go.Proofs.Ytoldkemimhebaaa
open Go Go.IM
def pgM (L : List (Int × Int)) (g : Reg) : Nat := if 0 < g.pages.length then (((keptM L g).map fun x => x.ws.length + 1).foldl step (0, 0)).1 else 0
theorem pgReg_m (L : List (Int × Int)) (g : PReg) : pgReg L g = pgM L g.m := by
  unfold pgReg pgM pgF
  rw [kept_m, List.map_map]
  rfl
theorem layM_pagesLen {life : Nat} {ns : List Nat} {u : List Bool} {fill : Nat} {pages : List Nat} {r : List Nat × List Bool × Nat × List Nat} (h : layM 0 life ns u fill pages = some r) (hc : (ns.foldl step (pages.length, fill)).1 ≤ pages.length + u.count false) :
    r.2.2.2.length = (ns.foldl step (pages.length, fill)).1 := by
  obtain ⟨r', h1, h2⟩ := layM_some (life := life) ns u fill pages hc
  rw [h] at h1
  cases h1
  exact h2
theorem kept_le {L : List (Int × Int)} {g : Reg} (hi : RInv g) (hs : g.size = 0) : (((keptM L g).map fun x => x.ws.length + 1).foldl step (0, 0)).1 ≤ g.pages.length := by
  have hf := (hi.inf hs).fold
  have hsub : ((keptM L g).map fun x => x.ws.length + 1).Sublist ((g.objs.map fun x => (x.at_, x.ws.length + 1)).map (·.2)) := by
    simp only [List.map_map]
    exact (List.filter_sublist (l := g.objs)).map _
  have hle := fold_sub hsub (Le2.refl (0, 0))
  rw [hf] at hle
  unfold Le2 at hle
  omega
theorem pgM_le {L : List (Int × Int)} {g : Reg} (hi : RInv g) : pgM L g ≤ g.pages.length := by
  unfold pgM
  split
  · rename_i hp
    have hs : g.size = 0 := by
      rcases Nat.eq_zero_or_pos g.size with h | h
      · exact h
      · have := (hi.fin h).1; rw [this] at hp; simp at hp
    exact kept_le hi hs
  · omega
theorem col_pages {L : List (Int × Int)} {lv : Nat} : ∀ {B A : List Reg} {S : ColS}, ColInv L lv A B S → S.regs.map (·.pages.length) = A.map (pgM L) → (B.foldl (colStep L) S).regs.map (·.pages.length) = (A ++ B).map (pgM L)
  | [], A, S, _, e => by simpa using e
  | g :: B, A, S, h, e => by
    have hI := h.ok.inv
    have hri := hI.reg g (by simp)
    have key : (colStep L S g).regs.map (·.pages.length) = (A ++ [g]).map (pgM L) := by
      unfold colStep
      by_cases hp : 0 < g.pages.length
      · rw [if_pos hp]
        have hs : g.size = 0 := by
          rcases Nat.eq_zero_or_pos g.size with h | h
          · exact h
          · have := (hri.fin h).1; rw [this] at hp; simp at hp
        obtain ⟨ats, u', fill', pages', hlay, _⟩ := h.ok.turn hs (ys := keptM L g) (List.filter_sublist ..)
        have hfr : PoolInv (freeP S.u g.pages) (S.regs.flatMap (·.pages) ++ B.flatMap (·.pages)) := by
          have := h.ok.pool
          have h2 : PoolInv S.u (g.pages ++ (S.regs.flatMap (·.pages) ++ B.flatMap (·.pages))) := by
            refine this.perm ?_
            simp only [List.flatMap_append, List.flatMap_cons]
            exact (List.perm_append_comm_assoc _ _ _).symm
          exact h2.free
        have hp1 : PoolInv S.u (g.pages ++ (S.regs.flatMap (·.pages) ++ B.flatMap (·.pages))) := by
          have := h.ok.pool
          refine this.perm ?_
          simp only [List.flatMap_append, List.flatMap_cons]
          exact (List.perm_append_comm_assoc _ _ _).symm
        have hcnt : g.pages.length ≤ (freeP S.u g.pages).count false := by
          have c1 := hfr.count
          have c2 := count_both (freeP S.u g.pages)
          have c3 := hp1.len
          rw [freeP_len] at c2
          rw [List.length_append] at c3
          omega
        have hlen := layM_pagesLen hlay (by have := kept_le (L := L) hri hs; simp only [List.length_nil]; omega)
        rw [hlay]
        simp only [List.map_append, e, List.map_cons, List.map_nil]
        congr 2
        unfold pgM
        rw [if_pos hp]
        exact hlen
      · rw [if_neg hp]
        simp only [List.map_append, e, List.map_cons, List.map_nil]
        congr 2
        unfold pgM
        rw [if_neg hp]; omega
    have := col_pages (h.step) key
    rw [List.append_assoc] at this
    exact this
theorem fix_shape (mv : ToF) (fx : List (Int × Int)) : ∀ (Os : List (Int × Int)) (rs : List Reg), (Os.foldl (fixM mv fx) rs).map shapeR = rs.map shapeR
  | [], _ => rfl
  | w :: Os, rs => by
    rw [List.foldl_cons, fix_shape mv fx Os]
    exact setM_shape w (map_len _) rs
theorem shape_pages {rs rs' : List Reg} (e : rs'.map shapeR = rs.map shapeR) : rs'.map (·.pages.length) = rs.map (·.pages.length) := by
  have := congrArg (List.map fun t : Nat × Nat × Nat × List Nat × List (Nat × Nat × Nat) => t.2.2.2.1.length) e
  simpa [List.map_map, Function.comp_def, shapeR] using this
theorem shape_lives {rs rs' : List Reg} (e : rs'.map shapeR = rs.map shapeR) : rs'.map (·.life) = rs.map (·.life) := by
  have := congrArg (List.map fun t : Nat × Nat × Nat × List Nat × List (Nat × Nat × Nat) => t.2.1) e
  simpa [List.map_map, Function.comp_def, shapeR] using this
theorem collected {L : List (Int × Int)} {lv : Nat} {u : List Bool} {rs : List Reg} (h : RsOk lv u rs) : (colRegs L (colAll L u rs)).map (·.pages.length) = rs.map (pgM L) ∧ (colRegs L (colAll L u rs)).map (·.life) = rs.map (·.life) := by
  have hs := fix_shape (colAll L u rs).mv (colAll L u rs).fx (colObjs L (colAll L u rs)) (colAll L u rs).regs
  have hI := (ColInv.start (L := L) h)
  exact ⟨(shape_pages hs).trans (by have := col_pages hI rfl; rw [List.nil_append] at this; exact this), (shape_lives hs).trans (by have := hI.all.lives; rw [List.nil_append] at this; exact this)⟩
theorem pg_sum {L : List (Int × Int)} (gs : List PReg) : pgSum L gs = ((gs.map PReg.m).map (pgM L)).sum := by
  unfold pgSum
  rw [List.map_map]
  congr 1
  exact List.map_congr_left fun g _ => pgReg_m L g
end Go.Proofs.Ytoldkemimhebaaa

set_option linter.unusedSimpArgs false
set_option linter.unusedVariables false
namespace Go.Proofs.Ytoldkemimhebaaa
open Go Go.IM
end Go.Proofs.Ytoldkemimhebaaa

set_option linter.unusedSimpArgs false
set_option linter.unusedVariables false
namespace Go.Proofs.Ytoldkemimhebaaa
open Go Go.IM
section
variable {o : Nat → Option O} {s : St} {C F : Ch} {Q : V → St → Prop} {p r : Nat} {u : List Bool}
set_option maxRecDepth 10000
set_option maxHeartbeats 400000
structure Heads (hp : PHeap) : Prop where
  at_ : ∀ g ∈ hp.regs, (g.objs.map (·.b.at_)).Nodup
  life : (hp.regs.map (·.life)).Nodup
  pos : ∀ g ∈ hp.regs, 1 ≤ g.life
  ws : ∀ g ∈ hp.regs, ∀ x ∈ g.objs, x.b.ws.length ≤ 31
  len : ∀ g ∈ hp.regs, g.objs.length ≤ 1000
  regs : hp.regs.length ≤ 151
end
end Go.Proofs.Ytoldkemimhebaaa

set_option linter.unusedSimpArgs false
set_option linter.unusedVariables false
namespace Go.Proofs.Ytoldkemimhebaaa
open Go Go.IM
section
variable {o : Nat → Option O} {s : St} {C F : Ch} {Q : V → St → Prop} {p r q t : Nat} {u : List Bool} {G : PairG}
set_option maxRecDepth 10000
set_option maxHeartbeats 4000000
theorem s44 {hp : PHeap} {kr : Nat} {roots : List (Int × Int)} (H : Holds o s C) (h : Look C p hp) (hr : (kr, rowO 2 roots.length (roots.flatMap encW)) ∈ C) (hrl : roots.length ≤ 1000000) (hall : (allW hp).length ≤ 90000)
    (q : ∀ s' k, Holds o s' ((k, rowO 2 (reachW hp roots).length ((reachW hp roots).flatMap encW)) :: C) → Q (.tuple [rowV k (reachW hp roots).length, I 0]) s') : WP (call PF 44 [ptrN hp.id, rowV kr roots.length] s) Q := by
  have e89 := s89 H h.hin h.ne h.len
  rw [call_run F44]; simp -implicitDefEqProofs only [↓GP, GB, GL, Nat.reduceAdd, Nat.reduceSub, Nat.reduceEqDiff, Nat.reduceMul, Nat.reduceLeDiff, Int.reduceBNe, Int.reduceBEq, Nat.reduceLT, reduceCtorEq, c44, e89]
  refine wp_in (s90 H h hr hrl hall fun s1 t lk mk m hm h1 => ?_)
  have f := h1.mem (List.mem_append_left _ (List.mem_cons_self ..) : (t, some (O.cells [ptrN hp.id, rowV lk (reachW hp roots).length, V.map (some (.new mk))] none)) ∈ huntC t lk mk (ptrN hp.id) (reachW hp roots) m ++ C)
  simp -implicitDefEqProofs only [↓GP, GB, GL, Nat.reduceAdd, Nat.reduceSub, Nat.reduceEqDiff, Nat.reduceMul, Nat.reduceLeDiff, Int.reduceBNe, Int.reduceBEq, Nat.reduceLT, reduceCtorEq, f]
  exact q s1 lk (Holds.of (h1) (fun k => by simp +arith only [huntC, HA, HB]) (fun k x => by simp only [huntC, HA, HC]; grind only))
end
end Go.Proofs.Ytoldkemimhebaaa

set_option linter.unusedSimpArgs false
set_option linter.unusedVariables false
namespace Go.Proofs.Ytoldkemimhebaaa
open Go Go.IM Go.ChangeShapes Go.WideShapes Go.RowKit
section
variable {H : Type} {enc : TypeId × Value → H} {W : Go.World}
set_option maxRecDepth 10000
theorem ofVals_map : ∀ l : List Value, ofVals l = l.map ofVal
  | [] => rfl
  | v :: l => by rw [ofVals, ofVals_map l]; rfl
theorem rd {base n : Nat} {a : Addr} {cs : List Value} (hn : 0 < n) (h : W.cells? base a n = some cs) : a.spot = none ∧ ∃ C, (oldSt W).old a.block = some (.cells C none) ∧ cut C a.off n = some (ofVals cs) := by
  obtain ⟨_, hlen, hc⟩ := Go.World.cells?_some h
  have h0 := hc 0 hn
  rw [show a.add 0 = a from rfl, List.getElem?_eq_getElem (by omega)] at h0
  unfold Go.World.cell? at h0
  split at h0
  · rename_i c el fr hb
    split at h0
    · cases h0
    · rename_i hs
      refine ⟨by simpa using hs, ofVals c.toList, by simp [oldSt, hb], ?_⟩
      have hget : ∀ i, i < n → c[a.off + i]? = cs[i]? := by
        intro i hi
        have := hc i hi
        rw [← this]
        unfold Go.World.cell? Addr.add
        by_cases h0 : i = 0
        · subst h0; simp [hb, hs]
        · simp [h0, hb]
      have hsz : a.off + n ≤ c.size := by
        have := hget (n - 1) (by omega)
        rw [List.getElem?_eq_getElem (by omega)] at this
        have := (Array.getElem?_eq_some_iff.1 this).1
        omega
      rw [ofVals_map, ofVals_map]
      unfold cut
      rw [if_pos (by simp; exact hsz)]
      congr 1
      apply List.ext_getElem?
      intro i
      by_cases hi : i < n
      · rw [List.getElem?_take, if_pos hi, List.getElem?_drop, List.getElem?_map, List.getElem?_map, Array.getElem?_toList, hget i hi]
      · rw [List.getElem?_eq_none (by simp; omega), List.getElem?_eq_none (by simp; omega)]
  · cases h0
theorem cut_get {l cs : List V} {off n : Nat} (h : cut l off n = some cs) {i : Nat} (hi : i < n) : l[off + i]? = cs[i]? := by
  unfold cut at h
  split at h
  · cases h
    rw [List.getElem?_take, if_pos hi, List.getElem?_drop]
  · cases h
theorem old_load {o : Nat → Option O} {s : St} {b off n : Nat} {C cs : List V} {g : Option Nat} (hs : s.old = o) (hb : o b = some (.cells C g)) (hc : cut C off n = some cs) : loadV (some n) (.ptr (some ⟨.old b, off⟩)) s = some (.agg cs) := by
  rw [loadV_ptr]
  show (readCells s ⟨.old b, off⟩ n).bind (packI (some n)) = _
  simp only [readCells, St.row, St.get, hs, hb, hc]
  rfl
theorem old_load1 {o : Nat → Option O} {s : St} {b off : Nat} {C : List V} {g : Option Nat} {v : V} (hs : s.old = o) (hb : o b = some (.cells C g)) (hc : C[off]? = some v) : loadV none (.ptr (some ⟨.old b, off⟩)) s = some v := by
  rw [loadV_ptr]
  show (readCells s ⟨.old b, off⟩ 1).bind (packI none) = _
  simp only [readCells, St.row, St.get, hs, hb]
  rw [cut_one', hc]
theorem ix_old {sz len cap i : Nat} {b off : Nat} {kk : IntKind} (h : i < len) : ixV sz (.slice (some ⟨.old b, off⟩) len (some cap)) (.int kk (i : Int)) = some (.ptr (some ⟨.old b, off + i * sz⟩)) := by
  rw [ixV_int (by omega) (by omega)]
  simp
theorem ofVal_slice {a : Addr} {len cap : Nat} (hl : len ≤ cap) (hsp : 0 < cap → a.spot = none) : ofVal (.slice (some a) len cap) = .slice (some ⟨.old a.block, a.off⟩) len (some cap) := by
  obtain ⟨b, off, sp⟩ := a
  cases sp with
  | none => simp [ofVal, hl]
  | some x =>
    have hc : cap = 0 := by
      rcases Nat.eq_zero_or_pos cap with h | h
      · exact h
      · have := hsp h; simp at this
    subst hc
    have : len = 0 := by omega
    subst this
    rfl
theorem someAt_of {fuel : Nat} {cs : List Value} {x : DataW H × List MemPlace} (h : DataW.trod enc Try.prog W 0 (fun _ => true) true fuel 48 cs = some x) :
    ∃ sa sn sc bs, ofVals cs = [.slice sa sn sc] ∧ ∀ y : ActG, y.sa = sa → y.sn = sn → y.sc = sc → SomeAt (oldSt W).old y bs := by
  rcases Go.Deep.open_bools (P := Try.prog) (t := 48) (e := 4) (by kernel_rfl) (by kernel_rfl) (by kernel_rfl) h with ⟨rfl, _⟩ | ⟨a, len, cap, B, rfl, hb, hl, hm, _, hB⟩
  · exact ⟨none, 0, some 0, [], rfl, fun y _ e _ => ⟨by rw [e]; rfl, fun i hi => by simp at hi⟩⟩
  · have hsp : 0 < cap → a.spot = none := by
      intro hc
      have := hB 0 hc
      rw [show a.add 0 = a from rfl] at this
      unfold Go.World.cell? at this
      split at this
      · split at this
        · cases this
        · rename_i h; simpa using h
      · cases this
    refine ⟨some ⟨.old a.block, a.off⟩, len, some cap, (List.range len).map B, by rw [ofVals, ofVal_slice hl hsp]; rfl, fun y e1 e2 e3 => ⟨by rw [e2]; simp, fun i hi => ?_⟩⟩
    simp at hi
    have hi' : i < y.sn := by omega
    rw [e1, e2, e3]
    refine ⟨⟨.old a.block, a.off + i * 1⟩, ix_old (by omega), fun s hs => ?_⟩
    have hc := hB i (by omega)
    unfold Go.World.cell? at hc
    split at hc
    · rename_i c el fr hbk
      split at hc
      · cases hc
      · have hbk' : W.heap[a.block]? = some (.cells c el fr) := by
          have : (a.add i).block = a.block := by unfold Addr.add; split <;> rfl
          rw [this] at hbk; exact hbk
        have hoff : (a.add i).off = a.off + i := by unfold Addr.add; split <;> simp_all
        rw [hoff] at hc
        refine old_load1 (C := ofVals c.toList) (g := none) hs (by simp [oldSt, hbk']) ?_
        rw [Nat.mul_one, ofVals_map, List.getElem?_map, Array.getElem?_toList, hc]
        simp [ofVal]
    · cases hc
theorem fields_of {fuel T : Nat} {cs : List Value} {x : DataW H × List MemPlace} {L : List (Nat × Nat)} (hL : (match Try.prog.underlying T with | some (.struct fs) => some (fs.toList.map fun f => (f.type, f.offset)) | _ => none) = some L)
    (h : DataW.trod enc Try.prog W 0 (fun _ => true) true fuel T cs = some x) : cs.length = Try.prog.cellsOf T ∧ ∃ n, ∀ (i T' off : Nat), L[i]? = some (T', off) → ∃ y, DataW.trod enc Try.prog W 0 (fun _ => true) true n T' ((cs.drop off).take (Try.prog.cellsOf T')) = some y := by
  split at hL
  · rename_i fs hu
    cases hL
    obtain ⟨xs, n, _, _, hlen, hxl, hf⟩ := DataW.trod_struct hu h
    refine ⟨hlen, n, fun i T' off hi => ?_⟩
    rw [List.getElem?_map] at hi
    cases hfi : fs.toList[i]? with
    | none => rw [hfi] at hi; cases hi
    | some f =>
      rw [hfi] at hi
      simp only [Option.map_some, Option.some.injEq, Prod.mk.injEq] at hi
      obtain ⟨rfl, rfl⟩ := hi
      have hfs : fs[i]? = some f := by rw [← Array.getElem?_toList]; exact hfi
      have := hf i f hfs
      have hix : i < xs.length := by rw [hxl]; exact (Array.getElem?_eq_some_iff.1 hfs).1
      rw [List.getElem?_eq_getElem hix] at this
      exact ⟨_, this⟩
  · cases hL
theorem u5 : Try.prog.underlying 5 = some (.int .u8) := by kernel_rfl
theorem u3 : Try.prog.underlying 3 = some (.int .i64) := by kernel_rfl
theorem word_of {fuel : Nat} {cs : List Value} {x : DataW H × List MemPlace} (h : DataW.trod enc Try.prog W 0 (fun _ => true) true fuel 47 cs = some x) : ∃ a b : Int, cs = [.int .i64 a, .int .i64 b] := by
  obtain ⟨hlen, n, hf⟩ := fields_of (L := [(3, 0), (3, 1)]) (by kernel_rfl) h
  rw [show Try.prog.cellsOf 47 = 2 by kernel_rfl] at hlen
  have c3 : Try.prog.cellsOf 3 = 1 := by kernel_rfl
  match cs, hlen with
  | [v0, v1], _ =>
    obtain ⟨y0, h0⟩ := hf 0 3 0 rfl
    obtain ⟨y1, h1⟩ := hf 1 3 1 rfl
    rw [c3] at h0 h1
    obtain ⟨a, e0, _⟩ := DataW.trod_int u3 h0
    obtain ⟨b, e1, _⟩ := DataW.trod_int u3 h1
    simp at e0 e1
    exact ⟨a, b, by rw [e0, e1]⟩
theorem act_of {fuel : Nat} {cs : List Value} {x : DataW H × List MemPlace} (h : DataW.trod enc Try.prog W 0 (fun _ => true) true fuel 50 cs = some x) :
    ∃ (y : ActG) (bs : List Bool), ofVals cs = y.cells ∧ SomeAt (oldSt W).old y bs ∧ (0 ≤ y.d ∧ y.d < 256 ∧ 0 ≤ y.hn ∧ y.hn < 256) := by
  obtain ⟨hlen, n, hf⟩ := fields_of (L := [(5, 0), (5, 1), (3, 2), (3, 3), (3, 4), (3, 5), (47, 6), (47, 8), (48, 10)]) (by kernel_rfl) h
  rw [show Try.prog.cellsOf 50 = 11 by kernel_rfl] at hlen
  have c3 : Try.prog.cellsOf 3 = 1 := by kernel_rfl
  have c5 : Try.prog.cellsOf 5 = 1 := by kernel_rfl
  have c47 : Try.prog.cellsOf 47 = 2 := by kernel_rfl
  have c48 : Try.prog.cellsOf 48 = 1 := by kernel_rfl
  match cs, hlen with
  | [v0, v1, v2, v3, v4, v5, v6, v7, v8, v9, v10], _ =>
    obtain ⟨y0, h0⟩ := hf 0 5 0 rfl
    obtain ⟨y1, h1⟩ := hf 1 5 1 rfl
    obtain ⟨y2, h2⟩ := hf 2 3 2 rfl
    obtain ⟨y3, h3⟩ := hf 3 3 3 rfl
    obtain ⟨y4, h4⟩ := hf 4 3 4 rfl
    obtain ⟨y5, h5⟩ := hf 5 3 5 rfl
    obtain ⟨y6, h6⟩ := hf 6 47 6 rfl
    obtain ⟨y7, h7⟩ := hf 7 47 8 rfl
    obtain ⟨y8, h8⟩ := hf 8 48 10 rfl
    rw [c5] at h0 h1
    rw [c3] at h2 h3 h4 h5
    rw [c47] at h6 h7
    rw [c48] at h8
    obtain ⟨d, e0, _, w0⟩ := DataW.trod_int u5 h0
    obtain ⟨hn, e1, _, w1⟩ := DataW.trod_int u5 h1
    obtain ⟨a, e2, _⟩ := DataW.trod_int u3 h2
    obtain ⟨b, e3, _⟩ := DataW.trod_int u3 h3
    obtain ⟨c, e4, _⟩ := DataW.trod_int u3 h4
    obtain ⟨wh, e5, _⟩ := DataW.trod_int u3 h5
    obtain ⟨w1', w2', e6⟩ := word_of h6
    obtain ⟨z1, z2, e7⟩ := word_of h7
    obtain ⟨sa, sn, sc, bs, e8, hS⟩ := someAt_of h8
    simp only [List.drop_zero, List.drop_succ_cons, List.take_succ_cons, List.take_zero, List.cons.injEq, and_true] at e0 e1 e2 e3 e4 e5 e6 e7 e8
    obtain ⟨rfl, rfl⟩ := e6
    obtain ⟨rfl, rfl⟩ := e7
    subst e0 e1 e2 e3 e4 e5
    refine ⟨⟨d, hn, a, b, c, wh, (w1', w2'), (z1, z2), sa, sn, sc⟩, bs, ?_, hS _ rfl rfl rfl, ?_⟩
    · simp only [ofVals, List.cons.injEq, and_true] at e8
      simp only [ofVals, e8]
      rfl
    · have m : ∀ n : Int, (Lit.int .u8 n).wf = true → 0 ≤ n ∧ n < 256 := by
        intro n hw
        simp only [Lit.wf, Bool.and_eq_true, decide_eq_true_eq] at hw
        have e1 : IntKind.u8.min = 0 := by decide
        have e2 : IntKind.u8.max = 255 := by decide
        rw [e1, e2] at hw
        omega
      have := m d w0
      have := m hn w1
      simp only; omega
instance : Inhabited (ActG × List Bool) := ⟨⟨⟨0, 0, 0, 0, 0, 0, (0, 0), (0, 0), none, 0, none⟩, []⟩⟩
theorem acts_of {fuel : Nat} {v : Value} {x : DataW H × List MemPlace} (hw : ∀ es sp, x.1 = .slice es sp → es.length < 2 ^ 61) (h : DataW.trod enc Try.prog W 0 (fun _ => true) true fuel 35 [v] = some x) : ∃ l : List (ActG × List Bool), ActsAt (oldSt W).old (ofVal v) l ∧ l.length < 2 ^ 61 := by
  rcases Go.Deep.open_slice (P := Try.prog) (t := 35) (e := 50) (by kernel_rfl) h with ⟨e, _⟩ | ⟨a, len, cap, m, n, D, Pl, e, hb, hl, hm, hmm, hxe, hx⟩
  · cases e
    exact ⟨[], ⟨rfl, fun i hi => by simp at hi, fun x hx => (by cases hx), fun x hx => (by cases hx)⟩, by simp⟩
  · cases e
    have c50 : Try.prog.cellsOf 50 = 11 := by kernel_rfl
    rw [c50] at hx
    have hm' : m = cap := by simpa using hmm
    have hsp : 0 < cap → a.spot = none := fun hc => by
      obtain ⟨cs, h1, _⟩ := hx 0 (by omega)
      exact (rd (by omega) h1).1
    have each : ∀ i, i < len → ∃ (y : ActG) (bs : List Bool), (∃ C, (oldSt W).old a.block = some (.cells C none) ∧ cut C (a.off + i * 11) 11 = some y.cells) ∧ SomeAt (oldSt W).old y bs ∧ (0 ≤ y.d ∧ y.d < 256 ∧ 0 ≤ y.hn ∧ y.hn < 256) := by
      intro i hi
      obtain ⟨cs, h1, h2⟩ := hx i (by omega)
      obtain ⟨y, bs, e1, e2, e3⟩ := act_of h2
      obtain ⟨_, C, k1, k2⟩ := rd (by omega) h1
      rw [e1] at k2
      have b1 : (a.add (i * 11)).block = a.block := by unfold Addr.add; split <;> rfl
      have b2 : (a.add (i * 11)).off = a.off + i * 11 := by unfold Addr.add; split <;> simp_all
      rw [b1] at k1
      rw [b2] at k2
      exact ⟨y, bs, ⟨C, k1, k2⟩, e2, e3⟩
    obtain ⟨f, hf⟩ := Go.Deep.choose_lt (α := ActG × List Bool) (p := fun i q => (∃ C, (oldSt W).old a.block = some (.cells C none) ∧ cut C (a.off + i * 11) 11 = some q.1.cells) ∧ SomeAt (oldSt W).old q.1 q.2 ∧ (0 ≤ q.1.d ∧ q.1.d < 256 ∧ 0 ≤ q.1.hn ∧ q.1.hn < 256)) (fun i hi => by
      obtain ⟨y, bs, h⟩ := each i hi
      exact ⟨(y, bs), h⟩)
    refine ⟨(List.range len).map f, ⟨?_, fun i hi => ?_, ?_, ?_⟩, ?_⟩
    · rw [ofVal_slice hl hsp, lenV_slice]; simp
    · simp at hi
      obtain ⟨⟨C, k1, k2⟩, _⟩ := hf i hi
      rw [ofVal_slice hl hsp]
      refine ⟨⟨.old a.block, a.off + i * 11⟩, ix_old hi, fun s hs => ?_⟩
      simp only [List.getElem_map, List.getElem_range]
      refine ⟨old_load hs k1 k2, old_load1 hs k1 ?_⟩
      rw [show a.off + i * 11 + 10 = (a.off + i * 11) + 10 from rfl, cut_get k2 (by omega)]
      rfl
    · intro x hx
      obtain ⟨i, hi, rfl⟩ := List.mem_map.1 hx
      exact (hf i (List.mem_range.1 hi)).2.1
    · intro x hx
      obtain ⟨i, hi, rfl⟩ := List.mem_map.1 hx
      exact (hf i (List.mem_range.1 hi)).2.2
    · have := hw _ _ (by rw [hxe])
      simpa using this
end
open Go.ChangeAt
theorem Try.own' : ownKnob Try.prog.godebug = none := by kernel_rfl
theorem Try.laidOut' : laidOutB Try.prog = true := by kernel_rfl
theorem Try.mixed' : Try.prog.follows .mixedOrders = true := by kernel_rfl
theorem sized_acts {H : Type} {ts : List TypeId} {ds : List (DataW H)} (h : (DataW.weightsEach Try.prog ts ds).all (· ≤ reachBytes) = true) {j : Nat} (ht : ts[j]? = some 35) {d : DataW H} (hd : ds[j]? = some d) :
    ∀ es sp, d = .slice es sp → es.length < 2 ^ 61 := by
  intro es sp e
  subst e
  have h1 := sized_slice (e := 50) h ht hd (by kernel_rfl)
  have hb : (decide (0 < Try.prog.bytesOf 50)) = true := by kernel_rfl
  have hb' : 0 < Try.prog.bytesOf 50 := of_decide_eq_true hb
  have h2 : es.length ≤ (es.length + sp.length) * Try.prog.bytesOf 50 := Nat.le_trans (Nat.le_add_right _ _) (Nat.le_mul_of_pos_right _ hb')
  have h3 : reachBytes < 2 ^ 61 := by decide
  omega
end Go.Proofs.Ytoldkemimhebaaa

set_option linter.unusedSimpArgs false
set_option linter.unusedVariables false
namespace Go.Proofs.Ytoldkemimhebaaa
open Go Go.IM
def l86_0 : IC := (.seq (.seq (.seq (.region [oa 62 (.mov (.t 12)), oa 63 (.mov (.t 10)), oa 64 (.bin .lss (.t 62) (.t 63))] (kp 101 [0,1,5,10,12,64]))
  (.cond (.t 64)
  (sk 101 [0,1,5,10,12])
  (sx 101 [0,1,5] 2)))
  (.seq (.block 3
  (.seq (.region [oa 68 (.mov (.t 0)), oa 69 (.nilCheck (.t 68)), oa 70 (.fieldAddr 0 (.t 69)), oa 71 (.load none (.t 70)), oa 72 (.mov (.t 1)), oa 73 (.mov (.t 5)), oa 74 (.indexAddr 2 (.t 72) (.t 73)), oa 75 (.load (some 2) (.t 74)), oa 76 (.mov (.t 12)), oa 13 (.alloc [(.int .i64 (0)), (.int .i64 (0))]), oa 77 (.call 67 [(.t 71), (.t 75), (.t 76)]), oa 67 (.mov (.t 77)), oa 78 (.extract (.t 67) 0), oa 79 (.extract (.t 67) 1), ob (.store 2 (.t 13) (.t 78)), oa 14 (.mov (.t 79))] (kp 101 [0,1,5,10,12,13,14]))
  (.seq (.region [oa 81 (.mov (.t 0)), oa 82 (.nilCheck (.t 81)), oa 83 (.fieldAddr 1 (.t 82)), oa 84 (.load none (.t 83)), oa 85 (.mov (.t 1)), oa 86 (.mov (.t 5)), oa 87 (.indexAddr 2 (.t 85) (.t 86)), oa 88 (.load (some 2) (.t 87)), oa 89 (.mov (.t 12)), oa 15 (.alloc [(.int .i64 (0)), (.int .i64 (0))]), oa 90 (.call 68 [(.t 84), (.t 88), (.t 89)]), oa 80 (.mov (.t 90)), oa 91 (.extract (.t 80) 0), oa 92 (.extract (.t 80) 1), ob (.store 2 (.t 15) (.t 91)), oa 16 (.mov (.t 92))] (kp 101 [0,1,5,10,12,13,14,15,16]))
  (.seq (.region [oa 93 (.load (some 2) (.t 13)), oa 94 (.load (some 2) (.t 15)), oa 95 (.eql true (.key (.agg [.i, .i])) (.t 93) (.t 94)), oa 96 (.mov (.t 95)), oc 97 (.mov (.t 14)) 96 ff, oc 98 (.mov (.t 16)) 96 ff, oc 99 (.bin .neq (.t 97) (.t 98)) 96 ff, oa 100 (.pick (.t 96) (.c (.bool true)) (.t 99))] (kp 101 [0,1,5,10,12,100]))
  (.cond (.t 100)
  (.seq (.region [oa 4 (.mov (.c (.bool false)))] (kp 101 [4]))
  (sr 101 [4]))
  (sk 101 [0,1,5,10,12]))))))
  (.region [oa 65 (.mov (.t 12)), oa 66 (.bin .add (.t 65) (ai 1)), oa 12 (.mov (.t 66))] (kp 101 [0,1,5,10,12]))))
  (sk 101 [0,1,5,10,12]))
def l86_1 : IC := (.seq (.seq (.seq (.region [oa 17 (.mov (.t 5)), oa 18 (.mov (.t 1)), oa 19 (.lenSlice (.t 18)), oa 20 (.bin .lss (.t 17) (.t 19))] (kp 101 [0,1,5,20]))
  (.cond (.t 20)
  (sk 101 [0,1,5])
  (sx 101 [] 0)))
  (.seq (.block 1
  (.seq (.region [oa 24 (.mov (.t 0)), oa 25 (.nilCheck (.t 24)), oa 26 (.fieldAddr 0 (.t 25)), oa 27 (.load none (.t 26)), oa 28 (.mov (.t 1)), oa 29 (.mov (.t 5)), oa 30 (.indexAddr 2 (.t 28) (.t 29)), oa 31 (.load (some 2) (.t 30)), oa 32 (.call 30 [(.t 27), (.t 31)]), oa 23 (.mov (.t 32)), oa 33 (.extract (.t 23) 0), oa 34 (.extract (.t 23) 1), oa 35 (.extract (.t 23) 2), oa 6 (.mov (.t 33)), oa 7 (.mov (.t 34)), oa 8 (.mov (.t 35))] (kp 101 [0,1,5,6,7,8]))
  (.seq (.region [oa 37 (.mov (.t 0)), oa 38 (.nilCheck (.t 37)), oa 39 (.fieldAddr 1 (.t 38)), oa 40 (.load none (.t 39)), oa 41 (.mov (.t 1)), oa 42 (.mov (.t 5)), oa 43 (.indexAddr 2 (.t 41) (.t 42)), oa 44 (.load (some 2) (.t 43)), oa 45 (.call 69 [(.t 40), (.t 44)]), oa 36 (.mov (.t 45)), oa 46 (.extract (.t 36) 0), oa 47 (.extract (.t 36) 1), oa 48 (.extract (.t 36) 2), oa 9 (.mov (.t 46)), oa 10 (.mov (.t 47)), oa 11 (.mov (.t 48))] (kp 101 [0,1,5,6,7,8,9,10,11]))
  (.seq (.seq (.region [oa 49 (.mov (.t 6)), oa 50 (.mov (.t 9)), oa 51 (.bin .neq (.t 49) (.t 50)), oa 52 (.mov (.t 51)), oc 53 (.mov (.t 7)) 52 ff, oc 54 (.mov (.t 10)) 52 ff, oc 55 (.bin .neq (.t 53) (.t 54)) 52 ff, oa 56 (.pick (.t 52) (.c (.bool true)) (.t 55)), oa 57 (.mov (.t 56)), oc 58 (.mov (.t 8)) 57 ff, oc 59 (.mov (.t 11)) 57 ff, oc 60 (.bin .neq (.t 58) (.t 59)) 57 ff, oa 61 (.pick (.t 57) (.c (.bool true)) (.t 60))] (kp 101 [0,1,5,10,61]))
  (.cond (.t 61)
  (.seq (.region [oa 4 (.mov (.c (.bool false)))] (kp 101 [4]))
  (sr 101 [4]))
  (sk 101 [0,1,5,10])))
  (.seq (.region [oa 12 (.mov (ai 0))] (kp 101 [0,1,5,10,12]))
  (.block 2
  (.seq (sk 101 [0,1,5,10,12])
  (.loop l86_0))))))))
  (.region [oa 21 (.mov (.t 5)), oa 22 (.bin .add (.t 21) (ai 1)), oa 5 (.mov (.t 22))] (kp 101 [0,1,5]))))
  (sk 101 [0,1,5]))
def c86 : IFn := ⟨101, [(4, none)],
  (.seq (.region [oa 4 (.mov (.c (.bool false)))] (kp 101 [0,1]))
  (.seq (.seq (.region [oa 5 (.mov (ai 0))] (kp 101 [0,1,5]))
  (.block 0
  (.seq (sk 101 [0,1,5])
  (.loop l86_1))))
  (.seq (.region [oa 4 (.mov (.c (.bool true)))] (kp 101 [4]))
  (sr 101 [4]))))⟩
theorem F86 : shutF Try.prog 86 = some c86 := by kernel_rfl
def l38_0 : IC := (.seq (.seq (.seq (.region [oa 40 (.mov (.t 3)), oa 41 (.mov (.t 0)), oa 42 (.nilCheck (.t 41)), oa 43 (.fieldAddr 1 (.t 42)), oa 44 (.load none (.t 43)), oa 45 (.call 78 [(.t 44)]), oa 46 (.bin .leq (.t 40) (.t 45))] (kp 162 [0,3,46]))
  (.cond (.t 46)
  (sk 162 [0,3])
  (sx 162 [] 0)))
  (.seq (.block 1
  (.seq (.region [oa 50 (.mov (.t 0)), oa 51 (.nilCheck (.t 50)), oa 52 (.fieldAddr 0 (.t 51)), oa 53 (.load none (.t 52)), oa 54 (.mov (.t 3)), oa 55 (.call 29 [(.t 53), (.t 54)]), oa 49 (.mov (.t 55)), oa 56 (.extract (.t 49) 0), oa 57 (.extract (.t 49) 1), oa 4 (.mov (.t 56)), oa 5 (.mov (.t 57))] (kp 162 [0,3,4,5]))
  (.seq (.region [oa 59 (.mov (.t 0)), oa 60 (.nilCheck (.t 59)), oa 61 (.fieldAddr 1 (.t 60)), oa 62 (.load none (.t 61)), oa 63 (.mov (.t 3)), oa 64 (.call 80 [(.t 62), (.t 63)]), oa 58 (.mov (.t 64)), oa 65 (.extract (.t 58) 0), oa 66 (.extract (.t 58) 1), oa 6 (.mov (.t 65)), oa 7 (.mov (.t 66))] (kp 162 [0,3,4,5,6,7]))
  (.seq (.region [oa 68 (.mov (.t 0)), oa 69 (.nilCheck (.t 68)), oa 70 (.fieldAddr 0 (.t 69)), oa 71 (.load none (.t 70)), oa 72 (.mov (.t 3)), oa 73 (.call 28 [(.t 71), (.t 72)]), oa 67 (.mov (.t 73)), oa 74 (.extract (.t 67) 0), oa 75 (.extract (.t 67) 1), oa 8 (.mov (.t 74)), oa 9 (.mov (.t 75))] (kp 162 [0,3,4,5,6,7,8,9]))
  (.seq (.region [oa 77 (.mov (.t 0)), oa 78 (.nilCheck (.t 77)), oa 79 (.fieldAddr 1 (.t 78)), oa 80 (.load none (.t 79)), oa 81 (.mov (.t 3)), oa 82 (.call 81 [(.t 80), (.t 81)]), oa 76 (.mov (.t 82)), oa 83 (.extract (.t 76) 0), oa 84 (.extract (.t 76) 1), oa 10 (.mov (.t 83)), oa 11 (.mov (.t 84))] (kp 162 [0,3,4,5,6,7,8,9,10,11]))
  (.seq (.seq (.region [oa 85 (.mov (.t 4)), oa 86 (.mov (.t 5)), oa 87 (.mov (.t 6)), oa 88 (.mov (.t 7)), oa 89 (.call 82 [(.t 85), (.t 86), (.t 87), (.t 88)]), oa 90 (.un .not (.t 89)), oa 91 (.mov (.t 90)), oc 92 (.mov (.t 9)) 91 ff, oc 93 (.mov (.t 11)) 91 ff, oc 94 (.bin .neq (.t 92) (.t 93)) 91 ff, oa 95 (.pick (.t 91) (.c (.bool true)) (.t 94)), oa 96 (.mov (.t 95)), oc 97 (.mov (.t 8)) 96 ff, oc 98 (.mov (.t 10)) 96 ff, oc 99 (.call 48 [(.t 97), (.t 98)]) 96 ff, oc 100 (.un .not (.t 99)) 96 ff, oa 101 (.pick (.t 96) (.c (.bool true)) (.t 100))] (kp 162 [0,3,10,101]))
  (.cond (.t 101)
  (.seq (.region [oa 2 (.mov (.c (.bool false)))] (kp 162 [2]))
  (sr 162 [2]))
  (sk 162 [0,3,10])))
  (.seq (.region [oa 103 (.mov (.t 0)), oa 104 (.nilCheck (.t 103)), oa 105 (.fieldAddr 0 (.t 104)), oa 106 (.load none (.t 105)), oa 107 (.mov (.t 3)), oa 108 (.call 83 [(.t 106), (.t 107)]), oa 102 (.mov (.t 108)), oa 109 (.extract (.t 102) 0), oa 110 (.extract (.t 102) 1), oa 12 (.mov (.t 109)), oa 5 (.mov (.t 110))] (kp 162 [0,3,5,10,12]))
  (.seq (.region [oa 112 (.mov (.t 0)), oa 113 (.nilCheck (.t 112)), oa 114 (.fieldAddr 1 (.t 113)), oa 115 (.load none (.t 114)), oa 116 (.mov (.t 3)), oa 117 (.call 84 [(.t 115), (.t 116)]), oa 111 (.mov (.t 117)), oa 118 (.extract (.t 111) 0), oa 119 (.extract (.t 111) 1), oa 13 (.mov (.t 118)), oa 7 (.mov (.t 119))] (kp 162 [0,3,5,7,10,12,13]))
  (.seq (.region [oa 121 (.mov (.t 0)), oa 122 (.nilCheck (.t 121)), oa 123 (.fieldAddr 0 (.t 122)), oa 124 (.load none (.t 123)), oa 125 (.mov (.t 3)), oa 126 (.call 35 [(.t 124), (.t 125)]), oa 120 (.mov (.t 126)), oa 127 (.extract (.t 120) 0), oa 128 (.extract (.t 120) 1), oa 14 (.mov (.t 127)), oa 9 (.mov (.t 128))] (kp 162 [0,3,5,7,9,10,12,13,14]))
  (.seq (.region [oa 130 (.mov (.t 0)), oa 131 (.nilCheck (.t 130)), oa 132 (.fieldAddr 1 (.t 131)), oa 133 (.load none (.t 132)), oa 134 (.mov (.t 3)), oa 135 (.call 85 [(.t 133), (.t 134)]), oa 129 (.mov (.t 135)), oa 136 (.extract (.t 129) 0), oa 137 (.extract (.t 129) 1), oa 15 (.mov (.t 136)), oa 11 (.mov (.t 137))] (kp 162 [0,3,5,7,9,10,11,12,13,14,15]))
  (.seq (.region [oa 138 (.mov (.t 12)), oa 139 (.mov (.t 13)), oa 140 (.bin .neq (.t 138) (.t 139)), oa 141 (.mov (.t 140)), oc 142 (.mov (.t 5)) 141 ff, oc 143 (.mov (.t 7)) 141 ff, oc 144 (.bin .neq (.t 142) (.t 143)) 141 ff, oa 145 (.pick (.t 141) (.c (.bool true)) (.t 144)), oa 146 (.mov (.t 145)), oc 147 (.mov (.t 14)) 146 ff, oc 148 (.mov (.t 15)) 146 ff, oc 149 (.bin .neq (.t 147) (.t 148)) 146 ff, oa 150 (.pick (.t 146) (.c (.bool true)) (.t 149)), oa 151 (.mov (.t 150)), oc 152 (.mov (.t 9)) 151 ff, oc 153 (.mov (.t 11)) 151 ff, oc 154 (.bin .neq (.t 152) (.t 153)) 151 ff, oa 155 (.pick (.t 151) (.c (.bool true)) (.t 154)), oa 156 (.mov (.t 155)), oc 157 (.mov (.t 0)) 156 ff, oc 158 (.mov (.t 10)) 156 ff, oc 159 (.call 86 [(.t 157), (.t 158)]) 156 ff, oc 160 (.un .not (.t 159)) 156 ff, oa 161 (.pick (.t 156) (.c (.bool true)) (.t 160))] (kp 162 [0,3,161]))
  (.cond (.t 161)
  (.seq (.region [oa 2 (.mov (.c (.bool false)))] (kp 162 [2]))
  (sr 162 [2]))
  (sk 162 [0,3])))))))))))))
  (.region [oa 47 (.mov (.t 3)), oa 48 (.bin .add (.t 47) (ai 1)), oa 3 (.mov (.t 48))] (kp 162 [0,3]))))
  (sk 162 [0,3]))
def c38 : IFn := ⟨162, [(2, none)],
  (.seq (.region [oa 2 (.mov (.c (.bool false)))] (kp 162 [0]))
  (.seq (.seq (.region [oa 16 (.mov (.t 0)), oa 17 (.nilCheck (.t 16)), oa 18 (.fieldAddr 0 (.t 17)), oa 19 (.load none (.t 18)), oa 21 (.mov (.t 0)), oa 22 (.nilCheck (.t 21)), oa 23 (.fieldAddr 1 (.t 22)), oa 24 (.load none (.t 23)), oa 20 (.call 27 [(.t 19)]), ob (.again 24 (.load none (.t 23))), oa 25 (.call 78 [(.t 24)]), oa 26 (.bin .neq (.t 20) (.t 25)), oa 27 (.mov (.t 26)), oc 28 (.mov (.t 0)) 27 ff, oc 29 (.nilCheck (.t 28)) 27 ff, oc 30 (.fieldAddr 0 (.t 29)) 27 ff, oc 31 (.load none (.t 30)) 27 ff, oc 33 (.mov (.t 0)) 27 ff, oc 34 (.nilCheck (.t 33)) 27 ff, oc 35 (.fieldAddr 1 (.t 34)) 27 ff, oc 36 (.load none (.t 35)) 27 ff, oc 32 (.call 36 [(.t 31)]) 27 ff, oe (.again 36 (.load none (.t 35))) 27 ff, oc 37 (.call 79 [(.t 36)]) 27 ff, oc 38 (.bin .neq (.t 32) (.t 37)) 27 ff, oa 39 (.pick (.t 27) (.c (.bool true)) (.t 38))] (kp 162 [0,39]))
  (.cond (.t 39)
  (.seq (.region [oa 2 (.mov (.c (.bool false)))] (kp 162 [2]))
  (sr 162 [2]))
  (sk 162 [0])))
  (.seq (.seq (.region [oa 3 (.mov (ai (-1)))] (kp 162 [0,3]))
  (.block 0
  (.seq (sk 162 [0,3])
  (.loop l38_0))))
  (.seq (.region [oa 2 (.mov (.c (.bool true)))] (kp 162 [2]))
  (sr 162 [2])))))⟩
theorem F38 : shutF Try.prog 38 = some c38 := by kernel_rfl
theorem sl_pagesV {C : Ch} {k k0 : Nat} {l : List Nat} (m : (k, pagesO l) ∈ C) : SlAt C (pagesV k k0 l.length) l.length (l.map fun n : Nat => I n) := by
  unfold pagesV
  split
  · rename_i h; rw [h]; exact .inl ⟨rfl, _, _, rfl⟩
  · exact .row m
section
variable {o : Nat → Option O} {s : St} {C F : Ch} {Q : V → St → Prop} {p r q t : Nat} {u : List Bool} {others : List Nat} {G : PairG}
set_option maxRecDepth 10000
set_option maxHeartbeats 4000000
theorem objw_loop {vl : V} {ws : List (Int × Int)} {k a b : Nat} {w : Int × Int} {x : PObj} {x' : RObj} {g' : RReg} {K : Kt} (hin : In C p G.hp) (rin : RIn C q G.hr) (mid : (G.id, some G.hd) ∈ C) (h : PairOk u others G)
    (hv : SlAt C vl ws.length (ws.flatMap encW)) (hk : ws[k]? = some w) (hL : 1 ≤ w.2) (hp : pfind w.1 w.2 G.hp.regs = some x) (hr : rfind w.1 w.2 G.hr.regs 0 = some (a, b)) (hg : G.hr.regs[a]? = some g') (hx : g'.objs[b]? = some x') (hb : x.b = x'.b) (hws : x.b.ws.length ≤ 31)
    (q1 : ∀ s', Holds o s' C → WP (K (.exit 2) (sp 101 [(0, ptrN G.id), (1, vl), (5, I k)]) s') Q) :
    ∀ (m j : Nat) (s : St), j + m = x.b.ws.length → Holds o s C →
    WP (loop PF (.loop l86_0) (sp 101 [(0, ptrN G.id), (1, vl), (5, I k), (10, I x.b.ws.length), (12, I j)]) s K) Q
  | 0, j, s, hj, H => by
    have hlt : ¬ ((j : Int) < (x.b.ws.length : Int)) := by omega
    refine wp_round fun LL hLL => ?_
    simp -implicitDefEqProofs only [↓GP, GB, GL, Nat.reduceAdd, Nat.reduceSub, Nat.reduceEqDiff, Nat.reduceMul, Nat.reduceLeDiff, Int.reduceBNe, Int.reduceBEq, Nat.reduceLT, reduceCtorEq, l86_0, hlt]
    exact q1 s H
  | m + 1, j, s, hj, H => by
    have hlt : ((j : Int) < (x.b.ws.length : Int)) := by omega
    have hj' : j < x.b.ws.length := by omega
    have f := H.mem mid
    simp only [PairG.hd] at f
    obtain ⟨k1, g1, e1, m1⟩ := hv.at_ (List.getElem?_eq_some_iff.1 hk).1 2
    have f1 := H.mem m1
    have hld := ldN_tab encW_len ws g1 hk
    obtain ⟨wx, hwx⟩ : ∃ wx, x.b.ws[j]? = some wx := ⟨x.b.ws[j], by simp [hj']⟩
    have hw1 := wrap_add1 (a := j) (by omega)
    refine wp_round fun LL hLL => ?_
    simp -implicitDefEqProofs only [↓GP, GB, GL, Nat.reduceAdd, Nat.reduceSub, Nat.reduceEqDiff, Nat.reduceMul, Nat.reduceLeDiff, Int.reduceBNe, Int.reduceBEq, Nat.reduceLT, reduceCtorEq, l86_0, hlt, f, e1, f1, hld, encW]
    refine wp_in (s67 (H.alloc (.cells [I 0, I 0] none)) (hin.cons _) h.pne h.plen h.pok (by omega) hp hwx hws fun s1 h1 => ?_)
    have d1 := h1.ne (Holds.ids_mem.2 ⟨_, mid⟩)
    have d2 := h1.ne (Holds.ids_mem.2 ⟨_, m1⟩)
    have fa := h1.f1
    have fb := h1.tl.mem mid
    have fc := h1.tl.mem m1
    simp only [PairG.hd] at fb
    simp -implicitDefEqProofs only [↓GP, GB, GL, Nat.reduceAdd, Nat.reduceSub, Nat.reduceEqDiff, Nat.reduceMul, Nat.reduceLeDiff, Int.reduceBNe, Int.reduceBEq, Nat.reduceLT, reduceCtorEq, encW, fa, fb, fc, d1, d2, e1, hld]
    have h2 := (h1.set0 (.cells [I wx.1, I wx.2] none)).alloc (.cells [I 0, I 0] none)
    refine wp_in (s68 h2 ((rin.cons _).cons _) h.rne h.rlen h.rol' (by omega) hr hg hx (by rw [← hb]; exact hwx) fun s2 h3 => ?_)
    simp only [set_next, alloc_next] at h3
    have fd := h3.f2
    simp -implicitDefEqProofs only [↓GP, GB, GL, Nat.reduceAdd, Nat.reduceSub, Nat.reduceEqDiff, Nat.reduceMul, Nat.reduceLeDiff, Int.reduceBNe, Int.reduceBEq, Nat.reduceLT, reduceCtorEq, encW, fd, words_eq, Int.reduceBNe, hw1]
    rw [hLL]
    exact objw_loop hin rin mid h hv hk hL hp hr hg hx hb hws q1 m (j + 1) _ (by omega) (h3.set0 _).tl.tl
theorem objs_loop {vl : V} {ws : List (Int × Int)} {K : Kt} (hin : In C p G.hp) (rin : RIn C q G.hr) (mid : (G.id, some G.hd) ∈ C) (h : PairOk u others G)
    (hv : SlAt C vl ws.length (ws.flatMap encW)) (hl : ws.length ≤ 100000) (hL : ∀ w ∈ ws, 1 ≤ w.2) (q1 : ∀ s', Holds o s' C → WP (K (.exit 0) (sp 101 []) s') Q) :
    ∀ (m k : Nat) (s : St), k + m = ws.length → Holds o s C → WP (loop PF (.loop l86_1) (sp 101 [(0, ptrN G.id), (1, vl), (5, I k)]) s K) Q
  | 0, k, s, hk, H => by
    have hlt : ¬ ((k : Int) < (ws.length : Int)) := by omega
    refine wp_round fun LL hLL => ?_
    simp -implicitDefEqProofs only [↓GP, GB, GL, Nat.reduceAdd, Nat.reduceSub, Nat.reduceEqDiff, Nat.reduceMul, Nat.reduceLeDiff, Int.reduceBNe, Int.reduceBEq, Nat.reduceLT, reduceCtorEq, l86_1, hv.len, hlt]
    exact q1 s H
  | m + 1, k, s, hk, H => by
    have hlt : ((k : Int) < (ws.length : Int)) := by omega
    have hk' : k < ws.length := by omega
    have f := fun s (H : Holds o s C) => H.mem mid
    simp only [PairG.hd] at f
    obtain ⟨k1, g1, e1, m1⟩ := hv.at_ hk' 2
    obtain ⟨w, hw⟩ : ∃ w, ws[k]? = some w := ⟨ws[k], by simp [hk']⟩
    have hld := ldN_tab encW_len ws g1 hw
    have hL1 := hL w (List.mem_of_getElem? hw)
    have hw1 := wrap_add1 (a := k) (by omega)
    refine wp_round fun LL hLL => ?_
    simp -implicitDefEqProofs only [↓GP, GB, GL, Nat.reduceAdd, Nat.reduceSub, Nat.reduceEqDiff, Nat.reduceMul, Nat.reduceLeDiff, Int.reduceBNe, Int.reduceBEq, Nat.reduceLT, reduceCtorEq, l86_1, hv.len, hlt, f s H, e1, H.mem m1, hld, encW]
    rcases h.find (N := w.1) (L := w.2) hL1 with ⟨hr, hp⟩ | ⟨a, b, A, g, B, A', g', B', X, x, Y, X', x', Y', hr, hp, hg, hx, hb, mg, mx, -⟩
    · refine wp_in (s30_err H (.inr ⟨G.hp, p, rfl, hin, h.pne, h.plen, h.pok, .inr ⟨rfl, by omega, rfl, hp⟩⟩) fun s1 h1 => ?_)
      simp -implicitDefEqProofs only [↓GP, GB, GL, Nat.reduceAdd, Nat.reduceSub, Nat.reduceEqDiff, Nat.reduceMul, Nat.reduceLeDiff, Int.reduceBNe, Int.reduceBEq, Nat.reduceLT, reduceCtorEq, f s1 h1, e1, h1.mem m1, hld, encW]
      refine wp_in (s69_err h1 (.inr ⟨G.hr, q, rfl, rin, h.rne, h.rlen, h.rol', .inr ⟨rfl, by omega, hr⟩⟩) fun s2 h2 => ?_)
      simp -implicitDefEqProofs only [↓GP, GB, GL, Nat.reduceAdd, Nat.reduceSub, Nat.reduceEqDiff, Nat.reduceMul, Nat.reduceLeDiff, Int.reduceBNe, Int.reduceBEq, Nat.reduceLT, reduceCtorEq, Int.reduceBNe]
      refine wp_round fun LL2 hLL2 => ?_
      simp -implicitDefEqProofs only [↓GP, GB, GL, Nat.reduceAdd, Nat.reduceSub, Nat.reduceEqDiff, Nat.reduceMul, Nat.reduceLeDiff, Int.reduceBNe, Int.reduceBEq, Nat.reduceLT, reduceCtorEq, l86_0, Int.reduceLT, hw1]
      rw [hLL]
      exact objs_loop hin rin mid h hv hl hL q1 m (k + 1) s2 (by omega) h2
    · refine wp_in (s30 H hin h.pne h.plen h.pok (by omega) hp fun s1 h1 => ?_)
      simp -implicitDefEqProofs only [↓GP, GB, GL, Nat.reduceAdd, Nat.reduceSub, Nat.reduceEqDiff, Nat.reduceMul, Nat.reduceLeDiff, Int.reduceBNe, Int.reduceBEq, Nat.reduceLT, reduceCtorEq, f s1 h1, e1, h1.mem m1, hld, encW]
      refine wp_in (s69 h1 rin h.rne h.rlen h.rol' (by omega) hr hg hx fun s2 h2 => ?_)
      have hws := ((h.okp mg).1.ws x.b (List.mem_map.2 ⟨x, mx, rfl⟩))
      simp -implicitDefEqProofs only [↓GP, GB, GL, Nat.reduceAdd, Nat.reduceSub, Nat.reduceEqDiff, Nat.reduceMul, Nat.reduceLeDiff, Int.reduceBNe, Int.reduceBEq, Nat.reduceLT, reduceCtorEq, hb, Int.reduceBNe, bne_self_eq_false]
      rw [← hb]
      have := objw_loop (K := blockK 2 (blockK 1 (seqK (loop PF) (call PF) (.region [oa 21 (.mov (.t 5)), oa 22 (.bin .add (.t 21) (ai 1)), oa 5 (.mov (.t 22))] (kp 101 [0,1,5])) (seqK (loop PF) (call PF) (sk 101 [0,1,5]) (roundK LL K))))) hin rin mid h hv hw hL1 hp hr hg hx hb hws (Q := Q) (fun s3 h3 => ?_) x.b.ws.length 0 s2 (by omega) h2
      · exact this
      · simp -implicitDefEqProofs only [↓GP, GB, GL, Nat.reduceAdd, Nat.reduceSub, Nat.reduceEqDiff, Nat.reduceMul, Nat.reduceLeDiff, Int.reduceBNe, Int.reduceBEq, Nat.reduceLT, reduceCtorEq, hw1]
        rw [hLL]
        exact objs_loop hin rin mid h hv hl hL q1 m (k + 1) s3 (by omega) h3
theorem s86 {vl : V} {ws : List (Int × Int)} (hin : In C p G.hp) (rin : RIn C q G.hr) (mid : (G.id, some G.hd) ∈ C) (h : PairOk u others G)
    (hv : SlAt C vl ws.length (ws.flatMap encW)) (hl : ws.length ≤ 100000) (hL : ∀ w ∈ ws, 1 ≤ w.2) (H : Holds o s C) (q1 : ∀ s', Holds o s' C → Q (.bool true) s') : WP (call PF 86 [ptrN G.id, vl] s) Q := by
  rw [call_run F86]; simp -implicitDefEqProofs only [↓GP, GB, GL, Nat.reduceAdd, Nat.reduceSub, Nat.reduceEqDiff, Nat.reduceMul, Nat.reduceLeDiff, Int.reduceBNe, Int.reduceBEq, Nat.reduceLT, reduceCtorEq, c86]
  refine objs_loop hin rin mid h hv hl hL (fun s1 h1 => ?_) ws.length 0 s (by omega) H
  simp -implicitDefEqProofs only [↓GP, GB, GL, Nat.reduceAdd, Nat.reduceSub, Nat.reduceEqDiff, Nat.reduceMul, Nat.reduceLeDiff, Int.reduceBNe, Int.reduceBEq, Nat.reduceLT, reduceCtorEq]
  exact q1 s1 h1
theorem s86_nil {id : Nat} : call PF 86 [ptrN id, .slice none 0 (some 0)] s = some (.bool true, s) := by
  rw [call_run F86]; simp -implicitDefEqProofs only [↓GP, GB, GL, Nat.reduceAdd, Nat.reduceSub, Nat.reduceEqDiff, Nat.reduceMul, Nat.reduceLeDiff, Int.reduceBNe, Int.reduceBEq, Nat.reduceLT, reduceCtorEq, c86]
  refine round fun LL hLL => ?_
  simp -implicitDefEqProofs only [↓GP, GB, GL, Nat.reduceAdd, Nat.reduceSub, Nat.reduceEqDiff, Nat.reduceMul, Nat.reduceLeDiff, Int.reduceBNe, Int.reduceBEq, Nat.reduceLT, reduceCtorEq, l86_1, Int.natCast_zero, Int.reduceLT]
theorem encP_ws (life : Nat) (l : List PObj) : l.flatMap (encP life) = (l.map fun x => ((x.b.at_ : Int), (life : Int))).flatMap encW := by
  rw [List.flatMap_map]; rfl
theorem rencP_ws (life : Nat) (l : List RObj) : l.flatMap (rencP life) = (l.map fun x => ((x.b.at_ : Int), (life : Int))).flatMap encW := by
  rw [List.flatMap_map]; rfl
def IsAt (C : Ch) (id : Nat) (hv rv : V) (i : Int) : Prop := (∃ err, AtErr C hv i err ∧ RAtErr C rv i err) ∨
  ∃ (u : List Bool) (others : List Nat) (G : PairG) (p q n : Nat), PairOk u others G ∧ In C p G.hp ∧ RIn C q G.hr ∧ (G.id, some G.hd) ∈ C ∧ id = G.id ∧ hv = ptrN G.hp.id ∧ rv = ptrN G.hr.id ∧ i = (n : Int) ∧ n < G.hp.regs.length
theorem is_loop {id n : Nat} {hv rv wv : V} {K : Kt} (mid : (id, some (.cells [hv, rv, wv] none)) ∈ C) (h1 : hv.one = true) (h2 : hv.cells = [hv]) (hn : n ≤ 100000) (hd : ∀ s, Holds o s C → call PF 78 [rv] s = some (I n, s))
    (hi : ∀ i : Int, -1 ≤ i → i ≤ n → IsAt C id hv rv i) (q1 : ∀ s', Holds o s' C → WP (K (.exit 0) (sp 162 []) s') Q) :
    ∀ (m j : Nat) (s : St), j + m = n + 2 → Holds o s C → WP (loop PF (.loop l38_0) (sp 162 [(0, ptrN id), (3, I ((j : Int) - 1))]) s K) Q
  | 0, j, s, hj, H => by
    have hle : ¬ ((j : Int) - 1 ≤ (n : Int)) := by omega
    refine wp_round fun LL hLL => ?_
    simp -implicitDefEqProofs only [↓GP, GB, GL, Nat.reduceAdd, Nat.reduceSub, Nat.reduceEqDiff, Nat.reduceMul, Nat.reduceLeDiff, Int.reduceBNe, Int.reduceBEq, Nat.reduceLT, reduceCtorEq, l38_0, H.mem mid, hd s H, hle]
    exact q1 s H
  | m + 1, j, s, hj, H => by
    have hle : ((j : Int) - 1 ≤ (n : Int)) := by omega
    have hw1 : wrapI .i64 ((j : Int) - 1 + 1) = I (((j + 1 : Nat) : Int) - 1) := by rw [wrap64 (by omega) (by omega)]; show V.int _ _ = V.int _ _; congr 1; omega
    have at1 := hi ((j : Int) - 1) (by omega) hle
    refine wp_round fun LL hLL => ?_
    simp -implicitDefEqProofs only [↓GP, GB, GL, Nat.reduceAdd, Nat.reduceSub, Nat.reduceEqDiff, Nat.reduceMul, Nat.reduceLeDiff, Int.reduceBNe, Int.reduceBEq, Nat.reduceLT, reduceCtorEq, l38_0, H.mem mid, hd s H, hle]
    rcases at1 with ⟨err, a, b⟩ | ⟨u, others, G, p, q, i, h, hin, rin, mG, rfl, rfl, rfl, hii, hlt⟩
    · refine wp_in (s29_err H a h1 h2 fun s1 k1 => ?_)
      simp -implicitDefEqProofs only [↓GP, GB, GL, Nat.reduceAdd, Nat.reduceSub, Nat.reduceEqDiff, Nat.reduceMul, Nat.reduceLeDiff, Int.reduceBNe, Int.reduceBEq, Nat.reduceLT, reduceCtorEq, k1.mem mid, s80_err k1 b]
      refine wp_in (s28_err k1 a h1 h2 fun s2 k2 => ?_)
      have e82 := fun err => s82 (err := err) k2 (l := []) SlAt.nil SlAt.nil (by simp)
      have e48 := s48 k2 (l := []) SlAt.nil SlAt.nil (by simp)
      simp -implicitDefEqProofs only [↓GP, GB, GL, Nat.reduceAdd, Nat.reduceSub, Nat.reduceEqDiff, Nat.reduceMul, Nat.reduceLeDiff, Int.reduceBNe, Int.reduceBEq, Nat.reduceLT, reduceCtorEq, k2.mem mid, s81_err k2 b, e82, e48, bne_self_eq_false]
      refine wp_in (s83_err k2 a h1 h2 fun s3 k3 => ?_)
      simp -implicitDefEqProofs only [↓GP, GB, GL, Nat.reduceAdd, Nat.reduceSub, Nat.reduceEqDiff, Nat.reduceMul, Nat.reduceLeDiff, Int.reduceBNe, Int.reduceBEq, Nat.reduceLT, reduceCtorEq, k3.mem mid, s84_err k3 b]
      refine wp_in (s35_err k3 a h1 h2 fun s4 k4 => ?_)
      simp -implicitDefEqProofs only [↓GP, GB, GL, Nat.reduceAdd, Nat.reduceSub, Nat.reduceEqDiff, Nat.reduceMul, Nat.reduceLeDiff, Int.reduceBNe, Int.reduceBEq, Nat.reduceLT, reduceCtorEq, k4.mem mid, s85_err k4 b, bne_self_eq_false]
      simp -implicitDefEqProofs only [↓GP, GB, GL, Nat.reduceAdd, Nat.reduceSub, Nat.reduceEqDiff, Nat.reduceMul, Nat.reduceLeDiff, Int.reduceBNe, Int.reduceBEq, Nat.reduceLT, reduceCtorEq, s86_nil, hw1, k4.mem mid]
      rw [hLL]
      exact is_loop mid h1 h2 hn hd hi q1 m (j + 1) s4 (by omega) k4
    · obtain ⟨A, g, B, A', g', B', e1, e2, l1, l2, hm, -, -⟩ := h.at_ hlt
      have hg : G.hp.regs[i]? = some g := by rw [e1, ← l1]; simp
      have hg' : G.hr.regs[i]? = some g' := by rw [e2, ← l2]; simp
      have mg : g ∈ G.hp.regs := List.mem_of_getElem? hg
      have mg' : g' ∈ G.hr.regs := List.mem_of_getElem? hg'
      obtain ⟨o1, o2, o3⟩ := h.okp mg
      obtain ⟨o1', o2', o3'⟩ := h.okr mg'
      have hpg : g.pages = g'.pages := congrArg Reg.pages hm
      have hlf : g.life = g'.life := congrArg Reg.life hm
      have hob : g.objs.map (·.b) = g'.objs.map (·.b) := congrArg Reg.objs hm
      have hlv := h.inv.life _ (List.mem_map.2 ⟨g, mg, rfl⟩)
      have p1 := h.pol mg
      have p2 := h.rol mg'
      simp only [PReg.m] at o2 hlv
      simp only [RReg.m] at o2'
      have w31 : ∀ x ∈ g.objs, x.b.ws.length ≤ 31 := fun x hx => o1.ws x.b (List.mem_map.2 ⟨x, hx, rfl⟩)
      have w31' : ∀ x ∈ g'.objs, x.b.ws.length ≤ 31 := fun x hx => o1'.ws x.b (List.mem_map.2 ⟨x, hx, rfl⟩)
      obtain ⟨ws, hws⟩ : ∃ ws, ws = g.objs.map fun x => ((x.b.at_ : Int), (g.life : Int)) := ⟨_, rfl⟩
      have hws' : ws = g'.objs.map fun x => ((x.b.at_ : Int), (g'.life : Int)) := by
        have := congrArg (List.map fun b : Obj => ((b.at_ : Int), (g.life : Int))) hob
        rw [List.map_map, List.map_map] at this
        rw [hws, ← hlf]; exact this
      have hwl : g.objs.length = ws.length := by rw [hws, List.length_map]
      have hwl' : g'.objs.length = ws.length := by rw [hws', List.length_map]
      have hwe : g.objs.flatMap (encP g.life) = ws.flatMap encW := by rw [encP_ws, hws]
      have hwe' : g'.objs.flatMap (rencP g'.life) = ws.flatMap encW := by rw [rencP_ws, hws']
      have hL : ∀ w ∈ ws, 1 ≤ w.2 := by
        intro w hw
        rw [hws] at hw
        obtain ⟨x, -, rfl⟩ := List.mem_map.1 hw
        simp only; omega
      have up : ∀ {D : Ch} {x y : Nat × Option O}, y ∈ D → y ∈ x :: D := fun h => List.mem_cons_of_mem _ h
      have hw2 : wrapI .i64 ((i : Int) + 1) = I (((j + 1 : Nat) : Int) - 1) := by rw [wrap64 (by omega) (by omega)]; show V.int _ _ = V.int _ _; congr 1; omega
      rw [hii]
      refine wp_in (s29 H hin h.plen hg (by omega) fun s1 a1 k1 => ?_)
      simp -implicitDefEqProofs only [↓GP, GB, GL, Nat.reduceAdd, Nat.reduceSub, Nat.reduceEqDiff, Nat.reduceMul, Nat.reduceLeDiff, Int.reduceBNe, Int.reduceBEq, Nat.reduceLT, reduceCtorEq, k1.mem (up mid)]
      refine wp_in (s80 k1 (rin.cons _) hg' (by omega) fun s2 a2 a0 k2 => ?_)
      rw [← hpg] at k2 ⊢
      simp -implicitDefEqProofs only [↓GP, GB, GL, Nat.reduceAdd, Nat.reduceSub, Nat.reduceEqDiff, Nat.reduceMul, Nat.reduceLeDiff, Int.reduceBNe, Int.reduceBEq, Nat.reduceLT, reduceCtorEq, k2.mem (up (up mid))]
      refine wp_in (s28 k2 ((hin.cons _).cons _) h.plen hg (by omega) fun s3 a3 k3 => ?_)
      simp only [hwl, hwe] at k3 ⊢
      simp -implicitDefEqProofs only [↓GP, GB, GL, Nat.reduceAdd, Nat.reduceSub, Nat.reduceEqDiff, Nat.reduceMul, Nat.reduceLeDiff, Int.reduceBNe, Int.reduceBEq, Nat.reduceLT, reduceCtorEq, k3.mem (up (up (up mid)))]
      refine wp_in (s81 k3 (((rin.cons _).cons _).cons _) hg' (by omega) fun s4 a4 k4 => ?_)
      simp only [hwl', hwe'] at k4 ⊢
      have m4 := up (x := (a4, rowO 2 ws.length (ws.flatMap encW))) (up (x := (a3, rowO 2 ws.length (ws.flatMap encW))) (up (x := (a2, pagesO g.pages)) (up (x := (a1, pagesO g.pages)) mid)))
      have e82 := s82 (err := 0) k4 (l := g.pages) (.row (up (up (up (List.mem_cons_self ..))))) (sl_pagesV (k0 := a0) (up (up (List.mem_cons_self ..)))) (by omega)
      have e48 := s48 k4 (l := ws) (.row (up (List.mem_cons_self ..))) (.row (List.mem_cons_self ..)) (by omega)
      simp -implicitDefEqProofs only [↓GP, GB, GL, Nat.reduceAdd, Nat.reduceSub, Nat.reduceEqDiff, Nat.reduceMul, Nat.reduceLeDiff, Int.reduceBNe, Int.reduceBEq, Nat.reduceLT, reduceCtorEq, k4.mem m4, e82, e48, Int.reduceBNe]
      have hin4 := (((hin.cons (a1, pagesO g.pages)).cons (a2, pagesO g.pages)).cons (a3, rowO 2 ws.length (ws.flatMap encW))).cons (a4, rowO 2 ws.length (ws.flatMap encW))
      have rin4 := (((rin.cons (a1, pagesO g.pages)).cons (a2, pagesO g.pages)).cons (a3, rowO 2 ws.length (ws.flatMap encW))).cons (a4, rowO 2 ws.length (ws.flatMap encW))
      refine wp_in (s83 k4 hin4 h.plen hg (by omega) w31 fun s5 k5 => ?_)
      have e84 := s84 k5 rin4 hg' (by omega) w31'
      rw [← hm] at e84
      simp -implicitDefEqProofs only [↓GP, GB, GL, Nat.reduceAdd, Nat.reduceSub, Nat.reduceEqDiff, Nat.reduceMul, Nat.reduceLeDiff, Int.reduceBNe, Int.reduceBEq, Nat.reduceLT, reduceCtorEq, k5.mem m4, e84, Int.reduceBNe]
      refine wp_in (s35 k5 hin4 h.plen hg fun s6 k6 => ?_)
      have e85 := s85 k6 rin4 hg'
      rw [← hlf] at e85
      simp -implicitDefEqProofs only [↓GP, GB, GL, Nat.reduceAdd, Nat.reduceSub, Nat.reduceEqDiff, Nat.reduceMul, Nat.reduceLeDiff, Int.reduceBNe, Int.reduceBEq, Nat.reduceLT, reduceCtorEq, k6.mem m4, e85, Int.reduceBNe, bne_self_eq_false]
      refine wp_in (s86 hin4 rin4 (up (up (up (up mG)))) h (.row (List.mem_cons_self ..)) (by omega) hL k6 fun s7 k7 => ?_)
      simp -implicitDefEqProofs only [↓GP, GB, GL, Nat.reduceAdd, Nat.reduceSub, Nat.reduceEqDiff, Nat.reduceMul, Nat.reduceLeDiff, Int.reduceBNe, Int.reduceBEq, Nat.reduceLT, reduceCtorEq, hw2]
      rw [hLL]
      exact is_loop mid h1 h2 hn hd hi q1 m (j + 1) s7 (by omega) k7.tl.tl.tl.tl
theorem s38 {id n : Nat} {hv rv wv : V} (mid : (id, some (.cells [hv, rv, wv] none)) ∈ C) (h1 : hv.one = true) (h2 : hv.cells = [hv]) (hn : n ≤ 100000) (hd : ∀ s, Holds o s C → call PF 78 [rv] s = some (I n, s) ∧ call PF 27 [hv] s = some (I n, s))
    (hu : ∃ k : Nat, call PF 36 [hv] s = some (I k, s) ∧ call PF 79 [rv] s = some (I k, s)) (hb : ∀ s : St, againV rv rv s = some (.any, s)) (hi : ∀ i : Int, -1 ≤ i → i ≤ n → IsAt C id hv rv i) (H : Holds o s C) (q1 : ∀ s', Holds o s' C → Q (.bool true) s') : WP (call PF 38 [ptrN id] s) Q := by
  obtain ⟨k, k1, k2⟩ := hu
  rw [call_run F38]; simp -implicitDefEqProofs only [↓GP, GB, GL, Nat.reduceAdd, Nat.reduceSub, Nat.reduceEqDiff, Nat.reduceMul, Nat.reduceLeDiff, Int.reduceBNe, Int.reduceBEq, Nat.reduceLT, reduceCtorEq, c38, H.mem mid, hd s H, k1, k2, hb, bne_self_eq_false]
  refine is_loop mid h1 h2 hn (fun s h => (hd s h).1) hi (fun s1 g1 => ?_) (n + 2) 0 s (by omega) H
  simp -implicitDefEqProofs only [↓GP, GB, GL, Nat.reduceAdd, Nat.reduceSub, Nat.reduceEqDiff, Nat.reduceMul, Nat.reduceLeDiff, Int.reduceBNe, Int.reduceBEq, Nat.reduceLT, reduceCtorEq]
  exact q1 s1 g1
theorem pair_is (h : PairOk u others G) (hin : In C p G.hp) (rin : RIn C q G.hr) (mid : (G.id, some G.hd) ∈ C) (H : Holds o s C) (q1 : ∀ s', Holds o s' C → Q (.bool true) s') : WP (call PF 38 [ptrN G.id] s) Q := by
  have hl := h.plen
  have hp : ∀ g ∈ G.hp.regs, g.pages.length ≤ 400 := fun g hg => by have := (h.okp hg).2.1; simp only [PReg.m] at this; omega
  have hp' : ∀ g ∈ G.hr.regs, g.pages.length ≤ 400 := fun g hg => by have := (h.okr hg).2.1; simp only [RReg.m] at this; omega
  have hsame : G.hp.regs.map (·.pages) = G.hr.regs.map (·.pages) := by
    have := congrArg (List.map Reg.pages) h.same
    rwa [List.map_map, List.map_map] at this
  refine s38 (n := G.hp.regs.length) mid rfl rfl hl (fun s H => ⟨by rw [h.len]; exact s78 H rin h.rne, s27 H hin⟩) ⟨_, s36 H hin h.pne hl hp, by rw [hsame]; exact s79 H rin h.rne h.rlen hp'⟩ (fun s => againV_ptr _ s) (fun i h0 h1 => ?_) H q1
  by_cases hb : 0 ≤ i ∧ i < G.hp.regs.length
  · exact .inr ⟨u, others, G, p, q, i.toNat, h, hin, rin, mid, rfl, rfl, rfl, by omega, by omega⟩
  · exact .inl ⟨2, AtErr.of hin h.pne hl hb, RAtErr.of rin h.rne (by rw [← h.len]; exact hb)⟩
end
end Go.Proofs.Ytoldkemimhebaaa

set_option linter.unusedSimpArgs false
set_option linter.unusedVariables false
namespace Go.Proofs.Ytoldkemimhebaaa
open Go Go.IM
section
variable {o : Nat → Option O} {s : St} {C F : Ch} {Q : V → St → Prop} {p q r t : Nat} {u : List Bool} {G : PairG}
set_option maxRecDepth 10000
set_option maxHeartbeats 4000000
theorem PairOk.collected (h : PairOk u [] G) {L : List (Int × Int)} {hp' : PHeap} {D : List RReg} (d2 : hp'.lives = G.hp.lives) (d4 : hp'.regs.map PReg.m = colRegs L (colAll L u (G.hp.regs.map PReg.m))) (hR : RsOk G.hp.lives (colAll L u (G.hp.regs.map PReg.m)).u (hp'.regs.map PReg.m)) (hok : ∀ g ∈ hp'.regs, g.ok)
    (hD : D.map RReg.m = colRegs L (colAll L u (G.hp.regs.map PReg.m))) (hz : ∀ g ∈ D, g.pages.length = 0 → g.pgk = 0) (hl : hp'.regs.length = G.hp.regs.length) :
    PairOk (colAll L u (G.hp.regs.map PReg.m)).u [] { G with hp := hp', hr := { G.hr with regs := D } } where
  ulen := hR.ulen
  lives := by rw [d2]; exact h.lives
  same := by rw [d4, hD]
  inv := by rw [show ({ G with hp := hp', hr := { G.hr with regs := D } } : PairG).hp.lives = hp'.lives from rfl, d2]; exact hR.inv
  pool := by rw [List.append_nil]; exact hR.pool
  pok := hok
  grown := h.grown
  pz := hz
  one := fun e => by
    have h1 := h.one e
    have h2 := congrArg List.length (d4.trans hD.symm)
    simp only [List.length_map] at h2
    show D.length = 1
    have h3 := h.len
    omega
end
end Go.Proofs.Ytoldkemimhebaaa

set_option linter.unusedSimpArgs false
set_option linter.unusedVariables false
namespace Go.Proofs.Ytoldkemimhebaaa
open Go Go.IM
def c55 : IFn := ⟨16, [(4, none), (5, none)],
  (.seq (.region [oa 4 (.mov (ai 0)), oa 5 (.mov (ai 0))] (kp 16 [0,1]))
  (.seq (.seq (.region [oa 7 (.mov (.t 0)), oa 8 (.call 101 [(.t 7)])] (kp 16 [0,1,8]))
  (.cond (.t 8)
  (.seq (.region [oa 4 (.mov (ai 0)), oa 5 (.mov (ai 6))] (kp 16 [4,5]))
  (sr 16 [4,5]))
  (sk 16 [0,1])))
  (.seq (.region [oa 9 (.mov (.t 0)), oa 10 (.call 95 [(.t 9)]), oa 6 (.mov (.t 10))] (kp 16 [1,6]))
  (.seq (.region [oa 11 (.mov (.t 6)), oa 12 (.mov (.t 1)), oa 13 (.call 47 [(.t 11), (.t 12)])] (kp 16 [6]))
  (.seq (.region [oa 14 (.mov (.t 6)), oa 15 (.call 79 [(.t 14)]), oa 4 (.mov (.t 15)), oa 5 (.mov (ai 0))] (kp 16 [4,5]))
  (sr 16 [4,5]))))))⟩
theorem F55 : shutF Try.prog 55 = some c55 := by kernel_rfl
def c14 : IFn := ⟨127, [(6, none)],
  (.seq (.region [oa 6 (.mov (.c (.bool false)))] (kp 127 [0,1,2]))
  (.seq (.seq (.region [oa 22 (.mov (.t 0)), oa 23 (.mov (.t 1)), oa 24 (.mov (.t 2)), oa 25 (.call 40 [(.t 22), (.t 23), (.t 24)])] (kp 127 [0,1,2,25]))
  (.cond (.t 25)
  (.seq (.region [oa 26 (.call 41 []), oa 6 (.mov (.t 26))] (kp 127 [6]))
  (sr 127 [6]))
  (sk 127 [0,1,2])))
  (.seq (.region [oa 28 (.mov (.t 0)), oa 29 (.call 42 [(.t 28)]), oa 27 (.mov (.t 29)), oa 30 (.extract (.t 27) 0), oa 31 (.extract (.t 27) 1), oa 7 (.mov (.t 30)), oa 8 (.mov (.t 31))] (kp 127 [1,2,7,8]))
  (.seq (.seq (.region [oa 32 (.mov (.t 8)), oa 33 (.un .not (.t 32))] (kp 127 [1,2,7,33]))
  (.cond (.t 33)
  (.seq (.region [oa 6 (.mov (.c (.bool false)))] (kp 127 [6]))
  (sr 127 [6]))
  (sk 127 [1,2,7])))
  (.seq (.region [oa 34 (.mov (.t 7)), oa 35 (.mov (.t 1)), oa 36 (.mov (.t 2)), oa 37 (.call 43 [(.t 34), (.t 35), (.t 36)]), oa 9 (.mov (.t 37))] (kp 127 [7,9]))
  (.seq (.region [oa 39 (.mov (.t 7)), oa 40 (.nilCheck (.t 39)), oa 41 (.fieldAddr 0 (.t 40)), oa 42 (.load none (.t 41)), oa 43 (.mov (.t 9)), oa 44 (.call 44 [(.t 42), (.t 43)]), oa 38 (.mov (.t 44)), oa 45 (.extract (.t 38) 0), oa 46 (.extract (.t 38) 1), oa 10 (.mov (.t 45)), oa 11 (.mov (.t 46))] (kp 127 [7,9,10,11]))
  (.seq (.region [oa 48 (.mov (.t 7)), oa 49 (.nilCheck (.t 48)), oa 50 (.fieldAddr 1 (.t 49)), oa 51 (.load none (.t 50)), oa 52 (.mov (.t 9)), oa 53 (.call 52 [(.t 51), (.t 52)]), oa 47 (.mov (.t 53)), oa 54 (.extract (.t 47) 0), oa 55 (.extract (.t 47) 1), oa 12 (.mov (.t 54)), oa 13 (.mov (.t 55))] (kp 127 [7,9,10,11,12,13]))
  (.seq (.region [oa 57 (.mov (.t 7)), oa 58 (.nilCheck (.t 57)), oa 59 (.fieldAddr 0 (.t 58)), oa 60 (.load none (.t 59)), oa 61 (.mov (.t 9)), oa 62 (.call 53 [(.t 60), (.t 61)]), oa 56 (.mov (.t 62)), oa 63 (.extract (.t 56) 0), oa 64 (.extract (.t 56) 1), oa 14 (.mov (.t 63)), oa 15 (.mov (.t 64))] (kp 127 [7,9,10,11,12,13,14,15]))
  (.seq (.region [oa 66 (.mov (.t 7)), oa 67 (.nilCheck (.t 66)), oa 68 (.fieldAddr 1 (.t 67)), oa 69 (.load none (.t 68)), oa 70 (.mov (.t 9)), oa 71 (.call 54 [(.t 69), (.t 70)]), oa 65 (.mov (.t 71)), oa 72 (.extract (.t 65) 0), oa 73 (.extract (.t 65) 1), oa 16 (.mov (.t 72)), oa 17 (.mov (.t 73))] (kp 127 [7,9,10,11,12,13,14,15,16,17]))
  (.seq (.region [oa 75 (.mov (.t 7)), oa 76 (.nilCheck (.t 75)), oa 77 (.fieldAddr 0 (.t 76)), oa 78 (.load none (.t 77)), oa 79 (.mov (.t 9)), oa 80 (.call 49 [(.t 78), (.t 79)]), oa 74 (.mov (.t 80)), oa 81 (.extract (.t 74) 0), oa 82 (.extract (.t 74) 1), oa 18 (.mov (.t 81)), oa 19 (.mov (.t 82))] (kp 127 [7,9,10,11,12,13,14,15,16,17,18,19]))
  (.seq (.region [oa 84 (.mov (.t 7)), oa 85 (.nilCheck (.t 84)), oa 86 (.fieldAddr 1 (.t 85)), oa 87 (.load none (.t 86)), oa 88 (.mov (.t 9)), oa 89 (.call 55 [(.t 87), (.t 88)]), oa 83 (.mov (.t 89)), oa 90 (.extract (.t 83) 0), oa 91 (.extract (.t 83) 1), oa 20 (.mov (.t 90)), oa 21 (.mov (.t 91))] (kp 127 [7,10,11,12,13,14,15,16,17,18,19,20,21]))
  (.seq (.region [oa 92 (.mov (.t 11)), oa 93 (.mov (.t 13)), oa 94 (.bin .eql (.t 92) (.t 93)), oa 95 (.mov (.t 94)), oc 96 (.mov (.t 10)) 95 tt, oc 97 (.mov (.t 12)) 95 tt, oc 98 (.call 48 [(.t 96), (.t 97)]) 95 tt, oa 99 (.pick (.t 95) (.t 98) (.c (.bool false))), oa 100 (.mov (.t 99)), oc 101 (.mov (.t 14)) 100 tt, oc 102 (.mov (.t 16)) 100 tt, oc 103 (.bin .eql (.t 101) (.t 102)) 100 tt, oa 104 (.pick (.t 100) (.t 103) (.c (.bool false))), oa 105 (.mov (.t 104)), oc 106 (.mov (.t 15)) 105 tt, oc 107 (.mov (.t 17)) 105 tt, oc 108 (.bin .eql (.t 106) (.t 107)) 105 tt, oa 109 (.pick (.t 105) (.t 108) (.c (.bool false))), oa 110 (.mov (.t 109)), oc 111 (.mov (.t 18)) 110 tt, oc 112 (.mov (.t 20)) 110 tt, oc 113 (.bin .eql (.t 111) (.t 112)) 110 tt, oa 114 (.pick (.t 110) (.t 113) (.c (.bool false))), oa 115 (.mov (.t 114)), oc 116 (.mov (.t 19)) 115 tt, oc 117 (.mov (.t 21)) 115 tt, oc 118 (.bin .eql (.t 116) (.t 117)) 115 tt, oa 119 (.pick (.t 115) (.t 118) (.c (.bool false))), oa 120 (.mov (.t 119)), oc 121 (.mov (.t 7)) 120 tt, oc 122 (.call 38 [(.t 121)]) 120 tt, oa 123 (.pick (.t 120) (.t 122) (.c (.bool false))), oa 124 (.mov (.t 123)), oc 125 (.call 41 []) 124 tt, oa 126 (.pick (.t 124) (.t 125) (.c (.bool false))), oa 6 (.mov (.t 126))] (kp 127 [6]))
  (sr 127 [6])))))))))))))⟩
theorem F14 : shutF Try.prog 14 = some c14 := by kernel_rfl
section
variable {o : Nat → Option O} {s : St} {C F : Ch} {Q : V → St → Prop} {p q r t : Nat} {u : List Bool} {G : PairG}
set_option maxRecDepth 10000
set_option maxHeartbeats 4000000
theorem told_ref {L : List (Int × Int)} {lv : Nat} {gs : List PReg} {D : List RReg} (h : RsOk lv u (gs.map PReg.m)) (e : D.map RReg.m = colRegs L (colAll L u (gs.map PReg.m))) : inUseM (D.map (·.pages)) = pgSum L gs := by
  have h1 := (collected (L := L) h).1
  rw [← e, List.map_map] at h1
  rw [pg_sum, ← h1]
  unfold inUseM
  rw [List.map_map]
  rfl
theorem s55 {hp : PHeap} {hr : RHeap} {kr lv : Nat} {roots : List (Int × Int)} (H : Holds o s (poolC q r u ++ (hr.ch q ++ F))) (hm : hp.regs.map PReg.m = hr.regs.map RReg.m) (hR : RsOk lv u (hr.regs.map RReg.m)) (hu : 0 < u.length) (hlen : hr.regs.length ≤ 900) (hr' : (kr, rowO 2 roots.length (roots.flatMap encW)) ∈ F) (hrl : roots.length ≤ 1000) (hall : (allW hp).length ≤ 90000)
    (k : ∀ s', Holds o s' (poolC q r u ++ (hr.ch q ++ F)) → Q (.tuple [I (pgSum (reachW hp roots) hp.regs), I 0]) s') : WP (call PF 55 [ptrN hr.id, rowV kr roots.length] s) Q := by
  have rl : RLook (poolC q r u ++ (hr.ch q ++ F)) q hr := hR.rlook fun y hy => List.mem_append_right _ (List.mem_append_left _ hy)
  have e := s101 H rl.rin rl.ne
  have hul := hR.ulen
  have hpl : ∀ g ∈ hr.regs, g.pages.length ≤ 400 := fun g hg => by have := (hR.pg (List.mem_map.2 ⟨g, hg, rfl⟩)).1; simp only [RReg.m] at this; omega
  rw [call_run F55]; simp -implicitDefEqProofs only [↓GP, GB, GL, Nat.reduceAdd, Nat.reduceSub, Nat.reduceEqDiff, Nat.reduceMul, Nat.reduceLeDiff, Int.reduceBNe, Int.reduceBEq, Nat.reduceLT, reduceCtorEq, c55, e]
  refine wp_in (s95 (gr := false) (p := q) (r := r) (u := u) (C := hr.ch q ++ F) H (hR.rlook fun y hy => List.mem_append_left _ hy) ⟨hu, by omega⟩ hpl fun s2 hc p2 r2 e1 e2 e3 e4 h2 => ?_)
  simp -implicitDefEqProofs only [↓GP, GB, GL, Nat.reduceAdd, Nat.reduceSub, Nat.reduceEqDiff, Nat.reduceMul, Nat.reduceLeDiff, Int.reduceBNe, Int.reduceBEq, Nat.reduceLT, reduceCtorEq]
  have hRc : RsOk lv u (hc.regs.map RReg.m) := by rw [e1]; exact hR
  have hcl : hc.regs.length = hr.regs.length := by have := congrArg List.length e1; simpa using this
  refine wp_in (s47 (gr := true) (hp := hp) (hr := hc) (q := p2) (r := r2) (u := u) (lv := lv) (F := poolG false q r u ++ (hr.ch q ++ F)) h2 (hm.trans e1.symm) hRc hu (by omega) (List.mem_append_right _ (List.mem_append_right _ hr')) hrl hall fun s3 D kout q1 q2 h3 => ?_)
  simp -implicitDefEqProofs only [↓GP, GB, GL, Nat.reduceAdd, Nat.reduceSub, Nat.reduceEqDiff, Nat.reduceMul, Nat.reduceLeDiff, Int.reduceBNe, Int.reduceBEq, Nat.reduceLT, reduceCtorEq]
  rw [e1] at q1 h3
  rw [← hm] at q1
  have hR2 : RsOk lv u (hp.regs.map PReg.m) := by rw [hm]; exact hR
  have hDl : D.length = hp.regs.length := by
    have h1 := congrArg List.length ((collected (L := reachW hp roots) hR2).1)
    rw [← q1] at h1
    simpa using h1
  have hhl : hp.regs.length = hr.regs.length := by have := congrArg List.length hm; simpa using this
  have hDp : ∀ g ∈ D, g.pages.length ≤ 400 := fun g hg => by
    have h1 := (collected (L := reachW hp roots) hR2).1
    rw [← q1, List.map_map] at h1
    have h2 : g.pages.length ∈ (hp.regs.map PReg.m).map (pgM (reachW hp roots)) := h1 ▸ List.mem_map.2 ⟨g, hg, rfl⟩
    obtain ⟨x, hx, e⟩ := List.mem_map.1 h2
    have h3 := pgM_le (L := reachW hp roots) (hR2.inv.reg x hx)
    have h4 := (hR2.pg hx).1
    omega
  have e79 := s79 (hr := { hc with regs := D }) (p := p2) h3 ⟨fun y hy => List.mem_cons_of_mem _ (List.mem_append_right _ (List.mem_append_left _ hy))⟩ (fun e => hR2.inv.ne (List.length_eq_zero_iff.1 (by rw [List.length_map, ← hDl]; simp only at e; rw [e]; rfl))) (by simp only; omega) hDp
  simp only [told_ref hR2 q1] at e79
  simp -implicitDefEqProofs only [↓GP, GB, GL, Nat.reduceAdd, Nat.reduceSub, Nat.reduceEqDiff, Nat.reduceMul, Nat.reduceLeDiff, Int.reduceBNe, Int.reduceBEq, Nat.reduceLT, reduceCtorEq, e79]
  exact k s3 (Holds.of (h3) (fun k => by simp +arith only [HA, HB]) (fun k x => by simp only [HA, HC]; grind only))
theorem collectReached_im {v v1 v2 : V} {l : List (ActG × List Bool)} {is : List Int} {os : List (Int × Int)} (hA : ActsAt o v l) (hll : l.length < 2 ^ 61) (hI : OldI o v1 is) (hO : OldW o v2 os) (s : St) (hs : s.old = o) : ∃ st, call PF 14 [v, v1, v2] s = some (.bool true, st) := by
  refine im_trueC ?_
  have e40 := s40 hs hA hll hI.len hO.len
  cases hlg : longR l is.length os.length with
  | true =>
    rw [hlg] at e40
    obtain ⟨t, ht, -⟩ := sane16 s
    rw [call_run F14]; simp -implicitDefEqProofs only [↓GP, GB, GL, Nat.reduceAdd, Nat.reduceSub, Nat.reduceEqDiff, Nat.reduceMul, Nat.reduceLeDiff, Int.reduceBNe, Int.reduceBEq, Nat.reduceLT, reduceCtorEq, c14, e40, ht]
  | false =>
    rw [hlg] at e40
    obtain ⟨hlb, hil, hol⟩ := longR_false hlg
    have hl := longB_lenC hlb
    rw [call_run F14]; simp -implicitDefEqProofs only [↓GP, GB, GL, Nat.reduceAdd, Nat.reduceSub, Nat.reduceEqDiff, Nat.reduceMul, Nat.reduceLeDiff, Int.reduceBNe, Int.reduceBEq, Nat.reduceLT, reduceCtorEq, c14, e40]
    refine wp_in (s42 hA hl (H0c hs) fun s1 p r q t u G ok hul hlv hws h1 => ?_)
    simp -implicitDefEqProofs only [↓GP, GB, GL, Nat.reduceAdd, Nat.reduceSub, Nat.reduceEqDiff, Nat.reduceMul, Nat.reduceLeDiff, Int.reduceBNe, Int.reduceBEq, Nat.reduceLT, reduceCtorEq]
    have hR := ok.rs
    obtain ⟨hall, hlen⟩ := hR.all hlv
    refine wp_in (s43 hI hil hO hol (by omega) World.id World.wk h1 fun s2 kr h2 => ?_)
    have hrl : (pickL G.ws is ++ os).length ≤ 60 := by
      have : (pickL G.ws is).length ≤ 40 := by unfold pickL; exact Nat.le_trans (List.length_filterMap_le ..) hil
      simp; omega
    generalize pickL G.ws is ++ os = roots at h2 hrl
    have hRr : RsOk G.hp.lives u (G.hr.regs.map RReg.m) := by rw [← ok.same]; exact hR
    have lk : ∀ {D : Ch}, (∀ y ∈ World p r q t u G [], y ∈ D) → Look D p G.hp := fun hD => hR.look ok.pok fun y hy => hD y (World.in_.sub y hy)
    have rk : ∀ {D : Ch}, (∀ y ∈ World p r q t u G [], y ∈ D) → RLook D q G.hr := fun hD => hRr.rlook fun y hy => hD y (World.rin.sub y hy)
    have hw31 : ∀ g ∈ G.hp.regs, ∀ x ∈ g.objs, x.b.ws.length ≤ 31 := fun g hg x hx => ((hR.inv.reg g.m (List.mem_map.2 ⟨g, hg, rfl⟩)).ws x.b (List.mem_map.2 ⟨x, hx, rfl⟩)).2.1
    have hrr := ok.len
    have fG := h2.mem (List.mem_cons_of_mem _ World.id)
    simp only [PairG.hd] at fG
    simp -implicitDefEqProofs only [↓GP, GB, GL, Nat.reduceAdd, Nat.reduceSub, Nat.reduceEqDiff, Nat.reduceMul, Nat.reduceLeDiff, Int.reduceBNe, Int.reduceBEq, Nat.reduceLT, reduceCtorEq, fG]
    refine wp_in (s44 h2 (lk fun y hy => List.mem_cons_of_mem _ hy) (List.mem_cons_self ..) (by omega) hall fun s3 k1 h3 => ?_)
    have fG3 := h3.mem (List.mem_cons_of_mem _ (List.mem_cons_of_mem _ World.id))
    simp only [PairG.hd] at fG3
    simp -implicitDefEqProofs only [↓GP, GB, GL, Nat.reduceAdd, Nat.reduceSub, Nat.reduceEqDiff, Nat.reduceMul, Nat.reduceLeDiff, Int.reduceBNe, Int.reduceBEq, Nat.reduceLT, reduceCtorEq, fG3]
    refine wp_in (s52 h3 (rk fun y hy => List.mem_cons_of_mem _ (List.mem_cons_of_mem _ hy)) ok.same hw31 (List.mem_cons_of_mem _ (List.mem_cons_self ..)) (by omega) hall fun s4 k2 h4 => ?_)
    have fG4 := h4.mem (List.mem_cons_of_mem _ (List.mem_cons_of_mem _ (List.mem_cons_of_mem _ World.id)))
    simp only [PairG.hd] at fG4
    simp -implicitDefEqProofs only [↓GP, GB, GL, Nat.reduceAdd, Nat.reduceSub, Nat.reduceEqDiff, Nat.reduceMul, Nat.reduceLeDiff, Int.reduceBNe, Int.reduceBEq, Nat.reduceLT, reduceCtorEq, fG4]
    refine wp_in (s53 (u := u) h4 (lk fun y hy => List.mem_cons_of_mem _ (List.mem_cons_of_mem _ (List.mem_cons_of_mem _ hy))) hR (List.mem_cons_of_mem _ (List.mem_cons_of_mem _ (List.mem_cons_self ..))) (by omega) hall (by omega) fun s5 h5 => ?_)
    have fG5 := h5.mem (List.mem_cons_of_mem _ (List.mem_cons_of_mem _ (List.mem_cons_of_mem _ World.id)))
    simp only [PairG.hd] at fG5
    simp -implicitDefEqProofs only [↓GP, GB, GL, Nat.reduceAdd, Nat.reduceSub, Nat.reduceEqDiff, Nat.reduceMul, Nat.reduceLeDiff, Int.reduceBNe, Int.reduceBEq, Nat.reduceLT, reduceCtorEq, fG5]
    refine wp_in (s54 (u := u) h5 (rk fun y hy => List.mem_cons_of_mem _ (List.mem_cons_of_mem _ (List.mem_cons_of_mem _ hy))) ok.same hRr hw31 (List.mem_cons_of_mem _ (List.mem_cons_of_mem _ (List.mem_cons_self ..))) (by omega) hall (by omega) fun s6 h6 => ?_)
    have fG6 := h6.mem (List.mem_cons_of_mem _ (List.mem_cons_of_mem _ (List.mem_cons_of_mem _ World.id)))
    simp only [PairG.hd] at fG6
    simp -implicitDefEqProofs only [↓GP, GB, GL, Nat.reduceAdd, Nat.reduceSub, Nat.reduceEqDiff, Nat.reduceMul, Nat.reduceLeDiff, Int.reduceBNe, Int.reduceBEq, Nat.reduceLT, reduceCtorEq, fG6]
    refine wp_in (s49 h6 (lk fun y hy => List.mem_cons_of_mem _ (List.mem_cons_of_mem _ (List.mem_cons_of_mem _ hy))) hR (List.mem_cons_of_mem _ (List.mem_cons_of_mem _ (List.mem_cons_self ..))) (by omega) hall (by omega) fun s7 h7 => ?_)
    have fG7 := h7.mem (List.mem_cons_of_mem _ (List.mem_cons_of_mem _ (List.mem_cons_of_mem _ World.id)))
    simp only [PairG.hd] at fG7
    simp -implicitDefEqProofs only [↓GP, GB, GL, Nat.reduceAdd, Nat.reduceSub, Nat.reduceEqDiff, Nat.reduceMul, Nat.reduceLeDiff, Int.reduceBNe, Int.reduceBEq, Nat.reduceLT, reduceCtorEq, fG7]
    generalize hLd : reachW G.hp roots = L at *
    have hLl : L.length ≤ 90000 := by rw [← hLd]; exact Nat.le_trans (Found.reach G.hp roots).len hall
    refine wp_in (s55 (hp := G.hp) (hr := G.hr) (q := q) (r := t) (u := u) (F := (kr, rowO 2 roots.length (roots.flatMap encW)) :: (k1, rowO 2 L.length (L.flatMap encW)) :: (k2, rowO 2 L.length (L.flatMap encW)) :: (poolC p r u ++ (G.pc ++ G.hp.ch p))) (Holds.of (h7) (fun k => by simp +arith only [HA, HB]) (fun k x => by simp only [HA, HC]; grind only)) ok.same hRr (by omega) (by omega) (List.mem_cons_self ..) (by omega) hall fun s8 h8 => ?_)
    rw [hLd]
    have h9 : Holds o s8 ((k1, rowO 2 L.length (L.flatMap encW)) :: (k2, rowO 2 L.length (L.flatMap encW)) :: World p r q t u G []) := (Holds.of (h8) (fun k => by simp +arith only [HA, HB]) (fun k x => by simp only [HA, HC]; grind only))
    have e48 := s48 h9 (l := L) (v := rowV k1 L.length) (v' := rowV k2 L.length) (SlAt.row (sz := 2) (List.mem_cons_self ..)) (SlAt.row (sz := 2) (List.mem_cons_of_mem _ (List.mem_cons_self ..))) (by omega)
    rw [← ok.same]
    have hq : ∀ n : Nat, ((n : Int) == (n : Int)) = true := fun n => by simp
    simp -implicitDefEqProofs only [↓GP, GB, GL, Nat.reduceAdd, Nat.reduceSub, Nat.reduceEqDiff, Nat.reduceMul, Nat.reduceLeDiff, Int.reduceBNe, Int.reduceBEq, Nat.reduceLT, reduceCtorEq, e48, hq, Int.reduceBEq]
    refine wp_in (pair_is (p := p) (q := q) ok ⟨fun x hx => List.mem_cons_of_mem _ (List.mem_cons_of_mem _ (World.in_.sub x hx))⟩ ⟨fun x hx => List.mem_cons_of_mem _ (List.mem_cons_of_mem _ (World.rin.sub x hx))⟩ (List.mem_cons_of_mem _ (List.mem_cons_of_mem _ World.id)) h9 fun s9 h10 => ?_)
    obtain ⟨t', ht', -⟩ := sane16 s9
    simp -implicitDefEqProofs only [↓GP, GB, GL, Nat.reduceAdd, Nat.reduceSub, Nat.reduceEqDiff, Nat.reduceMul, Nat.reduceLeDiff, Int.reduceBNe, Int.reduceBEq, Nat.reduceLT, reduceCtorEq, ht']
end
end Go.Proofs.Ytoldkemimhebaaa

set_option linter.unusedSimpArgs false
set_option linter.unusedVariables false
namespace Go.IM
open Go.ChangeShapes Go.WideShapes Go.RowKit
inductive D where
  | lit (v : V)
  | agg (ds : List D)
  | sl (sz : Nat) (es : List D)
  deriving Inhabited
mutual
inductive Rep (o : Nat → Option O) : D → List V → Prop
  | lit (v : V) : Rep o (.lit v) [v]
  | agg {ds : List D} {cs : List V} : Reps o ds cs → Rep o (.agg ds) cs
  | nil {sz : Nat} {a : Option Ad} {c : Option Nat} : Rep o (.sl sz []) [.slice a 0 c]
  | sl {sz b off cap : Nat} {d : D} {es : List D} {C : List V} : o b = some (.cells C none) → RepE o C sz off (d :: es) → Rep o (.sl sz (d :: es)) [.slice (some ⟨.old b, off⟩) (d :: es).length (some cap)]
inductive Reps (o : Nat → Option O) : List D → List V → Prop
  | nil : Reps o [] []
  | cons {d : D} {ds : List D} {c cs : List V} : Rep o d c → Reps o ds cs → Reps o (d :: ds) (c ++ cs)
inductive RepE (o : Nat → Option O) : List V → Nat → Nat → List D → Prop
  | nil {C : List V} {sz off : Nat} : RepE o C sz off []
  | cons {C : List V} {sz off : Nat} {d : D} {ds : List D} {c : List V} : cut C off sz = some c → Rep o d c → RepE o C sz (off + sz) ds → RepE o C sz off (d :: ds)
end

mutual
inductive HasTy (P : Program) : TypeId → D → Prop
  | bool {t : TypeId} {b : Bool} : P.underlying t = some .bool → HasTy P t (.lit (.bool b))
  | int {t : TypeId} {k : IntKind} {n : Int} : P.underlying t = some (.int k) → (Lit.int k n).wf = true → HasTy P t (.lit (.int k n))
  | str {t : TypeId} {s : ByteArray} : P.underlying t = some .string → s.size ≤ maxLen → HasTy P t (.lit (.str s))
  | sl {t e : TypeId} {es : List D} : P.underlying t = some (.slice e) → es.length ≤ maxLen → (∀ d ∈ es, HasTy P e d) → HasTy P t (.sl (P.cellsOf e) es)
  | agg {t : TypeId} {fs : Array Field} {ds : List D} : P.underlying t = some (.struct fs) → HasTys P fs.toList ds → HasTy P t (.agg ds)
inductive HasTys (P : Program) : List Field → List D → Prop
  | nil : HasTys P [] []
  | cons {f : Field} {fs : List Field} {d : D} {ds : List D} : HasTy P f.type d → HasTys P fs ds → HasTys P (f :: fs) (d :: ds)
end

def tileB (P : Program) (total : Nat) : Nat → List Field → Bool
  | off, [] => off == total
  | off, f :: fs => f.offset == off && tileB P total (off + P.cellsOf f.type) fs
def tyOk (P : Program) (Ts : List TypeId) : Bool := Ts.all fun t => match P.underlying t with
  | some .bool | some (.int _) | some .string => true
  | some (.slice e) => Ts.contains e && decide (0 < P.cellsOf e)
  | some (.struct fs) => fs.toList.all (fun f => Ts.contains f.type) && tileB P (P.cellsOf t) 0 fs.toList
  | _ => false
theorem ofVals_map : ∀ l : List Value, ofVals l = l.map ofVal
  | [] => rfl
  | v :: l => by rw [ofVals, ofVals_map l]; rfl
theorem ofVals_append (l m : List Value) : ofVals (l ++ m) = ofVals l ++ ofVals m := by rw [ofVals_map, ofVals_map, ofVals_map, List.map_append]
section
variable {H : Type} {enc : TypeId × Value → H} {W : Go.World} {P : Program}
theorem rd {base n : Nat} {a : Addr} {cs : List Value} (hn : 0 < n) (h : W.cells? base a n = some cs) : a.spot = none ∧ ∃ C, (oldSt W).old a.block = some (.cells C none) ∧ cut C a.off n = some (ofVals cs) := by
  obtain ⟨_, hlen, hc⟩ := Go.World.cells?_some h
  have h0 := hc 0 hn
  rw [show a.add 0 = a from rfl, List.getElem?_eq_getElem (by omega)] at h0
  unfold Go.World.cell? at h0
  split at h0
  · rename_i c el fr hb
    split at h0
    · cases h0
    · rename_i hs
      refine ⟨by simpa using hs, ofVals c.toList, by simp [oldSt, hb], ?_⟩
      have hget : ∀ i, i < n → c[a.off + i]? = cs[i]? := by
        intro i hi
        have := hc i hi
        rw [← this]
        unfold Go.World.cell? Addr.add
        by_cases h0 : i = 0
        · subst h0; simp [hb, hs]
        · simp [h0, hb]
      have hsz : a.off + n ≤ c.size := by
        have := hget (n - 1) (by omega)
        rw [List.getElem?_eq_getElem (by omega)] at this
        have := (Array.getElem?_eq_some_iff.1 this).1
        omega
      rw [ofVals_map, ofVals_map]
      unfold cut
      rw [if_pos (by simp; exact hsz)]
      congr 1
      apply List.ext_getElem?
      intro i
      by_cases hi : i < n
      · rw [List.getElem?_take, if_pos hi, List.getElem?_drop, List.getElem?_map, List.getElem?_map, Array.getElem?_toList, hget i hi]
      · rw [List.getElem?_eq_none (by simp; omega), List.getElem?_eq_none (by simp; omega)]
  · cases h0
theorem ofVal_slice {a : Addr} {len cap : Nat} (hl : len ≤ cap) (hsp : 0 < cap → a.spot = none) : ofVal (.slice (some a) len cap) = .slice (some ⟨.old a.block, a.off⟩) len (some cap) := by
  obtain ⟨b, off, sp⟩ := a
  cases sp with
  | none => simp [ofVal, hl]
  | some x =>
    have hc : cap = 0 := by
      rcases Nat.eq_zero_or_pos cap with h | h
      · exact h
      · have := hsp h; simp at this
    subst hc
    have : len = 0 := by omega
    subst this
    rfl
theorem add_block (a : Addr) (i : Nat) : (a.add i).block = a.block := by unfold Addr.add; split <;> rfl
theorem add_off (a : Addr) (i : Nat) : (a.add i).off = a.off + i := by unfold Addr.add; split <;> simp_all
theorem rep_of {Ts : List TypeId} (hT : tyOk P Ts = true) : ∀ (fuel : Nat) (t : TypeId) (cs : List Value) (x : DataW H × List MemPlace), t ∈ Ts → DataW.trod enc P W 0 (fun _ => true) true fuel t cs = some x →
    ∃ d, HasTy P t d ∧ Rep (oldSt W).old d (ofVals cs) := by
  intro fuel
  induction fuel using Nat.strongRecOn with
  | _ fuel ih =>
    intro t cs x ht h
    have hk := List.all_eq_true.1 hT t ht
    split at hk
    · rename_i hu
      obtain ⟨b, rfl, _⟩ := DataW.trod_bool hu h
      exact ⟨_, .bool hu, .lit _⟩
    · rename_i k hu
      obtain ⟨n, rfl, _, hw⟩ := DataW.trod_int hu h
      exact ⟨_, .int hu hw, .lit _⟩
    · rename_i hu
      obtain ⟨s, rfl, _, hs⟩ := DataW.trod_string hu h
      exact ⟨_, .str hu hs, .lit _⟩
    · rename_i e hu
      rw [Bool.and_eq_true, List.contains_eq_mem, decide_eq_true_eq, decide_eq_true_eq] at hk
      obtain ⟨he, h0⟩ := hk
      rcases DataW.trod_slice hu h with ⟨rfl, _⟩ | ⟨a, len, cap, elems, rest, n, rfl, rfl, _, hb, hl, hm, hlen, hel, hsp, _⟩
      · exact ⟨.sl _ [], .sl hu (by simp [maxLen]) (fun d hd => by cases hd), .nil⟩
      · have hspot : 0 < cap → a.spot = none := fun hc => by
          have hx : ∃ y, (W.cells? 0 a (P.cellsOf e)).bind (DataW.trod enc P W 0 (fun _ => true) true n e) = some y := by
            rcases Nat.eq_zero_or_pos len with h1 | h1
            · obtain ⟨q1, q2⟩ := hsp rfl
              have := q2 0 (by omega)
              rw [h1, show ((0 + 0) * P.cellsOf e) = 0 by simp, show a.add 0 = a from rfl, List.getElem?_eq_getElem (by omega)] at this
              exact ⟨_, this⟩
            · have := hel 0 h1
              rw [show (0 * P.cellsOf e) = 0 by simp, show a.add 0 = a from rfl, List.getElem?_eq_getElem (by omega)] at this
              exact ⟨_, this⟩
          obtain ⟨y, hy⟩ := hx
          rw [Option.bind_eq_some_iff] at hy
          obtain ⟨c, hc, _⟩ := hy
          exact (rd h0 hc).1
        have each : ∀ i, i < len → ∃ d c, HasTy P e d ∧ Rep (oldSt W).old d c ∧ ∃ C, (oldSt W).old a.block = some (.cells C none) ∧ cut C (a.off + i * P.cellsOf e) (P.cellsOf e) = some c := by
          intro i hi
          have := hel i hi
          rw [List.getElem?_eq_getElem (by omega), Option.bind_eq_some_iff] at this
          obtain ⟨c, h1, h2⟩ := this
          obtain ⟨d, k1, k2⟩ := ih n (by omega) e c _ he h2
          obtain ⟨_, C, k3, k4⟩ := rd h0 h1
          rw [add_block] at k3
          rw [add_off] at k4
          exact ⟨d, _, k1, k2, C, k3, k4⟩
        have all : ∀ m i, i + m = len → ∀ C, (oldSt W).old a.block = some (.cells C none) → ∃ es, es.length = m ∧ (∀ d ∈ es, HasTy P e d) ∧ RepE (oldSt W).old C (P.cellsOf e) (a.off + i * P.cellsOf e) es := by
          intro m
          induction m with
          | zero => exact fun i _ C _ => ⟨[], rfl, (fun d hd => by cases hd), .nil⟩
          | succ m ihm =>
            intro i hi C hC
            obtain ⟨d, c, k1, k2, C', k3, k4⟩ := each i (by omega)
            rw [hC] at k3; cases k3
            obtain ⟨es, q1, q2, q3⟩ := ihm (i + 1) (by omega) C hC
            refine ⟨d :: es, by simp [q1], fun d' hd' => ?_, .cons k4 k2 ?_⟩
            · rcases List.mem_cons.1 hd' with rfl | hd'
              · exact k1
              · exact q2 _ hd'
            · rw [Nat.add_mul, Nat.one_mul, ← Nat.add_assoc] at q3; exact q3
        rw [show ofVals [Value.slice (some a) len cap] = [ofVal (.slice (some a) len cap)] from rfl, ofVal_slice hl hspot]
        rcases Nat.eq_zero_or_pos len with h1 | h1
        · subst h1
          exact ⟨.sl _ [], .sl hu (by simp [maxLen]) (fun d hd => by cases hd), .nil⟩
        · obtain ⟨_, _, _, _, C, hC, _⟩ := each 0 h1
          obtain ⟨es, q1, q2, q3⟩ := all len 0 (by omega) C hC
          rw [Nat.zero_mul, Nat.add_zero] at q3
          match es, q1 with
          | [], q1 => simp at q1; omega
          | d :: es, q1 =>
            refine ⟨.sl _ (d :: es), .sl hu (by omega) q2, ?_⟩
            rw [← q1]
            exact .sl hC q3
    · rename_i fs hu
      rw [Bool.and_eq_true] at hk
      obtain ⟨hm, htile⟩ := hk
      obtain ⟨xs, n, rfl, _, hlen, hxl, hf⟩ := DataW.trod_struct hu h
      have each : ∀ f ∈ fs.toList, ∃ d, HasTy P f.type d ∧ Rep (oldSt W).old d (ofVals ((cs.drop f.offset).take (P.cellsOf f.type))) := by
        intro f hfm
        obtain ⟨i, hi, rfl⟩ := List.mem_iff_getElem.1 hfm
        have hi' : i < fs.size := by simpa using hi
        have := hf i fs[i] (by simp [hi'])
        rw [List.getElem?_eq_getElem (by omega)] at this
        have hmem := List.all_eq_true.1 hm _ (List.getElem_mem hi)
        rw [List.contains_eq_mem, decide_eq_true_eq] at hmem
        simp only [Array.getElem_toList] at hmem ⊢
        exact ih n (by omega) _ _ _ hmem this
      have go : ∀ (l : List Field) (off : Nat), (∀ f ∈ l, f ∈ fs.toList) → tileB P (P.cellsOf t) off l = true → off ≤ cs.length → ∃ ds, HasTys P l ds ∧ Reps (oldSt W).old ds (ofVals (cs.drop off)) := by
        intro l
        induction l with
        | nil =>
          intro off _ h1 _
          have : off = P.cellsOf t := by simpa [tileB] using h1
          exact ⟨[], .nil, by rw [List.drop_eq_nil_of_le (by omega)]; exact .nil⟩
        | cons f l ihl =>
          intro off h0 h1 h2
          simp only [tileB, Bool.and_eq_true, beq_iff_eq] at h1
          obtain ⟨d, k1, k2⟩ := each f (h0 f (List.mem_cons_self ..))
          have le : ∀ (l : List Field) (off : Nat), tileB P (P.cellsOf t) off l = true → off ≤ P.cellsOf t := by
            intro l
            induction l with
            | nil => intro off h; have : off = P.cellsOf t := by simpa [tileB] using h
                     omega
            | cons f l ihl => intro off h; simp only [tileB, Bool.and_eq_true, beq_iff_eq] at h; have := ihl _ h.2; omega
          obtain ⟨ds, q1, q2⟩ := ihl (off + P.cellsOf f.type) (fun g hg => h0 g (List.mem_cons_of_mem _ hg)) h1.2 (by rw [hlen]; exact le _ _ h1.2)
          refine ⟨d :: ds, .cons k1 q1, ?_⟩
          rw [h1.1] at k2
          have e : cs.drop off = (cs.drop off).take (P.cellsOf f.type) ++ cs.drop (off + P.cellsOf f.type) := by
            rw [← List.drop_drop, List.take_append_drop]
          rw [e, ofVals_append]
          exact .cons k2 q2
      obtain ⟨ds, q1, q2⟩ := go fs.toList 0 (fun _ h => h) htile (by omega)
      exact ⟨.agg ds, .agg hu q1, .agg (by rw [List.drop_zero] at q2; exact q2)⟩
    · cases hk
end
def litEq : V → V → Bool
  | .bool a, .bool b => a == b
  | .int _ a, .int _ b => a == b
  | .str a, .str b => a.toList == b.toList
  | _, _ => false
mutual
def beqD : D → D → Bool
  | .lit a, .lit b => litEq a b
  | .agg a, .agg b => beqDs a b
  | .sl _ a, .sl _ b => beqDs a b
  | _, _ => false
def beqDs : List D → List D → Bool
  | [], [] => true
  | x :: xs, y :: ys => beqD x y && beqDs xs ys
  | _, _ => false
end

section
variable {o : Nat → Option O} {P : Program}
def Tys (P : Program) : List TypeId → List D → Prop
  | [], [] => True
  | t :: ts, d :: ds => HasTy P t d ∧ Tys P ts ds
  | _, _ => False
theorem HasTys.tys : ∀ {fs : List Field} {ds : List D}, HasTys P fs ds → Tys P (fs.map (·.type)) ds
  | [], _, .nil => trivial
  | _ :: _, _, .cons h hs => ⟨h, hs.tys⟩
def structT (P : Program) (t : TypeId) : Option (List TypeId) := match P.underlying t with
  | some (.struct fs) => some (fs.toList.map (·.type))
  | _ => none
theorem HasTy.struct {t : TypeId} {d : D} {L : List TypeId} (h : HasTy P t d) (hL : structT P t = some L) : ∃ ds, d = .agg ds ∧ Tys P L ds := by
  unfold structT at hL
  cases h with
  | agg hu hf => rw [hu] at hL; cases hL; exact ⟨_, rfl, hf.tys⟩
  | bool hu => rw [hu] at hL; cases hL
  | int hu _ => rw [hu] at hL; cases hL
  | str hu _ => rw [hu] at hL; cases hL
  | sl hu _ _ => rw [hu] at hL; cases hL
theorem HasTy.slice {t e : TypeId} {d : D} (h : HasTy P t d) (ht : P.underlying t = some (.slice e)) : ∃ es, d = .sl (P.cellsOf e) es ∧ es.length ≤ maxLen ∧ ∀ d ∈ es, HasTy P e d := by
  cases h with
  | sl hu hl he => rw [ht] at hu; cases hu; exact ⟨_, rfl, hl, he⟩
  | bool hu => rw [ht] at hu; cases hu
  | int hu _ => rw [ht] at hu; cases hu
  | str hu _ => rw [ht] at hu; cases hu
  | agg hu _ => rw [ht] at hu; cases hu
theorem HasTy.intv {t : TypeId} {k : IntKind} {d : D} (h : HasTy P t d) (ht : P.underlying t = some (.int k)) : ∃ n, d = .lit (.int k n) ∧ (Lit.int k n).wf = true := by
  cases h with
  | int hu hw => rw [ht] at hu; cases hu; exact ⟨_, rfl, hw⟩
  | bool hu => rw [ht] at hu; cases hu
  | str hu _ => rw [ht] at hu; cases hu
  | sl hu _ _ => rw [ht] at hu; cases hu
  | agg hu _ => rw [ht] at hu; cases hu
structure SlD (o : Nat → Option O) (sz : Nat) (es : List D) (v : V) : Prop where
  len : lenV v = some (.int .i64 es.length)
  get : ∀ (i : Nat) (h : i < es.length), ∃ b off C c, ixV sz v (.int .i64 (i : Int)) = some (.ptr (some ⟨.old b, off⟩)) ∧ Rep o es[i] c ∧ o b = some (.cells C none) ∧ cut C off sz = some c
  one : v.one = true
  cells : v.cells = [v]
  again : ∀ s : St, againV v v s = some (.any, s)
theorem RepE.get {C : List V} {sz : Nat} : ∀ {off : Nat} {es : List D}, RepE o C sz off es → ∀ (i : Nat) (h : i < es.length), ∃ c, cut C (off + i * sz) sz = some c ∧ Rep o es[i] c
  | _, _, .nil, i, h => by simp at h
  | _, _, .cons hc hr _, 0, h => ⟨_, by simpa using hc, hr⟩
  | off, _, .cons (ds := ds) _ _ hs, i + 1, h => by
    obtain ⟨c, h1, h2⟩ := hs.get i (by simpa using h)
    refine ⟨c, ?_, h2⟩
    rw [show off + (i + 1) * sz = off + sz + i * sz by rw [Nat.add_mul]; omega]
    exact h1
theorem Rep.slv {sz : Nat} {es : List D} {cs : List V} (h : Rep o (.sl sz es) cs) : ∃ v, cs = [v] ∧ SlD o sz es v := by
  cases h with
  | nil => exact ⟨_, rfl, rfl, fun i h => by simp at h, rfl, rfl, fun s => againV_slice _ _ _ s⟩
  | sl hC hE =>
    refine ⟨_, rfl, rfl, fun i hi => ?_, rfl, rfl, fun s => againV_slice _ _ _ s⟩
    obtain ⟨c, h1, h2⟩ := hE.get i hi
    refine ⟨_, _, _, c, ?_, h2, hC, h1⟩
    rw [ixV_int (by omega) (by omega)]
    simp
theorem Rep.litv {v : V} {cs : List V} (h : Rep o (.lit v) cs) : cs = [v] := by cases h; rfl
theorem Rep.aggv {ds : List D} {cs : List V} (h : Rep o (.agg ds) cs) : Reps o ds cs := by cases h; assumption
theorem Reps.consv {d : D} {ds : List D} {cs : List V} (h : Reps o (d :: ds) cs) : ∃ c c', cs = c ++ c' ∧ Rep o d c ∧ Reps o ds c' := by cases h; exact ⟨_, _, rfl, ‹_›, ‹_›⟩
theorem Reps.nilv {cs : List V} (h : Reps o [] cs) : cs = [] := by cases h; rfl
theorem ld_old {s : St} {b off sz : Nat} {C c : List V} (hs : s.old = o) (hC : o b = some (.cells C none)) (hc : cut C off sz = some c) (h0 : 0 < sz) :
    (loadV (some sz) (.ptr (some ⟨.old b, off⟩)) s = some (.agg c)) ∧ (loadV none (.ptr (some ⟨.old b, off⟩)) s = c[0]?) ∧ (∀ f, f < sz → loadV none (.ptr (some ⟨.old b, off + f⟩)) s = c[f]?) ∧
    (∀ f n, f + n ≤ sz → loadV (some n) (.ptr (some ⟨.old b, off + f⟩)) s = some (.agg ((c.drop f).take n))) := by
  have hrow : s.row (.old b) = some (C, none) := by simp only [St.row, St.get, hs, hC]
  have hcut : off + sz ≤ C.length ∧ c = (C.drop off).take sz := by
    unfold cut at hc; split at hc
    · cases hc; exact ⟨by assumption, rfl⟩
    · cases hc
  obtain ⟨h1, rfl⟩ := hcut
  have l1 : ∀ f, f < sz → loadV none (.ptr (some ⟨.old b, off + f⟩)) s = ((C.drop off).take sz)[f]? := by
    intro f hf
    rw [loadV_ptr]
    simp only [readCells, hrow, Option.getD_none]
    rw [cut_one', List.getElem?_take, if_pos hf, List.getElem?_drop]
  refine ⟨?_, by have := l1 0 h0; rwa [Nat.add_zero] at this, l1, fun f n hf => ?_⟩
  · rw [loadV_ptr]
    simp only [readCells, hrow, Option.getD_some, cut, if_pos h1]
    rfl
  · rw [loadV_ptr]
    simp only [readCells, hrow, Option.getD_some, cut]
    rw [if_pos (by omega)]
    show some (V.agg _) = _
    rw [List.drop_take, List.take_take, List.drop_drop, Nat.min_eq_left (by omega)]
end
end Go.IM

set_option linter.unusedSimpArgs false
set_option linter.unusedVariables false
namespace Go.Proofs.Ytoldkemimhebaaa
open Go Go.IM Go.ChangeShapes Go.WideShapes Go.RowKit
section
variable {H : Type} {enc : TypeId × Value → H} {W : Go.World} {o : Nat → Option O}
theorem oldI_of {d : D} {cs : List V} (hx : HasTy Try.prog 54 d) (hr : Rep o d cs) : ∃ v l, cs = [v] ∧ OldI o v l := by
  obtain ⟨es, rfl, hl, hes⟩ := hx.slice (e := 3) (by kernel_rfl)
  have c3 : Try.prog.cellsOf 3 = 1 := by kernel_rfl
  rw [c3] at hr
  obtain ⟨v, rfl, hs⟩ := hr.slv
  let val : D → Int := fun d => match d with | .lit (.int _ n) => n | _ => 0
  refine ⟨v, es.map val, rfl, by rw [List.length_map]; exact hs.len, fun i hi => ?_⟩
  have hi' : i < es.length := by simpa using hi
  obtain ⟨b, off, C, c, h1, h2, h3, h4⟩ := hs.get i hi'
  refine ⟨⟨.old b, off⟩, h1, fun s he => ?_⟩
  obtain ⟨n, en, _⟩ := (hes _ (List.getElem_mem hi')).intv (k := .i64) (by kernel_rfl)
  rw [List.getElem_map]
  rw [en] at h2 ⊢
  have := h2.litv
  subst this
  rw [(ld_old he h3 h4 (by omega)).2.1]
  rfl
theorem RepE.flat {C : List V} : ∀ {off : Nat} {es : List D}, RepE o C 2 off es → (∀ d ∈ es, ∃ a b : Int, d = .agg [.lit (.int .i64 a), .lit (.int .i64 b)]) →
    ∃ l : List (Int × Int), l.length = es.length ∧ (C.drop off).take (es.length * 2) = l.flatMap encW ∧ (es ≠ [] → off + es.length * 2 ≤ C.length)
  | _, _, .nil, _ => ⟨[], rfl, by simp, fun h => absurd rfl h⟩
  | off, _, .cons (d := d) (ds := ds) (c := c) hc hr hs, hd => by
    obtain ⟨l, h1, h2, h3⟩ := RepE.flat hs fun x hx => hd x (List.mem_cons_of_mem _ hx)
    obtain ⟨a, b, rfl⟩ := hd d (List.mem_cons_self ..)
    have hc2 : c = [V.int .i64 a, V.int .i64 b] := by
      have h4 := hr.aggv
      obtain ⟨c1, c2, rfl, k1, k2⟩ := h4.consv
      obtain ⟨c3, c4, rfl, k3, k4⟩ := k2.consv
      rw [k1.litv, k3.litv, k4.nilv]; rfl
    unfold cut at hc
    split at hc
    · rename_i hle
      simp only [Option.some.injEq] at hc
      have hlen : ds = [] → off + 2 ≤ C.length := fun _ => hle
      refine ⟨(a, b) :: l, by simp [h1], ?_, fun _ => ?_⟩
      · rw [List.length_cons, show (ds.length + 1) * 2 = 2 + ds.length * 2 by omega, List.take_add, hc, hc2, List.drop_drop, h2, List.flatMap_cons]
        rfl
      · cases ds with
        | nil => simpa using hle
        | cons x xs => have := h3 (by simp); simp at this ⊢; omega
    · cases hc
theorem oldW_of {fuel : Nat} {v : Value} {x : DataW H × List MemPlace} (h : DataW.trod enc Try.prog W 0 (fun _ => true) true fuel 41 [v] = some x) : ∃ l, OldW (oldSt W).old (ofVal v) l := by
  obtain ⟨d, hd, hr⟩ := rep_of (P := Try.prog) (Ts := [41, 47, 3]) (by kernel_rfl) fuel 41 [v] x (by simp) h
  obtain ⟨es, rfl, hl, hes⟩ := hd.slice (e := 47) (by kernel_rfl)
  have c47 : Try.prog.cellsOf 47 = 2 := by kernel_rfl
  rw [c47] at hr
  have hes' : ∀ d ∈ es, ∃ a b : Int, d = .agg [.lit (.int .i64 a), .lit (.int .i64 b)] := fun d hd => by
    obtain ⟨ds, rfl, ht⟩ := (hes d hd).struct (L := [3, 3]) (by kernel_rfl)
    obtain ⟨d1, ds1, rfl, t1, t2⟩ : ∃ d1 ds1, ds = d1 :: ds1 ∧ HasTy Try.prog 3 d1 ∧ Tys Try.prog [3] ds1 := by
      cases ds with
      | nil => exact ht.elim
      | cons a b => exact ⟨a, b, rfl, ht.1, ht.2⟩
    obtain ⟨d2, ds2, rfl, t3, t4⟩ : ∃ d1 ds2, ds1 = d1 :: ds2 ∧ HasTy Try.prog 3 d1 ∧ Tys Try.prog [] ds2 := by
      cases ds1 with
      | nil => exact t2.elim
      | cons a b => exact ⟨a, b, rfl, t2.1, t2.2⟩
    have e4 : ds2 = [] := by cases ds2 with | nil => rfl | cons _ _ => exact t4.elim
    obtain ⟨a, rfl, _⟩ := t1.intv (k := .i64) (by kernel_rfl)
    obtain ⟨b, rfl, _⟩ := t3.intv (k := .i64) (by kernel_rfl)
    exact ⟨a, b, by rw [e4]⟩
  rcases Go.Deep.open_slice (P := Try.prog) (t := 41) (e := 47) (by kernel_rfl) h with ⟨e, _⟩ | ⟨a, len, cap, m, n, DD, Pl, e, hb, hln, hm, hmm, hxe, hx⟩
  · cases e
    exact ⟨[], oldW_nil⟩
  · cases e
    rw [c47] at hx
    have hm' : m = cap := by simpa using hmm
    have hsp : 0 < cap → a.spot = none := fun hc => by
      obtain ⟨cs, h1, _⟩ := hx 0 (by omega)
      exact (rd (by omega) h1).1
    have hv := ofVal_slice hln hsp
    rw [show ofVals [Value.slice (some a) len cap] = [ofVal (.slice (some a) len cap)] from rfl, hv] at hr
    rw [hv]
    cases hr with
    | nil => exact ⟨[], rfl, fun s hs => by simp [newCells]⟩
    | sl hC hE =>
      rename_i C
      obtain ⟨l, h1, h2, h3⟩ := RepE.flat hE hes'
      refine ⟨l, by rw [h1]; rfl, fun s hs => ?_⟩
      have hrow : s.row (.old a.block) = some (C, none) := by simp only [St.row, St.get, hs]; rw [hC]
      rw [newCells, if_neg (by simp), readCells]
      simp only [hrow]
      rw [cut, if_pos (by have := h3 (by simp); simpa using this), Option.map_some, h2, h1]
end
end Go.Proofs.Ytoldkemimhebaaa

set_option linter.unusedSimpArgs false
set_option linter.unusedVariables false
namespace Go.Proofs.Ytoldkemimhebaaa
open Go Go.IM Go.ChangeShapes Go.WideShapes Go.ChangeAt Go.RowKit
set_option maxRecDepth 100000 in
theorem collectReached_lifted (os : Os) (started : os.Started) (H : Type) (enc : TypeId × Value → H) :
    ReturnsInHanded Rows.collectReachedRow.assume Try.checked os 14 .any (Rows.collectReachedSpec.pre6 enc Try.prog Try.f14 Rows.collectReachedRow.domain false) (Rows.collectReachedSpec.post enc Try.prog Try.f14 false true false false) := by
  refine lifted_true (C := Try.checked) Try.own' started (by kernel_rfl) Try.func14 Try.laidOut' Try.mixed' (by kernel_rfl) rfl (by kernel_rfl) rfl
    (ChangeSpec.witness6 (enc := enc) (C := Try.checked) false ⟨#[], #[.slice none 0 0, .slice none 0 0, .slice none 0 0], []⟩ 8 (by kernel_rfl) (by kernel_rfl) (by kernel_rfl) (by kernel_rfl)) ?_ ?_
  · intro ds hd
    match ds, hd with
    | [a, b, c], _ => rfl
  · intro W base args ds before hval hA hwt
    have hp : Try.f14.params = #[35, 54, 41] := rfl
    rw [hp] at hA hval hwt
    obtain ⟨v, v1, v2, d, d1, d2, p, p1, p2, rfl, rfl, rfl, ⟨fuel, h0⟩, ⟨fuel1, h1⟩, ⟨fuel2, h2⟩⟩ := trodAll_three hA
    obtain ⟨a, len, cap, rfl⟩ := okWide_slice (P := Try.checked.prog) (e := 50) (by kernel_rfl) (hval 0 35 _ rfl rfl)
    obtain ⟨a1, len1, cap1, rfl⟩ := okWide_slice (P := Try.checked.prog) (e := 3) (by kernel_rfl) (hval 1 54 _ rfl rfl)
    obtain ⟨a2, len2, cap2, rfl⟩ := okWide_slice (P := Try.checked.prog) (e := 47) (by kernel_rfl) (hval 2 41 _ rfl rfl)
    obtain ⟨l, hl, hll⟩ := acts_of (sized_acts (j := 0) hwt rfl rfl) h0
    obtain ⟨x, hx, hr⟩ := rep_of (P := Try.prog) (Ts := [54, 3]) (by kernel_rfl) fuel1 54 [.slice a1 len1 cap1] _ (by simp) h1
    obtain ⟨w, is, hw, hI⟩ := oldI_of hx hr
    have hw' : ofVal (.slice a1 len1 cap1) = w := by
      have : [ofVal (.slice a1 len1 cap1)] = [w] := hw
      simpa using this
    rw [← hw'] at hI
    obtain ⟨os', hO⟩ := oldW_of h2
    exact collectReached_im hl hll hI hO (oldSt W) rfl
theorem collectReached_holds : Rows.CollectReachedSaid :=
  OpenClaim.holds_of_wide 14 Try.f14 rfl rfl rfl rfl rfl rfl rfl ⟨rfl, rfl, rfl, rfl, rfl⟩ rfl rfl rfl rfl rfl (by kernel_rfl) Try.func14 (by kernel_rfl)
    (of_decide_eq_true (by kernel_rfl)) (by unfold Func.isWrapper; rw [if_neg (by decide +kernel)]; exact ⟨rfl, rfl⟩)
    (fun os started H enc _ => collectReached_lifted os started H enc)
#print axioms collectReached_holds
end Go.Proofs.Ytoldkemimhebaaa