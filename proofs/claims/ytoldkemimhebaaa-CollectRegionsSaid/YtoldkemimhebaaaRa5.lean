/- Proved here: the statement 'CollectRegions' of layer 16: for every list of acts and every list of roots it returns true, never panics, and its input reads as before; without conditions. -/
import Derived.Deep.Grids
import Derived.Deep.Slices
import Derived.Test.YtoldkemimhebaaaRa4
/- Layer 16: a region is turned; where a word is now. -/
set_option linter.unusedSimpArgs false
set_option linter.unusedVariables false
namespace Go.Proofs.Ytoldkemimhebaaa
open Go Go.IM

-- virgate/collect.infinite

def c91 : IFn := ⟨16, [(4, none)],
  (.seq (.region [oa 4 (.mov (.c (.bool false)))] (kp 16 [0,1]))
  (.seq (.region [oa 8 (.mov (.t 0)), oa 9 (.mov (.t 1)), oa 10 (.call 29 [(.t 8), (.t 9)]), oa 7 (.mov (.t 10)), oa 11 (.extract (.t 7) 0), oa 12 (.extract (.t 7) 1), oa 5 (.mov (.t 11)), oa 6 (.mov (.t 12))] (kp 16 [5]))
  (.seq (.region [oa 13 (.mov (.t 5)), oa 14 (.lenSlice (.t 13)), oa 15 (.bin .gtr (.t 14) (ai 0)), oa 4 (.mov (.t 15))] (kp 16 [4]))
  (sr 16 [4]))))⟩
theorem F91 : shutF Try.prog 91 = some c91 := by kernel_rfl

-- (*virgate/collect.collection).now

def c94 : IFn := ⟨32, [(4, (some (some 2)))],
  (.seq (.region [oa 3 (.box (.t 1)), oa 4 (.alloc [(.int .i64 (0)), (.int .i64 (0))])] (kp 32 [0,3,4]))
  (.seq (.seq (.region [oa 7 (.fieldAddr 1 (.t 3)), oa 8 (.load none (.t 7)), oa 9 (.bin .eql (.t 8) (ai 0))] (kp 32 [0,3,4,9]))
  (.cond (.t 9)
  (.seq (.region [oa 10 (.load (some 2) (.t 3)), ob (.store 2 (.t 4) (.t 10))] (kp 32 [4]))
  (sr 32 [4]))
  (sk 32 [0,3,4])))
  (.seq (.seq (.region [oa 12 (.mov (.t 0)), oa 13 (.nilCheck (.t 12)), oa 14 (.fieldAddr 1 (.t 13)), oa 15 (.load none (.t 14)), oa 16 (.load (some 2) (.t 3)), oa 17 (.lookup (.agg [.i, .i]) (.agg [(.int .i64 (0)), (.int .i64 (0))]) true (.t 15) (.t 16)), oa 11 (.mov (.t 17)), oa 18 (.extract (.t 11) 0), oa 19 (.extract (.t 11) 1), oa 5 (.alloc [(.int .i64 (0)), (.int .i64 (0))]), ob (.store 2 (.t 5) (.t 18)), oa 6 (.mov (.t 19))] (kp 32 [0,3,4,5,6]))
  (.seq (.region [oa 20 (.mov (.t 6))] (kp 32 [0,3,4,5,20]))
  (.cond (.t 20)
  (.seq (.region [oa 21 (.load (some 2) (.t 5)), ob (.store 2 (.t 4) (.t 21))] (kp 32 [4]))
  (sr 32 [4]))
  (sk 32 [0,3,4]))))
  (.seq (.seq (.region [oa 22 (.mov (.t 0)), oa 23 (.nilCheck (.t 22)), oa 24 (.fieldAddr 2 (.t 23)), oa 25 (.load none (.t 24)), oa 26 (.load (some 2) (.t 3)), oa 27 (.lookup (.agg [.i, .i]) (.bool false) false (.t 25) (.t 26))] (kp 32 [3,4,27]))
  (.cond (.t 27)
  (.seq (.region [oa 28 (.load (some 2) (.t 3)), ob (.store 2 (.t 4) (.t 28))] (kp 32 [4]))
  (sr 32 [4]))
  (sk 32 [3,4])))
  (.seq (.region [oa 29 (.fieldAddr 1 (.t 3)), oa 30 (.load none (.t 29)), oa 31 (.build [(.int .i64 (0)), (.int .i64 (0))] [(0, 1, (ai (-1))), (1, 1, (.t 30))]), ob (.store 2 (.t 4) (.t 31))] (kp 32 [4]))
  (sr 32 [4]))))))⟩
theorem F94 : shutF Try.prog 94 = some c94 := by kernel_rfl

-- (*virgate/collect.collection).turn
def l92_0 : IC := (.seq (.seq (.region [oa 28 (.bin .lss (.t 27) (.t 26))] (kp 77 [0,1,6,25,26,27,28]))
  (.seq (.cond (.t 28)
  (sk 77 [0,1,6,25,26,27])
  (sx 77 [0,1,6] 0))
  (.seq (.block 1
  (.seq (.region [oa 29 (.indexAddr 2 (.t 25) (.t 27)), oa 30 (.load (some 2) (.t 29)), oa 8 (.alloc [(.int .i64 (0)), (.int .i64 (0))]), ob (.store 2 (.t 8) (.t 30))] (kp 77 [0,1,6,8,25,26,27]))
  (.seq (.region [oa 31 (.mov (.t 0)), oa 32 (.nilCheck (.t 31)), oa 33 (.fieldAddr 0 (.t 32)), oa 34 (.load none (.t 33)), oa 35 (.nilCheck (.t 34)), oa 36 (.fieldAddr 2 (.t 35)), oa 37 (.load none (.t 36)), oa 38 (.load (some 2) (.t 8)), oa 39 (.lookup (.agg [.i, .i]) (.bool false) false (.t 37) (.t 38))] (kp 77 [0,1,6,8,25,26,27,39]))
  (.cond (.t 39)
  (.region [oa 40 (.mov (.t 6)), oa 41 (.load (some 2) (.t 8)), oa 42 (.buildSlice 1 [(.int .i64 (0)), (.int .i64 (0))] [(0, 2, (.t 41))]), oa 43 (.append 2 16 (.t 40) (.t 42)), oa 6 (.mov (.t 43))] (kp 77 [0,1,6,25,26,27]))
  (sk 77 [0,1,6,25,26,27])))))
  (.region [oa 44 (.bin .add (.t 27) (ai 1)), oa 27 (.mov (.t 44))] (kp 77 [0,1,6,25,26,27])))))
  (sk 77 [0,1,6,25,26,27]))
def l92_1 : IC := (.seq (.seq (.region [oa 63 (.bin .lss (.t 62) (.t 61))] (kp 77 [0,9,60,61,62,63]))
  (.seq (.cond (.t 63)
  (sk 77 [0,9,60,61,62])
  (sx 77 [] 2))
  (.seq (.block 3
  (.seq (.region [oa 64 (.mov (.t 62)), oa 65 (.indexAddr 2 (.t 60) (.t 62)), oa 66 (.load (some 2) (.t 65)), oa 12 (.alloc [(.int .i64 (0)), (.int .i64 (0))]), oa 11 (.mov (.t 64)), ob (.store 2 (.t 12) (.t 66))] (kp 77 [0,9,11,12,60,61,62]))
  (.region [oa 67 (.mov (.t 0)), oa 68 (.nilCheck (.t 67)), oa 69 (.fieldAddr 1 (.t 68)), oa 70 (.load none (.t 69)), oa 71 (.load (some 2) (.t 12)), oa 72 (.mov (.t 9)), oa 73 (.mov (.t 11)), oa 74 (.indexAddr 2 (.t 72) (.t 73)), oa 75 (.load (some 2) (.t 74)), ob (.mapSet (.agg [.i, .i]) (.t 70) (.t 71) (.t 75))] (kp 77 [0,9,60,61,62]))))
  (.region [oa 76 (.bin .add (.t 62) (ai 1)), oa 62 (.mov (.t 76))] (kp 77 [0,9,60,61,62])))))
  (sk 77 [0,9,60,61,62]))
def j92_bbbbb : IC := (.seq (.region [oa 60 (.mov (.t 6)), oa 61 (.lenSlice (.t 60)), oa 62 (.mov (ai 0))] (kp 77 [0,9,60,61,62]))
  (.block 2
  (.seq (sk 77 [0,9,60,61,62])
  (.loop l92_1))))
def j92_bbb : IC := (.seq (.region [oa 46 (.mov (.t 0)), oa 47 (.nilCheck (.t 46)), oa 48 (.fieldAddr 0 (.t 47)), oa 49 (.load none (.t 48)), oa 50 (.nilCheck (.t 49)), oa 51 (.fieldAddr 0 (.t 50)), oa 52 (.load none (.t 51)), oa 53 (.mov (.t 1)), oa 54 (.mov (.t 6)), oa 55 (.call 109 [(.t 52), (.t 53), (.t 54)]), oa 45 (.mov (.t 55)), oa 56 (.extract (.t 45) 0), oa 57 (.extract (.t 45) 1), oa 9 (.mov (.t 56)), oa 10 (.mov (.t 57))] (kp 77 [0,6,9,10]))
  (.seq (.seq (.region [oa 58 (.mov (.t 10)), oa 59 (.bin .neq (.t 58) (ai 0))] (kp 77 [0,6,9,59]))
  (.cond (.t 59)
  (sr 77 [])
  (sk 77 [0,6,9])))
  j92_bbbbb))
def c92 : IFn := ⟨77, [],
  (.seq (.region [oa 14 (.mov (.t 0)), oa 15 (.nilCheck (.t 14)), oa 16 (.fieldAddr 0 (.t 15)), oa 17 (.load none (.t 16)), oa 18 (.nilCheck (.t 17)), oa 19 (.fieldAddr 0 (.t 18)), oa 20 (.load none (.t 19)), oa 21 (.mov (.t 1)), oa 22 (.call 28 [(.t 20), (.t 21)]), oa 13 (.mov (.t 22)), oa 23 (.extract (.t 13) 0), oa 24 (.extract (.t 13) 1), oa 4 (.mov (.t 23)), oa 5 (.mov (.t 24))] (kp 77 [0,1,4]))
  (.seq (.region [oa 6 (.mov (.c (.slice none 0 (some 0))))] (kp 77 [0,1,4,6]))
  (.seq (.seq (.region [oa 25 (.mov (.t 4)), oa 26 (.lenSlice (.t 25)), oa 27 (.mov (ai 0))] (kp 77 [0,1,6,25,26,27]))
  (.block 0
  (.seq (sk 77 [0,1,6,25,26,27])
  (.loop l92_0))))
  j92_bbb)))⟩
theorem F92 : shutF Try.prog 92 = some c92 := by kernel_rfl


section
variable {o : Nat → Option O} {s : St} {C F : Ch} {Q : V → St → Prop} {p r : Nat} {u : List Bool}
set_option maxRecDepth 10000
set_option maxHeartbeats 4000000

theorem s89 (hC : Holds o s C) {hp : PHeap} {p : Nat} (hin : In C p hp) (h0 : hp.regs ≠ []) (hl : hp.regs.length ≤ 100000) : call PF 89 [ptrN hp.id] s = some (.bool false, s) := by
  have e := s27 hC hin
  have h1 := List.length_pos_iff.2 h0
  have h2 : ((hp.regs.length : Int) == 0) = false := by simp; omega
  rw [call_run F89]; simp -implicitDefEqProofs only [↓GP, GB, GL, Nat.reduceAdd, Nat.reduceSub, Nat.reduceEqDiff, Nat.reduceMul, Nat.reduceLeDiff, Int.reduceBNe, Int.reduceBEq, Nat.reduceLT, reduceCtorEq, c89, e, h2]

theorem s91 (hC : Holds o s C) {hp : PHeap} {p i : Nat} (hin : In C p hp) (hlen : hp.regs.length ≤ 100000) {g : PReg} (hr : hp.regs[i]? = some g) (hpl : g.pages.length ≤ 400)
    (q : ∀ s', Holds o s' C → Q (.bool (decide (0 < g.pages.length))) s') : WP (call PF 91 [ptrN hp.id, I i] s) Q := by
  rw [call_run F91]; simp -implicitDefEqProofs only [↓GP, GB, GL, Nat.reduceAdd, Nat.reduceSub, Nat.reduceEqDiff, Nat.reduceMul, Nat.reduceLeDiff, Int.reduceBNe, Int.reduceBEq, Nat.reduceLT, reduceCtorEq, c91]
  refine wp_in (s29 hC hin hlen hr hpl fun s1 k h1 => ?_)
  by_cases h0 : 0 < g.pages.length
  · have h0' : ((g.pages.length : Int) > 0) := by omega
    simp -implicitDefEqProofs only [↓GP, GB, GL, Nat.reduceAdd, Nat.reduceSub, Nat.reduceEqDiff, Nat.reduceMul, Nat.reduceLeDiff, Int.reduceBNe, Int.reduceBEq, Nat.reduceLT, reduceCtorEq, h0']
    have := q s1 h1.tl
    rwa [decide_eq_true h0] at this
  · have h0' : ¬ ((g.pages.length : Int) > 0) := by omega
    simp -implicitDefEqProofs only [↓GP, GB, GL, Nat.reduceAdd, Nat.reduceSub, Nat.reduceEqDiff, Nat.reduceMul, Nat.reduceLeDiff, Int.reduceBNe, Int.reduceBEq, Nat.reduceLT, reduceCtorEq, h0']
    have := q s1 h1.tl
    rwa [decide_eq_false h0] at this

/-- What a word is behind a collection. -/
def nowW (to : Int × Int → Option (Int × Int)) (fx : List (Int × Int)) (w : Int × Int) : Int × Int := if w.2 = 0 then w else match to w with | some n => n | none => if w ∈ fx then w else (-1, w.2)
def colC (c t tk fk : Nat) (mt mf : O) : Ch := (c, some (.cells [ptrN t, .map (some (.new tk)), .map (some (.new fk))] none)) :: (tk, some mt) :: (fk, some mf) :: []

theorem s94 {c t tk fk : Nat} {mt mf : O} {to : Int × Int → Option (Int × Int)} {fx : List (Int × Int)} {w : Int × Int} (H : Holds o s C) (hs : ∀ x ∈ colC c t tk fk mt mf, x ∈ C)
    (hmt : MapIs encA (fun w => (to w).map encA) mt) (hmf : MapIs encA (seenF fx) mf) (q : ∀ s', Holds o s' C → Q (.agg (encW (nowW to fx w))) s') : WP (call PF 94 [ptrN c, .agg (encW w)] s) Q := by
  have mc := hs (c, some (.cells [ptrN t, .map (some (.new tk)), .map (some (.new fk))] none)) (List.mem_cons_self ..)
  have h1 := (H.alloc (.cells (encW w) none)).alloc (.cells [I 0, I 0] none)
  have f := H.mem mc
  have f0 := h1.tl.g0
  unfold nowW at q
  by_cases h0 : w.2 = 0
  · rw [if_pos h0] at q
    have h0' : (w.2 == 0) = true := by simpa using h0
    rw [call_run F94]; simp -implicitDefEqProofs only [↓GP, GB, GL, Nat.reduceAdd, Nat.reduceSub, Nat.reduceEqDiff, Nat.reduceMul, Nat.reduceLeDiff, Int.reduceBNe, Int.reduceBEq, Nat.reduceLT, reduceCtorEq, c94, encW, h0']
    exact q _ (h1.set0 (.cells (encW w) none)).tl.tl
  · rw [if_neg h0] at q
    have h0' : (w.2 == 0) = false := by simpa using h0
    have mt' := hs (tk, some mt) (List.mem_cons_of_mem _ (List.mem_cons_self ..))
    have mf' := hs (fk, some mf) (List.mem_cons_of_mem _ (List.mem_cons_of_mem _ (List.mem_cons_self ..)))
    have el := lookup_map keyA hmt (h1.mem (List.mem_cons_of_mem _ (List.mem_cons_of_mem _ mt'))).1 (.agg [I 0, I 0]) true w
    simp only [encA, encW, Bool.false_eq_true, if_true, Option.isSome_map] at el
    cases ht : to w with
    | some n =>
      rw [ht] at q el
      simp only [Option.map_some, Option.getD_some, Option.isSome_some, encA, encW] at el
      rw [call_run F94]; simp -implicitDefEqProofs only [↓GP, GB, GL, Nat.reduceAdd, Nat.reduceSub, Nat.reduceEqDiff, Nat.reduceMul, Nat.reduceLeDiff, Int.reduceBNe, Int.reduceBEq, Nat.reduceLT, reduceCtorEq, c94, encW, h0', f, el]
      exact q _ (((h1.alloc (.cells [I 0, I 0] none)).set0 (.cells (encW n) none)).set1 (.cells (encW n) none)).tl.tl.tl
    | none =>
      rw [ht] at q el
      simp only [Option.map_none, Option.getD_none, Option.isSome_none] at el
      have h2 := (h1.alloc (.cells [I 0, I 0] none)).set0 (.cells [I 0, I 0] none)
      have el2 := lookup_map keyA hmf (h2.mem (List.mem_cons_of_mem _ (List.mem_cons_of_mem _ (List.mem_cons_of_mem _ mf')))).1 (.bool false) false w
      simp only [encA, encW, Bool.false_eq_true, if_false, alloc_next, set_next, Nat.add_assoc, Nat.reduceAdd] at el2
      by_cases hw : w ∈ fx
      · rw [show seenF fx w = some (.bool true) from if_pos hw, Option.getD_some] at el2
        simp only [if_pos hw] at q
        rw [call_run F94]; simp -implicitDefEqProofs only [↓GP, GB, GL, Nat.reduceAdd, Nat.reduceSub, Nat.reduceEqDiff, Nat.reduceMul, Nat.reduceLeDiff, Int.reduceBNe, Int.reduceBEq, Nat.reduceLT, reduceCtorEq, c94, encW, h0', f, el, el2]
        exact q _ (h2.set1 (.cells (encW w) none)).tl.tl.tl
      · rw [show seenF fx w = none from if_neg hw, Option.getD_none] at el2
        simp only [if_neg hw] at q
        rw [call_run F94]; simp -implicitDefEqProofs only [↓GP, GB, GL, Nat.reduceAdd, Nat.reduceSub, Nat.reduceEqDiff, Nat.reduceMul, Nat.reduceLeDiff, Int.reduceBNe, Int.reduceBEq, Nat.reduceLT, reduceCtorEq, c94, encW, h0', f, el, el2]
        exact q _ (h2.set1 (.cells (encW (-1, w.2)) none)).tl.tl.tl

/-- The words of a region's objects. -/
def wordsP (life : Nat) (xs : List PObj) : List (Int × Int) := xs.map fun x => ((x.b.at_ : Int), (life : Int))
theorem words_enc (life : Nat) (xs : List PObj) : xs.flatMap (encP life) = (wordsP life xs).flatMap encW := by
  unfold wordsP
  rw [List.flatMap_map]
  rfl
theorem pick_filter {life : Nat} (f : PObj → Bool) : ∀ {os : List PObj}, (os.map (·.b.at_)).Nodup → pickM life os (wordsP life (os.filter f)) = some (os.filter f)
  | [], _ => rfl
  | x :: os, h => by
    rw [List.map_cons, List.nodup_cons] at h
    have ih := pick_filter (life := life) f (os := os) h.2
    cases hf : f x with
    | true =>
      rw [List.filter_cons_of_pos hf]
      show pickM life (x :: os) (((x.b.at_ : Int), (life : Int)) :: wordsP life (os.filter f)) = _
      rw [pickM]
      have e : (x :: os).findIdx (fun y => decide ((y.b.at_ : Int) = (x.b.at_ : Int))) = 0 := by simp [List.findIdx_cons]
      rw [e, List.drop_zero]
      simp only [if_true, ih, Option.map_some]
    | false =>
      rw [List.filter_cons_of_neg (by rw [hf]; simp)]
      cases hos : os.filter f with
      | nil => rfl
      | cons y ys =>
        rw [hos] at ih
        have hy : y ∈ os := (List.mem_filter.1 (hos ▸ List.mem_cons_self ..)).1
        have hne : ¬ ((x.b.at_ : Int) = (y.b.at_ : Int)) := fun e => h.1 (List.mem_map.2 ⟨y, hy, by omega⟩)
        show pickM life (x :: os) (((y.b.at_ : Int), (life : Int)) :: wordsP life ys) = _
        rw [pickM]
        have e : (x :: os).findIdx (fun z => decide ((z.b.at_ : Int) = (y.b.at_ : Int))) = os.findIdx (fun z => decide ((z.b.at_ : Int) = (y.b.at_ : Int))) + 1 := by
          rw [List.findIdx_cons]; simp [hne]
        rw [e, List.drop_succ_cons]
        have ih' : pickM life os (((y.b.at_ : Int), (life : Int)) :: wordsP life ys) = some (y :: ys) := ih
        rw [pickM] at ih'
        exact ih'

/-- What is seen is kept. -/
theorem keep92 {c t lk mk ko : Nat} {hv i0 : V} {c1 c2 : V} {L W : List (Int × Int)} {m : O} {K : Kt} (mc : (c, some (.cells [ptrN t, c1, c2] none)) ∈ C) (mh : ∀ x ∈ huntC t lk mk hv L m, x ∈ C) (hm : MapIs encA (seenF L) m)
    (mo : (ko, rowO 2 W.length (W.flatMap encW)) ∈ C) (hl : W.length ≤ 100000) :
    ∀ (n i k : Nat) (acc : List (Int × Int)) (s : St), i + n = W.length → acc.length ≤ i → Holds o s ((k, rowO 2 acc.length (acc.flatMap encW)) :: C) →
    (∀ s' k', Holds o s' ((k', rowO 2 (acc ++ (W.drop i).filter (decide <| · ∈ L)).length ((acc ++ (W.drop i).filter (decide <| · ∈ L)).flatMap encW)) :: C) → WP (K (.exit 0) (sp 77 [(0, ptrN c), (1, i0), (6, rowV k' (acc ++ (W.drop i).filter (decide <| · ∈ L)).length)]) s') Q) →
    WP (loop PF (.loop l92_0) (sp 77 [(0, ptrN c), (1, i0), (6, rowV k acc.length), (25, rowV ko W.length), (26, I W.length), (27, I i)]) s K) Q
  | 0, i, k, acc, s, hi, ha, H, q => by
    have hlt : ¬ ((i : Int) < (W.length : Int)) := by omega
    rw [List.drop_eq_nil_of_le (by omega), List.filter_nil, List.append_nil] at q
    refine wp_round fun LL hLL => ?_
    simp -implicitDefEqProofs only [↓GP, GB, GL, Nat.reduceAdd, Nat.reduceSub, Nat.reduceEqDiff, Nat.reduceMul, Nat.reduceLeDiff, Int.reduceBNe, Int.reduceBEq, Nat.reduceLT, reduceCtorEq, l92_0, hlt]
    exact q s k H
  | n + 1, i, k, acc, s, hi, ha, H, q => by
    have hlt : ((i : Int) < (W.length : Int)) := by omega
    have hi' : i < W.length := by omega
    have hw1 := wrap_add1 (a := i) (by omega)
    have hix := ix_row (sz := 2) (k := ko) (n := W.length) (i := i) (kk := .i64) hi'
    have er : rowO 2 W.length (W.flatMap encW) = some (.cells (W.flatMap encW) (some 2)) := by unfold rowO; rw [if_neg (by omega)]
    have fr := H.mem (List.mem_cons_of_mem _ (er ▸ mo))
    have fc := H.mem (List.mem_cons_of_mem _ mc)
    have ft := H.mem (List.mem_cons_of_mem _ (mh (t, some (.cells [hv, rowV lk L.length, .map (some (.new mk))] none)) (List.mem_cons_self ..)))
    have mm := mh (mk, some m) (List.mem_cons_of_mem _ (List.mem_cons_of_mem _ (List.mem_cons_self ..)))
    have hld := ldN_tab (enc := encW) encW_len W (some 2) (List.getElem?_eq_getElem hi')
    rw [List.drop_eq_getElem_cons hi', List.filter_cons] at q
    generalize W[i] = w at q hld
    have h1 := (H.alloc (.cells [I 0, I 0] none)).set0 (.cells (encW w) none)
    have el := lookup_map keyA hm (h1.mem (List.mem_cons_of_mem _ (List.mem_cons_of_mem _ mm))).1 (.bool false) false w
    simp only [encA, encW, Bool.false_eq_true, if_false] at el
    by_cases hw : w ∈ L
    · rw [show seenF L w = some (.bool true) from if_pos hw, Option.getD_some] at el
      rw [if_pos (by simpa using hw)] at q
      refine wp_round fun LL hLL => ?_
      simp -implicitDefEqProofs only [↓GP, GB, GL, Nat.reduceAdd, Nat.reduceSub, Nat.reduceEqDiff, Nat.reduceMul, Nat.reduceLeDiff, Int.reduceBNe, Int.reduceBEq, Nat.reduceLT, reduceCtorEq, l92_0, hlt, hix, fr, fc, ft, hld, encW, el]
      refine wp_append (sz := 2) (bytes := 16) (m := 1) (cs := acc.flatMap encW) ((h1.alloc _).r2) (by rw [tab_len encW_len]) (new_cells' (alloc_new_same _ _) rfl) rfl rfl (by omega) (by unfold maxRow; omega) (by unfold maxRow; omega) fun k' s1 h2 => ?_
      simp -implicitDefEqProofs only [↓GP, GB, GL, Nat.reduceAdd, Nat.reduceSub, Nat.reduceEqDiff, Nat.reduceMul, Nat.reduceLeDiff, Int.reduceBNe, Int.reduceBEq, Nat.reduceLT, reduceCtorEq, hw1]
      rw [hLL]
      have hl1 : (acc ++ [w]).length = acc.length + 1 := by simp
      have := keep92 (K := K) (i0 := i0) mc mh hm mo hl n (i + 1) k' (acc ++ [w]) s1 (by omega) (by simp; omega) (by
        have h3 := h2.r1.tl.r1.tl
        rw [List.flatMap_append]; simpa [encW] using h3) (by simpa using q)
      rw [hl1] at this
      exact this
    · rw [show seenF L w = none from if_neg hw, Option.getD_none] at el
      rw [if_neg (by simpa using hw)] at q
      refine wp_round fun LL hLL => ?_
      simp -implicitDefEqProofs only [↓GP, GB, GL, Nat.reduceAdd, Nat.reduceSub, Nat.reduceEqDiff, Nat.reduceMul, Nat.reduceLeDiff, Int.reduceBNe, Int.reduceBEq, Nat.reduceLT, reduceCtorEq, l92_0, hlt, hix, fr, fc, ft, hld, encW, el, hw1]
      rw [hLL]
      exact keep92 mc mh hm mo hl n (i + 1) k acc _ (by omega) (by omega) (Holds.of (h1) (fun k => by simp +arith only [encW, HA, HB]) (fun k x => by simp only [encW, HA, HC]; grind only)) q

/-- Where objects have gone. -/
abbrev ToF := Int × Int → Option (Int × Int)
def updF (to : ToF) (x : (Int × Int) × (Int × Int)) : ToF := fun w => if w = x.1 then some x.2 else to w
theorem updF_map (to : ToF) (a n : Int × Int) : (fun b => if b = a then some (encA n) else (to b).map encA) = fun b => ((updF to (a, n)) b).map encA := by
  funext b
  unfold updF
  by_cases h : b = a
  · simp [h]
  · simp [h]

theorem set92 {c t tk fk kk kn : Nat} {Ks Ns : List (Int × Int)} {K : Kt} (mc : (c, some (.cells [ptrN t, .map (some (.new tk)), .map (some (.new fk))] none)) ∈ C) (mk : (kk, rowO 2 Ks.length (Ks.flatMap encW)) ∈ C) (mn : (kn, rowO 2 Ks.length (Ns.flatMap encW)) ∈ C)
    (hn : Ns.length = Ks.length) (hl : Ks.length ≤ 100000) :
    ∀ (n i : Nat) (to : ToF) (mt : O) (s : St), i + n = Ks.length → MapIs encA (fun w => (to w).map encA) mt → Holds o s ((tk, some mt) :: C) →
    (∀ s' mt', MapIs encA (fun w => ((((Ks.zip Ns).drop i).foldl updF to) w).map encA) mt' → Holds o s' ((tk, some mt') :: C) → WP (K (.exit 2) (sp 77 []) s') Q) →
    WP (loop PF (.loop l92_1) (sp 77 [(0, ptrN c), (9, rowV kn Ks.length), (60, rowV kk Ks.length), (61, I Ks.length), (62, I i)]) s K) Q
  | 0, i, to, mt, s, hi, hm, H, q => by
    have hlt : ¬ ((i : Int) < (Ks.length : Int)) := by omega
    rw [List.drop_eq_nil_of_le (by simp; omega), List.foldl_nil] at q
    refine wp_round fun LL hLL => ?_
    simp -implicitDefEqProofs only [↓GP, GB, GL, Nat.reduceAdd, Nat.reduceSub, Nat.reduceEqDiff, Nat.reduceMul, Nat.reduceLeDiff, Int.reduceBNe, Int.reduceBEq, Nat.reduceLT, reduceCtorEq, l92_1, hlt]
    exact q s mt hm H
  | n + 1, i, to, mt, s, hi, hm, H, q => by
    have hlt : ((i : Int) < (Ks.length : Int)) := by omega
    have hi' : i < Ks.length := by omega
    have hi2 : i < Ns.length := by omega
    have hw1 := wrap_add1 (a := i) (by omega)
    have hix := ix_row (sz := 2) (k := kk) (n := Ks.length) (i := i) (kk := .i64) hi'
    have hix2 := ix_row (sz := 2) (k := kn) (n := Ks.length) (i := i) (kk := .i64) hi'
    have er : rowO 2 Ks.length (Ks.flatMap encW) = some (.cells (Ks.flatMap encW) (some 2)) := by unfold rowO; rw [if_neg (by omega)]
    have er2 : rowO 2 Ks.length (Ns.flatMap encW) = some (.cells (Ns.flatMap encW) (some 2)) := by unfold rowO; rw [if_neg (by omega)]
    have fk' := H.mem (List.mem_cons_of_mem _ (er ▸ mk))
    have fn' := H.mem (List.mem_cons_of_mem _ (er2 ▸ mn))
    have fc := H.mem (List.mem_cons_of_mem _ mc)
    have hld := ldN_tab (enc := encW) encW_len Ks (some 2) (List.getElem?_eq_getElem hi')
    have hld2 := ldN_tab (enc := encW) encW_len Ns (some 2) (List.getElem?_eq_getElem hi2)
    rw [List.drop_eq_getElem_cons (by simp; omega), List.foldl_cons, List.getElem_zip] at q
    generalize Ks[i] = a at q hld
    generalize Ns[i] = b at q hld2
    have h1 := (H.alloc (.cells [I 0, I 0] none)).set0 (.cells (encW a) none)
    refine wp_round fun LL hLL => ?_
    simp -implicitDefEqProofs only [↓GP, GB, GL, Nat.reduceAdd, Nat.reduceSub, Nat.reduceEqDiff, Nat.reduceMul, Nat.reduceLeDiff, Int.reduceBNe, Int.reduceBEq, Nat.reduceLT, reduceCtorEq, l92_1, hlt, hix, hix2, fk', fn', fc, hld, hld2, encW]
    refine wp_mapSet (enc := encA) (a := a) (v := encA b) keyA hm (h1.tl.g0) fun mt' hm' => ?_
    rw [updF_map] at hm'
    simp -implicitDefEqProofs only [↓GP, GB, GL, Nat.reduceAdd, Nat.reduceSub, Nat.reduceEqDiff, Nat.reduceMul, Nat.reduceLeDiff, Int.reduceBNe, Int.reduceBEq, Nat.reduceLT, reduceCtorEq, hw1]
    rw [hLL]
    exact set92 mc mk mn hn hl n (i + 1) _ mt' _ (by omega) hm' (h1.set1 mt').tl q

/-- A region is turned: what is reached in it is laid anew. -/
theorem s92 {hp : PHeap} {c t tk fk lk mk : Nat} {mt mf m : O} {to : ToF} {L : List (Int × Int)} {A B : List PReg} {g : PReg}
    (H : Holds o s (poolC p r u ++ (hp.ch p ++ (colC c t tk fk mt mf ++ (huntC t lk mk (ptrN hp.id) L m ++ F))))) (hr : hp.regs = A ++ g :: B) (hs : g.size = 0) (hok : ∀ g ∈ hp.regs, g.ok) (hR : RsOk hp.lives u (hp.regs.map PReg.m))
    (hm : MapIs encA (seenF L) m) (hmt : MapIs encA (fun w => (to w).map encA) mt)
    (q : ∀ s' u' fill' pages' ats pgk obk plk pl mt',
      layM 0 g.life ((g.objs.filter fun x => decide (((x.b.at_ : Int), (g.life : Int)) ∈ L)).map fun x => x.b.ws.length + 1) (freeP u g.pages) 0 [] = some (ats, u', fill', pages') → u'.length = u.length →
      PReg.ok { g with pgk := pgk, obk := obk, plk := plk, pl := pl, fill := fill', pages := pages', objs := relay (g.objs.filter fun x => decide (((x.b.at_ : Int), (g.life : Int)) ∈ L)) ats } →
      RsOk hp.lives u' ((A ++ { g with pgk := pgk, obk := obk, plk := plk, pl := pl, fill := fill', pages := pages', objs := relay (g.objs.filter fun x => decide (((x.b.at_ : Int), (g.life : Int)) ∈ L)) ats } :: B).map PReg.m) →
      MapIs encA (fun w => ((((wordsP g.life (g.objs.filter fun x => decide (((x.b.at_ : Int), (g.life : Int)) ∈ L))).zip (ats.map fun a : Nat => ((a : Int), (g.life : Int)))).foldl updF to) w).map encA) mt' →
      Holds o s' (poolC p r u' ++ (({ hp with regs := A ++ { g with pgk := pgk, obk := obk, plk := plk, pl := pl, fill := fill', pages := pages', objs := relay (g.objs.filter fun x => decide (((x.b.at_ : Int), (g.life : Int)) ∈ L)) ats } :: B } : PHeap).ch p ++ (colC c t tk fk mt' mf ++ (huntC t lk mk (ptrN hp.id) L m ++ F)))) →
      Q (.tuple []) s') : WP (call PF 92 [ptrN c, I A.length] s) Q := by
  have hin : In (poolC p r u ++ (hp.ch p ++ (colC c t tk fk mt mf ++ (huntC t lk mk (ptrN hp.id) L m ++ F)))) p hp := ⟨fun x hx => List.mem_append_right _ (List.mem_append_left _ hx)⟩
  have hg : hp.regs[A.length]? = some g := by rw [hr]; simp
  have mg := List.mem_of_getElem? hg
  have hlen : hp.regs.length ≤ 100000 := by have h1 := hR.inv.len; have h2 := hR.inv.lives; rw [List.length_map] at h1; omega
  have hri := hR.inv.reg g.m (List.mem_map.2 ⟨g, mg, rfl⟩)
  have hu := hR.ulen
  have hpgs : (∀ x ∈ g.pages, x < u.length) ∧ g.pages.length ≤ 30 := by
    have hrm : g.m ∈ hp.regs.map PReg.m := List.mem_map.2 ⟨g, mg, rfl⟩
    have hsb := sub_flatMap (fun r : Reg => r.pages) hrm
    have := hR.pool.sub_len hsb
    exact ⟨fun x hx => hR.pool.lt (hsb.subset hx), by simp only [PReg.m] at *; omega⟩
  have hrok : RegOk u.length g.m := hri.ok (by have := (hR.inv.life g.m (List.mem_map.2 ⟨g, mg, rfl⟩)).2; have := hR.inv.lives; omega) hpgs.1 (by omega) (by have := hpgs.2; simp only [PReg.m]; omega)
  have hno : g.objs.length ≤ 961 := by have := hri.nobjs; simp only [PReg.m, List.length_map] at this; have := hpgs.2; omega
  have hat : (g.objs.map (·.b.at_)).Nodup := by have := hri.nodup; simpa [PReg.m, List.map_map, Function.comp_def] using this
  have hpick := pick_filter (life := g.life) (fun x => decide (((x.b.at_ : Int), (g.life : Int)) ∈ L)) hat
  have hsub : (g.objs.filter fun x => decide (((x.b.at_ : Int), (g.life : Int)) ∈ L)).Sublist g.objs := List.filter_sublist ..
  have hW : (wordsP g.life g.objs).filter (decide <| · ∈ L) = wordsP g.life (g.objs.filter fun x => decide (((x.b.at_ : Int), (g.life : Int)) ∈ L)) := by
    unfold wordsP; rw [List.filter_map]; rfl
  generalize hxs : (g.objs.filter fun x => decide (((x.b.at_ : Int), (g.life : Int)) ∈ L)) = xs at hpick hsub hW q
  have hm2 : hp.regs.map PReg.m = A.map PReg.m ++ g.m :: B.map PReg.m := by rw [hr]; simp
  have hR2 := hR
  rw [hm2] at hR2
  obtain ⟨ats, u', fill', pages', hlay, hnd, hpl', hal, hul, hR'⟩ := hR2.turn hs (ys := xs.map (·.b)) (hsub.map _)
  have hlay' : layM 0 g.life (xs.map fun x => x.b.ws.length + 1) (freeP u g.pages) 0 [] = some (ats, u', fill', pages') := by
    rw [List.map_map] at hlay; exact hlay
  have hal' : ats.length = xs.length := by simpa using hal
  have fc := H.mem (List.mem_append_right _ (List.mem_append_right _ (List.mem_append_left _ (List.mem_cons_self ..))) : (c, some (O.cells [ptrN t, V.map (some (.new tk)), V.map (some (.new fk))] none)) ∈ poolC p r u ++ (hp.ch p ++ (colC c t tk fk mt mf ++ (huntC t lk mk (ptrN hp.id) L m ++ F))))
  have ft := H.mem (List.mem_append_right _ (List.mem_append_right _ (List.mem_append_right _ (List.mem_append_left _ (List.mem_cons_self ..)))) : (t, some (O.cells [ptrN hp.id, rowV lk L.length, V.map (some (.new mk))] none)) ∈ poolC p r u ++ (hp.ch p ++ (colC c t tk fk mt mf ++ (huntC t lk mk (ptrN hp.id) L m ++ F))))
  rw [call_run F92]; simp -implicitDefEqProofs only [↓GP, GB, GL, Nat.reduceAdd, Nat.reduceSub, Nat.reduceEqDiff, Nat.reduceMul, Nat.reduceLeDiff, Int.reduceBNe, Int.reduceBEq, Nat.reduceLT, reduceCtorEq, c92, fc, ft]
  refine wp_in (s28 H hin hlen hg (by omega) fun s1 ko h1 => ?_)
  rw [words_enc, show g.objs.length = (wordsP g.life g.objs).length by simp [wordsP]] at h1
  rw [show g.objs.length = (wordsP g.life g.objs).length by simp [wordsP]]
  simp -implicitDefEqProofs only [↓GP, GB, GL, Nat.reduceAdd, Nat.reduceSub, Nat.reduceEqDiff, Nat.reduceMul, Nat.reduceLeDiff, Int.reduceBNe, Int.reduceBEq, Nat.reduceLT, reduceCtorEq]
  have hwl : (wordsP g.life xs).length = xs.length := by simp [wordsP]
  have hxl : xs.length ≤ 961 := Nat.le_trans hsub.length_le hno
  have mc1 : (c, some (O.cells [ptrN t, V.map (some (.new tk)), V.map (some (.new fk))] none)) ∈ (ko, rowO 2 (wordsP g.life g.objs).length ((wordsP g.life g.objs).flatMap encW)) :: (poolC p r u ++ (hp.ch p ++ (colC c t tk fk mt mf ++ (huntC t lk mk (ptrN hp.id) L m ++ F)))) :=
    List.mem_cons_of_mem _ (List.mem_append_right _ (List.mem_append_right _ (List.mem_append_left _ (List.mem_cons_self ..))))
  have := keep92 (K := blockK 0 (seqK (loop PF) (call PF) j92_bbb (finR []))) (Q := Q) (i0 := I A.length) (lk := lk) (mk := mk) (hv := ptrN hp.id) mc1 (fun x hx => List.mem_cons_of_mem _ (List.mem_append_right _ (List.mem_append_right _ (List.mem_append_right _ (List.mem_append_left _ hx))))) hm (List.mem_cons_self ..) (by simp [wordsP]; omega) (wordsP g.life g.objs).length 0 0 [] s1 (by omega) (by simp) (h1.nilEntry 0)
  simp only [List.drop_zero, List.nil_append, List.length_nil, Int.natCast_zero, hW] at this
  refine this fun s2 kk h3 => ?_
  have fc2 := h3.mem (List.mem_cons_of_mem _ mc1)
  have ft2 := h3.mem (List.mem_cons_of_mem _ (List.mem_cons_of_mem _ (List.mem_append_right _ (List.mem_append_right _ (List.mem_append_right _ (List.mem_append_left _ (List.mem_cons_self ..)))))) : (t, some (O.cells [ptrN hp.id, rowV lk L.length, V.map (some (.new mk))] none)) ∈ _)
  simp -implicitDefEqProofs only [↓GP, GB, GL, Nat.reduceAdd, Nat.reduceSub, Nat.reduceEqDiff, Nat.reduceMul, Nat.reduceLeDiff, Int.reduceBNe, Int.reduceBEq, Nat.reduceLT, reduceCtorEq, j92_bbb, fc2, ft2]
  refine wp_in (s109 (o := o) (hp := hp) (p := p) (r := r) (wk := kk) (u := u) (A := A) (B := B) (g := g) (ws := wordsP g.life xs) (xs := xs) (ats := ats) (u' := u') (fill' := fill') (pages' := pages') (F := (kk, rowO 2 (wordsP g.life xs).length ((wordsP g.life xs).flatMap encW)) :: (colC c t tk fk mt mf ++ (huntC t lk mk (ptrN hp.id) L m ++ F)))
    (Holds.of (h3) (fun k => by simp +arith only [HA, HB]) (fun k x => by simp only [HA, HC]; grind only)) hr hlen (by omega) hrok (by omega) (by omega) (List.mem_cons_self ..) hs hpick hlay' hnd (by omega) fun s3 pgk obk plk pl kn okp h4 => ?_)
  rw [relay_enc _ _ _ hal'] at h4
  simp -implicitDefEqProofs only [↓GP, GB, GL, Nat.reduceAdd, Nat.reduceSub, Nat.reduceEqDiff, Nat.reduceMul, Nat.reduceLeDiff, Int.reduceBNe, Int.reduceBEq, Nat.reduceLT, reduceCtorEq, j92_bbbbb]
  have h5 : Holds o s3 ((tk, some mt) :: (c, some (.cells [ptrN t, .map (some (.new tk)), .map (some (.new fk))] none)) :: (kk, rowO 2 (wordsP g.life xs).length ((wordsP g.life xs).flatMap encW)) :: (kn, rowO 2 (wordsP g.life xs).length ((ats.map fun a : Nat => ((a : Int), (g.life : Int))).flatMap encW)) :: (fk, some mf) ::
      (poolC p r u' ++ (({ hp with regs := A ++ { g with pgk := pgk, obk := obk, plk := plk, pl := pl, fill := fill', pages := pages', objs := relay xs ats } :: B } : PHeap).ch p ++ (huntC t lk mk (ptrN hp.id) L m ++ F)))) := (Holds.of (h4) (fun k => by simp +arith only [colC, HA, HB]) (fun k x => by simp only [colC, HA, HC]; grind only))
  have := set92 (K := blockK 2 (finR [])) (Q := Q) (t := t) (fk := fk) (List.mem_cons_self ..) (List.mem_cons_of_mem _ (List.mem_cons_self ..)) (List.mem_cons_of_mem _ (List.mem_cons_of_mem _ (List.mem_cons_self ..))) (by simp; omega) (by omega) (wordsP g.life xs).length 0 to mt s3 (by omega) hmt h5
  simp only [List.drop_zero, Int.natCast_zero] at this
  refine this fun s4 mt' hm' h6 => ?_
  simp -implicitDefEqProofs only [↓GP, GB, GL, Nat.reduceAdd, Nat.reduceSub, Nat.reduceEqDiff, Nat.reduceMul, Nat.reduceLeDiff, Int.reduceBNe, Int.reduceBEq, Nat.reduceLT, reduceCtorEq]
  refine q s4 u' fill' pages' ats pgk obk plk pl mt' hlay' hul okp ?_ hm' (Holds.of (h6) (fun k => by simp +arith only [colC, HA, HB]) (fun k x => by simp only [colC, HA, HC]; grind only))
  rw [List.map_append, List.map_cons]
  simp only [PReg.m, relay_b]
  exact hR'
end
end Go.Proofs.Ytoldkemimhebaaa

/- Layer 16: Collect: the regions. -/
set_option linter.unusedSimpArgs false
set_option linter.unusedVariables false
namespace Go.Proofs.Ytoldkemimhebaaa
open Go Go.IM

-- virgate/collect.Collect
def l46_0 : IC := (.seq (.seq (.region [oa 52 (.bin .lss (.t 51) (.t 50))] (kp 132 [1,2,4,5,6,7,9,33,34,49,50,51,52]))
  (.seq (.cond (.t 52)
  (sk 132 [1,2,4,5,6,7,9,33,34,49,50,51])
  (sx 132 [1,2,4,5,6,7,9,33,34] 2))
  (.seq (.block 3
  (.seq (.region [oa 53 (.indexAddr 2 (.t 49) (.t 51)), oa 54 (.load (some 2) (.t 53)), oa 12 (.alloc [(.int .i64 (0)), (.int .i64 (0))]), ob (.store 2 (.t 12) (.t 54))] (kp 132 [1,2,4,5,6,7,9,12,33,34,49,50,51]))
  (.region [oa 55 (.load none (.t 6)), oa 56 (.nilCheck (.t 55)), oa 57 (.fieldAddr 2 (.t 56)), oa 58 (.load none (.t 57)), oa 59 (.load (some 2) (.t 12)), ob (.mapSet (.agg [.i, .i]) (.t 58) (.t 59) (.c (.bool true)))] (kp 132 [1,2,4,5,6,7,9,33,34,49,50,51]))))
  (.region [oa 60 (.bin .add (.t 51) (ai 1)), oa 51 (.mov (.t 60))] (kp 132 [1,2,4,5,6,7,9,33,34,49,50,51])))))
  (sk 132 [1,2,4,5,6,7,9,33,34,49,50,51]))
def l46_1 : IC := (.seq (.seq (.region [oa 35 (.bin .lss (.t 34) (.t 33))] (kp 132 [1,2,4,5,6,7,33,34,35]))
  (.seq (.cond (.t 35)
  (sk 132 [1,2,4,5,6,7,33,34])
  (sx 132 [1,2,4,5,6,7] 0))
  (.seq (.block 1
  (.seq (.region [oa 36 (.mov (.t 34)), oa 8 (.mov (.t 36))] (kp 132 [1,2,4,5,6,7,8,33,34]))
  (.seq (.region [oa 37 (.load none (.t 2)), oa 38 (.mov (.t 8)), oa 39 (.call 91 [(.t 37), (.t 38)])] (kp 132 [1,2,4,5,6,7,8,33,34,39]))
  (.cond (.t 39)
  (.region [oa 40 (.load none (.t 6)), oa 41 (.mov (.t 8)), oa 42 (.call 92 [(.t 40), (.t 41)])] (kp 132 [1,2,4,5,6,7,33,34]))
  (.seq (.region [oa 44 (.load none (.t 2)), oa 45 (.mov (.t 8)), oa 46 (.call 28 [(.t 44), (.t 45)]), oa 43 (.mov (.t 46)), oa 47 (.extract (.t 43) 0), oa 48 (.extract (.t 43) 1), oa 9 (.mov (.t 47)), oa 10 (.mov (.t 48))] (kp 132 [1,2,4,5,6,7,9,33,34]))
  (.seq (.seq (.region [oa 49 (.mov (.t 9)), oa 50 (.lenSlice (.t 49)), oa 51 (.mov (ai 0))] (kp 132 [1,2,4,5,6,7,9,33,34,49,50,51]))
  (.block 2
  (.seq (sk 132 [1,2,4,5,6,7,9,33,34,49,50,51])
  (.loop l46_0))))
  (.region [oa 61 (.mov (.t 7)), oa 62 (.mov (.t 9)), oa 63 (.append 2 16 (.t 61) (.t 62)), oa 7 (.mov (.t 63))] (kp 132 [1,2,4,5,6,7,33,34]))))))))
  (.region [oa 64 (.bin .add (.t 34) (ai 1)), oa 34 (.mov (.t 64))] (kp 132 [1,2,4,5,6,7,33,34])))))
  (sk 132 [1,2,4,5,6,7,33,34]))
def l46_2 : IC := (.seq (.seq (.region [oa 74 (.bin .lss (.t 73) (.t 72))] (kp 132 [1,2,4,5,6,7,71,72,73,74]))
  (.seq (.cond (.t 74)
  (sk 132 [1,2,4,5,6,7,71,72,73])
  (sx 132 [1,2,4,5,6,7] 4))
  (.seq (.block 5
  (.seq (.region [oa 75 (.indexAddr 2 (.t 71) (.t 73)), oa 76 (.load (some 2) (.t 75)), oa 14 (.alloc [(.int .i64 (0)), (.int .i64 (0))]), ob (.store 2 (.t 14) (.t 76))] (kp 132 [1,2,4,5,6,7,14,71,72,73]))
  (.seq (.region [oa 77 (.load none (.t 6)), oa 78 (.nilCheck (.t 77)), oa 79 (.fieldAddr 2 (.t 78)), oa 80 (.load none (.t 79)), oa 81 (.load (some 2) (.t 14)), oa 82 (.lookup (.agg [.i, .i]) (.bool false) false (.t 80) (.t 81)), oa 83 (.un .not (.t 82))] (kp 132 [1,2,4,5,6,7,14,71,72,73,83]))
  (.cond (.t 83)
  (.region [oa 84 (.mov (.t 7)), oa 85 (.load none (.t 6)), oa 86 (.nilCheck (.t 85)), oa 87 (.fieldAddr 1 (.t 86)), oa 88 (.load none (.t 87)), oa 89 (.load (some 2) (.t 14)), oa 90 (.lookup (.agg [.i, .i]) (.agg [(.int .i64 (0)), (.int .i64 (0))]) false (.t 88) (.t 89)), oa 91 (.buildSlice 1 [(.int .i64 (0)), (.int .i64 (0))] [(0, 2, (.t 90))]), oa 92 (.append 2 16 (.t 84) (.t 91)), oa 7 (.mov (.t 92))] (kp 132 [1,2,4,5,6,7,71,72,73]))
  (sk 132 [1,2,4,5,6,7,71,72,73])))))
  (.region [oa 93 (.bin .add (.t 73) (ai 1)), oa 73 (.mov (.t 93))] (kp 132 [1,2,4,5,6,7,71,72,73])))))
  (sk 132 [1,2,4,5,6,7,71,72,73]))
def a46_3 : IC := (.region [oa 18 (.alloc [(.int .i64 (0)), (.int .i64 (0))]), ob (.store 2 (.t 18) (.t 103))] (kp 132 [2,6,16,17,18]))
def b46_3 : IC := (.block 9
  (.seq (.seq (.region [oa 104 (.load none (.t 6)), oa 105 (.load (some 2) (.t 18)), oa 106 (.call 94 [(.t 104), (.t 105)]), oa 19 (.alloc [(.int .i64 (0)), (.int .i64 (0))]), ob (.store 2 (.t 19) (.t 106))] (kp 132 [2,16,17,18,19]))
  (.seq (.region [oa 107 (.load (some 2) (.t 19)), oa 108 (.load (some 2) (.t 18)), oa 109 (.eql true (.key (.agg [.i, .i])) (.t 107) (.t 108))] (kp 132 [2,16,17,19,109]))
  (.cond (.t 109)
  (.region [oa 110 (.load none (.t 2)), oa 111 (.load (some 2) (.t 16)), oa 112 (.load none (.t 17)), oa 113 (.load (some 2) (.t 19)), oa 114 (.call 65 [(.t 110), (.t 111), (.t 112), (.t 113)])] (kp 132 [17]))
  (sk 132 [17]))))
  (.region [oa 115 (.load none (.t 17)), oa 116 (.bin .add (.t 115) (ai 1)), ob (.store 1 (.t 17) (.t 116))] (kp 132 []))))
def l46_4 : IC := (.seq (.seq (.region [oa 97 (.bin .lss (.t 96) (.t 95))] (kp 132 [1,2,4,5,6,94,95,96,97]))
  (.seq (.cond (.t 97)
  (sk 132 [1,2,4,5,6,94,95,96])
  (sx 132 [1,6] 6))
  (.seq (.block 7
  (.seq (.region [oa 98 (.indexAddr 2 (.t 94) (.t 96)), oa 99 (.load (some 2) (.t 98)), oa 16 (.alloc [(.int .i64 (0)), (.int .i64 (0))]), ob (.store 2 (.t 16) (.t 99))] (kp 132 [1,2,4,5,6,16,94,95,96]))
  (.seq (.region [oa 17 (.alloc [(.int .i64 (0))]), ob (.store 1 (.t 17) (ai 0))] (kp 132 [1,2,4,5,6,16,17,94,95,96]))
  (.seq (.region [oa 100 (.load none (.t 2)), oa 101 (.load (some 2) (.t 16)), oa 102 (.call 93 [(.t 100), (.t 101)])] (kp 132 [1,2,4,5,6,16,17,94,95,96,102]))
  (.block 8
  (.seq (sk 132 [1,2,4,5,6,16,17,94,95,96,102])
  (.seq (.range (.t 102) [103] a46_3 b46_3)
  (sk 132 [1,2,4,5,6,94,95,96]))))))))
  (.region [oa 117 (.bin .add (.t 96) (ai 1)), oa 96 (.mov (.t 117))] (kp 132 [1,2,4,5,6,94,95,96])))))
  (sk 132 [1,2,4,5,6,94,95,96]))
def l46_5 : IC := (.seq (.seq (.region [oa 121 (.bin .lss (.t 120) (.t 119))] (kp 132 [6,20,118,119,120,121]))
  (.seq (.cond (.t 121)
  (sk 132 [6,20,118,119,120])
  (sx 132 [20] 10))
  (.seq (.block 11
  (.seq (.region [oa 122 (.indexAddr 2 (.t 118) (.t 120)), oa 123 (.load (some 2) (.t 122)), oa 22 (.alloc [(.int .i64 (0)), (.int .i64 (0))]), ob (.store 2 (.t 22) (.t 123))] (kp 132 [6,20,22,118,119,120]))
  (.region [oa 124 (.mov (.t 20)), oa 125 (.load none (.t 6)), oa 126 (.load (some 2) (.t 22)), oa 127 (.call 94 [(.t 125), (.t 126)]), oa 128 (.buildSlice 1 [(.int .i64 (0)), (.int .i64 (0))] [(0, 2, (.t 127))]), oa 129 (.append 2 16 (.t 124) (.t 128)), oa 20 (.mov (.t 129))] (kp 132 [6,20,118,119,120]))))
  (.region [oa 130 (.bin .add (.t 120) (ai 1)), oa 120 (.mov (.t 130))] (kp 132 [6,20,118,119,120])))))
  (sk 132 [6,20,118,119,120]))
def j46_bbbbbbbbb : IC := (.seq (.region [oa 131 (.mov (.t 20)), oa 4 (.mov (.t 131)), oa 5 (.mov (ai 0))] (kp 132 [4,5]))
  (sr 132 [4,5]))
def j46_bbbbbbb : IC := (.seq (.region [oa 20 (.mov (.c (.slice none 0 (some 0))))] (kp 132 [1,6,20]))
  (.seq (.seq (.region [oa 118 (.mov (.t 1)), oa 119 (.lenSlice (.t 118)), oa 120 (.mov (ai 0))] (kp 132 [6,20,118,119,120]))
  (.block 10
  (.seq (sk 132 [6,20,118,119,120])
  (.loop l46_5))))
  j46_bbbbbbbbb))
def j46_bbbbbb : IC := (.seq (.seq (.region [oa 94 (.mov (.t 7)), oa 95 (.lenSlice (.t 94)), oa 96 (.mov (ai 0))] (kp 132 [1,2,4,5,6,94,95,96]))
  (.block 6
  (.seq (sk 132 [1,2,4,5,6,94,95,96])
  (.loop l46_4))))
  j46_bbbbbbb)
def j46_bbbbb : IC := (.seq (.seq (.region [oa 65 (.load none (.t 6)), oa 66 (.nilCheck (.t 65)), oa 67 (.fieldAddr 0 (.t 66)), oa 68 (.load none (.t 67)), oa 69 (.nilCheck (.t 68)), oa 70 (.fieldAddr 1 (.t 69)), oa 71 (.load none (.t 70)), oa 72 (.lenSlice (.t 71)), oa 73 (.mov (ai 0))] (kp 132 [1,2,4,5,6,7,71,72,73]))
  (.block 4
  (.seq (sk 132 [1,2,4,5,6,7,71,72,73])
  (.loop l46_2))))
  j46_bbbbbb)
def c46 : IFn := ⟨132, [(4, none), (5, none)],
  (.seq (.region [oa 2 (.box (.t 0)), oa 4 (.mov (.c (.slice none 0 (some 0)))), oa 5 (.mov (ai 0))] (kp 132 [1,2,4,5]))
  (.seq (.seq (.region [oa 23 (.load none (.t 2)), oa 24 (.call 89 [(.t 23)])] (kp 132 [1,2,4,5,24]))
  (.cond (.t 24)
  (.seq (.region [oa 4 (.mov (.c (.slice none 0 (some 0)))), oa 5 (.mov (ai 6))] (kp 132 [4,5]))
  (sr 132 [4,5]))
  (sk 132 [1,2,4,5])))
  (.seq (.region [oa 25 (.load none (.t 2)), oa 26 (.mov (.t 1)), oa 27 (.call 90 [(.t 25), (.t 26)]), oa 28 .mkMap, oa 29 .mkMap, oa 30 (.build [(.ptr none), (.map none), (.map none)] [(0, 1, (.t 27)), (1, 1, (.t 28)), (2, 1, (.t 29))]), oa 31 (.box (.t 30)), oa 6 (.alloc [(.ptr none)]), ob (.store 1 (.t 6) (.t 31))] (kp 132 [1,2,4,5,6]))
  (.seq (.region [oa 7 (.mov (.c (.slice none 0 (some 0))))] (kp 132 [1,2,4,5,6,7]))
  (.seq (.seq (.region [oa 32 (.load none (.t 2)), oa 33 (.call 27 [(.t 32)]), oa 34 (.mov (ai 0))] (kp 132 [1,2,4,5,6,7,33,34]))
  (.block 0
  (.seq (sk 132 [1,2,4,5,6,7,33,34])
  (.loop l46_1))))
  j46_bbbbb)))))⟩
theorem F46 : shutF Try.prog 46 = some c46 := by kernel_rfl


/-- The words of a region's objects. -/
def wordsR (g : Reg) : List (Int × Int) := g.objs.map fun x => ((x.at_ : Int), (g.life : Int))
/-- What has been collected. -/
structure ColS where
  regs : List Reg
  u : List Bool
  mv : ToF
  fx : List (Int × Int)
  objs : List (Int × Int)
/-- A region is collected. -/
def keptM (L : List (Int × Int)) (g : Reg) : List Obj := g.objs.filter fun x => decide (((x.at_ : Int), (g.life : Int)) ∈ L)
def colStep (L : List (Int × Int)) (S : ColS) (g : Reg) : ColS :=
  if 0 < g.pages.length then
    match layM 0 g.life ((keptM L g).map fun x => x.ws.length + 1) (freeP S.u g.pages) 0 [] with
    | some (ats, u', fill', pages') => ⟨S.regs ++ [{ g with fill := fill', pages := pages', objs := layObj (keptM L g) ats }], u',
        (((keptM L g).map fun x => ((x.at_ : Int), (g.life : Int))).zip (ats.map fun a : Nat => ((a : Int), (g.life : Int)))).foldl updF S.mv, S.fx, S.objs⟩
    | none => ⟨S.regs ++ [g], S.u, S.mv, S.fx, S.objs⟩
  else ⟨S.regs ++ [g], S.u, S.mv, S.fx ++ wordsR g, S.objs ++ wordsR g⟩
section
variable {o : Nat → Option O} {s : St} {C F : Ch} {Q : V → St → Prop} {p r : Nat} {u : List Bool}
set_option maxRecDepth 10000
set_option maxHeartbeats 4000000

theorem seenF_add (l : List (Int × Int)) (w : Int × Int) : (fun b => if b = w then some (V.bool true) else seenF l b) = seenF (l ++ [w]) := by
  funext b
  unfold seenF
  by_cases hb : b = w
  · subst hb; simp
  · simp [hb]

theorem fix_loop {c t tk fk cb kl : Nat} {v1 v2 v4 v5 v7 v33 v34 : V} {W : List (Int × Int)} {K : Kt} (mc : (c, some (.cells [ptrN t, .map (some (.new tk)), .map (some (.new fk))] none)) ∈ C) (mb : (cb, some (.cells [ptrN c] none)) ∈ C)
    (mo : (kl, rowO 2 W.length (W.flatMap encW)) ∈ C) (hl : W.length ≤ 100000) :
    ∀ (n i : Nat) (fx : List (Int × Int)) (mf : O) (s : St), i + n = W.length → MapIs encA (seenF fx) mf → Holds o s ((fk, some mf) :: C) →
    (∀ s' mf', MapIs encA (seenF (fx ++ W.drop i)) mf' → Holds o s' ((fk, some mf') :: C) → WP (K (.exit 2) (sp 132 [(1, v1), (2, v2), (4, v4), (5, v5), (6, ptrN cb), (7, v7), (9, rowV kl W.length), (33, v33), (34, v34)]) s') Q) →
    WP (loop PF (.loop l46_0) (sp 132 [(1, v1), (2, v2), (4, v4), (5, v5), (6, ptrN cb), (7, v7), (9, rowV kl W.length), (33, v33), (34, v34), (49, rowV kl W.length), (50, I W.length), (51, I i)]) s K) Q
  | 0, i, fx, mf, s, hi, hm, H, q => by
    have hlt : ¬ ((i : Int) < (W.length : Int)) := by omega
    rw [List.drop_eq_nil_of_le (by omega), List.append_nil] at q
    refine wp_round fun LL hLL => ?_
    simp -implicitDefEqProofs only [↓GP, GB, GL, Nat.reduceAdd, Nat.reduceSub, Nat.reduceEqDiff, Nat.reduceMul, Nat.reduceLeDiff, Int.reduceBNe, Int.reduceBEq, Nat.reduceLT, reduceCtorEq, l46_0, hlt]
    exact q s mf hm H
  | n + 1, i, fx, mf, s, hi, hm, H, q => by
    have hlt : ((i : Int) < (W.length : Int)) := by omega
    have hi' : i < W.length := by omega
    have hw1 := wrap_add1 (a := i) (by omega)
    have hix := ix_row (sz := 2) (k := kl) (n := W.length) (i := i) (kk := .i64) hi'
    have er : rowO 2 W.length (W.flatMap encW) = some (.cells (W.flatMap encW) (some 2)) := by unfold rowO; rw [if_neg (by omega)]
    have fr := H.mem (List.mem_cons_of_mem _ (er ▸ mo))
    have fc := H.mem (List.mem_cons_of_mem _ mc)
    have fb := H.mem (List.mem_cons_of_mem _ mb)
    have hld := ldN_tab (enc := encW) encW_len W (some 2) (List.getElem?_eq_getElem hi')
    rw [List.drop_eq_getElem_cons hi'] at q
    generalize W[i] = w at q hld
    have h1 := (H.alloc (.cells [I 0, I 0] none)).set0 (.cells (encW w) none)
    refine wp_round fun LL hLL => ?_
    simp -implicitDefEqProofs only [↓GP, GB, GL, Nat.reduceAdd, Nat.reduceSub, Nat.reduceEqDiff, Nat.reduceMul, Nat.reduceLeDiff, Int.reduceBNe, Int.reduceBEq, Nat.reduceLT, reduceCtorEq, l46_0, hlt, hix, fr, fc, fb, hld, encW]
    refine wp_mapSet (enc := encA) (a := w) (v := .bool true) keyA hm (h1.tl.g0) fun mf' hm' => ?_
    rw [seenF_add] at hm'
    simp -implicitDefEqProofs only [↓GP, GB, GL, Nat.reduceAdd, Nat.reduceSub, Nat.reduceEqDiff, Nat.reduceMul, Nat.reduceLeDiff, Int.reduceBNe, Int.reduceBEq, Nat.reduceLT, reduceCtorEq, hw1]
    rw [hLL]
    exact fix_loop mc mb mo hl n (i + 1) _ mf' _ (by omega) hm' (h1.set1 mf').tl (by simpa using q)

theorem kept_m (L : List (Int × Int)) (g : PReg) : keptM L g.m = (g.objs.filter fun x => decide (((x.b.at_ : Int), (g.life : Int)) ∈ L)).map (·.b) := by
  unfold keptM PReg.m
  rw [List.filter_map]
  rfl
theorem words_m (g : PReg) : wordsR g.m = wordsP g.life g.objs := by
  unfold wordsR wordsP PReg.m
  rw [List.map_map]
  rfl

theorem col_loop {c t tk fk lk mk hb cb id lv : Nat} {v1 v4 v5 : V} {L : List (Int × Int)} {m : O} {K : Kt} (mhb : (hb, some (.cells [ptrN id] none)) ∈ F) (mcb : (cb, some (.cells [ptrN c] none)) ∈ F) (hm : MapIs encA (seenF L) m) :
    ∀ (B A : List PReg) (hp : PHeap) (S : ColS) (ko : Nat) (mt mf : O) (s : St), hp.id = id → hp.lives = lv → hp.regs = A ++ B → A.map PReg.m = S.regs → RsOk hp.lives S.u (hp.regs.map PReg.m) → (∀ g ∈ hp.regs, g.ok) → S.objs.length ≤ A.length →
    MapIs encA (fun w => (S.mv w).map encA) mt → MapIs encA (seenF S.fx) mf →
    Holds o s ((ko, rowO 2 S.objs.length (S.objs.flatMap encW)) :: (poolC p r S.u ++ (hp.ch p ++ (colC c t tk fk mt mf ++ (huntC t lk mk (ptrN id) L m ++ F))))) →
    (∀ s' (hp' : PHeap) ko' mt' mf', hp'.id = id → hp'.lives = lv → hp'.regs.length = hp.regs.length → hp'.regs.map PReg.m = ((B.map PReg.m).foldl (colStep L) S).regs → RsOk lv ((B.map PReg.m).foldl (colStep L) S).u (hp'.regs.map PReg.m) → (∀ g ∈ hp'.regs, g.ok) → ((B.map PReg.m).foldl (colStep L) S).objs.length ≤ hp.regs.length →
      MapIs encA (fun w => (((B.map PReg.m).foldl (colStep L) S).mv w).map encA) mt' → MapIs encA (seenF ((B.map PReg.m).foldl (colStep L) S).fx) mf' →
      Holds o s' ((ko', rowO 2 ((B.map PReg.m).foldl (colStep L) S).objs.length (((B.map PReg.m).foldl (colStep L) S).objs.flatMap encW)) :: (poolC p r ((B.map PReg.m).foldl (colStep L) S).u ++ (hp'.ch p ++ (colC c t tk fk mt' mf' ++ (huntC t lk mk (ptrN id) L m ++ F))))) →
      WP (K (.exit 0) (sp 132 [(1, v1), (2, ptrN hb), (4, v4), (5, v5), (6, ptrN cb), (7, rowV ko' ((B.map PReg.m).foldl (colStep L) S).objs.length)]) s') Q) →
    WP (loop PF (.loop l46_1) (sp 132 [(1, v1), (2, ptrN hb), (4, v4), (5, v5), (6, ptrN cb), (7, rowV ko S.objs.length), (33, I hp.regs.length), (34, I A.length)]) s K) Q
  | [], A, hp, S, ko, mt, mf, s, hid, hlv, hr, hA, hR, hok, hob, hmt, hmf, H, q => by
    have hlt : ¬ ((A.length : Int) < (hp.regs.length : Int)) := by rw [hr]; simp
    refine wp_round fun LL hLL => ?_
    simp -implicitDefEqProofs only [↓GP, GB, GL, Nat.reduceAdd, Nat.reduceSub, Nat.reduceEqDiff, Nat.reduceMul, Nat.reduceLeDiff, Int.reduceBNe, Int.reduceBEq, Nat.reduceLT, reduceCtorEq, l46_1, hlt]
    rw [List.append_nil] at hr
    exact q s hp ko mt mf hid hlv rfl (by rw [hr]; exact hA) (hlv ▸ hR) hok (by rw [hr]; exact hob) hmt hmf H
  | g :: B, A, hp, S, ko, mt, mf, s, hid, hlv, hr, hA, hR, hok, hob, hmt, hmf, H, q => by
    have hlen : hp.regs.length ≤ 100000 := by have h1 := hR.inv.len; have h2 := hR.inv.lives; rw [List.length_map] at h1; omega
    have hlt : ((A.length : Int) < (hp.regs.length : Int)) := by rw [hr]; simp; omega
    have hAl : A.length < hp.regs.length := by rw [hr]; simp
    have hg : hp.regs[A.length]? = some g := by rw [hr]; simp
    have mg := List.mem_of_getElem? hg
    have hri := hR.inv.reg g.m (List.mem_map.2 ⟨g, mg, rfl⟩)
    have hw1 := wrap_add1 (a := A.length) (by omega)
    have hu := hR.ulen
    have hpl : g.pages.length ≤ 30 := by
      have hrm : g.m ∈ hp.regs.map PReg.m := List.mem_map.2 ⟨g, mg, rfl⟩
      have hsb := sub_flatMap (fun r : Reg => r.pages) hrm
      have := hR.pool.sub_len hsb
      simp only [PReg.m] at *; omega
    subst hid
    have hin : In ((ko, rowO 2 S.objs.length (S.objs.flatMap encW)) :: (poolC p r S.u ++ (hp.ch p ++ (colC c t tk fk mt mf ++ (huntC t lk mk (ptrN hp.id) L m ++ F))))) p hp := ⟨fun x hx => List.mem_cons_of_mem _ (List.mem_append_right _ (List.mem_append_left _ hx))⟩
    have inF : ∀ x ∈ F, x ∈ (ko, rowO 2 S.objs.length (S.objs.flatMap encW)) :: (poolC p r S.u ++ (hp.ch p ++ (colC c t tk fk mt mf ++ (huntC t lk mk (ptrN hp.id) L m ++ F)))) :=
      fun x hx => List.mem_cons_of_mem _ (List.mem_append_right _ (List.mem_append_right _ (List.mem_append_right _ (List.mem_append_right _ hx))))
    have fh := H.mem (inF _ mhb)
    have fc := H.mem (inF _ mcb)
    refine wp_round fun LL hLL => ?_
    simp -implicitDefEqProofs only [↓GP, GB, GL, Nat.reduceAdd, Nat.reduceSub, Nat.reduceEqDiff, Nat.reduceMul, Nat.reduceLeDiff, Int.reduceBNe, Int.reduceBEq, Nat.reduceLT, reduceCtorEq, l46_1, hlt, fh, fc]
    refine wp_in (s91 H hin hlen hg (by omega) fun s1 h1 => ?_)
    have fh1 := h1.mem (inF _ mhb)
    have fc1 := h1.mem (inF _ mcb)
    by_cases hpg : 0 < g.pages.length
    · rw [decide_eq_true hpg]
      have hs0 : g.size = 0 := by
        rcases Nat.eq_zero_or_pos g.size with h | h
        · exact h
        · have := (hri.fin h).1; simp only [PReg.m] at this; rw [this] at hpg; simp at hpg
      simp -implicitDefEqProofs only [↓GP, GB, GL, Nat.reduceAdd, Nat.reduceSub, Nat.reduceEqDiff, Nat.reduceMul, Nat.reduceLeDiff, Int.reduceBNe, Int.reduceBEq, Nat.reduceLT, reduceCtorEq, fh1, fc1]
      refine wp_in (s92 (p := p) (r := r) (u := S.u) (F := (ko, rowO 2 S.objs.length (S.objs.flatMap encW)) :: F) (lk := lk) (mk := mk) (L := L) (m := m) (t := t) (tk := tk) (fk := fk) (mt := mt) (mf := mf) (Holds.of (h1) (fun k => by simp +arith only [HA, HB]) (fun k x => by simp only [HA, HC]; grind only)) hr hs0 hok hR hm hmt fun s2 u' fill' pages' ats pgk obk plk pl mt' hlay hul okp hR' hm' h2 => ?_)
      generalize hg1 : ({ g with pgk := pgk, obk := obk, plk := plk, pl := pl, fill := fill', pages := pages', objs := relay (g.objs.filter fun x => decide (((x.b.at_ : Int), (g.life : Int)) ∈ L)) ats } : PReg) = g1 at okp hR' h2
      have e : colStep L S g.m = ⟨S.regs ++ [PReg.m g1], u', ((wordsP g.life (g.objs.filter fun x => decide (((x.b.at_ : Int), (g.life : Int)) ∈ L))).zip (ats.map fun a : Nat => ((a : Int), (g.life : Int)))).foldl updF S.mv, S.fx, S.objs⟩ := by
        have hl : layM 0 g.m.life ((keptM L g.m).map fun x => x.ws.length + 1) (freeP S.u g.m.pages) 0 [] = some (ats, u', fill', pages') := by
          rw [kept_m, List.map_map]; exact hlay
        unfold colStep
        rw [if_pos (show 0 < g.m.pages.length from hpg), hl]
        simp only [kept_m, List.map_map, wordsP, ← hg1]
        simp only [PReg.m, relay_b]
        rfl
      obtain ⟨S1, hS1⟩ : ∃ S1 : ColS, S1 = ⟨S.regs ++ [PReg.m g1], u', ((wordsP g.life (g.objs.filter fun x => decide (((x.b.at_ : Int), (g.life : Int)) ∈ L))).zip (ats.map fun a : Nat => ((a : Int), (g.life : Int)))).foldl updF S.mv, S.fx, S.objs⟩ := ⟨_, rfl⟩
      rw [← hS1] at e
      rw [List.map_cons, List.foldl_cons, e] at q
      have eo : S1.objs = S.objs := by rw [hS1]
      simp -implicitDefEqProofs only [↓GP, GB, GL, Nat.reduceAdd, Nat.reduceSub, Nat.reduceEqDiff, Nat.reduceMul, Nat.reduceLeDiff, Int.reduceBNe, Int.reduceBEq, Nat.reduceLT, reduceCtorEq, hw1]
      rw [hLL]
      have hl1 : (A ++ [g1]).length = A.length + 1 := by simp
      have hl2 : (A ++ g1 :: B).length = hp.regs.length := by rw [hr]; simp
      have := col_loop (K := K) (v1 := v1) (v4 := v4) (v5 := v5) mhb mcb hm B (A ++ [g1]) { hp with regs := A ++ g1 :: B } S1 ko mt' mf s2 rfl hlv (by simp) (by rw [List.map_append, hA, hS1]; rfl) (by rw [hS1]; exact hR') (fun x hx => by
        rcases List.mem_append.1 hx with hx | hx
        · exact hok x (by rw [hr]; exact List.mem_append_left _ hx)
        · rcases List.mem_cons.1 hx with rfl | hx
          · exact okp
          · exact hok x (by rw [hr]; simp [hx])) (by rw [hl1, eo]; exact Nat.le_succ_of_le hob) (by rw [hS1]; exact hm') (by rw [hS1]; exact hmf) (by subst hS1; exact (Holds.of (h2) (fun k => by simp +arith only [HA, HB]) (fun k x => by simp only [HA, HC]; grind only))) (by
          intro s' hp' ko' mt' mf' e1 e2 e3
          simp only [hl2] at e3 ⊢
          exact q s' hp' ko' mt' mf' e1 e2 e3)
      rw [hl1, eo] at this
      simp only [hl2] at this
      exact this
    · rw [decide_eq_false hpg]
      simp -implicitDefEqProofs only [↓GP, GB, GL, Nat.reduceAdd, Nat.reduceSub, Nat.reduceEqDiff, Nat.reduceMul, Nat.reduceLeDiff, Int.reduceBNe, Int.reduceBEq, Nat.reduceLT, reduceCtorEq, fh1, fc1]
      have hno : g.objs.length ≤ 1 := by have := hri.nobjs; simp only [PReg.m, List.length_map] at this; omega
      refine wp_in (s28 h1 hin hlen hg (by omega) fun s2 kl h2 => ?_)
      rw [words_enc, show g.objs.length = (wordsP g.life g.objs).length by simp [wordsP]] at h2
      rw [show g.objs.length = (wordsP g.life g.objs).length by simp [wordsP]]
      have hwl : (wordsP g.life g.objs).length ≤ 1 := by simpa [wordsP] using hno
      have e : colStep L S g.m = ⟨S.regs ++ [g.m], S.u, S.mv, S.fx ++ wordsP g.life g.objs, S.objs ++ wordsP g.life g.objs⟩ := by
        unfold colStep
        rw [if_neg (show ¬ 0 < g.m.pages.length from hpg), words_m]
      generalize wordsP g.life g.objs = W at h2 hwl e
      simp -implicitDefEqProofs only [↓GP, GB, GL, Nat.reduceAdd, Nat.reduceSub, Nat.reduceEqDiff, Nat.reduceMul, Nat.reduceLeDiff, Int.reduceBNe, Int.reduceBEq, Nat.reduceLT, reduceCtorEq]
      have h3 : Holds o s2 ((fk, some mf) :: (ko, rowO 2 S.objs.length (S.objs.flatMap encW)) :: (kl, rowO 2 W.length (W.flatMap encW)) :: (c, some (.cells [ptrN t, .map (some (.new tk)), .map (some (.new fk))] none)) :: (tk, some mt) ::
        (poolC p r S.u ++ (hp.ch p ++ (huntC t lk mk (ptrN hp.id) L m ++ F)))) := (Holds.of (h2) (fun k => by simp +arith only [colC, HA, HB]) (fun k x => by simp only [colC, HA, HC]; grind only))
      refine fix_loop (t := t) (tk := tk) (List.mem_cons_of_mem _ (List.mem_cons_of_mem _ (List.mem_cons_self ..))) (List.mem_cons_of_mem _ (List.mem_cons_of_mem _ (List.mem_cons_of_mem _ (List.mem_cons_of_mem _ (List.mem_append_right _ (List.mem_append_right _ (List.mem_append_right _ mcb))))))) (List.mem_cons_of_mem _ (List.mem_cons_self ..)) (by omega) W.length 0 S.fx mf s2 (by omega) hmf h3 fun s3 mf' hm' h4 => ?_
      rw [List.drop_zero] at hm'
      simp -implicitDefEqProofs only [↓GP, GB, GL, Nat.reduceAdd, Nat.reduceSub, Nat.reduceEqDiff, Nat.reduceMul, Nat.reduceLeDiff, Int.reduceBNe, Int.reduceBEq, Nat.reduceLT, reduceCtorEq]
      have fl : W.length = 0 ∨ s3.new kl = some (.cells (W.flatMap encW) (some 2)) := by
        by_cases h0 : W.length = 0
        · exact .inl h0
        · have er : rowO 2 W.length (W.flatMap encW) = some (.cells (W.flatMap encW) (some 2)) := by unfold rowO; rw [if_neg h0]
          rw [er] at h4
          exact .inr (h4.mem (List.mem_cons_of_mem _ (List.mem_cons_of_mem _ (List.mem_cons_self ..)))).1
      refine wp_append (sz := 2) (bytes := 16) (m := W.length) (cs := S.objs.flatMap encW) h4.r1 (by rw [tab_len encW_len]) (new_row fl (by rw [tab_len encW_len])) (by rw [tab_len encW_len]) (by rw [List.all_flatMap]; simp [encW, V.one]) (by omega) (by unfold maxRow; omega) (by unfold maxRow; omega) fun ko' s4 h5 => ?_
      obtain ⟨S1, hS1⟩ : ∃ S1 : ColS, S1 = ⟨S.regs ++ [g.m], S.u, S.mv, S.fx ++ W, S.objs ++ W⟩ := ⟨_, rfl⟩
      rw [← hS1] at e
      rw [List.map_cons, List.foldl_cons, e] at q
      have eo : S1.objs.length = S.objs.length + W.length := by rw [hS1]; simp
      simp -implicitDefEqProofs only [↓GP, GB, GL, Nat.reduceAdd, Nat.reduceSub, Nat.reduceEqDiff, Nat.reduceMul, Nat.reduceLeDiff, Int.reduceBNe, Int.reduceBEq, Nat.reduceLT, reduceCtorEq, hw1]
      rw [hLL]
      have hl1 : (A ++ [g]).length = A.length + 1 := by simp
      have := col_loop (K := K) (v1 := v1) (v4 := v4) (v5 := v5) mhb mcb hm B (A ++ [g]) hp S1 ko' mt mf' s4 rfl hlv (by simp [hr]) (by rw [List.map_append, hA, hS1]; rfl) (by rw [hS1]; exact hR) hok (by omega) (by rw [hS1]; exact hmt) (by rw [hS1]; exact hm')
        (by subst hS1; exact (Holds.of (h5) (fun k => by simp +arith only [colC, List.length_append, List.flatMap_append, HA, HB]) (fun k x => by simp only [colC, List.length_append, List.flatMap_append, HA, HC]; grind only))) q
      rw [hl1, eo] at this
      exact this
end
end Go.Proofs.Ytoldkemimhebaaa

/- Layer 16: Collect: the objects, the words, the roots. -/
set_option linter.unusedSimpArgs false
set_option linter.unusedVariables false
namespace Go.Proofs.Ytoldkemimhebaaa
open Go Go.IM

section
variable {o : Nat → Option O} {s : St} {C F : Ch} {Q : V → St → Prop} {p r : Nat} {u : List Bool}
set_option maxRecDepth 10000
set_option maxHeartbeats 4000000

def toD (mv : ToF) (w : Int × Int) : Int × Int := (mv w).getD (0, 0)

theorem obj_loop {c t tk fk lk cb : Nat} {v1 v2 v4 v5 : V} {L fx : List (Int × Int)} {mv : ToF} {mt mf : O} {K : Kt} (hs : ∀ x ∈ colC c t tk fk mt mf, x ∈ C) (mb : (cb, some (.cells [ptrN c] none)) ∈ C) (mo : (lk, rowO 2 L.length (L.flatMap encW)) ∈ C)
    (hmt : MapIs encA (fun w => (mv w).map encA) mt) (hmf : MapIs encA (seenF fx) mf) (hl : L.length ≤ 100000) :
    ∀ (n i k : Nat) (acc : List (Int × Int)) (s : St), i + n = L.length → acc.length ≤ 100000 + i → Holds o s ((k, rowO 2 acc.length (acc.flatMap encW)) :: C) →
    (∀ s' k', Holds o s' ((k', rowO 2 (acc ++ ((L.drop i).filter fun w => !decide (w ∈ fx)).map (toD mv)).length ((acc ++ ((L.drop i).filter fun w => !decide (w ∈ fx)).map (toD mv)).flatMap encW)) :: C) →
      WP (K (.exit 4) (sp 132 [(1, v1), (2, v2), (4, v4), (5, v5), (6, ptrN cb), (7, rowV k' (acc ++ ((L.drop i).filter fun w => !decide (w ∈ fx)).map (toD mv)).length)]) s') Q) →
    WP (loop PF (.loop l46_2) (sp 132 [(1, v1), (2, v2), (4, v4), (5, v5), (6, ptrN cb), (7, rowV k acc.length), (71, rowV lk L.length), (72, I L.length), (73, I i)]) s K) Q
  | 0, i, k, acc, s, hi, ha, H, q => by
    have hlt : ¬ ((i : Int) < (L.length : Int)) := by omega
    rw [List.drop_eq_nil_of_le (by omega), List.filter_nil, List.map_nil, List.append_nil] at q
    refine wp_round fun LL hLL => ?_
    simp -implicitDefEqProofs only [↓GP, GB, GL, Nat.reduceAdd, Nat.reduceSub, Nat.reduceEqDiff, Nat.reduceMul, Nat.reduceLeDiff, Int.reduceBNe, Int.reduceBEq, Nat.reduceLT, reduceCtorEq, l46_2, hlt]
    exact q s k H
  | n + 1, i, k, acc, s, hi, ha, H, q => by
    have hlt : ((i : Int) < (L.length : Int)) := by omega
    have hi' : i < L.length := by omega
    have hw1 := wrap_add1 (a := i) (by omega)
    have hix := ix_row (sz := 2) (k := lk) (n := L.length) (i := i) (kk := .i64) hi'
    have er : rowO 2 L.length (L.flatMap encW) = some (.cells (L.flatMap encW) (some 2)) := by unfold rowO; rw [if_neg (by omega)]
    have fr := H.mem (List.mem_cons_of_mem _ (er ▸ mo))
    have fc := H.mem (List.mem_cons_of_mem _ (hs (c, some (.cells [ptrN t, .map (some (.new tk)), .map (some (.new fk))] none)) (List.mem_cons_self ..)))
    have mt' := hs (tk, some mt) (List.mem_cons_of_mem _ (List.mem_cons_self ..))
    have mf' := hs (fk, some mf) (List.mem_cons_of_mem _ (List.mem_cons_of_mem _ (List.mem_cons_self ..)))
    have fb := H.mem (List.mem_cons_of_mem _ mb)
    have hld := ldN_tab (enc := encW) encW_len L (some 2) (List.getElem?_eq_getElem hi')
    rw [List.drop_eq_getElem_cons hi', List.filter_cons] at q
    generalize L[i] = w at q hld
    have h1 := (H.alloc (.cells [I 0, I 0] none)).set0 (.cells (encW w) none)
    have el := lookup_map keyA hmf (h1.mem (List.mem_cons_of_mem _ (List.mem_cons_of_mem _ mf'))).1 (.bool false) false w
    simp only [encA, encW, Bool.false_eq_true, if_false] at el
    by_cases hw : w ∈ fx
    · rw [show seenF fx w = some (.bool true) from if_pos hw, Option.getD_some] at el
      rw [if_neg (by simpa using hw)] at q
      refine wp_round fun LL hLL => ?_
      simp -implicitDefEqProofs only [↓GP, GB, GL, Nat.reduceAdd, Nat.reduceSub, Nat.reduceEqDiff, Nat.reduceMul, Nat.reduceLeDiff, Int.reduceBNe, Int.reduceBEq, Nat.reduceLT, reduceCtorEq, l46_2, hlt, hix, fr, fc, fb, hld, encW, el, hw1]
      rw [hLL]
      exact obj_loop hs mb mo hmt hmf hl n (i + 1) k acc _ (by omega) (by omega) (Holds.of (h1) (fun k => by simp +arith only [encW, HA, HB]) (fun k x => by simp only [encW, HA, HC]; grind only)) q
    · rw [show seenF fx w = none from if_neg hw, Option.getD_none] at el
      rw [if_pos (by simpa using hw)] at q
      have el2 := lookup_map keyA hmt (h1.mem (List.mem_cons_of_mem _ (List.mem_cons_of_mem _ mt'))).1 (.agg [I 0, I 0]) false w
      rw [show ((mv w).map encA).getD (.agg [I 0, I 0]) = encA (toD mv w) by unfold toD; cases mv w <;> rfl] at el2
      simp only [encA, encW, Bool.false_eq_true, if_false] at el2
      refine wp_round fun LL hLL => ?_
      simp -implicitDefEqProofs only [↓GP, GB, GL, Nat.reduceAdd, Nat.reduceSub, Nat.reduceEqDiff, Nat.reduceMul, Nat.reduceLeDiff, Int.reduceBNe, Int.reduceBEq, Nat.reduceLT, reduceCtorEq, l46_2, hlt, hix, fr, fc, fb, hld, encW, el, el2]
      refine wp_append (sz := 2) (bytes := 16) (m := 1) (cs := acc.flatMap encW) ((h1.alloc _).r2) (by rw [tab_len encW_len]) (new_cells' (alloc_new_same _ _) rfl) rfl rfl (by omega) (by unfold maxRow; omega) (by unfold maxRow; omega) fun k' s1 h2 => ?_
      simp -implicitDefEqProofs only [↓GP, GB, GL, Nat.reduceAdd, Nat.reduceSub, Nat.reduceEqDiff, Nat.reduceMul, Nat.reduceLeDiff, Int.reduceBNe, Int.reduceBEq, Nat.reduceLT, reduceCtorEq, hw1]
      rw [hLL]
      have hl1 : (acc ++ [toD mv w]).length = acc.length + 1 := by simp
      have := obj_loop (K := K) (v1 := v1) (v2 := v2) (v4 := v4) (v5 := v5) hs mb mo hmt hmf hl n (i + 1) k' (acc ++ [toD mv w]) s1 (by omega) (by simp; omega) (by
        have h3 := h2.r1.tl.r1.tl
        rw [List.flatMap_append]; simpa [encW] using h3) (by simpa using q)
      rw [hl1] at this
      exact this

theorem out_loop {c t tk fk cb kr : Nat} {roots fx : List (Int × Int)} {mv : ToF} {mt mf : O} {K : Kt} (hs : ∀ x ∈ colC c t tk fk mt mf, x ∈ C) (mb : (cb, some (.cells [ptrN c] none)) ∈ C) (mo : (kr, rowO 2 roots.length (roots.flatMap encW)) ∈ C)
    (hmt : MapIs encA (fun w => (mv w).map encA) mt) (hmf : MapIs encA (seenF fx) mf) (hl : roots.length ≤ 100000) :
    ∀ (n i k : Nat) (acc : List (Int × Int)) (s : St), i + n = roots.length → acc.length ≤ i → Holds o s ((k, rowO 2 acc.length (acc.flatMap encW)) :: C) →
    (∀ s' k', Holds o s' ((k', rowO 2 (acc ++ (roots.drop i).map (nowW mv fx)).length ((acc ++ (roots.drop i).map (nowW mv fx)).flatMap encW)) :: C) →
      WP (K (.exit 10) (sp 132 [(20, rowV k' (acc ++ (roots.drop i).map (nowW mv fx)).length)]) s') Q) →
    WP (loop PF (.loop l46_5) (sp 132 [(6, ptrN cb), (20, rowV k acc.length), (118, rowV kr roots.length), (119, I roots.length), (120, I i)]) s K) Q
  | 0, i, k, acc, s, hi, ha, H, q => by
    have hlt : ¬ ((i : Int) < (roots.length : Int)) := by omega
    rw [List.drop_eq_nil_of_le (by omega), List.map_nil, List.append_nil] at q
    refine wp_round fun LL hLL => ?_
    simp -implicitDefEqProofs only [↓GP, GB, GL, Nat.reduceAdd, Nat.reduceSub, Nat.reduceEqDiff, Nat.reduceMul, Nat.reduceLeDiff, Int.reduceBNe, Int.reduceBEq, Nat.reduceLT, reduceCtorEq, l46_5, hlt]
    exact q s k H
  | n + 1, i, k, acc, s, hi, ha, H, q => by
    have hlt : ((i : Int) < (roots.length : Int)) := by omega
    have hi' : i < roots.length := by omega
    have hw1 := wrap_add1 (a := i) (by omega)
    have hix := ix_row (sz := 2) (k := kr) (n := roots.length) (i := i) (kk := .i64) hi'
    have er : rowO 2 roots.length (roots.flatMap encW) = some (.cells (roots.flatMap encW) (some 2)) := by unfold rowO; rw [if_neg (by omega)]
    have fr := H.mem (List.mem_cons_of_mem _ (er ▸ mo))
    have fb := H.mem (List.mem_cons_of_mem _ mb)
    have hld := ldN_tab (enc := encW) encW_len roots (some 2) (List.getElem?_eq_getElem hi')
    rw [List.drop_eq_getElem_cons hi', List.map_cons] at q
    generalize roots[i] = w at q hld
    have h1 := ((H.alloc (.cells [I 0, I 0] none)).set0 (.cells (encW w) none)).tl
    refine wp_round fun LL hLL => ?_
    simp -implicitDefEqProofs only [↓GP, GB, GL, Nat.reduceAdd, Nat.reduceSub, Nat.reduceEqDiff, Nat.reduceMul, Nat.reduceLeDiff, Int.reduceBNe, Int.reduceBEq, Nat.reduceLT, reduceCtorEq, l46_5, hlt, hix, fr, fb, hld, encW]
    refine wp_in (s94 (w := w) h1 (fun x hx => List.mem_cons_of_mem _ (hs x hx)) hmt hmf fun s1 h2 => ?_)
    simp -implicitDefEqProofs only [↓GP, GB, GL, Nat.reduceAdd, Nat.reduceSub, Nat.reduceEqDiff, Nat.reduceMul, Nat.reduceLeDiff, Int.reduceBNe, Int.reduceBEq, Nat.reduceLT, reduceCtorEq, encW]
    refine wp_append (sz := 2) (bytes := 16) (m := 1) (cs := acc.flatMap encW) ((h2.alloc _).r1) (by rw [tab_len encW_len]) (new_cells' (alloc_new_same _ _) rfl) rfl rfl (by omega) (by unfold maxRow; omega) (by unfold maxRow; omega) fun k' s2 h3 => ?_
    simp -implicitDefEqProofs only [↓GP, GB, GL, Nat.reduceAdd, Nat.reduceSub, Nat.reduceEqDiff, Nat.reduceMul, Nat.reduceLeDiff, Int.reduceBNe, Int.reduceBEq, Nat.reduceLT, reduceCtorEq, hw1]
    rw [hLL]
    have hl1 : (acc ++ [nowW mv fx w]).length = acc.length + 1 := by simp
    have := out_loop (K := K) hs mb mo hmt hmf hl n (i + 1) k' (acc ++ [nowW mv fx w]) s2 (by omega) (by simp; omega) (by
      have h4 := h3.r1.tl
      rw [List.flatMap_append]; simpa [encW] using h4) (by simpa using q)
    rw [hl1] at this
    exact this
end
end Go.Proofs.Ytoldkemimhebaaa

/- Layer 16: words that are changed. -/
set_option linter.unusedSimpArgs false
set_option linter.unusedVariables false
namespace Go.Proofs.Ytoldkemimhebaaa
open Go Go.IM

/-- The words of one object, changed. -/
def Obj.wr (x : Obj) (ws : List (Int × Int)) : Obj := { x with ws := ws }
def PObj.wr (x : PObj) (ws : List (Int × Int)) : PObj := { x with b := x.b.wr ws }
def setObj1 (w : Int × Int) (f : List (Int × Int) → List (Int × Int)) (x : Obj) : Obj := if (x.at_ : Int) = w.1 then x.wr (f x.ws) else x
def setReg1 (w : Int × Int) (f : List (Int × Int) → List (Int × Int)) (g : Reg) : Reg := if (g.life : Int) = w.2 then { g with objs := g.objs.map (setObj1 w f) } else g
def setM (w : Int × Int) (f : List (Int × Int) → List (Int × Int)) (rs : List Reg) : List Reg := rs.map (setReg1 w f)

theorem setReg1_life (w : Int × Int) (f) (g : Reg) : (setReg1 w f g).life = g.life := by unfold setReg1; split <;> rfl
theorem setReg1_pages (w : Int × Int) (f) (g : Reg) : (setReg1 w f g).pages = g.pages := by unfold setReg1; split <;> rfl
theorem setReg1_size (w : Int × Int) (f) (g : Reg) : (setReg1 w f g).size = g.size := by unfold setReg1; split <;> rfl
theorem setReg1_fill (w : Int × Int) (f) (g : Reg) : (setReg1 w f g).fill = g.fill := by unfold setReg1; split <;> rfl
theorem setObj1_at (w : Int × Int) (f) (x : Obj) : (setObj1 w f x).at_ = x.at_ := by unfold setObj1; split <;> rfl
theorem setObj1_kind (w : Int × Int) (f) (x : Obj) : (setObj1 w f x).kind = x.kind := by unfold setObj1; split <;> rfl
theorem setObj1_len (w : Int × Int) {f : List (Int × Int) → List (Int × Int)} (hf : ∀ l, (f l).length = l.length) (x : Obj) : (setObj1 w f x).ws.length = x.ws.length := by
  unfold setObj1; split
  · exact hf _
  · rfl
/-- What a region is but for words. -/
def shapeR (g : Reg) : Nat × Nat × Nat × List Nat × List (Nat × Nat × Nat) := (g.size, g.life, g.fill, g.pages, g.objs.map fun x => (x.at_, x.kind, x.ws.length))
theorem setReg1_shape (w : Int × Int) {f : List (Int × Int) → List (Int × Int)} (hf : ∀ l, (f l).length = l.length) (g : Reg) : shapeR (setReg1 w f g) = shapeR g := by
  unfold shapeR
  rw [setReg1_size, setReg1_life, setReg1_fill, setReg1_pages]
  unfold setReg1
  split
  · simp only [List.map_map]
    congr 4
    exact List.map_congr_left fun x _ => by simp only [Function.comp, setObj1_at, setObj1_kind, setObj1_len w hf]
  · rfl
theorem RInv.ofShape {g g' : Reg} (h : RInv g) (e : shapeR g' = shapeR g) : RInv g' := by
  unfold shapeR at e
  simp only [Prod.mk.injEq] at e
  obtain ⟨e1, e2, e3, e4, e5⟩ := e
  exact h.congr e1 e2 e3 e4 e5
theorem RsOk.ofShape {lv : Nat} {u : List Bool} {rs rs' : List Reg} (h : RsOk lv u rs) (e : rs'.map shapeR = rs.map shapeR) : RsOk lv u rs' := by
  have el : rs'.map (·.life) = rs.map (·.life) := by
    have := congrArg (List.map fun t : Nat × Nat × Nat × List Nat × List (Nat × Nat × Nat) => t.2.1) e
    simpa [List.map_map, Function.comp_def, shapeR] using this
  have ep : rs'.map (·.pages) = rs.map (·.pages) := by
    have := congrArg (List.map fun t : Nat × Nat × Nat × List Nat × List (Nat × Nat × Nat) => t.2.2.2.1) e
    simpa [List.map_map, Function.comp_def, shapeR] using this
  have hl : rs'.length = rs.length := by have := congrArg List.length e; simpa using this
  have hx : ∀ r ∈ rs', ∃ r0 ∈ rs, shapeR r = shapeR r0 := fun r hr => by
    have : shapeR r ∈ rs.map shapeR := e ▸ List.mem_map.2 ⟨r, hr, rfl⟩
    obtain ⟨y, hy, e⟩ := List.mem_map.1 this
    exact ⟨y, hy, e.symm⟩
  have hI := h.inv
  refine ⟨h.ulen, ⟨hI.lives, fun e => hI.ne (List.length_eq_zero_iff.1 (by rw [← hl, e]; rfl)), by rw [hl]; exact hI.len, by rw [el]; exact hI.nodup, fun r hr => ?_, fun r hr => ?_⟩, ?_⟩
  · obtain ⟨r0, h0, e0⟩ := hx r hr
    have : r.life = r0.life := by unfold shapeR at e0; simp only [Prod.mk.injEq] at e0; exact e0.2.1
    rw [this]; exact hI.life r0 h0
  · obtain ⟨r0, h0, e0⟩ := hx r hr
    exact (hI.reg r0 h0).ofShape e0
  · have e1 : ∀ l : List Reg, l.flatMap (·.pages) = (l.map (·.pages)).flatten := fun l => by rw [List.flatMap_def]
    have := h.pool
    rw [e1] at this ⊢
    rw [ep]; exact this

theorem setM_shape (w : Int × Int) {f : List (Int × Int) → List (Int × Int)} (hf : ∀ l, (f l).length = l.length) (rs : List Reg) : (setM w f rs).map shapeR = rs.map shapeR := by
  unfold setM
  rw [List.map_map]
  exact List.map_congr_left fun g _ => setReg1_shape w hf g

/-- Finding an object, on models. -/
def mfind (N L : Int) (rs : List Reg) : Option Obj := rs.findSome? fun r => if (r.life : Int) = L then r.objs.find? (fun x => decide ((x.at_ : Int) = N)) else none
theorem pfind_m (N L : Int) : ∀ rs : List PReg, (pfind N L rs).map (·.b) = mfind N L (rs.map PReg.m)
  | [] => rfl
  | r :: rs => by
    have ih := pfind_m N L rs
    unfold pfind mfind at *
    simp only [List.map_cons, List.findSome?_cons]
    have e : (pf N L r).map (·.b) = (if (r.m.life : Int) = L then r.m.objs.find? (fun x => decide ((x.at_ : Int) = N)) else none) := by
      unfold pf
      split
      · rename_i h; rw [if_pos (show (r.m.life : Int) = L from h)]; simp only [PReg.m, List.find?_map]; rfl
      · rename_i h; rw [if_neg (show ¬ (r.m.life : Int) = L from h)]; rfl
    rw [← e]
    cases pf N L r with
    | some x => rfl
    | none => exact ih
theorem mfind_set (N L : Int) (w : Int × Int) (f) : ∀ rs : List Reg, (mfind N L (setM w f rs)).isSome = (mfind N L rs).isSome
  | [] => rfl
  | r :: rs => by
    have ih := mfind_set N L w f rs
    unfold mfind setM at *
    simp only [List.map_cons, List.findSome?_cons, setReg1_life]
    by_cases h : (r.life : Int) = L
    · simp only [if_pos h]
      have e : ((setReg1 w f r).objs.find? fun x => decide ((x.at_ : Int) = N)).isSome = (r.objs.find? fun x => decide ((x.at_ : Int) = N)).isSome := by
        unfold setReg1
        split
        · rw [List.find?_map]
          simp only [Option.isSome_map]
          congr 1
          have : ((fun x : Obj => decide ((x.at_ : Int) = N)) ∘ setObj1 w f) = fun x => decide ((x.at_ : Int) = N) := by funext x; simp only [Function.comp, setObj1_at]
          rw [this]
        · rfl
      cases h1 : (setReg1 w f r).objs.find? fun x => decide ((x.at_ : Int) = N) with
      | some a =>
        rw [h1] at e
        cases h2 : r.objs.find? fun x => decide ((x.at_ : Int) = N) with
        | some b => rfl
        | none => rw [h2] at e; cases e
      | none =>
        rw [h1] at e
        cases h2 : r.objs.find? fun x => decide ((x.at_ : Int) = N) with
        | some b => rw [h2] at e; cases e
        | none => exact ih
    · simp only [if_neg h]
      exact ih

/-- Where it is. -/
theorem pf_split {N L : Int} {r : PReg} {x : PObj} (h : pf N L r = some x) : ∃ X Y, r.objs = X ++ x :: Y ∧ ∀ y ∈ X, ¬ ((y.b.at_ : Int) = N) := by
  unfold pf at h
  split at h
  · obtain ⟨_, X, Y, e, hX⟩ := List.find?_eq_some_iff_append.1 h
    exact ⟨X, Y, e, fun y hy => by have := hX y hy; simpa using this⟩
  · cases h
theorem pfind_split {N L : Int} : ∀ {rs : List PReg} {x : PObj}, pfind N L rs = some x → ∃ A g B X Y, rs = A ++ g :: B ∧ g.objs = X ++ x :: Y ∧ (∀ a ∈ A, pf N L a = none) ∧ (g.life : Int) = L ∧ (x.b.at_ : Int) = N ∧ ∀ y ∈ X, ¬ ((y.b.at_ : Int) = N)
  | [], x, h => by simp [pfind] at h
  | r :: rs, x, h => by
    unfold pfind at h
    rw [List.findSome?_cons] at h
    cases hr : pf N L r with
    | some y =>
      rw [hr] at h
      cases h
      obtain ⟨X, Y, e, hX⟩ := pf_split hr
      obtain ⟨e1, e2, e3⟩ := pf_some hr
      exact ⟨[], r, rs, X, Y, rfl, e, (fun a ha => by cases ha), e1, e3, hX⟩
    | none =>
      rw [hr] at h
      obtain ⟨A, g, B, X, Y, e1, e2, e3, e4⟩ := pfind_split h
      exact ⟨r :: A, g, B, X, Y, by rw [e1]; rfl, e2, (fun a ha => by
        rcases List.mem_cons.1 ha with rfl | ha
        · exact hr
        · exact e3 a ha), e4⟩

theorem ok_wr {g : PReg} {X Y : List PObj} {x : PObj} (e : g.objs = X ++ x :: Y) (h : g.ok) (ws : List (Int × Int)) : PReg.ok { g with objs := X ++ x.wr ws :: Y } := by
  obtain ⟨l, c, e1, hl⟩ := h
  refine ⟨l, c, e1, fun a => (hl a).trans ?_⟩
  simp only [e, List.find?_append, List.find?_cons]
  have : (x.wr ws).b.at_ = x.b.at_ := rfl
  rw [this]
  cases List.find? (fun x => decide ((x.b.at_ : Int) = a)) X with
  | some _ => rfl
  | none => simp only [Option.none_or]; cases decide ((x.b.at_ : Int) = a) <;> rfl
theorem pfind_wr {N L : Int} {A B : List PReg} {g : PReg} {X Y : List PObj} {x : PObj} (hA : ∀ a ∈ A, pf N L a = none) (hg : (g.life : Int) = L) (hx : (x.b.at_ : Int) = N) (hX : ∀ y ∈ X, ¬ ((y.b.at_ : Int) = N)) (ws : List (Int × Int)) :
    pfind N L (A ++ { g with objs := X ++ x.wr ws :: Y } :: B) = some (x.wr ws) := by
  unfold pfind
  rw [List.findSome?_append, List.findSome?_eq_none_iff.2 hA, List.findSome?_cons]
  have : pf N L { g with objs := X ++ x.wr ws :: Y } = some (x.wr ws) := by
    unfold pf
    rw [if_pos hg]
    show (X ++ x.wr ws :: Y).find? _ = _
    rw [List.find?_append, List.find?_eq_none.2 (fun y hy => by simpa using hX y hy), List.find?_cons_of_pos (by show decide ((x.b.at_ : Int) = N) = true; simpa using hx)]
    rfl
  rw [this]
  rfl
theorem setP_m {lv : Nat} {u : List Bool} {A B : List PReg} {g : PReg} {X Y : List PObj} {x : PObj} {w : Int × Int} (h : RsOk lv u ((A ++ g :: B).map PReg.m)) (ex : g.objs = X ++ x :: Y) (hg : (g.life : Int) = w.2) (hx : (x.b.at_ : Int) = w.1) (f : List (Int × Int) → List (Int × Int)) :
    (A ++ { g with objs := X ++ x.wr (f x.b.ws) :: Y } :: B).map PReg.m = setM w f ((A ++ g :: B).map PReg.m) := by
  have hn := h.inv.nodup
  rw [List.map_map, List.map_append, List.map_cons, List.nodup_append] at hn
  obtain ⟨_, hn2, hn3⟩ := hn
  rw [List.nodup_cons] at hn2
  have hat := (h.inv.reg g.m (by simp)).nodup
  simp only [PReg.m, ex, List.map_append, List.map_cons, List.nodup_append] at hat
  obtain ⟨_, ha2, ha3⟩ := hat
  rw [List.nodup_cons] at ha2
  have same : ∀ a : PReg, ¬ ((a.life : Int) = w.2) → setReg1 w f a.m = a.m := fun a ha => if_neg ha
  have sameO : ∀ l : List PObj, (∀ y ∈ l, ¬ ((y.b.at_ : Int) = w.1)) → (l.map (·.b)).map (setObj1 w f) = l.map (·.b) := fun l hl => by
    rw [List.map_map]
    exact List.map_congr_left fun y hy => if_neg (hl y hy)
  unfold setM
  rw [List.map_append, List.map_append, List.map_cons, List.map_cons, List.map_append, List.map_cons]
  congr 1
  · rw [List.map_map]
    exact (List.map_congr_left fun a ha => same a fun e => hn3 _ (List.mem_map.2 ⟨a, ha, rfl⟩) _ (List.mem_cons_self ..) (by simp only [Function.comp, PReg.m]; omega)).symm
  · congr 1
    · unfold setReg1
      rw [if_pos (show (g.m.life : Int) = w.2 from hg)]
      simp only [PReg.m, ex, List.map_append, List.map_cons]
      congr 1
      rw [sameO X fun y hy e => ha3 _ (List.mem_map.2 ⟨y.b, List.mem_map.2 ⟨y, hy, rfl⟩, rfl⟩) _ (List.mem_cons_self ..) (by omega),
        sameO Y fun y hy e => ha2.1 (List.mem_map.2 ⟨y.b, List.mem_map.2 ⟨y, hy, rfl⟩, by omega⟩)]
      congr 2
      exact (if_pos hx).symm
    · rw [List.map_map]
      exact (List.map_congr_left fun a ha => same a fun e => hn2.1 (List.mem_map.2 ⟨a, ha, by simp only [Function.comp, PReg.m]; omega⟩)).symm

/-- A word, as it is set. -/
def fixF (mv : ToF) (fx : List (Int × Int)) (v : Int × Int) : Int × Int := if 0 ≤ (nowW mv fx v).2 ∧ (nowW mv fx v).2 ≤ 100000 then nowW mv fx v else v
end Go.Proofs.Ytoldkemimhebaaa

/- Layer 16: Collect: words are changed. -/
set_option linter.unusedSimpArgs false
set_option linter.unusedVariables false
namespace Go.Proofs.Ytoldkemimhebaaa
open Go Go.IM

section
variable {o : Nat → Option O} {s : St} {C F : Ch} {Q : V → St → Prop} {p r : Nat} {u : List Bool}
set_option maxRecDepth 10000
set_option maxHeartbeats 4000000

theorem upd_get {α : Type} (f : α → α) (l : List α) (j : Nat) : ((l.take j).map f ++ l.drop j)[j]? = l[j]? := by
  by_cases h : j < l.length
  · rw [List.getElem?_append_right (by simp; omega)]
    simp [List.length_take, Nat.min_eq_left (Nat.le_of_lt h)]
  · rw [List.getElem?_eq_none (by simp; omega), List.getElem?_eq_none (by omega)]
theorem upd_step {α : Type} (f : α → α) {l : List α} {j : Nat} {v : α} (h : l[j]? = some v) : ((l.take j).map f ++ l.drop j).set j (f v) = (l.take (j + 1)).map f ++ l.drop (j + 1) := by
  obtain ⟨hj, e⟩ := List.getElem?_eq_some_iff.1 h
  rw [List.set_append_right _ _ (by simp; omega), List.length_map, List.length_take, Nat.min_eq_left (Nat.le_of_lt hj), Nat.sub_self, List.drop_eq_getElem_cons hj, List.set_cons_zero, List.take_add_one, h, Option.toList_some, List.map_append, List.append_assoc]
  rfl
theorem upd_same {α : Type} (f : α → α) {l : List α} {j : Nat} {v : α} (h : l[j]? = some v) (hf : f v = v) : (l.take j).map f ++ l.drop j = (l.take (j + 1)).map f ++ l.drop (j + 1) := by
  rw [← upd_step f h]
  refine (List.ext_getElem? fun i => ?_)
  rw [List.getElem?_set]
  split
  · rename_i e; subst e; rw [upd_get, h, hf]
    obtain ⟨hj, _⟩ := List.getElem?_eq_some_iff.1 h
    rw [if_pos (by simp; omega)]
  · rfl
theorem word_eq (a b : Int × Int) : eqI (.key (.agg [.i, .i])) (.agg [I a.1, I a.2]) (.agg [I b.1, I b.2]) = some (decide (a = b)) := keyA a b

/-- A heap with one object's words changed. -/
abbrev hpW (hp : PHeap) (A : List PReg) (g : PReg) (B : List PReg) (X : List PObj) (x : PObj) (Y : List PObj) (ws : List (Int × Int)) : PHeap := { hp with regs := A ++ { g with objs := X ++ x.wr ws :: Y } :: B }

/-- One round: a word is looked at, and changed. -/
theorem fix_round {hp : PHeap} {A B : List PReg} {g : PReg} {X Y : List PObj} {x : PObj} {w v : Int × Int} {c t tk fk hb cb wb ib kr j : Nat} {mt mf : O} {mv : ToF} {fx ws : List (Int × Int)} {v1 v4 v5 v94 v95 v96 v102 : V} {E : Ch}
    (hL : Look (PHeap.ch p (hpW hp A g B X x Y ws) ++ E) p (hpW hp A g B X x Y ws)) (hx : pfind w.1 w.2 (hpW hp A g B X x Y ws).regs = some (x.wr ws)) (hw0 : 0 < w.2) (hv : ws[j]? = some v) (hn : ws.length ≤ 31)
    (hs : ∀ y ∈ colC c t tk fk mt mf, y ∈ E) (mhb : (hb, some (.cells [ptrN hp.id] none)) ∈ E) (mcb : (cb, some (.cells [ptrN c] none)) ∈ E)
    (hmt : MapIs encA (fun w => (mv w).map encA) mt) (hmf : MapIs encA (seenF fx) mf)
    (H : Holds o s ((kr, some (.loop .ready)) :: (ib, some (.cells [I j] none)) :: (wb, some (.cells (encW w) none)) :: (PHeap.ch p (hpW hp A g B X x Y ws) ++ E)))
    (q : ∀ s' ws', ws' = (if fixF mv fx v = v then ws else ws.set j (fixF mv fx v)) → Holds o s' ((kr, some (.loop .ready)) :: (ib, some (.cells [I ((j + 1 : Nat) : Int)] none)) :: (wb, some (.cells (encW w) none)) :: (PHeap.ch p (hpW hp A g B X x Y ws') ++ E)) → Q (.bool true) s') :
    WP (roundI (loop PF, call PF) [103] a46_3 b46_3 (sp 132 [(1, v1), (2, ptrN hb), (4, v4), (5, v5), (6, ptrN cb), (16, ptrN wb), (17, ptrN ib), (94, v94), (95, v95), (96, v96), (102, v102)]) kr [.agg (encW v)] s) Q := by
  refine wp_roundI H.g0 rfl ?_
  rw [putAll_one]
  simp -implicitDefEqProofs only [↓GP, GB, GL, Nat.reduceAdd, Nat.reduceSub, Nat.reduceEqDiff, Nat.reduceMul, Nat.reduceLeDiff, Int.reduceBNe, Int.reduceBEq, Nat.reduceLT, reduceCtorEq, a46_3, encW]
  have h1 := (H.alloc (.cells [I 0, I 0] none)).set0 (.cells (encW v) none)
  refine wp_roundMid h1.tl.g0 ?_
  have h2 := h1.set1 (.loop .busy)
  have hb0 := s.next
  generalize hkb : s.next = kb at h2 ⊢
  simp only [encW] at h2
  generalize ((s.alloc (.cells [I 0, I 0] none)).set kb (.cells [I v.1, I v.2] none)).set kr (.loop .busy) = S at h2 ⊢
  have inE : ∀ (a : Nat × Option O) (C2 : Ch), ∀ y ∈ E, y ∈ C2 ++ (PHeap.ch p (hpW hp A g B X x Y ws) ++ E) := fun a C2 y hy => List.mem_append_right _ (List.mem_append_right _ hy)
  have fc := h2.mem (List.mem_cons_of_mem _ (List.mem_cons_of_mem _ (List.mem_cons_of_mem _ (List.mem_cons_of_mem _ (List.mem_append_right _ mcb)))))
  have f4 := h2.f4
  simp -implicitDefEqProofs only [↓GP, GB, GL, Nat.reduceAdd, Nat.reduceSub, Nat.reduceEqDiff, Nat.reduceMul, Nat.reduceLeDiff, Int.reduceBNe, Int.reduceBEq, Nat.reduceLT, reduceCtorEq, b46_3, fc, f4, encW]
  refine wp_in (s94 (w := v) h2 (fun y hy => List.mem_cons_of_mem _ (List.mem_cons_of_mem _ (List.mem_cons_of_mem _ (List.mem_cons_of_mem _ (List.mem_append_right _ (hs y hy)))))) hmt hmf fun s1 h3 => ?_)
  generalize hnw : nowW mv fx v = n at *
  have h4 := (h3.alloc (.cells [I 0, I 0] none)).set0 (.cells (encW n) none)
  have f5 := h3.f4
  have fh := h3.mem (List.mem_cons_of_mem _ (List.mem_cons_of_mem _ (List.mem_cons_of_mem _ (List.mem_cons_of_mem _ (List.mem_append_right _ mhb)))))
  have hweq := word_eq n v
  have hw1 := wrap_add1 (a := j) (by have := (List.getElem?_eq_some_iff.1 hv).1; omega)
  by_cases hnv : n = v
  · rw [decide_eq_true hnv] at hweq
    simp -implicitDefEqProofs only [↓GP, GB, GL, Nat.reduceAdd, Nat.reduceSub, Nat.reduceEqDiff, Nat.reduceMul, Nat.reduceLeDiff, Int.reduceBNe, Int.reduceBEq, Nat.reduceLT, reduceCtorEq, f5, encW, hweq, hw1]
    have h5 := h4.set3 (.cells [I ((j + 1 : Nat) : Int)] none)
    have hfx : fixF mv fx v = v := by unfold fixF; rw [hnw, hnv]; split <;> rfl
    refine wp_roundEnd h5.tl.tl.g0 ?_
    exact q _ ws (by rw [if_pos hfx]) (h5.set2 (.loop .ready)).tl.tl
  · rw [decide_eq_false hnv] at hweq
    simp -implicitDefEqProofs only [↓GP, GB, GL, Nat.reduceAdd, Nat.reduceSub, Nat.reduceEqDiff, Nat.reduceMul, Nat.reduceLeDiff, Int.reduceBNe, Int.reduceBEq, Nat.reduceLT, reduceCtorEq, f5, fh, encW, hweq]
    have hjl : j < ws.length := (List.getElem?_eq_some_iff.1 hv).1
    have hin : In ((s1.next, some (.cells (encW n) none)) :: (kb, some (.cells [I v.1, I v.2] none)) :: (kr, some (.loop .busy)) :: (ib, some (.cells [I j] none)) :: (wb, some (.cells [I w.1, I w.2] none)) :: (PHeap.ch p (hpW hp A g B X x Y ws) ++ E)) p (hpW hp A g B X x Y ws) :=
      ⟨fun y hy => List.mem_cons_of_mem _ (List.mem_cons_of_mem _ (List.mem_cons_of_mem _ (List.mem_cons_of_mem _ (List.mem_cons_of_mem _ (List.mem_append_left _ hy)))))⟩
    by_cases hvl : 0 ≤ n.2 ∧ n.2 ≤ 100000
    · have hfx : fixF mv fx v = n := by unfold fixF; rw [hnw, if_pos hvl]
      refine wp_in (s65 (hp := hpW hp A g B X x Y ws) (x := x.wr ws) (w := n) (F := (kr, some (.loop .busy)) :: (ib, some (.cells [I j] none)) :: (wb, some (.cells [I w.1, I w.2] none)) :: (x.id, some (x.wr ws).O) :: (g.id, some (PReg.hd { g with objs := X ++ x.wr ws :: Y })) :: (g.pgk, pagesO g.pages) :: (g.obk, PReg.obO (X ++ x.wr ws :: Y)) :: (g.plk, some g.pl) ::
          (X.flatMap PObj.ch ++ (Y.flatMap PObj.ch ++ ((hp.id, some ((hpW hp A g B X x Y ws).hd p)) :: (hp.rowk, (hpW hp A g B X x Y ws).row) :: (A.flatMap PReg.ch ++ (B.flatMap PReg.ch ++ E))))))
        h4 hin hL.ne hL.len hL.ok hw0 hvl hx hjl hn (fun s1 h => (Holds.of (h) (fun k => by simp +arith only [PObj.wr, PReg.hd, PReg.obO, HA, HB]) (fun k x => by simp only [PObj.wr, PReg.hd, PReg.obO, HA, HC]; grind only))) fun s2 h6 => ?_)
      have h7 : Holds o s2 ((kr, some (.loop .busy)) :: (ib, some (.cells [I j] none)) :: (wb, some (.cells [I w.1, I w.2] none)) :: (PHeap.ch p (hpW hp A g B X x Y (ws.set j n)) ++ E)) :=
        (Holds.of (h6) (fun k => by simp +arith only [PObj.wr, Obj.wr, PReg.hd, PReg.obO, PObj.O, PObj.W, PHeap.hd, PHeap.row, List.length_append, List.length_cons, List.map_append, List.map_cons, List.length_set, HA, HB]) (fun k x => by simp only [PObj.wr, Obj.wr, PReg.hd, PReg.obO, PObj.O, PObj.W, PHeap.hd, PHeap.row, List.length_append, List.length_cons, List.map_append, List.map_cons, List.length_set, HA, HC]; grind only))
      have f7 := h7.f3
      simp -implicitDefEqProofs only [↓GP, GB, GL, Nat.reduceAdd, Nat.reduceSub, Nat.reduceEqDiff, Nat.reduceMul, Nat.reduceLeDiff, Int.reduceBNe, Int.reduceBEq, Nat.reduceLT, reduceCtorEq, f7, hw1]
      have h8 := h7.set1 (.cells [I ((j + 1 : Nat) : Int)] none)
      refine wp_roundEnd h8.g0 ?_
      exact q _ (ws.set j n) (by rw [hfx, if_neg hnv]) (h8.set0 (.loop .ready))
    · have hfx : fixF mv fx v = v := by unfold fixF; rw [hnw, if_neg hvl]
      have hbf : (decide (0 ≤ n.2) && decide (n.2 ≤ 100000)) = false := by simpa using hvl
      refine wp_in (s65_err (VN := n.1) (VL := n.2) (err := 2) h4 (.inl (.inr ⟨hpW hp A g B X x Y ws, p, rfl, hin, hL.ne, hL.len, hL.ok, .inl ⟨rfl, fun hh => by rw [hbf] at hh; cases hh.2⟩⟩)) fun s2 h6 => ?_)
      have f6 := h6.tl.f4
      simp -implicitDefEqProofs only [↓GP, GB, GL, Nat.reduceAdd, Nat.reduceSub, Nat.reduceEqDiff, Nat.reduceMul, Nat.reduceLeDiff, Int.reduceBNe, Int.reduceBEq, Nat.reduceLT, reduceCtorEq, f6, hw1]
      have h7 := h6.set3 (.cells [I ((j + 1 : Nat) : Int)] none)
      refine wp_roundEnd h7.tl.tl.g0 ?_
      exact q _ ws (by rw [if_pos hfx]) (h7.set2 (.loop .ready)).tl.tl

/-- All words of some objects are changed. -/
def fixM (mv : ToF) (fx : List (Int × Int)) (rs : List Reg) (w : Int × Int) : List Reg := setM w (List.map (fixF mv fx)) rs
theorem map_len (f : Int × Int → Int × Int) : ∀ l : List (Int × Int), (l.map f).length = l.length := fun l => by simp

theorem cwords_loop {c t tk fk hb cb ko id lv : Nat} {v1 v4 v5 : V} {mt mf : O} {mv : ToF} {fx Os : List (Int × Int)} {E : Ch} {K : Kt} (hs : ∀ y ∈ colC c t tk fk mt mf, y ∈ E) (mhb : (hb, some (.cells [ptrN id] none)) ∈ E) (mcb : (cb, some (.cells [ptrN c] none)) ∈ E)
    (mo : (ko, rowO 2 Os.length (Os.flatMap encW)) ∈ E) (hmt : MapIs encA (fun w => (mv w).map encA) mt) (hmf : MapIs encA (seenF fx) mf) (hl : Os.length ≤ 1000000) :
    ∀ (n i : Nat) (hp : PHeap) (s : St), i + n = Os.length → hp.id = id → hp.lives = lv → RsOk lv u (hp.regs.map PReg.m) → (∀ g ∈ hp.regs, g.ok) → (∀ w ∈ Os, 0 < w.2 ∧ (mfind w.1 w.2 (hp.regs.map PReg.m)).isSome = true) → Holds o s (hp.ch p ++ E) →
    (∀ s' (hp' : PHeap), hp'.id = id → hp'.lives = lv → hp'.regs.length = hp.regs.length → hp'.regs.map PReg.m = (Os.drop i).foldl (fixM mv fx) (hp.regs.map PReg.m) → RsOk lv u (hp'.regs.map PReg.m) → (∀ g ∈ hp'.regs, g.ok) → Holds o s' (hp'.ch p ++ E) → WP (K (.exit 6) (sp 132 [(1, v1), (6, ptrN cb)]) s') Q) →
    WP (loop PF (.loop l46_4) (sp 132 [(1, v1), (2, ptrN hb), (4, v4), (5, v5), (6, ptrN cb), (94, rowV ko Os.length), (95, I Os.length), (96, I i)]) s K) Q := by
  intro n
  induction n with
  | zero =>
    intro i hp s hi hid hlv hR hok hfd H q
    have hlt : ¬ ((i : Int) < (Os.length : Int)) := by omega
    rw [List.drop_eq_nil_of_le (by omega), List.foldl_nil] at q
    refine wp_round fun LL hLL => ?_
    simp -implicitDefEqProofs only [↓GP, GB, GL, Nat.reduceAdd, Nat.reduceSub, Nat.reduceEqDiff, Nat.reduceMul, Nat.reduceLeDiff, Int.reduceBNe, Int.reduceBEq, Nat.reduceLT, reduceCtorEq, l46_4, hlt]
    exact q s hp hid hlv rfl rfl hR hok H
  | succ n ih =>
    intro i hp s hi hid hlv hR hok hfd H q
    have hlt : ((i : Int) < (Os.length : Int)) := by omega
    have hi' : i < Os.length := by omega
    have hw1 := wrap_add1 (a := i) (by omega)
    have hix := ix_row (sz := 2) (k := ko) (n := Os.length) (i := i) (kk := .i64) hi'
    have er : rowO 2 Os.length (Os.flatMap encW) = some (.cells (Os.flatMap encW) (some 2)) := by unfold rowO; rw [if_neg (by omega)]
    have fr := H.mem (List.mem_append_right _ (er ▸ mo))
    have fh := H.mem (List.mem_append_right _ mhb)
    have hld := ldN_tab (enc := encW) encW_len Os (some 2) (List.getElem?_eq_getElem hi')
    obtain ⟨hw0, hfi⟩ := hfd _ (List.getElem_mem hi')
    rw [List.drop_eq_getElem_cons hi', List.foldl_cons] at q
    generalize Os[i] = w at q hld hw0 hfi
    have h1 := (H.alloc (.cells [I 0, I 0] none)).set0 (.cells (encW w) none)
    have h2 := (h1.alloc (.cells [I 0] none)).set0 (.cells [I 0] none)
    refine wp_round fun LL hLL => ?_
    simp -implicitDefEqProofs only [↓GP, GB, GL, Nat.reduceAdd, Nat.reduceSub, Nat.reduceEqDiff, Nat.reduceMul, Nat.reduceLeDiff, Int.reduceBNe, Int.reduceBEq, Nat.reduceLT, reduceCtorEq, l46_4, hlt, hix, fr, fh, hld, encW]
    refine wp_in (s93 (id := id) (w := w) h2 fun s1 a b h3 => ?_)
    simp -implicitDefEqProofs only [↓GP, GB, GL, Nat.reduceAdd, Nat.reduceSub, Nat.reduceEqDiff, Nat.reduceMul, Nat.reduceLeDiff, Int.reduceBNe, Int.reduceBEq, Nat.reduceLT, reduceCtorEq]
    rw [← pfind_m, Option.isSome_map] at hfi
    obtain ⟨x, hx⟩ := Option.isSome_iff_exists.1 hfi
    obtain ⟨A, g, B, X, Y, hr, ex, k1, k2, k3, k4⟩ := pfind_split hx
    have hlen : hp.regs.length ≤ 100000 := by have h1 := hR.inv.len; have h2 := hR.inv.lives; rw [List.length_map] at h1; omega
    have hri : ∀ g0 ∈ hp.regs, ∀ y ∈ g0.objs, y.b.ws.length ≤ 31 := fun g0 m0 y my => ((hR.inv.reg g0.m (List.mem_map.2 ⟨g0, m0, rfl⟩)).ws y.b (List.mem_map.2 ⟨y, my, rfl⟩)).2.1
    have mg : g ∈ hp.regs := by rw [hr]; simp
    have hxl : x.b.ws.length ≤ 31 := hri g mg x (by rw [ex]; simp)
    have hpe : hpW hp A g B X x Y x.b.ws = hp := by
      have e1 : ({ g with objs := X ++ x.wr x.b.ws :: Y } : PReg) = g := by rw [show x.wr x.b.ws = x from rfl, ← ex]
      show ({ hp with regs := A ++ { g with objs := X ++ x.wr x.b.ws :: Y } :: B } : PHeap) = hp
      rw [e1, ← hr]
    simp only [set_next, alloc_next] at h3
    generalize s.next + 1 = ib at h3 ⊢
    generalize s.next = wb at h3 ⊢
    have h4 := h3.alloc (.loop .ready)
    subst hid
    have h5 : Holds o (s1.alloc (.loop .ready)) ((s1.next, some (.loop .ready)) :: (ib, some (.cells [I 0] none)) :: (wb, some (.cells (encW w) none)) :: (PHeap.ch p (hpW hp A g B X x Y x.b.ws) ++ ((a, some (.cells [ptrN hp.id] none)) :: (b, some (.cells (encW w) none)) :: E))) := by
      rw [hpe]; exact (Holds.of (h4) (fun k => by simp +arith only [HA, HB]) (fun k x => by simp only [HA, HC]; grind only))
    have lookW : ∀ (ws : List (Int × Int)) (D : Ch), ws.length = x.b.ws.length → (∀ y ∈ PHeap.ch p (hpW hp A g B X x Y ws), y ∈ D) → Look D p (hpW hp A g B X x Y ws) := fun ws D hwsl hD => by
      refine ⟨⟨hD⟩, by simp, by have := hlen; rw [hr] at this; simpa using this, fun g0 m0 => ?_, fun g0 m0 y my => ?_⟩
      · rcases List.mem_append.1 m0 with m0 | m0
        · exact hok g0 (by rw [hr]; exact List.mem_append_left _ m0)
        · rcases List.mem_cons.1 m0 with rfl | m0
          · exact ok_wr ex (hok g mg) ws
          · exact hok g0 (by rw [hr]; simp [m0])
      · rcases List.mem_append.1 m0 with m0 | m0
        · exact hri g0 (by rw [hr]; exact List.mem_append_left _ m0) y my
        · rcases List.mem_cons.1 m0 with rfl | m0
          · rcases List.mem_append.1 my with my | my
            · exact hri g mg y (by rw [ex]; exact List.mem_append_left _ my)
            · rcases List.mem_cons.1 my with rfl | my
              · show ws.length ≤ 31; omega
              · exact hri g mg y (by rw [ex]; simp [my])
          · exact hri g0 (by rw [hr]; simp [m0]) y my
    have hlenw : ∀ (j : Nat) (ws : List (Int × Int)), ws = (x.b.ws.take j).map (fixF mv fx) ++ x.b.ws.drop j → ws.length = x.b.ws.length := fun j ws e => by
      rw [e]; simp; omega
    rw [go_range]
    refine wp_range (g := 116) (pre := []) (caps := [ptrN a, ptrN b]) (by simp -implicitDefEqProofs only [↓GP, GB, GL, Nat.reduceAdd, Nat.reduceSub, Nat.reduceEqDiff, Nat.reduceMul, Nat.reduceLeDiff, Int.reduceBNe, Int.reduceBEq, Nat.reduceLT, reduceCtorEq]) ?_
    refine s116 (γ := List (Int × Int) × Nat) (fun g2 => (s1.next, some (.loop .ready)) :: (ib, some (.cells [I g2.2] none)) :: (wb, some (.cells (encW w) none)) :: (PHeap.ch p (hpW hp A g B X x Y g2.1) ++ ((a, some (.cells [ptrN hp.id] none)) :: (b, some (.cells (encW w) none)) :: E)))
      (fun j g2 => g2.2 = j ∧ g2.1 = (x.b.ws.take j).map (fixF mv fx) ++ x.b.ws.drop j) (fun g2 => hpW hp A g B X x Y g2.1) (fun g2 => x.wr g2.1) (n := x.b.ws.length) (id := hp.id) (p := p) hxl hw0
      (fun j g2 hP => ⟨lookW _ _ (hlenw j _ hP.2) (fun y hy => List.mem_cons_of_mem _ (List.mem_cons_of_mem _ (List.mem_cons_of_mem _ (List.mem_append_left _ hy)))), rfl, pfind_wr k1 k2 k3 k4 g2.1, hlenw j _ hP.2⟩)
      (fun g2 => List.mem_cons_of_mem _ (List.mem_cons_of_mem _ (List.mem_cons_of_mem _ (List.mem_append_right _ (List.mem_cons_self ..)))))
      (fun g2 => List.mem_cons_of_mem _ (List.mem_cons_of_mem _ (List.mem_cons_of_mem _ (List.mem_append_right _ (List.mem_cons_of_mem _ (List.mem_cons_self ..)))))) ?_ (g := (x.b.ws, 0)) ⟨rfl, by simp⟩ h5 fun s2 g2 hP h6 => ?_
    · intro j g2 s2 v hP H2 hv
      obtain ⟨ws, jj⟩ := g2
      obtain ⟨rfl, hws⟩ := hP
      simp only at hws H2 hv
      have hvx : x.b.ws[jj]? = some v := by rw [← upd_get (fixF mv fx), ← hws]; exact hv
      refine fix_round (w := w) (t := t) (tk := tk) (fk := fk) (mt := mt) (mf := mf) (mv := mv) (fx := fx) (lookW ws _ (hlenw jj _ hws) (fun y hy => List.mem_append_left _ hy)) (pfind_wr k1 k2 k3 k4 ws) hw0 hv (by rw [hlenw jj _ hws]; exact hxl)
        (fun y hy => List.mem_cons_of_mem _ (List.mem_cons_of_mem _ (hs y hy))) (List.mem_cons_of_mem _ (List.mem_cons_of_mem _ mhb)) (List.mem_cons_of_mem _ (List.mem_cons_of_mem _ mcb)) hmt hmf H2 fun s3 ws' e h7 => ?_
      refine ⟨rfl, (ws', jj + 1), ⟨rfl, ?_⟩, h7⟩
      show ws' = _
      rw [e]
      split
      · rename_i hfv; rw [hws]; exact upd_same _ hvx hfv
      · rw [hws]; exact upd_step _ hvx
    · obtain ⟨ws, jj⟩ := g2
      obtain ⟨rfl, hws⟩ := hP
      simp only at hws h6
      rw [List.take_length, List.drop_length, List.append_nil] at hws
      have hm1 : (hpW hp A g B X x Y ws).regs.map PReg.m = fixM mv fx (hp.regs.map PReg.m) w := by
        have := setP_m (f := List.map (fixF mv fx)) (w := w) (by rw [← hr]; exact hR) ex k2 k3
        rw [← hws, ← hr] at this
        exact this
      have hR1 : RsOk lv u ((hpW hp A g B X x Y ws).regs.map PReg.m) := by
        rw [hm1]; exact hR.ofShape (setM_shape w (map_len _) _)
      have hlr : (hpW hp A g B X x Y ws).regs.length = hp.regs.length := by rw [hr]; simp
      refine wp_rangeEnd h6.g0 ?_
      simp -implicitDefEqProofs only [↓GP, GB, GL, Nat.reduceAdd, Nat.reduceSub, Nat.reduceEqDiff, Nat.reduceMul, Nat.reduceLeDiff, Int.reduceBNe, Int.reduceBEq, Nat.reduceLT, reduceCtorEq, hw1]
      rw [hLL]
      refine ih (i + 1) (hpW hp A g B X x Y ws) (s2.kill s1.next) (by omega) rfl hlv hR1 (lookW ws _ (by rw [hws]; simp) (fun y hy => hy)).ok (fun w' hw' => ?_) (Holds.of (h6.kill) (fun k => by simp +arith only [HA, HB]) (fun k x => by simp only [HA, HC]; grind only)) ?_
      · obtain ⟨q1, q2⟩ := hfd w' hw'
        rw [hm1]
        exact ⟨q1, by unfold fixM; rw [mfind_set]; exact q2⟩
      · intro s' hp' e1 e2 e3 e4
        rw [hlr] at e3
        rw [hm1] at e4
        exact q s' hp' e1 e2 e3 e4
end
end Go.Proofs.Ytoldkemimhebaaa

/- Layer 16: is a word in a list? -/
set_option linter.unusedSimpArgs false
set_option linter.unusedVariables false
namespace Go.Proofs.Ytoldkemimhebaaa
open Go Go.IM

-- virgate/virgatelaw16.in
def l45_0 : IC := (.seq (.seq (.seq (.region [oa 6 (.mov (.t 5)), oa 7 (.mov (.t 0)), oa 8 (.lenSlice (.t 7)), oa 9 (.bin .lss (.t 6) (.t 8))] (kp 18 [0,3,5,9]))
  (.cond (.t 9)
  (sk 18 [0,3,5])
  (sx 18 [] 0)))
  (.seq (.block 1
  (.seq (.region [oa 12 (.mov (.t 0)), oa 13 (.mov (.t 5)), oa 14 (.indexAddr 2 (.t 12) (.t 13)), oa 15 (.load (some 2) (.t 14)), oa 16 (.load (some 2) (.t 3)), oa 17 (.eql false (.key (.agg [.i, .i])) (.t 15) (.t 16))] (kp 18 [0,3,5,17]))
  (.cond (.t 17)
  (.seq (.region [oa 4 (.mov (.c (.bool true)))] (kp 18 [4]))
  (sr 18 [4]))
  (sk 18 [0,3,5]))))
  (.region [oa 10 (.mov (.t 5)), oa 11 (.bin .add (.t 10) (ai 1)), oa 5 (.mov (.t 11))] (kp 18 [0,3,5]))))
  (sk 18 [0,3,5]))
def j45_bb : IC := (.seq (.region [oa 4 (.mov (.c (.bool false)))] (kp 18 [4]))
  (sr 18 [4]))
def c45 : IFn := ⟨18, [(4, none)],
  (.seq (.region [oa 3 (.box (.t 1)), oa 4 (.mov (.c (.bool false)))] (kp 18 [0,3]))
  (.seq (.seq (.region [oa 5 (.mov (ai 0))] (kp 18 [0,3,5]))
  (.block 0
  (.seq (sk 18 [0,3,5])
  (.loop l45_0))))
  j45_bb))⟩
theorem F45 : shutF Try.prog 45 = some c45 := by kernel_rfl


section
variable {o : Nat → Option O} {s : St} {C F : Ch} {Q : V → St → Prop}
set_option maxRecDepth 10000
set_option maxHeartbeats 4000000

theorem in_loop {kl wb : Nat} {L : List (Int × Int)} {w : Int × Int} {K : Kt} (ml : (kl, rowO 2 L.length (L.flatMap encW)) ∈ C) (mw : (wb, some (.cells (encW w) none)) ∈ C) (hl : L.length ≤ 1000000) (hC : Holds o s C) :
    ∀ (n i : Nat), i + n = L.length →
    loop PF (.loop l45_0) (sp 18 [(0, rowV kl L.length), (3, ptrN wb), (5, I i)]) s K = (if w ∈ L.drop i then K .ret (sp 18 [(4, .bool true)]) s else K (.exit 0) (sp 18 []) s)
  | 0, i, hi => by
    have hlt : ¬ ((i : Int) < (L.length : Int)) := by omega
    rw [List.drop_eq_nil_of_le (by omega), if_neg (by simp)]
    refine round fun LL hLL => ?_
    simp -implicitDefEqProofs only [↓GP, GB, GL, Nat.reduceAdd, Nat.reduceSub, Nat.reduceEqDiff, Nat.reduceMul, Nat.reduceLeDiff, Int.reduceBNe, Int.reduceBEq, Nat.reduceLT, reduceCtorEq, l45_0, hlt]
  | n + 1, i, hi => by
    have hlt : ((i : Int) < (L.length : Int)) := by omega
    have hi' : i < L.length := by omega
    have hw1 := wrap_add1 (a := i) (by omega)
    have hix := ix_row (sz := 2) (k := kl) (n := L.length) (i := i) (kk := .i64) hi'
    have er : rowO 2 L.length (L.flatMap encW) = some (.cells (L.flatMap encW) (some 2)) := by unfold rowO; rw [if_neg (by omega)]
    have fr := hC.mem (er ▸ ml)
    have fw := hC.mem mw
    have hld := ldN_tab (enc := encW) encW_len L (some 2) (List.getElem?_eq_getElem hi')
    rw [List.drop_eq_getElem_cons hi']
    generalize L[i] = v at hld
    have hq := word_eq v w
    by_cases e : v = w
    · rw [decide_eq_true e] at hq
      rw [if_pos (by rw [e]; exact List.mem_cons_self ..)]
      refine round fun LL hLL => ?_
      simp -implicitDefEqProofs only [↓GP, GB, GL, Nat.reduceAdd, Nat.reduceSub, Nat.reduceEqDiff, Nat.reduceMul, Nat.reduceLeDiff, Int.reduceBNe, Int.reduceBEq, Nat.reduceLT, reduceCtorEq, l45_0, hlt, hix, fr, fw, hld, encW, hq]
    · rw [decide_eq_false e] at hq
      refine round fun LL hLL => ?_
      simp -implicitDefEqProofs only [↓GP, GB, GL, Nat.reduceAdd, Nat.reduceSub, Nat.reduceEqDiff, Nat.reduceMul, Nat.reduceLeDiff, Int.reduceBNe, Int.reduceBEq, Nat.reduceLT, reduceCtorEq, l45_0, hlt, hix, fr, fw, hld, encW, hq, hw1]
      rw [hLL, in_loop ml mw hl hC n (i + 1) (by omega)]
      have : w ∈ v :: L.drop (i + 1) ↔ w ∈ L.drop (i + 1) := by rw [List.mem_cons]; exact ⟨fun h => h.resolve_left (fun h => e h.symm), .inr⟩
      simp only [this]

theorem s45 {kl : Nat} {L : List (Int × Int)} {w : Int × Int} (H : Holds o s C) (ml : (kl, rowO 2 L.length (L.flatMap encW)) ∈ C) (hl : L.length ≤ 1000000) (q : ∀ s', Holds o s' C → Q (.bool (decide (w ∈ L))) s') : WP (call PF 45 [rowV kl L.length, .agg (encW w)] s) Q := by
  have h1 := H.alloc (.cells (encW w) none)
  have e := fun K => in_loop (K := K) (w := w) (List.mem_cons_of_mem _ ml) (List.mem_cons_self ..) hl h1 L.length 0 (by omega)
  simp only [List.drop_zero, Int.natCast_zero, encW] at e
  by_cases hw : w ∈ L
  · simp only [if_pos hw] at e
    rw [call_run F45]; simp -implicitDefEqProofs only [↓GP, GB, GL, Nat.reduceAdd, Nat.reduceSub, Nat.reduceEqDiff, Nat.reduceMul, Nat.reduceLeDiff, Int.reduceBNe, Int.reduceBEq, Nat.reduceLT, reduceCtorEq, c45, encW, e]
    have := q _ h1.tl
    rwa [decide_eq_true hw] at this
  · simp only [if_neg hw] at e
    rw [call_run F45]; simp -implicitDefEqProofs only [↓GP, GB, GL, Nat.reduceAdd, Nat.reduceSub, Nat.reduceEqDiff, Nat.reduceMul, Nat.reduceLeDiff, Int.reduceBNe, Int.reduceBEq, Nat.reduceLT, reduceCtorEq, c45, encW, e, j45_bb]
    have := q _ h1.tl
    rwa [decide_eq_false hw] at this
end
end Go.Proofs.Ytoldkemimhebaaa

/- Layer 16: Collect, on models: what is looked up is there. -/
set_option linter.unusedSimpArgs false
set_option linter.unusedVariables false
namespace Go.Proofs.Ytoldkemimhebaaa
open Go Go.IM

theorem updF_other : ∀ (ps : List ((Int × Int) × (Int × Int))) (f : ToF) (w : Int × Int), (∀ x ∈ ps, x.1 ≠ w) → (ps.foldl updF f) w = f w
  | [], _, _, _ => rfl
  | x :: ps, f, w, h => by
    rw [List.foldl_cons, updF_other ps _ w fun y hy => h y (List.mem_cons_of_mem _ hy)]
    unfold updF
    rw [if_neg (fun e => h x (List.mem_cons_self ..) e.symm)]
theorem updF_mem : ∀ (ks ns : List (Int × Int)) (f : ToF) (w : Int × Int), ns.length = ks.length → w ∈ ks → ∃ n ∈ ns, ((ks.zip ns).foldl updF f) w = some n
  | [], _, _, _, _, h => by cases h
  | _ :: _, [], _, _, h, _ => by simp at h
  | k :: ks, n :: ns, f, w, hl, h => by
    rw [List.zip_cons_cons, List.foldl_cons]
    by_cases hw : w ∈ ks
    · obtain ⟨m, h1, h2⟩ := updF_mem ks ns (updF f (k, n)) w (by simpa using hl) hw
      exact ⟨m, List.mem_cons_of_mem _ h1, h2⟩
    · have e : w = k := by rcases List.mem_cons.1 h with h | h; exact h; exact absurd h hw
      refine ⟨n, List.mem_cons_self .., ?_⟩
      rw [updF_other]
      · unfold updF; rw [if_pos e]
      · intro x hx e2
        exact hw (e2 ▸ (List.of_mem_zip hx).1)

/-- A word points to an object. -/
def Points (rs : List Reg) (w : Int × Int) : Prop := 0 < w.2 ∧ ∃ r ∈ rs, (r.life : Int) = w.2 ∧ ∃ x ∈ r.objs, (x.at_ : Int) = w.1
theorem Points.find {rs : List Reg} {w : Int × Int} (h : Points rs w) : 0 < w.2 ∧ (mfind w.1 w.2 rs).isSome = true := by
  obtain ⟨h0, r, hr, h1, x, hx, h2⟩ := h
  refine ⟨h0, ?_⟩
  unfold mfind
  rw [List.findSome?_isSome_iff]
  refine ⟨r, hr, ?_⟩
  rw [if_pos h1, List.find?_isSome]
  exact ⟨x, hx, by simpa using h2⟩
theorem Points.mono {rs rs' : List Reg} {w : Int × Int} (h : Points rs w) (hs : ∀ r ∈ rs, r ∈ rs') : Points rs' w := by
  obtain ⟨h0, r, hr, h1⟩ := h
  exact ⟨h0, r, hs r hr, h1⟩
theorem layObj_at : ∀ (ys : List Obj) (ats : List Nat), ats.length = ys.length → ∀ a ∈ ats, ∃ y ∈ layObj ys ats, y.at_ = a
  | [], [], _, a, h => by cases h
  | [], _ :: _, h, _, _ => by simp at h
  | _ :: _, [], h, _, _ => by simp at h
  | y :: ys, b :: ats, hl, a, h => by
    simp only [layObj, List.zipWith_cons_cons]
    rcases List.mem_cons.1 h with rfl | h
    · exact ⟨_, List.mem_cons_self .., rfl⟩
    · obtain ⟨z, h1, h2⟩ := layObj_at ys ats (by simpa using hl) a h
      exact ⟨z, List.mem_cons_of_mem _ h1, h2⟩

/-- What holds while regions are collected: A are those that have been. -/
structure ColInv (L : List (Int × Int)) (lv : Nat) (A B : List Reg) (S : ColS) : Prop where
  ok : RsOk lv S.u (S.regs ++ B)
  lives : S.regs.map (·.life) = A.map (·.life)
  objs : ∀ w ∈ S.objs, Points S.regs w
  fx : ∀ g ∈ A, ¬ 0 < g.pages.length → ∀ w ∈ wordsR g, w ∈ S.fx
  mv : ∀ g ∈ A, 0 < g.pages.length → ∀ x ∈ g.objs, ((x.at_ : Int), (g.life : Int)) ∈ L → ∃ n, S.mv ((x.at_ : Int), (g.life : Int)) = some n ∧ Points S.regs n

theorem ColInv.step {L : List (Int × Int)} {lv : Nat} {A B : List Reg} {S : ColS} {g : Reg} (h : ColInv L lv A (g :: B) S) : ColInv L lv (A ++ [g]) B (colStep L S g) := by
  have hI := h.ok.inv
  have hri := hI.reg g (by simp)
  have hlf := hI.life g (by simp)
  unfold colStep
  by_cases hp : 0 < g.pages.length
  · rw [if_pos hp]
    have hs : g.size = 0 := by
      rcases Nat.eq_zero_or_pos g.size with h | h
      · exact h
      · have := (hri.fin h).1; rw [this] at hp; simp at hp
    obtain ⟨ats, u', fill', pages', hlay, hnd, hpl, hal, hul, hR⟩ := h.ok.turn hs (ys := keptM L g) (List.filter_sublist ..)
    rw [hlay]
    simp only
    have hsub : ∀ r ∈ S.regs, r ∈ S.regs ++ [({ g with fill := fill', pages := pages', objs := layObj (keptM L g) ats } : Reg)] := fun r hr => List.mem_append_left _ hr
    have hnew : ∀ x ∈ keptM L g, ∃ n, (((keptM L g).map fun x => ((x.at_ : Int), (g.life : Int))).zip (ats.map fun a : Nat => ((a : Int), (g.life : Int)))).foldl updF S.mv ((x.at_ : Int), (g.life : Int)) = some n ∧ Points (S.regs ++ [({ g with fill := fill', pages := pages', objs := layObj (keptM L g) ats } : Reg)]) n := by
      intro x hx
      obtain ⟨n, h1, h2⟩ := updF_mem ((keptM L g).map fun x => ((x.at_ : Int), (g.life : Int))) (ats.map fun a : Nat => ((a : Int), (g.life : Int))) S.mv ((x.at_ : Int), (g.life : Int)) (by simp [hal]) (List.mem_map.2 ⟨x, hx, rfl⟩)
      obtain ⟨a, ha, rfl⟩ := List.mem_map.1 h1
      obtain ⟨y, hy, hya⟩ := layObj_at (keptM L g) ats hal a ha
      exact ⟨_, h2, by simp only; omega, _, List.mem_append_right _ (List.mem_cons_self ..), rfl, y, hy, by rw [hya]⟩
    refine ⟨by simpa using hR, by rw [List.map_append, List.map_append, h.lives]; rfl, fun w hw => (h.objs w hw).mono hsub, fun g0 m0 h0 w hw => ?_, fun g0 m0 h0 x hx hL => ?_⟩
    · rcases List.mem_append.1 m0 with m0 | m0
      · exact h.fx g0 m0 h0 w hw
      · simp at m0; subst m0; exact absurd hp h0
    · rcases List.mem_append.1 m0 with m0 | m0
      · obtain ⟨n, h1, h2⟩ := h.mv g0 m0 h0 x hx hL
        refine ⟨n, ?_, h2.mono hsub⟩
        show (List.foldl updF S.mv _) _ = some n
        rw [updF_other, h1]
        intro y hy e
        obtain ⟨hy1, _⟩ := List.of_mem_zip hy
        obtain ⟨z, _, hz⟩ := List.mem_map.1 hy1
        rw [← hz] at e
        simp only [Prod.mk.injEq] at e
        -- two regions of one life
        have hn := hI.nodup
        rw [List.map_append, List.map_cons, h.lives, List.nodup_append] at hn
        exact hn.2.2 _ (List.mem_map.2 ⟨g0, m0, rfl⟩) _ (List.mem_cons_self ..) (by omega)
      · simp at m0; subst m0
        exact hnew x (by unfold keptM; exact List.mem_filter.2 ⟨hx, by simpa using hL⟩)
  · rw [if_neg hp]
    have hsub : ∀ r ∈ S.regs, r ∈ S.regs ++ [g] := fun r hr => List.mem_append_left _ hr
    refine ⟨by simpa using h.ok, by rw [List.map_append, List.map_append, h.lives], fun w hw => ?_, fun g0 m0 h0 w hw => ?_, fun g0 m0 h0 x hx hL => ?_⟩
    · rcases List.mem_append.1 hw with hw | hw
      · exact (h.objs w hw).mono hsub
      · obtain ⟨x, hx, rfl⟩ := List.mem_map.1 hw
        exact ⟨by simp only; omega, g, by simp, rfl, x, hx, rfl⟩
    · rcases List.mem_append.1 m0 with m0 | m0
      · exact List.mem_append_left _ (h.fx g0 m0 h0 w hw)
      · simp at m0; subst m0; exact List.mem_append_right _ hw
    · rcases List.mem_append.1 m0 with m0 | m0
      · obtain ⟨n, h1, h2⟩ := h.mv g0 m0 h0 x hx hL
        exact ⟨n, h1, h2.mono hsub⟩
      · simp at m0; subst m0; exact absurd h0 hp
theorem ColInv.all {L : List (Int × Int)} {lv : Nat} : ∀ {B A : List Reg} {S : ColS}, ColInv L lv A B S → ColInv L lv (A ++ B) [] (B.foldl (colStep L) S)
  | [], A, S, h => by simpa using h
  | g :: B, A, S, h => by
    have := (h.step).all
    rw [List.append_assoc] at this
    exact this
theorem ColInv.start {L : List (Int × Int)} {lv : Nat} {u : List Bool} {B : List Reg} (h : RsOk lv u B) : ColInv L lv [] B ⟨[], u, fun _ => none, [], []⟩ :=
  ⟨h, rfl, fun w hw => (by cases hw), fun g hg => (by cases hg), fun g hg => (by cases hg)⟩

/-- A collection, on models. -/
def colAll (L : List (Int × Int)) (u : List Bool) (rs : List Reg) : ColS := rs.foldl (colStep L) ⟨[], u, fun _ => none, [], []⟩
def colObjs (L : List (Int × Int)) (S : ColS) : List (Int × Int) := S.objs ++ (L.filter fun w => !decide (w ∈ S.fx)).map (toD S.mv)
def colRegs (L : List (Int × Int)) (S : ColS) : List Reg := (colObjs L S).foldl (fixM S.mv S.fx) S.regs

theorem thereB_m {hp : PHeap} {w : Int × Int} (h : thereB hp w = true) : Points (hp.regs.map PReg.m) w := by
  unfold thereB at h
  simp only [Bool.and_eq_true, decide_eq_true_eq] at h
  obtain ⟨x, hx⟩ := Option.isSome_iff_exists.1 h.2
  obtain ⟨A, g, B, X, Y, hr, ex, k1, k2, k3, k4⟩ := pfind_split hx
  exact ⟨h.1, g.m, List.mem_map.2 ⟨g, by rw [hr]; simp, rfl⟩, k2, x.b, List.mem_map.2 ⟨x, by rw [ex]; simp, rfl⟩, k3⟩

theorem colObjs_points {lv : Nat} {u : List Bool} {hp : PHeap} {L : List (Int × Int)} (h : RsOk lv u (hp.regs.map PReg.m)) (hL : ∀ w ∈ L, thereB hp w = true) :
    ∀ w ∈ colObjs L (colAll L u (hp.regs.map PReg.m)), Points (colAll L u (hp.regs.map PReg.m)).regs w := by
  have hI := (ColInv.start (L := L) h).all
  rw [List.nil_append] at hI
  intro w hw
  rcases List.mem_append.1 hw with hw | hw
  · exact hI.objs w hw
  · obtain ⟨v, hv, rfl⟩ := List.mem_map.1 hw
    obtain ⟨hvL, hvf⟩ := List.mem_filter.1 hv
    obtain ⟨h0, g, hg, h1, x, hx, h2⟩ := thereB_m (hL v hvL)
    have ev : v = ((x.at_ : Int), (g.life : Int)) := Prod.ext h2.symm h1.symm
    by_cases hp0 : 0 < g.pages.length
    · obtain ⟨n, q1, q2⟩ := hI.mv g hg hp0 x hx (ev ▸ hvL)
      unfold toD
      rw [ev]
      rw [show (colAll L u (hp.regs.map PReg.m)).mv ((x.at_ : Int), (g.life : Int)) = some n from q1]
      exact q2
    · have := hI.fx g hg hp0 v (by rw [ev]; exact List.mem_map.2 ⟨x, hx, rfl⟩)
      simp only [Bool.not_eq_true', decide_eq_false_iff_not] at hvf
      exact absurd this hvf
end Go.Proofs.Ytoldkemimhebaaa

/- Layer 16: Collect, on the program's side. -/
set_option linter.unusedSimpArgs false
set_option linter.unusedVariables false
namespace Go.Proofs.Ytoldkemimhebaaa
open Go Go.IM

section
variable {o : Nat → Option O} {s : St} {C F : Ch} {Q : V → St → Prop} {p r : Nat} {u : List Bool}
set_option maxRecDepth 10000
set_option maxHeartbeats 4000000

theorem RsOk.look {hp : PHeap} {D : Ch} {lv : Nat} (h : RsOk lv u (hp.regs.map PReg.m)) (hok : ∀ g ∈ hp.regs, g.ok) (hD : ∀ y ∈ hp.ch p, y ∈ D) : Look D p hp := by
  refine ⟨⟨hD⟩, fun e => h.inv.ne (by rw [e]; rfl), by have h1 := h.inv.len; have h2 := h.inv.lives; rw [List.length_map] at h1; omega, hok, fun g0 m0 y my => ?_⟩
  exact ((h.inv.reg g0.m (List.mem_map.2 ⟨g0, m0, rfl⟩)).ws y.b (List.mem_map.2 ⟨y, my, rfl⟩)).2.1

theorem s46 {hp : PHeap} {kr : Nat} {roots : List (Int × Int)} (H : Holds o s (poolC p r u ++ (hp.ch p ++ F))) (hR : RsOk hp.lives u (hp.regs.map PReg.m)) (hok : ∀ g ∈ hp.regs, g.ok) (hr : (kr, rowO 2 roots.length (roots.flatMap encW)) ∈ F) (hrl : roots.length ≤ 1000) (hall : (allW hp).length ≤ 90000)
    (q : ∀ s' (hp' : PHeap) kout, hp'.id = hp.id → hp'.lives = hp.lives → hp'.regs.length = hp.regs.length → hp'.regs.map PReg.m = colRegs (reachW hp roots) (colAll (reachW hp roots) u (hp.regs.map PReg.m)) → RsOk hp.lives (colAll (reachW hp roots) u (hp.regs.map PReg.m)).u (hp'.regs.map PReg.m) → (∀ g ∈ hp'.regs, g.ok) →
      Holds o s' ((kout, rowO 2 roots.length ((roots.map (nowW (colAll (reachW hp roots) u (hp.regs.map PReg.m)).mv (colAll (reachW hp roots) u (hp.regs.map PReg.m)).fx)).flatMap encW)) :: (poolC p r (colAll (reachW hp roots) u (hp.regs.map PReg.m)).u ++ (hp'.ch p ++ F))) →
      Q (.tuple [rowV kout roots.length, I 0]) s') : WP (call PF 46 [ptrN hp.id, rowV kr roots.length] s) Q := by
  have h1 := H.alloc (.cells [ptrN hp.id] none)
  have inH : ∀ y ∈ hp.ch p, y ∈ (s.next, some (O.cells [ptrN hp.id] none)) :: (poolC p r u ++ (hp.ch p ++ F)) := fun y hy => List.mem_cons_of_mem _ (List.mem_append_right _ (List.mem_append_left _ hy))
  have lk1 := hR.look hok inH
  have e89 := s89 h1 lk1.hin lk1.ne lk1.len
  have hfound := Found.reach hp roots
  have hLl := hfound.len
  have hpts := colObjs_points hR hfound.there
  rw [call_run F46]; simp -implicitDefEqProofs only [↓GP, GB, GL, Nat.reduceAdd, Nat.reduceSub, Nat.reduceEqDiff, Nat.reduceMul, Nat.reduceLeDiff, Int.reduceBNe, Int.reduceBEq, Nat.reduceLT, reduceCtorEq, c46, e89]
  refine wp_in (s90 h1 lk1 (List.mem_cons_of_mem _ (List.mem_append_right _ (List.mem_append_right _ hr))) (by omega) hall fun s1 t lk mk m hm h2 => ?_)
  generalize hL : reachW hp roots = L at *
  generalize hhb : s.next = hb at h2 ⊢
  have h3 := ((((h2.alloc (.map [] 0)).alloc (.map [] 0)).alloc (.cells [ptrN t, .map (some (.new s1.next)), .map (some (.new (s1.next + 1)))] none)).alloc (.cells [.ptr none] none)).set0 (.cells [ptrN (s1.next + 2)] none)
  have fhb := h2.mem (List.mem_append_right _ (List.mem_cons_self ..))
  simp -implicitDefEqProofs only [↓GP, GB, GL, Nat.reduceAdd, Nat.reduceSub, Nat.reduceEqDiff, Nat.reduceMul, Nat.reduceLeDiff, Int.reduceBNe, Int.reduceBEq, Nat.reduceLT, reduceCtorEq, fhb]
  simp only [alloc_next, Nat.add_assoc, Nat.reduceAdd] at h3
  generalize ((((s1.alloc (.map [] 0)).alloc (.map [] 0)).alloc (.cells [ptrN t, .map (some (.new s1.next)), .map (some (.new (s1.next + 1)))] none)).alloc (.cells [.ptr none] none)).set (s1.next + 3) (.cells [ptrN (s1.next + 2)] none) = S2 at h3 ⊢
  generalize s1.next + 3 = cb at h3 ⊢
  generalize s1.next + 2 = c at h3 ⊢
  generalize s1.next + 1 = fk at h3 ⊢
  generalize s1.next = tk at h3 ⊢
  have h4 : Holds o S2 ((0, rowO 2 ([] : List (Int × Int)).length (([] : List (Int × Int)).flatMap encW)) :: (poolC p r u ++ (hp.ch p ++ (colC c t tk fk (.map [] 0) (.map [] 0) ++ (huntC t lk mk (ptrN hp.id) L m ++ ((hb, some (.cells [ptrN hp.id] none)) :: (cb, some (.cells [ptrN c] none)) :: F)))))) :=
    (Holds.of (h3.nilEntry 0) (fun k => by simp +arith only [colC, List.length_nil, List.flatMap_nil, rowO_z, HA, HB]) (fun k x => by simp only [colC, List.length_nil, List.flatMap_nil, rowO_z, HA, HC]; grind only))
  have e27 := s27 h4 (hp := hp) (p := p) ⟨fun y hy => List.mem_cons_of_mem _ (List.mem_append_right _ (List.mem_append_left _ hy))⟩
  simp -implicitDefEqProofs only [↓GP, GB, GL, Nat.reduceAdd, Nat.reduceSub, Nat.reduceEqDiff, Nat.reduceMul, Nat.reduceLeDiff, Int.reduceBNe, Int.reduceBEq, Nat.reduceLT, reduceCtorEq, e27]
  have hcl := col_loop (K := blockK 0 (seqK (loop PF) (call PF) j46_bbbbb (finR [(4, none), (5, none)]))) (Q := Q) (v1 := rowV kr roots.length) (v4 := .slice none 0 (some 0)) (v5 := I 0) (List.mem_cons_self ..) (List.mem_cons_of_mem _ (List.mem_cons_self ..)) hm hp.regs [] hp ⟨[], u, fun _ => none, [], []⟩ 0 (.map [] 0) (.map [] 0) S2 rfl rfl rfl rfl hR hok (by simp) mapIs_nil seenF_nil h4
  simp only [List.length_nil, Int.natCast_zero] at hcl
  refine hcl fun s3 hp1 ko mt mf e1 e2 e3 e4 hR1 hok1 hob hmt hmf h5 => ?_
  clear hcl
  rw [show (hp.regs.map PReg.m).foldl (colStep L) ⟨[], u, fun _ => none, [], []⟩ = colAll L u (hp.regs.map PReg.m) from rfl] at e4 hR1 hob hmt hmf h5 ⊢
  generalize hS : colAll L u (hp.regs.map PReg.m) = S at *
  have inC : ∀ y ∈ colC c t tk fk mt mf, y ∈ poolC p r S.u ++ (hp1.ch p ++ (colC c t tk fk mt mf ++ (huntC t lk mk (ptrN hp.id) L m ++ ((hb, some (O.cells [ptrN hp.id] none)) :: (cb, some (O.cells [ptrN c] none)) :: F)))) := fun y hy => List.mem_append_right _ (List.mem_append_right _ (List.mem_append_left _ hy))
  have inT : ∀ y ∈ huntC t lk mk (ptrN hp.id) L m, y ∈ poolC p r S.u ++ (hp1.ch p ++ (colC c t tk fk mt mf ++ (huntC t lk mk (ptrN hp.id) L m ++ ((hb, some (O.cells [ptrN hp.id] none)) :: (cb, some (O.cells [ptrN c] none)) :: F)))) := fun y hy => List.mem_append_right _ (List.mem_append_right _ (List.mem_append_right _ (List.mem_append_left _ hy)))
  have inF : ∀ y ∈ (hb, some (O.cells [ptrN hp.id] none)) :: (cb, some (O.cells [ptrN c] none)) :: F, y ∈ poolC p r S.u ++ (hp1.ch p ++ (colC c t tk fk mt mf ++ (huntC t lk mk (ptrN hp.id) L m ++ ((hb, some (O.cells [ptrN hp.id] none)) :: (cb, some (O.cells [ptrN c] none)) :: F)))) := fun y hy => List.mem_append_right _ (List.mem_append_right _ (List.mem_append_right _ (List.mem_append_right _ hy)))
  have fcb := h5.mem (List.mem_cons_of_mem _ (inF _ (List.mem_cons_of_mem _ (List.mem_cons_self ..))))
  have fc := h5.mem (List.mem_cons_of_mem _ (inC (c, some (.cells [ptrN t, .map (some (.new tk)), .map (some (.new fk))] none)) (List.mem_cons_self ..)))
  have ft := h5.mem (List.mem_cons_of_mem _ (inT (t, some (.cells [ptrN hp.id, rowV lk L.length, .map (some (.new mk))] none)) (List.mem_cons_self ..)))
  simp -implicitDefEqProofs only [↓GP, GB, GL, Nat.reduceAdd, Nat.reduceSub, Nat.reduceEqDiff, Nat.reduceMul, Nat.reduceLeDiff, Int.reduceBNe, Int.reduceBEq, Nat.reduceLT, reduceCtorEq, j46_bbbbb, fcb, fc, ft]
  have hol := obj_loop (K := blockK 4 (seqK (loop PF) (call PF) j46_bbbbbb (finR [(4, none), (5, none)]))) (Q := Q) (v1 := rowV kr roots.length) (v2 := ptrN hb) (v4 := .slice none 0 (some 0)) (v5 := I 0) inC (inF _ (List.mem_cons_of_mem _ (List.mem_cons_self ..))) (inT _ (List.mem_cons_of_mem _ (List.mem_cons_self ..))) hmt hmf (by omega) L.length 0 ko S.objs s3 (by omega) (by have := lk1.len; omega) h5
  simp only [List.drop_zero, Int.natCast_zero] at hol
  refine hol fun s4 ko' h6 => ?_
  clear hol
  rw [show S.objs ++ (L.filter fun w => !decide (w ∈ S.fx)).map (toD S.mv) = colObjs L S from rfl] at h6 ⊢
  have hOl : (colObjs L S).length ≤ 200000 := by
    unfold colObjs
    have := List.length_filter_le (fun w => !decide (w ∈ S.fx)) L
    have := lk1.len
    simp; omega
  simp -implicitDefEqProofs only [↓GP, GB, GL, Nat.reduceAdd, Nat.reduceSub, Nat.reduceEqDiff, Nat.reduceMul, Nat.reduceLeDiff, Int.reduceBNe, Int.reduceBEq, Nat.reduceLT, reduceCtorEq, j46_bbbbbb]
  have h7 : Holds o s4 (hp1.ch p ++ ((ko', rowO 2 (colObjs L S).length ((colObjs L S).flatMap encW)) :: (poolC p r S.u ++ (colC c t tk fk mt mf ++ (huntC t lk mk (ptrN hp.id) L m ++ ((hb, some (.cells [ptrN hp.id] none)) :: (cb, some (.cells [ptrN c] none)) :: F)))))) := (Holds.of (h6) (fun k => by simp +arith only [HA, HB]) (fun k x => by simp only [HA, HC]; grind only))
  have inC2 : ∀ y ∈ colC c t tk fk mt mf, y ∈ (ko', rowO 2 (colObjs L S).length ((colObjs L S).flatMap encW)) :: (poolC p r S.u ++ (colC c t tk fk mt mf ++ (huntC t lk mk (ptrN hp.id) L m ++ ((hb, some (O.cells [ptrN hp.id] none)) :: (cb, some (O.cells [ptrN c] none)) :: F)))) := fun y hy => List.mem_cons_of_mem _ (List.mem_append_right _ (List.mem_append_left _ hy))
  have inF2 : ∀ y ∈ (hb, some (O.cells [ptrN hp.id] none)) :: (cb, some (O.cells [ptrN c] none)) :: F, y ∈ (ko', rowO 2 (colObjs L S).length ((colObjs L S).flatMap encW)) :: (poolC p r S.u ++ (colC c t tk fk mt mf ++ (huntC t lk mk (ptrN hp.id) L m ++ ((hb, some (O.cells [ptrN hp.id] none)) :: (cb, some (O.cells [ptrN c] none)) :: F)))) := fun y hy => List.mem_cons_of_mem _ (List.mem_append_right _ (List.mem_append_right _ (List.mem_append_right _ hy)))
  have hwl := cwords_loop (K := blockK 6 (seqK (loop PF) (call PF) j46_bbbbbbb (finR [(4, none), (5, none)]))) (Q := Q) (u := S.u) (id := hp.id) (lv := hp.lives) (v1 := rowV kr roots.length) (v4 := .slice none 0 (some 0)) (v5 := I 0) inC2 (inF2 _ (List.mem_cons_self ..)) (inF2 _ (List.mem_cons_of_mem _ (List.mem_cons_self ..))) (List.mem_cons_self ..) hmt hmf (by omega) (colObjs L S).length 0 hp1 s4 (by omega) e1 e2 hR1 hok1
    (fun w hw => by rw [e4]; exact (hpts w hw).find) h7
  simp only [List.drop_zero, Int.natCast_zero] at hwl
  refine hwl fun s5 hp2 d1 d2 d3 d4 hR2 hok2 h8 => ?_
  clear hwl
  rw [e4] at d4
  simp -implicitDefEqProofs only [↓GP, GB, GL, Nat.reduceAdd, Nat.reduceSub, Nat.reduceEqDiff, Nat.reduceMul, Nat.reduceLeDiff, Int.reduceBNe, Int.reduceBEq, Nat.reduceLT, reduceCtorEq, j46_bbbbbbb]
  have hot := out_loop (K := blockK 10 (seqK (loop PF) (call PF) j46_bbbbbbbbb (finR [(4, none), (5, none)]))) (Q := Q) (kr := kr) (roots := roots) (c := c) (t := t) (tk := tk) (fk := fk) (cb := cb) (fun y hy => List.mem_append_right (hp2.ch p) (inC2 y hy)) (List.mem_append_right _ (inF2 _ (List.mem_cons_of_mem _ (List.mem_cons_self ..)))) (List.mem_append_right _ (inF2 _ (List.mem_cons_of_mem _ (List.mem_cons_of_mem _ hr)))) hmt hmf (by omega) roots.length 0 0 [] s5 (by omega) (by simp) (h8.nilEntry 0)
  simp only [List.drop_zero, List.nil_append, List.length_nil, Int.natCast_zero, List.length_map] at hot
  refine hot fun s6 kout h9 => ?_
  simp -implicitDefEqProofs only [↓GP, GB, GL, Nat.reduceAdd, Nat.reduceSub, Nat.reduceEqDiff, Nat.reduceMul, Nat.reduceLeDiff, Int.reduceBNe, Int.reduceBEq, Nat.reduceLT, reduceCtorEq, j46_bbbbbbbbb]
  exact q s6 hp2 kout d1 d2 (d3.trans e3) d4 hR2 hok2 (Holds.of (h9) (fun k => by simp +arith only [HA, HB]) (fun k x => by simp only [HA, HC]; grind only))
end
end Go.Proofs.Ytoldkemimhebaaa

/- Layer 16: CollectRegions: the law, on models. -/
set_option linter.unusedSimpArgs false
set_option linter.unusedVariables false
namespace Go.Proofs.Ytoldkemimhebaaa
open Go Go.IM

/-- Which objects of a region stay. -/
def stayM (L : List (Int × Int)) (g : Reg) : List Obj := if 0 < g.pages.length then keptM L g else g.objs
def hdE (x : Obj) : Int × Int := ((x.kind : Int), (x.ws.length : Int))

theorem layObj_hd : ∀ (ys : List Obj) (ats : List Nat), ats.length = ys.length → (layObj ys ats).map hdE = ys.map hdE
  | [], [], _ => rfl
  | [], _ :: _, h => by simp at h
  | _ :: _, [], h => by simp at h
  | y :: ys, a :: ats, h => by
    have := layObj_hd ys ats (by simpa using h)
    simp only [layObj] at this
    simp only [layObj, List.zipWith_cons_cons, List.map_cons, this]
    rfl

theorem col_heads {L : List (Int × Int)} {lv : Nat} : ∀ {B A : List Reg} {S : ColS}, ColInv L lv A B S → S.regs.map (fun g => g.objs.map hdE) = A.map (fun g => (stayM L g).map hdE) →
    (B.foldl (colStep L) S).regs.map (fun g => g.objs.map hdE) = (A ++ B).map (fun g => (stayM L g).map hdE)
  | [], A, S, _, e => by simpa using e
  | g :: B, A, S, h, e => by
    have hI := h.ok.inv
    have hri := hI.reg g (by simp)
    have key : (colStep L S g).regs.map (fun g => g.objs.map hdE) = (A ++ [g]).map (fun g => (stayM L g).map hdE) := by
      unfold colStep
      by_cases hp : 0 < g.pages.length
      · rw [if_pos hp]
        have hs : g.size = 0 := by
          rcases Nat.eq_zero_or_pos g.size with h | h
          · exact h
          · have := (hri.fin h).1; rw [this] at hp; simp at hp
        obtain ⟨ats, u', fill', pages', hlay, _, _, hal, _⟩ := h.ok.turn hs (ys := keptM L g) (List.filter_sublist ..)
        rw [hlay]
        simp only [List.map_append, e, List.map_cons, List.map_nil]
        congr 2
        unfold stayM
        rw [if_pos hp]
        exact layObj_hd _ _ hal
      · rw [if_neg hp]
        simp only [List.map_append, e, List.map_cons, List.map_nil]
        congr 2
        unfold stayM
        rw [if_neg hp]
    have := col_heads (h.step) key
    rw [List.append_assoc] at this
    exact this

theorem fix_shape1 (mv : ToF) (fx : List (Int × Int)) : ∀ (Os : List (Int × Int)) (rs : List Reg), (Os.foldl (fixM mv fx) rs).map shapeR = rs.map shapeR
  | [], _ => rfl
  | w :: Os, rs => by
    rw [List.foldl_cons, fix_shape1 mv fx Os]
    exact setM_shape w (map_len _) rs
theorem shape_heads {rs rs' : List Reg} (e : rs'.map shapeR = rs.map shapeR) : rs'.map (fun g => g.objs.map hdE) = rs.map (fun g => g.objs.map hdE) := by
  have := congrArg (List.map fun t : Nat × Nat × Nat × List Nat × List (Nat × Nat × Nat) => t.2.2.2.2.map fun x : Nat × Nat × Nat => ((x.2.1 : Int), (x.2.2 : Int))) e
  have e2 : ∀ l : List Reg, (l.map shapeR).map (fun t : Nat × Nat × Nat × List Nat × List (Nat × Nat × Nat) => t.2.2.2.2.map fun x : Nat × Nat × Nat => ((x.2.1 : Int), (x.2.2 : Int))) = l.map (fun g => g.objs.map hdE) := fun l => by
    rw [List.map_map]
    exact List.map_congr_left fun g _ => by simp only [Function.comp, shapeR, List.map_map]; rfl
  rw [e2, e2] at this
  exact this
/-- Behind a collection the objects that stay are there, in their order. -/
theorem collected_heads {L : List (Int × Int)} {lv : Nat} {u : List Bool} {rs : List Reg} (h : RsOk lv u rs) : (colRegs L (colAll L u rs)).map (fun g => g.objs.map hdE) = rs.map (fun g => (stayM L g).map hdE) := by
  have hs := fix_shape1 (colAll L u rs).mv (colAll L u rs).fx (colObjs L (colAll L u rs)) (colAll L u rs).regs
  exact (shape_heads hs).trans (by have := col_heads (ColInv.start (L := L) h) rfl; rw [List.nil_append] at this; exact this)

/-- Which objects CollectRegions takes for those that stay. -/
theorem stay_filter {L : List (Int × Int)} {g : Reg} {n : Nat} (h : RInv g) (hp : ∀ p ∈ g.pages, p < n) (hn : n ≤ 30) : (g.objs.filter fun x => decide (((x.at_ : Int), (g.life : Int)) ∈ L) || decide ((x.at_ : Int) ≥ 1000000)) = stayM L g := by
  unfold stayM
  by_cases hs : g.size = 0
  · have hf := (h.inf hs).facts h.os
    by_cases h0 : 0 < g.pages.length
    · rw [if_pos h0]
      unfold keptM
      refine List.filter_congr fun x hx => ?_
      obtain ⟨p, h1, h2, h3, _⟩ := hf.2.1 (x.at_, x.ws.length + 1) (List.mem_map.2 ⟨x, hx, rfl⟩)
      have := hp p h1
      have h4 : ¬ ((x.at_ : Int) ≥ 1000000) := by simp only at h2 h3; omega
      rw [decide_eq_false h4, Bool.or_false]
    · rw [if_neg h0]
      have : g.objs.length ≤ 0 := by have := hf.2.2.1; rw [List.length_map] at this; omega
      rw [List.length_eq_zero_iff.1 (Nat.le_zero.1 this)]
      rfl
  · have h1 := h.fin (by omega)
    rw [if_neg (by rw [h1.1]; simp)]
    refine List.filter_eq_self.2 fun x hx => ?_
    have := h1.2.2.2 x hx
    rw [Bool.or_eq_true]
    exact .inr (by simp; omega)
end Go.Proofs.Ytoldkemimhebaaa

/- Layer 16: CollectRegions: the heads before a collection. -/
set_option linter.unusedSimpArgs false
set_option linter.unusedVariables false
namespace Go.Proofs.Ytoldkemimhebaaa
open Go Go.IM

-- virgate/virgatelaw16.CollectRegions
def j9_0xabaaba : IC := (.seq (.region [oa 92 (.mov (.t 5)), oa 93 (.nilCheck (.t 92)), oa 94 (.fieldAddr 0 (.t 93)), oa 95 (.load none (.t 94)), oa 96 (.mov (.t 13)), oa 97 (.mov (.t 16)), oa 98 (.indexAddr 2 (.t 96) (.t 97)), oa 99 (.load (some 2) (.t 98)), oa 100 (.call 30 [(.t 95), (.t 99)]), oa 91 (.mov (.t 100)), oa 101 (.extract (.t 91) 0), oa 102 (.extract (.t 91) 1), oa 103 (.extract (.t 91) 2), oa 17 (.mov (.t 101)), oa 18 (.mov (.t 102)), oa 19 (.mov (.t 103))] (kp 190 [5,7,8,9,10,11,12,13,15,16,17,18]))
  (.seq (.region [oa 104 (.mov (.t 10)), oa 105 (.mov (.t 17)), oa 106 (.mov (.t 18)), oa 107 (.build [(.int .i64 (0)), (.int .i64 (0))] [(0, 1, (.t 105)), (1, 1, (.t 106))]), oa 108 (.buildSlice 1 [(.int .i64 (0)), (.int .i64 (0))] [(0, 2, (.t 107))]), oa 109 (.append 2 16 (.t 104) (.t 108)), oa 10 (.mov (.t 109))] (kp 190 [5,7,8,9,10,11,12,13,15,16]))
  (.region [oa 110 (.mov (.t 15)), oa 111 (.bin .add (.t 110) (ai 1)), oa 15 (.mov (.t 111))] (kp 190 [5,7,8,9,10,11,12,13,15,16]))))
def l9_0 : IC := (.seq (.seq (.seq (.region [oa 71 (.mov (.t 16)), oa 72 (.mov (.t 13)), oa 73 (.lenSlice (.t 72)), oa 74 (.bin .lss (.t 71) (.t 73))] (kp 190 [5,7,8,9,10,11,12,13,15,16,74]))
  (.cond (.t 74)
  (sk 190 [5,7,8,9,10,11,12,13,15,16])
  (sx 190 [5,7,8,9,10,11,12,15] 2)))
  (.seq (.block 3
  (.seq (.region [oa 77 (.mov (.t 8)), oa 78 (.mov (.t 13)), oa 79 (.mov (.t 16)), oa 80 (.indexAddr 2 (.t 78) (.t 79)), oa 81 (.load (some 2) (.t 80)), oa 82 (.call 45 [(.t 77), (.t 81)]), oa 83 (.mov (.t 82)), oc 84 (.mov (.t 13)) 83 ff, oc 85 (.mov (.t 16)) 83 ff, oc 86 (.indexAddr 2 (.t 84) (.t 85)) 83 ff, oc 87 (.fieldAddr 0 (.t 86)) 83 ff, oc 88 (.load none (.t 87)) 83 ff, oc 89 (.bin .geq (.t 88) (ai 1000000)) 83 ff, oa 90 (.pick (.t 83) (.c (.bool true)) (.t 89))] (kp 190 [5,7,8,9,10,11,12,13,15,16,90]))
  (.cond (.t 90)
  j9_0xabaaba
  (sk 190 [5,7,8,9,10,11,12,13,15,16]))))
  (.region [oa 75 (.mov (.t 16)), oa 76 (.bin .add (.t 75) (ai 1)), oa 16 (.mov (.t 76))] (kp 190 [5,7,8,9,10,11,12,13,15,16]))))
  (sk 190 [5,7,8,9,10,11,12,13,15,16]))
def j9_1xabaabbb : IC := (.region [oa 112 (.mov (.t 11)), oa 113 (.mov (.t 15)), oa 114 (.buildSlice 1 [(.int .i64 (0))] [(0, 1, (.t 113))]), oa 115 (.append 1 8 (.t 112) (.t 114)), oa 11 (.mov (.t 115))] (kp 190 [5,7,8,9,10,11,12]))
def l9_1 : IC := (.seq (.seq (.seq (.region [oa 53 (.mov (.t 12)), oa 54 (.mov (.t 5)), oa 55 (.nilCheck (.t 54)), oa 56 (.fieldAddr 0 (.t 55)), oa 57 (.load none (.t 56)), oa 58 (.call 27 [(.t 57)]), oa 59 (.bin .lss (.t 53) (.t 58))] (kp 190 [5,7,8,9,10,11,12,59]))
  (.cond (.t 59)
  (sk 190 [5,7,8,9,10,11,12])
  (sx 190 [5,7,9,10,11] 0)))
  (.seq (.block 1
  (.seq (.region [oa 63 (.mov (.t 5)), oa 64 (.nilCheck (.t 63)), oa 65 (.fieldAddr 0 (.t 64)), oa 66 (.load none (.t 65)), oa 67 (.mov (.t 12)), oa 68 (.call 28 [(.t 66), (.t 67)]), oa 62 (.mov (.t 68)), oa 69 (.extract (.t 62) 0), oa 70 (.extract (.t 62) 1), oa 13 (.mov (.t 69)), oa 14 (.mov (.t 70))] (kp 190 [5,7,8,9,10,11,12,13]))
  (.seq (.region [oa 15 (.mov (ai 0))] (kp 190 [5,7,8,9,10,11,12,13,15]))
  (.seq (.seq (.region [oa 16 (.mov (ai 0))] (kp 190 [5,7,8,9,10,11,12,13,15,16]))
  (.block 2
  (.seq (sk 190 [5,7,8,9,10,11,12,13,15,16])
  (.loop l9_0))))
  j9_1xabaabbb))))
  (.region [oa 60 (.mov (.t 12)), oa 61 (.bin .add (.t 60) (ai 1)), oa 12 (.mov (.t 61))] (kp 190 [5,7,8,9,10,11,12]))))
  (sk 190 [5,7,8,9,10,11,12]))
def l9_2 : IC := (.seq (.seq (.seq (.region [oa 156 (.mov (.t 26)), oa 157 (.mov (.t 24)), oa 158 (.lenSlice (.t 157)), oa 159 (.bin .lss (.t 156) (.t 158))] (kp 190 [5,10,11,22,23,24,26,159]))
  (.cond (.t 159)
  (sk 190 [5,10,11,22,23,24,26])
  (sx 190 [5,10,11,22,23] 6)))
  (.seq (.block 7
  (.seq (.region [oa 163 (.mov (.t 5)), oa 164 (.nilCheck (.t 163)), oa 165 (.fieldAddr 0 (.t 164)), oa 166 (.load none (.t 165)), oa 167 (.mov (.t 24)), oa 168 (.mov (.t 26)), oa 169 (.indexAddr 2 (.t 167) (.t 168)), oa 170 (.load (some 2) (.t 169)), oa 171 (.call 30 [(.t 166), (.t 170)]), oa 162 (.mov (.t 171)), oa 172 (.extract (.t 162) 0), oa 173 (.extract (.t 162) 1), oa 174 (.extract (.t 162) 2), oa 27 (.mov (.t 172)), oa 28 (.mov (.t 173)), oa 29 (.mov (.t 174))] (kp 190 [5,10,11,22,23,24,26,27,28,29]))
  (.seq (.seq (.region [oa 175 (.mov (.t 29)), oa 176 (.bin .neq (.t 175) (ai 0)), oa 177 (.mov (.t 176)), oc 178 (.mov (.t 10)) 177 ff, oc 179 (.mov (.t 22)) 177 ff, oc 180 (.indexAddr 2 (.t 178) (.t 179)) 177 ff, oc 181 (.load (some 2) (.t 180)) 177 ff, oc 182 (.mov (.t 27)) 177 ff, oc 183 (.mov (.t 28)) 177 ff, oc 184 (.build [(.int .i64 (0)), (.int .i64 (0))] [(0, 1, (.t 182)), (1, 1, (.t 183))]) 177 ff, oc 185 (.eql true (.key (.agg [.i, .i])) (.t 181) (.t 184)) 177 ff, oa 186 (.pick (.t 177) (.c (.bool true)) (.t 185))] (kp 190 [5,10,11,22,23,24,26,186]))
  (.cond (.t 186)
  (.seq (.region [oa 4 (.mov (.c (.bool false)))] (kp 190 [4]))
  (sr 190 [4]))
  (sk 190 [5,10,11,22,23,24,26])))
  (.region [oa 187 (.mov (.t 22)), oa 188 (.bin .add (.t 187) (ai 1)), oa 22 (.mov (.t 188))] (kp 190 [5,10,11,22,23,24,26])))))
  (.region [oa 160 (.mov (.t 26)), oa 161 (.bin .add (.t 160) (ai 1)), oa 26 (.mov (.t 161))] (kp 190 [5,10,11,22,23,24,26]))))
  (sk 190 [5,10,11,22,23,24,26]))
def l9_3 : IC := (.seq (.seq (.seq (.region [oa 131 (.mov (.t 23)), oa 132 (.mov (.t 5)), oa 133 (.nilCheck (.t 132)), oa 134 (.fieldAddr 0 (.t 133)), oa 135 (.load none (.t 134)), oa 136 (.call 27 [(.t 135)]), oa 137 (.bin .lss (.t 131) (.t 136))] (kp 190 [5,10,11,22,23,137]))
  (.cond (.t 137)
  (sk 190 [5,10,11,22,23])
  (sx 190 [] 4)))
  (.seq (.block 5
  (.seq (.region [oa 141 (.mov (.t 5)), oa 142 (.nilCheck (.t 141)), oa 143 (.fieldAddr 0 (.t 142)), oa 144 (.load none (.t 143)), oa 145 (.mov (.t 23)), oa 146 (.call 28 [(.t 144), (.t 145)]), oa 140 (.mov (.t 146)), oa 147 (.extract (.t 140) 0), oa 148 (.extract (.t 140) 1), oa 24 (.mov (.t 147)), oa 25 (.mov (.t 148))] (kp 190 [5,10,11,22,23,24]))
  (.seq (.seq (.region [oa 149 (.mov (.t 24)), oa 150 (.lenSlice (.t 149)), oa 151 (.mov (.t 11)), oa 152 (.mov (.t 23)), oa 153 (.indexAddr 1 (.t 151) (.t 152)), oa 154 (.load none (.t 153)), oa 155 (.bin .neq (.t 150) (.t 154))] (kp 190 [5,10,11,22,23,24,155]))
  (.cond (.t 155)
  (.seq (.region [oa 4 (.mov (.c (.bool false)))] (kp 190 [4]))
  (sr 190 [4]))
  (sk 190 [5,10,11,22,23,24])))
  (.seq (.region [oa 26 (.mov (ai 0))] (kp 190 [5,10,11,22,23,24,26]))
  (.block 6
  (.seq (sk 190 [5,10,11,22,23,24,26])
  (.loop l9_2)))))))
  (.region [oa 138 (.mov (.t 23)), oa 139 (.bin .add (.t 138) (ai 1)), oa 23 (.mov (.t 139))] (kp 190 [5,10,11,22,23]))))
  (sk 190 [5,10,11,22,23]))
def c9 : IFn := ⟨190, [(4, none)],
  (.seq (.region [oa 4 (.mov (.c (.bool false)))] (kp 190 [0,1]))
  (.seq (.seq (.region [oa 30 (.mov (.t 0)), oa 31 (.mov (.t 1)), oa 32 (.call 40 [(.t 30), (.t 31), (.c (.slice none 0 (some 0)))])] (kp 190 [0,1,32]))
  (.cond (.t 32)
  (.seq (.region [oa 33 (.call 41 []), oa 4 (.mov (.t 33))] (kp 190 [4]))
  (sr 190 [4]))
  (sk 190 [0,1])))
  (.seq (.region [oa 35 (.mov (.t 0)), oa 36 (.call 42 [(.t 35)]), oa 34 (.mov (.t 36)), oa 37 (.extract (.t 34) 0), oa 38 (.extract (.t 34) 1), oa 5 (.mov (.t 37)), oa 6 (.mov (.t 38))] (kp 190 [1,5,6]))
  (.seq (.seq (.region [oa 39 (.mov (.t 6)), oa 40 (.un .not (.t 39))] (kp 190 [1,5,40]))
  (.cond (.t 40)
  (.seq (.region [oa 4 (.mov (.c (.bool false)))] (kp 190 [4]))
  (sr 190 [4]))
  (sk 190 [1,5])))
  (.seq (.region [oa 41 (.mov (.t 5)), oa 42 (.mov (.t 1)), oa 43 (.call 43 [(.t 41), (.t 42), (.c (.slice none 0 (some 0)))]), oa 7 (.mov (.t 43))] (kp 190 [5,7]))
  (.seq (.region [oa 45 (.mov (.t 5)), oa 46 (.nilCheck (.t 45)), oa 47 (.fieldAddr 0 (.t 46)), oa 48 (.load none (.t 47)), oa 49 (.mov (.t 7)), oa 50 (.call 44 [(.t 48), (.t 49)]), oa 44 (.mov (.t 50)), oa 51 (.extract (.t 44) 0), oa 52 (.extract (.t 44) 1), oa 8 (.mov (.t 51)), oa 9 (.mov (.t 52))] (kp 190 [5,7,8,9]))
  (.seq (.region [oa 10 (.mov (.c (.slice none 0 (some 0))))] (kp 190 [5,7,8,9,10]))
  (.seq (.region [oa 11 (.mov (.c (.slice none 0 (some 0))))] (kp 190 [5,7,8,9,10,11]))
  (.seq (.seq (.region [oa 12 (.mov (ai 0))] (kp 190 [5,7,8,9,10,11,12]))
  (.block 0
  (.seq (sk 190 [5,7,8,9,10,11,12])
  (.loop l9_1))))
  (.seq (.region [oa 117 (.mov (.t 5)), oa 118 (.nilCheck (.t 117)), oa 119 (.fieldAddr 0 (.t 118)), oa 120 (.load none (.t 119)), oa 121 (.mov (.t 7)), oa 122 (.call 46 [(.t 120), (.t 121)]), oa 116 (.mov (.t 122)), oa 123 (.extract (.t 116) 0), oa 124 (.extract (.t 116) 1), oa 20 (.mov (.t 123)), oa 21 (.mov (.t 124))] (kp 190 [5,9,10,11,21]))
  (.seq (.seq (.region [oa 125 (.mov (.t 9)), oa 126 (.bin .neq (.t 125) (ai 0)), oa 127 (.mov (.t 126)), oc 128 (.mov (.t 21)) 127 ff, oc 129 (.bin .neq (.t 128) (ai 0)) 127 ff, oa 130 (.pick (.t 127) (.c (.bool true)) (.t 129))] (kp 190 [5,10,11,130]))
  (.cond (.t 130)
  (.seq (.region [oa 4 (.mov (.c (.bool false)))] (kp 190 [4]))
  (sr 190 [4]))
  (sk 190 [5,10,11])))
  (.seq (.region [oa 22 (.mov (ai 0))] (kp 190 [5,10,11,22]))
  (.seq (.seq (.region [oa 23 (.mov (ai 0))] (kp 190 [5,10,11,22,23]))
  (.block 4
  (.seq (sk 190 [5,10,11,22,23])
  (.loop l9_3))))
  (.seq (.region [oa 189 (.call 41 []), oa 4 (.mov (.t 189))] (kp 190 [4]))
  (sr 190 [4])))))))))))))))⟩
theorem F9 : shutF Try.prog 9 = some c9 := by kernel_rfl


section
variable {o : Nat → Option O} {s : St} {C F : Ch} {Q : V → St → Prop} {p r : Nat} {u : List Bool}
set_option maxRecDepth 10000
set_option maxHeartbeats 400000

theorem I0 : V.int .i64 0 = I ((0 : Nat) : Int) := rfl
def stayB (L : List (Int × Int)) (life : Nat) (x : PObj) : Bool := decide (((x.b.at_ : Int), (life : Int)) ∈ L) || decide ((x.b.at_ : Int) ≥ 1000000)
def hdP (x : PObj) : Int × Int := hdE x.b
theorem pfind_own2 {g : PReg} {x : PObj} (hx : x ∈ g.objs) (hn : (g.objs.map (·.b.at_)).Nodup) : ∀ rs : List PReg, (rs.map (·.life)).Nodup → g ∈ rs → pfind x.b.at_ g.life rs = some x
  | [], _, h => by cases h
  | r :: rs, hl, h => by
    rw [List.map_cons, List.nodup_cons] at hl
    unfold pfind
    rw [List.findSome?_cons]
    by_cases e : r = g
    · subst e
      have : pf x.b.at_ r.life r = some x := by
        unfold pf
        rw [if_pos rfl]
        obtain ⟨X, Y, he⟩ := List.append_of_mem hx
        rw [he] at hn ⊢
        rw [List.map_append, List.map_cons, List.nodup_append] at hn
        rw [List.find?_append, List.find?_eq_none.2 (fun y hy => by
          have := hn.2.2 _ (List.mem_map.2 ⟨y, hy, rfl⟩) _ (List.mem_cons_self ..)
          simp; omega), List.find?_cons_of_pos (by simp)]
        rfl
      rw [this]
    · have hg : g ∈ rs := by rcases List.mem_cons.1 h with h | h; exact absurd h.symm e; exact h
      have : pf x.b.at_ g.life r = none := by
        unfold pf
        rw [if_neg]
        intro e2
        exact hl.1 (List.mem_map.2 ⟨g, hg, by omega⟩)
      rw [this]
      exact pfind_own2 hx hn rs hl.2 hg

theorem h9_head {hp : PHeap} {x : PObj} {w : Int × Int} {id lk ko k cnt i : Nat} {hv2 hv3 v7 v9 v11 v12 : V} {L acc : List (Int × Int)} {W : List (Int × Int)} {m : Nat} {K : Kt} (h : Look C p hp) (h1 : 0 < w.2) (hx : pfind w.1 w.2 hp.regs = some x) (hws : x.b.ws.length ≤ 31)
    (mid : (id, some (.cells [ptrN hp.id, hv2, hv3] none)) ∈ C) (hm : W.length = m) (mo : (ko, rowO 2 m (W.flatMap encW)) ∈ C) (hi : W[i]? = some w) (hl : m ≤ 1000) (ha : acc.length ≤ 1000000 + i) (hc : cnt ≤ i)
    (H : Holds o s ((k, rowO 2 acc.length (acc.flatMap encW)) :: C))
    (q : ∀ s' k', Holds o s' ((k', rowO 2 (acc ++ [hdE x.b]).length ((acc ++ [hdE x.b]).flatMap encW)) :: C) → WP (K .normal (sp 190 [(5, ptrN id), (7, v7), (8, rowV lk L.length), (9, v9), (10, rowV k' (acc.length + 1)), (11, v11), (12, v12), (13, rowV ko m), (15, I ((cnt + 1 : Nat) : Int)), (16, I i)]) s') Q) :
    WP (go (loop PF) (call PF) j9_0xabaaba (sp 190 [(5, ptrN id), (7, v7), (8, rowV lk L.length), (9, v9), (10, rowV k acc.length), (11, v11), (12, v12), (13, rowV ko m), (15, I cnt), (16, I i), (90, .bool true)]) s K) Q := by
  subst hm
  have hi' : i < W.length := (List.getElem?_eq_some_iff.1 hi).1
  have hix := ix_row (sz := 2) (k := ko) (n := W.length) (i := i) (kk := .i64) hi'
  have er : rowO 2 W.length (W.flatMap encW) = some (.cells (W.flatMap encW) (some 2)) := by unfold rowO; rw [if_neg (by omega)]
  have fr := H.mem (List.mem_cons_of_mem _ (er ▸ mo))
  have fG := H.mem (List.mem_cons_of_mem _ mid)
  have hld := ldN_tab (enc := encW) encW_len W (some 2) hi
  have hw2 := wrap_add1 (a := cnt) (by omega)
  simp -implicitDefEqProofs only [↓GP, GB, GL, Nat.reduceAdd, Nat.reduceSub, Nat.reduceEqDiff, Nat.reduceMul, Nat.reduceLeDiff, Int.reduceBNe, Int.reduceBEq, Nat.reduceLT, reduceCtorEq, j9_0xabaaba, hix, fr, fG, hld, encW]
  refine wp_in (s30 H (h.cons _).hin h.ne h.len h.ok h1 hx fun s1 h2 => ?_)
  simp -implicitDefEqProofs only [↓GP, GB, GL, Nat.reduceAdd, Nat.reduceSub, Nat.reduceEqDiff, Nat.reduceMul, Nat.reduceLeDiff, Int.reduceBNe, Int.reduceBEq, Nat.reduceLT, reduceCtorEq]
  refine wp_append (sz := 2) (bytes := 16) (m := 1) (cs := acc.flatMap encW) ((h2.alloc _).r1) (by rw [tab_len encW_len]) (new_cells' (alloc_new_same _ _) rfl) rfl rfl (by omega) (by unfold maxRow; omega) (by unfold maxRow; omega) fun k' s2 h3 => ?_
  simp -implicitDefEqProofs only [↓GP, GB, GL, Nat.reduceAdd, Nat.reduceSub, Nat.reduceEqDiff, Nat.reduceMul, Nat.reduceLeDiff, Int.reduceBNe, Int.reduceBEq, Nat.reduceLT, reduceCtorEq, hw2]
  refine q s2 k' ?_
  have h4 := h3.r1.tl
  rw [List.flatMap_append]; simpa [encW, hdE] using h4

theorem h9_inner {hp : PHeap} {g : PReg} {id lk ko : Nat} {hv2 hv3 v7 v9 v11 v12 : V} {L : List (Int × Int)} {K : Kt} (h : Look C p hp) (mg : g ∈ hp.regs) (hat : (g.objs.map (·.b.at_)).Nodup) (hlf : (hp.regs.map (·.life)).Nodup) (h1 : 1 ≤ g.life) (hw31 : ∀ x ∈ g.objs, x.b.ws.length ≤ 31)
    (mid : (id, some (.cells [ptrN hp.id, hv2, hv3] none)) ∈ C) (ml : (lk, rowO 2 L.length (L.flatMap encW)) ∈ C) (mo : (ko, rowO 2 g.objs.length ((wordsP g.life g.objs).flatMap encW)) ∈ C) (hl : g.objs.length ≤ 1000) (hL : L.length ≤ 1000000) :
    ∀ (n i k cnt : Nat) (acc : List (Int × Int)) (s : St), i + n = g.objs.length → acc.length ≤ 1000000 + i → cnt ≤ i → Holds o s ((k, rowO 2 acc.length (acc.flatMap encW)) :: C) →
    (∀ s' k' R m, R = acc ++ ((g.objs.drop i).filter (stayB L g.life)).map hdP → m = cnt + ((g.objs.drop i).filter (stayB L g.life)).length → Holds o s' ((k', rowO 2 R.length (R.flatMap encW)) :: C) →
      WP (K (.exit 2) (sp 190 [(5, ptrN id), (7, v7), (8, rowV lk L.length), (9, v9), (10, rowV k' R.length), (11, v11), (12, v12), (15, I m)]) s') Q) →
    WP (loop PF (.loop l9_0) (sp 190 [(5, ptrN id), (7, v7), (8, rowV lk L.length), (9, v9), (10, rowV k acc.length), (11, v11), (12, v12), (13, rowV ko g.objs.length), (15, I cnt), (16, I i)]) s K) Q
  | 0, i, k, cnt, acc, s, hi, ha, hc, H, q => by
    have hlt : ¬ ((i : Int) < (g.objs.length : Int)) := by omega
    rw [List.drop_eq_nil_of_le (by omega)] at q
    refine wp_round fun LL hLL => ?_
    simp -implicitDefEqProofs only [↓GP, GB, GL, Nat.reduceAdd, Nat.reduceSub, Nat.reduceEqDiff, Nat.reduceMul, Nat.reduceLeDiff, Int.reduceBNe, Int.reduceBEq, Nat.reduceLT, reduceCtorEq, l9_0, hlt]
    exact q s k acc cnt (by simp) (by simp) H
  | n + 1, i, k, cnt, acc, s, hi, ha, hc, H, q => by
    have hlt : ((i : Int) < (g.objs.length : Int)) := by omega
    have hi' : i < g.objs.length := by omega
    have hw1 := wrap_add1 (a := i) (by omega)
    have hw2 := wrap_add1 (a := cnt) (by omega)
    have hix := ix_row (sz := 2) (k := ko) (n := g.objs.length) (i := i) (kk := .i64) hi'
    have hWl : (wordsP g.life g.objs).length = g.objs.length := by simp [wordsP]
    have hW : (wordsP g.life g.objs)[i]? = some (((g.objs[i]'hi').b.at_ : Int), (g.life : Int)) := by
      unfold wordsP; rw [List.getElem?_map, List.getElem?_eq_getElem hi']; rfl
    have er : rowO 2 g.objs.length ((wordsP g.life g.objs).flatMap encW) = some (.cells ((wordsP g.life g.objs).flatMap encW) (some 2)) := by unfold rowO; rw [if_neg (by omega)]
    have fr := H.mem (List.mem_cons_of_mem _ (er ▸ mo))
    have fG := H.mem (List.mem_cons_of_mem _ mid)
    have hld := ldN_tab (enc := encW) encW_len _ (some 2) hW
    have hld0 : ldC (i * 2) (some (O.cells ((wordsP g.life g.objs).flatMap encW) (some 2))) = some (I (g.objs[i]'hi').b.at_) := by
      have := tab_get (enc := encW) (sz := 2) encW_len (wordsP g.life g.objs) [] (f := 0) hW (by omega)
      rw [List.append_nil] at this
      exact this
    have mx := List.getElem_mem hi'
    rw [List.drop_eq_getElem_cons hi', List.filter_cons] at q
    generalize g.objs[i] = x at q hld hld0 mx hW
    have hx := pfind_own2 mx hat hp.regs hlf mg
    refine wp_round fun LL hLL => ?_
    simp -implicitDefEqProofs only [↓GP, GB, GL, Nat.reduceAdd, Nat.reduceSub, Nat.reduceEqDiff, Nat.reduceMul, Nat.reduceLeDiff, Int.reduceBNe, Int.reduceBEq, Nat.reduceLT, reduceCtorEq, l9_0, hlt, hix, fr, hld, encW]
    refine wp_in (s45 (w := ((x.b.at_ : Int), (g.life : Int))) H (List.mem_cons_of_mem _ ml) hL fun s1 h2 => ?_)
    have fr2 := h2.mem (List.mem_cons_of_mem _ (er ▸ mo))
    by_cases hw : ((x.b.at_ : Int), (g.life : Int)) ∈ L
    · rw [if_pos (by unfold stayB; rw [decide_eq_true hw]; rfl)] at q
      rw [decide_eq_true hw]
      simp -implicitDefEqProofs only [↓GP, GB, GL, Nat.reduceAdd, Nat.reduceSub, Nat.reduceEqDiff, Nat.reduceMul, Nat.reduceLeDiff, Int.reduceBNe, Int.reduceBEq, Nat.reduceLT, reduceCtorEq]
      refine h9_head (w := ((x.b.at_ : Int), (g.life : Int))) (L := L) (acc := acc) h (by simp only; omega) hx (hw31 _ mx) mid hWl mo hW hl ha hc h2 fun s2 k2 h3 => ?_
      simp -implicitDefEqProofs only [↓GP, GB, GL, Nat.reduceAdd, Nat.reduceSub, Nat.reduceEqDiff, Nat.reduceMul, Nat.reduceLeDiff, Int.reduceBNe, Int.reduceBEq, Nat.reduceLT, reduceCtorEq, hw1]
      rw [hLL]
      have hl1 : (acc ++ [hdE x.b]).length = acc.length + 1 := by simp
      have := h9_inner (K := K) (v7 := v7) (v9 := v9) (v11 := v11) (v12 := v12) h mg hat hlf h1 hw31 mid ml mo hl hL n (i + 1) k2 (cnt + 1) (acc ++ [hdE x.b]) s2 (by omega) (by simp; omega) (by omega) h3 fun s' k' R m hR hm => q s' k' R m (by rw [hR]; simp [hdP]) (by rw [hm, List.length_cons]; omega)
      rw [hl1] at this
      exact this
    · rw [decide_eq_false hw]
      by_cases hge : (x.b.at_ : Int) ≥ 1000000
      · rw [if_pos (by unfold stayB; rw [decide_eq_true hge, Bool.or_true])] at q
        simp -implicitDefEqProofs only [↓GP, GB, GL, Nat.reduceAdd, Nat.reduceSub, Nat.reduceEqDiff, Nat.reduceMul, Nat.reduceLeDiff, Int.reduceBNe, Int.reduceBEq, Nat.reduceLT, reduceCtorEq, hix, fr2, hld0, hge]
        refine h9_head (w := ((x.b.at_ : Int), (g.life : Int))) (L := L) (acc := acc) h (by simp only; omega) hx (hw31 _ mx) mid hWl mo hW hl ha hc h2 fun s2 k2 h3 => ?_
        simp -implicitDefEqProofs only [↓GP, GB, GL, Nat.reduceAdd, Nat.reduceSub, Nat.reduceEqDiff, Nat.reduceMul, Nat.reduceLeDiff, Int.reduceBNe, Int.reduceBEq, Nat.reduceLT, reduceCtorEq, hw1]
        rw [hLL]
        have hl1 : (acc ++ [hdE x.b]).length = acc.length + 1 := by simp
        have := h9_inner (K := K) (v7 := v7) (v9 := v9) (v11 := v11) (v12 := v12) h mg hat hlf h1 hw31 mid ml mo hl hL n (i + 1) k2 (cnt + 1) (acc ++ [hdE x.b]) s2 (by omega) (by simp; omega) (by omega) h3 fun s' k' R m hR hm => q s' k' R m (by rw [hR]; simp [hdP]) (by rw [hm, List.length_cons]; omega)
        rw [hl1] at this
        exact this
      · rw [if_neg (by unfold stayB; rw [decide_eq_false hw, decide_eq_false hge]; simp)] at q
        simp -implicitDefEqProofs only [↓GP, GB, GL, Nat.reduceAdd, Nat.reduceSub, Nat.reduceEqDiff, Nat.reduceMul, Nat.reduceLeDiff, Int.reduceBNe, Int.reduceBEq, Nat.reduceLT, reduceCtorEq, hix, fr2, hld0, hge, hw1]
        rw [hLL]
        exact h9_inner h mg hat hlf h1 hw31 mid ml mo hl hL n (i + 1) k cnt acc _ (by omega) (by omega) (by omega) h2 q

def headsP (L : List (Int × Int)) (g : PReg) : List (Int × Int) := (g.objs.filter (stayB L g.life)).map hdP

/-- What is known of a heap whose regions are looked through. -/
structure Heads (hp : PHeap) : Prop where
  at_ : ∀ g ∈ hp.regs, (g.objs.map (·.b.at_)).Nodup
  life : (hp.regs.map (·.life)).Nodup
  pos : ∀ g ∈ hp.regs, 1 ≤ g.life
  ws : ∀ g ∈ hp.regs, ∀ x ∈ g.objs, x.b.ws.length ≤ 31
  len : ∀ g ∈ hp.regs, g.objs.length ≤ 1000
  regs : hp.regs.length ≤ 151
theorem headsP_len (L : List (Int × Int)) (g : PReg) : (headsP L g).length ≤ g.objs.length := by unfold headsP; rw [List.length_map]; exact List.length_filter_le ..

theorem h9_outer {hp : PHeap} {id lk : Nat} {hv2 hv3 v7 v9 : V} {L : List (Int × Int)} {K : Kt} (h : Look C p hp) (hh : Heads hp)
    (mid : (id, some (.cells [ptrN hp.id, hv2, hv3] none)) ∈ C) (ml : (lk, rowO 2 L.length (L.flatMap encW)) ∈ C) (hL : L.length ≤ 1000000) :
    ∀ (n i k kc : Nat) (acc : List (Int × Int)) (cs : List Nat) (s : St), i + n = hp.regs.length → acc.length ≤ 1000 * i → cs.length = i → Holds o s ((k, rowO 2 acc.length (acc.flatMap encW)) :: (kc, rowO 1 cs.length (cs.map fun n : Nat => I n)) :: C) →
    (∀ s' k' kc' R Rc, R = acc ++ (hp.regs.drop i).flatMap (headsP L) → Rc = cs ++ (hp.regs.drop i).map (fun g => (headsP L g).length) → Holds o s' ((k', rowO 2 R.length (R.flatMap encW)) :: (kc', rowO 1 Rc.length (Rc.map fun n : Nat => I n)) :: C) →
      WP (K (.exit 0) (sp 190 [(5, ptrN id), (7, v7), (9, v9), (10, rowV k' R.length), (11, rowV kc' Rc.length)]) s') Q) →
    WP (loop PF (.loop l9_1) (sp 190 [(5, ptrN id), (7, v7), (8, rowV lk L.length), (9, v9), (10, rowV k acc.length), (11, rowV kc cs.length), (12, I i)]) s K) Q
  | 0, i, k, kc, acc, cs, s, hi, ha, hc, H, q => by
    have hlt : ¬ ((i : Int) < (hp.regs.length : Int)) := by omega
    have fG := H.mem (List.mem_cons_of_mem _ (List.mem_cons_of_mem _ mid))
    have e27 := s27 H ((h.hin.cons _).cons _)
    rw [List.drop_eq_nil_of_le (by omega)] at q
    refine wp_round fun LL hLL => ?_
    simp -implicitDefEqProofs only [↓GP, GB, GL, Nat.reduceAdd, Nat.reduceSub, Nat.reduceEqDiff, Nat.reduceMul, Nat.reduceLeDiff, Int.reduceBNe, Int.reduceBEq, Nat.reduceLT, reduceCtorEq, l9_1, hlt, fG, e27]
    exact q s k kc acc cs (by simp) (by simp) H
  | n + 1, i, k, kc, acc, cs, s, hi, ha, hc, H, q => by
    have hlt : ((i : Int) < (hp.regs.length : Int)) := by omega
    have hi' : i < hp.regs.length := by omega
    have hlen := hh.regs
    have hw1 := wrap_add1 (a := i) (by omega)
    have fG := H.mem (List.mem_cons_of_mem _ (List.mem_cons_of_mem _ mid))
    have e27 := s27 H ((h.hin.cons _).cons _)
    have hg := List.getElem?_eq_getElem hi'
    have mg := List.getElem_mem hi'
    rw [List.drop_eq_getElem_cons hi', List.flatMap_cons, List.map_cons] at q
    generalize hp.regs[i] = g at q hg mg
    have hgl := hh.len g mg
    refine wp_round fun LL hLL => ?_
    simp -implicitDefEqProofs only [↓GP, GB, GL, Nat.reduceAdd, Nat.reduceSub, Nat.reduceEqDiff, Nat.reduceMul, Nat.reduceLeDiff, Int.reduceBNe, Int.reduceBEq, Nat.reduceLT, reduceCtorEq, l9_1, hlt, fG, e27]
    refine wp_in (s28 H ((h.hin.cons _).cons _) h.len hg (by omega) fun s1 ko h1 => ?_)
    rw [words_enc] at h1
    simp -implicitDefEqProofs only [↓GP, GB, GL, Nat.reduceAdd, Nat.reduceSub, Nat.reduceEqDiff, Nat.reduceMul, Nat.reduceLeDiff, Int.reduceBNe, Int.reduceBEq, Nat.reduceLT, reduceCtorEq]
    have h2 : Holds o s1 ((k, rowO 2 acc.length (acc.flatMap encW)) :: (kc, rowO 1 cs.length (cs.map fun n : Nat => I n)) :: (ko, rowO 2 g.objs.length ((wordsP g.life g.objs).flatMap encW)) :: C) := (Holds.of (h1) (fun k => by simp +arith only [HA, HB]) (fun k x => by simp only [HA, HC]; grind only))
    rw [I0]
    refine h9_inner (((h.cons (ko, _)).cons (kc, _))) mg (hh.at_ g mg) hh.life (hh.pos g mg) (hh.ws g mg) (List.mem_cons_of_mem _ (List.mem_cons_of_mem _ mid)) (List.mem_cons_of_mem _ (List.mem_cons_of_mem _ ml)) (List.mem_cons_of_mem _ (List.mem_cons_self ..)) hgl hL g.objs.length 0 k 0 acc s1 (by omega) (by omega) (by omega) h2 fun s2 k2 R m hR hm h3 => ?_
    rw [List.drop_zero] at hR hm
    have hml : m = (headsP L g).length := by rw [hm]; simp [headsP]
    have hhl := headsP_len L g
    have hRl : R.length ≤ 1000 * (i + 1) := by rw [hR]; have := headsP_len L g; unfold headsP at this; rw [List.length_append]; omega
    simp -implicitDefEqProofs only [↓GP, GB, GL, Nat.reduceAdd, Nat.reduceSub, Nat.reduceEqDiff, Nat.reduceMul, Nat.reduceLeDiff, Int.reduceBNe, Int.reduceBEq, Nat.reduceLT, reduceCtorEq, j9_1xabaabbb]
    refine wp_append (sz := 1) (bytes := 8) (m := 1) (cs := cs.map fun n : Nat => I n) ((h3.alloc _).r2) (by simp) (new_cells' (alloc_new_same _ _) rfl) rfl rfl (by omega) (by unfold maxRow; omega) (by unfold maxRow; omega) fun kc3 s3 h4 => ?_
    simp -implicitDefEqProofs only [↓GP, GB, GL, Nat.reduceAdd, Nat.reduceSub, Nat.reduceEqDiff, Nat.reduceMul, Nat.reduceLeDiff, Int.reduceBNe, Int.reduceBEq, Nat.reduceLT, reduceCtorEq, hw1]
    rw [hLL]
    have hl1 : (cs ++ [m]).length = cs.length + 1 := by simp
    have := h9_outer (K := K) (v7 := v7) (v9 := v9) h hh mid ml hL n (i + 1) k2 kc3 R (cs ++ [m]) s3 (by omega) hRl (by simp; omega) (by
      have h5 := h4.r1.tl
      rw [List.map_append]
      exact (Holds.of (h5) (fun k => by simp +arith only [List.length_append, List.length_cons, List.length_nil, List.map_cons, List.map_nil, HA, HB]) (fun k x => by simp only [List.length_append, List.length_cons, List.length_nil, List.map_cons, List.map_nil, HA, HC]; grind only))) fun s' k' kc' R' Rc' hR' hRc' => q s' k' kc' R' Rc' (by rw [hR', hR]; simp [headsP]) (by rw [hRc', hml]; simp)
    rw [hl1] at this
    exact this

theorem h9_same {hp : PHeap} {g : PReg} {id ko kR b : Nat} {hv2 hv3 v11 v23 : V} {R : List (Int × Int)} {K : Kt} (h : Look C p hp) (hh : Heads hp) (mg : g ∈ hp.regs)
    (mid : (id, some (.cells [ptrN hp.id, hv2, hv3] none)) ∈ C) (mR : (kR, rowO 2 R.length (R.flatMap encW)) ∈ C) (mo : (ko, rowO 2 g.objs.length ((wordsP g.life g.objs).flatMap encW)) ∈ C) (hRl : R.length ≤ 1000000)
    (hR : ∀ (j : Nat) x, g.objs[j]? = some x → R[b + j]? = some (hdP x)) :
    ∀ (n i : Nat) (s : St), i + n = g.objs.length → Holds o s C → (∀ s', Holds o s' C → WP (K (.exit 6) (sp 190 [(5, ptrN id), (10, rowV kR R.length), (11, v11), (22, I ((b + g.objs.length : Nat) : Int)), (23, v23)]) s') Q) →
    WP (loop PF (.loop l9_2) (sp 190 [(5, ptrN id), (10, rowV kR R.length), (11, v11), (22, I ((b + i : Nat) : Int)), (23, v23), (24, rowV ko g.objs.length), (26, I i)]) s K) Q
  | 0, i, s, hi, H, q => by
    have hlt : ¬ ((i : Int) < (g.objs.length : Int)) := by omega
    refine wp_round fun LL hLL => ?_
    simp -implicitDefEqProofs only [↓GP, GB, GL, Nat.reduceAdd, Nat.reduceSub, Nat.reduceEqDiff, Nat.reduceMul, Nat.reduceLeDiff, Int.reduceBNe, Int.reduceBEq, Nat.reduceLT, reduceCtorEq, l9_2, hlt]
    rw [show i = g.objs.length by omega]
    exact q s H
  | n + 1, i, s, hi, H, q => by
    have hlt : ((i : Int) < (g.objs.length : Int)) := by omega
    have hi' : i < g.objs.length := by omega
    have hgl := hh.len g mg
    have hw1 := wrap_add1 (a := i) (by omega)
    have hix := ix_row (sz := 2) (k := ko) (n := g.objs.length) (i := i) (kk := .i64) hi'
    have hWl : (wordsP g.life g.objs).length = g.objs.length := by simp [wordsP]
    have hW : (wordsP g.life g.objs)[i]? = some (((g.objs[i]'hi').b.at_ : Int), (g.life : Int)) := by
      unfold wordsP; rw [List.getElem?_map, List.getElem?_eq_getElem hi']; rfl
    have er : rowO 2 g.objs.length ((wordsP g.life g.objs).flatMap encW) = some (.cells ((wordsP g.life g.objs).flatMap encW) (some 2)) := by unfold rowO; rw [if_neg (by omega)]
    have fr := H.mem (er ▸ mo)
    have fG := H.mem mid
    have hld := ldN_tab (enc := encW) encW_len _ (some 2) hW
    have mx := List.getElem_mem hi'
    have hRi := hR i _ (List.getElem?_eq_getElem hi')
    generalize g.objs[i] = x at hld mx hW hRi
    have hx := pfind_own2 mx (hh.at_ g mg) hp.regs hh.life mg
    have hpos := hh.pos g mg
    have hRb : b + i < R.length := (List.getElem?_eq_some_iff.1 hRi).1
    have hw2 := wrap_add1 (a := b + i) (by omega)
    have hix2 := ix_row (sz := 2) (k := kR) (n := R.length) (i := b + i) (kk := .i64) hRb
    have er2 : rowO 2 R.length (R.flatMap encW) = some (.cells (R.flatMap encW) (some 2)) := by unfold rowO; rw [if_neg (by omega)]
    have hld2 := ldN_tab (enc := encW) encW_len _ (some 2) hRi
    refine wp_round fun LL hLL => ?_
    simp -implicitDefEqProofs only [↓GP, GB, GL, Nat.reduceAdd, Nat.reduceSub, Nat.reduceEqDiff, Nat.reduceMul, Nat.reduceLeDiff, Int.reduceBNe, Int.reduceBEq, Nat.reduceLT, reduceCtorEq, l9_2, hlt, hix, fr, fG, hld, encW]
    refine wp_in (s30 (N := (x.b.at_ : Int)) (L := (g.life : Int)) H h.hin h.ne h.len h.ok (by omega) hx fun s1 h2 => ?_)
    have fR := h2.mem (er2 ▸ mR)
    have hq := word_eq (hdP x) (hdP x)
    rw [decide_eq_true rfl] at hq
    simp only [hdP, hdE] at hq hld2
    simp -implicitDefEqProofs only [↓GP, GB, GL, Nat.reduceAdd, Nat.reduceSub, Nat.reduceEqDiff, Nat.reduceMul, Nat.reduceLeDiff, Int.reduceBNe, Int.reduceBEq, Nat.reduceLT, reduceCtorEq, hix2, fR, hld2, encW, hq, Int.reduceBNe, hw1, hw2]
    rw [hLL]
    exact h9_same h hh mg mid mR mo hRl hR n (i + 1) s1 (by omega) h2 q

theorem h9_all {hp : PHeap} {id kR kc : Nat} {hv2 hv3 : V} {R : List (Int × Int)} {Rc : List Nat} {K : Kt} (h : Look C p hp) (hh : Heads hp)
    (mid : (id, some (.cells [ptrN hp.id, hv2, hv3] none)) ∈ C) (mR : (kR, rowO 2 R.length (R.flatMap encW)) ∈ C) (mc : (kc, rowO 1 Rc.length (Rc.map fun n : Nat => I n)) ∈ C) (hRl : R.length ≤ 1000000)
    (hR : R = hp.regs.flatMap fun g => g.objs.map hdP) (hRc : Rc = hp.regs.map fun g => g.objs.length) :
    ∀ (n i b : Nat) (s : St), i + n = hp.regs.length → b = ((hp.regs.take i).flatMap fun g => g.objs.map hdP).length → Holds o s C → (∀ s', Holds o s' C → WP (K (.exit 4) (sp 190 []) s') Q) →
    WP (loop PF (.loop l9_3) (sp 190 [(5, ptrN id), (10, rowV kR R.length), (11, rowV kc Rc.length), (22, I b), (23, I i)]) s K) Q
  | 0, i, b, s, hi, hb, H, q => by
    have hlt : ¬ ((i : Int) < (hp.regs.length : Int)) := by omega
    have fG := H.mem mid
    have e27 := s27 H h.hin
    refine wp_round fun LL hLL => ?_
    simp -implicitDefEqProofs only [↓GP, GB, GL, Nat.reduceAdd, Nat.reduceSub, Nat.reduceEqDiff, Nat.reduceMul, Nat.reduceLeDiff, Int.reduceBNe, Int.reduceBEq, Nat.reduceLT, reduceCtorEq, l9_3, hlt, fG, e27]
    exact q s H
  | n + 1, i, b, s, hi, hb, H, q => by
    have hlt : ((i : Int) < (hp.regs.length : Int)) := by omega
    have hi' : i < hp.regs.length := by omega
    have hlen := hh.regs
    have hw1 := wrap_add1 (a := i) (by omega)
    have fG := H.mem mid
    have e27 := s27 H h.hin
    have hg := List.getElem?_eq_getElem hi'
    have mg := List.getElem_mem hi'
    have hsplit : R = ((hp.regs.take i).flatMap fun g => g.objs.map hdP) ++ ((hp.regs[i]'hi').objs.map hdP ++ (hp.regs.drop (i + 1)).flatMap fun g => g.objs.map hdP) := by
      have := congrArg (List.flatMap fun g : PReg => g.objs.map hdP) (List.take_append_drop i hp.regs)
      rw [List.flatMap_append, List.drop_eq_getElem_cons hi', List.flatMap_cons] at this
      exact hR.trans this.symm
    have hb2 : b + (hp.regs[i]'hi').objs.length = ((hp.regs.take (i + 1)).flatMap fun g => g.objs.map hdP).length := by
      rw [List.take_add_one, hg, Option.toList_some, List.flatMap_append, List.length_append, ← hb]; simp
    have hci : Rc[i]? = some (hp.regs[i]'hi').objs.length := by rw [hRc, List.getElem?_map, hg]; rfl
    have hcl : i < Rc.length := (List.getElem?_eq_some_iff.1 hci).1
    have hix := ix_row (sz := 1) (k := kc) (n := Rc.length) (i := i) (kk := .i64) hcl
    rw [Nat.mul_one] at hix
    have er : rowO 1 Rc.length (Rc.map fun n : Nat => I n) = some (.cells (Rc.map fun n : Nat => I n) (some 1)) := by unfold rowO; rw [if_neg (by omega)]
    have hld : ldC i (some (O.cells (Rc.map fun n : Nat => I n) (some 1))) = some (I (hp.regs[i]'hi').objs.length) := by
      show (Rc.map fun n : Nat => I n)[i]? = _
      rw [List.getElem?_map, hci]; rfl
    generalize hp.regs[i] = g at hg mg hsplit hb2 hld hci
    have hgl := hh.len g mg
    refine wp_round fun LL hLL => ?_
    simp -implicitDefEqProofs only [↓GP, GB, GL, Nat.reduceAdd, Nat.reduceSub, Nat.reduceEqDiff, Nat.reduceMul, Nat.reduceLeDiff, Int.reduceBNe, Int.reduceBEq, Nat.reduceLT, reduceCtorEq, l9_3, hlt, fG, e27]
    refine wp_in (s28 H h.hin h.len hg (by omega) fun s1 ko h1 => ?_)
    rw [words_enc] at h1
    have fr := h1.mem (List.mem_cons_of_mem _ (er ▸ mc))
    have hne : ((g.objs.length : Int) != (g.objs.length : Int)) = false := by simp
    simp -implicitDefEqProofs only [↓GP, GB, GL, Nat.reduceAdd, Nat.reduceSub, Nat.reduceEqDiff, Nat.reduceMul, Nat.reduceLeDiff, Int.reduceBNe, Int.reduceBEq, Nat.reduceLT, reduceCtorEq, hix, fr, hld, hne]
    rw [I0, show I (b : Int) = I ((b + 0 : Nat) : Int) from rfl]
    refine h9_same (h.cons _) hh mg (List.mem_cons_of_mem _ mid) (List.mem_cons_of_mem _ mR) (List.mem_cons_self ..) hRl (fun j x hj => ?_) g.objs.length 0 s1 (by omega) h1 fun s2 h2 => ?_
    · have hjl : j < g.objs.length := (List.getElem?_eq_some_iff.1 hj).1
      rw [hsplit, List.getElem?_append_right (by omega), ← hb, Nat.add_sub_cancel_left, List.getElem?_append_left (by simpa using hjl), List.getElem?_map, hj]
      rfl
    · simp -implicitDefEqProofs only [↓GP, GB, GL, Nat.reduceAdd, Nat.reduceSub, Nat.reduceEqDiff, Nat.reduceMul, Nat.reduceLeDiff, Int.reduceBNe, Int.reduceBEq, Nat.reduceLT, reduceCtorEq, hw1]
      rw [hLL]
      exact h9_all h hh mid mR mc hRl hR hRc n (i + 1) (b + g.objs.length) s2 (by omega) hb2 h2.tl q
end
end Go.Proofs.Ytoldkemimhebaaa

/- Layer 16's closed call: example 1 of the chapter. -/
set_option linter.unusedSimpArgs false
set_option linter.unusedVariables false
namespace Go.Proofs.Ytoldkemimhebaaa
open Go Go.IM
section
set_option maxRecDepth 10000

theorem sane16_0 : (match (LC PF 100 noY).2 41 [] ⟨fun _ => none, 0, fun _ => none⟩ with | some (.bool b, _) => b | _ => false) = true := by kernel_rfl

theorem sane16 (s : St) : ∃ t, call PF 41 [] s = some (.bool true, t) ∧ (∀ j, j < s.next → t.new j = s.new j) ∧ t.old = s.old ∧ s.next ≤ t.next := closed_at 100 sane16_0 s
end
end Go.Proofs.Ytoldkemimhebaaa

/- Layer 16: what all statements begin with. -/
set_option linter.unusedSimpArgs false
set_option linter.unusedVariables false
namespace Go.Proofs.Ytoldkemimhebaaa
open Go Go.IM

section
variable {o : Nat → Option O} {s : St} {C F : Ch} {Q : V → St → Prop} {p r q t : Nat} {u : List Bool} {G : PairG}
set_option maxRecDepth 10000
set_option maxHeartbeats 4000000

theorem H0c (hs : s.old = o) : Holds o s [] := ⟨hs, List.nodup_nil, (fun k x m => by cases m), (fun k m => by cases m)⟩
theorem im_trueC {f : Nat} {args : List V} (h : WP (call PF f args s) fun v' _ => v' = .bool true) : ∃ st, call PF f args s = some (.bool true, st) := by
  obtain ⟨v', st, e, rfl⟩ := h
  exact ⟨st, e⟩
theorem longB_lenC {l : List (ActG × List Bool)} (h : longB l = false) : l.length ≤ 150 := by
  unfold longB at h
  rw [Bool.or_eq_false_iff] at h
  have := h.2
  simp at this; exact this
theorem longR_false {l : List (ActG × List Bool)} {n m : Nat} (h : longR l n m = false) : longB l = false ∧ n ≤ 40 ∧ m ≤ 20 := by
  unfold longR at h
  simp only [Bool.or_eq_false_iff, decide_eq_false_iff_not] at h
  exact ⟨h.1.1, by omega, by omega⟩
theorem all_len : ∀ gs : List PReg, (∀ g ∈ gs, g.objs.length ≤ 32 * g.pages.length + 1) → (gs.flatMap fun g => g.objs.map fun x => ((x.b.at_ : Int), (g.life : Int))).length ≤ 32 * ((gs.map PReg.m).flatMap (·.pages)).length + gs.length
  | [], _ => by simp
  | g :: gs, h => by
    have h1 := all_len gs fun x hx => h x (List.mem_cons_of_mem _ hx)
    have h2 := h g (List.mem_cons_self ..)
    simp only [List.flatMap_cons, List.map_cons, List.length_append, List.length_map, List.length_cons] at h1 ⊢
    have : g.m.pages.length = g.pages.length := rfl
    omega

theorem PairOk.rs (h : PairOk u [] G) : RsOk G.hp.lives u (G.hp.regs.map PReg.m) := ⟨h.ulen, h.inv, by have := h.pool; rwa [List.append_nil] at this⟩
theorem RsOk.all {hp : PHeap} {lv : Nat} (h : RsOk lv u (hp.regs.map PReg.m)) (hl : lv ≤ 151) : (allW hp).length ≤ 90000 ∧ hp.regs.length ≤ 151 := by
  have h1 := all_len hp.regs fun g hg => by
    have := (h.inv.reg g.m (List.mem_map.2 ⟨g, hg, rfl⟩)).nobjs
    simpa [PReg.m] using this
  have h2 := h.pool.len
  have h3 := h.ulen
  have h4 := h.inv.len
  rw [List.length_map] at h4
  unfold allW
  exact ⟨by omega, by omega⟩

end
end Go.Proofs.Ytoldkemimhebaaa

/- Layer 16: CollectRegions, on the ideal machine. -/
set_option linter.unusedSimpArgs false
set_option linter.unusedVariables false
namespace Go.Proofs.Ytoldkemimhebaaa
open Go Go.IM

section
variable {o : Nat → Option O} {s : St} {C F : Ch} {Q : V → St → Prop} {p r q t : Nat} {u : List Bool} {G : PairG}
set_option maxRecDepth 10000
set_option maxHeartbeats 4000000

theorem s44 {hp : PHeap} {kr : Nat} {roots : List (Int × Int)} (H : Holds o s C) (h : Look C p hp) (hr : (kr, rowO 2 roots.length (roots.flatMap encW)) ∈ C) (hrl : roots.length ≤ 1000000) (hall : (allW hp).length ≤ 90000)
    (q : ∀ s' k, Holds o s' ((k, rowO 2 (reachW hp roots).length ((reachW hp roots).flatMap encW)) :: C) → Q (.tuple [rowV k (reachW hp roots).length, I 0]) s') : WP (call PF 44 [ptrN hp.id, rowV kr roots.length] s) Q := by
  have e89 := s89 H h.hin h.ne h.len
  rw [call_run F44]; simp -implicitDefEqProofs only [↓GP, GB, GL, Nat.reduceAdd, Nat.reduceSub, Nat.reduceEqDiff, Nat.reduceMul, Nat.reduceLeDiff, Int.reduceBNe, Int.reduceBEq, Nat.reduceLT, reduceCtorEq, c44, e89]
  refine wp_in (s90 H h hr hrl hall fun s1 t lk mk m hm h1 => ?_)
  have f := h1.mem (List.mem_append_left _ (List.mem_cons_self ..) : (t, some (O.cells [ptrN hp.id, rowV lk (reachW hp roots).length, V.map (some (.new mk))] none)) ∈ huntC t lk mk (ptrN hp.id) (reachW hp roots) m ++ C)
  simp -implicitDefEqProofs only [↓GP, GB, GL, Nat.reduceAdd, Nat.reduceSub, Nat.reduceEqDiff, Nat.reduceMul, Nat.reduceLeDiff, Int.reduceBNe, Int.reduceBEq, Nat.reduceLT, reduceCtorEq, f]
  exact q s1 lk (Holds.of (h1) (fun k => by simp +arith only [huntC, HA, HB]) (fun k x => by simp only [huntC, HA, HC]; grind only))

theorem RsOk.heads {hp : PHeap} {lv : Nat} (h : RsOk lv u (hp.regs.map PReg.m)) (hl : hp.regs.length ≤ 151) : Heads hp where
  at_ := fun g hg => by
    have := (h.inv.reg g.m (List.mem_map.2 ⟨g, hg, rfl⟩)).nodup
    simpa [PReg.m, List.map_map, Function.comp_def] using this
  life := by have := h.inv.nodup; rw [List.map_map] at this; exact this
  pos := fun g hg => (h.inv.life g.m (List.mem_map.2 ⟨g, hg, rfl⟩)).1
  ws := fun g hg x hx => ((h.inv.reg g.m (List.mem_map.2 ⟨g, hg, rfl⟩)).ws x.b (List.mem_map.2 ⟨x, hx, rfl⟩)).2.1
  len := fun g hg => by
    have hri := h.inv.reg g.m (List.mem_map.2 ⟨g, hg, rfl⟩)
    have hsb := sub_flatMap (fun r : Reg => r.pages) (List.mem_map.2 ⟨g, hg, rfl⟩ : g.m ∈ hp.regs.map PReg.m)
    have h1 := h.pool.sub_len hsb
    have h2 := hri.nobjs
    have h3 := h.ulen
    simp only [PReg.m, List.length_map] at *; omega
  regs := hl

theorem stayP {hp : PHeap} {lv : Nat} {L : List (Int × Int)} (h : RsOk lv u (hp.regs.map PReg.m)) {g : PReg} (hg : g ∈ hp.regs) : headsP L g = (stayM L g.m).map hdE := by
  have hm : g.m ∈ hp.regs.map PReg.m := List.mem_map.2 ⟨g, hg, rfl⟩
  have hsb := sub_flatMap (fun r : Reg => r.pages) hm
  have hri := h.inv.reg g.m hm
  rw [← stay_filter (L := L) hri (n := u.length) (fun x hx => h.pool.lt (hsb.subset hx)) h.ulen]
  unfold headsP
  show _ = List.map hdE (List.filter _ (g.objs.map (·.b)))
  rw [List.filter_map, List.map_map]
  rfl

theorem heads_same {hp hp' : PHeap} {lv : Nat} {L : List (Int × Int)} (h : RsOk lv u (hp.regs.map PReg.m)) (e : hp'.regs.map PReg.m = colRegs L (colAll L u (hp.regs.map PReg.m))) :
    hp'.regs.map (fun g => g.objs.map hdP) = hp.regs.map (headsP L) := by
  have h1 := collected_heads (L := L) h
  rw [← e, List.map_map, List.map_map] at h1
  have e1 : hp'.regs.map (fun g => g.objs.map hdP) = hp'.regs.map ((fun g : Reg => g.objs.map hdE) ∘ PReg.m) := List.map_congr_left fun g _ => by simp only [Function.comp, PReg.m, List.map_map]; rfl
  rw [e1, h1]
  exact List.map_congr_left fun g hg => (stayP h hg).symm

theorem heads_len (L : List (Int × Int)) : ∀ rs : List PReg, (rs.flatMap (headsP L)).length ≤ (rs.flatMap fun g => g.objs.map fun x => ((x.b.at_ : Int), (g.life : Int))).length
  | [] => Nat.le_refl _
  | g :: rs => by
    have h1 := heads_len L rs
    have h2 := headsP_len L g
    simp only [List.flatMap_cons, List.length_append, List.length_map] at h1 ⊢
    omega

theorem collectRegions_im {v v1 : V} {l : List (ActG × List Bool)} {is : List Int} (hA : ActsAt o v l) (hll : l.length < 2 ^ 61) (hI : OldI o v1 is) (s : St) (hs : s.old = o) : ∃ st, call PF 9 [v, v1] s = some (.bool true, st) := by
  refine im_trueC ?_
  have e40 := s40 hs hA hll hI.len (oldW_nil (o := o)).len
  cases hlg : longR l is.length 0 with
  | true =>
    rw [List.length_nil, hlg] at e40
    obtain ⟨t, ht, -⟩ := sane16 s
    rw [call_run F9]; simp -implicitDefEqProofs only [↓GP, GB, GL, Nat.reduceAdd, Nat.reduceSub, Nat.reduceEqDiff, Nat.reduceMul, Nat.reduceLeDiff, Int.reduceBNe, Int.reduceBEq, Nat.reduceLT, reduceCtorEq, c9, e40, ht]
  | false =>
    rw [List.length_nil, hlg] at e40
    obtain ⟨hlb, hil, hol⟩ := longR_false hlg
    have hl := longB_lenC hlb
    rw [call_run F9]; simp -implicitDefEqProofs only [↓GP, GB, GL, Nat.reduceAdd, Nat.reduceSub, Nat.reduceEqDiff, Nat.reduceMul, Nat.reduceLeDiff, Int.reduceBNe, Int.reduceBEq, Nat.reduceLT, reduceCtorEq, c9, e40]
    refine wp_in (s42 hA hl (H0c hs) fun s1 p r q t u G ok hul hlv hws h1 => ?_)
    simp -implicitDefEqProofs only [↓GP, GB, GL, Nat.reduceAdd, Nat.reduceSub, Nat.reduceEqDiff, Nat.reduceMul, Nat.reduceLeDiff, Int.reduceBNe, Int.reduceBEq, Nat.reduceLT, reduceCtorEq]
    have hR := ok.rs
    obtain ⟨hall, hlen⟩ := hR.all hlv
    refine wp_in (s43 hI hil (oldW_nil (o := o)) (by simp) (by omega) World.id World.wk h1 fun s2 kr h2 => ?_)
    have hrl : (pickL G.ws is ++ []).length ≤ 60 := by
      have : (pickL G.ws is).length ≤ 40 := by unfold pickL; exact Nat.le_trans (List.length_filterMap_le ..) hil
      simp; omega
    generalize pickL G.ws is ++ [] = roots at h2 hrl
    have fG := h2.mem (List.mem_cons_of_mem _ World.id)
    simp only [PairG.hd] at fG
    simp -implicitDefEqProofs only [↓GP, GB, GL, Nat.reduceAdd, Nat.reduceSub, Nat.reduceEqDiff, Nat.reduceMul, Nat.reduceLeDiff, Int.reduceBNe, Int.reduceBEq, Nat.reduceLT, reduceCtorEq, fG]
    have lk2 : Look ((kr, rowO 2 roots.length (roots.flatMap encW)) :: World p r q t u G []) p G.hp := hR.look ok.pok fun y hy => List.mem_cons_of_mem _ (World.in_.sub y hy)
    refine wp_in (s44 h2 lk2 (List.mem_cons_self ..) (by omega) hall fun s3 lk h3 => ?_)
    simp -implicitDefEqProofs only [↓GP, GB, GL, Nat.reduceAdd, Nat.reduceSub, Nat.reduceEqDiff, Nat.reduceMul, Nat.reduceLeDiff, Int.reduceBNe, Int.reduceBEq, Nat.reduceLT, reduceCtorEq]
    rw [← rowV_z 0, I0]
    have hh := hR.heads hlen
    have hLl : (reachW G.hp roots).length ≤ 90000 := Nat.le_trans (Found.reach G.hp roots).len hall
    refine h9_outer (acc := []) (cs := []) (lk2.cons (lk, _)) hh (List.mem_cons_of_mem _ (List.mem_cons_of_mem _ World.id)) (List.mem_cons_self ..) (by omega) G.hp.regs.length 0 0 0 s3 (by omega) (by simp) rfl ((h3.nilEntry 0).nilEntry 0) fun s4 k4 kc4 R Rc hRe hRce h4 => ?_
    rw [List.drop_zero, List.nil_append] at hRe hRce
    have hRl : R.length ≤ 90000 := by have := heads_len (reachW G.hp roots) G.hp.regs; unfold allW at hall; rw [hRe]; omega
    have fG4 := h4.mem (List.mem_cons_of_mem _ (List.mem_cons_of_mem _ (List.mem_cons_of_mem _ (List.mem_cons_of_mem _ World.id))))
    simp only [PairG.hd] at fG4
    simp -implicitDefEqProofs only [↓GP, GB, GL, Nat.reduceAdd, Nat.reduceSub, Nat.reduceEqDiff, Nat.reduceMul, Nat.reduceLeDiff, Int.reduceBNe, Int.reduceBEq, Nat.reduceLT, reduceCtorEq, fG4]
    refine wp_in (s46 (p := p) (r := r) (u := u) (hp := G.hp) (F := (k4, rowO 2 R.length (R.flatMap encW)) :: (kc4, rowO 1 Rc.length (Rc.map fun n : Nat => I n)) :: (kr, rowO 2 roots.length (roots.flatMap encW)) :: (G.id, some (.cells [ptrN G.hp.id, ptrN G.hr.id, rowV G.wk G.ws.length] none)) :: (G.wk, rowO 2 G.ws.length (G.ws.flatMap encW)) :: (poolC q t u ++ G.hr.ch q))
      (Holds.of (h4) (fun k => by simp +arith only [HA, HB]) (fun k x => by simp only [HA, HC]; grind only)) hR ok.pok (List.mem_cons_of_mem _ (List.mem_cons_of_mem _ (List.mem_cons_self ..))) (by omega) hall fun s5 hp' kout d1 d2 d3 d4 hR' hok' h5 => ?_)
    have hlen' : hp'.regs.length ≤ 151 := by omega
    have hh' := hR'.heads hlen'
    have hsm := heads_same hR d4
    have hfl : R = hp'.regs.flatMap fun g => g.objs.map hdP := by rw [hRe, List.flatMap_def, List.flatMap_def, hsm]
    have hcl : Rc = hp'.regs.map fun g => g.objs.length := by
      have := congrArg (List.map List.length) hsm
      simp only [List.map_map, Function.comp_def, List.length_map] at this
      rw [hRce, this]
    have lk5 := hR'.look (p := p) (D := (kout, rowO 2 roots.length ((roots.map (nowW (colAll (reachW G.hp roots) u (G.hp.regs.map PReg.m)).mv (colAll (reachW G.hp roots) u (G.hp.regs.map PReg.m)).fx)).flatMap encW)) :: (poolC p r (colAll (reachW G.hp roots) u (G.hp.regs.map PReg.m)).u ++ (hp'.ch p ++
      ((k4, rowO 2 R.length (R.flatMap encW)) :: (kc4, rowO 1 Rc.length (Rc.map fun n : Nat => I n)) :: (kr, rowO 2 roots.length (roots.flatMap encW)) :: (G.id, some (.cells [ptrN G.hp.id, ptrN G.hr.id, rowV G.wk G.ws.length] none)) :: (G.wk, rowO 2 G.ws.length (G.ws.flatMap encW)) :: (poolC q t u ++ G.hr.ch q))))) hok' fun y hy => List.mem_cons_of_mem _ (List.mem_append_right _ (List.mem_append_left _ hy))
    simp -implicitDefEqProofs only [↓GP, GB, GL, Nat.reduceAdd, Nat.reduceSub, Nat.reduceEqDiff, Nat.reduceMul, Nat.reduceLeDiff, Int.reduceBNe, Int.reduceBEq, Nat.reduceLT, reduceCtorEq, Int.reduceBNe]
    rw [I0]
    refine h9_all (id := G.id) (hv2 := ptrN G.hr.id) (hv3 := rowV G.wk G.ws.length) lk5 hh' (by rw [d1]; exact List.mem_cons_of_mem _ (List.mem_append_right _ (List.mem_append_right _ (List.mem_cons_of_mem _ (List.mem_cons_of_mem _ (List.mem_cons_of_mem _ (List.mem_cons_self ..)))))))
      (List.mem_cons_of_mem _ (List.mem_append_right _ (List.mem_append_right _ (List.mem_cons_self ..)))) (List.mem_cons_of_mem _ (List.mem_append_right _ (List.mem_append_right _ (List.mem_cons_of_mem _ (List.mem_cons_self ..))))) (by omega) hfl hcl hp'.regs.length 0 0 s5 (by omega) rfl h5 fun s6 h6 => ?_
    obtain ⟨t', ht', -⟩ := sane16 s6
    simp -implicitDefEqProofs only [↓GP, GB, GL, Nat.reduceAdd, Nat.reduceSub, Nat.reduceEqDiff, Nat.reduceMul, Nat.reduceLeDiff, Int.reduceBNe, Int.reduceBEq, Nat.reduceLT, reduceCtorEq, ht']
end
end Go.Proofs.Ytoldkemimhebaaa

/- Acts that are handed in, read on the ideal machine. -/
set_option linter.unusedSimpArgs false
set_option linter.unusedVariables false
namespace Go.Proofs.Ytoldkemimhebaaa
open Go Go.IM Go.ChangeShapes Go.WideShapes Go.RowKit

section
variable {H : Type} {enc : TypeId × Value → H} {W : Go.World}
set_option maxRecDepth 10000

theorem ofVals_map : ∀ l : List Value, ofVals l = l.map ofVal
  | [] => rfl
  | v :: l => by rw [ofVals, ofVals_map l]; rfl

/-- Cells of old memory, on the ideal machine. -/
theorem rd {base n : Nat} {a : Addr} {cs : List Value} (hn : 0 < n) (h : W.cells? base a n = some cs) : a.spot = none ∧ ∃ C, (oldSt W).old a.block = some (.cells C none) ∧ cut C a.off n = some (ofVals cs) := by
  obtain ⟨_, hlen, hc⟩ := Go.World.cells?_some h
  have h0 := hc 0 hn
  rw [show a.add 0 = a from rfl, List.getElem?_eq_getElem (by omega)] at h0
  unfold Go.World.cell? at h0
  split at h0
  · rename_i c el fr hb
    split at h0
    · cases h0
    · rename_i hs
      refine ⟨by simpa using hs, ofVals c.toList, by simp [oldSt, hb], ?_⟩
      have hget : ∀ i, i < n → c[a.off + i]? = cs[i]? := by
        intro i hi
        have := hc i hi
        rw [← this]
        unfold Go.World.cell? Addr.add
        by_cases h0 : i = 0
        · subst h0; simp [hb, hs]
        · simp [h0, hb]
      have hsz : a.off + n ≤ c.size := by
        have := hget (n - 1) (by omega)
        rw [List.getElem?_eq_getElem (by omega)] at this
        have := (Array.getElem?_eq_some_iff.1 this).1
        omega
      rw [ofVals_map, ofVals_map]
      unfold cut
      rw [if_pos (by simp; exact hsz)]
      congr 1
      apply List.ext_getElem?
      intro i
      by_cases hi : i < n
      · rw [List.getElem?_take, if_pos hi, List.getElem?_drop, List.getElem?_map, List.getElem?_map, Array.getElem?_toList, hget i hi]
      · rw [List.getElem?_eq_none (by simp; omega), List.getElem?_eq_none (by simp; omega)]
  · cases h0

theorem cut_get {l cs : List V} {off n : Nat} (h : cut l off n = some cs) {i : Nat} (hi : i < n) : l[off + i]? = cs[i]? := by
  unfold cut at h
  split at h
  · cases h
    rw [List.getElem?_take, if_pos hi, List.getElem?_drop]
  · cases h

theorem old_load {o : Nat → Option O} {s : St} {b off n : Nat} {C cs : List V} {g : Option Nat} (hs : s.old = o) (hb : o b = some (.cells C g)) (hc : cut C off n = some cs) : loadV (some n) (.ptr (some ⟨.old b, off⟩)) s = some (.agg cs) := by
  rw [loadV_ptr]
  show (readCells s ⟨.old b, off⟩ n).bind (packI (some n)) = _
  simp only [readCells, St.row, St.get, hs, hb, hc]
  rfl
theorem old_load1 {o : Nat → Option O} {s : St} {b off : Nat} {C : List V} {g : Option Nat} {v : V} (hs : s.old = o) (hb : o b = some (.cells C g)) (hc : C[off]? = some v) : loadV none (.ptr (some ⟨.old b, off⟩)) s = some v := by
  rw [loadV_ptr]
  show (readCells s ⟨.old b, off⟩ 1).bind (packI none) = _
  simp only [readCells, St.row, St.get, hs, hb]
  rw [cut_one', hc]

theorem ix_old {sz len cap i : Nat} {b off : Nat} {kk : IntKind} (h : i < len) : ixV sz (.slice (some ⟨.old b, off⟩) len (some cap)) (.int kk (i : Int)) = some (.ptr (some ⟨.old b, off + i * sz⟩)) := by
  rw [ixV_int (by omega) (by omega)]
  simp

/-- A slice's value. -/
theorem ofVal_slice {a : Addr} {len cap : Nat} (hl : len ≤ cap) (hsp : 0 < cap → a.spot = none) : ofVal (.slice (some a) len cap) = .slice (some ⟨.old a.block, a.off⟩) len (some cap) := by
  obtain ⟨b, off, sp⟩ := a
  cases sp with
  | none => simp [ofVal, hl]
  | some x =>
    have hc : cap = 0 := by
      rcases Nat.eq_zero_or_pos cap with h | h
      · exact h
      · have := hsp h; simp at this
    subst hc
    have : len = 0 := by omega
    subst this
    rfl

/-- Flags. -/
theorem someAt_of {fuel : Nat} {cs : List Value} {x : DataW H × List MemPlace} (h : DataW.trod enc Try.prog W 0 (fun _ => true) true fuel 48 cs = some x) :
    ∃ sa sn sc bs, ofVals cs = [.slice sa sn sc] ∧ ∀ y : ActG, y.sa = sa → y.sn = sn → y.sc = sc → SomeAt (oldSt W).old y bs := by
  rcases Go.Deep.open_bools (P := Try.prog) (t := 48) (e := 4) (by kernel_rfl) (by kernel_rfl) (by kernel_rfl) h with ⟨rfl, _⟩ | ⟨a, len, cap, B, rfl, hb, hl, hm, _, hB⟩
  · exact ⟨none, 0, some 0, [], rfl, fun y _ e _ => ⟨by rw [e]; rfl, fun i hi => by simp at hi⟩⟩
  · have hsp : 0 < cap → a.spot = none := by
      intro hc
      have := hB 0 hc
      rw [show a.add 0 = a from rfl] at this
      unfold Go.World.cell? at this
      split at this
      · split at this
        · cases this
        · rename_i h; simpa using h
      · cases this
    refine ⟨some ⟨.old a.block, a.off⟩, len, some cap, (List.range len).map B, by rw [ofVals, ofVal_slice hl hsp]; rfl, fun y e1 e2 e3 => ⟨by rw [e2]; simp, fun i hi => ?_⟩⟩
    simp at hi
    have hi' : i < y.sn := by omega
    rw [e1, e2, e3]
    refine ⟨⟨.old a.block, a.off + i * 1⟩, ix_old (by omega), fun s hs => ?_⟩
    have hc := hB i (by omega)
    unfold Go.World.cell? at hc
    split at hc
    · rename_i c el fr hbk
      split at hc
      · cases hc
      · have hbk' : W.heap[a.block]? = some (.cells c el fr) := by
          have : (a.add i).block = a.block := by unfold Addr.add; split <;> rfl
          rw [this] at hbk; exact hbk
        have hoff : (a.add i).off = a.off + i := by unfold Addr.add; split <;> simp_all
        rw [hoff] at hc
        refine old_load1 (C := ofVals c.toList) (g := none) hs (by simp [oldSt, hbk']) ?_
        rw [Nat.mul_one, ofVals_map, List.getElem?_map, Array.getElem?_toList, hc]
        simp [ofVal]
    · cases hc

theorem fields_of {fuel T : Nat} {cs : List Value} {x : DataW H × List MemPlace} {L : List (Nat × Nat)} (hL : (match Try.prog.underlying T with | some (.struct fs) => some (fs.toList.map fun f => (f.type, f.offset)) | _ => none) = some L)
    (h : DataW.trod enc Try.prog W 0 (fun _ => true) true fuel T cs = some x) : cs.length = Try.prog.cellsOf T ∧ ∃ n, ∀ (i T' off : Nat), L[i]? = some (T', off) → ∃ y, DataW.trod enc Try.prog W 0 (fun _ => true) true n T' ((cs.drop off).take (Try.prog.cellsOf T')) = some y := by
  split at hL
  · rename_i fs hu
    cases hL
    obtain ⟨xs, n, _, _, hlen, hxl, hf⟩ := DataW.trod_struct hu h
    refine ⟨hlen, n, fun i T' off hi => ?_⟩
    rw [List.getElem?_map] at hi
    cases hfi : fs.toList[i]? with
    | none => rw [hfi] at hi; cases hi
    | some f =>
      rw [hfi] at hi
      simp only [Option.map_some, Option.some.injEq, Prod.mk.injEq] at hi
      obtain ⟨rfl, rfl⟩ := hi
      have hfs : fs[i]? = some f := by rw [← Array.getElem?_toList]; exact hfi
      have := hf i f hfs
      have hix : i < xs.length := by rw [hxl]; exact (Array.getElem?_eq_some_iff.1 hfs).1
      rw [List.getElem?_eq_getElem hix] at this
      exact ⟨_, this⟩
  · cases hL

theorem u5 : Try.prog.underlying 5 = some (.int .u8) := by kernel_rfl
theorem u3 : Try.prog.underlying 3 = some (.int .i64) := by kernel_rfl
theorem word_of {fuel : Nat} {cs : List Value} {x : DataW H × List MemPlace} (h : DataW.trod enc Try.prog W 0 (fun _ => true) true fuel 47 cs = some x) : ∃ a b : Int, cs = [.int .i64 a, .int .i64 b] := by
  obtain ⟨hlen, n, hf⟩ := fields_of (L := [(3, 0), (3, 1)]) (by kernel_rfl) h
  rw [show Try.prog.cellsOf 47 = 2 by kernel_rfl] at hlen
  have c3 : Try.prog.cellsOf 3 = 1 := by kernel_rfl
  match cs, hlen with
  | [v0, v1], _ =>
    obtain ⟨y0, h0⟩ := hf 0 3 0 rfl
    obtain ⟨y1, h1⟩ := hf 1 3 1 rfl
    rw [c3] at h0 h1
    obtain ⟨a, e0, _⟩ := DataW.trod_int u3 h0
    obtain ⟨b, e1, _⟩ := DataW.trod_int u3 h1
    simp at e0 e1
    exact ⟨a, b, by rw [e0, e1]⟩

theorem act_of {fuel : Nat} {cs : List Value} {x : DataW H × List MemPlace} (h : DataW.trod enc Try.prog W 0 (fun _ => true) true fuel 50 cs = some x) :
    ∃ (y : ActG) (bs : List Bool), ofVals cs = y.cells ∧ SomeAt (oldSt W).old y bs ∧ (0 ≤ y.d ∧ y.d < 256 ∧ 0 ≤ y.hn ∧ y.hn < 256) := by
  obtain ⟨hlen, n, hf⟩ := fields_of (L := [(5, 0), (5, 1), (3, 2), (3, 3), (3, 4), (3, 5), (47, 6), (47, 8), (48, 10)]) (by kernel_rfl) h
  rw [show Try.prog.cellsOf 50 = 11 by kernel_rfl] at hlen
  have c3 : Try.prog.cellsOf 3 = 1 := by kernel_rfl
  have c5 : Try.prog.cellsOf 5 = 1 := by kernel_rfl
  have c47 : Try.prog.cellsOf 47 = 2 := by kernel_rfl
  have c48 : Try.prog.cellsOf 48 = 1 := by kernel_rfl
  match cs, hlen with
  | [v0, v1, v2, v3, v4, v5, v6, v7, v8, v9, v10], _ =>
    obtain ⟨y0, h0⟩ := hf 0 5 0 rfl
    obtain ⟨y1, h1⟩ := hf 1 5 1 rfl
    obtain ⟨y2, h2⟩ := hf 2 3 2 rfl
    obtain ⟨y3, h3⟩ := hf 3 3 3 rfl
    obtain ⟨y4, h4⟩ := hf 4 3 4 rfl
    obtain ⟨y5, h5⟩ := hf 5 3 5 rfl
    obtain ⟨y6, h6⟩ := hf 6 47 6 rfl
    obtain ⟨y7, h7⟩ := hf 7 47 8 rfl
    obtain ⟨y8, h8⟩ := hf 8 48 10 rfl
    rw [c5] at h0 h1
    rw [c3] at h2 h3 h4 h5
    rw [c47] at h6 h7
    rw [c48] at h8
    obtain ⟨d, e0, _, w0⟩ := DataW.trod_int u5 h0
    obtain ⟨hn, e1, _, w1⟩ := DataW.trod_int u5 h1
    obtain ⟨a, e2, _⟩ := DataW.trod_int u3 h2
    obtain ⟨b, e3, _⟩ := DataW.trod_int u3 h3
    obtain ⟨c, e4, _⟩ := DataW.trod_int u3 h4
    obtain ⟨wh, e5, _⟩ := DataW.trod_int u3 h5
    obtain ⟨w1', w2', e6⟩ := word_of h6
    obtain ⟨z1, z2, e7⟩ := word_of h7
    obtain ⟨sa, sn, sc, bs, e8, hS⟩ := someAt_of h8
    simp only [List.drop_zero, List.drop_succ_cons, List.take_succ_cons, List.take_zero, List.cons.injEq, and_true] at e0 e1 e2 e3 e4 e5 e6 e7 e8
    obtain ⟨rfl, rfl⟩ := e6
    obtain ⟨rfl, rfl⟩ := e7
    subst e0 e1 e2 e3 e4 e5
    refine ⟨⟨d, hn, a, b, c, wh, (w1', w2'), (z1, z2), sa, sn, sc⟩, bs, ?_, hS _ rfl rfl rfl, ?_⟩
    · simp only [ofVals, List.cons.injEq, and_true] at e8
      simp only [ofVals, e8]
      rfl
    · have m : ∀ n : Int, (Lit.int .u8 n).wf = true → 0 ≤ n ∧ n < 256 := by
        intro n hw
        simp only [Lit.wf, Bool.and_eq_true, decide_eq_true_eq] at hw
        have e1 : IntKind.u8.min = 0 := by decide
        have e2 : IntKind.u8.max = 255 := by decide
        rw [e1, e2] at hw
        omega
      have := m d w0
      have := m hn w1
      simp only; omega

instance : Inhabited (ActG × List Bool) := ⟨⟨⟨0, 0, 0, 0, 0, 0, (0, 0), (0, 0), none, 0, none⟩, []⟩⟩
theorem acts_of {fuel : Nat} {v : Value} {x : DataW H × List MemPlace} (hw : ∀ es sp, x.1 = .slice es sp → es.length < 2 ^ 61) (h : DataW.trod enc Try.prog W 0 (fun _ => true) true fuel 35 [v] = some x) : ∃ l : List (ActG × List Bool), ActsAt (oldSt W).old (ofVal v) l ∧ l.length < 2 ^ 61 := by
  rcases Go.Deep.open_slice (P := Try.prog) (t := 35) (e := 50) (by kernel_rfl) h with ⟨e, _⟩ | ⟨a, len, cap, m, n, D, Pl, e, hb, hl, hm, hmm, hxe, hx⟩
  · cases e
    exact ⟨[], ⟨rfl, fun i hi => by simp at hi, fun x hx => (by cases hx), fun x hx => (by cases hx)⟩, by simp⟩
  · cases e
    have c50 : Try.prog.cellsOf 50 = 11 := by kernel_rfl
    rw [c50] at hx
    have hm' : m = cap := by simpa using hmm
    have hsp : 0 < cap → a.spot = none := fun hc => by
      obtain ⟨cs, h1, _⟩ := hx 0 (by omega)
      exact (rd (by omega) h1).1
    have each : ∀ i, i < len → ∃ (y : ActG) (bs : List Bool), (∃ C, (oldSt W).old a.block = some (.cells C none) ∧ cut C (a.off + i * 11) 11 = some y.cells) ∧ SomeAt (oldSt W).old y bs ∧ (0 ≤ y.d ∧ y.d < 256 ∧ 0 ≤ y.hn ∧ y.hn < 256) := by
      intro i hi
      obtain ⟨cs, h1, h2⟩ := hx i (by omega)
      obtain ⟨y, bs, e1, e2, e3⟩ := act_of h2
      obtain ⟨_, C, k1, k2⟩ := rd (by omega) h1
      rw [e1] at k2
      have b1 : (a.add (i * 11)).block = a.block := by unfold Addr.add; split <;> rfl
      have b2 : (a.add (i * 11)).off = a.off + i * 11 := by unfold Addr.add; split <;> simp_all
      rw [b1] at k1
      rw [b2] at k2
      exact ⟨y, bs, ⟨C, k1, k2⟩, e2, e3⟩
    obtain ⟨f, hf⟩ := Go.Deep.choose_lt (α := ActG × List Bool) (p := fun i q => (∃ C, (oldSt W).old a.block = some (.cells C none) ∧ cut C (a.off + i * 11) 11 = some q.1.cells) ∧ SomeAt (oldSt W).old q.1 q.2 ∧ (0 ≤ q.1.d ∧ q.1.d < 256 ∧ 0 ≤ q.1.hn ∧ q.1.hn < 256)) (fun i hi => by
      obtain ⟨y, bs, h⟩ := each i hi
      exact ⟨(y, bs), h⟩)
    refine ⟨(List.range len).map f, ⟨?_, fun i hi => ?_, ?_, ?_⟩, ?_⟩
    · rw [ofVal_slice hl hsp, lenV_slice]; simp
    · simp at hi
      obtain ⟨⟨C, k1, k2⟩, _⟩ := hf i hi
      rw [ofVal_slice hl hsp]
      refine ⟨⟨.old a.block, a.off + i * 11⟩, ix_old hi, fun s hs => ?_⟩
      simp only [List.getElem_map, List.getElem_range]
      refine ⟨old_load hs k1 k2, old_load1 hs k1 ?_⟩
      rw [show a.off + i * 11 + 10 = (a.off + i * 11) + 10 from rfl, cut_get k2 (by omega)]
      rfl
    · intro x hx
      obtain ⟨i, hi, rfl⟩ := List.mem_map.1 hx
      exact (hf i (List.mem_range.1 hi)).2.1
    · intro x hx
      obtain ⟨i, hi, rfl⟩ := List.mem_map.1 hx
      exact (hf i (List.mem_range.1 hi)).2.2
    · have := hw _ _ (by rw [hxe])
      simpa using this
end
open Go.ChangeAt
theorem Try.own' : ownKnob Try.prog.godebug = none := by kernel_rfl
theorem Try.laidOut' : laidOutB Try.prog = true := by kernel_rfl
theorem Try.mixed' : Try.prog.follows .mixedOrders = true := by kernel_rfl

theorem sized_acts {H : Type} {ts : List TypeId} {ds : List (DataW H)} (h : (DataW.weightsEach Try.prog ts ds).all (· ≤ reachBytes) = true) {j : Nat} (ht : ts[j]? = some 35) {d : DataW H} (hd : ds[j]? = some d) :
    ∀ es sp, d = .slice es sp → es.length < 2 ^ 61 := by
  intro es sp e
  subst e
  have h1 := sized_slice (e := 50) h ht hd (by kernel_rfl)
  have hb : (decide (0 < Try.prog.bytesOf 50)) = true := by kernel_rfl
  have hb' : 0 < Try.prog.bytesOf 50 := of_decide_eq_true hb
  have h2 : es.length ≤ (es.length + sp.length) * Try.prog.bytesOf 50 := Nat.le_trans (Nat.le_add_right _ _) (Nat.le_mul_of_pos_right _ hb')
  have h3 : reachBytes < 2 ^ 61 := by decide
  omega

end Go.Proofs.Ytoldkemimhebaaa

/- Data that is handed in (numbers, bools, texts; slices and structs of them), as trees; how the ideal machine reads them. -/
set_option linter.unusedSimpArgs false
set_option linter.unusedVariables false
namespace Go.IM
open Go.ChangeShapes Go.WideShapes Go.RowKit

/-- A datum. -/
inductive D where
  | lit (v : V)
  | agg (ds : List D)
  | sl (sz : Nat) (es : List D)
  deriving Inhabited

mutual
/-- A datum in old memory, and the cells that hold it. -/
inductive Rep (o : Nat → Option O) : D → List V → Prop
  | lit (v : V) : Rep o (.lit v) [v]
  | agg {ds : List D} {cs : List V} : Reps o ds cs → Rep o (.agg ds) cs
  | nil {sz : Nat} {a : Option Ad} {c : Option Nat} : Rep o (.sl sz []) [.slice a 0 c]
  | sl {sz b off cap : Nat} {d : D} {es : List D} {C : List V} : o b = some (.cells C none) → RepE o C sz off (d :: es) → Rep o (.sl sz (d :: es)) [.slice (some ⟨.old b, off⟩) (d :: es).length (some cap)]
inductive Reps (o : Nat → Option O) : List D → List V → Prop
  | nil : Reps o [] []
  | cons {d : D} {ds : List D} {c cs : List V} : Rep o d c → Reps o ds cs → Reps o (d :: ds) (c ++ cs)
inductive RepE (o : Nat → Option O) : List V → Nat → Nat → List D → Prop
  | nil {C : List V} {sz off : Nat} : RepE o C sz off []
  | cons {C : List V} {sz off : Nat} {d : D} {ds : List D} {c : List V} : cut C off sz = some c → Rep o d c → RepE o C sz (off + sz) ds → RepE o C sz off (d :: ds)
end

mutual
/-- What a datum of a type is. -/
inductive HasTy (P : Program) : TypeId → D → Prop
  | bool {t : TypeId} {b : Bool} : P.underlying t = some .bool → HasTy P t (.lit (.bool b))
  | int {t : TypeId} {k : IntKind} {n : Int} : P.underlying t = some (.int k) → (Lit.int k n).wf = true → HasTy P t (.lit (.int k n))
  | str {t : TypeId} {s : ByteArray} : P.underlying t = some .string → s.size ≤ maxLen → HasTy P t (.lit (.str s))
  | sl {t e : TypeId} {es : List D} : P.underlying t = some (.slice e) → es.length ≤ maxLen → (∀ d ∈ es, HasTy P e d) → HasTy P t (.sl (P.cellsOf e) es)
  | agg {t : TypeId} {fs : Array Field} {ds : List D} : P.underlying t = some (.struct fs) → HasTys P fs.toList ds → HasTy P t (.agg ds)
inductive HasTys (P : Program) : List Field → List D → Prop
  | nil : HasTys P [] []
  | cons {f : Field} {fs : List Field} {d : D} {ds : List D} : HasTy P f.type d → HasTys P fs ds → HasTys P (f :: fs) (d :: ds)
end

/-- Do fields stand one behind the other? -/
def tileB (P : Program) (total : Nat) : Nat → List Field → Bool
  | off, [] => off == total
  | off, f :: fs => f.offset == off && tileB P total (off + P.cellsOf f.type) fs
/-- Types that lead to such types alone. -/
def tyOk (P : Program) (Ts : List TypeId) : Bool := Ts.all fun t => match P.underlying t with
  | some .bool | some (.int _) | some .string => true
  | some (.slice e) => Ts.contains e && decide (0 < P.cellsOf e)
  | some (.struct fs) => fs.toList.all (fun f => Ts.contains f.type) && tileB P (P.cellsOf t) 0 fs.toList
  | _ => false

theorem ofVals_map : ∀ l : List Value, ofVals l = l.map ofVal
  | [] => rfl
  | v :: l => by rw [ofVals, ofVals_map l]; rfl
theorem ofVals_append (l m : List Value) : ofVals (l ++ m) = ofVals l ++ ofVals m := by rw [ofVals_map, ofVals_map, ofVals_map, List.map_append]

section
variable {H : Type} {enc : TypeId × Value → H} {W : Go.World} {P : Program}

/-- Cells of old memory, on the ideal machine. -/
theorem rd {base n : Nat} {a : Addr} {cs : List Value} (hn : 0 < n) (h : W.cells? base a n = some cs) : a.spot = none ∧ ∃ C, (oldSt W).old a.block = some (.cells C none) ∧ cut C a.off n = some (ofVals cs) := by
  obtain ⟨_, hlen, hc⟩ := Go.World.cells?_some h
  have h0 := hc 0 hn
  rw [show a.add 0 = a from rfl, List.getElem?_eq_getElem (by omega)] at h0
  unfold Go.World.cell? at h0
  split at h0
  · rename_i c el fr hb
    split at h0
    · cases h0
    · rename_i hs
      refine ⟨by simpa using hs, ofVals c.toList, by simp [oldSt, hb], ?_⟩
      have hget : ∀ i, i < n → c[a.off + i]? = cs[i]? := by
        intro i hi
        have := hc i hi
        rw [← this]
        unfold Go.World.cell? Addr.add
        by_cases h0 : i = 0
        · subst h0; simp [hb, hs]
        · simp [h0, hb]
      have hsz : a.off + n ≤ c.size := by
        have := hget (n - 1) (by omega)
        rw [List.getElem?_eq_getElem (by omega)] at this
        have := (Array.getElem?_eq_some_iff.1 this).1
        omega
      rw [ofVals_map, ofVals_map]
      unfold cut
      rw [if_pos (by simp; exact hsz)]
      congr 1
      apply List.ext_getElem?
      intro i
      by_cases hi : i < n
      · rw [List.getElem?_take, if_pos hi, List.getElem?_drop, List.getElem?_map, List.getElem?_map, Array.getElem?_toList, hget i hi]
      · rw [List.getElem?_eq_none (by simp; omega), List.getElem?_eq_none (by simp; omega)]
  · cases h0

/-- A slice's value. -/
theorem ofVal_slice {a : Addr} {len cap : Nat} (hl : len ≤ cap) (hsp : 0 < cap → a.spot = none) : ofVal (.slice (some a) len cap) = .slice (some ⟨.old a.block, a.off⟩) len (some cap) := by
  obtain ⟨b, off, sp⟩ := a
  cases sp with
  | none => simp [ofVal, hl]
  | some x =>
    have hc : cap = 0 := by
      rcases Nat.eq_zero_or_pos cap with h | h
      · exact h
      · have := hsp h; simp at this
    subst hc
    have : len = 0 := by omega
    subst this
    rfl

theorem add_block (a : Addr) (i : Nat) : (a.add i).block = a.block := by unfold Addr.add; split <;> rfl
theorem add_off (a : Addr) (i : Nat) : (a.add i).off = a.off + i := by unfold Addr.add; split <;> simp_all

/-- What is handed in is such a datum. -/
theorem rep_of {Ts : List TypeId} (hT : tyOk P Ts = true) : ∀ (fuel : Nat) (t : TypeId) (cs : List Value) (x : DataW H × List MemPlace), t ∈ Ts → DataW.trod enc P W 0 (fun _ => true) true fuel t cs = some x →
    ∃ d, HasTy P t d ∧ Rep (oldSt W).old d (ofVals cs) := by
  intro fuel
  induction fuel using Nat.strongRecOn with
  | _ fuel ih =>
    intro t cs x ht h
    have hk := List.all_eq_true.1 hT t ht
    split at hk
    · rename_i hu
      obtain ⟨b, rfl, _⟩ := DataW.trod_bool hu h
      exact ⟨_, .bool hu, .lit _⟩
    · rename_i k hu
      obtain ⟨n, rfl, _, hw⟩ := DataW.trod_int hu h
      exact ⟨_, .int hu hw, .lit _⟩
    · rename_i hu
      obtain ⟨s, rfl, _, hs⟩ := DataW.trod_string hu h
      exact ⟨_, .str hu hs, .lit _⟩
    · rename_i e hu
      rw [Bool.and_eq_true, List.contains_eq_mem, decide_eq_true_eq, decide_eq_true_eq] at hk
      obtain ⟨he, h0⟩ := hk
      rcases DataW.trod_slice hu h with ⟨rfl, _⟩ | ⟨a, len, cap, elems, rest, n, rfl, rfl, _, hb, hl, hm, hlen, hel, hsp, _⟩
      · exact ⟨.sl _ [], .sl hu (by simp [maxLen]) (fun d hd => by cases hd), .nil⟩
      · have hspot : 0 < cap → a.spot = none := fun hc => by
          have hx : ∃ y, (W.cells? 0 a (P.cellsOf e)).bind (DataW.trod enc P W 0 (fun _ => true) true n e) = some y := by
            rcases Nat.eq_zero_or_pos len with h1 | h1
            · obtain ⟨q1, q2⟩ := hsp rfl
              have := q2 0 (by omega)
              rw [h1, show ((0 + 0) * P.cellsOf e) = 0 by simp, show a.add 0 = a from rfl, List.getElem?_eq_getElem (by omega)] at this
              exact ⟨_, this⟩
            · have := hel 0 h1
              rw [show (0 * P.cellsOf e) = 0 by simp, show a.add 0 = a from rfl, List.getElem?_eq_getElem (by omega)] at this
              exact ⟨_, this⟩
          obtain ⟨y, hy⟩ := hx
          rw [Option.bind_eq_some_iff] at hy
          obtain ⟨c, hc, _⟩ := hy
          exact (rd h0 hc).1
        -- the elements
        have each : ∀ i, i < len → ∃ d c, HasTy P e d ∧ Rep (oldSt W).old d c ∧ ∃ C, (oldSt W).old a.block = some (.cells C none) ∧ cut C (a.off + i * P.cellsOf e) (P.cellsOf e) = some c := by
          intro i hi
          have := hel i hi
          rw [List.getElem?_eq_getElem (by omega), Option.bind_eq_some_iff] at this
          obtain ⟨c, h1, h2⟩ := this
          obtain ⟨d, k1, k2⟩ := ih n (by omega) e c _ he h2
          obtain ⟨_, C, k3, k4⟩ := rd h0 h1
          rw [add_block] at k3
          rw [add_off] at k4
          exact ⟨d, _, k1, k2, C, k3, k4⟩
        have all : ∀ m i, i + m = len → ∀ C, (oldSt W).old a.block = some (.cells C none) → ∃ es, es.length = m ∧ (∀ d ∈ es, HasTy P e d) ∧ RepE (oldSt W).old C (P.cellsOf e) (a.off + i * P.cellsOf e) es := by
          intro m
          induction m with
          | zero => exact fun i _ C _ => ⟨[], rfl, (fun d hd => by cases hd), .nil⟩
          | succ m ihm =>
            intro i hi C hC
            obtain ⟨d, c, k1, k2, C', k3, k4⟩ := each i (by omega)
            rw [hC] at k3; cases k3
            obtain ⟨es, q1, q2, q3⟩ := ihm (i + 1) (by omega) C hC
            refine ⟨d :: es, by simp [q1], fun d' hd' => ?_, .cons k4 k2 ?_⟩
            · rcases List.mem_cons.1 hd' with rfl | hd'
              · exact k1
              · exact q2 _ hd'
            · rw [Nat.add_mul, Nat.one_mul, ← Nat.add_assoc] at q3; exact q3
        rw [show ofVals [Value.slice (some a) len cap] = [ofVal (.slice (some a) len cap)] from rfl, ofVal_slice hl hspot]
        rcases Nat.eq_zero_or_pos len with h1 | h1
        · subst h1
          exact ⟨.sl _ [], .sl hu (by simp [maxLen]) (fun d hd => by cases hd), .nil⟩
        · obtain ⟨_, _, _, _, C, hC, _⟩ := each 0 h1
          obtain ⟨es, q1, q2, q3⟩ := all len 0 (by omega) C hC
          rw [Nat.zero_mul, Nat.add_zero] at q3
          match es, q1 with
          | [], q1 => simp at q1; omega
          | d :: es, q1 =>
            refine ⟨.sl _ (d :: es), .sl hu (by omega) q2, ?_⟩
            rw [← q1]
            exact .sl hC q3
    · rename_i fs hu
      rw [Bool.and_eq_true] at hk
      obtain ⟨hm, htile⟩ := hk
      obtain ⟨xs, n, rfl, _, hlen, hxl, hf⟩ := DataW.trod_struct hu h
      have each : ∀ f ∈ fs.toList, ∃ d, HasTy P f.type d ∧ Rep (oldSt W).old d (ofVals ((cs.drop f.offset).take (P.cellsOf f.type))) := by
        intro f hfm
        obtain ⟨i, hi, rfl⟩ := List.mem_iff_getElem.1 hfm
        have hi' : i < fs.size := by simpa using hi
        have := hf i fs[i] (by simp [hi'])
        rw [List.getElem?_eq_getElem (by omega)] at this
        have hmem := List.all_eq_true.1 hm _ (List.getElem_mem hi)
        rw [List.contains_eq_mem, decide_eq_true_eq] at hmem
        simp only [Array.getElem_toList] at hmem ⊢
        exact ih n (by omega) _ _ _ hmem this
      have go : ∀ (l : List Field) (off : Nat), (∀ f ∈ l, f ∈ fs.toList) → tileB P (P.cellsOf t) off l = true → off ≤ cs.length → ∃ ds, HasTys P l ds ∧ Reps (oldSt W).old ds (ofVals (cs.drop off)) := by
        intro l
        induction l with
        | nil =>
          intro off _ h1 _
          have : off = P.cellsOf t := by simpa [tileB] using h1
          exact ⟨[], .nil, by rw [List.drop_eq_nil_of_le (by omega)]; exact .nil⟩
        | cons f l ihl =>
          intro off h0 h1 h2
          simp only [tileB, Bool.and_eq_true, beq_iff_eq] at h1
          obtain ⟨d, k1, k2⟩ := each f (h0 f (List.mem_cons_self ..))
          have le : ∀ (l : List Field) (off : Nat), tileB P (P.cellsOf t) off l = true → off ≤ P.cellsOf t := by
            intro l
            induction l with
            | nil => intro off h; have : off = P.cellsOf t := by simpa [tileB] using h
                     omega
            | cons f l ihl => intro off h; simp only [tileB, Bool.and_eq_true, beq_iff_eq] at h; have := ihl _ h.2; omega
          obtain ⟨ds, q1, q2⟩ := ihl (off + P.cellsOf f.type) (fun g hg => h0 g (List.mem_cons_of_mem _ hg)) h1.2 (by rw [hlen]; exact le _ _ h1.2)
          refine ⟨d :: ds, .cons k1 q1, ?_⟩
          rw [h1.1] at k2
          have e : cs.drop off = (cs.drop off).take (P.cellsOf f.type) ++ cs.drop (off + P.cellsOf f.type) := by
            rw [← List.drop_drop, List.take_append_drop]
          rw [e, ofVals_append]
          exact .cons k2 q2
      obtain ⟨ds, q1, q2⟩ := go fs.toList 0 (fun _ h => h) htile (by omega)
      exact ⟨.agg ds, .agg hu q1, .agg (by rw [List.drop_zero] at q2; exact q2)⟩
    · cases hk
end

/-- Are two cells of plain data the same? -/
def litEq : V → V → Bool
  | .bool a, .bool b => a == b
  | .int _ a, .int _ b => a == b
  | .str a, .str b => a.toList == b.toList
  | _, _ => false
mutual
/-- Are two data the same? -/
def beqD : D → D → Bool
  | .lit a, .lit b => litEq a b
  | .agg a, .agg b => beqDs a b
  | .sl _ a, .sl _ b => beqDs a b
  | _, _ => false
def beqDs : List D → List D → Bool
  | [], [] => true
  | x :: xs, y :: ys => beqD x y && beqDs xs ys
  | _, _ => false
end

section
variable {o : Nat → Option O} {P : Program}

/-- The types of a struct's fields. -/
def Tys (P : Program) : List TypeId → List D → Prop
  | [], [] => True
  | t :: ts, d :: ds => HasTy P t d ∧ Tys P ts ds
  | _, _ => False
theorem HasTys.tys : ∀ {fs : List Field} {ds : List D}, HasTys P fs ds → Tys P (fs.map (·.type)) ds
  | [], _, .nil => trivial
  | _ :: _, _, .cons h hs => ⟨h, hs.tys⟩
def structT (P : Program) (t : TypeId) : Option (List TypeId) := match P.underlying t with
  | some (.struct fs) => some (fs.toList.map (·.type))
  | _ => none
theorem HasTy.struct {t : TypeId} {d : D} {L : List TypeId} (h : HasTy P t d) (hL : structT P t = some L) : ∃ ds, d = .agg ds ∧ Tys P L ds := by
  unfold structT at hL
  cases h with
  | agg hu hf => rw [hu] at hL; cases hL; exact ⟨_, rfl, hf.tys⟩
  | bool hu => rw [hu] at hL; cases hL
  | int hu _ => rw [hu] at hL; cases hL
  | str hu _ => rw [hu] at hL; cases hL
  | sl hu _ _ => rw [hu] at hL; cases hL
theorem HasTy.slice {t e : TypeId} {d : D} (h : HasTy P t d) (ht : P.underlying t = some (.slice e)) : ∃ es, d = .sl (P.cellsOf e) es ∧ es.length ≤ maxLen ∧ ∀ d ∈ es, HasTy P e d := by
  cases h with
  | sl hu hl he => rw [ht] at hu; cases hu; exact ⟨_, rfl, hl, he⟩
  | bool hu => rw [ht] at hu; cases hu
  | int hu _ => rw [ht] at hu; cases hu
  | str hu _ => rw [ht] at hu; cases hu
  | agg hu _ => rw [ht] at hu; cases hu
theorem HasTy.intv {t : TypeId} {k : IntKind} {d : D} (h : HasTy P t d) (ht : P.underlying t = some (.int k)) : ∃ n, d = .lit (.int k n) ∧ (Lit.int k n).wf = true := by
  cases h with
  | int hu hw => rw [ht] at hu; cases hu; exact ⟨_, rfl, hw⟩
  | bool hu => rw [ht] at hu; cases hu
  | str hu _ => rw [ht] at hu; cases hu
  | sl hu _ _ => rw [ht] at hu; cases hu
  | agg hu _ => rw [ht] at hu; cases hu

/-- A slice in old memory. -/
structure SlD (o : Nat → Option O) (sz : Nat) (es : List D) (v : V) : Prop where
  len : lenV v = some (.int .i64 es.length)
  get : ∀ (i : Nat) (h : i < es.length), ∃ b off C c, ixV sz v (.int .i64 (i : Int)) = some (.ptr (some ⟨.old b, off⟩)) ∧ Rep o es[i] c ∧ o b = some (.cells C none) ∧ cut C off sz = some c
  one : v.one = true
  cells : v.cells = [v]
  again : ∀ s : St, againV v v s = some (.any, s)

theorem RepE.get {C : List V} {sz : Nat} : ∀ {off : Nat} {es : List D}, RepE o C sz off es → ∀ (i : Nat) (h : i < es.length), ∃ c, cut C (off + i * sz) sz = some c ∧ Rep o es[i] c
  | _, _, .nil, i, h => by simp at h
  | _, _, .cons hc hr _, 0, h => ⟨_, by simpa using hc, hr⟩
  | off, _, .cons (ds := ds) _ _ hs, i + 1, h => by
    obtain ⟨c, h1, h2⟩ := hs.get i (by simpa using h)
    refine ⟨c, ?_, h2⟩
    rw [show off + (i + 1) * sz = off + sz + i * sz by rw [Nat.add_mul]; omega]
    exact h1
theorem Rep.slv {sz : Nat} {es : List D} {cs : List V} (h : Rep o (.sl sz es) cs) : ∃ v, cs = [v] ∧ SlD o sz es v := by
  cases h with
  | nil => exact ⟨_, rfl, rfl, fun i h => by simp at h, rfl, rfl, fun s => againV_slice _ _ _ s⟩
  | sl hC hE =>
    refine ⟨_, rfl, rfl, fun i hi => ?_, rfl, rfl, fun s => againV_slice _ _ _ s⟩
    obtain ⟨c, h1, h2⟩ := hE.get i hi
    refine ⟨_, _, _, c, ?_, h2, hC, h1⟩
    rw [ixV_int (by omega) (by omega)]
    simp
theorem Rep.litv {v : V} {cs : List V} (h : Rep o (.lit v) cs) : cs = [v] := by cases h; rfl
/-- Loads from old memory. -/
theorem ld_old {s : St} {b off sz : Nat} {C c : List V} (hs : s.old = o) (hC : o b = some (.cells C none)) (hc : cut C off sz = some c) (h0 : 0 < sz) :
    (loadV (some sz) (.ptr (some ⟨.old b, off⟩)) s = some (.agg c)) ∧ (loadV none (.ptr (some ⟨.old b, off⟩)) s = c[0]?) ∧ (∀ f, f < sz → loadV none (.ptr (some ⟨.old b, off + f⟩)) s = c[f]?) ∧
    (∀ f n, f + n ≤ sz → loadV (some n) (.ptr (some ⟨.old b, off + f⟩)) s = some (.agg ((c.drop f).take n))) := by
  have hrow : s.row (.old b) = some (C, none) := by simp only [St.row, St.get, hs, hC]
  have hcut : off + sz ≤ C.length ∧ c = (C.drop off).take sz := by
    unfold cut at hc; split at hc
    · cases hc; exact ⟨by assumption, rfl⟩
    · cases hc
  obtain ⟨h1, rfl⟩ := hcut
  have l1 : ∀ f, f < sz → loadV none (.ptr (some ⟨.old b, off + f⟩)) s = ((C.drop off).take sz)[f]? := by
    intro f hf
    rw [loadV_ptr]
    simp only [readCells, hrow, Option.getD_none]
    rw [cut_one', List.getElem?_take, if_pos hf, List.getElem?_drop]
  refine ⟨?_, by have := l1 0 h0; rwa [Nat.add_zero] at this, l1, fun f n hf => ?_⟩
  · rw [loadV_ptr]
    simp only [readCells, hrow, Option.getD_some, cut, if_pos h1]
    rfl
  · rw [loadV_ptr]
    simp only [readCells, hrow, Option.getD_some, cut]
    rw [if_pos (by omega)]
    show some (V.agg _) = _
    rw [List.drop_take, List.take_take, List.drop_drop, Nat.min_eq_left (by omega)]
end
end Go.IM

/- Layer 16: lists of numbers and of words that are handed in. -/
set_option linter.unusedSimpArgs false
set_option linter.unusedVariables false
namespace Go.Proofs.Ytoldkemimhebaaa
open Go Go.IM Go.ChangeShapes Go.WideShapes Go.RowKit

section
variable {H : Type} {enc : TypeId × Value → H} {W : Go.World} {o : Nat → Option O}

theorem oldI_of {d : D} {cs : List V} (hx : HasTy Try.prog 54 d) (hr : Rep o d cs) : ∃ v l, cs = [v] ∧ OldI o v l := by
  obtain ⟨es, rfl, hl, hes⟩ := hx.slice (e := 3) (by kernel_rfl)
  have c3 : Try.prog.cellsOf 3 = 1 := by kernel_rfl
  rw [c3] at hr
  obtain ⟨v, rfl, hs⟩ := hr.slv
  let val : D → Int := fun d => match d with | .lit (.int _ n) => n | _ => 0
  refine ⟨v, es.map val, rfl, by rw [List.length_map]; exact hs.len, fun i hi => ?_⟩
  have hi' : i < es.length := by simpa using hi
  obtain ⟨b, off, C, c, h1, h2, h3, h4⟩ := hs.get i hi'
  refine ⟨⟨.old b, off⟩, h1, fun s he => ?_⟩
  obtain ⟨n, en, _⟩ := (hes _ (List.getElem_mem hi')).intv (k := .i64) (by kernel_rfl)
  rw [List.getElem_map]
  rw [en] at h2 ⊢
  have := h2.litv
  subst this
  rw [(ld_old he h3 h4 (by omega)).2.1]
  rfl

end
end Go.Proofs.Ytoldkemimhebaaa

/- Proved here: the statement 'CollectRegions' of layer 16: for every list of acts and every list of roots it returns true, never panics, and its input reads as before; without conditions. -/
set_option linter.unusedSimpArgs false
set_option linter.unusedVariables false
namespace Go.Proofs.Ytoldkemimhebaaa
open Go Go.IM Go.ChangeShapes Go.WideShapes Go.ChangeAt Go.RowKit

set_option maxRecDepth 100000 in
theorem collectRegions_lifted (os : Os) (started : os.Started) (H : Type) (enc : TypeId × Value → H) :
    ReturnsInHanded Rows.collectRegionsRow.assume Try.checked os 9 .any (Rows.collectRegionsSpec.pre6 enc Try.prog Try.f9 Rows.collectRegionsRow.domain false) (Rows.collectRegionsSpec.post enc Try.prog Try.f9 false true false false) := by
  refine lifted_true (C := Try.checked) Try.own' started (by kernel_rfl) Try.func9 Try.laidOut' Try.mixed' (by kernel_rfl) rfl (by kernel_rfl) rfl
    (ChangeSpec.witness6 (enc := enc) (C := Try.checked) false ⟨#[], #[.slice none 0 0, .slice none 0 0], []⟩ 8 (by kernel_rfl) (by kernel_rfl) (by kernel_rfl) (by kernel_rfl)) ?_ ?_
  · intro ds hd
    match ds, hd with
    | [a, b], _ => rfl
  · intro W base args ds before hval hA hwt
    have hp : Try.f9.params = #[35, 54] := rfl
    rw [hp] at hA hval hwt
    obtain ⟨v, v1, d, d1, p, p1, rfl, rfl, rfl, ⟨fuel, h0⟩, ⟨fuel1, h1⟩⟩ := trodAll_two hA
    obtain ⟨a, len, cap, rfl⟩ := okWide_slice (P := Try.checked.prog) (e := 50) (by kernel_rfl) (hval 0 35 _ rfl rfl)
    obtain ⟨a1, len1, cap1, rfl⟩ := okWide_slice (P := Try.checked.prog) (e := 3) (by kernel_rfl) (hval 1 54 _ rfl rfl)
    obtain ⟨l, hl, hll⟩ := acts_of (sized_acts (j := 0) hwt rfl rfl) h0
    obtain ⟨x, hx, hr⟩ := rep_of (P := Try.prog) (Ts := [54, 3]) (by kernel_rfl) fuel1 54 [.slice a1 len1 cap1] _ (by simp) h1
    obtain ⟨w, is, hw, hI⟩ := oldI_of hx hr
    have hw' : ofVal (.slice a1 len1 cap1) = w := by
      have : [ofVal (.slice a1 len1 cap1)] = [w] := hw
      simpa using this
    rw [← hw'] at hI
    exact collectRegions_im hl hll hI (oldSt W) rfl

theorem collectRegions_holds : Rows.CollectRegionsSaid :=
  OpenClaim.holds_of_wide 9 Try.f9 rfl rfl rfl rfl rfl rfl rfl ⟨rfl, rfl, rfl, rfl, rfl⟩ rfl rfl rfl rfl rfl (by kernel_rfl) Try.func9 (by kernel_rfl)
    (of_decide_eq_true (by kernel_rfl)) (by unfold Func.isWrapper; rw [if_neg (by decide +kernel)]; exact ⟨rfl, rfl⟩)
    (fun os started H enc _ => collectRegions_lifted os started H enc)
#print axioms collectRegions_holds
end Go.Proofs.Ytoldkemimhebaaa
