/- Texts Pc6, Pc7, Pc8, Pc9, Pca, Pe0, Pcb, Pcc, Pe1, Pe2, PcS, Pci, Pe3, Pn0, Pn1, Pn2, Pk0, Pk1, Pk3, Pk2, Pk4, Pk5, Pk6, Pk7, Pn3, Pcd, Pm0, Pce. -/
import Derived.Test.YtoldkemimhebaaaSb4

set_option linter.unusedSimpArgs false
set_option linter.unusedVariables false
namespace Go.Proofs.Ytoldkemimhebaaa
open Go Go.IM
def c91 : IFn := ⟨16, [(4, none)],
  (.seq (.region [oa 4 (.mov (.c (.bool false)))] (kp 16 [0,1]))
  (.seq (.region [oa 8 (.mov (.t 0)), oa 9 (.mov (.t 1)), oa 10 (.call 29 [(.t 8), (.t 9)]), oa 7 (.mov (.t 10)), oa 11 (.extract (.t 7) 0), oa 12 (.extract (.t 7) 1), oa 5 (.mov (.t 11)), oa 6 (.mov (.t 12))] (kp 16 [5]))
  (.seq (.region [oa 13 (.mov (.t 5)), oa 14 (.lenSlice (.t 13)), oa 15 (.bin .gtr (.t 14) (ai 0)), oa 4 (.mov (.t 15))] (kp 16 [4]))
  (sr 16 [4]))))⟩
theorem F91 : shutF Try.prog 91 = some c91 := by kernel_rfl
def c94 : IFn := ⟨32, [(4, (some (some 2)))],
  (.seq (.region [oa 3 (.box (.t 1)), oa 4 (.alloc [(.int .i64 (0)), (.int .i64 (0))])] (kp 32 [0,3,4]))
  (.seq (.seq (.region [oa 7 (.fieldAddr 1 (.t 3)), oa 8 (.load none (.t 7)), oa 9 (.bin .eql (.t 8) (ai 0))] (kp 32 [0,3,4,9]))
  (.cond (.t 9)
  (.seq (.region [oa 10 (.load (some 2) (.t 3)), ob (.store 2 (.t 4) (.t 10))] (kp 32 [4]))
  (sr 32 [4]))
  (sk 32 [0,3,4])))
  (.seq (.seq (.region [oa 12 (.mov (.t 0)), oa 13 (.nilCheck (.t 12)), oa 14 (.fieldAddr 1 (.t 13)), oa 15 (.load none (.t 14)), oa 16 (.load (some 2) (.t 3)), oa 17 (.lookup (.agg [.i, .i]) (.agg [(.int .i64 (0)), (.int .i64 (0))]) true (.t 15) (.t 16)), oa 11 (.mov (.t 17)), oa 18 (.extract (.t 11) 0), oa 19 (.extract (.t 11) 1), oa 5 (.alloc [(.int .i64 (0)), (.int .i64 (0))]), ob (.store 2 (.t 5) (.t 18)), oa 6 (.mov (.t 19))] (kp 32 [0,3,4,5,6]))
  (.seq (.region [oa 20 (.mov (.t 6))] (kp 32 [0,3,4,5,20]))
  (.cond (.t 20)
  (.seq (.region [oa 21 (.load (some 2) (.t 5)), ob (.store 2 (.t 4) (.t 21))] (kp 32 [4]))
  (sr 32 [4]))
  (sk 32 [0,3,4]))))
  (.seq (.seq (.region [oa 22 (.mov (.t 0)), oa 23 (.nilCheck (.t 22)), oa 24 (.fieldAddr 2 (.t 23)), oa 25 (.load none (.t 24)), oa 26 (.load (some 2) (.t 3)), oa 27 (.lookup (.agg [.i, .i]) (.bool false) false (.t 25) (.t 26))] (kp 32 [3,4,27]))
  (.cond (.t 27)
  (.seq (.region [oa 28 (.load (some 2) (.t 3)), ob (.store 2 (.t 4) (.t 28))] (kp 32 [4]))
  (sr 32 [4]))
  (sk 32 [3,4])))
  (.seq (.region [oa 29 (.fieldAddr 1 (.t 3)), oa 30 (.load none (.t 29)), oa 31 (.build [(.int .i64 (0)), (.int .i64 (0))] [(0, 1, (ai (-1))), (1, 1, (.t 30))]), ob (.store 2 (.t 4) (.t 31))] (kp 32 [4]))
  (sr 32 [4]))))))⟩
theorem F94 : shutF Try.prog 94 = some c94 := by kernel_rfl
def l92_0 : IC := (.seq (.seq (.region [oa 28 (.bin .lss (.t 27) (.t 26))] (kp 77 [0,1,6,25,26,27,28]))
  (.seq (.cond (.t 28)
  (sk 77 [0,1,6,25,26,27])
  (sx 77 [0,1,6] 0))
  (.seq (.block 1
  (.seq (.region [oa 29 (.indexAddr 2 (.t 25) (.t 27)), oa 30 (.load (some 2) (.t 29)), oa 8 (.alloc [(.int .i64 (0)), (.int .i64 (0))]), ob (.store 2 (.t 8) (.t 30))] (kp 77 [0,1,6,8,25,26,27]))
  (.seq (.region [oa 31 (.mov (.t 0)), oa 32 (.nilCheck (.t 31)), oa 33 (.fieldAddr 0 (.t 32)), oa 34 (.load none (.t 33)), oa 35 (.nilCheck (.t 34)), oa 36 (.fieldAddr 2 (.t 35)), oa 37 (.load none (.t 36)), oa 38 (.load (some 2) (.t 8)), oa 39 (.lookup (.agg [.i, .i]) (.bool false) false (.t 37) (.t 38))] (kp 77 [0,1,6,8,25,26,27,39]))
  (.cond (.t 39)
  (.region [oa 40 (.mov (.t 6)), oa 41 (.load (some 2) (.t 8)), oa 42 (.buildSlice 1 [(.int .i64 (0)), (.int .i64 (0))] [(0, 2, (.t 41))]), oa 43 (.append 2 16 (.t 40) (.t 42)), oa 6 (.mov (.t 43))] (kp 77 [0,1,6,25,26,27]))
  (sk 77 [0,1,6,25,26,27])))))
  (.region [oa 44 (.bin .add (.t 27) (ai 1)), oa 27 (.mov (.t 44))] (kp 77 [0,1,6,25,26,27])))))
  (sk 77 [0,1,6,25,26,27]))
def l92_1 : IC := (.seq (.seq (.region [oa 63 (.bin .lss (.t 62) (.t 61))] (kp 77 [0,9,60,61,62,63]))
  (.seq (.cond (.t 63)
  (sk 77 [0,9,60,61,62])
  (sx 77 [] 2))
  (.seq (.block 3
  (.seq (.region [oa 64 (.mov (.t 62)), oa 65 (.indexAddr 2 (.t 60) (.t 62)), oa 66 (.load (some 2) (.t 65)), oa 12 (.alloc [(.int .i64 (0)), (.int .i64 (0))]), oa 11 (.mov (.t 64)), ob (.store 2 (.t 12) (.t 66))] (kp 77 [0,9,11,12,60,61,62]))
  (.region [oa 67 (.mov (.t 0)), oa 68 (.nilCheck (.t 67)), oa 69 (.fieldAddr 1 (.t 68)), oa 70 (.load none (.t 69)), oa 71 (.load (some 2) (.t 12)), oa 72 (.mov (.t 9)), oa 73 (.mov (.t 11)), oa 74 (.indexAddr 2 (.t 72) (.t 73)), oa 75 (.load (some 2) (.t 74)), ob (.mapSet (.agg [.i, .i]) (.t 70) (.t 71) (.t 75))] (kp 77 [0,9,60,61,62]))))
  (.region [oa 76 (.bin .add (.t 62) (ai 1)), oa 62 (.mov (.t 76))] (kp 77 [0,9,60,61,62])))))
  (sk 77 [0,9,60,61,62]))
def j92_bbbbb : IC := (.seq (.region [oa 60 (.mov (.t 6)), oa 61 (.lenSlice (.t 60)), oa 62 (.mov (ai 0))] (kp 77 [0,9,60,61,62]))
  (.block 2
  (.seq (sk 77 [0,9,60,61,62])
  (.loop l92_1))))
def j92_bbb : IC := (.seq (.region [oa 46 (.mov (.t 0)), oa 47 (.nilCheck (.t 46)), oa 48 (.fieldAddr 0 (.t 47)), oa 49 (.load none (.t 48)), oa 50 (.nilCheck (.t 49)), oa 51 (.fieldAddr 0 (.t 50)), oa 52 (.load none (.t 51)), oa 53 (.mov (.t 1)), oa 54 (.mov (.t 6)), oa 55 (.call 109 [(.t 52), (.t 53), (.t 54)]), oa 45 (.mov (.t 55)), oa 56 (.extract (.t 45) 0), oa 57 (.extract (.t 45) 1), oa 9 (.mov (.t 56)), oa 10 (.mov (.t 57))] (kp 77 [0,6,9,10]))
  (.seq (.seq (.region [oa 58 (.mov (.t 10)), oa 59 (.bin .neq (.t 58) (ai 0))] (kp 77 [0,6,9,59]))
  (.cond (.t 59)
  (sr 77 [])
  (sk 77 [0,6,9])))
  j92_bbbbb))
def c92 : IFn := ⟨77, [],
  (.seq (.region [oa 14 (.mov (.t 0)), oa 15 (.nilCheck (.t 14)), oa 16 (.fieldAddr 0 (.t 15)), oa 17 (.load none (.t 16)), oa 18 (.nilCheck (.t 17)), oa 19 (.fieldAddr 0 (.t 18)), oa 20 (.load none (.t 19)), oa 21 (.mov (.t 1)), oa 22 (.call 28 [(.t 20), (.t 21)]), oa 13 (.mov (.t 22)), oa 23 (.extract (.t 13) 0), oa 24 (.extract (.t 13) 1), oa 4 (.mov (.t 23)), oa 5 (.mov (.t 24))] (kp 77 [0,1,4]))
  (.seq (.region [oa 6 (.mov (.c (.slice none 0 (some 0))))] (kp 77 [0,1,4,6]))
  (.seq (.seq (.region [oa 25 (.mov (.t 4)), oa 26 (.lenSlice (.t 25)), oa 27 (.mov (ai 0))] (kp 77 [0,1,6,25,26,27]))
  (.block 0
  (.seq (sk 77 [0,1,6,25,26,27])
  (.loop l92_0))))
  j92_bbb)))⟩
theorem F92 : shutF Try.prog 92 = some c92 := by kernel_rfl
section
variable {o : Nat → Option O} {s : St} {C F : Ch} {Q : V → St → Prop} {p r : Nat} {u : List Bool}
set_option maxRecDepth 10000
set_option maxHeartbeats 4000000
theorem s89 (hC : Holds o s C) {hp : PHeap} {p : Nat} (hin : In C p hp) (h0 : hp.regs ≠ []) (hl : hp.regs.length ≤ 100000) : call PF 89 [ptrN hp.id] s = some (.bool false, s) := by
  have e := s27 hC hin
  have h1 := List.length_pos_iff.2 h0
  have h2 : ((hp.regs.length : Int) == 0) = false := by simp; omega
  rw [call_run F89]; simp -implicitDefEqProofs only [↓GP, GB, GL, Nat.reduceAdd, Nat.reduceSub, Nat.reduceEqDiff, Nat.reduceMul, Nat.reduceLeDiff, Int.reduceBNe, Int.reduceBEq, Nat.reduceLT, reduceCtorEq, c89, e, h2]
theorem s91 (hC : Holds o s C) {hp : PHeap} {p i : Nat} (hin : In C p hp) (hlen : hp.regs.length ≤ 100000) {g : PReg} (hr : hp.regs[i]? = some g) (hpl : g.pages.length ≤ 400)
    (q : ∀ s', Holds o s' C → Q (.bool (decide (0 < g.pages.length))) s') : WP (call PF 91 [ptrN hp.id, I i] s) Q := by
  rw [call_run F91]; simp -implicitDefEqProofs only [↓GP, GB, GL, Nat.reduceAdd, Nat.reduceSub, Nat.reduceEqDiff, Nat.reduceMul, Nat.reduceLeDiff, Int.reduceBNe, Int.reduceBEq, Nat.reduceLT, reduceCtorEq, c91]
  refine wp_in (s29 hC hin hlen hr hpl fun s1 k h1 => ?_)
  by_cases h0 : 0 < g.pages.length
  · have h0' : ((g.pages.length : Int) > 0) := by omega
    simp -implicitDefEqProofs only [↓GP, GB, GL, Nat.reduceAdd, Nat.reduceSub, Nat.reduceEqDiff, Nat.reduceMul, Nat.reduceLeDiff, Int.reduceBNe, Int.reduceBEq, Nat.reduceLT, reduceCtorEq, h0']
    have := q s1 h1.tl
    rwa [decide_eq_true h0] at this
  · have h0' : ¬ ((g.pages.length : Int) > 0) := by omega
    simp -implicitDefEqProofs only [↓GP, GB, GL, Nat.reduceAdd, Nat.reduceSub, Nat.reduceEqDiff, Nat.reduceMul, Nat.reduceLeDiff, Int.reduceBNe, Int.reduceBEq, Nat.reduceLT, reduceCtorEq, h0']
    have := q s1 h1.tl
    rwa [decide_eq_false h0] at this
def nowW (to : Int × Int → Option (Int × Int)) (fx : List (Int × Int)) (w : Int × Int) : Int × Int := if w.2 = 0 then w else match to w with | some n => n | none => if w ∈ fx then w else (-1, w.2)
def colC (c t tk fk : Nat) (mt mf : O) : Ch := (c, some (.cells [ptrN t, .map (some (.new tk)), .map (some (.new fk))] none)) :: (tk, some mt) :: (fk, some mf) :: []
theorem s94 {c t tk fk : Nat} {mt mf : O} {to : Int × Int → Option (Int × Int)} {fx : List (Int × Int)} {w : Int × Int} (H : Holds o s C) (hs : ∀ x ∈ colC c t tk fk mt mf, x ∈ C)
    (hmt : MapIs encA (fun w => (to w).map encA) mt) (hmf : MapIs encA (seenF fx) mf) (q : ∀ s', Holds o s' C → Q (.agg (encW (nowW to fx w))) s') : WP (call PF 94 [ptrN c, .agg (encW w)] s) Q := by
  have mc := hs (c, some (.cells [ptrN t, .map (some (.new tk)), .map (some (.new fk))] none)) (List.mem_cons_self ..)
  have h1 := (H.alloc (.cells (encW w) none)).alloc (.cells [I 0, I 0] none)
  have f := H.mem mc
  have f0 := h1.tl.g0
  unfold nowW at q
  by_cases h0 : w.2 = 0
  · rw [if_pos h0] at q
    have h0' : (w.2 == 0) = true := by simpa using h0
    rw [call_run F94]; simp -implicitDefEqProofs only [↓GP, GB, GL, Nat.reduceAdd, Nat.reduceSub, Nat.reduceEqDiff, Nat.reduceMul, Nat.reduceLeDiff, Int.reduceBNe, Int.reduceBEq, Nat.reduceLT, reduceCtorEq, c94, encW, h0']
    exact q _ (h1.set0 (.cells (encW w) none)).tl.tl
  · rw [if_neg h0] at q
    have h0' : (w.2 == 0) = false := by simpa using h0
    have mt' := hs (tk, some mt) (List.mem_cons_of_mem _ (List.mem_cons_self ..))
    have mf' := hs (fk, some mf) (List.mem_cons_of_mem _ (List.mem_cons_of_mem _ (List.mem_cons_self ..)))
    have el := lookup_map keyA hmt (h1.mem (List.mem_cons_of_mem _ (List.mem_cons_of_mem _ mt'))).1 (.agg [I 0, I 0]) true w
    simp only [encA, encW, Bool.false_eq_true, if_true, Option.isSome_map] at el
    cases ht : to w with
    | some n =>
      rw [ht] at q el
      simp only [Option.map_some, Option.getD_some, Option.isSome_some, encA, encW] at el
      rw [call_run F94]; simp -implicitDefEqProofs only [↓GP, GB, GL, Nat.reduceAdd, Nat.reduceSub, Nat.reduceEqDiff, Nat.reduceMul, Nat.reduceLeDiff, Int.reduceBNe, Int.reduceBEq, Nat.reduceLT, reduceCtorEq, c94, encW, h0', f, el]
      exact q _ (((h1.alloc (.cells [I 0, I 0] none)).set0 (.cells (encW n) none)).set1 (.cells (encW n) none)).tl.tl.tl
    | none =>
      rw [ht] at q el
      simp only [Option.map_none, Option.getD_none, Option.isSome_none] at el
      have h2 := (h1.alloc (.cells [I 0, I 0] none)).set0 (.cells [I 0, I 0] none)
      have el2 := lookup_map keyA hmf (h2.mem (List.mem_cons_of_mem _ (List.mem_cons_of_mem _ (List.mem_cons_of_mem _ mf')))).1 (.bool false) false w
      simp only [encA, encW, Bool.false_eq_true, if_false, alloc_next, set_next, Nat.add_assoc, Nat.reduceAdd] at el2
      by_cases hw : w ∈ fx
      · rw [show seenF fx w = some (.bool true) from if_pos hw, Option.getD_some] at el2
        simp only [if_pos hw] at q
        rw [call_run F94]; simp -implicitDefEqProofs only [↓GP, GB, GL, Nat.reduceAdd, Nat.reduceSub, Nat.reduceEqDiff, Nat.reduceMul, Nat.reduceLeDiff, Int.reduceBNe, Int.reduceBEq, Nat.reduceLT, reduceCtorEq, c94, encW, h0', f, el, el2]
        exact q _ (h2.set1 (.cells (encW w) none)).tl.tl.tl
      · rw [show seenF fx w = none from if_neg hw, Option.getD_none] at el2
        simp only [if_neg hw] at q
        rw [call_run F94]; simp -implicitDefEqProofs only [↓GP, GB, GL, Nat.reduceAdd, Nat.reduceSub, Nat.reduceEqDiff, Nat.reduceMul, Nat.reduceLeDiff, Int.reduceBNe, Int.reduceBEq, Nat.reduceLT, reduceCtorEq, c94, encW, h0', f, el, el2]
        exact q _ (h2.set1 (.cells (encW (-1, w.2)) none)).tl.tl.tl
def wordsP (life : Nat) (xs : List PObj) : List (Int × Int) := xs.map fun x => ((x.b.at_ : Int), (life : Int))
theorem words_enc (life : Nat) (xs : List PObj) : xs.flatMap (encP life) = (wordsP life xs).flatMap encW := by
  unfold wordsP
  rw [List.flatMap_map]
  rfl
theorem pick_filter {life : Nat} (f : PObj → Bool) : ∀ {os : List PObj}, (os.map (·.b.at_)).Nodup → pickM life os (wordsP life (os.filter f)) = some (os.filter f)
  | [], _ => rfl
  | x :: os, h => by
    rw [List.map_cons, List.nodup_cons] at h
    have ih := pick_filter (life := life) f (os := os) h.2
    cases hf : f x with
    | true =>
      rw [List.filter_cons_of_pos hf]
      show pickM life (x :: os) (((x.b.at_ : Int), (life : Int)) :: wordsP life (os.filter f)) = _
      rw [pickM]
      have e : (x :: os).findIdx (fun y => decide ((y.b.at_ : Int) = (x.b.at_ : Int))) = 0 := by simp [List.findIdx_cons]
      rw [e, List.drop_zero]
      simp only [if_true, ih, Option.map_some]
    | false =>
      rw [List.filter_cons_of_neg (by rw [hf]; simp)]
      cases hos : os.filter f with
      | nil => rfl
      | cons y ys =>
        rw [hos] at ih
        have hy : y ∈ os := (List.mem_filter.1 (hos ▸ List.mem_cons_self ..)).1
        have hne : ¬ ((x.b.at_ : Int) = (y.b.at_ : Int)) := fun e => h.1 (List.mem_map.2 ⟨y, hy, by omega⟩)
        show pickM life (x :: os) (((y.b.at_ : Int), (life : Int)) :: wordsP life ys) = _
        rw [pickM]
        have e : (x :: os).findIdx (fun z => decide ((z.b.at_ : Int) = (y.b.at_ : Int))) = os.findIdx (fun z => decide ((z.b.at_ : Int) = (y.b.at_ : Int))) + 1 := by
          rw [List.findIdx_cons]; simp [hne]
        rw [e, List.drop_succ_cons]
        have ih' : pickM life os (((y.b.at_ : Int), (life : Int)) :: wordsP life ys) = some (y :: ys) := ih
        rw [pickM] at ih'
        exact ih'
theorem keep92 {c t lk mk ko : Nat} {hv i0 : V} {c1 c2 : V} {L W : List (Int × Int)} {m : O} {K : Kt} (mc : (c, some (.cells [ptrN t, c1, c2] none)) ∈ C) (mh : ∀ x ∈ huntC t lk mk hv L m, x ∈ C) (hm : MapIs encA (seenF L) m)
    (mo : (ko, rowO 2 W.length (W.flatMap encW)) ∈ C) (hl : W.length ≤ 100000) :
    ∀ (n i k : Nat) (acc : List (Int × Int)) (s : St), i + n = W.length → acc.length ≤ i → Holds o s ((k, rowO 2 acc.length (acc.flatMap encW)) :: C) →
    (∀ s' k', Holds o s' ((k', rowO 2 (acc ++ (W.drop i).filter (decide <| · ∈ L)).length ((acc ++ (W.drop i).filter (decide <| · ∈ L)).flatMap encW)) :: C) → WP (K (.exit 0) (sp 77 [(0, ptrN c), (1, i0), (6, rowV k' (acc ++ (W.drop i).filter (decide <| · ∈ L)).length)]) s') Q) →
    WP (loop PF (.loop l92_0) (sp 77 [(0, ptrN c), (1, i0), (6, rowV k acc.length), (25, rowV ko W.length), (26, I W.length), (27, I i)]) s K) Q
  | 0, i, k, acc, s, hi, ha, H, q => by
    have hlt : ¬ ((i : Int) < (W.length : Int)) := by omega
    rw [List.drop_eq_nil_of_le (by omega), List.filter_nil, List.append_nil] at q
    refine wp_round fun LL hLL => ?_
    simp -implicitDefEqProofs only [↓GP, GB, GL, Nat.reduceAdd, Nat.reduceSub, Nat.reduceEqDiff, Nat.reduceMul, Nat.reduceLeDiff, Int.reduceBNe, Int.reduceBEq, Nat.reduceLT, reduceCtorEq, l92_0, hlt]
    exact q s k H
  | n + 1, i, k, acc, s, hi, ha, H, q => by
    have hlt : ((i : Int) < (W.length : Int)) := by omega
    have hi' : i < W.length := by omega
    have hw1 := wrap_add1 (a := i) (by omega)
    have hix := ix_row (sz := 2) (k := ko) (n := W.length) (i := i) (kk := .i64) hi'
    have er : rowO 2 W.length (W.flatMap encW) = some (.cells (W.flatMap encW) (some 2)) := by unfold rowO; rw [if_neg (by omega)]
    have fr := H.mem (List.mem_cons_of_mem _ (er ▸ mo))
    have fc := H.mem (List.mem_cons_of_mem _ mc)
    have ft := H.mem (List.mem_cons_of_mem _ (mh (t, some (.cells [hv, rowV lk L.length, .map (some (.new mk))] none)) (List.mem_cons_self ..)))
    have mm := mh (mk, some m) (List.mem_cons_of_mem _ (List.mem_cons_of_mem _ (List.mem_cons_self ..)))
    have hld := ldN_tab (enc := encW) encW_len W (some 2) (List.getElem?_eq_getElem hi')
    rw [List.drop_eq_getElem_cons hi', List.filter_cons] at q
    generalize W[i] = w at q hld
    have h1 := (H.alloc (.cells [I 0, I 0] none)).set0 (.cells (encW w) none)
    have el := lookup_map keyA hm (h1.mem (List.mem_cons_of_mem _ (List.mem_cons_of_mem _ mm))).1 (.bool false) false w
    simp only [encA, encW, Bool.false_eq_true, if_false] at el
    by_cases hw : w ∈ L
    · rw [show seenF L w = some (.bool true) from if_pos hw, Option.getD_some] at el
      rw [if_pos (by simpa using hw)] at q
      refine wp_round fun LL hLL => ?_
      simp -implicitDefEqProofs only [↓GP, GB, GL, Nat.reduceAdd, Nat.reduceSub, Nat.reduceEqDiff, Nat.reduceMul, Nat.reduceLeDiff, Int.reduceBNe, Int.reduceBEq, Nat.reduceLT, reduceCtorEq, l92_0, hlt, hix, fr, fc, ft, hld, encW, el]
      refine wp_append (sz := 2) (bytes := 16) (m := 1) (cs := acc.flatMap encW) ((h1.alloc _).r2) (by rw [tab_len encW_len]) (new_cells' (alloc_new_same _ _) rfl) rfl rfl (by omega) (by unfold maxRow; omega) (by unfold maxRow; omega) fun k' s1 h2 => ?_
      simp -implicitDefEqProofs only [↓GP, GB, GL, Nat.reduceAdd, Nat.reduceSub, Nat.reduceEqDiff, Nat.reduceMul, Nat.reduceLeDiff, Int.reduceBNe, Int.reduceBEq, Nat.reduceLT, reduceCtorEq, hw1]
      rw [hLL]
      have hl1 : (acc ++ [w]).length = acc.length + 1 := by simp
      have := keep92 (K := K) (i0 := i0) mc mh hm mo hl n (i + 1) k' (acc ++ [w]) s1 (by omega) (by simp; omega) (by
        have h3 := h2.r1.tl.r1.tl
        rw [List.flatMap_append]; simpa [encW] using h3) (by simpa using q)
      rw [hl1] at this
      exact this
    · rw [show seenF L w = none from if_neg hw, Option.getD_none] at el
      rw [if_neg (by simpa using hw)] at q
      refine wp_round fun LL hLL => ?_
      simp -implicitDefEqProofs only [↓GP, GB, GL, Nat.reduceAdd, Nat.reduceSub, Nat.reduceEqDiff, Nat.reduceMul, Nat.reduceLeDiff, Int.reduceBNe, Int.reduceBEq, Nat.reduceLT, reduceCtorEq, l92_0, hlt, hix, fr, fc, ft, hld, encW, el, hw1]
      rw [hLL]
      exact keep92 mc mh hm mo hl n (i + 1) k acc _ (by omega) (by omega) (Holds.of (h1) (fun k => by simp +arith only [encW, HA, HB]) (fun k x => by simp only [encW, HA, HC]; grind only)) q
abbrev ToF := Int × Int → Option (Int × Int)
def updF (to : ToF) (x : (Int × Int) × (Int × Int)) : ToF := fun w => if w = x.1 then some x.2 else to w
theorem updF_map (to : ToF) (a n : Int × Int) : (fun b => if b = a then some (encA n) else (to b).map encA) = fun b => ((updF to (a, n)) b).map encA := by
  funext b
  unfold updF
  by_cases h : b = a
  · simp [h]
  · simp [h]
theorem set92 {c t tk fk kk kn : Nat} {Ks Ns : List (Int × Int)} {K : Kt} (mc : (c, some (.cells [ptrN t, .map (some (.new tk)), .map (some (.new fk))] none)) ∈ C) (mk : (kk, rowO 2 Ks.length (Ks.flatMap encW)) ∈ C) (mn : (kn, rowO 2 Ks.length (Ns.flatMap encW)) ∈ C)
    (hn : Ns.length = Ks.length) (hl : Ks.length ≤ 100000) :
    ∀ (n i : Nat) (to : ToF) (mt : O) (s : St), i + n = Ks.length → MapIs encA (fun w => (to w).map encA) mt → Holds o s ((tk, some mt) :: C) →
    (∀ s' mt', MapIs encA (fun w => ((((Ks.zip Ns).drop i).foldl updF to) w).map encA) mt' → Holds o s' ((tk, some mt') :: C) → WP (K (.exit 2) (sp 77 []) s') Q) →
    WP (loop PF (.loop l92_1) (sp 77 [(0, ptrN c), (9, rowV kn Ks.length), (60, rowV kk Ks.length), (61, I Ks.length), (62, I i)]) s K) Q
  | 0, i, to, mt, s, hi, hm, H, q => by
    have hlt : ¬ ((i : Int) < (Ks.length : Int)) := by omega
    rw [List.drop_eq_nil_of_le (by simp; omega), List.foldl_nil] at q
    refine wp_round fun LL hLL => ?_
    simp -implicitDefEqProofs only [↓GP, GB, GL, Nat.reduceAdd, Nat.reduceSub, Nat.reduceEqDiff, Nat.reduceMul, Nat.reduceLeDiff, Int.reduceBNe, Int.reduceBEq, Nat.reduceLT, reduceCtorEq, l92_1, hlt]
    exact q s mt hm H
  | n + 1, i, to, mt, s, hi, hm, H, q => by
    have hlt : ((i : Int) < (Ks.length : Int)) := by omega
    have hi' : i < Ks.length := by omega
    have hi2 : i < Ns.length := by omega
    have hw1 := wrap_add1 (a := i) (by omega)
    have hix := ix_row (sz := 2) (k := kk) (n := Ks.length) (i := i) (kk := .i64) hi'
    have hix2 := ix_row (sz := 2) (k := kn) (n := Ks.length) (i := i) (kk := .i64) hi'
    have er : rowO 2 Ks.length (Ks.flatMap encW) = some (.cells (Ks.flatMap encW) (some 2)) := by unfold rowO; rw [if_neg (by omega)]
    have er2 : rowO 2 Ks.length (Ns.flatMap encW) = some (.cells (Ns.flatMap encW) (some 2)) := by unfold rowO; rw [if_neg (by omega)]
    have fk' := H.mem (List.mem_cons_of_mem _ (er ▸ mk))
    have fn' := H.mem (List.mem_cons_of_mem _ (er2 ▸ mn))
    have fc := H.mem (List.mem_cons_of_mem _ mc)
    have hld := ldN_tab (enc := encW) encW_len Ks (some 2) (List.getElem?_eq_getElem hi')
    have hld2 := ldN_tab (enc := encW) encW_len Ns (some 2) (List.getElem?_eq_getElem hi2)
    rw [List.drop_eq_getElem_cons (by simp; omega), List.foldl_cons, List.getElem_zip] at q
    generalize Ks[i] = a at q hld
    generalize Ns[i] = b at q hld2
    have h1 := (H.alloc (.cells [I 0, I 0] none)).set0 (.cells (encW a) none)
    refine wp_round fun LL hLL => ?_
    simp -implicitDefEqProofs only [↓GP, GB, GL, Nat.reduceAdd, Nat.reduceSub, Nat.reduceEqDiff, Nat.reduceMul, Nat.reduceLeDiff, Int.reduceBNe, Int.reduceBEq, Nat.reduceLT, reduceCtorEq, l92_1, hlt, hix, hix2, fk', fn', fc, hld, hld2, encW]
    refine wp_mapSet (enc := encA) (a := a) (v := encA b) keyA hm (h1.tl.g0) fun mt' hm' => ?_
    rw [updF_map] at hm'
    simp -implicitDefEqProofs only [↓GP, GB, GL, Nat.reduceAdd, Nat.reduceSub, Nat.reduceEqDiff, Nat.reduceMul, Nat.reduceLeDiff, Int.reduceBNe, Int.reduceBEq, Nat.reduceLT, reduceCtorEq, hw1]
    rw [hLL]
    exact set92 mc mk mn hn hl n (i + 1) _ mt' _ (by omega) hm' (h1.set1 mt').tl q
theorem s92 {hp : PHeap} {c t tk fk lk mk : Nat} {mt mf m : O} {to : ToF} {L : List (Int × Int)} {A B : List PReg} {g : PReg}
    (H : Holds o s (poolC p r u ++ (hp.ch p ++ (colC c t tk fk mt mf ++ (huntC t lk mk (ptrN hp.id) L m ++ F))))) (hr : hp.regs = A ++ g :: B) (hs : g.size = 0) (hok : ∀ g ∈ hp.regs, g.ok) (hR : RsOk hp.lives u (hp.regs.map PReg.m))
    (hm : MapIs encA (seenF L) m) (hmt : MapIs encA (fun w => (to w).map encA) mt)
    (q : ∀ s' u' fill' pages' ats pgk obk plk pl mt',
      layM 0 g.life ((g.objs.filter fun x => decide (((x.b.at_ : Int), (g.life : Int)) ∈ L)).map fun x => x.b.ws.length + 1) (freeP u g.pages) 0 [] = some (ats, u', fill', pages') → u'.length = u.length →
      PReg.ok { g with pgk := pgk, obk := obk, plk := plk, pl := pl, fill := fill', pages := pages', objs := relay (g.objs.filter fun x => decide (((x.b.at_ : Int), (g.life : Int)) ∈ L)) ats } →
      RsOk hp.lives u' ((A ++ { g with pgk := pgk, obk := obk, plk := plk, pl := pl, fill := fill', pages := pages', objs := relay (g.objs.filter fun x => decide (((x.b.at_ : Int), (g.life : Int)) ∈ L)) ats } :: B).map PReg.m) →
      MapIs encA (fun w => ((((wordsP g.life (g.objs.filter fun x => decide (((x.b.at_ : Int), (g.life : Int)) ∈ L))).zip (ats.map fun a : Nat => ((a : Int), (g.life : Int)))).foldl updF to) w).map encA) mt' →
      Holds o s' (poolC p r u' ++ (({ hp with regs := A ++ { g with pgk := pgk, obk := obk, plk := plk, pl := pl, fill := fill', pages := pages', objs := relay (g.objs.filter fun x => decide (((x.b.at_ : Int), (g.life : Int)) ∈ L)) ats } :: B } : PHeap).ch p ++ (colC c t tk fk mt' mf ++ (huntC t lk mk (ptrN hp.id) L m ++ F)))) →
      Q (.tuple []) s') : WP (call PF 92 [ptrN c, I A.length] s) Q := by
  have hin : In (poolC p r u ++ (hp.ch p ++ (colC c t tk fk mt mf ++ (huntC t lk mk (ptrN hp.id) L m ++ F)))) p hp := ⟨fun x hx => List.mem_append_right _ (List.mem_append_left _ hx)⟩
  have hg : hp.regs[A.length]? = some g := by rw [hr]; simp
  have mg := List.mem_of_getElem? hg
  have hlen : hp.regs.length ≤ 100000 := by have h1 := hR.inv.len; have h2 := hR.inv.lives; rw [List.length_map] at h1; omega
  have hri := hR.inv.reg g.m (List.mem_map.2 ⟨g, mg, rfl⟩)
  have hu := hR.ulen
  have hpgs : (∀ x ∈ g.pages, x < u.length) ∧ g.pages.length ≤ 30 := by
    have hrm : g.m ∈ hp.regs.map PReg.m := List.mem_map.2 ⟨g, mg, rfl⟩
    have hsb := sub_flatMap (fun r : Reg => r.pages) hrm
    have := hR.pool.sub_len hsb
    exact ⟨fun x hx => hR.pool.lt (hsb.subset hx), by simp only [PReg.m] at *; omega⟩
  have hrok : RegOk u.length g.m := hri.ok (by have := (hR.inv.life g.m (List.mem_map.2 ⟨g, mg, rfl⟩)).2; have := hR.inv.lives; omega) hpgs.1 (by omega) (by have := hpgs.2; simp only [PReg.m]; omega)
  have hno : g.objs.length ≤ 961 := by have := hri.nobjs; simp only [PReg.m, List.length_map] at this; have := hpgs.2; omega
  have hat : (g.objs.map (·.b.at_)).Nodup := by have := hri.nodup; simpa [PReg.m, List.map_map, Function.comp_def] using this
  have hpick := pick_filter (life := g.life) (fun x => decide (((x.b.at_ : Int), (g.life : Int)) ∈ L)) hat
  have hsub : (g.objs.filter fun x => decide (((x.b.at_ : Int), (g.life : Int)) ∈ L)).Sublist g.objs := List.filter_sublist ..
  have hW : (wordsP g.life g.objs).filter (decide <| · ∈ L) = wordsP g.life (g.objs.filter fun x => decide (((x.b.at_ : Int), (g.life : Int)) ∈ L)) := by
    unfold wordsP; rw [List.filter_map]; rfl
  generalize hxs : (g.objs.filter fun x => decide (((x.b.at_ : Int), (g.life : Int)) ∈ L)) = xs at hpick hsub hW q
  have hm2 : hp.regs.map PReg.m = A.map PReg.m ++ g.m :: B.map PReg.m := by rw [hr]; simp
  have hR2 := hR
  rw [hm2] at hR2
  obtain ⟨ats, u', fill', pages', hlay, hnd, hpl', hal, hul, hR'⟩ := hR2.turn hs (ys := xs.map (·.b)) (hsub.map _)
  have hlay' : layM 0 g.life (xs.map fun x => x.b.ws.length + 1) (freeP u g.pages) 0 [] = some (ats, u', fill', pages') := by
    rw [List.map_map] at hlay; exact hlay
  have hal' : ats.length = xs.length := by simpa using hal
  have fc := H.mem (List.mem_append_right _ (List.mem_append_right _ (List.mem_append_left _ (List.mem_cons_self ..))) : (c, some (O.cells [ptrN t, V.map (some (.new tk)), V.map (some (.new fk))] none)) ∈ poolC p r u ++ (hp.ch p ++ (colC c t tk fk mt mf ++ (huntC t lk mk (ptrN hp.id) L m ++ F))))
  have ft := H.mem (List.mem_append_right _ (List.mem_append_right _ (List.mem_append_right _ (List.mem_append_left _ (List.mem_cons_self ..)))) : (t, some (O.cells [ptrN hp.id, rowV lk L.length, V.map (some (.new mk))] none)) ∈ poolC p r u ++ (hp.ch p ++ (colC c t tk fk mt mf ++ (huntC t lk mk (ptrN hp.id) L m ++ F))))
  rw [call_run F92]; simp -implicitDefEqProofs only [↓GP, GB, GL, Nat.reduceAdd, Nat.reduceSub, Nat.reduceEqDiff, Nat.reduceMul, Nat.reduceLeDiff, Int.reduceBNe, Int.reduceBEq, Nat.reduceLT, reduceCtorEq, c92, fc, ft]
  refine wp_in (s28 H hin hlen hg (by omega) fun s1 ko h1 => ?_)
  rw [words_enc, show g.objs.length = (wordsP g.life g.objs).length by simp [wordsP]] at h1
  rw [show g.objs.length = (wordsP g.life g.objs).length by simp [wordsP]]
  simp -implicitDefEqProofs only [↓GP, GB, GL, Nat.reduceAdd, Nat.reduceSub, Nat.reduceEqDiff, Nat.reduceMul, Nat.reduceLeDiff, Int.reduceBNe, Int.reduceBEq, Nat.reduceLT, reduceCtorEq]
  have hwl : (wordsP g.life xs).length = xs.length := by simp [wordsP]
  have hxl : xs.length ≤ 961 := Nat.le_trans hsub.length_le hno
  have mc1 : (c, some (O.cells [ptrN t, V.map (some (.new tk)), V.map (some (.new fk))] none)) ∈ (ko, rowO 2 (wordsP g.life g.objs).length ((wordsP g.life g.objs).flatMap encW)) :: (poolC p r u ++ (hp.ch p ++ (colC c t tk fk mt mf ++ (huntC t lk mk (ptrN hp.id) L m ++ F)))) :=
    List.mem_cons_of_mem _ (List.mem_append_right _ (List.mem_append_right _ (List.mem_append_left _ (List.mem_cons_self ..))))
  have := keep92 (K := blockK 0 (seqK (loop PF) (call PF) j92_bbb (finR []))) (Q := Q) (i0 := I A.length) (lk := lk) (mk := mk) (hv := ptrN hp.id) mc1 (fun x hx => List.mem_cons_of_mem _ (List.mem_append_right _ (List.mem_append_right _ (List.mem_append_right _ (List.mem_append_left _ hx))))) hm (List.mem_cons_self ..) (by simp [wordsP]; omega) (wordsP g.life g.objs).length 0 0 [] s1 (by omega) (by simp) (h1.nilEntry 0)
  simp only [List.drop_zero, List.nil_append, List.length_nil, Int.natCast_zero, hW] at this
  refine this fun s2 kk h3 => ?_
  have fc2 := h3.mem (List.mem_cons_of_mem _ mc1)
  have ft2 := h3.mem (List.mem_cons_of_mem _ (List.mem_cons_of_mem _ (List.mem_append_right _ (List.mem_append_right _ (List.mem_append_right _ (List.mem_append_left _ (List.mem_cons_self ..)))))) : (t, some (O.cells [ptrN hp.id, rowV lk L.length, V.map (some (.new mk))] none)) ∈ _)
  simp -implicitDefEqProofs only [↓GP, GB, GL, Nat.reduceAdd, Nat.reduceSub, Nat.reduceEqDiff, Nat.reduceMul, Nat.reduceLeDiff, Int.reduceBNe, Int.reduceBEq, Nat.reduceLT, reduceCtorEq, j92_bbb, fc2, ft2]
  refine wp_in (s109 (o := o) (hp := hp) (p := p) (r := r) (wk := kk) (u := u) (A := A) (B := B) (g := g) (ws := wordsP g.life xs) (xs := xs) (ats := ats) (u' := u') (fill' := fill') (pages' := pages') (F := (kk, rowO 2 (wordsP g.life xs).length ((wordsP g.life xs).flatMap encW)) :: (colC c t tk fk mt mf ++ (huntC t lk mk (ptrN hp.id) L m ++ F)))
    (Holds.of (h3) (fun k => by simp +arith only [HA, HB]) (fun k x => by simp only [HA, HC]; grind only)) hr hlen (by omega) hrok (by omega) (by omega) (List.mem_cons_self ..) hs hpick hlay' hnd (by omega) fun s3 pgk obk plk pl kn okp h4 => ?_)
  rw [relay_enc _ _ _ hal'] at h4
  simp -implicitDefEqProofs only [↓GP, GB, GL, Nat.reduceAdd, Nat.reduceSub, Nat.reduceEqDiff, Nat.reduceMul, Nat.reduceLeDiff, Int.reduceBNe, Int.reduceBEq, Nat.reduceLT, reduceCtorEq, j92_bbbbb]
  have h5 : Holds o s3 ((tk, some mt) :: (c, some (.cells [ptrN t, .map (some (.new tk)), .map (some (.new fk))] none)) :: (kk, rowO 2 (wordsP g.life xs).length ((wordsP g.life xs).flatMap encW)) :: (kn, rowO 2 (wordsP g.life xs).length ((ats.map fun a : Nat => ((a : Int), (g.life : Int))).flatMap encW)) :: (fk, some mf) ::
      (poolC p r u' ++ (({ hp with regs := A ++ { g with pgk := pgk, obk := obk, plk := plk, pl := pl, fill := fill', pages := pages', objs := relay xs ats } :: B } : PHeap).ch p ++ (huntC t lk mk (ptrN hp.id) L m ++ F)))) := (Holds.of (h4) (fun k => by simp +arith only [colC, HA, HB]) (fun k x => by simp only [colC, HA, HC]; grind only))
  have := set92 (K := blockK 2 (finR [])) (Q := Q) (t := t) (fk := fk) (List.mem_cons_self ..) (List.mem_cons_of_mem _ (List.mem_cons_self ..)) (List.mem_cons_of_mem _ (List.mem_cons_of_mem _ (List.mem_cons_self ..))) (by simp; omega) (by omega) (wordsP g.life xs).length 0 to mt s3 (by omega) hmt h5
  simp only [List.drop_zero, Int.natCast_zero] at this
  refine this fun s4 mt' hm' h6 => ?_
  simp -implicitDefEqProofs only [↓GP, GB, GL, Nat.reduceAdd, Nat.reduceSub, Nat.reduceEqDiff, Nat.reduceMul, Nat.reduceLeDiff, Int.reduceBNe, Int.reduceBEq, Nat.reduceLT, reduceCtorEq]
  refine q s4 u' fill' pages' ats pgk obk plk pl mt' hlay' hul okp ?_ hm' (Holds.of (h6) (fun k => by simp +arith only [colC, HA, HB]) (fun k x => by simp only [colC, HA, HC]; grind only))
  rw [List.map_append, List.map_cons]
  simp only [PReg.m, relay_b]
  exact hR'
end
end Go.Proofs.Ytoldkemimhebaaa

set_option linter.unusedSimpArgs false
set_option linter.unusedVariables false
namespace Go.Proofs.Ytoldkemimhebaaa
open Go Go.IM
def l46_0 : IC := (.seq (.seq (.region [oa 52 (.bin .lss (.t 51) (.t 50))] (kp 132 [1,2,4,5,6,7,9,33,34,49,50,51,52]))
  (.seq (.cond (.t 52)
  (sk 132 [1,2,4,5,6,7,9,33,34,49,50,51])
  (sx 132 [1,2,4,5,6,7,9,33,34] 2))
  (.seq (.block 3
  (.seq (.region [oa 53 (.indexAddr 2 (.t 49) (.t 51)), oa 54 (.load (some 2) (.t 53)), oa 12 (.alloc [(.int .i64 (0)), (.int .i64 (0))]), ob (.store 2 (.t 12) (.t 54))] (kp 132 [1,2,4,5,6,7,9,12,33,34,49,50,51]))
  (.region [oa 55 (.load none (.t 6)), oa 56 (.nilCheck (.t 55)), oa 57 (.fieldAddr 2 (.t 56)), oa 58 (.load none (.t 57)), oa 59 (.load (some 2) (.t 12)), ob (.mapSet (.agg [.i, .i]) (.t 58) (.t 59) (.c (.bool true)))] (kp 132 [1,2,4,5,6,7,9,33,34,49,50,51]))))
  (.region [oa 60 (.bin .add (.t 51) (ai 1)), oa 51 (.mov (.t 60))] (kp 132 [1,2,4,5,6,7,9,33,34,49,50,51])))))
  (sk 132 [1,2,4,5,6,7,9,33,34,49,50,51]))
def l46_1 : IC := (.seq (.seq (.region [oa 35 (.bin .lss (.t 34) (.t 33))] (kp 132 [1,2,4,5,6,7,33,34,35]))
  (.seq (.cond (.t 35)
  (sk 132 [1,2,4,5,6,7,33,34])
  (sx 132 [1,2,4,5,6,7] 0))
  (.seq (.block 1
  (.seq (.region [oa 36 (.mov (.t 34)), oa 8 (.mov (.t 36))] (kp 132 [1,2,4,5,6,7,8,33,34]))
  (.seq (.region [oa 37 (.load none (.t 2)), oa 38 (.mov (.t 8)), oa 39 (.call 91 [(.t 37), (.t 38)])] (kp 132 [1,2,4,5,6,7,8,33,34,39]))
  (.cond (.t 39)
  (.region [oa 40 (.load none (.t 6)), oa 41 (.mov (.t 8)), oa 42 (.call 92 [(.t 40), (.t 41)])] (kp 132 [1,2,4,5,6,7,33,34]))
  (.seq (.region [oa 44 (.load none (.t 2)), oa 45 (.mov (.t 8)), oa 46 (.call 28 [(.t 44), (.t 45)]), oa 43 (.mov (.t 46)), oa 47 (.extract (.t 43) 0), oa 48 (.extract (.t 43) 1), oa 9 (.mov (.t 47)), oa 10 (.mov (.t 48))] (kp 132 [1,2,4,5,6,7,9,33,34]))
  (.seq (.seq (.region [oa 49 (.mov (.t 9)), oa 50 (.lenSlice (.t 49)), oa 51 (.mov (ai 0))] (kp 132 [1,2,4,5,6,7,9,33,34,49,50,51]))
  (.block 2
  (.seq (sk 132 [1,2,4,5,6,7,9,33,34,49,50,51])
  (.loop l46_0))))
  (.region [oa 61 (.mov (.t 7)), oa 62 (.mov (.t 9)), oa 63 (.append 2 16 (.t 61) (.t 62)), oa 7 (.mov (.t 63))] (kp 132 [1,2,4,5,6,7,33,34]))))))))
  (.region [oa 64 (.bin .add (.t 34) (ai 1)), oa 34 (.mov (.t 64))] (kp 132 [1,2,4,5,6,7,33,34])))))
  (sk 132 [1,2,4,5,6,7,33,34]))
def l46_2 : IC := (.seq (.seq (.region [oa 74 (.bin .lss (.t 73) (.t 72))] (kp 132 [1,2,4,5,6,7,71,72,73,74]))
  (.seq (.cond (.t 74)
  (sk 132 [1,2,4,5,6,7,71,72,73])
  (sx 132 [1,2,4,5,6,7] 4))
  (.seq (.block 5
  (.seq (.region [oa 75 (.indexAddr 2 (.t 71) (.t 73)), oa 76 (.load (some 2) (.t 75)), oa 14 (.alloc [(.int .i64 (0)), (.int .i64 (0))]), ob (.store 2 (.t 14) (.t 76))] (kp 132 [1,2,4,5,6,7,14,71,72,73]))
  (.seq (.region [oa 77 (.load none (.t 6)), oa 78 (.nilCheck (.t 77)), oa 79 (.fieldAddr 2 (.t 78)), oa 80 (.load none (.t 79)), oa 81 (.load (some 2) (.t 14)), oa 82 (.lookup (.agg [.i, .i]) (.bool false) false (.t 80) (.t 81)), oa 83 (.un .not (.t 82))] (kp 132 [1,2,4,5,6,7,14,71,72,73,83]))
  (.cond (.t 83)
  (.region [oa 84 (.mov (.t 7)), oa 85 (.load none (.t 6)), oa 86 (.nilCheck (.t 85)), oa 87 (.fieldAddr 1 (.t 86)), oa 88 (.load none (.t 87)), oa 89 (.load (some 2) (.t 14)), oa 90 (.lookup (.agg [.i, .i]) (.agg [(.int .i64 (0)), (.int .i64 (0))]) false (.t 88) (.t 89)), oa 91 (.buildSlice 1 [(.int .i64 (0)), (.int .i64 (0))] [(0, 2, (.t 90))]), oa 92 (.append 2 16 (.t 84) (.t 91)), oa 7 (.mov (.t 92))] (kp 132 [1,2,4,5,6,7,71,72,73]))
  (sk 132 [1,2,4,5,6,7,71,72,73])))))
  (.region [oa 93 (.bin .add (.t 73) (ai 1)), oa 73 (.mov (.t 93))] (kp 132 [1,2,4,5,6,7,71,72,73])))))
  (sk 132 [1,2,4,5,6,7,71,72,73]))
def a46_3 : IC := (.region [oa 18 (.alloc [(.int .i64 (0)), (.int .i64 (0))]), ob (.store 2 (.t 18) (.t 103))] (kp 132 [2,6,16,17,18]))
def b46_3 : IC := (.block 9
  (.seq (.seq (.region [oa 104 (.load none (.t 6)), oa 105 (.load (some 2) (.t 18)), oa 106 (.call 94 [(.t 104), (.t 105)]), oa 19 (.alloc [(.int .i64 (0)), (.int .i64 (0))]), ob (.store 2 (.t 19) (.t 106))] (kp 132 [2,16,17,18,19]))
  (.seq (.region [oa 107 (.load (some 2) (.t 19)), oa 108 (.load (some 2) (.t 18)), oa 109 (.eql true (.key (.agg [.i, .i])) (.t 107) (.t 108))] (kp 132 [2,16,17,19,109]))
  (.cond (.t 109)
  (.region [oa 110 (.load none (.t 2)), oa 111 (.load (some 2) (.t 16)), oa 112 (.load none (.t 17)), oa 113 (.load (some 2) (.t 19)), oa 114 (.call 65 [(.t 110), (.t 111), (.t 112), (.t 113)])] (kp 132 [17]))
  (sk 132 [17]))))
  (.region [oa 115 (.load none (.t 17)), oa 116 (.bin .add (.t 115) (ai 1)), ob (.store 1 (.t 17) (.t 116))] (kp 132 []))))
def l46_4 : IC := (.seq (.seq (.region [oa 97 (.bin .lss (.t 96) (.t 95))] (kp 132 [1,2,4,5,6,94,95,96,97]))
  (.seq (.cond (.t 97)
  (sk 132 [1,2,4,5,6,94,95,96])
  (sx 132 [1,6] 6))
  (.seq (.block 7
  (.seq (.region [oa 98 (.indexAddr 2 (.t 94) (.t 96)), oa 99 (.load (some 2) (.t 98)), oa 16 (.alloc [(.int .i64 (0)), (.int .i64 (0))]), ob (.store 2 (.t 16) (.t 99))] (kp 132 [1,2,4,5,6,16,94,95,96]))
  (.seq (.region [oa 17 (.alloc [(.int .i64 (0))]), ob (.store 1 (.t 17) (ai 0))] (kp 132 [1,2,4,5,6,16,17,94,95,96]))
  (.seq (.region [oa 100 (.load none (.t 2)), oa 101 (.load (some 2) (.t 16)), oa 102 (.call 93 [(.t 100), (.t 101)])] (kp 132 [1,2,4,5,6,16,17,94,95,96,102]))
  (.block 8
  (.seq (sk 132 [1,2,4,5,6,16,17,94,95,96,102])
  (.seq (.range (.t 102) [103] a46_3 b46_3)
  (sk 132 [1,2,4,5,6,94,95,96]))))))))
  (.region [oa 117 (.bin .add (.t 96) (ai 1)), oa 96 (.mov (.t 117))] (kp 132 [1,2,4,5,6,94,95,96])))))
  (sk 132 [1,2,4,5,6,94,95,96]))
def l46_5 : IC := (.seq (.seq (.region [oa 121 (.bin .lss (.t 120) (.t 119))] (kp 132 [6,20,118,119,120,121]))
  (.seq (.cond (.t 121)
  (sk 132 [6,20,118,119,120])
  (sx 132 [20] 10))
  (.seq (.block 11
  (.seq (.region [oa 122 (.indexAddr 2 (.t 118) (.t 120)), oa 123 (.load (some 2) (.t 122)), oa 22 (.alloc [(.int .i64 (0)), (.int .i64 (0))]), ob (.store 2 (.t 22) (.t 123))] (kp 132 [6,20,22,118,119,120]))
  (.region [oa 124 (.mov (.t 20)), oa 125 (.load none (.t 6)), oa 126 (.load (some 2) (.t 22)), oa 127 (.call 94 [(.t 125), (.t 126)]), oa 128 (.buildSlice 1 [(.int .i64 (0)), (.int .i64 (0))] [(0, 2, (.t 127))]), oa 129 (.append 2 16 (.t 124) (.t 128)), oa 20 (.mov (.t 129))] (kp 132 [6,20,118,119,120]))))
  (.region [oa 130 (.bin .add (.t 120) (ai 1)), oa 120 (.mov (.t 130))] (kp 132 [6,20,118,119,120])))))
  (sk 132 [6,20,118,119,120]))
def j46_bbbbbbbbb : IC := (.seq (.region [oa 131 (.mov (.t 20)), oa 4 (.mov (.t 131)), oa 5 (.mov (ai 0))] (kp 132 [4,5]))
  (sr 132 [4,5]))
def j46_bbbbbbb : IC := (.seq (.region [oa 20 (.mov (.c (.slice none 0 (some 0))))] (kp 132 [1,6,20]))
  (.seq (.seq (.region [oa 118 (.mov (.t 1)), oa 119 (.lenSlice (.t 118)), oa 120 (.mov (ai 0))] (kp 132 [6,20,118,119,120]))
  (.block 10
  (.seq (sk 132 [6,20,118,119,120])
  (.loop l46_5))))
  j46_bbbbbbbbb))
def j46_bbbbbb : IC := (.seq (.seq (.region [oa 94 (.mov (.t 7)), oa 95 (.lenSlice (.t 94)), oa 96 (.mov (ai 0))] (kp 132 [1,2,4,5,6,94,95,96]))
  (.block 6
  (.seq (sk 132 [1,2,4,5,6,94,95,96])
  (.loop l46_4))))
  j46_bbbbbbb)
def j46_bbbbb : IC := (.seq (.seq (.region [oa 65 (.load none (.t 6)), oa 66 (.nilCheck (.t 65)), oa 67 (.fieldAddr 0 (.t 66)), oa 68 (.load none (.t 67)), oa 69 (.nilCheck (.t 68)), oa 70 (.fieldAddr 1 (.t 69)), oa 71 (.load none (.t 70)), oa 72 (.lenSlice (.t 71)), oa 73 (.mov (ai 0))] (kp 132 [1,2,4,5,6,7,71,72,73]))
  (.block 4
  (.seq (sk 132 [1,2,4,5,6,7,71,72,73])
  (.loop l46_2))))
  j46_bbbbbb)
def c46 : IFn := ⟨132, [(4, none), (5, none)],
  (.seq (.region [oa 2 (.box (.t 0)), oa 4 (.mov (.c (.slice none 0 (some 0)))), oa 5 (.mov (ai 0))] (kp 132 [1,2,4,5]))
  (.seq (.seq (.region [oa 23 (.load none (.t 2)), oa 24 (.call 89 [(.t 23)])] (kp 132 [1,2,4,5,24]))
  (.cond (.t 24)
  (.seq (.region [oa 4 (.mov (.c (.slice none 0 (some 0)))), oa 5 (.mov (ai 6))] (kp 132 [4,5]))
  (sr 132 [4,5]))
  (sk 132 [1,2,4,5])))
  (.seq (.region [oa 25 (.load none (.t 2)), oa 26 (.mov (.t 1)), oa 27 (.call 90 [(.t 25), (.t 26)]), oa 28 .mkMap, oa 29 .mkMap, oa 30 (.build [(.ptr none), (.map none), (.map none)] [(0, 1, (.t 27)), (1, 1, (.t 28)), (2, 1, (.t 29))]), oa 31 (.box (.t 30)), oa 6 (.alloc [(.ptr none)]), ob (.store 1 (.t 6) (.t 31))] (kp 132 [1,2,4,5,6]))
  (.seq (.region [oa 7 (.mov (.c (.slice none 0 (some 0))))] (kp 132 [1,2,4,5,6,7]))
  (.seq (.seq (.region [oa 32 (.load none (.t 2)), oa 33 (.call 27 [(.t 32)]), oa 34 (.mov (ai 0))] (kp 132 [1,2,4,5,6,7,33,34]))
  (.block 0
  (.seq (sk 132 [1,2,4,5,6,7,33,34])
  (.loop l46_1))))
  j46_bbbbb)))))⟩
theorem F46 : shutF Try.prog 46 = some c46 := by kernel_rfl
def wordsR (g : Reg) : List (Int × Int) := g.objs.map fun x => ((x.at_ : Int), (g.life : Int))
structure ColS where
  regs : List Reg
  u : List Bool
  mv : ToF
  fx : List (Int × Int)
  objs : List (Int × Int)
def keptM (L : List (Int × Int)) (g : Reg) : List Obj := g.objs.filter fun x => decide (((x.at_ : Int), (g.life : Int)) ∈ L)
def colStep (L : List (Int × Int)) (S : ColS) (g : Reg) : ColS :=
  if 0 < g.pages.length then
    match layM 0 g.life ((keptM L g).map fun x => x.ws.length + 1) (freeP S.u g.pages) 0 [] with
    | some (ats, u', fill', pages') => ⟨S.regs ++ [{ g with fill := fill', pages := pages', objs := layObj (keptM L g) ats }], u',
        (((keptM L g).map fun x => ((x.at_ : Int), (g.life : Int))).zip (ats.map fun a : Nat => ((a : Int), (g.life : Int)))).foldl updF S.mv, S.fx, S.objs⟩
    | none => ⟨S.regs ++ [g], S.u, S.mv, S.fx, S.objs⟩
  else ⟨S.regs ++ [g], S.u, S.mv, S.fx ++ wordsR g, S.objs ++ wordsR g⟩
section
variable {o : Nat → Option O} {s : St} {C F : Ch} {Q : V → St → Prop} {p r : Nat} {u : List Bool}
set_option maxRecDepth 10000
set_option maxHeartbeats 4000000
theorem seenF_add (l : List (Int × Int)) (w : Int × Int) : (fun b => if b = w then some (V.bool true) else seenF l b) = seenF (l ++ [w]) := by
  funext b
  unfold seenF
  by_cases hb : b = w
  · subst hb; simp
  · simp [hb]
theorem fix_loop {c t tk fk cb kl : Nat} {v1 v2 v4 v5 v7 v33 v34 : V} {W : List (Int × Int)} {K : Kt} (mc : (c, some (.cells [ptrN t, .map (some (.new tk)), .map (some (.new fk))] none)) ∈ C) (mb : (cb, some (.cells [ptrN c] none)) ∈ C)
    (mo : (kl, rowO 2 W.length (W.flatMap encW)) ∈ C) (hl : W.length ≤ 100000) :
    ∀ (n i : Nat) (fx : List (Int × Int)) (mf : O) (s : St), i + n = W.length → MapIs encA (seenF fx) mf → Holds o s ((fk, some mf) :: C) →
    (∀ s' mf', MapIs encA (seenF (fx ++ W.drop i)) mf' → Holds o s' ((fk, some mf') :: C) → WP (K (.exit 2) (sp 132 [(1, v1), (2, v2), (4, v4), (5, v5), (6, ptrN cb), (7, v7), (9, rowV kl W.length), (33, v33), (34, v34)]) s') Q) →
    WP (loop PF (.loop l46_0) (sp 132 [(1, v1), (2, v2), (4, v4), (5, v5), (6, ptrN cb), (7, v7), (9, rowV kl W.length), (33, v33), (34, v34), (49, rowV kl W.length), (50, I W.length), (51, I i)]) s K) Q
  | 0, i, fx, mf, s, hi, hm, H, q => by
    have hlt : ¬ ((i : Int) < (W.length : Int)) := by omega
    rw [List.drop_eq_nil_of_le (by omega), List.append_nil] at q
    refine wp_round fun LL hLL => ?_
    simp -implicitDefEqProofs only [↓GP, GB, GL, Nat.reduceAdd, Nat.reduceSub, Nat.reduceEqDiff, Nat.reduceMul, Nat.reduceLeDiff, Int.reduceBNe, Int.reduceBEq, Nat.reduceLT, reduceCtorEq, l46_0, hlt]
    exact q s mf hm H
  | n + 1, i, fx, mf, s, hi, hm, H, q => by
    have hlt : ((i : Int) < (W.length : Int)) := by omega
    have hi' : i < W.length := by omega
    have hw1 := wrap_add1 (a := i) (by omega)
    have hix := ix_row (sz := 2) (k := kl) (n := W.length) (i := i) (kk := .i64) hi'
    have er : rowO 2 W.length (W.flatMap encW) = some (.cells (W.flatMap encW) (some 2)) := by unfold rowO; rw [if_neg (by omega)]
    have fr := H.mem (List.mem_cons_of_mem _ (er ▸ mo))
    have fc := H.mem (List.mem_cons_of_mem _ mc)
    have fb := H.mem (List.mem_cons_of_mem _ mb)
    have hld := ldN_tab (enc := encW) encW_len W (some 2) (List.getElem?_eq_getElem hi')
    rw [List.drop_eq_getElem_cons hi'] at q
    generalize W[i] = w at q hld
    have h1 := (H.alloc (.cells [I 0, I 0] none)).set0 (.cells (encW w) none)
    refine wp_round fun LL hLL => ?_
    simp -implicitDefEqProofs only [↓GP, GB, GL, Nat.reduceAdd, Nat.reduceSub, Nat.reduceEqDiff, Nat.reduceMul, Nat.reduceLeDiff, Int.reduceBNe, Int.reduceBEq, Nat.reduceLT, reduceCtorEq, l46_0, hlt, hix, fr, fc, fb, hld, encW]
    refine wp_mapSet (enc := encA) (a := w) (v := .bool true) keyA hm (h1.tl.g0) fun mf' hm' => ?_
    rw [seenF_add] at hm'
    simp -implicitDefEqProofs only [↓GP, GB, GL, Nat.reduceAdd, Nat.reduceSub, Nat.reduceEqDiff, Nat.reduceMul, Nat.reduceLeDiff, Int.reduceBNe, Int.reduceBEq, Nat.reduceLT, reduceCtorEq, hw1]
    rw [hLL]
    exact fix_loop mc mb mo hl n (i + 1) _ mf' _ (by omega) hm' (h1.set1 mf').tl (by simpa using q)
theorem kept_m (L : List (Int × Int)) (g : PReg) : keptM L g.m = (g.objs.filter fun x => decide (((x.b.at_ : Int), (g.life : Int)) ∈ L)).map (·.b) := by
  unfold keptM PReg.m
  rw [List.filter_map]
  rfl
theorem words_m (g : PReg) : wordsR g.m = wordsP g.life g.objs := by
  unfold wordsR wordsP PReg.m
  rw [List.map_map]
  rfl
theorem col_loop {c t tk fk lk mk hb cb id lv : Nat} {v1 v4 v5 : V} {L : List (Int × Int)} {m : O} {K : Kt} (mhb : (hb, some (.cells [ptrN id] none)) ∈ F) (mcb : (cb, some (.cells [ptrN c] none)) ∈ F) (hm : MapIs encA (seenF L) m) :
    ∀ (B A : List PReg) (hp : PHeap) (S : ColS) (ko : Nat) (mt mf : O) (s : St), hp.id = id → hp.lives = lv → hp.regs = A ++ B → A.map PReg.m = S.regs → RsOk hp.lives S.u (hp.regs.map PReg.m) → (∀ g ∈ hp.regs, g.ok) → S.objs.length ≤ A.length →
    MapIs encA (fun w => (S.mv w).map encA) mt → MapIs encA (seenF S.fx) mf →
    Holds o s ((ko, rowO 2 S.objs.length (S.objs.flatMap encW)) :: (poolC p r S.u ++ (hp.ch p ++ (colC c t tk fk mt mf ++ (huntC t lk mk (ptrN id) L m ++ F))))) →
    (∀ s' (hp' : PHeap) ko' mt' mf', hp'.id = id → hp'.lives = lv → hp'.regs.length = hp.regs.length → hp'.regs.map PReg.m = ((B.map PReg.m).foldl (colStep L) S).regs → RsOk lv ((B.map PReg.m).foldl (colStep L) S).u (hp'.regs.map PReg.m) → (∀ g ∈ hp'.regs, g.ok) → ((B.map PReg.m).foldl (colStep L) S).objs.length ≤ hp.regs.length →
      MapIs encA (fun w => (((B.map PReg.m).foldl (colStep L) S).mv w).map encA) mt' → MapIs encA (seenF ((B.map PReg.m).foldl (colStep L) S).fx) mf' →
      Holds o s' ((ko', rowO 2 ((B.map PReg.m).foldl (colStep L) S).objs.length (((B.map PReg.m).foldl (colStep L) S).objs.flatMap encW)) :: (poolC p r ((B.map PReg.m).foldl (colStep L) S).u ++ (hp'.ch p ++ (colC c t tk fk mt' mf' ++ (huntC t lk mk (ptrN id) L m ++ F))))) →
      WP (K (.exit 0) (sp 132 [(1, v1), (2, ptrN hb), (4, v4), (5, v5), (6, ptrN cb), (7, rowV ko' ((B.map PReg.m).foldl (colStep L) S).objs.length)]) s') Q) →
    WP (loop PF (.loop l46_1) (sp 132 [(1, v1), (2, ptrN hb), (4, v4), (5, v5), (6, ptrN cb), (7, rowV ko S.objs.length), (33, I hp.regs.length), (34, I A.length)]) s K) Q
  | [], A, hp, S, ko, mt, mf, s, hid, hlv, hr, hA, hR, hok, hob, hmt, hmf, H, q => by
    have hlt : ¬ ((A.length : Int) < (hp.regs.length : Int)) := by rw [hr]; simp
    refine wp_round fun LL hLL => ?_
    simp -implicitDefEqProofs only [↓GP, GB, GL, Nat.reduceAdd, Nat.reduceSub, Nat.reduceEqDiff, Nat.reduceMul, Nat.reduceLeDiff, Int.reduceBNe, Int.reduceBEq, Nat.reduceLT, reduceCtorEq, l46_1, hlt]
    rw [List.append_nil] at hr
    exact q s hp ko mt mf hid hlv rfl (by rw [hr]; exact hA) (hlv ▸ hR) hok (by rw [hr]; exact hob) hmt hmf H
  | g :: B, A, hp, S, ko, mt, mf, s, hid, hlv, hr, hA, hR, hok, hob, hmt, hmf, H, q => by
    have hlen : hp.regs.length ≤ 100000 := by have h1 := hR.inv.len; have h2 := hR.inv.lives; rw [List.length_map] at h1; omega
    have hlt : ((A.length : Int) < (hp.regs.length : Int)) := by rw [hr]; simp; omega
    have hAl : A.length < hp.regs.length := by rw [hr]; simp
    have hg : hp.regs[A.length]? = some g := by rw [hr]; simp
    have mg := List.mem_of_getElem? hg
    have hri := hR.inv.reg g.m (List.mem_map.2 ⟨g, mg, rfl⟩)
    have hw1 := wrap_add1 (a := A.length) (by omega)
    have hu := hR.ulen
    have hpl : g.pages.length ≤ 30 := by
      have hrm : g.m ∈ hp.regs.map PReg.m := List.mem_map.2 ⟨g, mg, rfl⟩
      have hsb := sub_flatMap (fun r : Reg => r.pages) hrm
      have := hR.pool.sub_len hsb
      simp only [PReg.m] at *; omega
    subst hid
    have hin : In ((ko, rowO 2 S.objs.length (S.objs.flatMap encW)) :: (poolC p r S.u ++ (hp.ch p ++ (colC c t tk fk mt mf ++ (huntC t lk mk (ptrN hp.id) L m ++ F))))) p hp := ⟨fun x hx => List.mem_cons_of_mem _ (List.mem_append_right _ (List.mem_append_left _ hx))⟩
    have inF : ∀ x ∈ F, x ∈ (ko, rowO 2 S.objs.length (S.objs.flatMap encW)) :: (poolC p r S.u ++ (hp.ch p ++ (colC c t tk fk mt mf ++ (huntC t lk mk (ptrN hp.id) L m ++ F)))) :=
      fun x hx => List.mem_cons_of_mem _ (List.mem_append_right _ (List.mem_append_right _ (List.mem_append_right _ (List.mem_append_right _ hx))))
    have fh := H.mem (inF _ mhb)
    have fc := H.mem (inF _ mcb)
    refine wp_round fun LL hLL => ?_
    simp -implicitDefEqProofs only [↓GP, GB, GL, Nat.reduceAdd, Nat.reduceSub, Nat.reduceEqDiff, Nat.reduceMul, Nat.reduceLeDiff, Int.reduceBNe, Int.reduceBEq, Nat.reduceLT, reduceCtorEq, l46_1, hlt, fh, fc]
    refine wp_in (s91 H hin hlen hg (by omega) fun s1 h1 => ?_)
    have fh1 := h1.mem (inF _ mhb)
    have fc1 := h1.mem (inF _ mcb)
    by_cases hpg : 0 < g.pages.length
    · rw [decide_eq_true hpg]
      have hs0 : g.size = 0 := by
        rcases Nat.eq_zero_or_pos g.size with h | h
        · exact h
        · have := (hri.fin h).1; simp only [PReg.m] at this; rw [this] at hpg; simp at hpg
      simp -implicitDefEqProofs only [↓GP, GB, GL, Nat.reduceAdd, Nat.reduceSub, Nat.reduceEqDiff, Nat.reduceMul, Nat.reduceLeDiff, Int.reduceBNe, Int.reduceBEq, Nat.reduceLT, reduceCtorEq, fh1, fc1]
      refine wp_in (s92 (p := p) (r := r) (u := S.u) (F := (ko, rowO 2 S.objs.length (S.objs.flatMap encW)) :: F) (lk := lk) (mk := mk) (L := L) (m := m) (t := t) (tk := tk) (fk := fk) (mt := mt) (mf := mf) (Holds.of (h1) (fun k => by simp +arith only [HA, HB]) (fun k x => by simp only [HA, HC]; grind only)) hr hs0 hok hR hm hmt fun s2 u' fill' pages' ats pgk obk plk pl mt' hlay hul okp hR' hm' h2 => ?_)
      generalize hg1 : ({ g with pgk := pgk, obk := obk, plk := plk, pl := pl, fill := fill', pages := pages', objs := relay (g.objs.filter fun x => decide (((x.b.at_ : Int), (g.life : Int)) ∈ L)) ats } : PReg) = g1 at okp hR' h2
      have e : colStep L S g.m = ⟨S.regs ++ [PReg.m g1], u', ((wordsP g.life (g.objs.filter fun x => decide (((x.b.at_ : Int), (g.life : Int)) ∈ L))).zip (ats.map fun a : Nat => ((a : Int), (g.life : Int)))).foldl updF S.mv, S.fx, S.objs⟩ := by
        have hl : layM 0 g.m.life ((keptM L g.m).map fun x => x.ws.length + 1) (freeP S.u g.m.pages) 0 [] = some (ats, u', fill', pages') := by
          rw [kept_m, List.map_map]; exact hlay
        unfold colStep
        rw [if_pos (show 0 < g.m.pages.length from hpg), hl]
        simp only [kept_m, List.map_map, wordsP, ← hg1]
        simp only [PReg.m, relay_b]
        rfl
      obtain ⟨S1, hS1⟩ : ∃ S1 : ColS, S1 = ⟨S.regs ++ [PReg.m g1], u', ((wordsP g.life (g.objs.filter fun x => decide (((x.b.at_ : Int), (g.life : Int)) ∈ L))).zip (ats.map fun a : Nat => ((a : Int), (g.life : Int)))).foldl updF S.mv, S.fx, S.objs⟩ := ⟨_, rfl⟩
      rw [← hS1] at e
      rw [List.map_cons, List.foldl_cons, e] at q
      have eo : S1.objs = S.objs := by rw [hS1]
      simp -implicitDefEqProofs only [↓GP, GB, GL, Nat.reduceAdd, Nat.reduceSub, Nat.reduceEqDiff, Nat.reduceMul, Nat.reduceLeDiff, Int.reduceBNe, Int.reduceBEq, Nat.reduceLT, reduceCtorEq, hw1]
      rw [hLL]
      have hl1 : (A ++ [g1]).length = A.length + 1 := by simp
      have hl2 : (A ++ g1 :: B).length = hp.regs.length := by rw [hr]; simp
      have := col_loop (K := K) (v1 := v1) (v4 := v4) (v5 := v5) mhb mcb hm B (A ++ [g1]) { hp with regs := A ++ g1 :: B } S1 ko mt' mf s2 rfl hlv (by simp) (by rw [List.map_append, hA, hS1]; rfl) (by rw [hS1]; exact hR') (fun x hx => by
        rcases List.mem_append.1 hx with hx | hx
        · exact hok x (by rw [hr]; exact List.mem_append_left _ hx)
        · rcases List.mem_cons.1 hx with rfl | hx
          · exact okp
          · exact hok x (by rw [hr]; simp [hx])) (by rw [hl1, eo]; exact Nat.le_succ_of_le hob) (by rw [hS1]; exact hm') (by rw [hS1]; exact hmf) (by subst hS1; exact (Holds.of (h2) (fun k => by simp +arith only [HA, HB]) (fun k x => by simp only [HA, HC]; grind only))) (by
          intro s' hp' ko' mt' mf' e1 e2 e3
          simp only [hl2] at e3 ⊢
          exact q s' hp' ko' mt' mf' e1 e2 e3)
      rw [hl1, eo] at this
      simp only [hl2] at this
      exact this
    · rw [decide_eq_false hpg]
      simp -implicitDefEqProofs only [↓GP, GB, GL, Nat.reduceAdd, Nat.reduceSub, Nat.reduceEqDiff, Nat.reduceMul, Nat.reduceLeDiff, Int.reduceBNe, Int.reduceBEq, Nat.reduceLT, reduceCtorEq, fh1, fc1]
      have hno : g.objs.length ≤ 1 := by have := hri.nobjs; simp only [PReg.m, List.length_map] at this; omega
      refine wp_in (s28 h1 hin hlen hg (by omega) fun s2 kl h2 => ?_)
      rw [words_enc, show g.objs.length = (wordsP g.life g.objs).length by simp [wordsP]] at h2
      rw [show g.objs.length = (wordsP g.life g.objs).length by simp [wordsP]]
      have hwl : (wordsP g.life g.objs).length ≤ 1 := by simpa [wordsP] using hno
      have e : colStep L S g.m = ⟨S.regs ++ [g.m], S.u, S.mv, S.fx ++ wordsP g.life g.objs, S.objs ++ wordsP g.life g.objs⟩ := by
        unfold colStep
        rw [if_neg (show ¬ 0 < g.m.pages.length from hpg), words_m]
      generalize wordsP g.life g.objs = W at h2 hwl e
      simp -implicitDefEqProofs only [↓GP, GB, GL, Nat.reduceAdd, Nat.reduceSub, Nat.reduceEqDiff, Nat.reduceMul, Nat.reduceLeDiff, Int.reduceBNe, Int.reduceBEq, Nat.reduceLT, reduceCtorEq]
      have h3 : Holds o s2 ((fk, some mf) :: (ko, rowO 2 S.objs.length (S.objs.flatMap encW)) :: (kl, rowO 2 W.length (W.flatMap encW)) :: (c, some (.cells [ptrN t, .map (some (.new tk)), .map (some (.new fk))] none)) :: (tk, some mt) ::
        (poolC p r S.u ++ (hp.ch p ++ (huntC t lk mk (ptrN hp.id) L m ++ F)))) := (Holds.of (h2) (fun k => by simp +arith only [colC, HA, HB]) (fun k x => by simp only [colC, HA, HC]; grind only))
      refine fix_loop (t := t) (tk := tk) (List.mem_cons_of_mem _ (List.mem_cons_of_mem _ (List.mem_cons_self ..))) (List.mem_cons_of_mem _ (List.mem_cons_of_mem _ (List.mem_cons_of_mem _ (List.mem_cons_of_mem _ (List.mem_append_right _ (List.mem_append_right _ (List.mem_append_right _ mcb))))))) (List.mem_cons_of_mem _ (List.mem_cons_self ..)) (by omega) W.length 0 S.fx mf s2 (by omega) hmf h3 fun s3 mf' hm' h4 => ?_
      rw [List.drop_zero] at hm'
      simp -implicitDefEqProofs only [↓GP, GB, GL, Nat.reduceAdd, Nat.reduceSub, Nat.reduceEqDiff, Nat.reduceMul, Nat.reduceLeDiff, Int.reduceBNe, Int.reduceBEq, Nat.reduceLT, reduceCtorEq]
      have fl : W.length = 0 ∨ s3.new kl = some (.cells (W.flatMap encW) (some 2)) := by
        by_cases h0 : W.length = 0
        · exact .inl h0
        · have er : rowO 2 W.length (W.flatMap encW) = some (.cells (W.flatMap encW) (some 2)) := by unfold rowO; rw [if_neg h0]
          rw [er] at h4
          exact .inr (h4.mem (List.mem_cons_of_mem _ (List.mem_cons_of_mem _ (List.mem_cons_self ..)))).1
      refine wp_append (sz := 2) (bytes := 16) (m := W.length) (cs := S.objs.flatMap encW) h4.r1 (by rw [tab_len encW_len]) (new_row fl (by rw [tab_len encW_len])) (by rw [tab_len encW_len]) (by rw [List.all_flatMap]; simp [encW, V.one]) (by omega) (by unfold maxRow; omega) (by unfold maxRow; omega) fun ko' s4 h5 => ?_
      obtain ⟨S1, hS1⟩ : ∃ S1 : ColS, S1 = ⟨S.regs ++ [g.m], S.u, S.mv, S.fx ++ W, S.objs ++ W⟩ := ⟨_, rfl⟩
      rw [← hS1] at e
      rw [List.map_cons, List.foldl_cons, e] at q
      have eo : S1.objs.length = S.objs.length + W.length := by rw [hS1]; simp
      simp -implicitDefEqProofs only [↓GP, GB, GL, Nat.reduceAdd, Nat.reduceSub, Nat.reduceEqDiff, Nat.reduceMul, Nat.reduceLeDiff, Int.reduceBNe, Int.reduceBEq, Nat.reduceLT, reduceCtorEq, hw1]
      rw [hLL]
      have hl1 : (A ++ [g]).length = A.length + 1 := by simp
      have := col_loop (K := K) (v1 := v1) (v4 := v4) (v5 := v5) mhb mcb hm B (A ++ [g]) hp S1 ko' mt mf' s4 rfl hlv (by simp [hr]) (by rw [List.map_append, hA, hS1]; rfl) (by rw [hS1]; exact hR) hok (by omega) (by rw [hS1]; exact hmt) (by rw [hS1]; exact hm')
        (by subst hS1; exact (Holds.of (h5) (fun k => by simp +arith only [colC, List.length_append, List.flatMap_append, HA, HB]) (fun k x => by simp only [colC, List.length_append, List.flatMap_append, HA, HC]; grind only))) q
      rw [hl1, eo] at this
      exact this
end
end Go.Proofs.Ytoldkemimhebaaa

set_option linter.unusedSimpArgs false
set_option linter.unusedVariables false
namespace Go.Proofs.Ytoldkemimhebaaa
open Go Go.IM
section
variable {o : Nat → Option O} {s : St} {C F : Ch} {Q : V → St → Prop} {p r : Nat} {u : List Bool}
set_option maxRecDepth 10000
set_option maxHeartbeats 4000000
def toD (mv : ToF) (w : Int × Int) : Int × Int := (mv w).getD (0, 0)
theorem obj_loop {c t tk fk lk cb : Nat} {v1 v2 v4 v5 : V} {L fx : List (Int × Int)} {mv : ToF} {mt mf : O} {K : Kt} (hs : ∀ x ∈ colC c t tk fk mt mf, x ∈ C) (mb : (cb, some (.cells [ptrN c] none)) ∈ C) (mo : (lk, rowO 2 L.length (L.flatMap encW)) ∈ C)
    (hmt : MapIs encA (fun w => (mv w).map encA) mt) (hmf : MapIs encA (seenF fx) mf) (hl : L.length ≤ 100000) :
    ∀ (n i k : Nat) (acc : List (Int × Int)) (s : St), i + n = L.length → acc.length ≤ 100000 + i → Holds o s ((k, rowO 2 acc.length (acc.flatMap encW)) :: C) →
    (∀ s' k', Holds o s' ((k', rowO 2 (acc ++ ((L.drop i).filter fun w => !decide (w ∈ fx)).map (toD mv)).length ((acc ++ ((L.drop i).filter fun w => !decide (w ∈ fx)).map (toD mv)).flatMap encW)) :: C) →
      WP (K (.exit 4) (sp 132 [(1, v1), (2, v2), (4, v4), (5, v5), (6, ptrN cb), (7, rowV k' (acc ++ ((L.drop i).filter fun w => !decide (w ∈ fx)).map (toD mv)).length)]) s') Q) →
    WP (loop PF (.loop l46_2) (sp 132 [(1, v1), (2, v2), (4, v4), (5, v5), (6, ptrN cb), (7, rowV k acc.length), (71, rowV lk L.length), (72, I L.length), (73, I i)]) s K) Q
  | 0, i, k, acc, s, hi, ha, H, q => by
    have hlt : ¬ ((i : Int) < (L.length : Int)) := by omega
    rw [List.drop_eq_nil_of_le (by omega), List.filter_nil, List.map_nil, List.append_nil] at q
    refine wp_round fun LL hLL => ?_
    simp -implicitDefEqProofs only [↓GP, GB, GL, Nat.reduceAdd, Nat.reduceSub, Nat.reduceEqDiff, Nat.reduceMul, Nat.reduceLeDiff, Int.reduceBNe, Int.reduceBEq, Nat.reduceLT, reduceCtorEq, l46_2, hlt]
    exact q s k H
  | n + 1, i, k, acc, s, hi, ha, H, q => by
    have hlt : ((i : Int) < (L.length : Int)) := by omega
    have hi' : i < L.length := by omega
    have hw1 := wrap_add1 (a := i) (by omega)
    have hix := ix_row (sz := 2) (k := lk) (n := L.length) (i := i) (kk := .i64) hi'
    have er : rowO 2 L.length (L.flatMap encW) = some (.cells (L.flatMap encW) (some 2)) := by unfold rowO; rw [if_neg (by omega)]
    have fr := H.mem (List.mem_cons_of_mem _ (er ▸ mo))
    have fc := H.mem (List.mem_cons_of_mem _ (hs (c, some (.cells [ptrN t, .map (some (.new tk)), .map (some (.new fk))] none)) (List.mem_cons_self ..)))
    have mt' := hs (tk, some mt) (List.mem_cons_of_mem _ (List.mem_cons_self ..))
    have mf' := hs (fk, some mf) (List.mem_cons_of_mem _ (List.mem_cons_of_mem _ (List.mem_cons_self ..)))
    have fb := H.mem (List.mem_cons_of_mem _ mb)
    have hld := ldN_tab (enc := encW) encW_len L (some 2) (List.getElem?_eq_getElem hi')
    rw [List.drop_eq_getElem_cons hi', List.filter_cons] at q
    generalize L[i] = w at q hld
    have h1 := (H.alloc (.cells [I 0, I 0] none)).set0 (.cells (encW w) none)
    have el := lookup_map keyA hmf (h1.mem (List.mem_cons_of_mem _ (List.mem_cons_of_mem _ mf'))).1 (.bool false) false w
    simp only [encA, encW, Bool.false_eq_true, if_false] at el
    by_cases hw : w ∈ fx
    · rw [show seenF fx w = some (.bool true) from if_pos hw, Option.getD_some] at el
      rw [if_neg (by simpa using hw)] at q
      refine wp_round fun LL hLL => ?_
      simp -implicitDefEqProofs only [↓GP, GB, GL, Nat.reduceAdd, Nat.reduceSub, Nat.reduceEqDiff, Nat.reduceMul, Nat.reduceLeDiff, Int.reduceBNe, Int.reduceBEq, Nat.reduceLT, reduceCtorEq, l46_2, hlt, hix, fr, fc, fb, hld, encW, el, hw1]
      rw [hLL]
      exact obj_loop hs mb mo hmt hmf hl n (i + 1) k acc _ (by omega) (by omega) (Holds.of (h1) (fun k => by simp +arith only [encW, HA, HB]) (fun k x => by simp only [encW, HA, HC]; grind only)) q
    · rw [show seenF fx w = none from if_neg hw, Option.getD_none] at el
      rw [if_pos (by simpa using hw)] at q
      have el2 := lookup_map keyA hmt (h1.mem (List.mem_cons_of_mem _ (List.mem_cons_of_mem _ mt'))).1 (.agg [I 0, I 0]) false w
      rw [show ((mv w).map encA).getD (.agg [I 0, I 0]) = encA (toD mv w) by unfold toD; cases mv w <;> rfl] at el2
      simp only [encA, encW, Bool.false_eq_true, if_false] at el2
      refine wp_round fun LL hLL => ?_
      simp -implicitDefEqProofs only [↓GP, GB, GL, Nat.reduceAdd, Nat.reduceSub, Nat.reduceEqDiff, Nat.reduceMul, Nat.reduceLeDiff, Int.reduceBNe, Int.reduceBEq, Nat.reduceLT, reduceCtorEq, l46_2, hlt, hix, fr, fc, fb, hld, encW, el, el2]
      refine wp_append (sz := 2) (bytes := 16) (m := 1) (cs := acc.flatMap encW) ((h1.alloc _).r2) (by rw [tab_len encW_len]) (new_cells' (alloc_new_same _ _) rfl) rfl rfl (by omega) (by unfold maxRow; omega) (by unfold maxRow; omega) fun k' s1 h2 => ?_
      simp -implicitDefEqProofs only [↓GP, GB, GL, Nat.reduceAdd, Nat.reduceSub, Nat.reduceEqDiff, Nat.reduceMul, Nat.reduceLeDiff, Int.reduceBNe, Int.reduceBEq, Nat.reduceLT, reduceCtorEq, hw1]
      rw [hLL]
      have hl1 : (acc ++ [toD mv w]).length = acc.length + 1 := by simp
      have := obj_loop (K := K) (v1 := v1) (v2 := v2) (v4 := v4) (v5 := v5) hs mb mo hmt hmf hl n (i + 1) k' (acc ++ [toD mv w]) s1 (by omega) (by simp; omega) (by
        have h3 := h2.r1.tl.r1.tl
        rw [List.flatMap_append]; simpa [encW] using h3) (by simpa using q)
      rw [hl1] at this
      exact this
theorem out_loop {c t tk fk cb kr : Nat} {roots fx : List (Int × Int)} {mv : ToF} {mt mf : O} {K : Kt} (hs : ∀ x ∈ colC c t tk fk mt mf, x ∈ C) (mb : (cb, some (.cells [ptrN c] none)) ∈ C) (mo : (kr, rowO 2 roots.length (roots.flatMap encW)) ∈ C)
    (hmt : MapIs encA (fun w => (mv w).map encA) mt) (hmf : MapIs encA (seenF fx) mf) (hl : roots.length ≤ 100000) :
    ∀ (n i k : Nat) (acc : List (Int × Int)) (s : St), i + n = roots.length → acc.length ≤ i → Holds o s ((k, rowO 2 acc.length (acc.flatMap encW)) :: C) →
    (∀ s' k', Holds o s' ((k', rowO 2 (acc ++ (roots.drop i).map (nowW mv fx)).length ((acc ++ (roots.drop i).map (nowW mv fx)).flatMap encW)) :: C) →
      WP (K (.exit 10) (sp 132 [(20, rowV k' (acc ++ (roots.drop i).map (nowW mv fx)).length)]) s') Q) →
    WP (loop PF (.loop l46_5) (sp 132 [(6, ptrN cb), (20, rowV k acc.length), (118, rowV kr roots.length), (119, I roots.length), (120, I i)]) s K) Q
  | 0, i, k, acc, s, hi, ha, H, q => by
    have hlt : ¬ ((i : Int) < (roots.length : Int)) := by omega
    rw [List.drop_eq_nil_of_le (by omega), List.map_nil, List.append_nil] at q
    refine wp_round fun LL hLL => ?_
    simp -implicitDefEqProofs only [↓GP, GB, GL, Nat.reduceAdd, Nat.reduceSub, Nat.reduceEqDiff, Nat.reduceMul, Nat.reduceLeDiff, Int.reduceBNe, Int.reduceBEq, Nat.reduceLT, reduceCtorEq, l46_5, hlt]
    exact q s k H
  | n + 1, i, k, acc, s, hi, ha, H, q => by
    have hlt : ((i : Int) < (roots.length : Int)) := by omega
    have hi' : i < roots.length := by omega
    have hw1 := wrap_add1 (a := i) (by omega)
    have hix := ix_row (sz := 2) (k := kr) (n := roots.length) (i := i) (kk := .i64) hi'
    have er : rowO 2 roots.length (roots.flatMap encW) = some (.cells (roots.flatMap encW) (some 2)) := by unfold rowO; rw [if_neg (by omega)]
    have fr := H.mem (List.mem_cons_of_mem _ (er ▸ mo))
    have fb := H.mem (List.mem_cons_of_mem _ mb)
    have hld := ldN_tab (enc := encW) encW_len roots (some 2) (List.getElem?_eq_getElem hi')
    rw [List.drop_eq_getElem_cons hi', List.map_cons] at q
    generalize roots[i] = w at q hld
    have h1 := ((H.alloc (.cells [I 0, I 0] none)).set0 (.cells (encW w) none)).tl
    refine wp_round fun LL hLL => ?_
    simp -implicitDefEqProofs only [↓GP, GB, GL, Nat.reduceAdd, Nat.reduceSub, Nat.reduceEqDiff, Nat.reduceMul, Nat.reduceLeDiff, Int.reduceBNe, Int.reduceBEq, Nat.reduceLT, reduceCtorEq, l46_5, hlt, hix, fr, fb, hld, encW]
    refine wp_in (s94 (w := w) h1 (fun x hx => List.mem_cons_of_mem _ (hs x hx)) hmt hmf fun s1 h2 => ?_)
    simp -implicitDefEqProofs only [↓GP, GB, GL, Nat.reduceAdd, Nat.reduceSub, Nat.reduceEqDiff, Nat.reduceMul, Nat.reduceLeDiff, Int.reduceBNe, Int.reduceBEq, Nat.reduceLT, reduceCtorEq, encW]
    refine wp_append (sz := 2) (bytes := 16) (m := 1) (cs := acc.flatMap encW) ((h2.alloc _).r1) (by rw [tab_len encW_len]) (new_cells' (alloc_new_same _ _) rfl) rfl rfl (by omega) (by unfold maxRow; omega) (by unfold maxRow; omega) fun k' s2 h3 => ?_
    simp -implicitDefEqProofs only [↓GP, GB, GL, Nat.reduceAdd, Nat.reduceSub, Nat.reduceEqDiff, Nat.reduceMul, Nat.reduceLeDiff, Int.reduceBNe, Int.reduceBEq, Nat.reduceLT, reduceCtorEq, hw1]
    rw [hLL]
    have hl1 : (acc ++ [nowW mv fx w]).length = acc.length + 1 := by simp
    have := out_loop (K := K) hs mb mo hmt hmf hl n (i + 1) k' (acc ++ [nowW mv fx w]) s2 (by omega) (by simp; omega) (by
      have h4 := h3.r1.tl
      rw [List.flatMap_append]; simpa [encW] using h4) (by simpa using q)
    rw [hl1] at this
    exact this
end
end Go.Proofs.Ytoldkemimhebaaa

set_option linter.unusedSimpArgs false
set_option linter.unusedVariables false
namespace Go.Proofs.Ytoldkemimhebaaa
open Go Go.IM
def Obj.wr (x : Obj) (ws : List (Int × Int)) : Obj := { x with ws := ws }
def PObj.wr (x : PObj) (ws : List (Int × Int)) : PObj := { x with b := x.b.wr ws }
def setObj1 (w : Int × Int) (f : List (Int × Int) → List (Int × Int)) (x : Obj) : Obj := if (x.at_ : Int) = w.1 then x.wr (f x.ws) else x
def setReg1 (w : Int × Int) (f : List (Int × Int) → List (Int × Int)) (g : Reg) : Reg := if (g.life : Int) = w.2 then { g with objs := g.objs.map (setObj1 w f) } else g
def setM (w : Int × Int) (f : List (Int × Int) → List (Int × Int)) (rs : List Reg) : List Reg := rs.map (setReg1 w f)
theorem setReg1_life (w : Int × Int) (f) (g : Reg) : (setReg1 w f g).life = g.life := by unfold setReg1; split <;> rfl
theorem setReg1_pages (w : Int × Int) (f) (g : Reg) : (setReg1 w f g).pages = g.pages := by unfold setReg1; split <;> rfl
theorem setReg1_size (w : Int × Int) (f) (g : Reg) : (setReg1 w f g).size = g.size := by unfold setReg1; split <;> rfl
theorem setReg1_fill (w : Int × Int) (f) (g : Reg) : (setReg1 w f g).fill = g.fill := by unfold setReg1; split <;> rfl
theorem setObj1_at (w : Int × Int) (f) (x : Obj) : (setObj1 w f x).at_ = x.at_ := by unfold setObj1; split <;> rfl
theorem setObj1_kind (w : Int × Int) (f) (x : Obj) : (setObj1 w f x).kind = x.kind := by unfold setObj1; split <;> rfl
theorem setObj1_len (w : Int × Int) {f : List (Int × Int) → List (Int × Int)} (hf : ∀ l, (f l).length = l.length) (x : Obj) : (setObj1 w f x).ws.length = x.ws.length := by
  unfold setObj1; split
  · exact hf _
  · rfl
def shapeR (g : Reg) : Nat × Nat × Nat × List Nat × List (Nat × Nat × Nat) := (g.size, g.life, g.fill, g.pages, g.objs.map fun x => (x.at_, x.kind, x.ws.length))
theorem setReg1_shape (w : Int × Int) {f : List (Int × Int) → List (Int × Int)} (hf : ∀ l, (f l).length = l.length) (g : Reg) : shapeR (setReg1 w f g) = shapeR g := by
  unfold shapeR
  rw [setReg1_size, setReg1_life, setReg1_fill, setReg1_pages]
  unfold setReg1
  split
  · simp only [List.map_map]
    congr 4
    exact List.map_congr_left fun x _ => by simp only [Function.comp, setObj1_at, setObj1_kind, setObj1_len w hf]
  · rfl
theorem RInv.ofShape {g g' : Reg} (h : RInv g) (e : shapeR g' = shapeR g) (hw : ∀ x ∈ g'.objs, ∀ w ∈ x.ws, 0 ≤ w.2 ∧ w.2 ≤ 100000) : RInv g' := by
  unfold shapeR at e
  simp only [Prod.mk.injEq] at e
  obtain ⟨e1, e2, e3, e4, e5⟩ := e
  exact h.congr e1 e2 e3 e4 e5 hw
theorem RsOk.ofShape {lv : Nat} {u : List Bool} {rs rs' : List Reg} (h : RsOk lv u rs) (e : rs'.map shapeR = rs.map shapeR) (hw : ∀ r ∈ rs', ∀ x ∈ r.objs, ∀ w ∈ x.ws, 0 ≤ w.2 ∧ w.2 ≤ 100000) : RsOk lv u rs' := by
  have el : rs'.map (·.life) = rs.map (·.life) := by
    have := congrArg (List.map fun t : Nat × Nat × Nat × List Nat × List (Nat × Nat × Nat) => t.2.1) e
    simpa [List.map_map, Function.comp_def, shapeR] using this
  have ep : rs'.map (·.pages) = rs.map (·.pages) := by
    have := congrArg (List.map fun t : Nat × Nat × Nat × List Nat × List (Nat × Nat × Nat) => t.2.2.2.1) e
    simpa [List.map_map, Function.comp_def, shapeR] using this
  have hl : rs'.length = rs.length := by have := congrArg List.length e; simpa using this
  have hx : ∀ r ∈ rs', ∃ r0 ∈ rs, shapeR r = shapeR r0 := fun r hr => by
    have : shapeR r ∈ rs.map shapeR := e ▸ List.mem_map.2 ⟨r, hr, rfl⟩
    obtain ⟨y, hy, e⟩ := List.mem_map.1 this
    exact ⟨y, hy, e.symm⟩
  have hI := h.inv
  refine ⟨h.ulen, ⟨hI.lives, fun e => hI.ne (List.length_eq_zero_iff.1 (by rw [← hl, e]; rfl)), by rw [hl]; exact hI.len, by rw [el]; exact hI.nodup, fun r hr => ?_, fun r hr => ?_⟩, ?_⟩
  · obtain ⟨r0, h0, e0⟩ := hx r hr
    have : r.life = r0.life := by unfold shapeR at e0; simp only [Prod.mk.injEq] at e0; exact e0.2.1
    rw [this]; exact hI.life r0 h0
  · obtain ⟨r0, h0, e0⟩ := hx r hr
    exact (hI.reg r0 h0).ofShape e0 (hw r hr)
  · have e1 : ∀ l : List Reg, l.flatMap (·.pages) = (l.map (·.pages)).flatten := fun l => by rw [List.flatMap_def]
    have := h.pool
    rw [e1] at this ⊢
    rw [ep]; exact this
theorem setM_shape (w : Int × Int) {f : List (Int × Int) → List (Int × Int)} (hf : ∀ l, (f l).length = l.length) (rs : List Reg) : (setM w f rs).map shapeR = rs.map shapeR := by
  unfold setM
  rw [List.map_map]
  exact List.map_congr_left fun g _ => setReg1_shape w hf g
def mfind (N L : Int) (rs : List Reg) : Option Obj := rs.findSome? fun r => if (r.life : Int) = L then r.objs.find? (fun x => decide ((x.at_ : Int) = N)) else none
theorem pfind_m (N L : Int) : ∀ rs : List PReg, (pfind N L rs).map (·.b) = mfind N L (rs.map PReg.m)
  | [] => rfl
  | r :: rs => by
    have ih := pfind_m N L rs
    unfold pfind mfind at *
    simp only [List.map_cons, List.findSome?_cons]
    have e : (pf N L r).map (·.b) = (if (r.m.life : Int) = L then r.m.objs.find? (fun x => decide ((x.at_ : Int) = N)) else none) := by
      unfold pf
      split
      · rename_i h; rw [if_pos (show (r.m.life : Int) = L from h)]; simp only [PReg.m, List.find?_map]; rfl
      · rename_i h; rw [if_neg (show ¬ (r.m.life : Int) = L from h)]; rfl
    rw [← e]
    cases pf N L r with
    | some x => rfl
    | none => exact ih
theorem mfind_set (N L : Int) (w : Int × Int) (f) : ∀ rs : List Reg, (mfind N L (setM w f rs)).isSome = (mfind N L rs).isSome
  | [] => rfl
  | r :: rs => by
    have ih := mfind_set N L w f rs
    unfold mfind setM at *
    simp only [List.map_cons, List.findSome?_cons, setReg1_life]
    by_cases h : (r.life : Int) = L
    · simp only [if_pos h]
      have e : ((setReg1 w f r).objs.find? fun x => decide ((x.at_ : Int) = N)).isSome = (r.objs.find? fun x => decide ((x.at_ : Int) = N)).isSome := by
        unfold setReg1
        split
        · rw [List.find?_map]
          simp only [Option.isSome_map]
          congr 1
          have : ((fun x : Obj => decide ((x.at_ : Int) = N)) ∘ setObj1 w f) = fun x => decide ((x.at_ : Int) = N) := by funext x; simp only [Function.comp, setObj1_at]
          rw [this]
        · rfl
      cases h1 : (setReg1 w f r).objs.find? fun x => decide ((x.at_ : Int) = N) with
      | some a =>
        rw [h1] at e
        cases h2 : r.objs.find? fun x => decide ((x.at_ : Int) = N) with
        | some b => rfl
        | none => rw [h2] at e; cases e
      | none =>
        rw [h1] at e
        cases h2 : r.objs.find? fun x => decide ((x.at_ : Int) = N) with
        | some b => rw [h2] at e; cases e
        | none => exact ih
    · simp only [if_neg h]
      exact ih
theorem pf_split {N L : Int} {r : PReg} {x : PObj} (h : pf N L r = some x) : ∃ X Y, r.objs = X ++ x :: Y ∧ ∀ y ∈ X, ¬ ((y.b.at_ : Int) = N) := by
  unfold pf at h
  split at h
  · obtain ⟨_, X, Y, e, hX⟩ := List.find?_eq_some_iff_append.1 h
    exact ⟨X, Y, e, fun y hy => by have := hX y hy; simpa using this⟩
  · cases h
theorem pfind_split {N L : Int} : ∀ {rs : List PReg} {x : PObj}, pfind N L rs = some x → ∃ A g B X Y, rs = A ++ g :: B ∧ g.objs = X ++ x :: Y ∧ (∀ a ∈ A, pf N L a = none) ∧ (g.life : Int) = L ∧ (x.b.at_ : Int) = N ∧ ∀ y ∈ X, ¬ ((y.b.at_ : Int) = N)
  | [], x, h => by simp [pfind] at h
  | r :: rs, x, h => by
    unfold pfind at h
    rw [List.findSome?_cons] at h
    cases hr : pf N L r with
    | some y =>
      rw [hr] at h
      cases h
      obtain ⟨X, Y, e, hX⟩ := pf_split hr
      obtain ⟨e1, e2, e3⟩ := pf_some hr
      exact ⟨[], r, rs, X, Y, rfl, e, (fun a ha => by cases ha), e1, e3, hX⟩
    | none =>
      rw [hr] at h
      obtain ⟨A, g, B, X, Y, e1, e2, e3, e4⟩ := pfind_split h
      exact ⟨r :: A, g, B, X, Y, by rw [e1]; rfl, e2, (fun a ha => by
        rcases List.mem_cons.1 ha with rfl | ha
        · exact hr
        · exact e3 a ha), e4⟩
theorem ok_wr {g : PReg} {X Y : List PObj} {x : PObj} (e : g.objs = X ++ x :: Y) (h : g.ok) (ws : List (Int × Int)) : PReg.ok { g with objs := X ++ x.wr ws :: Y } := by
  obtain ⟨l, c, e1, hl⟩ := h
  refine ⟨l, c, e1, fun a => (hl a).trans ?_⟩
  simp only [e, List.find?_append, List.find?_cons]
  have : (x.wr ws).b.at_ = x.b.at_ := rfl
  rw [this]
  cases List.find? (fun x => decide ((x.b.at_ : Int) = a)) X with
  | some _ => rfl
  | none => simp only [Option.none_or]; cases decide ((x.b.at_ : Int) = a) <;> rfl
theorem pfind_wr {N L : Int} {A B : List PReg} {g : PReg} {X Y : List PObj} {x : PObj} (hA : ∀ a ∈ A, pf N L a = none) (hg : (g.life : Int) = L) (hx : (x.b.at_ : Int) = N) (hX : ∀ y ∈ X, ¬ ((y.b.at_ : Int) = N)) (ws : List (Int × Int)) :
    pfind N L (A ++ { g with objs := X ++ x.wr ws :: Y } :: B) = some (x.wr ws) := by
  unfold pfind
  rw [List.findSome?_append, List.findSome?_eq_none_iff.2 hA, List.findSome?_cons]
  have : pf N L { g with objs := X ++ x.wr ws :: Y } = some (x.wr ws) := by
    unfold pf
    rw [if_pos hg]
    show (X ++ x.wr ws :: Y).find? _ = _
    rw [List.find?_append, List.find?_eq_none.2 (fun y hy => by simpa using hX y hy), List.find?_cons_of_pos (by show decide ((x.b.at_ : Int) = N) = true; simpa using hx)]
    rfl
  rw [this]
  rfl
theorem setP_m {lv : Nat} {u : List Bool} {A B : List PReg} {g : PReg} {X Y : List PObj} {x : PObj} {w : Int × Int} (h : RsOk lv u ((A ++ g :: B).map PReg.m)) (ex : g.objs = X ++ x :: Y) (hg : (g.life : Int) = w.2) (hx : (x.b.at_ : Int) = w.1) (f : List (Int × Int) → List (Int × Int)) :
    (A ++ { g with objs := X ++ x.wr (f x.b.ws) :: Y } :: B).map PReg.m = setM w f ((A ++ g :: B).map PReg.m) := by
  have hn := h.inv.nodup
  rw [List.map_map, List.map_append, List.map_cons, List.nodup_append] at hn
  obtain ⟨_, hn2, hn3⟩ := hn
  rw [List.nodup_cons] at hn2
  have hat := (h.inv.reg g.m (by simp)).nodup
  simp only [PReg.m, ex, List.map_append, List.map_cons, List.nodup_append] at hat
  obtain ⟨_, ha2, ha3⟩ := hat
  rw [List.nodup_cons] at ha2
  have same : ∀ a : PReg, ¬ ((a.life : Int) = w.2) → setReg1 w f a.m = a.m := fun a ha => if_neg ha
  have sameO : ∀ l : List PObj, (∀ y ∈ l, ¬ ((y.b.at_ : Int) = w.1)) → (l.map (·.b)).map (setObj1 w f) = l.map (·.b) := fun l hl => by
    rw [List.map_map]
    exact List.map_congr_left fun y hy => if_neg (hl y hy)
  unfold setM
  rw [List.map_append, List.map_append, List.map_cons, List.map_cons, List.map_append, List.map_cons]
  congr 1
  · rw [List.map_map]
    exact (List.map_congr_left fun a ha => same a fun e => hn3 _ (List.mem_map.2 ⟨a, ha, rfl⟩) _ (List.mem_cons_self ..) (by simp only [Function.comp, PReg.m]; omega)).symm
  · congr 1
    · unfold setReg1
      rw [if_pos (show (g.m.life : Int) = w.2 from hg)]
      simp only [PReg.m, ex, List.map_append, List.map_cons]
      congr 1
      rw [sameO X fun y hy e => ha3 _ (List.mem_map.2 ⟨y.b, List.mem_map.2 ⟨y, hy, rfl⟩, rfl⟩) _ (List.mem_cons_self ..) (by omega),
        sameO Y fun y hy e => ha2.1 (List.mem_map.2 ⟨y.b, List.mem_map.2 ⟨y, hy, rfl⟩, by omega⟩)]
      congr 2
      exact (if_pos hx).symm
    · rw [List.map_map]
      exact (List.map_congr_left fun a ha => same a fun e => hn2.1 (List.mem_map.2 ⟨a, ha, by simp only [Function.comp, PReg.m]; omega⟩)).symm
def fixF (mv : ToF) (fx : List (Int × Int)) (v : Int × Int) : Int × Int := if 0 ≤ (nowW mv fx v).2 ∧ (nowW mv fx v).2 ≤ 100000 then nowW mv fx v else v
theorem fixF_in {mv : ToF} {fx : List (Int × Int)} {v : Int × Int} (h : 0 ≤ v.2 ∧ v.2 ≤ 100000) : 0 ≤ (fixF mv fx v).2 ∧ (fixF mv fx v).2 ≤ 100000 := by
  unfold fixF; split
  · assumption
  · exact h
theorem setM_in {w : Int × Int} {f : List (Int × Int) → List (Int × Int)} {rs : List Reg} (hf : ∀ l : List (Int × Int), (∀ v ∈ l, 0 ≤ v.2 ∧ v.2 ≤ 100000) → ∀ v ∈ f l, 0 ≤ v.2 ∧ v.2 ≤ 100000)
    (h : ∀ r ∈ rs, ∀ x ∈ r.objs, ∀ v ∈ x.ws, 0 ≤ v.2 ∧ v.2 ≤ 100000) : ∀ r ∈ setM w f rs, ∀ x ∈ r.objs, ∀ v ∈ x.ws, 0 ≤ v.2 ∧ v.2 ≤ 100000 := by
  intro r hr x hx
  obtain ⟨g, hg, rfl⟩ := List.mem_map.1 hr
  unfold setReg1 at hx
  split at hx
  · obtain ⟨y, hy, rfl⟩ := List.mem_map.1 hx
    unfold setObj1
    split
    · exact hf _ (h g hg y hy)
    · exact h g hg y hy
  · exact h g hg x hx
theorem RsOk.wl {lv : Nat} {u : List Bool} {rs : List Reg} (h : RsOk lv u rs) : ∀ r ∈ rs, ∀ x ∈ r.objs, ∀ v ∈ x.ws, 0 ≤ v.2 ∧ v.2 ≤ 100000 := fun r hr => (h.inv.reg r hr).wl
end Go.Proofs.Ytoldkemimhebaaa

set_option linter.unusedSimpArgs false
set_option linter.unusedVariables false
namespace Go.Proofs.Ytoldkemimhebaaa
open Go Go.IM
section
variable {o : Nat → Option O} {s : St} {C F : Ch} {Q : V → St → Prop} {p r : Nat} {u : List Bool}
set_option maxRecDepth 10000
set_option maxHeartbeats 4000000
theorem upd_get {α : Type} (f : α → α) (l : List α) (j : Nat) : ((l.take j).map f ++ l.drop j)[j]? = l[j]? := by
  by_cases h : j < l.length
  · rw [List.getElem?_append_right (by simp; omega)]
    simp [List.length_take, Nat.min_eq_left (Nat.le_of_lt h)]
  · rw [List.getElem?_eq_none (by simp; omega), List.getElem?_eq_none (by omega)]
theorem upd_step {α : Type} (f : α → α) {l : List α} {j : Nat} {v : α} (h : l[j]? = some v) : ((l.take j).map f ++ l.drop j).set j (f v) = (l.take (j + 1)).map f ++ l.drop (j + 1) := by
  obtain ⟨hj, e⟩ := List.getElem?_eq_some_iff.1 h
  rw [List.set_append_right _ _ (by simp; omega), List.length_map, List.length_take, Nat.min_eq_left (Nat.le_of_lt hj), Nat.sub_self, List.drop_eq_getElem_cons hj, List.set_cons_zero, List.take_add_one, h, Option.toList_some, List.map_append, List.append_assoc]
  rfl
theorem upd_same {α : Type} (f : α → α) {l : List α} {j : Nat} {v : α} (h : l[j]? = some v) (hf : f v = v) : (l.take j).map f ++ l.drop j = (l.take (j + 1)).map f ++ l.drop (j + 1) := by
  rw [← upd_step f h]
  refine (List.ext_getElem? fun i => ?_)
  rw [List.getElem?_set]
  split
  · rename_i e; subst e; rw [upd_get, h, hf]
    obtain ⟨hj, _⟩ := List.getElem?_eq_some_iff.1 h
    rw [if_pos (by simp; omega)]
  · rfl
theorem word_eq (a b : Int × Int) : eqI (.key (.agg [.i, .i])) (.agg [I a.1, I a.2]) (.agg [I b.1, I b.2]) = some (decide (a = b)) := keyA a b
abbrev hpW (hp : PHeap) (A : List PReg) (g : PReg) (B : List PReg) (X : List PObj) (x : PObj) (Y : List PObj) (ws : List (Int × Int)) : PHeap := { hp with regs := A ++ { g with objs := X ++ x.wr ws :: Y } :: B }
theorem fix_round {hp : PHeap} {A B : List PReg} {g : PReg} {X Y : List PObj} {x : PObj} {w v : Int × Int} {c t tk fk hb cb wb ib kr j : Nat} {mt mf : O} {mv : ToF} {fx ws : List (Int × Int)} {v1 v4 v5 v94 v95 v96 v102 : V} {E : Ch}
    (hL : Look (PHeap.ch p (hpW hp A g B X x Y ws) ++ E) p (hpW hp A g B X x Y ws)) (hx : pfind w.1 w.2 (hpW hp A g B X x Y ws).regs = some (x.wr ws)) (hw0 : 0 < w.2) (hv : ws[j]? = some v) (hn : ws.length ≤ 31)
    (hs : ∀ y ∈ colC c t tk fk mt mf, y ∈ E) (mhb : (hb, some (.cells [ptrN hp.id] none)) ∈ E) (mcb : (cb, some (.cells [ptrN c] none)) ∈ E)
    (hmt : MapIs encA (fun w => (mv w).map encA) mt) (hmf : MapIs encA (seenF fx) mf)
    (H : Holds o s ((kr, some (.loop .ready)) :: (ib, some (.cells [I j] none)) :: (wb, some (.cells (encW w) none)) :: (PHeap.ch p (hpW hp A g B X x Y ws) ++ E)))
    (q : ∀ s' ws', ws' = (if fixF mv fx v = v then ws else ws.set j (fixF mv fx v)) → Holds o s' ((kr, some (.loop .ready)) :: (ib, some (.cells [I ((j + 1 : Nat) : Int)] none)) :: (wb, some (.cells (encW w) none)) :: (PHeap.ch p (hpW hp A g B X x Y ws') ++ E)) → Q (.bool true) s') :
    WP (roundI (loop PF, call PF) [103] a46_3 b46_3 (sp 132 [(1, v1), (2, ptrN hb), (4, v4), (5, v5), (6, ptrN cb), (16, ptrN wb), (17, ptrN ib), (94, v94), (95, v95), (96, v96), (102, v102)]) kr [.agg (encW v)] s) Q := by
  refine wp_roundI H.g0 rfl ?_
  rw [putAll_one]
  simp -implicitDefEqProofs only [↓GP, GB, GL, Nat.reduceAdd, Nat.reduceSub, Nat.reduceEqDiff, Nat.reduceMul, Nat.reduceLeDiff, Int.reduceBNe, Int.reduceBEq, Nat.reduceLT, reduceCtorEq, a46_3, encW]
  have h1 := (H.alloc (.cells [I 0, I 0] none)).set0 (.cells (encW v) none)
  refine wp_roundMid h1.tl.g0 ?_
  have h2 := h1.set1 (.loop .busy)
  have hb0 := s.next
  generalize hkb : s.next = kb at h2 ⊢
  simp only [encW] at h2
  generalize ((s.alloc (.cells [I 0, I 0] none)).set kb (.cells [I v.1, I v.2] none)).set kr (.loop .busy) = S at h2 ⊢
  have inE : ∀ (a : Nat × Option O) (C2 : Ch), ∀ y ∈ E, y ∈ C2 ++ (PHeap.ch p (hpW hp A g B X x Y ws) ++ E) := fun a C2 y hy => List.mem_append_right _ (List.mem_append_right _ hy)
  have fc := h2.mem (List.mem_cons_of_mem _ (List.mem_cons_of_mem _ (List.mem_cons_of_mem _ (List.mem_cons_of_mem _ (List.mem_append_right _ mcb)))))
  have f4 := h2.f4
  simp -implicitDefEqProofs only [↓GP, GB, GL, Nat.reduceAdd, Nat.reduceSub, Nat.reduceEqDiff, Nat.reduceMul, Nat.reduceLeDiff, Int.reduceBNe, Int.reduceBEq, Nat.reduceLT, reduceCtorEq, b46_3, fc, f4, encW]
  refine wp_in (s94 (w := v) h2 (fun y hy => List.mem_cons_of_mem _ (List.mem_cons_of_mem _ (List.mem_cons_of_mem _ (List.mem_cons_of_mem _ (List.mem_append_right _ (hs y hy)))))) hmt hmf fun s1 h3 => ?_)
  generalize hnw : nowW mv fx v = n at *
  have h4 := (h3.alloc (.cells [I 0, I 0] none)).set0 (.cells (encW n) none)
  have f5 := h3.f4
  have fh := h3.mem (List.mem_cons_of_mem _ (List.mem_cons_of_mem _ (List.mem_cons_of_mem _ (List.mem_cons_of_mem _ (List.mem_append_right _ mhb)))))
  have hweq := word_eq n v
  have hw1 := wrap_add1 (a := j) (by have := (List.getElem?_eq_some_iff.1 hv).1; omega)
  by_cases hnv : n = v
  · rw [decide_eq_true hnv] at hweq
    simp -implicitDefEqProofs only [↓GP, GB, GL, Nat.reduceAdd, Nat.reduceSub, Nat.reduceEqDiff, Nat.reduceMul, Nat.reduceLeDiff, Int.reduceBNe, Int.reduceBEq, Nat.reduceLT, reduceCtorEq, f5, encW, hweq, hw1]
    have h5 := h4.set3 (.cells [I ((j + 1 : Nat) : Int)] none)
    have hfx : fixF mv fx v = v := by unfold fixF; rw [hnw, hnv]; split <;> rfl
    refine wp_roundEnd h5.tl.tl.g0 ?_
    exact q _ ws (by rw [if_pos hfx]) (h5.set2 (.loop .ready)).tl.tl
  · rw [decide_eq_false hnv] at hweq
    simp -implicitDefEqProofs only [↓GP, GB, GL, Nat.reduceAdd, Nat.reduceSub, Nat.reduceEqDiff, Nat.reduceMul, Nat.reduceLeDiff, Int.reduceBNe, Int.reduceBEq, Nat.reduceLT, reduceCtorEq, f5, fh, encW, hweq]
    have hjl : j < ws.length := (List.getElem?_eq_some_iff.1 hv).1
    have hin : In ((s1.next, some (.cells (encW n) none)) :: (kb, some (.cells [I v.1, I v.2] none)) :: (kr, some (.loop .busy)) :: (ib, some (.cells [I j] none)) :: (wb, some (.cells [I w.1, I w.2] none)) :: (PHeap.ch p (hpW hp A g B X x Y ws) ++ E)) p (hpW hp A g B X x Y ws) :=
      ⟨fun y hy => List.mem_cons_of_mem _ (List.mem_cons_of_mem _ (List.mem_cons_of_mem _ (List.mem_cons_of_mem _ (List.mem_cons_of_mem _ (List.mem_append_left _ hy)))))⟩
    by_cases hvl : 0 ≤ n.2 ∧ n.2 ≤ 100000
    · have hfx : fixF mv fx v = n := by unfold fixF; rw [hnw, if_pos hvl]
      refine wp_in (s65 (hp := hpW hp A g B X x Y ws) (x := x.wr ws) (w := n) (F := (kr, some (.loop .busy)) :: (ib, some (.cells [I j] none)) :: (wb, some (.cells [I w.1, I w.2] none)) :: (x.id, some (x.wr ws).O) :: (g.id, some (PReg.hd { g with objs := X ++ x.wr ws :: Y })) :: (g.pgk, pagesO g.pages) :: (g.obk, PReg.obO (X ++ x.wr ws :: Y)) :: (g.plk, some g.pl) ::
          (X.flatMap PObj.ch ++ (Y.flatMap PObj.ch ++ ((hp.id, some ((hpW hp A g B X x Y ws).hd p)) :: (hp.rowk, (hpW hp A g B X x Y ws).row) :: (A.flatMap PReg.ch ++ (B.flatMap PReg.ch ++ E))))))
        h4 hin hL.ne hL.len hL.ok hw0 hvl hx hjl hn (fun s1 h => (Holds.of (h) (fun k => by simp +arith only [PObj.wr, PReg.hd, PReg.obO, HA, HB]) (fun k x => by simp only [PObj.wr, PReg.hd, PReg.obO, HA, HC]; grind only))) fun s2 h6 => ?_)
      have h7 : Holds o s2 ((kr, some (.loop .busy)) :: (ib, some (.cells [I j] none)) :: (wb, some (.cells [I w.1, I w.2] none)) :: (PHeap.ch p (hpW hp A g B X x Y (ws.set j n)) ++ E)) :=
        (Holds.of (h6) (fun k => by simp +arith only [PObj.wr, Obj.wr, PReg.hd, PReg.obO, PObj.O, PObj.W, PHeap.hd, PHeap.row, List.length_append, List.length_cons, List.map_append, List.map_cons, List.length_set, HA, HB]) (fun k x => by simp only [PObj.wr, Obj.wr, PReg.hd, PReg.obO, PObj.O, PObj.W, PHeap.hd, PHeap.row, List.length_append, List.length_cons, List.map_append, List.map_cons, List.length_set, HA, HC]; grind only))
      have f7 := h7.f3
      simp -implicitDefEqProofs only [↓GP, GB, GL, Nat.reduceAdd, Nat.reduceSub, Nat.reduceEqDiff, Nat.reduceMul, Nat.reduceLeDiff, Int.reduceBNe, Int.reduceBEq, Nat.reduceLT, reduceCtorEq, f7, hw1]
      have h8 := h7.set1 (.cells [I ((j + 1 : Nat) : Int)] none)
      refine wp_roundEnd h8.g0 ?_
      exact q _ (ws.set j n) (by rw [hfx, if_neg hnv]) (h8.set0 (.loop .ready))
    · have hfx : fixF mv fx v = v := by unfold fixF; rw [hnw, if_neg hvl]
      have hbf : (decide (0 ≤ n.2) && decide (n.2 ≤ 100000)) = false := by simpa using hvl
      refine wp_in (s65_err (VN := n.1) (VL := n.2) (err := 2) h4 (.inl (.inr ⟨hpW hp A g B X x Y ws, p, rfl, hin, hL.ne, hL.len, hL.ok, .inl ⟨rfl, fun hh => by rw [hbf] at hh; cases hh.2⟩⟩)) fun s2 h6 => ?_)
      have f6 := h6.tl.f4
      simp -implicitDefEqProofs only [↓GP, GB, GL, Nat.reduceAdd, Nat.reduceSub, Nat.reduceEqDiff, Nat.reduceMul, Nat.reduceLeDiff, Int.reduceBNe, Int.reduceBEq, Nat.reduceLT, reduceCtorEq, f6, hw1]
      have h7 := h6.set3 (.cells [I ((j + 1 : Nat) : Int)] none)
      refine wp_roundEnd h7.tl.tl.g0 ?_
      exact q _ ws (by rw [if_pos hfx]) (h7.set2 (.loop .ready)).tl.tl
def fixM (mv : ToF) (fx : List (Int × Int)) (rs : List Reg) (w : Int × Int) : List Reg := setM w (List.map (fixF mv fx)) rs
theorem map_len (f : Int × Int → Int × Int) : ∀ l : List (Int × Int), (l.map f).length = l.length := fun l => by simp
theorem cwords_loop {c t tk fk hb cb ko id lv : Nat} {v1 v4 v5 : V} {mt mf : O} {mv : ToF} {fx Os : List (Int × Int)} {E : Ch} {K : Kt} (hs : ∀ y ∈ colC c t tk fk mt mf, y ∈ E) (mhb : (hb, some (.cells [ptrN id] none)) ∈ E) (mcb : (cb, some (.cells [ptrN c] none)) ∈ E)
    (mo : (ko, rowO 2 Os.length (Os.flatMap encW)) ∈ E) (hmt : MapIs encA (fun w => (mv w).map encA) mt) (hmf : MapIs encA (seenF fx) mf) (hl : Os.length ≤ 1000000) :
    ∀ (n i : Nat) (hp : PHeap) (s : St), i + n = Os.length → hp.id = id → hp.lives = lv → RsOk lv u (hp.regs.map PReg.m) → (∀ g ∈ hp.regs, g.ok) → (∀ w ∈ Os, 0 < w.2 ∧ (mfind w.1 w.2 (hp.regs.map PReg.m)).isSome = true) → Holds o s (hp.ch p ++ E) →
    (∀ s' (hp' : PHeap), hp'.id = id → hp'.lives = lv → hp'.regs.length = hp.regs.length → hp'.regs.map PReg.m = (Os.drop i).foldl (fixM mv fx) (hp.regs.map PReg.m) → RsOk lv u (hp'.regs.map PReg.m) → (∀ g ∈ hp'.regs, g.ok) → Holds o s' (hp'.ch p ++ E) → WP (K (.exit 6) (sp 132 [(1, v1), (6, ptrN cb)]) s') Q) →
    WP (loop PF (.loop l46_4) (sp 132 [(1, v1), (2, ptrN hb), (4, v4), (5, v5), (6, ptrN cb), (94, rowV ko Os.length), (95, I Os.length), (96, I i)]) s K) Q := by
  intro n
  induction n with
  | zero =>
    intro i hp s hi hid hlv hR hok hfd H q
    have hlt : ¬ ((i : Int) < (Os.length : Int)) := by omega
    rw [List.drop_eq_nil_of_le (by omega), List.foldl_nil] at q
    refine wp_round fun LL hLL => ?_
    simp -implicitDefEqProofs only [↓GP, GB, GL, Nat.reduceAdd, Nat.reduceSub, Nat.reduceEqDiff, Nat.reduceMul, Nat.reduceLeDiff, Int.reduceBNe, Int.reduceBEq, Nat.reduceLT, reduceCtorEq, l46_4, hlt]
    exact q s hp hid hlv rfl rfl hR hok H
  | succ n ih =>
    intro i hp s hi hid hlv hR hok hfd H q
    have hlt : ((i : Int) < (Os.length : Int)) := by omega
    have hi' : i < Os.length := by omega
    have hw1 := wrap_add1 (a := i) (by omega)
    have hix := ix_row (sz := 2) (k := ko) (n := Os.length) (i := i) (kk := .i64) hi'
    have er : rowO 2 Os.length (Os.flatMap encW) = some (.cells (Os.flatMap encW) (some 2)) := by unfold rowO; rw [if_neg (by omega)]
    have fr := H.mem (List.mem_append_right _ (er ▸ mo))
    have fh := H.mem (List.mem_append_right _ mhb)
    have hld := ldN_tab (enc := encW) encW_len Os (some 2) (List.getElem?_eq_getElem hi')
    obtain ⟨hw0, hfi⟩ := hfd _ (List.getElem_mem hi')
    rw [List.drop_eq_getElem_cons hi', List.foldl_cons] at q
    generalize Os[i] = w at q hld hw0 hfi
    have h1 := (H.alloc (.cells [I 0, I 0] none)).set0 (.cells (encW w) none)
    have h2 := (h1.alloc (.cells [I 0] none)).set0 (.cells [I 0] none)
    refine wp_round fun LL hLL => ?_
    simp -implicitDefEqProofs only [↓GP, GB, GL, Nat.reduceAdd, Nat.reduceSub, Nat.reduceEqDiff, Nat.reduceMul, Nat.reduceLeDiff, Int.reduceBNe, Int.reduceBEq, Nat.reduceLT, reduceCtorEq, l46_4, hlt, hix, fr, fh, hld, encW]
    refine wp_in (s93 (id := id) (w := w) h2 fun s1 a b h3 => ?_)
    simp -implicitDefEqProofs only [↓GP, GB, GL, Nat.reduceAdd, Nat.reduceSub, Nat.reduceEqDiff, Nat.reduceMul, Nat.reduceLeDiff, Int.reduceBNe, Int.reduceBEq, Nat.reduceLT, reduceCtorEq]
    rw [← pfind_m, Option.isSome_map] at hfi
    obtain ⟨x, hx⟩ := Option.isSome_iff_exists.1 hfi
    obtain ⟨A, g, B, X, Y, hr, ex, k1, k2, k3, k4⟩ := pfind_split hx
    have hlen : hp.regs.length ≤ 100000 := by have h1 := hR.inv.len; have h2 := hR.inv.lives; rw [List.length_map] at h1; omega
    have hri : ∀ g0 ∈ hp.regs, ∀ y ∈ g0.objs, y.b.ws.length ≤ 31 := fun g0 m0 y my => ((hR.inv.reg g0.m (List.mem_map.2 ⟨g0, m0, rfl⟩)).ws y.b (List.mem_map.2 ⟨y, my, rfl⟩)).2.1
    have mg : g ∈ hp.regs := by rw [hr]; simp
    have hxl : x.b.ws.length ≤ 31 := hri g mg x (by rw [ex]; simp)
    have hpe : hpW hp A g B X x Y x.b.ws = hp := by
      have e1 : ({ g with objs := X ++ x.wr x.b.ws :: Y } : PReg) = g := by rw [show x.wr x.b.ws = x from rfl, ← ex]
      show ({ hp with regs := A ++ { g with objs := X ++ x.wr x.b.ws :: Y } :: B } : PHeap) = hp
      rw [e1, ← hr]
    simp only [set_next, alloc_next] at h3
    generalize s.next + 1 = ib at h3 ⊢
    generalize s.next = wb at h3 ⊢
    have h4 := h3.alloc (.loop .ready)
    subst hid
    have h5 : Holds o (s1.alloc (.loop .ready)) ((s1.next, some (.loop .ready)) :: (ib, some (.cells [I 0] none)) :: (wb, some (.cells (encW w) none)) :: (PHeap.ch p (hpW hp A g B X x Y x.b.ws) ++ ((a, some (.cells [ptrN hp.id] none)) :: (b, some (.cells (encW w) none)) :: E))) := by
      rw [hpe]; exact (Holds.of (h4) (fun k => by simp +arith only [HA, HB]) (fun k x => by simp only [HA, HC]; grind only))
    have lookW : ∀ (ws : List (Int × Int)) (D : Ch), ws.length = x.b.ws.length → (∀ y ∈ PHeap.ch p (hpW hp A g B X x Y ws), y ∈ D) → Look D p (hpW hp A g B X x Y ws) := fun ws D hwsl hD => by
      refine ⟨⟨hD⟩, by simp, by have := hlen; rw [hr] at this; simpa using this, fun g0 m0 => ?_, fun g0 m0 y my => ?_⟩
      · rcases List.mem_append.1 m0 with m0 | m0
        · exact hok g0 (by rw [hr]; exact List.mem_append_left _ m0)
        · rcases List.mem_cons.1 m0 with rfl | m0
          · exact ok_wr ex (hok g mg) ws
          · exact hok g0 (by rw [hr]; simp [m0])
      · rcases List.mem_append.1 m0 with m0 | m0
        · exact hri g0 (by rw [hr]; exact List.mem_append_left _ m0) y my
        · rcases List.mem_cons.1 m0 with rfl | m0
          · rcases List.mem_append.1 my with my | my
            · exact hri g mg y (by rw [ex]; exact List.mem_append_left _ my)
            · rcases List.mem_cons.1 my with rfl | my
              · show ws.length ≤ 31; omega
              · exact hri g mg y (by rw [ex]; simp [my])
          · exact hri g0 (by rw [hr]; simp [m0]) y my
    have hlenw : ∀ (j : Nat) (ws : List (Int × Int)), ws = (x.b.ws.take j).map (fixF mv fx) ++ x.b.ws.drop j → ws.length = x.b.ws.length := fun j ws e => by
      rw [e]; simp; omega
    rw [go_range]
    refine wp_range (g := 116) (pre := []) (caps := [ptrN a, ptrN b]) (by simp -implicitDefEqProofs only [↓GP, GB, GL, Nat.reduceAdd, Nat.reduceSub, Nat.reduceEqDiff, Nat.reduceMul, Nat.reduceLeDiff, Int.reduceBNe, Int.reduceBEq, Nat.reduceLT, reduceCtorEq]) ?_
    refine s116 (γ := List (Int × Int) × Nat) (fun g2 => (s1.next, some (.loop .ready)) :: (ib, some (.cells [I g2.2] none)) :: (wb, some (.cells (encW w) none)) :: (PHeap.ch p (hpW hp A g B X x Y g2.1) ++ ((a, some (.cells [ptrN hp.id] none)) :: (b, some (.cells (encW w) none)) :: E)))
      (fun j g2 => g2.2 = j ∧ g2.1 = (x.b.ws.take j).map (fixF mv fx) ++ x.b.ws.drop j) (fun g2 => hpW hp A g B X x Y g2.1) (fun g2 => x.wr g2.1) (n := x.b.ws.length) (id := hp.id) (p := p) hxl hw0
      (fun j g2 hP => ⟨lookW _ _ (hlenw j _ hP.2) (fun y hy => List.mem_cons_of_mem _ (List.mem_cons_of_mem _ (List.mem_cons_of_mem _ (List.mem_append_left _ hy)))), rfl, pfind_wr k1 k2 k3 k4 g2.1, hlenw j _ hP.2⟩)
      (fun g2 => List.mem_cons_of_mem _ (List.mem_cons_of_mem _ (List.mem_cons_of_mem _ (List.mem_append_right _ (List.mem_cons_self ..)))))
      (fun g2 => List.mem_cons_of_mem _ (List.mem_cons_of_mem _ (List.mem_cons_of_mem _ (List.mem_append_right _ (List.mem_cons_of_mem _ (List.mem_cons_self ..)))))) ?_ (g := (x.b.ws, 0)) ⟨rfl, by simp⟩ h5 fun s2 g2 hP h6 => ?_
    · intro j g2 s2 v hP H2 hv
      obtain ⟨ws, jj⟩ := g2
      obtain ⟨rfl, hws⟩ := hP
      simp only at hws H2 hv
      have hvx : x.b.ws[jj]? = some v := by rw [← upd_get (fixF mv fx), ← hws]; exact hv
      refine fix_round (w := w) (t := t) (tk := tk) (fk := fk) (mt := mt) (mf := mf) (mv := mv) (fx := fx) (lookW ws _ (hlenw jj _ hws) (fun y hy => List.mem_append_left _ hy)) (pfind_wr k1 k2 k3 k4 ws) hw0 hv (by rw [hlenw jj _ hws]; exact hxl)
        (fun y hy => List.mem_cons_of_mem _ (List.mem_cons_of_mem _ (hs y hy))) (List.mem_cons_of_mem _ (List.mem_cons_of_mem _ mhb)) (List.mem_cons_of_mem _ (List.mem_cons_of_mem _ mcb)) hmt hmf H2 fun s3 ws' e h7 => ?_
      refine ⟨rfl, (ws', jj + 1), ⟨rfl, ?_⟩, h7⟩
      show ws' = _
      rw [e]
      split
      · rename_i hfv; rw [hws]; exact upd_same _ hvx hfv
      · rw [hws]; exact upd_step _ hvx
    · obtain ⟨ws, jj⟩ := g2
      obtain ⟨rfl, hws⟩ := hP
      simp only at hws h6
      rw [List.take_length, List.drop_length, List.append_nil] at hws
      have hm1 : (hpW hp A g B X x Y ws).regs.map PReg.m = fixM mv fx (hp.regs.map PReg.m) w := by
        have := setP_m (f := List.map (fixF mv fx)) (w := w) (by rw [← hr]; exact hR) ex k2 k3
        rw [← hws, ← hr] at this
        exact this
      have hR1 : RsOk lv u ((hpW hp A g B X x Y ws).regs.map PReg.m) := by
        rw [hm1]; exact hR.ofShape (setM_shape w (map_len _) _) (setM_in (fun l hl v hv => by obtain ⟨a, ha, rfl⟩ := List.mem_map.1 hv; exact fixF_in (hl a ha)) hR.wl)
      have hlr : (hpW hp A g B X x Y ws).regs.length = hp.regs.length := by rw [hr]; simp
      refine wp_rangeEnd h6.g0 ?_
      simp -implicitDefEqProofs only [↓GP, GB, GL, Nat.reduceAdd, Nat.reduceSub, Nat.reduceEqDiff, Nat.reduceMul, Nat.reduceLeDiff, Int.reduceBNe, Int.reduceBEq, Nat.reduceLT, reduceCtorEq, hw1]
      rw [hLL]
      refine ih (i + 1) (hpW hp A g B X x Y ws) (s2.kill s1.next) (by omega) rfl hlv hR1 (lookW ws _ (by rw [hws]; simp) (fun y hy => hy)).ok (fun w' hw' => ?_) (Holds.of (h6.kill) (fun k => by simp +arith only [HA, HB]) (fun k x => by simp only [HA, HC]; grind only)) ?_
      · obtain ⟨q1, q2⟩ := hfd w' hw'
        rw [hm1]
        exact ⟨q1, by unfold fixM; rw [mfind_set]; exact q2⟩
      · intro s' hp' e1 e2 e3 e4
        rw [hlr] at e3
        rw [hm1] at e4
        exact q s' hp' e1 e2 e3 e4
end
end Go.Proofs.Ytoldkemimhebaaa

set_option linter.unusedSimpArgs false
set_option linter.unusedVariables false
namespace Go.Proofs.Ytoldkemimhebaaa
open Go Go.IM
section
variable {o : Nat → Option O} {s : St} {C F : Ch} {Q : V → St → Prop}
set_option maxRecDepth 10000
set_option maxHeartbeats 4000000
end
end Go.Proofs.Ytoldkemimhebaaa

set_option linter.unusedSimpArgs false
set_option linter.unusedVariables false
namespace Go.Proofs.Ytoldkemimhebaaa
open Go Go.IM
theorem updF_other : ∀ (ps : List ((Int × Int) × (Int × Int))) (f : ToF) (w : Int × Int), (∀ x ∈ ps, x.1 ≠ w) → (ps.foldl updF f) w = f w
  | [], _, _, _ => rfl
  | x :: ps, f, w, h => by
    rw [List.foldl_cons, updF_other ps _ w fun y hy => h y (List.mem_cons_of_mem _ hy)]
    unfold updF
    rw [if_neg (fun e => h x (List.mem_cons_self ..) e.symm)]
theorem updF_mem : ∀ (ks ns : List (Int × Int)) (f : ToF) (w : Int × Int), ns.length = ks.length → w ∈ ks → ∃ n ∈ ns, ((ks.zip ns).foldl updF f) w = some n
  | [], _, _, _, _, h => by cases h
  | _ :: _, [], _, _, h, _ => by simp at h
  | k :: ks, n :: ns, f, w, hl, h => by
    rw [List.zip_cons_cons, List.foldl_cons]
    by_cases hw : w ∈ ks
    · obtain ⟨m, h1, h2⟩ := updF_mem ks ns (updF f (k, n)) w (by simpa using hl) hw
      exact ⟨m, List.mem_cons_of_mem _ h1, h2⟩
    · have e : w = k := by rcases List.mem_cons.1 h with h | h; exact h; exact absurd h hw
      refine ⟨n, List.mem_cons_self .., ?_⟩
      rw [updF_other]
      · unfold updF; rw [if_pos e]
      · intro x hx e2
        exact hw (e2 ▸ (List.of_mem_zip hx).1)
def Points (rs : List Reg) (w : Int × Int) : Prop := 0 < w.2 ∧ ∃ r ∈ rs, (r.life : Int) = w.2 ∧ ∃ x ∈ r.objs, (x.at_ : Int) = w.1
theorem Points.find {rs : List Reg} {w : Int × Int} (h : Points rs w) : 0 < w.2 ∧ (mfind w.1 w.2 rs).isSome = true := by
  obtain ⟨h0, r, hr, h1, x, hx, h2⟩ := h
  refine ⟨h0, ?_⟩
  unfold mfind
  rw [List.findSome?_isSome_iff]
  refine ⟨r, hr, ?_⟩
  rw [if_pos h1, List.find?_isSome]
  exact ⟨x, hx, by simpa using h2⟩
theorem Points.mono {rs rs' : List Reg} {w : Int × Int} (h : Points rs w) (hs : ∀ r ∈ rs, r ∈ rs') : Points rs' w := by
  obtain ⟨h0, r, hr, h1⟩ := h
  exact ⟨h0, r, hs r hr, h1⟩
theorem layObj_at : ∀ (ys : List Obj) (ats : List Nat), ats.length = ys.length → ∀ a ∈ ats, ∃ y ∈ layObj ys ats, y.at_ = a
  | [], [], _, a, h => by cases h
  | [], _ :: _, h, _, _ => by simp at h
  | _ :: _, [], h, _, _ => by simp at h
  | y :: ys, b :: ats, hl, a, h => by
    simp only [layObj, List.zipWith_cons_cons]
    rcases List.mem_cons.1 h with rfl | h
    · exact ⟨_, List.mem_cons_self .., rfl⟩
    · obtain ⟨z, h1, h2⟩ := layObj_at ys ats (by simpa using hl) a h
      exact ⟨z, List.mem_cons_of_mem _ h1, h2⟩
structure ColInv (L : List (Int × Int)) (lv : Nat) (A B : List Reg) (S : ColS) : Prop where
  ok : RsOk lv S.u (S.regs ++ B)
  lives : S.regs.map (·.life) = A.map (·.life)
  objs : ∀ w ∈ S.objs, Points S.regs w
  fx : ∀ g ∈ A, ¬ 0 < g.pages.length → ∀ w ∈ wordsR g, w ∈ S.fx
  mv : ∀ g ∈ A, 0 < g.pages.length → ∀ x ∈ g.objs, ((x.at_ : Int), (g.life : Int)) ∈ L → ∃ n, S.mv ((x.at_ : Int), (g.life : Int)) = some n ∧ Points S.regs n
theorem ColInv.step {L : List (Int × Int)} {lv : Nat} {A B : List Reg} {S : ColS} {g : Reg} (h : ColInv L lv A (g :: B) S) : ColInv L lv (A ++ [g]) B (colStep L S g) := by
  have hI := h.ok.inv
  have hri := hI.reg g (by simp)
  have hlf := hI.life g (by simp)
  unfold colStep
  by_cases hp : 0 < g.pages.length
  · rw [if_pos hp]
    have hs : g.size = 0 := by
      rcases Nat.eq_zero_or_pos g.size with h | h
      · exact h
      · have := (hri.fin h).1; rw [this] at hp; simp at hp
    obtain ⟨ats, u', fill', pages', hlay, hnd, hpl, hal, hul, hR⟩ := h.ok.turn hs (ys := keptM L g) (List.filter_sublist ..)
    rw [hlay]
    simp only
    have hsub : ∀ r ∈ S.regs, r ∈ S.regs ++ [({ g with fill := fill', pages := pages', objs := layObj (keptM L g) ats } : Reg)] := fun r hr => List.mem_append_left _ hr
    have hnew : ∀ x ∈ keptM L g, ∃ n, (((keptM L g).map fun x => ((x.at_ : Int), (g.life : Int))).zip (ats.map fun a : Nat => ((a : Int), (g.life : Int)))).foldl updF S.mv ((x.at_ : Int), (g.life : Int)) = some n ∧ Points (S.regs ++ [({ g with fill := fill', pages := pages', objs := layObj (keptM L g) ats } : Reg)]) n := by
      intro x hx
      obtain ⟨n, h1, h2⟩ := updF_mem ((keptM L g).map fun x => ((x.at_ : Int), (g.life : Int))) (ats.map fun a : Nat => ((a : Int), (g.life : Int))) S.mv ((x.at_ : Int), (g.life : Int)) (by simp [hal]) (List.mem_map.2 ⟨x, hx, rfl⟩)
      obtain ⟨a, ha, rfl⟩ := List.mem_map.1 h1
      obtain ⟨y, hy, hya⟩ := layObj_at (keptM L g) ats hal a ha
      exact ⟨_, h2, by simp only; omega, _, List.mem_append_right _ (List.mem_cons_self ..), rfl, y, hy, by rw [hya]⟩
    refine ⟨by simpa using hR, by rw [List.map_append, List.map_append, h.lives]; rfl, fun w hw => (h.objs w hw).mono hsub, fun g0 m0 h0 w hw => ?_, fun g0 m0 h0 x hx hL => ?_⟩
    · rcases List.mem_append.1 m0 with m0 | m0
      · exact h.fx g0 m0 h0 w hw
      · simp at m0; subst m0; exact absurd hp h0
    · rcases List.mem_append.1 m0 with m0 | m0
      · obtain ⟨n, h1, h2⟩ := h.mv g0 m0 h0 x hx hL
        refine ⟨n, ?_, h2.mono hsub⟩
        show (List.foldl updF S.mv _) _ = some n
        rw [updF_other, h1]
        intro y hy e
        obtain ⟨hy1, _⟩ := List.of_mem_zip hy
        obtain ⟨z, _, hz⟩ := List.mem_map.1 hy1
        rw [← hz] at e
        simp only [Prod.mk.injEq] at e
        have hn := hI.nodup
        rw [List.map_append, List.map_cons, h.lives, List.nodup_append] at hn
        exact hn.2.2 _ (List.mem_map.2 ⟨g0, m0, rfl⟩) _ (List.mem_cons_self ..) (by omega)
      · simp at m0; subst m0
        exact hnew x (by unfold keptM; exact List.mem_filter.2 ⟨hx, by simpa using hL⟩)
  · rw [if_neg hp]
    have hsub : ∀ r ∈ S.regs, r ∈ S.regs ++ [g] := fun r hr => List.mem_append_left _ hr
    refine ⟨by simpa using h.ok, by rw [List.map_append, List.map_append, h.lives], fun w hw => ?_, fun g0 m0 h0 w hw => ?_, fun g0 m0 h0 x hx hL => ?_⟩
    · rcases List.mem_append.1 hw with hw | hw
      · exact (h.objs w hw).mono hsub
      · obtain ⟨x, hx, rfl⟩ := List.mem_map.1 hw
        exact ⟨by simp only; omega, g, by simp, rfl, x, hx, rfl⟩
    · rcases List.mem_append.1 m0 with m0 | m0
      · exact List.mem_append_left _ (h.fx g0 m0 h0 w hw)
      · simp at m0; subst m0; exact List.mem_append_right _ hw
    · rcases List.mem_append.1 m0 with m0 | m0
      · obtain ⟨n, h1, h2⟩ := h.mv g0 m0 h0 x hx hL
        exact ⟨n, h1, h2.mono hsub⟩
      · simp at m0; subst m0; exact absurd h0 hp
theorem ColInv.all {L : List (Int × Int)} {lv : Nat} : ∀ {B A : List Reg} {S : ColS}, ColInv L lv A B S → ColInv L lv (A ++ B) [] (B.foldl (colStep L) S)
  | [], A, S, h => by simpa using h
  | g :: B, A, S, h => by
    have := (h.step).all
    rw [List.append_assoc] at this
    exact this
theorem ColInv.start {L : List (Int × Int)} {lv : Nat} {u : List Bool} {B : List Reg} (h : RsOk lv u B) : ColInv L lv [] B ⟨[], u, fun _ => none, [], []⟩ :=
  ⟨h, rfl, fun w hw => (by cases hw), fun g hg => (by cases hg), fun g hg => (by cases hg)⟩
def colAll (L : List (Int × Int)) (u : List Bool) (rs : List Reg) : ColS := rs.foldl (colStep L) ⟨[], u, fun _ => none, [], []⟩
def colObjs (L : List (Int × Int)) (S : ColS) : List (Int × Int) := S.objs ++ (L.filter fun w => !decide (w ∈ S.fx)).map (toD S.mv)
def colRegs (L : List (Int × Int)) (S : ColS) : List Reg := (colObjs L S).foldl (fixM S.mv S.fx) S.regs
theorem thereB_m {hp : PHeap} {w : Int × Int} (h : thereB hp w = true) : Points (hp.regs.map PReg.m) w := by
  unfold thereB at h
  simp only [Bool.and_eq_true, decide_eq_true_eq] at h
  obtain ⟨x, hx⟩ := Option.isSome_iff_exists.1 h.2
  obtain ⟨A, g, B, X, Y, hr, ex, k1, k2, k3, k4⟩ := pfind_split hx
  exact ⟨h.1, g.m, List.mem_map.2 ⟨g, by rw [hr]; simp, rfl⟩, k2, x.b, List.mem_map.2 ⟨x, by rw [ex]; simp, rfl⟩, k3⟩
theorem colObjs_points {lv : Nat} {u : List Bool} {hp : PHeap} {L : List (Int × Int)} (h : RsOk lv u (hp.regs.map PReg.m)) (hL : ∀ w ∈ L, thereB hp w = true) :
    ∀ w ∈ colObjs L (colAll L u (hp.regs.map PReg.m)), Points (colAll L u (hp.regs.map PReg.m)).regs w := by
  have hI := (ColInv.start (L := L) h).all
  rw [List.nil_append] at hI
  intro w hw
  rcases List.mem_append.1 hw with hw | hw
  · exact hI.objs w hw
  · obtain ⟨v, hv, rfl⟩ := List.mem_map.1 hw
    obtain ⟨hvL, hvf⟩ := List.mem_filter.1 hv
    obtain ⟨h0, g, hg, h1, x, hx, h2⟩ := thereB_m (hL v hvL)
    have ev : v = ((x.at_ : Int), (g.life : Int)) := Prod.ext h2.symm h1.symm
    by_cases hp0 : 0 < g.pages.length
    · obtain ⟨n, q1, q2⟩ := hI.mv g hg hp0 x hx (ev ▸ hvL)
      unfold toD
      rw [ev]
      rw [show (colAll L u (hp.regs.map PReg.m)).mv ((x.at_ : Int), (g.life : Int)) = some n from q1]
      exact q2
    · have := hI.fx g hg hp0 v (by rw [ev]; exact List.mem_map.2 ⟨x, hx, rfl⟩)
      simp only [Bool.not_eq_true', decide_eq_false_iff_not] at hvf
      exact absurd this hvf
end Go.Proofs.Ytoldkemimhebaaa

set_option linter.unusedSimpArgs false
set_option linter.unusedVariables false
namespace Go.Proofs.Ytoldkemimhebaaa
open Go Go.IM
section
variable {o : Nat → Option O} {s : St} {C F : Ch} {Q : V → St → Prop} {p r : Nat} {u : List Bool}
set_option maxRecDepth 10000
set_option maxHeartbeats 4000000
theorem RsOk.look {hp : PHeap} {D : Ch} {lv : Nat} (h : RsOk lv u (hp.regs.map PReg.m)) (hok : ∀ g ∈ hp.regs, g.ok) (hD : ∀ y ∈ hp.ch p, y ∈ D) : Look D p hp := by
  refine ⟨⟨hD⟩, fun e => h.inv.ne (by rw [e]; rfl), by have h1 := h.inv.len; have h2 := h.inv.lives; rw [List.length_map] at h1; omega, hok, fun g0 m0 y my => ?_⟩
  exact ((h.inv.reg g0.m (List.mem_map.2 ⟨g0, m0, rfl⟩)).ws y.b (List.mem_map.2 ⟨y, my, rfl⟩)).2.1
theorem s46 {hp : PHeap} {kr : Nat} {roots : List (Int × Int)} (H : Holds o s (poolC p r u ++ (hp.ch p ++ F))) (hR : RsOk hp.lives u (hp.regs.map PReg.m)) (hok : ∀ g ∈ hp.regs, g.ok) (hr : (kr, rowO 2 roots.length (roots.flatMap encW)) ∈ F) (hrl : roots.length ≤ 1000) (hall : (allW hp).length ≤ 90000)
    (q : ∀ s' (hp' : PHeap) kout, hp'.id = hp.id → hp'.lives = hp.lives → hp'.regs.length = hp.regs.length → hp'.regs.map PReg.m = colRegs (reachW hp roots) (colAll (reachW hp roots) u (hp.regs.map PReg.m)) → RsOk hp.lives (colAll (reachW hp roots) u (hp.regs.map PReg.m)).u (hp'.regs.map PReg.m) → (∀ g ∈ hp'.regs, g.ok) →
      Holds o s' ((kout, rowO 2 roots.length ((roots.map (nowW (colAll (reachW hp roots) u (hp.regs.map PReg.m)).mv (colAll (reachW hp roots) u (hp.regs.map PReg.m)).fx)).flatMap encW)) :: (poolC p r (colAll (reachW hp roots) u (hp.regs.map PReg.m)).u ++ (hp'.ch p ++ F))) →
      Q (.tuple [rowV kout roots.length, I 0]) s') : WP (call PF 46 [ptrN hp.id, rowV kr roots.length] s) Q := by
  have h1 := H.alloc (.cells [ptrN hp.id] none)
  have inH : ∀ y ∈ hp.ch p, y ∈ (s.next, some (O.cells [ptrN hp.id] none)) :: (poolC p r u ++ (hp.ch p ++ F)) := fun y hy => List.mem_cons_of_mem _ (List.mem_append_right _ (List.mem_append_left _ hy))
  have lk1 := hR.look hok inH
  have e89 := s89 h1 lk1.hin lk1.ne lk1.len
  have hfound := Found.reach hp roots
  have hLl := hfound.len
  have hpts := colObjs_points hR hfound.there
  rw [call_run F46]; simp -implicitDefEqProofs only [↓GP, GB, GL, Nat.reduceAdd, Nat.reduceSub, Nat.reduceEqDiff, Nat.reduceMul, Nat.reduceLeDiff, Int.reduceBNe, Int.reduceBEq, Nat.reduceLT, reduceCtorEq, c46, e89]
  refine wp_in (s90 h1 lk1 (List.mem_cons_of_mem _ (List.mem_append_right _ (List.mem_append_right _ hr))) (by omega) hall fun s1 t lk mk m hm h2 => ?_)
  generalize hL : reachW hp roots = L at *
  generalize hhb : s.next = hb at h2 ⊢
  have h3 := ((((h2.alloc (.map [] 0)).alloc (.map [] 0)).alloc (.cells [ptrN t, .map (some (.new s1.next)), .map (some (.new (s1.next + 1)))] none)).alloc (.cells [.ptr none] none)).set0 (.cells [ptrN (s1.next + 2)] none)
  have fhb := h2.mem (List.mem_append_right _ (List.mem_cons_self ..))
  simp -implicitDefEqProofs only [↓GP, GB, GL, Nat.reduceAdd, Nat.reduceSub, Nat.reduceEqDiff, Nat.reduceMul, Nat.reduceLeDiff, Int.reduceBNe, Int.reduceBEq, Nat.reduceLT, reduceCtorEq, fhb]
  simp only [alloc_next, Nat.add_assoc, Nat.reduceAdd] at h3
  generalize ((((s1.alloc (.map [] 0)).alloc (.map [] 0)).alloc (.cells [ptrN t, .map (some (.new s1.next)), .map (some (.new (s1.next + 1)))] none)).alloc (.cells [.ptr none] none)).set (s1.next + 3) (.cells [ptrN (s1.next + 2)] none) = S2 at h3 ⊢
  generalize s1.next + 3 = cb at h3 ⊢
  generalize s1.next + 2 = c at h3 ⊢
  generalize s1.next + 1 = fk at h3 ⊢
  generalize s1.next = tk at h3 ⊢
  have h4 : Holds o S2 ((0, rowO 2 ([] : List (Int × Int)).length (([] : List (Int × Int)).flatMap encW)) :: (poolC p r u ++ (hp.ch p ++ (colC c t tk fk (.map [] 0) (.map [] 0) ++ (huntC t lk mk (ptrN hp.id) L m ++ ((hb, some (.cells [ptrN hp.id] none)) :: (cb, some (.cells [ptrN c] none)) :: F)))))) :=
    (Holds.of (h3.nilEntry 0) (fun k => by simp +arith only [colC, List.length_nil, List.flatMap_nil, rowO_z, HA, HB]) (fun k x => by simp only [colC, List.length_nil, List.flatMap_nil, rowO_z, HA, HC]; grind only))
  have e27 := s27 h4 (hp := hp) (p := p) ⟨fun y hy => List.mem_cons_of_mem _ (List.mem_append_right _ (List.mem_append_left _ hy))⟩
  simp -implicitDefEqProofs only [↓GP, GB, GL, Nat.reduceAdd, Nat.reduceSub, Nat.reduceEqDiff, Nat.reduceMul, Nat.reduceLeDiff, Int.reduceBNe, Int.reduceBEq, Nat.reduceLT, reduceCtorEq, e27]
  have hcl := col_loop (K := blockK 0 (seqK (loop PF) (call PF) j46_bbbbb (finR [(4, none), (5, none)]))) (Q := Q) (v1 := rowV kr roots.length) (v4 := .slice none 0 (some 0)) (v5 := I 0) (List.mem_cons_self ..) (List.mem_cons_of_mem _ (List.mem_cons_self ..)) hm hp.regs [] hp ⟨[], u, fun _ => none, [], []⟩ 0 (.map [] 0) (.map [] 0) S2 rfl rfl rfl rfl hR hok (by simp) mapIs_nil seenF_nil h4
  simp only [List.length_nil, Int.natCast_zero] at hcl
  refine hcl fun s3 hp1 ko mt mf e1 e2 e3 e4 hR1 hok1 hob hmt hmf h5 => ?_
  clear hcl
  rw [show (hp.regs.map PReg.m).foldl (colStep L) ⟨[], u, fun _ => none, [], []⟩ = colAll L u (hp.regs.map PReg.m) from rfl] at e4 hR1 hob hmt hmf h5 ⊢
  generalize hS : colAll L u (hp.regs.map PReg.m) = S at *
  have inC : ∀ y ∈ colC c t tk fk mt mf, y ∈ poolC p r S.u ++ (hp1.ch p ++ (colC c t tk fk mt mf ++ (huntC t lk mk (ptrN hp.id) L m ++ ((hb, some (O.cells [ptrN hp.id] none)) :: (cb, some (O.cells [ptrN c] none)) :: F)))) := fun y hy => List.mem_append_right _ (List.mem_append_right _ (List.mem_append_left _ hy))
  have inT : ∀ y ∈ huntC t lk mk (ptrN hp.id) L m, y ∈ poolC p r S.u ++ (hp1.ch p ++ (colC c t tk fk mt mf ++ (huntC t lk mk (ptrN hp.id) L m ++ ((hb, some (O.cells [ptrN hp.id] none)) :: (cb, some (O.cells [ptrN c] none)) :: F)))) := fun y hy => List.mem_append_right _ (List.mem_append_right _ (List.mem_append_right _ (List.mem_append_left _ hy)))
  have inF : ∀ y ∈ (hb, some (O.cells [ptrN hp.id] none)) :: (cb, some (O.cells [ptrN c] none)) :: F, y ∈ poolC p r S.u ++ (hp1.ch p ++ (colC c t tk fk mt mf ++ (huntC t lk mk (ptrN hp.id) L m ++ ((hb, some (O.cells [ptrN hp.id] none)) :: (cb, some (O.cells [ptrN c] none)) :: F)))) := fun y hy => List.mem_append_right _ (List.mem_append_right _ (List.mem_append_right _ (List.mem_append_right _ hy)))
  have fcb := h5.mem (List.mem_cons_of_mem _ (inF _ (List.mem_cons_of_mem _ (List.mem_cons_self ..))))
  have fc := h5.mem (List.mem_cons_of_mem _ (inC (c, some (.cells [ptrN t, .map (some (.new tk)), .map (some (.new fk))] none)) (List.mem_cons_self ..)))
  have ft := h5.mem (List.mem_cons_of_mem _ (inT (t, some (.cells [ptrN hp.id, rowV lk L.length, .map (some (.new mk))] none)) (List.mem_cons_self ..)))
  simp -implicitDefEqProofs only [↓GP, GB, GL, Nat.reduceAdd, Nat.reduceSub, Nat.reduceEqDiff, Nat.reduceMul, Nat.reduceLeDiff, Int.reduceBNe, Int.reduceBEq, Nat.reduceLT, reduceCtorEq, j46_bbbbb, fcb, fc, ft]
  have hol := obj_loop (K := blockK 4 (seqK (loop PF) (call PF) j46_bbbbbb (finR [(4, none), (5, none)]))) (Q := Q) (v1 := rowV kr roots.length) (v2 := ptrN hb) (v4 := .slice none 0 (some 0)) (v5 := I 0) inC (inF _ (List.mem_cons_of_mem _ (List.mem_cons_self ..))) (inT _ (List.mem_cons_of_mem _ (List.mem_cons_self ..))) hmt hmf (by omega) L.length 0 ko S.objs s3 (by omega) (by have := lk1.len; omega) h5
  simp only [List.drop_zero, Int.natCast_zero] at hol
  refine hol fun s4 ko' h6 => ?_
  clear hol
  rw [show S.objs ++ (L.filter fun w => !decide (w ∈ S.fx)).map (toD S.mv) = colObjs L S from rfl] at h6 ⊢
  have hOl : (colObjs L S).length ≤ 200000 := by
    unfold colObjs
    have := List.length_filter_le (fun w => !decide (w ∈ S.fx)) L
    have := lk1.len
    simp; omega
  simp -implicitDefEqProofs only [↓GP, GB, GL, Nat.reduceAdd, Nat.reduceSub, Nat.reduceEqDiff, Nat.reduceMul, Nat.reduceLeDiff, Int.reduceBNe, Int.reduceBEq, Nat.reduceLT, reduceCtorEq, j46_bbbbbb]
  have h7 : Holds o s4 (hp1.ch p ++ ((ko', rowO 2 (colObjs L S).length ((colObjs L S).flatMap encW)) :: (poolC p r S.u ++ (colC c t tk fk mt mf ++ (huntC t lk mk (ptrN hp.id) L m ++ ((hb, some (.cells [ptrN hp.id] none)) :: (cb, some (.cells [ptrN c] none)) :: F)))))) := (Holds.of (h6) (fun k => by simp +arith only [HA, HB]) (fun k x => by simp only [HA, HC]; grind only))
  have inC2 : ∀ y ∈ colC c t tk fk mt mf, y ∈ (ko', rowO 2 (colObjs L S).length ((colObjs L S).flatMap encW)) :: (poolC p r S.u ++ (colC c t tk fk mt mf ++ (huntC t lk mk (ptrN hp.id) L m ++ ((hb, some (O.cells [ptrN hp.id] none)) :: (cb, some (O.cells [ptrN c] none)) :: F)))) := fun y hy => List.mem_cons_of_mem _ (List.mem_append_right _ (List.mem_append_left _ hy))
  have inF2 : ∀ y ∈ (hb, some (O.cells [ptrN hp.id] none)) :: (cb, some (O.cells [ptrN c] none)) :: F, y ∈ (ko', rowO 2 (colObjs L S).length ((colObjs L S).flatMap encW)) :: (poolC p r S.u ++ (colC c t tk fk mt mf ++ (huntC t lk mk (ptrN hp.id) L m ++ ((hb, some (O.cells [ptrN hp.id] none)) :: (cb, some (O.cells [ptrN c] none)) :: F)))) := fun y hy => List.mem_cons_of_mem _ (List.mem_append_right _ (List.mem_append_right _ (List.mem_append_right _ hy)))
  have hwl := cwords_loop (K := blockK 6 (seqK (loop PF) (call PF) j46_bbbbbbb (finR [(4, none), (5, none)]))) (Q := Q) (u := S.u) (id := hp.id) (lv := hp.lives) (v1 := rowV kr roots.length) (v4 := .slice none 0 (some 0)) (v5 := I 0) inC2 (inF2 _ (List.mem_cons_self ..)) (inF2 _ (List.mem_cons_of_mem _ (List.mem_cons_self ..))) (List.mem_cons_self ..) hmt hmf (by omega) (colObjs L S).length 0 hp1 s4 (by omega) e1 e2 hR1 hok1
    (fun w hw => by rw [e4]; exact (hpts w hw).find) h7
  simp only [List.drop_zero, Int.natCast_zero] at hwl
  refine hwl fun s5 hp2 d1 d2 d3 d4 hR2 hok2 h8 => ?_
  clear hwl
  rw [e4] at d4
  simp -implicitDefEqProofs only [↓GP, GB, GL, Nat.reduceAdd, Nat.reduceSub, Nat.reduceEqDiff, Nat.reduceMul, Nat.reduceLeDiff, Int.reduceBNe, Int.reduceBEq, Nat.reduceLT, reduceCtorEq, j46_bbbbbbb]
  have hot := out_loop (K := blockK 10 (seqK (loop PF) (call PF) j46_bbbbbbbbb (finR [(4, none), (5, none)]))) (Q := Q) (kr := kr) (roots := roots) (c := c) (t := t) (tk := tk) (fk := fk) (cb := cb) (fun y hy => List.mem_append_right (hp2.ch p) (inC2 y hy)) (List.mem_append_right _ (inF2 _ (List.mem_cons_of_mem _ (List.mem_cons_self ..)))) (List.mem_append_right _ (inF2 _ (List.mem_cons_of_mem _ (List.mem_cons_of_mem _ hr)))) hmt hmf (by omega) roots.length 0 0 [] s5 (by omega) (by simp) (h8.nilEntry 0)
  simp only [List.drop_zero, List.nil_append, List.length_nil, Int.natCast_zero, List.length_map] at hot
  refine hot fun s6 kout h9 => ?_
  simp -implicitDefEqProofs only [↓GP, GB, GL, Nat.reduceAdd, Nat.reduceSub, Nat.reduceEqDiff, Nat.reduceMul, Nat.reduceLeDiff, Int.reduceBNe, Int.reduceBEq, Nat.reduceLT, reduceCtorEq, j46_bbbbbbbbb]
  exact q s6 hp2 kout d1 d2 (d3.trans e3) d4 hR2 hok2 (Holds.of (h9) (fun k => by simp +arith only [HA, HB]) (fun k x => by simp only [HA, HC]; grind only))
end
end Go.Proofs.Ytoldkemimhebaaa

set_option linter.unusedSimpArgs false
set_option linter.unusedVariables false
namespace Go.Proofs.Ytoldkemimhebaaa
open Go Go.IM
end Go.Proofs.Ytoldkemimhebaaa

set_option linter.unusedSimpArgs false
set_option linter.unusedVariables false
namespace Go.Proofs.Ytoldkemimhebaaa
open Go Go.IM
section
variable {o : Nat → Option O} {s : St} {C F : Ch} {Q : V → St → Prop} {p r : Nat} {u : List Bool}
set_option maxRecDepth 10000
set_option maxHeartbeats 400000
structure Heads (hp : PHeap) : Prop where
  at_ : ∀ g ∈ hp.regs, (g.objs.map (·.b.at_)).Nodup
  life : (hp.regs.map (·.life)).Nodup
  pos : ∀ g ∈ hp.regs, 1 ≤ g.life
  ws : ∀ g ∈ hp.regs, ∀ x ∈ g.objs, x.b.ws.length ≤ 31
  len : ∀ g ∈ hp.regs, g.objs.length ≤ 1000
  regs : hp.regs.length ≤ 151
end
end Go.Proofs.Ytoldkemimhebaaa

set_option linter.unusedSimpArgs false
set_option linter.unusedVariables false
namespace Go.Proofs.Ytoldkemimhebaaa
open Go Go.IM
section
set_option maxRecDepth 10000
theorem sane16_0 : (match (LC PF 100 noY).2 41 [] ⟨fun _ => none, 0, fun _ => none⟩ with | some (.bool b, _) => b | _ => false) = true := by kernel_rfl
theorem sane16 (s : St) : ∃ t, call PF 41 [] s = some (.bool true, t) ∧ (∀ j, j < s.next → t.new j = s.new j) ∧ t.old = s.old ∧ s.next ≤ t.next := closed_at 100 sane16_0 s
end
end Go.Proofs.Ytoldkemimhebaaa

set_option linter.unusedSimpArgs false
set_option linter.unusedVariables false
namespace Go.Proofs.Ytoldkemimhebaaa
open Go Go.IM
section
variable {o : Nat → Option O} {s : St} {C F : Ch} {Q : V → St → Prop} {p r q t : Nat} {u : List Bool} {G : PairG}
set_option maxRecDepth 10000
set_option maxHeartbeats 4000000
theorem H0c (hs : s.old = o) : Holds o s [] := ⟨hs, List.nodup_nil, (fun k x m => by cases m), (fun k m => by cases m)⟩
theorem im_trueC {f : Nat} {args : List V} (h : WP (call PF f args s) fun v' _ => v' = .bool true) : ∃ st, call PF f args s = some (.bool true, st) := by
  obtain ⟨v', st, e, rfl⟩ := h
  exact ⟨st, e⟩
theorem longB_lenC {l : List (ActG × List Bool)} (h : longB l = false) : l.length ≤ 150 := by
  unfold longB at h
  rw [Bool.or_eq_false_iff] at h
  have := h.2
  simp at this; exact this
theorem longR_false {l : List (ActG × List Bool)} {n m : Nat} (h : longR l n m = false) : longB l = false ∧ n ≤ 40 ∧ m ≤ 20 := by
  unfold longR at h
  simp only [Bool.or_eq_false_iff, decide_eq_false_iff_not] at h
  exact ⟨h.1.1, by omega, by omega⟩
theorem all_len : ∀ gs : List PReg, (∀ g ∈ gs, g.objs.length ≤ 32 * g.pages.length + 1) → (gs.flatMap fun g => g.objs.map fun x => ((x.b.at_ : Int), (g.life : Int))).length ≤ 32 * ((gs.map PReg.m).flatMap (·.pages)).length + gs.length
  | [], _ => by simp
  | g :: gs, h => by
    have h1 := all_len gs fun x hx => h x (List.mem_cons_of_mem _ hx)
    have h2 := h g (List.mem_cons_self ..)
    simp only [List.flatMap_cons, List.map_cons, List.length_append, List.length_map, List.length_cons] at h1 ⊢
    have : g.m.pages.length = g.pages.length := rfl
    omega
theorem PairOk.rs (h : PairOk u [] G) : RsOk G.hp.lives u (G.hp.regs.map PReg.m) := ⟨h.ulen, h.inv, by have := h.pool; rwa [List.append_nil] at this⟩
theorem RsOk.all {hp : PHeap} {lv : Nat} (h : RsOk lv u (hp.regs.map PReg.m)) (hl : lv ≤ 151) : (allW hp).length ≤ 90000 ∧ hp.regs.length ≤ 151 := by
  have h1 := all_len hp.regs fun g hg => by
    have := (h.inv.reg g.m (List.mem_map.2 ⟨g, hg, rfl⟩)).nobjs
    simpa [PReg.m] using this
  have h2 := h.pool.len
  have h3 := h.ulen
  have h4 := h.inv.len
  rw [List.length_map] at h4
  unfold allW
  exact ⟨by omega, by omega⟩
end
end Go.Proofs.Ytoldkemimhebaaa

set_option linter.unusedSimpArgs false
set_option linter.unusedVariables false
namespace Go.Proofs.Ytoldkemimhebaaa
open Go Go.IM
section
variable {o : Nat → Option O} {s : St} {C F : Ch} {Q : V → St → Prop} {p r q t : Nat} {u : List Bool} {G : PairG}
set_option maxRecDepth 10000
set_option maxHeartbeats 4000000
end
end Go.Proofs.Ytoldkemimhebaaa

set_option linter.unusedSimpArgs false
set_option linter.unusedVariables false
namespace Go.Proofs.Ytoldkemimhebaaa
open Go Go.IM
def c99 : IFn := ⟨120, [],
  (.seq (.region [oa 4 (.box (.t 1)), oa 5 (.box (.t 2))] (kp 120 [0,4,5]))
  (.seq (.region [oa 12 (.mov (.t 0)), oa 13 (.nilCheck (.t 12)), oa 14 (.fieldAddr 0 (.t 13)), oa 15 (.load none (.t 14)), oa 16 (.load (some 2) (.t 4)), oa 18 (.mov (.t 0)), oa 19 (.nilCheck (.t 18)), oa 20 (.fieldAddr 1 (.t 19)), oa 21 (.load none (.t 20)), oa 22 (.load (some 2) (.t 5)), oa 17 (.call 118 [(.t 15), (.t 16)]), ob (.again 21 (.load none (.t 20))), ob (.again 22 (.load (some 2) (.t 5))), oa 23 (.call 118 [(.t 21), (.t 22)]), oa 6 (.mov (.t 17)), oa 7 (.mov (.t 23))] (kp 120 [0,4,5,6,7]))
  (.seq (.block 0
  (.seq (.region [oa 25 (.fieldAddr 1 (.t 4)), oa 26 (.load none (.t 25)), oa 27 (.bin .eql (.t 26) (ai 0)), oa 28 (.mov (.t 27)), oc 29 (.fieldAddr 1 (.t 5)) 28 ff, oc 30 (.load none (.t 29)) 28 ff, oc 31 (.bin .eql (.t 30) (ai 0)) 28 ff, oa 32 (.pick (.t 28) (.c (.bool true)) (.t 31)), oa 24 (.mov (.t 32))] (kp 120 [0,4,5,6,7,24]))
  (.cond (.t 24)
  (.seq (.region [oa 33 (.mov (.t 0)), oa 34 (.mov (.t 0)), oa 35 (.nilCheck (.t 34)), oa 36 (.fieldAddr 5 (.t 35)), oa 37 (.load none (.t 36)), oa 38 (.mov (.t 37)), oc 39 (.load (some 2) (.t 4)) 38 ff, oc 40 (.load (some 2) (.t 5)) 38 ff, oc 41 (.eql true (.key (.agg [.i, .i])) (.t 39) (.t 40)) 38 ff, oa 42 (.pick (.t 38) (.c (.bool true)) (.t 41)), oa 43 (.nilCheck (.t 33)), oa 44 (.fieldAddr 5 (.t 43)), ob (.store 1 (.t 44) (.t 42))] (kp 120 []))
  (sr 120 []))
  (.seq (.region [oa 46 (.mov (.t 6)), oa 47 (.mov (.t 7)), oa 48 (.eql true (.key (.one .b)) (.t 46) (.t 47)), oa 45 (.mov (.t 48))] (kp 120 [0,4,5,6,45]))
  (.cond (.t 45)
  (.seq (.region [oa 49 (.mov (.t 0)), oa 50 (.nilCheck (.t 49)), oa 51 (.fieldAddr 5 (.t 50)), ob (.store 1 (.t 51) (.c (.bool true)))] (kp 120 []))
  (sr 120 []))
  (.seq (.region [oa 53 (.mov (.t 6)), oa 54 (.un .not (.t 53)), oa 52 (.mov (.t 54))] (kp 120 [0,4,5,52]))
  (.cond (.t 52)
  (sr 120 [])
  (sk 120 [0,4,5]))))))))
  (.seq (.region [oa 56 (.mov (.t 0)), oa 57 (.nilCheck (.t 56)), oa 58 (.fieldAddr 2 (.t 57)), oa 59 (.load none (.t 58)), oa 60 (.load (some 2) (.t 4)), oa 61 (.lookup (.agg [.i, .i]) (.agg [(.int .i64 (0)), (.int .i64 (0))]) true (.t 59) (.t 60)), oa 55 (.mov (.t 61)), oa 62 (.extract (.t 55) 0), oa 63 (.extract (.t 55) 1), oa 8 (.alloc [(.int .i64 (0)), (.int .i64 (0))]), ob (.store 2 (.t 8) (.t 62)), oa 9 (.mov (.t 63))] (kp 120 [0,4,5,8,9]))
  (.seq (.region [oa 65 (.mov (.t 0)), oa 66 (.nilCheck (.t 65)), oa 67 (.fieldAddr 3 (.t 66)), oa 68 (.load none (.t 67)), oa 69 (.load (some 2) (.t 5)), oa 70 (.lookup (.agg [.i, .i]) (.agg [(.int .i64 (0)), (.int .i64 (0))]) true (.t 68) (.t 69)), oa 64 (.mov (.t 70)), oa 71 (.extract (.t 64) 0), oa 72 (.extract (.t 64) 1), oa 10 (.alloc [(.int .i64 (0)), (.int .i64 (0))]), ob (.store 2 (.t 10) (.t 71)), oa 11 (.mov (.t 72))] (kp 120 [0,4,5,8,9,10,11]))
  (.seq (.seq (.region [oa 73 (.mov (.t 9)), oa 74 (.mov (.t 73)), oc 75 (.mov (.t 11)) 74 ff, oa 76 (.pick (.t 74) (.c (.bool true)) (.t 75))] (kp 120 [0,4,5,8,10,76]))
  (.cond (.t 76)
  (.seq (.region [oa 77 (.mov (.t 0)), oa 78 (.mov (.t 0)), oa 79 (.nilCheck (.t 78)), oa 80 (.fieldAddr 5 (.t 79)), oa 81 (.load none (.t 80)), oa 82 (.mov (.t 81)), oc 83 (.load (some 2) (.t 8)) 82 ff, oc 84 (.load (some 2) (.t 5)) 82 ff, oc 85 (.eql true (.key (.agg [.i, .i])) (.t 83) (.t 84)) 82 ff, oa 86 (.pick (.t 82) (.c (.bool true)) (.t 85)), oa 87 (.mov (.t 86)), oc 88 (.load (some 2) (.t 10)) 87 ff, oc 89 (.load (some 2) (.t 4)) 87 ff, oc 90 (.eql true (.key (.agg [.i, .i])) (.t 88) (.t 89)) 87 ff, oa 91 (.pick (.t 87) (.c (.bool true)) (.t 90)), oa 92 (.nilCheck (.t 77)), oa 93 (.fieldAddr 5 (.t 92)), ob (.store 1 (.t 93) (.t 91))] (kp 120 []))
  (sr 120 []))
  (sk 120 [0,4,5])))
  (.seq (.region [oa 94 (.mov (.t 0)), oa 95 (.nilCheck (.t 94)), oa 96 (.fieldAddr 2 (.t 95)), oa 97 (.load none (.t 96)), oa 98 (.load (some 2) (.t 4)), oa 99 (.mov (.t 0)), oa 100 (.nilCheck (.t 99)), oa 101 (.fieldAddr 3 (.t 100)), oa 102 (.load none (.t 101)), oa 103 (.load (some 2) (.t 5)), oa 104 (.load (some 2) (.t 5)), oa 105 (.load (some 2) (.t 4)), oa 106 (.mapEnt (.agg [.i, .i]) (.agg [(.int .i64 (0)), (.int .i64 (0))]) (.t 97) (.t 98)), ob (.again 103 (.load (some 2) (.t 5))), ob (.again 104 (.load (some 2) (.t 5))), ob (.again 105 (.load (some 2) (.t 4))), oa 107 (.extract (.t 106) 1), ob (.entSet (.t 97) (.t 107) (.t 104)), ob (.again 103 (.load (some 2) (.t 5))), ob (.again 105 (.load (some 2) (.t 4))), oa 108 (.mapEnt (.agg [.i, .i]) (.agg [(.int .i64 (0)), (.int .i64 (0))]) (.t 102) (.t 103)), ob (.again 105 (.load (some 2) (.t 4))), oa 109 (.extract (.t 108) 1), ob (.entSet (.t 102) (.t 109) (.t 105))] (kp 120 [0,4]))
  (.region [oa 110 (.mov (.t 0)), oa 111 (.mov (.t 0)), oa 112 (.nilCheck (.t 111)), oa 113 (.fieldAddr 4 (.t 112)), oa 114 (.load none (.t 113)), oa 115 (.load (some 2) (.t 4)), oa 116 (.buildSlice 1 [(.int .i64 (0)), (.int .i64 (0))] [(0, 2, (.t 115))]), oa 117 (.append 2 16 (.t 114) (.t 116)), oa 118 (.nilCheck (.t 110)), oa 119 (.fieldAddr 4 (.t 118)), ob (.store 1 (.t 119) (.t 117))] (kp 120 [])))))))))⟩
theorem F99 : shutF Try.prog 99 = some c99 := by kernel_rfl
def l100_0 : IC := (.seq (.seq (.region [oa 11 (.bin .lss (.t 10) (.t 9))] (kp 24 [0,1,9,10,11]))
  (.seq (.cond (.t 11)
  (sk 24 [0,1,9,10])
  (sx 24 [] 0))
  (.seq (.block 1
  (.seq (.region [oa 12 (.mov (.t 10)), oa 5 (.mov (.t 12))] (kp 24 [0,1,5,9,10]))
  (.seq (.region [oa 14 (.mov (.t 0)), oa 15 (.mov (.t 5)), oa 16 (.call 35 [(.t 14), (.t 15)]), oa 13 (.mov (.t 16)), oa 17 (.extract (.t 13) 0), oa 18 (.extract (.t 13) 1), oa 6 (.mov (.t 17)), oa 7 (.mov (.t 18))] (kp 24 [0,1,5,6,9,10]))
  (.seq (.region [oa 19 (.mov (.t 6)), oa 20 (.mov (.t 1)), oa 21 (.bin .eql (.t 19) (.t 20))] (kp 24 [0,1,5,9,10,21]))
  (.cond (.t 21)
  (.seq (.region [oa 22 (.mov (.t 5)), oa 4 (.mov (.t 22))] (kp 24 [4]))
  (sr 24 [4]))
  (sk 24 [0,1,9,10]))))))
  (.region [oa 23 (.bin .add (.t 10) (ai 1)), oa 10 (.mov (.t 23))] (kp 24 [0,1,9,10])))))
  (sk 24 [0,1,9,10]))
def c100 : IFn := ⟨24, [(4, none)],
  (.seq (.region [oa 4 (.mov (ai 0))] (kp 24 [0,1]))
  (.seq (.seq (.region [oa 8 (.mov (.t 0)), oa 9 (.call 27 [(.t 8)]), oa 10 (.mov (ai 0))] (kp 24 [0,1,9,10]))
  (.block 0
  (.seq (sk 24 [0,1,9,10])
  (.loop l100_0))))
  (.seq (.region [oa 4 (.mov (ai (-1)))] (kp 24 [4]))
  (sr 24 [4]))))⟩
theorem F100 : shutF Try.prog 100 = some c100 := by kernel_rfl
abbrev Wd := Int × Int
def lkA (P : List (Wd × Wd)) (v : Wd) : Option Wd := (P.find? fun e => decide (e.1 = v)).map (·.2)
def swapP (P : List (Wd × Wd)) : List (Wd × Wd) := P.map fun e => (e.2, e.1)
def pairP (h k : PHeap) (S : List (Wd × Wd) × Bool) (v w : Wd) : List (Wd × Wd) × Bool :=
  if v.2 = 0 ∨ w.2 = 0 then (S.1, S.2 || !decide (v = w))
  else if thereB h v ≠ thereB k w then (S.1, true)
  else if thereB h v = false then S
  else match lkA S.1 v, lkA (swapP S.1) w with
  | none, none => (S.1 ++ [(v, w)], S.2)
  | to, from_ => (S.1, S.2 || (!decide (to.getD (0, 0) = w) || !decide (from_.getD (0, 0) = v)))
section
variable {o : Nat → Option O} {s : St} {C F : Ch} {Q : V → St → Prop} {p q : Nat}
set_option maxRecDepth 10000
set_option maxHeartbeats 4000000
def pairC (c ta tb ka kb qk : Nat) (hi ki : Nat) (P : List (Wd × Wd)) (un : Bool) : Ch :=
  (c, some (.cells [ptrN ta, ptrN tb, .map (some (.new ka)), .map (some (.new kb)), rowV qk P.length, .bool un] none)) :: (ta, some (.cells [ptrN hi, .slice none 0 (some 0), .map none] none)) :: (tb, some (.cells [ptrN ki, .slice none 0 (some 0), .map none] none)) ::
  (ka, some (seqM encA (P.map fun e => (e.1, encA e.2)))) :: (kb, some (seqM encA (P.map fun e => (e.2, encA e.1)))) :: (qk, rowO 2 P.length ((P.map (·.1)).flatMap encW)) :: []
theorem getD_encA (x : Option Wd) : (x.map encA).getD (.agg [I 0, I 0]) = encA (x.getD (0, 0)) := by cases x <;> rfl
theorem seq_get (P : List (Wd × Wd)) (v : Wd) : ((P.map fun e => (e.1, encA e.2)).find? fun e => decide (e.1 = v)).map (·.2) = (lkA P v).map encA := by
  unfold lkA
  rw [List.find?_map, Option.map_map, Option.map_map]
  rfl
theorem seq_get2 (P : List (Wd × Wd)) (w : Wd) : ((P.map fun e => (e.2, encA e.1)).find? fun e => decide (e.1 = w)).map (·.2) = (lkA (swapP P) w).map encA := by
  unfold lkA swapP
  rw [List.find?_map, List.find?_map, Option.map_map, Option.map_map, Option.map_map]
  rfl
theorem s99 {h k : PHeap} {c ta tb ka kb qk : Nat} {P : List (Wd × Wd)} {un : Bool} {v w : Wd} (H : Holds o s (pairC c ta tb ka kb qk h.id k.id P un ++ C)) (lh : Look C p h) (lk : Look C q k) (hl : P.length ≤ 100000)
    (K : ∀ s' qk', Holds o s' (pairC c ta tb ka kb qk' h.id k.id (pairP h k (P, un) v w).1 (pairP h k (P, un) v w).2 ++ C) → Q (.tuple []) s') : WP (call PF 99 [ptrN c, .agg (encW v), .agg (encW w)] s) Q := by
  have h2 := (H.alloc (.cells (encW v) none)).alloc (.cells (encW w) none)
  simp only [alloc_next] at h2
  have mc : (c, some (O.cells [ptrN ta, ptrN tb, .map (some (.new ka)), .map (some (.new kb)), rowV qk P.length, .bool un] none)) ∈ pairC c ta tb ka kb qk h.id k.id P un ++ C := List.mem_append_left _ (List.mem_cons_self ..)
  have up : ∀ y ∈ C, y ∈ (s.next + 1, some (O.cells (encW w) none)) :: (s.next, some (O.cells (encW v) none)) :: (pairC c ta tb ka kb qk h.id k.id P un ++ C) := fun y hy => List.mem_cons_of_mem _ (List.mem_cons_of_mem _ (List.mem_append_right _ hy))
  have fc := H.mem mc
  rw [call_run F99]; simp -implicitDefEqProofs only [↓GP, GB, GL, Nat.reduceAdd, Nat.reduceSub, Nat.reduceEqDiff, Nat.reduceMul, Nat.reduceLeDiff, Int.reduceBNe, Int.reduceBEq, Nat.reduceLT, reduceCtorEq, c99, encW, fc]
  refine wp_in (s118 (w := v) h2 (lh.mono up) (List.mem_cons_of_mem _ (List.mem_cons_of_mem _ (List.mem_append_left _ (List.mem_cons_of_mem _ (List.mem_cons_self ..))))) fun s1 h3 => ?_)
  have fc3 := h3.mem (List.mem_cons_of_mem _ (List.mem_cons_of_mem _ mc))
  have f3 := h3.f2
  simp only [encW] at f3
  simp -implicitDefEqProofs only [↓GP, GB, GL, Nat.reduceAdd, Nat.reduceSub, Nat.reduceEqDiff, Nat.reduceMul, Nat.reduceLeDiff, Int.reduceBNe, Int.reduceBEq, Nat.reduceLT, reduceCtorEq, fc3, f3, encW]
  refine wp_in (s118 (w := w) h3 (lk.mono up) (List.mem_cons_of_mem _ (List.mem_cons_of_mem _ (List.mem_append_left _ (List.mem_cons_of_mem _ (List.mem_cons_of_mem _ (List.mem_cons_self ..)))))) fun s2 h4 => ?_)
  have h5 : Holds o s2 ((c, some (O.cells [ptrN ta, ptrN tb, .map (some (.new ka)), .map (some (.new kb)), rowV qk P.length, .bool un] none)) :: (s.next, some (.cells [I v.1, I v.2] none)) :: (s.next + 1, some (.cells [I w.1, I w.2] none)) :: (ta, some (.cells [ptrN h.id, .slice none 0 (some 0), .map none] none)) :: (tb, some (.cells [ptrN k.id, .slice none 0 (some 0), .map none] none)) ::
    (ka, some (seqM encA (P.map fun e => (e.1, encA e.2)))) :: (kb, some (seqM encA (P.map fun e => (e.2, encA e.1)))) :: (qk, rowO 2 P.length ((P.map (·.1)).flatMap encW)) :: C) := (Holds.of (h4) (fun k => by simp +arith only [pairC, encW, HA, HB]) (fun k x => by simp only [pairC, encW, HA, HC]; grind only))
  have f5 := h5.f3
  have fin : ∀ b : Bool, Holds o (s2.set c (.cells [ptrN ta, ptrN tb, .map (some (.new ka)), .map (some (.new kb)), rowV qk P.length, .bool b] none)) (pairC c ta tb ka kb qk h.id k.id P b ++ C) := fun b => by
    have := h5.set0 (.cells [ptrN ta, ptrN tb, .map (some (.new ka)), .map (some (.new kb)), rowV qk P.length, .bool b] none)
    exact (Holds.of (this) (fun k => by simp +arith only [pairC, HA, HB]) (fun k x => by simp only [pairC, HA, HC]; grind only))
  have hvw := word_eq v w
  unfold pairP at K
  by_cases hz : v.2 = 0 ∨ w.2 = 0
  · rw [if_pos hz] at K
    have hz2 : (v.2 == 0) = true ∨ ((v.2 == 0) = false ∧ (w.2 == 0) = true) := by
      by_cases hv : v.2 = 0
      · exact .inl (by simpa using hv)
      · exact .inr ⟨by simpa using hv, by simpa using hz.resolve_left hv⟩
    cases un with
    | true =>
      simp only [Bool.true_or] at K
      rcases hz2 with e | ⟨e, e'⟩
      · simp -implicitDefEqProofs only [↓GP, GB, GL, Nat.reduceAdd, Nat.reduceSub, Nat.reduceEqDiff, Nat.reduceMul, Nat.reduceLeDiff, Int.reduceBNe, Int.reduceBEq, Nat.reduceLT, reduceCtorEq, f5, e]; exact K _ qk (fin true)
      · simp -implicitDefEqProofs only [↓GP, GB, GL, Nat.reduceAdd, Nat.reduceSub, Nat.reduceEqDiff, Nat.reduceMul, Nat.reduceLeDiff, Int.reduceBNe, Int.reduceBEq, Nat.reduceLT, reduceCtorEq, f5, e, e']; exact K _ qk (fin true)
    | false =>
      simp only [Bool.false_or] at K
      rcases hz2 with e | ⟨e, e'⟩
      · simp -implicitDefEqProofs only [↓GP, GB, GL, Nat.reduceAdd, Nat.reduceSub, Nat.reduceEqDiff, Nat.reduceMul, Nat.reduceLeDiff, Int.reduceBNe, Int.reduceBEq, Nat.reduceLT, reduceCtorEq, f5, e, hvw]; exact K _ qk (fin _)
      · simp -implicitDefEqProofs only [↓GP, GB, GL, Nat.reduceAdd, Nat.reduceSub, Nat.reduceEqDiff, Nat.reduceMul, Nat.reduceLeDiff, Int.reduceBNe, Int.reduceBEq, Nat.reduceLT, reduceCtorEq, f5, e, e', hvw]; exact K _ qk (fin _)
  · rw [if_neg hz] at K
    have e : (v.2 == 0) = false := by simpa using fun x => hz (.inl x)
    have e' : (w.2 == 0) = false := by simpa using fun x => hz (.inr x)
    by_cases hxy : thereB h v = thereB k w
    · rw [if_neg (fun hn => hn hxy)] at K
      have hb : eqI (.key (.one .b)) (.bool (thereB h v)) (.bool (thereB k w)) = some true := by
        rw [hxy]; cases thereB k w <;> simp [eqI, keyEq, cellEq]
      cases hx : thereB h v with
      | false =>
        rw [hx] at hb
        rw [if_pos hx] at K
        simp -implicitDefEqProofs only [↓GP, GB, GL, Nat.reduceAdd, Nat.reduceSub, Nat.reduceEqDiff, Nat.reduceMul, Nat.reduceLeDiff, Int.reduceBNe, Int.reduceBEq, Nat.reduceLT, reduceCtorEq, f5, e, e', hb]
        exact K _ qk (Holds.of (h5) (fun k => by simp +arith only [pairC, HA, HB]) (fun k x => by simp only [pairC, HA, HC]; grind only))
      | true =>
        rw [hx] at hb
        rw [if_neg (by rw [hx]; simp)] at K
        have ma : (ka, some (seqM encA (P.map fun e => (e.1, encA e.2)))) ∈ (s.next, some (O.cells [I v.1, I v.2] none)) :: (s.next + 1, some (.cells [I w.1, I w.2] none)) :: (ta, some (.cells [ptrN h.id, .slice none 0 (some 0), .map none] none)) :: (tb, some (.cells [ptrN k.id, .slice none 0 (some 0), .map none] none)) ::
          (ka, some (seqM encA (P.map fun e => (e.1, encA e.2)))) :: (kb, some (seqM encA (P.map fun e => (e.2, encA e.1)))) :: (qk, rowO 2 P.length ((P.map (·.1)).flatMap encW)) :: C := by simp
        have mb : (kb, some (seqM encA (P.map fun e => (e.2, encA e.1)))) ∈ (s.next, some (O.cells [I v.1, I v.2] none)) :: (s.next + 1, some (.cells [I w.1, I w.2] none)) :: (ta, some (.cells [ptrN h.id, .slice none 0 (some 0), .map none] none)) :: (tb, some (.cells [ptrN k.id, .slice none 0 (some 0), .map none] none)) ::
          (ka, some (seqM encA (P.map fun e => (e.1, encA e.2)))) :: (kb, some (seqM encA (P.map fun e => (e.2, encA e.1)))) :: (qk, rowO 2 P.length ((P.map (·.1)).flatMap encW)) :: C := by simp
        have el1 := lookup_map keyA (seq_is (P.map fun e => (e.1, encA e.2))) (h5.mem (List.mem_cons_of_mem _ ma)).1 (.agg [I 0, I 0]) true v
        simp only [seq_get, getD_encA, Option.isSome_map, if_true] at el1
        simp only [encA, encW] at el1
        have h6 := (h5.alloc (.cells [I 0, I 0] none)).set0 (.cells [I ((lkA P v).getD (0, 0)).1, I ((lkA P v).getD (0, 0)).2] none)
        have el2 := lookup_map keyA (seq_is (P.map fun e => (e.2, encA e.1))) (h6.mem (List.mem_cons_of_mem _ (List.mem_cons_of_mem _ mb))).1 (.agg [I 0, I 0]) true w
        simp only [seq_get2, getD_encA, Option.isSome_map, if_true] at el2
        simp only [encA, encW] at el2
        have hto := word_eq ((lkA P v).getD (0, 0)) w
        have hfr := word_eq ((lkA (swapP P) w).getD (0, 0)) v
        have h7 := (h6.alloc (.cells [I 0, I 0] none)).set0 (.cells [I ((lkA (swapP P) w).getD (0, 0)).1, I ((lkA (swapP P) w).getD (0, 0)).2] none)
        have f7 := h7.mem (List.mem_cons_of_mem _ (List.mem_cons_of_mem _ (List.mem_cons_self ..)))
        by_cases hnn : lkA P v = none ∧ lkA (swapP P) w = none
        · obtain ⟨hn1, hn2⟩ := hnn
          simp only [hn1, hn2] at K
          simp only [hn1, Option.isSome_none, Option.getD_none] at el1 h6 h7
          simp only [hn1, hn2, Option.isSome_none, Option.getD_none] at el2 h7
          have hka : ∀ x ∈ P.map (fun e => (e.1, encA e.2)), x.1 ≠ v := fun x hx ex => by
            obtain ⟨y, hy, rfl⟩ := List.mem_map.1 hx
            unfold lkA at hn1
            rw [Option.map_eq_none_iff, List.find?_eq_none] at hn1
            exact hn1 y hy (by simpa using ex)
          have hkb : ∀ x ∈ P.map (fun e => (e.2, encA e.1)), x.1 ≠ w := fun x hx ex => by
            obtain ⟨y, hy, rfl⟩ := List.mem_map.1 hx
            unfold lkA swapP at hn2
            rw [Option.map_eq_none_iff, List.find?_eq_none] at hn2
            exact hn2 (y.2, y.1) (List.mem_map.2 ⟨y, hy, rfl⟩) (by simpa using ex)
          have me1 : ∀ S : St, S.new ka = some (seqM encA (P.map fun e => (e.1, encA e.2))) → mapEntI (.agg [.i, .i]) (.agg [I 0, I 0]) (.map (some (.new ka))) (.agg [I v.1, I v.2]) S = some (.tuple [.agg [I 0, I 0], I P.length], S.set ka (seqM encA ((P.map fun e => (e.1, encA e.2)) ++ [(v, .agg [I 0, I 0])]))) := fun S hS => by
            have := mapEnt_new keyA hS hka (.agg [I 0, I 0]); simpa [encA, encW] using this
          have me2 : ∀ S : St, S.new kb = some (seqM encA (P.map fun e => (e.2, encA e.1))) → mapEntI (.agg [.i, .i]) (.agg [I 0, I 0]) (.map (some (.new kb))) (.agg [I w.1, I w.2]) S = some (.tuple [.agg [I 0, I 0], I P.length], S.set kb (seqM encA ((P.map fun e => (e.2, encA e.1)) ++ [(w, .agg [I 0, I 0])]))) := fun S hS => by
            have := mapEnt_new keyA hS hkb (.agg [I 0, I 0]); simpa [encA, encW] using this
          have es1 : ∀ S : St, S.new ka = some (seqM encA ((P.map fun e => (e.1, encA e.2)) ++ [(v, .agg [I 0, I 0])])) → entSetI (.map (some (.new ka))) (I P.length) (.agg [I w.1, I w.2]) S = some (S.set ka (seqM encA ((P.map fun e => (e.1, encA e.2)) ++ [(v, encA w)]))) := fun S hS => by
            have := entSet_new hS (encA w); simpa [encA, encW] using this
          have es2 : ∀ S : St, S.new kb = some (seqM encA ((P.map fun e => (e.2, encA e.1)) ++ [(w, .agg [I 0, I 0])])) → entSetI (.map (some (.new kb))) (I P.length) (.agg [I v.1, I v.2]) S = some (S.set kb (seqM encA ((P.map fun e => (e.2, encA e.1)) ++ [(w, encA v)]))) := fun S hS => by
            have := entSet_new hS (encA v); simpa [encA, encW] using this
          have fka := h5.mem (List.mem_cons_of_mem _ ma)
          have fkb := h5.mem (List.mem_cons_of_mem _ mb)
          have nka := h5.tl.tl.tl.tl.tl.f2
          have nck := h5.ne (Holds.ids_mem.2 ⟨_, ma⟩)
          have nckb := h5.ne (Holds.ids_mem.2 ⟨_, mb⟩)
          have n1 := h5.tl.ne (b := ka) (Holds.ids_mem.2 ⟨seqM encA (P.map fun e => (e.1, encA e.2)), by simp⟩)
          have n2 := h5.tl.ne (b := kb) (Holds.ids_mem.2 ⟨seqM encA (P.map fun e => (e.2, encA e.1)), by simp⟩)
          have n3 := h5.tl.tl.ne (b := ka) (Holds.ids_mem.2 ⟨seqM encA (P.map fun e => (e.1, encA e.2)), by simp⟩)
          have n4 := h5.tl.tl.ne (b := kb) (Holds.ids_mem.2 ⟨seqM encA (P.map fun e => (e.2, encA e.1)), by simp⟩)
          simp -implicitDefEqProofs only [↓GP, GB, GL, Nat.reduceAdd, Nat.reduceSub, Nat.reduceEqDiff, Nat.reduceMul, Nat.reduceLeDiff, Int.reduceBNe, Int.reduceBEq, Nat.reduceLT, reduceCtorEq, f5, e, e', hb, el1, el2, me1, me2, es1, es2, fka, fkb, nka, nck, nckb, n1, n2, n3, n4]
          have h8 := (show Holds o _ ((ka, some (seqM encA (P.map fun e => (e.1, encA e.2)))) :: (kb, some (seqM encA (P.map fun e => (e.2, encA e.1)))) :: (c, some (O.cells [ptrN ta, ptrN tb, .map (some (.new ka)), .map (some (.new kb)), rowV qk P.length, .bool un] none)) :: (ta, some (.cells [ptrN h.id, .slice none 0 (some 0), .map none] none)) :: (tb, some (.cells [ptrN k.id, .slice none 0 (some 0), .map none] none)) :: (qk, rowO 2 P.length ((P.map (·.1)).flatMap encW)) :: C) from (Holds.of (h7) (fun k => by simp +arith only [HA, HB]) (fun k x => by simp only [HA, HC]; grind only)))
          have h9 := ((((h8.set0 (seqM encA ((P.map fun e => (e.1, encA e.2)) ++ [(v, .agg [I 0, I 0])]))).set0 (seqM encA ((P.map fun e => (e.1, encA e.2)) ++ [(v, encA w)]))).set1 (seqM encA ((P.map fun e => (e.2, encA e.1)) ++ [(w, .agg [I 0, I 0])]))).set1 (seqM encA ((P.map fun e => (e.2, encA e.1)) ++ [(w, encA v)]))).alloc (.cells [I v.1, I v.2] none)
          have hml : ((P.map (·.1)).flatMap encW).length = P.length * 2 := by rw [tab_len encW_len, List.length_map]
          refine wp_append (k := qk) (n := P.length) (sz := 2) (bytes := 16) (m := 1) (cs := (P.map (·.1)).flatMap encW) (F := (s2.next + 2, some (.cells [I v.1, I v.2] none)) :: (ka, some (seqM encA ((P.map fun e => (e.1, encA e.2)) ++ [(v, encA w)]))) :: (kb, some (seqM encA ((P.map fun e => (e.2, encA e.1)) ++ [(w, encA v)]))) :: (c, some (O.cells [ptrN ta, ptrN tb, .map (some (.new ka)), .map (some (.new kb)), rowV qk P.length, .bool un] none)) :: (ta, some (.cells [ptrN h.id, .slice none 0 (some 0), .map none] none)) :: (tb, some (.cells [ptrN k.id, .slice none 0 (some 0), .map none] none)) :: C) (Holds.of (h9) (fun k => by simp +arith only [HA, HB]) (fun k x => by simp only [HA, HC]; grind only)) hml (new_cells' (alloc_new_same _ _) rfl) rfl rfl (by omega) (by unfold maxRow; omega) (by unfold maxRow; omega) fun qk' s3 h10 => ?_
          have f10 := h10.tl.tl.tl.tl.f1
          simp -implicitDefEqProofs only [↓GP, GB, GL, Nat.reduceAdd, Nat.reduceSub, Nat.reduceEqDiff, Nat.reduceMul, Nat.reduceLeDiff, Int.reduceBNe, Int.reduceBEq, Nat.reduceLT, reduceCtorEq, f10]
          have h11 := (show Holds o s3 ((c, some (O.cells [ptrN ta, ptrN tb, .map (some (.new ka)), .map (some (.new kb)), rowV qk P.length, .bool un] none)) :: (ka, some (seqM encA ((P.map fun e => (e.1, encA e.2)) ++ [(v, encA w)]))) :: (kb, some (seqM encA ((P.map fun e => (e.2, encA e.1)) ++ [(w, encA v)]))) :: (qk', rowO 2 (P.length + 1) ((P.map (·.1)).flatMap encW ++ [I v.1, I v.2])) :: (ta, some (.cells [ptrN h.id, .slice none 0 (some 0), .map none] none)) :: (tb, some (.cells [ptrN k.id, .slice none 0 (some 0), .map none] none)) :: C) from (Holds.of (h10) (fun k => by simp +arith only [HA, HB]) (fun k x => by simp only [HA, HC]; grind only))).set0 (.cells [ptrN ta, ptrN tb, .map (some (.new ka)), .map (some (.new kb)), rowV qk' (P.length + 1), .bool un] none)
          refine K _ qk' ?_
          exact (Holds.of (h11) (fun k => by simp +arith only [pairC, List.map_append, List.map_cons, List.map_nil, List.length_append, List.length_cons, List.length_nil, Nat.zero_add, List.flatMap_append, List.flatMap_cons, List.flatMap_nil, List.append_nil, encW, HA, HB]) (fun k x => by simp only [pairC, List.map_append, List.map_cons, List.map_nil, List.length_append, List.length_cons, List.length_nil, Nat.zero_add, List.flatMap_append, List.flatMap_cons, List.flatMap_nil, List.append_nil, encW, HA, HC]; grind only))
        · have hK : (match lkA P v, lkA (swapP P) w with
            | none, none => (P ++ [(v, w)], un)
            | to, from_ => (P, un || (!decide (to.getD (0, 0) = w) || !decide (from_.getD (0, 0) = v)))) = (P, un || (!decide ((lkA P v).getD (0, 0) = w) || !decide ((lkA (swapP P) w).getD (0, 0) = v))) := by
            cases h1 : lkA P v with
            | some _ => rfl
            | none => cases h2 : lkA (swapP P) w with
              | some _ => rfl
              | none => exact absurd ⟨h1, h2⟩ hnn
          simp only [hK] at K
          have hx1 : (lkA P v).isSome = true ∨ ((lkA P v).isSome = false ∧ (lkA (swapP P) w).isSome = true) := by
            cases h1 : lkA P v with
            | some _ => exact .inl rfl
            | none => cases h2 : lkA (swapP P) w with
              | some _ => exact .inr ⟨rfl, rfl⟩
              | none => exact absurd ⟨h1, h2⟩ hnn
          generalize (lkA P v).getD (0, 0) = to at *
          generalize (lkA (swapP P) w).getD (0, 0) = fm at *
          have h8 := (show Holds o _ ((c, some (O.cells [ptrN ta, ptrN tb, .map (some (.new ka)), .map (some (.new kb)), rowV qk P.length, .bool un] none)) :: (ka, some (seqM encA (P.map fun e => (e.1, encA e.2)))) :: (kb, some (seqM encA (P.map fun e => (e.2, encA e.1)))) :: (ta, some (.cells [ptrN h.id, .slice none 0 (some 0), .map none] none)) :: (tb, some (.cells [ptrN k.id, .slice none 0 (some 0), .map none] none)) :: (qk, rowO 2 P.length ((P.map (·.1)).flatMap encW)) :: C) from (Holds.of (h7) (fun k => by simp +arith only [HA, HB]) (fun k x => by simp only [HA, HC]; grind only)))
          have fin2 := fun b : Bool => h8.set0 (.cells [ptrN ta, ptrN tb, .map (some (.new ka)), .map (some (.new kb)), rowV qk P.length, .bool b] none)
          have fin3 : ∀ {S : St} (b : Bool), Holds o S ((c, some (O.cells [ptrN ta, ptrN tb, .map (some (.new ka)), .map (some (.new kb)), rowV qk P.length, .bool b] none)) :: (ka, some (seqM encA (P.map fun e => (e.1, encA e.2)))) :: (kb, some (seqM encA (P.map fun e => (e.2, encA e.1)))) :: (ta, some (.cells [ptrN h.id, .slice none 0 (some 0), .map none] none)) :: (tb, some (.cells [ptrN k.id, .slice none 0 (some 0), .map none] none)) :: (qk, rowO 2 P.length ((P.map (·.1)).flatMap encW)) :: C) → Holds o S (pairC c ta tb ka kb qk h.id k.id P b ++ C) := fun b h => (Holds.of (h) (fun k => by simp +arith only [pairC, HA, HB]) (fun k x => by simp only [pairC, HA, HC]; grind only))
          cases un with
          | true =>
            simp only [Bool.true_or] at K
            rcases hx1 with e1 | ⟨e1, e2⟩
            · rw [e1] at el1
              simp -implicitDefEqProofs only [↓GP, GB, GL, Nat.reduceAdd, Nat.reduceSub, Nat.reduceEqDiff, Nat.reduceMul, Nat.reduceLeDiff, Int.reduceBNe, Int.reduceBEq, Nat.reduceLT, reduceCtorEq, f5, e, e', hb, el1, el2]
              exact K _ qk (fin3 true (fin2 true))
            · rw [e1] at el1; rw [e2] at el2
              simp -implicitDefEqProofs only [↓GP, GB, GL, Nat.reduceAdd, Nat.reduceSub, Nat.reduceEqDiff, Nat.reduceMul, Nat.reduceLeDiff, Int.reduceBNe, Int.reduceBEq, Nat.reduceLT, reduceCtorEq, f5, e, e', hb, el1, el2]
              exact K _ qk (fin3 true (fin2 true))
          | false =>
            simp only [Bool.false_or] at K
            cases hd : decide (to = w) with
            | false =>
              rw [hd] at hto K
              rcases hx1 with e1 | ⟨e1, e2⟩
              · rw [e1] at el1
                simp -implicitDefEqProofs only [↓GP, GB, GL, Nat.reduceAdd, Nat.reduceSub, Nat.reduceEqDiff, Nat.reduceMul, Nat.reduceLeDiff, Int.reduceBNe, Int.reduceBEq, Nat.reduceLT, reduceCtorEq, f5, e, e', hb, el1, el2, hto, Bool.not_false]
                exact K _ qk (fin3 true (fin2 true))
              · rw [e1] at el1; rw [e2] at el2
                simp -implicitDefEqProofs only [↓GP, GB, GL, Nat.reduceAdd, Nat.reduceSub, Nat.reduceEqDiff, Nat.reduceMul, Nat.reduceLeDiff, Int.reduceBNe, Int.reduceBEq, Nat.reduceLT, reduceCtorEq, f5, e, e', hb, el1, el2, hto, Bool.not_false]
                exact K _ qk (fin3 true (fin2 true))
            | true =>
              rw [hd] at hto K
              rcases hx1 with e1 | ⟨e1, e2⟩
              · rw [e1] at el1
                simp -implicitDefEqProofs only [↓GP, GB, GL, Nat.reduceAdd, Nat.reduceSub, Nat.reduceEqDiff, Nat.reduceMul, Nat.reduceLeDiff, Int.reduceBNe, Int.reduceBEq, Nat.reduceLT, reduceCtorEq, f5, e, e', hb, el1, el2, hto, hfr, Bool.not_true]
                exact K _ qk (fin3 _ (fin2 _))
              · rw [e1] at el1; rw [e2] at el2
                simp -implicitDefEqProofs only [↓GP, GB, GL, Nat.reduceAdd, Nat.reduceSub, Nat.reduceEqDiff, Nat.reduceMul, Nat.reduceLeDiff, Int.reduceBNe, Int.reduceBEq, Nat.reduceLT, reduceCtorEq, f5, e, e', hb, el1, el2, hto, hfr, Bool.not_true]
                exact K _ qk (fin3 _ (fin2 _))
    · rw [if_pos hxy] at K
      have hb : eqI (.key (.one .b)) (.bool (thereB h v)) (.bool (thereB k w)) = some false := by
        cases h1 : thereB h v <;> cases h2 : thereB k w <;> simp_all [eqI, keyEq, cellEq]
      simp -implicitDefEqProofs only [↓GP, GB, GL, Nat.reduceAdd, Nat.reduceSub, Nat.reduceEqDiff, Nat.reduceMul, Nat.reduceLeDiff, Int.reduceBNe, Int.reduceBEq, Nat.reduceLT, reduceCtorEq, f5, e, e', hb]
      exact K _ qk (fin true)
end
end Go.Proofs.Ytoldkemimhebaaa

set_option linter.unusedSimpArgs false
set_option linter.unusedVariables false
namespace Go.Proofs.Ytoldkemimhebaaa
open Go Go.IM
def l50_0 : IC := (.seq (.seq (.region [oa 50 (.bin .lss (.t 49) (.t 48))] (kp 153 [0,1,2,3,10,48,49,50]))
  (.seq (.cond (.t 50)
  (sk 153 [0,1,2,3,10,48,49])
  (sx 153 [0,2,10] 0))
  (.seq (.block 1
  (.seq (.region [oa 51 (.mov (.t 49)), oa 11 (.mov (.t 51))] (kp 153 [0,1,2,3,10,11,48,49]))
  (.region [oa 52 (.mov (.t 10)), oa 53 (.mov (.t 1)), oa 54 (.mov (.t 11)), oa 55 (.indexAddr 2 (.t 53) (.t 54)), oa 56 (.load (some 2) (.t 55)), oa 57 (.mov (.t 3)), oa 58 (.mov (.t 11)), oa 59 (.indexAddr 2 (.t 57) (.t 58)), oa 60 (.load (some 2) (.t 59)), oa 61 (.call 99 [(.t 52), (.t 56), (.t 60)])] (kp 153 [0,1,2,3,10,48,49]))))
  (.region [oa 62 (.bin .add (.t 49) (ai 1)), oa 49 (.mov (.t 62))] (kp 153 [0,1,2,3,10,48,49])))))
  (sk 153 [0,1,2,3,10,48,49]))
def l50_1 : IC := (.seq (.seq (.region [oa 127 (.bin .lss (.t 126) (.t 125))] (kp 153 [0,2,10,12,13,14,125,126,127]))
  (.seq (.cond (.t 127)
  (sk 153 [0,2,10,12,13,14,125,126])
  (sx 153 [0,2,10,12] 4))
  (.seq (.block 5
  (.seq (.region [oa 128 (.mov (.t 126)), oa 21 (.mov (.t 128))] (kp 153 [0,2,10,12,13,14,21,125,126]))
  (.seq (.region [oa 130 (.mov (.t 0)), oa 131 (.load (some 2) (.t 13)), oa 132 (.mov (.t 21)), oa 133 (.call 67 [(.t 130), (.t 131), (.t 132)]), oa 129 (.mov (.t 133)), oa 134 (.extract (.t 129) 0), oa 135 (.extract (.t 129) 1), oa 22 (.alloc [(.int .i64 (0)), (.int .i64 (0))]), ob (.store 2 (.t 22) (.t 134)), oa 23 (.mov (.t 135))] (kp 153 [0,2,10,12,13,14,21,22,125,126]))
  (.seq (.region [oa 137 (.mov (.t 2)), oa 138 (.load (some 2) (.t 14)), oa 139 (.mov (.t 21)), oa 140 (.call 67 [(.t 137), (.t 138), (.t 139)]), oa 136 (.mov (.t 140)), oa 141 (.extract (.t 136) 0), oa 142 (.extract (.t 136) 1), oa 24 (.alloc [(.int .i64 (0)), (.int .i64 (0))]), ob (.store 2 (.t 24) (.t 141)), oa 25 (.mov (.t 142))] (kp 153 [0,2,10,12,13,14,22,24,125,126]))
  (.region [oa 143 (.mov (.t 10)), oa 144 (.load (some 2) (.t 22)), oa 145 (.load (some 2) (.t 24)), oa 146 (.call 99 [(.t 143), (.t 144), (.t 145)])] (kp 153 [0,2,10,12,13,14,125,126]))))))
  (.region [oa 147 (.bin .add (.t 126) (ai 1)), oa 126 (.mov (.t 147))] (kp 153 [0,2,10,12,13,14,125,126])))))
  (sk 153 [0,2,10,12,13,14,125,126]))
def l50_2 : IC := (.seq (.seq (.seq (.region [oa 63 (.mov (.t 12)), oa 64 (.mov (.t 10)), oa 65 (.nilCheck (.t 64)), oa 66 (.fieldAddr 4 (.t 65)), oa 67 (.load none (.t 66)), oa 68 (.lenSlice (.t 67)), oa 69 (.bin .lss (.t 63) (.t 68)), oa 70 (.mov (.t 69)), oc 71 (.mov (.t 10)) 70 tt, oc 72 (.nilCheck (.t 71)) 70 tt, oc 73 (.fieldAddr 5 (.t 72)) 70 tt, oc 74 (.load none (.t 73)) 70 tt, oc 75 (.un .not (.t 74)) 70 tt, oa 76 (.pick (.t 70) (.t 75) (.c (.bool false)))] (kp 153 [0,2,10,12,76]))
  (.cond (.t 76)
  (sk 153 [0,2,10,12])
  (sx 153 [10] 2)))
  (.seq (.block 3
  (.seq (.region [oa 79 (.mov (.t 10)), oa 80 (.nilCheck (.t 79)), oa 81 (.fieldAddr 4 (.t 80)), oa 82 (.load none (.t 81)), oa 83 (.mov (.t 12)), oa 84 (.indexAddr 2 (.t 82) (.t 83)), oa 85 (.load (some 2) (.t 84)), oa 13 (.alloc [(.int .i64 (0)), (.int .i64 (0))]), ob (.store 2 (.t 13) (.t 85))] (kp 153 [0,2,10,12,13]))
  (.seq (.region [oa 86 (.mov (.t 10)), oa 87 (.nilCheck (.t 86)), oa 88 (.fieldAddr 2 (.t 87)), oa 89 (.load none (.t 88)), oa 90 (.load (some 2) (.t 13)), oa 91 (.lookup (.agg [.i, .i]) (.agg [(.int .i64 (0)), (.int .i64 (0))]) false (.t 89) (.t 90)), oa 14 (.alloc [(.int .i64 (0)), (.int .i64 (0))]), ob (.store 2 (.t 14) (.t 91))] (kp 153 [0,2,10,12,13,14]))
  (.seq (.region [oa 93 (.mov (.t 0)), oa 94 (.load (some 2) (.t 13)), oa 95 (.call 30 [(.t 93), (.t 94)]), oa 92 (.mov (.t 95)), oa 96 (.extract (.t 92) 0), oa 97 (.extract (.t 92) 1), oa 98 (.extract (.t 92) 2), oa 15 (.mov (.t 96)), oa 16 (.mov (.t 97)), oa 17 (.mov (.t 98))] (kp 153 [0,2,10,12,13,14,15,16]))
  (.seq (.region [oa 100 (.mov (.t 2)), oa 101 (.load (some 2) (.t 14)), oa 102 (.call 30 [(.t 100), (.t 101)]), oa 99 (.mov (.t 102)), oa 103 (.extract (.t 99) 0), oa 104 (.extract (.t 99) 1), oa 105 (.extract (.t 99) 2), oa 18 (.mov (.t 103)), oa 19 (.mov (.t 104)), oa 20 (.mov (.t 105))] (kp 153 [0,2,10,12,13,14,15,16,18,19]))
  (.seq (.seq (.region [oa 106 (.mov (.t 15)), oa 107 (.mov (.t 18)), oa 108 (.bin .neq (.t 106) (.t 107)), oa 109 (.mov (.t 108)), oc 110 (.mov (.t 16)) 109 ff, oc 111 (.mov (.t 19)) 109 ff, oc 112 (.bin .neq (.t 110) (.t 111)) 109 ff, oa 113 (.pick (.t 109) (.c (.bool true)) (.t 112)), oa 114 (.mov (.t 113)), oc 115 (.mov (.t 0)) 114 ff, oc 116 (.fieldAddr 1 (.t 13)) 114 ff, oc 117 (.load none (.t 116)) 114 ff, oc 119 (.mov (.t 2)) 114 ff, oc 120 (.fieldAddr 1 (.t 14)) 114 ff, oc 121 (.load none (.t 120)) 114 ff, oc 118 (.call 100 [(.t 115), (.t 117)]) 114 ff, oe (.again 121 (.load none (.t 120))) 114 ff, oc 122 (.call 100 [(.t 119), (.t 121)]) 114 ff, oc 123 (.bin .neq (.t 118) (.t 122)) 114 ff, oa 124 (.pick (.t 114) (.c (.bool true)) (.t 123))] (kp 153 [0,2,10,12,13,14,16,124]))
  (.cond (.t 124)
  (.seq (.region [oa 8 (.mov (.c (.bool false))), oa 9 (.mov (ai 0))] (kp 153 [8,9]))
  (sr 153 [8,9]))
  (sk 153 [0,2,10,12,13,14,16])))
  (.seq (.region [oa 125 (.mov (.t 16)), oa 126 (.mov (ai 0))] (kp 153 [0,2,10,12,13,14,125,126]))
  (.block 4
  (.seq (sk 153 [0,2,10,12,13,14,125,126])
  (.loop l50_1))))))))))
  (.region [oa 77 (.mov (.t 12)), oa 78 (.bin .add (.t 77) (ai 1)), oa 12 (.mov (.t 78))] (kp 153 [0,2,10,12]))))
  (sk 153 [0,2,10,12]))
def j50_bbbbbb : IC := (.seq (.region [oa 148 (.mov (.t 10)), oa 149 (.nilCheck (.t 148)), oa 150 (.fieldAddr 5 (.t 149)), oa 151 (.load none (.t 150)), oa 152 (.un .not (.t 151)), oa 8 (.mov (.t 152)), oa 9 (.mov (ai 0))] (kp 153 [8,9]))
  (sr 153 [8,9]))
def j50_bbbbb : IC := (.seq (.seq (.region [oa 12 (.mov (ai 0))] (kp 153 [0,2,10,12]))
  (.block 2
  (.seq (sk 153 [0,2,10,12])
  (.loop l50_2))))
  j50_bbbbbb)
def c50 : IFn := ⟨153, [(8, none), (9, none)],
  (.seq (.region [oa 8 (.mov (.c (.bool false))), oa 9 (.mov (ai 0))] (kp 153 [0,1,2,3]))
  (.seq (.seq (.region [oa 26 (.mov (.t 0)), oa 27 (.call 89 [(.t 26)]), oa 28 (.mov (.t 27)), oc 29 (.mov (.t 2)) 28 ff, oc 30 (.call 89 [(.t 29)]) 28 ff, oa 31 (.pick (.t 28) (.c (.bool true)) (.t 30))] (kp 153 [0,1,2,3,31]))
  (.cond (.t 31)
  (.seq (.region [oa 8 (.mov (.c (.bool false))), oa 9 (.mov (ai 6))] (kp 153 [8,9]))
  (sr 153 [8,9]))
  (sk 153 [0,1,2,3])))
  (.seq (.seq (.region [oa 32 (.mov (.t 1)), oa 33 (.lenSlice (.t 32)), oa 34 (.mov (.t 3)), oa 35 (.lenSlice (.t 34)), oa 36 (.bin .neq (.t 33) (.t 35))] (kp 153 [0,1,2,3,36]))
  (.cond (.t 36)
  (.seq (.region [oa 8 (.mov (.c (.bool false))), oa 9 (.mov (ai 0))] (kp 153 [8,9]))
  (sr 153 [8,9]))
  (sk 153 [0,1,2,3])))
  (.seq (.region [oa 37 (.mov (.t 0)), oa 38 (.build [(.ptr none), (.slice none 0 (some 0)), (.map none)] [(0, 1, (.t 37))]), oa 39 (.box (.t 38)), oa 40 (.mov (.t 2)), oa 41 (.build [(.ptr none), (.slice none 0 (some 0)), (.map none)] [(0, 1, (.t 40))]), oa 42 (.box (.t 41)), oa 43 .mkMap, oa 44 .mkMap, oa 45 (.build [(.ptr none), (.ptr none), (.map none), (.map none), (.slice none 0 (some 0)), (.bool false)] [(0, 1, (.t 39)), (1, 1, (.t 42)), (2, 1, (.t 43)), (3, 1, (.t 44))]), oa 46 (.box (.t 45)), oa 10 (.mov (.t 46))] (kp 153 [0,1,2,3,10]))
  (.seq (.seq (.region [oa 47 (.mov (.t 1)), oa 48 (.lenSlice (.t 47)), oa 49 (.mov (ai 0))] (kp 153 [0,1,2,3,10,48,49]))
  (.block 0
  (.seq (sk 153 [0,1,2,3,10,48,49])
  (.loop l50_0))))
  j50_bbbbb)))))⟩
theorem F50 : shutF Try.prog 50 = some c50 := by kernel_rfl
def regFrom : List PReg → Int → Nat → Option Nat
  | [], _, _ => none
  | g :: rs, L, i => if (g.life : Int) = L then some i else regFrom rs L (i + 1)
def regI (h : PHeap) (L : Int) : Int := match regFrom h.regs L 0 with
  | some j => (j : Int)
  | none => -1
def mism (h k : PHeap) (v w : Wd) : Bool := match pfind v.1 v.2 h.regs, pfind w.1 w.2 k.regs with
  | some x, some y => decide (x.b.kind ≠ y.b.kind) || (decide (x.b.ws.length ≠ y.b.ws.length) || decide (regI h v.2 ≠ regI k w.2))
  | _, _ => true
def foldP (h k : PHeap) (S : List (Wd × Wd) × Bool) (ps : List (Wd × Wd)) : List (Wd × Wd) × Bool := ps.foldl (fun S e => pairP h k S e.1 e.2) S
def loopM (h k : PHeap) : Nat → Nat → List (Wd × Wd) × Bool → Bool
  | 0, _, S => !S.2
  | n + 1, i, S => match S.1[i]? with
    | none => !S.2
    | some e => if S.2 = true then false else if mism h k e.1 e.2 = true then false else loopM h k n (i + 1) (foldP h k S ((objW h e.1).zip (objW k e.2)))
structure PairsOk (h k : PHeap) (P : List (Wd × Wd)) : Prop where
  a : Found h (P.map (·.1))
  b : Found k (P.map (·.2))
theorem lkA_none {P : List (Wd × Wd)} {v : Wd} (h : lkA P v = none) : v ∉ P.map (·.1) := by
  unfold lkA at h
  rw [Option.map_eq_none_iff, List.find?_eq_none] at h
  intro m
  obtain ⟨e, he, rfl⟩ := List.mem_map.1 m
  exact h e he (by simp)
theorem swap_fst (P : List (Wd × Wd)) : (swapP P).map (·.1) = P.map (·.2) := by unfold swapP; rw [List.map_map]; rfl
theorem PairsOk.pair {h k : PHeap} {P : List (Wd × Wd)} {un : Bool} (hP : PairsOk h k P) (v w : Wd) : PairsOk h k (pairP h k (P, un) v w).1 := by
  unfold pairP
  split
  · exact hP
  · split
    · exact hP
    · rename_i hxy
      split
      · exact hP
      · rename_i hx
        split
        · rename_i h1 h2
          have hv := lkA_none h1
          have hw := lkA_none h2
          rw [swap_fst] at hw
          have hvt : thereB h v = true := by simpa using hx
          have hwt : thereB k w = true := by
            have : thereB h v = thereB k w := by simpa using hxy
            rw [← this]; exact hvt
          have e1 := hP.a.put v
          have e2 := hP.b.put w
          unfold putW at e1 e2
          rw [if_pos ⟨hv, hvt⟩] at e1
          rw [if_pos ⟨hw, hwt⟩] at e2
          exact ⟨by simpa using e1, by simpa using e2⟩
        · exact hP
theorem PairsOk.fold {h k : PHeap} : ∀ (ps : List (Wd × Wd)) {S : List (Wd × Wd) × Bool}, PairsOk h k S.1 → PairsOk h k (foldP h k S ps).1
  | [], _, hS => hS
  | e :: ps, S, hS => PairsOk.fold ps (S := pairP h k S e.1 e.2) (hS.pair e.1 e.2)
theorem PairsOk.nil (h k : PHeap) : PairsOk h k [] := ⟨Found.nil h, Found.nil k⟩
theorem lkA_get : ∀ {P : List (Wd × Wd)} {i : Nat} {e : Wd × Wd}, (P.map (·.1)).Nodup → P[i]? = some e → lkA P e.1 = some e.2
  | [], _, _, _, h => by simp at h
  | x :: P, 0, e, hn, h => by simp at h; subst h; simp [lkA]
  | x :: P, i + 1, e, hn, h => by
    rw [List.map_cons, List.nodup_cons] at hn
    have h' : P[i]? = some e := by simpa using h
    have hne : x.1 ≠ e.1 := fun ex => hn.1 (by rw [ex]; exact List.mem_map.2 ⟨e, List.mem_of_getElem? h', rfl⟩)
    have := lkA_get hn.2 h'
    unfold lkA at this ⊢
    rw [List.find?_cons_of_neg (by simpa using hne)]
    exact this
section
variable {o : Nat → Option O} {s : St} {C F : Ch} {Q : V → St → Prop} {p q : Nat}
set_option maxRecDepth 10000
set_option maxHeartbeats 4000000
theorem reg_loop {h : PHeap} {L : Int} {K : Kt} (lh : Look C p h) : ∀ (n i : Nat) (s : St), i + n = h.regs.length → Holds o s C →
    (∀ j s', regFrom (h.regs.drop i) L i = some j → Holds o s' C → WP (K .ret (sp 24 [(4, I j)]) s') Q) → (∀ s', regFrom (h.regs.drop i) L i = none → Holds o s' C → WP (K (.exit 0) (sp 24 []) s') Q) →
    WP (loop PF (.loop l100_0) (sp 24 [(0, ptrN h.id), (1, I L), (9, I h.regs.length), (10, I i)]) s K) Q
  | 0, i, s, hi, H, q1, q2 => by
    have hlt : ¬ ((i : Int) < (h.regs.length : Int)) := by omega
    refine wp_round fun LL hLL => ?_
    simp -implicitDefEqProofs only [↓GP, GB, GL, Nat.reduceAdd, Nat.reduceSub, Nat.reduceEqDiff, Nat.reduceMul, Nat.reduceLeDiff, Int.reduceBNe, Int.reduceBEq, Nat.reduceLT, reduceCtorEq, l100_0, hlt]
    exact q2 s (by rw [List.drop_eq_nil_of_le (by omega)]; rfl) H
  | n + 1, i, s, hi, H, q1, q2 => by
    have hlt : ((i : Int) < (h.regs.length : Int)) := by omega
    have hi' : i < h.regs.length := by omega
    have hlen := lh.len
    have hw1 := wrap_add1 (a := i) (by omega)
    have hg := List.getElem?_eq_getElem hi'
    rw [List.drop_eq_getElem_cons hi', regFrom] at q1 q2
    generalize h.regs[i] = g at hg q1 q2
    refine wp_round fun LL hLL => ?_
    simp -implicitDefEqProofs only [↓GP, GB, GL, Nat.reduceAdd, Nat.reduceSub, Nat.reduceEqDiff, Nat.reduceMul, Nat.reduceLeDiff, Int.reduceBNe, Int.reduceBEq, Nat.reduceLT, reduceCtorEq, l100_0, hlt]
    refine wp_in (s35 H lh.hin lh.len hg fun s1 h1 => ?_)
    by_cases e : (g.life : Int) = L
    · have hb : ((g.life : Int) == L) = true := by simpa using e
      simp -implicitDefEqProofs only [↓GP, GB, GL, Nat.reduceAdd, Nat.reduceSub, Nat.reduceEqDiff, Nat.reduceMul, Nat.reduceLeDiff, Int.reduceBNe, Int.reduceBEq, Nat.reduceLT, reduceCtorEq, hb]
      exact q1 i s1 (by rw [if_pos e]) h1
    · have hb : ((g.life : Int) == L) = false := by simpa using e
      simp -implicitDefEqProofs only [↓GP, GB, GL, Nat.reduceAdd, Nat.reduceSub, Nat.reduceEqDiff, Nat.reduceMul, Nat.reduceLeDiff, Int.reduceBNe, Int.reduceBEq, Nat.reduceLT, reduceCtorEq, hb, hw1]
      rw [hLL]
      rw [if_neg e] at q1 q2
      exact reg_loop lh n (i + 1) s1 (by omega) h1 q1 q2
theorem s100 {h : PHeap} {L : Int} (H : Holds o s C) (lh : Look C p h) (k : ∀ s', Holds o s' C → Q (I (regI h L)) s') : WP (call PF 100 [ptrN h.id, I L] s) Q := by
  have e27 := s27 H lh.hin
  rw [call_run F100]; simp -implicitDefEqProofs only [↓GP, GB, GL, Nat.reduceAdd, Nat.reduceSub, Nat.reduceEqDiff, Nat.reduceMul, Nat.reduceLeDiff, Int.reduceBNe, Int.reduceBEq, Nat.reduceLT, reduceCtorEq, c100, e27]
  rw [I0]
  refine reg_loop lh h.regs.length 0 s (by omega) H (fun j s' e h1 => ?_) fun s' e h1 => ?_
  · simp -implicitDefEqProofs only [↓GP, GB, GL, Nat.reduceAdd, Nat.reduceSub, Nat.reduceEqDiff, Nat.reduceMul, Nat.reduceLeDiff, Int.reduceBNe, Int.reduceBEq, Nat.reduceLT, reduceCtorEq]
    have := k s' h1
    unfold regI at this
    rw [List.drop_zero] at e
    rw [e] at this
    exact this
  · simp -implicitDefEqProofs only [↓GP, GB, GL, Nat.reduceAdd, Nat.reduceSub, Nat.reduceEqDiff, Nat.reduceMul, Nat.reduceLeDiff, Int.reduceBNe, Int.reduceBEq, Nat.reduceLT, reduceCtorEq]
    have := k s' h1
    unfold regI at this
    rw [List.drop_zero] at e
    rw [e] at this
    exact this
theorem al_roots {h k : PHeap} {c ta tb ka kb xa xb : Nat} {a b : List Wd} {K : Kt} (lh : Look C p h) (lk : Look C q k) (hall : (allW h).length ≤ 90000) (ma : (xa, rowO 2 a.length (a.flatMap encW)) ∈ C) (mb : (xb, rowO 2 a.length (b.flatMap encW)) ∈ C) (hab : b.length = a.length) (hl : a.length ≤ 1000) :
    ∀ (n i qk : Nat) (S : List (Wd × Wd) × Bool) (s : St), i + n = a.length → PairsOk h k S.1 → Holds o s (pairC c ta tb ka kb qk h.id k.id S.1 S.2 ++ C) →
    (∀ s' qk' S', S' = foldP h k S ((a.drop i).zip (b.drop i)) → PairsOk h k S'.1 → Holds o s' (pairC c ta tb ka kb qk' h.id k.id S'.1 S'.2 ++ C) → WP (K (.exit 0) (sp 153 [(0, ptrN h.id), (2, ptrN k.id), (10, ptrN c)]) s') Q) →
    WP (loop PF (.loop l50_0) (sp 153 [(0, ptrN h.id), (1, rowV xa a.length), (2, ptrN k.id), (3, rowV xb a.length), (10, ptrN c), (48, I a.length), (49, I i)]) s K) Q
  | 0, i, qk, S, s, hi, hP, H, f => by
    have hlt : ¬ ((i : Int) < (a.length : Int)) := by omega
    refine wp_round fun LL hLL => ?_
    simp -implicitDefEqProofs only [↓GP, GB, GL, Nat.reduceAdd, Nat.reduceSub, Nat.reduceEqDiff, Nat.reduceMul, Nat.reduceLeDiff, Int.reduceBNe, Int.reduceBEq, Nat.reduceLT, reduceCtorEq, l50_0, hlt]
    exact f s qk S (by rw [List.drop_eq_nil_of_le (by omega)]; rfl) hP H
  | n + 1, i, qk, S, s, hi, hP, H, f => by
    have hlt : ((i : Int) < (a.length : Int)) := by omega
    have hi' : i < a.length := by omega
    have hi2 : i < b.length := by omega
    have hw1 := wrap_add1 (a := i) (by omega)
    have hix := ix_row (sz := 2) (k := xa) (n := a.length) (i := i) (kk := .i64) hi'
    have hix2 := ix_row (sz := 2) (k := xb) (n := a.length) (i := i) (kk := .i64) hi'
    have er : rowO 2 a.length (a.flatMap encW) = some (.cells (a.flatMap encW) (some 2)) := by unfold rowO; rw [if_neg (by omega)]
    have er2 : rowO 2 a.length (b.flatMap encW) = some (.cells (b.flatMap encW) (some 2)) := by unfold rowO; rw [if_neg (by omega)]
    have fa := H.mem (List.mem_append_right _ (er ▸ ma))
    have fb := H.mem (List.mem_append_right _ (er2 ▸ mb))
    have hld := ldN_tab (enc := encW) encW_len a (some 2) (List.getElem?_eq_getElem hi')
    have hld2 := ldN_tab (enc := encW) encW_len b (some 2) (List.getElem?_eq_getElem hi2)
    rw [List.drop_eq_getElem_cons hi', List.drop_eq_getElem_cons hi2, List.zip_cons_cons] at f
    generalize a[i] = v at f hld
    generalize b[i] = w at f hld2
    have hpl := hP.a.len
    rw [List.length_map] at hpl
    refine wp_round fun LL hLL => ?_
    simp -implicitDefEqProofs only [↓GP, GB, GL, Nat.reduceAdd, Nat.reduceSub, Nat.reduceEqDiff, Nat.reduceMul, Nat.reduceLeDiff, Int.reduceBNe, Int.reduceBEq, Nat.reduceLT, reduceCtorEq, l50_0, hlt, hix, hix2, fa, fb, hld, hld2, encW]
    obtain ⟨P, un⟩ := S
    refine wp_in (s99 (v := v) (w := w) H lh lk (by show P.length ≤ 100000; simp only at hpl; omega) fun s1 qk1 h1 => ?_)
    simp -implicitDefEqProofs only [↓GP, GB, GL, Nat.reduceAdd, Nat.reduceSub, Nat.reduceEqDiff, Nat.reduceMul, Nat.reduceLeDiff, Int.reduceBNe, Int.reduceBEq, Nat.reduceLT, reduceCtorEq, hw1]
    rw [hLL]
    exact al_roots lh lk hall ma mb hab hl n (i + 1) qk1 (pairP h k (P, un) v w) s1 (by omega) (hP.pair v w) h1 f
theorem al_words {h k : PHeap} {c ta tb ka kb bv bw m i0 : Nat} {v w : Wd} {x y : PObj} {K : Kt} (lh : Look C p h) (lk : Look C q k) (hall : (allW h).length ≤ 90000) (mv : (bv, some (.cells (encW v) none)) ∈ C) (mw : (bw, some (.cells (encW w) none)) ∈ C)
    (hv : 0 < v.2) (hw : 0 < w.2) (hx : pfind v.1 v.2 h.regs = some x) (hy : pfind w.1 w.2 k.regs = some y) (hxm : x.b.ws.length = m) (hym : y.b.ws.length = m) (hm : m ≤ 31) :
    ∀ (n i qk : Nat) (S : List (Wd × Wd) × Bool) (s : St), i + n = m → PairsOk h k S.1 → Holds o s (pairC c ta tb ka kb qk h.id k.id S.1 S.2 ++ C) →
    (∀ s' qk' S', S' = foldP h k S ((x.b.ws.drop i).zip (y.b.ws.drop i)) → PairsOk h k S'.1 → Holds o s' (pairC c ta tb ka kb qk' h.id k.id S'.1 S'.2 ++ C) → WP (K (.exit 4) (sp 153 [(0, ptrN h.id), (2, ptrN k.id), (10, ptrN c), (12, I i0)]) s') Q) →
    WP (loop PF (.loop l50_1) (sp 153 [(0, ptrN h.id), (2, ptrN k.id), (10, ptrN c), (12, I i0), (13, ptrN bv), (14, ptrN bw), (125, I m), (126, I i)]) s K) Q
  | 0, i, qk, S, s, hi, hP, H, f => by
    have hlt : ¬ ((i : Int) < (m : Int)) := by omega
    refine wp_round fun LL hLL => ?_
    simp -implicitDefEqProofs only [↓GP, GB, GL, Nat.reduceAdd, Nat.reduceSub, Nat.reduceEqDiff, Nat.reduceMul, Nat.reduceLeDiff, Int.reduceBNe, Int.reduceBEq, Nat.reduceLT, reduceCtorEq, l50_1, hlt]
    exact f s qk S (by rw [List.drop_eq_nil_of_le (by omega)]; rfl) hP H
  | n + 1, i, qk, S, s, hi, hP, H, f => by
    have hlt : ((i : Int) < (m : Int)) := by omega
    have hi' : i < x.b.ws.length := by omega
    have hi2 : i < y.b.ws.length := by omega
    have hw1 := wrap_add1 (a := i) (by omega)
    have up : ∀ z ∈ C, z ∈ pairC c ta tb ka kb qk h.id k.id S.1 S.2 ++ C := fun z hz => List.mem_append_right _ hz
    have fv := H.mem (up _ mv)
    have gx := List.getElem?_eq_getElem hi'
    have gy := List.getElem?_eq_getElem hi2
    rw [List.drop_eq_getElem_cons hi', List.drop_eq_getElem_cons hi2, List.zip_cons_cons] at f
    generalize x.b.ws[i] = a at f gx
    generalize y.b.ws[i] = b at f gy
    have hpl := hP.a.len
    rw [List.length_map] at hpl
    refine wp_round fun LL hLL => ?_
    simp -implicitDefEqProofs only [↓GP, GB, GL, Nat.reduceAdd, Nat.reduceSub, Nat.reduceEqDiff, Nat.reduceMul, Nat.reduceLeDiff, Int.reduceBNe, Int.reduceBEq, Nat.reduceLT, reduceCtorEq, l50_1, hlt, fv, encW]
    refine wp_in (s67 H (lh.mono up).hin lh.ne lh.len lh.ok hv hx gx (by omega) fun s1 h1 => ?_)
    have fw := h1.mem (up _ mw)
    simp -implicitDefEqProofs only [↓GP, GB, GL, Nat.reduceAdd, Nat.reduceSub, Nat.reduceEqDiff, Nat.reduceMul, Nat.reduceLeDiff, Int.reduceBNe, Int.reduceBEq, Nat.reduceLT, reduceCtorEq, fw, encW]
    have h2 := (h1.alloc (.cells [I 0, I 0] none)).set0 (.cells [I a.1, I a.2] none)
    refine wp_in (s67 h2 ((lk.mono up).hin.cons _) lk.ne lk.len lk.ok hw hy gy (by omega) fun s2 h3 => ?_)
    have f3 := h3.f1
    simp -implicitDefEqProofs only [↓GP, GB, GL, Nat.reduceAdd, Nat.reduceSub, Nat.reduceEqDiff, Nat.reduceMul, Nat.reduceLeDiff, Int.reduceBNe, Int.reduceBEq, Nat.reduceLT, reduceCtorEq, f3, encW]
    have h4 := (h3.alloc (.cells [I 0, I 0] none)).set0 (.cells [I b.1, I b.2] none)
    obtain ⟨P, un⟩ := S
    refine wp_in (s99 (v := a) (w := b) h4.tl.tl lh lk (by show P.length ≤ 100000; simp only at hpl; omega) fun s3 qk1 h5 => ?_)
    simp -implicitDefEqProofs only [↓GP, GB, GL, Nat.reduceAdd, Nat.reduceSub, Nat.reduceEqDiff, Nat.reduceMul, Nat.reduceLeDiff, Int.reduceBNe, Int.reduceBEq, Nat.reduceLT, reduceCtorEq, hw1]
    rw [hLL]
    exact al_words lh lk hall mv mw hv hw hx hy hxm hym hm n (i + 1) qk1 (pairP h k (P, un) a b) s3 (by omega) (hP.pair a b) h5 f
theorem there_find {h : PHeap} {w : Wd} (ht : thereB h w = true) : 0 < w.2 ∧ ∃ x, pfind w.1 w.2 h.regs = some x := by
  unfold thereB at ht
  simp only [Bool.and_eq_true, decide_eq_true_eq] at ht
  exact ⟨ht.1, Option.isSome_iff_exists.1 ht.2⟩
theorem objW_find {h : PHeap} {w : Wd} {x : PObj} (hx : pfind w.1 w.2 h.regs = some x) : objW h w = x.b.ws := by unfold objW; rw [hx]; rfl
theorem al_outer {h k : PHeap} {c ta tb ka kb : Nat} {K : Kt} {R : Bool} (lh : Look C p h) (lk : Look C q k) (hall : (allW h).length ≤ 90000)
    (fT : ∀ s' qk' (S' : List (Wd × Wd) × Bool), S'.2 = !R → Holds o s' (pairC c ta tb ka kb qk' h.id k.id S'.1 S'.2 ++ C) → WP (K (.exit 2) (sp 153 [(10, ptrN c)]) s') Q)
    (fF : R = false → ∀ s', Holds o s' C → WP (K .ret (sp 153 [(8, .bool false), (9, I 0)]) s') Q) :
    ∀ (n i qk : Nat) (S : List (Wd × Wd) × Bool) (s : St), (allW h).length + 1 ≤ i + n → PairsOk h k S.1 → loopM h k n i S = R → Holds o s (pairC c ta tb ka kb qk h.id k.id S.1 S.2 ++ C) →
    WP (loop PF (.loop l50_2) (sp 153 [(0, ptrN h.id), (2, ptrN k.id), (10, ptrN c), (12, I i)]) s K) Q := by
  intro n
  induction n with
  | zero =>
    intro i qk S s hn hP hR H
    have hpl := hP.a.len
    rw [List.length_map] at hpl
    have hlt : ¬ ((i : Int) < (S.1.length : Int)) := by omega
    have fc := H.mem (List.mem_append_left _ (List.mem_cons_self ..) : (c, some (O.cells [ptrN ta, ptrN tb, .map (some (.new ka)), .map (some (.new kb)), rowV qk S.1.length, .bool S.2] none)) ∈ pairC c ta tb ka kb qk h.id k.id S.1 S.2 ++ C)
    refine wp_round fun LL hLL => ?_
    simp -implicitDefEqProofs only [↓GP, GB, GL, Nat.reduceAdd, Nat.reduceSub, Nat.reduceEqDiff, Nat.reduceMul, Nat.reduceLeDiff, Int.reduceBNe, Int.reduceBEq, Nat.reduceLT, reduceCtorEq, l50_2, fc, hlt]
    exact fT s qk S (by unfold loopM at hR; rw [← hR]; simp) H
  | succ n ih =>
    intro i qk S s hn hP hR H
    have hpl := hP.a.len
    rw [List.length_map] at hpl
    have fc := H.mem (List.mem_append_left _ (List.mem_cons_self ..) : (c, some (O.cells [ptrN ta, ptrN tb, .map (some (.new ka)), .map (some (.new kb)), rowV qk S.1.length, .bool S.2] none)) ∈ pairC c ta tb ka kb qk h.id k.id S.1 S.2 ++ C)
    by_cases hi : i < S.1.length
    · have hlt : ((i : Int) < (S.1.length : Int)) := by omega
      have he := List.getElem?_eq_getElem hi
      unfold loopM at hR
      rw [he] at hR
      simp only at hR
      cases hun : S.2 with
      | true =>
        rw [hun] at hR fc
        rw [if_pos rfl] at hR
        refine wp_round fun LL hLL => ?_
        simp -implicitDefEqProofs only [↓GP, GB, GL, Nat.reduceAdd, Nat.reduceSub, Nat.reduceEqDiff, Nat.reduceMul, Nat.reduceLeDiff, Int.reduceBNe, Int.reduceBEq, Nat.reduceLT, reduceCtorEq, l50_2, fc, hlt]
        exact fT s qk S (by rw [← hR, hun]; rfl) H
      | false =>
        rw [hun] at hR fc
        rw [if_neg (by simp)] at hR
        have hlk := lkA_get hP.a.nodup he
        have m1 : S.1[i].1 ∈ S.1.map (·.1) := List.mem_map.2 ⟨_, List.getElem_mem hi, rfl⟩
        have m2 : S.1[i].2 ∈ S.1.map (·.2) := List.mem_map.2 ⟨_, List.getElem_mem hi, rfl⟩
        have ht1 := hP.a.there _ m1
        have ht2 := hP.b.there _ m2
        have hg1 : (S.1.map (·.1))[i]? = some S.1[i].1 := by rw [List.getElem?_map, he]; rfl
        generalize hgen : S.1[i] = e at *
        obtain ⟨v, w⟩ := e
        obtain ⟨hv, x, hx⟩ := there_find ht1
        obtain ⟨hw, y, hy⟩ := there_find ht2
        have hix := ix_row (sz := 2) (k := qk) (n := S.1.length) (i := i) (kk := .i64) hi
        have mq : (qk, some (O.cells ((S.1.map (·.1)).flatMap encW) (some 2))) ∈ pairC c ta tb ka kb qk h.id k.id S.1 S.2 ++ C := by
          have : rowO 2 S.1.length ((S.1.map (·.1)).flatMap encW) = some (.cells ((S.1.map (·.1)).flatMap encW) (some 2)) := rowO_pos (by omega)
          rw [← this]; exact List.mem_append_left _ (by simp [pairC])
        have fq := H.mem mq
        have hld := ldN_tab (enc := encW) encW_len (S.1.map (·.1)) (some 2) hg1
        have ma : (ka, some (seqM encA (S.1.map fun e => (e.1, encA e.2)))) ∈ pairC c ta tb ka kb qk h.id k.id S.1 S.2 ++ C := List.mem_append_left _ (by simp [pairC])
        have h1 := (H.alloc (.cells [I 0, I 0] none)).set0 (.cells [I v.1, I v.2] none)
        have el := lookup_map keyA (seq_is (S.1.map fun e => (e.1, encA e.2))) (h1.mem (List.mem_cons_of_mem _ ma)).1 (.agg [I 0, I 0]) false v
        simp only [seq_get, getD_encA, Bool.false_eq_true, if_false] at el
        rw [hlk, Option.getD_some] at el
        simp only [encA, encW] at el
        have hw1 := wrap_add1 (a := i) (by omega)
        refine wp_round fun LL hLL => ?_
        simp -implicitDefEqProofs only [↓GP, GB, GL, Nat.reduceAdd, Nat.reduceSub, Nat.reduceEqDiff, Nat.reduceMul, Nat.reduceLeDiff, Int.reduceBNe, Int.reduceBEq, Nat.reduceLT, reduceCtorEq, l50_2, fc, hlt, hix, fq, hld, encW, el]
        have h2 := (h1.alloc (.cells [I 0, I 0] none)).set0 (.cells [I w.1, I w.2] none)
        simp only [set_next, alloc_next] at h2
        have up : ∀ z ∈ C, z ∈ (s.next + 1, some (O.cells [I w.1, I w.2] none)) :: (s.next, some (.cells [I v.1, I v.2] none)) :: (pairC c ta tb ka kb qk h.id k.id S.1 S.2 ++ C) := fun z hz => List.mem_cons_of_mem _ (List.mem_cons_of_mem _ (List.mem_append_right _ hz))
        obtain ⟨g1, mg1, mx1⟩ := pfind_mem hx
        have hxw := lh.ws g1 mg1 x mx1
        refine wp_in (s30 h2 (lh.mono up).hin lh.ne lh.len lh.ok hv hx fun s1 h3 => ?_)
        have f3 := h3.f2
        simp -implicitDefEqProofs only [↓GP, GB, GL, Nat.reduceAdd, Nat.reduceSub, Nat.reduceEqDiff, Nat.reduceMul, Nat.reduceLeDiff, Int.reduceBNe, Int.reduceBEq, Nat.reduceLT, reduceCtorEq, f3, encW]
        refine wp_in (s30 h3 (lk.mono up).hin lk.ne lk.len lk.ok hw hy fun s2 h4 => ?_)
        have f4 := h4.f2
        have hmis : mism h k v w = (decide (x.b.kind ≠ y.b.kind) || (decide (x.b.ws.length ≠ y.b.ws.length) || decide (regI h v.2 ≠ regI k w.2))) := by
          unfold mism; rw [hx, hy]
        rw [hmis] at hR
        have toC : ∀ {s'}, Holds o s' ((s.next + 1, some (O.cells [I w.1, I w.2] none)) :: (s.next, some (.cells [I v.1, I v.2] none)) :: (pairC c ta tb ka kb qk h.id k.id S.1 S.2 ++ C)) → Holds o s' C := fun h => h.tl.tl.dropL
        by_cases hk : x.b.kind = y.b.kind
        · have hkb : ((x.b.kind : Int) != (y.b.kind : Int)) = false := by simp [hk]
          by_cases hln : x.b.ws.length = y.b.ws.length
          · have hlb : ((x.b.ws.length : Int) != (y.b.ws.length : Int)) = false := by simp [hln]
            simp -implicitDefEqProofs only [↓GP, GB, GL, Nat.reduceAdd, Nat.reduceSub, Nat.reduceEqDiff, Nat.reduceMul, Nat.reduceLeDiff, Int.reduceBNe, Int.reduceBEq, Nat.reduceLT, reduceCtorEq, hkb, hlb, f4]
            refine wp_in (s100 h4 (lh.mono up) fun s3 h5 => ?_)
            have f5 := h5.f2
            simp -implicitDefEqProofs only [↓GP, GB, GL, Nat.reduceAdd, Nat.reduceSub, Nat.reduceEqDiff, Nat.reduceMul, Nat.reduceLeDiff, Int.reduceBNe, Int.reduceBEq, Nat.reduceLT, reduceCtorEq, f5]
            refine wp_in (s100 h5 (lk.mono up) fun s4 h6 => ?_)
            by_cases hr : regI h v.2 = regI k w.2
            · have hrb : (regI h v.2 != regI k w.2) = false := by simp [hr]
              rw [if_neg (by simp [hk, hln, hr]), objW_find hx, objW_find hy] at hR
              simp -implicitDefEqProofs only [↓GP, GB, GL, Nat.reduceAdd, Nat.reduceSub, Nat.reduceEqDiff, Nat.reduceMul, Nat.reduceLeDiff, Int.reduceBNe, Int.reduceBEq, Nat.reduceLT, reduceCtorEq, hrb]
              rw [I0]
              have h7 : Holds o s4 (pairC c ta tb ka kb qk h.id k.id S.1 S.2 ++ ((s.next + 1, some (O.cells [I w.1, I w.2] none)) :: (s.next, some (.cells [I v.1, I v.2] none)) :: C)) := (Holds.of (h6) (fun k => by simp +arith only [pairC, HA, HB]) (fun k x => by simp only [pairC, HA, HC]; grind only))
              refine al_words (v := v) (w := w) ((lh.cons _).cons _) ((lk.cons _).cons _) hall (List.mem_cons_of_mem _ (List.mem_cons_self ..)) (List.mem_cons_self ..) hv hw hx hy rfl hln.symm hxw x.b.ws.length 0 qk S s4 (by omega) hP h7 fun s5 qk5 S5 hS5 hP5 h8 => ?_
              rw [List.drop_zero, List.drop_zero] at hS5
              rw [← hS5] at hR
              simp -implicitDefEqProofs only [↓GP, GB, GL, Nat.reduceAdd, Nat.reduceSub, Nat.reduceEqDiff, Nat.reduceMul, Nat.reduceLeDiff, Int.reduceBNe, Int.reduceBEq, Nat.reduceLT, reduceCtorEq, hw1]
              rw [hLL]
              exact ih (i + 1) qk5 S5 s5 (by omega) hP5 hR (Holds.of (h8) (fun k => by simp +arith only [pairC, HA, HB]) (fun k x => by simp only [pairC, HA, HC]; grind only))
            · have hrb : (regI h v.2 != regI k w.2) = true := by simpa using hr
              rw [if_pos (by simp [hr])] at hR
              simp -implicitDefEqProofs only [↓GP, GB, GL, Nat.reduceAdd, Nat.reduceSub, Nat.reduceEqDiff, Nat.reduceMul, Nat.reduceLeDiff, Int.reduceBNe, Int.reduceBEq, Nat.reduceLT, reduceCtorEq, hrb]
              exact fF hR.symm s4 (toC h6)
          · have hlb : ((x.b.ws.length : Int) != (y.b.ws.length : Int)) = true := by simp; omega
            rw [if_pos (by simp [hln])] at hR
            simp -implicitDefEqProofs only [↓GP, GB, GL, Nat.reduceAdd, Nat.reduceSub, Nat.reduceEqDiff, Nat.reduceMul, Nat.reduceLeDiff, Int.reduceBNe, Int.reduceBEq, Nat.reduceLT, reduceCtorEq, hkb, hlb]
            exact fF hR.symm s2 (toC h4)
        · have hkb : ((x.b.kind : Int) != (y.b.kind : Int)) = true := by simp; omega
          rw [if_pos (by simp [hk])] at hR
          simp -implicitDefEqProofs only [↓GP, GB, GL, Nat.reduceAdd, Nat.reduceSub, Nat.reduceEqDiff, Nat.reduceMul, Nat.reduceLeDiff, Int.reduceBNe, Int.reduceBEq, Nat.reduceLT, reduceCtorEq, hkb]
          exact fF hR.symm s2 (toC h4)
    · have hlt : ¬ ((i : Int) < (S.1.length : Int)) := by omega
      unfold loopM at hR
      rw [List.getElem?_eq_none (by omega)] at hR
      refine wp_round fun LL hLL => ?_
      simp -implicitDefEqProofs only [↓GP, GB, GL, Nat.reduceAdd, Nat.reduceSub, Nat.reduceEqDiff, Nat.reduceMul, Nat.reduceLeDiff, Int.reduceBNe, Int.reduceBEq, Nat.reduceLT, reduceCtorEq, l50_2, fc, hlt]
      exact fT s qk S (by rw [← hR]; simp) H
def alikeP (h k : PHeap) (a b : List Wd) : Bool := decide (a.length = b.length) && loopM h k ((allW h).length + 1) 0 (foldP h k ([], false) (a.zip b))
theorem s50 {h k : PHeap} {xa xb : Nat} {a b : List Wd} (H : Holds o s C) (lh : Look C p h) (lk : Look C q k) (hall : (allW h).length ≤ 90000) (ma : (xa, rowO 2 a.length (a.flatMap encW)) ∈ C) (mb : (xb, rowO 2 b.length (b.flatMap encW)) ∈ C) (hl : a.length ≤ 1000)
    (f : ∀ s', Holds o s' C → Q (.tuple [.bool (alikeP h k a b), I 0]) s') : WP (call PF 50 [ptrN h.id, rowV xa a.length, ptrN k.id, rowV xb b.length] s) Q := by
  have e1 := s89 H lh.hin lh.ne lh.len
  have e2 := s89 H lk.hin lk.ne lk.len
  unfold alikeP at f
  by_cases hab : a.length = b.length
  · have hb : ((a.length : Int) != (b.length : Int)) = false := by simp [hab]
    rw [decide_eq_true hab, Bool.true_and] at f
    rw [call_run F50]; simp -implicitDefEqProofs only [↓GP, GB, GL, Nat.reduceAdd, Nat.reduceSub, Nat.reduceEqDiff, Nat.reduceMul, Nat.reduceLeDiff, Int.reduceBNe, Int.reduceBEq, Nat.reduceLT, reduceCtorEq, c50, e1, e2, hb]
    have h1 := ((((H.alloc (.cells [ptrN h.id, .slice none 0 (some 0), .map none] none)).alloc (.cells [ptrN k.id, .slice none 0 (some 0), .map none] none)).alloc (.map [] 0)).alloc (.map [] 0)).alloc (.cells [ptrN s.next, ptrN (s.next + 1), .map (some (.new (s.next + 2))), .map (some (.new (s.next + 3))), .slice none 0 (some 0), .bool false] none)
    have h2 : Holds o _ (pairC (s.next + 4) s.next (s.next + 1) (s.next + 2) (s.next + 3) 0 h.id k.id [] false ++ C) := (Holds.of (h1.nilEntry 0) (fun k => by simp +arith only [pairC, List.map_nil, seq_nil, List.length_nil, rowV_z, List.flatMap_nil, rowO_z, HA, HB]) (fun k x => by simp only [pairC, List.map_nil, seq_nil, List.length_nil, rowV_z, List.flatMap_nil, rowO_z, HA, HC]; grind only))
    rw [I0, ← hab]
    rw [← hab] at mb
    refine al_roots (a := a) (b := b) lh lk hall ma mb hab.symm hl a.length 0 0 ([], false) _ (by omega) (PairsOk.nil h k) h2 fun s1 qk1 S1 hS1 hP1 h3 => ?_
    rw [List.drop_zero, List.drop_zero] at hS1
    rw [← hS1] at f
    simp -implicitDefEqProofs only [↓GP, GB, GL, Nat.reduceAdd, Nat.reduceSub, Nat.reduceEqDiff, Nat.reduceMul, Nat.reduceLeDiff, Int.reduceBNe, Int.reduceBEq, Nat.reduceLT, reduceCtorEq, j50_bbbbb]
    rw [I0]
    refine al_outer lh lk hall (R := loopM h k ((allW h).length + 1) 0 S1) (fun s2 qk2 S2 hS2 h4 => ?_) (fun hR s2 h4 => ?_) ((allW h).length + 1) 0 qk1 S1 s1 (by omega) hP1 rfl h3
    · have fc := h4.mem (List.mem_append_left _ (List.mem_cons_self ..) : (s.next + 4, some (O.cells [ptrN s.next, ptrN (s.next + 1), .map (some (.new (s.next + 2))), .map (some (.new (s.next + 3))), rowV qk2 S2.1.length, .bool S2.2] none)) ∈ pairC (s.next + 4) s.next (s.next + 1) (s.next + 2) (s.next + 3) qk2 h.id k.id S2.1 S2.2 ++ C)
      rw [hS2] at fc
      simp -implicitDefEqProofs only [↓GP, GB, GL, Nat.reduceAdd, Nat.reduceSub, Nat.reduceEqDiff, Nat.reduceMul, Nat.reduceLeDiff, Int.reduceBNe, Int.reduceBEq, Nat.reduceLT, reduceCtorEq, j50_bbbbbb, fc, Bool.not_not]
      exact f s2 h4.dropL
    · rw [hR] at f
      simp -implicitDefEqProofs only [↓GP, GB, GL, Nat.reduceAdd, Nat.reduceSub, Nat.reduceEqDiff, Nat.reduceMul, Nat.reduceLeDiff, Int.reduceBNe, Int.reduceBEq, Nat.reduceLT, reduceCtorEq]
      exact f s2 h4
  · have hb : ((a.length : Int) != (b.length : Int)) = true := by simp; omega
    rw [decide_eq_false hab, Bool.false_and] at f
    rw [call_run F50]; simp -implicitDefEqProofs only [↓GP, GB, GL, Nat.reduceAdd, Nat.reduceSub, Nat.reduceEqDiff, Nat.reduceMul, Nat.reduceLeDiff, Int.reduceBNe, Int.reduceBEq, Nat.reduceLT, reduceCtorEq, c50, e1, e2, hb]
    exact f s H
end
end Go.Proofs.Ytoldkemimhebaaa

set_option linter.unusedSimpArgs false
set_option linter.unusedVariables false
namespace Go.Proofs.Ytoldkemimhebaaa
open Go Go.IM
def fitM (h k : PHeap) (P : List (Wd × Wd)) (v w : Wd) : List (Wd × Wd) × Bool :=
  if thereB h v = true ∧ thereB k w = true then
    match P.find? (fun e => decide (e.1 = v) || decide (e.2 = w)) with
    | some e => (P, decide (e.1 = v) && decide (e.2 = w))
    | none => (P ++ [(v, w)], decide (regI h v.2 = regI k w.2))
  else (P, (!thereB h v && !thereB k w) && ((decide (v.2 = 0) == decide (w.2 = 0)) && (!decide (v.2 = 0) || decide (v.1 = w.1))))
def foldR (h k : PHeap) : List (Wd × Wd) → List (Wd × Wd) → Option (List (Wd × Wd))
  | P, [] => some P
  | P, e :: ps => if (fitM h k P e.1 e.2).2 = true then foldR h k (fitM h k P e.1 e.2).1 ps else none
def mismK (h k : PHeap) (v w : Wd) : Bool := match pfind v.1 v.2 h.regs, pfind w.1 w.2 k.regs with
  | some x, some y => decide (x.b.kind ≠ y.b.kind) || decide (x.b.ws.length ≠ y.b.ws.length)
  | _, _ => true
def loopR (h k : PHeap) : Nat → Nat → List (Wd × Wd) → Bool
  | 0, _, _ => true
  | n + 1, i, P => match P[i]? with
    | none => true
    | some e => if mismK h k e.1 e.2 = true then false else match foldR h k P ((objW h e.1).zip (objW k e.2)) with
      | none => false
      | some P' => loopR h k n (i + 1) P'
def alikeR (h k : PHeap) (a b : List Wd) : Bool := decide (a.length = b.length) && (match foldR h k [] (a.zip b) with
  | none => false
  | some P => loopR h k ((allW h).length + 1) 0 P)
theorem there_pos {h : PHeap} {w : Wd} (ht : thereB h w = true) : w.2 ≠ 0 := by have := (there_find ht).1; omega
theorem lkA_mem {P : List (Wd × Wd)} (hn : (P.map (·.1)).Nodup) {e : Wd × Wd} (he : e ∈ P) : lkA P e.1 = some e.2 := by
  obtain ⟨i, hi, rfl⟩ := List.mem_iff_getElem.1 he
  exact lkA_get hn (List.getElem?_eq_getElem hi)
theorem lkA_no {P : List (Wd × Wd)} {v : Wd} (h : ∀ e ∈ P, e.1 ≠ v) : lkA P v = none := by
  unfold lkA
  rw [Option.map_eq_none_iff, List.find?_eq_none]
  exact fun e he => by simpa using h e he
theorem swap_mem {P : List (Wd × Wd)} {e : Wd × Wd} (he : e ∈ P) : (e.2, e.1) ∈ swapP P := List.mem_map.2 ⟨e, he, rfl⟩
structure GoodP (h k : PHeap) (S : List (Wd × Wd) × Bool) (P : List (Wd × Wd)) : Prop where
  eq : S.1 = P
  un : S.2 = false
  ok : PairsOk h k P
  reg : ∀ e ∈ P, regI h e.1.2 = regI k e.2.2
def BadP (h k : PHeap) (i : Nat) (S : List (Wd × Wd) × Bool) : Prop := S.2 = true ∨ ∃ j e, i ≤ j ∧ S.1[j]? = some e ∧ regI h e.1.2 ≠ regI k e.2.2
theorem fit_pair {h k : PHeap} {S : List (Wd × Wd) × Bool} {P : List (Wd × Wd)} (g : GoodP h k S P) (v w : Wd) {i : Nat} (hi : i ≤ P.length) :
    ((fitM h k P v w).2 = true ∧ GoodP h k (pairP h k S v w) (fitM h k P v w).1) ∨ ((fitM h k P v w).2 = false ∧ BadP h k i (pairP h k S v w)) := by
  obtain ⟨S1, S2⟩ := S
  obtain ⟨e1, e2, hok, hreg⟩ := g
  simp only at e1 e2
  subst e1 e2
  have hpo := hok.pair (un := false) v w
  by_cases hth : thereB h v = true ∧ thereB k w = true
  · have hv0 := there_pos hth.1
    have hw0 := there_pos hth.2
    have hsw : ((swapP S1).map (·.1)).Nodup := by rw [swap_fst]; exact hok.b.nodup
    have hpe : pairP h k (S1, false) v w = (match lkA S1 v, lkA (swapP S1) w with
        | none, none => (S1 ++ [(v, w)], false)
        | to, from_ => (S1, false || (!decide (to.getD (0, 0) = w) || !decide (from_.getD (0, 0) = v)))) := by
      unfold pairP
      rw [if_neg (by simp [hv0, hw0]), if_neg (by simp [hth.1, hth.2]), if_neg (by simp [hth.1])]
      all_goals (cases lkA S1 v <;> cases lkA (swapP S1) w <;> rfl)
    unfold fitM
    rw [if_pos hth, hpe]
    rw [hpe] at hpo
    cases hf : S1.find? (fun e => decide (e.1 = v) || decide (e.2 = w)) with
    | none =>
      have hno := List.find?_eq_none.1 hf
      have n1 : lkA S1 v = none := lkA_no fun e he ex => by have := hno e he; simp [ex] at this
      have n2 : lkA (swapP S1) w = none := lkA_no fun e he ex => by
        obtain ⟨x, hx, rfl⟩ := List.mem_map.1 he
        have := hno x hx
        simp only at ex
        simp [ex] at this
      rw [n1, n2] at hpo ⊢
      simp only at hpo ⊢
      by_cases hr : regI h v.2 = regI k w.2
      · left
        refine ⟨by simpa using hr, rfl, rfl, hpo, fun e he => ?_⟩
        rcases List.mem_append.1 he with he | he
        · exact hreg e he
        · simp at he; subst he; exact hr
      · right
        exact ⟨by simpa using hr, .inr ⟨S1.length, (v, w), hi, by simp, hr⟩⟩
    | some e =>
      have hem := List.mem_of_find?_eq_some hf
      have hep := List.find?_some hf
      simp only
      by_cases h1 : e.1 = v
      · have l1 := lkA_mem hok.a.nodup hem
        rw [h1] at l1
        by_cases h2 : e.2 = w
        · have l2 := lkA_mem hsw (swap_mem hem)
          simp only [h1, h2] at l1 l2
          rw [l1, l2] at hpo ⊢
          left
          refine ⟨by simp [h1, h2], rfl, by simp, hok, hreg⟩
        · right
          refine ⟨by simp [h2], .inl ?_⟩
          rw [l1]
          simp [h2]
      · right
        have h2 : e.2 = w := by simpa [h1] using hep
        have l2 := lkA_mem hsw (swap_mem hem)
        simp only [h2] at l2
        refine ⟨by simp [h1], .inl ?_⟩
        rw [l2]
        cases lkA S1 v <;> simp [h1]
  · unfold fitM
    rw [if_neg hth]
    unfold pairP at hpo ⊢
    by_cases hz : v.2 = 0 ∨ w.2 = 0
    · rw [if_pos hz] at hpo ⊢
      have tv : v.2 = 0 → thereB h v = false := fun e => by cases ht : thereB h v; rfl; exact absurd e (there_pos ht)
      have tw : w.2 = 0 → thereB k w = false := fun e => by cases ht : thereB k w; rfl; exact absurd e (there_pos ht)
      by_cases hvw : v = w
      · left
        subst hvw
        have hv : v.2 = 0 := by rcases hz with h | h <;> exact h
        exact ⟨by simp [tv hv, tw hv, hv], rfl, by simp, hok, hreg⟩
      · right
        refine ⟨?_, .inl (by simp [hvw])⟩
        by_cases hv : v.2 = 0
        · by_cases hw : w.2 = 0
          · have : ¬ v.1 = w.1 := fun e => hvw (Prod.ext e (by rw [hv, hw]))
            simp [hv, hw, this]
          · simp [hv, hw]
        · have hw := hz.resolve_left hv
          simp [hv, hw]
    · rw [if_neg hz] at hpo ⊢
      have hv : v.2 ≠ 0 := fun e => hz (.inl e)
      have hw : w.2 ≠ 0 := fun e => hz (.inr e)
      by_cases hxy : thereB h v = thereB k w
      · have h1 : thereB h v = false := by
          cases ht : thereB h v
          · rfl
          · exact absurd ⟨ht, by rw [← hxy]; exact ht⟩ hth
        have h2 : thereB k w = false := by rw [← hxy]; exact h1
        rw [if_neg (fun hn => hn hxy), if_pos h1]
        left
        exact ⟨by simp [h1, h2, hv, hw], rfl, rfl, hok, hreg⟩
      · rw [if_pos hxy]
        right
        refine ⟨?_, .inl rfl⟩
        cases ht : thereB h v <;> cases ht2 : thereB k w <;> simp_all
theorem bad_pair {h k : PHeap} {S : List (Wd × Wd) × Bool} {i : Nat} (b : BadP h k i S) (v w : Wd) : BadP h k i (pairP h k S v w) := by
  have hpre : ∃ t, (pairP h k S v w).1 = S.1 ++ t := by
    unfold pairP
    split
    · exact ⟨[], by simp⟩
    · split
      · exact ⟨[], by simp⟩
      · split
        · exact ⟨[], by simp⟩
        · split
          · exact ⟨_, rfl⟩
          · exact ⟨[], by simp⟩
  rcases b with b | ⟨j, e, h1, h2, h3⟩
  · left
    unfold pairP
    split
    · simp [b]
    · split
      · rfl
      · split
        · exact b
        · split
          · exact b
          · simp [b]
  · obtain ⟨t, ht⟩ := hpre
    exact .inr ⟨j, e, h1, by rw [ht, List.getElem?_append_left (List.getElem?_eq_some_iff.1 h2).1]; exact h2, h3⟩
theorem bad_fold {h k : PHeap} {i : Nat} : ∀ (ps : List (Wd × Wd)) {S : List (Wd × Wd) × Bool}, BadP h k i S → BadP h k i (foldP h k S ps)
  | [], _, b => b
  | e :: ps, S, b => bad_fold ps (S := pairP h k S e.1 e.2) (bad_pair b e.1 e.2)
theorem fit_fold {h k : PHeap} {i : Nat} : ∀ (ps : List (Wd × Wd)) {S : List (Wd × Wd) × Bool} {P : List (Wd × Wd)}, GoodP h k S P → i ≤ P.length →
    (∃ P', foldR h k P ps = some P' ∧ GoodP h k (foldP h k S ps) P' ∧ i ≤ P'.length) ∨ (foldR h k P ps = none ∧ BadP h k i (foldP h k S ps))
  | [], S, P, g, hi => .inl ⟨P, rfl, g, hi⟩
  | e :: ps, S, P, g, hi => by
    have hpre : P.length ≤ (fitM h k P e.1 e.2).1.length := by
      unfold fitM; split
      · split <;> simp
      · simp
    unfold foldR
    rcases fit_pair g e.1 e.2 hi with ⟨h1, h2⟩ | ⟨h1, h2⟩
    · rw [if_pos h1]
      exact fit_fold ps h2 (by omega)
    · rw [if_neg (by rw [h1]; simp)]
      exact .inr ⟨rfl, bad_fold ps h2⟩
theorem loop_bad {h k : PHeap} : ∀ (n i : Nat) {S : List (Wd × Wd) × Bool}, (allW h).length + 1 ≤ i + n → PairsOk h k S.1 → BadP h k i S → loopM h k n i S = false
  | 0, i, S, hn, hP, b => by
    have hl := hP.a.len
    rw [List.length_map] at hl
    rcases b with b | ⟨j, e, h1, h2, _⟩
    · unfold loopM; rw [b]; rfl
    · have := (List.getElem?_eq_some_iff.1 h2).1; omega
  | n + 1, i, S, hn, hP, b => by
    unfold loopM
    rcases b with b | ⟨j, e, h1, h2, h3⟩
    · cases S.1[i]? with
      | none => rw [b]; rfl
      | some e => rw [b]; rfl
    · have hj := (List.getElem?_eq_some_iff.1 h2).1
      have hi : i < S.1.length := by omega
      rw [List.getElem?_eq_getElem hi]
      simp only
      split
      · rfl
      · split
        · rfl
        · rename_i hm
          by_cases hij : i = j
          · subst hij
            have he : S.1[i] = e := (List.getElem?_eq_some_iff.1 h2).2
            rw [he] at hm
            exfalso
            apply hm
            unfold mism
            split
            · simp [h3]
            · rfl
          · exact loop_bad n (i + 1) (by omega) (hP.fold _) (bad_fold _ (.inr ⟨j, e, by omega, h2, h3⟩))
theorem loop_same {h k : PHeap} : ∀ (n i : Nat) {S : List (Wd × Wd) × Bool} {P : List (Wd × Wd)}, (allW h).length + 1 ≤ i + n → GoodP h k S P → loopM h k n i S = loopR h k n i P
  | 0, i, S, P, hn, g => by unfold loopM loopR; rw [g.un]; rfl
  | n + 1, i, S, P, hn, g => by
    unfold loopM loopR
    rw [g.eq]
    cases hp : P[i]? with
    | none => simp only; rw [g.un]; rfl
    | some e =>
      simp only
      rw [if_neg (by rw [g.un]; simp)]
      have hem := List.mem_of_getElem? hp
      have hmm : mism h k e.1 e.2 = mismK h k e.1 e.2 := by
        unfold mism mismK
        cases pfind e.1.1 e.1.2 h.regs with
        | none => rfl
        | some x => cases pfind e.2.1 e.2.2 k.regs with
          | none => rfl
          | some y => simp [g.reg e hem]
      rw [hmm]
      split
      · rfl
      · have hi := (List.getElem?_eq_some_iff.1 hp).1
        have hP : PairsOk h k S.1 := by rw [g.eq]; exact g.ok
        rcases fit_fold (i := i + 1) ((objW h e.1).zip (objW k e.2)) g (by omega) with ⟨P', h1, h2, h3⟩ | ⟨h1, h2⟩
        · rw [h1]
          exact loop_same n (i + 1) (by omega) h2
        · rw [h1]
          exact loop_bad n (i + 1) (by omega) (hP.fold _) h2
theorem alike_same (h k : PHeap) (a b : List Wd) : alikeP h k a b = alikeR h k a b := by
  unfold alikeP alikeR
  by_cases hab : a.length = b.length
  · rw [decide_eq_true hab, Bool.true_and, Bool.true_and]
    have g : GoodP h k ([], false) [] := ⟨rfl, rfl, PairsOk.nil h k, fun e he => by cases he⟩
    rcases fit_fold (i := 0) (a.zip b) g (Nat.le_refl _) with ⟨P', h1, h2, _⟩ | ⟨h1, h2⟩
    · rw [h1]
      exact loop_same _ 0 (by omega) h2
    · rw [h1]
      exact loop_bad _ 0 (by omega) ((PairsOk.nil h k).fold _) h2
  · rw [decide_eq_false hab, Bool.false_and, Bool.false_and]
end Go.Proofs.Ytoldkemimhebaaa

set_option linter.unusedSimpArgs false
set_option linter.unusedVariables false
namespace Go.Proofs.Ytoldkemimhebaaa
open Go Go.IM
def putAllW (hp : PHeap) (ws : List (Int × Int)) : List (Int × Int) := ws.foldl (putW hp) []
theorem puts_prefix (hp : PHeap) : ∀ (ws l : List (Int × Int)), l <+: ws.foldl (putW hp) l
  | [], l => List.prefix_refl l
  | w :: ws, l => by
    refine List.IsPrefix.trans ?_ (puts_prefix hp ws (putW hp l w))
    unfold putW; split
    · exact List.prefix_append ..
    · exact List.prefix_refl l
theorem putAllW_mono {hp : PHeap} {a b : List (Int × Int)} (h : a <+: b) : putAllW hp a <+: putAllW hp b := by
  obtain ⟨t, rfl⟩ := h
  unfold putAllW
  rw [List.foldl_append]
  exact puts_prefix ..
theorem flatMap_prefix {α β : Type} {a b : List α} (f : α → List β) (h : a <+: b) : a.flatMap f <+: b.flatMap f := by
  obtain ⟨t, rfl⟩ := h
  rw [List.flatMap_append]
  exact List.prefix_append ..
theorem prefix_take {α : Type} {a b : List α} (h : a <+: b) : a = b.take a.length := List.prefix_iff_eq_take.1 h
theorem prefix_app {α : Type} (r : List α) {a b : List α} (h : a <+: b) : r ++ a <+: r ++ b := by
  obtain ⟨t, rfl⟩ := h
  exact ⟨t, by simp⟩
theorem bfs_fix {hp : PHeap} {roots : List (Int × Int)} : ∀ (n i : Nat) (l : List (Int × Int)), Found hp l → (allW hp).length + 1 ≤ i + n → i ≤ l.length → l = putAllW hp (roots ++ (l.take i).flatMap (objW hp)) →
    (bfs hp n i l = putAllW hp (roots ++ (bfs hp n i l).flatMap (objW hp)) ∧ ∀ X, X = putAllW hp (roots ++ X.flatMap (objW hp)) → l <+: X → bfs hp n i l <+: X)
  | 0, i, l, hf, hn, hi, e => by have := hf.len; omega
  | n + 1, i, l, hf, hn, hi, e => by
    by_cases h : i < l.length
    · have hg := List.getElem?_eq_getElem h
      rw [bfs_in hg]
      have hpre := puts_prefix hp (objW hp l[i]) l
      have htk : ((objW hp l[i]).foldl (putW hp) l).take (i + 1) = l.take (i + 1) := by
        obtain ⟨t, ht⟩ := hpre
        rw [← ht, List.take_append_of_le_length (by omega)]
      have e2 : (objW hp l[i]).foldl (putW hp) l = putAllW hp (roots ++ (l.take (i + 1)).flatMap (objW hp)) := by
        rw [List.take_add_one, hg, Option.toList_some, List.flatMap_append, List.flatMap_cons, List.flatMap_nil, List.append_nil, ← List.append_assoc]
        unfold putAllW
        rw [List.foldl_append]
        unfold putAllW at e
        rw [← e]
      have hlen := hpre.length_le
      obtain ⟨r1, r2⟩ := bfs_fix (roots := roots) n (i + 1) _ (hf.puts (objW hp l[i])) (by omega) (by omega) (by rw [htk]; exact e2)
      refine ⟨r1, fun X hX hl => r2 X hX ?_⟩
      rw [e2, hX]
      refine putAllW_mono (prefix_app roots (flatMap_prefix _ ?_))
      exact (List.take_prefix ..).trans hl
    · have hil : i = l.length := by omega
      rw [bfs_out (by omega)]
      refine ⟨?_, fun X _ hl => hl⟩
      rw [hil, List.take_length] at e
      exact e
theorem reach_fix (hp : PHeap) (roots : List (Int × Int)) : reachW hp roots = putAllW hp (roots ++ (reachW hp roots).flatMap (objW hp)) :=
  (bfs_fix (roots := roots) _ 0 (roots.foldl (putW hp) []) ((Found.nil hp).puts roots) (by omega) (Nat.zero_le _) (by rw [List.take_zero, List.flatMap_nil, List.append_nil]; rfl)).1
theorem reach_least {hp : PHeap} {roots X : List (Int × Int)} (h : X = putAllW hp (roots ++ X.flatMap (objW hp))) : reachW hp roots <+: X :=
  (bfs_fix (roots := roots) _ 0 (roots.foldl (putW hp) []) ((Found.nil hp).puts roots) (by omega) (Nat.zero_le _) (by rw [List.take_zero, List.flatMap_nil, List.append_nil]; rfl)).2 X h (by
    rw [h]; exact putAllW_mono (List.prefix_append ..))
end Go.Proofs.Ytoldkemimhebaaa

set_option linter.unusedSimpArgs false
set_option linter.unusedVariables false
namespace Go.Proofs.Ytoldkemimhebaaa
open Go Go.IM
section
variable {o : Nat → Option O} {s : St} {C F : Ch} {Q : V → St → Prop} {p q : Nat}
set_option maxRecDepth 10000
set_option maxHeartbeats 4000000
structure RLook (C : Ch) (p : Nat) (hr : RHeap) : Prop where
  rin : RIn C p hr
  ne : hr.regs ≠ []
  len : hr.regs.length ≤ 100000
  objs : ∀ g ∈ hr.regs, g.objs.length ≤ 100000
  ws : ∀ g ∈ hr.regs, ∀ x ∈ g.objs, 1 ≤ x.b.ws.length ∧ x.b.ws.length ≤ 31
theorem RLook.cons {hr : RHeap} (h : RLook C p hr) (x : Nat × Option O) : RLook (x :: C) p hr := ⟨h.rin.cons x, h.ne, h.len, h.objs, h.ws⟩
theorem RLook.mono {D : Ch} {hr : RHeap} (h : RLook C p hr) (hs : ∀ x ∈ C, x ∈ D) : RLook D p hr := ⟨h.rin.mono hs, h.ne, h.len, h.objs, h.ws⟩
end
end Go.Proofs.Ytoldkemimhebaaa

set_option linter.unusedSimpArgs false
set_option linter.unusedVariables false
namespace Go.Proofs.Ytoldkemimhebaaa
open Go Go.IM
section
variable {o : Nat → Option O} {s : St} {C F : Ch} {Q : V → St → Prop} {p q : Nat}
set_option maxRecDepth 10000
set_option maxHeartbeats 4000000
end
end Go.Proofs.Ytoldkemimhebaaa

set_option linter.unusedSimpArgs false
set_option linter.unusedVariables false
namespace Go.Proofs.Ytoldkemimhebaaa
open Go Go.IM
section
variable {o : Nat → Option O} {s : St} {C F : Ch} {Q : V → St → Prop} {p q : Nat}
set_option maxRecDepth 10000
set_option maxHeartbeats 4000000
def lookW : List (Int × Int) → List (Int × Int) → Int × Int → Option (Int × Int)
  | a :: l, b :: m, w => if a = w then some b else lookW l m w
  | _, _, _ => none
def finR (hc : RHeap) (w : Int × Int) : Bool := match rfind w.1 w.2 hc.regs 0 with
  | some (a, _) => match hc.regs[a]? with
    | some g => decide (0 < g.size)
    | none => false
  | none => false
end
end Go.Proofs.Ytoldkemimhebaaa

set_option linter.unusedSimpArgs false
set_option linter.unusedVariables false
namespace Go.Proofs.Ytoldkemimhebaaa
open Go Go.IM
theorem lookW_mem : ∀ {fr tt : List (Int × Int)} {w n : Int × Int}, lookW fr tt w = some n → w ∈ fr ∧ n ∈ tt
  | [], _, _, _, h => by simp [lookW] at h
  | _ :: _, [], _, _, h => by simp [lookW] at h
  | a :: fr, b :: tt, w, n, h => by
    rw [lookW] at h
    split at h
    · rename_i e; cases h; subst e; exact ⟨List.mem_cons_self .., List.mem_cons_self ..⟩
    · obtain ⟨h1, h2⟩ := lookW_mem h
      exact ⟨List.mem_cons_of_mem _ h1, List.mem_cons_of_mem _ h2⟩
theorem lookW_none {w : Int × Int} : ∀ {fr tt : List (Int × Int)}, w ∉ fr → lookW fr tt w = none
  | [], _, _ => by simp [lookW]
  | _ :: _, [], _ => by simp [lookW]
  | a :: fr, b :: tt, h => by
    have e : ¬ a = w := fun e => h (by rw [e]; exact List.mem_cons_self ..)
    rw [lookW, if_neg e]
    exact lookW_none fun m => h (List.mem_cons_of_mem _ m)
theorem look_upd (w : Int × Int) : ∀ {ks ns : List (Int × Int)} (f : ToF), ks.Nodup → ns.length = ks.length → ((ks.zip ns).foldl updF f) w = (lookW ks ns w).or (f w)
  | [], _, f, _, _ => by simp [lookW]
  | _ :: _, [], _, _, h => by simp at h
  | k :: ks, n :: ns, f, hn, hl => by
    rw [List.nodup_cons] at hn
    rw [List.zip_cons_cons, List.foldl_cons, look_upd w _ hn.2 (by simpa using hl), lookW]
    by_cases e : k = w
    · subst e
      rw [lookW_none hn.1, if_pos rfl, Option.none_or]
      unfold updF; rw [if_pos rfl]; rfl
    · rw [if_neg e]
      unfold updF; rw [if_neg (fun h => e h.symm)]
theorem look_map : ∀ {ks ns : List (Int × Int)}, ks.Nodup → ns.length = ks.length → ks.map (fun w => (lookW ks ns w).getD (0, 0)) = ns
  | [], [], _, _ => rfl
  | [], _ :: _, _, h => by simp at h
  | _ :: _, [], _, h => by simp at h
  | k :: ks, n :: ns, hn, hl => by
    rw [List.nodup_cons] at hn
    rw [List.map_cons, lookW, if_pos rfl]
    congr 1
    rw [← look_map hn.2 (by simpa using hl : ns.length = ks.length)]
    have := look_map hn.2 (by simpa using hl : ns.length = ks.length)
    refine List.map_congr_left fun w hw => ?_
    have e : ¬ k = w := fun e => hn.1 (by rw [e]; exact hw)
    rw [this, lookW, if_neg e]
def mapReg (f : List (Int × Int) → List (Int × Int)) (g : Reg) : Reg := { g with objs := g.objs.map fun x => { x with ws := f x.ws } }
def setIf (Os : List (Int × Int)) (f : List (Int × Int) → List (Int × Int)) (g : Reg) : Reg := { g with objs := g.objs.map fun x => if ((x.at_ : Int), (g.life : Int)) ∈ Os then { x with ws := f x.ws } else x }
theorem setM_if (w : Int × Int) (f) (rs : List Reg) : setM w f rs = rs.map (setIf [w] f) := by
  unfold setM
  refine List.map_congr_left fun g _ => ?_
  unfold setReg1 setIf
  split
  · rename_i h
    congr 1
    refine List.map_congr_left fun x _ => ?_
    unfold setObj1
    have : (((x.at_ : Int), (g.life : Int)) ∈ [w]) ↔ (x.at_ : Int) = w.1 := by
      rw [List.mem_singleton]; exact ⟨fun e => by rw [← e], fun e => Prod.ext e h⟩
    simp only [this]
    split <;> rfl
  · rename_i h
    have : g.objs.map (fun x => if ((x.at_ : Int), (g.life : Int)) ∈ [w] then { x with ws := f x.ws } else x) = g.objs.map id := by
      refine List.map_congr_left fun x _ => ?_
      rw [if_neg (fun m => h (by rw [List.mem_singleton] at m; rw [← m]))]; rfl
    rw [this, List.map_id]
theorem setIf_setIf {w : Int × Int} {Os : List (Int × Int)} (h : w ∉ Os) (f) (g : Reg) : setIf Os f (setIf [w] f g) = setIf (w :: Os) f g := by
  unfold setIf
  simp only [List.map_map]
  congr 1
  refine List.map_congr_left fun x _ => ?_
  simp only [Function.comp]
  by_cases e : ((x.at_ : Int), (g.life : Int)) = w
  · have h1 : ((x.at_ : Int), (g.life : Int)) ∉ Os := e ▸ h
    rw [if_pos (List.mem_singleton.2 e), if_neg h1, if_pos (e ▸ List.mem_cons_self ..)]
  · rw [if_neg (fun m => e (List.mem_singleton.1 m))]
    simp only [List.mem_cons, e, false_or]
theorem fold_set (f) : ∀ {Os : List (Int × Int)} {rs : List Reg}, Os.Nodup → Os.foldl (fun rs w => setM w f rs) rs = rs.map (setIf Os f)
  | [], rs, _ => by
    have : rs.map (setIf [] f) = rs.map id := List.map_congr_left fun g _ => by
      unfold setIf
      have : g.objs.map (fun x => if ((x.at_ : Int), (g.life : Int)) ∈ ([] : List (Int × Int)) then { x with ws := f x.ws } else x) = g.objs.map id := List.map_congr_left fun x _ => by simp
      rw [this, List.map_id]; rfl
    rw [List.foldl_nil, this, List.map_id]
  | w :: Os, rs, h => by
    rw [List.nodup_cons] at h
    rw [List.foldl_cons, setM_if, fold_set f h.2, List.map_map]
    exact List.map_congr_left fun g _ => setIf_setIf h.1 f g
def wordsAll (rs : List Reg) : List (Int × Int) := rs.flatMap wordsR
theorem wordsR_life {g : Reg} {w : Int × Int} (h : w ∈ wordsR g) : w.2 = g.life := by
  obtain ⟨x, _, rfl⟩ := List.mem_map.1 h; rfl
theorem wordsR_nodup {g : Reg} (h : RInv g) : (wordsR g).Nodup := by
  have := h.nodup
  unfold wordsR
  rw [show (fun x : Obj => ((x.at_ : Int), (g.life : Int))) = (fun n : Nat => ((n : Int), (g.life : Int))) ∘ (fun x : Obj => x.at_) from rfl, ← List.map_map]
  exact List.Pairwise.map _ (fun a b (h : a ≠ b) e => h (by have := congrArg Prod.fst e; simp only at this; omega)) this
theorem wordsAll_nodup : ∀ {rs : List Reg}, (rs.map (·.life)).Nodup → (∀ r ∈ rs, RInv r) → (wordsAll rs).Nodup
  | [], _, _ => List.nodup_nil
  | g :: rs, h, hi => by
    rw [List.map_cons, List.nodup_cons] at h
    unfold wordsAll
    rw [List.flatMap_cons, List.nodup_append]
    refine ⟨wordsR_nodup (hi g (List.mem_cons_self ..)), wordsAll_nodup h.2 fun r hr => hi r (List.mem_cons_of_mem _ hr), fun a ha b hb e => ?_⟩
    subst e
    obtain ⟨r, hr, hb⟩ := List.mem_flatMap.1 hb
    exact h.1 (List.mem_map.2 ⟨r, hr, by have := wordsR_life ha; have := wordsR_life hb; omega⟩)
def keptAll (L : List (Int × Int)) (rs : List Reg) : List (Int × Int) := rs.flatMap fun g => if 0 < g.pages.length then (wordsR g).filter (decide <| · ∈ L) else []
theorem kept_words (L : List (Int × Int)) (g : Reg) : (keptM L g).map (fun x => ((x.at_ : Int), (g.life : Int))) = (wordsR g).filter (decide <| · ∈ L) := by
  unfold keptM wordsR
  rw [List.filter_map]; rfl
structure ColInv2 (L : List (Int × Int)) (A B : List Reg) (S : ColS) : Prop where
  fx : ∀ w, w ∈ S.fx ↔ ∃ g ∈ A, ¬ 0 < g.pages.length ∧ w ∈ wordsR g
  mv : ∀ w n, S.mv w = some n → w ∈ keptAll L A ∧ n.2 = w.2
  perm : (wordsAll S.regs).Perm (S.objs ++ (keptAll L A).map (toD S.mv))
theorem ColInv2.ext {L : List (Int × Int)} {A B : List Reg} {S : ColS} {g g' : Reg} {u' : List Bool} {ks ns : List (Int × Int)} (h : ColInv2 L A (g :: B) S) (hp : 0 < g.pages.length) (hlife : ∀ w ∈ keptAll L A, w ∉ wordsR g) (hka : keptAll L (A ++ [g]) = keptAll L A ++ ks) (hkn : ks.Nodup) (hkl : ns.length = ks.length)
    (hkg : ∀ w ∈ ks, w ∈ wordsR g) (hns : ∀ n ∈ ns, n.2 = g.life) (hw : wordsR g' = ns) : ColInv2 L (A ++ [g]) B ⟨S.regs ++ [g'], u', (ks.zip ns).foldl updF S.mv, S.fx, S.objs⟩ := by
  have hup := fun w => look_upd w S.mv hkn hkl
  refine ⟨fun w => ?_, fun w n e => ?_, ?_⟩
  · simp only [h.fx w, List.mem_append, List.mem_singleton]
    constructor
    · rintro ⟨g0, m0, q⟩; exact ⟨g0, .inl m0, q⟩
    · rintro ⟨g0, m0 | rfl, q1, q2⟩
      · exact ⟨g0, m0, q1, q2⟩
      · exact absurd hp q1
  · simp only at e
    rw [hup] at e
    cases hl : lookW ks ns w with
    | some m =>
      rw [hl, Option.some_or] at e
      cases e
      obtain ⟨h1, h2⟩ := lookW_mem hl
      rw [hka]
      exact ⟨List.mem_append_right _ h1, by rw [hns _ h2, wordsR_life (hkg _ h1)]⟩
    | none =>
      rw [hl, Option.none_or] at e
      obtain ⟨h1, h2⟩ := h.mv w n e
      rw [hka]
      exact ⟨List.mem_append_left _ h1, h2⟩
  · have hpm := h.perm
    unfold wordsAll at *
    simp only
    rw [List.flatMap_append, List.flatMap_cons, List.flatMap_nil, List.append_nil, hw, hka, List.map_append, ← List.append_assoc]
    have e1 : (keptAll L A).map (toD ((ks.zip ns).foldl updF S.mv)) = (keptAll L A).map (toD S.mv) := List.map_congr_left fun w hw => by
      unfold toD
      rw [hup, lookW_none (fun m => hlife w hw (hkg w m)), Option.none_or]
    have e2 : ks.map (toD ((ks.zip ns).foldl updF S.mv)) = ns := by
      refine Eq.trans (List.map_congr_left fun w hw => ?_) (look_map hkn hkl)
      unfold toD
      rw [hup]
      obtain ⟨n, h1, h2⟩ := updF_mem ks ns (fun _ => none) w hkl hw
      rw [look_upd w _ hkn hkl] at h2
      simp only [Option.or_none] at h2
      rw [h2]; rfl
    rw [e1, e2]
    exact hpm.append_right _
theorem ColInv2.step {L : List (Int × Int)} {lv : Nat} {A B : List Reg} {S : ColS} {g : Reg} (hc : ColInv L lv A (g :: B) S) (h : ColInv2 L A (g :: B) S) : ColInv2 L (A ++ [g]) B (colStep L S g) := by
  have hI := hc.ok.inv
  have hri := hI.reg g (by simp)
  have hn := hI.nodup
  rw [List.map_append, List.map_cons, hc.lives, List.nodup_append] at hn
  have hlife : ∀ w ∈ keptAll L A, w ∉ wordsR g := by
    intro w hw hg
    obtain ⟨g0, m0, hw⟩ := List.mem_flatMap.1 hw
    split at hw
    · have h1 := wordsR_life (List.mem_filter.1 hw).1
      have h2 := wordsR_life hg
      exact hn.2.2 _ (List.mem_map.2 ⟨g0, m0, rfl⟩) _ (List.mem_cons_self ..) (by omega)
    · cases hw
  have hka : keptAll L (A ++ [g]) = keptAll L A ++ (if 0 < g.pages.length then (wordsR g).filter (decide <| · ∈ L) else []) := by
    unfold keptAll; rw [List.flatMap_append, List.flatMap_cons, List.flatMap_nil, List.append_nil]
  unfold colStep
  by_cases hp : 0 < g.pages.length
  · rw [if_pos hp] at hka ⊢
    have hs : g.size = 0 := by
      rcases Nat.eq_zero_or_pos g.size with h | h
      · exact h
      · have := (hri.fin h).1; rw [this] at hp; simp at hp
    obtain ⟨ats, u', fill', pages', hlay, hnd, hpl, hal, hul, hR⟩ := hc.ok.turn hs (ys := keptM L g) (List.filter_sublist ..)
    rw [hlay]
    have hkn : ((wordsR g).filter (decide <| · ∈ L)).Nodup := (wordsR_nodup hri).sublist (List.filter_sublist ..)
    have hkl : (ats.map fun a : Nat => ((a : Int), (g.life : Int))).length = ((wordsR g).filter (decide <| · ∈ L)).length := by rw [← kept_words]; simp [hal]
    rw [kept_words]
    refine h.ext hp hlife hka hkn hkl (fun w hw => (List.mem_filter.1 hw).1) (fun n hn => by obtain ⟨a, _, rfl⟩ := List.mem_map.1 hn; rfl) ?_
    have := congrArg (List.map fun z : Nat × Nat => ((z.1 : Int), (g.life : Int))) (layObj_os (keptM L g) ats hal)
    rw [List.map_map] at this
    refine (show _ = _ from this).trans ?_
    have e3 : ∀ Z : List (Nat × Nat), Z.map (fun z : Nat × Nat => ((z.1 : Int), (g.life : Int))) = (Z.map Prod.fst).map (fun a : Nat => ((a : Int), (g.life : Int))) := fun Z => by rw [List.map_map]; rfl
    rw [e3, List.map_fst_zip (by simp [hal])]
  · rw [if_neg hp] at hka ⊢
    rw [List.append_nil] at hka
    refine ⟨fun w => ?_, fun w n e => by rw [hka]; exact h.mv w n e, ?_⟩
    · simp only [List.mem_append, h.fx w, List.mem_singleton]
      constructor
      · rintro (⟨g0, m0, q⟩ | q)
        · exact ⟨g0, .inl m0, q⟩
        · exact ⟨g, .inr rfl, hp, q⟩
      · rintro ⟨g0, m0 | rfl, q1, q2⟩
        · exact .inl ⟨g0, m0, q1, q2⟩
        · exact .inr q2
    · unfold wordsAll at *
      simp only
      rw [List.flatMap_append, List.flatMap_cons, List.flatMap_nil, List.append_nil, hka, List.append_assoc]
      refine (h.perm.append_right _).trans ?_
      rw [List.append_assoc]
      exact List.Perm.append_left _ List.perm_append_comm
theorem ColInv2.all {L : List (Int × Int)} {lv : Nat} : ∀ {B A : List Reg} {S : ColS}, ColInv L lv A B S → ColInv2 L A B S → ColInv2 L (A ++ B) [] (B.foldl (colStep L) S)
  | [], A, S, _, h => by simpa using h
  | g :: B, A, S, h1, h => by
    have := (h.step h1).all (h1.step)
    rw [List.append_assoc] at this
    exact this
theorem ColInv2.start {L : List (Int × Int)} {u : List Bool} {B : List Reg} : ColInv2 L [] B ⟨[], u, fun _ => none, [], []⟩ :=
  ⟨fun w => ⟨fun h => (by cases h), fun ⟨_, h, _⟩ => (by cases h)⟩, (fun w n h => by cases h), List.Perm.refl _⟩
theorem life_inj : ∀ {rs : List Reg}, (rs.map (·.life)).Nodup → ∀ {g g0 : Reg}, g ∈ rs → g0 ∈ rs → g.life = g0.life → g = g0
  | [], _, _, _, h, _, _ => by cases h
  | r :: rs, hn, g, g0, h, h0, e => by
    rw [List.map_cons, List.nodup_cons] at hn
    rcases List.mem_cons.1 h with h1 | h1
    · rcases List.mem_cons.1 h0 with h2 | h2
      · rw [h1, h2]
      · exact (hn.1 (List.mem_map.2 ⟨g0, h2, by rw [← e, h1]⟩)).elim
    · rcases List.mem_cons.1 h0 with h2 | h2
      · exact (hn.1 (List.mem_map.2 ⟨g, h1, by rw [e, h2]⟩)).elim
      · exact life_inj hn.2 h1 h2 e
theorem kept_perm {L : List (Int × Int)} {rs : List Reg} (hn : (rs.map (·.life)).Nodup) (hi : ∀ r ∈ rs, RInv r) (hL : ∀ w ∈ L, Points rs w) (hLn : L.Nodup) {fx : List (Int × Int)} (hfx : ∀ w, w ∈ fx ↔ ∃ g ∈ rs, ¬ 0 < g.pages.length ∧ w ∈ wordsR g) :
    (keptAll L rs).Perm (L.filter fun w => !decide (w ∈ fx)) := by
  have h1 : (keptAll L rs).Nodup := by
    have := wordsAll_nodup hn hi
    refine this.sublist ?_
    unfold keptAll wordsAll
    clear this hfx hL hi hn
    induction rs with
    | nil => exact List.Sublist.refl _
    | cons g rs ih =>
      rw [List.flatMap_cons, List.flatMap_cons]
      refine List.Sublist.append ?_ ih
      split
      · exact List.filter_sublist ..
      · exact List.nil_sublist _
  have same : ∀ {g g0 : Reg} {w : Int × Int}, g ∈ rs → g0 ∈ rs → w ∈ wordsR g → w ∈ wordsR g0 → g.life = g0.life := fun _ _ h1 h2 => by have := wordsR_life h1; have := wordsR_life h2; omega
  have inj : ∀ {g g0 : Reg}, g ∈ rs → g0 ∈ rs → g.life = g0.life → g = g0 := fun hg hg0 e => life_inj hn hg hg0 e
  refine (List.perm_ext_iff_of_nodup h1 (hLn.sublist (List.filter_sublist ..))).2 fun w => ?_
  rw [List.mem_filter]
  constructor
  · intro h
    obtain ⟨g, hg, h⟩ := List.mem_flatMap.1 h
    split at h
    · rename_i hp
      obtain ⟨h2, h3⟩ := List.mem_filter.1 h
      refine ⟨by simpa using h3, ?_⟩
      have : ¬ w ∈ fx := fun m => by
        obtain ⟨g0, hg0, h4, h5⟩ := (hfx w).1 m
        exact h4 (inj hg hg0 (same hg hg0 h2 h5) ▸ hp)
      simpa using this
    · cases h
  · rintro ⟨h2, h3⟩
    have h3' : w ∉ fx := by simpa using h3
    obtain ⟨h0, g, hg, e1, x, hx, e2⟩ := hL w h2
    have hw : w ∈ wordsR g := List.mem_map.2 ⟨x, hx, Prod.ext e2 e1⟩
    refine List.mem_flatMap.2 ⟨g, hg, ?_⟩
    by_cases hp : 0 < g.pages.length
    · rw [if_pos hp]; exact List.mem_filter.2 ⟨hw, by simpa using h2⟩
    · exact absurd ((hfx w).2 ⟨g, hg, hp, hw⟩) h3'
theorem colRegs_map {lv : Nat} {u : List Bool} {rs : List Reg} {L : List (Int × Int)} (h : RsOk lv u rs) (hL : ∀ w ∈ L, Points rs w) (hLn : L.Nodup) :
    colRegs L (colAll L u rs) = (colAll L u rs).regs.map (mapReg (List.map (nowW (colAll L u rs).mv (colAll L u rs).fx))) := by
  have hI := (ColInv.start (L := L) h).all
  have hI2 := (ColInv2.start (L := L) (u := u) (B := rs)).all (ColInv.start (L := L) h)
  rw [List.nil_append] at hI hI2
  change ColInv L lv rs [] (colAll L u rs) at hI
  change ColInv2 L rs [] (colAll L u rs) at hI2
  generalize colAll L u rs = S at hI hI2 ⊢
  have hok := hI.ok
  rw [List.append_nil] at hok
  have hkp := kept_perm h.inv.nodup h.inv.reg hL hLn hI2.fx
  have hperm : (wordsAll S.regs).Perm (colObjs L S) := hI2.perm.trans (List.Perm.append_left _ (hkp.map _))
  have hnd : (colObjs L S).Nodup := hperm.nodup_iff.1 (wordsAll_nodup hok.inv.nodup hok.inv.reg)
  unfold colRegs fixM
  rw [fold_set _ hnd]
  refine List.map_congr_left fun g hg => ?_
  unfold setIf mapReg
  congr 1
  refine List.map_congr_left fun x hx => ?_
  have hm : ((x.at_ : Int), (g.life : Int)) ∈ colObjs L S := hperm.mem_iff.1 (List.mem_flatMap.2 ⟨g, hg, List.mem_map.2 ⟨x, hx, rfl⟩⟩)
  rw [if_pos hm]
  congr 1
  refine List.map_congr_left fun w hw => ?_
  have hwl := (hok.inv.reg g hg).wl x hx w hw
  unfold fixF
  rw [if_pos]
  unfold nowW
  split
  · exact hwl
  · split
    · rename_i n e
      rw [(hI2.mv w n e).2]; exact hwl
    · split <;> exact hwl
end Go.Proofs.Ytoldkemimhebaaa

set_option linter.unusedSimpArgs false
set_option linter.unusedVariables false
namespace Go.Proofs.Ytoldkemimhebaaa
open Go Go.IM
def l47_0 : IC := (.seq (.seq (.seq (.region [oa 59 (.mov (.t 15)), oa 60 (.mov (.t 12)), oa 61 (.lenSlice (.t 60)), oa 62 (.bin .lss (.t 59) (.t 61))] (kp 160 [0,1,6,8,9,10,11,12,14,15,62]))
  (.cond (.t 62)
  (sk 160 [0,1,6,8,9,10,11,12,14,15])
  (sx 160 [0,1,6,8,9,10,11,14] 2)))
  (.seq (.block 3
  (.seq (.region [oa 65 (.mov (.t 6)), oa 66 (.mov (.t 12)), oa 67 (.mov (.t 15)), oa 68 (.indexAddr 2 (.t 66) (.t 67)), oa 69 (.load (some 2) (.t 68)), oa 70 (.call 96 [(.t 65), (.t 69)])] (kp 160 [0,1,6,8,9,10,11,12,14,15,70]))
  (.cond (.t 70)
  (.region [oa 71 (.mov (.t 14)), oa 72 (.mov (.t 12)), oa 73 (.mov (.t 15)), oa 74 (.indexAddr 2 (.t 72) (.t 73)), oa 75 (.load (some 2) (.t 74)), oa 76 (.buildSlice 1 [(.int .i64 (0)), (.int .i64 (0))] [(0, 2, (.t 75))]), oa 77 (.append 2 16 (.t 71) (.t 76)), oa 14 (.mov (.t 77))] (kp 160 [0,1,6,8,9,10,11,12,14,15]))
  (sk 160 [0,1,6,8,9,10,11,12,14,15]))))
  (.region [oa 63 (.mov (.t 15)), oa 64 (.bin .add (.t 63) (ai 1)), oa 15 (.mov (.t 64))] (kp 160 [0,1,6,8,9,10,11,12,14,15]))))
  (sk 160 [0,1,6,8,9,10,11,12,14,15]))
def j47_1xabaabbbb : IC := (.seq (.region [oa 79 (.mov (.t 0)), oa 80 (.mov (.t 11)), oa 81 (.mov (.t 14)), oa 82 (.call 97 [(.t 79), (.t 80), (.t 81)]), oa 78 (.mov (.t 82)), oa 83 (.extract (.t 78) 0), oa 84 (.extract (.t 78) 1), oa 16 (.mov (.t 83)), oa 17 (.mov (.t 84))] (kp 160 [0,1,6,8,9,10,11,14,16]))
  (.seq (.region [oa 85 (.mov (.t 9)), oa 86 (.mov (.t 14)), oa 87 (.append 2 16 (.t 85) (.t 86)), oa 9 (.mov (.t 87))] (kp 160 [0,1,6,8,9,10,11,16]))
  (.region [oa 88 (.mov (.t 10)), oa 89 (.mov (.t 16)), oa 90 (.append 2 16 (.t 88) (.t 89)), oa 10 (.mov (.t 90))] (kp 160 [0,1,6,8,9,10,11]))))
def l47_1 : IC := (.seq (.seq (.seq (.region [oa 35 (.mov (.t 11)), oa 36 (.mov (.t 0)), oa 37 (.nilCheck (.t 36)), oa 38 (.fieldAddr 1 (.t 37)), oa 39 (.load none (.t 38)), oa 40 (.lenSlice (.t 39)), oa 41 (.bin .lss (.t 35) (.t 40))] (kp 160 [0,1,6,8,9,10,11,41]))
  (.cond (.t 41)
  (sk 160 [0,1,6,8,9,10,11])
  (sx 160 [0,1,8,9,10] 0)))
  (.seq (.block 1
  (.seq (.seq (.region [oa 44 (.mov (.t 0)), oa 45 (.nilCheck (.t 44)), oa 46 (.fieldAddr 1 (.t 45)), oa 47 (.load none (.t 46)), oa 48 (.mov (.t 11)), oa 49 (.indexAddr 5 (.t 47) (.t 48)), oa 50 (.fieldAddr 0 (.t 49)), oa 51 (.load none (.t 50)), oa 52 (.bin .gtr (.t 51) (ai 0))] (kp 160 [0,1,6,8,9,10,11,52]))
  (.cond (.t 52)
  (sx 160 [0,1,6,8,9,10,11] 1)
  (sk 160 [0,1,6,8,9,10,11])))
  (.seq (.region [oa 54 (.mov (.t 0)), oa 55 (.mov (.t 11)), oa 56 (.call 81 [(.t 54), (.t 55)]), oa 53 (.mov (.t 56)), oa 57 (.extract (.t 53) 0), oa 58 (.extract (.t 53) 1), oa 12 (.mov (.t 57)), oa 13 (.mov (.t 58))] (kp 160 [0,1,6,8,9,10,11,12]))
  (.seq (.region [oa 14 (.mov (.c (.slice none 0 (some 0))))] (kp 160 [0,1,6,8,9,10,11,12,14]))
  (.seq (.seq (.region [oa 15 (.mov (ai 0))] (kp 160 [0,1,6,8,9,10,11,12,14,15]))
  (.block 2
  (.seq (sk 160 [0,1,6,8,9,10,11,12,14,15])
  (.loop l47_0))))
  j47_1xabaabbbb)))))
  (.region [oa 42 (.mov (.t 11)), oa 43 (.bin .add (.t 42) (ai 1)), oa 11 (.mov (.t 43))] (kp 160 [0,1,6,8,9,10,11]))))
  (sk 160 [0,1,6,8,9,10,11]))
def l47_2 : IC := (.seq (.seq (.seq (.region [oa 125 (.mov (.t 21)), oa 126 (.mov (.t 20)), oa 127 (.lenSlice (.t 126)), oa 128 (.bin .lss (.t 125) (.t 127))] (kp 160 [0,1,8,9,10,18,19,20,21,128]))
  (.cond (.t 128)
  (sk 160 [0,1,8,9,10,18,19,20,21])
  (sx 160 [0,1,8,9,10,18,19] 8)))
  (.seq (.block 9
  (.region [oa 131 (.mov (.t 20)), oa 132 (.mov (.t 21)), oa 133 (.mov (.t 8)), oa 134 (.mov (.t 9)), oa 135 (.mov (.t 10)), oa 136 (.mov (.t 20)), oa 137 (.mov (.t 21)), oa 138 (.indexAddr 2 (.t 136) (.t 137)), oa 139 (.load (some 2) (.t 138)), oa 140 (.call 98 [(.t 133), (.t 134), (.t 135), (.t 139)]), oa 141 (.indexAddr 2 (.t 131) (.t 132)), ob (.store 2 (.t 141) (.t 140))] (kp 160 [0,1,8,9,10,18,19,20,21])))
  (.region [oa 129 (.mov (.t 21)), oa 130 (.bin .add (.t 129) (ai 1)), oa 21 (.mov (.t 130))] (kp 160 [0,1,8,9,10,18,19,20,21]))))
  (sk 160 [0,1,8,9,10,18,19,20,21]))
def l47_3 : IC := (.seq (.seq (.seq (.region [oa 100 (.mov (.t 19)), oa 101 (.mov (.t 0)), oa 102 (.nilCheck (.t 101)), oa 103 (.fieldAddr 1 (.t 102)), oa 104 (.load none (.t 103)), oa 105 (.mov (.t 18)), oa 106 (.indexAddr 5 (.t 104) (.t 105)), oa 107 (.fieldAddr 4 (.t 106)), oa 108 (.load none (.t 107)), oa 109 (.lenSlice (.t 108)), oa 110 (.bin .lss (.t 100) (.t 109))] (kp 160 [0,1,8,9,10,18,19,110]))
  (.cond (.t 110)
  (sk 160 [0,1,8,9,10,18,19])
  (sx 160 [0,1,8,9,10,18] 6)))
  (.seq (.block 7
  (.seq (.region [oa 113 (.mov (.t 0)), oa 114 (.nilCheck (.t 113)), oa 115 (.fieldAddr 1 (.t 114)), oa 116 (.load none (.t 115)), oa 117 (.mov (.t 18)), oa 118 (.indexAddr 5 (.t 116) (.t 117)), oa 119 (.fieldAddr 4 (.t 118)), oa 120 (.load none (.t 119)), oa 121 (.mov (.t 19)), oa 122 (.indexAddr 3 (.t 120) (.t 121)), oa 123 (.fieldAddr 2 (.t 122)), oa 124 (.load none (.t 123)), oa 20 (.mov (.t 124))] (kp 160 [0,1,8,9,10,18,19,20]))
  (.seq (.region [oa 21 (.mov (ai 0))] (kp 160 [0,1,8,9,10,18,19,20,21]))
  (.block 8
  (.seq (sk 160 [0,1,8,9,10,18,19,20,21])
  (.loop l47_2))))))
  (.region [oa 111 (.mov (.t 19)), oa 112 (.bin .add (.t 111) (ai 1)), oa 19 (.mov (.t 112))] (kp 160 [0,1,8,9,10,18,19]))))
  (sk 160 [0,1,8,9,10,18,19]))
def l47_4 : IC := (.seq (.seq (.seq (.region [oa 91 (.mov (.t 18)), oa 92 (.mov (.t 0)), oa 93 (.nilCheck (.t 92)), oa 94 (.fieldAddr 1 (.t 93)), oa 95 (.load none (.t 94)), oa 96 (.lenSlice (.t 95)), oa 97 (.bin .lss (.t 91) (.t 96))] (kp 160 [0,1,8,9,10,18,97]))
  (.cond (.t 97)
  (sk 160 [0,1,8,9,10,18])
  (sx 160 [1,8,9,10] 4)))
  (.seq (.block 5
  (.seq (.region [oa 19 (.mov (ai 0))] (kp 160 [0,1,8,9,10,18,19]))
  (.block 6
  (.seq (sk 160 [0,1,8,9,10,18,19])
  (.loop l47_3)))))
  (.region [oa 98 (.mov (.t 18)), oa 99 (.bin .add (.t 98) (ai 1)), oa 18 (.mov (.t 99))] (kp 160 [0,1,8,9,10,18]))))
  (sk 160 [0,1,8,9,10,18]))
def l47_5 : IC := (.seq (.seq (.seq (.region [oa 142 (.mov (.t 23)), oa 143 (.mov (.t 1)), oa 144 (.lenSlice (.t 143)), oa 145 (.bin .lss (.t 142) (.t 144))] (kp 160 [1,8,9,10,22,23,145]))
  (.cond (.t 145)
  (sk 160 [1,8,9,10,22,23])
  (sx 160 [22] 10)))
  (.seq (.block 11
  (.region [oa 148 (.mov (.t 22)), oa 149 (.mov (.t 8)), oa 150 (.mov (.t 9)), oa 151 (.mov (.t 10)), oa 152 (.mov (.t 1)), oa 153 (.mov (.t 23)), oa 154 (.indexAddr 2 (.t 152) (.t 153)), oa 155 (.load (some 2) (.t 154)), oa 156 (.call 98 [(.t 149), (.t 150), (.t 151), (.t 155)]), oa 157 (.buildSlice 1 [(.int .i64 (0)), (.int .i64 (0))] [(0, 2, (.t 156))]), oa 158 (.append 2 16 (.t 148) (.t 157)), oa 22 (.mov (.t 158))] (kp 160 [1,8,9,10,22,23])))
  (.region [oa 146 (.mov (.t 23)), oa 147 (.bin .add (.t 146) (ai 1)), oa 23 (.mov (.t 147))] (kp 160 [1,8,9,10,22,23]))))
  (sk 160 [1,8,9,10,22,23]))
def j47_bbbbbbbbb : IC := (.seq (.region [oa 159 (.mov (.t 22)), oa 4 (.mov (.t 159)), oa 5 (.mov (ai 0))] (kp 160 [4,5]))
  (sr 160 [4,5]))
def j47_bbbbbbb : IC := (.seq (.region [oa 22 (.mov (.c (.slice none 0 (some 0))))] (kp 160 [1,8,9,10,22]))
  (.seq (.seq (.region [oa 23 (.mov (ai 0))] (kp 160 [1,8,9,10,22,23]))
  (.block 10
  (.seq (sk 160 [1,8,9,10,22,23])
  (.loop l47_5))))
  j47_bbbbbbbbb))
def j47_bbbbbb : IC := (.seq (.seq (.region [oa 18 (.mov (ai 0))] (kp 160 [0,1,8,9,10,18]))
  (.block 4
  (.seq (sk 160 [0,1,8,9,10,18])
  (.loop l47_4))))
  j47_bbbbbbb)
def c47 : IFn := ⟨160, [(4, none), (5, none)],
  (.seq (.region [oa 4 (.mov (.c (.slice none 0 (some 0)))), oa 5 (.mov (ai 0))] (kp 160 [0,1]))
  (.seq (.region [oa 25 (.mov (.t 0)), oa 26 (.mov (.t 1)), oa 27 (.call 52 [(.t 25), (.t 26)]), oa 24 (.mov (.t 27)), oa 28 (.extract (.t 24) 0), oa 29 (.extract (.t 24) 1), oa 6 (.mov (.t 28)), oa 7 (.mov (.t 29))] (kp 160 [0,1,6,7]))
  (.seq (.seq (.region [oa 30 (.mov (.t 7)), oa 31 (.bin .neq (.t 30) (ai 0))] (kp 160 [0,1,6,7,31]))
  (.cond (.t 31)
  (.seq (.region [oa 32 (.mov (.t 7)), oa 4 (.mov (.c (.slice none 0 (some 0)))), oa 5 (.mov (.t 32))] (kp 160 [4,5]))
  (sr 160 [4,5]))
  (sk 160 [0,1,6])))
  (.seq (.region [oa 33 (.mov (.t 0)), oa 34 (.call 95 [(.t 33)]), oa 8 (.mov (.t 34))] (kp 160 [0,1,6,8]))
  (.seq (.region [oa 9 (.mov (.c (.slice none 0 (some 0)))), oa 10 (.mov (.c (.slice none 0 (some 0))))] (kp 160 [0,1,6,8,9,10]))
  (.seq (.seq (.region [oa 11 (.mov (ai 0))] (kp 160 [0,1,6,8,9,10,11]))
  (.block 0
  (.seq (sk 160 [0,1,6,8,9,10,11])
  (.loop l47_1))))
  j47_bbbbbb))))))⟩
section
variable {o : Nat → Option O} {s : St} {C F : Ch} {Q : V → St → Prop} {p q t : Nat} {u : List Bool}
set_option maxRecDepth 10000
set_option maxHeartbeats 4000000
end
end Go.Proofs.Ytoldkemimhebaaa

set_option linter.unusedSimpArgs false
set_option linter.unusedVariables false
namespace Go.Proofs.Ytoldkemimhebaaa
open Go Go.IM
section
variable {o : Nat → Option O} {s : St} {C F : Ch} {Q : V → St → Prop} {p q : Nat}
set_option maxRecDepth 10000
set_option maxHeartbeats 4000000
end
end Go.Proofs.Ytoldkemimhebaaa

set_option linter.unusedSimpArgs false
set_option linter.unusedVariables false
namespace Go.Proofs.Ytoldkemimhebaaa
open Go Go.IM
section
variable {o : Nat → Option O} {s : St} {C F : Ch} {Q : V → St → Prop} {p q r : Nat} {u : List Bool}
set_option maxRecDepth 10000
set_option maxHeartbeats 4000000
theorem RsOk.pg {rs : List Reg} {lv : Nat} (h : RsOk lv u rs) {g : Reg} (hg : g ∈ rs) : g.pages.length ≤ 30 ∧ g.objs.length ≤ 1000 := by
  have h1 := (h.inv.reg g hg).nobjs
  have h2 := h.pool.sub_len (sub_flatMap (fun r : Reg => r.pages) hg)
  have h3 := h.ulen
  omega
end
end Go.Proofs.Ytoldkemimhebaaa

set_option linter.unusedSimpArgs false
set_option linter.unusedVariables false
namespace Go.Proofs.Ytoldkemimhebaaa
open Go Go.IM
section
variable {o : Nat → Option O} {s : St} {C F : Ch} {Q : V → St → Prop} {p q : Nat}
set_option maxRecDepth 10000
set_option maxHeartbeats 4000000
theorem PairsOk.fit {h k : PHeap} {P : List (Wd × Wd)} (hP : PairsOk h k P) (v w : Wd) : PairsOk h k (fitM h k P v w).1 := by
  unfold fitM
  split
  · rename_i hth
    split
    · exact hP
    · rename_i hf
      have hno := List.find?_eq_none.1 hf
      have hv : v ∉ P.map (·.1) := fun m => by
        obtain ⟨e, he, rfl⟩ := List.mem_map.1 m
        have := hno e he; simp at this
      have hw : w ∉ P.map (·.2) := fun m => by
        obtain ⟨e, he, rfl⟩ := List.mem_map.1 m
        have := hno e he; simp at this
      have e1 := hP.a.put v
      have e2 := hP.b.put w
      unfold putW at e1 e2
      rw [if_pos ⟨hv, hth.1⟩] at e1
      rw [if_pos ⟨hw, hth.2⟩] at e2
      exact ⟨by simpa using e1, by simpa using e2⟩
  · exact hP
structure RTwo (C : Ch) (p q : Nat) (h k : PHeap) (hr kr : RHeap) : Prop where
  lh : RLook C p hr
  lk : RLook C q kr
  sh : h.regs.map PReg.m = hr.regs.map RReg.m
  sk : k.regs.map PReg.m = kr.regs.map RReg.m
  nh : (h.regs.map (·.life)).Nodup
  nk : (k.regs.map (·.life)).Nodup
  all : (allW h).length ≤ 90000
theorem RTwo.mono {D : Ch} {h k : PHeap} {hr kr : RHeap} (t : RTwo C p q h k hr kr) (hs : ∀ x ∈ C, x ∈ D) : RTwo D p q h k hr kr := ⟨t.lh.mono hs, t.lk.mono hs, t.sh, t.sk, t.nh, t.nk, t.all⟩
end
end Go.Proofs.Ytoldkemimhebaaa

set_option linter.unusedSimpArgs false
set_option linter.unusedVariables false
namespace Go.Proofs.Ytoldkemimhebaaa
open Go Go.IM
def isIn (L : List (Int × Int)) (life : Nat) (x : PObj) : Bool := decide (((x.b.at_ : Int), (life : Int)) ∈ L)
def pgF (xs : List PObj) (a : Nat × Nat) : Nat × Nat := (xs.map fun x => x.b.ws.length + 1).foldl step a
section
variable {o : Nat → Option O} {s : St} {C F : Ch} {Q : V → St → Prop} {p r : Nat} {u : List Bool}
set_option maxRecDepth 10000
set_option maxHeartbeats 4000000
def pgReg (L : List (Int × Int)) (g : PReg) : Nat := if 0 < g.pages.length then (pgF (g.objs.filter (isIn L g.life)) (0, 0)).1 else 0
def pgSum (L : List (Int × Int)) (gs : List PReg) : Nat := (gs.map (pgReg L)).sum
end
end Go.Proofs.Ytoldkemimhebaaa

set_option linter.unusedSimpArgs false
set_option linter.unusedVariables false
namespace Go.Proofs.Ytoldkemimhebaaa
open Go Go.IM
def gbO (L : List (Int × Int)) (life : Nat) (x : Obj) : Nat := if ((x.at_ : Int), (life : Int)) ∈ L then 0 else x.ws.length + 1
def gbL (L : List (Int × Int)) (life : Nat) (xs : List Obj) : Nat := (xs.map (gbO L life)).sum
def gbR (L : List (Int × Int)) (g : Reg) : Nat := if g.size = 0 then gbL L g.life g.objs else 0
def gbS (L : List (Int × Int)) (gs : List Reg) : Nat := (gs.map (gbR L)).sum
section
variable {o : Nat → Option O} {s : St} {C F : Ch} {Q : V → St → Prop} {p q r : Nat} {u : List Bool}
set_option maxRecDepth 10000
set_option maxHeartbeats 4000000
end
end Go.Proofs.Ytoldkemimhebaaa

set_option linter.unusedSimpArgs false
set_option linter.unusedVariables false
namespace Go.Proofs.Ytoldkemimhebaaa
open Go Go.IM
def pgM (L : List (Int × Int)) (g : Reg) : Nat := if 0 < g.pages.length then (((keptM L g).map fun x => x.ws.length + 1).foldl step (0, 0)).1 else 0
theorem pgReg_m (L : List (Int × Int)) (g : PReg) : pgReg L g = pgM L g.m := by
  unfold pgReg pgM pgF
  rw [kept_m, List.map_map]
  rfl
theorem layM_pagesLen {life : Nat} {ns : List Nat} {u : List Bool} {fill : Nat} {pages : List Nat} {r : List Nat × List Bool × Nat × List Nat} (h : layM 0 life ns u fill pages = some r) (hc : (ns.foldl step (pages.length, fill)).1 ≤ pages.length + u.count false) :
    r.2.2.2.length = (ns.foldl step (pages.length, fill)).1 := by
  obtain ⟨r', h1, h2⟩ := layM_some (life := life) ns u fill pages hc
  rw [h] at h1
  cases h1
  exact h2
theorem kept_le {L : List (Int × Int)} {g : Reg} (hi : RInv g) (hs : g.size = 0) : (((keptM L g).map fun x => x.ws.length + 1).foldl step (0, 0)).1 ≤ g.pages.length := by
  have hf := (hi.inf hs).fold
  have hsub : ((keptM L g).map fun x => x.ws.length + 1).Sublist ((g.objs.map fun x => (x.at_, x.ws.length + 1)).map (·.2)) := by
    simp only [List.map_map]
    exact (List.filter_sublist (l := g.objs)).map _
  have hle := fold_sub hsub (Le2.refl (0, 0))
  rw [hf] at hle
  unfold Le2 at hle
  omega
theorem col_pages {L : List (Int × Int)} {lv : Nat} : ∀ {B A : List Reg} {S : ColS}, ColInv L lv A B S → S.regs.map (·.pages.length) = A.map (pgM L) → (B.foldl (colStep L) S).regs.map (·.pages.length) = (A ++ B).map (pgM L)
  | [], A, S, _, e => by simpa using e
  | g :: B, A, S, h, e => by
    have hI := h.ok.inv
    have hri := hI.reg g (by simp)
    have key : (colStep L S g).regs.map (·.pages.length) = (A ++ [g]).map (pgM L) := by
      unfold colStep
      by_cases hp : 0 < g.pages.length
      · rw [if_pos hp]
        have hs : g.size = 0 := by
          rcases Nat.eq_zero_or_pos g.size with h | h
          · exact h
          · have := (hri.fin h).1; rw [this] at hp; simp at hp
        obtain ⟨ats, u', fill', pages', hlay, _⟩ := h.ok.turn hs (ys := keptM L g) (List.filter_sublist ..)
        have hfr : PoolInv (freeP S.u g.pages) (S.regs.flatMap (·.pages) ++ B.flatMap (·.pages)) := by
          have := h.ok.pool
          have h2 : PoolInv S.u (g.pages ++ (S.regs.flatMap (·.pages) ++ B.flatMap (·.pages))) := by
            refine this.perm ?_
            simp only [List.flatMap_append, List.flatMap_cons]
            exact (List.perm_append_comm_assoc _ _ _).symm
          exact h2.free
        have hp1 : PoolInv S.u (g.pages ++ (S.regs.flatMap (·.pages) ++ B.flatMap (·.pages))) := by
          have := h.ok.pool
          refine this.perm ?_
          simp only [List.flatMap_append, List.flatMap_cons]
          exact (List.perm_append_comm_assoc _ _ _).symm
        have hcnt : g.pages.length ≤ (freeP S.u g.pages).count false := by
          have c1 := hfr.count
          have c2 := count_both (freeP S.u g.pages)
          have c3 := hp1.len
          rw [freeP_len] at c2
          rw [List.length_append] at c3
          omega
        have hlen := layM_pagesLen hlay (by have := kept_le (L := L) hri hs; simp only [List.length_nil]; omega)
        rw [hlay]
        simp only [List.map_append, e, List.map_cons, List.map_nil]
        congr 2
        unfold pgM
        rw [if_pos hp]
        exact hlen
      · rw [if_neg hp]
        simp only [List.map_append, e, List.map_cons, List.map_nil]
        congr 2
        unfold pgM
        rw [if_neg hp]; omega
    have := col_pages (h.step) key
    rw [List.append_assoc] at this
    exact this
theorem fix_shape (mv : ToF) (fx : List (Int × Int)) : ∀ (Os : List (Int × Int)) (rs : List Reg), (Os.foldl (fixM mv fx) rs).map shapeR = rs.map shapeR
  | [], _ => rfl
  | w :: Os, rs => by
    rw [List.foldl_cons, fix_shape mv fx Os]
    exact setM_shape w (map_len _) rs
theorem shape_pages {rs rs' : List Reg} (e : rs'.map shapeR = rs.map shapeR) : rs'.map (·.pages.length) = rs.map (·.pages.length) := by
  have := congrArg (List.map fun t : Nat × Nat × Nat × List Nat × List (Nat × Nat × Nat) => t.2.2.2.1.length) e
  simpa [List.map_map, Function.comp_def, shapeR] using this
theorem shape_lives {rs rs' : List Reg} (e : rs'.map shapeR = rs.map shapeR) : rs'.map (·.life) = rs.map (·.life) := by
  have := congrArg (List.map fun t : Nat × Nat × Nat × List Nat × List (Nat × Nat × Nat) => t.2.1) e
  simpa [List.map_map, Function.comp_def, shapeR] using this
theorem collected {L : List (Int × Int)} {lv : Nat} {u : List Bool} {rs : List Reg} (h : RsOk lv u rs) : (colRegs L (colAll L u rs)).map (·.pages.length) = rs.map (pgM L) ∧ (colRegs L (colAll L u rs)).map (·.life) = rs.map (·.life) := by
  have hs := fix_shape (colAll L u rs).mv (colAll L u rs).fx (colObjs L (colAll L u rs)) (colAll L u rs).regs
  have hI := (ColInv.start (L := L) h)
  exact ⟨(shape_pages hs).trans (by have := col_pages hI rfl; rw [List.nil_append] at this; exact this), (shape_lives hs).trans (by have := hI.all.lives; rw [List.nil_append] at this; exact this)⟩
theorem pg_sum {L : List (Int × Int)} (gs : List PReg) : pgSum L gs = ((gs.map PReg.m).map (pgM L)).sum := by
  unfold pgSum
  rw [List.map_map]
  congr 1
  exact List.map_congr_left fun g _ => pgReg_m L g
theorem told_is {L : List (Int × Int)} {lv : Nat} {u : List Bool} {gs gs' : List PReg} (h : RsOk lv u (gs.map PReg.m)) (e : gs'.map PReg.m = colRegs L (colAll L u (gs.map PReg.m))) : inUseM (gs'.map (·.pages)) = pgSum L gs ∧ gs'.map (·.life) = gs.map (·.life) := by
  obtain ⟨h1, h2⟩ := collected (L := L) h
  rw [← e] at h1 h2
  refine ⟨?_, by simpa [List.map_map, Function.comp_def, PReg.m] using h2⟩
  rw [pg_sum, ← h1]
  unfold inUseM
  simp [List.map_map, Function.comp_def, PReg.m]
end Go.Proofs.Ytoldkemimhebaaa