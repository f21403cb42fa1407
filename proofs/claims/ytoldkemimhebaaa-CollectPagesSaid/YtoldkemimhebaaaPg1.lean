/- The functions of layer 15, on the ideal machine: picking objects, turning a region. -/
import Derived.Test.YtoldkemimhebaaaPg0
set_option linter.unusedSimpArgs false
set_option linter.unusedVariables false
namespace Go.Proofs.Ytoldkemimhebaaa
open Go Go.IM

-- virgate/page.picked
def l119_0 : IC := (.seq (.seq (.seq (.region [oa 16 (.mov (.t 7)), oa 17 (.mov (.t 0)), oa 18 (.nilCheck (.t 17)), oa 19 (.fieldAddr 4 (.t 18)), oa 20 (.load none (.t 19)), oa 21 (.lenSlice (.t 20)), oa 22 (.bin .lss (.t 16) (.t 21)), oa 23 (.mov (.t 22)), oc 24 (.mov (.t 0)) 23 tt, oc 25 (.nilCheck (.t 24)) 23 tt, oc 26 (.fieldAddr 4 (.t 25)) 23 tt, oc 27 (.load none (.t 26)) 23 tt, oc 28 (.mov (.t 7)) 23 tt, oc 29 (.indexAddr 1 (.t 27) (.t 28)) 23 tt, oc 30 (.load none (.t 29)) 23 tt, oc 31 (.nilCheck (.t 30)) 23 tt, oc 32 (.fieldAddr 0 (.t 31)) 23 tt, oc 33 (.load none (.t 32)) 23 tt, oc 34 (.fieldAddr 0 (.t 9)) 23 tt, oc 35 (.load none (.t 34)) 23 tt, oc 36 (.bin .neq (.t 33) (.t 35)) 23 tt, oa 37 (.pick (.t 23) (.t 36) (.c (.bool false)))] (kp 70 [0,6,7,9,10,11,12,37]))
  (.cond (.t 37)
  (sk 70 [0,6,7,9,10,11,12])
  (sx 70 [0,6,7,9,10,11,12] 2)))
  (.block 3
  (.region [oa 38 (.mov (.t 7)), oa 39 (.bin .add (.t 38) (ai 1)), oa 7 (.mov (.t 39))] (kp 70 [0,6,7,9,10,11,12]))))
  (sk 70 [0,6,7,9,10,11,12]))
def l119_1 : IC := (.seq (.seq (.region [oa 13 (.bin .lss (.t 12) (.t 11))] (kp 70 [0,6,7,10,11,12,13]))
  (.seq (.cond (.t 13)
  (sk 70 [0,6,7,10,11,12])
  (sx 70 [6] 0))
  (.seq (.block 1
  (.seq (.region [oa 14 (.indexAddr 2 (.t 10) (.t 12)), oa 15 (.load (some 2) (.t 14)), oa 9 (.alloc [(.int .i64 (0)), (.int .i64 (0))]), ob (.store 2 (.t 9) (.t 15))] (kp 70 [0,6,7,9,10,11,12]))
  (.seq (.block 2
  (.seq (sk 70 [0,6,7,9,10,11,12])
  (.loop l119_0)))
  (.seq (.seq (.region [oa 40 (.mov (.t 7)), oa 41 (.mov (.t 0)), oa 42 (.nilCheck (.t 41)), oa 43 (.fieldAddr 4 (.t 42)), oa 44 (.load none (.t 43)), oa 45 (.lenSlice (.t 44)), oa 46 (.bin .eql (.t 40) (.t 45)), oa 47 (.mov (.t 46)), oc 48 (.fieldAddr 1 (.t 9)) 47 ff, oc 49 (.load none (.t 48)) 47 ff, oc 50 (.mov (.t 0)) 47 ff, oc 51 (.nilCheck (.t 50)) 47 ff, oc 52 (.fieldAddr 0 (.t 51)) 47 ff, oc 53 (.load none (.t 52)) 47 ff, oc 54 (.bin .neq (.t 49) (.t 53)) 47 ff, oa 55 (.pick (.t 47) (.c (.bool true)) (.t 54))] (kp 70 [0,6,7,10,11,12,55]))
  (.cond (.t 55)
  (.seq (.region [oa 4 (.mov (.c (.slice none 0 (some 0)))), oa 5 (.mov (.c (.bool false)))] (kp 70 [4,5]))
  (sr 70 [4,5]))
  (sk 70 [0,6,7,10,11,12])))
  (.seq (.region [oa 56 (.mov (.t 6)), oa 57 (.mov (.t 0)), oa 58 (.nilCheck (.t 57)), oa 59 (.fieldAddr 4 (.t 58)), oa 60 (.load none (.t 59)), oa 61 (.mov (.t 7)), oa 62 (.indexAddr 1 (.t 60) (.t 61)), oa 63 (.load none (.t 62)), oa 64 (.buildSlice 1 [(.ptr none)] [(0, 1, (.t 63))]), oa 65 (.append 1 8 (.t 56) (.t 64)), oa 6 (.mov (.t 65))] (kp 70 [0,6,7,10,11,12]))
  (.region [oa 66 (.mov (.t 7)), oa 67 (.bin .add (.t 66) (ai 1)), oa 7 (.mov (.t 67))] (kp 70 [0,6,7,10,11,12])))))))
  (.region [oa 68 (.bin .add (.t 12) (ai 1)), oa 12 (.mov (.t 68))] (kp 70 [0,6,7,10,11,12])))))
  (sk 70 [0,6,7,10,11,12]))
def c119 : IFn := ⟨70, [(4, none), (5, none)],
  (.seq (.region [oa 4 (.mov (.c (.slice none 0 (some 0)))), oa 5 (.mov (.c (.bool false)))] (kp 70 [0,1]))
  (.seq (.region [oa 6 (.mov (.c (.slice none 0 (some 0))))] (kp 70 [0,1,6]))
  (.seq (.region [oa 7 (.mov (ai 0))] (kp 70 [0,1,6,7]))
  (.seq (.seq (.region [oa 10 (.mov (.t 1)), oa 11 (.lenSlice (.t 10)), oa 12 (.mov (ai 0))] (kp 70 [0,6,7,10,11,12]))
  (.block 0
  (.seq (sk 70 [0,6,7,10,11,12])
  (.loop l119_1))))
  (.seq (.region [oa 69 (.mov (.t 6)), oa 4 (.mov (.t 69)), oa 5 (.mov (.c (.bool true)))] (kp 70 [4,5]))
  (sr 70 [4,5]))))))⟩
theorem F119 : shutF Try.prog 119 = some c119 := by kernel_rfl

-- (*virgate/page.Heap).Turn
def l109_0 : IC := (.seq (.seq (.region [oa 44 (.bin .lss (.t 43) (.t 42))] (kp 55 [0,8,10,41,42,43,44]))
  (.seq (.cond (.t 44)
  (sk 55 [0,8,10,41,42,43])
  (sx 55 [8,10] 0))
  (.seq (.block 1
  (.seq (.region [oa 45 (.indexAddr 1 (.t 41) (.t 43)), oa 46 (.load none (.t 45)), oa 13 (.mov (.t 46))] (kp 55 [0,8,10,13,41,42,43]))
  (.region [oa 47 (.mov (.t 0)), oa 48 (.mov (.t 8)), oa 49 (.mov (.t 13)), oa 50 (.call 77 [(.t 47), (.t 48), (.t 49)])] (kp 55 [0,8,10,41,42,43]))))
  (.region [oa 51 (.bin .add (.t 43) (ai 1)), oa 43 (.mov (.t 51))] (kp 55 [0,8,10,41,42,43])))))
  (sk 55 [0,8,10,41,42,43]))
def c109 : IFn := ⟨55, [(6, none), (7, none)],
  (.seq (.region [oa 6 (.mov (.c (.slice none 0 (some 0)))), oa 7 (.mov (ai 0))] (kp 55 [0,1,2]))
  (.seq (.region [oa 15 (.mov (.t 0)), oa 16 (.mov (.t 1)), oa 17 (.call 72 [(.t 15), (.t 16)]), oa 14 (.mov (.t 17)), oa 18 (.extract (.t 14) 0), oa 19 (.extract (.t 14) 1), oa 8 (.mov (.t 18)), oa 9 (.mov (.t 19))] (kp 55 [0,2,8,9]))
  (.seq (.seq (.region [oa 20 (.mov (.t 9)), oa 21 (.bin .neq (.t 20) (ai 0))] (kp 55 [0,2,8,9,21]))
  (.cond (.t 21)
  (.seq (.region [oa 22 (.mov (.t 9)), oa 6 (.mov (.c (.slice none 0 (some 0)))), oa 7 (.mov (.t 22))] (kp 55 [6,7]))
  (sr 55 [6,7]))
  (sk 55 [0,2,8])))
  (.seq (.region [oa 24 (.mov (.t 8)), oa 25 (.mov (.t 2)), oa 26 (.call 119 [(.t 24), (.t 25)]), oa 23 (.mov (.t 26)), oa 27 (.extract (.t 23) 0), oa 28 (.extract (.t 23) 1), oa 10 (.mov (.t 27)), oa 11 (.mov (.t 28))] (kp 55 [0,8,10,11]))
  (.seq (.seq (.region [oa 29 (.mov (.t 8)), oa 30 (.nilCheck (.t 29)), oa 31 (.fieldAddr 1 (.t 30)), oa 32 (.load none (.t 31)), oa 33 (.bin .gtr (.t 32) (ai 0)), oa 34 (.mov (.t 33)), oc 35 (.mov (.t 11)) 34 ff, oc 36 (.un .not (.t 35)) 34 ff, oa 37 (.pick (.t 34) (.c (.bool true)) (.t 36))] (kp 55 [0,8,10,37]))
  (.cond (.t 37)
  (.seq (.region [oa 6 (.mov (.c (.slice none 0 (some 0)))), oa 7 (.mov (ai 2))] (kp 55 [6,7]))
  (sr 55 [6,7]))
  (sk 55 [0,8,10])))
  (.seq (.region [oa 38 (.mov (.t 0)), oa 39 (.mov (.t 8)), oa 40 (.call 76 [(.t 38), (.t 39)])] (kp 55 [0,8,10]))
  (.seq (.seq (.region [oa 41 (.mov (.t 10)), oa 42 (.lenSlice (.t 41)), oa 43 (.mov (ai 0))] (kp 55 [0,8,10,41,42,43]))
  (.block 0
  (.seq (sk 55 [0,8,10,41,42,43])
  (.loop l109_0))))
  (.seq (.region [oa 52 (.mov (.t 8)), oa 53 (.mov (.t 10)), oa 54 (.call 73 [(.t 52), (.t 53)]), oa 6 (.mov (.t 54)), oa 7 (.mov (ai 0))] (kp 55 [6,7]))
  (sr 55 [6,7])))))))))⟩
theorem F109 : shutF Try.prog 109 = some c109 := by kernel_rfl


section
variable {o : Nat → Option O} {s : St} {C F : Ch} {Q : V → St → Prop}
set_option maxRecDepth 10000

theorem pick_inner {t gid obk : Nat} {N L : Int} {l : List PObj} {c0 c1 c2 c3 c5 v6 v10 v11 v12 : V} {K : Kt} (hC : Holds o s C) (mt : (t, some (.cells [I N, I L] none)) ∈ C) (mg : (gid, some (.cells [c0, c1, c2, c3, rowV obk l.length, c5] none)) ∈ C)
    (mo : (obk, PReg.obO l) ∈ C) (mx : ∀ x ∈ l, (x.id, some x.O) ∈ C) (hl : l.length ≤ 100000) :
    ∀ (m a : Nat), a + m = l.length →
    loop PF (.loop l119_0) (sp 70 [(0, ptrN gid), (6, v6), (7, I a), (9, ptrN t), (10, v10), (11, v11), (12, v12)]) s K =
      K (.exit 2) (sp 70 [(0, ptrN gid), (6, v6), (7, I (a + (l.drop a).findIdx (fun x => decide ((x.b.at_ : Int) = N)) : Nat)), (9, ptrN t), (10, v10), (11, v11), (12, v12)]) s
  | 0, a, ha => by
    have hlt : ¬ ((a : Int) < (l.length : Int)) := by omega
    have fg := hC.mem mg
    refine round fun LL hLL => ?_
    simp -implicitDefEqProofs only [↓GP, GB, GL, Nat.reduceAdd, Nat.reduceSub, Nat.reduceEqDiff, Nat.reduceMul, Nat.reduceLeDiff, Int.reduceBNe, Int.reduceBEq, Nat.reduceLT, reduceCtorEq, l119_0, hlt, fg]
    rw [List.drop_eq_nil_of_le (by omega)]
    rfl
  | m + 1, a, ha => by
    have hlt : ((a : Int) < (l.length : Int)) := by omega
    have ha' : a < l.length := by omega
    have hd : l.drop a = l[a] :: l.drop (a + 1) := List.drop_eq_getElem_cons ha'
    have fg := hC.mem mg
    have ft := hC.mem mt
    have mo' := mo
    unfold PReg.obO at mo'
    rw [rowO_pos (by omega)] at mo'
    have fo := hC.mem mo'
    have fx := hC.mem (mx l[a] (List.getElem_mem ha'))
    simp only [PObj.O] at fx
    have hg : (l.map fun x => ptrN x.id)[a]? = some (ptrN l[a].id) := by simp [ha']
    have hw := wrap_add1 (a := a) (by omega)
    refine round fun LL hLL => ?_
    rw [hd, List.findIdx_cons]
    by_cases he : (l[a].b.at_ : Int) = N
    · have hb : ((l[a].b.at_ : Int) != N) = false := by simpa using he
      simp -implicitDefEqProofs only [↓GP, GB, GL, Nat.reduceAdd, Nat.reduceSub, Nat.reduceEqDiff, Nat.reduceMul, Nat.reduceLeDiff, Int.reduceBNe, Int.reduceBEq, Nat.reduceLT, reduceCtorEq, l119_0, hlt, ix_row ha', fg, fo, fx, ft, hg, hb, he, cond_true]
    · have hb : ((l[a].b.at_ : Int) != N) = true := by simpa using he
      simp -implicitDefEqProofs only [↓GP, GB, GL, Nat.reduceAdd, Nat.reduceSub, Nat.reduceEqDiff, Nat.reduceMul, Nat.reduceLeDiff, Int.reduceBNe, Int.reduceBEq, Nat.reduceLT, reduceCtorEq, l119_0, hlt, ix_row ha', fg, fo, fx, ft, hg, hb, hw]
      rw [hLL, pick_inner hC mt mg mo mx hl m (a + 1) (by omega)]
      simp only [he, decide_false, cond_false]
      rw [show a + 1 + List.findIdx (fun x => decide ((x.b.at_ : Int) = N)) (List.drop (a + 1) l) = a + (List.findIdx (fun x => decide ((x.b.at_ : Int) = N)) (List.drop (a + 1) l) + 1) by omega]

/-- The objects that words point to, in order. -/
def pickM (life : Nat) : List PObj → List (Int × Int) → Option (List PObj)
  | _, [] => some []
  | os, w :: l =>
    match os.drop (os.findIdx fun x => decide ((x.b.at_ : Int) = w.1)) with
    | [] => none
    | x :: rest => if w.2 = life then (pickM life rest l).map (x :: ·) else none

theorem pick_loop {gid obk wk life : Nat} {l : List PObj} {ws : List (Int × Int)} {c1 c2 c3 c5 : V} {K : Kt} (mg : (gid, some (.cells [I life, c1, c2, c3, rowV obk l.length, c5] none)) ∈ C)
    (mo : (obk, PReg.obO l) ∈ C) (mx : ∀ x ∈ l, (x.id, some x.O) ∈ C) (mw : (wk, rowO 2 ws.length (ws.flatMap encW)) ∈ C) (hl : l.length ≤ 100000) (hwl : ws.length ≤ 100000) :
    ∀ (m i a k : Nat) (acc : List PObj) (s : St), i + m = ws.length → a ≤ l.length → acc.length = i → Holds o s ((k, rowO 1 acc.length (acc.map fun x => ptrN x.id)) :: C) →
    (∀ s', pickM life (l.drop a) (ws.drop i) = none → Holds o s' C → WP (K .ret (sp 70 [(4, .slice none 0 (some 0)), (5, .bool false)]) s') Q) →
    (∀ s' k' xs, pickM life (l.drop a) (ws.drop i) = some xs → Holds o s' ((k', rowO 1 (acc ++ xs).length ((acc ++ xs).map fun x => ptrN x.id)) :: C) → WP (K (.exit 0) (sp 70 [(6, rowV k' (acc ++ xs).length)]) s') Q) →
    WP (loop PF (.loop l119_1) (sp 70 [(0, ptrN gid), (6, rowV k acc.length), (7, I a), (10, rowV wk ws.length), (11, I ws.length), (12, I i)]) s K) Q
  | 0, i, a, k, acc, s, hi, ha, hacc, H, qn, qs => by
    have hlt : ¬ ((i : Int) < (ws.length : Int)) := by omega
    refine wp_round fun LL hLL => ?_
    simp -implicitDefEqProofs only [↓GP, GB, GL, Nat.reduceAdd, Nat.reduceSub, Nat.reduceEqDiff, Nat.reduceMul, Nat.reduceLeDiff, Int.reduceBNe, Int.reduceBEq, Nat.reduceLT, reduceCtorEq, l119_1, hlt]
    have := qs s k [] (by rw [List.drop_eq_nil_of_le (show ws.length ≤ i by omega)]; rfl) (by simpa using H)
    rw [List.append_nil] at this
    exact this
  | m + 1, i, a, k, acc, s, hi, ha, hacc, H, qn, qs => by
    have hlt : ((i : Int) < (ws.length : Int)) := by omega
    have hi' : i < ws.length := by omega
    have mw' := mw
    rw [rowO_pos (by omega)] at mw'
    have fw := H.mem (List.mem_cons_of_mem _ mw')
    have hld := ldN_tab encW_len ws (some 2) (show ws[i]? = some ws[i] by simp [hi'])
    have hd : ws.drop i = ws[i] :: ws.drop (i + 1) := List.drop_eq_getElem_cons hi'
    rw [hd] at qn qs
    simp only [pickM] at qn qs
    refine wp_round fun LL hLL => ?_
    simp -implicitDefEqProofs only [↓GP, GB, GL, Nat.reduceAdd, Nat.reduceSub, Nat.reduceEqDiff, Nat.reduceMul, Nat.reduceLeDiff, Int.reduceBNe, Int.reduceBEq, Nat.reduceLT, reduceCtorEq, l119_1, hlt, ix_row hi', fw, hld, encW]
    have h1 := (H.alloc (.cells [I 0, I 0] none)).set0 (.cells [I ws[i].1, I ws[i].2] none)
    have hs : ∀ x ∈ C, x ∈ (s.next, some (.cells [I ws[i].1, I ws[i].2] none)) :: (k, rowO 1 acc.length (acc.map fun x => ptrN x.id)) :: C := fun x hx => List.mem_cons_of_mem _ (List.mem_cons_of_mem _ hx)
    rw [pick_inner h1 (List.mem_cons_self ..) (hs _ mg) (hs _ mo) (fun x hx => hs _ (mx x hx)) hl (l.length - a) a (by omega)]
    generalize (s.alloc (O.cells [I 0, I 0] none)).set s.next (.cells [I ws[i].1, I ws[i].2] none) = S at h1 ⊢
    have hj : ∀ j, j = a + (l.drop a).findIdx (fun x => decide ((x.b.at_ : Int) = ws[i].1)) → j ≤ l.length := fun j hj => by
      have := List.findIdx_le_length (xs := l.drop a) (p := fun x => decide ((x.b.at_ : Int) = ws[i].1)); simp at this; omega
    rw [List.drop_drop] at qn qs
    generalize hje : a + (l.drop a).findIdx (fun x => decide ((x.b.at_ : Int) = ws[i].1)) = j at qn qs ⊢
    have hj' := hj j hje.symm
    have fg := h1.mem (hs _ mg)
    have ft := h1.f1
    by_cases hje2 : j = l.length
    · have hb : ((j : Int) == (l.length : Int)) = true := by simp; omega
      rw [List.drop_eq_nil_of_le (by omega)] at qn
      simp -implicitDefEqProofs only [↓GP, GB, GL, Nat.reduceAdd, Nat.reduceSub, Nat.reduceEqDiff, Nat.reduceMul, Nat.reduceLeDiff, Int.reduceBNe, Int.reduceBEq, Nat.reduceLT, reduceCtorEq, fg, ft, hb]
      exact qn _ rfl h1.tl.tl
    · have hjl : j < l.length := by omega
      have hb : ((j : Int) == (l.length : Int)) = false := by rw [beq_eq_false_iff_ne]; omega
      have hdj : l.drop j = l[j] :: l.drop (j + 1) := List.drop_eq_getElem_cons hjl
      rw [hdj] at qn qs
      simp only at qn qs
      by_cases hL : ws[i].2 = (life : Int)
      · rw [if_pos hL] at qn qs
        have hb2 : (ws[i].2 != (life : Int)) = false := by simpa using hL
        have mo' := mo
        unfold PReg.obO at mo'
        rw [rowO_pos (by omega)] at mo'
        have fo := h1.mem (hs _ mo')
        have hg : (l.map fun x => ptrN x.id)[j]? = some (ptrN l[j].id) := by simp [hjl]
        simp -implicitDefEqProofs only [↓GP, GB, GL, Nat.reduceAdd, Nat.reduceSub, Nat.reduceEqDiff, Nat.reduceMul, Nat.reduceLeDiff, Int.reduceBNe, Int.reduceBEq, Nat.reduceLT, reduceCtorEq, fg, ft, hb, hb2, fo, hg, ix_row hjl]
        refine wp_append (cs := acc.map fun x => ptrN x.id) ((h1.tl.alloc _).r1) (by simp) (new_cells' (alloc_new_same _ _) rfl) rfl rfl (by omega) (by unfold maxRow; omega) (by unfold maxRow; omega) fun k' s1 h2 => ?_
        have w1 := wrap_add1 (a := i) (by omega)
        have w2 := wrap_add1 (a := j) (by omega)
        simp -implicitDefEqProofs only [↓GP, GB, GL, Nat.reduceAdd, Nat.reduceSub, Nat.reduceEqDiff, Nat.reduceMul, Nat.reduceLeDiff, Int.reduceBNe, Int.reduceBEq, Nat.reduceLT, reduceCtorEq, w1, w2]
        rw [hLL]
        have hl1 : (acc ++ [l[j]]).length = acc.length + 1 := by simp
        have := pick_loop (K := K) mg mo mx mw hl hwl m (i + 1) (j + 1) k' (acc ++ [l[j]]) s1 (by omega) (by omega) (by simp; omega) (by simpa using h2.r1.tl) (fun s' hn h' => qn s' (by rw [hn]; rfl) h')
          (fun s' k' xs hx h' => by
            have := qs s' k' (l[j] :: xs) (by rw [hx]; rfl) (by simpa using h')
            simpa using this)
        rw [hl1] at this
        exact this
      · rw [if_neg hL] at qn
        have hb2 : (ws[i].2 != (life : Int)) = true := by simpa using hL
        simp -implicitDefEqProofs only [↓GP, GB, GL, Nat.reduceAdd, Nat.reduceSub, Nat.reduceEqDiff, Nat.reduceMul, Nat.reduceLeDiff, Int.reduceBNe, Int.reduceBEq, Nat.reduceLT, reduceCtorEq, fg, ft, hb, hb2]
        exact qn _ rfl h1.tl.tl

theorem s119 (hC : Holds o s C) {gid obk wk life : Nat} {l : List PObj} {ws : List (Int × Int)} {c1 c2 c3 c5 : V} (mg : (gid, some (.cells [I life, c1, c2, c3, rowV obk l.length, c5] none)) ∈ C)
    (mo : (obk, PReg.obO l) ∈ C) (mx : ∀ x ∈ l, (x.id, some x.O) ∈ C) (mw : (wk, rowO 2 ws.length (ws.flatMap encW)) ∈ C) (hl : l.length ≤ 100000) (hwl : ws.length ≤ 100000)
    (qn : pickM life l ws = none → ∀ s', Holds o s' C → Q (.tuple [.slice none 0 (some 0), .bool false]) s')
    (qs : ∀ xs, pickM life l ws = some xs → ∀ s' k, Holds o s' ((k, rowO 1 xs.length (xs.map fun x => ptrN x.id)) :: C) → Q (.tuple [rowV k xs.length, .bool true]) s') : WP (call PF 119 [ptrN gid, rowV wk ws.length] s) Q := by
  rw [call_run F119]; simp -implicitDefEqProofs only [↓GP, GB, GL, Nat.reduceAdd, Nat.reduceSub, Nat.reduceEqDiff, Nat.reduceMul, Nat.reduceLeDiff, Int.reduceBNe, Int.reduceBEq, Nat.reduceLT, reduceCtorEq, c119]
  refine pick_loop (life := life) mg mo mx mw hl hwl ws.length 0 0 0 [] s (by omega) (by omega) rfl (hC.nilEntry 0) (fun s1 hn h1 => ?_) fun s1 k xs hx h1 => ?_
  · simp -implicitDefEqProofs only [↓GP, GB, GL, Nat.reduceAdd, Nat.reduceSub, Nat.reduceEqDiff, Nat.reduceMul, Nat.reduceLeDiff, Int.reduceBNe, Int.reduceBEq, Nat.reduceLT, reduceCtorEq]
    exact qn hn s1 h1
  · simp -implicitDefEqProofs only [↓GP, GB, GL, Nat.reduceAdd, Nat.reduceSub, Nat.reduceEqDiff, Nat.reduceMul, Nat.reduceLeDiff, Int.reduceBNe, Int.reduceBEq, Nat.reduceLT, reduceCtorEq]
    exact qs xs hx s1 k h1

/-- Objects laid anew, one behind the other: their addresses, the pool, how full the last page is, the pages. -/
def layM (size life : Nat) : List Nat → List Bool → Nat → List Nat → Option (List Nat × List Bool × Nat × List Nat)
  | [], u, fill, pages => some ([], u, fill, pages)
  | n :: ns, u, fill, pages => (putM u size life fill pages n).bind fun p => (layM size life ns p.2.1 p.2.2.1 p.2.2.2).map fun q => (p.1 :: q.1, q.2)
def relay (xs : List PObj) (ats : List Nat) : List PObj := List.zipWith PObj.at xs ats

theorem relay_id : ∀ (xs : List PObj) (ats : List Nat), ats.length = xs.length → (relay xs ats).map (fun x => ptrN x.id) = xs.map fun x => ptrN x.id
  | [], _, _ => rfl
  | x :: xs, [], h => by simp at h
  | x :: xs, a :: ats, h => by simp only [relay, List.zipWith_cons_cons, List.map_cons]; rw [show (x.at a).id = x.id from rfl]; congr 1; exact relay_id xs ats (by simpa using h)
theorem layM_len {size life : Nat} : ∀ {ns : List Nat} {u : List Bool} {fill : Nat} {pages : List Nat} {r : List Nat × List Bool × Nat × List Nat}, layM size life ns u fill pages = some r → r.1.length = ns.length
  | [], _, _, _, _, h => by cases h; rfl
  | n :: ns, u, fill, pages, r, h => by
    simp only [layM, Option.bind_eq_some_iff, Option.map_eq_some_iff] at h
    obtain ⟨p, _, q, h2, rfl⟩ := h
    simp [layM_len h2]
theorem putM_len {u : List Bool} {size life fill need : Nat} {pages : List Nat} {at_ fill' : Nat} {u' : List Bool} {pages' : List Nat} (h : putM u size life fill pages need = some (at_, u', fill', pages')) : u'.length = u.length := by
  unfold putM at h
  split at h
  · cases h; rfl
  · split at h
    · split at h
      · cases h; rfl
      · simp only [Option.map_eq_some_iff] at h; obtain ⟨n, _, e⟩ := h; cases e; simp
    · simp only [Option.map_eq_some_iff] at h; obtain ⟨n, _, e⟩ := h; cases e; simp
theorem takeP_lt {u : List Bool} {n : Nat} (h : takeP u = some n) : n < u.length := (List.findIdx?_eq_some_iff_getElem.1 h).1

theorem putM_pages {u : List Bool} {size life fill need : Nat} {pages : List Nat} {at_ fill' : Nat} {u' : List Bool} {pages' : List Nat} (h : putM u size life fill pages need = some (at_, u', fill', pages')) : pages' = pages ∨ ∃ n, takeP u = some n ∧ pages' = pages ++ [n] := by
  unfold putM at h
  split at h
  · cases h; exact .inl rfl
  · split at h
    · split at h
      · cases h; exact .inl rfl
      · simp only [Option.map_eq_some_iff] at h; obtain ⟨n, hn, e⟩ := h; cases e; exact .inr ⟨n, hn, rfl⟩
    · simp only [Option.map_eq_some_iff] at h; obtain ⟨n, hn, e⟩ := h; cases e; exact .inr ⟨n, hn, rfl⟩
theorem putM_fill {u : List Bool} {size life fill need : Nat} {pages : List Nat} {at_ fill' : Nat} {u' : List Bool} {pages' : List Nat} (h : putM u size life fill pages need = some (at_, u', fill', pages')) (hf : fill ≤ 32) (hn : need ≤ 32) : fill' ≤ 32 := by
  unfold putM at h
  split at h
  · cases h; exact hf
  · split at h
    · split at h
      · cases h; assumption
      · simp only [Option.map_eq_some_iff] at h; obtain ⟨n, _, e⟩ := h; cases e; exact hn
    · simp only [Option.map_eq_some_iff] at h; obtain ⟨n, _, e⟩ := h; cases e; exact hn
theorem putM_b {u : List Bool} {size life fill need : Nat} {pages : List Nat} {at_ fill' : Nat} {u' : List Bool} {pages' : List Nat} (h : putM u size life fill pages need = some (at_, u', fill', pages')) (hb : RegB u.length size life fill pages) (hn : need ≤ 32) (hl : pages'.length ≤ 400) : RegB u'.length size life fill' pages' := by
  refine ⟨hb.size, hb.life, putM_fill h hb.fill hn, ?_, hl⟩
  rw [putM_len h]
  rcases putM_pages h with e | ⟨n, h1, e⟩
  · rw [e]; exact hb.pages
  · rw [e]
    intro p hp
    rcases List.mem_append.1 hp with hp | hp
    · exact hb.pages p hp
    · simp at hp; subst hp; exact takeP_lt h1
theorem layM_pages {size life : Nat} : ∀ {ns : List Nat} {u : List Bool} {fill : Nat} {pages : List Nat} {r : List Nat × List Bool × Nat × List Nat}, layM size life ns u fill pages = some r → pages.length ≤ r.2.2.2.length ∧ r.2.1.length = u.length
  | [], _, _, _, _, h => by cases h; exact ⟨Nat.le_refl _, rfl⟩
  | n :: ns, u, fill, pages, r, h => by
    simp only [layM, Option.bind_eq_some_iff, Option.map_eq_some_iff] at h
    obtain ⟨p, h1, q, h2, rfl⟩ := h
    obtain ⟨at_, u', fill', pages'⟩ := p
    obtain ⟨k1, k2⟩ := layM_pages h2
    refine ⟨?_, k2.trans (putM_len h1)⟩
    simp only at k1 ⊢
    rcases putM_pages h1 with e | ⟨n, _, e⟩
    · rw [e] at k1; exact k1
    · rw [e] at k1; simp at k1; omega

theorem turn_loop {h p r kk : Nat} {xs : List PObj} {c d : V} {K : Kt} {gid : Nat} (hxl : xs.length ≤ 10000) (mh : (h, some (.cells [ptrN p, c, d] none)) ∈ C) (mk : (kk, rowO 1 xs.length (xs.map fun x => ptrN x.id)) ∈ C) (hw : ∀ x ∈ xs, x.b.ws.length ≤ 31) :
    ∀ (m j : Nat) (s : St) (u : List Bool) (g : PReg) (ats : List Nat) (u' : List Bool) (fill' : Nat) (pages' : List Nat), g.id = gid → j + m = xs.length → u.length ≤ 400 → g.ok → RegB u.length g.size g.life g.fill g.pages → pages'.length ≤ 400 → g.objs.length + m ≤ 10000 →
    layM g.size g.life ((xs.drop j).map fun x => x.b.ws.length + 1) u g.fill g.pages = some (ats, u', fill', pages') → (g.objs.map (fun x => x.b.at_) ++ ats).Nodup →
    Holds o s (poolC p r u ++ (g.ch ++ ((xs.drop j).flatMap PObj.ch ++ C))) →
    (∀ s' pgk obk pl, PReg.ok { g with pgk := pgk, obk := obk, pl := pl, fill := fill', pages := pages', objs := g.objs ++ relay (xs.drop j) ats } →
      Holds o s' (poolC p r u' ++ (PReg.ch { g with pgk := pgk, obk := obk, pl := pl, fill := fill', pages := pages', objs := g.objs ++ relay (xs.drop j) ats } ++ C)) → WP (K (.exit 0) (sp 55 [(8, ptrN gid), (10, rowV kk xs.length)]) s') Q) →
    WP (loop PF (.loop l109_0) (sp 55 [(0, ptrN h), (8, ptrN gid), (10, rowV kk xs.length), (41, rowV kk xs.length), (42, I xs.length), (43, I j)]) s K) Q
  | 0, j, s, u, g, ats, u', fill', pages', hid, hj, hu, hok, hb, hpl, hol, hlay, hnd, H, q => by
    have hlt : ¬ ((j : Int) < (xs.length : Int)) := by omega
    refine wp_round fun LL hLL => ?_
    simp -implicitDefEqProofs only [↓GP, GB, GL, Nat.reduceAdd, Nat.reduceSub, Nat.reduceEqDiff, Nat.reduceMul, Nat.reduceLeDiff, Int.reduceBNe, Int.reduceBEq, Nat.reduceLT, reduceCtorEq, l109_0, hlt]
    have hd : xs.drop j = [] := List.drop_eq_nil_of_le (by omega)
    rw [hd] at hlay H q
    cases hlay
    exact q s g.pgk g.obk g.pl (by simpa [relay] using hok) (by simpa [relay] using H)
  | m + 1, j, s, u, g, ats, u', fill', pages', hid, hj, hu, hok, hb, hpl, hol, hlay, hnd, H, q => by
    have hlt : ((j : Int) < (xs.length : Int)) := by omega
    have hj' : j < xs.length := by omega
    have hd : xs.drop j = xs[j] :: xs.drop (j + 1) := List.drop_eq_getElem_cons hj'
    have mk' := mk
    rw [rowO_pos (by omega)] at mk'
    have fk := H.mem (List.mem_append_right _ (List.mem_append_right _ (List.mem_append_right _ mk')))
    have hg : (xs.map fun x => ptrN x.id)[j]? = some (ptrN xs[j].id) := by simp [hj']
    have hw' := hw xs[j] (List.getElem_mem hj')
    rw [hd] at hlay H q
    rw [List.map_cons] at hlay
    simp only [layM, Option.bind_eq_some_iff, Option.map_eq_some_iff] at hlay
    obtain ⟨⟨at_, u1, fill1, pages1⟩, hput, ⟨ats1, r2⟩, hlay, e⟩ := hlay
    cases e
    have hpl1 := (layM_pages hlay).1
    have hu1 := putM_len hput
    simp only at hpl1 hlay
    have hf : ∀ y ∈ g.objs, y.b.at_ ≠ at_ := by
      intro y hy e
      rw [List.nodup_append] at hnd
      exact hnd.2.2 y.b.at_ (List.mem_map.2 ⟨y, hy, rfl⟩) at_ (List.mem_cons_self ..) e
    refine wp_round fun LL hLL => ?_
    simp -implicitDefEqProofs only [↓GP, GB, GL, Nat.reduceAdd, Nat.reduceSub, Nat.reduceEqDiff, Nat.reduceMul, Nat.reduceLeDiff, Int.reduceBNe, Int.reduceBEq, Nat.reduceLT, reduceCtorEq, l109_0, hlt, ix_row hj', fk, hg]
    rw [← hid]
    refine wp_in (s77 (p := p) (r := r) (u := u) (g := g) (x := xs[j]) (c := c) (d := d) (F := (xs.drop (j + 1)).flatMap PObj.ch ++ C) (Holds.of (H) (fun k => by simp +arith only [HA, HB]) (fun k x => by simp only [HA, HC]; grind only)) (List.mem_append_right _ mh) hu hok hb (by omega) hw' hput hf fun s1 pgk obk pl h1 ok1 => ?_)
    have w := wrap_add1 (a := j) (by omega)
    simp -implicitDefEqProofs only [↓GP, GB, GL, Nat.reduceAdd, Nat.reduceSub, Nat.reduceEqDiff, Nat.reduceMul, Nat.reduceLeDiff, Int.reduceBNe, Int.reduceBEq, Nat.reduceLT, reduceCtorEq, w]
    rw [hLL, hid]
    refine turn_loop hxl mh mk hw m (j + 1) s1 u1 (({ g with pgk := pgk, pages := pages1, fill := fill1 } : PReg).lay obk pl (xs[j].at at_)) ats1 u' fill' pages' hid (by omega) (by omega) ok1 (putM_b hput hb (by omega) (show pages1.length ≤ 400 by omega)) hpl (by simp [PReg.lay]; omega) hlay
      (by simpa [PReg.lay, PObj.at] using hnd) h1 fun s2 pgk2 obk2 pl2 ok2 h2 => ?_
    have er : g.objs ++ relay (xs[j] :: xs.drop (j + 1)) (at_ :: ats1) = (g.objs ++ [xs[j].at at_]) ++ relay (xs.drop (j + 1)) ats1 := by simp only [relay, List.zipWith_cons_cons, List.append_assoc, List.cons_append, List.nil_append]
    refine q s2 pgk2 obk2 pl2 ?_ ?_
    · rw [er]; exact ok2
    · rw [er]; exact h2

theorem pickM_sublist {life : Nat} : ∀ {ws : List (Int × Int)} {os xs : List PObj}, pickM life os ws = some xs → xs.Sublist os ∧ xs.length = ws.length
  | [], os, xs, h => by cases h; exact ⟨List.nil_sublist _, rfl⟩
  | w :: ws, os, xs, h => by
    simp only [pickM] at h
    split at h
    · cases h
    · rename_i x rest he
      split at h
      · simp only [Option.map_eq_some_iff] at h
        obtain ⟨ys, h1, rfl⟩ := h
        obtain ⟨k1, k2⟩ := pickM_sublist h1
        refine ⟨(List.Sublist.cons_cons x k1).trans ?_, by simp [k2]⟩
        rw [← he]; exact List.drop_sublist _ _
      · cases h

theorem s109_err (hC : Holds o s C) {hv wv : V} {n err : Int} (e : AtErr C hv n err) (hone : hv.one = true) (hcl : hv.cells = [hv]) (q : ∀ s', Holds o s' C → Q (.tuple [.slice none 0 (some 0), I err]) s') : WP (call PF 109 [hv, I n, wv] s) Q := by
  rw [call_run F109]; simp -implicitDefEqProofs only [↓GP, GB, GL, Nat.reduceAdd, Nat.reduceSub, Nat.reduceEqDiff, Nat.reduceMul, Nat.reduceLeDiff, Int.reduceBNe, Int.reduceBEq, Nat.reduceLT, reduceCtorEq, c109]
  refine wp_in (s72_err hC e hone hcl fun s1 h1 => ?_)
  rcases e.ne with rfl | rfl
  · simp -implicitDefEqProofs only [↓GP, GB, GL, Nat.reduceAdd, Nat.reduceSub, Nat.reduceEqDiff, Nat.reduceMul, Nat.reduceLeDiff, Int.reduceBNe, Int.reduceBEq, Nat.reduceLT, reduceCtorEq, Int.reduceBNe]; exact q _ h1
  · simp -implicitDefEqProofs only [↓GP, GB, GL, Nat.reduceAdd, Nat.reduceSub, Nat.reduceEqDiff, Nat.reduceMul, Nat.reduceLeDiff, Int.reduceBNe, Int.reduceBEq, Nat.reduceLT, reduceCtorEq, Int.reduceBNe]; exact q _ h1
theorem s109_bad (hC : Holds o s C) {hp : PHeap} {p i wk : Nat} {ws : List (Int × Int)} (hin : In C p hp) (hlen : hp.regs.length ≤ 100000) {g : PReg} (hr : hp.regs[i]? = some g) (hol : g.objs.length ≤ 100000) (hwl : ws.length ≤ 100000) (mw : (wk, rowO 2 ws.length (ws.flatMap encW)) ∈ C)
    (hb : 0 < g.size ∨ pickM g.life g.objs ws = none) (q : ∀ s', Holds o s' C → Q (.tuple [.slice none 0 (some 0), I 2]) s') : WP (call PF 109 [ptrN hp.id, I i, rowV wk ws.length] s) Q := by
  have mg := List.mem_of_getElem? hr
  rw [call_run F109]; simp -implicitDefEqProofs only [↓GP, GB, GL, Nat.reduceAdd, Nat.reduceSub, Nat.reduceEqDiff, Nat.reduceMul, Nat.reduceLeDiff, Int.reduceBNe, Int.reduceBEq, Nat.reduceLT, reduceCtorEq, c109]
  refine wp_in (s72 hC hin.id hin.row (by omega) hr fun s1 h1 => ?_)
  simp -implicitDefEqProofs only [↓GP, GB, GL, Nat.reduceAdd, Nat.reduceSub, Nat.reduceEqDiff, Nat.reduceMul, Nat.reduceLeDiff, Int.reduceBNe, Int.reduceBEq, Nat.reduceLT, reduceCtorEq, Int.reduceBNe]
  have mgh := hin.hd mg
  simp only [PReg.hd] at mgh
  refine wp_in (s119 h1 mgh (hin.ob mg) (fun x hx => hin.obj mg hx) mw hol hwl (fun hn s2 h2 => ?_) fun xs hxs s2 k h2 => ?_)
  · have f := h2.mem mgh
    by_cases hs : ((g.size : Int) > 0)
    · simp -implicitDefEqProofs only [↓GP, GB, GL, Nat.reduceAdd, Nat.reduceSub, Nat.reduceEqDiff, Nat.reduceMul, Nat.reduceLeDiff, Int.reduceBNe, Int.reduceBEq, Nat.reduceLT, reduceCtorEq, f, hs]; exact q _ h2
    · simp -implicitDefEqProofs only [↓GP, GB, GL, Nat.reduceAdd, Nat.reduceSub, Nat.reduceEqDiff, Nat.reduceMul, Nat.reduceLeDiff, Int.reduceBNe, Int.reduceBEq, Nat.reduceLT, reduceCtorEq, f, hs]; exact q _ h2
  · have f := h2.mem (List.mem_cons_of_mem _ mgh)
    have hs : ((g.size : Int) > 0) := by
      rcases hb with h | h
      · omega
      · rw [hxs] at h; cases h
    simp -implicitDefEqProofs only [↓GP, GB, GL, Nat.reduceAdd, Nat.reduceSub, Nat.reduceEqDiff, Nat.reduceMul, Nat.reduceLeDiff, Int.reduceBNe, Int.reduceBEq, Nat.reduceLT, reduceCtorEq, f, hs]; exact q _ h2.tl

theorem s109 {hp : PHeap} {p r wk : Nat} {u : List Bool} {A B : List PReg} {g : PReg} {ws : List (Int × Int)} {xs : List PObj} {ats : List Nat} {u' : List Bool} {fill' : Nat} {pages' : List Nat} (H : Holds o s (poolC p r u ++ (hp.ch p ++ F))) (hr : hp.regs = A ++ g :: B)
    (hlen : hp.regs.length ≤ 100000) (hu : u.length ≤ 400) (hok : RegOk u.length g.m) (hol : g.objs.length ≤ 5000) (hwl : ws.length ≤ 5000) (mw : (wk, rowO 2 ws.length (ws.flatMap encW)) ∈ F) (hs0 : g.size = 0) (hpick : pickM g.life g.objs ws = some xs)
    (hlay : layM 0 g.life (xs.map fun x => x.b.ws.length + 1) (freeP u g.pages) 0 [] = some (ats, u', fill', pages')) (hnd : ats.Nodup) (hpl : pages'.length ≤ 400)
    (q : ∀ s' pgk obk plk pl kk, PReg.ok { g with pgk := pgk, obk := obk, plk := plk, pl := pl, fill := fill', pages := pages', objs := relay xs ats } →
      Holds o s' ((kk, rowO 2 ws.length ((relay xs ats).flatMap (encP g.life))) :: (poolC p r u' ++ (({ hp with regs := A ++ { g with pgk := pgk, obk := obk, plk := plk, pl := pl, fill := fill', pages := pages', objs := relay xs ats } :: B } : PHeap).ch p ++ F))) →
      Q (.tuple [rowV kk ws.length, I 0]) s') : WP (call PF 109 [ptrN hp.id, I A.length, rowV wk ws.length] s) Q := by
  have hin : In (poolC p r u ++ (hp.ch p ++ F)) p hp := ⟨fun x hx => List.mem_append_right _ (List.mem_append_left _ hx)⟩
  have hg : hp.regs[A.length]? = some g := by rw [hr]; simp
  have mg := List.mem_of_getElem? hg
  have hw31 := hok.ws
  simp only [PReg.m] at hw31
  obtain ⟨hsub, hxl⟩ := pickM_sublist hpick
  have hal : ats.length = xs.length := by have := layM_len hlay; simpa using this
  rw [call_run F109]; simp -implicitDefEqProofs only [↓GP, GB, GL, Nat.reduceAdd, Nat.reduceSub, Nat.reduceEqDiff, Nat.reduceMul, Nat.reduceLeDiff, Int.reduceBNe, Int.reduceBEq, Nat.reduceLT, reduceCtorEq, c109]
  refine wp_in (s72 H hin.id hin.row (by omega) hg fun s1 h1 => ?_)
  simp -implicitDefEqProofs only [↓GP, GB, GL, Nat.reduceAdd, Nat.reduceSub, Nat.reduceEqDiff, Nat.reduceMul, Nat.reduceLeDiff, Int.reduceBNe, Int.reduceBEq, Nat.reduceLT, reduceCtorEq, Int.reduceBNe]
  have mgh := hin.hd mg
  simp only [PReg.hd] at mgh
  refine wp_in (s119 h1 mgh (hin.ob mg) (fun x hx => hin.obj mg hx) (List.mem_append_right _ (List.mem_append_right _ mw)) (by omega) (by omega) (fun hn s2 h2 => by rw [hpick] at hn; cases hn) fun xs' hxs s2 k h2 => ?_)
  rw [hpick] at hxs
  cases hxs
  have f := h2.mem (List.mem_cons_of_mem _ mgh)
  have hs : ¬ ((g.size : Int) > 0) := by omega
  simp -implicitDefEqProofs only [↓GP, GB, GL, Nat.reduceAdd, Nat.reduceSub, Nat.reduceEqDiff, Nat.reduceMul, Nat.reduceLeDiff, Int.reduceBNe, Int.reduceBEq, Nat.reduceLT, reduceCtorEq, f, hs]
  refine wp_in (s76 (p := p) (r := r) (u := u) (g := g) (c := rowV hp.rowk hp.regs.length) (d := I hp.lives) (F := (hp.id, some (hp.hd p)) :: (k, rowO 1 xs.length (xs.map fun x => ptrN x.id)) :: (hp.rowk, hp.row) :: (A.flatMap PReg.ch ++ (B.flatMap PReg.ch ++ F))) (Holds.of (h2) (fun k => by simp +arith only [hr, HA, HB]) (fun k x => by simp only [hr, HA, HC]; grind only)) hu (by simp [PHeap.hd]) hok.pages hok.npages fun s3 plk h3 => ?_)
  have h4 : Holds o s3 (xs.flatMap PObj.ch ++ (poolC p r (freeP u g.pages) ++ (({ g with fill := 0, pages := [], objs := [], plk := plk, pl := .map [] 0 } : PReg).ch ++ ((hp.id, some (hp.hd p)) :: (k, rowO 1 xs.length (xs.map fun x => ptrN x.id)) :: (hp.rowk, hp.row) :: (A.flatMap PReg.ch ++ (B.flatMap PReg.ch ++ F)))))) :=
    Holds.subl (X := g.objs.flatMap PObj.ch) (Holds.of (h3) (fun k => by simp +arith only [HA, HB]) (fun k x => by simp only [HA, HC]; grind only)) (flatMap_sublist _ hsub)
  simp -implicitDefEqProofs only [↓GP, GB, GL, Nat.reduceAdd, Nat.reduceSub, Nat.reduceEqDiff, Nat.reduceMul, Nat.reduceLeDiff, Int.reduceBNe, Int.reduceBEq, Nat.reduceLT, reduceCtorEq]
  have hfl : (freeP u g.pages).length = u.length := freeP_len _ _
  refine turn_loop (p := p) (r := r) (h := hp.id) (c := rowV hp.rowk hp.regs.length) (d := I hp.lives) (C := (hp.id, some (hp.hd p)) :: (k, rowO 1 xs.length (xs.map fun x => ptrN x.id)) :: (hp.rowk, hp.row) :: (A.flatMap PReg.ch ++ (B.flatMap PReg.ch ++ F))) (by omega) (by simp [PHeap.hd]) (by simp)
    (fun x hx => hw31 x.b (List.mem_map.2 ⟨x, hsub.subset hx, rfl⟩)) xs.length 0 s3 (freeP u g.pages) { g with fill := 0, pages := [], objs := [], plk := plk, pl := .map [] 0 } ats u' fill' pages' rfl (by omega) (by omega) ?_ ⟨(show g.size ≤ 31 by omega), hok.life, (show 0 ≤ 32 by omega), by simp, by simp⟩ hpl (by simp; omega) (by rw [List.drop_zero]; simpa [hs0] using hlay) (by simpa using hnd) (by rw [List.drop_zero]; exact (Holds.of (h4) (fun k => by simp +arith only [HA, HB]) (fun k x => by simp only [HA, HC]; grind only))) fun s4 pgk obk pl ok4 h5 => ?_
  · exact mapIs_nil
  · rw [List.drop_zero] at ok4 h5
    simp only [List.nil_append] at ok4 h5
    simp -implicitDefEqProofs only [↓GP, GB, GL, Nat.reduceAdd, Nat.reduceSub, Nat.reduceEqDiff, Nat.reduceMul, Nat.reduceLeDiff, Int.reduceBNe, Int.reduceBEq, Nat.reduceLT, reduceCtorEq]
    have hrl : (relay xs ats).length = xs.length := by simp [relay]; omega
    have e1 := relay_id xs ats hal
    refine wp_in ?_
    rw [show rowV k xs.length = rowV k (relay xs ats).length by rw [hrl]]
    refine s73 (life := g.life) (rest := [I g.size, rowV pgk pages'.length, I fill', rowV obk (relay xs ats).length, .map (some (.new plk))]) h5 (by simp [PReg.ch, PReg.hd]) (by rw [hrl, e1]; simp) (fun x hx => ?_) (by omega) fun s5 kk h6 => ?_
    · simp only [PReg.ch, List.mem_append, List.mem_cons, List.mem_flatMap]
      exact .inr (.inl (.inr (.inr (.inr (.inr ⟨x, hx, by simp [PObj.ch]⟩)))))
    · simp -implicitDefEqProofs only [↓GP, GB, GL, Nat.reduceAdd, Nat.reduceSub, Nat.reduceEqDiff, Nat.reduceMul, Nat.reduceLeDiff, Int.reduceBNe, Int.reduceBEq, Nat.reduceLT, reduceCtorEq]
      rw [show (relay xs ats).length = ws.length by omega] at h6 ⊢
      refine q s5 pgk obk plk pl kk ok4 ?_
      have hrl' : (relay xs ats).length = ws.length := by omega
      exact (Holds.of (h6) (fun k => by simp +arith only [PHeap.hd, PHeap.row, hr, PReg.hd, PReg.obO, List.length_append, List.length_cons, List.map_append, List.map_cons, HA, HB]) (fun k x => by simp only [PHeap.hd, PHeap.row, hr, PReg.hd, PReg.obO, List.length_append, List.length_cons, List.map_append, List.map_cons, HA, HC]; grind only))
end
end Go.Proofs.Ytoldkemimhebaaa
