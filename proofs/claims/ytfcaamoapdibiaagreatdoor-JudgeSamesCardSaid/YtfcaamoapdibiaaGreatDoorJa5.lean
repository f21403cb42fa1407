/- Layer 11: JudgeSames on the ideal machine. -/
import Derived.Test.YtfcaamoapdibiaaGreatDoorJa2
import Derived.Test.YtfcaamoapdibiaaGreatDoorJa3
import Derived.Test.YtfcaamoapdibiaaGreatDoorJa4
import Derived.Test.YtfcaamoapdibiaaGreatDoorJaS
set_option linter.unusedSimpArgs false
set_option linter.unusedVariables false
namespace Go.Proofs.YtfcaamoapdibiaaGreatDoor
open Go Go.IM

-- virgate/virgatelaw11.JudgeSames

def c3 : IFn := ⟨27, [(4, none)],
  (.seq (.region [oa 2 (.box (.t 0)), oa 3 (.box (.t 1)), oa 4 (.mov (.c (.bool false)))] (kp 27 [2,3]))
  (.seq (.seq (.region [oa 5 (.load (some 19) (.t 2)), oa 6 (.call 4 [(.t 5)]), oa 7 (.mov (.t 6)), oc 8 (.load (some 19) (.t 3)) 7 ff, oc 9 (.call 4 [(.t 8)]) 7 ff, oa 10 (.pick (.t 7) (.c (.bool true)) (.t 9))] (kp 27 [2,3,10]))
  (.cond (.t 10)
  (.seq (.region [oa 11 (.call 5 []), oa 4 (.mov (.t 11))] (kp 27 [4]))
  (sr 27 [4]))
  (sk 27 [2,3])))
  (.seq (.region [oa 12 (.load (some 19) (.t 2)), oa 13 (.load (some 19) (.t 3)), oa 15 (.load (some 19) (.t 2)), oa 16 (.load (some 19) (.t 3)), oa 14 (.call 6 [(.t 12), (.t 13)]), ob (.again 15 (.load (some 19) (.t 2))), ob (.again 16 (.load (some 19) (.t 3))), oa 17 (.call 7 [(.t 15), (.t 16)]), oa 18 (.eql false (.key (.one .b)) (.t 14) (.t 17)), oa 19 (.mov (.t 18)), oc 20 (.load (some 19) (.t 2)) 19 tt, oc 21 (.load (some 19) (.t 2)) 19 tt, oc 22 (.call 6 [(.t 20), (.t 21)]) 19 tt, oa 23 (.pick (.t 19) (.t 22) (.c (.bool false))), oa 24 (.mov (.t 23)), oc 25 (.call 5 []) 24 tt, oa 26 (.pick (.t 24) (.t 25) (.c (.bool false))), oa 4 (.mov (.t 26))] (kp 27 [4]))
  (sr 27 [4]))))⟩
theorem F3 : shutF Tryz.prog 3 = some c3 := by kernel_rfl


section
variable {o : Nat → Option O}
set_option maxRecDepth 10000
set_option maxHeartbeats 4000000
theorem ba_refl (s : ByteArray) : (s == s) = true := by
  cases s with
  | mk d => show (d == d) = true; exact beq_self_eq_true d
theorem prog_cells {d : D} {c : List V} (h : HasTy Tryz.prog 34 d) (r : Rep o d c) : c.all V.one = true ∧ cut c 0 19 = some c ∧ beqV (.agg c) (.agg c) = true := by
  obtain ⟨L0, v0, L1, v1, s2_0, s2_1, s2_2, s2_3, n2_4, n2_5, L2_6, v2_6, L2_7, v2_7, s2_8_0, s2_8_1, n2_8_2, L2_8_3, v2_8_3, L2_8_4, v2_8_4, L2_9, v2_9, L2_10, v2_10, L2_11, v2_11, L2_12, v2_12, rfl, rfl, w⟩ := vRProg h r
  refine ⟨?_, rfl, ?_⟩
  · simp only [List.all_cons, List.all_nil, one_s, one_i, one_b, Bool.and_true, w.e0.one, w.e1.one, w.w2.e6.one, w.w2.e7.one, w.w2.w8.e3.one, w.w2.w8.e4.one, w.w2.e9.one, w.w2.e10.one, w.w2.e11.one, w.w2.e12.one]
  · simp [beqV, beqVs, ba_refl, sl_beq w.e0, sl_beq w.e1, sl_beq w.w2.e6, sl_beq w.w2.e7, sl_beq w.w2.w8.e3, sl_beq w.w2.w8.e4, sl_beq w.w2.e9, sl_beq w.w2.e10, sl_beq w.w2.e11, sl_beq w.w2.e12]
theorem judgeSames_wp {d d' : D} {c c' : List V} {s : St} (ht : HasTy Tryz.prog 34 d) (ht' : HasTy Tryz.prog 34 d') (r : Rep o d c) (r' : Rep o d' c') (H : Holds o s []) : WP (call PF 3 [.agg c, .agg c'] s) fun v _ => v = .bool true := by
  obtain ⟨n1, n2, n3⟩ := prog_cells ht r
  obtain ⟨m1, m2, m3⟩ := prog_cells ht' r'
  have a1 : ∀ s : St, againV (.agg c) (.agg c) s = some (.any, s) := fun s => by unfold againV; rw [if_pos n3]
  have a2 : ∀ s : St, againV (.agg c') (.agg c') s = some (.any, s) := fun s => by unfold againV; rw [if_pos m3]
  have h0 : Holds o ((s.alloc (.cells c none)).alloc (.cells c' none)) ((s.next + 1, some (.cells c' none)) :: (s.next, some (.cells c none)) :: []) := (H.alloc _).alloc _
  rw [call_run F3]; simp -implicitDefEqProofs only [↓GP, GB, GL, Nat.reduceAdd, Nat.reduceSub, Nat.reduceEqDiff, Nat.reduceMul, Nat.reduceLeDiff, Int.reduceBNe, Int.reduceBEq, Nat.reduceLT, reduceCtorEq, c3, n1, m1, n2, m2, ldN_some, cells_agg]
  refine wp_in (e4 ht r h0 fun u1 b1 h1 => ?_)
  have f1 := h1.f2
  have big : ∀ {u : St}, Holds o u ((s.next + 1, some (.cells c' none)) :: (s.next, some (.cells c none)) :: []) → WP (call PF 5 [] u) fun v s' => v = .bool true ∧ Holds o s' ((s.next + 1, some (.cells c' none)) :: (s.next, some (.cells c none)) :: []) := fun h => sane11 h fun s' h' => ⟨rfl, h'⟩
  cases b1 with
  | true =>
    simp -implicitDefEqProofs only [↓GP, GB, GL, Nat.reduceAdd, Nat.reduceSub, Nat.reduceEqDiff, Nat.reduceMul, Nat.reduceLeDiff, Int.reduceBNe, Int.reduceBEq, Nat.reduceLT, reduceCtorEq, f1]
    refine wp_in ((big h1).mono ?_)
    rintro v u2 ⟨rfl, h2⟩
    simp -implicitDefEqProofs only [↓GP, GB, GL, Nat.reduceAdd, Nat.reduceSub, Nat.reduceEqDiff, Nat.reduceMul, Nat.reduceLeDiff, Int.reduceBNe, Int.reduceBEq, Nat.reduceLT, reduceCtorEq]
  | false =>
    simp -implicitDefEqProofs only [↓GP, GB, GL, Nat.reduceAdd, Nat.reduceSub, Nat.reduceEqDiff, Nat.reduceMul, Nat.reduceLeDiff, Int.reduceBNe, Int.reduceBEq, Nat.reduceLT, reduceCtorEq, f1, n2, m2, ldN_some]
    refine wp_in (e4 ht' r' h1 fun u2 b2 h2 => ?_)
    have f2 := h2.f2
    cases b2 with
    | true =>
      simp -implicitDefEqProofs only [↓GP, GB, GL, Nat.reduceAdd, Nat.reduceSub, Nat.reduceEqDiff, Nat.reduceMul, Nat.reduceLeDiff, Int.reduceBNe, Int.reduceBEq, Nat.reduceLT, reduceCtorEq, f2]
      refine wp_in ((big h2).mono ?_)
      rintro v u3 ⟨rfl, h3⟩
      simp -implicitDefEqProofs only [↓GP, GB, GL, Nat.reduceAdd, Nat.reduceSub, Nat.reduceEqDiff, Nat.reduceMul, Nat.reduceLeDiff, Int.reduceBNe, Int.reduceBEq, Nat.reduceLT, reduceCtorEq]
    | false =>
      simp -implicitDefEqProofs only [↓GP, GB, GL, Nat.reduceAdd, Nat.reduceSub, Nat.reduceEqDiff, Nat.reduceMul, Nat.reduceLeDiff, Int.reduceBNe, Int.reduceBEq, Nat.reduceLT, reduceCtorEq, f2, n2, m2, ldN_some]
      refine wp_in ((e6 _ _) _ _ _ _ _ ht ht' r r' h2 fun u3 h3 => ?_)
      have f3 := h3.f2
      simp -implicitDefEqProofs only [↓GP, GB, GL, Nat.reduceAdd, Nat.reduceSub, Nat.reduceEqDiff, Nat.reduceMul, Nat.reduceLeDiff, Int.reduceBNe, Int.reduceBEq, Nat.reduceLT, reduceCtorEq, f3, n2, m2, ldN_some, a1, a2]
      refine wp_in ((e7 _ _) _ _ _ _ _ ht ht' r r' h3 fun u4 h4 => ?_)
      have f4 := h4.f2
      simp -implicitDefEqProofs only [↓GP, GB, GL, Nat.reduceAdd, Nat.reduceSub, Nat.reduceEqDiff, Nat.reduceMul, Nat.reduceLeDiff, Int.reduceBNe, Int.reduceBEq, Nat.reduceLT, reduceCtorEq, f4, n2, m2, ldN_some, bEq, beq_self_eq_true]
      refine wp_in ((e6 _ _) _ _ _ _ _ ht ht r r h4 fun u5 h5 => ?_)
      rw [beqD_refl ht]
      simp -implicitDefEqProofs only [↓GP, GB, GL, Nat.reduceAdd, Nat.reduceSub, Nat.reduceEqDiff, Nat.reduceMul, Nat.reduceLeDiff, Int.reduceBNe, Int.reduceBEq, Nat.reduceLT, reduceCtorEq]
      refine wp_in ((big h5).mono ?_)
      rintro v u6 ⟨rfl, h6⟩
      simp -implicitDefEqProofs only [↓GP, GB, GL, Nat.reduceAdd, Nat.reduceSub, Nat.reduceEqDiff, Nat.reduceMul, Nat.reduceLeDiff, Int.reduceBNe, Int.reduceBEq, Nat.reduceLT, reduceCtorEq]
theorem judgeSames_im {d d' : D} {c c' : List V} {s : St} (ht : HasTy Tryz.prog 34 d) (ht' : HasTy Tryz.prog 34 d') (r : Rep s.old d c) (r' : Rep s.old d' c') : ∃ t, call PF 3 [.agg c, .agg c'] s = some (.bool true, t) := by
  obtain ⟨v, t, h, rfl⟩ := judgeSames_wp (s := s) ht ht' r r' ⟨rfl, List.nodup_nil, fun k x m => (nomatch m), fun k m => (nomatch m)⟩
  exact ⟨t, h⟩
end
end Go.Proofs.YtfcaamoapdibiaaGreatDoor
