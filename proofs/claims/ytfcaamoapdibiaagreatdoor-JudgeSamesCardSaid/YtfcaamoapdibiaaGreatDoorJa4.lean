/- Layer 11: programs that are too large: the functions answer. -/
import Derived.Test.YtfcaamoapdibiaaGreatDoorJa1
set_option linter.unusedSimpArgs false
set_option linter.unusedVariables false
namespace Go.Proofs.YtfcaamoapdibiaaGreatDoor
open Go Go.IM

-- virgate/virgatelaw11.Large

def c4 : IFn := ⟨24, [(2, none)],
  (.seq (.region [oa 1 (.box (.t 0)), oa 2 (.mov (.c (.bool false)))] (kp 24 [1]))
  (.seq (.region [oa 3 (.fieldAddr 0 (.t 1)), oa 4 (.load none (.t 3)), oa 5 (.lenSlice (.t 4)), oa 6 (.bin .gtr (.t 5) (ai 20)), oa 7 (.mov (.t 6)), oc 8 (.fieldAddr 1 (.t 1)) 7 ff, oc 9 (.load none (.t 8)) 7 ff, oc 10 (.lenSlice (.t 9)) 7 ff, oc 11 (.bin .gtr (.t 10) (ai 20)) 7 ff, oa 12 (.pick (.t 7) (.c (.bool true)) (.t 11)), oa 13 (.mov (.t 12)), oc 14 (.fieldAddr 2 (.t 1)) 13 ff, oc 15 (.load (some 17) (.t 14)) 13 ff, oc 16 (.call 8 [(.t 15), (ai 80)]) 13 ff, oa 17 (.pick (.t 13) (.c (.bool true)) (.t 16)), oa 18 (.mov (.t 17)), oc 19 (.fieldAddr 2 (.t 1)) 18 ff, oc 20 (.load (some 17) (.t 19)) 18 ff, oc 21 (.call 9 [(.t 20)]) 18 ff, oc 22 (.bin .gtr (.t 21) (ai 250)) 18 ff, oa 23 (.pick (.t 18) (.c (.bool true)) (.t 22)), oa 2 (.mov (.t 23))] (kp 24 [2]))
  (sr 24 [2])))⟩
theorem F4 : shutF Tryz.prog 4 = some c4 := by kernel_rfl

-- virgate/virgatelaw11.Deep
def l8_0 : IC := (.seq (.seq (.seq (.region [oa 50 (.mov (.t 5)), oa 51 (.fieldAddr 16 (.t 2)), oa 52 (.load none (.t 51)), oa 53 (.lenSlice (.t 52)), oa 54 (.bin .lss (.t 50) (.t 53))] (kp 79 [1,2,5,54]))
  (.cond (.t 54)
  (sk 79 [1,2,5])
  (sx 79 [1,2] 0)))
  (.seq (.block 1
  (.seq (.region [oa 57 (.fieldAddr 16 (.t 2)), oa 58 (.load none (.t 57)), oa 59 (.mov (.t 5)), oa 60 (.indexAddr 1 (.t 58) (.t 59)), oa 61 (.load none (.t 60)), oa 62 (.lenSlice (.t 61)), oa 63 (.bin .gtr (.t 62) (ai 40))] (kp 79 [1,2,5,63]))
  (.cond (.t 63)
  (.seq (.region [oa 4 (.mov (.c (.bool true)))] (kp 79 [4]))
  (sr 79 [4]))
  (sk 79 [1,2,5]))))
  (.region [oa 55 (.mov (.t 5)), oa 56 (.bin .add (.t 55) (ai 1)), oa 5 (.mov (.t 56))] (kp 79 [1,2,5]))))
  (sk 79 [1,2,5]))
def l8_1 : IC := (.seq (.seq (.seq (.region [oa 64 (.mov (.t 6)), oa 65 (.fieldAddr 6 (.t 2)), oa 66 (.load none (.t 65)), oa 67 (.lenSlice (.t 66)), oa 68 (.bin .lss (.t 64) (.t 67))] (kp 79 [1,2,6,68]))
  (.cond (.t 68)
  (sk 79 [1,2,6])
  (sx 79 [] 2)))
  (.seq (.block 3
  (.seq (.region [oa 71 (.fieldAddr 6 (.t 2)), oa 72 (.load none (.t 71)), oa 73 (.mov (.t 6)), oa 74 (.indexAddr 17 (.t 72) (.t 73)), oa 75 (.load (some 17) (.t 74)), oa 76 (.mov (.t 1)), oa 77 (.bin .sub (.t 76) (ai 1)), oa 78 (.call 8 [(.t 75), (.t 77)])] (kp 79 [1,2,6,78]))
  (.cond (.t 78)
  (.seq (.region [oa 4 (.mov (.c (.bool true)))] (kp 79 [4]))
  (sr 79 [4]))
  (sk 79 [1,2,6]))))
  (.region [oa 69 (.mov (.t 6)), oa 70 (.bin .add (.t 69) (ai 1)), oa 6 (.mov (.t 70))] (kp 79 [1,2,6]))))
  (sk 79 [1,2,6]))
def c8 : IFn := ⟨79, [(4, none)],
  (.seq (.region [oa 2 (.box (.t 0)), oa 4 (.mov (.c (.bool false)))] (kp 79 [1,2]))
  (.seq (.seq (.region [oa 7 (.mov (.t 1)), oa 8 (.bin .leq (.t 7) (ai 0)), oa 9 (.mov (.t 8)), oc 10 (.fieldAddr 6 (.t 2)) 9 ff, oc 11 (.load none (.t 10)) 9 ff, oc 12 (.lenSlice (.t 11)) 9 ff, oc 13 (.bin .gtr (.t 12) (ai 40)) 9 ff, oa 14 (.pick (.t 9) (.c (.bool true)) (.t 13)), oa 15 (.mov (.t 14)), oc 16 (.fieldAddr 7 (.t 2)) 15 ff, oc 17 (.load none (.t 16)) 15 ff, oc 18 (.lenSlice (.t 17)) 15 ff, oc 19 (.bin .gtr (.t 18) (ai 40)) 15 ff, oa 20 (.pick (.t 15) (.c (.bool true)) (.t 19)), oa 21 (.mov (.t 20)), oc 22 (.fieldAddr 13 (.t 2)) 21 ff, oc 23 (.load none (.t 22)) 21 ff, oc 24 (.lenSlice (.t 23)) 21 ff, oc 25 (.bin .gtr (.t 24) (ai 40)) 21 ff, oa 26 (.pick (.t 21) (.c (.bool true)) (.t 25)), oa 27 (.mov (.t 26)), oc 28 (.fieldAddr 14 (.t 2)) 27 ff, oc 29 (.load none (.t 28)) 27 ff, oc 30 (.lenSlice (.t 29)) 27 ff, oc 31 (.bin .gtr (.t 30) (ai 40)) 27 ff, oa 32 (.pick (.t 27) (.c (.bool true)) (.t 31)), oa 33 (.mov (.t 32)), oc 34 (.fieldAddr 15 (.t 2)) 33 ff, oc 35 (.load none (.t 34)) 33 ff, oc 36 (.lenSlice (.t 35)) 33 ff, oc 37 (.bin .gtr (.t 36) (ai 40)) 33 ff, oa 38 (.pick (.t 33) (.c (.bool true)) (.t 37)), oa 39 (.mov (.t 38)), oc 40 (.fieldAddr 16 (.t 2)) 39 ff, oc 41 (.load none (.t 40)) 39 ff, oc 42 (.lenSlice (.t 41)) 39 ff, oc 43 (.bin .gtr (.t 42) (ai 40)) 39 ff, oa 44 (.pick (.t 39) (.c (.bool true)) (.t 43)), oa 45 (.mov (.t 44)), oc 46 (.fieldAddr 8 (.t 2)) 45 ff, oc 47 (.load (some 5) (.t 46)) 45 ff, oc 48 (.call 20 [(.t 47), (ai 30)]) 45 ff, oa 49 (.pick (.t 45) (.c (.bool true)) (.t 48))] (kp 79 [1,2,49]))
  (.cond (.t 49)
  (.seq (.region [oa 4 (.mov (.c (.bool true)))] (kp 79 [4]))
  (sr 79 [4]))
  (sk 79 [1,2])))
  (.seq (.seq (.region [oa 5 (.mov (ai 0))] (kp 79 [1,2,5]))
  (.block 0
  (.seq (sk 79 [1,2,5])
  (.loop l8_0))))
  (.seq (.seq (.region [oa 6 (.mov (ai 0))] (kp 79 [1,2,6]))
  (.block 2
  (.seq (sk 79 [1,2,6])
  (.loop l8_1))))
  (.seq (.region [oa 4 (.mov (.c (.bool false)))] (kp 79 [4]))
  (sr 79 [4]))))))⟩
theorem F8 : shutF Tryz.prog 8 = some c8 := by kernel_rfl

-- virgate/virgatelaw11.Size
def l9_0 : IC := (.seq (.seq (.seq (.region [oa 5 (.mov (.t 4)), oa 6 (.fieldAddr 6 (.t 1)), oa 7 (.load none (.t 6)), oa 8 (.lenSlice (.t 7)), oa 9 (.bin .lss (.t 5) (.t 8)), oa 10 (.mov (.t 9)), oc 11 (.mov (.t 3)) 10 tt, oc 12 (.bin .lss (.t 11) (ai 600)) 10 tt, oa 13 (.pick (.t 10) (.t 12) (.c (.bool false)))] (kp 25 [1,3,4,13]))
  (.cond (.t 13)
  (sk 25 [1,3,4])
  (sx 25 [3] 0)))
  (.seq (.block 1
  (.region [oa 16 (.mov (.t 3)), oa 17 (.fieldAddr 6 (.t 1)), oa 18 (.load none (.t 17)), oa 19 (.mov (.t 4)), oa 20 (.indexAddr 17 (.t 18) (.t 19)), oa 21 (.load (some 17) (.t 20)), oa 22 (.call 9 [(.t 21)]), oa 23 (.bin .add (.t 16) (.t 22)), oa 3 (.mov (.t 23))] (kp 25 [1,3,4])))
  (.region [oa 14 (.mov (.t 4)), oa 15 (.bin .add (.t 14) (ai 1)), oa 4 (.mov (.t 15))] (kp 25 [1,3,4]))))
  (sk 25 [1,3,4]))
def c9 : IFn := ⟨25, [(2, none)],
  (.seq (.region [oa 1 (.box (.t 0)), oa 2 (.mov (ai 0))] (kp 25 [1]))
  (.seq (.region [oa 3 (.mov (ai 1))] (kp 25 [1,3]))
  (.seq (.seq (.region [oa 4 (.mov (ai 0))] (kp 25 [1,3,4]))
  (.block 0
  (.seq (sk 25 [1,3,4])
  (.loop l9_0))))
  (.seq (.region [oa 24 (.mov (.t 3)), oa 2 (.mov (.t 24))] (kp 25 [2]))
  (sr 25 [2])))))⟩
theorem F9 : shutF Tryz.prog 9 = some c9 := by kernel_rfl

-- virgate/virgatelaw11.broad
def l20_0 : IC := (.seq (.seq (.seq (.region [oa 20 (.mov (.t 5)), oa 21 (.fieldAddr 4 (.t 2)), oa 22 (.load none (.t 21)), oa 23 (.lenSlice (.t 22)), oa 24 (.bin .lss (.t 20) (.t 23))] (kp 35 [1,2,5,24]))
  (.cond (.t 24)
  (sk 35 [1,2,5])
  (sx 35 [] 0)))
  (.seq (.block 1
  (.seq (.region [oa 27 (.fieldAddr 4 (.t 2)), oa 28 (.load none (.t 27)), oa 29 (.mov (.t 5)), oa 30 (.indexAddr 5 (.t 28) (.t 29)), oa 31 (.load (some 5) (.t 30)), oa 32 (.mov (.t 1)), oa 33 (.bin .sub (.t 32) (ai 1)), oa 34 (.call 20 [(.t 31), (.t 33)])] (kp 35 [1,2,5,34]))
  (.cond (.t 34)
  (.seq (.region [oa 4 (.mov (.c (.bool true)))] (kp 35 [4]))
  (sr 35 [4]))
  (sk 35 [1,2,5]))))
  (.region [oa 25 (.mov (.t 5)), oa 26 (.bin .add (.t 25) (ai 1)), oa 5 (.mov (.t 26))] (kp 35 [1,2,5]))))
  (sk 35 [1,2,5]))
def c20 : IFn := ⟨35, [(4, none)],
  (.seq (.region [oa 2 (.box (.t 0)), oa 4 (.mov (.c (.bool false)))] (kp 35 [1,2]))
  (.seq (.seq (.region [oa 6 (.mov (.t 1)), oa 7 (.bin .leq (.t 6) (ai 0)), oa 8 (.mov (.t 7)), oc 9 (.fieldAddr 4 (.t 2)) 8 ff, oc 10 (.load none (.t 9)) 8 ff, oc 11 (.lenSlice (.t 10)) 8 ff, oc 12 (.bin .gtr (.t 11) (ai 10)) 8 ff, oa 13 (.pick (.t 8) (.c (.bool true)) (.t 12)), oa 14 (.mov (.t 13)), oc 15 (.fieldAddr 3 (.t 2)) 14 ff, oc 16 (.load none (.t 15)) 14 ff, oc 17 (.lenSlice (.t 16)) 14 ff, oc 18 (.bin .gtr (.t 17) (ai 60)) 14 ff, oa 19 (.pick (.t 14) (.c (.bool true)) (.t 18))] (kp 35 [1,2,19]))
  (.cond (.t 19)
  (.seq (.region [oa 4 (.mov (.c (.bool true)))] (kp 35 [4]))
  (sr 35 [4]))
  (sk 35 [1,2])))
  (.seq (.seq (.region [oa 5 (.mov (ai 0))] (kp 35 [1,2,5]))
  (.block 0
  (.seq (sk 35 [1,2,5])
  (.loop l20_0))))
  (.seq (.region [oa 4 (.mov (.c (.bool false)))] (kp 35 [4]))
  (sr 35 [4])))))⟩
theorem F20 : shutF Tryz.prog 20 = some c20 := by kernel_rfl


section
variable {o : Nat → Option O}
set_option maxRecDepth 10000
set_option maxHeartbeats 4000000
/-- A call that answers true or false. -/
def TotB (o : Nat → Option O) (f : Nat) (T : TypeId) (d : D) : Prop := ∀ (c : List V) (y : Int) (C : Ch) (s : St) (Q : V → St → Prop), HasTy Tryz.prog T d → Rep o d c → Holds o s C →
  (∀ s' b, Holds o s' C → Q (.bool b) s') → WP (call PF f [.agg c, I y] s) Q
def TotI (o : Nat → Option O) (f : Nat) (T : TypeId) (d : D) : Prop := ∀ (c : List V) (C : Ch) (s : St) (Q : V → St → Prop), HasTy Tryz.prog T d → Rep o d c → Holds o s C →
  (∀ s' y, Holds o s' C → Q (I y) s') → WP (call PF f [.agg c] s) Q
theorem l20_0_loop {es : List D} {v : V} {C : Ch} {Q : V → St → Prop} {K : Kt} {y : Int} (hv : SlD o 5 es v) (ht : ∀ d ∈ es, HasTy Tryz.prog 29 d) (hm : es.length ≤ maxLen) (IH : ∀ x ∈ es, TotB o 20 29 x) {p : Nat} {cs : List V} (mp : (p, some (.cells cs none)) ∈ C) (hc : cs[4]? = some v) :
    ∀ (m i : Nat) (z : Int) (s : St), z = ((i : Nat) : Int) → i + m = es.length → Holds o s C →
    (∀ s', Holds o s' C → WP (K (.exit 0) (sp 35 []) s') Q) → (∀ s', Holds o s' C → WP (K .ret (sp 35 [(4, .bool true)]) s') Q) → WP (loop PF (.loop l20_0) (sp 35 [(1, I y), (2, .ptr (some ⟨.new p, 0⟩)), (5, I z)]) s K) Q
  | 0, i, z, s, hz, hi, H, kt, kf => by
    subst hz
    have fp := (H.mem mp).1
    have hlt : ¬ ((i : Int) < (es.length : Int)) := by omega
    refine wp_round fun LL hLL => ?_
    simp -implicitDefEqProofs only [↓GP, GB, GL, Nat.reduceAdd, Nat.reduceSub, Nat.reduceEqDiff, Nat.reduceMul, Nat.reduceLeDiff, Int.reduceBNe, Int.reduceBEq, Nat.reduceLT, reduceCtorEq, l20_0, hlt, fp, hc, ldC_some, hv.len]
    exact kt s H
  | m + 1, i, z, s, hz, hi, H, kt, kf => by
    subst hz
    have fp := (H.mem mp).1
    have hlt : ((i : Int) < (es.length : Int)) := by omega
    have hi1 : i < es.length := by omega
    have hw1 := wrap_len (a := i) (by omega)
    obtain ⟨b, off, M, c, x1, x2, x3, x4⟩ := hv.get i hi1
    have ta := ht _ (List.getElem_mem hi1)
    have l1 := (ld_old H.old x3 x4 (by omega)).1
    refine wp_round fun LL hLL => ?_
    simp -implicitDefEqProofs only [↓GP, GB, GL, Nat.reduceAdd, Nat.reduceSub, Nat.reduceEqDiff, Nat.reduceMul, Nat.reduceLeDiff, Int.reduceBNe, Int.reduceBEq, Nat.reduceLT, reduceCtorEq, l20_0, hlt, fp, hc, ldC_some, hv.len, x1, l1]
    refine wp_in (IH _ (List.getElem_mem hi1) _ _ _ _ _ ta x2 H fun s1 g h1 => ?_)
    cases g with
    | true =>
      simp -implicitDefEqProofs only [↓GP, GB, GL, Nat.reduceAdd, Nat.reduceSub, Nat.reduceEqDiff, Nat.reduceMul, Nat.reduceLeDiff, Int.reduceBNe, Int.reduceBEq, Nat.reduceLT, reduceCtorEq]
      exact kf _ h1
    | false =>
      simp -implicitDefEqProofs only [↓GP, GB, GL, Nat.reduceAdd, Nat.reduceSub, Nat.reduceEqDiff, Nat.reduceMul, Nat.reduceLeDiff, Int.reduceBNe, Int.reduceBEq, Nat.reduceLT, reduceCtorEq, hw1]
      rw [hLL]
      exact l20_0_loop hv ht hm IH mp hc m (i + 1) _ _ rfl (by omega) h1 kt kf
theorem t20 (d : D) (IH : ∀ x : D, SizeOf.sizeOf x < SizeOf.sizeOf d → TotB o 20 29 x) : TotB o 20 29 d := by
    intro c y C s Q ht r H k
    obtain ⟨s0, s1, n2, L3, v3, L4, v4, rfl, hc, w⟩ := vRTy ht r
    have qa0 : c[0]? = some (.str s0) := by rw [hc]; rfl
    have qa1 : c[1]? = some (.str s1) := by rw [hc]; rfl
    have qa2 : c[2]? = some (.int .i64 n2) := by rw [hc]; rfl
    have qa3 : c[3]? = some (v3) := by rw [hc]; rfl
    have qa4 : c[4]? = some (v4) := by rw [hc]; rfl
    have qaa : c.all V.one = true := by rw [hc]; simp only [List.all_cons, List.all_nil, one_s, one_i, one_b, Bool.and_true, w.e3.one, w.e4.one]
    have h0 : Holds o (s.alloc (.cells c none)) ((s.next, some (.cells c none)) :: C) := H.alloc _
    by_cases g0 : y ≤ 0
    · rw [call_run F20]; simp -implicitDefEqProofs only [↓GP, GB, GL, Nat.reduceAdd, Nat.reduceSub, Nat.reduceEqDiff, Nat.reduceMul, Nat.reduceLeDiff, Int.reduceBNe, Int.reduceBEq, Nat.reduceLT, reduceCtorEq, c20, qa0, qa1, qa2, qa3, qa4, qaa, cells_agg, ldC_some, ldN_some, w.e3.len, w.e4.len, g0]
      exact k _ _ h0.tl
    by_cases g1 : ((L4.length : Nat) : Int) > 10
    · rw [call_run F20]; simp -implicitDefEqProofs only [↓GP, GB, GL, Nat.reduceAdd, Nat.reduceSub, Nat.reduceEqDiff, Nat.reduceMul, Nat.reduceLeDiff, Int.reduceBNe, Int.reduceBEq, Nat.reduceLT, reduceCtorEq, c20, qa0, qa1, qa2, qa3, qa4, qaa, cells_agg, ldC_some, ldN_some, w.e3.len, w.e4.len, g0, g1]
      exact k _ _ h0.tl
    by_cases g2 : ((L3.length : Nat) : Int) > 60
    · rw [call_run F20]; simp -implicitDefEqProofs only [↓GP, GB, GL, Nat.reduceAdd, Nat.reduceSub, Nat.reduceEqDiff, Nat.reduceMul, Nat.reduceLeDiff, Int.reduceBNe, Int.reduceBEq, Nat.reduceLT, reduceCtorEq, c20, qa0, qa1, qa2, qa3, qa4, qaa, cells_agg, ldC_some, ldN_some, w.e3.len, w.e4.len, g0, g1, g2]
      exact k _ _ h0.tl
    rw [call_run F20]; simp -implicitDefEqProofs only [↓GP, GB, GL, Nat.reduceAdd, Nat.reduceSub, Nat.reduceEqDiff, Nat.reduceMul, Nat.reduceLeDiff, Int.reduceBNe, Int.reduceBEq, Nat.reduceLT, reduceCtorEq, c20, qa0, qa1, qa2, qa3, qa4, qaa, cells_agg, ldC_some, ldN_some, w.e3.len, w.e4.len, g0, g1, g2]
    refine l20_0_loop w.e4 w.t4 w.m4 (fun x hx => IH x (mem_agg (ds := [.lit (.str s0), .lit (.str s1), .lit (.int .i64 n2), .sl 1 L3, .sl 5 L4]) (sz := 5) (List.mem_of_getElem? (i := 4) rfl) hx)) (cs := c) (C := _ :: C) (List.mem_cons_self ..) qa4 _ 0 _ _ rfl (Nat.zero_add _) h0 (fun v100 k0 => ?_) (fun v100 k0 => ?_)
    rotate_left
    · simp -implicitDefEqProofs only [↓GP, GB, GL, Nat.reduceAdd, Nat.reduceSub, Nat.reduceEqDiff, Nat.reduceMul, Nat.reduceLeDiff, Int.reduceBNe, Int.reduceBEq, Nat.reduceLT, reduceCtorEq]
      exact k _ _ k0.tl
    have q0 := k0.f1
    simp -implicitDefEqProofs only [↓GP, GB, GL, Nat.reduceAdd, Nat.reduceSub, Nat.reduceEqDiff, Nat.reduceMul, Nat.reduceLeDiff, Int.reduceBNe, Int.reduceBEq, Nat.reduceLT, reduceCtorEq, q0, qa0, qa1, qa2, qa3, qa4, qaa, cells_agg, ldC_some, ldN_some, w.e3.len, w.e4.len]
    exact k _ _ k0.tl
theorem s20 : ∀ (m : Nat) (d : D), SizeOf.sizeOf d < m → TotB o 20 29 d
  | 0, _, hm => absurd hm (Nat.not_lt_zero _)
  | m + 1, d, hm => t20 d fun x h => s20 m x (Nat.lt_of_lt_of_le h (Nat.le_of_lt_succ hm))
theorem e20 (d : D) : TotB o 20 29 d := s20 _ d (Nat.lt_succ_self _)
theorem l8_0_loop {es : List D} {v : V} {C : Ch} {Q : V → St → Prop} {K : Kt} {y : Int} (hv : SlD o 1 es v) (ht : ∀ d ∈ es, HasTy Tryz.prog 26 d) (hm : es.length ≤ maxLen) {p : Nat} {cs : List V} (mp : (p, some (.cells cs none)) ∈ C) (hc : cs[16]? = some v) :
    ∀ (m i : Nat) (z : Int) (s : St), z = ((i : Nat) : Int) → i + m = es.length → Holds o s C →
    (∀ s', Holds o s' C → WP (K (.exit 0) (sp 79 [(1, I y), (2, .ptr (some ⟨.new p, 0⟩))]) s') Q) → (∀ s', Holds o s' C → WP (K .ret (sp 79 [(4, .bool true)]) s') Q) → WP (loop PF (.loop l8_0) (sp 79 [(1, I y), (2, .ptr (some ⟨.new p, 0⟩)), (5, I z)]) s K) Q
  | 0, i, z, s, hz, hi, H, kt, kf => by
    subst hz
    have fp := (H.mem mp).1
    have hlt : ¬ ((i : Int) < (es.length : Int)) := by omega
    refine wp_round fun LL hLL => ?_
    simp -implicitDefEqProofs only [↓GP, GB, GL, Nat.reduceAdd, Nat.reduceSub, Nat.reduceEqDiff, Nat.reduceMul, Nat.reduceLeDiff, Int.reduceBNe, Int.reduceBEq, Nat.reduceLT, reduceCtorEq, l8_0, hlt, fp, hc, ldC_some, hv.len]
    exact kt s H
  | m + 1, i, z, s, hz, hi, H, kt, kf => by
    subst hz
    have fp := (H.mem mp).1
    have hlt : ((i : Int) < (es.length : Int)) := by omega
    have hi1 : i < es.length := by omega
    have hw1 := wrap_len (a := i) (by omega)
    obtain ⟨b, off, M, c, x1, x2, x3, x4⟩ := hv.get i hi1
    have ta := ht _ (List.getElem_mem hi1)
    obtain ⟨es1, en, em, et⟩ := ta.slice (e := 3) (by kernel_rfl)
    rw [cl3] at en
    rw [en] at x2
    obtain ⟨va, rfl, hva⟩ := x2.slv
    have l1 := (ld_old H.old x3 x4 (by omega)).2.1
    simp only [List.getElem?_cons_zero] at l1
    refine wp_round fun LL hLL => ?_
    by_cases g : ((es1.length : Int) > 40)
    · simp -implicitDefEqProofs only [↓GP, GB, GL, Nat.reduceAdd, Nat.reduceSub, Nat.reduceEqDiff, Nat.reduceMul, Nat.reduceLeDiff, Int.reduceBNe, Int.reduceBEq, Nat.reduceLT, reduceCtorEq, l8_0, hlt, fp, hc, ldC_some, hv.len, x1, l1, hva.len, g]
      exact kf _ H
    · simp -implicitDefEqProofs only [↓GP, GB, GL, Nat.reduceAdd, Nat.reduceSub, Nat.reduceEqDiff, Nat.reduceMul, Nat.reduceLeDiff, Int.reduceBNe, Int.reduceBEq, Nat.reduceLT, reduceCtorEq, l8_0, hlt, fp, hc, ldC_some, hv.len, x1, l1, hva.len, g, hw1]
      rw [hLL]
      exact l8_0_loop hv ht hm mp hc m (i + 1) _ _ rfl (by omega) H kt kf
theorem l8_1_loop {es : List D} {v : V} {C : Ch} {Q : V → St → Prop} {K : Kt} {y : Int} (hv : SlD o 17 es v) (ht : ∀ d ∈ es, HasTy Tryz.prog 32 d) (hm : es.length ≤ maxLen) (IH : ∀ x ∈ es, TotB o 8 32 x) {p : Nat} {cs : List V} (mp : (p, some (.cells cs none)) ∈ C) (hc : cs[6]? = some v) :
    ∀ (m i : Nat) (z : Int) (s : St), z = ((i : Nat) : Int) → i + m = es.length → Holds o s C →
    (∀ s', Holds o s' C → WP (K (.exit 2) (sp 79 []) s') Q) → (∀ s', Holds o s' C → WP (K .ret (sp 79 [(4, .bool true)]) s') Q) → WP (loop PF (.loop l8_1) (sp 79 [(1, I y), (2, .ptr (some ⟨.new p, 0⟩)), (6, I z)]) s K) Q
  | 0, i, z, s, hz, hi, H, kt, kf => by
    subst hz
    have fp := (H.mem mp).1
    have hlt : ¬ ((i : Int) < (es.length : Int)) := by omega
    refine wp_round fun LL hLL => ?_
    simp -implicitDefEqProofs only [↓GP, GB, GL, Nat.reduceAdd, Nat.reduceSub, Nat.reduceEqDiff, Nat.reduceMul, Nat.reduceLeDiff, Int.reduceBNe, Int.reduceBEq, Nat.reduceLT, reduceCtorEq, l8_1, hlt, fp, hc, ldC_some, hv.len]
    exact kt s H
  | m + 1, i, z, s, hz, hi, H, kt, kf => by
    subst hz
    have fp := (H.mem mp).1
    have hlt : ((i : Int) < (es.length : Int)) := by omega
    have hi1 : i < es.length := by omega
    have hw1 := wrap_len (a := i) (by omega)
    obtain ⟨b, off, M, c, x1, x2, x3, x4⟩ := hv.get i hi1
    have ta := ht _ (List.getElem_mem hi1)
    have l1 := (ld_old H.old x3 x4 (by omega)).1
    refine wp_round fun LL hLL => ?_
    simp -implicitDefEqProofs only [↓GP, GB, GL, Nat.reduceAdd, Nat.reduceSub, Nat.reduceEqDiff, Nat.reduceMul, Nat.reduceLeDiff, Int.reduceBNe, Int.reduceBEq, Nat.reduceLT, reduceCtorEq, l8_1, hlt, fp, hc, ldC_some, hv.len, x1, l1]
    refine wp_in (IH _ (List.getElem_mem hi1) _ _ _ _ _ ta x2 H fun s1 g h1 => ?_)
    cases g with
    | true =>
      simp -implicitDefEqProofs only [↓GP, GB, GL, Nat.reduceAdd, Nat.reduceSub, Nat.reduceEqDiff, Nat.reduceMul, Nat.reduceLeDiff, Int.reduceBNe, Int.reduceBEq, Nat.reduceLT, reduceCtorEq]
      exact kf _ h1
    | false =>
      simp -implicitDefEqProofs only [↓GP, GB, GL, Nat.reduceAdd, Nat.reduceSub, Nat.reduceEqDiff, Nat.reduceMul, Nat.reduceLeDiff, Int.reduceBNe, Int.reduceBEq, Nat.reduceLT, reduceCtorEq, hw1]
      rw [hLL]
      exact l8_1_loop hv ht hm IH mp hc m (i + 1) _ _ rfl (by omega) h1 kt kf
theorem t8 (d : D) (IH : ∀ x : D, SizeOf.sizeOf x < SizeOf.sizeOf d → TotB o 8 32 x) : TotB o 8 32 d := by
    intro c y C s Q ht r H k
    obtain ⟨s0, s1, s2, s3, n4, n5, L6, v6, L7, v7, s8_0, s8_1, n8_2, L8_3, v8_3, L8_4, v8_4, L9, v9, L10, v10, L11, v11, L12, v12, rfl, hc, w⟩ := vAnn ht r
    have qa0 : c[0]? = some (.str s0) := by rw [hc]; rfl
    have qa1 : c[1]? = some (.str s1) := by rw [hc]; rfl
    have qa2 : c[2]? = some (.str s2) := by rw [hc]; rfl
    have qa3 : c[3]? = some (.str s3) := by rw [hc]; rfl
    have qa4 : c[4]? = some (.int .i64 n4) := by rw [hc]; rfl
    have qa5 : c[5]? = some (.int .i64 n5) := by rw [hc]; rfl
    have qa6 : c[6]? = some (v6) := by rw [hc]; rfl
    have qa7 : c[7]? = some (v7) := by rw [hc]; rfl
    have qa8 : cut c 8 5 = some [.str s8_0, .str s8_1, .int .i64 n8_2, v8_3, v8_4] := by rw [hc]; rfl
    have qa9 : c[13]? = some (v9) := by rw [hc]; rfl
    have qa10 : c[14]? = some (v10) := by rw [hc]; rfl
    have qa11 : c[15]? = some (v11) := by rw [hc]; rfl
    have qa12 : c[16]? = some (v12) := by rw [hc]; rfl
    have qaa : c.all V.one = true := by rw [hc]; simp only [List.all_cons, List.all_nil, one_s, one_i, one_b, Bool.and_true, w.e6.one, w.e7.one, w.w8.e3.one, w.w8.e4.one, w.e9.one, w.e10.one, w.e11.one, w.e12.one]
    have h0 : Holds o (s.alloc (.cells c none)) ((s.next, some (.cells c none)) :: C) := H.alloc _
    by_cases g0 : y ≤ 0
    · rw [call_run F8]; simp -implicitDefEqProofs only [↓GP, GB, GL, Nat.reduceAdd, Nat.reduceSub, Nat.reduceEqDiff, Nat.reduceMul, Nat.reduceLeDiff, Int.reduceBNe, Int.reduceBEq, Nat.reduceLT, reduceCtorEq, c8, qa0, qa1, qa2, qa3, qa4, qa5, qa6, qa7, qa8, qa9, qa10, qa11, qa12, qaa, cells_agg, ldC_some, ldN_some, w.e6.len, w.e7.len, w.e9.len, w.e10.len, w.e11.len, w.e12.len, g0]
      exact k _ _ h0.tl
    by_cases g1 : ((L6.length : Nat) : Int) > 40
    · rw [call_run F8]; simp -implicitDefEqProofs only [↓GP, GB, GL, Nat.reduceAdd, Nat.reduceSub, Nat.reduceEqDiff, Nat.reduceMul, Nat.reduceLeDiff, Int.reduceBNe, Int.reduceBEq, Nat.reduceLT, reduceCtorEq, c8, qa0, qa1, qa2, qa3, qa4, qa5, qa6, qa7, qa8, qa9, qa10, qa11, qa12, qaa, cells_agg, ldC_some, ldN_some, w.e6.len, w.e7.len, w.e9.len, w.e10.len, w.e11.len, w.e12.len, g0, g1]
      exact k _ _ h0.tl
    by_cases g2 : ((L7.length : Nat) : Int) > 40
    · rw [call_run F8]; simp -implicitDefEqProofs only [↓GP, GB, GL, Nat.reduceAdd, Nat.reduceSub, Nat.reduceEqDiff, Nat.reduceMul, Nat.reduceLeDiff, Int.reduceBNe, Int.reduceBEq, Nat.reduceLT, reduceCtorEq, c8, qa0, qa1, qa2, qa3, qa4, qa5, qa6, qa7, qa8, qa9, qa10, qa11, qa12, qaa, cells_agg, ldC_some, ldN_some, w.e6.len, w.e7.len, w.e9.len, w.e10.len, w.e11.len, w.e12.len, g0, g1, g2]
      exact k _ _ h0.tl
    by_cases g3 : ((L9.length : Nat) : Int) > 40
    · rw [call_run F8]; simp -implicitDefEqProofs only [↓GP, GB, GL, Nat.reduceAdd, Nat.reduceSub, Nat.reduceEqDiff, Nat.reduceMul, Nat.reduceLeDiff, Int.reduceBNe, Int.reduceBEq, Nat.reduceLT, reduceCtorEq, c8, qa0, qa1, qa2, qa3, qa4, qa5, qa6, qa7, qa8, qa9, qa10, qa11, qa12, qaa, cells_agg, ldC_some, ldN_some, w.e6.len, w.e7.len, w.e9.len, w.e10.len, w.e11.len, w.e12.len, g0, g1, g2, g3]
      exact k _ _ h0.tl
    by_cases g4 : ((L10.length : Nat) : Int) > 40
    · rw [call_run F8]; simp -implicitDefEqProofs only [↓GP, GB, GL, Nat.reduceAdd, Nat.reduceSub, Nat.reduceEqDiff, Nat.reduceMul, Nat.reduceLeDiff, Int.reduceBNe, Int.reduceBEq, Nat.reduceLT, reduceCtorEq, c8, qa0, qa1, qa2, qa3, qa4, qa5, qa6, qa7, qa8, qa9, qa10, qa11, qa12, qaa, cells_agg, ldC_some, ldN_some, w.e6.len, w.e7.len, w.e9.len, w.e10.len, w.e11.len, w.e12.len, g0, g1, g2, g3, g4]
      exact k _ _ h0.tl
    by_cases g5 : ((L11.length : Nat) : Int) > 40
    · rw [call_run F8]; simp -implicitDefEqProofs only [↓GP, GB, GL, Nat.reduceAdd, Nat.reduceSub, Nat.reduceEqDiff, Nat.reduceMul, Nat.reduceLeDiff, Int.reduceBNe, Int.reduceBEq, Nat.reduceLT, reduceCtorEq, c8, qa0, qa1, qa2, qa3, qa4, qa5, qa6, qa7, qa8, qa9, qa10, qa11, qa12, qaa, cells_agg, ldC_some, ldN_some, w.e6.len, w.e7.len, w.e9.len, w.e10.len, w.e11.len, w.e12.len, g0, g1, g2, g3, g4, g5]
      exact k _ _ h0.tl
    by_cases g6 : ((L12.length : Nat) : Int) > 40
    · rw [call_run F8]; simp -implicitDefEqProofs only [↓GP, GB, GL, Nat.reduceAdd, Nat.reduceSub, Nat.reduceEqDiff, Nat.reduceMul, Nat.reduceLeDiff, Int.reduceBNe, Int.reduceBEq, Nat.reduceLT, reduceCtorEq, c8, qa0, qa1, qa2, qa3, qa4, qa5, qa6, qa7, qa8, qa9, qa10, qa11, qa12, qaa, cells_agg, ldC_some, ldN_some, w.e6.len, w.e7.len, w.e9.len, w.e10.len, w.e11.len, w.e12.len, g0, g1, g2, g3, g4, g5, g6]
      exact k _ _ h0.tl
    rw [call_run F8]; simp -implicitDefEqProofs only [↓GP, GB, GL, Nat.reduceAdd, Nat.reduceSub, Nat.reduceEqDiff, Nat.reduceMul, Nat.reduceLeDiff, Int.reduceBNe, Int.reduceBEq, Nat.reduceLT, reduceCtorEq, c8, qa0, qa1, qa2, qa3, qa4, qa5, qa6, qa7, qa8, qa9, qa10, qa11, qa12, qaa, cells_agg, ldC_some, ldN_some, w.e6.len, w.e7.len, w.e9.len, w.e10.len, w.e11.len, w.e12.len, g0, g1, g2, g3, g4, g5, g6]
    refine wp_in ((e20 _) _ 30 _ _ _ w.h8 w.r8 h0 fun u7 b7 h1 => ?_)
    have f1 := h1.f1
    cases b7 with
    | true =>
      simp -implicitDefEqProofs only [↓GP, GB, GL, Nat.reduceAdd, Nat.reduceSub, Nat.reduceEqDiff, Nat.reduceMul, Nat.reduceLeDiff, Int.reduceBNe, Int.reduceBEq, Nat.reduceLT, reduceCtorEq]
      exact k _ _ h1.tl
    | false =>
      simp -implicitDefEqProofs only [↓GP, GB, GL, Nat.reduceAdd, Nat.reduceSub, Nat.reduceEqDiff, Nat.reduceMul, Nat.reduceLeDiff, Int.reduceBNe, Int.reduceBEq, Nat.reduceLT, reduceCtorEq, f1, qa0, qa1, qa2, qa3, qa4, qa5, qa6, qa7, qa8, qa9, qa10, qa11, qa12, qaa, cells_agg, ldC_some, ldN_some, w.e6.len, w.e7.len, w.e9.len, w.e10.len, w.e11.len, w.e12.len]
      refine l8_0_loop w.e12 w.t12 w.m12 (cs := c) (C := _ :: C) (List.mem_cons_self ..) qa12 _ 0 _ _ rfl (Nat.zero_add _) h1 (fun v100 k0 => ?_) (fun v100 k0 => ?_)
      rotate_left
      · simp -implicitDefEqProofs only [↓GP, GB, GL, Nat.reduceAdd, Nat.reduceSub, Nat.reduceEqDiff, Nat.reduceMul, Nat.reduceLeDiff, Int.reduceBNe, Int.reduceBEq, Nat.reduceLT, reduceCtorEq]
        exact k _ _ k0.tl
      have q0 := k0.f1
      simp -implicitDefEqProofs only [↓GP, GB, GL, Nat.reduceAdd, Nat.reduceSub, Nat.reduceEqDiff, Nat.reduceMul, Nat.reduceLeDiff, Int.reduceBNe, Int.reduceBEq, Nat.reduceLT, reduceCtorEq, q0, qa0, qa1, qa2, qa3, qa4, qa5, qa6, qa7, qa8, qa9, qa10, qa11, qa12, qaa, cells_agg, ldC_some, ldN_some, w.e6.len, w.e7.len, w.e9.len, w.e10.len, w.e11.len, w.e12.len]
      refine l8_1_loop w.e6 w.t6 w.m6 (fun x hx => IH x (mem_agg (ds := [.lit (.str s0), .lit (.str s1), .lit (.str s2), .lit (.str s3), .lit (.int .i64 n4), .lit (.int .i64 n5), .sl 17 L6, .sl 4 L7, .agg [.lit (.str s8_0), .lit (.str s8_1), .lit (.int .i64 n8_2), .sl 1 L8_3, .sl 5 L8_4], .sl 1 L9, .sl 1 L10, .sl 1 L11, .sl 1 L12]) (sz := 17) (List.mem_of_getElem? (i := 6) rfl) hx)) (cs := c) (C := _ :: C) (List.mem_cons_self ..) qa6 _ 0 _ _ rfl (Nat.zero_add _) k0 (fun v101 k1 => ?_) (fun v101 k1 => ?_)
      rotate_left
      · simp -implicitDefEqProofs only [↓GP, GB, GL, Nat.reduceAdd, Nat.reduceSub, Nat.reduceEqDiff, Nat.reduceMul, Nat.reduceLeDiff, Int.reduceBNe, Int.reduceBEq, Nat.reduceLT, reduceCtorEq]
        exact k _ _ k1.tl
      have q1 := k1.f1
      simp -implicitDefEqProofs only [↓GP, GB, GL, Nat.reduceAdd, Nat.reduceSub, Nat.reduceEqDiff, Nat.reduceMul, Nat.reduceLeDiff, Int.reduceBNe, Int.reduceBEq, Nat.reduceLT, reduceCtorEq, q1, qa0, qa1, qa2, qa3, qa4, qa5, qa6, qa7, qa8, qa9, qa10, qa11, qa12, qaa, cells_agg, ldC_some, ldN_some, w.e6.len, w.e7.len, w.e9.len, w.e10.len, w.e11.len, w.e12.len]
      exact k _ _ k1.tl
theorem s8 : ∀ (m : Nat) (d : D), SizeOf.sizeOf d < m → TotB o 8 32 d
  | 0, _, hm => absurd hm (Nat.not_lt_zero _)
  | m + 1, d, hm => t8 d fun x h => s8 m x (Nat.lt_of_lt_of_le h (Nat.le_of_lt_succ hm))
theorem e8 (d : D) : TotB o 8 32 d := s8 _ d (Nat.lt_succ_self _)
theorem l9_0_loop {es : List D} {v : V} {C : Ch} {Q : V → St → Prop} {K : Kt} (hv : SlD o 17 es v) (ht : ∀ d ∈ es, HasTy Tryz.prog 32 d) (hm : es.length ≤ maxLen) (IH : ∀ x ∈ es, TotI o 9 32 x) {p : Nat} {cs : List V} (mp : (p, some (.cells cs none)) ∈ C) (hc : cs[6]? = some v) :
    ∀ (m i : Nat) (z y : Int) (s : St), z = ((i : Nat) : Int) → i + m = es.length → Holds o s C →
    (∀ s' y, Holds o s' C → WP (K (.exit 0) (sp 25 [(3, I y)]) s') Q) → WP (loop PF (.loop l9_0) (sp 25 [(1, .ptr (some ⟨.new p, 0⟩)), (3, I y), (4, I z)]) s K) Q
  | 0, i, z, y, s, hz, hi, H, kt => by
    subst hz
    have fp := (H.mem mp).1
    have hlt : ¬ ((i : Int) < (es.length : Int)) := by omega
    refine wp_round fun LL hLL => ?_
    simp -implicitDefEqProofs only [↓GP, GB, GL, Nat.reduceAdd, Nat.reduceSub, Nat.reduceEqDiff, Nat.reduceMul, Nat.reduceLeDiff, Int.reduceBNe, Int.reduceBEq, Nat.reduceLT, reduceCtorEq, l9_0, hlt, fp, hc, ldC_some, hv.len]
    exact kt s _ H
  | m + 1, i, z, y, s, hz, hi, H, kt => by
    subst hz
    have fp := (H.mem mp).1
    have hlt : ((i : Int) < (es.length : Int)) := by omega
    have hi1 : i < es.length := by omega
    have hw1 := wrap_len (a := i) (by omega)
    obtain ⟨b, off, M, c, x1, x2, x3, x4⟩ := hv.get i hi1
    have ta := ht _ (List.getElem_mem hi1)
    have l1 := (ld_old H.old x3 x4 (by omega)).1
    refine wp_round fun LL hLL => ?_
    by_cases g : (y < 600)
    · simp -implicitDefEqProofs only [↓GP, GB, GL, Nat.reduceAdd, Nat.reduceSub, Nat.reduceEqDiff, Nat.reduceMul, Nat.reduceLeDiff, Int.reduceBNe, Int.reduceBEq, Nat.reduceLT, reduceCtorEq, l9_0, hlt, g, fp, hc, ldC_some, hv.len, x1, l1]
      refine wp_in (IH _ (List.getElem_mem hi1) _ _ _ _ ta x2 H fun s1 y1 h1 => ?_)
      simp -implicitDefEqProofs only [↓GP, GB, GL, Nat.reduceAdd, Nat.reduceSub, Nat.reduceEqDiff, Nat.reduceMul, Nat.reduceLeDiff, Int.reduceBNe, Int.reduceBEq, Nat.reduceLT, reduceCtorEq, hw1]
      rw [hLL]
      exact l9_0_loop hv ht hm IH mp hc m (i + 1) _ _ _ rfl (by omega) h1 kt
    · simp -implicitDefEqProofs only [↓GP, GB, GL, Nat.reduceAdd, Nat.reduceSub, Nat.reduceEqDiff, Nat.reduceMul, Nat.reduceLeDiff, Int.reduceBNe, Int.reduceBEq, Nat.reduceLT, reduceCtorEq, l9_0, hlt, g, fp, hc, ldC_some, hv.len]
      exact kt s _ H
theorem s9 : ∀ (m : Nat) (d : D), SizeOf.sizeOf d < m → TotI o 9 32 d
  | 0, _, hm => absurd hm (Nat.not_lt_zero _)
  | m + 1, d, hm => by
    intro c C s Q ht r H k
    obtain ⟨s0, s1, s2, s3, n4, n5, L6, v6, L7, v7, s8_0, s8_1, n8_2, L8_3, v8_3, L8_4, v8_4, L9, v9, L10, v10, L11, v11, L12, v12, rfl, hc, w⟩ := vAnn ht r
    have qa0 : c[0]? = some (.str s0) := by rw [hc]; rfl
    have qa1 : c[1]? = some (.str s1) := by rw [hc]; rfl
    have qa2 : c[2]? = some (.str s2) := by rw [hc]; rfl
    have qa3 : c[3]? = some (.str s3) := by rw [hc]; rfl
    have qa4 : c[4]? = some (.int .i64 n4) := by rw [hc]; rfl
    have qa5 : c[5]? = some (.int .i64 n5) := by rw [hc]; rfl
    have qa6 : c[6]? = some (v6) := by rw [hc]; rfl
    have qa7 : c[7]? = some (v7) := by rw [hc]; rfl
    have qa8 : cut c 8 5 = some [.str s8_0, .str s8_1, .int .i64 n8_2, v8_3, v8_4] := by rw [hc]; rfl
    have qa9 : c[13]? = some (v9) := by rw [hc]; rfl
    have qa10 : c[14]? = some (v10) := by rw [hc]; rfl
    have qa11 : c[15]? = some (v11) := by rw [hc]; rfl
    have qa12 : c[16]? = some (v12) := by rw [hc]; rfl
    have qaa : c.all V.one = true := by rw [hc]; simp only [List.all_cons, List.all_nil, one_s, one_i, one_b, Bool.and_true, w.e6.one, w.e7.one, w.w8.e3.one, w.w8.e4.one, w.e9.one, w.e10.one, w.e11.one, w.e12.one]
    have h0 : Holds o (s.alloc (.cells c none)) ((s.next, some (.cells c none)) :: C) := H.alloc _
    rw [call_run F9]; simp -implicitDefEqProofs only [↓GP, GB, GL, Nat.reduceAdd, Nat.reduceSub, Nat.reduceEqDiff, Nat.reduceMul, Nat.reduceLeDiff, Int.reduceBNe, Int.reduceBEq, Nat.reduceLT, reduceCtorEq, c9, qa0, qa1, qa2, qa3, qa4, qa5, qa6, qa7, qa8, qa9, qa10, qa11, qa12, qaa, cells_agg, ldC_some, ldN_some]
    refine l9_0_loop w.e6 w.t6 w.m6 (fun x hx => s9 m x (Nat.lt_of_lt_of_le (mem_agg (ds := [.lit (.str s0), .lit (.str s1), .lit (.str s2), .lit (.str s3), .lit (.int .i64 n4), .lit (.int .i64 n5), .sl 17 L6, .sl 4 L7, .agg [.lit (.str s8_0), .lit (.str s8_1), .lit (.int .i64 n8_2), .sl 1 L8_3, .sl 5 L8_4], .sl 1 L9, .sl 1 L10, .sl 1 L11, .sl 1 L12]) (sz := 17) (List.mem_of_getElem? (i := 6) rfl) hx) (Nat.le_of_lt_succ hm))) (cs := c) (C := _ :: C) (List.mem_cons_self ..) qa6 _ 0 _ _ _ rfl (Nat.zero_add _) h0 (fun u1 y1 h1 => ?_)
    simp -implicitDefEqProofs only [↓GP, GB, GL, Nat.reduceAdd, Nat.reduceSub, Nat.reduceEqDiff, Nat.reduceMul, Nat.reduceLeDiff, Int.reduceBNe, Int.reduceBEq, Nat.reduceLT, reduceCtorEq]
    exact k _ _ h1.tl
theorem e9 (d : D) : TotI o 9 32 d := s9 _ d (Nat.lt_succ_self _)
theorem e4 {d : D} {c : List V} {C : Ch} {s : St} {Q : V → St → Prop} (ht : HasTy Tryz.prog 34 d) (r : Rep o d c) (H : Holds o s C) (k : ∀ s' b, Holds o s' C → Q (.bool b) s') : WP (call PF 4 [.agg c] s) Q := by
  obtain ⟨L0, v0, L1, v1, s2_0, s2_1, s2_2, s2_3, n2_4, n2_5, L2_6, v2_6, L2_7, v2_7, s2_8_0, s2_8_1, n2_8_2, L2_8_3, v2_8_3, L2_8_4, v2_8_4, L2_9, v2_9, L2_10, v2_10, L2_11, v2_11, L2_12, v2_12, rfl, hc, w⟩ := vRProg ht r
  have qa0 : c[0]? = some (v0) := by rw [hc]; rfl
  have qa1 : c[1]? = some (v1) := by rw [hc]; rfl
  have qa2 : cut c 2 17 = some [.str s2_0, .str s2_1, .str s2_2, .str s2_3, .int .i64 n2_4, .int .i64 n2_5, v2_6, v2_7, .str s2_8_0, .str s2_8_1, .int .i64 n2_8_2, v2_8_3, v2_8_4, v2_9, v2_10, v2_11, v2_12] := by rw [hc]; rfl
  have qaa : c.all V.one = true := by rw [hc]; simp only [List.all_cons, List.all_nil, one_s, one_i, one_b, Bool.and_true, w.e0.one, w.e1.one, w.w2.e6.one, w.w2.e7.one, w.w2.w8.e3.one, w.w2.w8.e4.one, w.w2.e9.one, w.w2.e10.one, w.w2.e11.one, w.w2.e12.one]
  have h0 : Holds o (s.alloc (.cells c none)) ((s.next, some (.cells c none)) :: C) := H.alloc _
  by_cases g0 : ((L0.length : Nat) : Int) > 20
  · rw [call_run F4]; simp -implicitDefEqProofs only [↓GP, GB, GL, Nat.reduceAdd, Nat.reduceSub, Nat.reduceEqDiff, Nat.reduceMul, Nat.reduceLeDiff, Int.reduceBNe, Int.reduceBEq, Nat.reduceLT, reduceCtorEq, c4, qa0, qa1, qa2, qaa, cells_agg, ldC_some, ldN_some, w.e0.len, w.e1.len, g0]
    exact k _ _ h0.tl
  by_cases g1 : ((L1.length : Nat) : Int) > 20
  · rw [call_run F4]; simp -implicitDefEqProofs only [↓GP, GB, GL, Nat.reduceAdd, Nat.reduceSub, Nat.reduceEqDiff, Nat.reduceMul, Nat.reduceLeDiff, Int.reduceBNe, Int.reduceBEq, Nat.reduceLT, reduceCtorEq, c4, qa0, qa1, qa2, qaa, cells_agg, ldC_some, ldN_some, w.e0.len, w.e1.len, g0, g1]
    exact k _ _ h0.tl
  rw [call_run F4]; simp -implicitDefEqProofs only [↓GP, GB, GL, Nat.reduceAdd, Nat.reduceSub, Nat.reduceEqDiff, Nat.reduceMul, Nat.reduceLeDiff, Int.reduceBNe, Int.reduceBEq, Nat.reduceLT, reduceCtorEq, c4, qa0, qa1, qa2, qaa, cells_agg, ldC_some, ldN_some, w.e0.len, w.e1.len, g0, g1]
  refine wp_in ((e8 _) _ 80 _ _ _ w.h2 w.r2 h0 fun u1 b1 h1 => ?_)
  have f1 := h1.f1
  cases b1 with
  | true =>
    simp -implicitDefEqProofs only [↓GP, GB, GL, Nat.reduceAdd, Nat.reduceSub, Nat.reduceEqDiff, Nat.reduceMul, Nat.reduceLeDiff, Int.reduceBNe, Int.reduceBEq, Nat.reduceLT, reduceCtorEq, f1]
    exact k _ _ h1.tl
  | false =>
    simp -implicitDefEqProofs only [↓GP, GB, GL, Nat.reduceAdd, Nat.reduceSub, Nat.reduceEqDiff, Nat.reduceMul, Nat.reduceLeDiff, Int.reduceBNe, Int.reduceBEq, Nat.reduceLT, reduceCtorEq, f1, qa0, qa1, qa2, qaa, cells_agg, ldC_some, ldN_some, w.e0.len, w.e1.len]
    refine wp_in ((e9 _) _ _ _ _ w.h2 w.r2 h1 fun u2 y2 h2 => ?_)
    simp -implicitDefEqProofs only [↓GP, GB, GL, Nat.reduceAdd, Nat.reduceSub, Nat.reduceEqDiff, Nat.reduceMul, Nat.reduceLeDiff, Int.reduceBNe, Int.reduceBEq, Nat.reduceLT, reduceCtorEq]
    exact k _ _ h2.tl
end
end Go.Proofs.YtfcaamoapdibiaaGreatDoor
