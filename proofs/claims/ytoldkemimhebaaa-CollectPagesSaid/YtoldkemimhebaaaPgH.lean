/- The functions of layer 15's reference, on the ideal machine: writing, turning. -/
import Derived.Test.YtoldkemimhebaaaPgG
set_option linter.unusedSimpArgs false
set_option linter.unusedVariables false
namespace Go.Proofs.Ytoldkemimhebaaa
open Go Go.IM

-- (*virgate/virgateref15.Heap).Turn
def l97_0 : IC := (.seq (.seq (.seq (.region [oa 33 (.mov (.t 10)), oa 34 (.mov (.t 2)), oa 35 (.lenSlice (.t 34)), oa 36 (.bin .lss (.t 33) (.t 35))] (kp 126 [0,1,2,8,9,10,36]))
  (.cond (.t 36)
  (sk 126 [0,1,2,8,9,10])
  (sx 126 [0,1,8] 0)))
  (.seq (.block 1
  (.seq (.region [oa 40 (.mov (.t 0)), oa 41 (.mov (.t 2)), oa 42 (.mov (.t 10)), oa 43 (.indexAddr 2 (.t 41) (.t 42)), oa 44 (.load (some 2) (.t 43)), oa 45 (.call 103 [(.t 40), (.t 44)]), oa 39 (.mov (.t 45)), oa 46 (.extract (.t 39) 0), oa 47 (.extract (.t 39) 1), oa 11 (.mov (.t 46)), oa 12 (.mov (.t 47))] (kp 126 [0,1,2,8,9,10,11,12]))
  (.seq (.seq (.region [oa 48 (.mov (.t 11)), oa 49 (.mov (.t 1)), oa 50 (.bin .neq (.t 48) (.t 49)), oa 51 (.mov (.t 50)), oc 52 (.mov (.t 12)) 51 ff, oc 53 (.mov (.t 9)) 51 ff, oc 54 (.bin .lss (.t 52) (.t 53)) 51 ff, oa 55 (.pick (.t 51) (.c (.bool true)) (.t 54))] (kp 126 [0,1,2,8,10,12,55]))
  (.cond (.t 55)
  (.seq (.region [oa 6 (.mov (.c (.slice none 0 (some 0)))), oa 7 (.mov (ai 2))] (kp 126 [6,7]))
  (sr 126 [6,7]))
  (sk 126 [0,1,2,8,10,12])))
  (.seq (.region [oa 56 (.mov (.t 8)), oa 57 (.mov (.t 0)), oa 58 (.nilCheck (.t 57)), oa 59 (.fieldAddr 1 (.t 58)), oa 60 (.load none (.t 59)), oa 61 (.mov (.t 1)), oa 62 (.indexAddr 5 (.t 60) (.t 61)), oa 63 (.fieldAddr 4 (.t 62)), oa 64 (.load none (.t 63)), oa 65 (.mov (.t 12)), oa 66 (.indexAddr 3 (.t 64) (.t 65)), oa 67 (.load (some 3) (.t 66)), oa 68 (.buildSlice 1 [(.int .i64 (0)), (.int .i64 (0)), (.slice none 0 (some 0))] [(0, 3, (.t 67))]), oa 69 (.append 3 40 (.t 56) (.t 68)), oa 8 (.mov (.t 69))] (kp 126 [0,1,2,8,10,12]))
  (.region [oa 70 (.mov (.t 12)), oa 71 (.bin .add (.t 70) (ai 1)), oa 9 (.mov (.t 71))] (kp 126 [0,1,2,8,9,10]))))))
  (.region [oa 37 (.mov (.t 10)), oa 38 (.bin .add (.t 37) (ai 1)), oa 10 (.mov (.t 38))] (kp 126 [0,1,2,8,9,10]))))
  (sk 126 [0,1,2,8,9,10]))
def l97_1 : IC := (.seq (.seq (.seq (.region [oa 75 (.mov (.t 14)), oa 76 (.mov (.t 8)), oa 77 (.lenSlice (.t 76)), oa 78 (.bin .lss (.t 75) (.t 77))] (kp 126 [0,1,8,13,14,78]))
  (.cond (.t 78)
  (sk 126 [0,1,8,13,14])
  (sx 126 [13] 2)))
  (.seq (.block 3
  (.seq (.region [oa 81 (.mov (.t 8)), oa 82 (.mov (.t 14)), oa 83 (.indexAddr 3 (.t 81) (.t 82)), oa 84 (.load (some 3) (.t 83)), oa 15 (.alloc [(.int .i64 (0)), (.int .i64 (0)), (.slice none 0 (some 0))]), ob (.store 3 (.t 15) (.t 84))] (kp 126 [0,1,8,13,14,15]))
  (.seq (.region [oa 85 (.mov (.t 0)), oa 86 (.mov (.t 1)), oa 87 (.fieldAddr 2 (.t 15)), oa 88 (.load none (.t 87)), oa 89 (.lenSlice (.t 88)), oa 90 (.bin .add (ai 1) (.t 89)), oa 91 (.call 117 [(.t 85), (.t 86), (.t 90)]), oa 92 (.fieldAddr 0 (.t 15)), ob (.store 1 (.t 92) (.t 91))] (kp 126 [0,1,8,13,14,15]))
  (.seq (.region [oa 93 (.mov (.t 0)), oa 94 (.nilCheck (.t 93)), oa 95 (.fieldAddr 1 (.t 94)), oa 96 (.load none (.t 95)), oa 97 (.mov (.t 1)), oa 98 (.mov (.t 0)), oa 99 (.nilCheck (.t 98)), oa 100 (.fieldAddr 1 (.t 99)), oa 101 (.load none (.t 100)), oa 102 (.mov (.t 1)), oa 103 (.indexAddr 5 (.t 101) (.t 102)), oa 104 (.fieldAddr 4 (.t 103)), oa 105 (.load none (.t 104)), oa 106 (.load (some 3) (.t 15)), oa 107 (.buildSlice 1 [(.int .i64 (0)), (.int .i64 (0)), (.slice none 0 (some 0))] [(0, 3, (.t 106))]), oa 108 (.append 3 40 (.t 105) (.t 107)), ob (.again 96 (.load none (.t 95))), oa 109 (.indexAddr 5 (.t 96) (.t 97)), oa 110 (.fieldAddr 4 (.t 109)), ob (.store 1 (.t 110) (.t 108))] (kp 126 [0,1,8,13,14,15]))
  (.region [oa 111 (.mov (.t 13)), oa 112 (.fieldAddr 0 (.t 15)), oa 113 (.load none (.t 112)), oa 114 (.mov (.t 0)), oa 115 (.nilCheck (.t 114)), oa 116 (.fieldAddr 1 (.t 115)), oa 117 (.load none (.t 116)), oa 118 (.mov (.t 1)), oa 119 (.indexAddr 5 (.t 117) (.t 118)), oa 120 (.fieldAddr 1 (.t 119)), oa 121 (.load none (.t 120)), oa 122 (.build [(.int .i64 (0)), (.int .i64 (0))] [(0, 1, (.t 113)), (1, 1, (.t 121))]), oa 123 (.buildSlice 1 [(.int .i64 (0)), (.int .i64 (0))] [(0, 2, (.t 122))]), oa 124 (.append 2 16 (.t 111) (.t 123)), oa 13 (.mov (.t 124))] (kp 126 [0,1,8,13,14]))))))
  (.region [oa 79 (.mov (.t 14)), oa 80 (.bin .add (.t 79) (ai 1)), oa 14 (.mov (.t 80))] (kp 126 [0,1,8,13,14]))))
  (sk 126 [0,1,8,13,14]))
def c97 : IFn := ⟨126, [(6, none), (7, none)],
  (.seq (.region [oa 6 (.mov (.c (.slice none 0 (some 0)))), oa 7 (.mov (ai 0))] (kp 126 [0,1,2]))
  (.seq (.seq (.region [oa 16 (.mov (.t 0)), oa 17 (.call 87 [(.t 16)])] (kp 126 [0,1,2,17]))
  (.cond (.t 17)
  (.seq (.region [oa 6 (.mov (.c (.slice none 0 (some 0)))), oa 7 (.mov (ai 6))] (kp 126 [6,7]))
  (sr 126 [6,7]))
  (sk 126 [0,1,2])))
  (.seq (.seq (.region [oa 18 (.mov (.t 0)), oa 19 (.mov (.t 1)), oa 20 (.call 106 [(.t 18), (.t 19)]), oa 21 (.un .not (.t 20)), oa 22 (.mov (.t 21)), oc 23 (.mov (.t 0)) 22 ff, oc 24 (.nilCheck (.t 23)) 22 ff, oc 25 (.fieldAddr 1 (.t 24)) 22 ff, oc 26 (.load none (.t 25)) 22 ff, oc 27 (.mov (.t 1)) 22 ff, oc 28 (.indexAddr 5 (.t 26) (.t 27)) 22 ff, oc 29 (.fieldAddr 0 (.t 28)) 22 ff, oc 30 (.load none (.t 29)) 22 ff, oc 31 (.bin .gtr (.t 30) (ai 0)) 22 ff, oa 32 (.pick (.t 22) (.c (.bool true)) (.t 31))] (kp 126 [0,1,2,32]))
  (.cond (.t 32)
  (.seq (.region [oa 6 (.mov (.c (.slice none 0 (some 0)))), oa 7 (.mov (ai 2))] (kp 126 [6,7]))
  (sr 126 [6,7]))
  (sk 126 [0,1,2])))
  (.seq (.region [oa 8 (.mov (.c (.slice none 0 (some 0))))] (kp 126 [0,1,2,8]))
  (.seq (.region [oa 9 (.mov (ai 0))] (kp 126 [0,1,2,8,9]))
  (.seq (.seq (.region [oa 10 (.mov (ai 0))] (kp 126 [0,1,2,8,9,10]))
  (.block 0
  (.seq (sk 126 [0,1,2,8,9,10])
  (.loop l97_0))))
  (.seq (.region [oa 72 (.mov (.t 0)), oa 73 (.mov (.t 1)), oa 74 (.call 88 [(.t 72), (.t 73)])] (kp 126 [0,1,8]))
  (.seq (.region [oa 13 (.mov (.c (.slice none 0 (some 0))))] (kp 126 [0,1,8,13]))
  (.seq (.seq (.region [oa 14 (.mov (ai 0))] (kp 126 [0,1,8,13,14]))
  (.block 2
  (.seq (sk 126 [0,1,8,13,14])
  (.loop l97_1))))
  (.seq (.region [oa 125 (.mov (.t 13)), oa 6 (.mov (.t 125)), oa 7 (.mov (ai 0))] (kp 126 [6,7]))
  (sr 126 [6,7])))))))))))⟩
theorem F97 : shutF Try.prog 97 = some c97 := by kernel_rfl


section
variable {o : Nat → Option O} {s : St} {C F : Ch} {Q : V → St → Prop}
set_option maxRecDepth 10000

/-- When a word is written and is not: the error. -/
def RSetErr (C : Ch) (hv : V) (N L i VL err : Int) : Prop := (RGone C hv ∧ err = 6) ∨
  ∃ hr : RHeap, ∃ p, hv = ptrN hr.id ∧ RIn C p hr ∧ hr.regs ≠ [] ∧ hr.regs.length ≤ 100000 ∧ (∀ g ∈ hr.regs, g.objs.length ≤ 100000) ∧ ((err = 2 ∧ ¬ (1 ≤ L ∧ 0 ≤ VL ∧ VL ≤ 100000)) ∨ (1 ≤ L ∧ 0 ≤ VL ∧ VL ≤ 100000 ∧ ((err = 80 ∧ rfind N L hr.regs 0 = none) ∨
    (err = 2 ∧ ∃ a b g x, rfind N L hr.regs 0 = some (a, b) ∧ hr.regs[a]? = some g ∧ g.objs[b]? = some x ∧ ¬ (0 ≤ i ∧ i < x.b.ws.length)))))

theorem s66_err (hC : Holds o s C) {hv : V} {N L i VN VL err : Int} (e : RSetErr C hv N L i VL err) (q : ∀ s', Holds o s' C → Q (I err) s') : WP (call PF 66 [hv, .agg [I N, I L], I i, .agg [I VN, I VL]] s) Q := by
  have h1 := (hC.alloc (.cells [I N, I L] none)).alloc (.cells [I VN, I VL] none)
  have hs : ∀ x ∈ C, x ∈ (s.next + 1, some (.cells [I VN, I VL] none)) :: (s.next, some (.cells [I N, I L] none)) :: C := fun x hx => List.mem_cons_of_mem _ (List.mem_cons_of_mem _ hx)
  rcases e with ⟨g, rfl⟩ | ⟨hr, p, rfl, hin, h0, hlen, hl, ⟨rfl, hb⟩ | ⟨k1, k2, k3, h⟩⟩
  · have e := s87_gone h1 (g.mono hs)
    rw [call_run F66]; simp -implicitDefEqProofs only [↓GP, GB, GL, Nat.reduceAdd, Nat.reduceSub, Nat.reduceEqDiff, Nat.reduceMul, Nat.reduceLeDiff, Int.reduceBNe, Int.reduceBEq, Nat.reduceLT, reduceCtorEq, c66, e]; exact q _ h1.tl.tl
  · have e := s87 h1 (hin.mono hs) h0
    by_cases k1 : L < 1
    · rw [call_run F66]; simp -implicitDefEqProofs only [↓GP, GB, GL, Nat.reduceAdd, Nat.reduceSub, Nat.reduceEqDiff, Nat.reduceMul, Nat.reduceLeDiff, Int.reduceBNe, Int.reduceBEq, Nat.reduceLT, reduceCtorEq, c66, e, k1]; exact q _ h1.tl.tl
    · by_cases k2 : VL < 0
      · rw [call_run F66]; simp -implicitDefEqProofs only [↓GP, GB, GL, Nat.reduceAdd, Nat.reduceSub, Nat.reduceEqDiff, Nat.reduceMul, Nat.reduceLeDiff, Int.reduceBNe, Int.reduceBEq, Nat.reduceLT, reduceCtorEq, c66, e, k1, k2]; exact q _ h1.tl.tl
      · have k3 : (VL > 100000) := by omega
        rw [call_run F66]; simp -implicitDefEqProofs only [↓GP, GB, GL, Nat.reduceAdd, Nat.reduceSub, Nat.reduceEqDiff, Nat.reduceMul, Nat.reduceLeDiff, Int.reduceBNe, Int.reduceBEq, Nat.reduceLT, reduceCtorEq, c66, e, k1, k2, k3]; exact q _ h1.tl.tl
  · have e := s87 h1 (hin.mono hs) h0
    have j1 : ¬ L < 1 := by omega
    have j2 : ¬ VL < 0 := by omega
    have j3 : ¬ (VL > 100000) := by omega
    rw [call_run F66]; simp -implicitDefEqProofs only [↓GP, GB, GL, Nat.reduceAdd, Nat.reduceSub, Nat.reduceEqDiff, Nat.reduceMul, Nat.reduceLeDiff, Int.reduceBNe, Int.reduceBEq, Nat.reduceLT, reduceCtorEq, c66, e, j1, j2, j3]
    refine wp_in (s103 h1 (hin.mono hs) hlen hl fun s1 h2 => ?_)
    rcases h with ⟨rfl, hf⟩ | ⟨rfl, a, b, g, x, hf, hg, hx, hi⟩
    · rw [hf]
      simp -implicitDefEqProofs only [↓GP, GB, GL, Nat.reduceAdd, Nat.reduceSub, Nat.reduceEqDiff, Nat.reduceMul, Nat.reduceLeDiff, Int.reduceBNe, Int.reduceBEq, Nat.reduceLT, reduceCtorEq, Int.reduceNeg, Int.reduceLT]; exact q _ h2.tl.tl
    · rw [hf]
      have f := h2.mem (hs _ hin.id)
      have fr := h2.mem (hs _ hin.row)
      simp only [RHeap.hd] at f
      have mo := hin.ob (List.mem_of_getElem? hg)
      have hb := (List.getElem?_eq_some_iff.1 hx).1
      unfold RReg.obO at mo
      rw [rowO_pos (by omega)] at mo
      have fo := h2.mem (hs _ mo)
      have ha : ¬ ((a : Int) < 0) := by omega
      by_cases hi0 : i < 0
      · simp -implicitDefEqProofs only [↓GP, GB, GL, Nat.reduceAdd, Nat.reduceSub, Nat.reduceEqDiff, Nat.reduceMul, Nat.reduceLeDiff, Int.reduceBNe, Int.reduceBEq, Nat.reduceLT, reduceCtorEq, hi0, ha]; exact q _ h2.tl.tl
      · have hi1 : (i ≥ (x.b.ws.length : Int)) := by omega
        simp -implicitDefEqProofs only [↓GP, GB, GL, Nat.reduceAdd, Nat.reduceSub, Nat.reduceEqDiff, Nat.reduceMul, Nat.reduceLeDiff, Int.reduceBNe, Int.reduceBEq, Nat.reduceLT, reduceCtorEq, f, fr, fo, rreg hg, robj hx, ix_row hb, hi0, hi1, ha]; exact q _ h2.tl.tl

theorem s66 (hC : Holds o s C) {hr : RHeap} {p i : Nat} {N L : Int} {w : Int × Int} (hin : RIn C p hr) (h0 : hr.regs ≠ []) (hlen : hr.regs.length ≤ 100000) (hl : ∀ g ∈ hr.regs, g.objs.length ≤ 100000) (hL : 1 ≤ L) (hv : 0 ≤ w.2 ∧ w.2 ≤ 100000)
    {a b : Nat} {g : RReg} {x : RObj} (hf : rfind N L hr.regs 0 = some (a, b)) (hg : hr.regs[a]? = some g) (hx : g.objs[b]? = some x) (hi : i < x.b.ws.length)
    (hp' : ∀ s1, Holds o s1 C → Holds o s1 ((x.wid, some (.cells (x.b.ws.flatMap encW) none)) :: F))
    (q : ∀ s', Holds o s' ((x.wid, some (.cells ((x.b.ws.set i w).flatMap encW) none)) :: F) → Q (I 0) s') : WP (call PF 66 [ptrN hr.id, .agg [I N, I L], I i, .agg (encW w)] s) Q := by
  have h1 := (hC.alloc (.cells [I N, I L] none)).alloc (.cells (encW w) none)
  have hs : ∀ x ∈ C, x ∈ (s.next + 1, some (.cells (encW w) none)) :: (s.next, some (.cells [I N, I L] none)) :: C := fun x hx => List.mem_cons_of_mem _ (List.mem_cons_of_mem _ hx)
  have e := s87 h1 (hin.mono hs) h0
  simp only [encW] at e
  have j1 : ¬ L < 1 := by omega
  have j2 : ¬ w.2 < 0 := by omega
  have j3 : ¬ (w.2 > 100000) := by omega
  rw [call_run F66]; simp -implicitDefEqProofs only [↓GP, GB, GL, Nat.reduceAdd, Nat.reduceSub, Nat.reduceEqDiff, Nat.reduceMul, Nat.reduceLeDiff, Int.reduceBNe, Int.reduceBEq, Nat.reduceLT, reduceCtorEq, c66, encW, e, j1, j2, j3]
  refine wp_in (s103 h1 (hin.mono hs) hlen hl fun s1 h2 => ?_)
  rw [hf]
  have f0 := h2.f1
  have f := h2.mem (hs _ hin.id)
  have fr := h2.mem (hs _ hin.row)
  simp only [alloc_next, encW] at f0
  simp only [RHeap.hd] at f
  have mg := List.mem_of_getElem? hg
  have mo := hin.ob mg
  have hb := (List.getElem?_eq_some_iff.1 hx).1
  unfold RReg.obO at mo
  rw [rowO_pos (by omega)] at mo
  have fo := h2.mem (hs _ mo)
  have h3 := hp' _ h2.tl.tl
  have fw := h3.f1
  have ha : ¬ ((a : Int) < 0) := by omega
  have hi0 : ¬ ((i : Int) < 0) := by omega
  have hi1 : ¬ ((i : Int) ≥ (x.b.ws.length : Int)) := by omega
  have hst := fun s => stC_tab encW_len (fun _ => rfl) x.b.ws none hi w x.wid s
  simp only [encW] at hst fw
  simp -implicitDefEqProofs only [↓GP, GB, GL, Nat.reduceAdd, Nat.reduceSub, Nat.reduceEqDiff, Nat.reduceMul, Nat.reduceLeDiff, Int.reduceBNe, Int.reduceBEq, Nat.reduceLT, reduceCtorEq, f0, f, fr, fo, fw, rreg hg, robj hx, ix_row hb, ix_cell hi, hst, hi0, hi1, ha]
  have h4 := h3.set0 (.cells ((x.b.ws.set i w).flatMap encW) none)
  exact q _ h4

/-- The objects that words point to, in order; 'nx': from where on. -/
def rpick (regs : List RReg) (n : Nat) : Nat → List (Int × Int) → Option (List RObj)
  | _, [] => some []
  | nx, w :: l => match rfind w.1 w.2 regs 0 with
    | some (a, b) => if a = n ∧ nx ≤ b then ((regs[n]?.bind fun g => g.objs[b]?).bind fun x => (rpick regs n (b + 1) l).map (x :: ·)) else none
    | none => none

theorem rpick_loop {hr : RHeap} {p n wk : Nat} {ws : List (Int × Int)} {g : RReg}  {K : Kt} (hin : RIn C p hr) (h0 : hr.regs.length ≤ 100000) (hl : ∀ g ∈ hr.regs, g.objs.length ≤ 100000) (hg : hr.regs[n]? = some g) (mw : (wk, rowO 2 ws.length (ws.flatMap encW)) ∈ C) (hwl : ws.length ≤ 100000) :
    ∀ (m i nx k : Nat) (acc : List RObj) (s : St), i + m = ws.length → nx ≤ 100000 → acc.length = i → Holds o s ((k, rowO 3 acc.length (acc.flatMap RObj.enc)) :: C) →
    (∀ s', rpick hr.regs n nx (ws.drop i) = none → Holds o s' C → WP (K .ret (sp 126 [(6, .slice none 0 (some 0)), (7, I 2)]) s') Q) →
    (∀ s' k' xs, rpick hr.regs n nx (ws.drop i) = some xs → Holds o s' ((k', rowO 3 (acc ++ xs).length ((acc ++ xs).flatMap RObj.enc)) :: C) → WP (K (.exit 0) (sp 126 [(0, ptrN hr.id), (1, I n), (8, rowV k' (acc ++ xs).length)]) s') Q) →
    WP (loop PF (.loop l97_0) (sp 126 [(0, ptrN hr.id), (1, I n), (2, rowV wk ws.length), (8, rowV k acc.length), (9, I nx), (10, I i)]) s K) Q
  | 0, i, nx, k, acc, s, hi, hnx, hacc, H, qn, qs => by
    have hlt : ¬ ((i : Int) < (ws.length : Int)) := by omega
    refine wp_round fun LL hLL => ?_
    simp -implicitDefEqProofs only [↓GP, GB, GL, Nat.reduceAdd, Nat.reduceSub, Nat.reduceEqDiff, Nat.reduceMul, Nat.reduceLeDiff, Int.reduceBNe, Int.reduceBEq, Nat.reduceLT, reduceCtorEq, l97_0, hlt]
    have := qs s k [] (by rw [List.drop_eq_nil_of_le (show ws.length ≤ i by omega)]; rfl) (by simpa using H)
    rw [List.append_nil] at this
    exact this
  | m + 1, i, nx, k, acc, s, hi, hnx, hacc, H, qn, qs => by
    have hlt : ((i : Int) < (ws.length : Int)) := by omega
    have hi' : i < ws.length := by omega
    have mw' := mw
    rw [rowO_pos (by omega)] at mw'
    have fw := H.mem (List.mem_cons_of_mem _ mw')
    have hld := ldN_tab encW_len ws (some 2) (show ws[i]? = some ws[i] by simp [hi'])
    have hd : ws.drop i = ws[i] :: ws.drop (i + 1) := List.drop_eq_getElem_cons hi'
    rw [hd] at qn qs
    simp only [rpick] at qn qs
    refine wp_round fun LL hLL => ?_
    simp -implicitDefEqProofs only [↓GP, GB, GL, Nat.reduceAdd, Nat.reduceSub, Nat.reduceEqDiff, Nat.reduceMul, Nat.reduceLeDiff, Int.reduceBNe, Int.reduceBEq, Nat.reduceLT, reduceCtorEq, l97_0, hlt, ix_row hi', fw, hld, encW]
    refine wp_in (s103 H (hin.cons _) h0 hl fun s1 h1 => ?_)
    cases hf : rfind ws[i].1 ws[i].2 hr.regs 0 with
    | none =>
      rw [hf] at qn
      have hb : (((-1 : Int)) != (n : Int)) = true := by rw [bne_iff_ne]; omega
      simp -implicitDefEqProofs only [↓GP, GB, GL, Nat.reduceAdd, Nat.reduceSub, Nat.reduceEqDiff, Nat.reduceMul, Nat.reduceLeDiff, Int.reduceBNe, Int.reduceBEq, Nat.reduceLT, reduceCtorEq, hb, Int.reduceNeg]
      exact qn _ rfl h1.tl
    | some ab =>
      obtain ⟨a, b⟩ := ab
      rw [hf] at qn qs
      simp only at qn qs ⊢
      by_cases han : a = n
      · have hb : (((a : Nat) : Int) != (n : Int)) = false := by rw [han]; simp
        by_cases hbn : nx ≤ b
        · have hb2 : ¬ ((b : Int) < (nx : Int)) := by omega
          rw [if_pos ⟨han, hbn⟩] at qn qs
          obtain ⟨g', x, _, hg', hx, _⟩ := rfind_some hf
          rw [Nat.sub_zero, han, hg] at hg'
          cases hg'
          rw [hg] at qn qs
          simp only [Option.bind_some, hx] at qn qs
          have f := h1.mem (hin.cons _).id
          have fr := h1.mem (hin.cons _).row
          simp only [RHeap.hd] at f
          have mg := List.mem_of_getElem? hg
          have mo := hin.ob mg
          have hbl := (List.getElem?_eq_some_iff.1 hx).1
          unfold RReg.obO at mo
          rw [rowO_pos (by omega)] at mo
          have fo := h1.mem (List.mem_cons_of_mem _ mo)
          have hol := hl g mg
          simp -implicitDefEqProofs only [↓GP, GB, GL, Nat.reduceAdd, Nat.reduceSub, Nat.reduceEqDiff, Nat.reduceMul, Nat.reduceLeDiff, Int.reduceBNe, Int.reduceBEq, Nat.reduceLT, reduceCtorEq, hb, hb2, f, fr, fo, rreg hg, robj hx, ix_row hbl, RObj.enc]
          refine wp_append (cs := acc.flatMap RObj.enc) ((h1.alloc _).r1) (by rw [tab_len RObj.enc_len]) (new_cells' (alloc_new_same _ _) rfl) rfl rfl (by omega) (by unfold maxRow; omega) (by unfold maxRow; omega) fun k' s2 h2 => ?_
          have w1 := wrap_add1 (a := i) (by omega)
          have w2 := wrap_add1 (a := b) (by omega)
          simp -implicitDefEqProofs only [↓GP, GB, GL, Nat.reduceAdd, Nat.reduceSub, Nat.reduceEqDiff, Nat.reduceMul, Nat.reduceLeDiff, Int.reduceBNe, Int.reduceBEq, Nat.reduceLT, reduceCtorEq, w1, w2]
          rw [hLL]
          have hl1 : (acc ++ [x]).length = acc.length + 1 := by simp
          have := rpick_loop (K := K) hin h0 hl hg mw hwl m (i + 1) (b + 1) k' (acc ++ [x]) s2 (by omega) (by omega) (by simp; omega) (by simpa [List.flatMap_append, RObj.enc] using h2.r1.tl) (fun s' hn h' => qn s' (by rw [hn]; rfl) h')
            (fun s' k' xs hx h' => by
              have := qs s' k' (x :: xs) (by rw [hx]; rfl) (by simpa using h')
              simpa using this)
          rw [hl1] at this
          exact this
        · have hb2 : ((b : Int) < (nx : Int)) := by omega
          rw [if_neg (fun h => hbn h.2)] at qn
          simp -implicitDefEqProofs only [↓GP, GB, GL, Nat.reduceAdd, Nat.reduceSub, Nat.reduceEqDiff, Nat.reduceMul, Nat.reduceLeDiff, Int.reduceBNe, Int.reduceBEq, Nat.reduceLT, reduceCtorEq, hb, hb2]
          exact qn _ rfl h1.tl
      · have hb : (((a : Nat) : Int) != (n : Int)) = true := by rw [bne_iff_ne]; omega
        rw [if_neg (fun h => han h.1)] at qn
        simp -implicitDefEqProofs only [↓GP, GB, GL, Nat.reduceAdd, Nat.reduceSub, Nat.reduceEqDiff, Nat.reduceMul, Nat.reduceLeDiff, Int.reduceBNe, Int.reduceBEq, Nat.reduceLT, reduceCtorEq, hb]
        exact qn _ rfl h1.tl

def rrelay (xs : List RObj) (ats : List Nat) : List RObj := List.zipWith (fun x a => ⟨x.wid, { x.b with at_ := a }⟩) xs ats
theorem rturn_loop {hr : RHeap} {p r kk : Nat} {A B : List RReg} {xs : List RObj}  {K : Kt} {life : Nat} (hxl : xs.length ≤ 10000) (mk : (kk, rowO 3 xs.length (xs.flatMap RObj.enc)) ∈ C) (hw : ∀ x ∈ xs, x.b.ws.length ≤ 31) :
    ∀ (m j ok : Nat) (s : St) (u : List Bool) (g : RReg) (ats : List Nat) (u' : List Bool) (fill' : Nat) (pages' : List Nat) (out : List RObj), g.life = life → g.size = 0 → out.length = j → j + m = xs.length → u.length ≤ 400 → RegB u.length 0 g.life g.fill g.pages → pages'.length ≤ 400 → g.objs.length + m ≤ 10000 →
    layM 0 g.life ((xs.drop j).map fun x => x.b.ws.length + 1) u g.fill g.pages = some (ats, u', fill', pages') →
    Holds o s ((ok, rowO 2 j (out.flatMap (rencP life))) :: (poolC p r u ++ (RHeap.ch p { hr with regs := A ++ g :: B } ++ ((xs.drop j).flatMap RObj.ch ++ C)))) →
    (∀ s' ok pgk obk, Holds o s' ((ok, rowO 2 xs.length ((out ++ rrelay (xs.drop j) ats).flatMap (rencP life))) :: (poolC p r u' ++ (RHeap.ch p { hr with regs := A ++ { g with pgk := pgk, obk := obk, fill := fill', pages := pages', objs := g.objs ++ rrelay (xs.drop j) ats } :: B } ++ C))) →
      WP (K (.exit 2) (sp 126 [(13, rowV ok xs.length)]) s') Q) →
    WP (loop PF (.loop l97_1) (sp 126 [(0, ptrN hr.id), (1, I A.length), (8, rowV kk xs.length), (13, rowV ok j), (14, I j)]) s K) Q
  | 0, j, ok, s, u, g, ats, u', fill', pages', out, hlf, hsz, hout, hj, hu, hb, hpl, hol, hlay, H, q => by
    have hlt : ¬ ((j : Int) < (xs.length : Int)) := by omega
    refine wp_round fun LL hLL => ?_
    simp -implicitDefEqProofs only [↓GP, GB, GL, Nat.reduceAdd, Nat.reduceSub, Nat.reduceEqDiff, Nat.reduceMul, Nat.reduceLeDiff, Int.reduceBNe, Int.reduceBEq, Nat.reduceLT, reduceCtorEq, l97_1, hlt]
    have hd : xs.drop j = [] := List.drop_eq_nil_of_le (by omega)
    rw [hd] at hlay H q
    cases hlay
    have e : j = xs.length := by omega
    subst e
    exact q s ok g.pgk g.obk (by simpa [rrelay] using H)
  | m + 1, j, ok, s, u, g, ats, u', fill', pages', out, hlf, hsz, hout, hj, hu, hb, hpl, hol, hlay, H, q => by
    have hlt : ((j : Int) < (xs.length : Int)) := by omega
    have hj' : j < xs.length := by omega
    have hd : xs.drop j = xs[j] :: xs.drop (j + 1) := List.drop_eq_getElem_cons hj'
    have mk' := mk
    rw [rowO_pos (by omega)] at mk'
    have fk := H.mem (List.mem_cons_of_mem _ (List.mem_append_right _ (List.mem_append_right _ (List.mem_append_right _ mk'))))
    have hx : xs[j]? = some xs[j] := by simp [hj']
    have hw' := hw xs[j] (List.getElem_mem hj')
    rw [hd] at hlay H q
    rw [List.map_cons] at hlay
    simp only [layM, Option.bind_eq_some_iff, Option.map_eq_some_iff] at hlay
    obtain ⟨⟨at_, u1, fill1, pages1⟩, hput, ⟨ats1, r2⟩, hlay, e⟩ := hlay
    cases e
    have hpl1 := (layM_pages hlay).1
    have hu1 := putM_len hput
    simp only at hpl1 hlay
    have w0 : wrapI .i64 (1 + (xs[j].b.ws.length : Int)) = I ((xs[j].b.ws.length + 1 : Nat) : Int) := wrap_nat (by omega) (by omega)
    refine wp_round fun LL hLL => ?_
    simp -implicitDefEqProofs only [↓GP, GB, GL, Nat.reduceAdd, Nat.reduceSub, Nat.reduceEqDiff, Nat.reduceMul, Nat.reduceLeDiff, Int.reduceBNe, Int.reduceBEq, Nat.reduceLT, reduceCtorEq, l97_1, hlt, ix_row hj', fk, robj hx, RObj.enc, w0]
    have h1 := (H.alloc (.cells [I 0, I 0, .slice none 0 (some 0)] none)).set0 (.cells [I xs[j].b.at_, I xs[j].b.kind, slN xs[j].wid xs[j].b.ws.length] none)
    have hb' : RegB u.length g.size g.life g.fill g.pages := by rw [hsz]; exact hb
    refine wp_in (s117 (hr := { hr with regs := A ++ g :: B }) (p := p) (r := r) (u := u) (A := A) (B := B) (g := g) (F := (s.next, some (.cells [I xs[j].b.at_, I xs[j].b.kind, slN xs[j].wid xs[j].b.ws.length] none)) :: (ok, rowO 2 j (out.flatMap (rencP life))) :: ((xs[j].ch ++ (xs.drop (j + 1)).flatMap RObj.ch) ++ C)) (Holds.of (h1) (fun k => by simp +arith only [HA, HB]) (fun k x => by simp only [HA, HC]; grind only)) rfl hu hb' (by omega) hput fun s1 pgk h2 => ?_)
    have h3 : Holds o s1 ((s.next, some (.cells [I xs[j].b.at_, I xs[j].b.kind, slN xs[j].wid xs[j].b.ws.length] none)) :: (hr.id, some (RHeap.hd p { hr with regs := A ++ { g with pgk := pgk, fill := fill1, pages := pages1 } :: B })) :: (hr.rowk, some (RHeap.row { hr with regs := A ++ { g with pgk := pgk, fill := fill1, pages := pages1 } :: B })) :: (g.obk, RReg.obO g.objs) ::
      (ok, rowO 2 j (out.flatMap (rencP life))) :: (xs[j].wid, some (.cells (xs[j].b.ws.flatMap encW) none)) :: (pgk, pagesO pages1) :: (g.objs.flatMap RObj.ch ++ (poolC p r u1 ++ (A.flatMap RReg.ch ++ (B.flatMap RReg.ch ++ ((xs.drop (j + 1)).flatMap RObj.ch ++ C)))))) := (Holds.of (h2) (fun k => by simp +arith only [HA, HB]) (fun k x => by simp only [HA, HC]; grind only))
    have f3 := h3.f3
    have hrr := rreg (h := { hr with regs := A ++ { g with pgk := pgk, fill := fill1, pages := pages1 } :: B }) (i := A.length) (g := { g with pgk := pgk, fill := fill1, pages := pages1 }) (by simp)
    simp only [RHeap.hd] at f3
    simp -implicitDefEqProofs only [↓GP, GB, GL, Nat.reduceAdd, Nat.reduceSub, Nat.reduceEqDiff, Nat.reduceMul, Nat.reduceLeDiff, Int.reduceBNe, Int.reduceBEq, Nat.reduceLT, reduceCtorEq, f3, hrr]
    have h4 := h3.set0 (.cells [I at_, I xs[j].b.kind, slN xs[j].wid xs[j].b.ws.length] none)
    refine wp_append (sz := 3) (cs := g.objs.flatMap RObj.enc) ((h4.alloc _).r4) (by rw [tab_len RObj.enc_len]) (new_cells' (alloc_new_same _ _) rfl) rfl rfl (by omega) (by unfold maxRow; omega) (by unfold maxRow; omega) fun obk s2 h5 => ?_
    have h6 := h5.r1.tl
    have f6 := h6.tl.f3
    have hset := rset1 (h := { hr with regs := A ++ { g with pgk := pgk, fill := fill1, pages := pages1 } :: B }) (A := A) (B := B) (g := { g with pgk := pgk, fill := fill1, pages := pages1 }) rfl (f := 4) (v := rowV obk (g.objs.length + 1)) (by omega) (rowV_one _ _)
      (g' := { g with pgk := pgk, fill := fill1, pages := pages1, obk := obk, objs := g.objs ++ [⟨xs[j].wid, { xs[j].b with at_ := at_ }⟩] }) (by simp [RReg.enc])
    have hrr2 := rreg (h := { hr with regs := A ++ { g with pgk := pgk, fill := fill1, pages := pages1, obk := obk, objs := g.objs ++ [⟨xs[j].wid, { xs[j].b with at_ := at_ }⟩] } :: B }) (i := A.length) (g := { g with pgk := pgk, fill := fill1, pages := pages1, obk := obk, objs := g.objs ++ [⟨xs[j].wid, { xs[j].b with at_ := at_ }⟩] }) (by simp)
    have hrvx : RHeap.rv { hr with regs := A ++ { g with pgk := pgk, fill := fill1, pages := pages1, obk := obk, objs := g.objs ++ [⟨xs[j].wid, { xs[j].b with at_ := at_ }⟩] } :: B } = RHeap.rv { hr with regs := A ++ { g with pgk := pgk, fill := fill1, pages := pages1 } :: B } := by simp [RHeap.rv]
    rw [hrvx] at hrr2
    simp only [RHeap.hd] at f6
    have hag := RHeap.againV { hr with regs := A ++ { g with pgk := pgk, fill := fill1, pages := pages1 } :: B }
    simp -implicitDefEqProofs only [↓GP, GB, GL, Nat.reduceAdd, Nat.reduceSub, Nat.reduceEqDiff, Nat.reduceMul, Nat.reduceLeDiff, Int.reduceBNe, Int.reduceBEq, Nat.reduceLT, reduceCtorEq, f6, hag, hrr, hset, hrr2]
    have h7 := (h6.set3 (RHeap.row { hr with regs := A ++ { g with pgk := pgk, fill := fill1, pages := pages1, obk := obk, objs := g.objs ++ [⟨xs[j].wid, { xs[j].b with at_ := at_ }⟩] } :: B })).alloc (.cells [I at_, I g.life] none)
    refine wp_append (k := ok) (n := j) (sz := 2) (cs := out.flatMap (rencP life)) (F := (s2.next, some (.cells [I at_, I g.life] none)) :: (obk, rowO 3 (g.objs.length + 1) (g.objs.flatMap RObj.enc ++ [I at_, I xs[j].b.kind, slN xs[j].wid xs[j].b.ws.length])) ::
      (hr.id, some (RHeap.hd p { hr with regs := A ++ { g with pgk := pgk, fill := fill1, pages := pages1 } :: B })) :: (hr.rowk, some (RHeap.row { hr with regs := A ++ { g with pgk := pgk, fill := fill1, pages := pages1, obk := obk, objs := g.objs ++ [⟨xs[j].wid, { xs[j].b with at_ := at_ }⟩] } :: B })) ::
      (xs[j].wid, some (.cells (xs[j].b.ws.flatMap encW) none)) :: (pgk, pagesO pages1) :: (g.objs.flatMap RObj.ch ++ (poolC p r u1 ++ (A.flatMap RReg.ch ++ (B.flatMap RReg.ch ++ ((xs.drop (j + 1)).flatMap RObj.ch ++ C)))))) (Holds.of (h7) (fun k => by simp +arith only [set_next, HA, HB]) (fun k x => by simp only [set_next, HA, HC]; grind only))
      (by rw [tab_len (sz := 2) (fun _ => rfl)]; omega) (new_cells' (alloc_new_same _ _) rfl) rfl rfl (by omega) (by unfold maxRow; omega) (by unfold maxRow; omega) fun ok' s3 h8 => ?_
    have w1 := wrap_add1 (a := j) (by omega)
    simp -implicitDefEqProofs only [↓GP, GB, GL, Nat.reduceAdd, Nat.reduceSub, Nat.reduceEqDiff, Nat.reduceMul, Nat.reduceLeDiff, Int.reduceBNe, Int.reduceBEq, Nat.reduceLT, reduceCtorEq, w1]
    rw [hLL]
    refine rturn_loop (p := p) (r := r) (B := B) hxl mk hw m (j + 1) ok' s3 u1 { g with pgk := pgk, fill := fill1, pages := pages1, obk := obk, objs := g.objs ++ [⟨xs[j].wid, { xs[j].b with at_ := at_ }⟩] } ats1 u' fill' pages' (out ++ [⟨xs[j].wid, { xs[j].b with at_ := at_ }⟩]) hlf hsz (by simp; omega) (by omega) (by omega)
      (putM_b hput hb (by omega) (show pages1.length ≤ 400 by omega)) hpl (by simp; omega) hlay ?_ fun s4 ok2 pgk2 obk2 h9 => ?_
    · have hex : (out ++ [(⟨xs[j].wid, { xs[j].b with at_ := at_ }⟩ : RObj)]).flatMap (rencP life) = out.flatMap (rencP life) ++ [I at_, I g.life] := by rw [List.flatMap_append, hlf]; rfl
      rw [hex]
      exact (Holds.of (h8) (fun k => by simp +arith only [RHeap.hd, RHeap.rv, RReg.obO, RObj.enc, List.length_append, List.length_cons, List.length_nil, Nat.zero_add, HA, HB]) (fun k x => by simp only [RHeap.hd, RHeap.rv, RReg.obO, RObj.enc, List.length_append, List.length_cons, List.length_nil, Nat.zero_add, HA, HC]; grind only))
    · have er : ∀ l : List RObj, l ++ rrelay (xs[j] :: xs.drop (j + 1)) (at_ :: ats1) = (l ++ [⟨xs[j].wid, { xs[j].b with at_ := at_ }⟩]) ++ rrelay (xs.drop (j + 1)) ats1 := by
        intro l; simp only [rrelay, List.zipWith_cons_cons, List.append_assoc, List.cons_append, List.nil_append]
      refine q s4 ok2 pgk2 obk2 ?_
      rw [er, er]
      exact h9

theorem rpick_sublist {regs : List RReg} {n : Nat} {g : RReg} (hg : regs[n]? = some g) : ∀ {ws : List (Int × Int)} {nx : Nat} {xs : List RObj}, rpick regs n nx ws = some xs → xs.Sublist (g.objs.drop nx) ∧ xs.length = ws.length
  | [], nx, xs, h => by cases h; exact ⟨List.nil_sublist _, rfl⟩
  | w :: ws, nx, xs, h => by
    simp only [rpick] at h
    split at h
    · rename_i a b hf
      split at h
      · rename_i hab
        rw [hg] at h
        simp only [Option.bind_some, Option.bind_eq_some_iff, Option.map_eq_some_iff] at h
        obtain ⟨x, hx, ys, h1, rfl⟩ := h
        obtain ⟨k1, k2⟩ := rpick_sublist hg h1
        have hb := (List.getElem?_eq_some_iff.1 hx).1
        refine ⟨?_, by simp [k2]⟩
        have e : g.objs.drop b = x :: g.objs.drop (b + 1) := by rw [List.drop_eq_getElem_cons hb, (List.getElem?_eq_some_iff.1 hx).2]
        have : (g.objs.drop b).Sublist (g.objs.drop nx) := by
          rw [show b = nx + (b - nx) by omega, ← List.drop_drop]; exact List.drop_sublist _ _
        exact (List.Sublist.cons_cons x k1).trans (e ▸ this)
      · cases h
    · cases h

theorem s97_err (hC : Holds o s C) {hv wv : V} {n err : Int} (e : RAtErr C hv n err) : call PF 97 [hv, I n, wv] s = some (.tuple [.slice none 0 (some 0), I err], s) := by
  rcases e with ⟨g, rfl⟩ | ⟨rfl, hr, p, rfl, hin, h0, hb⟩
  · have e := s87_gone hC g
    rw [call_run F97]; simp -implicitDefEqProofs only [↓GP, GB, GL, Nat.reduceAdd, Nat.reduceSub, Nat.reduceEqDiff, Nat.reduceMul, Nat.reduceLeDiff, Int.reduceBNe, Int.reduceBEq, Nat.reduceLT, reduceCtorEq, c97, e]
  · have e := s87 hC hin h0
    have e2 := s106 hC hin n
    rw [is_false hb] at e2
    rw [call_run F97]; simp -implicitDefEqProofs only [↓GP, GB, GL, Nat.reduceAdd, Nat.reduceSub, Nat.reduceEqDiff, Nat.reduceMul, Nat.reduceLeDiff, Int.reduceBNe, Int.reduceBEq, Nat.reduceLT, reduceCtorEq, c97, e, e2]
theorem s97_bad (hC : Holds o s C) {hr : RHeap} {p i wk : Nat} {ws : List (Int × Int)} (hin : RIn C p hr) (hlen : hr.regs.length ≤ 100000) (hl : ∀ g ∈ hr.regs, g.objs.length ≤ 100000) {g : RReg} (hg : hr.regs[i]? = some g) (hwl : ws.length ≤ 100000) (mw : (wk, rowO 2 ws.length (ws.flatMap encW)) ∈ C)
    (hb : 0 < g.size ∨ rpick hr.regs i 0 ws = none) (q : ∀ s', Holds o s' C → Q (.tuple [.slice none 0 (some 0), I 2]) s') : WP (call PF 97 [ptrN hr.id, I i, rowV wk ws.length] s) Q := by
  have hi := (List.getElem?_eq_some_iff.1 hg).1
  have e := s87 hC hin (List.length_pos_iff.1 (by omega))
  have e2 := s106 hC hin i
  rw [is_true hi] at e2
  have f := hC.mem hin.id
  have fr := hC.mem hin.row
  simp only [RHeap.hd] at f
  by_cases hs : ((g.size : Int) > 0)
  · rw [call_run F97]; simp -implicitDefEqProofs only [↓GP, GB, GL, Nat.reduceAdd, Nat.reduceSub, Nat.reduceEqDiff, Nat.reduceMul, Nat.reduceLeDiff, Int.reduceBNe, Int.reduceBEq, Nat.reduceLT, reduceCtorEq, c97, e, e2, f, fr, rreg hg, hs]
    exact q _ hC
  · have hn : rpick hr.regs i 0 ws = none := by
      rcases hb with h | h
      · omega
      · exact h
    rw [call_run F97]; simp -implicitDefEqProofs only [↓GP, GB, GL, Nat.reduceAdd, Nat.reduceSub, Nat.reduceEqDiff, Nat.reduceMul, Nat.reduceLeDiff, Int.reduceBNe, Int.reduceBEq, Nat.reduceLT, reduceCtorEq, c97, e, e2, f, fr, rreg hg, hs]
    refine rpick_loop hin hlen hl hg mw hwl ws.length 0 0 0 [] s (by omega) (by omega) rfl (hC.nilEntry 0) (fun s1 _ h1 => ?_) fun s1 k xs hx h1 => by rw [List.drop_zero, hn] at hx; cases hx
    simp -implicitDefEqProofs only [↓GP, GB, GL, Nat.reduceAdd, Nat.reduceSub, Nat.reduceEqDiff, Nat.reduceMul, Nat.reduceLeDiff, Int.reduceBNe, Int.reduceBEq, Nat.reduceLT, reduceCtorEq]
    exact q _ h1

theorem s97 {hr : RHeap} {p r wk : Nat} {u : List Bool} {A B : List RReg} {g : RReg} {ws : List (Int × Int)} {xs : List RObj} {ats : List Nat} {u' : List Bool} {fill' : Nat} {pages' : List Nat} (H : Holds o s (poolC p r u ++ (hr.ch p ++ F))) (hre : hr.regs = A ++ g :: B)
    (hlen : hr.regs.length ≤ 100000) (hl : ∀ g ∈ hr.regs, g.objs.length ≤ 5000) (hu : u.length ≤ 400) (hok : RegOk u.length g.m) (hwl : ws.length ≤ 5000) (mw : (wk, rowO 2 ws.length (ws.flatMap encW)) ∈ F) (hs0 : g.size = 0) (hpick : rpick hr.regs A.length 0 ws = some xs)
    (hlay : layM 0 g.life (xs.map fun x => x.b.ws.length + 1) (freeP u g.pages) 0 [] = some (ats, u', fill', pages')) (hpl : pages'.length ≤ 400)
    (q : ∀ s' pgk obk kk, Holds o s' ((kk, rowO 2 ws.length ((rrelay xs ats).flatMap (rencP g.life))) :: (poolC p r u' ++ (RHeap.ch p { hr with regs := A ++ { g with pgk := pgk, obk := obk, fill := fill', pages := pages', objs := rrelay xs ats } :: B } ++ F))) →
      Q (.tuple [rowV kk ws.length, I 0]) s') : WP (call PF 97 [ptrN hr.id, I A.length, rowV wk ws.length] s) Q := by
  have hin : RIn (poolC p r u ++ (hr.ch p ++ F)) p hr := ⟨fun x hx => List.mem_append_right _ (List.mem_append_left _ hx)⟩
  have hg : hr.regs[A.length]? = some g := by rw [hre]; simp
  have hi := (List.getElem?_eq_some_iff.1 hg).1
  have mg := List.mem_of_getElem? hg
  have e := s87 H hin (List.length_pos_iff.1 (by omega))
  have e2 := s106 H hin A.length
  rw [is_true hi] at e2
  have f := H.mem hin.id
  have fr := H.mem hin.row
  simp only [RHeap.hd] at f
  have hw31 := hok.ws
  simp only [RReg.m] at hw31
  obtain ⟨hsub, hxl⟩ := rpick_sublist hg hpick
  rw [List.drop_zero] at hsub
  have hs : ¬ ((g.size : Int) > 0) := by omega
  rw [call_run F97]; simp -implicitDefEqProofs only [↓GP, GB, GL, Nat.reduceAdd, Nat.reduceSub, Nat.reduceEqDiff, Nat.reduceMul, Nat.reduceLeDiff, Int.reduceBNe, Int.reduceBEq, Nat.reduceLT, reduceCtorEq, c97, e, e2, f, fr, rreg hg, hs]
  refine rpick_loop hin hlen (fun g hg => Nat.le_trans (hl g hg) (by omega)) hg (List.mem_append_right _ (List.mem_append_right _ mw)) (by omega) ws.length 0 0 0 [] s (by omega) (by omega) rfl (H.nilEntry 0) (fun s1 hn _ => by rw [List.drop_zero, hpick] at hn; cases hn) fun s1 k xs' hx h1 => ?_
  rw [List.drop_zero, hpick] at hx
  cases hx
  simp only [List.nil_append] at h1
  simp -implicitDefEqProofs only [↓GP, GB, GL, Nat.reduceAdd, Nat.reduceSub, Nat.reduceEqDiff, Nat.reduceMul, Nat.reduceLeDiff, Int.reduceBNe, Int.reduceBEq, Nat.reduceLT, reduceCtorEq]
  refine wp_in (s88 (hr := hr) (p := p) (r := r) (u := u) (A := A) (B := B) (g := g) (F := (k, rowO 3 xs.length (xs.flatMap RObj.enc)) :: F) (Holds.of (h1) (fun k => by simp +arith only [HA, HB]) (fun k x => by simp only [HA, HC]; grind only)) hre hu hok.pages hok.npages fun s2 h2 => ?_)
  have h3 : Holds o s2 (xs.flatMap RObj.ch ++ (poolC p r (freeP u g.pages) ++ (RHeap.ch p { hr with regs := A ++ { g with fill := 0, pages := [], objs := [] } :: B } ++ ((k, rowO 3 xs.length (xs.flatMap RObj.enc)) :: F)))) :=
    Holds.subl (X := g.objs.flatMap RObj.ch) (Holds.of (h2) (fun k => by simp +arith only [HA, HB]) (fun k x => by simp only [HA, HC]; grind only)) (flatMap_sublist _ hsub)
  have hfl : (freeP u g.pages).length = u.length := freeP_len _ _
  have hgl := hl g mg
  have hxs := hsub.length_le
  simp -implicitDefEqProofs only [↓GP, GB, GL, Nat.reduceAdd, Nat.reduceSub, Nat.reduceEqDiff, Nat.reduceMul, Nat.reduceLeDiff, Int.reduceBNe, Int.reduceBEq, Nat.reduceLT, reduceCtorEq]
  refine rturn_loop (hr := hr) (p := p) (r := r) (A := A) (B := B) (life := g.life) (C := (k, rowO 3 xs.length (xs.flatMap RObj.enc)) :: F) (by omega) (List.mem_cons_self ..) (fun x hx => hw31 x.b (List.mem_map.2 ⟨x, hsub.subset hx, rfl⟩)) xs.length 0 0 s2 (freeP u g.pages) { g with fill := 0, pages := [], objs := [] } ats u' fill' pages' [] rfl hs0 rfl (by omega) (by omega)
    ⟨by omega, hok.life, (show 0 ≤ 32 by omega), by simp, by simp⟩ hpl (by simp; omega) (by rw [List.drop_zero]; exact hlay) (by rw [List.drop_zero]; exact (Holds.of (h3.nilEntry 0) (fun k => by simp +arith only [rowO_zero, HA, HB]) (fun k x => by simp only [rowO_zero, HA, HC]; grind only))) fun s3 kk pgk obk h4 => ?_
  rw [List.drop_zero] at h4
  simp only [List.nil_append] at h4
  simp -implicitDefEqProofs only [↓GP, GB, GL, Nat.reduceAdd, Nat.reduceSub, Nat.reduceEqDiff, Nat.reduceMul, Nat.reduceLeDiff, Int.reduceBNe, Int.reduceBEq, Nat.reduceLT, reduceCtorEq]
  rw [hxl] at h4 ⊢
  exact q s3 pgk obk kk (Holds.of (h4) (fun k => by simp +arith only [HA, HB]) (fun k x => by simp only [HA, HC]; grind only))
end
end Go.Proofs.Ytoldkemimhebaaa
