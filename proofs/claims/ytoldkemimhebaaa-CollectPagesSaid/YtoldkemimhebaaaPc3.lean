/- Layer 16: what is reached from roots, the program's side. -/
import Derived.Test.YtoldkemimhebaaaPc2
import Derived.Test.YtoldkemimhebaaaPg0
set_option linter.unusedSimpArgs false
set_option linter.unusedVariables false
namespace Go.IM
section
variable {M : LT × CallT} {ps : List Nat} {a b : IC} {e : Env} {k : Nat} {t : St} {Q : V → St → Prop}
theorem wp_roundI {args : List V} (h : t.new k = some (.loop .ready)) (hl : args.length = ps.length) (q : WP (go M.1 M.2 a (putAll e ps args) t (roundMid M b k)) Q) : WP (roundI M ps a b e k args t) Q := by
  unfold roundI; rw [if_pos hl, h]; exact q
theorem wp_roundMid (h : t.new k = some (.loop .ready)) (q : WP (go M.1 M.2 b e (t.set k (.loop .busy)) (roundEnd k)) Q) : WP (roundMid M b k .normal e t) Q := by
  simp only [roundMid, h]; exact q
theorem wp_roundEnd {x : Xt} (h : t.new k = some (.loop .busy)) (q : Q (.bool x.off) (t.set k (.loop (endSt x)))) : WP (roundEnd k x e t) Q := by
  unfold roundEnd; rw [h]; exact ⟨_, _, rfl, q⟩
theorem wp_rangeEnd {K : Kt} {v : V} (h : t.new k = some (.loop .ready)) (q : WP (K .normal e (t.kill k)) Q) : WP (rangeEnd k e K (v, t)) Q := by
  unfold rangeEnd; rw [h]; exact q
theorem putAll_one (p : Nat) (v : V) : putAll e [p] [v] = e.set p v := rfl
end
end Go.IM
namespace Go.Proofs.Ytoldkemimhebaaa
open Go Go.IM

-- (*virgate/collect.hunt).there

def c118 : IFn := ⟨25, [(4, none)],
  (.seq (.region [oa 3 (.box (.t 1)), oa 4 (.mov (.c (.bool false)))] (kp 25 [0,3]))
  (.seq (.region [oa 9 (.mov (.t 0)), oa 10 (.nilCheck (.t 9)), oa 11 (.fieldAddr 0 (.t 10)), oa 12 (.load none (.t 11)), oa 13 (.load (some 2) (.t 3)), oa 14 (.call 30 [(.t 12), (.t 13)]), oa 8 (.mov (.t 14)), oa 15 (.extract (.t 8) 0), oa 16 (.extract (.t 8) 1), oa 17 (.extract (.t 8) 2), oa 5 (.mov (.t 15)), oa 6 (.mov (.t 16)), oa 7 (.mov (.t 17))] (kp 25 [3,7]))
  (.seq (.region [oa 18 (.fieldAddr 1 (.t 3)), oa 19 (.load none (.t 18)), oa 20 (.bin .gtr (.t 19) (ai 0)), oa 21 (.mov (.t 20)), oc 22 (.mov (.t 7)) 21 tt, oc 23 (.bin .eql (.t 22) (ai 0)) 21 tt, oa 24 (.pick (.t 21) (.t 23) (.c (.bool false))), oa 4 (.mov (.t 24))] (kp 25 [4]))
  (sr 25 [4]))))⟩
theorem F118 : shutF Try.prog 118 = some c118 := by kernel_rfl

-- (*virgate/collect.hunt).put

def c115 : IFn := ⟨31, [],
  (.seq (.region [oa 3 (.box (.t 1))] (kp 31 [0,3]))
  (.seq (.region [oa 4 (.mov (.t 0)), oa 5 (.nilCheck (.t 4)), oa 6 (.fieldAddr 2 (.t 5)), oa 7 (.load none (.t 6)), oa 8 (.load (some 2) (.t 3)), oa 9 (.lookup (.agg [.i, .i]) (.bool false) false (.t 7) (.t 8)), oa 10 (.un .not (.t 9)), oa 11 (.mov (.t 10)), oc 12 (.mov (.t 0)) 11 tt, oc 13 (.load (some 2) (.t 3)) 11 tt, oc 14 (.call 118 [(.t 12), (.t 13)]) 11 tt, oa 15 (.pick (.t 11) (.t 14) (.c (.bool false)))] (kp 31 [0,3,15]))
  (.cond (.t 15)
  (.seq (.region [oa 16 (.mov (.t 0)), oa 17 (.nilCheck (.t 16)), oa 18 (.fieldAddr 2 (.t 17)), oa 19 (.load none (.t 18)), oa 20 (.load (some 2) (.t 3)), ob (.mapSet (.agg [.i, .i]) (.t 19) (.t 20) (.c (.bool true)))] (kp 31 [0,3]))
  (.region [oa 21 (.mov (.t 0)), oa 22 (.mov (.t 0)), oa 23 (.nilCheck (.t 22)), oa 24 (.fieldAddr 1 (.t 23)), oa 25 (.load none (.t 24)), oa 26 (.load (some 2) (.t 3)), oa 27 (.buildSlice 1 [(.int .i64 (0)), (.int .i64 (0))] [(0, 2, (.t 26))]), oa 28 (.append 2 16 (.t 25) (.t 27)), oa 29 (.nilCheck (.t 21)), oa 30 (.fieldAddr 1 (.t 29)), ob (.store 1 (.t 30) (.t 28))] (kp 31 [])))
  (sk 31 []))))⟩
theorem F115 : shutF Try.prog 115 = some c115 := by kernel_rfl

-- virgate/collect.parts

def c93 : IFn := ⟨6, [(4, none)],
  (.seq (.region [oa 2 (.box (.t 0)), oa 3 (.box (.t 1)), oa 4 (.mov (.c .nilFunc))] (kp 6 [2,3]))
  (.seq (.region [oa 5 (.mkFunc 116 [] [(.t 2), (.t 3)]), oa 4 (.mov (.t 5))] (kp 6 [4]))
  (sr 6 [4])))⟩
theorem F93 : shutF Try.prog 93 = some c93 := by kernel_rfl

-- virgate/collect.parts$1
def l116_0 : IC := (.seq (.seq (.region [oa 19 (.bin .lss (.t 18) (.t 17))] (kp 37 [0,1,2,17,18,19]))
  (.seq (.cond (.t 19)
  (sk 37 [0,1,2,17,18])
  (sx 37 [] 0))
  (.seq (.block 1
  (.seq (.region [oa 20 (.mov (.t 18)), oa 7 (.mov (.t 20))] (kp 37 [0,1,2,7,17,18]))
  (.seq (.region [oa 22 (.load none (.t 1)), oa 23 (.load (some 2) (.t 2)), oa 24 (.mov (.t 7)), oa 25 (.call 67 [(.t 22), (.t 23), (.t 24)]), oa 21 (.mov (.t 25)), oa 26 (.extract (.t 21) 0), oa 27 (.extract (.t 21) 1), oa 8 (.alloc [(.int .i64 (0)), (.int .i64 (0))]), ob (.store 2 (.t 8) (.t 26)), oa 9 (.mov (.t 27))] (kp 37 [0,1,2,8,9,17,18]))
  (.seq (.region [oa 28 (.mov (.t 9)), oa 29 (.bin .neq (.t 28) (ai 0)), oa 30 (.mov (.t 29)), oc 31 (.mov (.t 0)) 30 ff, oc 32 (.load (some 2) (.t 8)) 30 ff, oc 33 (.callv (.t 31) [(.t 32)]) 30 ff, oc 34 (.un .not (.t 33)) 30 ff, oa 35 (.pick (.t 30) (.c (.bool true)) (.t 34))] (kp 37 [0,1,2,17,18,35]))
  (.cond (.t 35)
  (sr 37 [])
  (sk 37 [0,1,2,17,18]))))))
  (.region [oa 36 (.bin .add (.t 18) (ai 1)), oa 18 (.mov (.t 36))] (kp 37 [0,1,2,17,18])))))
  (sk 37 [0,1,2,17,18]))
def c116 : IFn := ⟨37, [],
  (.seq (.region [oa 11 (.load none (.t 1)), oa 12 (.load (some 2) (.t 2)), oa 13 (.call 30 [(.t 11), (.t 12)]), oa 10 (.mov (.t 13)), oa 14 (.extract (.t 10) 0), oa 15 (.extract (.t 10) 1), oa 16 (.extract (.t 10) 2), oa 4 (.mov (.t 14)), oa 5 (.mov (.t 15)), oa 6 (.mov (.t 16))] (kp 37 [0,1,2,5]))
  (.seq (.region [oa 17 (.mov (.t 5)), oa 18 (.mov (ai 0))] (kp 37 [0,1,2,17,18]))
  (.block 0
  (.seq (sk 37 [0,1,2,17,18])
  (.loop l116_0)))))⟩
theorem F116 : shutF Try.prog 116 = some c116 := by kernel_rfl

-- virgate/collect.none

def c89 : IFn := ⟨6, [(2, none)],
  (.seq (.region [oa 2 (.mov (.c (.bool false)))] (kp 6 [0]))
  (.seq (.region [oa 3 (.mov (.t 0)), oa 4 (.call 27 [(.t 3)]), oa 5 (.bin .eql (.t 4) (ai 0)), oa 2 (.mov (.t 5))] (kp 6 [2]))
  (sr 6 [2])))⟩
theorem F89 : shutF Try.prog 89 = some c89 := by kernel_rfl

-- virgate/collect.Reached

def c44 : IFn := ⟨14, [(4, none), (5, none)],
  (.seq (.region [oa 4 (.mov (.c (.slice none 0 (some 0)))), oa 5 (.mov (ai 0))] (kp 14 [0,1]))
  (.seq (.seq (.region [oa 6 (.mov (.t 0)), oa 7 (.call 89 [(.t 6)])] (kp 14 [0,1,7]))
  (.cond (.t 7)
  (.seq (.region [oa 4 (.mov (.c (.slice none 0 (some 0)))), oa 5 (.mov (ai 6))] (kp 14 [4,5]))
  (sr 14 [4,5]))
  (sk 14 [0,1])))
  (.seq (.region [oa 8 (.mov (.t 0)), oa 9 (.mov (.t 1)), oa 10 (.call 90 [(.t 8), (.t 9)]), oa 11 (.nilCheck (.t 10)), oa 12 (.fieldAddr 1 (.t 11)), oa 13 (.load none (.t 12)), oa 4 (.mov (.t 13)), oa 5 (.mov (ai 0))] (kp 14 [4,5]))
  (sr 14 [4,5]))))⟩
theorem F44 : shutF Try.prog 44 = some c44 := by kernel_rfl


section
variable {o : Nat → Option O} {s : St} {C F : Ch} {Q : V → St → Prop} {p : Nat}
set_option maxRecDepth 10000
set_option maxHeartbeats 4000000

/-- A heap that can be looked at. -/
structure Look (C : Ch) (p : Nat) (hp : PHeap) : Prop where
  hin : In C p hp
  ne : hp.regs ≠ []
  len : hp.regs.length ≤ 100000
  ok : ∀ g ∈ hp.regs, g.ok
  ws : ∀ g ∈ hp.regs, ∀ x ∈ g.objs, x.b.ws.length ≤ 31
theorem Look.cons {hp : PHeap} (h : Look C p hp) (x : Nat × Option O) : Look (x :: C) p hp := ⟨h.hin.cons x, h.ne, h.len, h.ok, h.ws⟩
theorem Look.mono {D : Ch} {hp : PHeap} (h : Look C p hp) (hs : ∀ x ∈ C, x ∈ D) : Look D p hp := ⟨h.hin.mono hs, h.ne, h.len, h.ok, h.ws⟩

def thereB (hp : PHeap) (w : Int × Int) : Bool := decide (0 < w.2) && (pfind w.1 w.2 hp.regs).isSome

theorem s118 {hp : PHeap} {t : Nat} {lv mv : V} {w : Int × Int} (H : Holds o s C) (h : Look C p hp) (mt : (t, some (.cells [ptrN hp.id, lv, mv] none)) ∈ C)
    (q : ∀ s', Holds o s' C → Q (.bool (thereB hp w)) s') : WP (call PF 118 [ptrN t, .agg (encW w)] s) Q := by
  have h1 := H.alloc (.cells (encW w) none)
  have f := H.mem mt
  have f0 := h1.g0
  by_cases hL : 0 < w.2
  · have hL' : (w.2 > 0) := hL
    cases hx : pfind w.1 w.2 hp.regs with
    | some x =>
      rw [call_run F118]; simp -implicitDefEqProofs only [↓GP, GB, GL, Nat.reduceAdd, Nat.reduceSub, Nat.reduceEqDiff, Nat.reduceMul, Nat.reduceLeDiff, Int.reduceBNe, Int.reduceBEq, Nat.reduceLT, reduceCtorEq, c118, f, encW]
      refine wp_in (s30 h1 (h.cons _).hin h.ne h.len h.ok hL hx fun s1 h2 => ?_)
      have f1 := h2.g0
      simp -implicitDefEqProofs only [↓GP, GB, GL, Nat.reduceAdd, Nat.reduceSub, Nat.reduceEqDiff, Nat.reduceMul, Nat.reduceLeDiff, Int.reduceBNe, Int.reduceBEq, Nat.reduceLT, reduceCtorEq, f1, encW, hL', Int.reduceBEq]
      have := q s1 h2.tl
      unfold thereB at this
      rw [hx] at this
      simpa [hL] using this
    | none =>
      rw [call_run F118]; simp -implicitDefEqProofs only [↓GP, GB, GL, Nat.reduceAdd, Nat.reduceSub, Nat.reduceEqDiff, Nat.reduceMul, Nat.reduceLeDiff, Int.reduceBNe, Int.reduceBEq, Nat.reduceLT, reduceCtorEq, c118, f, encW]
      refine wp_in (s30_err (err := 80) h1 (.inr ⟨hp, p, rfl, (h.cons _).hin, h.ne, h.len, h.ok, .inr ⟨rfl, hL, rfl, hx⟩⟩) fun s1 h2 => ?_)
      have f1 := h2.g0
      simp -implicitDefEqProofs only [↓GP, GB, GL, Nat.reduceAdd, Nat.reduceSub, Nat.reduceEqDiff, Nat.reduceMul, Nat.reduceLeDiff, Int.reduceBNe, Int.reduceBEq, Nat.reduceLT, reduceCtorEq, f1, encW, hL', Int.reduceBEq]
      have := q s1 h2.tl
      unfold thereB at this
      rw [hx] at this
      simpa [hL] using this
  · have hL' : ¬ (w.2 > 0) := hL
    rw [call_run F118]; simp -implicitDefEqProofs only [↓GP, GB, GL, Nat.reduceAdd, Nat.reduceSub, Nat.reduceEqDiff, Nat.reduceMul, Nat.reduceLeDiff, Int.reduceBNe, Int.reduceBEq, Nat.reduceLT, reduceCtorEq, c118, f, encW]
    refine wp_in (s30_err (err := 2) h1 (.inr ⟨hp, p, rfl, (h.cons _).hin, h.ne, h.len, h.ok, .inl ⟨rfl, fun hh => hL hh.1⟩⟩) fun s1 h2 => ?_)
    have f1 := h2.g0
    simp -implicitDefEqProofs only [↓GP, GB, GL, Nat.reduceAdd, Nat.reduceSub, Nat.reduceEqDiff, Nat.reduceMul, Nat.reduceLeDiff, Int.reduceBNe, Int.reduceBEq, Nat.reduceLT, reduceCtorEq, f1, encW, hL', Int.reduceBEq]
    have := q s1 h2.tl
    unfold thereB at this
    simpa [hL] using this

def encA (w : Int × Int) : V := .agg (encW w)
theorem keyA : KeyOk (.agg [.i, .i]) encA := by
  intro a b
  obtain ⟨a1, a2⟩ := a
  obtain ⟨b1, b2⟩ := b
  simp only [encA, encW, keyEq, cellsEq, cellEq, if_true, Option.bind_some, Prod.mk.injEq, Bool.decide_and]
  by_cases h1 : a1 = b1 <;> by_cases h2 : a2 = b2 <;> simp [h1, h2]

/-- What has been found: its object, its list, its map. -/
def seenF (l : List (Int × Int)) (w : Int × Int) : Option V := if w ∈ l then some (.bool true) else none
def huntC (t lk mk : Nat) (hv : V) (l : List (Int × Int)) (m : O) : Ch := (t, some (.cells [hv, rowV lk l.length, .map (some (.new mk))] none)) :: (lk, rowO 2 l.length (l.flatMap encW)) :: (mk, some m) :: []
def putW (hp : PHeap) (l : List (Int × Int)) (w : Int × Int) : List (Int × Int) := if w ∉ l ∧ thereB hp w = true then l ++ [w] else l
theorem putW_len (hp : PHeap) (l : List (Int × Int)) (w : Int × Int) : l.length ≤ (putW hp l w).length ∧ (putW hp l w).length ≤ l.length + 1 := by
  unfold putW; split <;> simp

theorem s115 {hp : PHeap} {t lk mk : Nat} {l : List (Int × Int)} {m : O} {w : Int × Int} (H : Holds o s (huntC t lk mk (ptrN hp.id) l m ++ C)) (h : Look C p hp) (hm : MapIs encA (seenF l) m) (hl : l.length ≤ 100000)
    (q : ∀ s' lk' m', MapIs encA (seenF (putW hp l w)) m' → Holds o s' (huntC t lk' mk (ptrN hp.id) (putW hp l w) m' ++ C) → Q (.tuple []) s') : WP (call PF 115 [ptrN t, .agg (encW w)] s) Q := by
  have h1 := H.alloc (.cells (encW w) none)
  have ft : (t, some (.cells [ptrN hp.id, rowV lk l.length, .map (some (.new mk))] none)) ∈ huntC t lk mk (ptrN hp.id) l m ++ C := List.mem_append_left _ (List.mem_cons_self ..)
  have fm : (mk, some m) ∈ huntC t lk mk (ptrN hp.id) l m ++ C := List.mem_append_left _ (List.mem_cons_of_mem _ (List.mem_cons_of_mem _ (List.mem_cons_self ..)))
  have f := H.mem ft
  have f0 := h1.g0
  have el := lookup_map keyA hm (h1.mem (List.mem_cons_of_mem _ fm)).1 (.bool false) false w
  simp only [encA, encW, Bool.false_eq_true, if_false] at el
  by_cases hw : w ∈ l
  · rw [show seenF l w = some (.bool true) from if_pos hw, Option.getD_some] at el
    have e : putW hp l w = l := if_neg (fun hh => hh.1 hw)
    rw [e] at q
    rw [call_run F115]; simp -implicitDefEqProofs only [↓GP, GB, GL, Nat.reduceAdd, Nat.reduceSub, Nat.reduceEqDiff, Nat.reduceMul, Nat.reduceLeDiff, Int.reduceBNe, Int.reduceBEq, Nat.reduceLT, reduceCtorEq, c115, f, f0, encW, el]
    exact q _ lk m hm h1.tl
  · rw [show seenF l w = none from if_neg hw, Option.getD_none] at el
    rw [call_run F115]; simp -implicitDefEqProofs only [↓GP, GB, GL, Nat.reduceAdd, Nat.reduceSub, Nat.reduceEqDiff, Nat.reduceMul, Nat.reduceLeDiff, Int.reduceBNe, Int.reduceBEq, Nat.reduceLT, reduceCtorEq, c115, f, f0, encW, el]
    refine wp_in (s118 h1 ((h.mono fun x hx => List.mem_append_right _ hx).cons _) (List.mem_cons_of_mem _ ft) fun s1 h2 => ?_)
    cases ht : thereB hp w with
    | false =>
      have e : putW hp l w = l := if_neg (fun hh => by rw [ht] at hh; cases hh.2)
      rw [e] at q
      simp -implicitDefEqProofs only [↓GP, GB, GL, Nat.reduceAdd, Nat.reduceSub, Nat.reduceEqDiff, Nat.reduceMul, Nat.reduceLeDiff, Int.reduceBNe, Int.reduceBEq, Nat.reduceLT, reduceCtorEq]
      exact q _ lk m hm h2.tl
    | true =>
      have e : putW hp l w = l ++ [w] := if_pos ⟨hw, ht⟩
      rw [e] at q
      have g := h2.mem (List.mem_cons_of_mem _ ft)
      have g0 := h2.g0
      simp -implicitDefEqProofs only [↓GP, GB, GL, Nat.reduceAdd, Nat.reduceSub, Nat.reduceEqDiff, Nat.reduceMul, Nat.reduceLeDiff, Int.reduceBNe, Int.reduceBEq, Nat.reduceLT, reduceCtorEq, g, g0, encW]
      refine wp_mapSet (enc := encA) (a := w) keyA hm (h2.mem (List.mem_cons_of_mem _ fm)).1 fun m' hm' => ?_
      have h3 : Holds o (s1.set mk m') ((lk, rowO 2 l.length (l.flatMap encW)) :: (t, some (.cells [ptrN hp.id, rowV lk l.length, .map (some (.new mk))] none)) :: (mk, some m') :: (s.next, some (.cells (encW w) none)) :: C) := by
        have h2' : Holds o s1 ((s.next, some (.cells (encW w) none)) :: (t, some (.cells [ptrN hp.id, rowV lk l.length, .map (some (.new mk))] none)) :: (lk, rowO 2 l.length (l.flatMap encW)) :: (mk, some m) :: C) := h2
        exact (Holds.of (h2'.set3 m') (fun k => by simp +arith only [HA, HB]) (fun k x => by simp only [HA, HC]; grind only))
      have g3 := h3.tl.f3
      simp -implicitDefEqProofs only [↓GP, GB, GL, Nat.reduceAdd, Nat.reduceSub, Nat.reduceEqDiff, Nat.reduceMul, Nat.reduceLeDiff, Int.reduceBNe, Int.reduceBEq, Nat.reduceLT, reduceCtorEq, g3, g, g0, encW]
      refine wp_append (sz := 2) (bytes := 16) (m := 1) (cs := l.flatMap encW) ((h3.alloc _).r1) (by rw [tab_len encW_len]) (new_cells' (alloc_new_same _ _) rfl) rfl rfl (by omega) (by unfold maxRow; omega) (by unfold maxRow; omega) fun lk' s2 h4 => ?_
      have h5 := h4.r1.tl
      have g5 := h5.tl.f1
      simp -implicitDefEqProofs only [↓GP, GB, GL, Nat.reduceAdd, Nat.reduceSub, Nat.reduceEqDiff, Nat.reduceMul, Nat.reduceLeDiff, Int.reduceBNe, Int.reduceBEq, Nat.reduceLT, reduceCtorEq, g5]
      refine q _ lk' m' ?_ ?_
      · refine (?_ : _ = seenF (l ++ [w])) ▸ hm'
        funext b
        unfold seenF
        by_cases hb : b = w
        · subst hb; simp
        · simp [hb]
      · have h6 := h5.set1 (.cells [ptrN hp.id, rowV lk' (l.length + 1), .map (some (.new mk))] none)
        exact (Holds.of (h6) (fun k => by simp +arith only [huntC, encW, List.length_append, List.length_cons, List.length_nil, Nat.zero_add, List.flatMap_append, List.flatMap_cons, List.flatMap_nil, List.append_nil, HA, HB]) (fun k x => by simp only [huntC, encW, List.length_append, List.length_cons, List.length_nil, Nat.zero_add, List.flatMap_append, List.flatMap_cons, List.flatMap_nil, List.append_nil, HA, HC]; grind only))

theorem s93 {id : Nat} {w : Int × Int} (H : Holds o s C) (q : ∀ s' a b, Holds o s' ((a, some (.cells [ptrN id] none)) :: (b, some (.cells (encW w) none)) :: C) → Q (.func 116 [] [ptrN a, ptrN b]) s') : WP (call PF 93 [ptrN id, .agg (encW w)] s) Q := by
  have h2 := (H.alloc (.cells [ptrN id] none)).alloc (.cells (encW w) none)
  rw [call_run F93]; simp -implicitDefEqProofs only [↓GP, GB, GL, Nat.reduceAdd, Nat.reduceSub, Nat.reduceEqDiff, Nat.reduceMul, Nat.reduceLeDiff, Int.reduceBNe, Int.reduceBEq, Nat.reduceLT, reduceCtorEq, c93, encW]
  exact q _ _ _ h2.r1

/-- The words of an object, one by one; what is done with each may change the heap. -/
theorem parts_loop {γ : Type} (D : γ → Ch) (P : Nat → γ → Prop) (hp : γ → PHeap) (x : γ → PObj) {Y : Yt} {k a b p id n : Nat} {w : Int × Int} {R : List V → St → Res} {K : Kt} (hn : n ≤ 31) (hw : 0 < w.2)
    (look : ∀ i g, P i g → Look (D g) p (hp g) ∧ (hp g).id = id ∧ pfind w.1 w.2 (hp g).regs = some (x g) ∧ (x g).b.ws.length = n)
    (ma : ∀ g, (a, some (.cells [ptrN id] none)) ∈ D g) (mb : ∀ g, (b, some (.cells (encW w) none)) ∈ D g)
    (round : ∀ i g s v, P i g → Holds o s (D g) → (x g).b.ws[i]? = some v → WP (R [.agg (encW v)] s) fun r s' => r = .bool true ∧ ∃ g', P (i + 1) g' ∧ Holds o s' (D g')) :
    ∀ (m i : Nat) (g : γ) (s : St), i + m = n → P i g → Holds o s (D g) → (∀ s' g', P n g' → Holds o s' (D g') → WP (K (.exit 0) (sp 37 []) s') Q) →
    WP (loopY PF (withY Y k R) (.loop l116_0) (sp 37 [(0, .func (yBase + k) [] []), (1, ptrN a), (2, ptrN b), (17, I n), (18, I i)]) s K) Q
  | 0, i, g, s, hi, hP, H, q => by
    have hlt : ¬ ((i : Int) < (n : Int)) := by omega
    refine wp_roundY fun LL hLL => ?_
    simp -implicitDefEqProofs only [↓GP, GB, GL, Nat.reduceAdd, Nat.reduceSub, Nat.reduceEqDiff, Nat.reduceMul, Nat.reduceLeDiff, Int.reduceBNe, Int.reduceBEq, Nat.reduceLT, reduceCtorEq, l116_0, hlt]
    exact q s g (by rw [← show i = n by omega]; exact hP) H
  | m + 1, i, g, s, hi, hP, H, q => by
    have hlt : ((i : Int) < (n : Int)) := by omega
    obtain ⟨l1, l2, l3, l4⟩ := look i g hP
    have hv : (x g).b.ws[i]? = some ((x g).b.ws[i]'(by omega)) := List.getElem?_eq_getElem (by omega)
    generalize (x g).b.ws[i]'(by omega) = v at hv
    have fa := H.mem (ma g)
    have fb := H.mem (mb g)
    have hw1 := wrap_add1 (a := i) (by omega)
    obtain ⟨g1, mg1, mx1⟩ := pfind_mem l3
    have hws := l1.ws g1 mg1 _ mx1
    subst l2
    refine wp_roundY fun LL hLL => ?_
    simp -implicitDefEqProofs only [↓GP, GB, GL, Nat.reduceAdd, Nat.reduceSub, Nat.reduceEqDiff, Nat.reduceMul, Nat.reduceLeDiff, Int.reduceBNe, Int.reduceBEq, Nat.reduceLT, reduceCtorEq, l116_0, hlt, fa, fb, encW]
    refine wp_in (wp_callY (s67 H l1.hin l1.ne l1.len l1.ok hw l3 hv hws fun s1 h1 => ?_))
    simp -implicitDefEqProofs only [↓GP, GB, GL, Nat.reduceAdd, Nat.reduceSub, Nat.reduceEqDiff, Nat.reduceMul, Nat.reduceLeDiff, Int.reduceBNe, Int.reduceBEq, Nat.reduceLT, reduceCtorEq, encW]
    have h2 := ((h1.alloc (.cells [I 0, I 0] none)).set0 (.cells (encW v) none)).tl
    refine wp_in (wp_yield (WP.mono (round i g _ v hP h2 hv) ?_))
    rintro _ s2 ⟨rfl, g', hP', h3⟩
    simp -implicitDefEqProofs only [↓GP, GB, GL, Nat.reduceAdd, Nat.reduceSub, Nat.reduceEqDiff, Nat.reduceMul, Nat.reduceLeDiff, Int.reduceBNe, Int.reduceBEq, Nat.reduceLT, reduceCtorEq, hw1]
    rw [hLL]
    exact parts_loop D P hp x hn hw look ma mb round m (i + 1) g' s2 (by omega) hP' h3 q

theorem s116 {γ : Type} (D : γ → Ch) (P : Nat → γ → Prop) (hp : γ → PHeap) (x : γ → PObj) {Y : Yt} {k a b p id n : Nat} {w : Int × Int} {R : List V → St → Res} (hn : n ≤ 31) (hw : 0 < w.2)
    (look : ∀ i g, P i g → Look (D g) p (hp g) ∧ (hp g).id = id ∧ pfind w.1 w.2 (hp g).regs = some (x g) ∧ (x g).b.ws.length = n)
    (ma : ∀ g, (a, some (.cells [ptrN id] none)) ∈ D g) (mb : ∀ g, (b, some (.cells (encW w) none)) ∈ D g)
    (round : ∀ i g s v, P i g → Holds o s (D g) → (x g).b.ws[i]? = some v → WP (R [.agg (encW v)] s) fun r s' => r = .bool true ∧ ∃ g', P (i + 1) g' ∧ Holds o s' (D g'))
    {g : γ} (hP : P 0 g) (H : Holds o s (D g)) (q : ∀ s' g', P n g' → Holds o s' (D g') → Q (.tuple []) s') :
    WP (callY PF (withY Y k R) 116 [.func (yBase + k) [] [], ptrN a, ptrN b] s) Q := by
  have fa := H.mem (ma g)
  have fb := H.mem (mb g)
  obtain ⟨l1, l2, l3, l4⟩ := look 0 g hP
  rw [call_runY _ F116]
  simp -implicitDefEqProofs only [↓GP, GB, GL, Nat.reduceAdd, Nat.reduceSub, Nat.reduceEqDiff, Nat.reduceMul, Nat.reduceLeDiff, Int.reduceBNe, Int.reduceBEq, Nat.reduceLT, reduceCtorEq, c116, fa, fb, encW]
  have l2' := l2
  subst l2
  refine wp_in (wp_callY (s30 H l1.hin l1.ne l1.len l1.ok hw l3 fun s1 h1 => ?_))
  rw [l4]
  simp -implicitDefEqProofs only [↓GP, GB, GL, Nat.reduceAdd, Nat.reduceSub, Nat.reduceEqDiff, Nat.reduceMul, Nat.reduceLeDiff, Int.reduceBNe, Int.reduceBEq, Nat.reduceLT, reduceCtorEq]
  rw [go_loopY]
  have := parts_loop D P hp x (Y := Y) (k := k) (Q := Q) (K := blockK 0 (finR [])) hn hw look ma mb round n 0 g s1 (by omega) hP h1
  simp only [Int.natCast_zero] at this
  refine this fun s2 g2 hP2 h2 => ?_
  simp -implicitDefEqProofs only [↓GP, GB, GL, Nat.reduceAdd, Nat.reduceSub, Nat.reduceEqDiff, Nat.reduceMul, Nat.reduceLeDiff, Int.reduceBNe, Int.reduceBEq, Nat.reduceLT, reduceCtorEq]
  exact q s2 g2 hP2 h2
end
end Go.Proofs.Ytoldkemimhebaaa
