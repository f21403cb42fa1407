/- Layer 16: newHunt, Reached, on the program's side. -/
import Derived.Test.YtoldkemimhebaaaPc3
set_option linter.unusedSimpArgs false
set_option linter.unusedVariables false
namespace Go.Proofs.Ytoldkemimhebaaa
open Go Go.IM

-- virgate/collect.newHunt
def l90_0 : IC := (.seq (.seq (.region [oa 17 (.bin .lss (.t 16) (.t 15))] (kp 47 [0,4,5,14,15,16,17]))
  (.seq (.cond (.t 17)
  (sk 47 [0,4,5,14,15,16])
  (sx 47 [0,4,5] 0))
  (.seq (.block 1
  (.seq (.region [oa 18 (.indexAddr 2 (.t 14) (.t 16)), oa 19 (.load (some 2) (.t 18)), oa 7 (.alloc [(.int .i64 (0)), (.int .i64 (0))]), ob (.store 2 (.t 7) (.t 19))] (kp 47 [0,4,5,7,14,15,16]))
  (.region [oa 20 (.load none (.t 5)), oa 21 (.load (some 2) (.t 7)), oa 22 (.call 115 [(.t 20), (.t 21)])] (kp 47 [0,4,5,14,15,16]))))
  (.region [oa 23 (.bin .add (.t 16) (ai 1)), oa 16 (.mov (.t 23))] (kp 47 [0,4,5,14,15,16])))))
  (sk 47 [0,4,5,14,15,16]))
def a90_1 : IC := (.region [oa 9 (.alloc [(.int .i64 (0)), (.int .i64 (0))]), ob (.store 2 (.t 9) (.t 42))] (kp 47 [5,9]))
def b90_1 : IC := (.block 5
  (.region [oa 43 (.load none (.t 5)), oa 44 (.load (some 2) (.t 9)), oa 45 (.call 115 [(.t 43), (.t 44)])] (kp 47 [])))
def l90_2 : IC := (.seq (.seq (.seq (.region [oa 24 (.mov (.t 8)), oa 25 (.load none (.t 5)), oa 26 (.nilCheck (.t 25)), oa 27 (.fieldAddr 1 (.t 26)), oa 28 (.load none (.t 27)), oa 29 (.lenSlice (.t 28)), oa 30 (.bin .lss (.t 24) (.t 29))] (kp 47 [0,4,5,8,30]))
  (.cond (.t 30)
  (sk 47 [0,4,5,8])
  (sx 47 [5] 2)))
  (.seq (.block 3
  (.seq (.region [oa 33 (.mov (.t 0)), oa 34 (.load none (.t 5)), oa 35 (.nilCheck (.t 34)), oa 36 (.fieldAddr 1 (.t 35)), oa 37 (.load none (.t 36)), oa 38 (.mov (.t 8)), oa 39 (.indexAddr 2 (.t 37) (.t 38)), oa 40 (.load (some 2) (.t 39)), oa 41 (.call 93 [(.t 33), (.t 40)])] (kp 47 [0,4,5,8,41]))
  (.block 4
  (.seq (sk 47 [0,4,5,8,41])
  (.seq (.range (.t 41) [42] a90_1 b90_1)
  (sk 47 [0,4,5,8]))))))
  (.region [oa 31 (.mov (.t 8)), oa 32 (.bin .add (.t 31) (ai 1)), oa 8 (.mov (.t 32))] (kp 47 [0,4,5,8]))))
  (sk 47 [0,4,5,8]))
def j90_bbbb : IC := (.seq (.region [oa 46 (.load none (.t 5)), oa 4 (.mov (.t 46))] (kp 47 [4]))
  (sr 47 [4]))
def j90_bbb : IC := (.seq (.seq (.region [oa 8 (.mov (ai 0))] (kp 47 [0,4,5,8]))
  (.block 2
  (.seq (sk 47 [0,4,5,8])
  (.loop l90_2))))
  j90_bbbb)
def c90 : IFn := ⟨47, [(4, none)],
  (.seq (.region [oa 4 (.mov (.c (.ptr none)))] (kp 47 [0,1,4]))
  (.seq (.region [oa 10 (.mov (.t 0)), oa 11 .mkMap, oa 12 (.build [(.ptr none), (.slice none 0 (some 0)), (.map none)] [(0, 1, (.t 10)), (2, 1, (.t 11))]), oa 13 (.box (.t 12)), oa 5 (.alloc [(.ptr none)]), ob (.store 1 (.t 5) (.t 13))] (kp 47 [0,1,4,5]))
  (.seq (.seq (.region [oa 14 (.mov (.t 1)), oa 15 (.lenSlice (.t 14)), oa 16 (.mov (ai 0))] (kp 47 [0,4,5,14,15,16]))
  (.block 0
  (.seq (sk 47 [0,4,5,14,15,16])
  (.loop l90_0))))
  j90_bbb)))⟩
theorem F90 : shutF Try.prog 90 = some c90 := by kernel_rfl


section
variable {o : Nat → Option O} {s : St} {C F : Ch} {Q : V → St → Prop} {p : Nat}
set_option maxRecDepth 10000
set_option maxHeartbeats 4000000

/-- The words of what a word points to. -/
def objW (hp : PHeap) (w : Int × Int) : List (Int × Int) := ((pfind w.1 w.2 hp.regs).map fun x => x.b.ws).getD []
/-- In breadth: so many steps. -/
def bfs (hp : PHeap) : Nat → Nat → List (Int × Int) → List (Int × Int)
  | 0, _, l => l
  | n + 1, i, l => match l[i]? with
    | some w => bfs hp n (i + 1) ((objW hp w).foldl (putW hp) l)
    | none => l
/-- What a list may have. -/
def allW (hp : PHeap) : List (Int × Int) := hp.regs.flatMap fun g => g.objs.map fun x => ((x.b.at_ : Int), (g.life : Int))
def reachW (hp : PHeap) (roots : List (Int × Int)) : List (Int × Int) := bfs hp ((allW hp).length + 1) 0 (roots.foldl (putW hp) [])

theorem nodup_le {α : Type} [DecidableEq α] : ∀ {l m : List α}, l.Nodup → (∀ x ∈ l, x ∈ m) → l.length ≤ m.length
  | [], _, _, _ => Nat.zero_le _
  | a :: l, m, hn, hs => by
    have ha := hs a (List.mem_cons_self ..)
    have hn' := List.nodup_cons.1 hn
    have := nodup_le (l := l) (m := m.erase a) hn'.2 fun x hx => by
      have hne : x ≠ a := fun e => hn'.1 (e ▸ hx)
      exact (List.mem_erase_of_ne hne).2 (hs x (List.mem_cons_of_mem _ hx))
    rw [List.length_erase_of_mem ha] at this
    have h0 : 0 < m.length := List.length_pos_of_mem ha
    simp; omega

/-- A list of what is there, each once. -/
structure Found (hp : PHeap) (l : List (Int × Int)) : Prop where
  nodup : l.Nodup
  there : ∀ w ∈ l, thereB hp w = true
theorem there_all {hp : PHeap} {w : Int × Int} (h : thereB hp w = true) : w ∈ allW hp := by
  unfold thereB at h
  simp only [Bool.and_eq_true, decide_eq_true_eq] at h
  obtain ⟨h0, h1⟩ := h
  cases hx : pfind w.1 w.2 hp.regs with
  | none => rw [hx] at h1; cases h1
  | some x =>
    obtain ⟨g, mg, hg⟩ := List.exists_of_findSome?_eq_some hx
    obtain ⟨e1, e2, e3⟩ := pf_some hg
    refine List.mem_flatMap.2 ⟨g, mg, List.mem_map.2 ⟨x, e2, ?_⟩⟩
    rw [e1, e3]
theorem Found.len {hp : PHeap} {l : List (Int × Int)} (h : Found hp l) : l.length ≤ (allW hp).length := nodup_le h.nodup fun w hw => there_all (h.there w hw)
theorem Found.nil (hp : PHeap) : Found hp [] := ⟨List.nodup_nil, fun w h => by cases h⟩
theorem Found.put {hp : PHeap} {l : List (Int × Int)} (h : Found hp l) (w : Int × Int) : Found hp (putW hp l w) := by
  unfold putW
  split
  · rename_i hc
    refine ⟨List.nodup_append.2 ⟨h.nodup, by simp, fun a ha b hb => ?_⟩, fun v hv => ?_⟩
    · simp at hb; subst hb; intro e; subst e; exact hc.1 ha
    · rcases List.mem_append.1 hv with hv | hv
      · exact h.there v hv
      · simp at hv; subst hv; exact hc.2
  · exact h
theorem Found.puts {hp : PHeap} : ∀ (ws : List (Int × Int)) {l : List (Int × Int)}, Found hp l → Found hp (ws.foldl (putW hp) l)
  | [], _, h => h
  | w :: ws, _, h => Found.puts ws (h.put w)
theorem Found.steps {hp : PHeap} : ∀ (n i : Nat) {l : List (Int × Int)}, Found hp l → Found hp (bfs hp n i l)
  | 0, _, _, h => h
  | n + 1, i, l, h => by
    unfold bfs
    split
    · exact Found.steps n (i + 1) (h.puts _)
    · exact h
theorem Found.reach (hp : PHeap) (roots : List (Int × Int)) : Found hp (reachW hp roots) := Found.steps _ _ ((Found.nil hp).puts _)

theorem put_loop {hp : PHeap} {t mk tb kr : Nat} {roots : List (Int × Int)} {K : Kt} (h : Look C p hp) (hr : (kr, rowO 2 roots.length (roots.flatMap encW)) ∈ C) (mb : (tb, some (.cells [ptrN t] none)) ∈ C) (hrl : roots.length ≤ 1000000) (hall : (allW hp).length ≤ 100000) :
    ∀ (m i lk : Nat) (l : List (Int × Int)) (mm : O) (s : St), i + m = roots.length → Found hp l → MapIs encA (seenF l) mm → Holds o s (huntC t lk mk (ptrN hp.id) l mm ++ C) →
    (∀ s' lk' m', MapIs encA (seenF ((roots.drop i).foldl (putW hp) l)) m' → Holds o s' (huntC t lk' mk (ptrN hp.id) ((roots.drop i).foldl (putW hp) l) m' ++ C) → WP (K (.exit 0) (sp 47 [(0, ptrN hp.id), (4, .ptr none), (5, ptrN tb)]) s') Q) →
    WP (loop PF (.loop l90_0) (sp 47 [(0, ptrN hp.id), (4, .ptr none), (5, ptrN tb), (14, rowV kr roots.length), (15, I roots.length), (16, I i)]) s K) Q
  | 0, i, lk, l, mm, s, hi, hf, hm, H, q => by
    have hlt : ¬ ((i : Int) < (roots.length : Int)) := by omega
    rw [List.drop_eq_nil_of_le (by omega), List.foldl_nil] at q
    refine wp_round fun LL hLL => ?_
    simp -implicitDefEqProofs only [↓GP, GB, GL, Nat.reduceAdd, Nat.reduceSub, Nat.reduceEqDiff, Nat.reduceMul, Nat.reduceLeDiff, Int.reduceBNe, Int.reduceBEq, Nat.reduceLT, reduceCtorEq, l90_0, hlt]
    exact q s lk mm hm H
  | m + 1, i, lk, l, mm, s, hi, hf, hm, H, q => by
    have hlt : ((i : Int) < (roots.length : Int)) := by omega
    have hi' : i < roots.length := by omega
    have hl := hf.len
    have hw1 := wrap_add1 (a := i) (by omega)
    have hix := ix_row (sz := 2) (k := kr) (n := roots.length) (i := i) (kk := .i64) hi'
    have er : rowO 2 roots.length (roots.flatMap encW) = some (.cells (roots.flatMap encW) (some 2)) := by unfold rowO; rw [if_neg (by omega)]
    have fr := H.mem (List.mem_append_right _ (er ▸ hr))
    have fb := H.mem (List.mem_append_right _ mb)
    have hld := ldN_tab (enc := encW) encW_len roots (some 2) (List.getElem?_eq_getElem hi')
    rw [List.drop_eq_getElem_cons hi', List.foldl_cons] at q
    generalize roots[i] = w at q hld
    refine wp_round fun LL hLL => ?_
    simp -implicitDefEqProofs only [↓GP, GB, GL, Nat.reduceAdd, Nat.reduceSub, Nat.reduceEqDiff, Nat.reduceMul, Nat.reduceLeDiff, Int.reduceBNe, Int.reduceBEq, Nat.reduceLT, reduceCtorEq, l90_0, hlt, hix, fr, fb, hld, encW]
    have h1 := ((H.alloc (.cells [I 0, I 0] none)).set0 (.cells (encW w) none)).tl
    refine wp_in (s115 (w := w) h1 h hm (by omega) fun s1 lk1 m1 hm1 h2 => ?_)
    simp -implicitDefEqProofs only [↓GP, GB, GL, Nat.reduceAdd, Nat.reduceSub, Nat.reduceEqDiff, Nat.reduceMul, Nat.reduceLeDiff, Int.reduceBNe, Int.reduceBEq, Nat.reduceLT, reduceCtorEq, hw1]
    rw [hLL]
    exact put_loop h hr mb hrl hall m (i + 1) lk1 _ m1 s1 (by omega) (hf.put w) hm1 h2 q

theorem bfs_out {hp : PHeap} {n i : Nat} {l : List (Int × Int)} (h : l.length ≤ i) : bfs hp n i l = l := by
  cases n with
  | zero => rfl
  | succ n => unfold bfs; rw [List.getElem?_eq_none h]
theorem bfs_in {hp : PHeap} {n i : Nat} {l : List (Int × Int)} {w : Int × Int} (h : l[i]? = some w) : bfs hp (n + 1) i l = bfs hp n (i + 1) ((objW hp w).foldl (putW hp) l) := by
  rw [bfs, h]

theorem hunt_loop {hp : PHeap} {t mk tb : Nat} {K : Kt} (h : Look C p hp) (mb : (tb, some (.cells [ptrN t] none)) ∈ C) (hall : (allW hp).length ≤ 90000) :
    ∀ (m i lk : Nat) (l : List (Int × Int)) (mm : O) (s : St), (allW hp).length + 1 ≤ i + m → Found hp l → MapIs encA (seenF l) mm → Holds o s (huntC t lk mk (ptrN hp.id) l mm ++ C) →
    (∀ s' lk' m', MapIs encA (seenF (bfs hp m i l)) m' → Holds o s' (huntC t lk' mk (ptrN hp.id) (bfs hp m i l) m' ++ C) → WP (K (.exit 2) (sp 47 [(5, ptrN tb)]) s') Q) →
    WP (loop PF (.loop l90_2) (sp 47 [(0, ptrN hp.id), (4, .ptr none), (5, ptrN tb), (8, I i)]) s K) Q := by
  intro m
  induction m with
  | zero =>
    intro i lk l mm s hi hf hm H q
    have hl := hf.len
    have hlt : ¬ ((i : Int) < (l.length : Int)) := by omega
    have ft := H.mem (List.mem_append_left _ (List.mem_cons_self ..) : (t, some (O.cells [ptrN hp.id, rowV lk l.length, V.map (some (.new mk))] none)) ∈ huntC t lk mk (ptrN hp.id) l mm ++ C)
    have fb := H.mem (List.mem_append_right _ mb)
    refine wp_round fun LL hLL => ?_
    simp -implicitDefEqProofs only [↓GP, GB, GL, Nat.reduceAdd, Nat.reduceSub, Nat.reduceEqDiff, Nat.reduceMul, Nat.reduceLeDiff, Int.reduceBNe, Int.reduceBEq, Nat.reduceLT, reduceCtorEq, l90_2, ft, fb, hlt]
    exact q s lk mm hm H
  | succ m ih =>
    intro i lk l mm s hi hf hm H q
    have hl := hf.len
    have ft := H.mem (List.mem_append_left _ (List.mem_cons_self ..) : (t, some (O.cells [ptrN hp.id, rowV lk l.length, V.map (some (.new mk))] none)) ∈ huntC t lk mk (ptrN hp.id) l mm ++ C)
    have fb := H.mem (List.mem_append_right _ mb)
    by_cases hi' : i < l.length
    · have hlt : ((i : Int) < (l.length : Int)) := by omega
      have hw1 := wrap_add1 (a := i) (by omega)
      have hix := ix_row (sz := 2) (k := lk) (n := l.length) (i := i) (kk := .i64) hi'
      have er : rowO 2 l.length (l.flatMap encW) = some (.cells (l.flatMap encW) (some 2)) := by unfold rowO; rw [if_neg (by omega)]
      have fr := H.mem (List.mem_append_left _ (List.mem_cons_of_mem _ (er ▸ List.mem_cons_self ..)) : (lk, some (O.cells (l.flatMap encW) (some 2))) ∈ huntC t lk mk (ptrN hp.id) l mm ++ C)
      have hld := ldN_tab (enc := encW) encW_len l (some 2) (List.getElem?_eq_getElem hi')
      have hth := hf.there _ (List.getElem_mem hi')
      rw [bfs_in (List.getElem?_eq_getElem hi')] at q
      generalize l[i] = w at q hld hth
      refine wp_round fun LL hLL => ?_
      simp -implicitDefEqProofs only [↓GP, GB, GL, Nat.reduceAdd, Nat.reduceSub, Nat.reduceEqDiff, Nat.reduceMul, Nat.reduceLeDiff, Int.reduceBNe, Int.reduceBEq, Nat.reduceLT, reduceCtorEq, l90_2, ft, fb, hlt, hix, fr, hld, encW]
      refine wp_in (s93 (w := w) H fun s1 a b h1 => ?_)
      simp -implicitDefEqProofs only [↓GP, GB, GL, Nat.reduceAdd, Nat.reduceSub, Nat.reduceEqDiff, Nat.reduceMul, Nat.reduceLeDiff, Int.reduceBNe, Int.reduceBEq, Nat.reduceLT, reduceCtorEq]
      obtain ⟨hw0, x, hx⟩ : 0 < w.2 ∧ ∃ x, pfind w.1 w.2 hp.regs = some x := by
        unfold thereB at hth
        simp only [Bool.and_eq_true, decide_eq_true_eq] at hth
        exact ⟨hth.1, Option.isSome_iff_exists.1 hth.2⟩
      obtain ⟨g0, mg0, mx0⟩ := pfind_mem hx
      have hwl := h.ws g0 mg0 _ mx0
      have how : objW hp w = x.b.ws := by unfold objW; rw [hx]; rfl
      rw [how] at q
      have hfoldf : ∀ j, Found hp ((x.b.ws.take j).foldl (putW hp) l) := fun j => hf.puts _
      have h2 := h1.alloc (.loop .ready)
      rw [go_range]
      refine wp_range (g := 116) (pre := []) (caps := [ptrN a, ptrN b]) (by simp -implicitDefEqProofs only [↓GP, GB, GL, Nat.reduceAdd, Nat.reduceSub, Nat.reduceEqDiff, Nat.reduceMul, Nat.reduceLeDiff, Int.reduceBNe, Int.reduceBEq, Nat.reduceLT, reduceCtorEq]) ?_
      refine s116 (γ := List (Int × Int) × Nat × O) (fun g => (s1.next, some (.loop .ready)) :: (huntC t g.2.1 mk (ptrN hp.id) g.1 g.2.2 ++ ((a, some (.cells [ptrN hp.id] none)) :: (b, some (.cells (encW w) none)) :: C)))
        (fun j g => MapIs encA (seenF g.1) g.2.2 ∧ g.1 = (x.b.ws.take j).foldl (putW hp) l) (fun _ => hp) (fun _ => x) (n := x.b.ws.length) (id := hp.id) (p := p) hwl hw0
        (fun i g _ => ⟨h.mono (fun y hy => List.mem_cons_of_mem _ (List.mem_append_right _ (List.mem_cons_of_mem _ (List.mem_cons_of_mem _ hy)))), rfl, hx, rfl⟩)
        (fun g => List.mem_cons_of_mem _ (List.mem_append_right _ (List.mem_cons_self ..))) (fun g => List.mem_cons_of_mem _ (List.mem_append_right _ (List.mem_cons_of_mem _ (List.mem_cons_self ..)))) ?_
        (g := (l, lk, mm)) ⟨hm, rfl⟩ ((Holds.of (h2) (fun k => by simp +arith only [huntC, HA, HB]) (fun k x => by simp only [huntC, HA, HC]; grind only))) fun s2 g2 hP2 h3 => ?_
      · intro j g s2 v hP H2 hv
        obtain ⟨l2, lk2, m2⟩ := g
        obtain ⟨hm2, hl2⟩ := hP
        simp only at hm2 hl2 H2
        have hl3 : l2.length ≤ 90000 := by have := (hfoldf j).len; rw [hl2]; omega
        refine wp_roundI H2.g0 rfl ?_
        rw [putAll_one]
        simp -implicitDefEqProofs only [↓GP, GB, GL, Nat.reduceAdd, Nat.reduceSub, Nat.reduceEqDiff, Nat.reduceMul, Nat.reduceLeDiff, Int.reduceBNe, Int.reduceBEq, Nat.reduceLT, reduceCtorEq, a90_1, encW]
        have h3 := (H2.alloc (.cells [I 0, I 0] none)).set0 (.cells (encW v) none)
        refine wp_roundMid h3.tl.g0 ?_
        have h4 := h3.set1 (.loop .busy)
        have mb2 : (tb, some (O.cells [ptrN t] none)) ∈ huntC t lk2 mk (ptrN hp.id) l2 m2 ++ ((a, some (.cells [ptrN hp.id] none)) :: (b, some (.cells (encW w) none)) :: C) := List.mem_append_right _ (List.mem_cons_of_mem _ (List.mem_cons_of_mem _ mb))
        have fb2 := H2.mem (List.mem_cons_of_mem _ mb2)
        have ne2 := H2.ne (Holds.ids_mem.2 ⟨_, mb2⟩)
        have kl := H2.l0
        simp -implicitDefEqProofs only [↓GP, GB, GL, Nat.reduceAdd, Nat.reduceSub, Nat.reduceEqDiff, Nat.reduceMul, Nat.reduceLeDiff, Int.reduceBNe, Int.reduceBEq, Nat.reduceLT, reduceCtorEq, b90_1, fb2, ne2, kl, encW]
        have h5 : Holds o _ (huntC t lk2 mk (ptrN hp.id) l2 m2 ++ ((s1.next, some (.loop .busy)) :: (a, some (.cells [ptrN hp.id] none)) :: (b, some (.cells (encW w) none)) :: C)) := (Holds.of (h4) (fun k => by simp +arith only [huntC, HA, HB]) (fun k x => by simp only [huntC, HA, HC]; grind only))
        refine wp_in (s115 (w := v) h5 (h.mono fun y hy => List.mem_cons_of_mem _ (List.mem_cons_of_mem _ (List.mem_cons_of_mem _ hy))) hm2 (by omega) fun s3 lk3 m3 hm3 h6 => ?_)
        simp -implicitDefEqProofs only [↓GP, GB, GL, Nat.reduceAdd, Nat.reduceSub, Nat.reduceEqDiff, Nat.reduceMul, Nat.reduceLeDiff, Int.reduceBNe, Int.reduceBEq, Nat.reduceLT, reduceCtorEq]
        have h7 : Holds o s3 ((s1.next, some (.loop .busy)) :: (huntC t lk3 mk (ptrN hp.id) (putW hp l2 v) m3 ++ ((a, some (.cells [ptrN hp.id] none)) :: (b, some (.cells (encW w) none)) :: C))) := (Holds.of (h6) (fun k => by simp +arith only [huntC, HA, HB]) (fun k x => by simp only [huntC, HA, HC]; grind only))
        refine wp_roundEnd h7.g0 ⟨rfl, (putW hp l2 v, lk3, m3), ⟨hm3, ?_⟩, h7.set0 (.loop .ready)⟩
        show putW hp l2 v = _
        rw [List.take_add_one, hv, Option.toList_some, List.foldl_append, ← hl2]
        rfl
      · obtain ⟨l2, lk2, m2⟩ := g2
        obtain ⟨hm2, hl2⟩ := hP2
        simp only at hm2 hl2 h3
        rw [List.take_length] at hl2
        subst hl2
        refine wp_rangeEnd h3.g0 ?_
        simp -implicitDefEqProofs only [↓GP, GB, GL, Nat.reduceAdd, Nat.reduceSub, Nat.reduceEqDiff, Nat.reduceMul, Nat.reduceLeDiff, Int.reduceBNe, Int.reduceBEq, Nat.reduceLT, reduceCtorEq, hw1]
        rw [hLL]
        exact ih (i + 1) lk2 _ m2 _ (by omega) (hf.puts _) hm2 ((Holds.of (h3.kill) (fun k => by simp +arith only [huntC, HA, HB]) (fun k x => by simp only [huntC, HA, HC]; grind only))) q
    · have hlt : ¬ ((i : Int) < (l.length : Int)) := by omega
      rw [bfs_out (by omega)] at q
      refine wp_round fun LL hLL => ?_
      simp -implicitDefEqProofs only [↓GP, GB, GL, Nat.reduceAdd, Nat.reduceSub, Nat.reduceEqDiff, Nat.reduceMul, Nat.reduceLeDiff, Int.reduceBNe, Int.reduceBEq, Nat.reduceLT, reduceCtorEq, l90_2, ft, fb, hlt]
      exact q s lk mm hm H

theorem rowO_z : rowO 2 0 [] = none := rfl
theorem rowV_z (k : Nat) : rowV k 0 = .slice none 0 (some 0) := rfl
theorem seenF_nil : MapIs encA (seenF []) (.map [] 0) := (show (fun _ => none) = seenF [] by funext w; unfold seenF; simp) ▸ mapIs_nil

/-- What is reached. -/
theorem s90 {hp : PHeap} {kr : Nat} {roots : List (Int × Int)} (H : Holds o s C) (h : Look C p hp) (hr : (kr, rowO 2 roots.length (roots.flatMap encW)) ∈ C) (hrl : roots.length ≤ 1000000) (hall : (allW hp).length ≤ 90000)
    (q : ∀ s' t lk mk m, MapIs encA (seenF (reachW hp roots)) m → Holds o s' (huntC t lk mk (ptrN hp.id) (reachW hp roots) m ++ C) → Q (ptrN t) s') : WP (call PF 90 [ptrN hp.id, rowV kr roots.length] s) Q := by
  rw [call_run F90]; simp -implicitDefEqProofs only [↓GP, GB, GL, Nat.reduceAdd, Nat.reduceSub, Nat.reduceEqDiff, Nat.reduceMul, Nat.reduceLeDiff, Int.reduceBNe, Int.reduceBEq, Nat.reduceLT, reduceCtorEq, c90]
  have h1 := ((H.alloc (.map [] 0)).alloc (.cells [ptrN hp.id, .slice none 0 (some 0), .map (some (.new s.next))] none)).nilEntry 0
  have h2 := ((h1.alloc (.cells [.ptr none] none)).set0 (.cells [ptrN (s.next + 1)] none))
  have h3 : Holds o _ (huntC (s.next + 1) 0 s.next (ptrN hp.id) [] (.map [] 0) ++ ((s.next + 2, some (.cells [ptrN (s.next + 1)] none)) :: C)) := (Holds.of (h2) (fun k => by simp +arith only [huntC, List.length_nil, rowV_z, List.flatMap_nil, rowO_z, HA, HB]) (fun k x => by simp only [huntC, List.length_nil, rowV_z, List.flatMap_nil, rowO_z, HA, HC]; grind only))
  have := put_loop (K := blockK 0 (seqK (loop PF) (call PF) j90_bbb (finR [(4, none)]))) (Q := Q) (h.cons _) (List.mem_cons_of_mem _ hr) (List.mem_cons_self ..) hrl (by omega) roots.length 0 0 [] (.map [] 0) _ (by omega) (Found.nil hp) seenF_nil h3
  simp only [Int.natCast_zero, List.drop_zero] at this
  refine this fun s1 lk1 m1 hm1 h4 => ?_
  simp -implicitDefEqProofs only [↓GP, GB, GL, Nat.reduceAdd, Nat.reduceSub, Nat.reduceEqDiff, Nat.reduceMul, Nat.reduceLeDiff, Int.reduceBNe, Int.reduceBEq, Nat.reduceLT, reduceCtorEq, j90_bbb]
  have := hunt_loop (K := blockK 2 (seqK (loop PF) (call PF) j90_bbbb (finR [(4, none)]))) (Q := Q) (h.cons (s.next + 2, some (.cells [ptrN (s.next + 1)] none))) (List.mem_cons_self ..) hall ((allW hp).length + 1) 0 lk1 _ m1 s1 (by omega) ((Found.nil hp).puts roots) hm1 h4
  simp only [Int.natCast_zero] at this
  refine this fun s2 lk2 m2 hm2 h5 => ?_
  rw [show bfs hp ((allW hp).length + 1) 0 (roots.foldl (putW hp) []) = reachW hp roots from rfl] at h5 hm2
  have f := h5.mem (List.mem_append_right _ (List.mem_cons_self ..))
  simp -implicitDefEqProofs only [↓GP, GB, GL, Nat.reduceAdd, Nat.reduceSub, Nat.reduceEqDiff, Nat.reduceMul, Nat.reduceLeDiff, Int.reduceBNe, Int.reduceBEq, Nat.reduceLT, reduceCtorEq, j90_bbbb, f]
  exact q s2 (s.next + 1) lk2 s.next m2 hm2 (Holds.of (h5) (fun k => by simp +arith only [huntC, HA, HB]) (fun k x => by simp only [huntC, HA, HC]; grind only))
end
end Go.Proofs.Ytoldkemimhebaaa
