/- Texts Pc4, Pg3, Pc5, Pc6, Pc7, Pc8, Pc9, Pca, Pcb, Pcc, Pcd, Pe0, Pk0, Pk1, Pk3, Pk2, Pk4, Pk5, Pk6, PcS, Pci, Pk7. -/
import Derived.Test.YtoldkemimhebaaaRc4

set_option linter.unusedSimpArgs false
set_option linter.unusedVariables false
namespace Go.Proofs.Ytoldkemimhebaaa
open Go Go.IM
def l90_0 : IC := (.seq (.seq (.region [oa 17 (.bin .lss (.t 16) (.t 15))] (kp 47 [0,4,5,14,15,16,17]))
  (.seq (.cond (.t 17)
  (sk 47 [0,4,5,14,15,16])
  (sx 47 [0,4,5] 0))
  (.seq (.block 1
  (.seq (.region [oa 18 (.indexAddr 2 (.t 14) (.t 16)), oa 19 (.load (some 2) (.t 18)), oa 7 (.alloc [(.int .i64 (0)), (.int .i64 (0))]), ob (.store 2 (.t 7) (.t 19))] (kp 47 [0,4,5,7,14,15,16]))
  (.region [oa 20 (.load none (.t 5)), oa 21 (.load (some 2) (.t 7)), oa 22 (.call 115 [(.t 20), (.t 21)])] (kp 47 [0,4,5,14,15,16]))))
  (.region [oa 23 (.bin .add (.t 16) (ai 1)), oa 16 (.mov (.t 23))] (kp 47 [0,4,5,14,15,16])))))
  (sk 47 [0,4,5,14,15,16]))
def a90_1 : IC := (.region [oa 9 (.alloc [(.int .i64 (0)), (.int .i64 (0))]), ob (.store 2 (.t 9) (.t 42))] (kp 47 [5,9]))
def b90_1 : IC := (.block 5
  (.region [oa 43 (.load none (.t 5)), oa 44 (.load (some 2) (.t 9)), oa 45 (.call 115 [(.t 43), (.t 44)])] (kp 47 [])))
def l90_2 : IC := (.seq (.seq (.seq (.region [oa 24 (.mov (.t 8)), oa 25 (.load none (.t 5)), oa 26 (.nilCheck (.t 25)), oa 27 (.fieldAddr 1 (.t 26)), oa 28 (.load none (.t 27)), oa 29 (.lenSlice (.t 28)), oa 30 (.bin .lss (.t 24) (.t 29))] (kp 47 [0,4,5,8,30]))
  (.cond (.t 30)
  (sk 47 [0,4,5,8])
  (sx 47 [5] 2)))
  (.seq (.block 3
  (.seq (.region [oa 33 (.mov (.t 0)), oa 34 (.load none (.t 5)), oa 35 (.nilCheck (.t 34)), oa 36 (.fieldAddr 1 (.t 35)), oa 37 (.load none (.t 36)), oa 38 (.mov (.t 8)), oa 39 (.indexAddr 2 (.t 37) (.t 38)), oa 40 (.load (some 2) (.t 39)), oa 41 (.call 93 [(.t 33), (.t 40)])] (kp 47 [0,4,5,8,41]))
  (.block 4
  (.seq (sk 47 [0,4,5,8,41])
  (.seq (.range (.t 41) [42] a90_1 b90_1)
  (sk 47 [0,4,5,8]))))))
  (.region [oa 31 (.mov (.t 8)), oa 32 (.bin .add (.t 31) (ai 1)), oa 8 (.mov (.t 32))] (kp 47 [0,4,5,8]))))
  (sk 47 [0,4,5,8]))
def j90_bbbb : IC := (.seq (.region [oa 46 (.load none (.t 5)), oa 4 (.mov (.t 46))] (kp 47 [4]))
  (sr 47 [4]))
def j90_bbb : IC := (.seq (.seq (.region [oa 8 (.mov (ai 0))] (kp 47 [0,4,5,8]))
  (.block 2
  (.seq (sk 47 [0,4,5,8])
  (.loop l90_2))))
  j90_bbbb)
def c90 : IFn := ⟨47, [(4, none)],
  (.seq (.region [oa 4 (.mov (.c (.ptr none)))] (kp 47 [0,1,4]))
  (.seq (.region [oa 10 (.mov (.t 0)), oa 11 .mkMap, oa 12 (.build [(.ptr none), (.slice none 0 (some 0)), (.map none)] [(0, 1, (.t 10)), (2, 1, (.t 11))]), oa 13 (.box (.t 12)), oa 5 (.alloc [(.ptr none)]), ob (.store 1 (.t 5) (.t 13))] (kp 47 [0,1,4,5]))
  (.seq (.seq (.region [oa 14 (.mov (.t 1)), oa 15 (.lenSlice (.t 14)), oa 16 (.mov (ai 0))] (kp 47 [0,4,5,14,15,16]))
  (.block 0
  (.seq (sk 47 [0,4,5,14,15,16])
  (.loop l90_0))))
  j90_bbb)))⟩
theorem F90 : shutF Try.prog 90 = some c90 := by kernel_rfl
section
variable {o : Nat → Option O} {s : St} {C F : Ch} {Q : V → St → Prop} {p : Nat}
set_option maxRecDepth 10000
set_option maxHeartbeats 4000000
def objW (hp : PHeap) (w : Int × Int) : List (Int × Int) := ((pfind w.1 w.2 hp.regs).map fun x => x.b.ws).getD []
def bfs (hp : PHeap) : Nat → Nat → List (Int × Int) → List (Int × Int)
  | 0, _, l => l
  | n + 1, i, l => match l[i]? with
    | some w => bfs hp n (i + 1) ((objW hp w).foldl (putW hp) l)
    | none => l
def allW (hp : PHeap) : List (Int × Int) := hp.regs.flatMap fun g => g.objs.map fun x => ((x.b.at_ : Int), (g.life : Int))
def reachW (hp : PHeap) (roots : List (Int × Int)) : List (Int × Int) := bfs hp ((allW hp).length + 1) 0 (roots.foldl (putW hp) [])
theorem nodup_le {α : Type} [DecidableEq α] : ∀ {l m : List α}, l.Nodup → (∀ x ∈ l, x ∈ m) → l.length ≤ m.length
  | [], _, _, _ => Nat.zero_le _
  | a :: l, m, hn, hs => by
    have ha := hs a (List.mem_cons_self ..)
    have hn' := List.nodup_cons.1 hn
    have := nodup_le (l := l) (m := m.erase a) hn'.2 fun x hx => by
      have hne : x ≠ a := fun e => hn'.1 (e ▸ hx)
      exact (List.mem_erase_of_ne hne).2 (hs x (List.mem_cons_of_mem _ hx))
    rw [List.length_erase_of_mem ha] at this
    have h0 : 0 < m.length := List.length_pos_of_mem ha
    simp; omega
structure Found (hp : PHeap) (l : List (Int × Int)) : Prop where
  nodup : l.Nodup
  there : ∀ w ∈ l, thereB hp w = true
theorem there_all {hp : PHeap} {w : Int × Int} (h : thereB hp w = true) : w ∈ allW hp := by
  unfold thereB at h
  simp only [Bool.and_eq_true, decide_eq_true_eq] at h
  obtain ⟨h0, h1⟩ := h
  cases hx : pfind w.1 w.2 hp.regs with
  | none => rw [hx] at h1; cases h1
  | some x =>
    obtain ⟨g, mg, hg⟩ := List.exists_of_findSome?_eq_some hx
    obtain ⟨e1, e2, e3⟩ := pf_some hg
    refine List.mem_flatMap.2 ⟨g, mg, List.mem_map.2 ⟨x, e2, ?_⟩⟩
    rw [e1, e3]
theorem Found.len {hp : PHeap} {l : List (Int × Int)} (h : Found hp l) : l.length ≤ (allW hp).length := nodup_le h.nodup fun w hw => there_all (h.there w hw)
theorem Found.nil (hp : PHeap) : Found hp [] := ⟨List.nodup_nil, fun w h => by cases h⟩
theorem Found.put {hp : PHeap} {l : List (Int × Int)} (h : Found hp l) (w : Int × Int) : Found hp (putW hp l w) := by
  unfold putW
  split
  · rename_i hc
    refine ⟨List.nodup_append.2 ⟨h.nodup, by simp, fun a ha b hb => ?_⟩, fun v hv => ?_⟩
    · simp at hb; subst hb; intro e; subst e; exact hc.1 ha
    · rcases List.mem_append.1 hv with hv | hv
      · exact h.there v hv
      · simp at hv; subst hv; exact hc.2
  · exact h
theorem Found.puts {hp : PHeap} : ∀ (ws : List (Int × Int)) {l : List (Int × Int)}, Found hp l → Found hp (ws.foldl (putW hp) l)
  | [], _, h => h
  | w :: ws, _, h => Found.puts ws (h.put w)
theorem Found.steps {hp : PHeap} : ∀ (n i : Nat) {l : List (Int × Int)}, Found hp l → Found hp (bfs hp n i l)
  | 0, _, _, h => h
  | n + 1, i, l, h => by
    unfold bfs
    split
    · exact Found.steps n (i + 1) (h.puts _)
    · exact h
theorem Found.reach (hp : PHeap) (roots : List (Int × Int)) : Found hp (reachW hp roots) := Found.steps _ _ ((Found.nil hp).puts _)
theorem put_loop {hp : PHeap} {t mk tb kr : Nat} {roots : List (Int × Int)} {K : Kt} (h : Look C p hp) (hr : (kr, rowO 2 roots.length (roots.flatMap encW)) ∈ C) (mb : (tb, some (.cells [ptrN t] none)) ∈ C) (hrl : roots.length ≤ 1000000) (hall : (allW hp).length ≤ 100000) :
    ∀ (m i lk : Nat) (l : List (Int × Int)) (mm : O) (s : St), i + m = roots.length → Found hp l → MapIs encA (seenF l) mm → Holds o s (huntC t lk mk (ptrN hp.id) l mm ++ C) →
    (∀ s' lk' m', MapIs encA (seenF ((roots.drop i).foldl (putW hp) l)) m' → Holds o s' (huntC t lk' mk (ptrN hp.id) ((roots.drop i).foldl (putW hp) l) m' ++ C) → WP (K (.exit 0) (sp 47 [(0, ptrN hp.id), (4, .ptr none), (5, ptrN tb)]) s') Q) →
    WP (loop PF (.loop l90_0) (sp 47 [(0, ptrN hp.id), (4, .ptr none), (5, ptrN tb), (14, rowV kr roots.length), (15, I roots.length), (16, I i)]) s K) Q
  | 0, i, lk, l, mm, s, hi, hf, hm, H, q => by
    have hlt : ¬ ((i : Int) < (roots.length : Int)) := by omega
    rw [List.drop_eq_nil_of_le (by omega), List.foldl_nil] at q
    refine wp_round fun LL hLL => ?_
    simp -implicitDefEqProofs only [↓GP, GB, GL, Nat.reduceAdd, Nat.reduceSub, Nat.reduceEqDiff, Nat.reduceMul, Nat.reduceLeDiff, Int.reduceBNe, Int.reduceBEq, Nat.reduceLT, reduceCtorEq, l90_0, hlt]
    exact q s lk mm hm H
  | m + 1, i, lk, l, mm, s, hi, hf, hm, H, q => by
    have hlt : ((i : Int) < (roots.length : Int)) := by omega
    have hi' : i < roots.length := by omega
    have hl := hf.len
    have hw1 := wrap_add1 (a := i) (by omega)
    have hix := ix_row (sz := 2) (k := kr) (n := roots.length) (i := i) (kk := .i64) hi'
    have er : rowO 2 roots.length (roots.flatMap encW) = some (.cells (roots.flatMap encW) (some 2)) := by unfold rowO; rw [if_neg (by omega)]
    have fr := H.mem (List.mem_append_right _ (er ▸ hr))
    have fb := H.mem (List.mem_append_right _ mb)
    have hld := ldN_tab (enc := encW) encW_len roots (some 2) (List.getElem?_eq_getElem hi')
    rw [List.drop_eq_getElem_cons hi', List.foldl_cons] at q
    generalize roots[i] = w at q hld
    refine wp_round fun LL hLL => ?_
    simp -implicitDefEqProofs only [↓GP, GB, GL, Nat.reduceAdd, Nat.reduceSub, Nat.reduceEqDiff, Nat.reduceMul, Nat.reduceLeDiff, Int.reduceBNe, Int.reduceBEq, Nat.reduceLT, reduceCtorEq, l90_0, hlt, hix, fr, fb, hld, encW]
    have h1 := ((H.alloc (.cells [I 0, I 0] none)).set0 (.cells (encW w) none)).tl
    refine wp_in (s115 (w := w) h1 h hm (by omega) fun s1 lk1 m1 hm1 h2 => ?_)
    simp -implicitDefEqProofs only [↓GP, GB, GL, Nat.reduceAdd, Nat.reduceSub, Nat.reduceEqDiff, Nat.reduceMul, Nat.reduceLeDiff, Int.reduceBNe, Int.reduceBEq, Nat.reduceLT, reduceCtorEq, hw1]
    rw [hLL]
    exact put_loop h hr mb hrl hall m (i + 1) lk1 _ m1 s1 (by omega) (hf.put w) hm1 h2 q
theorem bfs_out {hp : PHeap} {n i : Nat} {l : List (Int × Int)} (h : l.length ≤ i) : bfs hp n i l = l := by
  cases n with
  | zero => rfl
  | succ n => unfold bfs; rw [List.getElem?_eq_none h]
theorem bfs_in {hp : PHeap} {n i : Nat} {l : List (Int × Int)} {w : Int × Int} (h : l[i]? = some w) : bfs hp (n + 1) i l = bfs hp n (i + 1) ((objW hp w).foldl (putW hp) l) := by
  rw [bfs, h]
theorem hunt_loop {hp : PHeap} {t mk tb : Nat} {K : Kt} (h : Look C p hp) (mb : (tb, some (.cells [ptrN t] none)) ∈ C) (hall : (allW hp).length ≤ 90000) :
    ∀ (m i lk : Nat) (l : List (Int × Int)) (mm : O) (s : St), (allW hp).length + 1 ≤ i + m → Found hp l → MapIs encA (seenF l) mm → Holds o s (huntC t lk mk (ptrN hp.id) l mm ++ C) →
    (∀ s' lk' m', MapIs encA (seenF (bfs hp m i l)) m' → Holds o s' (huntC t lk' mk (ptrN hp.id) (bfs hp m i l) m' ++ C) → WP (K (.exit 2) (sp 47 [(5, ptrN tb)]) s') Q) →
    WP (loop PF (.loop l90_2) (sp 47 [(0, ptrN hp.id), (4, .ptr none), (5, ptrN tb), (8, I i)]) s K) Q := by
  intro m
  induction m with
  | zero =>
    intro i lk l mm s hi hf hm H q
    have hl := hf.len
    have hlt : ¬ ((i : Int) < (l.length : Int)) := by omega
    have ft := H.mem (List.mem_append_left _ (List.mem_cons_self ..) : (t, some (O.cells [ptrN hp.id, rowV lk l.length, V.map (some (.new mk))] none)) ∈ huntC t lk mk (ptrN hp.id) l mm ++ C)
    have fb := H.mem (List.mem_append_right _ mb)
    refine wp_round fun LL hLL => ?_
    simp -implicitDefEqProofs only [↓GP, GB, GL, Nat.reduceAdd, Nat.reduceSub, Nat.reduceEqDiff, Nat.reduceMul, Nat.reduceLeDiff, Int.reduceBNe, Int.reduceBEq, Nat.reduceLT, reduceCtorEq, l90_2, ft, fb, hlt]
    exact q s lk mm hm H
  | succ m ih =>
    intro i lk l mm s hi hf hm H q
    have hl := hf.len
    have ft := H.mem (List.mem_append_left _ (List.mem_cons_self ..) : (t, some (O.cells [ptrN hp.id, rowV lk l.length, V.map (some (.new mk))] none)) ∈ huntC t lk mk (ptrN hp.id) l mm ++ C)
    have fb := H.mem (List.mem_append_right _ mb)
    by_cases hi' : i < l.length
    · have hlt : ((i : Int) < (l.length : Int)) := by omega
      have hw1 := wrap_add1 (a := i) (by omega)
      have hix := ix_row (sz := 2) (k := lk) (n := l.length) (i := i) (kk := .i64) hi'
      have er : rowO 2 l.length (l.flatMap encW) = some (.cells (l.flatMap encW) (some 2)) := by unfold rowO; rw [if_neg (by omega)]
      have fr := H.mem (List.mem_append_left _ (List.mem_cons_of_mem _ (er ▸ List.mem_cons_self ..)) : (lk, some (O.cells (l.flatMap encW) (some 2))) ∈ huntC t lk mk (ptrN hp.id) l mm ++ C)
      have hld := ldN_tab (enc := encW) encW_len l (some 2) (List.getElem?_eq_getElem hi')
      have hth := hf.there _ (List.getElem_mem hi')
      rw [bfs_in (List.getElem?_eq_getElem hi')] at q
      generalize l[i] = w at q hld hth
      refine wp_round fun LL hLL => ?_
      simp -implicitDefEqProofs only [↓GP, GB, GL, Nat.reduceAdd, Nat.reduceSub, Nat.reduceEqDiff, Nat.reduceMul, Nat.reduceLeDiff, Int.reduceBNe, Int.reduceBEq, Nat.reduceLT, reduceCtorEq, l90_2, ft, fb, hlt, hix, fr, hld, encW]
      refine wp_in (s93 (w := w) H fun s1 a b h1 => ?_)
      simp -implicitDefEqProofs only [↓GP, GB, GL, Nat.reduceAdd, Nat.reduceSub, Nat.reduceEqDiff, Nat.reduceMul, Nat.reduceLeDiff, Int.reduceBNe, Int.reduceBEq, Nat.reduceLT, reduceCtorEq]
      obtain ⟨hw0, x, hx⟩ : 0 < w.2 ∧ ∃ x, pfind w.1 w.2 hp.regs = some x := by
        unfold thereB at hth
        simp only [Bool.and_eq_true, decide_eq_true_eq] at hth
        exact ⟨hth.1, Option.isSome_iff_exists.1 hth.2⟩
      obtain ⟨g0, mg0, mx0⟩ := pfind_mem hx
      have hwl := h.ws g0 mg0 _ mx0
      have how : objW hp w = x.b.ws := by unfold objW; rw [hx]; rfl
      rw [how] at q
      have hfoldf : ∀ j, Found hp ((x.b.ws.take j).foldl (putW hp) l) := fun j => hf.puts _
      have h2 := h1.alloc (.loop .ready)
      rw [go_range]
      refine wp_range (g := 116) (pre := []) (caps := [ptrN a, ptrN b]) (by simp -implicitDefEqProofs only [↓GP, GB, GL, Nat.reduceAdd, Nat.reduceSub, Nat.reduceEqDiff, Nat.reduceMul, Nat.reduceLeDiff, Int.reduceBNe, Int.reduceBEq, Nat.reduceLT, reduceCtorEq]) ?_
      refine s116 (γ := List (Int × Int) × Nat × O) (fun g => (s1.next, some (.loop .ready)) :: (huntC t g.2.1 mk (ptrN hp.id) g.1 g.2.2 ++ ((a, some (.cells [ptrN hp.id] none)) :: (b, some (.cells (encW w) none)) :: C)))
        (fun j g => MapIs encA (seenF g.1) g.2.2 ∧ g.1 = (x.b.ws.take j).foldl (putW hp) l) (fun _ => hp) (fun _ => x) (n := x.b.ws.length) (id := hp.id) (p := p) hwl hw0
        (fun i g _ => ⟨h.mono (fun y hy => List.mem_cons_of_mem _ (List.mem_append_right _ (List.mem_cons_of_mem _ (List.mem_cons_of_mem _ hy)))), rfl, hx, rfl⟩)
        (fun g => List.mem_cons_of_mem _ (List.mem_append_right _ (List.mem_cons_self ..))) (fun g => List.mem_cons_of_mem _ (List.mem_append_right _ (List.mem_cons_of_mem _ (List.mem_cons_self ..)))) ?_
        (g := (l, lk, mm)) ⟨hm, rfl⟩ ((Holds.of (h2) (fun k => by simp +arith only [huntC, HA, HB]) (fun k x => by simp only [huntC, HA, HC]; grind only))) fun s2 g2 hP2 h3 => ?_
      · intro j g s2 v hP H2 hv
        obtain ⟨l2, lk2, m2⟩ := g
        obtain ⟨hm2, hl2⟩ := hP
        simp only at hm2 hl2 H2
        have hl3 : l2.length ≤ 90000 := by have := (hfoldf j).len; rw [hl2]; omega
        refine wp_roundI H2.g0 rfl ?_
        rw [putAll_one]
        simp -implicitDefEqProofs only [↓GP, GB, GL, Nat.reduceAdd, Nat.reduceSub, Nat.reduceEqDiff, Nat.reduceMul, Nat.reduceLeDiff, Int.reduceBNe, Int.reduceBEq, Nat.reduceLT, reduceCtorEq, a90_1, encW]
        have h3 := (H2.alloc (.cells [I 0, I 0] none)).set0 (.cells (encW v) none)
        refine wp_roundMid h3.tl.g0 ?_
        have h4 := h3.set1 (.loop .busy)
        have mb2 : (tb, some (O.cells [ptrN t] none)) ∈ huntC t lk2 mk (ptrN hp.id) l2 m2 ++ ((a, some (.cells [ptrN hp.id] none)) :: (b, some (.cells (encW w) none)) :: C) := List.mem_append_right _ (List.mem_cons_of_mem _ (List.mem_cons_of_mem _ mb))
        have fb2 := H2.mem (List.mem_cons_of_mem _ mb2)
        have ne2 := H2.ne (Holds.ids_mem.2 ⟨_, mb2⟩)
        have kl := H2.l0
        simp -implicitDefEqProofs only [↓GP, GB, GL, Nat.reduceAdd, Nat.reduceSub, Nat.reduceEqDiff, Nat.reduceMul, Nat.reduceLeDiff, Int.reduceBNe, Int.reduceBEq, Nat.reduceLT, reduceCtorEq, b90_1, fb2, ne2, kl, encW]
        have h5 : Holds o _ (huntC t lk2 mk (ptrN hp.id) l2 m2 ++ ((s1.next, some (.loop .busy)) :: (a, some (.cells [ptrN hp.id] none)) :: (b, some (.cells (encW w) none)) :: C)) := (Holds.of (h4) (fun k => by simp +arith only [huntC, HA, HB]) (fun k x => by simp only [huntC, HA, HC]; grind only))
        refine wp_in (s115 (w := v) h5 (h.mono fun y hy => List.mem_cons_of_mem _ (List.mem_cons_of_mem _ (List.mem_cons_of_mem _ hy))) hm2 (by omega) fun s3 lk3 m3 hm3 h6 => ?_)
        simp -implicitDefEqProofs only [↓GP, GB, GL, Nat.reduceAdd, Nat.reduceSub, Nat.reduceEqDiff, Nat.reduceMul, Nat.reduceLeDiff, Int.reduceBNe, Int.reduceBEq, Nat.reduceLT, reduceCtorEq]
        have h7 : Holds o s3 ((s1.next, some (.loop .busy)) :: (huntC t lk3 mk (ptrN hp.id) (putW hp l2 v) m3 ++ ((a, some (.cells [ptrN hp.id] none)) :: (b, some (.cells (encW w) none)) :: C))) := (Holds.of (h6) (fun k => by simp +arith only [huntC, HA, HB]) (fun k x => by simp only [huntC, HA, HC]; grind only))
        refine wp_roundEnd h7.g0 ⟨rfl, (putW hp l2 v, lk3, m3), ⟨hm3, ?_⟩, h7.set0 (.loop .ready)⟩
        show putW hp l2 v = _
        rw [List.take_add_one, hv, Option.toList_some, List.foldl_append, ← hl2]
        rfl
      · obtain ⟨l2, lk2, m2⟩ := g2
        obtain ⟨hm2, hl2⟩ := hP2
        simp only at hm2 hl2 h3
        rw [List.take_length] at hl2
        subst hl2
        refine wp_rangeEnd h3.g0 ?_
        simp -implicitDefEqProofs only [↓GP, GB, GL, Nat.reduceAdd, Nat.reduceSub, Nat.reduceEqDiff, Nat.reduceMul, Nat.reduceLeDiff, Int.reduceBNe, Int.reduceBEq, Nat.reduceLT, reduceCtorEq, hw1]
        rw [hLL]
        exact ih (i + 1) lk2 _ m2 _ (by omega) (hf.puts _) hm2 ((Holds.of (h3.kill) (fun k => by simp +arith only [huntC, HA, HB]) (fun k x => by simp only [huntC, HA, HC]; grind only))) q
    · have hlt : ¬ ((i : Int) < (l.length : Int)) := by omega
      rw [bfs_out (by omega)] at q
      refine wp_round fun LL hLL => ?_
      simp -implicitDefEqProofs only [↓GP, GB, GL, Nat.reduceAdd, Nat.reduceSub, Nat.reduceEqDiff, Nat.reduceMul, Nat.reduceLeDiff, Int.reduceBNe, Int.reduceBEq, Nat.reduceLT, reduceCtorEq, l90_2, ft, fb, hlt]
      exact q s lk mm hm H
theorem rowO_z : rowO 2 0 [] = none := rfl
theorem I0 : V.int .i64 0 = I ((0 : Nat) : Int) := rfl
theorem rowV_z (k : Nat) : rowV k 0 = .slice none 0 (some 0) := rfl
theorem seenF_nil : MapIs encA (seenF []) (.map [] 0) := (show (fun _ => none) = seenF [] by funext w; unfold seenF; simp) ▸ mapIs_nil
theorem s90 {hp : PHeap} {kr : Nat} {roots : List (Int × Int)} (H : Holds o s C) (h : Look C p hp) (hr : (kr, rowO 2 roots.length (roots.flatMap encW)) ∈ C) (hrl : roots.length ≤ 1000000) (hall : (allW hp).length ≤ 90000)
    (q : ∀ s' t lk mk m, MapIs encA (seenF (reachW hp roots)) m → Holds o s' (huntC t lk mk (ptrN hp.id) (reachW hp roots) m ++ C) → Q (ptrN t) s') : WP (call PF 90 [ptrN hp.id, rowV kr roots.length] s) Q := by
  rw [call_run F90]; simp -implicitDefEqProofs only [↓GP, GB, GL, Nat.reduceAdd, Nat.reduceSub, Nat.reduceEqDiff, Nat.reduceMul, Nat.reduceLeDiff, Int.reduceBNe, Int.reduceBEq, Nat.reduceLT, reduceCtorEq, c90]
  have h1 := ((H.alloc (.map [] 0)).alloc (.cells [ptrN hp.id, .slice none 0 (some 0), .map (some (.new s.next))] none)).nilEntry 0
  have h2 := ((h1.alloc (.cells [.ptr none] none)).set0 (.cells [ptrN (s.next + 1)] none))
  have h3 : Holds o _ (huntC (s.next + 1) 0 s.next (ptrN hp.id) [] (.map [] 0) ++ ((s.next + 2, some (.cells [ptrN (s.next + 1)] none)) :: C)) := (Holds.of (h2) (fun k => by simp +arith only [huntC, List.length_nil, rowV_z, List.flatMap_nil, rowO_z, HA, HB]) (fun k x => by simp only [huntC, List.length_nil, rowV_z, List.flatMap_nil, rowO_z, HA, HC]; grind only))
  have := put_loop (K := blockK 0 (seqK (loop PF) (call PF) j90_bbb (finR [(4, none)]))) (Q := Q) (h.cons _) (List.mem_cons_of_mem _ hr) (List.mem_cons_self ..) hrl (by omega) roots.length 0 0 [] (.map [] 0) _ (by omega) (Found.nil hp) seenF_nil h3
  simp only [Int.natCast_zero, List.drop_zero] at this
  refine this fun s1 lk1 m1 hm1 h4 => ?_
  simp -implicitDefEqProofs only [↓GP, GB, GL, Nat.reduceAdd, Nat.reduceSub, Nat.reduceEqDiff, Nat.reduceMul, Nat.reduceLeDiff, Int.reduceBNe, Int.reduceBEq, Nat.reduceLT, reduceCtorEq, j90_bbb]
  have := hunt_loop (K := blockK 2 (seqK (loop PF) (call PF) j90_bbbb (finR [(4, none)]))) (Q := Q) (h.cons (s.next + 2, some (.cells [ptrN (s.next + 1)] none))) (List.mem_cons_self ..) hall ((allW hp).length + 1) 0 lk1 _ m1 s1 (by omega) ((Found.nil hp).puts roots) hm1 h4
  simp only [Int.natCast_zero] at this
  refine this fun s2 lk2 m2 hm2 h5 => ?_
  rw [show bfs hp ((allW hp).length + 1) 0 (roots.foldl (putW hp) []) = reachW hp roots from rfl] at h5 hm2
  have f := h5.mem (List.mem_append_right _ (List.mem_cons_self ..))
  simp -implicitDefEqProofs only [↓GP, GB, GL, Nat.reduceAdd, Nat.reduceSub, Nat.reduceEqDiff, Nat.reduceMul, Nat.reduceLeDiff, Int.reduceBNe, Int.reduceBEq, Nat.reduceLT, reduceCtorEq, j90_bbbb, f]
  exact q s2 (s.next + 1) lk2 s.next m2 hm2 (Holds.of (h5) (fun k => by simp +arith only [huntC, HA, HB]) (fun k x => by simp only [huntC, HA, HC]; grind only))
end
end Go.Proofs.Ytoldkemimhebaaa

set_option linter.unusedSimpArgs false
set_option linter.unusedVariables false
namespace Go.Proofs.Ytoldkemimhebaaa
open Go Go.IM
def l5_0 : IC := (.seq (.seq (.seq (.region [oa 33 (.mov (.t 10)), oa 34 (.mov (.t 0)), oa 35 (.lenSlice (.t 34)), oa 36 (.bin .lss (.t 33) (.t 35))] (kp 112 [0,1,5,6,9,10,36]))
  (.cond (.t 36)
  (sk 112 [0,1,5,6,9,10])
  (sx 112 [1,6,9] 0)))
  (.seq (.block 1
  (.region [oa 39 (.mov (.t 5)), oa 40 (.indexAddr 1 (.t 39) (ai 0)), oa 41 (.load none (.t 40)), oa 42 (.mov (.t 0)), oa 43 (.mov (.t 10)), oa 44 (.indexAddr 11 (.t 42) (.t 43)), oa 45 (.load (some 11) (.t 44)), oa 46 (.call 26 [(.t 41), (.t 45)])] (kp 112 [0,1,5,6,9,10])))
  (.region [oa 37 (.mov (.t 10)), oa 38 (.bin .add (.t 37) (ai 1)), oa 10 (.mov (.t 38))] (kp 112 [0,1,5,6,9,10]))))
  (sk 112 [0,1,5,6,9,10]))
def l5_1 : IC := (.seq (.seq (.seq (.region [oa 47 (.mov (.t 9)), oa 48 (.call 27 [(.t 47)]), oa 49 (.bin .gtr (.t 48) (ai 1))] (kp 112 [1,6,9,49]))
  (.cond (.t 49)
  (sk 112 [1,6,9])
  (sx 112 [6,9] 2)))
  (.block 3
  (.seq (.region [oa 50 (.mov (.t 9)), oa 51 (.call 27 [(.t 50)]), oa 52 (.bin .sub (.t 51) (ai 1)), oa 11 (.mov (.t 52))] (kp 112 [1,6,9,11]))
  (.seq (.region [oa 54 (.mov (.t 9)), oa 55 (.mov (.t 11)), oa 56 (.call 29 [(.t 54), (.t 55)]), oa 53 (.mov (.t 56)), oa 57 (.extract (.t 53) 0), oa 58 (.extract (.t 53) 1), oa 12 (.mov (.t 57)), oa 13 (.mov (.t 58))] (kp 112 [1,6,9,11,12,13]))
  (.seq (.region [oa 59 (.mov (.t 6)), oa 60 (.call 19 [(.t 59)]), oa 14 (.mov (.t 60))] (kp 112 [1,6,9,11,12,13,14]))
  (.seq (.seq (.region [oa 61 (.mov (.t 13)), oa 62 (.bin .neq (.t 61) (ai 0))] (kp 112 [1,6,9,11,12,14,62]))
  (.cond (.t 62)
  (.seq (.region [oa 4 (.mov (.c (.bool false)))] (kp 112 [4]))
  (sr 112 [4]))
  (sk 112 [1,6,9,11,12,14])))
  (.seq (.seq (.region [oa 63 (.mov (.t 1))] (kp 112 [1,6,9,11,12,14,63]))
  (.cond (.t 63)
  (.seq (.region [oa 65 (.mov (.t 9)), oa 66 (.mov (.t 11)), oa 67 (.call 31 [(.t 65), (.t 66)]), oa 64 (.mov (.t 67)), oa 68 (.extract (.t 64) 0), oa 69 (.extract (.t 64) 1), oa 13 (.mov (.t 69))] (kp 112 [1,6,9,12,13,14]))
  (.seq (.seq (.region [oa 70 (.mov (.t 13)), oa 71 (.bin .neq (.t 70) (ai 0)), oa 72 (.mov (.t 71)), oc 73 (.mov (.t 6)) 72 ff, oc 74 (.call 19 [(.t 73)]) 72 ff, oc 75 (.mov (.t 14)) 72 ff, oc 76 (.mov (.t 12)) 72 ff, oc 77 (.lenSlice (.t 76)) 72 ff, oc 78 (.bin .add (.t 75) (.t 77)) 72 ff, oc 79 (.bin .neq (.t 74) (.t 78)) 72 ff, oa 80 (.pick (.t 72) (.c (.bool true)) (.t 79))] (kp 112 [1,6,9,80]))
  (.cond (.t 80)
  (.seq (.region [oa 4 (.mov (.c (.bool false)))] (kp 112 [4]))
  (sr 112 [4]))
  (sk 112 [1,6,9])))
  (.seq (.region [oa 12 (.mov (.c (.slice none 0 (some 0))))] (kp 112 [1,6,9,12]))
  (.region [oa 81 (.mov (.t 6)), oa 82 (.call 19 [(.t 81)]), oa 14 (.mov (.t 82))] (kp 112 [1,6,9,12,14])))))
  (sk 112 [1,6,9,12,14])))
  (.seq (.region [oa 84 (.mov (.t 9)), oa 85 (.call 32 [(.t 84)]), oa 83 (.mov (.t 85)), oa 86 (.extract (.t 83) 0), oa 87 (.extract (.t 83) 1), oa 15 (.mov (.t 86)), oa 13 (.mov (.t 87))] (kp 112 [1,6,9,12,13,14,15]))
  (.seq (.region [oa 88 (.mov (.t 13)), oa 89 (.bin .neq (.t 88) (ai 0)), oa 90 (.mov (.t 89)), oc 91 (.mov (.t 15)) 90 ff, oc 92 (.mov (.t 12)) 90 ff, oc 93 (.lenSlice (.t 92)) 90 ff, oc 94 (.bin .neq (.t 91) (.t 93)) 90 ff, oa 95 (.pick (.t 90) (.c (.bool true)) (.t 94)), oa 96 (.mov (.t 95)), oc 97 (.mov (.t 6)) 96 ff, oc 98 (.call 19 [(.t 97)]) 96 ff, oc 99 (.mov (.t 14)) 96 ff, oc 100 (.mov (.t 15)) 96 ff, oc 101 (.bin .add (.t 99) (.t 100)) 96 ff, oc 102 (.bin .neq (.t 98) (.t 101)) 96 ff, oa 103 (.pick (.t 96) (.c (.bool true)) (.t 102))] (kp 112 [1,6,9,103]))
  (.cond (.t 103)
  (.seq (.region [oa 4 (.mov (.c (.bool false)))] (kp 112 [4]))
  (sr 112 [4]))
  (sk 112 [1,6,9])))))))))))
  (sk 112 [1,6,9]))
def c5 : IFn := ⟨112, [(4, none)],
  (.seq (.region [oa 4 (.mov (.c (.bool false)))] (kp 112 [0,1]))
  (.seq (.seq (.region [oa 16 (.mov (.t 0)), oa 17 (.call 24 [(.t 16)])] (kp 112 [0,1,17]))
  (.cond (.t 17)
  (.seq (.region [oa 18 (.call 23 []), oa 4 (.mov (.t 18))] (kp 112 [4]))
  (sr 112 [4]))
  (sk 112 [0,1])))
  (.seq (.region [oa 20 (.call 25 [(ai 12), (ai 1)]), oa 19 (.mov (.t 20)), oa 21 (.extract (.t 19) 0), oa 22 (.extract (.t 19) 1), oa 23 (.extract (.t 19) 2), oa 24 (.extract (.t 19) 3), oa 5 (.mov (.t 21)), oa 6 (.mov (.t 22)), oa 7 (.mov (.t 23)), oa 8 (.mov (.t 24))] (kp 112 [0,1,5,6,8]))
  (.seq (.seq (.region [oa 25 (.mov (.t 8)), oa 26 (.un .not (.t 25))] (kp 112 [0,1,5,6,26]))
  (.cond (.t 26)
  (.seq (.region [oa 4 (.mov (.c (.bool false)))] (kp 112 [4]))
  (sr 112 [4]))
  (sk 112 [0,1,5,6])))
  (.seq (.region [oa 27 (.mov (.t 5)), oa 28 (.indexAddr 1 (.t 27) (ai 0)), oa 29 (.load none (.t 28)), oa 30 (.nilCheck (.t 29)), oa 31 (.fieldAddr 0 (.t 30)), oa 32 (.load none (.t 31)), oa 9 (.mov (.t 32))] (kp 112 [0,1,5,6,9]))
  (.seq (.seq (.region [oa 10 (.mov (ai 0))] (kp 112 [0,1,5,6,9,10]))
  (.block 0
  (.seq (sk 112 [0,1,5,6,9,10])
  (.loop l5_0))))
  (.seq (.block 2
  (.seq (sk 112 [1,6,9])
  (.loop l5_1)))
  (.seq (.region [oa 104 (.mov (.t 9)), oa 105 (.call 33 [(.t 104)])] (kp 112 [6]))
  (.seq (.region [oa 106 (.mov (.t 6)), oa 107 (.call 21 [(.t 106)]), oa 108 (.bin .eql (.t 107) (ai 0)), oa 109 (.mov (.t 108)), oc 110 (.call 23 []) 109 tt, oa 111 (.pick (.t 109) (.t 110) (.c (.bool false))), oa 4 (.mov (.t 111))] (kp 112 [4]))
  (sr 112 [4]))))))))))⟩
section
variable {o : Nat → Option O} {s : St} {C F : Ch} {Q : V → St → Prop} {p r q t : Nat} {u : List Bool} {others : List Nat} {G : PairG}
set_option maxRecDepth 10000
set_option maxHeartbeats 4000000
structure POk (u : List Bool) (hp : PHeap) : Prop where
  ulen : u.length ≤ 30
  inv : HInv hp.lives (hp.regs.map PReg.m)
  pool : PoolInv u ((hp.regs.map PReg.m).flatMap (·.pages))
  pok : ∀ g ∈ hp.regs, g.ok
theorem POk.ne {hp : PHeap} (h : POk u hp) : hp.regs ≠ [] := fun e => h.inv.ne (by rw [e]; rfl)
theorem POk.len {hp : PHeap} (h : POk u hp) : hp.regs.length ≤ 100000 := by have h1 := h.inv.len; have h2 := h.inv.lives; rw [List.length_map] at h1; omega
theorem POk.last {hp : PHeap} (h : POk u hp) {A : List PReg} {g : PReg} (e : hp.regs = A ++ [g]) : PoolInv u (g.pages ++ (A.map PReg.m).flatMap (·.pages)) := by
  have := h.pool
  rw [e] at this
  refine this.perm ?_
  simp only [List.map_append, List.map_cons, List.map_nil, List.flatMap_append, List.flatMap_cons, List.flatMap_nil, List.append_nil]
  exact List.perm_append_comm
theorem POk.pop {hp : PHeap} (h : POk u hp) {A : List PReg} {g : PReg} (e : hp.regs = A ++ [g]) (h0 : A ≠ []) (sl : List V) : POk (freeP u g.pages) { hp with regs := A, sl := sl } where
  ulen := by rw [freeP_len]; exact h.ulen
  inv := by
    have hi := h.inv
    rw [e] at hi
    simp only [List.map_append, List.map_cons, List.map_nil] at hi
    refine ⟨hi.lives, by simpa using h0, by have := hi.len; simp at this ⊢; omega, ?_, fun r hr => hi.life r (List.mem_append_left _ hr), fun r hr => hi.reg r (List.mem_append_left _ hr)⟩
    have := hi.nodup
    rw [List.map_append, List.nodup_append] at this
    exact this.1
  pool := (h.last e).free
  pok := fun x hx => h.pok x (by rw [e]; exact List.mem_append_left _ hx)
theorem POk.reset {hp : PHeap} (h : POk u hp) {A : List PReg} {g : PReg} {k : Nat} (e : hp.regs = A ++ [g]) (hl : hp.lives < 100000) :
    POk (freeP u g.pages) { hp with lives := hp.lives + 1, regs := A ++ { g with life := hp.lives + 1, fill := 0, pages := [], objs := [], plk := k, pl := .map [] 0 } :: [] } where
  ulen := by rw [freeP_len]; exact h.ulen
  inv := by
    have hi := h.inv
    rw [e] at hi
    simp only [List.map_append, List.map_cons, List.map_nil] at hi
    refine ⟨by simp only; omega, by simp, by have := hi.len; simp at this ⊢; omega, ?_, ?_, ?_⟩
    · have hn := hi.nodup
      simp only [List.map_append, List.map_cons, List.map_nil, List.nodup_append] at hn ⊢
      refine ⟨hn.1, by simp, fun x hx y hy => ?_⟩
      obtain ⟨r, hr, rfl⟩ := List.mem_map.1 hx
      have := (hi.life r (List.mem_append_left _ hr)).2
      simp [PReg.m] at hy
      omega
    · intro r hr
      simp only [List.map_append, List.map_cons, List.map_nil, List.mem_append, List.mem_cons, List.not_mem_nil, or_false] at hr
      rcases hr with hr | rfl
      · have := hi.life r (List.mem_append_left _ hr); simp only; omega
      · simp only [PReg.m]; omega
    · intro r hr
      simp only [List.map_append, List.map_cons, List.map_nil, List.mem_append, List.mem_cons, List.not_mem_nil, or_false] at hr
      rcases hr with hr | rfl
      · exact hi.reg r (List.mem_append_left _ hr)
      · have := (hi.reg g.m (by simp)).size
        exact ⟨this, by simp [PReg.m], fun _ => by simp [PReg.m], fun _ => Packed.nil, fun x hx => by simp [PReg.m] at hx⟩
  pool := by
    have := (h.last e).free
    simpa [PReg.m] using this
  pok := by
    intro x hx
    simp only [List.mem_append, List.mem_cons, List.not_mem_nil, or_false] at hx
    rcases hx with hx | rfl
    · exact h.pok x (by rw [e]; simp [hx])
    · exact mapIs_nil
end
end Go.Proofs.Ytoldkemimhebaaa

set_option linter.unusedSimpArgs false
set_option linter.unusedVariables false
namespace Go.Proofs.Ytoldkemimhebaaa
open Go Go.IM
def layObj (ys : List Obj) (ats : List Nat) : List Obj := List.zipWith (fun x a => { x with at_ := a }) ys ats
theorem layObj_os : ∀ (ys : List Obj) (ats : List Nat), ats.length = ys.length → (layObj ys ats).map (fun x => (x.at_, x.ws.length + 1)) = ats.zip (ys.map fun x => x.ws.length + 1)
  | [], [], _ => rfl
  | [], _ :: _, h => by simp at h
  | _ :: _, [], h => by simp at h
  | y :: ys, a :: ats, h => by
    have := layObj_os ys ats (by simpa using h)
    simp only [layObj] at this
    simp only [layObj, List.zipWith_cons_cons, List.map_cons, List.zip_cons_cons, this]
theorem layObj_mem : ∀ (ys : List Obj) (ats : List Nat), ∀ z ∈ layObj ys ats, ∃ y ∈ ys, z.ws = y.ws ∧ z.kind = y.kind
  | [], _, z, h => by simp [layObj] at h
  | _ :: _, [], z, h => by simp [layObj] at h
  | y :: ys, a :: ats, z, h => by
    simp only [layObj, List.zipWith_cons_cons, List.mem_cons] at h
    rcases h with rfl | h
    · exact ⟨y, List.mem_cons_self .., rfl, rfl⟩
    · obtain ⟨y', h1, h2⟩ := layObj_mem ys ats z h
      exact ⟨y', List.mem_cons_of_mem _ h1, h2⟩
structure RsOk (lv : Nat) (u : List Bool) (regs : List Reg) : Prop where
  ulen : u.length ≤ 30
  inv : HInv lv regs
  pool : PoolInv u (regs.flatMap (·.pages))
theorem RsOk.turn {lv : Nat} {u : List Bool} {A B : List Reg} {g : Reg} (h : RsOk lv u (A ++ g :: B)) (hs : g.size = 0) {ys : List Obj} (hx : ys.Sublist g.objs) :
    ∃ ats u' fill' pages', layM 0 g.life (ys.map fun x => x.ws.length + 1) (freeP u g.pages) 0 [] = some (ats, u', fill', pages') ∧ ats.Nodup ∧ pages'.length ≤ 30 ∧ ats.length = ys.length ∧ u'.length = u.length ∧
      RsOk lv u' (A ++ { g with fill := fill', pages := pages', objs := layObj ys ats } :: B) := by
  have hi := h.inv.reg g (by simp)
  have hpk := hi.inf hs
  have hp1 : PoolInv u (g.pages ++ (A.flatMap (·.pages) ++ B.flatMap (·.pages))) := by
    have := h.pool
    refine this.perm ?_
    simp only [List.flatMap_append, List.flatMap_cons]
    exact (List.perm_append_comm_assoc _ _ _).symm
  have hfr := hp1.free
  have hf := hpk.fold
  have hsub : (ys.map fun x => x.ws.length + 1).Sublist ((g.objs.map fun x => (x.at_, x.ws.length + 1)).map (·.2)) := by
    simp only [List.map_map]
    exact hx.map _
  have hle := fold_sub hsub (Le2.refl (0, 0))
  rw [hf] at hle
  have hcnt : g.pages.length ≤ (freeP u g.pages).count false := by
    have c1 := hfr.count
    have c2 := count_both (freeP u g.pages)
    have c3 := hp1.len
    rw [freeP_len] at c2
    rw [List.length_append] at c3
    omega
  obtain ⟨⟨ats, u', fill', pages'⟩, hlay, hlen⟩ := layM_some (life := g.life) (ys.map fun x => x.ws.length + 1) (freeP u g.pages) 0 [] (by
    have : ((ys.map fun x => x.ws.length + 1).foldl step (0, 0)).1 ≤ g.pages.length := by unfold Le2 at hle; omega
    simp only [List.length_nil]; omega)
  have hp2 : PoolInv (freeP u g.pages) ([] ++ (A.flatMap (·.pages) ++ B.flatMap (·.pages))) := hfr
  obtain ⟨k1, k2⟩ := lay_packed Packed.nil hp2 hlay
  rw [List.nil_append] at k1
  have hal : ats.length = ys.length := by have := layM_len hlay; simpa using this
  have hul : u'.length = u.length := by have := (layM_pages hlay).2; simp only at this; rw [this, freeP_len]
  have hnd : ats.Nodup := by
    have := k1.nodup (fun x hx' => by
      obtain ⟨a, b⟩ := x
      have := (List.of_mem_zip hx').2
      obtain ⟨y, hy, rfl⟩ := List.mem_map.1 this
      have := hi.ws y (hx.subset hy)
      simp only; omega)
    rwa [List.map_fst_zip (by simp; omega)] at this
  have hul30 := h.ulen
  refine ⟨ats, u', fill', pages', hlay, hnd, ?_, hal, hul, by omega, ?_, ?_⟩
  · have : pages'.length ≤ u'.length := k2.sub_len (List.sublist_append_left pages' _)
    omega
  · have hI := h.inv
    have hmap : (A ++ { g with fill := fill', pages := pages', objs := layObj ys ats } :: B).map (·.life) = (A ++ g :: B).map (·.life) := by simp
    refine ⟨hI.lives, by simp, by have := hI.len; simpa using this, by rw [hmap]; exact hI.nodup, fun r hr => ?_, fun r hr => ?_⟩
    · rcases List.mem_append.1 hr with hr | hr
      · exact hI.life r (List.mem_append_left _ hr)
      · rcases List.mem_cons.1 hr with rfl | hr
        · exact hI.life g (by simp)
        · exact hI.life r (by simp [hr])
    · rcases List.mem_append.1 hr with hr | hr
      · exact hI.reg r (List.mem_append_left _ hr)
      · rcases List.mem_cons.1 hr with rfl | hr
        · refine ⟨hi.size, fun z hz => ?_, fun h0 => ?_, fun _ => ?_, fun z hz => ?_⟩
          · obtain ⟨y, hy, e1, e2⟩ := layObj_mem _ _ z hz
            rw [e1, e2]; exact hi.ws y (hx.subset hy)
          · simp only at h0; omega
          · show Packed ((layObj ys ats).map _) _ _
            rw [layObj_os ys ats hal]; exact k1
          · obtain ⟨y, hy, e1, e2⟩ := layObj_mem _ _ z hz
            rw [e1]; exact hi.wl y (hx.subset hy)
        · exact hI.reg r (by simp [hr])
  · refine k2.perm ?_
    simp only [List.flatMap_append, List.flatMap_cons]
    exact List.perm_append_comm_assoc _ _ _
end Go.Proofs.Ytoldkemimhebaaa

set_option linter.unusedSimpArgs false
set_option linter.unusedVariables false
namespace Go.Proofs.Ytoldkemimhebaaa
open Go Go.IM
def c91 : IFn := ⟨16, [(4, none)],
  (.seq (.region [oa 4 (.mov (.c (.bool false)))] (kp 16 [0,1]))
  (.seq (.region [oa 8 (.mov (.t 0)), oa 9 (.mov (.t 1)), oa 10 (.call 29 [(.t 8), (.t 9)]), oa 7 (.mov (.t 10)), oa 11 (.extract (.t 7) 0), oa 12 (.extract (.t 7) 1), oa 5 (.mov (.t 11)), oa 6 (.mov (.t 12))] (kp 16 [5]))
  (.seq (.region [oa 13 (.mov (.t 5)), oa 14 (.lenSlice (.t 13)), oa 15 (.bin .gtr (.t 14) (ai 0)), oa 4 (.mov (.t 15))] (kp 16 [4]))
  (sr 16 [4]))))⟩
theorem F91 : shutF Try.prog 91 = some c91 := by kernel_rfl
section
variable {o : Nat → Option O} {s : St} {C F : Ch} {Q : V → St → Prop} {p r : Nat} {u : List Bool}
set_option maxRecDepth 10000
set_option maxHeartbeats 4000000
theorem s89 (hC : Holds o s C) {hp : PHeap} {p : Nat} (hin : In C p hp) (h0 : hp.regs ≠ []) (hl : hp.regs.length ≤ 100000) : call PF 89 [ptrN hp.id] s = some (.bool false, s) := by
  have e := s27 hC hin
  have h1 := List.length_pos_iff.2 h0
  have h2 : ((hp.regs.length : Int) == 0) = false := by simp; omega
  rw [call_run F89]; simp -implicitDefEqProofs only [↓GP, GB, GL, Nat.reduceAdd, Nat.reduceSub, Nat.reduceEqDiff, Nat.reduceMul, Nat.reduceLeDiff, Int.reduceBNe, Int.reduceBEq, Nat.reduceLT, reduceCtorEq, c89, e, h2]
theorem s91 (hC : Holds o s C) {hp : PHeap} {p i : Nat} (hin : In C p hp) (hlen : hp.regs.length ≤ 100000) {g : PReg} (hr : hp.regs[i]? = some g) (hpl : g.pages.length ≤ 400)
    (q : ∀ s', Holds o s' C → Q (.bool (decide (0 < g.pages.length))) s') : WP (call PF 91 [ptrN hp.id, I i] s) Q := by
  rw [call_run F91]; simp -implicitDefEqProofs only [↓GP, GB, GL, Nat.reduceAdd, Nat.reduceSub, Nat.reduceEqDiff, Nat.reduceMul, Nat.reduceLeDiff, Int.reduceBNe, Int.reduceBEq, Nat.reduceLT, reduceCtorEq, c91]
  refine wp_in (s29 hC hin hlen hr hpl fun s1 k h1 => ?_)
  by_cases h0 : 0 < g.pages.length
  · have h0' : ((g.pages.length : Int) > 0) := by omega
    simp -implicitDefEqProofs only [↓GP, GB, GL, Nat.reduceAdd, Nat.reduceSub, Nat.reduceEqDiff, Nat.reduceMul, Nat.reduceLeDiff, Int.reduceBNe, Int.reduceBEq, Nat.reduceLT, reduceCtorEq, h0']
    have := q s1 h1.tl
    rwa [decide_eq_true h0] at this
  · have h0' : ¬ ((g.pages.length : Int) > 0) := by omega
    simp -implicitDefEqProofs only [↓GP, GB, GL, Nat.reduceAdd, Nat.reduceSub, Nat.reduceEqDiff, Nat.reduceMul, Nat.reduceLeDiff, Int.reduceBNe, Int.reduceBEq, Nat.reduceLT, reduceCtorEq, h0']
    have := q s1 h1.tl
    rwa [decide_eq_false h0] at this
def nowW (to : Int × Int → Option (Int × Int)) (fx : List (Int × Int)) (w : Int × Int) : Int × Int := if w.2 = 0 then w else match to w with | some n => n | none => if w ∈ fx then w else (-1, w.2)
def wordsP (life : Nat) (xs : List PObj) : List (Int × Int) := xs.map fun x => ((x.b.at_ : Int), (life : Int))
theorem pick_filter {life : Nat} (f : PObj → Bool) : ∀ {os : List PObj}, (os.map (·.b.at_)).Nodup → pickM life os (wordsP life (os.filter f)) = some (os.filter f)
  | [], _ => rfl
  | x :: os, h => by
    rw [List.map_cons, List.nodup_cons] at h
    have ih := pick_filter (life := life) f (os := os) h.2
    cases hf : f x with
    | true =>
      rw [List.filter_cons_of_pos hf]
      show pickM life (x :: os) (((x.b.at_ : Int), (life : Int)) :: wordsP life (os.filter f)) = _
      rw [pickM]
      have e : (x :: os).findIdx (fun y => decide ((y.b.at_ : Int) = (x.b.at_ : Int))) = 0 := by simp [List.findIdx_cons]
      rw [e, List.drop_zero]
      simp only [if_true, ih, Option.map_some]
    | false =>
      rw [List.filter_cons_of_neg (by rw [hf]; simp)]
      cases hos : os.filter f with
      | nil => rfl
      | cons y ys =>
        rw [hos] at ih
        have hy : y ∈ os := (List.mem_filter.1 (hos ▸ List.mem_cons_self ..)).1
        have hne : ¬ ((x.b.at_ : Int) = (y.b.at_ : Int)) := fun e => h.1 (List.mem_map.2 ⟨y, hy, by omega⟩)
        show pickM life (x :: os) (((y.b.at_ : Int), (life : Int)) :: wordsP life ys) = _
        rw [pickM]
        have e : (x :: os).findIdx (fun z => decide ((z.b.at_ : Int) = (y.b.at_ : Int))) = os.findIdx (fun z => decide ((z.b.at_ : Int) = (y.b.at_ : Int))) + 1 := by
          rw [List.findIdx_cons]; simp [hne]
        rw [e, List.drop_succ_cons]
        have ih' : pickM life os (((y.b.at_ : Int), (life : Int)) :: wordsP life ys) = some (y :: ys) := ih
        rw [pickM] at ih'
        exact ih'
abbrev ToF := Int × Int → Option (Int × Int)
def updF (to : ToF) (x : (Int × Int) × (Int × Int)) : ToF := fun w => if w = x.1 then some x.2 else to w
end
end Go.Proofs.Ytoldkemimhebaaa

set_option linter.unusedSimpArgs false
set_option linter.unusedVariables false
namespace Go.Proofs.Ytoldkemimhebaaa
open Go Go.IM
def wordsR (g : Reg) : List (Int × Int) := g.objs.map fun x => ((x.at_ : Int), (g.life : Int))
structure ColS where
  regs : List Reg
  u : List Bool
  mv : ToF
  fx : List (Int × Int)
  objs : List (Int × Int)
def keptM (L : List (Int × Int)) (g : Reg) : List Obj := g.objs.filter fun x => decide (((x.at_ : Int), (g.life : Int)) ∈ L)
def colStep (L : List (Int × Int)) (S : ColS) (g : Reg) : ColS :=
  if 0 < g.pages.length then
    match layM 0 g.life ((keptM L g).map fun x => x.ws.length + 1) (freeP S.u g.pages) 0 [] with
    | some (ats, u', fill', pages') => ⟨S.regs ++ [{ g with fill := fill', pages := pages', objs := layObj (keptM L g) ats }], u',
        (((keptM L g).map fun x => ((x.at_ : Int), (g.life : Int))).zip (ats.map fun a : Nat => ((a : Int), (g.life : Int)))).foldl updF S.mv, S.fx, S.objs⟩
    | none => ⟨S.regs ++ [g], S.u, S.mv, S.fx, S.objs⟩
  else ⟨S.regs ++ [g], S.u, S.mv, S.fx ++ wordsR g, S.objs ++ wordsR g⟩
section
variable {o : Nat → Option O} {s : St} {C F : Ch} {Q : V → St → Prop} {p r : Nat} {u : List Bool}
set_option maxRecDepth 10000
set_option maxHeartbeats 4000000
theorem kept_m (L : List (Int × Int)) (g : PReg) : keptM L g.m = (g.objs.filter fun x => decide (((x.b.at_ : Int), (g.life : Int)) ∈ L)).map (·.b) := by
  unfold keptM PReg.m
  rw [List.filter_map]
  rfl
theorem words_m (g : PReg) : wordsR g.m = wordsP g.life g.objs := by
  unfold wordsR wordsP PReg.m
  rw [List.map_map]
  rfl
end
end Go.Proofs.Ytoldkemimhebaaa

set_option linter.unusedSimpArgs false
set_option linter.unusedVariables false
namespace Go.Proofs.Ytoldkemimhebaaa
open Go Go.IM
section
variable {o : Nat → Option O} {s : St} {C F : Ch} {Q : V → St → Prop} {p r : Nat} {u : List Bool}
set_option maxRecDepth 10000
set_option maxHeartbeats 4000000
def toD (mv : ToF) (w : Int × Int) : Int × Int := (mv w).getD (0, 0)
end
end Go.Proofs.Ytoldkemimhebaaa

set_option linter.unusedSimpArgs false
set_option linter.unusedVariables false
namespace Go.Proofs.Ytoldkemimhebaaa
open Go Go.IM
def Obj.wr (x : Obj) (ws : List (Int × Int)) : Obj := { x with ws := ws }
def PObj.wr (x : PObj) (ws : List (Int × Int)) : PObj := { x with b := x.b.wr ws }
def setObj1 (w : Int × Int) (f : List (Int × Int) → List (Int × Int)) (x : Obj) : Obj := if (x.at_ : Int) = w.1 then x.wr (f x.ws) else x
def setReg1 (w : Int × Int) (f : List (Int × Int) → List (Int × Int)) (g : Reg) : Reg := if (g.life : Int) = w.2 then { g with objs := g.objs.map (setObj1 w f) } else g
def setM (w : Int × Int) (f : List (Int × Int) → List (Int × Int)) (rs : List Reg) : List Reg := rs.map (setReg1 w f)
theorem setReg1_life (w : Int × Int) (f) (g : Reg) : (setReg1 w f g).life = g.life := by unfold setReg1; split <;> rfl
theorem setReg1_pages (w : Int × Int) (f) (g : Reg) : (setReg1 w f g).pages = g.pages := by unfold setReg1; split <;> rfl
theorem setReg1_size (w : Int × Int) (f) (g : Reg) : (setReg1 w f g).size = g.size := by unfold setReg1; split <;> rfl
theorem setReg1_fill (w : Int × Int) (f) (g : Reg) : (setReg1 w f g).fill = g.fill := by unfold setReg1; split <;> rfl
theorem setObj1_at (w : Int × Int) (f) (x : Obj) : (setObj1 w f x).at_ = x.at_ := by unfold setObj1; split <;> rfl
theorem setObj1_kind (w : Int × Int) (f) (x : Obj) : (setObj1 w f x).kind = x.kind := by unfold setObj1; split <;> rfl
theorem setObj1_len (w : Int × Int) {f : List (Int × Int) → List (Int × Int)} (hf : ∀ l, (f l).length = l.length) (x : Obj) : (setObj1 w f x).ws.length = x.ws.length := by
  unfold setObj1; split
  · exact hf _
  · rfl
def shapeR (g : Reg) : Nat × Nat × Nat × List Nat × List (Nat × Nat × Nat) := (g.size, g.life, g.fill, g.pages, g.objs.map fun x => (x.at_, x.kind, x.ws.length))
theorem setReg1_shape (w : Int × Int) {f : List (Int × Int) → List (Int × Int)} (hf : ∀ l, (f l).length = l.length) (g : Reg) : shapeR (setReg1 w f g) = shapeR g := by
  unfold shapeR
  rw [setReg1_size, setReg1_life, setReg1_fill, setReg1_pages]
  unfold setReg1
  split
  · simp only [List.map_map]
    congr 4
    exact List.map_congr_left fun x _ => by simp only [Function.comp, setObj1_at, setObj1_kind, setObj1_len w hf]
  · rfl
theorem setM_shape (w : Int × Int) {f : List (Int × Int) → List (Int × Int)} (hf : ∀ l, (f l).length = l.length) (rs : List Reg) : (setM w f rs).map shapeR = rs.map shapeR := by
  unfold setM
  rw [List.map_map]
  exact List.map_congr_left fun g _ => setReg1_shape w hf g
def mfind (N L : Int) (rs : List Reg) : Option Obj := rs.findSome? fun r => if (r.life : Int) = L then r.objs.find? (fun x => decide ((x.at_ : Int) = N)) else none
theorem pf_split {N L : Int} {r : PReg} {x : PObj} (h : pf N L r = some x) : ∃ X Y, r.objs = X ++ x :: Y ∧ ∀ y ∈ X, ¬ ((y.b.at_ : Int) = N) := by
  unfold pf at h
  split at h
  · obtain ⟨_, X, Y, e, hX⟩ := List.find?_eq_some_iff_append.1 h
    exact ⟨X, Y, e, fun y hy => by have := hX y hy; simpa using this⟩
  · cases h
theorem pfind_split {N L : Int} : ∀ {rs : List PReg} {x : PObj}, pfind N L rs = some x → ∃ A g B X Y, rs = A ++ g :: B ∧ g.objs = X ++ x :: Y ∧ (∀ a ∈ A, pf N L a = none) ∧ (g.life : Int) = L ∧ (x.b.at_ : Int) = N ∧ ∀ y ∈ X, ¬ ((y.b.at_ : Int) = N)
  | [], x, h => by simp [pfind] at h
  | r :: rs, x, h => by
    unfold pfind at h
    rw [List.findSome?_cons] at h
    cases hr : pf N L r with
    | some y =>
      rw [hr] at h
      cases h
      obtain ⟨X, Y, e, hX⟩ := pf_split hr
      obtain ⟨e1, e2, e3⟩ := pf_some hr
      exact ⟨[], r, rs, X, Y, rfl, e, (fun a ha => by cases ha), e1, e3, hX⟩
    | none =>
      rw [hr] at h
      obtain ⟨A, g, B, X, Y, e1, e2, e3, e4⟩ := pfind_split h
      exact ⟨r :: A, g, B, X, Y, by rw [e1]; rfl, e2, (fun a ha => by
        rcases List.mem_cons.1 ha with rfl | ha
        · exact hr
        · exact e3 a ha), e4⟩
def fixF (mv : ToF) (fx : List (Int × Int)) (v : Int × Int) : Int × Int := if 0 ≤ (nowW mv fx v).2 ∧ (nowW mv fx v).2 ≤ 100000 then nowW mv fx v else v
theorem RsOk.wl {lv : Nat} {u : List Bool} {rs : List Reg} (h : RsOk lv u rs) : ∀ r ∈ rs, ∀ x ∈ r.objs, ∀ v ∈ x.ws, 0 ≤ v.2 ∧ v.2 ≤ 100000 := fun r hr => (h.inv.reg r hr).wl
end Go.Proofs.Ytoldkemimhebaaa

set_option linter.unusedSimpArgs false
set_option linter.unusedVariables false
namespace Go.Proofs.Ytoldkemimhebaaa
open Go Go.IM
section
variable {o : Nat → Option O} {s : St} {C F : Ch} {Q : V → St → Prop} {p r : Nat} {u : List Bool}
set_option maxRecDepth 10000
set_option maxHeartbeats 4000000
theorem upd_get {α : Type} (f : α → α) (l : List α) (j : Nat) : ((l.take j).map f ++ l.drop j)[j]? = l[j]? := by
  by_cases h : j < l.length
  · rw [List.getElem?_append_right (by simp; omega)]
    simp [List.length_take, Nat.min_eq_left (Nat.le_of_lt h)]
  · rw [List.getElem?_eq_none (by simp; omega), List.getElem?_eq_none (by omega)]
theorem upd_step {α : Type} (f : α → α) {l : List α} {j : Nat} {v : α} (h : l[j]? = some v) : ((l.take j).map f ++ l.drop j).set j (f v) = (l.take (j + 1)).map f ++ l.drop (j + 1) := by
  obtain ⟨hj, e⟩ := List.getElem?_eq_some_iff.1 h
  rw [List.set_append_right _ _ (by simp; omega), List.length_map, List.length_take, Nat.min_eq_left (Nat.le_of_lt hj), Nat.sub_self, List.drop_eq_getElem_cons hj, List.set_cons_zero, List.take_add_one, h, Option.toList_some, List.map_append, List.append_assoc]
  rfl
theorem word_eq (a b : Int × Int) : eqI (.key (.agg [.i, .i])) (.agg [I a.1, I a.2]) (.agg [I b.1, I b.2]) = some (decide (a = b)) := keyA a b
def fixM (mv : ToF) (fx : List (Int × Int)) (rs : List Reg) (w : Int × Int) : List Reg := setM w (List.map (fixF mv fx)) rs
theorem map_len (f : Int × Int → Int × Int) : ∀ l : List (Int × Int), (l.map f).length = l.length := fun l => by simp
end
end Go.Proofs.Ytoldkemimhebaaa

set_option linter.unusedSimpArgs false
set_option linter.unusedVariables false
namespace Go.Proofs.Ytoldkemimhebaaa
open Go Go.IM
theorem updF_other : ∀ (ps : List ((Int × Int) × (Int × Int))) (f : ToF) (w : Int × Int), (∀ x ∈ ps, x.1 ≠ w) → (ps.foldl updF f) w = f w
  | [], _, _, _ => rfl
  | x :: ps, f, w, h => by
    rw [List.foldl_cons, updF_other ps _ w fun y hy => h y (List.mem_cons_of_mem _ hy)]
    unfold updF
    rw [if_neg (fun e => h x (List.mem_cons_self ..) e.symm)]
theorem updF_mem : ∀ (ks ns : List (Int × Int)) (f : ToF) (w : Int × Int), ns.length = ks.length → w ∈ ks → ∃ n ∈ ns, ((ks.zip ns).foldl updF f) w = some n
  | [], _, _, _, _, h => by cases h
  | _ :: _, [], _, _, h, _ => by simp at h
  | k :: ks, n :: ns, f, w, hl, h => by
    rw [List.zip_cons_cons, List.foldl_cons]
    by_cases hw : w ∈ ks
    · obtain ⟨m, h1, h2⟩ := updF_mem ks ns (updF f (k, n)) w (by simpa using hl) hw
      exact ⟨m, List.mem_cons_of_mem _ h1, h2⟩
    · have e : w = k := by rcases List.mem_cons.1 h with h | h; exact h; exact absurd h hw
      refine ⟨n, List.mem_cons_self .., ?_⟩
      rw [updF_other]
      · unfold updF; rw [if_pos e]
      · intro x hx e2
        exact hw (e2 ▸ (List.of_mem_zip hx).1)
def Points (rs : List Reg) (w : Int × Int) : Prop := 0 < w.2 ∧ ∃ r ∈ rs, (r.life : Int) = w.2 ∧ ∃ x ∈ r.objs, (x.at_ : Int) = w.1
theorem Points.find {rs : List Reg} {w : Int × Int} (h : Points rs w) : 0 < w.2 ∧ (mfind w.1 w.2 rs).isSome = true := by
  obtain ⟨h0, r, hr, h1, x, hx, h2⟩ := h
  refine ⟨h0, ?_⟩
  unfold mfind
  rw [List.findSome?_isSome_iff]
  refine ⟨r, hr, ?_⟩
  rw [if_pos h1, List.find?_isSome]
  exact ⟨x, hx, by simpa using h2⟩
theorem Points.mono {rs rs' : List Reg} {w : Int × Int} (h : Points rs w) (hs : ∀ r ∈ rs, r ∈ rs') : Points rs' w := by
  obtain ⟨h0, r, hr, h1⟩ := h
  exact ⟨h0, r, hs r hr, h1⟩
theorem layObj_at : ∀ (ys : List Obj) (ats : List Nat), ats.length = ys.length → ∀ a ∈ ats, ∃ y ∈ layObj ys ats, y.at_ = a
  | [], [], _, a, h => by cases h
  | [], _ :: _, h, _, _ => by simp at h
  | _ :: _, [], h, _, _ => by simp at h
  | y :: ys, b :: ats, hl, a, h => by
    simp only [layObj, List.zipWith_cons_cons]
    rcases List.mem_cons.1 h with rfl | h
    · exact ⟨_, List.mem_cons_self .., rfl⟩
    · obtain ⟨z, h1, h2⟩ := layObj_at ys ats (by simpa using hl) a h
      exact ⟨z, List.mem_cons_of_mem _ h1, h2⟩
structure ColInv (L : List (Int × Int)) (lv : Nat) (A B : List Reg) (S : ColS) : Prop where
  ok : RsOk lv S.u (S.regs ++ B)
  lives : S.regs.map (·.life) = A.map (·.life)
  objs : ∀ w ∈ S.objs, Points S.regs w
  fx : ∀ g ∈ A, ¬ 0 < g.pages.length → ∀ w ∈ wordsR g, w ∈ S.fx
  mv : ∀ g ∈ A, 0 < g.pages.length → ∀ x ∈ g.objs, ((x.at_ : Int), (g.life : Int)) ∈ L → ∃ n, S.mv ((x.at_ : Int), (g.life : Int)) = some n ∧ Points S.regs n
theorem ColInv.step {L : List (Int × Int)} {lv : Nat} {A B : List Reg} {S : ColS} {g : Reg} (h : ColInv L lv A (g :: B) S) : ColInv L lv (A ++ [g]) B (colStep L S g) := by
  have hI := h.ok.inv
  have hri := hI.reg g (by simp)
  have hlf := hI.life g (by simp)
  unfold colStep
  by_cases hp : 0 < g.pages.length
  · rw [if_pos hp]
    have hs : g.size = 0 := by
      rcases Nat.eq_zero_or_pos g.size with h | h
      · exact h
      · have := (hri.fin h).1; rw [this] at hp; simp at hp
    obtain ⟨ats, u', fill', pages', hlay, hnd, hpl, hal, hul, hR⟩ := h.ok.turn hs (ys := keptM L g) (List.filter_sublist ..)
    rw [hlay]
    simp only
    have hsub : ∀ r ∈ S.regs, r ∈ S.regs ++ [({ g with fill := fill', pages := pages', objs := layObj (keptM L g) ats } : Reg)] := fun r hr => List.mem_append_left _ hr
    have hnew : ∀ x ∈ keptM L g, ∃ n, (((keptM L g).map fun x => ((x.at_ : Int), (g.life : Int))).zip (ats.map fun a : Nat => ((a : Int), (g.life : Int)))).foldl updF S.mv ((x.at_ : Int), (g.life : Int)) = some n ∧ Points (S.regs ++ [({ g with fill := fill', pages := pages', objs := layObj (keptM L g) ats } : Reg)]) n := by
      intro x hx
      obtain ⟨n, h1, h2⟩ := updF_mem ((keptM L g).map fun x => ((x.at_ : Int), (g.life : Int))) (ats.map fun a : Nat => ((a : Int), (g.life : Int))) S.mv ((x.at_ : Int), (g.life : Int)) (by simp [hal]) (List.mem_map.2 ⟨x, hx, rfl⟩)
      obtain ⟨a, ha, rfl⟩ := List.mem_map.1 h1
      obtain ⟨y, hy, hya⟩ := layObj_at (keptM L g) ats hal a ha
      exact ⟨_, h2, by simp only; omega, _, List.mem_append_right _ (List.mem_cons_self ..), rfl, y, hy, by rw [hya]⟩
    refine ⟨by simpa using hR, by rw [List.map_append, List.map_append, h.lives]; rfl, fun w hw => (h.objs w hw).mono hsub, fun g0 m0 h0 w hw => ?_, fun g0 m0 h0 x hx hL => ?_⟩
    · rcases List.mem_append.1 m0 with m0 | m0
      · exact h.fx g0 m0 h0 w hw
      · simp at m0; subst m0; exact absurd hp h0
    · rcases List.mem_append.1 m0 with m0 | m0
      · obtain ⟨n, h1, h2⟩ := h.mv g0 m0 h0 x hx hL
        refine ⟨n, ?_, h2.mono hsub⟩
        show (List.foldl updF S.mv _) _ = some n
        rw [updF_other, h1]
        intro y hy e
        obtain ⟨hy1, _⟩ := List.of_mem_zip hy
        obtain ⟨z, _, hz⟩ := List.mem_map.1 hy1
        rw [← hz] at e
        simp only [Prod.mk.injEq] at e
        have hn := hI.nodup
        rw [List.map_append, List.map_cons, h.lives, List.nodup_append] at hn
        exact hn.2.2 _ (List.mem_map.2 ⟨g0, m0, rfl⟩) _ (List.mem_cons_self ..) (by omega)
      · simp at m0; subst m0
        exact hnew x (by unfold keptM; exact List.mem_filter.2 ⟨hx, by simpa using hL⟩)
  · rw [if_neg hp]
    have hsub : ∀ r ∈ S.regs, r ∈ S.regs ++ [g] := fun r hr => List.mem_append_left _ hr
    refine ⟨by simpa using h.ok, by rw [List.map_append, List.map_append, h.lives], fun w hw => ?_, fun g0 m0 h0 w hw => ?_, fun g0 m0 h0 x hx hL => ?_⟩
    · rcases List.mem_append.1 hw with hw | hw
      · exact (h.objs w hw).mono hsub
      · obtain ⟨x, hx, rfl⟩ := List.mem_map.1 hw
        exact ⟨by simp only; omega, g, by simp, rfl, x, hx, rfl⟩
    · rcases List.mem_append.1 m0 with m0 | m0
      · exact List.mem_append_left _ (h.fx g0 m0 h0 w hw)
      · simp at m0; subst m0; exact List.mem_append_right _ hw
    · rcases List.mem_append.1 m0 with m0 | m0
      · obtain ⟨n, h1, h2⟩ := h.mv g0 m0 h0 x hx hL
        exact ⟨n, h1, h2.mono hsub⟩
      · simp at m0; subst m0; exact absurd h0 hp
theorem ColInv.all {L : List (Int × Int)} {lv : Nat} : ∀ {B A : List Reg} {S : ColS}, ColInv L lv A B S → ColInv L lv (A ++ B) [] (B.foldl (colStep L) S)
  | [], A, S, h => by simpa using h
  | g :: B, A, S, h => by
    have := (h.step).all
    rw [List.append_assoc] at this
    exact this
theorem ColInv.start {L : List (Int × Int)} {lv : Nat} {u : List Bool} {B : List Reg} (h : RsOk lv u B) : ColInv L lv [] B ⟨[], u, fun _ => none, [], []⟩ :=
  ⟨h, rfl, fun w hw => (by cases hw), fun g hg => (by cases hg), fun g hg => (by cases hg)⟩
def colAll (L : List (Int × Int)) (u : List Bool) (rs : List Reg) : ColS := rs.foldl (colStep L) ⟨[], u, fun _ => none, [], []⟩
def colObjs (L : List (Int × Int)) (S : ColS) : List (Int × Int) := S.objs ++ (L.filter fun w => !decide (w ∈ S.fx)).map (toD S.mv)
def colRegs (L : List (Int × Int)) (S : ColS) : List Reg := (colObjs L S).foldl (fixM S.mv S.fx) S.regs
theorem thereB_m {hp : PHeap} {w : Int × Int} (h : thereB hp w = true) : Points (hp.regs.map PReg.m) w := by
  unfold thereB at h
  simp only [Bool.and_eq_true, decide_eq_true_eq] at h
  obtain ⟨x, hx⟩ := Option.isSome_iff_exists.1 h.2
  obtain ⟨A, g, B, X, Y, hr, ex, k1, k2, k3, k4⟩ := pfind_split hx
  exact ⟨h.1, g.m, List.mem_map.2 ⟨g, by rw [hr]; simp, rfl⟩, k2, x.b, List.mem_map.2 ⟨x, by rw [ex]; simp, rfl⟩, k3⟩
end Go.Proofs.Ytoldkemimhebaaa

set_option linter.unusedSimpArgs false
set_option linter.unusedVariables false
namespace Go.Proofs.Ytoldkemimhebaaa
open Go Go.IM
section
variable {o : Nat → Option O} {s : St} {C F : Ch} {Q : V → St → Prop} {p r : Nat} {u : List Bool}
set_option maxRecDepth 10000
set_option maxHeartbeats 4000000
theorem RsOk.look {hp : PHeap} {D : Ch} {lv : Nat} (h : RsOk lv u (hp.regs.map PReg.m)) (hok : ∀ g ∈ hp.regs, g.ok) (hD : ∀ y ∈ hp.ch p, y ∈ D) : Look D p hp := by
  refine ⟨⟨hD⟩, fun e => h.inv.ne (by rw [e]; rfl), by have h1 := h.inv.len; have h2 := h.inv.lives; rw [List.length_map] at h1; omega, hok, fun g0 m0 y my => ?_⟩
  exact ((h.inv.reg g0.m (List.mem_map.2 ⟨g0, m0, rfl⟩)).ws y.b (List.mem_map.2 ⟨y, my, rfl⟩)).2.1
end
end Go.Proofs.Ytoldkemimhebaaa

set_option linter.unusedSimpArgs false
set_option linter.unusedVariables false
namespace Go.Proofs.Ytoldkemimhebaaa
open Go Go.IM
def l49_0 : IC := (.seq (.seq (.region [oa 40 (.bin .lss (.t 39) (.t 38))] (kp 70 [0,6,7,9,23,24,37,38,39,40]))
  (.seq (.cond (.t 40)
  (sk 70 [0,6,7,9,23,24,37,38,39])
  (sx 70 [0,6,7,23,24] 2))
  (.seq (.block 3
  (.seq (.region [oa 41 (.indexAddr 2 (.t 37) (.t 39)), oa 42 (.load (some 2) (.t 41)), oa 13 (.alloc [(.int .i64 (0)), (.int .i64 (0))]), ob (.store 2 (.t 13) (.t 42))] (kp 70 [0,6,7,9,13,23,24,37,38,39]))
  (.seq (.region [oa 44 (.mov (.t 0)), oa 45 (.load (some 2) (.t 13)), oa 46 (.call 30 [(.t 44), (.t 45)]), oa 43 (.mov (.t 46)), oa 47 (.extract (.t 43) 0), oa 48 (.extract (.t 43) 1), oa 49 (.extract (.t 43) 2), oa 14 (.mov (.t 47)), oa 15 (.mov (.t 48)), oa 16 (.mov (.t 49))] (kp 70 [0,6,7,9,13,15,23,24,37,38,39]))
  (.seq (.seq (.region [oa 50 (.mov (.t 6)), oa 51 (.nilCheck (.t 50)), oa 52 (.fieldAddr 2 (.t 51)), oa 53 (.load none (.t 52)), oa 54 (.load (some 2) (.t 13)), oa 55 (.lookup (.agg [.i, .i]) (.bool false) false (.t 53) (.t 54)), oa 56 (.un .not (.t 55))] (kp 70 [0,6,7,9,15,23,24,37,38,39,56]))
  (.cond (.t 56)
  (sx 70 [0,6,7,9,23,24,37,38,39] 3)
  (sk 70 [0,6,7,9,15,23,24,37,38,39])))
  (.seq (.seq (.region [oa 57 (.mov (.t 9)), oa 58 (.mov (.t 15)), oa 59 (.bin .add (.t 58) (ai 1)), oa 60 (.bin .lss (.t 57) (.t 59))] (kp 70 [0,6,7,9,15,23,24,37,38,39,60]))
  (.cond (.t 60)
  (.seq (.region [oa 61 (.mov (.t 7)), oa 62 (.bin .add (.t 61) (ai 1)), oa 7 (.mov (.t 62))] (kp 70 [0,6,7,15,23,24,37,38,39]))
  (.region [oa 9 (.mov (ai 32))] (kp 70 [0,6,7,9,15,23,24,37,38,39])))
  (sk 70 [0,6,7,9,15,23,24,37,38,39])))
  (.region [oa 63 (.mov (.t 9)), oa 64 (.mov (.t 15)), oa 65 (.bin .add (.t 64) (ai 1)), oa 66 (.bin .sub (.t 63) (.t 65)), oa 9 (.mov (.t 66))] (kp 70 [0,6,7,9,23,24,37,38,39])))))))
  (.region [oa 67 (.bin .add (.t 39) (ai 1)), oa 39 (.mov (.t 67))] (kp 70 [0,6,7,9,23,24,37,38,39])))))
  (sk 70 [0,6,7,9,23,24,37,38,39]))
def l49_1 : IC := (.seq (.seq (.region [oa 25 (.bin .lss (.t 24) (.t 23))] (kp 70 [0,6,7,23,24,25]))
  (.seq (.cond (.t 25)
  (sk 70 [0,6,7,23,24])
  (sx 70 [7] 0))
  (.seq (.block 1
  (.seq (.region [oa 26 (.mov (.t 24)), oa 8 (.mov (.t 26))] (kp 70 [0,6,7,8,23,24]))
  (.seq (.seq (.region [oa 27 (.mov (.t 0)), oa 28 (.mov (.t 8)), oa 29 (.call 91 [(.t 27), (.t 28)]), oa 30 (.un .not (.t 29))] (kp 70 [0,6,7,8,23,24,30]))
  (.cond (.t 30)
  (sx 70 [0,6,7,23,24] 1)
  (sk 70 [0,6,7,8,23,24])))
  (.seq (.region [oa 9 (.mov (ai 0))] (kp 70 [0,6,7,8,9,23,24]))
  (.seq (.region [oa 32 (.mov (.t 0)), oa 33 (.mov (.t 8)), oa 34 (.call 28 [(.t 32), (.t 33)]), oa 31 (.mov (.t 34)), oa 35 (.extract (.t 31) 0), oa 36 (.extract (.t 31) 1), oa 10 (.mov (.t 35)), oa 11 (.mov (.t 36))] (kp 70 [0,6,7,9,10,23,24]))
  (.seq (.region [oa 37 (.mov (.t 10)), oa 38 (.lenSlice (.t 37)), oa 39 (.mov (ai 0))] (kp 70 [0,6,7,9,23,24,37,38,39]))
  (.block 2
  (.seq (sk 70 [0,6,7,9,23,24,37,38,39])
  (.loop l49_0)))))))))
  (.region [oa 68 (.bin .add (.t 24) (ai 1)), oa 24 (.mov (.t 68))] (kp 70 [0,6,7,23,24])))))
  (sk 70 [0,6,7,23,24]))
def j49_bbbb : IC := (.seq (.region [oa 69 (.mov (.t 7)), oa 4 (.mov (.t 69)), oa 5 (.mov (ai 0))] (kp 70 [4,5]))
  (sr 70 [4,5]))
def c49 : IFn := ⟨70, [(4, none), (5, none)],
  (.seq (.region [oa 4 (.mov (ai 0)), oa 5 (.mov (ai 0))] (kp 70 [0,1]))
  (.seq (.seq (.region [oa 17 (.mov (.t 0)), oa 18 (.call 89 [(.t 17)])] (kp 70 [0,1,18]))
  (.cond (.t 18)
  (.seq (.region [oa 4 (.mov (ai 0)), oa 5 (.mov (ai 6))] (kp 70 [4,5]))
  (sr 70 [4,5]))
  (sk 70 [0,1])))
  (.seq (.region [oa 19 (.mov (.t 0)), oa 20 (.mov (.t 1)), oa 21 (.call 90 [(.t 19), (.t 20)]), oa 6 (.mov (.t 21)), oa 7 (.mov (ai 0))] (kp 70 [0,6,7]))
  (.seq (.seq (.region [oa 22 (.mov (.t 0)), oa 23 (.call 27 [(.t 22)]), oa 24 (.mov (ai 0))] (kp 70 [0,6,7,23,24]))
  (.block 0
  (.seq (sk 70 [0,6,7,23,24])
  (.loop l49_1))))
  j49_bbbb))))⟩
theorem F49 : shutF Try.prog 49 = some c49 := by kernel_rfl
def roomN (a : Nat × Nat) : Nat := if 0 < a.1 then 32 - a.2 else 0
def isIn (L : List (Int × Int)) (life : Nat) (x : PObj) : Bool := decide (((x.b.at_ : Int), (life : Int)) ∈ L)
def pgF (xs : List PObj) (a : Nat × Nat) : Nat × Nat := (xs.map fun x => x.b.ws.length + 1).foldl step a
theorem step_small {a : Nat × Nat} {n : Nat} (h : a.2 ≤ 32) (hn : n ≤ 32) : (step a n).2 ≤ 32 := by unfold step; split <;> simp only <;> omega
theorem pfind_own {g : PReg} {x : PObj} (hx : x ∈ g.objs) (hn : (g.objs.map (·.b.at_)).Nodup) : ∀ rs : List PReg, (rs.map (·.life)).Nodup → g ∈ rs → pfind x.b.at_ g.life rs = some x
  | [], _, h => by cases h
  | r :: rs, hl, h => by
    rw [List.map_cons, List.nodup_cons] at hl
    unfold pfind
    rw [List.findSome?_cons]
    by_cases e : r = g
    · subst e
      have : pf x.b.at_ r.life r = some x := by
        unfold pf
        rw [if_pos rfl]
        obtain ⟨X, Y, he⟩ := List.append_of_mem hx
        rw [he] at hn ⊢
        rw [List.map_append, List.map_cons, List.nodup_append] at hn
        rw [List.find?_append, List.find?_eq_none.2 (fun y hy => by
          have := hn.2.2 _ (List.mem_map.2 ⟨y, hy, rfl⟩) _ (List.mem_cons_self ..)
          simp; omega), List.find?_cons_of_pos (by simp)]
        rfl
      rw [this]
    · have hg : g ∈ rs := by rcases List.mem_cons.1 h with h | h; exact absurd h.symm e; exact h
      have : pf x.b.at_ g.life r = none := by
        unfold pf
        rw [if_neg]
        intro e2
        exact hl.1 (List.mem_map.2 ⟨g, hg, by omega⟩)
      rw [this]
      exact pfind_own hx hn rs hl.2 hg
section
variable {o : Nat → Option O} {s : St} {C F : Ch} {Q : V → St → Prop} {p r : Nat} {u : List Bool}
set_option maxRecDepth 10000
set_option maxHeartbeats 4000000
theorem pg_inner {hp : PHeap} {g : PReg} {t lk mk ko n0 : Nat} {v23 v24 : V} {L : List (Int × Int)} {m : O} {K : Kt} (h : Look C p hp) (mg : g ∈ hp.regs) (hat : (g.objs.map (·.b.at_)).Nodup) (hlf : (hp.regs.map (·.life)).Nodup) (h1 : 1 ≤ g.life)
    (hs : ∀ x ∈ huntC t lk mk (ptrN hp.id) L m, x ∈ C) (hm : MapIs encA (seenF L) m) (mo : (ko, rowO 2 g.objs.length (g.objs.flatMap (encP g.life))) ∈ C) (hl : g.objs.length ≤ 100000) (hn0 : n0 ≤ 10000000) :
    ∀ (n i : Nat) (a : Nat × Nat) (s : St), i + n = g.objs.length → a.2 ≤ 32 → a.1 ≤ i → Holds o s C →
    (∀ s', Holds o s' C → WP (K (.exit 2) (sp 70 [(0, ptrN hp.id), (6, ptrN t), (7, I ((n0 + (pgF ((g.objs.drop i).filter (isIn L g.life)) a).1 : Nat) : Int)), (23, v23), (24, v24)]) s') Q) →
    WP (loop PF (.loop l49_0) (sp 70 [(0, ptrN hp.id), (6, ptrN t), (7, I ((n0 + a.1 : Nat) : Int)), (9, I (roomN a)), (23, v23), (24, v24), (37, rowV ko g.objs.length), (38, I g.objs.length), (39, I i)]) s K) Q
  | 0, i, a, s, hi, ha, hai, H, q => by
    have hlt : ¬ ((i : Int) < (g.objs.length : Int)) := by omega
    rw [List.drop_eq_nil_of_le (by omega), List.filter_nil] at q
    refine wp_round fun LL hLL => ?_
    simp -implicitDefEqProofs only [↓GP, GB, GL, Nat.reduceAdd, Nat.reduceSub, Nat.reduceEqDiff, Nat.reduceMul, Nat.reduceLeDiff, Int.reduceBNe, Int.reduceBEq, Nat.reduceLT, reduceCtorEq, l49_0, hlt]
    exact q s H
  | n + 1, i, a, s, hi, ha, hai, H, q => by
    have hlt : ((i : Int) < (g.objs.length : Int)) := by omega
    have hi' : i < g.objs.length := by omega
    have hw1 := wrap_add1 (a := i) (by omega)
    have hix := ix_row (sz := 2) (k := ko) (n := g.objs.length) (i := i) (kk := .i64) hi'
    have er : rowO 2 g.objs.length (g.objs.flatMap (encP g.life)) = some (.cells (g.objs.flatMap (encP g.life)) (some 2)) := by unfold rowO; rw [if_neg (by omega)]
    have fr := H.mem (er ▸ mo)
    have hld := ldN_tab (sz := 2) (enc := encP g.life) (fun _ => rfl) g.objs (some 2) (List.getElem?_eq_getElem hi')
    have mx := List.getElem_mem hi'
    rw [List.drop_eq_getElem_cons hi', List.filter_cons] at q
    generalize g.objs[i] = x at q hld mx
    have hx := pfind_own mx hat hp.regs hlf mg
    have hxw := h.ws g mg x mx
    have h2 := (H.alloc (.cells [I 0, I 0] none)).set0 (.cells [I x.b.at_, I g.life] none)
    refine wp_round fun LL hLL => ?_
    simp -implicitDefEqProofs only [↓GP, GB, GL, Nat.reduceAdd, Nat.reduceSub, Nat.reduceEqDiff, Nat.reduceMul, Nat.reduceLeDiff, Int.reduceBNe, Int.reduceBEq, Nat.reduceLT, reduceCtorEq, l49_0, hlt, hix, fr, hld, encP]
    refine wp_in (s30 h2 (h.cons _).hin h.ne h.len h.ok (by omega) hx fun s1 h3 => ?_)
    have ft := h3.mem (List.mem_cons_of_mem _ (hs (t, some (.cells [ptrN hp.id, rowV lk L.length, .map (some (.new mk))] none)) (List.mem_cons_self ..)))
    have mm := hs (mk, some m) (List.mem_cons_of_mem _ (List.mem_cons_of_mem _ (List.mem_cons_self ..)))
    have f0 := h3.g0
    have el := lookup_map keyA hm (h3.mem (List.mem_cons_of_mem _ mm)).1 (.bool false) false ((x.b.at_ : Int), (g.life : Int))
    simp only [encA, encW, Bool.false_eq_true, if_false] at el
    have hww := wrap_add1 (a := x.b.ws.length) (by omega)
    by_cases hw : ((x.b.at_ : Int), (g.life : Int)) ∈ L
    · rw [show seenF L ((x.b.at_ : Int), (g.life : Int)) = some (.bool true) from if_pos hw, Option.getD_some] at el
      rw [if_pos (show isIn L g.life x = true by unfold isIn; simpa using hw)] at q
      have qq : pgF (x :: (g.objs.drop (i + 1)).filter (isIn L g.life)) a = pgF ((g.objs.drop (i + 1)).filter (isIn L g.life)) (step a (x.b.ws.length + 1)) := rfl
      rw [qq] at q
      by_cases hc : 0 < a.1 ∧ a.2 + (x.b.ws.length + 1) ≤ 32
      · have hr : ¬ ((roomN a : Int) < ((x.b.ws.length + 1 : Nat) : Int)) := by unfold roomN; rw [if_pos hc.1]; omega
        have e1 : step a (x.b.ws.length + 1) = (a.1, a.2 + (x.b.ws.length + 1)) := if_pos hc
        simp -implicitDefEqProofs only [↓GP, GB, GL, Nat.reduceAdd, Nat.reduceSub, Nat.reduceEqDiff, Nat.reduceMul, Nat.reduceLeDiff, Int.reduceBNe, Int.reduceBEq, Nat.reduceLT, reduceCtorEq, ft, f0, el, hww, hr]
        have hsub : wrapI .i64 ((roomN a : Int) - ((x.b.ws.length + 1 : Nat) : Int)) = I (roomN (step a (x.b.ws.length + 1))) := wrap_nat (by rw [e1]; unfold roomN; simp only [if_pos hc.1]; omega) (by unfold roomN; split <;> omega)
        rw [hsub, hw1, hLL, show n0 + a.1 = n0 + (step a (x.b.ws.length + 1)).1 by rw [e1]]
        exact pg_inner h mg hat hlf h1 hs hm mo hl hn0 n (i + 1) _ s1 (by omega) (step_small ha (by omega)) (by rw [e1]; simp only; omega) h3.tl q
      · have hr : ((roomN a : Int) < ((x.b.ws.length + 1 : Nat) : Int)) := by unfold roomN; split <;> omega
        have e1 : step a (x.b.ws.length + 1) = (a.1 + 1, x.b.ws.length + 1) := if_neg hc
        simp -implicitDefEqProofs only [↓GP, GB, GL, Nat.reduceAdd, Nat.reduceSub, Nat.reduceEqDiff, Nat.reduceMul, Nat.reduceLeDiff, Int.reduceBNe, Int.reduceBEq, Nat.reduceLT, reduceCtorEq, ft, f0, el, hww, hr]
        have hsub : wrapI .i64 (32 - ((x.b.ws.length + 1 : Nat) : Int)) = I (roomN (step a (x.b.ws.length + 1))) := wrap_nat (by rw [e1]; unfold roomN; simp only [if_pos (Nat.succ_pos a.1)]; omega) (by unfold roomN; split <;> omega)
        rw [hsub, hw1, wrap_add1 (by omega), hLL, show n0 + a.1 + 1 = n0 + (step a (x.b.ws.length + 1)).1 by rw [e1]; rfl]
        exact pg_inner h mg hat hlf h1 hs hm mo hl hn0 n (i + 1) _ s1 (by omega) (step_small ha (by omega)) (by rw [e1]; simp only; omega) h3.tl q
    · rw [show seenF L ((x.b.at_ : Int), (g.life : Int)) = none from if_neg hw, Option.getD_none] at el
      rw [if_neg (show ¬ isIn L g.life x = true by unfold isIn; simpa using hw)] at q
      simp -implicitDefEqProofs only [↓GP, GB, GL, Nat.reduceAdd, Nat.reduceSub, Nat.reduceEqDiff, Nat.reduceMul, Nat.reduceLeDiff, Int.reduceBNe, Int.reduceBEq, Nat.reduceLT, reduceCtorEq, ft, f0, el, hw1]
      rw [hLL]
      exact pg_inner h mg hat hlf h1 hs hm mo hl hn0 n (i + 1) a s1 (by omega) ha (by omega) h3.tl q
def pgReg (L : List (Int × Int)) (g : PReg) : Nat := if 0 < g.pages.length then (pgF (g.objs.filter (isIn L g.life)) (0, 0)).1 else 0
def pgSum (L : List (Int × Int)) (gs : List PReg) : Nat := (gs.map (pgReg L)).sum
theorem pgF_le : ∀ (xs : List PObj) (a : Nat × Nat), (pgF xs a).1 ≤ a.1 + xs.length
  | [], a => Nat.le_refl _
  | x :: xs, a => by
    have := pgF_le xs (step a (x.b.ws.length + 1))
    have h2 : (step a (x.b.ws.length + 1)).1 ≤ a.1 + 1 := by unfold step; split <;> simp
    show (pgF xs (step a (x.b.ws.length + 1))).1 ≤ _
    simp; omega
theorem pgReg_le (L : List (Int × Int)) (g : PReg) : pgReg L g ≤ g.objs.length := by
  unfold pgReg
  split
  · have := pgF_le (g.objs.filter (isIn L g.life)) (0, 0)
    have := List.length_filter_le (isIn L g.life) g.objs
    omega
  · omega
theorem pg_outer {hp : PHeap} {t lk mk : Nat} {L : List (Int × Int)} {m : O} {K : Kt} {lv : Nat} (hR : RsOk lv u (hp.regs.map PReg.m)) (h : Look C p hp) (hs : ∀ x ∈ huntC t lk mk (ptrN hp.id) L m, x ∈ C) (hm : MapIs encA (seenF L) m) (hlen : hp.regs.length ≤ 1000) :
    ∀ (n i n0 : Nat) (s : St), i + n = hp.regs.length → n0 ≤ 1000 * i → Holds o s C →
    (∀ s', Holds o s' C → WP (K (.exit 0) (sp 70 [(7, I ((n0 + pgSum L (hp.regs.drop i) : Nat) : Int))]) s') Q) →
    WP (loop PF (.loop l49_1) (sp 70 [(0, ptrN hp.id), (6, ptrN t), (7, I n0), (23, I hp.regs.length), (24, I i)]) s K) Q
  | 0, i, n0, s, hi, hn0, H, q => by
    have hlt : ¬ ((i : Int) < (hp.regs.length : Int)) := by omega
    rw [List.drop_eq_nil_of_le (by omega)] at q
    refine wp_round fun LL hLL => ?_
    simp -implicitDefEqProofs only [↓GP, GB, GL, Nat.reduceAdd, Nat.reduceSub, Nat.reduceEqDiff, Nat.reduceMul, Nat.reduceLeDiff, Int.reduceBNe, Int.reduceBEq, Nat.reduceLT, reduceCtorEq, l49_1, hlt]
    exact q s H
  | n + 1, i, n0, s, hi, hn0, H, q => by
    have hlt : ((i : Int) < (hp.regs.length : Int)) := by omega
    have hi' : i < hp.regs.length := by omega
    have hw1 := wrap_add1 (a := i) (by omega)
    have hg := List.getElem?_eq_getElem hi'
    have mg := List.getElem_mem hi'
    rw [List.drop_eq_getElem_cons hi'] at q
    generalize hp.regs[i] = g at q hg mg
    have hri := hR.inv.reg g.m (List.mem_map.2 ⟨g, mg, rfl⟩)
    have hlf := hR.inv.life g.m (List.mem_map.2 ⟨g, mg, rfl⟩)
    have hpl : g.pages.length ≤ 30 := by
      have hrm : g.m ∈ hp.regs.map PReg.m := List.mem_map.2 ⟨g, mg, rfl⟩
      have hsb := sub_flatMap (fun r : Reg => r.pages) hrm
      have := hR.pool.sub_len hsb
      have := hR.ulen
      simp only [PReg.m] at *; omega
    have hno : g.objs.length ≤ 961 := by have := hri.nobjs; simp only [PReg.m, List.length_map] at this; omega
    have hat : (g.objs.map (·.b.at_)).Nodup := by have := hri.nodup; simpa [PReg.m, List.map_map, Function.comp_def] using this
    have hlfs : (hp.regs.map (·.life)).Nodup := by have := hR.inv.nodup; rw [List.map_map] at this; exact this
    have hpr := pgReg_le L g
    have hsum : pgSum L (g :: hp.regs.drop (i + 1)) = pgReg L g + pgSum L (hp.regs.drop (i + 1)) := by simp [pgSum]
    rw [hsum, ← Nat.add_assoc] at q
    refine wp_round fun LL hLL => ?_
    simp -implicitDefEqProofs only [↓GP, GB, GL, Nat.reduceAdd, Nat.reduceSub, Nat.reduceEqDiff, Nat.reduceMul, Nat.reduceLeDiff, Int.reduceBNe, Int.reduceBEq, Nat.reduceLT, reduceCtorEq, l49_1, hlt]
    refine wp_in (s91 H h.hin h.len hg (by omega) fun s1 h1 => ?_)
    by_cases hp0 : 0 < g.pages.length
    · rw [decide_eq_true hp0]
      simp -implicitDefEqProofs only [↓GP, GB, GL, Nat.reduceAdd, Nat.reduceSub, Nat.reduceEqDiff, Nat.reduceMul, Nat.reduceLeDiff, Int.reduceBNe, Int.reduceBEq, Nat.reduceLT, reduceCtorEq]
      refine wp_in (s28 h1 h.hin h.len hg (by omega) fun s2 ko h2 => ?_)
      simp -implicitDefEqProofs only [↓GP, GB, GL, Nat.reduceAdd, Nat.reduceSub, Nat.reduceEqDiff, Nat.reduceMul, Nat.reduceLeDiff, Int.reduceBNe, Int.reduceBEq, Nat.reduceLT, reduceCtorEq]
      have := pg_inner (K := blockK 2 (blockK 1 (seqK (loop PF) (call PF) (.region [oa 68 (.bin .add (.t 24) (ai 1)), oa 24 (.mov (.t 68))] (kp 70 [0,6,7,23,24])) (seqK (loop PF) (call PF) (sk 70 [0,6,7,23,24]) (roundK LL K))))) (Q := Q) (n0 := n0) (v23 := I hp.regs.length) (v24 := I i) (h.cons (ko, rowO 2 g.objs.length (g.objs.flatMap (encP g.life)))) mg hat hlfs hlf.1 (fun x hx => List.mem_cons_of_mem _ (hs x hx)) hm (List.mem_cons_self ..) (by omega) (by omega) g.objs.length 0 (0, 0) s2 (by omega) (by omega) (by omega) h2
      simp only [List.drop_zero, Int.natCast_zero, Nat.add_zero] at this
      refine this fun s3 h3 => ?_
      clear this
      have e1 : (pgF (g.objs.filter (isIn L g.life)) (0, 0)).1 = pgReg L g := by unfold pgReg; rw [if_pos hp0]
      simp -implicitDefEqProofs only [↓GP, GB, GL, Nat.reduceAdd, Nat.reduceSub, Nat.reduceEqDiff, Nat.reduceMul, Nat.reduceLeDiff, Int.reduceBNe, Int.reduceBEq, Nat.reduceLT, reduceCtorEq, hw1, e1]
      rw [hLL]
      exact pg_outer hR h hs hm hlen n (i + 1) (n0 + pgReg L g) s3 (by omega) (by omega) h3.tl q
    · rw [decide_eq_false hp0]
      simp -implicitDefEqProofs only [↓GP, GB, GL, Nat.reduceAdd, Nat.reduceSub, Nat.reduceEqDiff, Nat.reduceMul, Nat.reduceLeDiff, Int.reduceBNe, Int.reduceBEq, Nat.reduceLT, reduceCtorEq, hw1]
      rw [hLL]
      have e1 : pgReg L g = 0 := by unfold pgReg; rw [if_neg hp0]
      rw [e1, Nat.add_zero] at q
      exact pg_outer hR h hs hm hlen n (i + 1) n0 s1 (by omega) (by omega) h1 q
theorem s49 {hp : PHeap} {kr lv : Nat} {roots : List (Int × Int)} (H : Holds o s C) (h : Look C p hp) (hR : RsOk lv u (hp.regs.map PReg.m)) (hr : (kr, rowO 2 roots.length (roots.flatMap encW)) ∈ C) (hrl : roots.length ≤ 1000) (hall : (allW hp).length ≤ 90000) (hlen : hp.regs.length ≤ 1000)
    (q : ∀ s', Holds o s' C → Q (.tuple [I (pgSum (reachW hp roots) hp.regs), I 0]) s') : WP (call PF 49 [ptrN hp.id, rowV kr roots.length] s) Q := by
  have e89 := s89 H h.hin h.ne h.len
  rw [call_run F49]; simp -implicitDefEqProofs only [↓GP, GB, GL, Nat.reduceAdd, Nat.reduceSub, Nat.reduceEqDiff, Nat.reduceMul, Nat.reduceLeDiff, Int.reduceBNe, Int.reduceBEq, Nat.reduceLT, reduceCtorEq, c49, e89]
  refine wp_in (s90 H h hr (by omega) hall fun s1 t lk mk m hm h1 => ?_)
  have lk2 : Look (huntC t lk mk (ptrN hp.id) (reachW hp roots) m ++ C) p hp := h.mono fun x hx => List.mem_append_right _ hx
  have e27 := s27 h1 lk2.hin
  simp -implicitDefEqProofs only [↓GP, GB, GL, Nat.reduceAdd, Nat.reduceSub, Nat.reduceEqDiff, Nat.reduceMul, Nat.reduceLeDiff, Int.reduceBNe, Int.reduceBEq, Nat.reduceLT, reduceCtorEq, e27]
  have := pg_outer (K := blockK 0 (seqK (loop PF) (call PF) j49_bbbb (finR [(4, none), (5, none)]))) (Q := Q) (u := u) hR lk2 (fun x hx => List.mem_append_left _ hx) hm hlen hp.regs.length 0 0 s1 (by omega) (by omega) h1
  simp only [List.drop_zero, Int.natCast_zero, Nat.zero_add] at this
  refine this fun s2 h2 => ?_
  simp -implicitDefEqProofs only [↓GP, GB, GL, Nat.reduceAdd, Nat.reduceSub, Nat.reduceEqDiff, Nat.reduceMul, Nat.reduceLeDiff, Int.reduceBNe, Int.reduceBEq, Nat.reduceLT, reduceCtorEq, j49_bbbb]
  exact q s2 (Holds.subl (X := huntC t lk mk (ptrN hp.id) (reachW hp roots) m) h2 (List.nil_sublist _))
end
end Go.Proofs.Ytoldkemimhebaaa

set_option linter.unusedSimpArgs false
set_option linter.unusedVariables false
namespace Go.Proofs.Ytoldkemimhebaaa
open Go Go.IM
section
variable {o : Nat → Option O} {s : St} {C F : Ch} {Q : V → St → Prop}
set_option maxRecDepth 10000
set_option maxHeartbeats 4000000
end
end Go.Proofs.Ytoldkemimhebaaa

set_option linter.unusedSimpArgs false
set_option linter.unusedVariables false
namespace Go.Proofs.Ytoldkemimhebaaa
open Go Go.IM
def putAllW (hp : PHeap) (ws : List (Int × Int)) : List (Int × Int) := ws.foldl (putW hp) []
theorem puts_prefix (hp : PHeap) : ∀ (ws l : List (Int × Int)), l <+: ws.foldl (putW hp) l
  | [], l => List.prefix_refl l
  | w :: ws, l => by
    refine List.IsPrefix.trans ?_ (puts_prefix hp ws (putW hp l w))
    unfold putW; split
    · exact List.prefix_append ..
    · exact List.prefix_refl l
theorem putAllW_mono {hp : PHeap} {a b : List (Int × Int)} (h : a <+: b) : putAllW hp a <+: putAllW hp b := by
  obtain ⟨t, rfl⟩ := h
  unfold putAllW
  rw [List.foldl_append]
  exact puts_prefix ..
theorem flatMap_prefix {α β : Type} {a b : List α} (f : α → List β) (h : a <+: b) : a.flatMap f <+: b.flatMap f := by
  obtain ⟨t, rfl⟩ := h
  rw [List.flatMap_append]
  exact List.prefix_append ..
theorem prefix_app {α : Type} (r : List α) {a b : List α} (h : a <+: b) : r ++ a <+: r ++ b := by
  obtain ⟨t, rfl⟩ := h
  exact ⟨t, by simp⟩
theorem bfs_fix {hp : PHeap} {roots : List (Int × Int)} : ∀ (n i : Nat) (l : List (Int × Int)), Found hp l → (allW hp).length + 1 ≤ i + n → i ≤ l.length → l = putAllW hp (roots ++ (l.take i).flatMap (objW hp)) →
    (bfs hp n i l = putAllW hp (roots ++ (bfs hp n i l).flatMap (objW hp)) ∧ ∀ X, X = putAllW hp (roots ++ X.flatMap (objW hp)) → l <+: X → bfs hp n i l <+: X)
  | 0, i, l, hf, hn, hi, e => by have := hf.len; omega
  | n + 1, i, l, hf, hn, hi, e => by
    by_cases h : i < l.length
    · have hg := List.getElem?_eq_getElem h
      rw [bfs_in hg]
      have hpre := puts_prefix hp (objW hp l[i]) l
      have htk : ((objW hp l[i]).foldl (putW hp) l).take (i + 1) = l.take (i + 1) := by
        obtain ⟨t, ht⟩ := hpre
        rw [← ht, List.take_append_of_le_length (by omega)]
      have e2 : (objW hp l[i]).foldl (putW hp) l = putAllW hp (roots ++ (l.take (i + 1)).flatMap (objW hp)) := by
        rw [List.take_add_one, hg, Option.toList_some, List.flatMap_append, List.flatMap_cons, List.flatMap_nil, List.append_nil, ← List.append_assoc]
        unfold putAllW
        rw [List.foldl_append]
        unfold putAllW at e
        rw [← e]
      have hlen := hpre.length_le
      obtain ⟨r1, r2⟩ := bfs_fix (roots := roots) n (i + 1) _ (hf.puts (objW hp l[i])) (by omega) (by omega) (by rw [htk]; exact e2)
      refine ⟨r1, fun X hX hl => r2 X hX ?_⟩
      rw [e2, hX]
      refine putAllW_mono (prefix_app roots (flatMap_prefix _ ?_))
      exact (List.take_prefix ..).trans hl
    · have hil : i = l.length := by omega
      rw [bfs_out (by omega)]
      refine ⟨?_, fun X _ hl => hl⟩
      rw [hil, List.take_length] at e
      exact e
theorem reach_fix (hp : PHeap) (roots : List (Int × Int)) : reachW hp roots = putAllW hp (roots ++ (reachW hp roots).flatMap (objW hp)) :=
  (bfs_fix (roots := roots) _ 0 (roots.foldl (putW hp) []) ((Found.nil hp).puts roots) (by omega) (Nat.zero_le _) (by rw [List.take_zero, List.flatMap_nil, List.append_nil]; rfl)).1
theorem reach_least {hp : PHeap} {roots X : List (Int × Int)} (h : X = putAllW hp (roots ++ X.flatMap (objW hp))) : reachW hp roots <+: X :=
  (bfs_fix (roots := roots) _ 0 (roots.foldl (putW hp) []) ((Found.nil hp).puts roots) (by omega) (Nat.zero_le _) (by rw [List.take_zero, List.flatMap_nil, List.append_nil]; rfl)).2 X h (by
    rw [h]; exact putAllW_mono (List.prefix_append ..))
theorem reach_done {hp : PHeap} {roots out : List (Int × Int)} (h1 : out <+: reachW hp roots) (h2 : out = putAllW hp (roots ++ out.flatMap (objW hp))) : out = reachW hp roots := by
  have := reach_least h2
  exact h1.eq_of_length_le this.length_le
theorem reach_step {hp : PHeap} {roots out todo : List (Int × Int)} {j : Nat} {w : Int × Int} (h1 : out <+: reachW hp roots) (h2 : todo = roots ++ out.flatMap (objW hp)) (h3 : out = putAllW hp (todo.take j)) (hj : todo[j]? = some w) :
    putW hp out w <+: reachW hp roots ∧ putW hp out w = putAllW hp (todo.take (j + 1)) := by
  have e : putW hp out w = putAllW hp (todo.take (j + 1)) := by
    rw [List.take_add_one, hj, Option.toList_some]
    unfold putAllW at h3 ⊢
    rw [List.foldl_append, ← h3]
    rfl
  refine ⟨?_, e⟩
  rw [e, reach_fix hp roots]
  refine putAllW_mono ((List.take_prefix ..).trans ?_)
  rw [h2]
  exact prefix_app roots (flatMap_prefix _ h1)
theorem reach_todo {hp : PHeap} {roots out : List (Int × Int)} (h1 : out <+: reachW hp roots) : (roots ++ out.flatMap (objW hp)).length ≤ (roots ++ (reachW hp roots).flatMap (objW hp)).length :=
  (prefix_app roots (flatMap_prefix _ h1)).length_le
theorem reach_nil (hp : PHeap) : reachW hp [] = [] := by
  unfold reachW
  rw [List.foldl_nil, bfs_out (by simp)]
end Go.Proofs.Ytoldkemimhebaaa

set_option linter.unusedSimpArgs false
set_option linter.unusedVariables false
namespace Go.Proofs.Ytoldkemimhebaaa
open Go Go.IM
def l96_0 : IC := (.seq (.seq (.seq (.region [oa 6 (.mov (.t 5)), oa 7 (.mov (.t 0)), oa 8 (.lenSlice (.t 7)), oa 9 (.bin .lss (.t 6) (.t 8))] (kp 18 [0,3,5,9]))
  (.cond (.t 9)
  (sk 18 [0,3,5])
  (sx 18 [] 0)))
  (.seq (.block 1
  (.seq (.region [oa 12 (.mov (.t 0)), oa 13 (.mov (.t 5)), oa 14 (.indexAddr 2 (.t 12) (.t 13)), oa 15 (.load (some 2) (.t 14)), oa 16 (.load (some 2) (.t 3)), oa 17 (.eql false (.key (.agg [.i, .i])) (.t 15) (.t 16))] (kp 18 [0,3,5,17]))
  (.cond (.t 17)
  (.seq (.region [oa 4 (.mov (.c (.bool true)))] (kp 18 [4]))
  (sr 18 [4]))
  (sk 18 [0,3,5]))))
  (.region [oa 10 (.mov (.t 5)), oa 11 (.bin .add (.t 10) (ai 1)), oa 5 (.mov (.t 11))] (kp 18 [0,3,5]))))
  (sk 18 [0,3,5]))
def j96_bb : IC := (.seq (.region [oa 4 (.mov (.c (.bool false)))] (kp 18 [4]))
  (sr 18 [4]))
def c96 : IFn := ⟨18, [(4, none)],
  (.seq (.region [oa 3 (.box (.t 1)), oa 4 (.mov (.c (.bool false)))] (kp 18 [0,3]))
  (.seq (.seq (.region [oa 5 (.mov (ai 0))] (kp 18 [0,3,5]))
  (.block 0
  (.seq (sk 18 [0,3,5])
  (.loop l96_0))))
  j96_bb))⟩
theorem F96 : shutF Try.prog 96 = some c96 := by kernel_rfl
def c101 : IFn := ⟨13, [(2, none)],
  (.seq (.region [oa 2 (.mov (.c (.bool false)))] (kp 13 [0]))
  (.seq (.region [oa 3 (.mov (.t 0)), oa 4 (.eql false .ptr (.t 3) (.c (.ptr none))), oa 5 (.mov (.t 4)), oc 6 (.mov (.t 0)) 5 ff, oc 7 (.nilCheck (.t 6)) 5 ff, oc 8 (.fieldAddr 1 (.t 7)) 5 ff, oc 9 (.load none (.t 8)) 5 ff, oc 10 (.lenSlice (.t 9)) 5 ff, oc 11 (.bin .eql (.t 10) (ai 0)) 5 ff, oa 12 (.pick (.t 5) (.c (.bool true)) (.t 11)), oa 2 (.mov (.t 12))] (kp 13 [2]))
  (sr 13 [2])))⟩
theorem F101 : shutF Try.prog 101 = some c101 := by kernel_rfl
def l52_0 : IC := (.seq (.seq (.seq (.region [oa 16 (.mov (.t 8)), oa 17 (.mov (.t 7)), oa 18 (.lenSlice (.t 17)), oa 19 (.bin .lss (.t 16) (.t 18))] (kp 63 [0,6,7,8,19]))
  (.cond (.t 19)
  (sk 63 [0,6,7,8])
  (sx 63 [6] 0)))
  (.seq (.block 1
  (.seq (.region [oa 23 (.mov (.t 0)), oa 24 (.mov (.t 7)), oa 25 (.mov (.t 8)), oa 26 (.indexAddr 2 (.t 24) (.t 25)), oa 27 (.load (some 2) (.t 26)), oa 28 (.call 103 [(.t 23), (.t 27)]), oa 22 (.mov (.t 28)), oa 29 (.extract (.t 22) 0), oa 30 (.extract (.t 22) 1), oa 9 (.mov (.t 29)), oa 10 (.mov (.t 30))] (kp 63 [0,6,7,8,9,10]))
  (.seq (.seq (.region [oa 31 (.mov (.t 9)), oa 32 (.bin .lss (.t 31) (ai 0)), oa 33 (.mov (.t 32)), oc 34 (.mov (.t 6)) 33 ff, oc 35 (.mov (.t 7)) 33 ff, oc 36 (.mov (.t 8)) 33 ff, oc 37 (.indexAddr 2 (.t 35) (.t 36)) 33 ff, oc 38 (.load (some 2) (.t 37)) 33 ff, oc 39 (.call 96 [(.t 34), (.t 38)]) 33 ff, oa 40 (.pick (.t 33) (.c (.bool true)) (.t 39))] (kp 63 [0,6,7,8,9,10,40]))
  (.cond (.t 40)
  (sx 63 [0,6,7,8] 1)
  (sk 63 [0,6,7,8,9,10])))
  (.seq (.region [oa 41 (.mov (.t 6)), oa 42 (.mov (.t 7)), oa 43 (.mov (.t 8)), oa 44 (.indexAddr 2 (.t 42) (.t 43)), oa 45 (.load (some 2) (.t 44)), oa 46 (.buildSlice 1 [(.int .i64 (0)), (.int .i64 (0))] [(0, 2, (.t 45))]), oa 47 (.append 2 16 (.t 41) (.t 46)), oa 6 (.mov (.t 47))] (kp 63 [0,6,7,8,9,10]))
  (.region [oa 48 (.mov (.t 7)), oa 49 (.mov (.t 0)), oa 50 (.nilCheck (.t 49)), oa 51 (.fieldAddr 1 (.t 50)), oa 52 (.load none (.t 51)), oa 53 (.mov (.t 9)), oa 54 (.indexAddr 5 (.t 52) (.t 53)), oa 55 (.fieldAddr 4 (.t 54)), oa 56 (.load none (.t 55)), oa 57 (.mov (.t 10)), oa 58 (.indexAddr 3 (.t 56) (.t 57)), oa 59 (.fieldAddr 2 (.t 58)), oa 60 (.load none (.t 59)), oa 61 (.append 2 16 (.t 48) (.t 60)), oa 7 (.mov (.t 61))] (kp 63 [0,6,7,8]))))))
  (.region [oa 20 (.mov (.t 8)), oa 21 (.bin .add (.t 20) (ai 1)), oa 8 (.mov (.t 21))] (kp 63 [0,6,7,8]))))
  (sk 63 [0,6,7,8]))
def j52_bbbbb : IC := (.seq (.region [oa 62 (.mov (.t 6)), oa 4 (.mov (.t 62)), oa 5 (.mov (ai 0))] (kp 63 [4,5]))
  (sr 63 [4,5]))
def c52 : IFn := ⟨63, [(4, none), (5, none)],
  (.seq (.region [oa 4 (.mov (.c (.slice none 0 (some 0)))), oa 5 (.mov (ai 0))] (kp 63 [0,1]))
  (.seq (.seq (.region [oa 11 (.mov (.t 0)), oa 12 (.call 101 [(.t 11)])] (kp 63 [0,1,12]))
  (.cond (.t 12)
  (.seq (.region [oa 4 (.mov (.c (.slice none 0 (some 0)))), oa 5 (.mov (ai 6))] (kp 63 [4,5]))
  (sr 63 [4,5]))
  (sk 63 [0,1])))
  (.seq (.region [oa 6 (.mov (.c (.slice none 0 (some 0))))] (kp 63 [0,1,6]))
  (.seq (.region [oa 13 (.buildSlice 0 [] []), oa 14 (.mov (.t 1)), oa 15 (.append 2 16 (.t 13) (.t 14)), oa 7 (.mov (.t 15))] (kp 63 [0,6,7]))
  (.seq (.seq (.region [oa 8 (.mov (ai 0))] (kp 63 [0,6,7,8]))
  (.block 0
  (.seq (sk 63 [0,6,7,8])
  (.loop l52_0))))
  j52_bbbbb)))))⟩
theorem F52 : shutF Try.prog 52 = some c52 := by kernel_rfl
section
variable {o : Nat → Option O} {s : St} {C F : Ch} {Q : V → St → Prop} {p q : Nat}
set_option maxRecDepth 10000
set_option maxHeartbeats 4000000
theorem new_cV {s : St} {sz t m : Nat} {gr : Bool} {new : List V} {g : Option Nat} (h : s.new t = some (.cells new g)) (hm : new.length = m * sz) : newCells s sz (cV gr t m) = some (new, m) := by
  cases gr
  · exact new_cells' h hm
  · exact new_cells' h hm
theorem has_loop {kl wb : Nat} {L : List (Int × Int)} {w : Int × Int} {K : Kt} (ml : (kl, rowO 2 L.length (L.flatMap encW)) ∈ C) (mw : (wb, some (.cells (encW w) none)) ∈ C) (hl : L.length ≤ 1000000) (hC : Holds o s C) :
    ∀ (n i : Nat), i + n = L.length →
    loop PF (.loop l96_0) (sp 18 [(0, rowV kl L.length), (3, ptrN wb), (5, I i)]) s K = (if w ∈ L.drop i then K .ret (sp 18 [(4, .bool true)]) s else K (.exit 0) (sp 18 []) s)
  | 0, i, hi => by
    have hlt : ¬ ((i : Int) < (L.length : Int)) := by omega
    rw [List.drop_eq_nil_of_le (by omega), if_neg (by simp)]
    refine round fun LL hLL => ?_
    simp -implicitDefEqProofs only [↓GP, GB, GL, Nat.reduceAdd, Nat.reduceSub, Nat.reduceEqDiff, Nat.reduceMul, Nat.reduceLeDiff, Int.reduceBNe, Int.reduceBEq, Nat.reduceLT, reduceCtorEq, l96_0, hlt]
  | n + 1, i, hi => by
    have hlt : ((i : Int) < (L.length : Int)) := by omega
    have hi' : i < L.length := by omega
    have hw1 := wrap_add1 (a := i) (by omega)
    have hix := ix_row (sz := 2) (k := kl) (n := L.length) (i := i) (kk := .i64) hi'
    have er : rowO 2 L.length (L.flatMap encW) = some (.cells (L.flatMap encW) (some 2)) := by unfold rowO; rw [if_neg (by omega)]
    have fr := hC.mem (er ▸ ml)
    have fw := hC.mem mw
    have hld := ldN_tab (enc := encW) encW_len L (some 2) (List.getElem?_eq_getElem hi')
    rw [List.drop_eq_getElem_cons hi']
    generalize L[i] = v at hld
    have hq := word_eq v w
    by_cases e : v = w
    · rw [decide_eq_true e] at hq
      rw [if_pos (by rw [e]; exact List.mem_cons_self ..)]
      refine round fun LL hLL => ?_
      simp -implicitDefEqProofs only [↓GP, GB, GL, Nat.reduceAdd, Nat.reduceSub, Nat.reduceEqDiff, Nat.reduceMul, Nat.reduceLeDiff, Int.reduceBNe, Int.reduceBEq, Nat.reduceLT, reduceCtorEq, l96_0, hlt, hix, fr, fw, hld, encW, hq]
    · rw [decide_eq_false e] at hq
      refine round fun LL hLL => ?_
      simp -implicitDefEqProofs only [↓GP, GB, GL, Nat.reduceAdd, Nat.reduceSub, Nat.reduceEqDiff, Nat.reduceMul, Nat.reduceLeDiff, Int.reduceBNe, Int.reduceBEq, Nat.reduceLT, reduceCtorEq, l96_0, hlt, hix, fr, fw, hld, encW, hq, hw1]
      rw [hLL, has_loop ml mw hl hC n (i + 1) (by omega)]
      have : w ∈ v :: L.drop (i + 1) ↔ w ∈ L.drop (i + 1) := by rw [List.mem_cons]; exact ⟨fun h => h.resolve_left (fun h => e h.symm), .inr⟩
      simp only [this]
theorem s96 {kl : Nat} {L : List (Int × Int)} {w : Int × Int} (H : Holds o s C) (ml : (kl, rowO 2 L.length (L.flatMap encW)) ∈ C) (hl : L.length ≤ 1000000) (q : ∀ s', Holds o s' C → Q (.bool (decide (w ∈ L))) s') : WP (call PF 96 [rowV kl L.length, .agg (encW w)] s) Q := by
  have h1 := H.alloc (.cells (encW w) none)
  have e := fun K => has_loop (K := K) (w := w) (List.mem_cons_of_mem _ ml) (List.mem_cons_self ..) hl h1 L.length 0 (by omega)
  simp only [List.drop_zero, Int.natCast_zero, encW] at e
  by_cases hw : w ∈ L
  · simp only [if_pos hw] at e
    rw [call_run F96]; simp -implicitDefEqProofs only [↓GP, GB, GL, Nat.reduceAdd, Nat.reduceSub, Nat.reduceEqDiff, Nat.reduceMul, Nat.reduceLeDiff, Int.reduceBNe, Int.reduceBEq, Nat.reduceLT, reduceCtorEq, c96, encW, e]
    have := q _ h1.tl
    rwa [decide_eq_true hw] at this
  · simp only [if_neg hw] at e
    rw [call_run F96]; simp -implicitDefEqProofs only [↓GP, GB, GL, Nat.reduceAdd, Nat.reduceSub, Nat.reduceEqDiff, Nat.reduceMul, Nat.reduceLeDiff, Int.reduceBNe, Int.reduceBEq, Nat.reduceLT, reduceCtorEq, c96, encW, e, j96_bb]
    have := q _ h1.tl
    rwa [decide_eq_false hw] at this
theorem s101 (hC : Holds o s C) {hr : RHeap} {p : Nat} (hin : RIn C p hr) (h0 : hr.regs ≠ []) : call PF 101 [ptrN hr.id] s = some (.bool false, s) := by
  have f := hC.mem hin.id
  simp only [RHeap.hd] at f
  have h1 : ((hr.regs.length : Int) == 0) = false := by
    rw [beq_eq_false_iff_ne]
    have := List.length_pos_iff.2 h0
    omega
  rw [call_run F101]; simp -implicitDefEqProofs only [↓GP, GB, GL, Nat.reduceAdd, Nat.reduceSub, Nat.reduceEqDiff, Nat.reduceMul, Nat.reduceLeDiff, Int.reduceBNe, Int.reduceBEq, Nat.reduceLT, reduceCtorEq, c101, f, hr.rv_len, h1]
structure RLook (C : Ch) (p : Nat) (hr : RHeap) : Prop where
  rin : RIn C p hr
  ne : hr.regs ≠ []
  len : hr.regs.length ≤ 100000
  objs : ∀ g ∈ hr.regs, g.objs.length ≤ 100000
  ws : ∀ g ∈ hr.regs, ∀ x ∈ g.objs, 1 ≤ x.b.ws.length ∧ x.b.ws.length ≤ 31
theorem RLook.cons {hr : RHeap} (h : RLook C p hr) (x : Nat × Option O) : RLook (x :: C) p hr := ⟨h.rin.cons x, h.ne, h.len, h.objs, h.ws⟩
theorem RLook.mono {D : Ch} {hr : RHeap} (h : RLook C p hr) (hs : ∀ x ∈ C, x ∈ D) : RLook D p hr := ⟨h.rin.mono hs, h.ne, h.len, h.objs, h.ws⟩
theorem rfind_neg {N L : Int} (hL : ¬ 1 ≤ L) : ∀ (rs : List RReg) (i : Nat), rfind N L rs i = none
  | [], _ => rfl
  | g :: rs, i => by unfold rfind; rw [if_neg (fun h => hL h.2)]; exact rfind_neg hL rs (i + 1)
theorem find_both {hp : PHeap} {hr : RHeap} (hm : hp.regs.map PReg.m = hr.regs.map RReg.m) (w : Int × Int) :
    (rfind w.1 w.2 hr.regs 0 = none ∧ thereB hp w = false) ∨
    ∃ a b g x, rfind w.1 w.2 hr.regs 0 = some (a, b) ∧ hr.regs[a]? = some g ∧ g.objs[b]? = some x ∧ thereB hp w = true ∧ objW hp w = x.b.ws := by
  by_cases hL : 1 ≤ w.2
  · have hf := find_same (N := w.1) hL hp.regs hr.regs 0 hm
    cases h : rfind w.1 w.2 hr.regs 0 with
    | none =>
      rw [h] at hf
      simp only at hf
      refine .inl ⟨rfl, ?_⟩
      unfold thereB; rw [hf]; simp
    | some ab =>
      obtain ⟨a, b⟩ := ab
      rw [h] at hf
      obtain ⟨g, g', x, x', _, k1, k2, k3, k4, k5, k6, k7, _⟩ := hf
      refine .inr ⟨a, b, g', x', rfl, k2, k4, ?_, ?_⟩
      · unfold thereB; rw [k7]; simp; omega
      · unfold objW; rw [k7]; simp [k5]
  · refine .inl ⟨rfind_neg hL _ _, ?_⟩
    unfold thereB; rw [decide_eq_false (by omega)]; rfl
theorem reached_loop {hp : PHeap} {hr : RHeap} {roots : List (Int × Int)} {K : Kt} (h : RLook C p hr) (hm : hp.regs.map PReg.m = hr.regs.map RReg.m) (hT : (roots ++ (reachW hp roots).flatMap (objW hp)).length ≤ 10000000) (hall : (allW hp).length ≤ 90000) :
    ∀ (n j k kt : Nat) (out todo : List (Int × Int)) (s : St), j + n = (roots ++ (reachW hp roots).flatMap (objW hp)).length + 1 → out <+: reachW hp roots → todo = roots ++ out.flatMap (objW hp) → out = putAllW hp (todo.take j) → j ≤ todo.length →
    Holds o s ((k, rowO 2 out.length (out.flatMap encW)) :: (kt, rowO 2 todo.length (todo.flatMap encW)) :: C) →
    (∀ s' k', Holds o s' ((k', rowO 2 (reachW hp roots).length ((reachW hp roots).flatMap encW)) :: C) → WP (K (.exit 0) (sp 63 [(6, rowV k' (reachW hp roots).length)]) s') Q) →
    WP (loop PF (.loop l52_0) (sp 63 [(0, ptrN hr.id), (6, rowV k out.length), (7, rowV kt todo.length), (8, I j)]) s K) Q
  | 0, j, k, kt, out, todo, s, hn, h1, h2, h3, hj, H, q => by
    have := reach_todo h1
    rw [← h2] at this
    omega
  | n + 1, j, k, kt, out, todo, s, hn, h1, h2, h3, hj, H, q => by
    have htl := reach_todo h1
    rw [← h2] at htl
    have hol : out.length ≤ 90000 := Nat.le_trans h1.length_le (Nat.le_trans (Found.reach hp roots).len hall)
    by_cases hlt0 : j < todo.length
    · have hlt : ((j : Int) < (todo.length : Int)) := by omega
      have hw1 := wrap_add1 (a := j) (by omega)
      have hix := ix_row (sz := 2) (k := kt) (n := todo.length) (i := j) (kk := .i64) hlt0
      have er : rowO 2 todo.length (todo.flatMap encW) = some (.cells (todo.flatMap encW) (some 2)) := by unfold rowO; rw [if_neg (by omega)]
      have mt : (kt, some (.cells (todo.flatMap encW) (some 2))) ∈ (k, rowO 2 out.length (out.flatMap encW)) :: (kt, rowO 2 todo.length (todo.flatMap encW)) :: C := List.mem_cons_of_mem _ (er ▸ List.mem_cons_self ..)
      have fr := H.mem mt
      have hg := List.getElem?_eq_getElem hlt0
      have hld := ldN_tab (enc := encW) encW_len todo (some 2) hg
      generalize todo[j] = w at hg hld
      obtain ⟨k1, k2⟩ := reach_step h1 h2 h3 hg
      have h' := (h.cons (kt, rowO 2 todo.length (todo.flatMap encW))).cons (k, rowO 2 out.length (out.flatMap encW))
      refine wp_round fun LL hLL => ?_
      simp -implicitDefEqProofs only [↓GP, GB, GL, Nat.reduceAdd, Nat.reduceSub, Nat.reduceEqDiff, Nat.reduceMul, Nat.reduceLeDiff, Int.reduceBNe, Int.reduceBEq, Nat.reduceLT, reduceCtorEq, l52_0, hlt, hix, fr, hld, encW]
      refine wp_in (s103 H h'.rin h'.len h'.objs fun s1 g1 => ?_)
      rcases find_both hm w with ⟨e1, e2⟩ | ⟨a, b, g, x, e1, e2, e3, e4, e5⟩
      · rw [e1]
        have ep : putW hp out w = out := if_neg (fun hh => by rw [e2] at hh; cases hh.2)
        rw [ep] at k2
        simp -implicitDefEqProofs only [↓GP, GB, GL, Nat.reduceAdd, Nat.reduceSub, Nat.reduceEqDiff, Nat.reduceMul, Nat.reduceLeDiff, Int.reduceBNe, Int.reduceBEq, Nat.reduceLT, reduceCtorEq, Int.reduceNeg, Int.reduceLT, hw1]
        rw [hLL]
        exact reached_loop h hm hT hall n (j + 1) k kt out todo s1 (by omega) h1 h2 k2 (by omega) g1 q
      · rw [e1]
        have ha : ¬ ((a : Int) < 0) := by omega
        have fr1 := g1.mem mt
        simp -implicitDefEqProofs only [↓GP, GB, GL, Nat.reduceAdd, Nat.reduceSub, Nat.reduceEqDiff, Nat.reduceMul, Nat.reduceLeDiff, Int.reduceBNe, Int.reduceBEq, Nat.reduceLT, reduceCtorEq, ha, hix, fr1, hld, encW]
        refine wp_in (s96 (w := w) g1 (List.mem_cons_self ..) (by omega) fun s2 g2 => ?_)
        by_cases hin : w ∈ out
        · rw [decide_eq_true hin]
          have ep : putW hp out w = out := if_neg (fun hh => hh.1 hin)
          rw [ep] at k2
          simp -implicitDefEqProofs only [↓GP, GB, GL, Nat.reduceAdd, Nat.reduceSub, Nat.reduceEqDiff, Nat.reduceMul, Nat.reduceLeDiff, Int.reduceBNe, Int.reduceBEq, Nat.reduceLT, reduceCtorEq, hw1]
          rw [hLL]
          exact reached_loop h hm hT hall n (j + 1) k kt out todo s2 (by omega) h1 h2 k2 (by omega) g2 q
        · rw [decide_eq_false hin]
          have ep : putW hp out w = out ++ [w] := if_pos ⟨hin, e4⟩
          rw [ep] at k1 k2
          have fr2 := g2.mem mt
          have mg := List.mem_of_getElem? e2
          have mx := List.mem_of_getElem? e3
          have hws := h.ws g mg x mx
          have h2' : todo ++ x.b.ws = roots ++ (out ++ [w]).flatMap (objW hp) := by rw [h2, List.flatMap_append, List.flatMap_cons, List.flatMap_nil, List.append_nil, e5, List.append_assoc]
          have htl2 := reach_todo k1
          rw [← h2', List.length_append] at htl2
          simp -implicitDefEqProofs only [↓GP, GB, GL, Nat.reduceAdd, Nat.reduceSub, Nat.reduceEqDiff, Nat.reduceMul, Nat.reduceLeDiff, Int.reduceBNe, Int.reduceBEq, Nat.reduceLT, reduceCtorEq, hix, fr2, hld, encW]
          refine wp_append (sz := 2) (bytes := 16) (m := 1) (cs := out.flatMap encW) ((g2.alloc _).r1) (by rw [tab_len encW_len]) (new_cells' (alloc_new_same _ _) rfl) rfl rfl (by omega) (by unfold maxRow; omega) (by unfold maxRow; omega) fun k' s3 g3 => ?_
          have g4 := g3.r1.tl
          have h4 := (h.cons (kt, rowO 2 todo.length (todo.flatMap encW))).cons (k', rowO 2 (out.length + 1) (out.flatMap encW ++ [I w.1, I w.2]))
          have f4 := g4.mem h4.rin.id
          have fr4 := g4.mem h4.rin.row
          have mo := h4.rin.ob mg
          unfold RReg.obO at mo
          rw [rowO_pos (List.length_pos_iff.2 (List.ne_nil_of_mem mx) : 0 < g.objs.length)] at mo
          have fo := g4.mem mo
          have fw := g4.mem (h4.rin.w mg mx)
          simp only [RHeap.hd] at f4
          simp -implicitDefEqProofs only [↓GP, GB, GL, Nat.reduceAdd, Nat.reduceSub, Nat.reduceEqDiff, Nat.reduceMul, Nat.reduceLeDiff, Int.reduceBNe, Int.reduceBEq, Nat.reduceLT, reduceCtorEq, f4, fr4, rreg e2, fo, robj e3, ix_row (List.getElem?_eq_some_iff.1 e3).1]
          refine wp_append (k := kt) (n := todo.length) (sz := 2) (bytes := 16) (m := x.b.ws.length) (cs := todo.flatMap encW) (F := (k', rowO 2 (out.length + 1) (out.flatMap encW ++ [I w.1, I w.2])) :: C) (g4.r1) (by rw [tab_len encW_len]) (new_cV fw.1 (by rw [tab_len encW_len])) (by rw [tab_len encW_len]) (by rw [List.all_flatMap]; simp [encW, V.one]) (by omega) (by unfold maxRow; omega) (by unfold maxRow; omega) fun kt' s4 g5 => ?_
          simp -implicitDefEqProofs only [↓GP, GB, GL, Nat.reduceAdd, Nat.reduceSub, Nat.reduceEqDiff, Nat.reduceMul, Nat.reduceLeDiff, Int.reduceBNe, Int.reduceBEq, Nat.reduceLT, reduceCtorEq, hw1]
          rw [hLL]
          have hl1 : (out ++ [w]).length = out.length + 1 := by simp
          have hl2 : (todo ++ x.b.ws).length = todo.length + x.b.ws.length := by simp
          have := reached_loop (K := K) h hm hT hall n (j + 1) k' kt' (out ++ [w]) (todo ++ x.b.ws) s4 (by omega) k1 h2' (by rw [k2, List.take_append_of_le_length (by omega)]) (by omega) (by
            rw [hl1, hl2, List.flatMap_append, List.flatMap_append]; simpa [encW] using g5.r1) q
          rw [hl1, hl2] at this
          exact this
    · have hlt : ¬ ((j : Int) < (todo.length : Int)) := by omega
      have e : out = reachW hp roots := by
        refine reach_done h1 ?_
        rw [List.take_of_length_le (by omega)] at h3
        rw [← h2]; exact h3
      refine wp_round fun LL hLL => ?_
      simp -implicitDefEqProofs only [↓GP, GB, GL, Nat.reduceAdd, Nat.reduceSub, Nat.reduceEqDiff, Nat.reduceMul, Nat.reduceLeDiff, Int.reduceBNe, Int.reduceBEq, Nat.reduceLT, reduceCtorEq, l52_0, hlt]
      rw [e] at H ⊢
      exact q s k H.r1.tl
theorem all_objW {hp : PHeap} (hw : ∀ g ∈ hp.regs, ∀ x ∈ g.objs, x.b.ws.length ≤ 31) (w : Int × Int) : (objW hp w).length ≤ 31 := by
  unfold objW
  cases h : pfind w.1 w.2 hp.regs with
  | none => simp
  | some x =>
    obtain ⟨g, mg, mx⟩ := pfind_mem h
    exact hw g mg x mx
theorem flat_len {α β : Type} {f : α → List β} {n : Nat} (h : ∀ a, (f a).length ≤ n) : ∀ l : List α, (l.flatMap f).length ≤ l.length * n
  | [] => by simp
  | a :: l => by
    have := flat_len h l
    have := h a
    rw [List.flatMap_cons, List.length_append, List.length_cons, Nat.succ_mul]
    omega
theorem s52 {hp : PHeap} {hr : RHeap} {kr : Nat} {roots : List (Int × Int)} (H : Holds o s C) (h : RLook C p hr) (hm : hp.regs.map PReg.m = hr.regs.map RReg.m) (hw : ∀ g ∈ hp.regs, ∀ x ∈ g.objs, x.b.ws.length ≤ 31) (hr' : (kr, rowO 2 roots.length (roots.flatMap encW)) ∈ C) (hrl : roots.length ≤ 1000) (hall : (allW hp).length ≤ 90000)
    (q : ∀ s' k, Holds o s' ((k, rowO 2 (reachW hp roots).length ((reachW hp roots).flatMap encW)) :: C) → Q (.tuple [rowV k (reachW hp roots).length, I 0]) s') : WP (call PF 52 [ptrN hr.id, rowV kr roots.length] s) Q := by
  have e := s101 H h.rin h.ne
  rw [call_run F52]; simp -implicitDefEqProofs only [↓GP, GB, GL, Nat.reduceAdd, Nat.reduceSub, Nat.reduceEqDiff, Nat.reduceMul, Nat.reduceLeDiff, Int.reduceBNe, Int.reduceBEq, Nat.reduceLT, reduceCtorEq, c52, e]
  have h1 := H.alloc (.cells [] none)
  by_cases h0 : roots.length = 0
  · have hr0 := List.length_eq_zero_iff.1 h0
    have e0 : rowV kr roots.length = .slice none 0 (some 0) := by rw [h0]; rfl
    rw [e0]
    refine wp_append00 (show newCells _ 2 (.slice none 0 (some 0)) = some ([], 0) by simp [newCells]) ?_
    simp -implicitDefEqProofs only [↓GP, GB, GL, Nat.reduceAdd, Nat.reduceSub, Nat.reduceEqDiff, Nat.reduceMul, Nat.reduceLeDiff, Int.reduceBNe, Int.reduceBEq, Nat.reduceLT, reduceCtorEq]
    refine wp_round fun LL hLL => ?_
    simp -implicitDefEqProofs only [↓GP, GB, GL, Nat.reduceAdd, Nat.reduceSub, Nat.reduceEqDiff, Nat.reduceMul, Nat.reduceLeDiff, Int.reduceBNe, Int.reduceBEq, Nat.reduceLT, reduceCtorEq, l52_0, Int.natCast_zero, Int.lt_irrefl, j52_bbbbb]
    have := q (s.alloc (.cells [] none)) 0 (by rw [hr0, reach_nil]; exact h1.tl.nilEntry 0)
    rw [hr0, reach_nil] at this
    exact this
  · rw [rowO_pos (by omega)] at hr'
    have hT : (roots ++ (reachW hp roots).flatMap (objW hp)).length ≤ 10000000 := by
      have h3 := (Found.reach hp roots).len
      have h4 := flat_len (all_objW hw) (reachW hp roots)
      rw [List.length_append]; omega
    refine wp_append0 (sz := 2) h1 (new_row (.inr (h1.mem (List.mem_cons_of_mem _ hr')).1) (by rw [tab_len encW_len])) (by omega) (by omega) (by unfold maxRow; omega) (by unfold maxRow; omega) fun kt s1 h2 => ?_
    simp -implicitDefEqProofs only [↓GP, GB, GL, Nat.reduceAdd, Nat.reduceSub, Nat.reduceEqDiff, Nat.reduceMul, Nat.reduceLeDiff, Int.reduceBNe, Int.reduceBEq, Nat.reduceLT, reduceCtorEq]
    rw [I0, ← rowV_z 0]
    refine reached_loop h hm hT hall _ 0 0 kt [] roots s1 (Nat.zero_add _) (List.nil_prefix) (by simp) (by simp [putAllW]) (Nat.zero_le _) ((show Holds o s1 ((kt, rowO 2 roots.length (roots.flatMap encW)) :: C) by rw [rowO_pos (by omega)]; exact h2).nilEntry 0) fun s2 k2 h3 => ?_
    simp -implicitDefEqProofs only [↓GP, GB, GL, Nat.reduceAdd, Nat.reduceSub, Nat.reduceEqDiff, Nat.reduceMul, Nat.reduceLeDiff, Int.reduceBNe, Int.reduceBEq, Nat.reduceLT, reduceCtorEq, j52_bbbbb]
    exact q s2 k2 h3
end
end Go.Proofs.Ytoldkemimhebaaa

set_option linter.unusedSimpArgs false
set_option linter.unusedVariables false
namespace Go.Proofs.Ytoldkemimhebaaa
open Go Go.IM
def l95_0 : IC := (.seq (.seq (.seq (.region [oa 47 (.mov (.t 6)), oa 48 (.mov (.t 0)), oa 49 (.nilCheck (.t 48)), oa 50 (.fieldAddr 1 (.t 49)), oa 51 (.load none (.t 50)), oa 52 (.mov (.t 4)), oa 53 (.indexAddr 5 (.t 51) (.t 52)), oa 54 (.fieldAddr 4 (.t 53)), oa 55 (.load none (.t 54)), oa 56 (.lenSlice (.t 55)), oa 57 (.bin .lss (.t 47) (.t 56))] (kp 93 [0,3,4,5,6,57]))
  (.cond (.t 57)
  (sk 93 [0,3,4,5,6])
  (sx 93 [0,3,4,5] 2)))
  (.seq (.block 3
  (.seq (.region [oa 60 (.mov (.t 0)), oa 61 (.nilCheck (.t 60)), oa 62 (.fieldAddr 1 (.t 61)), oa 63 (.load none (.t 62)), oa 64 (.mov (.t 4)), oa 65 (.indexAddr 5 (.t 63) (.t 64)), oa 66 (.fieldAddr 4 (.t 65)), oa 67 (.load none (.t 66)), oa 68 (.mov (.t 6)), oa 69 (.indexAddr 3 (.t 67) (.t 68)), oa 70 (.load (some 3) (.t 69)), oa 7 (.alloc [(.int .i64 (0)), (.int .i64 (0)), (.slice none 0 (some 0))]), ob (.store 3 (.t 7) (.t 70))] (kp 93 [0,3,4,5,6,7]))
  (.seq (.region [oa 71 (.buildSlice 0 [] []), oa 72 (.fieldAddr 2 (.t 7)), oa 73 (.load none (.t 72)), oa 74 (.append 2 16 (.t 71) (.t 73)), oa 75 (.fieldAddr 2 (.t 7)), ob (.store 1 (.t 75) (.t 74))] (kp 93 [0,3,4,5,6,7]))
  (.region [oa 76 (.fieldAddr 4 (.t 5)), oa 77 (.load none (.t 76)), oa 78 (.load (some 3) (.t 7)), oa 79 (.buildSlice 1 [(.int .i64 (0)), (.int .i64 (0)), (.slice none 0 (some 0))] [(0, 3, (.t 78))]), oa 80 (.append 3 40 (.t 77) (.t 79)), oa 81 (.fieldAddr 4 (.t 5)), ob (.store 1 (.t 81) (.t 80))] (kp 93 [0,3,4,5,6])))))
  (.region [oa 58 (.mov (.t 6)), oa 59 (.bin .add (.t 58) (ai 1)), oa 6 (.mov (.t 59))] (kp 93 [0,3,4,5,6]))))
  (sk 93 [0,3,4,5,6]))
def j95_1xabaabbbb : IC := (.region [oa 82 (.mov (.t 3)), oa 83 (.mov (.t 3)), oa 84 (.nilCheck (.t 83)), oa 85 (.fieldAddr 1 (.t 84)), oa 86 (.load none (.t 85)), oa 87 (.load (some 5) (.t 5)), oa 88 (.buildSlice 1 [(.int .i64 (0)), (.int .i64 (0)), (.slice none 0 (some 0)), (.int .i64 (0)), (.slice none 0 (some 0))] [(0, 5, (.t 87))]), oa 89 (.append 5 72 (.t 86) (.t 88)), oa 90 (.nilCheck (.t 82)), oa 91 (.fieldAddr 1 (.t 90)), ob (.store 1 (.t 91) (.t 89))] (kp 93 [0,3,4]))
def l95_1 : IC := (.seq (.seq (.seq (.region [oa 25 (.mov (.t 4)), oa 26 (.mov (.t 0)), oa 27 (.nilCheck (.t 26)), oa 28 (.fieldAddr 1 (.t 27)), oa 29 (.load none (.t 28)), oa 30 (.lenSlice (.t 29)), oa 31 (.bin .lss (.t 25) (.t 30))] (kp 93 [0,3,4,31]))
  (.cond (.t 31)
  (sk 93 [0,3,4])
  (sx 93 [3] 0)))
  (.seq (.block 1
  (.seq (.region [oa 34 (.mov (.t 0)), oa 35 (.nilCheck (.t 34)), oa 36 (.fieldAddr 1 (.t 35)), oa 37 (.load none (.t 36)), oa 38 (.mov (.t 4)), oa 39 (.indexAddr 5 (.t 37) (.t 38)), oa 40 (.load (some 5) (.t 39)), oa 5 (.alloc [(.int .i64 (0)), (.int .i64 (0)), (.slice none 0 (some 0)), (.int .i64 (0)), (.slice none 0 (some 0))]), ob (.store 5 (.t 5) (.t 40))] (kp 93 [0,3,4,5]))
  (.seq (.region [oa 41 (.buildSlice 0 [] []), oa 42 (.fieldAddr 2 (.t 5)), oa 43 (.load none (.t 42)), oa 44 (.append 1 8 (.t 41) (.t 43)), oa 45 (.fieldAddr 2 (.t 5)), ob (.store 1 (.t 45) (.t 44))] (kp 93 [0,3,4,5]))
  (.seq (.region [oa 46 (.fieldAddr 4 (.t 5)), ob (.store 1 (.t 46) (.c (.slice none 0 (some 0))))] (kp 93 [0,3,4,5]))
  (.seq (.seq (.region [oa 6 (.mov (ai 0))] (kp 93 [0,3,4,5,6]))
  (.block 2
  (.seq (sk 93 [0,3,4,5,6])
  (.loop l95_0))))
  j95_1xabaabbbb)))))
  (.region [oa 32 (.mov (.t 4)), oa 33 (.bin .add (.t 32) (ai 1)), oa 4 (.mov (.t 33))] (kp 93 [0,3,4]))))
  (sk 93 [0,3,4]))
def j95_bbb : IC := (.seq (.region [oa 92 (.mov (.t 3)), oa 2 (.mov (.t 92))] (kp 93 [2]))
  (sr 93 [2]))
def c95 : IFn := ⟨93, [(2, none)],
  (.seq (.region [oa 2 (.mov (.c (.ptr none)))] (kp 93 [0]))
  (.seq (.region [oa 8 (.buildSlice 0 [] []), oa 9 (.mov (.t 0)), oa 10 (.nilCheck (.t 9)), oa 11 (.fieldAddr 0 (.t 10)), oa 12 (.load none (.t 11)), oa 13 (.nilCheck (.t 12)), oa 14 (.fieldAddr 0 (.t 13)), oa 15 (.load none (.t 14)), oa 19 (.mov (.t 0)), oa 20 (.nilCheck (.t 19)), oa 21 (.fieldAddr 2 (.t 20)), oa 22 (.load none (.t 21)), oa 16 (.append 1 1 (.t 8) (.t 15)), ob (.again 22 (.load none (.t 21))), oa 17 (.build [(.slice none 0 (some 0))] [(0, 1, (.t 16))]), oa 18 (.box (.t 17)), oa 23 (.build [(.ptr none), (.slice none 0 (some 0)), (.int .i64 (0))] [(0, 1, (.t 18)), (2, 1, (.t 22))]), oa 24 (.box (.t 23)), oa 3 (.mov (.t 24))] (kp 93 [0,3]))
  (.seq (.seq (.region [oa 4 (.mov (ai 0))] (kp 93 [0,3,4]))
  (.block 0
  (.seq (sk 93 [0,3,4])
  (.loop l95_1))))
  j95_bbb)))⟩
theorem F95 : shutF Try.prog 95 = some c95 := by kernel_rfl
section
variable {o : Nat → Option O} {s : St} {C F : Ch} {Q : V → St → Prop} {p q : Nat}
set_option maxRecDepth 10000
set_option maxHeartbeats 4000000
theorem wp_append_pg {C : CallT} {d : Option Nat} {r : List II} {e : Env} {K : Env → St → Res} {bytes t n : Nat} {new : List V} {y : V} (h : Holds o s ((t, some (.cells [] none)) :: F)) (hy : newCells s 1 y = some (new, n)) (hn : new.length = n) (hb : n * bytes ≤ maxRow) (hb' : n ≤ maxRow)
    (q : ∀ pk s', Holds o s' ((pk, rowO 1 n new) :: F) → WP (goOps C r (put e d (pgV pk n)) s' K) Q) : WP (contO C d r e K (appendI 1 bytes (.slice (some ⟨.new t, 0⟩) 0 (some 0)) y s)) Q := by
  by_cases h0 : n = 0
  · subst h0
    have hnn := List.length_eq_zero_iff.1 hn
    subst hnn
    refine wp_append00 hy ?_
    exact q (t + 1) s (h.tl.nilEntry _)
  · refine wp_append0 (sz := 1) h hy (by omega) (by omega) hb hb' fun k s' h1 => ?_
    have := q k s' (by rw [rowO_pos (by omega)]; exact h1)
    rw [pgV_pos (by omega)] at this
    exact this
theorem newCells_pgV {S : St} {k : Nat} {l : List Nat} (h : l.length = 0 ∨ S.new k = some (.cells (l.map fun n : Nat => I n) (some 1))) : newCells S 1 (pgV k l.length) = some (l.map fun n : Nat => I n, l.length) := by
  by_cases h0 : l.length = 0
  · rw [h0, List.length_eq_zero_iff.1 h0]; exact newCells_pg ..
  · rw [pgV_pos (by omega)]
    exact new_row (.inr (h.resolve_left h0)) (by simp)
def copyO (xs : List RObj) (ks : List Nat) : List RObj := List.zipWith (fun x k => ⟨k, x.b, true⟩) xs ks
theorem copyO_b : ∀ (xs : List RObj) (ks : List Nat), ks.length = xs.length → (copyO xs ks).map (·.b) = xs.map (·.b)
  | [], [], _ => rfl
  | [], _ :: _, h => by simp at h
  | _ :: _, [], h => by simp at h
  | x :: xs, k :: ks, h => by
    have := copyO_b xs ks (by simpa using h)
    simp only [copyO] at this
    simp only [copyO, List.zipWith_cons_cons, List.map_cons, this]
theorem copyO_snoc : ∀ (xs : List RObj) (ks : List Nat) (x : RObj) (k : Nat), ks.length = xs.length → copyO (xs ++ [x]) (ks ++ [k]) = copyO xs ks ++ [⟨k, x.b, true⟩]
  | [], [], _, _, _ => rfl
  | [], _ :: _, _, _, h => by simp at h
  | _ :: _, [], _, _, h => by simp at h
  | a :: xs, b :: ks, x, k, h => by
    have := copyO_snoc xs ks x k (by simpa using h)
    simp only [copyO] at this
    simp only [copyO, List.cons_append, List.zipWith_cons_cons, this]
theorem copyO_len (xs : List RObj) (ks : List Nat) (h : ks.length = xs.length) : (copyO xs ks).length = xs.length := by simp [copyO, h]
theorem copyo_loop {hr : RHeap} {g : RReg} {i hc t : Nat} {c0 c1 c2 c3 : V} {K : Kt} (h : RLook C p hr) (hg : hr.regs[i]? = some g) :
    ∀ (n j ok : Nat) (ks : List Nat) (s : St), j + n = g.objs.length → ks.length = j →
    Holds o s ((t, some (.cells [c0, c1, c2, c3, rowV ok j] none)) :: (ok, rowO 3 j ((copyO (g.objs.take j) ks).flatMap RObj.enc)) :: ((copyO (g.objs.take j) ks).flatMap RObj.ch ++ C)) →
    (∀ s' ok' ks', ks'.length = g.objs.length → Holds o s' ((t, some (.cells [c0, c1, c2, c3, rowV ok' g.objs.length] none)) :: (ok', rowO 3 g.objs.length ((copyO g.objs ks').flatMap RObj.enc)) :: ((copyO g.objs ks').flatMap RObj.ch ++ C)) →
      WP (K (.exit 2) (sp 93 [(0, ptrN hr.id), (3, ptrN hc), (4, I i), (5, ptrN t)]) s') Q) →
    WP (loop PF (.loop l95_0) (sp 93 [(0, ptrN hr.id), (3, ptrN hc), (4, I i), (5, ptrN t), (6, I j)]) s K) Q
  | 0, j, ok, ks, s, hj, hk, H, q => by
    have h' := (h.mono fun x hx => List.mem_append_right ((copyO (g.objs.take j) ks).flatMap RObj.ch) hx).cons (ok, rowO 3 j ((copyO (g.objs.take j) ks).flatMap RObj.enc)) |>.cons (t, some (.cells [c0, c1, c2, c3, rowV ok j] none))
    have f := H.mem h'.rin.id
    have fr := H.mem h'.rin.row
    simp only [RHeap.hd] at f
    have hlt : ¬ ((j : Int) < (g.objs.length : Int)) := by omega
    have e : j = g.objs.length := by omega
    refine wp_round fun LL hLL => ?_
    simp -implicitDefEqProofs only [↓GP, GB, GL, Nat.reduceAdd, Nat.reduceSub, Nat.reduceEqDiff, Nat.reduceMul, Nat.reduceLeDiff, Int.reduceBNe, Int.reduceBEq, Nat.reduceLT, reduceCtorEq, l95_0, f, fr, rreg hg, hlt]
    subst e
    rw [List.take_length] at H
    exact q s ok ks hk H
  | n + 1, j, ok, ks, s, hj, hk, H, q => by
    have h' := (h.mono fun x hx => List.mem_append_right ((copyO (g.objs.take j) ks).flatMap RObj.ch) hx).cons (ok, rowO 3 j ((copyO (g.objs.take j) ks).flatMap RObj.enc)) |>.cons (t, some (.cells [c0, c1, c2, c3, rowV ok j] none))
    have hj' : j < g.objs.length := by omega
    have hlt : ((j : Int) < (g.objs.length : Int)) := by omega
    have mg := List.mem_of_getElem? hg
    have hol := h.objs g mg
    have hw1 := wrap_add1 (a := j) (by omega)
    have f := H.mem h'.rin.id
    have fr := H.mem h'.rin.row
    simp only [RHeap.hd] at f
    have mo := h'.rin.ob mg
    unfold RReg.obO at mo
    rw [rowO_pos (by omega : 0 < g.objs.length)] at mo
    have fo := H.mem mo
    have hx := List.getElem?_eq_getElem hj'
    have mx := List.getElem_mem hj'
    have htk : g.objs.take (j + 1) = g.objs.take j ++ [g.objs[j]] := by rw [List.take_add_one, hx]; rfl
    have hcl : (copyO (g.objs.take j) ks).length = j := by rw [copyO_len _ _ (by simp; omega)]; simp; omega
    generalize g.objs[j] = x at hx mx htk
    have hws := h.ws g mg x mx
    have fw := H.mem (h'.rin.w mg mx)
    refine wp_round fun LL hLL => ?_
    simp -implicitDefEqProofs only [↓GP, GB, GL, Nat.reduceAdd, Nat.reduceSub, Nat.reduceEqDiff, Nat.reduceMul, Nat.reduceLeDiff, Int.reduceBNe, Int.reduceBEq, Nat.reduceLT, reduceCtorEq, l95_0, f, fr, rreg hg, hlt, fo, robj hx, ix_row hj', RObj.enc]
    have h1 := ((H.alloc (.cells [I 0, I 0, .slice none 0 (some 0)] none)).set0 (.cells [I x.b.at_, I x.b.kind, cV x.gr x.wid x.b.ws.length] none)).alloc (.cells [] none)
    have fw1 := (h1.mem (List.mem_cons_of_mem _ (List.mem_cons_of_mem _ (h'.rin.w mg mx)))).1
    refine wp_append0 (sz := 2) h1 (new_cV fw1 (by rw [tab_len encW_len])) (by omega) (by omega) (by unfold maxRow; omega) (by unfold maxRow; omega) fun kw s1 h2 => ?_
    have f2 := h2.tl.f2
    simp -implicitDefEqProofs only [↓GP, GB, GL, Nat.reduceAdd, Nat.reduceSub, Nat.reduceEqDiff, Nat.reduceMul, Nat.reduceLeDiff, Int.reduceBNe, Int.reduceBEq, Nat.reduceLT, reduceCtorEq, f2]
    have h3 := (h2.set1 (.cells [I x.b.at_, I x.b.kind, rowV kw x.b.ws.length] none)).alloc (.cells [I x.b.at_, I x.b.kind, rowV kw x.b.ws.length] none)
    refine wp_append (k := ok) (n := j) (sz := 3) (bytes := 40) (m := 1) (cs := (copyO (g.objs.take j) ks).flatMap RObj.enc) (F := (t, some (.cells [c0, c1, c2, c3, rowV ok j] none)) :: (s1.next, some (.cells [I x.b.at_, I x.b.kind, rowV kw x.b.ws.length] none)) :: (kw, some (.cells (x.b.ws.flatMap encW) (some 2))) :: ((copyO (g.objs.take j) ks).flatMap RObj.ch ++ C)) (Holds.of (h3) (fun k => by simp +arith only [HA, HB]) (fun k x => by simp only [HA, HC]; grind only))
      (by rw [tab_len RObj.enc_len, hcl]) (new_cells' (alloc_new_same _ _) rfl) rfl (by simp only [List.all_cons, List.all_nil, rowV_one, one_int, Bool.and_true]) (by omega) (by unfold maxRow; omega) (by unfold maxRow; omega) fun ok' s2 h4 => ?_
    have f4 := h4.tl.f1
    simp -implicitDefEqProofs only [↓GP, GB, GL, Nat.reduceAdd, Nat.reduceSub, Nat.reduceEqDiff, Nat.reduceMul, Nat.reduceLeDiff, Int.reduceBNe, Int.reduceBEq, Nat.reduceLT, reduceCtorEq, f4, hw1]
    rw [hLL]
    have h5 := h4.set1 (.cells [c0, c1, c2, c3, rowV ok' (j + 1)] none)
    have hcs := copyO_snoc (g.objs.take j) ks x kw (by simp; omega)
    have hvt : rowV kw x.b.ws.length = cV true kw x.b.ws.length := (cV_tt (by omega)).symm
    refine copyo_loop h hg n (j + 1) ok' (ks ++ [kw]) _ (by omega) (by simp; omega) ?_ q
    rw [htk, hcs]
    exact (Holds.of (h5) (fun k => by simp +arith only [RObj.enc, hvt, cG_tt, HA, HB]) (fun k x => by simp only [RObj.enc, hvt, cG_tt, HA, HC]; grind only))
theorem copyr_loop {hr : RHeap} {hc p2 : Nat} {K : Kt} (h : RLook C p hr) (hpl : ∀ g ∈ hr.regs, g.pages.length ≤ 400) :
    ∀ (n i rk : Nat) (D : List RReg) (s : St), i + n = hr.regs.length → D.map RReg.m = (hr.regs.take i).map RReg.m →
    Holds o s ((hc, some (.cells [ptrN p2, rowV rk i, I hr.lives] none)) :: (rk, rowO 5 i (D.flatMap RReg.enc)) :: (D.flatMap RReg.ch ++ C)) →
    (∀ s' rk' (D' : List RReg), D'.map RReg.m = hr.regs.map RReg.m → Holds o s' ((hc, some (.cells [ptrN p2, rowV rk' hr.regs.length, I hr.lives] none)) :: (rk', rowO 5 hr.regs.length (D'.flatMap RReg.enc)) :: (D'.flatMap RReg.ch ++ C)) → WP (K (.exit 0) (sp 93 [(3, ptrN hc)]) s') Q) →
    WP (loop PF (.loop l95_1) (sp 93 [(0, ptrN hr.id), (3, ptrN hc), (4, I i)]) s K) Q
  | 0, i, rk, D, s, hi, hD, H, q => by
    have h' := ((h.mono fun x hx => List.mem_append_right (D.flatMap RReg.ch) hx).cons (rk, rowO 5 i (D.flatMap RReg.enc))).cons (hc, some (.cells [ptrN p2, rowV rk i, I hr.lives] none))
    have f := H.mem h'.rin.id
    simp only [RHeap.hd] at f
    have hlt : ¬ ((i : Int) < (hr.regs.length : Int)) := by omega
    have e : i = hr.regs.length := by omega
    refine wp_round fun LL hLL => ?_
    simp -implicitDefEqProofs only [↓GP, GB, GL, Nat.reduceAdd, Nat.reduceSub, Nat.reduceEqDiff, Nat.reduceMul, Nat.reduceLeDiff, Int.reduceBNe, Int.reduceBEq, Nat.reduceLT, reduceCtorEq, l95_1, f, hr.rv_len, hlt]
    subst e
    rw [List.take_length] at hD
    exact q s rk D hD H
  | n + 1, i, rk, D, s, hi, hD, H, q => by
    have h' := ((h.mono fun x hx => List.mem_append_right (D.flatMap RReg.ch) hx).cons (rk, rowO 5 i (D.flatMap RReg.enc))).cons (hc, some (.cells [ptrN p2, rowV rk i, I hr.lives] none))
    have hi' : i < hr.regs.length := by omega
    have hlt : ((i : Int) < (hr.regs.length : Int)) := by omega
    have hlen := h.len
    have hw1 := wrap_add1 (a := i) (by omega)
    have f := H.mem h'.rin.id
    have fr := H.mem h'.rin.row
    simp only [RHeap.hd] at f
    have hg := List.getElem?_eq_getElem hi'
    have mg := List.getElem_mem hi'
    have htk : hr.regs.take (i + 1) = hr.regs.take i ++ [hr.regs[i]] := by rw [List.take_add_one, hg]; rfl
    generalize hr.regs[i] = g at hg mg htk
    have hDl : D.length = i := by have := congrArg List.length hD; simp at this; omega
    refine wp_round fun LL hLL => ?_
    simp -implicitDefEqProofs only [↓GP, GB, GL, Nat.reduceAdd, Nat.reduceSub, Nat.reduceEqDiff, Nat.reduceMul, Nat.reduceLeDiff, Int.reduceBNe, Int.reduceBEq, Nat.reduceLT, reduceCtorEq, l95_1, f, fr, hr.rv_len, rreg hg, hlt, RReg.enc]
    have h1 := ((H.alloc (.cells [I 0, I 0, .slice none 0 (some 0), I 0, .slice none 0 (some 0)] none)).set0 (.cells [I g.size, I g.life, pgV g.pgk g.pages.length, I g.fill, rowV g.obk g.objs.length] none)).alloc (.cells [] none)
    have hgl := hpl g mg
    have hy := newCells_pgV (S := (((s.alloc (.cells [I 0, I 0, .slice none 0 (some 0), I 0, .slice none 0 (some 0)] none)).set s.next (.cells [I g.size, I g.life, pgV g.pgk g.pages.length, I g.fill, rowV g.obk g.objs.length] none))).alloc (.cells [] none)) (k := g.pgk) (l := g.pages) (by
      have mp := h'.rin.pg mg
      by_cases h0 : g.pages.length = 0
      · exact .inl h0
      · rw [pagesO, rowO_pos (by omega : 0 < g.pages.length)] at mp
        exact .inr (h1.mem (List.mem_cons_of_mem _ (List.mem_cons_of_mem _ mp))).1)
    refine wp_append_pg h1 hy (by simp) (by unfold maxRow; omega) (by unfold maxRow; omega) fun pk s1 h2 => ?_
    have f2 := h2.tl.f1
    simp -implicitDefEqProofs only [↓GP, GB, GL, Nat.reduceAdd, Nat.reduceSub, Nat.reduceEqDiff, Nat.reduceMul, Nat.reduceLeDiff, Int.reduceBNe, Int.reduceBEq, Nat.reduceLT, reduceCtorEq, f2]
    have h3 := (h2.set1 (.cells [I g.size, I g.life, pgV pk g.pages.length, I g.fill, rowV g.obk g.objs.length] none)).set1 (.cells [I g.size, I g.life, pgV pk g.pages.length, I g.fill, .slice none 0 (some 0)] none)
    rw [← rowV_z 0, I0]
    have hup : ∀ x ∈ C, x ∈ (pk, rowO 1 g.pages.length (g.pages.map fun n : Nat => I n)) :: (hc, some (.cells [ptrN p2, rowV rk i, I hr.lives] none)) :: (rk, rowO 5 i (D.flatMap RReg.enc)) :: (D.flatMap RReg.ch ++ C) := fun x hx => List.mem_cons_of_mem _ (List.mem_cons_of_mem _ (List.mem_cons_of_mem _ (List.mem_append_right _ hx)))
    refine copyo_loop (c0 := I g.size) (c1 := I g.life) (c2 := pgV pk g.pages.length) (c3 := I g.fill) (h.mono hup) hg g.objs.length 0 0 [] _ (by omega) rfl (Holds.of (h3.nilEntry 0) (fun k => by simp +arith only [List.take_zero, copyO, List.zipWith_nil_left, rowO_zero, rowV_zero, HA, HB]) (fun k x => by simp only [List.take_zero, copyO, List.zipWith_nil_left, rowO_zero, rowV_zero, HA, HC]; grind only)) fun s2 ok ks hks h4 => ?_
    have f4 := h4.mem (List.mem_cons_of_mem _ (List.mem_cons_of_mem _ (List.mem_append_right _ (List.mem_cons_of_mem _ (List.mem_cons_self ..)))) : (hc, some (O.cells [ptrN p2, rowV rk i, I hr.lives] none)) ∈ (s.next, some (O.cells [I g.size, I g.life, pgV pk g.pages.length, I g.fill, rowV ok g.objs.length] none)) :: (ok, rowO 3 g.objs.length ((copyO g.objs ks).flatMap RObj.enc)) :: ((copyO g.objs ks).flatMap RObj.ch ++ ((pk, rowO 1 g.pages.length (g.pages.map fun n : Nat => I n)) :: (hc, some (.cells [ptrN p2, rowV rk i, I hr.lives] none)) :: (rk, rowO 5 i (D.flatMap RReg.enc)) :: (D.flatMap RReg.ch ++ C))))
    have f5 := h4.f1
    simp -implicitDefEqProofs only [↓GP, GB, GL, Nat.reduceAdd, Nat.reduceSub, Nat.reduceEqDiff, Nat.reduceMul, Nat.reduceLeDiff, Int.reduceBNe, Int.reduceBEq, Nat.reduceLT, reduceCtorEq, j95_1xabaabbbb, f4, f5]
    have h5 := h4.alloc (.cells [I g.size, I g.life, pgV pk g.pages.length, I g.fill, rowV ok g.objs.length] none)
    refine wp_append (k := rk) (n := i) (sz := 5) (bytes := 72) (m := 1) (cs := D.flatMap RReg.enc) (F := (s2.next, some (.cells [I g.size, I g.life, pgV pk g.pages.length, I g.fill, rowV ok g.objs.length] none)) :: (hc, some (.cells [ptrN p2, rowV rk i, I hr.lives] none)) :: (ok, rowO 3 g.objs.length ((copyO g.objs ks).flatMap RObj.enc)) :: ((copyO g.objs ks).flatMap RObj.ch ++ ((pk, rowO 1 g.pages.length (g.pages.map fun n : Nat => I n)) :: (D.flatMap RReg.ch ++ C)))) (Holds.of (h5) (fun k => by simp +arith only [HA, HB]) (fun k x => by simp only [HA, HC]; grind only))
      (by rw [tab_len RReg.enc_len, hDl]) (new_cells' (alloc_new_same _ _) rfl) rfl (by simp only [List.all_cons, List.all_nil, rowV_one, pgV_one, one_int, Bool.and_true]) (by omega) (by unfold maxRow; omega) (by unfold maxRow; omega) fun rk' s3 h6 => ?_
    have f6 := h6.tl.tl.f1
    simp -implicitDefEqProofs only [↓GP, GB, GL, Nat.reduceAdd, Nat.reduceSub, Nat.reduceEqDiff, Nat.reduceMul, Nat.reduceLeDiff, Int.reduceBNe, Int.reduceBEq, Nat.reduceLT, reduceCtorEq, f6, hw1]
    rw [hLL]
    have h7 := h6.set2 (.cells [ptrN p2, rowV rk' (i + 1), I hr.lives] none)
    have hcb := copyO_b g.objs ks hks
    have hcl := copyO_len g.objs ks hks
    refine copyr_loop h hpl n (i + 1) rk' (D ++ [⟨pk, ok, g.size, g.life, g.fill, g.pages, copyO g.objs ks⟩]) _ (by omega) (by rw [htk, List.map_append, List.map_append, hD]; simp [RReg.m, hcb]) ?_ q
    exact (Holds.of (h7) (fun k => by simp +arith only [RReg.enc, RReg.obO, pagesO, hcl, HA, HB]) (fun k x => by simp only [RReg.enc, RReg.obO, pagesO, hcl, HA, HC]; grind only))
theorem s95 {gr : Bool} {hr : RHeap} {r : Nat} {u : List Bool} (H : Holds o s (poolG gr p r u ++ C)) (h : RLook C p hr) (hu : 0 < u.length ∧ u.length ≤ 400) (hpl : ∀ g ∈ hr.regs, g.pages.length ≤ 400)
    (q : ∀ s' (hc : RHeap) p2 r2, hc.regs.map RReg.m = hr.regs.map RReg.m → hc.lives = hr.lives → hc.grown = true → hc.sl = [] → Holds o s' (poolG true p2 r2 u ++ (hc.ch p2 ++ (poolG gr p r u ++ C))) → Q (ptrN hc.id) s') : WP (call PF 95 [ptrN hr.id] s) Q := by
  have f := H.mem (List.mem_append_right _ h.rin.id)
  have fp := H.mem (List.mem_append_left _ (List.mem_cons_self ..) : (p, some (O.cells [cV gr r u.length] none)) ∈ poolG gr p r u ++ C)
  simp only [RHeap.hd] at f
  rw [call_run F95]; simp -implicitDefEqProofs only [↓GP, GB, GL, Nat.reduceAdd, Nat.reduceSub, Nat.reduceEqDiff, Nat.reduceMul, Nat.reduceLeDiff, Int.reduceBNe, Int.reduceBEq, Nat.reduceLT, reduceCtorEq, c95, f, fp]
  have h1 := H.alloc (.cells [] none)
  have mr : (r, some (O.cells (u.map .bool) (cG gr 1))) ∈ poolG gr p r u ++ C := List.mem_append_left _ (List.mem_cons_of_mem _ (List.mem_cons_self ..))
  refine wp_append0 (sz := 1) h1 (new_cV (new := u.map .bool) (h1.mem (List.mem_cons_of_mem _ mr)).1 (by simp)) (by omega) (by omega) (by unfold maxRow; omega) (by unfold maxRow; omega) fun r2 s1 h2 => ?_
  have f2 := h2.mem (List.mem_cons_of_mem _ (List.mem_append_right _ h.rin.id))
  simp only [RHeap.hd] at f2
  simp -implicitDefEqProofs only [↓GP, GB, GL, Nat.reduceAdd, Nat.reduceSub, Nat.reduceEqDiff, Nat.reduceMul, Nat.reduceLeDiff, Int.reduceBNe, Int.reduceBEq, Nat.reduceLT, reduceCtorEq, f2]
  have h3 := (h2.alloc (.cells [rowV r2 u.length] none)).alloc (.cells [ptrN s1.next, .slice none 0 (some 0), I hr.lives] none)
  simp only [alloc_next] at h3
  rw [I0]
  have h4 := h3.nilEntry 0
  refine copyr_loop (p2 := s1.next) (h.mono fun x hx => (List.mem_cons_of_mem _ (List.mem_cons_of_mem _ (List.mem_append_right _ hx)) : x ∈ (s1.next, some (O.cells [rowV r2 u.length] none)) :: (r2, some (O.cells (u.map .bool) (some 1))) :: (poolG gr p r u ++ C))) hpl hr.regs.length 0 0 [] _ (by omega) rfl (Holds.of (h4) (fun k => by simp +arith only [rowO_zero, rowV_zero, HA, HB]) (fun k x => by simp only [rowO_zero, rowV_zero, HA, HC]; grind only)) fun s2 rk D hD h5 => ?_
  have hl : D.length = hr.regs.length := by have := congrArg List.length hD; simpa using this
  simp -implicitDefEqProofs only [↓GP, GB, GL, Nat.reduceAdd, Nat.reduceSub, Nat.reduceEqDiff, Nat.reduceMul, Nat.reduceLeDiff, Int.reduceBNe, Int.reduceBEq, Nat.reduceLT, reduceCtorEq, j95_bbb]
  refine q s2 ⟨s1.next + 1, rk, true, hr.lives, D, []⟩ s1.next r2 hD rfl rfl rfl ?_
  have h0 : 0 < hr.regs.length := List.length_pos_iff.2 h.ne
  rw [rowO_pos h0] at h5
  have hcv := (cV_tt (k := r2) hu.1).symm
  exact (Holds.of (h5) (fun k => by simp +arith only [hcv, cG_tt, RHeap.hd, RHeap.rv, RHeap.row, if_true, hl, List.append_nil, HA, HB]) (fun k x => by simp only [hcv, cG_tt, RHeap.hd, RHeap.rv, RHeap.row, if_true, hl, List.append_nil, HA, HC]; grind only))
end
end Go.Proofs.Ytoldkemimhebaaa

set_option linter.unusedSimpArgs false
set_option linter.unusedVariables false
namespace Go.Proofs.Ytoldkemimhebaaa
open Go Go.IM
def l98_0 : IC := (.seq (.seq (.seq (.region [oa 16 (.mov (.t 9)), oa 17 (.mov (.t 1)), oa 18 (.lenSlice (.t 17)), oa 19 (.bin .lss (.t 16) (.t 18))] (kp 55 [0,1,2,7,8,9,19]))
  (.cond (.t 19)
  (sk 55 [0,1,2,7,8,9])
  (sx 55 [0,7,8] 0)))
  (.seq (.block 1
  (.seq (.region [oa 22 (.mov (.t 1)), oa 23 (.mov (.t 9)), oa 24 (.indexAddr 2 (.t 22) (.t 23)), oa 25 (.load (some 2) (.t 24)), oa 26 (.load (some 2) (.t 7)), oa 27 (.eql false (.key (.agg [.i, .i])) (.t 25) (.t 26))] (kp 55 [0,1,2,7,8,9,27]))
  (.cond (.t 27)
  (.seq (.region [oa 28 (.mov (.t 2)), oa 29 (.mov (.t 9)), oa 30 (.indexAddr 2 (.t 28) (.t 29)), oa 31 (.load (some 2) (.t 30)), ob (.store 2 (.t 8) (.t 31))] (kp 55 [8]))
  (sr 55 [8]))
  (sk 55 [0,1,2,7,8,9]))))
  (.region [oa 20 (.mov (.t 9)), oa 21 (.bin .add (.t 20) (ai 1)), oa 9 (.mov (.t 21))] (kp 55 [0,1,2,7,8,9]))))
  (sk 55 [0,1,2,7,8,9]))
def j98_bbb : IC := (.seq (.region [oa 33 (.mov (.t 0)), oa 34 (.load (some 2) (.t 7)), oa 35 (.call 103 [(.t 33), (.t 34)]), oa 32 (.mov (.t 35)), oa 36 (.extract (.t 32) 0), oa 37 (.extract (.t 32) 1), oa 10 (.mov (.t 36)), oa 11 (.mov (.t 37))] (kp 55 [0,7,8,10]))
  (.seq (.seq (.region [oa 38 (.mov (.t 10)), oa 39 (.bin .geq (.t 38) (ai 0)), oa 40 (.mov (.t 39)), oc 41 (.mov (.t 0)) 40 tt, oc 42 (.nilCheck (.t 41)) 40 tt, oc 43 (.fieldAddr 1 (.t 42)) 40 tt, oc 44 (.load none (.t 43)) 40 tt, oc 45 (.mov (.t 10)) 40 tt, oc 46 (.indexAddr 5 (.t 44) (.t 45)) 40 tt, oc 47 (.fieldAddr 0 (.t 46)) 40 tt, oc 48 (.load none (.t 47)) 40 tt, oc 49 (.bin .gtr (.t 48) (ai 0)) 40 tt, oa 50 (.pick (.t 40) (.t 49) (.c (.bool false)))] (kp 55 [7,8,50]))
  (.cond (.t 50)
  (.seq (.region [oa 51 (.load (some 2) (.t 7)), ob (.store 2 (.t 8) (.t 51))] (kp 55 [8]))
  (sr 55 [8]))
  (sk 55 [7,8])))
  (.seq (.region [oa 52 (.fieldAddr 1 (.t 7)), oa 53 (.load none (.t 52)), oa 54 (.build [(.int .i64 (0)), (.int .i64 (0))] [(0, 1, (ai (-1))), (1, 1, (.t 53))]), ob (.store 2 (.t 8) (.t 54))] (kp 55 [8]))
  (sr 55 [8]))))
def c98 : IFn := ⟨55, [(8, (some (some 2)))],
  (.seq (.region [oa 7 (.box (.t 3)), oa 8 (.alloc [(.int .i64 (0)), (.int .i64 (0))])] (kp 55 [0,1,2,7,8]))
  (.seq (.seq (.region [oa 12 (.fieldAddr 1 (.t 7)), oa 13 (.load none (.t 12)), oa 14 (.bin .eql (.t 13) (ai 0))] (kp 55 [0,1,2,7,8,14]))
  (.cond (.t 14)
  (.seq (.region [oa 15 (.load (some 2) (.t 7)), ob (.store 2 (.t 8) (.t 15))] (kp 55 [8]))
  (sr 55 [8]))
  (sk 55 [0,1,2,7,8])))
  (.seq (.seq (.region [oa 9 (.mov (ai 0))] (kp 55 [0,1,2,7,8,9]))
  (.block 0
  (.seq (sk 55 [0,1,2,7,8,9])
  (.loop l98_0))))
  j98_bbb)))⟩
theorem F98 : shutF Try.prog 98 = some c98 := by kernel_rfl
section
variable {o : Nat → Option O} {s : St} {C F : Ch} {Q : V → St → Prop} {p q : Nat}
set_option maxRecDepth 10000
set_option maxHeartbeats 4000000
def lookW : List (Int × Int) → List (Int × Int) → Int × Int → Option (Int × Int)
  | a :: l, b :: m, w => if a = w then some b else lookW l m w
  | _, _, _ => none
def finR (hc : RHeap) (w : Int × Int) : Bool := match rfind w.1 w.2 hc.regs 0 with
  | some (a, _) => match hc.regs[a]? with
    | some g => decide (0 < g.size)
    | none => false
  | none => false
def movedR (hc : RHeap) (fr tt : List (Int × Int)) (w : Int × Int) : Int × Int :=
  if w.2 = 0 then w else match lookW fr tt w with
  | some n => n
  | none => if finR hc w then w else (-1, w.2)
theorem moved_loop {kf kt wb rb : Nat} {v0 : V} {fr tt : List (Int × Int)} {w : Int × Int} {K : Kt} (mf : (kf, rowO 2 fr.length (fr.flatMap encW)) ∈ C) (mt : (kt, rowO 2 fr.length (tt.flatMap encW)) ∈ C) (hl : fr.length ≤ 1000000) (htl : tt.length = fr.length)
    (mw : (wb, some (.cells (encW w) none)) ∈ C) (hC : Holds o s ((rb, some (.cells [I 0, I 0] none)) :: C))
    (q1 : ∀ n s', Holds o s' ((rb, some (.cells (encW n) none)) :: C) → lookW fr tt w = some n → WP (K .ret (sp 55 [(8, ptrN rb)]) s') Q) (q2 : lookW fr tt w = none → WP (K (.exit 0) (sp 55 [(0, v0), (7, ptrN wb), (8, ptrN rb)]) s) Q) :
    ∀ (n i : Nat), i + n = fr.length → lookW (fr.drop i) (tt.drop i) w = lookW fr tt w →
    WP (loop PF (.loop l98_0) (sp 55 [(0, v0), (1, rowV kf fr.length), (2, rowV kt fr.length), (7, ptrN wb), (8, ptrN rb), (9, I i)]) s K) Q
  | 0, i, hi, he => by
    have hlt : ¬ ((i : Int) < (fr.length : Int)) := by omega
    rw [List.drop_eq_nil_of_le (by omega)] at he
    simp only [lookW] at he
    refine wp_round fun LL hLL => ?_
    simp -implicitDefEqProofs only [↓GP, GB, GL, Nat.reduceAdd, Nat.reduceSub, Nat.reduceEqDiff, Nat.reduceMul, Nat.reduceLeDiff, Int.reduceBNe, Int.reduceBEq, Nat.reduceLT, reduceCtorEq, l98_0, hlt]
    exact q2 he.symm
  | n + 1, i, hi, he => by
    have hlt : ((i : Int) < (fr.length : Int)) := by omega
    have hi' : i < fr.length := by omega
    have hi2 : i < tt.length := by omega
    have hw1 := wrap_add1 (a := i) (by omega)
    have hix := ix_row (sz := 2) (k := kf) (n := fr.length) (i := i) (kk := .i64) hi'
    have hix2 := ix_row (sz := 2) (k := kt) (n := fr.length) (i := i) (kk := .i64) hi'
    have er : rowO 2 fr.length (fr.flatMap encW) = some (.cells (fr.flatMap encW) (some 2)) := by unfold rowO; rw [if_neg (by omega)]
    have er2 : rowO 2 fr.length (tt.flatMap encW) = some (.cells (tt.flatMap encW) (some 2)) := by unfold rowO; rw [if_neg (by omega)]
    have ff := hC.mem (List.mem_cons_of_mem _ (er ▸ mf))
    have ft := hC.mem (List.mem_cons_of_mem _ (er2 ▸ mt))
    have fw := hC.mem (List.mem_cons_of_mem _ mw)
    have fb := hC.f1
    have hld := ldN_tab (enc := encW) encW_len fr (some 2) (List.getElem?_eq_getElem hi')
    have hld2 := ldN_tab (enc := encW) encW_len tt (some 2) (List.getElem?_eq_getElem hi2)
    rw [List.drop_eq_getElem_cons hi', List.drop_eq_getElem_cons hi2] at he
    rw [lookW] at he
    generalize fr[i] = a at he hld
    generalize tt[i] = b at he hld2
    have hq := word_eq a w
    by_cases e : a = w
    · rw [decide_eq_true e] at hq
      rw [if_pos e] at he
      refine wp_round fun LL hLL => ?_
      simp -implicitDefEqProofs only [↓GP, GB, GL, Nat.reduceAdd, Nat.reduceSub, Nat.reduceEqDiff, Nat.reduceMul, Nat.reduceLeDiff, Int.reduceBNe, Int.reduceBEq, Nat.reduceLT, reduceCtorEq, l98_0, hlt, hix, ff, fw, hld, encW, hq, hix2, ft, hld2, fb]
      exact q1 b _ (hC.set0 _) he.symm
    · rw [decide_eq_false e] at hq
      rw [if_neg e] at he
      refine wp_round fun LL hLL => ?_
      simp -implicitDefEqProofs only [↓GP, GB, GL, Nat.reduceAdd, Nat.reduceSub, Nat.reduceEqDiff, Nat.reduceMul, Nat.reduceLeDiff, Int.reduceBNe, Int.reduceBEq, Nat.reduceLT, reduceCtorEq, l98_0, hlt, hix, ff, fw, hld, encW, hq, hw1]
      rw [hLL]
      exact moved_loop mf mt hl htl mw hC q1 q2 n (i + 1) (by omega) he
theorem s98 {hc : RHeap} {kf kt : Nat} {fr tt : List (Int × Int)} {w : Int × Int} (H : Holds o s C) (h : RLook C p hc) (mf : (kf, rowO 2 fr.length (fr.flatMap encW)) ∈ C) (mt : (kt, rowO 2 fr.length (tt.flatMap encW)) ∈ C) (hl : fr.length ≤ 1000000) (htl : tt.length = fr.length)
    (q : ∀ s', Holds o s' C → Q (.agg (encW (movedR hc fr tt w))) s') : WP (call PF 98 [ptrN hc.id, rowV kf fr.length, rowV kt fr.length, .agg (encW w)] s) Q := by
  have h1 := (H.alloc (.cells (encW w) none)).alloc (.cells [I 0, I 0] none)
  have f := h1.f2
  simp only [encW, alloc_next] at f
  simp only [alloc_next] at h1
  by_cases h0 : w.2 = 0
  · have hb : (w.2 == 0) = true := by simpa using h0
    rw [call_run F98]; simp -implicitDefEqProofs only [↓GP, GB, GL, Nat.reduceAdd, Nat.reduceSub, Nat.reduceEqDiff, Nat.reduceMul, Nat.reduceLeDiff, Int.reduceBNe, Int.reduceBEq, Nat.reduceLT, reduceCtorEq, c98, encW, f, hb]
    have := q _ ((h1.set0 (.cells (encW w) none)).tl.tl)
    unfold movedR at this
    rw [if_pos h0] at this
    exact this
  · have hb : (w.2 == 0) = false := by simpa using h0
    rw [call_run F98]; simp -implicitDefEqProofs only [↓GP, GB, GL, Nat.reduceAdd, Nat.reduceSub, Nat.reduceEqDiff, Nat.reduceMul, Nat.reduceLeDiff, Int.reduceBNe, Int.reduceBEq, Nat.reduceLT, reduceCtorEq, c98, encW, f, hb]
    rw [I0]
    refine moved_loop (fr := fr) (tt := tt) (w := w) (List.mem_cons_of_mem _ mf) (List.mem_cons_of_mem _ mt) hl htl (List.mem_cons_self ..) h1 (fun n s' h2 e => ?_) (fun e => ?_) fr.length 0 (by omega) rfl
    · have f2 := h2.f1
      simp only [encW] at f2
      simp -implicitDefEqProofs only [↓GP, GB, GL, Nat.reduceAdd, Nat.reduceSub, Nat.reduceEqDiff, Nat.reduceMul, Nat.reduceLeDiff, Int.reduceBNe, Int.reduceBEq, Nat.reduceLT, reduceCtorEq, f2]
      have := q _ h2.tl.tl
      unfold movedR at this
      rw [if_neg h0, e] at this
      exact this
    · have h2 := (h.cons (s.next, some (.cells (encW w) none))).cons (s.next + 1, some (.cells [I 0, I 0] none))
      simp -implicitDefEqProofs only [↓GP, GB, GL, Nat.reduceAdd, Nat.reduceSub, Nat.reduceEqDiff, Nat.reduceMul, Nat.reduceLeDiff, Int.reduceBNe, Int.reduceBEq, Nat.reduceLT, reduceCtorEq, j98_bbb, f, encW]
      refine wp_in (s103 h1 h2.rin h2.len h2.objs fun s1 g1 => ?_)
      have g := g1.f2
      simp only [encW, alloc_next] at g
      have e2 : movedR hc fr tt w = if finR hc w then w else (-1, w.2) := by unfold movedR; rw [if_neg h0, e]
      rw [e2] at q
      unfold finR at q
      cases hf : rfind w.1 w.2 hc.regs 0 with
      | none =>
        rw [hf] at q
        simp only [Bool.false_eq_true, if_false] at q
        simp -implicitDefEqProofs only [↓GP, GB, GL, Nat.reduceAdd, Nat.reduceSub, Nat.reduceEqDiff, Nat.reduceMul, Nat.reduceLeDiff, Int.reduceBNe, Int.reduceBEq, Nat.reduceLT, reduceCtorEq, g, Int.reduceNeg, Int.reduceLE, ge_iff_le]
        exact q _ (g1.set0 _).tl.tl
      | some ab =>
        obtain ⟨a, b⟩ := ab
        rw [hf] at q
        have hal : a < hc.regs.length := by
          obtain ⟨g, x, _, k2, _⟩ := rfind_some hf
          rw [Nat.sub_zero] at k2
          exact (List.getElem?_eq_some_iff.1 k2).1
        have hg := List.getElem?_eq_getElem hal
        simp only [hg] at q
        have ha : ((a : Int) ≥ 0) := by omega
        have fh := g1.mem h2.rin.id
        have fr' := g1.mem h2.rin.row
        simp only [RHeap.hd] at fh
        by_cases hs : 0 < hc.regs[a].size
        · rw [decide_eq_true hs] at q
          simp only [if_true] at q
          have hs' : ((hc.regs[a].size : Int) > 0) := by omega
          simp -implicitDefEqProofs only [↓GP, GB, GL, Nat.reduceAdd, Nat.reduceSub, Nat.reduceEqDiff, Nat.reduceMul, Nat.reduceLeDiff, Int.reduceBNe, Int.reduceBEq, Nat.reduceLT, reduceCtorEq, g, ha, fh, fr', rreg hg, hs']
          exact q _ (g1.set0 _).tl.tl
        · rw [decide_eq_false hs] at q
          simp only [Bool.false_eq_true, if_false] at q
          have hs' : ¬ ((hc.regs[a].size : Int) > 0) := by omega
          simp -implicitDefEqProofs only [↓GP, GB, GL, Nat.reduceAdd, Nat.reduceSub, Nat.reduceEqDiff, Nat.reduceMul, Nat.reduceLeDiff, Int.reduceBNe, Int.reduceBEq, Nat.reduceLT, reduceCtorEq, g, ha, fh, fr', rreg hg, hs']
          exact q _ (g1.set0 _).tl.tl
end
end Go.Proofs.Ytoldkemimhebaaa

set_option linter.unusedSimpArgs false
set_option linter.unusedVariables false
namespace Go.Proofs.Ytoldkemimhebaaa
open Go Go.IM
theorem lookW_mem : ∀ {fr tt : List (Int × Int)} {w n : Int × Int}, lookW fr tt w = some n → w ∈ fr ∧ n ∈ tt
  | [], _, _, _, h => by simp [lookW] at h
  | _ :: _, [], _, _, h => by simp [lookW] at h
  | a :: fr, b :: tt, w, n, h => by
    rw [lookW] at h
    split at h
    · rename_i e; cases h; subst e; exact ⟨List.mem_cons_self .., List.mem_cons_self ..⟩
    · obtain ⟨h1, h2⟩ := lookW_mem h
      exact ⟨List.mem_cons_of_mem _ h1, List.mem_cons_of_mem _ h2⟩
theorem lookW_none {w : Int × Int} : ∀ {fr tt : List (Int × Int)}, w ∉ fr → lookW fr tt w = none
  | [], _, _ => by simp [lookW]
  | _ :: _, [], _ => by simp [lookW]
  | a :: fr, b :: tt, h => by
    have e : ¬ a = w := fun e => h (by rw [e]; exact List.mem_cons_self ..)
    rw [lookW, if_neg e]
    exact lookW_none fun m => h (List.mem_cons_of_mem _ m)
theorem lookW_append (w : Int × Int) (b d : List (Int × Int)) : ∀ {a c : List (Int × Int)}, c.length = a.length → lookW (a ++ b) (c ++ d) w = (lookW a c w).or (lookW b d w)
  | [], [], _ => by simp [lookW]
  | [], _ :: _, h => by simp at h
  | _ :: _, [], h => by simp at h
  | x :: a, y :: c, h => by
    rw [List.cons_append, List.cons_append, lookW, lookW]
    split
    · rfl
    · exact lookW_append w b d (by simpa using h)
theorem look_upd (w : Int × Int) : ∀ {ks ns : List (Int × Int)} (f : ToF), ks.Nodup → ns.length = ks.length → ((ks.zip ns).foldl updF f) w = (lookW ks ns w).or (f w)
  | [], _, f, _, _ => by simp [lookW]
  | _ :: _, [], _, _, h => by simp at h
  | k :: ks, n :: ns, f, hn, hl => by
    rw [List.nodup_cons] at hn
    rw [List.zip_cons_cons, List.foldl_cons, look_upd w _ hn.2 (by simpa using hl), lookW]
    by_cases e : k = w
    · subst e
      rw [lookW_none hn.1, if_pos rfl, Option.none_or]
      unfold updF; rw [if_pos rfl]; rfl
    · rw [if_neg e]
      unfold updF; rw [if_neg (fun h => e h.symm)]
theorem look_map : ∀ {ks ns : List (Int × Int)}, ks.Nodup → ns.length = ks.length → ks.map (fun w => (lookW ks ns w).getD (0, 0)) = ns
  | [], [], _, _ => rfl
  | [], _ :: _, _, h => by simp at h
  | _ :: _, [], _, h => by simp at h
  | k :: ks, n :: ns, hn, hl => by
    rw [List.nodup_cons] at hn
    rw [List.map_cons, lookW, if_pos rfl]
    congr 1
    rw [← look_map hn.2 (by simpa using hl : ns.length = ks.length)]
    have := look_map hn.2 (by simpa using hl : ns.length = ks.length)
    refine List.map_congr_left fun w hw => ?_
    have e : ¬ k = w := fun e => hn.1 (by rw [e]; exact hw)
    rw [this, lookW, if_neg e]
def mapReg (f : List (Int × Int) → List (Int × Int)) (g : Reg) : Reg := { g with objs := g.objs.map fun x => { x with ws := f x.ws } }
def setIf (Os : List (Int × Int)) (f : List (Int × Int) → List (Int × Int)) (g : Reg) : Reg := { g with objs := g.objs.map fun x => if ((x.at_ : Int), (g.life : Int)) ∈ Os then { x with ws := f x.ws } else x }
theorem setM_if (w : Int × Int) (f) (rs : List Reg) : setM w f rs = rs.map (setIf [w] f) := by
  unfold setM
  refine List.map_congr_left fun g _ => ?_
  unfold setReg1 setIf
  split
  · rename_i h
    congr 1
    refine List.map_congr_left fun x _ => ?_
    unfold setObj1
    have : (((x.at_ : Int), (g.life : Int)) ∈ [w]) ↔ (x.at_ : Int) = w.1 := by
      rw [List.mem_singleton]; exact ⟨fun e => by rw [← e], fun e => Prod.ext e h⟩
    simp only [this]
    split <;> rfl
  · rename_i h
    have : g.objs.map (fun x => if ((x.at_ : Int), (g.life : Int)) ∈ [w] then { x with ws := f x.ws } else x) = g.objs.map id := by
      refine List.map_congr_left fun x _ => ?_
      rw [if_neg (fun m => h (by rw [List.mem_singleton] at m; rw [← m]))]; rfl
    rw [this, List.map_id]
theorem setIf_setIf {w : Int × Int} {Os : List (Int × Int)} (h : w ∉ Os) (f) (g : Reg) : setIf Os f (setIf [w] f g) = setIf (w :: Os) f g := by
  unfold setIf
  simp only [List.map_map]
  congr 1
  refine List.map_congr_left fun x _ => ?_
  simp only [Function.comp]
  by_cases e : ((x.at_ : Int), (g.life : Int)) = w
  · have h1 : ((x.at_ : Int), (g.life : Int)) ∉ Os := e ▸ h
    rw [if_pos (List.mem_singleton.2 e), if_neg h1, if_pos (e ▸ List.mem_cons_self ..)]
  · rw [if_neg (fun m => e (List.mem_singleton.1 m))]
    simp only [List.mem_cons, e, false_or]
theorem fold_set (f) : ∀ {Os : List (Int × Int)} {rs : List Reg}, Os.Nodup → Os.foldl (fun rs w => setM w f rs) rs = rs.map (setIf Os f)
  | [], rs, _ => by
    have : rs.map (setIf [] f) = rs.map id := List.map_congr_left fun g _ => by
      unfold setIf
      have : g.objs.map (fun x => if ((x.at_ : Int), (g.life : Int)) ∈ ([] : List (Int × Int)) then { x with ws := f x.ws } else x) = g.objs.map id := List.map_congr_left fun x _ => by simp
      rw [this, List.map_id]; rfl
    rw [List.foldl_nil, this, List.map_id]
  | w :: Os, rs, h => by
    rw [List.nodup_cons] at h
    rw [List.foldl_cons, setM_if, fold_set f h.2, List.map_map]
    exact List.map_congr_left fun g _ => setIf_setIf h.1 f g
def wordsAll (rs : List Reg) : List (Int × Int) := rs.flatMap wordsR
theorem wordsR_life {g : Reg} {w : Int × Int} (h : w ∈ wordsR g) : w.2 = g.life := by
  obtain ⟨x, _, rfl⟩ := List.mem_map.1 h; rfl
theorem wordsR_nodup {g : Reg} (h : RInv g) : (wordsR g).Nodup := by
  have := h.nodup
  unfold wordsR
  rw [show (fun x : Obj => ((x.at_ : Int), (g.life : Int))) = (fun n : Nat => ((n : Int), (g.life : Int))) ∘ (fun x : Obj => x.at_) from rfl, ← List.map_map]
  exact List.Pairwise.map _ (fun a b (h : a ≠ b) e => h (by have := congrArg Prod.fst e; simp only at this; omega)) this
theorem wordsAll_nodup : ∀ {rs : List Reg}, (rs.map (·.life)).Nodup → (∀ r ∈ rs, RInv r) → (wordsAll rs).Nodup
  | [], _, _ => List.nodup_nil
  | g :: rs, h, hi => by
    rw [List.map_cons, List.nodup_cons] at h
    unfold wordsAll
    rw [List.flatMap_cons, List.nodup_append]
    refine ⟨wordsR_nodup (hi g (List.mem_cons_self ..)), wordsAll_nodup h.2 fun r hr => hi r (List.mem_cons_of_mem _ hr), fun a ha b hb e => ?_⟩
    subst e
    obtain ⟨r, hr, hb⟩ := List.mem_flatMap.1 hb
    exact h.1 (List.mem_map.2 ⟨r, hr, by have := wordsR_life ha; have := wordsR_life hb; omega⟩)
def keptAll (L : List (Int × Int)) (rs : List Reg) : List (Int × Int) := rs.flatMap fun g => if 0 < g.pages.length then (wordsR g).filter (decide <| · ∈ L) else []
theorem kept_words (L : List (Int × Int)) (g : Reg) : (keptM L g).map (fun x => ((x.at_ : Int), (g.life : Int))) = (wordsR g).filter (decide <| · ∈ L) := by
  unfold keptM wordsR
  rw [List.filter_map]; rfl
structure ColInv2 (L : List (Int × Int)) (A B : List Reg) (S : ColS) : Prop where
  fx : ∀ w, w ∈ S.fx ↔ ∃ g ∈ A, ¬ 0 < g.pages.length ∧ w ∈ wordsR g
  mv : ∀ w n, S.mv w = some n → w ∈ keptAll L A ∧ n.2 = w.2
  perm : (wordsAll S.regs).Perm (S.objs ++ (keptAll L A).map (toD S.mv))
theorem ColInv2.ext {L : List (Int × Int)} {A B : List Reg} {S : ColS} {g g' : Reg} {u' : List Bool} {ks ns : List (Int × Int)} (h : ColInv2 L A (g :: B) S) (hp : 0 < g.pages.length) (hlife : ∀ w ∈ keptAll L A, w ∉ wordsR g) (hka : keptAll L (A ++ [g]) = keptAll L A ++ ks) (hkn : ks.Nodup) (hkl : ns.length = ks.length)
    (hkg : ∀ w ∈ ks, w ∈ wordsR g) (hns : ∀ n ∈ ns, n.2 = g.life) (hw : wordsR g' = ns) : ColInv2 L (A ++ [g]) B ⟨S.regs ++ [g'], u', (ks.zip ns).foldl updF S.mv, S.fx, S.objs⟩ := by
  have hup := fun w => look_upd w S.mv hkn hkl
  refine ⟨fun w => ?_, fun w n e => ?_, ?_⟩
  · simp only [h.fx w, List.mem_append, List.mem_singleton]
    constructor
    · rintro ⟨g0, m0, q⟩; exact ⟨g0, .inl m0, q⟩
    · rintro ⟨g0, m0 | rfl, q1, q2⟩
      · exact ⟨g0, m0, q1, q2⟩
      · exact absurd hp q1
  · simp only at e
    rw [hup] at e
    cases hl : lookW ks ns w with
    | some m =>
      rw [hl, Option.some_or] at e
      cases e
      obtain ⟨h1, h2⟩ := lookW_mem hl
      rw [hka]
      exact ⟨List.mem_append_right _ h1, by rw [hns _ h2, wordsR_life (hkg _ h1)]⟩
    | none =>
      rw [hl, Option.none_or] at e
      obtain ⟨h1, h2⟩ := h.mv w n e
      rw [hka]
      exact ⟨List.mem_append_left _ h1, h2⟩
  · have hpm := h.perm
    unfold wordsAll at *
    simp only
    rw [List.flatMap_append, List.flatMap_cons, List.flatMap_nil, List.append_nil, hw, hka, List.map_append, ← List.append_assoc]
    have e1 : (keptAll L A).map (toD ((ks.zip ns).foldl updF S.mv)) = (keptAll L A).map (toD S.mv) := List.map_congr_left fun w hw => by
      unfold toD
      rw [hup, lookW_none (fun m => hlife w hw (hkg w m)), Option.none_or]
    have e2 : ks.map (toD ((ks.zip ns).foldl updF S.mv)) = ns := by
      refine Eq.trans (List.map_congr_left fun w hw => ?_) (look_map hkn hkl)
      unfold toD
      rw [hup]
      obtain ⟨n, h1, h2⟩ := updF_mem ks ns (fun _ => none) w hkl hw
      rw [look_upd w _ hkn hkl] at h2
      simp only [Option.or_none] at h2
      rw [h2]; rfl
    rw [e1, e2]
    exact hpm.append_right _
theorem ColInv2.step {L : List (Int × Int)} {lv : Nat} {A B : List Reg} {S : ColS} {g : Reg} (hc : ColInv L lv A (g :: B) S) (h : ColInv2 L A (g :: B) S) : ColInv2 L (A ++ [g]) B (colStep L S g) := by
  have hI := hc.ok.inv
  have hri := hI.reg g (by simp)
  have hn := hI.nodup
  rw [List.map_append, List.map_cons, hc.lives, List.nodup_append] at hn
  have hlife : ∀ w ∈ keptAll L A, w ∉ wordsR g := by
    intro w hw hg
    obtain ⟨g0, m0, hw⟩ := List.mem_flatMap.1 hw
    split at hw
    · have h1 := wordsR_life (List.mem_filter.1 hw).1
      have h2 := wordsR_life hg
      exact hn.2.2 _ (List.mem_map.2 ⟨g0, m0, rfl⟩) _ (List.mem_cons_self ..) (by omega)
    · cases hw
  have hka : keptAll L (A ++ [g]) = keptAll L A ++ (if 0 < g.pages.length then (wordsR g).filter (decide <| · ∈ L) else []) := by
    unfold keptAll; rw [List.flatMap_append, List.flatMap_cons, List.flatMap_nil, List.append_nil]
  unfold colStep
  by_cases hp : 0 < g.pages.length
  · rw [if_pos hp] at hka ⊢
    have hs : g.size = 0 := by
      rcases Nat.eq_zero_or_pos g.size with h | h
      · exact h
      · have := (hri.fin h).1; rw [this] at hp; simp at hp
    obtain ⟨ats, u', fill', pages', hlay, hnd, hpl, hal, hul, hR⟩ := hc.ok.turn hs (ys := keptM L g) (List.filter_sublist ..)
    rw [hlay]
    have hkn : ((wordsR g).filter (decide <| · ∈ L)).Nodup := (wordsR_nodup hri).sublist (List.filter_sublist ..)
    have hkl : (ats.map fun a : Nat => ((a : Int), (g.life : Int))).length = ((wordsR g).filter (decide <| · ∈ L)).length := by rw [← kept_words]; simp [hal]
    rw [kept_words]
    refine h.ext hp hlife hka hkn hkl (fun w hw => (List.mem_filter.1 hw).1) (fun n hn => by obtain ⟨a, _, rfl⟩ := List.mem_map.1 hn; rfl) ?_
    have := congrArg (List.map fun z : Nat × Nat => ((z.1 : Int), (g.life : Int))) (layObj_os (keptM L g) ats hal)
    rw [List.map_map] at this
    refine (show _ = _ from this).trans ?_
    have e3 : ∀ Z : List (Nat × Nat), Z.map (fun z : Nat × Nat => ((z.1 : Int), (g.life : Int))) = (Z.map Prod.fst).map (fun a : Nat => ((a : Int), (g.life : Int))) := fun Z => by rw [List.map_map]; rfl
    rw [e3, List.map_fst_zip (by simp [hal])]
  · rw [if_neg hp] at hka ⊢
    rw [List.append_nil] at hka
    refine ⟨fun w => ?_, fun w n e => by rw [hka]; exact h.mv w n e, ?_⟩
    · simp only [List.mem_append, h.fx w, List.mem_singleton]
      constructor
      · rintro (⟨g0, m0, q⟩ | q)
        · exact ⟨g0, .inl m0, q⟩
        · exact ⟨g, .inr rfl, hp, q⟩
      · rintro ⟨g0, m0 | rfl, q1, q2⟩
        · exact .inl ⟨g0, m0, q1, q2⟩
        · exact .inr q2
    · unfold wordsAll at *
      simp only
      rw [List.flatMap_append, List.flatMap_cons, List.flatMap_nil, List.append_nil, hka, List.append_assoc]
      refine (h.perm.append_right _).trans ?_
      rw [List.append_assoc]
      exact List.Perm.append_left _ List.perm_append_comm
theorem ColInv2.all {L : List (Int × Int)} {lv : Nat} : ∀ {B A : List Reg} {S : ColS}, ColInv L lv A B S → ColInv2 L A B S → ColInv2 L (A ++ B) [] (B.foldl (colStep L) S)
  | [], A, S, _, h => by simpa using h
  | g :: B, A, S, h1, h => by
    have := (h.step h1).all (h1.step)
    rw [List.append_assoc] at this
    exact this
theorem ColInv2.start {L : List (Int × Int)} {u : List Bool} {B : List Reg} : ColInv2 L [] B ⟨[], u, fun _ => none, [], []⟩ :=
  ⟨fun w => ⟨fun h => (by cases h), fun ⟨_, h, _⟩ => (by cases h)⟩, (fun w n h => by cases h), List.Perm.refl _⟩
theorem life_inj : ∀ {rs : List Reg}, (rs.map (·.life)).Nodup → ∀ {g g0 : Reg}, g ∈ rs → g0 ∈ rs → g.life = g0.life → g = g0
  | [], _, _, _, h, _, _ => by cases h
  | r :: rs, hn, g, g0, h, h0, e => by
    rw [List.map_cons, List.nodup_cons] at hn
    rcases List.mem_cons.1 h with h1 | h1
    · rcases List.mem_cons.1 h0 with h2 | h2
      · rw [h1, h2]
      · exact (hn.1 (List.mem_map.2 ⟨g0, h2, by rw [← e, h1]⟩)).elim
    · rcases List.mem_cons.1 h0 with h2 | h2
      · exact (hn.1 (List.mem_map.2 ⟨g, h1, by rw [e, h2]⟩)).elim
      · exact life_inj hn.2 h1 h2 e
theorem kept_perm {L : List (Int × Int)} {rs : List Reg} (hn : (rs.map (·.life)).Nodup) (hi : ∀ r ∈ rs, RInv r) (hL : ∀ w ∈ L, Points rs w) (hLn : L.Nodup) {fx : List (Int × Int)} (hfx : ∀ w, w ∈ fx ↔ ∃ g ∈ rs, ¬ 0 < g.pages.length ∧ w ∈ wordsR g) :
    (keptAll L rs).Perm (L.filter fun w => !decide (w ∈ fx)) := by
  have h1 : (keptAll L rs).Nodup := by
    have := wordsAll_nodup hn hi
    refine this.sublist ?_
    unfold keptAll wordsAll
    clear this hfx hL hi hn
    induction rs with
    | nil => exact List.Sublist.refl _
    | cons g rs ih =>
      rw [List.flatMap_cons, List.flatMap_cons]
      refine List.Sublist.append ?_ ih
      split
      · exact List.filter_sublist ..
      · exact List.nil_sublist _
  have same : ∀ {g g0 : Reg} {w : Int × Int}, g ∈ rs → g0 ∈ rs → w ∈ wordsR g → w ∈ wordsR g0 → g.life = g0.life := fun _ _ h1 h2 => by have := wordsR_life h1; have := wordsR_life h2; omega
  have inj : ∀ {g g0 : Reg}, g ∈ rs → g0 ∈ rs → g.life = g0.life → g = g0 := fun hg hg0 e => life_inj hn hg hg0 e
  refine (List.perm_ext_iff_of_nodup h1 (hLn.sublist (List.filter_sublist ..))).2 fun w => ?_
  rw [List.mem_filter]
  constructor
  · intro h
    obtain ⟨g, hg, h⟩ := List.mem_flatMap.1 h
    split at h
    · rename_i hp
      obtain ⟨h2, h3⟩ := List.mem_filter.1 h
      refine ⟨by simpa using h3, ?_⟩
      have : ¬ w ∈ fx := fun m => by
        obtain ⟨g0, hg0, h4, h5⟩ := (hfx w).1 m
        exact h4 (inj hg hg0 (same hg hg0 h2 h5) ▸ hp)
      simpa using this
    · cases h
  · rintro ⟨h2, h3⟩
    have h3' : w ∉ fx := by simpa using h3
    obtain ⟨h0, g, hg, e1, x, hx, e2⟩ := hL w h2
    have hw : w ∈ wordsR g := List.mem_map.2 ⟨x, hx, Prod.ext e2 e1⟩
    refine List.mem_flatMap.2 ⟨g, hg, ?_⟩
    by_cases hp : 0 < g.pages.length
    · rw [if_pos hp]; exact List.mem_filter.2 ⟨hw, by simpa using h2⟩
    · exact absurd ((hfx w).2 ⟨g, hg, hp, hw⟩) h3'
theorem colRegs_map {lv : Nat} {u : List Bool} {rs : List Reg} {L : List (Int × Int)} (h : RsOk lv u rs) (hL : ∀ w ∈ L, Points rs w) (hLn : L.Nodup) :
    colRegs L (colAll L u rs) = (colAll L u rs).regs.map (mapReg (List.map (nowW (colAll L u rs).mv (colAll L u rs).fx))) := by
  have hI := (ColInv.start (L := L) h).all
  have hI2 := (ColInv2.start (L := L) (u := u) (B := rs)).all (ColInv.start (L := L) h)
  rw [List.nil_append] at hI hI2
  change ColInv L lv rs [] (colAll L u rs) at hI
  change ColInv2 L rs [] (colAll L u rs) at hI2
  generalize colAll L u rs = S at hI hI2 ⊢
  have hok := hI.ok
  rw [List.append_nil] at hok
  have hkp := kept_perm h.inv.nodup h.inv.reg hL hLn hI2.fx
  have hperm : (wordsAll S.regs).Perm (colObjs L S) := hI2.perm.trans (List.Perm.append_left _ (hkp.map _))
  have hnd : (colObjs L S).Nodup := hperm.nodup_iff.1 (wordsAll_nodup hok.inv.nodup hok.inv.reg)
  unfold colRegs fixM
  rw [fold_set _ hnd]
  refine List.map_congr_left fun g hg => ?_
  unfold setIf mapReg
  congr 1
  refine List.map_congr_left fun x hx => ?_
  have hm : ((x.at_ : Int), (g.life : Int)) ∈ colObjs L S := hperm.mem_iff.1 (List.mem_flatMap.2 ⟨g, hg, List.mem_map.2 ⟨x, hx, rfl⟩⟩)
  rw [if_pos hm]
  congr 1
  refine List.map_congr_left fun w hw => ?_
  have hwl := (hok.inv.reg g hg).wl x hx w hw
  unfold fixF
  rw [if_pos]
  unfold nowW
  split
  · exact hwl
  · split
    · rename_i n e
      rw [(hI2.mv w n e).2]; exact hwl
    · split <;> exact hwl
end Go.Proofs.Ytoldkemimhebaaa

set_option linter.unusedSimpArgs false
set_option linter.unusedVariables false
namespace Go.Proofs.Ytoldkemimhebaaa
open Go Go.IM
def l47_0 : IC := (.seq (.seq (.seq (.region [oa 59 (.mov (.t 15)), oa 60 (.mov (.t 12)), oa 61 (.lenSlice (.t 60)), oa 62 (.bin .lss (.t 59) (.t 61))] (kp 160 [0,1,6,8,9,10,11,12,14,15,62]))
  (.cond (.t 62)
  (sk 160 [0,1,6,8,9,10,11,12,14,15])
  (sx 160 [0,1,6,8,9,10,11,14] 2)))
  (.seq (.block 3
  (.seq (.region [oa 65 (.mov (.t 6)), oa 66 (.mov (.t 12)), oa 67 (.mov (.t 15)), oa 68 (.indexAddr 2 (.t 66) (.t 67)), oa 69 (.load (some 2) (.t 68)), oa 70 (.call 96 [(.t 65), (.t 69)])] (kp 160 [0,1,6,8,9,10,11,12,14,15,70]))
  (.cond (.t 70)
  (.region [oa 71 (.mov (.t 14)), oa 72 (.mov (.t 12)), oa 73 (.mov (.t 15)), oa 74 (.indexAddr 2 (.t 72) (.t 73)), oa 75 (.load (some 2) (.t 74)), oa 76 (.buildSlice 1 [(.int .i64 (0)), (.int .i64 (0))] [(0, 2, (.t 75))]), oa 77 (.append 2 16 (.t 71) (.t 76)), oa 14 (.mov (.t 77))] (kp 160 [0,1,6,8,9,10,11,12,14,15]))
  (sk 160 [0,1,6,8,9,10,11,12,14,15]))))
  (.region [oa 63 (.mov (.t 15)), oa 64 (.bin .add (.t 63) (ai 1)), oa 15 (.mov (.t 64))] (kp 160 [0,1,6,8,9,10,11,12,14,15]))))
  (sk 160 [0,1,6,8,9,10,11,12,14,15]))
def j47_1xabaabbbb : IC := (.seq (.region [oa 79 (.mov (.t 0)), oa 80 (.mov (.t 11)), oa 81 (.mov (.t 14)), oa 82 (.call 97 [(.t 79), (.t 80), (.t 81)]), oa 78 (.mov (.t 82)), oa 83 (.extract (.t 78) 0), oa 84 (.extract (.t 78) 1), oa 16 (.mov (.t 83)), oa 17 (.mov (.t 84))] (kp 160 [0,1,6,8,9,10,11,14,16]))
  (.seq (.region [oa 85 (.mov (.t 9)), oa 86 (.mov (.t 14)), oa 87 (.append 2 16 (.t 85) (.t 86)), oa 9 (.mov (.t 87))] (kp 160 [0,1,6,8,9,10,11,16]))
  (.region [oa 88 (.mov (.t 10)), oa 89 (.mov (.t 16)), oa 90 (.append 2 16 (.t 88) (.t 89)), oa 10 (.mov (.t 90))] (kp 160 [0,1,6,8,9,10,11]))))
def l47_1 : IC := (.seq (.seq (.seq (.region [oa 35 (.mov (.t 11)), oa 36 (.mov (.t 0)), oa 37 (.nilCheck (.t 36)), oa 38 (.fieldAddr 1 (.t 37)), oa 39 (.load none (.t 38)), oa 40 (.lenSlice (.t 39)), oa 41 (.bin .lss (.t 35) (.t 40))] (kp 160 [0,1,6,8,9,10,11,41]))
  (.cond (.t 41)
  (sk 160 [0,1,6,8,9,10,11])
  (sx 160 [0,1,8,9,10] 0)))
  (.seq (.block 1
  (.seq (.seq (.region [oa 44 (.mov (.t 0)), oa 45 (.nilCheck (.t 44)), oa 46 (.fieldAddr 1 (.t 45)), oa 47 (.load none (.t 46)), oa 48 (.mov (.t 11)), oa 49 (.indexAddr 5 (.t 47) (.t 48)), oa 50 (.fieldAddr 0 (.t 49)), oa 51 (.load none (.t 50)), oa 52 (.bin .gtr (.t 51) (ai 0))] (kp 160 [0,1,6,8,9,10,11,52]))
  (.cond (.t 52)
  (sx 160 [0,1,6,8,9,10,11] 1)
  (sk 160 [0,1,6,8,9,10,11])))
  (.seq (.region [oa 54 (.mov (.t 0)), oa 55 (.mov (.t 11)), oa 56 (.call 81 [(.t 54), (.t 55)]), oa 53 (.mov (.t 56)), oa 57 (.extract (.t 53) 0), oa 58 (.extract (.t 53) 1), oa 12 (.mov (.t 57)), oa 13 (.mov (.t 58))] (kp 160 [0,1,6,8,9,10,11,12]))
  (.seq (.region [oa 14 (.mov (.c (.slice none 0 (some 0))))] (kp 160 [0,1,6,8,9,10,11,12,14]))
  (.seq (.seq (.region [oa 15 (.mov (ai 0))] (kp 160 [0,1,6,8,9,10,11,12,14,15]))
  (.block 2
  (.seq (sk 160 [0,1,6,8,9,10,11,12,14,15])
  (.loop l47_0))))
  j47_1xabaabbbb)))))
  (.region [oa 42 (.mov (.t 11)), oa 43 (.bin .add (.t 42) (ai 1)), oa 11 (.mov (.t 43))] (kp 160 [0,1,6,8,9,10,11]))))
  (sk 160 [0,1,6,8,9,10,11]))
def l47_2 : IC := (.seq (.seq (.seq (.region [oa 125 (.mov (.t 21)), oa 126 (.mov (.t 20)), oa 127 (.lenSlice (.t 126)), oa 128 (.bin .lss (.t 125) (.t 127))] (kp 160 [0,1,8,9,10,18,19,20,21,128]))
  (.cond (.t 128)
  (sk 160 [0,1,8,9,10,18,19,20,21])
  (sx 160 [0,1,8,9,10,18,19] 8)))
  (.seq (.block 9
  (.region [oa 131 (.mov (.t 20)), oa 132 (.mov (.t 21)), oa 133 (.mov (.t 8)), oa 134 (.mov (.t 9)), oa 135 (.mov (.t 10)), oa 136 (.mov (.t 20)), oa 137 (.mov (.t 21)), oa 138 (.indexAddr 2 (.t 136) (.t 137)), oa 139 (.load (some 2) (.t 138)), oa 140 (.call 98 [(.t 133), (.t 134), (.t 135), (.t 139)]), oa 141 (.indexAddr 2 (.t 131) (.t 132)), ob (.store 2 (.t 141) (.t 140))] (kp 160 [0,1,8,9,10,18,19,20,21])))
  (.region [oa 129 (.mov (.t 21)), oa 130 (.bin .add (.t 129) (ai 1)), oa 21 (.mov (.t 130))] (kp 160 [0,1,8,9,10,18,19,20,21]))))
  (sk 160 [0,1,8,9,10,18,19,20,21]))
def l47_3 : IC := (.seq (.seq (.seq (.region [oa 100 (.mov (.t 19)), oa 101 (.mov (.t 0)), oa 102 (.nilCheck (.t 101)), oa 103 (.fieldAddr 1 (.t 102)), oa 104 (.load none (.t 103)), oa 105 (.mov (.t 18)), oa 106 (.indexAddr 5 (.t 104) (.t 105)), oa 107 (.fieldAddr 4 (.t 106)), oa 108 (.load none (.t 107)), oa 109 (.lenSlice (.t 108)), oa 110 (.bin .lss (.t 100) (.t 109))] (kp 160 [0,1,8,9,10,18,19,110]))
  (.cond (.t 110)
  (sk 160 [0,1,8,9,10,18,19])
  (sx 160 [0,1,8,9,10,18] 6)))
  (.seq (.block 7
  (.seq (.region [oa 113 (.mov (.t 0)), oa 114 (.nilCheck (.t 113)), oa 115 (.fieldAddr 1 (.t 114)), oa 116 (.load none (.t 115)), oa 117 (.mov (.t 18)), oa 118 (.indexAddr 5 (.t 116) (.t 117)), oa 119 (.fieldAddr 4 (.t 118)), oa 120 (.load none (.t 119)), oa 121 (.mov (.t 19)), oa 122 (.indexAddr 3 (.t 120) (.t 121)), oa 123 (.fieldAddr 2 (.t 122)), oa 124 (.load none (.t 123)), oa 20 (.mov (.t 124))] (kp 160 [0,1,8,9,10,18,19,20]))
  (.seq (.region [oa 21 (.mov (ai 0))] (kp 160 [0,1,8,9,10,18,19,20,21]))
  (.block 8
  (.seq (sk 160 [0,1,8,9,10,18,19,20,21])
  (.loop l47_2))))))
  (.region [oa 111 (.mov (.t 19)), oa 112 (.bin .add (.t 111) (ai 1)), oa 19 (.mov (.t 112))] (kp 160 [0,1,8,9,10,18,19]))))
  (sk 160 [0,1,8,9,10,18,19]))
def l47_4 : IC := (.seq (.seq (.seq (.region [oa 91 (.mov (.t 18)), oa 92 (.mov (.t 0)), oa 93 (.nilCheck (.t 92)), oa 94 (.fieldAddr 1 (.t 93)), oa 95 (.load none (.t 94)), oa 96 (.lenSlice (.t 95)), oa 97 (.bin .lss (.t 91) (.t 96))] (kp 160 [0,1,8,9,10,18,97]))
  (.cond (.t 97)
  (sk 160 [0,1,8,9,10,18])
  (sx 160 [1,8,9,10] 4)))
  (.seq (.block 5
  (.seq (.region [oa 19 (.mov (ai 0))] (kp 160 [0,1,8,9,10,18,19]))
  (.block 6
  (.seq (sk 160 [0,1,8,9,10,18,19])
  (.loop l47_3)))))
  (.region [oa 98 (.mov (.t 18)), oa 99 (.bin .add (.t 98) (ai 1)), oa 18 (.mov (.t 99))] (kp 160 [0,1,8,9,10,18]))))
  (sk 160 [0,1,8,9,10,18]))
def l47_5 : IC := (.seq (.seq (.seq (.region [oa 142 (.mov (.t 23)), oa 143 (.mov (.t 1)), oa 144 (.lenSlice (.t 143)), oa 145 (.bin .lss (.t 142) (.t 144))] (kp 160 [1,8,9,10,22,23,145]))
  (.cond (.t 145)
  (sk 160 [1,8,9,10,22,23])
  (sx 160 [22] 10)))
  (.seq (.block 11
  (.region [oa 148 (.mov (.t 22)), oa 149 (.mov (.t 8)), oa 150 (.mov (.t 9)), oa 151 (.mov (.t 10)), oa 152 (.mov (.t 1)), oa 153 (.mov (.t 23)), oa 154 (.indexAddr 2 (.t 152) (.t 153)), oa 155 (.load (some 2) (.t 154)), oa 156 (.call 98 [(.t 149), (.t 150), (.t 151), (.t 155)]), oa 157 (.buildSlice 1 [(.int .i64 (0)), (.int .i64 (0))] [(0, 2, (.t 156))]), oa 158 (.append 2 16 (.t 148) (.t 157)), oa 22 (.mov (.t 158))] (kp 160 [1,8,9,10,22,23])))
  (.region [oa 146 (.mov (.t 23)), oa 147 (.bin .add (.t 146) (ai 1)), oa 23 (.mov (.t 147))] (kp 160 [1,8,9,10,22,23]))))
  (sk 160 [1,8,9,10,22,23]))
def j47_bbbbbbbbb : IC := (.seq (.region [oa 159 (.mov (.t 22)), oa 4 (.mov (.t 159)), oa 5 (.mov (ai 0))] (kp 160 [4,5]))
  (sr 160 [4,5]))
def j47_bbbbbbb : IC := (.seq (.region [oa 22 (.mov (.c (.slice none 0 (some 0))))] (kp 160 [1,8,9,10,22]))
  (.seq (.seq (.region [oa 23 (.mov (ai 0))] (kp 160 [1,8,9,10,22,23]))
  (.block 10
  (.seq (sk 160 [1,8,9,10,22,23])
  (.loop l47_5))))
  j47_bbbbbbbbb))
def j47_bbbbbb : IC := (.seq (.seq (.region [oa 18 (.mov (ai 0))] (kp 160 [0,1,8,9,10,18]))
  (.block 4
  (.seq (sk 160 [0,1,8,9,10,18])
  (.loop l47_4))))
  j47_bbbbbbb)
def c47 : IFn := ⟨160, [(4, none), (5, none)],
  (.seq (.region [oa 4 (.mov (.c (.slice none 0 (some 0)))), oa 5 (.mov (ai 0))] (kp 160 [0,1]))
  (.seq (.region [oa 25 (.mov (.t 0)), oa 26 (.mov (.t 1)), oa 27 (.call 52 [(.t 25), (.t 26)]), oa 24 (.mov (.t 27)), oa 28 (.extract (.t 24) 0), oa 29 (.extract (.t 24) 1), oa 6 (.mov (.t 28)), oa 7 (.mov (.t 29))] (kp 160 [0,1,6,7]))
  (.seq (.seq (.region [oa 30 (.mov (.t 7)), oa 31 (.bin .neq (.t 30) (ai 0))] (kp 160 [0,1,6,7,31]))
  (.cond (.t 31)
  (.seq (.region [oa 32 (.mov (.t 7)), oa 4 (.mov (.c (.slice none 0 (some 0)))), oa 5 (.mov (.t 32))] (kp 160 [4,5]))
  (sr 160 [4,5]))
  (sk 160 [0,1,6])))
  (.seq (.region [oa 33 (.mov (.t 0)), oa 34 (.call 95 [(.t 33)]), oa 8 (.mov (.t 34))] (kp 160 [0,1,6,8]))
  (.seq (.region [oa 9 (.mov (.c (.slice none 0 (some 0)))), oa 10 (.mov (.c (.slice none 0 (some 0))))] (kp 160 [0,1,6,8,9,10]))
  (.seq (.seq (.region [oa 11 (.mov (ai 0))] (kp 160 [0,1,6,8,9,10,11]))
  (.block 0
  (.seq (sk 160 [0,1,6,8,9,10,11])
  (.loop l47_1))))
  j47_bbbbbb))))))⟩
theorem F47 : shutF Try.prog 47 = some c47 := by kernel_rfl
theorem noPages {g : Reg} (h : RInv g) (hs : g.size = 0) (hp : g.pages = []) : g.objs = [] ∧ g.fill = 0 := by
  have hf := (h.inf hs).facts h.os
  have h2 := (h.inf hs).fold
  rw [hp] at hf h2
  have h3 : g.objs = [] := by
    have := hf.2.2.1
    rw [List.length_map] at this
    simp at this
    exact List.length_eq_zero_iff.1 (by simpa using this)
  rw [h3] at h2
  simp only [List.map_nil, List.foldl_nil, Prod.mk.injEq] at h2
  exact ⟨h3, h2.2.symm⟩
theorem rfind_has {rs : List RReg} {g : RReg} {w : Int × Int} (hn : (rs.map (·.life)).Nodup) (hg : g ∈ rs) (h1 : 1 ≤ g.life) (hw : w ∈ wordsR g.m) : ∃ a b, rfind w.1 w.2 rs 0 = some (a, b) ∧ rs[a]? = some g := by
  obtain ⟨A, B, rfl⟩ := List.append_of_mem hg
  obtain ⟨y, hy, rfl⟩ := List.mem_map.1 hw
  obtain ⟨x, hx, rfl⟩ := List.mem_map.1 hy
  show ∃ a b, rfind (x.b.at_ : Int) (g.life : Int) (A ++ g :: B) 0 = some (a, b) ∧ _
  rw [rfind_at hn h1]
  cases h : g.objs.findIdx? fun z => decide ((z.b.at_ : Int) = (x.b.at_ : Int)) with
  | none =>
    have := List.findIdx?_eq_none_iff.1 h x hx
    simp at this
  | some k => exact ⟨A.length, k, rfl, by simp⟩
theorem moved_now {hc : RHeap} {rs : List Reg} {fr tt : List (Int × Int)} {S : ColS} {lv : Nat} {u : List Bool} (hm : hc.regs.map RReg.m = rs) (h : RsOk lv u rs) (hmv : ∀ w, lookW fr tt w = S.mv w) (hfx : ∀ w, w ∈ S.fx ↔ ∃ g ∈ rs, ¬ 0 < g.pages.length ∧ w ∈ wordsR g) (w : Int × Int) :
    movedR hc fr tt w = nowW S.mv S.fx w := by
  unfold movedR nowW
  rw [hmv]
  have hn : (hc.regs.map (·.life)).Nodup := by
    have := h.inv.nodup
    rw [← hm, List.map_map] at this
    exact this
  have key : finR hc w = decide (w ∈ S.fx) := by
    unfold finR
    cases hf : rfind w.1 w.2 hc.regs 0 with
    | none =>
      refine (decide_eq_false fun m => ?_).symm
      obtain ⟨g0, hg0, _, hw⟩ := (hfx w).1 m
      rw [← hm] at hg0
      obtain ⟨g, hg, rfl⟩ := List.mem_map.1 hg0
      obtain ⟨a, b, e, _⟩ := rfind_has hn hg (h.inv.life g.m (hm ▸ List.mem_map.2 ⟨g, hg, rfl⟩)).1 hw
      rw [hf] at e; cases e
    | some ab =>
      obtain ⟨a, b⟩ := ab
      obtain ⟨g, x, _, k2, k3, k4, k5, _⟩ := rfind_some hf
      rw [Nat.sub_zero] at k2
      simp only [k2]
      have hg := List.mem_of_getElem? k2
      have hgm : g.m ∈ rs := hm ▸ List.mem_map.2 ⟨g, hg, rfl⟩
      have hri := h.inv.reg g.m hgm
      have hw : w ∈ wordsR g.m := List.mem_map.2 ⟨x.b, List.mem_map.2 ⟨x, List.mem_of_getElem? k3, rfl⟩, Prod.ext k5 k4⟩
      by_cases hs : 0 < g.size
      · rw [decide_eq_true hs]
        exact (decide_eq_true ((hfx w).2 ⟨g.m, hgm, by have := (hri.fin hs).1; rw [this]; simp, hw⟩)).symm
      · rw [decide_eq_false hs]
        refine (decide_eq_false fun m => ?_).symm
        obtain ⟨g0, hg0, hp0, hw0⟩ := (hfx w).1 m
        have : g0 = g.m := life_inj h.inv.nodup hg0 hgm (by have := wordsR_life hw; have := wordsR_life hw0; omega)
        subst this
        have := (noPages hri (by show g.size = 0; omega) (List.length_eq_zero_iff.1 (by omega))).1
        unfold wordsR at hw
        rw [this] at hw
        cases hw
  rw [key]
  by_cases h0 : w.2 = 0
  · rw [if_pos h0, if_pos h0]
  · rw [if_neg h0, if_neg h0]
    cases S.mv w with
    | some n => rfl
    | none => by_cases hw : w ∈ S.fx <;> simp [hw]
section
variable {o : Nat → Option O} {s : St} {C F : Ch} {Q : V → St → Prop} {p q t : Nat} {u : List Bool}
set_option maxRecDepth 10000
set_option maxHeartbeats 4000000
theorem words_rm (g : RReg) : g.objs.flatMap (rencP g.life) = (wordsR g.m).flatMap encW := by
  unfold wordsR
  show _ = List.flatMap encW (List.map _ (g.objs.map (·.b)))
  rw [List.map_map, List.flatMap_map]
  rfl
theorem words_rlen (g : RReg) : (wordsR g.m).length = g.objs.length := by simp [wordsR, RReg.m]
theorem keep47 {kl ko : Nat} {v0 v1 v8 v9 v10 v11 : V} {L W : List (Int × Int)} {m : Nat} {K : Kt} (ml : (kl, rowO 2 L.length (L.flatMap encW)) ∈ C) (hL : L.length ≤ 1000000) (hm : W.length = m) (mo : (ko, rowO 2 m (W.flatMap encW)) ∈ C) (hl : m ≤ 100000) :
    ∀ (n i k : Nat) (acc : List (Int × Int)) (s : St), i + n = m → acc.length ≤ i → Holds o s ((k, rowO 2 acc.length (acc.flatMap encW)) :: C) →
    (∀ s' k' R, R = acc ++ (W.drop i).filter (decide <| · ∈ L) → Holds o s' ((k', rowO 2 R.length (R.flatMap encW)) :: C) → WP (K (.exit 2) (sp 160 [(0, v0), (1, v1), (6, rowV kl L.length), (8, v8), (9, v9), (10, v10), (11, v11), (14, rowV k' R.length)]) s') Q) →
    WP (loop PF (.loop l47_0) (sp 160 [(0, v0), (1, v1), (6, rowV kl L.length), (8, v8), (9, v9), (10, v10), (11, v11), (12, rowV ko m), (14, rowV k acc.length), (15, I i)]) s K) Q
  | 0, i, k, acc, s, hi, ha, H, q => by
    have hlt : ¬ ((i : Int) < (m : Int)) := by omega
    refine wp_round fun LL hLL => ?_
    simp -implicitDefEqProofs only [↓GP, GB, GL, Nat.reduceAdd, Nat.reduceSub, Nat.reduceEqDiff, Nat.reduceMul, Nat.reduceLeDiff, Int.reduceBNe, Int.reduceBEq, Nat.reduceLT, reduceCtorEq, l47_0, hlt]
    exact q s k acc (by rw [List.drop_eq_nil_of_le (by omega)]; simp) H
  | n + 1, i, k, acc, s, hi, ha, H, q => by
    have hlt : ((i : Int) < (m : Int)) := by omega
    have hi' : i < W.length := by omega
    have hw1 := wrap_add1 (a := i) (by omega)
    have hix := ix_row (sz := 2) (k := ko) (n := m) (i := i) (kk := .i64) (by omega)
    have er : rowO 2 m (W.flatMap encW) = some (.cells (W.flatMap encW) (some 2)) := by unfold rowO; rw [if_neg (by omega)]
    have fr := H.mem (List.mem_cons_of_mem _ (er ▸ mo))
    have hld := ldN_tab (enc := encW) encW_len W (some 2) (List.getElem?_eq_getElem hi')
    rw [List.drop_eq_getElem_cons hi', List.filter_cons] at q
    generalize W[i] = w at q hld
    refine wp_round fun LL hLL => ?_
    simp -implicitDefEqProofs only [↓GP, GB, GL, Nat.reduceAdd, Nat.reduceSub, Nat.reduceEqDiff, Nat.reduceMul, Nat.reduceLeDiff, Int.reduceBNe, Int.reduceBEq, Nat.reduceLT, reduceCtorEq, l47_0, hlt, hix, fr, hld, encW]
    refine wp_in (s96 (w := w) H (List.mem_cons_of_mem _ ml) hL fun s1 h1 => ?_)
    have fr1 := h1.mem (List.mem_cons_of_mem _ (er ▸ mo))
    by_cases hw : w ∈ L
    · rw [decide_eq_true hw]
      rw [if_pos (by simpa using hw)] at q
      simp -implicitDefEqProofs only [↓GP, GB, GL, Nat.reduceAdd, Nat.reduceSub, Nat.reduceEqDiff, Nat.reduceMul, Nat.reduceLeDiff, Int.reduceBNe, Int.reduceBEq, Nat.reduceLT, reduceCtorEq, hix, fr1, hld, encW]
      refine wp_append (sz := 2) (bytes := 16) (m := 1) (cs := acc.flatMap encW) ((h1.alloc _).r1) (by rw [tab_len encW_len]) (new_cells' (alloc_new_same _ _) rfl) rfl rfl (by omega) (by unfold maxRow; omega) (by unfold maxRow; omega) fun k' s2 h2 => ?_
      simp -implicitDefEqProofs only [↓GP, GB, GL, Nat.reduceAdd, Nat.reduceSub, Nat.reduceEqDiff, Nat.reduceMul, Nat.reduceLeDiff, Int.reduceBNe, Int.reduceBEq, Nat.reduceLT, reduceCtorEq, hw1]
      rw [hLL]
      have hl1 : (acc ++ [w]).length = acc.length + 1 := by simp
      have := keep47 (K := K) (v0 := v0) (v1 := v1) (v8 := v8) (v9 := v9) (v10 := v10) (v11 := v11) ml hL hm mo hl n (i + 1) k' (acc ++ [w]) s2 (by omega) (by simp; omega) (by
        have h3 := h2.r1.tl
        rw [List.flatMap_append]; simpa [encW] using h3) fun s' k' R hR => q s' k' R (by rw [hR]; simp)
      rw [hl1] at this
      exact this
    · rw [decide_eq_false hw]
      rw [if_neg (by simpa using hw)] at q
      simp -implicitDefEqProofs only [↓GP, GB, GL, Nat.reduceAdd, Nat.reduceSub, Nat.reduceEqDiff, Nat.reduceMul, Nat.reduceLeDiff, Int.reduceBNe, Int.reduceBEq, Nat.reduceLT, reduceCtorEq, hw1]
      rw [hLL]
      exact keep47 ml hL hm mo hl n (i + 1) k acc s1 (by omega) (by omega) h1 q
theorem rrelay_b : ∀ (xs : List RObj) (ats : List Nat), (rrelay xs ats).map (·.b) = layObj (xs.map (·.b)) ats
  | [], _ => by simp [rrelay, layObj]
  | _ :: _, [] => by simp [rrelay, layObj]
  | x :: xs, a :: ats => by
    have := rrelay_b xs ats
    simp only [rrelay, layObj] at this
    simp only [rrelay, layObj, List.zipWith_cons_cons, List.map_cons, this]
theorem pick_kept {A B : List RReg} {g : RReg} {L : List (Int × Int)} (hn : ((A ++ g :: B).map (·.life)).Nodup) (h1 : 1 ≤ g.life) (hi : RInv g.m) :
    ∃ xs, rpick (A ++ g :: B) A.length 0 ((wordsR g.m).filter (decide <| · ∈ L)) = some xs ∧ xs.map (·.b) = keptM L g.m := by
  obtain ⟨g0, hm⟩ : ∃ g0 : PReg, g0.m = g.m := ⟨⟨0, 0, 0, 0, .map [] 0, g.size, g.life, g.fill, g.pages, g.objs.map fun x => ⟨0, 0, x.b⟩⟩, by simp [PReg.m, RReg.m]⟩
  have hd : (g0.objs.map (·.b.at_)).Nodup := by
    have := hi.nodup
    rw [← hm] at this
    simpa [PReg.m, List.map_map, Function.comp_def] using this
  have hps := pick_same (A := A) (B := B) hn h1 hm hd ((wordsR g.m).filter (decide <| · ∈ L)) 0
  have hpf := pick_filter (life := g0.life) (fun x => decide (((x.b.at_ : Int), (g0.life : Int)) ∈ L)) hd
  have hw : wordsP g0.life (g0.objs.filter fun x => decide (((x.b.at_ : Int), (g0.life : Int)) ∈ L)) = (wordsR g.m).filter (decide <| · ∈ L) := by
    rw [← hm, words_m]
    unfold wordsP; rw [List.filter_map]; rfl
  rw [hw] at hpf
  rw [List.drop_zero, hpf] at hps
  cases hr : rpick (A ++ g :: B) A.length 0 ((wordsR g.m).filter (decide <| · ∈ L)) with
  | none => rw [hr] at hps; exact hps.elim
  | some xs =>
    rw [hr] at hps
    simp only at hps
    exact ⟨xs, rfl, by rw [← hps, ← hm, kept_m]⟩
theorem colStep_skip {L : List (Int × Int)} {S : ColS} {g : Reg} (hp : ¬ 0 < g.pages.length) : colStep L S g = ⟨S.regs ++ [g], S.u, S.mv, S.fx ++ wordsR g, S.objs ++ wordsR g⟩ := by
  unfold colStep; rw [if_neg hp]
theorem regs47 {gr : Bool} {hr : RHeap} {kl lv hc r : Nat} {L : List (Int × Int)} {v1 : V} {K : Kt} (ml : (kl, rowO 2 L.length (L.flatMap encW)) ∈ F) (hL : L.length ≤ 1000000) (hlen : hr.regs.length ≤ 100000) :
    ∀ (n i kf kt : Nat) (D : List RReg) (S : ColS) (fr tt : List (Int × Int)) (s : St), i + n = hr.regs.length → D.map RReg.m = S.regs → ColInv L lv ((hr.regs.take i).map RReg.m) ((hr.regs.drop i).map RReg.m) S → (∀ w, lookW fr tt w = S.mv w) → (∀ w ∈ fr, ∃ g ∈ hr.regs.take i, (g.life : Int) = w.2) → fr.length ≤ 1000 * i → tt.length = fr.length →
    ((∀ g ∈ hr.regs, g.pages.length = 0 → g.pgk = 0) → ∀ g ∈ D, g.pages.length = 0 → g.pgk = 0) →
    Holds o s ((kf, rowO 2 fr.length (fr.flatMap encW)) :: (kt, rowO 2 fr.length (tt.flatMap encW)) :: (poolG gr q r S.u ++ (RHeap.ch q { hr with regs := D ++ hr.regs.drop i } ++ F))) →
    (∀ s' kf' kt' fr' tt' (D' : List RReg), D'.map RReg.m = (((hr.regs.drop i).map RReg.m).foldl (colStep L) S).regs → (∀ w, lookW fr' tt' w = (((hr.regs.drop i).map RReg.m).foldl (colStep L) S).mv w) → fr'.length ≤ 1000 * hr.regs.length → tt'.length = fr'.length →
      ((∀ g ∈ hr.regs, g.pages.length = 0 → g.pgk = 0) → ∀ g ∈ D', g.pages.length = 0 → g.pgk = 0) →
      Holds o s' ((kf', rowO 2 fr'.length (fr'.flatMap encW)) :: (kt', rowO 2 fr'.length (tt'.flatMap encW)) :: (poolG gr q r (((hr.regs.drop i).map RReg.m).foldl (colStep L) S).u ++ (RHeap.ch q { hr with regs := D' } ++ F))) →
      WP (K (.exit 0) (sp 160 [(0, ptrN hr.id), (1, v1), (8, ptrN hc), (9, rowV kf' fr'.length), (10, rowV kt' fr'.length)]) s') Q) →
    WP (loop PF (.loop l47_1) (sp 160 [(0, ptrN hr.id), (1, v1), (6, rowV kl L.length), (8, ptrN hc), (9, rowV kf fr.length), (10, rowV kt fr.length), (11, I i)]) s K) Q
  | 0, i, kf, kt, D, S, fr, tt, s, hi, hD, hI, hmv, hfr, hfl, htl, hz, H, k => by
    have hd : hr.regs.drop i = [] := List.drop_eq_nil_of_le (by omega)
    have hlt : ¬ ((i : Int) < (hr.regs.length : Int)) := by omega
    have hDl : D.length = i := by have := congrArg List.length hD; have h2 := congrArg List.length hI.lives; simp at this h2; omega
    have rin : RIn ((kf, rowO 2 fr.length (fr.flatMap encW)) :: (kt, rowO 2 fr.length (tt.flatMap encW)) :: (poolG gr q r S.u ++ (RHeap.ch q { hr with regs := D ++ hr.regs.drop i } ++ F))) q { hr with regs := D ++ hr.regs.drop i } :=
      ⟨fun x hx => List.mem_cons_of_mem _ (List.mem_cons_of_mem _ (List.mem_append_right _ (List.mem_append_left _ hx)))⟩
    have f := H.mem rin.id
    have hrl : (D ++ hr.regs.drop i).length = hr.regs.length := by rw [hd]; simp; omega
    have hrvl := RHeap.rv_len { hr with regs := D ++ hr.regs.drop i }
    simp only [hrl] at hrvl
    simp only [RHeap.hd] at f
    refine wp_round fun LL hLL => ?_
    simp -implicitDefEqProofs only [↓GP, GB, GL, Nat.reduceAdd, Nat.reduceSub, Nat.reduceEqDiff, Nat.reduceMul, Nat.reduceLeDiff, Int.reduceBNe, Int.reduceBEq, Nat.reduceLT, reduceCtorEq, l47_1, f, hrvl, hlt]
    rw [hd] at H k
    rw [List.append_nil] at H
    exact k s kf kt fr tt D hD hmv (by omega) htl hz H
  | n + 1, i, kf, kt, D, S, fr, tt, s, hi, hD, hI, hmv, hfr, hfl, htl, hz, H, k => by
    have hi' : i < hr.regs.length := by omega
    have hlt : ((i : Int) < (hr.regs.length : Int)) := by omega
    have hw1 := wrap_add1 (a := i) (by omega)
    have hDl : D.length = i := by have := congrArg List.length hD; have h2 := congrArg List.length hI.lives; simp at this h2; omega
    have hrl : (D ++ hr.regs.drop i).length = hr.regs.length := by simp; omega
    have hg0 := List.getElem?_eq_getElem hi'
    have hd : hr.regs.drop i = hr.regs[i] :: hr.regs.drop (i + 1) := List.drop_eq_getElem_cons hi'
    have htk : hr.regs.take (i + 1) = hr.regs.take i ++ [hr.regs[i]] := by rw [List.take_add_one, hg0]; rfl
    have mg0 := List.getElem_mem hi'
    generalize hr.regs[i] = g at hg0 hd htk mg0
    rw [hd] at hI H k hrl
    rw [List.map_cons] at hI
    have rin : RIn ((kf, rowO 2 fr.length (fr.flatMap encW)) :: (kt, rowO 2 fr.length (tt.flatMap encW)) :: (poolG gr q r S.u ++ (RHeap.ch q { hr with regs := D ++ g :: hr.regs.drop (i + 1) } ++ F))) q { hr with regs := D ++ g :: hr.regs.drop (i + 1) } :=
      ⟨fun x hx => List.mem_cons_of_mem _ (List.mem_cons_of_mem _ (List.mem_append_right _ (List.mem_append_left _ hx)))⟩
    have f := H.mem rin.id
    have frw := H.mem rin.row
    have hg : ({ hr with regs := D ++ g :: hr.regs.drop (i + 1) } : RHeap).regs[i]? = some g := by simp [← hDl]
    have hrvl := RHeap.rv_len { hr with regs := D ++ g :: hr.regs.drop (i + 1) }
    simp only [hrl] at hrvl
    simp only [RHeap.hd] at f
    have hstep := hI.step
    rw [show (hr.regs.take i).map RReg.m ++ [g.m] = (hr.regs.take (i + 1)).map RReg.m by rw [htk]; simp] at hstep
    have hR := hI.ok
    have hgm : g.m ∈ S.regs ++ g.m :: (hr.regs.drop (i + 1)).map RReg.m := by simp
    have hri := hR.inv.reg g.m hgm
    rw [List.map_cons, List.foldl_cons] at k
    by_cases hs : 0 < g.size
    · have hsz : ((g.size : Int) > 0) := by omega
      have hp : ¬ 0 < g.m.pages.length := by rw [(hri.fin hs).1]; simp
      have e := colStep_skip (L := L) (S := S) hp
      refine wp_round fun LL hLL => ?_
      simp -implicitDefEqProofs only [↓GP, GB, GL, Nat.reduceAdd, Nat.reduceSub, Nat.reduceEqDiff, Nat.reduceMul, Nat.reduceLeDiff, Int.reduceBNe, Int.reduceBEq, Nat.reduceLT, reduceCtorEq, l47_1, f, frw, hrvl, rreg hg, hlt, hsz, hw1]
      rw [hLL]
      refine regs47 (gr := gr) (r := r) (hc := hc) ml hL hlen n (i + 1) kf kt (D ++ [g]) (colStep L S g.m) fr tt s (by omega) (by rw [e, List.map_append, hD]; rfl) hstep (by rw [e]; exact hmv) (fun w hw => ?_) (by omega) htl (fun hz0 x hx => ?_) ?_ k
      · obtain ⟨g1, h1, h2⟩ := hfr w hw
        exact ⟨g1, by rw [htk]; exact List.mem_append_left _ h1, h2⟩
      · rcases List.mem_append.1 hx with hx | hx
        · exact hz hz0 x hx
        · simp at hx; subst hx; exact hz0 x mg0
      · rw [e, List.append_assoc]; exact H
    · have hs0 : g.size = 0 := by omega
      have hsz : ¬ ((g.size : Int) > 0) := by omega
      have hnob := hri.nobjs
      have hsb := sub_flatMap (fun r : Reg => r.pages) hgm
      have hpl0 := hR.pool.sub_len hsb
      have hul := hR.ulen
      have hgl : g.objs.length ≤ 1000 := by simp only [RReg.m, List.length_map] at *; omega
      refine wp_round fun LL hLL => ?_
      simp -implicitDefEqProofs only [↓GP, GB, GL, Nat.reduceAdd, Nat.reduceSub, Nat.reduceEqDiff, Nat.reduceMul, Nat.reduceLeDiff, Int.reduceBNe, Int.reduceBEq, Nat.reduceLT, reduceCtorEq, l47_1, f, frw, hrvl, rreg hg, hlt, hsz]
      refine wp_in (s81 (hr := { hr with regs := D ++ g :: hr.regs.drop (i + 1) }) H rin hg (by omega) fun s1 ko h1 => ?_)
      rw [words_rm] at h1
      simp -implicitDefEqProofs only [↓GP, GB, GL, Nat.reduceAdd, Nat.reduceSub, Nat.reduceEqDiff, Nat.reduceMul, Nat.reduceLeDiff, Int.reduceBNe, Int.reduceBEq, Nat.reduceLT, reduceCtorEq]
      rw [← rowV_z 0, I0]
      have h1' := h1.nilEntry 0
      refine keep47 (acc := []) (L := L) (W := wordsR g.m) (m := g.objs.length) (List.mem_cons_of_mem _ (List.mem_cons_of_mem _ (List.mem_cons_of_mem _ (List.mem_append_right _ (List.mem_append_right _ ml))))) hL (words_rlen g) (List.mem_cons_self ..) (by omega) g.objs.length 0 0 s1 (by omega) (by simp) h1' fun s2 kk W hW h2 => ?_
      rw [List.drop_zero, List.nil_append] at hW
      have hWn : ∀ w ∈ W, w.2 = g.life := fun w hw => by rw [hW] at hw; exact wordsR_life (List.mem_filter.1 hw).1
      have hWl : W.length ≤ 1000 := by rw [hW]; exact Nat.le_trans (List.length_filter_le ..) (by rw [words_rlen]; omega)
      have hln : ((D ++ g :: hr.regs.drop (i + 1)).map (·.life)).Nodup := by
        have := hR.inv.nodup
        rw [← hD, ← List.map_cons, ← List.map_append, List.map_map] at this
        exact this
      have hglf := hR.inv.life g.m hgm
      obtain ⟨xs, hpick, hxb⟩ := pick_kept (L := L) hln hglf.1 hri
      rw [← hW] at hpick
      obtain ⟨ats, u', fill', pages', hlay, hnd, hpl', hal, hul', hR'⟩ := hR.turn hs0 (ys := keptM L g.m) (List.filter_sublist ..)
      have hlay2 : layM 0 g.life (xs.map fun x => x.b.ws.length + 1) (freeP S.u g.pages) 0 [] = some (ats, u', fill', pages') := by
        rw [← hxb, List.map_map] at hlay; exact hlay
      have hxl : xs.length = ats.length := by rw [hal, ← hxb]; simp
      have hWx : W.length = ats.length := by
        rw [hal, hW, ← kept_words]; simp
      have hrok : RegOk S.u.length g.m := hri.ok (by have := hR.inv.lives; omega) (fun x hx => hR.pool.lt (hsb.subset hx)) (by omega) (by omega)
      have hobl : ∀ g0 ∈ ({ hr with regs := D ++ g :: hr.regs.drop (i + 1) } : RHeap).regs, g0.objs.length ≤ 5000 := fun g0 m0 => by
        have hm0 : g0.m ∈ S.regs ++ g.m :: (hr.regs.drop (i + 1)).map RReg.m := by
          rw [← hD, ← List.map_cons, ← List.map_append]; exact List.mem_map.2 ⟨g0, m0, rfl⟩
        have h1 := (hR.inv.reg g0.m hm0).nobjs
        have h2 := hR.pool.sub_len (sub_flatMap (fun r : Reg => r.pages) hm0)
        simp only [RReg.m, List.length_map] at *; omega
      have hagree : colStep L S g.m = ⟨S.regs ++ [{ g.m with fill := fill', pages := pages', objs := layObj (keptM L g.m) ats }], u', (W.zip (ats.map fun a : Nat => ((a : Int), (g.life : Int)))).foldl updF S.mv, (colStep L S g.m).fx, (colStep L S g.m).objs⟩ := by
        unfold colStep
        by_cases hp : 0 < g.m.pages.length
        · rw [if_pos hp, hlay]
          simp only
          rw [kept_words, ← hW]
          rfl
        · rw [if_neg hp]
          have hp0 : g.m.pages = [] := List.length_eq_zero_iff.1 (by omega)
          obtain ⟨n1, n2⟩ := noPages hri hs0 hp0
          have hk : keptM L g.m = [] := by unfold keptM; rw [n1]; rfl
          have hW0 : W = [] := by rw [hW, ← kept_words, hk]; rfl
          rw [hk] at hlay
          rw [hp0] at hlay
          simp only [List.map_nil, layM, Option.some.injEq, Prod.mk.injEq] at hlay
          obtain ⟨e1, e2, e3, e4⟩ := hlay
          subst e1 e3 e4
          rw [hW0]
          simp only [List.zip_nil_left, List.foldl_nil, ColS.mk.injEq, and_true, List.append_cancel_left_eq, List.cons.injEq]
          refine ⟨?_, by rw [← e2]; rfl⟩
          rw [hk]
          have : g.m = ⟨g.size, g.life, g.fill, g.pages, g.objs.map (·.b)⟩ := rfl
          rw [this] at n1 n2 hp0
          simp only at n1 n2 hp0
          simp [RReg.m, n1, n2, hp0, layObj]
      simp -implicitDefEqProofs only [↓GP, GB, GL, Nat.reduceAdd, Nat.reduceSub, Nat.reduceEqDiff, Nat.reduceMul, Nat.reduceLeDiff, Int.reduceBNe, Int.reduceBEq, Nat.reduceLT, reduceCtorEq, j47_1xabaabbbb]
      have h97 := fun Q' => s97 (gr := gr) (o := o) (s := s2) (Q := Q') (hr := { hr with regs := D ++ g :: hr.regs.drop (i + 1) }) (p := q) (r := r) (wk := kk) (u := S.u) (A := D) (B := hr.regs.drop (i + 1)) (g := g) (ws := W) (xs := xs) (ats := ats) (u' := u') (fill' := fill') (pages' := pages')
        (F := (kk, rowO 2 W.length (W.flatMap encW)) :: (kf, rowO 2 fr.length (fr.flatMap encW)) :: (kt, rowO 2 fr.length (tt.flatMap encW)) :: F) (Holds.of (h2) (fun k => by simp +arith only [HA, HB]) (fun k x => by simp only [HA, HC]; grind only)) rfl (by simp only; omega) hobl (by omega) hrok (by omega) (List.mem_cons_self ..) hs0 hpick hlay2 (by omega)
      rw [hDl] at h97
      refine wp_in (h97 _ fun s3 pgk obk kn hz3 h3 => ?_)
      rw [rrelay_enc _ _ _ hxl.symm] at h3
      generalize hN : (ats.map fun a : Nat => ((a : Int), (g.life : Int))) = N at h3 hagree
      have hNl : N.length = W.length := by rw [← hN]; simp; omega
      generalize hgd : ({ g with pgk := pgk, obk := obk, fill := fill', pages := pages', objs := rrelay xs ats } : RReg) = g1 at h3
      have hg1m : g1.m = { g.m with fill := fill', pages := pages', objs := layObj (keptM L g.m) ats } := by
        subst hgd
        show (⟨g.size, g.life, fill', pages', (rrelay xs ats).map (·.b)⟩ : Reg) = _
        rw [rrelay_b, hxb]
        rfl
      have hnr : ∀ {k : Nat} {l : List (Int × Int)} {s : St}, Holds o s ((k, rowO 2 W.length (l.flatMap encW)) :: []) → W.length = 0 ∨ s.new k = some (.cells (l.flatMap encW) (some 2)) := fun {k l s} h => by
        rcases Nat.eq_zero_or_pos W.length with h0 | h0
        · exact .inl h0
        · rw [rowO_pos h0] at h; exact .inr h.g0
      simp -implicitDefEqProofs only [↓GP, GB, GL, Nat.reduceAdd, Nat.reduceSub, Nat.reduceEqDiff, Nat.reduceMul, Nat.reduceLeDiff, Int.reduceBNe, Int.reduceBEq, Nat.reduceLT, reduceCtorEq]
      refine wp_append (k := kf) (n := fr.length) (sz := 2) (bytes := 16) (m := W.length) (cs := fr.flatMap encW) (F := (kk, rowO 2 W.length (W.flatMap encW)) :: (kn, rowO 2 W.length (N.flatMap encW)) :: (kt, rowO 2 fr.length (tt.flatMap encW)) :: (poolG gr q r u' ++ (RHeap.ch q { hr with regs := D ++ g1 :: hr.regs.drop (i + 1) } ++ F))) (Holds.of (h3) (fun k => by simp +arith only [HA, HB]) (fun k x => by simp only [HA, HC]; grind only))
        (by rw [tab_len encW_len]) (new_row (hnr (Holds.of (h3) (fun k => by simp +arith only [HA, HB]) (fun k x => by simp only [HA, HC]; grind only))) (by rw [tab_len encW_len])) (by rw [tab_len encW_len]) (by rw [List.all_flatMap]; simp [encW, V.one]) (by omega) (by unfold maxRow; omega) (by unfold maxRow; omega) fun kf' s4 h4 => ?_
      simp -implicitDefEqProofs only [↓GP, GB, GL, Nat.reduceAdd, Nat.reduceSub, Nat.reduceEqDiff, Nat.reduceMul, Nat.reduceLeDiff, Int.reduceBNe, Int.reduceBEq, Nat.reduceLT, reduceCtorEq]
      refine wp_append (k := kt) (n := fr.length) (sz := 2) (bytes := 16) (m := W.length) (cs := tt.flatMap encW) (F := (kf', rowO 2 (fr.length + W.length) (fr.flatMap encW ++ W.flatMap encW)) :: (kn, rowO 2 W.length (N.flatMap encW)) :: (poolG gr q r u' ++ (RHeap.ch q { hr with regs := D ++ g1 :: hr.regs.drop (i + 1) } ++ F))) (Holds.of (h4) (fun k => by simp +arith only [HA, HB]) (fun k x => by simp only [HA, HC]; grind only))
        (by rw [tab_len encW_len, htl]) (new_row (hnr (Holds.of (h4) (fun k => by simp +arith only [HA, HB]) (fun k x => by simp only [HA, HC]; grind only))) (by rw [tab_len encW_len, hNl])) (by rw [tab_len encW_len, hNl]) (by rw [List.all_flatMap]; simp [encW, V.one]) (by omega) (by unfold maxRow; omega) (by unfold maxRow; omega) fun kt' s5 h5 => ?_
      simp -implicitDefEqProofs only [↓GP, GB, GL, Nat.reduceAdd, Nat.reduceSub, Nat.reduceEqDiff, Nat.reduceMul, Nat.reduceLeDiff, Int.reduceBNe, Int.reduceBEq, Nat.reduceLT, reduceCtorEq, hw1]
      rw [hLL]
      have hWnd : W.Nodup := by rw [hW]; exact (wordsR_nodup hri).sublist (List.filter_sublist ..)
      have hla : (fr ++ W).length = fr.length + W.length := by simp
      have := regs47 (gr := gr) (K := K) (v1 := v1) (r := r) (hc := hc) ml hL hlen n (i + 1) kf' kt' (D ++ [g1]) (colStep L S g.m) (fr ++ W) (tt ++ N) s5 (by omega) (by rw [hagree, List.map_append, hD]; simp [hg1m]) hstep (fun w => ?_) (fun w hw => ?_) (by omega) (by simp; omega) (fun hz0 x hx => ?_) ?_ k
      · rw [hla] at this; exact this
      · rw [hagree, lookW_append w W N htl]
        show _ = ((W.zip N).foldl updF S.mv) w
        rw [look_upd w S.mv hWnd hNl, hmv]
        cases h1 : lookW W N w with
        | none => simp
        | some nn =>
          cases h2 : S.mv w with
          | none => simp
          | some mm =>
            rw [← hmv] at h2
            obtain ⟨g2, m2, e2⟩ := hfr w (lookW_mem h2).1
            have e3 := hWn w (lookW_mem h1).1
            have hnn := hR.inv.nodup
            rw [List.map_append, List.map_cons, hI.lives, List.nodup_append] at hnn
            exact (hnn.2.2 _ (List.mem_map.2 ⟨g2.m, List.mem_map.2 ⟨g2, m2, rfl⟩, rfl⟩) _ (List.mem_cons_self ..) (by show g2.life = g.life; omega)).elim
      · rcases List.mem_append.1 hw with hw | hw
        · obtain ⟨g2, m2, e2⟩ := hfr w hw
          exact ⟨g2, by rw [htk]; exact List.mem_append_left _ m2, e2⟩
        · exact ⟨g, by rw [htk]; exact List.mem_append_right _ (List.mem_cons_self ..), (hWn w hw).symm⟩
      · rcases List.mem_append.1 hx with hx | hx
        · exact hz hz0 x hx
        · simp at hx; subst hx; subst hgd; exact hz3
      · rw [hagree]
        show Holds o s5 (_ :: _ :: (poolG gr q r u' ++ _))
        exact (Holds.of (h5) (fun k => by simp +arith only [hla, List.append_assoc, List.flatMap_append, HA, HB]) (fun k x => by simp only [hla, List.append_assoc, List.flatMap_append, HA, HC]; grind only))
end
end Go.Proofs.Ytoldkemimhebaaa

set_option linter.unusedSimpArgs false
set_option linter.unusedVariables false
namespace Go.Proofs.Ytoldkemimhebaaa
open Go Go.IM
def skR (g : RReg) : Ch := [(g.pgk, pagesO g.pages), (g.obk, RReg.obO g.objs)]
def skH (q : Nat) (h : RHeap) : Ch := (h.id, some (h.hd q)) :: (h.rowk, some h.row) :: h.regs.flatMap skR
def wsH (h : RHeap) : List RObj := h.regs.flatMap (·.objs)
theorem regs_perm : ∀ rs : List RReg, (rs.flatMap RReg.ch).Perm (rs.flatMap skR ++ (rs.flatMap (·.objs)).flatMap RObj.ch)
  | [] => List.Perm.refl _
  | g :: rs => by
    have := regs_perm rs
    rw [List.flatMap_cons, List.flatMap_cons, List.flatMap_cons, List.flatMap_append]
    refine (List.Perm.append_left _ this).trans ?_
    unfold RReg.ch skR
    simp only [List.cons_append, List.nil_append, List.append_assoc]
    refine List.Perm.cons _ (List.Perm.cons _ ?_)
    exact List.perm_append_comm_assoc _ _ _
theorem ch_perm (q : Nat) (h : RHeap) : (h.ch q).Perm (skH q h ++ (wsH h).flatMap RObj.ch) := by
  unfold RHeap.ch skH wsH
  exact List.Perm.cons _ (List.Perm.cons _ (regs_perm h.regs))
def mapO (f : Int × Int → Int × Int) (x : RObj) : RObj := { x with b := { x.b with ws := x.b.ws.map f } }
def mapRR (f : Int × Int → Int × Int) (g : RReg) : RReg := { g with objs := g.objs.map (mapO f) }
theorem mapO_enc (f : Int × Int → Int × Int) (x : RObj) : (mapO f x).enc = x.enc := by simp [mapO, RObj.enc]
theorem mapRR_enc (f : Int × Int → Int × Int) (g : RReg) : (mapRR f g).enc = g.enc := by simp [mapRR, RReg.enc]
theorem mapRR_ob (f : Int × Int → Int × Int) (l : List RObj) : RReg.obO (l.map (mapO f)) = RReg.obO l := by
  unfold RReg.obO
  rw [List.length_map, List.flatMap_map]
  congr 1
  exact congrArg List.flatten (List.map_congr_left fun x _ => mapO_enc f x)
theorem mapRR_m (f : Int × Int → Int × Int) (g : RReg) : (mapRR f g).m = mapReg (List.map f) g.m := by
  simp only [mapRR, RReg.m, mapReg, List.map_map]
  congr 1
theorem skH_map (q : Nat) (f : Int × Int → Int × Int) (h : RHeap) : skH q { h with regs := h.regs.map (mapRR f) } = skH q h := by
  unfold skH RHeap.hd RHeap.rv RHeap.row
  simp only [List.length_map, List.flatMap_map]
  have e1 : h.regs.flatMap (fun a => RReg.enc (mapRR f a)) = h.regs.flatMap RReg.enc := congrArg List.flatten (List.map_congr_left fun g _ => mapRR_enc f g)
  have e2 : h.regs.flatMap (fun a => skR (mapRR f a)) = h.regs.flatMap skR := congrArg List.flatten (List.map_congr_left fun g _ => by
    unfold skR; simp only [mapRR]; rw [mapRR_ob])
  rw [e1, e2]
theorem wsH_map (f : Int × Int → Int × Int) (h : RHeap) : wsH { h with regs := h.regs.map (mapRR f) } = (wsH h).map (mapO f) := by
  unfold wsH
  rw [List.flatMap_map, List.map_flatMap]
  rfl
section
variable {o : Nat → Option O} {s : St} {C F : Ch} {Q : V → St → Prop} {p q : Nat}
set_option maxRecDepth 10000
set_option maxHeartbeats 4000000
theorem w47_2 {hc : RHeap} {kf kt wid : Nat} {gr : Bool} {v0 v1 v18 v19 : V} {fr tt ws : List (Int × Int)} {K : Kt} (h : RLook C p hc) (mf : (kf, rowO 2 fr.length (fr.flatMap encW)) ∈ C) (mt : (kt, rowO 2 fr.length (tt.flatMap encW)) ∈ C) (hl : fr.length ≤ 1000000) (htl : tt.length = fr.length) (hw : ws.length ≤ 31) :
    ∀ (n m : Nat) (s : St), m + n = ws.length → Holds o s ((wid, some (.cells (((ws.take m).map (movedR hc fr tt) ++ ws.drop m).flatMap encW) (cG gr 2))) :: C) →
    (∀ s', Holds o s' ((wid, some (.cells ((ws.map (movedR hc fr tt)).flatMap encW) (cG gr 2))) :: C) → WP (K (.exit 8) (sp 160 [(0, v0), (1, v1), (8, ptrN hc.id), (9, rowV kf fr.length), (10, rowV kt fr.length), (18, v18), (19, v19)]) s') Q) →
    WP (loop PF (.loop l47_2) (sp 160 [(0, v0), (1, v1), (8, ptrN hc.id), (9, rowV kf fr.length), (10, rowV kt fr.length), (18, v18), (19, v19), (20, cV gr wid ws.length), (21, I m)]) s K) Q
  | 0, m, s, hm, H, k => by
    have hlt : ¬ ((m : Int) < (ws.length : Int)) := by omega
    refine wp_round fun LL hLL => ?_
    simp -implicitDefEqProofs only [↓GP, GB, GL, Nat.reduceAdd, Nat.reduceSub, Nat.reduceEqDiff, Nat.reduceMul, Nat.reduceLeDiff, Int.reduceBNe, Int.reduceBEq, Nat.reduceLT, reduceCtorEq, l47_2, hlt]
    rw [List.take_of_length_le (by omega), List.drop_eq_nil_of_le (by omega), List.append_nil] at H
    exact k s H
  | n + 1, m, s, hm, H, k => by
    have hlt : ((m : Int) < (ws.length : Int)) := by omega
    have hm' : m < ws.length := by omega
    have hw1 := wrap_add1 (a := m) (by omega)
    have hv : ws[m]? = some ws[m] := List.getElem?_eq_getElem hm'
    have hgv : ((ws.take m).map (movedR hc fr tt) ++ ws.drop m)[m]? = some ws[m] := by rw [upd_get, hv]
    have hst := upd_step (movedR hc fr tt) hv
    generalize ws[m] = v at hv hgv hst
    have hlen : m < ((ws.take m).map (movedR hc fr tt) ++ ws.drop m).length := (List.getElem?_eq_some_iff.1 hgv).1
    have hll : ((ws.take m).map (movedR hc fr tt) ++ ws.drop m).length = ws.length := by simp; omega
    have hix := fun {kk : IntKind} => ix_cV (gr := gr) (sz := 2) (k := wid) (n := ws.length) (i := m) (kk := kk) hm'
    have f := H.f1
    have hld := ldN_tab (enc := encW) encW_len _ (cG gr 2) hgv
    refine wp_round fun LL hLL => ?_
    simp -implicitDefEqProofs only [↓GP, GB, GL, Nat.reduceAdd, Nat.reduceSub, Nat.reduceEqDiff, Nat.reduceMul, Nat.reduceLeDiff, Int.reduceBNe, Int.reduceBEq, Nat.reduceLT, reduceCtorEq, l47_2, hlt, hix, f, hld, encW]
    refine wp_in (s98 (w := v) H (h.cons _) (List.mem_cons_of_mem _ mf) (List.mem_cons_of_mem _ mt) hl htl fun s1 h1 => ?_)
    have f1 := h1.f1
    have hsc := fun s => stC_tab encW_len (fun _ => rfl) _ (cG gr 2) hlen (movedR hc fr tt v) wid s
    simp only [encW] at hsc
    simp -implicitDefEqProofs only [↓GP, GB, GL, Nat.reduceAdd, Nat.reduceSub, Nat.reduceEqDiff, Nat.reduceMul, Nat.reduceLeDiff, Int.reduceBNe, Int.reduceBEq, Nat.reduceLT, reduceCtorEq, hix, f1, hsc, hw1, encW]
    rw [hLL]
    refine w47_2 h mf mt hl htl hw n (m + 1) _ (by omega) ?_ k
    rw [← hst]
    exact h1.set0 _
def wsB (f : Int × Int → Int × Int) (X : List RObj) (b : Nat) : Ch := ((X.take b).map (mapO f) ++ X.drop b).flatMap RObj.ch
theorem w47_3 {hr hc : RHeap} {kf kt i base : Nat} {v1 : V} {fr tt : List (Int × Int)} {g : RReg} {X : List RObj} {K : Kt} (hsk : ∀ x ∈ skH q hr, x ∈ C) (hg : hr.regs[i]? = some g) (hol : g.objs.length ≤ 100000) (hws : ∀ x ∈ g.objs, x.b.ws.length ≤ 31)
    (h : RLook C p hc) (mf : (kf, rowO 2 fr.length (fr.flatMap encW)) ∈ C) (mt : (kt, rowO 2 fr.length (tt.flatMap encW)) ∈ C) (hl : fr.length ≤ 1000000) (htl : tt.length = fr.length) (hX : ∀ (j : Nat) x, g.objs[j]? = some x → X[base + j]? = some x) :
    ∀ (n j : Nat) (s : St), j + n = g.objs.length → Holds o s (wsB (movedR hc fr tt) X (base + j) ++ C) →
    (∀ s', Holds o s' (wsB (movedR hc fr tt) X (base + g.objs.length) ++ C) → WP (K (.exit 6) (sp 160 [(0, ptrN hr.id), (1, v1), (8, ptrN hc.id), (9, rowV kf fr.length), (10, rowV kt fr.length), (18, I i)]) s') Q) →
    WP (loop PF (.loop l47_3) (sp 160 [(0, ptrN hr.id), (1, v1), (8, ptrN hc.id), (9, rowV kf fr.length), (10, rowV kt fr.length), (18, I i), (19, I j)]) s K) Q
  | 0, j, s, hj, H, k => by
    have hlt : ¬ ((j : Int) < (g.objs.length : Int)) := by omega
    have f := H.mem (List.mem_append_right _ (hsk _ (List.mem_cons_self ..)))
    have frw := H.mem (List.mem_append_right _ (hsk _ (List.mem_cons_of_mem _ (List.mem_cons_self ..))))
    simp only [RHeap.hd] at f
    refine wp_round fun LL hLL => ?_
    simp -implicitDefEqProofs only [↓GP, GB, GL, Nat.reduceAdd, Nat.reduceSub, Nat.reduceEqDiff, Nat.reduceMul, Nat.reduceLeDiff, Int.reduceBNe, Int.reduceBEq, Nat.reduceLT, reduceCtorEq, l47_3, f, frw, rreg hg, hlt]
    rw [show j = g.objs.length by omega] at H
    exact k s H
  | n + 1, j, s, hj, H, k => by
    have hlt : ((j : Int) < (g.objs.length : Int)) := by omega
    have hj' : j < g.objs.length := by omega
    have hw1 := wrap_add1 (a := j) (by omega)
    have f := H.mem (List.mem_append_right _ (hsk _ (List.mem_cons_self ..)))
    have frw := H.mem (List.mem_append_right _ (hsk _ (List.mem_cons_of_mem _ (List.mem_cons_self ..))))
    have mo : (g.obk, RReg.obO g.objs) ∈ C := hsk _ (List.mem_cons_of_mem _ (List.mem_cons_of_mem _ (List.mem_flatMap.2 ⟨g, List.mem_of_getElem? hg, by simp [skR]⟩)))
    unfold RReg.obO at mo
    rw [rowO_pos (by omega : 0 < g.objs.length)] at mo
    have fo := H.mem (List.mem_append_right _ mo)
    simp only [RHeap.hd] at f
    have hx := List.getElem?_eq_getElem hj'
    have mx := List.getElem_mem hj'
    generalize g.objs[j] = x at hx mx
    have hXx := hX j x hx
    have hXl : base + j < X.length := (List.getElem?_eq_some_iff.1 hXx).1
    have hXd : X.drop (base + j) = x :: X.drop (base + j + 1) := by
      rw [List.drop_eq_getElem_cons hXl]; congr 1; exact (List.getElem?_eq_some_iff.1 hXx).2
    have hXt : X.take (base + j + 1) = X.take (base + j) ++ [x] := by rw [List.take_add_one, hXx]; rfl
    have hw31 := hws x mx
    refine wp_round fun LL hLL => ?_
    simp -implicitDefEqProofs only [↓GP, GB, GL, Nat.reduceAdd, Nat.reduceSub, Nat.reduceEqDiff, Nat.reduceMul, Nat.reduceLeDiff, Int.reduceBNe, Int.reduceBEq, Nat.reduceLT, reduceCtorEq, l47_3, f, frw, rreg hg, hlt, fo, robj hx, ix_row hj']
    rw [I0]
    have h1 : Holds o s ((x.wid, some (.cells (((x.b.ws.take 0).map (movedR hc fr tt) ++ x.b.ws.drop 0).flatMap encW) (cG x.gr 2))) :: (((X.take (base + j)).map (mapO (movedR hc fr tt))).flatMap RObj.ch ++ ((X.drop (base + j + 1)).flatMap RObj.ch ++ C))) := by
      unfold wsB at H
      rw [hXd] at H
      exact (Holds.of (H) (fun k => by simp +arith only [List.take_zero, List.map_nil, List.nil_append, List.drop_zero, HA, HB]) (fun k x => by simp only [List.take_zero, List.map_nil, List.nil_append, List.drop_zero, HA, HC]; grind only))
    have hup : ∀ y ∈ C, y ∈ ((X.take (base + j)).map (mapO (movedR hc fr tt))).flatMap RObj.ch ++ ((X.drop (base + j + 1)).flatMap RObj.ch ++ C) := fun y hy => List.mem_append_right _ (List.mem_append_right _ hy)
    refine w47_2 (h.mono hup) (hup _ mf) (hup _ mt) hl htl hw31 x.b.ws.length 0 s (by omega) h1 fun s1 h2 => ?_
    simp -implicitDefEqProofs only [↓GP, GB, GL, Nat.reduceAdd, Nat.reduceSub, Nat.reduceEqDiff, Nat.reduceMul, Nat.reduceLeDiff, Int.reduceBNe, Int.reduceBEq, Nat.reduceLT, reduceCtorEq, hw1]
    rw [hLL]
    refine w47_3 hsk hg hol hws h mf mt hl htl hX n (j + 1) s1 (by omega) ?_ k
    unfold wsB
    rw [← Nat.add_assoc, hXt]
    exact (Holds.of (h2) (fun k => by simp +arith only [List.map_append, List.map_cons, List.map_nil, mapO, HA, HB]) (fun k x => by simp only [List.map_append, List.map_cons, List.map_nil, mapO, HA, HC]; grind only))
theorem w47_4 {hr hc : RHeap} {kf kt : Nat} {v1 : V} {fr tt : List (Int × Int)} {K : Kt} (hsk : ∀ x ∈ skH q hr, x ∈ C) (hlen : hr.regs.length ≤ 100000) (hol : ∀ g ∈ hr.regs, g.objs.length ≤ 100000) (hws : ∀ g ∈ hr.regs, ∀ x ∈ g.objs, x.b.ws.length ≤ 31)
    (h : RLook C p hc) (mf : (kf, rowO 2 fr.length (fr.flatMap encW)) ∈ C) (mt : (kt, rowO 2 fr.length (tt.flatMap encW)) ∈ C) (hl : fr.length ≤ 1000000) (htl : tt.length = fr.length) :
    ∀ (n i : Nat) (s : St), i + n = hr.regs.length → Holds o s (wsB (movedR hc fr tt) (wsH hr) ((hr.regs.take i).flatMap (·.objs)).length ++ C) →
    (∀ s', Holds o s' (wsB (movedR hc fr tt) (wsH hr) (wsH hr).length ++ C) → WP (K (.exit 4) (sp 160 [(1, v1), (8, ptrN hc.id), (9, rowV kf fr.length), (10, rowV kt fr.length)]) s') Q) →
    WP (loop PF (.loop l47_4) (sp 160 [(0, ptrN hr.id), (1, v1), (8, ptrN hc.id), (9, rowV kf fr.length), (10, rowV kt fr.length), (18, I i)]) s K) Q
  | 0, i, s, hi, H, k => by
    have hlt : ¬ ((i : Int) < (hr.regs.length : Int)) := by omega
    have f := H.mem (List.mem_append_right _ (hsk _ (List.mem_cons_self ..)))
    simp only [RHeap.hd] at f
    refine wp_round fun LL hLL => ?_
    simp -implicitDefEqProofs only [↓GP, GB, GL, Nat.reduceAdd, Nat.reduceSub, Nat.reduceEqDiff, Nat.reduceMul, Nat.reduceLeDiff, Int.reduceBNe, Int.reduceBEq, Nat.reduceLT, reduceCtorEq, l47_4, f, hr.rv_len, hlt]
    rw [List.take_of_length_le (by omega)] at H
    exact k s H
  | n + 1, i, s, hi, H, k => by
    have hlt : ((i : Int) < (hr.regs.length : Int)) := by omega
    have hi' : i < hr.regs.length := by omega
    have hw1 := wrap_add1 (a := i) (by omega)
    have f := H.mem (List.mem_append_right _ (hsk _ (List.mem_cons_self ..)))
    simp only [RHeap.hd] at f
    have hg := List.getElem?_eq_getElem hi'
    have mg := List.getElem_mem hi'
    have htk : hr.regs.take (i + 1) = hr.regs.take i ++ [hr.regs[i]] := by rw [List.take_add_one, hg]; rfl
    have hsp : wsH hr = (hr.regs.take i).flatMap (·.objs) ++ (hr.regs[i].objs ++ (hr.regs.drop (i + 1)).flatMap (·.objs)) := by
      have := congrArg (List.flatMap fun g : RReg => g.objs) (List.take_append_drop i hr.regs)
      rw [List.flatMap_append, List.drop_eq_getElem_cons hi', List.flatMap_cons] at this
      exact this.symm
    generalize hr.regs[i] = g at hg mg htk hsp
    refine wp_round fun LL hLL => ?_
    simp -implicitDefEqProofs only [↓GP, GB, GL, Nat.reduceAdd, Nat.reduceSub, Nat.reduceEqDiff, Nat.reduceMul, Nat.reduceLeDiff, Int.reduceBNe, Int.reduceBEq, Nat.reduceLT, reduceCtorEq, l47_4, f, hr.rv_len, hlt]
    rw [I0]
    refine w47_3 (base := ((hr.regs.take i).flatMap (·.objs)).length) hsk hg (hol g mg) (hws g mg) h mf mt hl htl (fun j x hj => ?_) g.objs.length 0 s (by omega) H fun s1 h1 => ?_
    · rw [hsp, List.getElem?_append_right (by omega), Nat.add_sub_cancel_left, List.getElem?_append_left (List.getElem?_eq_some_iff.1 hj).1]
      exact hj
    · simp -implicitDefEqProofs only [↓GP, GB, GL, Nat.reduceAdd, Nat.reduceSub, Nat.reduceEqDiff, Nat.reduceMul, Nat.reduceLeDiff, Int.reduceBNe, Int.reduceBEq, Nat.reduceLT, reduceCtorEq, hw1]
      rw [hLL]
      refine w47_4 hsk hlen hol hws h mf mt hl htl n (i + 1) s1 (by omega) ?_ k
      rw [htk, List.flatMap_append, List.flatMap_cons, List.flatMap_nil, List.append_nil, List.length_append]
      exact h1
theorem out47 {hc : RHeap} {kf kt kr : Nat} {fr tt roots : List (Int × Int)} {K : Kt} (h : RLook C p hc) (mf : (kf, rowO 2 fr.length (fr.flatMap encW)) ∈ C) (mt : (kt, rowO 2 fr.length (tt.flatMap encW)) ∈ C) (hl : fr.length ≤ 1000000) (htl : tt.length = fr.length) (mr : (kr, rowO 2 roots.length (roots.flatMap encW)) ∈ C) (hrl : roots.length ≤ 1000) :
    ∀ (n i k : Nat) (s : St), i + n = roots.length → Holds o s ((k, rowO 2 i (((roots.take i).map (movedR hc fr tt)).flatMap encW)) :: C) →
    (∀ s' k', Holds o s' ((k', rowO 2 roots.length ((roots.map (movedR hc fr tt)).flatMap encW)) :: C) → WP (K (.exit 10) (sp 160 [(22, rowV k' roots.length)]) s') Q) →
    WP (loop PF (.loop l47_5) (sp 160 [(1, rowV kr roots.length), (8, ptrN hc.id), (9, rowV kf fr.length), (10, rowV kt fr.length), (22, rowV k i), (23, I i)]) s K) Q
  | 0, i, k, s, hi, H, q => by
    have hlt : ¬ ((i : Int) < (roots.length : Int)) := by omega
    have e : i = roots.length := by omega
    subst e
    rw [List.take_length] at H
    refine wp_round fun LL hLL => ?_
    simp -implicitDefEqProofs only [↓GP, GB, GL, Nat.reduceAdd, Nat.reduceSub, Nat.reduceEqDiff, Nat.reduceMul, Nat.reduceLeDiff, Int.reduceBNe, Int.reduceBEq, Nat.reduceLT, reduceCtorEq, l47_5, hlt]
    exact q s k H
  | n + 1, i, k, s, hi, H, q => by
    have hlt : ((i : Int) < (roots.length : Int)) := by omega
    have hi' : i < roots.length := by omega
    have hw1 := wrap_add1 (a := i) (by omega)
    have hix := ix_row (sz := 2) (k := kr) (n := roots.length) (i := i) (kk := .i64) hi'
    have er : rowO 2 roots.length (roots.flatMap encW) = some (.cells (roots.flatMap encW) (some 2)) := by unfold rowO; rw [if_neg (by omega)]
    have fr' := H.mem (List.mem_cons_of_mem _ (er ▸ mr))
    have hv := List.getElem?_eq_getElem hi'
    have hld := ldN_tab (enc := encW) encW_len roots (some 2) hv
    have htk : roots.take (i + 1) = roots.take i ++ [roots[i]] := by rw [List.take_add_one, hv]; rfl
    generalize roots[i] = w at hld htk
    refine wp_round fun LL hLL => ?_
    simp -implicitDefEqProofs only [↓GP, GB, GL, Nat.reduceAdd, Nat.reduceSub, Nat.reduceEqDiff, Nat.reduceMul, Nat.reduceLeDiff, Int.reduceBNe, Int.reduceBEq, Nat.reduceLT, reduceCtorEq, l47_5, hlt, hix, fr', hld, encW]
    refine wp_in (s98 (w := w) H (h.cons _) (List.mem_cons_of_mem _ mf) (List.mem_cons_of_mem _ mt) hl htl fun s1 h1 => ?_)
    simp -implicitDefEqProofs only [↓GP, GB, GL, Nat.reduceAdd, Nat.reduceSub, Nat.reduceEqDiff, Nat.reduceMul, Nat.reduceLeDiff, Int.reduceBNe, Int.reduceBEq, Nat.reduceLT, reduceCtorEq, encW]
    refine wp_append (sz := 2) (bytes := 16) (m := 1) (cs := ((roots.take i).map (movedR hc fr tt)).flatMap encW) ((h1.alloc _).r1) (by rw [tab_len encW_len]; simp; omega) (new_cells' (alloc_new_same _ _) rfl) rfl rfl (by omega) (by unfold maxRow; omega) (by unfold maxRow; omega) fun k' s2 h2 => ?_
    simp -implicitDefEqProofs only [↓GP, GB, GL, Nat.reduceAdd, Nat.reduceSub, Nat.reduceEqDiff, Nat.reduceMul, Nat.reduceLeDiff, Int.reduceBNe, Int.reduceBEq, Nat.reduceLT, reduceCtorEq, hw1]
    rw [hLL]
    refine out47 h mf mt hl htl mr hrl n (i + 1) k' s2 (by omega) ?_ q
    rw [htk, List.map_append, List.flatMap_append]
    exact h2.r1.tl
end
end Go.Proofs.Ytoldkemimhebaaa

set_option linter.unusedSimpArgs false
set_option linter.unusedVariables false
namespace Go.Proofs.Ytoldkemimhebaaa
open Go Go.IM
section
set_option maxRecDepth 10000
theorem sane16_0 : (match (LC PF 100 noY).2 41 [] ⟨fun _ => none, 0, fun _ => none⟩ with | some (.bool b, _) => b | _ => false) = true := by kernel_rfl
theorem sane16 (s : St) : ∃ t, call PF 41 [] s = some (.bool true, t) ∧ (∀ j, j < s.next → t.new j = s.new j) ∧ t.old = s.old ∧ s.next ≤ t.next := closed_at 100 sane16_0 s
end
end Go.Proofs.Ytoldkemimhebaaa

set_option linter.unusedSimpArgs false
set_option linter.unusedVariables false
namespace Go.Proofs.Ytoldkemimhebaaa
open Go Go.IM
section
variable {o : Nat → Option O} {s : St} {C F : Ch} {Q : V → St → Prop} {p r q t : Nat} {u : List Bool} {G : PairG}
set_option maxRecDepth 10000
set_option maxHeartbeats 4000000
theorem H0c (hs : s.old = o) : Holds o s [] := ⟨hs, List.nodup_nil, (fun k x m => by cases m), (fun k m => by cases m)⟩
theorem im_trueC {f : Nat} {args : List V} (h : WP (call PF f args s) fun v' _ => v' = .bool true) : ∃ st, call PF f args s = some (.bool true, st) := by
  obtain ⟨v', st, e, rfl⟩ := h
  exact ⟨st, e⟩
theorem longB_lenC {l : List (ActG × List Bool)} (h : longB l = false) : l.length ≤ 150 := by
  unfold longB at h
  rw [Bool.or_eq_false_iff] at h
  have := h.2
  simp at this; exact this
theorem longR_false {l : List (ActG × List Bool)} {n m : Nat} (h : longR l n m = false) : longB l = false ∧ n ≤ 40 ∧ m ≤ 20 := by
  unfold longR at h
  simp only [Bool.or_eq_false_iff, decide_eq_false_iff_not] at h
  exact ⟨h.1.1, by omega, by omega⟩
theorem all_len : ∀ gs : List PReg, (∀ g ∈ gs, g.objs.length ≤ 32 * g.pages.length + 1) → (gs.flatMap fun g => g.objs.map fun x => ((x.b.at_ : Int), (g.life : Int))).length ≤ 32 * ((gs.map PReg.m).flatMap (·.pages)).length + gs.length
  | [], _ => by simp
  | g :: gs, h => by
    have h1 := all_len gs fun x hx => h x (List.mem_cons_of_mem _ hx)
    have h2 := h g (List.mem_cons_self ..)
    simp only [List.flatMap_cons, List.map_cons, List.length_append, List.length_map, List.length_cons] at h1 ⊢
    have : g.m.pages.length = g.pages.length := rfl
    omega
theorem PairOk.rs (h : PairOk u [] G) : RsOk G.hp.lives u (G.hp.regs.map PReg.m) := ⟨h.ulen, h.inv, by have := h.pool; rwa [List.append_nil] at this⟩
theorem RsOk.all {hp : PHeap} {lv : Nat} (h : RsOk lv u (hp.regs.map PReg.m)) (hl : lv ≤ 151) : (allW hp).length ≤ 90000 ∧ hp.regs.length ≤ 151 := by
  have h1 := all_len hp.regs fun g hg => by
    have := (h.inv.reg g.m (List.mem_map.2 ⟨g, hg, rfl⟩)).nobjs
    simpa [PReg.m] using this
  have h2 := h.pool.len
  have h3 := h.ulen
  have h4 := h.inv.len
  rw [List.length_map] at h4
  unfold allW
  exact ⟨by omega, by omega⟩
end
end Go.Proofs.Ytoldkemimhebaaa

set_option linter.unusedSimpArgs false
set_option linter.unusedVariables false
namespace Go.Proofs.Ytoldkemimhebaaa
open Go Go.IM
section
variable {o : Nat → Option O} {s : St} {C F : Ch} {Q : V → St → Prop} {p q r : Nat} {u : List Bool}
set_option maxRecDepth 10000
set_option maxHeartbeats 4000000
theorem RsOk.pg {rs : List Reg} {lv : Nat} (h : RsOk lv u rs) {g : Reg} (hg : g ∈ rs) : g.pages.length ≤ 30 ∧ g.objs.length ≤ 1000 := by
  have h1 := (h.inv.reg g hg).nobjs
  have h2 := h.pool.sub_len (sub_flatMap (fun r : Reg => r.pages) hg)
  have h3 := h.ulen
  omega
theorem RsOk.rlook {hr : RHeap} {D : Ch} {lv : Nat} (h : RsOk lv u (hr.regs.map RReg.m)) (hD : ∀ y ∈ hr.ch p, y ∈ D) : RLook D p hr where
  rin := ⟨hD⟩
  ne := fun e => h.inv.ne (by rw [e]; rfl)
  len := by have h1 := h.inv.len; have h2 := h.inv.lives; rw [List.length_map] at h1; omega
  objs := fun g hg => by have := (h.pg (List.mem_map.2 ⟨g, hg, rfl⟩)).2; simp only [RReg.m, List.length_map] at this; omega
  ws := fun g hg x hx => by
    have := (h.inv.reg g.m (List.mem_map.2 ⟨g, hg, rfl⟩)).ws x.b (List.mem_map.2 ⟨x, hx, rfl⟩)
    exact ⟨this.1, this.2.1⟩
theorem sk_out {h : RHeap} {X Y : Ch} (H : Holds o s (X ++ (h.ch q ++ Y))) : Holds o s ((wsH h).flatMap RObj.ch ++ (skH q h ++ (X ++ Y))) := by
  refine H.perm ((List.perm_append_comm_assoc _ _ _).trans ?_)
  rw [← List.append_assoc ((wsH h).flatMap RObj.ch)]
  exact ((ch_perm q h).trans List.perm_append_comm).append_right _
theorem sk_in {h : RHeap} {Z : Ch} (H : Holds o s ((wsH h).flatMap RObj.ch ++ (skH q h ++ Z))) : Holds o s (h.ch q ++ Z) := by
  refine H.perm ?_
  rw [← List.append_assoc]
  exact (List.perm_append_comm.trans (ch_perm q h).symm).append_right _
theorem s47 {gr : Bool} {hp : PHeap} {hr : RHeap} {kr lv : Nat} {roots : List (Int × Int)} (H : Holds o s (poolG gr q r u ++ (hr.ch q ++ F))) (hm : hp.regs.map PReg.m = hr.regs.map RReg.m) (hR : RsOk lv u (hr.regs.map RReg.m)) (hu : 0 < u.length) (hlen : hr.regs.length ≤ 900) (hr' : (kr, rowO 2 roots.length (roots.flatMap encW)) ∈ F) (hrl : roots.length ≤ 1000) (hall : (allW hp).length ≤ 90000)
    (k : ∀ s' (D : List RReg) kout, D.map RReg.m = colRegs (reachW hp roots) (colAll (reachW hp roots) u (hr.regs.map RReg.m)) → ((∀ g ∈ hr.regs, g.pages.length = 0 → g.pgk = 0) → ∀ g ∈ D, g.pages.length = 0 → g.pgk = 0) →
      Holds o s' ((kout, rowO 2 roots.length ((roots.map (nowW (colAll (reachW hp roots) u (hr.regs.map RReg.m)).mv (colAll (reachW hp roots) u (hr.regs.map RReg.m)).fx)).flatMap encW)) :: (poolG gr q r (colAll (reachW hp roots) u (hr.regs.map RReg.m)).u ++ (RHeap.ch q { hr with regs := D } ++ F))) →
      Q (.tuple [rowV kout roots.length, I 0]) s') : WP (call PF 47 [ptrN hr.id, rowV kr roots.length] s) Q := by
  have rl : RLook (poolG gr q r u ++ (hr.ch q ++ F)) q hr := hR.rlook fun y hy => List.mem_append_right _ (List.mem_append_left _ hy)
  have hw : ∀ g ∈ hp.regs, ∀ x ∈ g.objs, x.b.ws.length ≤ 31 := fun g hg x hx => by
    have hgm : g.m ∈ hr.regs.map RReg.m := hm ▸ List.mem_map.2 ⟨g, hg, rfl⟩
    exact ((hR.inv.reg g.m hgm).ws x.b (List.mem_map.2 ⟨x, hx, rfl⟩)).2.1
  have hLp : ∀ w ∈ reachW hp roots, Points (hr.regs.map RReg.m) w := fun w hw => hm ▸ thereB_m ((Found.reach hp roots).there w hw)
  have hLn := (Found.reach hp roots).nodup
  have hLl : (reachW hp roots).length ≤ 90000 := Nat.le_trans (Found.reach hp roots).len hall
  have hul := hR.ulen
  have hpl : ∀ g ∈ hr.regs, g.pages.length ≤ 400 := fun g hg => by have := (hR.pg (List.mem_map.2 ⟨g, hg, rfl⟩)).1; simp only [RReg.m] at this; omega
  generalize hLd : reachW hp roots = L at *
  rw [call_run F47]; simp -implicitDefEqProofs only [↓GP, GB, GL, Nat.reduceAdd, Nat.reduceSub, Nat.reduceEqDiff, Nat.reduceMul, Nat.reduceLeDiff, Int.reduceBNe, Int.reduceBEq, Nat.reduceLT, reduceCtorEq, c47]
  refine wp_in (s52 H rl hm hw (List.mem_append_right _ (List.mem_append_right _ hr')) hrl hall fun s1 kl h1 => ?_)
  rw [hLd] at h1 ⊢
  simp -implicitDefEqProofs only [↓GP, GB, GL, Nat.reduceAdd, Nat.reduceSub, Nat.reduceEqDiff, Nat.reduceMul, Nat.reduceLeDiff, Int.reduceBNe, Int.reduceBEq, Nat.reduceLT, reduceCtorEq, Int.reduceBNe]
  refine wp_in (s95 (gr := gr) (p := q) (r := r) (u := u) (C := (kl, rowO 2 L.length (L.flatMap encW)) :: (hr.ch q ++ F)) (Holds.of (h1) (fun k => by simp +arith only [HA, HB]) (fun k x => by simp only [HA, HC]; grind only)) (hR.rlook fun y hy => List.mem_cons_of_mem _ (List.mem_append_left _ hy)) ⟨hu, by omega⟩ hpl fun s2 hc p2 r2 e1 e2 e3 e4 h2 => ?_)
  simp -implicitDefEqProofs only [↓GP, GB, GL, Nat.reduceAdd, Nat.reduceSub, Nat.reduceEqDiff, Nat.reduceMul, Nat.reduceLeDiff, Int.reduceBNe, Int.reduceBEq, Nat.reduceLT, reduceCtorEq]
  rw [← rowV_z 0, I0]
  refine regs47 (gr := gr) (q := q) (r := r) (hc := hc.id) (lv := lv) (F := (kl, rowO 2 L.length (L.flatMap encW)) :: (poolG true p2 r2 u ++ (hc.ch p2 ++ F))) (List.mem_cons_self ..) (by omega) (by omega) hr.regs.length 0 0 0 [] ⟨[], u, fun _ => none, [], []⟩ [] [] s2 (by omega) rfl
    (by rw [List.take_zero, List.drop_zero]; exact ColInv.start hR) (fun w => rfl) (fun w hw => by cases hw) (by simp) rfl (fun _ g hg => by cases hg) (by
      have := (h2.nilEntry 0).nilEntry 0
      have e0 : ({ hr with regs := [] ++ hr.regs.drop 0 } : RHeap) = hr := by rw [List.drop_zero]; rfl
      rw [e0]
      exact (Holds.of (this) (fun k => by simp +arith only [List.length_nil, List.flatMap_nil, rowO_z, HA, HB]) (fun k x => by simp only [List.length_nil, List.flatMap_nil, rowO_z, HA, HC]; grind only))) fun s3 kf kt fr tt D hD hmv hfl htl hz h3 => ?_
  rw [List.drop_zero] at hD hmv h3
  change D.map RReg.m = (colAll L u (hr.regs.map RReg.m)).regs at hD
  change ∀ w, lookW fr tt w = (colAll L u (hr.regs.map RReg.m)).mv w at hmv
  change Holds o s3 (_ :: _ :: (poolG gr q r (colAll L u (hr.regs.map RReg.m)).u ++ _)) at h3
  have hI := (ColInv.start (L := L) hR).all
  have hI2 := (ColInv2.start (L := L) (u := u) (B := hr.regs.map RReg.m)).all (ColInv.start (L := L) hR)
  rw [List.nil_append] at hI hI2
  change ColInv L lv (hr.regs.map RReg.m) [] (colAll L u (hr.regs.map RReg.m)) at hI
  change ColInv2 L (hr.regs.map RReg.m) [] (colAll L u (hr.regs.map RReg.m)) at hI2
  have hcm := colRegs_map hR hLp hLn
  generalize colAll L u (hr.regs.map RReg.m) = S at hD hmv h3 hI hI2 hcm k
  have hRS := hI.ok
  rw [List.append_nil, ← hD] at hRS
  have hmn : movedR hc fr tt = nowW S.mv S.fx := funext fun w => moved_now (rs := hr.regs.map RReg.m) e1 hR hmv hI2.fx w
  simp -implicitDefEqProofs only [↓GP, GB, GL, Nat.reduceAdd, Nat.reduceSub, Nat.reduceEqDiff, Nat.reduceMul, Nat.reduceLeDiff, Int.reduceBNe, Int.reduceBEq, Nat.reduceLT, reduceCtorEq, j47_bbbbbb]
  rw [I0]
  have hRc : RsOk lv u (hc.regs.map RReg.m) := by rw [e1]; exact hR
  have hDl : D.length = hr.regs.length := by
    have h1 := congrArg List.length hD
    have h2 := congrArg List.length hI.lives
    simp at h1 h2; omega
  have h4 := sk_out (h := { hr with regs := D }) (X := (kf, rowO 2 fr.length (fr.flatMap encW)) :: (kt, rowO 2 fr.length (tt.flatMap encW)) :: poolG gr q r S.u) h3
  have h5 : Holds o s3 (wsB (movedR hc fr tt) (wsH { hr with regs := D }) ((({ hr with regs := D } : RHeap).regs.take 0).flatMap (·.objs)).length ++ (skH q { hr with regs := D } ++ ((kf, rowO 2 fr.length (fr.flatMap encW)) :: (kt, rowO 2 fr.length (tt.flatMap encW)) :: poolG gr q r S.u ++ ((kl, rowO 2 L.length (L.flatMap encW)) :: (poolG true p2 r2 u ++ (hc.ch p2 ++ F)))))) := by
    unfold wsB; simpa using h4
  have hin : ∀ y ∈ hc.ch p2, y ∈ skH q { hr with regs := D } ++ ((kf, rowO 2 fr.length (fr.flatMap encW)) :: (kt, rowO 2 fr.length (tt.flatMap encW)) :: poolG gr q r S.u ++ ((kl, rowO 2 L.length (L.flatMap encW)) :: (poolG true p2 r2 u ++ (hc.ch p2 ++ F)))) :=
    fun y hy => List.mem_append_right _ (List.mem_append_right _ (List.mem_cons_of_mem _ (List.mem_append_right _ (List.mem_append_left _ hy))))
  refine w47_4 (q := q) (hr := { hr with regs := D }) (p := p2) (hc := hc) (fun x hx => List.mem_append_left _ hx) (by simp only; omega) (fun g hg => by have := (hRS.pg (List.mem_map.2 ⟨g, hg, rfl⟩)).2; simp only [RReg.m, List.length_map] at this; omega)
    (fun g hg x hx => ((hRS.inv.reg g.m (List.mem_map.2 ⟨g, hg, rfl⟩)).ws x.b (List.mem_map.2 ⟨x, hx, rfl⟩)).2.1) (hRc.rlook hin) (List.mem_append_right _ (List.mem_append_left _ (List.mem_cons_self ..))) (List.mem_append_right _ (List.mem_append_left _ (List.mem_cons_of_mem _ (List.mem_cons_self ..)))) (by omega) htl D.length 0 s3 (by simp) h5 fun s4 h6 => ?_
  have h7 : Holds o s4 ((wsH { hr with regs := D.map (mapRR (movedR hc fr tt)) }).flatMap RObj.ch ++ (skH q { hr with regs := D.map (mapRR (movedR hc fr tt)) } ++ ((kf, rowO 2 fr.length (fr.flatMap encW)) :: (kt, rowO 2 fr.length (tt.flatMap encW)) :: poolG gr q r S.u ++ ((kl, rowO 2 L.length (L.flatMap encW)) :: (poolG true p2 r2 u ++ (hc.ch p2 ++ F)))))) := by
    have e5 := skH_map q (movedR hc fr tt) { hr with regs := D }
    have e6 := wsH_map (movedR hc fr tt) { hr with regs := D }
    simp only at e5 e6
    rw [e5, e6]
    unfold wsB at h6
    rw [List.take_length, List.drop_length, List.append_nil] at h6
    exact h6
  have h8 := sk_in h7
  simp -implicitDefEqProofs only [↓GP, GB, GL, Nat.reduceAdd, Nat.reduceSub, Nat.reduceEqDiff, Nat.reduceMul, Nat.reduceLeDiff, Int.reduceBNe, Int.reduceBEq, Nat.reduceLT, reduceCtorEq, j47_bbbbbbb]
  rw [← rowV_z 0, I0]
  have h9 : Holds o s4 ((0, rowO 2 0 (((roots.take 0).map (movedR hc fr tt)).flatMap encW)) :: (RHeap.ch q { hr with regs := D.map (mapRR (movedR hc fr tt)) } ++ ((kf, rowO 2 fr.length (fr.flatMap encW)) :: (kt, rowO 2 fr.length (tt.flatMap encW)) :: poolG gr q r S.u ++ ((kl, rowO 2 L.length (L.flatMap encW)) :: (poolG true p2 r2 u ++ (hc.ch p2 ++ F)))))) := h8.nilEntry 0
  refine out47 (p := p2) (hc := hc) (hRc.rlook fun y hy => List.mem_append_right _ (List.mem_append_right _ (List.mem_cons_of_mem _ (List.mem_append_right _ (List.mem_append_left _ hy))))) (List.mem_append_right _ (List.mem_append_left _ (List.mem_cons_self ..))) (List.mem_append_right _ (List.mem_append_left _ (List.mem_cons_of_mem _ (List.mem_cons_self ..)))) (by omega) htl
    (List.mem_append_right _ (List.mem_append_right _ (List.mem_cons_of_mem _ (List.mem_append_right _ (List.mem_append_right _ hr'))))) hrl roots.length 0 0 s4 (by omega) h9 fun s5 kout h10 => ?_
  simp -implicitDefEqProofs only [↓GP, GB, GL, Nat.reduceAdd, Nat.reduceSub, Nat.reduceEqDiff, Nat.reduceMul, Nat.reduceLeDiff, Int.reduceBNe, Int.reduceBEq, Nat.reduceLT, reduceCtorEq, j47_bbbbbbbbb]
  refine k s5 (D.map (mapRR (movedR hc fr tt))) kout ?_ (fun hz0 g hg => ?_) ?_
  · rw [hcm, List.map_map, ← hD, List.map_map, hmn]
    exact List.map_congr_left fun g _ => mapRR_m _ g
  · obtain ⟨g0, m0, rfl⟩ := List.mem_map.1 hg
    exact hz hz0 g0 m0
  · rw [← hmn]
    exact (Holds.of (h10) (fun k => by simp +arith only [HA, HB]) (fun k x => by simp only [HA, HC]; grind only))
end
end Go.Proofs.Ytoldkemimhebaaa