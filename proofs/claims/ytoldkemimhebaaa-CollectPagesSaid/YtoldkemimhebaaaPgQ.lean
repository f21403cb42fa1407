/- The functions of layer 15, on the ideal machine: giving pages back, closing, resetting. -/
import Derived.Test.YtoldkemimhebaaaPgP
set_option linter.unusedSimpArgs false
set_option linter.unusedVariables false
namespace Go.Proofs.Ytoldkemimhebaaa
open Go Go.IM

-- (*virgate/page.Heap).gives
def l76_0 : IC := (.seq (.seq (.region [oa 14 (.bin .lss (.t 13) (.t 12))] (kp 46 [0,1,11,12,13,14]))
  (.seq (.cond (.t 14)
  (sk 46 [0,1,11,12,13])
  (sx 46 [1] 0))
  (.seq (.block 1
  (.seq (.region [oa 15 (.indexAddr 1 (.t 11) (.t 13)), oa 16 (.load none (.t 15)), oa 6 (.mov (.t 16))] (kp 46 [0,1,6,11,12,13]))
  (.region [oa 17 (.mov (.t 0)), oa 18 (.nilCheck (.t 17)), oa 19 (.fieldAddr 0 (.t 18)), oa 20 (.load none (.t 19)), oa 21 (.nilCheck (.t 20)), oa 22 (.fieldAddr 0 (.t 21)), oa 23 (.load none (.t 22)), oa 24 (.mov (.t 6)), oa 25 (.indexAddr 1 (.t 23) (.t 24)), ob (.store 1 (.t 25) (.c (.bool false)))] (kp 46 [0,1,11,12,13]))))
  (.region [oa 26 (.bin .add (.t 13) (ai 1)), oa 13 (.mov (.t 26))] (kp 46 [0,1,11,12,13])))))
  (sk 46 [0,1,11,12,13]))
def c76 : IFn := ⟨46, [(4, none)],
  (.seq (.region [oa 4 (.mov (ai 0))] (kp 46 [0,1]))
  (.seq (.seq (.region [oa 8 (.mov (.t 1)), oa 9 (.nilCheck (.t 8)), oa 10 (.fieldAddr 2 (.t 9)), oa 11 (.load none (.t 10)), oa 12 (.lenSlice (.t 11)), oa 13 (.mov (ai 0))] (kp 46 [0,1,11,12,13]))
  (.block 0
  (.seq (sk 46 [0,1,11,12,13])
  (.loop l76_0))))
  (.seq (.region [oa 27 (.mov (.t 1)), oa 28 (.nilCheck (.t 27)), oa 29 (.fieldAddr 2 (.t 28)), oa 30 (.load none (.t 29)), oa 31 (.lenSlice (.t 30)), oa 7 (.mov (.t 31))] (kp 46 [1,7]))
  (.seq (.region [oa 32 (.mov (.t 1)), oa 33 (.mov (.t 1)), oa 34 (.mov (.t 1)), oa 35 (.mov (.t 1)), oa 36 .mkMap, oa 37 (.nilCheck (.t 32)), oa 38 (.fieldAddr 2 (.t 37)), ob (.store 1 (.t 38) (.c (.slice none 0 (some 0)))), oa 39 (.nilCheck (.t 33)), oa 40 (.fieldAddr 3 (.t 39)), ob (.store 1 (.t 40) (ai 0)), oa 41 (.nilCheck (.t 34)), oa 42 (.fieldAddr 4 (.t 41)), ob (.store 1 (.t 42) (.c (.slice none 0 (some 0)))), oa 43 (.nilCheck (.t 35)), oa 44 (.fieldAddr 5 (.t 43)), ob (.store 1 (.t 44) (.t 36))] (kp 46 [7]))
  (.seq (.region [oa 45 (.mov (.t 7)), oa 4 (.mov (.t 45))] (kp 46 [4]))
  (sr 46 [4]))))))⟩
theorem F76 : shutF Try.prog 76 = some c76 := by kernel_rfl

-- (*virgate/page.Heap).Close

def c32 : IFn := ⟨41, [(2, none), (3, none)],
  (.seq (.region [oa 2 (.mov (ai 0)), oa 3 (.mov (ai 0))] (kp 41 [0]))
  (.seq (.block 0
  (.seq (.region [oa 7 (.mov (.t 0)), oa 8 (.call 71 [(.t 7)]), oa 6 (.mov (.t 8))] (kp 41 [0,6]))
  (.cond (.t 6)
  (.seq (.region [oa 2 (.mov (ai 0)), oa 3 (.mov (ai 6))] (kp 41 [2,3]))
  (sr 41 [2,3]))
  (.seq (.region [oa 10 (.mov (.t 0)), oa 11 (.nilCheck (.t 10)), oa 12 (.fieldAddr 1 (.t 11)), oa 13 (.load none (.t 12)), oa 14 (.lenSlice (.t 13)), oa 15 (.bin .eql (.t 14) (ai 1)), oa 9 (.mov (.t 15))] (kp 41 [0,9]))
  (.cond (.t 9)
  (.seq (.region [oa 2 (.mov (ai 0)), oa 3 (.mov (ai 5))] (kp 41 [2,3]))
  (sr 41 [2,3]))
  (sk 41 [0]))))))
  (.seq (.region [oa 16 (.mov (.t 0)), oa 17 (.nilCheck (.t 16)), oa 18 (.fieldAddr 1 (.t 17)), oa 19 (.load none (.t 18)), oa 20 (.lenSlice (.t 19)), oa 21 (.bin .sub (.t 20) (ai 1)), oa 4 (.mov (.t 21))] (kp 41 [0,4]))
  (.seq (.region [oa 22 (.mov (.t 0)), oa 23 (.mov (.t 0)), oa 24 (.nilCheck (.t 23)), oa 25 (.fieldAddr 1 (.t 24)), oa 26 (.load none (.t 25)), oa 27 (.mov (.t 4)), oa 28 (.indexAddr 1 (.t 26) (.t 27)), oa 29 (.load none (.t 28)), oa 30 (.call 76 [(.t 22), (.t 29)]), oa 5 (.mov (.t 30))] (kp 41 [0,4,5]))
  (.seq (.region [oa 31 (.mov (.t 0)), oa 32 (.mov (.t 0)), oa 33 (.nilCheck (.t 32)), oa 34 (.fieldAddr 1 (.t 33)), oa 35 (.load none (.t 34)), oa 36 (.mov (.t 4)), oa 37 (.slice 1 (.t 35) none (some (.t 36)) none), oa 38 (.nilCheck (.t 31)), oa 39 (.fieldAddr 1 (.t 38)), ob (.store 1 (.t 39) (.t 37))] (kp 41 [5]))
  (.seq (.region [oa 40 (.mov (.t 5)), oa 2 (.mov (.t 40)), oa 3 (.mov (ai 0))] (kp 41 [2,3]))
  (sr 41 [2,3])))))))⟩
theorem F32 : shutF Try.prog 32 = some c32 := by kernel_rfl

-- (*virgate/page.Heap).Reset

def c31 : IFn := ⟨47, [(4, none), (5, none)],
  (.seq (.region [oa 4 (.mov (ai 0)), oa 5 (.mov (ai 0))] (kp 47 [0,1]))
  (.seq (.region [oa 9 (.mov (.t 0)), oa 10 (.mov (.t 1)), oa 11 (.call 72 [(.t 9), (.t 10)]), oa 8 (.mov (.t 11)), oa 12 (.extract (.t 8) 0), oa 13 (.extract (.t 8) 1), oa 6 (.mov (.t 12)), oa 7 (.mov (.t 13))] (kp 47 [0,6,7]))
  (.seq (.seq (.region [oa 14 (.mov (.t 7)), oa 15 (.bin .eql (.t 14) (ai 0)), oa 16 (.mov (.t 15)), oc 17 (.mov (.t 0)) 16 tt, oc 18 (.nilCheck (.t 17)) 16 tt, oc 19 (.fieldAddr 2 (.t 18)) 16 tt, oc 20 (.load none (.t 19)) 16 tt, oc 21 (.bin .geq (.t 20) (ai 100000)) 16 tt, oa 22 (.pick (.t 16) (.t 21) (.c (.bool false)))] (kp 47 [0,6,7,22]))
  (.cond (.t 22)
  (.region [oa 7 (.mov (ai 4))] (kp 47 [0,6,7]))
  (sk 47 [0,6,7])))
  (.seq (.seq (.region [oa 23 (.mov (.t 7)), oa 24 (.bin .neq (.t 23) (ai 0))] (kp 47 [0,6,7,24]))
  (.cond (.t 24)
  (.seq (.region [oa 25 (.mov (.t 7)), oa 4 (.mov (ai 0)), oa 5 (.mov (.t 25))] (kp 47 [4,5]))
  (sr 47 [4,5]))
  (sk 47 [0,6])))
  (.seq (.region [oa 26 (.mov (.t 0)), oa 27 (.mov (.t 6)), oa 28 (.call 76 [(.t 26), (.t 27)])] (kp 47 [0,6]))
  (.seq (.region [oa 29 (.mov (.t 0)), oa 30 (.nilCheck (.t 29)), oa 31 (.fieldAddr 2 (.t 30)), oa 32 (.load none (.t 31)), oa 33 (.bin .add (.t 32) (ai 1)), oa 34 (.nilCheck (.t 29)), oa 35 (.fieldAddr 2 (.t 34)), ob (.store 1 (.t 35) (.t 33))] (kp 47 [0,6]))
  (.seq (.region [oa 36 (.mov (.t 6)), oa 37 (.mov (.t 0)), oa 38 (.nilCheck (.t 37)), oa 39 (.fieldAddr 2 (.t 38)), oa 40 (.load none (.t 39)), oa 41 (.nilCheck (.t 36)), oa 42 (.fieldAddr 0 (.t 41)), ob (.store 1 (.t 42) (.t 40))] (kp 47 [6]))
  (.seq (.region [oa 43 (.mov (.t 6)), oa 44 (.nilCheck (.t 43)), oa 45 (.fieldAddr 0 (.t 44)), oa 46 (.load none (.t 45)), oa 4 (.mov (.t 46)), oa 5 (.mov (ai 0))] (kp 47 [4,5]))
  (sr 47 [4,5])))))))))⟩
theorem F31 : shutF Try.prog 31 = some c31 := by kernel_rfl

-- (*virgate/page.Heap).Drop
def l33_0 : IC := (.seq (.seq (.region [oa 12 (.bin .lss (.t 11) (.t 10))] (kp 25 [0,9,10,11,12]))
  (.seq (.cond (.t 12)
  (sk 25 [0,9,10,11])
  (sx 25 [0] 0))
  (.seq (.block 1
  (.seq (.region [oa 13 (.indexAddr 1 (.t 9) (.t 11)), oa 14 (.load none (.t 13)), oa 3 (.mov (.t 14))] (kp 25 [0,3,9,10,11]))
  (.region [oa 15 (.mov (.t 0)), oa 16 (.mov (.t 3)), oa 17 (.call 76 [(.t 15), (.t 16)])] (kp 25 [0,9,10,11]))))
  (.region [oa 18 (.bin .add (.t 11) (ai 1)), oa 11 (.mov (.t 18))] (kp 25 [0,9,10,11])))))
  (sk 25 [0,9,10,11]))
def c33 : IFn := ⟨25, [],
  (.seq (.seq (.region [oa 4 (.mov (.t 0)), oa 5 (.call 71 [(.t 4)])] (kp 25 [0,5]))
  (.cond (.t 5)
  (sr 25 [])
  (sk 25 [0])))
  (.seq (.seq (.region [oa 6 (.mov (.t 0)), oa 7 (.nilCheck (.t 6)), oa 8 (.fieldAddr 1 (.t 7)), oa 9 (.load none (.t 8)), oa 10 (.lenSlice (.t 9)), oa 11 (.mov (ai 0))] (kp 25 [0,9,10,11]))
  (.block 0
  (.seq (sk 25 [0,9,10,11])
  (.loop l33_0))))
  (.region [oa 19 (.mov (.t 0)), oa 20 (.mov (.t 0)), oa 21 (.nilCheck (.t 19)), oa 22 (.fieldAddr 0 (.t 21)), ob (.store 1 (.t 22) (.c (.ptr none))), oa 23 (.nilCheck (.t 20)), oa 24 (.fieldAddr 1 (.t 23)), ob (.store 1 (.t 24) (.c (.slice none 0 (some 0))))] (kp 25 []))))⟩
theorem F33 : shutF Try.prog 33 = some c33 := by kernel_rfl


section
variable {o : Nat → Option O} {s : St} {C F : Ch} {Q : V → St → Prop}
set_option maxRecDepth 10000

theorem pages_get {l : List Nat} {i : Nat} (h : i < l.length) : (l.map fun n : Nat => I n)[i]? = some (I l[i]) := by simp [h]

theorem gives_loop {h p r pgk : Nat} {pages : List Nat} {c d gp : V} {K : Kt} (mh : (h, some (.cells [ptrN p, c, d] none)) ∈ C) (mp : (pgk, pagesO pages) ∈ C) (hpl : pages.length ≤ 400) :
    ∀ (m i : Nat) (u : List Bool) (s : St), i + m = pages.length → u.length ≤ 400 → (∀ x ∈ pages, x < u.length) → Holds o s (poolC p r u ++ C) →
    (∀ s', Holds o s' (poolC p r (freeP u (pages.drop i)) ++ C) → WP (K (.exit 0) (sp 46 [(1, gp)]) s') Q) →
    WP (loop PF (.loop l76_0) (sp 46 [(0, ptrN h), (1, gp), (11, rowV pgk pages.length), (12, I pages.length), (13, I i)]) s K) Q
  | 0, i, u, s, hi, hu, hx, H, q => by
    have hlt : ¬ ((i : Int) < (pages.length : Int)) := by omega
    refine wp_round fun LL hLL => ?_
    simp -implicitDefEqProofs only [↓GP, GB, GL, Nat.reduceAdd, Nat.reduceSub, Nat.reduceEqDiff, Nat.reduceMul, Nat.reduceLeDiff, Int.reduceBNe, Int.reduceBEq, Nat.reduceLT, reduceCtorEq, l76_0, hlt]
    refine q _ ?_
    rw [List.drop_eq_nil_of_le (by omega)]
    exact H
  | m + 1, i, u, s, hi, hu, hx, H, q => by
    have hlt : ((i : Int) < (pages.length : Int)) := by omega
    have hi' : i < pages.length := by omega
    have fh := H.mem (List.mem_append_right _ mh)
    rw [pagesO, rowO_pos (by omega)] at mp
    have fp := H.mem (List.mem_append_right _ mp)
    have f := Holds.f2 H
    have hpi : pages[i] < u.length := hx _ (List.getElem_mem hi')
    have hl : pages[i] < (u.map V.bool).length := by simpa using hpi
    have hw := wrap_add1 (a := i) (by omega)
    refine wp_round fun LL hLL => ?_
    simp -implicitDefEqProofs only [↓GP, GB, GL, Nat.reduceAdd, Nat.reduceSub, Nat.reduceEqDiff, Nat.reduceMul, Nat.reduceLeDiff, Int.reduceBNe, Int.reduceBEq, Nat.reduceLT, reduceCtorEq, l76_0, hlt, ix_row hi', fp, fh, f, pages_get hi', ix_cell hpi, hl, set_map, hw]
    rw [hLL]
    refine gives_loop (r := r) mh (by rw [pagesO, rowO_pos (by omega)]; exact mp) hpl m (i + 1) (u.set pages[i] false) _ (by omega) (by simpa using hu) (by simpa using hx) ?_ fun s' h' => q s' ?_
    · have := Holds.set1 H (.cells ((u.set pages[i] false).map .bool) none)
      simpa [poolC] using this
    · rw [List.drop_eq_getElem_cons hi']; exact h'

theorem s76 {h p r : Nat} {u : List Bool} {c d : V} {g : PReg} (H : Holds o s (poolC p r u ++ (g.ch ++ F))) (hu : u.length ≤ 400) (mh : (h, some (.cells [ptrN p, c, d] none)) ∈ F)
    (hp : ∀ x ∈ g.pages, x < u.length) (hpl : g.pages.length ≤ 400)
    (q : ∀ s' k, Holds o s' (poolC p r (freeP u g.pages) ++ (({ g with fill := 0, pages := [], objs := [], plk := k, pl := .map [] 0 } : PReg).ch ++ (g.objs.flatMap PObj.ch ++ F))) → Q (I g.pages.length) s') :
    WP (call PF 76 [ptrN h, ptrN g.id] s) Q := by
  have f := H.mem (List.mem_append_right _ (List.mem_append_left _ (List.mem_cons_self ..)))
  rw [call_run F76]; simp -implicitDefEqProofs only [↓GP, GB, GL, Nat.reduceAdd, Nat.reduceSub, Nat.reduceEqDiff, Nat.reduceMul, Nat.reduceLeDiff, Int.reduceBNe, Int.reduceBEq, Nat.reduceLT, reduceCtorEq, c76, f, PReg.hd]
  refine gives_loop (List.mem_append_right _ mh) (List.mem_append_left _ (List.mem_cons_of_mem _ (List.mem_cons_self ..))) hpl g.pages.length 0 u s (by omega) hu hp H fun s1 h1 => ?_
  rw [List.drop_zero] at h1
  have f := h1.mem (List.mem_append_right _ (List.mem_append_left _ (List.mem_cons_self ..)))
  simp -implicitDefEqProofs only [↓GP, GB, GL, Nat.reduceAdd, Nat.reduceSub, Nat.reduceEqDiff, Nat.reduceMul, Nat.reduceLeDiff, Int.reduceBNe, Int.reduceBEq, Nat.reduceLT, reduceCtorEq, f, PReg.hd]
  refine q _ s1.next ?_
  have h2 := ((((h1.alloc (.map [] 0)).set3 (.cells [I g.life, I g.size, .slice none 0 (some 0), I g.fill, rowV g.obk g.objs.length, .map (some (.new g.plk))] none)).set3
    (.cells [I g.life, I g.size, .slice none 0 (some 0), I 0, rowV g.obk g.objs.length, .map (some (.new g.plk))] none)).set3
    (.cells [I g.life, I g.size, .slice none 0 (some 0), I 0, .slice none 0 (some 0), .map (some (.new g.plk))] none)).set3
    (.cells [I g.life, I g.size, .slice none 0 (some 0), I 0, .slice none 0 (some 0), .map (some (.new s1.next))] none)
  exact (Holds.of (h2) (fun k => by simp +arith only [PReg.hd, rowV_zero, List.length_nil, Int.natCast_zero, HA, HB]) (fun k x => by simp only [PReg.hd, rowV_zero, List.length_nil, Int.natCast_zero, HA, HC]; grind only))

theorem s32_gone (hC : Holds o s C) {hv : V} (g : Gone C hv) : call PF 32 [hv] s = some (.tuple [I 0, I 6], s) := by
  have e := s71_gone hC g
  rw [call_run F32]; simp -implicitDefEqProofs only [↓GP, GB, GL, Nat.reduceAdd, Nat.reduceSub, Nat.reduceEqDiff, Nat.reduceMul, Nat.reduceLeDiff, Int.reduceBNe, Int.reduceBEq, Nat.reduceLT, reduceCtorEq, c32, e]
theorem s32_one (hC : Holds o s C) {hp : PHeap} {p : Nat} (m1 : (hp.id, some (hp.hd p)) ∈ C) (h1 : hp.regs.length = 1) : call PF 32 [ptrN hp.id] s = some (.tuple [I 0, I 5], s) := by
  have f := hC.mem m1
  unfold PHeap.hd at f
  have e := s71 f.1
  rw [call_run F32]; simp -implicitDefEqProofs only [↓GP, GB, GL, Nat.reduceAdd, Nat.reduceSub, Nat.reduceEqDiff, Nat.reduceMul, Nat.reduceLeDiff, Int.reduceBNe, Int.reduceBEq, Nat.reduceLT, reduceCtorEq, c32, e, f, h1, Int.cast_ofNat_Int]
theorem s32 {hp : PHeap} {p r : Nat} {u : List Bool} {A : List PReg} {g : PReg} (H : Holds o s (poolC p r u ++ (hp.ch p ++ F))) (hr : hp.regs = A ++ [g]) (hA : A ≠ []) (hlen : hp.regs.length ≤ 100000) (hu : u.length ≤ 400)
    (hp' : ∀ x ∈ g.pages, x < u.length) (hpl : g.pages.length ≤ 400)
    (q : ∀ s', Holds o s' (poolC p r (freeP u g.pages) ++ (({ hp with regs := A, sl := ptrN g.id :: hp.sl } : PHeap).ch p ++ F)) → Q (.tuple [I g.pages.length, I 0]) s') : WP (call PF 32 [ptrN hp.id] s) Q := by
  obtain ⟨id, rk, lives, regs, sl⟩ := hp
  simp only at hr
  subst hr
  have hApos : 0 < A.length := List.length_pos_iff.2 hA
  simp only [List.length_append, List.length_cons, List.length_nil] at hlen
  have hrow : PHeap.row ⟨id, rk, lives, A ++ [g], sl⟩ = some (.cells (A.map (fun r => ptrN r.id) ++ ptrN g.id :: sl) (some 1)) := by
    unfold PHeap.row; rw [rowO_pos (by simp)]; simp
  have hrow' : PHeap.row ⟨id, rk, lives, A, ptrN g.id :: sl⟩ = some (.cells (A.map (fun r => ptrN r.id) ++ ptrN g.id :: sl) (some 1)) := by
    unfold PHeap.row; rw [rowO_pos hApos]
  have hw : wrapI .i64 (((A.length + 1 : Nat) : Int) - 1) = I (A.length : Nat) := by rw [wrap_sub1 (by omega) (by omega)]; rfl
  have hne : (((A.length + 1 : Nat) : Int) == 1) = false := by simp; omega
  have H1 : Holds o s ((id, some (.cells [ptrN p, rowV rk (A.length + 1), I lives] none)) :: (rk, some (.cells (A.map (fun r => ptrN r.id) ++ ptrN g.id :: sl) (some 1))) :: (poolC p r u ++ (g.ch ++ (A.flatMap PReg.ch ++ F)))) := (Holds.of (H) (fun k => by simp +arith only [hrow, PHeap.hd, List.length_append, List.length_cons, List.length_nil, Nat.zero_add, HA, HB]) (fun k x => by simp only [hrow, PHeap.hd, List.length_append, List.length_cons, List.length_nil, Nat.zero_add, HA, HC]; grind only))
  have f := H1.f2
  have e := s71 f.1.1
  have hg : (A.map (fun r => ptrN r.id) ++ ptrN g.id :: sl)[A.length]? = some (ptrN g.id) := by simp
  rw [call_run F32]; simp -implicitDefEqProofs only [↓GP, GB, GL, Nat.reduceAdd, Nat.reduceSub, Nat.reduceEqDiff, Nat.reduceMul, Nat.reduceLeDiff, Int.reduceBNe, Int.reduceBEq, Nat.reduceLT, reduceCtorEq, c32, e, f, hne, hw, ix_row (show A.length < A.length + 1 by omega), hg]
  refine wp_in (s76 (r := r) (u := u) (g := g) (F := (id, some (.cells [ptrN p, rowV rk (A.length + 1), I lives] none)) :: (rk, some (.cells (A.map (fun r => ptrN r.id) ++ ptrN g.id :: sl) (some 1))) :: (A.flatMap PReg.ch ++ F)) (Holds.of (H1) (fun k => by simp +arith only [HA, HB]) (fun k x => by simp only [HA, HC]; grind only)) hu (List.mem_cons_self ..) hp' hpl fun s1 k h1 => ?_)
  have h2 : Holds o s1 ((id, some (.cells [ptrN p, rowV rk (A.length + 1), I lives] none)) :: (rk, some (.cells (A.map (fun r => ptrN r.id) ++ ptrN g.id :: sl) (some 1))) :: (poolC p r (freeP u g.pages) ++ (A.flatMap PReg.ch ++ F))) := (Holds.of (h1) (fun k => by simp +arith only [HA, HB]) (fun k x => by simp only [HA, HC]; grind only))
  have f := h2.f2
  simp -implicitDefEqProofs only [↓GP, GB, GL, Nat.reduceAdd, Nat.reduceSub, Nat.reduceEqDiff, Nat.reduceMul, Nat.reduceLeDiff, Int.reduceBNe, Int.reduceBEq, Nat.reduceLT, reduceCtorEq, f, slice_row hApos (show A.length ≤ A.length + 1 by omega), Option.map_none]
  refine q _ ?_
  have h3 := h2.set0 (.cells [ptrN p, rowV rk A.length, I lives] none)
  exact (Holds.of (h3) (fun k => by simp +arith only [hrow', PHeap.hd, HA, HB]) (fun k x => by simp only [hrow', PHeap.hd, HA, HC]; grind only))

theorem s31_err (hC : Holds o s C) {hv : V} {n err : Int} (e : AtErr C hv n err) (hone : hv.one = true) (hcl : hv.cells = [hv]) (q : ∀ s', Holds o s' C → Q (.tuple [I 0, I err]) s') : WP (call PF 31 [hv, I n] s) Q := by
  rw [call_run F31]; simp -implicitDefEqProofs only [↓GP, GB, GL, Nat.reduceAdd, Nat.reduceSub, Nat.reduceEqDiff, Nat.reduceMul, Nat.reduceLeDiff, Int.reduceBNe, Int.reduceBEq, Nat.reduceLT, reduceCtorEq, c31]
  refine wp_in (s72_err hC e hone hcl fun s1 h1 => ?_)
  rcases e.ne with rfl | rfl
  · simp -implicitDefEqProofs only [↓GP, GB, GL, Nat.reduceAdd, Nat.reduceSub, Nat.reduceEqDiff, Nat.reduceMul, Nat.reduceLeDiff, Int.reduceBNe, Int.reduceBEq, Nat.reduceLT, reduceCtorEq, Int.reduceBEq, Int.reduceBNe]
    exact q _ h1
  · simp -implicitDefEqProofs only [↓GP, GB, GL, Nat.reduceAdd, Nat.reduceSub, Nat.reduceEqDiff, Nat.reduceMul, Nat.reduceLeDiff, Int.reduceBNe, Int.reduceBEq, Nat.reduceLT, reduceCtorEq, Int.reduceBEq, Int.reduceBNe]
    exact q _ h1

theorem s31_full (hC : Holds o s C) {hp : PHeap} {p i : Nat} (m1 : (hp.id, some (hp.hd p)) ∈ C) (m2 : (hp.rowk, hp.row) ∈ C) (hlen : hp.regs.length < 2 ^ 62) {r : PReg} (hr : hp.regs[i]? = some r) (hl : 100000 ≤ hp.lives)
    (q : ∀ s', Holds o s' C → Q (.tuple [I 0, I 4]) s') : WP (call PF 31 [ptrN hp.id, I i] s) Q := by
  rw [call_run F31]; simp -implicitDefEqProofs only [↓GP, GB, GL, Nat.reduceAdd, Nat.reduceSub, Nat.reduceEqDiff, Nat.reduceMul, Nat.reduceLeDiff, Int.reduceBNe, Int.reduceBEq, Nat.reduceLT, reduceCtorEq, c31]
  refine wp_in (s72 hC m1 m2 hlen hr fun s1 h1 => ?_)
  have f := h1.mem m1
  unfold PHeap.hd at f
  have h0 : ((hp.lives : Int) ≥ 100000) := by omega
  simp -implicitDefEqProofs only [↓GP, GB, GL, Nat.reduceAdd, Nat.reduceSub, Nat.reduceEqDiff, Nat.reduceMul, Nat.reduceLeDiff, Int.reduceBNe, Int.reduceBEq, Nat.reduceLT, reduceCtorEq, f, h0, Int.reduceBNe]
  exact q _ h1

theorem s31 {hp : PHeap} {p r : Nat} {u : List Bool} {A B : List PReg} {g : PReg} (H : Holds o s (poolC p r u ++ (hp.ch p ++ F))) (hr : hp.regs = A ++ g :: B) (hlen : hp.regs.length ≤ 100000) (hu : u.length ≤ 400)
    (hp' : ∀ x ∈ g.pages, x < u.length) (hpl : g.pages.length ≤ 400) (hl : hp.lives < 100000)
    (q : ∀ s' k, Holds o s' (poolC p r (freeP u g.pages) ++ (({ hp with lives := hp.lives + 1, regs := A ++ { g with life := hp.lives + 1, fill := 0, pages := [], objs := [], plk := k, pl := .map [] 0 } :: B } : PHeap).ch p ++ F)) →
      Q (.tuple [I (hp.lives + 1 : Nat), I 0]) s') : WP (call PF 31 [ptrN hp.id, I A.length] s) Q := by
  obtain ⟨id, rk, lives, regs, sl⟩ := hp
  simp only at hr
  subst hr
  rw [call_run F31]; simp -implicitDefEqProofs only [↓GP, GB, GL, Nat.reduceAdd, Nat.reduceSub, Nat.reduceEqDiff, Nat.reduceMul, Nat.reduceLeDiff, Int.reduceBNe, Int.reduceBEq, Nat.reduceLT, reduceCtorEq, c31]
  refine wp_in (s72 (hp := ⟨id, rk, lives, A ++ g :: B, sl⟩) (r := g) (p := p) H (by simp [PHeap.ch]) (by simp [PHeap.ch]) (by simp only at hlen ⊢; omega) (by simp) fun s1 h1 => ?_)
  have f := h1.mem (k := id) (x := PHeap.hd p ⟨id, rk, lives, A ++ g :: B, sl⟩) (by simp [PHeap.ch])
  unfold PHeap.hd at f
  simp only at hl hlen
  have h0 : ¬ ((lives : Int) ≥ 100000) := by omega
  simp -implicitDefEqProofs only [↓GP, GB, GL, Nat.reduceAdd, Nat.reduceSub, Nat.reduceEqDiff, Nat.reduceMul, Nat.reduceLeDiff, Int.reduceBNe, Int.reduceBEq, Nat.reduceLT, reduceCtorEq, f, h0, Int.reduceBNe]
  refine wp_in (s76 (r := r) (u := u) (g := g) (F := (id, some (PHeap.hd p ⟨id, rk, lives, A ++ g :: B, sl⟩)) :: (rk, PHeap.row ⟨id, rk, lives, A ++ g :: B, sl⟩) :: (A.flatMap PReg.ch ++ (B.flatMap PReg.ch ++ F))) (Holds.of (h1) (fun k => by simp +arith only [HA, HB]) (fun k x => by simp only [HA, HC]; grind only)) hu (List.mem_cons_self ..) hp' hpl fun s2 k h2 => ?_)
  have h3 : Holds o s2 ((id, some (.cells [ptrN p, rowV rk (A.length + (B.length + 1)), I lives] none)) :: (g.id, some (.cells [I g.life, I g.size, .slice none 0 (some 0), I 0, .slice none 0 (some 0), .map (some (.new k))] none)) ::
    (poolC p r (freeP u g.pages) ++ ((rk, PHeap.row ⟨id, rk, lives, A ++ g :: B, sl⟩) :: (k, some (.map [] 0)) :: (A.flatMap PReg.ch ++ (B.flatMap PReg.ch ++ F))))) := (Holds.of (h2) (fun k => by simp +arith only [PHeap.hd, PReg.hd, rowV_zero, List.length_nil, Int.natCast_zero, List.length_append, List.length_cons, HA, HB]) (fun k x => by simp only [PHeap.hd, PReg.hd, rowV_zero, List.length_nil, Int.natCast_zero, List.length_append, List.length_cons, HA, HC]; grind only))
  have f := h3.f2
  simp -implicitDefEqProofs only [↓GP, GB, GL, Nat.reduceAdd, Nat.reduceSub, Nat.reduceEqDiff, Nat.reduceMul, Nat.reduceLeDiff, Int.reduceBNe, Int.reduceBEq, Nat.reduceLT, reduceCtorEq, f, wrap_add1 (show lives < 2 ^ 62 by omega)]
  refine q _ k ?_
  have h4 := (h3.set0 (.cells [ptrN p, rowV rk (A.length + (B.length + 1)), I (lives + 1 : Nat)] none)).set1 (.cells [I (lives + 1 : Nat), I g.size, .slice none 0 (some 0), I 0, .slice none 0 (some 0), .map (some (.new k))] none)
  exact (Holds.of (h4) (fun k => by simp +arith only [PHeap.hd, PReg.hd, PHeap.row, rowV_zero, List.length_nil, Int.natCast_zero, List.length_append, List.length_cons, List.map_append, List.map_cons, HA, HB]) (fun k x => by simp only [PHeap.hd, PReg.hd, PHeap.row, rowV_zero, List.length_nil, Int.natCast_zero, List.length_append, List.length_cons, List.map_append, List.map_cons, HA, HC]; grind only))

/-- All pages of all regions given back. -/
def freeAll (u : List Bool) (l : List (List Nat)) : List Bool := l.foldl freeP u
theorem drop_loop {h p r rk : Nat} {rs : List PReg} {sl : List V} {c d : V} {K : Kt} (mh : (h, some (.cells [ptrN p, c, d] none)) ∈ C) (mr : (rk, some (.cells (rs.map (fun r => ptrN r.id) ++ sl) (some 1))) ∈ C) (hn : rs.length ≤ 100000) :
    ∀ (m i : Nat) (u : List Bool) (s : St), i + m = rs.length → u.length ≤ 400 → (∀ g ∈ rs, (∀ x ∈ g.pages, x < u.length) ∧ g.pages.length ≤ 400) → Holds o s (poolC p r u ++ ((rs.drop i).flatMap PReg.ch ++ C)) →
    (∀ s', Holds o s' (poolC p r (freeAll u ((rs.drop i).map (·.pages))) ++ C) → WP (K (.exit 0) (sp 25 [(0, ptrN h)]) s') Q) →
    WP (loop PF (.loop l33_0) (sp 25 [(0, ptrN h), (9, rowV rk rs.length), (10, I rs.length), (11, I i)]) s K) Q
  | 0, i, u, s, hi, hu, hx, H, q => by
    have hlt : ¬ ((i : Int) < (rs.length : Int)) := by omega
    refine wp_round fun LL hLL => ?_
    simp -implicitDefEqProofs only [↓GP, GB, GL, Nat.reduceAdd, Nat.reduceSub, Nat.reduceEqDiff, Nat.reduceMul, Nat.reduceLeDiff, Int.reduceBNe, Int.reduceBEq, Nat.reduceLT, reduceCtorEq, l33_0, hlt]
    refine q _ ?_
    rw [List.drop_eq_nil_of_le (by omega)] at H ⊢
    exact H
  | m + 1, i, u, s, hi, hu, hx, H, q => by
    have hlt : ((i : Int) < (rs.length : Int)) := by omega
    have hi' : i < rs.length := by omega
    have hd : rs.drop i = rs[i] :: rs.drop (i + 1) := List.drop_eq_getElem_cons hi'
    have fr := H.mem (List.mem_append_right _ (List.mem_append_right _ mr))
    have hg : (rs.map (fun r => ptrN r.id) ++ sl)[i]? = some (ptrN rs[i].id) := by rw [List.getElem?_append_left (by simpa using hi')]; simp [hi']
    have hx' := hx rs[i] (List.getElem_mem hi')
    rw [hd] at H
    refine wp_round fun LL hLL => ?_
    simp -implicitDefEqProofs only [↓GP, GB, GL, Nat.reduceAdd, Nat.reduceSub, Nat.reduceEqDiff, Nat.reduceMul, Nat.reduceLeDiff, Int.reduceBNe, Int.reduceBEq, Nat.reduceLT, reduceCtorEq, l33_0, hlt, ix_row hi', fr, hg]
    refine wp_in (s76 (r := r) (u := u) (g := rs[i]) (F := (rs.drop (i + 1)).flatMap PReg.ch ++ C) (Holds.of (H) (fun k => by simp +arith only [HA, HB]) (fun k x => by simp only [HA, HC]; grind only)) hu (List.mem_append_right _ mh) hx'.1 hx'.2 fun s1 k h1 => ?_)
    simp -implicitDefEqProofs only [↓GP, GB, GL, Nat.reduceAdd, Nat.reduceSub, Nat.reduceEqDiff, Nat.reduceMul, Nat.reduceLeDiff, Int.reduceBNe, Int.reduceBEq, Nat.reduceLT, reduceCtorEq, wrap_add1 (show i < 2 ^ 62 by omega)]
    rw [hLL]
    refine drop_loop (r := r) mh mr hn m (i + 1) (freeP u rs[i].pages) _ (by omega) (by rw [freeP_len]; exact hu) (by rw [freeP_len]; exact hx) (Holds.of (h1) (fun k => by simp +arith only [HA, HB]) (fun k x => by simp only [HA, HC]; grind only)) fun s' h' => q s' ?_
    rw [hd]; exact h'

theorem s33_gone (hC : Holds o s C) {hv : V} (g : Gone C hv) : call PF 33 [hv] s = some (.tuple [], s) := by
  have e := s71_gone hC g
  rw [call_run F33]; simp -implicitDefEqProofs only [↓GP, GB, GL, Nat.reduceAdd, Nat.reduceSub, Nat.reduceEqDiff, Nat.reduceMul, Nat.reduceLeDiff, Int.reduceBNe, Int.reduceBEq, Nat.reduceLT, reduceCtorEq, c33, e]
theorem s33 {hp : PHeap} {p r : Nat} {u : List Bool} (H : Holds o s (poolC p r u ++ (hp.ch p ++ F))) (h0 : hp.regs ≠ []) (hlen : hp.regs.length ≤ 100000) (hu : u.length ≤ 400)
    (hx : ∀ g ∈ hp.regs, (∀ x ∈ g.pages, x < u.length) ∧ g.pages.length ≤ 400)
    (q : ∀ s', Holds o s' (poolC p r (freeAll u (hp.regs.map (·.pages))) ++ ((hp.id, some (.cells [.ptr none, .slice none 0 (some 0), I hp.lives] none)) :: F)) → Q (.tuple []) s') : WP (call PF 33 [ptrN hp.id] s) Q := by
  have hrow : hp.row = some (.cells (hp.regs.map (fun r => ptrN r.id) ++ hp.sl) (some 1)) := by unfold PHeap.row; rw [rowO_pos (List.length_pos_iff.2 h0)]
  have H1 : Holds o s (poolC p r u ++ (hp.regs.flatMap PReg.ch ++ ((hp.id, some (.cells [ptrN p, rowV hp.rowk hp.regs.length, I hp.lives] none)) :: (hp.rowk, some (.cells (hp.regs.map (fun r => ptrN r.id) ++ hp.sl) (some 1))) :: F))) := (Holds.of (H) (fun k => by simp +arith only [hrow, PHeap.hd, HA, HB]) (fun k x => by simp only [hrow, PHeap.hd, HA, HC]; grind only))
  have f := H1.mem (k := hp.id) (x := .cells [ptrN p, rowV hp.rowk hp.regs.length, I hp.lives] none) (by simp)
  have e := s71 f.1
  rw [call_run F33]; simp -implicitDefEqProofs only [↓GP, GB, GL, Nat.reduceAdd, Nat.reduceSub, Nat.reduceEqDiff, Nat.reduceMul, Nat.reduceLeDiff, Int.reduceBNe, Int.reduceBEq, Nat.reduceLT, reduceCtorEq, c33, e, f]
  refine drop_loop (r := r) (p := p) (sl := hp.sl) (C := (hp.id, some (.cells [ptrN p, rowV hp.rowk hp.regs.length, I hp.lives] none)) :: (hp.rowk, some (.cells (hp.regs.map (fun r => ptrN r.id) ++ hp.sl) (some 1))) :: F) (List.mem_cons_self ..) (List.mem_cons_of_mem _ (List.mem_cons_self ..)) hlen hp.regs.length 0 u s (by omega) hu hx (by rw [List.drop_zero]; exact H1) fun s1 h1 => ?_
  rw [List.drop_zero] at h1
  have h2 : Holds o s1 ((hp.id, some (.cells [ptrN p, rowV hp.rowk hp.regs.length, I hp.lives] none)) :: (poolC p r (freeAll u (hp.regs.map (·.pages))) ++ F)) := (Holds.of (h1) (fun k => by simp +arith only [HA, HB]) (fun k x => by simp only [HA, HC]; grind only))
  simp -implicitDefEqProofs only [↓GP, GB, GL, Nat.reduceAdd, Nat.reduceSub, Nat.reduceEqDiff, Nat.reduceMul, Nat.reduceLeDiff, Int.reduceBNe, Int.reduceBEq, Nat.reduceLT, reduceCtorEq, h2.f1]
  refine q _ ?_
  have h3 := (h2.set0 (.cells [.ptr none, rowV hp.rowk hp.regs.length, I hp.lives] none)).set0 (.cells [.ptr none, .slice none 0 (some 0), I hp.lives] none)
  exact (Holds.of (h3) (fun k => by simp +arith only [HA, HB]) (fun k x => by simp only [HA, HC]; grind only))
end
end Go.Proofs.Ytoldkemimhebaaa
