/- Layer 15: pairs of heaps; comparing lists; the word that an act is about. -/
import Derived.Test.YtoldkemimhebaaaPgM
set_option linter.unusedSimpArgs false
set_option linter.unusedVariables false
namespace Go.Proofs.Ytoldkemimhebaaa
open Go Go.IM

-- virgate/virgateref15.SameWords
def l48_0 : IC := (.seq (.seq (.seq (.region [oa 11 (.mov (.t 5)), oa 12 (.mov (.t 0)), oa 13 (.lenSlice (.t 12)), oa 14 (.bin .lss (.t 11) (.t 13))] (kp 26 [0,1,5,14]))
  (.cond (.t 14)
  (sk 26 [0,1,5])
  (sx 26 [] 0)))
  (.seq (.block 1
  (.seq (.region [oa 17 (.mov (.t 0)), oa 18 (.mov (.t 5)), oa 19 (.indexAddr 2 (.t 17) (.t 18)), oa 20 (.load (some 2) (.t 19)), oa 21 (.mov (.t 1)), oa 22 (.mov (.t 5)), oa 23 (.indexAddr 2 (.t 21) (.t 22)), oa 24 (.load (some 2) (.t 23)), oa 25 (.eql true (.key (.agg [.i, .i])) (.t 20) (.t 24))] (kp 26 [0,1,5,25]))
  (.cond (.t 25)
  (.seq (.region [oa 4 (.mov (.c (.bool false)))] (kp 26 [4]))
  (sr 26 [4]))
  (sk 26 [0,1,5]))))
  (.region [oa 15 (.mov (.t 5)), oa 16 (.bin .add (.t 15) (ai 1)), oa 5 (.mov (.t 16))] (kp 26 [0,1,5]))))
  (sk 26 [0,1,5]))
def c48 : IFn := ⟨26, [(4, none)],
  (.seq (.region [oa 4 (.mov (.c (.bool false)))] (kp 26 [0,1]))
  (.seq (.seq (.region [oa 6 (.mov (.t 0)), oa 7 (.lenSlice (.t 6)), oa 8 (.mov (.t 1)), oa 9 (.lenSlice (.t 8)), oa 10 (.bin .neq (.t 7) (.t 9))] (kp 26 [0,1,10]))
  (.cond (.t 10)
  (.seq (.region [oa 4 (.mov (.c (.bool false)))] (kp 26 [4]))
  (sr 26 [4]))
  (sk 26 [0,1])))
  (.seq (.seq (.region [oa 5 (.mov (ai 0))] (kp 26 [0,1,5]))
  (.block 0
  (.seq (sk 26 [0,1,5])
  (.loop l48_0))))
  (.seq (.region [oa 4 (.mov (.c (.bool true)))] (kp 26 [4]))
  (sr 26 [4])))))⟩
theorem F48 : shutF Try.prog 48 = some c48 := by kernel_rfl

-- virgate/virgateref15.SameInts
def l114_0 : IC := (.seq (.seq (.seq (.region [oa 11 (.mov (.t 5)), oa 12 (.mov (.t 0)), oa 13 (.lenSlice (.t 12)), oa 14 (.bin .lss (.t 11) (.t 13))] (kp 26 [0,1,5,14]))
  (.cond (.t 14)
  (sk 26 [0,1,5])
  (sx 26 [] 0)))
  (.seq (.block 1
  (.seq (.region [oa 17 (.mov (.t 0)), oa 18 (.mov (.t 5)), oa 19 (.indexAddr 1 (.t 17) (.t 18)), oa 20 (.load none (.t 19)), oa 21 (.mov (.t 1)), oa 22 (.mov (.t 5)), oa 23 (.indexAddr 1 (.t 21) (.t 22)), oa 24 (.load none (.t 23)), oa 25 (.bin .neq (.t 20) (.t 24))] (kp 26 [0,1,5,25]))
  (.cond (.t 25)
  (.seq (.region [oa 4 (.mov (.c (.bool false)))] (kp 26 [4]))
  (sr 26 [4]))
  (sk 26 [0,1,5]))))
  (.region [oa 15 (.mov (.t 5)), oa 16 (.bin .add (.t 15) (ai 1)), oa 5 (.mov (.t 16))] (kp 26 [0,1,5]))))
  (sk 26 [0,1,5]))
def c114 : IFn := ⟨26, [(4, none)],
  (.seq (.region [oa 4 (.mov (.c (.bool false)))] (kp 26 [0,1]))
  (.seq (.seq (.region [oa 6 (.mov (.t 0)), oa 7 (.lenSlice (.t 6)), oa 8 (.mov (.t 1)), oa 9 (.lenSlice (.t 8)), oa 10 (.bin .neq (.t 7) (.t 9))] (kp 26 [0,1,10]))
  (.cond (.t 10)
  (.seq (.region [oa 4 (.mov (.c (.bool false)))] (kp 26 [4]))
  (sr 26 [4]))
  (sk 26 [0,1])))
  (.seq (.seq (.region [oa 5 (.mov (ai 0))] (kp 26 [0,1,5]))
  (.block 0
  (.seq (sk 26 [0,1,5])
  (.loop l114_0))))
  (.seq (.region [oa 4 (.mov (.c (.bool true)))] (kp 26 [4]))
  (sr 26 [4])))))⟩
theorem F114 : shutF Try.prog 114 = some c114 := by kernel_rfl

-- virgate/virgatelaw15.same

def c82 : IFn := ⟨17, [(8, none)],
  (.seq (.region [oa 8 (.mov (.c (.bool false)))] (kp 17 [0,1,2,3]))
  (.seq (.region [oa 9 (.mov (.t 1)), oa 10 (.mov (.t 3)), oa 11 (.bin .eql (.t 9) (.t 10)), oa 12 (.mov (.t 11)), oc 13 (.mov (.t 0)) 12 tt, oc 14 (.mov (.t 2)) 12 tt, oc 15 (.call 114 [(.t 13), (.t 14)]) 12 tt, oa 16 (.pick (.t 12) (.t 15) (.c (.bool false))), oa 8 (.mov (.t 16))] (kp 17 [8]))
  (sr 17 [8])))⟩
theorem F82 : shutF Try.prog 82 = some c82 := by kernel_rfl

-- (*virgate/virgatelaw15.Pair).word

def c64 : IFn := ⟨32, [(4, (some (some 2)))],
  (.seq (.region [oa 3 (.box (.t 1)), oa 4 (.alloc [(.int .i64 (0)), (.int .i64 (0))])] (kp 32 [0,3,4]))
  (.seq (.seq (.region [oa 5 (.fieldAddr 5 (.t 3)), oa 6 (.load none (.t 5)), oa 7 (.bin .lss (.t 6) (ai 0)), oa 8 (.mov (.t 7)), oc 9 (.mov (.t 0)) 8 ff, oc 10 (.nilCheck (.t 9)) 8 ff, oc 11 (.fieldAddr 2 (.t 10)) 8 ff, oc 12 (.load none (.t 11)) 8 ff, oc 13 (.lenSlice (.t 12)) 8 ff, oc 14 (.bin .eql (.t 13) (ai 0)) 8 ff, oa 15 (.pick (.t 8) (.c (.bool true)) (.t 14))] (kp 32 [0,3,4,15]))
  (.cond (.t 15)
  (.seq (.region [oa 16 (.fieldAddr 6 (.t 3)), oa 17 (.load (some 2) (.t 16)), ob (.store 2 (.t 4) (.t 17))] (kp 32 [4]))
  (sr 32 [4]))
  (sk 32 [0,3,4])))
  (.seq (.region [oa 18 (.mov (.t 0)), oa 19 (.nilCheck (.t 18)), oa 20 (.fieldAddr 2 (.t 19)), oa 21 (.load none (.t 20)), oa 22 (.fieldAddr 5 (.t 3)), oa 23 (.load none (.t 22)), oa 24 (.mov (.t 0)), oa 25 (.nilCheck (.t 24)), oa 26 (.fieldAddr 2 (.t 25)), oa 27 (.load none (.t 26)), oa 28 (.lenSlice (.t 27)), oa 29 (.bin .rem (.t 23) (.t 28)), oa 30 (.indexAddr 2 (.t 21) (.t 29)), oa 31 (.load (some 2) (.t 30)), ob (.store 2 (.t 4) (.t 31))] (kp 32 [4]))
  (sr 32 [4]))))⟩
theorem F64 : shutF Try.prog 64 = some c64 := by kernel_rfl

-- (*virgate/virgatelaw15.Pair).store

def j63_bb : IC := (.seq (.region [oa 24 (.mov (.t 0)), oa 25 (.nilCheck (.t 24)), oa 26 (.fieldAddr 1 (.t 25)), oa 27 (.load none (.t 26)), oa 28 (.fieldAddr 2 (.t 3)), oa 29 (.load none (.t 28)), oa 30 (.fieldAddr 3 (.t 3)), oa 31 (.load none (.t 30)), oa 32 (.fieldAddr 4 (.t 3)), oa 33 (.load none (.t 32)), oa 7 (.alloc [(.int .i64 (0)), (.int .i64 (0))]), oa 34 (.call 107 [(.t 27), (.t 29), (.t 31), (.t 33)]), oa 23 (.mov (.t 34)), oa 35 (.extract (.t 23) 0), oa 36 (.extract (.t 23) 1), ob (.store 2 (.t 7) (.t 35)), oa 8 (.mov (.t 36))] (kp 57 [0,5,6,7,8]))
  (.seq (.seq (.region [oa 37 (.mov (.t 8)), oa 38 (.bin .eql (.t 37) (ai 0))] (kp 57 [0,5,6,7,8,38]))
  (.cond (.t 38)
  (.region [oa 39 (.mov (.t 0)), oa 40 (.mov (.t 0)), oa 41 (.nilCheck (.t 40)), oa 42 (.fieldAddr 2 (.t 41)), oa 43 (.load none (.t 42)), oa 44 (.load (some 2) (.t 7)), oa 45 (.buildSlice 1 [(.int .i64 (0)), (.int .i64 (0))] [(0, 2, (.t 44))]), oa 46 (.append 2 16 (.t 43) (.t 45)), oa 47 (.nilCheck (.t 39)), oa 48 (.fieldAddr 2 (.t 47)), ob (.store 1 (.t 48) (.t 46))] (kp 57 [5,6,7,8]))
  (sk 57 [5,6,7,8])))
  (.seq (.region [oa 49 (.load (some 2) (.t 5)), oa 50 (.load (some 2) (.t 7)), oa 51 (.eql false (.key (.agg [.i, .i])) (.t 49) (.t 50)), oa 52 (.mov (.t 51)), oc 53 (.mov (.t 6)) 52 tt, oc 54 (.mov (.t 8)) 52 tt, oc 55 (.bin .eql (.t 53) (.t 54)) 52 tt, oa 56 (.pick (.t 52) (.t 55) (.c (.bool false))), oa 4 (.mov (.t 56))] (kp 57 [4]))
  (sr 57 [4]))))
def c63 : IFn := ⟨57, [(4, none)],
  (.seq (.region [oa 3 (.box (.t 1)), oa 4 (.mov (.c (.bool false)))] (kp 57 [0,3]))
  (.seq (.region [oa 10 (.mov (.t 0)), oa 11 (.nilCheck (.t 10)), oa 12 (.fieldAddr 0 (.t 11)), oa 13 (.load none (.t 12)), oa 14 (.fieldAddr 2 (.t 3)), oa 15 (.load none (.t 14)), oa 16 (.fieldAddr 3 (.t 3)), oa 17 (.load none (.t 16)), oa 18 (.fieldAddr 4 (.t 3)), oa 19 (.load none (.t 18)), oa 5 (.alloc [(.int .i64 (0)), (.int .i64 (0))]), oa 20 (.call 34 [(.t 13), (.t 15), (.t 17), (.t 19)]), oa 9 (.mov (.t 20)), oa 21 (.extract (.t 9) 0), oa 22 (.extract (.t 9) 1), ob (.store 2 (.t 5) (.t 21)), oa 6 (.mov (.t 22))] (kp 57 [0,3,5,6]))
  j63_bb))⟩
theorem F63 : shutF Try.prog 63 = some c63 := by kernel_rfl


/-- An act. -/
structure ActG where
  d : Int
  hn : Int
  a : Int
  b : Int
  c : Int
  which : Int
  w : Int × Int
  v : Int × Int
  sa : Option Ad
  sn : Nat
  sc : Option Nat
abbrev ActG.cells (x : ActG) : List V := [.int .u8 x.d, .int .u8 x.hn, I x.a, I x.b, I x.c, I x.which, I x.w.1, I x.w.2, I x.v.1, I x.v.2, .slice x.sa x.sn x.sc]

section
variable {o : Nat → Option O} {s : St} {C F : Ch} {Q : V → St → Prop}
set_option maxRecDepth 10000

theorem ints_loop {l : List Nat} {v v' : V} {K : Kt} (hC : Holds o s C) (h : SlAt C v l.length (l.map fun n : Nat => I n)) (h' : SlAt C v' l.length (l.map fun n : Nat => I n)) (hl : l.length ≤ 100000) :
    ∀ (m i : Nat), i + m = l.length → loop PF (.loop l114_0) (sp 26 [(0, v), (1, v'), (5, I i)]) s K = K (.exit 0) (sp 26 []) s
  | 0, i, hi => by
    have hlt : ¬ ((i : Int) < (l.length : Int)) := by omega
    refine round fun LL hLL => ?_
    simp -implicitDefEqProofs only [↓GP, GB, GL, Nat.reduceAdd, Nat.reduceSub, Nat.reduceEqDiff, Nat.reduceMul, Nat.reduceLeDiff, Int.reduceBNe, Int.reduceBEq, Nat.reduceLT, reduceCtorEq, l114_0, h.len, hlt]
  | m + 1, i, hi => by
    have hlt : ((i : Int) < (l.length : Int)) := by omega
    have hi' : i < l.length := by omega
    obtain ⟨k, g, e1, e2⟩ := h.get hC hi' 1
    obtain ⟨k', g', e1', e2'⟩ := h'.get hC hi' 1
    have w := wrap_add1 (a := i) (by omega)
    refine round fun LL hLL => ?_
    simp -implicitDefEqProofs only [↓GP, GB, GL, Nat.reduceAdd, Nat.reduceSub, Nat.reduceEqDiff, Nat.reduceMul, Nat.reduceLeDiff, Int.reduceBNe, Int.reduceBEq, Nat.reduceLT, reduceCtorEq, l114_0, h.len, hlt, e1, e2, e1', e2', pages_get hi', w]
    rw [hLL]
    exact ints_loop hC h h' hl m (i + 1) (by omega)
theorem s114 (hC : Holds o s C) {l : List Nat} {v v' : V} (h : SlAt C v l.length (l.map fun n : Nat => I n)) (h' : SlAt C v' l.length (l.map fun n : Nat => I n)) (hl : l.length ≤ 100000) : call PF 114 [v, v'] s = some (.bool true, s) := by
  have e := fun K => ints_loop (K := K) hC h h' hl l.length 0 (by omega)
  simp only [Int.natCast_zero] at e
  rw [call_run F114]; simp -implicitDefEqProofs only [↓GP, GB, GL, Nat.reduceAdd, Nat.reduceSub, Nat.reduceEqDiff, Nat.reduceMul, Nat.reduceLeDiff, Int.reduceBNe, Int.reduceBEq, Nat.reduceLT, reduceCtorEq, c114, h.len, h'.len, e]

theorem words_eq (a b : Int) : eqI (.key (.agg [.i, .i])) (.agg [I a, I b]) (.agg [I a, I b]) = some true := by simp [eqI, keyEq, cellsEq, cellEq]
theorem sameW_loop {l : List (Int × Int)} {v v' : V} {K : Kt} (hC : Holds o s C) (h : SlAt C v l.length (l.flatMap encW)) (h' : SlAt C v' l.length (l.flatMap encW)) (hl : l.length ≤ 100000) :
    ∀ (m i : Nat), i + m = l.length → loop PF (.loop l48_0) (sp 26 [(0, v), (1, v'), (5, I i)]) s K = K (.exit 0) (sp 26 []) s
  | 0, i, hi => by
    have hlt : ¬ ((i : Int) < (l.length : Int)) := by omega
    refine round fun LL hLL => ?_
    simp -implicitDefEqProofs only [↓GP, GB, GL, Nat.reduceAdd, Nat.reduceSub, Nat.reduceEqDiff, Nat.reduceMul, Nat.reduceLeDiff, Int.reduceBNe, Int.reduceBEq, Nat.reduceLT, reduceCtorEq, l48_0, h.len, hlt]
  | m + 1, i, hi => by
    have hlt : ((i : Int) < (l.length : Int)) := by omega
    have hi' : i < l.length := by omega
    obtain ⟨k, g, e1, e2⟩ := h.get hC hi' 2
    obtain ⟨k', g', e1', e2'⟩ := h'.get hC hi' 2
    have hld := fun g => ldN_tab encW_len l g (show l[i]? = some l[i] by simp [hi'])
    have w := wrap_add1 (a := i) (by omega)
    refine round fun LL hLL => ?_
    simp -implicitDefEqProofs only [↓GP, GB, GL, Nat.reduceAdd, Nat.reduceSub, Nat.reduceEqDiff, Nat.reduceMul, Nat.reduceLeDiff, Int.reduceBNe, Int.reduceBEq, Nat.reduceLT, reduceCtorEq, l48_0, h.len, hlt, e1, e2, e1', e2', hld, encW, words_eq, w]
    rw [hLL]
    exact sameW_loop hC h h' hl m (i + 1) (by omega)
theorem s48 (hC : Holds o s C) {l : List (Int × Int)} {v v' : V} (h : SlAt C v l.length (l.flatMap encW)) (h' : SlAt C v' l.length (l.flatMap encW)) (hl : l.length ≤ 100000) : call PF 48 [v, v'] s = some (.bool true, s) := by
  have e := fun K => sameW_loop (K := K) hC h h' hl l.length 0 (by omega)
  simp only [Int.natCast_zero] at e
  rw [call_run F48]; simp -implicitDefEqProofs only [↓GP, GB, GL, Nat.reduceAdd, Nat.reduceSub, Nat.reduceEqDiff, Nat.reduceMul, Nat.reduceLeDiff, Int.reduceBNe, Int.reduceBEq, Nat.reduceLT, reduceCtorEq, c48, h.len, h'.len, e]
theorem s82 (hC : Holds o s C) {l : List Nat} {v v' : V} {err : Int} (h : SlAt C v l.length (l.map fun n : Nat => I n)) (h' : SlAt C v' l.length (l.map fun n : Nat => I n)) (hl : l.length ≤ 100000) : call PF 82 [v, I err, v', I err] s = some (.bool true, s) := by
  have e := s114 hC h h' hl
  rw [call_run F82]; simp -implicitDefEqProofs only [↓GP, GB, GL, Nat.reduceAdd, Nat.reduceSub, Nat.reduceEqDiff, Nat.reduceMul, Nat.reduceLeDiff, Int.reduceBNe, Int.reduceBEq, Nat.reduceLT, reduceCtorEq, c82, e]

/-- The word that an act is about. -/
def wordG (ws : List (Int × Int)) (x : ActG) : Int × Int := if x.which < 0 then x.w else (ws[x.which.toNat % ws.length]?).getD x.w
theorem rem_i64 {a : Int} {n : Nat} (h : 0 ≤ a) (hn : 0 < n) : intI .rem .i64 a (n : Int) = some (I ((a.toNat % n : Nat) : Int)) := by
  have e : a.tmod (n : Int) = ((a.toNat % n : Nat) : Int) := by
    rw [Int.tmod_eq_emod_of_nonneg h, Int.natCast_emod, Int.toNat_of_nonneg h]
  show (if (n : Int) = 0 then none else some (V.int .i64 (a.tmod n))) = _
  rw [if_neg (by omega), e]
theorem s64 (hC : Holds o s C) {id wk : Nat} {hv rv : V} {ws : List (Int × Int)} (mid : (id, some (.cells [hv, rv, rowV wk ws.length] none)) ∈ C) (mw : (wk, rowO 2 ws.length (ws.flatMap encW)) ∈ C) (x : ActG)
    (q : ∀ s', Holds o s' C → Q (.agg (encW (wordG ws x))) s') : WP (call PF 64 [ptrN id, .agg x.cells] s) Q := by
  have h1 := (hC.alloc (.cells x.cells none)).alloc (.cells [I 0, I 0] none)
  have f := hC.mem mid
  have fin : ∀ w, w = wordG ws x → Q (.agg [I w.1, I w.2]) (((s.alloc (.cells x.cells none)).alloc (.cells [I 0, I 0] none)).set (s.next + 1) (.cells [I w.1, I w.2] none)) := fun w e => by
    rw [e]
    exact q _ (h1.set0 _).tl.tl
  by_cases h0 : x.which < 0
  · rw [call_run F64]; simp -implicitDefEqProofs only [↓GP, GB, GL, Nat.reduceAdd, Nat.reduceSub, Nat.reduceEqDiff, Nat.reduceMul, Nat.reduceLeDiff, Int.reduceBNe, Int.reduceBEq, Nat.reduceLT, reduceCtorEq, c64, f, h0]
    exact fin x.w (by unfold wordG; rw [if_pos h0])
  · by_cases hn : ws.length = 0
    · have hz : ((ws.length : Int) == 0) = true := by rw [hn]; rfl
      rw [call_run F64]; simp -implicitDefEqProofs only [↓GP, GB, GL, Nat.reduceAdd, Nat.reduceSub, Nat.reduceEqDiff, Nat.reduceMul, Nat.reduceLeDiff, Int.reduceBNe, Int.reduceBEq, Nat.reduceLT, reduceCtorEq, c64, f, h0, hz]
      exact fin x.w (by unfold wordG; rw [if_neg h0, List.length_eq_zero_iff.1 hn]; rfl)
    · have hz : ((ws.length : Int) == 0) = false := by rw [beq_eq_false_iff_ne]; omega
      have hr := rem_i64 (a := x.which) (n := ws.length) (by omega) (by omega)
      have hlt : x.which.toNat % ws.length < ws.length := Nat.mod_lt _ (by omega)
      have hld := ldN_tab encW_len ws (some 2) (show ws[x.which.toNat % ws.length]? = some ws[x.which.toNat % ws.length] by simp [hlt])
      rw [rowO_pos (by omega)] at mw
      have fw := hC.mem mw
      rw [call_run F64]; simp -implicitDefEqProofs only [↓GP, GB, GL, Nat.reduceAdd, Nat.reduceSub, Nat.reduceEqDiff, Nat.reduceMul, Nat.reduceLeDiff, Int.reduceBNe, Int.reduceBEq, Nat.reduceLT, reduceCtorEq, c64, f, h0, hz, hr, ix_row hlt, fw, hld, encW]
      exact fin _ (by unfold wordG; rw [if_neg h0, List.getElem?_eq_getElem hlt]; rfl)

theorem sub_flatMap {α β : Type} (f : α → List β) : ∀ {l : List α} {x : α}, x ∈ l → (f x).Sublist (l.flatMap f)
  | y :: l, x, h => by
    rw [List.flatMap_cons]
    rcases List.mem_cons.1 h with rfl | h
    · exact List.sublist_append_left _ _
    · exact (sub_flatMap f h).trans (List.sublist_append_right _ _)
/-- What a pair is. -/
structure PairOk (u : List Bool) (others : List Nat) (G : PairG) : Prop where
  ulen : u.length ≤ 30
  lives : G.hp.lives = G.hr.lives
  same : G.hp.regs.map PReg.m = G.hr.regs.map RReg.m
  inv : HInv G.hp.lives (G.hp.regs.map PReg.m)
  pool : PoolInv u ((G.hp.regs.map PReg.m).flatMap (·.pages) ++ others)
  pok : ∀ g ∈ G.hp.regs, g.ok
  grown : RGrown G.hr
  one : G.hr.grown = false → G.hr.regs.length = 1
namespace PairOk
variable {u : List Bool} {others : List Nat} {G : PairG} (h : PairOk u others G)
include h
theorem pne : G.hp.regs ≠ [] := fun e => h.inv.ne (by rw [e]; rfl)
theorem len : G.hp.regs.length = G.hr.regs.length := by have := congrArg List.length h.same; simpa using this
theorem rne : G.hr.regs ≠ [] := by intro e; have := h.len; rw [e] at this; exact h.pne (List.length_eq_zero_iff.1 this)
theorem plen : G.hp.regs.length ≤ 100000 := by have h1 := h.inv.len; have h2 := h.inv.lives; rw [List.length_map] at h1; omega
theorem rlen : G.hr.regs.length ≤ 100000 := by rw [← h.len]; exact h.plen
theorem plives : G.hp.regs.length ≤ G.hp.lives := by have h1 := h.inv.len; rw [List.length_map] at h1; exact h1
theorem okm {r : Reg} (hr : r ∈ G.hp.regs.map PReg.m) : RegOk u.length r ∧ r.pages.length ≤ 30 ∧ r.objs.length ≤ 961 := by
  have hs : r.pages.Sublist ((G.hp.regs.map PReg.m).flatMap (·.pages) ++ others) := (sub_flatMap (fun r : Reg => r.pages) hr).trans (List.sublist_append_left _ _)
  have hl := h.pool.sub_len hs
  have hu := h.ulen
  have hi := h.inv.reg r hr
  have hlf := h.inv.life r hr
  have h2 := h.inv.lives
  refine ⟨hi.ok (by omega) (fun p hp => h.pool.lt (hs.subset hp)) (by omega) (by omega), by omega, ?_⟩
  have := hi.nobjs; omega
theorem okp {g : PReg} (hg : g ∈ G.hp.regs) : RegOk u.length g.m ∧ g.m.pages.length ≤ 30 ∧ g.m.objs.length ≤ 961 := h.okm (List.mem_map.2 ⟨g, hg, rfl⟩)
theorem okr {g : RReg} (hg : g ∈ G.hr.regs) : RegOk u.length g.m ∧ g.m.pages.length ≤ 30 ∧ g.m.objs.length ≤ 961 := h.okm (by rw [h.same]; exact List.mem_map.2 ⟨g, hg, rfl⟩)
theorem pol {g : PReg} (hg : g ∈ G.hp.regs) : g.objs.length ≤ 961 := by have := (h.okp hg).2.2; simpa [PReg.m] using this
theorem rol {g : RReg} (hg : g ∈ G.hr.regs) : g.objs.length ≤ 961 := by have := (h.okr hg).2.2; simpa [RReg.m] using this
theorem rol' : ∀ g ∈ G.hr.regs, g.objs.length ≤ 100000 := fun g hg => by have := h.rol hg; omega
/-- A region, in both. -/
theorem at_ {i : Nat} (hi : i < G.hp.regs.length) : ∃ A g B A' g' B', G.hp.regs = A ++ g :: B ∧ G.hr.regs = A' ++ g' :: B' ∧ A.length = i ∧ A'.length = i ∧ g.m = g'.m ∧ A.map PReg.m = A'.map RReg.m ∧ B.map PReg.m = B'.map RReg.m := by
  have hi' : i < G.hr.regs.length := by rw [← h.len]; exact hi
  have e1 : G.hp.regs = G.hp.regs.take i ++ G.hp.regs[i] :: G.hp.regs.drop (i + 1) := by rw [← List.drop_eq_getElem_cons hi, List.take_append_drop]
  have e2 : G.hr.regs = G.hr.regs.take i ++ G.hr.regs[i] :: G.hr.regs.drop (i + 1) := by rw [← List.drop_eq_getElem_cons hi', List.take_append_drop]
  refine ⟨_, _, _, _, _, _, e1, e2, by simp; omega, by simp; omega, ?_, ?_, ?_⟩
  · have := congrArg (fun l => l[i]?) h.same
    simpa [hi, hi'] using this
  · rw [List.map_take, List.map_take, h.same]
  · rw [List.map_drop, List.map_drop, h.same]
end PairOk
theorem mem_mid {α : Type} (A B : List α) (x : α) : x ∈ A ++ x :: B := by simp

/-- The pair behind one region has changed. -/
theorem PairOk.upd {u u' : List Bool} {others : List Nat} {G : PairG} (h : PairOk u others G) {A B : List PReg} {A' B' : List RReg} {g g1 : PReg} {g' g1' : RReg} (e : G.hp.regs = A ++ g :: B) (e' : G.hr.regs = A' ++ g' :: B') (hA : A.map PReg.m = A'.map RReg.m) (hB : B.map PReg.m = B'.map RReg.m)
    (hm : g1.m = g1'.m) (hl : g1.life = g.life) (hr : RInv g1.m) (hok : g1.ok) (hu : u'.length = u.length) (hpool : PoolInv u' (g1.pages ++ ((A.map PReg.m).flatMap (·.pages) ++ ((B.map PReg.m).flatMap (·.pages) ++ others)))) :
    PairOk u' others { G with hp := { G.hp with regs := A ++ g1 :: B }, hr := { G.hr with regs := A' ++ g1' :: B' } } where
  ulen := by rw [hu]; exact h.ulen
  lives := h.lives
  same := by simp [hA, hB, hm]
  inv := by
    have hi := h.inv
    rw [e] at hi
    refine ⟨hi.lives, by simp, ?_, ?_, ?_, ?_⟩
    · have := hi.len; simpa using this
    · have := hi.nodup; simp only [List.map_append, List.map_cons] at this ⊢; rw [show g1.m.life = g.m.life from hl]; exact this
    · intro r hr'
      simp only [List.map_append, List.map_cons, List.mem_append, List.mem_cons] at hr'
      rcases hr' with hr' | rfl | hr'
      · exact hi.life r (by simp only [List.map_append, List.map_cons, List.mem_append, List.mem_cons]; exact .inl hr')
      · have := hi.life g.m (by simp); rw [show g1.m.life = g.m.life from hl]; exact this
      · exact hi.life r (by simp only [List.map_append, List.map_cons, List.mem_append, List.mem_cons]; exact .inr (.inr hr'))
    · intro r hr'
      simp only [List.map_append, List.map_cons, List.mem_append, List.mem_cons] at hr'
      rcases hr' with hr' | rfl | hr'
      · exact hi.reg r (by simp only [List.map_append, List.map_cons, List.mem_append, List.mem_cons]; exact .inl hr')
      · exact hr
      · exact hi.reg r (by simp only [List.map_append, List.map_cons, List.mem_append, List.mem_cons]; exact .inr (.inr hr'))
  pool := by
    refine hpool.perm ?_
    simp only [List.map_append, List.map_cons, List.flatMap_append, List.flatMap_cons, List.append_assoc]
    exact List.perm_append_comm_assoc _ _ _
  pok := by
    intro x hx
    simp only [List.mem_append, List.mem_cons] at hx
    rcases hx with hx | rfl | hx
    · exact h.pok x (by rw [e]; simp [hx])
    · exact hok
    · exact h.pok x (by rw [e]; simp [hx])
  grown := h.grown
  one := fun hg => by have := h.one hg; rw [e'] at this; simpa using this
/-- The pool, with the pages of one region ahead. -/
theorem PairOk.pool1 {u : List Bool} {others : List Nat} {G : PairG} (h : PairOk u others G) {A B : List PReg} {g : PReg} (e : G.hp.regs = A ++ g :: B) : PoolInv u (g.pages ++ ((A.map PReg.m).flatMap (·.pages) ++ ((B.map PReg.m).flatMap (·.pages) ++ others))) := by
  have := h.pool
  rw [e] at this
  refine this.perm ?_
  simp only [List.map_append, List.map_cons, List.flatMap_append, List.flatMap_cons, List.append_assoc]
  exact (List.perm_append_comm_assoc _ _ _).symm
end
end Go.Proofs.Ytoldkemimhebaaa
