/- The functions of layer 15, on the ideal machine: pools, opening, looking up regions. -/
import Derived.Test.YtoldkemimhebaaaPgD
set_option linter.unusedSimpArgs false
set_option linter.unusedVariables false
namespace Go.Proofs.Ytoldkemimhebaaa
open Go Go.IM

-- slices.Index[[]bool,bool]
def l120_0 : IC := (.seq (.seq (.region [oa 9 (.bin .lss (.t 8) (.t 7))] (kp 19 [0,1,7,8,9]))
  (.seq (.cond (.t 9)
  (sk 19 [0,1,7,8])
  (sx 19 [] 0))
  (.seq (.block 1
  (.seq (.region [oa 10 (.mov (.t 8)), oa 5 (.mov (.t 10))] (kp 19 [0,1,5,7,8]))
  (.seq (.region [oa 11 (.mov (.t 1)), oa 12 (.mov (.t 0)), oa 13 (.mov (.t 5)), oa 14 (.indexAddr 1 (.t 12) (.t 13)), oa 15 (.load none (.t 14)), oa 16 (.eql false (.key (.one .b)) (.t 11) (.t 15))] (kp 19 [0,1,5,7,8,16]))
  (.cond (.t 16)
  (.seq (.region [oa 17 (.mov (.t 5)), oa 4 (.mov (.t 17))] (kp 19 [4]))
  (sr 19 [4]))
  (sk 19 [0,1,7,8])))))
  (.region [oa 18 (.bin .add (.t 8) (ai 1)), oa 8 (.mov (.t 18))] (kp 19 [0,1,7,8])))))
  (sk 19 [0,1,7,8]))
def c120 : IFn := ⟨19, [(4, none)],
  (.seq (.region [oa 4 (.mov (ai 0))] (kp 19 [0,1]))
  (.seq (.seq (.region [oa 6 (.mov (.t 0)), oa 7 (.lenSlice (.t 6)), oa 8 (.mov (ai 0))] (kp 19 [0,1,7,8]))
  (.block 0
  (.seq (sk 19 [0,1,7,8])
  (.loop l120_0))))
  (.seq (.region [oa 4 (.mov (ai (-1)))] (kp 19 [4]))
  (sr 19 [4]))))⟩
theorem F120 : shutF Try.prog 120 = some c120 := by kernel_rfl

-- (*virgate/page.Pool).take

def c112 : IFn := ⟨21, [(2, none), (3, none)],
  (.seq (.region [oa 2 (.mov (ai 0)), oa 3 (.mov (.c (.bool false)))] (kp 21 [0]))
  (.seq (.region [oa 5 (.mov (.t 0)), oa 6 (.nilCheck (.t 5)), oa 7 (.fieldAddr 0 (.t 6)), oa 8 (.load none (.t 7)), oa 9 (.call 120 [(.t 8), (.c (.bool false))]), oa 4 (.mov (.t 9))] (kp 21 [0,4]))
  (.seq (.seq (.region [oa 10 (.mov (.t 4)), oa 11 (.bin .geq (.t 10) (ai 0))] (kp 21 [0,4,11]))
  (.cond (.t 11)
  (.region [oa 12 (.mov (.t 0)), oa 13 (.nilCheck (.t 12)), oa 14 (.fieldAddr 0 (.t 13)), oa 15 (.load none (.t 14)), oa 16 (.mov (.t 4)), oa 17 (.indexAddr 1 (.t 15) (.t 16)), ob (.store 1 (.t 17) (.c (.bool true)))] (kp 21 [4]))
  (sk 21 [4])))
  (.seq (.region [oa 18 (.mov (.t 4)), oa 19 (.mov (.t 4)), oa 20 (.bin .geq (.t 19) (ai 0)), oa 2 (.mov (.t 18)), oa 3 (.mov (.t 20))] (kp 21 [2,3]))
  (sr 21 [2,3])))))⟩
theorem F112 : shutF Try.prog 112 = some c112 := by kernel_rfl

-- (*virgate/page.Heap).open

def c57 : IFn := ⟨28, [],
  (.seq (.region [oa 4 (.mov (.t 0)), oa 5 (.nilCheck (.t 4)), oa 6 (.fieldAddr 2 (.t 5)), oa 7 (.load none (.t 6)), oa 8 (.bin .add (.t 7) (ai 1)), oa 9 (.nilCheck (.t 4)), oa 10 (.fieldAddr 2 (.t 9)), ob (.store 1 (.t 10) (.t 8))] (kp 28 [0,1]))
  (.region [oa 11 (.mov (.t 0)), oa 12 (.mov (.t 0)), oa 13 (.nilCheck (.t 12)), oa 14 (.fieldAddr 1 (.t 13)), oa 15 (.load none (.t 14)), oa 16 (.mov (.t 0)), oa 17 (.nilCheck (.t 16)), oa 18 (.fieldAddr 2 (.t 17)), oa 19 (.load none (.t 18)), oa 20 (.mov (.t 1)), oa 21 .mkMap, oa 22 (.build [(.int .i64 (0)), (.int .i64 (0)), (.slice none 0 (some 0)), (.int .i64 (0)), (.slice none 0 (some 0)), (.map none)] [(0, 1, (.t 19)), (1, 1, (.t 20)), (5, 1, (.t 21))]), oa 23 (.box (.t 22)), oa 24 (.buildSlice 1 [(.ptr none)] [(0, 1, (.t 23))]), oa 25 (.append 1 8 (.t 15) (.t 24)), oa 26 (.nilCheck (.t 11)), oa 27 (.fieldAddr 1 (.t 26)), ob (.store 1 (.t 27) (.t 25))] (kp 28 [])))⟩
theorem F57 : shutF Try.prog 57 = some c57 := by kernel_rfl

-- (*virgate/page.Heap).none

def c71 : IFn := ⟨12, [(2, none)],
  (.seq (.region [oa 2 (.mov (.c (.bool false)))] (kp 12 [0]))
  (.seq (.region [oa 3 (.mov (.t 0)), oa 4 (.eql false .ptr (.t 3) (.c (.ptr none))), oa 5 (.mov (.t 4)), oc 6 (.mov (.t 0)) 5 ff, oc 7 (.nilCheck (.t 6)) 5 ff, oc 8 (.fieldAddr 0 (.t 7)) 5 ff, oc 9 (.load none (.t 8)) 5 ff, oc 10 (.eql false .ptr (.t 9) (.c (.ptr none))) 5 ff, oa 11 (.pick (.t 5) (.c (.bool true)) (.t 10)), oa 2 (.mov (.t 11))] (kp 12 [2]))
  (sr 12 [2])))⟩
theorem F71 : shutF Try.prog 71 = some c71 := by kernel_rfl

-- (*virgate/page.Heap).asked

def c104 : IFn := ⟨12, [(4, none)],
  (.seq (.region [oa 4 (.mov (ai 0))] (kp 12 [0,1]))
  (.seq (.block 0
  (.seq (.region [oa 6 (.mov (.t 0)), oa 7 (.call 71 [(.t 6)]), oa 5 (.mov (.t 7))] (kp 12 [1,5]))
  (.cond (.t 5)
  (.seq (.region [oa 4 (.mov (ai 6))] (kp 12 [4]))
  (sr 12 [4]))
  (.seq (.region [oa 9 (.mov (.t 1)), oa 10 (.callv (.t 9) []), oa 11 (.un .not (.t 10)), oa 8 (.mov (.t 11))] (kp 12 [8]))
  (.cond (.t 8)
  (.seq (.region [oa 4 (.mov (ai 2))] (kp 12 [4]))
  (sr 12 [4]))
  (sk 12 []))))))
  (.seq (.region [oa 4 (.mov (ai 0))] (kp 12 [4]))
  (sr 12 [4]))))⟩
theorem F104 : shutF Try.prog 104 = some c104 := by kernel_rfl

-- (*virgate/page.Heap).at$1

def c110 : IFn := ⟨11, [(2, none)],
  (.seq (.region [oa 2 (.mov (.c (.bool false)))] (kp 11 [0,1]))
  (.seq (.region [oa 3 (.load none (.t 0)), oa 4 (.load none (.t 1)), oa 5 (.nilCheck (.t 4)), oa 6 (.fieldAddr 1 (.t 5)), oa 7 (.load none (.t 6)), oa 8 (.lenSlice (.t 7)), oa 9 (.bin .sub (.t 8) (ai 1)), oa 10 (.call 56 [(ai 0), (.t 3), (.t 9)]), oa 2 (.mov (.t 10))] (kp 11 [2]))
  (sr 11 [2])))⟩
theorem F110 : shutF Try.prog 110 = some c110 := by kernel_rfl

-- (*virgate/page.Heap).Open$1

def c105 : IFn := ⟨4, [(1, none)],
  (.seq (.region [oa 1 (.mov (.c (.bool false)))] (kp 4 [0]))
  (.seq (.region [oa 2 (.load none (.t 0)), oa 3 (.call 56 [(ai 0), (.t 2), (ai 31)]), oa 1 (.mov (.t 3))] (kp 4 [1]))
  (sr 4 [1])))⟩
theorem F105 : shutF Try.prog 105 = some c105 := by kernel_rfl

-- (*virgate/page.Heap).object$1

def c111 : IFn := ⟨9, [(2, none)],
  (.seq (.region [oa 2 (.mov (.c (.bool false)))] (kp 9 [0,1]))
  (.seq (.region [oa 3 (.fieldAddr 1 (.t 0)), oa 4 (.load none (.t 3)), oa 5 (.bin .gtr (.t 4) (ai 0)), oa 6 (.mov (.t 5)), oc 7 (.load none (.t 1)) 6 tt, oa 8 (.pick (.t 6) (.t 7) (.c (.bool false))), oa 2 (.mov (.t 8))] (kp 9 [2]))
  (sr 9 [2])))⟩
theorem F111 : shutF Try.prog 111 = some c111 := by kernel_rfl

-- (*virgate/page.Heap).at

def c72 : IFn := ⟨20, [(4, none), (5, none)],
  (.seq (.region [oa 2 (.box (.t 0)), oa 3 (.box (.t 1)), oa 4 (.mov (.c (.ptr none))), oa 5 (.mov (ai 0))] (kp 20 [2,3]))
  (.seq (.seq (.region [oa 7 (.load none (.t 2)), oa 8 (.mkFunc 110 [] [(.t 3), (.t 2)]), oa 9 (.call 104 [(.t 7), (.t 8)]), oa 6 (.mov (.t 9))] (kp 20 [2,3,6]))
  (.seq (.region [oa 10 (.mov (.t 6)), oa 11 (.bin .neq (.t 10) (ai 0))] (kp 20 [2,3,6,11]))
  (.cond (.t 11)
  (.seq (.region [oa 12 (.mov (.t 6)), oa 4 (.mov (.c (.ptr none))), oa 5 (.mov (.t 12))] (kp 20 [4,5]))
  (sr 20 [4,5]))
  (sk 20 [2,3]))))
  (.seq (.region [oa 13 (.load none (.t 2)), oa 14 (.nilCheck (.t 13)), oa 15 (.fieldAddr 1 (.t 14)), oa 16 (.load none (.t 15)), oa 17 (.load none (.t 3)), oa 18 (.indexAddr 1 (.t 16) (.t 17)), oa 19 (.load none (.t 18)), oa 4 (.mov (.t 19)), oa 5 (.mov (ai 0))] (kp 20 [4,5]))
  (sr 20 [4,5]))))⟩
theorem F72 : shutF Try.prog 72 = some c72 := by kernel_rfl

-- (*virgate/page.Heap).Open

def c59 : IFn := ⟨31, [(4, none), (5, none)],
  (.seq (.region [oa 3 (.box (.t 1)), oa 4 (.mov (ai 0)), oa 5 (.mov (ai 0))] (kp 31 [0,3]))
  (.seq (.region [oa 7 (.mov (.t 0)), oa 8 (.mkFunc 105 [] [(.t 3)]), oa 9 (.call 104 [(.t 7), (.t 8)]), oa 6 (.mov (.t 9))] (kp 31 [0,3,6]))
  (.seq (.seq (.region [oa 10 (.mov (.t 6)), oa 11 (.bin .eql (.t 10) (ai 0)), oa 12 (.mov (.t 11)), oc 13 (.mov (.t 0)) 12 tt, oc 14 (.nilCheck (.t 13)) 12 tt, oc 15 (.fieldAddr 2 (.t 14)) 12 tt, oc 16 (.load none (.t 15)) 12 tt, oc 17 (.bin .geq (.t 16) (ai 100000)) 12 tt, oa 18 (.pick (.t 12) (.t 17) (.c (.bool false)))] (kp 31 [0,3,6,18]))
  (.cond (.t 18)
  (.region [oa 6 (.mov (ai 4))] (kp 31 [0,3,6]))
  (sk 31 [0,3,6])))
  (.seq (.seq (.region [oa 19 (.mov (.t 6)), oa 20 (.bin .neq (.t 19) (ai 0))] (kp 31 [0,3,6,20]))
  (.cond (.t 20)
  (.seq (.region [oa 21 (.mov (.t 6)), oa 4 (.mov (ai 0)), oa 5 (.mov (.t 21))] (kp 31 [4,5]))
  (sr 31 [4,5]))
  (sk 31 [0,3])))
  (.seq (.region [oa 22 (.mov (.t 0)), oa 23 (.load none (.t 3)), oa 24 (.call 57 [(.t 22), (.t 23)])] (kp 31 [0]))
  (.seq (.region [oa 25 (.mov (.t 0)), oa 26 (.nilCheck (.t 25)), oa 27 (.fieldAddr 1 (.t 26)), oa 28 (.load none (.t 27)), oa 29 (.lenSlice (.t 28)), oa 30 (.bin .sub (.t 29) (ai 1)), oa 4 (.mov (.t 30)), oa 5 (.mov (ai 0))] (kp 31 [4,5]))
  (sr 31 [4,5])))))))⟩
theorem F59 : shutF Try.prog 59 = some c59 := by kernel_rfl


section
variable {o : Nat → Option O} {s : St} {C F : Ch} {Q : V → St → Prop}
set_option maxRecDepth 10000

theorem index_loop {r : Nat} {u : List Bool} {cp : Option Nat}  {K : Kt} (hr : s.new r = some (.cells (u.map .bool) none)) (hb : u.length ≤ 400) :
    ∀ (m i : Nat), i + m = u.length →
    loop PF (.loop l120_0) (sp 19 [(0, .slice (some ⟨.new r, 0⟩) u.length cp), (1, .bool false), (7, I u.length), (8, I i)]) s K =
      match (u.drop i).findIdx? (! ·) with
      | some j => K .ret (sp 19 [(4, I (i + j : Nat))]) s
      | none => K (.exit 0) (sp 19 []) s
  | 0, i, hi => by
    have hlt : ¬ ((i : Int) < (u.length : Int)) := by omega
    refine round fun LL hLL => ?_
    simp -implicitDefEqProofs only [↓GP, GB, GL, Nat.reduceAdd, Nat.reduceSub, Nat.reduceEqDiff, Nat.reduceMul, Nat.reduceLeDiff, Int.reduceBNe, Int.reduceBEq, Nat.reduceLT, reduceCtorEq, l120_0, hlt]
    rw [List.drop_eq_nil_of_le (by omega)]
    rfl
  | m + 1, i, hi => by
    have hlt : ((i : Int) < (u.length : Int)) := by omega
    have hi' : i < u.length := by omega
    have hd : u.drop i = u[i] :: u.drop (i + 1) := List.drop_eq_getElem_cons hi'
    have hix := ix_cell (sz := 1) (k := r) (off := 0) (c := cp) (kk := .i64) hi'
    have hg : (u.map V.bool)[i]? = some (.bool u[i]) := by simp [hi']
    have hw := wrap_add1 (a := i) (by omega)
    refine round fun LL hLL => ?_
    cases hbi : u[i] with
    | false =>
      rw [hbi] at hg hd
      have he : eqI (.key (.one .b)) (.bool false) (.bool false) = some true := rfl
      simp -implicitDefEqProofs only [↓GP, GB, GL, Nat.reduceAdd, Nat.reduceSub, Nat.reduceEqDiff, Nat.reduceMul, Nat.reduceLeDiff, Int.reduceBNe, Int.reduceBEq, Nat.reduceLT, reduceCtorEq, l120_0, hlt, hix, hr, hg, he]
      rw [hd]
      rfl
    | true =>
      rw [hbi] at hg hd
      have he : eqI (.key (.one .b)) (.bool false) (.bool true) = some false := rfl
      simp -implicitDefEqProofs only [↓GP, GB, GL, Nat.reduceAdd, Nat.reduceSub, Nat.reduceEqDiff, Nat.reduceMul, Nat.reduceLeDiff, Int.reduceBNe, Int.reduceBEq, Nat.reduceLT, reduceCtorEq, l120_0, hlt, hix, hr, hg, he, hw]
      rw [hLL, index_loop hr hb m (i + 1) (by omega), hd]
      simp only [List.findIdx?_cons, Bool.not_true, Bool.false_eq_true, if_false]
      cases (u.drop (i + 1)).findIdx? (! ·) with
      | none => rfl
      | some j => simp only [Option.map_some]; rw [show i + 1 + j = i + (j + 1) by omega]

theorem s120 {r : Nat} {u : List Bool} {cp : Option Nat} (hr : s.new r = some (.cells (u.map .bool) none)) (hb : u.length ≤ 400) :
    call PF 120 [.slice (some ⟨.new r, 0⟩) u.length cp, .bool false] s = some (I (match takeP u with | some n => (n : Int) | none => -1), s) := by
  rw [call_run F120]; simp -implicitDefEqProofs only [↓GP, GB, GL, Nat.reduceAdd, Nat.reduceSub, Nat.reduceEqDiff, Nat.reduceMul, Nat.reduceLeDiff, Int.reduceBNe, Int.reduceBEq, Nat.reduceLT, reduceCtorEq, c120]
  refine (index_loop hr hb u.length 0 (by omega)).trans ?_
  rw [List.drop_zero]
  show (match takeP u with | some j => _ | none => _) = _
  cases takeP u with
  | none => simp -implicitDefEqProofs only [↓GP, GB, GL, Nat.reduceAdd, Nat.reduceSub, Nat.reduceEqDiff, Nat.reduceMul, Nat.reduceLeDiff, Int.reduceBNe, Int.reduceBEq, Nat.reduceLT, reduceCtorEq]
  | some j => simp -implicitDefEqProofs only [↓GP, GB, GL, Nat.reduceAdd, Nat.reduceSub, Nat.reduceEqDiff, Nat.reduceMul, Nat.reduceLeDiff, Int.reduceBNe, Int.reduceBEq, Nat.reduceLT, reduceCtorEq]

theorem s112_none {p r : Nat} {u : List Bool} (h : Holds o s (poolC p r u ++ F)) (hb : u.length ≤ 400) (ht : takeP u = none) : call PF 112 [ptrN p] s = some (.tuple [I (-1), .bool false], s) := by
  have f := Holds.f2 h
  have e := s120 (cp := some u.length) f.2.1.1 hb
  rw [ht] at e
  rw [call_run F112]; simp -implicitDefEqProofs only [↓GP, GB, GL, Nat.reduceAdd, Nat.reduceSub, Nat.reduceEqDiff, Nat.reduceMul, Nat.reduceLeDiff, Int.reduceBNe, Int.reduceBEq, Nat.reduceLT, reduceCtorEq, c112, f, e, Int.reduceNeg, ge_iff_le, Int.reduceLE]

theorem set_map (u : List Bool) (n : Nat) (b : Bool) : (u.map V.bool).set n (.bool b) = (u.set n b).map V.bool := by
  
  apply List.ext_getElem?; intro i; simp only [List.getElem?_set, List.getElem?_map, List.length_map]
  split
  · split <;> rfl
  · rfl

theorem s112 {p r n : Nat} {u : List Bool} (h : Holds o s (poolC p r u ++ F)) (hb : u.length ≤ 400) (ht : takeP u = some n)
    (q : ∀ s', Holds o s' (poolC p r (u.set n true) ++ F) → Q (.tuple [I n, .bool true]) s') : WP (call PF 112 [ptrN p] s) Q := by
  have f := Holds.f2 h
  have e := s120 (cp := some u.length) f.2.1.1 hb
  rw [ht] at e
  have hn : n < u.length := by
    obtain ⟨h1, _⟩ := List.findIdx?_eq_some_iff_getElem.1 ht
    exact h1
  have h0 : ((n : Int) ≥ 0) := by omega
  have hix := ix_cell (sz := 1) (k := r) (off := 0) (c := some u.length) (kk := .i64) hn
  have hl : n < (u.map V.bool).length := by simpa using hn
  rw [call_run F112]; simp -implicitDefEqProofs only [↓GP, GB, GL, Nat.reduceAdd, Nat.reduceSub, Nat.reduceEqDiff, Nat.reduceMul, Nat.reduceLeDiff, Int.reduceBNe, Int.reduceBEq, Nat.reduceLT, reduceCtorEq, c112, f, e, h0, hix, hl, set_map]
  refine q _ ?_
  have := Holds.set1 h (.cells ((u.set n true).map .bool) none)
  simpa [poolC] using this

theorem s57 {h rk n : Nat} {pv : V} {lives : Nat} (hl : lives < 200000) {words : Int} {cs sl : List V} (hn : n < 200000)
    (hh : Holds o s ((h, some (.cells [pv, rowV rk n, I lives] none)) :: (rk, rowO 1 n (cs ++ sl)) :: F)) (hlen : cs.length = n) (h0 : n = 0 → sl = [])
    (q : ∀ s' rk' k m sl', Holds o s' ((h, some (.cells [pv, rowV rk' (n + 1), I (lives + 1 : Nat)] none)) :: (rk', rowO 1 (n + 1) ((cs ++ [ptrN k]) ++ sl')) ::
      (k, some (.cells [I (lives + 1 : Nat), I words, .slice none 0 (some 0), I 0, .slice none 0 (some 0), .map (some (.new m))] none)) :: (m, some (.map [] 0)) :: F) → Q (.tuple []) s') :
    WP (call PF 57 [ptrN h, I words] s) Q := by
  rw [call_run F57]; simp -implicitDefEqProofs only [↓GP, GB, GL, Nat.reduceAdd, Nat.reduceSub, Nat.reduceEqDiff, Nat.reduceMul, Nat.reduceLeDiff, Int.reduceBNe, Int.reduceBEq, Nat.reduceLT, reduceCtorEq, c57, hh.f1, wrap_add1 (show lives < 2 ^ 62 by omega)]
  refine wp_append1 (((((hh.set0 _).alloc _).alloc _).alloc _).r4) (by simpa using hlen) ⟨sl.length, by simp⟩ h0 (new_cells' (alloc_new_same _ _) rfl) rfl rfl (by omega) (by unfold maxRow; omega) (by unfold maxRow; omega) fun rk' s1 sl' _ h2 => ?_
  have f := h2.r1.tl.r3.f1
  simp -implicitDefEqProofs only [↓GP, GB, GL, Nat.reduceAdd, Nat.reduceSub, Nat.reduceEqDiff, Nat.reduceMul, Nat.reduceLeDiff, Int.reduceBNe, Int.reduceBEq, Nat.reduceLT, reduceCtorEq, f]
  exact q _ _ _ _ sl' ((h2.r1.tl.r3).set0 _)

/-- A heap that is none: nil, or dropped. -/
def Gone (C : Ch) (hv : V) : Prop := hv = .ptr none ∨ ∃ h c d, hv = ptrN h ∧ (h, some (.cells [.ptr none, c, d] none)) ∈ C
theorem Gone.mono {D : Ch} {hv : V} (h : Gone C hv) (hs : ∀ x ∈ C, x ∈ D) : Gone D hv := by
  rcases h with h | ⟨k, c, d, h, m⟩
  · exact .inl h
  · exact .inr ⟨k, c, d, h, hs _ m⟩
theorem s71_gone (hC : Holds o s C) {hv : V} (g : Gone C hv) : call PF 71 [hv] s = some (.bool true, s) := by
  rcases g with rfl | ⟨k, c, d, rfl, m⟩
  · rw [call_run F71]; simp -implicitDefEqProofs only [↓GP, GB, GL, Nat.reduceAdd, Nat.reduceSub, Nat.reduceEqDiff, Nat.reduceMul, Nat.reduceLeDiff, Int.reduceBNe, Int.reduceBEq, Nat.reduceLT, reduceCtorEq, c71]
  · have f := hC.mem m
    rw [call_run F71]; simp -implicitDefEqProofs only [↓GP, GB, GL, Nat.reduceAdd, Nat.reduceSub, Nat.reduceEqDiff, Nat.reduceMul, Nat.reduceLeDiff, Int.reduceBNe, Int.reduceBEq, Nat.reduceLT, reduceCtorEq, c71, f]
theorem s71 {h p : Nat} {c d : V} (f : s.new h = some (.cells [ptrN p, c, d] none)) : call PF 71 [ptrN h] s = some (.bool false, s) := by
  rw [call_run F71]; simp -implicitDefEqProofs only [↓GP, GB, GL, Nat.reduceAdd, Nat.reduceSub, Nat.reduceEqDiff, Nat.reduceMul, Nat.reduceLeDiff, Int.reduceBNe, Int.reduceBEq, Nat.reduceLT, reduceCtorEq, c71, f]
theorem s104_gone (hC : Holds o s C) {hv fv : V} (g : Gone C hv) : call PF 104 [hv, fv] s = some (I 6, s) := by
  have e := s71_gone hC g
  rw [call_run F104]; simp -implicitDefEqProofs only [↓GP, GB, GL, Nat.reduceAdd, Nat.reduceSub, Nat.reduceEqDiff, Nat.reduceMul, Nat.reduceLeDiff, Int.reduceBNe, Int.reduceBEq, Nat.reduceLT, reduceCtorEq, c104, e]
theorem s104 {h p g : Nat} {c d : V} {caps : List V} {b : Bool} (f : s.new h = some (.cells [ptrN p, c, d] none)) (hc : call PF g caps s = some (.bool b, s)) :
    call PF 104 [ptrN h, .func g [] caps] s = some (I (if b then 0 else 2), s) := by
  have e := s71 f
  cases b with
  | false => rw [call_run F104]; simp -implicitDefEqProofs only [↓GP, GB, GL, Nat.reduceAdd, Nat.reduceSub, Nat.reduceEqDiff, Nat.reduceMul, Nat.reduceLeDiff, Int.reduceBNe, Int.reduceBEq, Nat.reduceLT, reduceCtorEq, c104, e, hc]
  | true => rw [call_run F104]; simp -implicitDefEqProofs only [↓GP, GB, GL, Nat.reduceAdd, Nat.reduceSub, Nat.reduceEqDiff, Nat.reduceMul, Nat.reduceLeDiff, Int.reduceBNe, Int.reduceBEq, Nat.reduceLT, reduceCtorEq, c104, e, hc]

theorem s110 {h a b : Nat} {n : Int} {pv l : V} {rk m : Nat} (hm : 0 < m) (hm' : m < 2 ^ 62) (f : s.new a = some (.cells [I n] none)) (f' : s.new b = some (.cells [ptrN h] none)) (f'' : s.new h = some (.cells [pv, rowV rk m, l] none)) :
    call PF 110 [ptrN a, ptrN b] s = some (.bool (decide (0 ≤ n) && decide (n ≤ (m - 1 : Nat))), s) := by
  rw [call_run F110]; simp -implicitDefEqProofs only [↓GP, GB, GL, Nat.reduceAdd, Nat.reduceSub, Nat.reduceEqDiff, Nat.reduceMul, Nat.reduceLeDiff, Int.reduceBNe, Int.reduceBEq, Nat.reduceLT, reduceCtorEq, c110, f, f', f'', wrap_sub1 hm' hm, s56]

/-- When a region is asked for and is not: the error. -/
def AtErr (C : Ch) (hv : V) (n err : Int) : Prop := (Gone C hv ∧ err = 6) ∨ (err = 2 ∧ ∃ hp : PHeap, ∃ p, hv = ptrN hp.id ∧ (hp.id, some (hp.hd p)) ∈ C ∧ hp.regs ≠ [] ∧ hp.regs.length < 2 ^ 62 ∧ ¬ (0 ≤ n ∧ n < hp.regs.length))
theorem AtErr.ne {hv : V} {n err : Int} (h : AtErr C hv n err) : err = 6 ∨ err = 2 := by
  rcases h with ⟨_, h⟩ | ⟨h, _⟩
  · exact .inl h
  · exact .inr h

theorem s72_err (hC : Holds o s C) {hv : V} {n err : Int} (e : AtErr C hv n err) (hone : hv.one = true) (hcl : hv.cells = [hv]) (q : ∀ s', Holds o s' C → Q (.tuple [.ptr none, I err]) s') : WP (call PF 72 [hv, I n] s) Q := by
  rcases e with ⟨g, rfl⟩ | ⟨rfl, hp, p, rfl, m1, hne, hlen, hbad⟩
  · have h1 := (hC.alloc (.cells [hv] none)).alloc (.cells [I n] none)
    have e := fun fv => s104_gone (fv := fv) h1 (hv := hv) (g.mono fun x hx => List.mem_cons_of_mem _ (List.mem_cons_of_mem _ hx))
    have e0 : ((6 : Int) != 0) = true := rfl
    rw [call_run F72]; simp -implicitDefEqProofs only [↓GP, GB, GL, Nat.reduceAdd, Nat.reduceSub, Nat.reduceEqDiff, Nat.reduceMul, Nat.reduceLeDiff, Int.reduceBNe, Int.reduceBEq, Nat.reduceLT, reduceCtorEq, c72, hcl, hone, e, e0]
    exact q _ h1.tl.tl
  · have h1 := (hC.alloc (.cells [ptrN hp.id] none)).alloc (.cells [I n] none)
    have f := h1.f2
    have f' := h1.mem (List.mem_cons_of_mem _ (List.mem_cons_of_mem _ m1))
    have hpos : 0 < hp.regs.length := List.length_pos_iff.2 hne
    have hb : (decide (0 ≤ n) && decide (n ≤ (hp.regs.length - 1 : Nat))) = false := by
      rw [Bool.and_eq_false_iff, decide_eq_false_iff_not, decide_eq_false_iff_not]; omega
    have e := s104 (g := 110) (caps := [ptrN (s.next + 1), ptrN s.next]) f'.1 (s110 hpos hlen f.1.1 f.2.1.1 f'.1)
    rw [hb] at e
    rw [call_run F72]; simp -implicitDefEqProofs only [↓GP, GB, GL, Nat.reduceAdd, Nat.reduceSub, Nat.reduceEqDiff, Nat.reduceMul, Nat.reduceLeDiff, Int.reduceBNe, Int.reduceBEq, Nat.reduceLT, reduceCtorEq, c72, e, List.map_cons, Int.reduceBNe]
    exact q _ h1.tl.tl

theorem s72 (hC : Holds o s C) {hp : PHeap} {p i : Nat} (m1 : (hp.id, some (hp.hd p)) ∈ C) (m2 : (hp.rowk, hp.row) ∈ C) (hlen : hp.regs.length < 2 ^ 62) {r : PReg} (hr : hp.regs[i]? = some r) (q : ∀ s', Holds o s' C → Q (.tuple [ptrN r.id, I 0]) s') :
    WP (call PF 72 [ptrN hp.id, I i] s) Q := by
  have h1 := (hC.alloc (.cells [ptrN hp.id] none)).alloc (.cells [I i] none)
  have f := h1.f2
  have f' := h1.mem (List.mem_cons_of_mem _ (List.mem_cons_of_mem _ m1))
  have hi : i < hp.regs.length := (List.getElem?_eq_some_iff.1 hr).1
  unfold PHeap.row at m2
  rw [rowO_pos (by omega)] at m2
  have f2 := hC.mem m2
  have f0 := hC.mem m1
  have hb : (decide (0 ≤ (i : Int)) && decide ((i : Int) ≤ (hp.regs.length - 1 : Nat))) = true := by
    rw [Bool.and_eq_true, decide_eq_true_eq, decide_eq_true_eq]; omega
  have e := s104 (g := 110) (caps := [ptrN (s.next + 1), ptrN s.next]) f'.1 (s110 (by omega) hlen f.1.1 f.2.1.1 f'.1)
  rw [hb] at e
  have hg : (hp.regs.map (fun r => ptrN r.id) ++ hp.sl)[i]? = some (ptrN r.id) := by
    rw [List.getElem?_append_left (by simpa using hi), List.getElem?_map, hr]; rfl
  have f3 : hp.hd p = .cells [ptrN p, rowV hp.rowk hp.regs.length, I hp.lives] none := rfl
  rw [call_run F72]; simp -implicitDefEqProofs only [↓GP, GB, GL, Nat.reduceAdd, Nat.reduceSub, Nat.reduceEqDiff, Nat.reduceMul, Nat.reduceLeDiff, Int.reduceBNe, Int.reduceBEq, Nat.reduceLT, reduceCtorEq, c72, e, f0, f3, f2, ix_row hi, hg]
  exact q _ h1.tl.tl
end
end Go.Proofs.Ytoldkemimhebaaa
