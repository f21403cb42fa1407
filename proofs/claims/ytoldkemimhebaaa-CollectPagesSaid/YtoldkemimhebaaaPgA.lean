/- The pools: what the functions of layer 15 and of its reference do to pools, on the ideal machine. -/
import Derived.Test.YtoldkemimhebaaaIm19
import Derived.Test.YtoldkemimhebaaaRows
set_option linter.unusedSimpArgs false
set_option linter.unusedVariables false
namespace Go.Proofs.Ytoldkemimhebaaa
open Go Go.IM

-- virgate/page.between

def c56 : IFn := ⟨15, [(6, none)],
  (.seq (.region [oa 6 (.mov (.c (.bool false)))] (kp 15 [0,1,2]))
  (.seq (.region [oa 7 (.mov (.t 0)), oa 8 (.mov (.t 1)), oa 9 (.bin .leq (.t 7) (.t 8)), oa 10 (.mov (.t 9)), oc 11 (.mov (.t 1)) 10 tt, oc 12 (.mov (.t 2)) 10 tt, oc 13 (.bin .leq (.t 11) (.t 12)) 10 tt, oa 14 (.pick (.t 10) (.t 13) (.c (.bool false))), oa 6 (.mov (.t 14))] (kp 15 [6]))
  (sr 15 [6])))⟩
theorem F56 : shutF Try.prog 56 = some c56 := by kernel_rfl

-- virgate/page.NewPool

def c17 : IFn := ⟨11, [(2, none), (3, none)],
  (.seq (.region [oa 2 (.mov (.c (.ptr none))), oa 3 (.mov (ai 0))] (kp 11 [0]))
  (.seq (.seq (.region [oa 4 (.mov (.t 0)), oa 5 (.call 56 [(ai 1), (.t 4), (ai 400)]), oa 6 (.un .not (.t 5))] (kp 11 [0,6]))
  (.cond (.t 6)
  (.seq (.region [oa 2 (.mov (.c (.ptr none))), oa 3 (.mov (ai 2))] (kp 11 [2,3]))
  (sr 11 [2,3]))
  (sk 11 [0])))
  (.seq (.region [oa 7 (.mov (.t 0)), oa 8 (.mkSlice 1 [(.bool false)] (.t 7) (.t 7)), oa 9 (.build [(.slice none 0 (some 0))] [(0, 1, (.t 8))]), oa 10 (.box (.t 9)), oa 2 (.mov (.t 10)), oa 3 (.mov (ai 0))] (kp 11 [2,3]))
  (sr 11 [2,3]))))⟩
theorem F17 : shutF Try.prog 17 = some c17 := by kernel_rfl

-- virgate/virgateref15.NewPool

def c18 : IFn := ⟨14, [(2, none), (3, none)],
  (.seq (.region [oa 2 (.mov (.c (.ptr none))), oa 3 (.mov (ai 0))] (kp 14 [0]))
  (.seq (.seq (.region [oa 4 (.mov (.t 0)), oa 5 (.bin .lss (.t 4) (ai 1)), oa 6 (.mov (.t 5)), oc 7 (.mov (.t 0)) 6 ff, oc 8 (.bin .gtr (.t 7) (ai 400)) 6 ff, oa 9 (.pick (.t 6) (.c (.bool true)) (.t 8))] (kp 14 [0,9]))
  (.cond (.t 9)
  (.seq (.region [oa 2 (.mov (.c (.ptr none))), oa 3 (.mov (ai 2))] (kp 14 [2,3]))
  (sr 14 [2,3]))
  (sk 14 [0])))
  (.seq (.region [oa 10 (.mov (.t 0)), oa 11 (.mkSlice 1 [(.bool false)] (.t 10) (.t 10)), oa 12 (.build [(.slice none 0 (some 0))] [(0, 1, (.t 11))]), oa 13 (.box (.t 12)), oa 2 (.mov (.t 13)), oa 3 (.mov (ai 0))] (kp 14 [2,3]))
  (sr 14 [2,3]))))⟩
theorem F18 : shutF Try.prog 18 = some c18 := by kernel_rfl

-- (*virgate/page.Pool).Free

def c19 : IFn := ⟨13, [(2, none)],
  (.seq (.region [oa 2 (.mov (ai 0))] (kp 13 [0]))
  (.seq (.seq (.region [oa 3 (.mov (.t 0)), oa 4 (.eql false .ptr (.t 3) (.c (.ptr none)))] (kp 13 [0,4]))
  (.cond (.t 4)
  (.seq (.region [oa 2 (.mov (ai 0))] (kp 13 [2]))
  (sr 13 [2]))
  (sk 13 [0])))
  (.seq (.region [oa 5 (.mov (.t 0)), oa 6 (.nilCheck (.t 5)), oa 7 (.fieldAddr 0 (.t 6)), oa 8 (.load none (.t 7)), oa 9 (.lenSlice (.t 8)), oa 10 (.mov (.t 0)), oa 11 (.call 21 [(.t 10)]), ob (.again 8 (.load none (.t 7))), oa 12 (.bin .sub (.t 9) (.t 11)), oa 2 (.mov (.t 12))] (kp 13 [2]))
  (sr 13 [2]))))⟩
theorem F19 : shutF Try.prog 19 = some c19 := by kernel_rfl

-- (*virgate/virgateref15.Pool).Free

def c20 : IFn := ⟨13, [(2, none)],
  (.seq (.region [oa 2 (.mov (ai 0))] (kp 13 [0]))
  (.seq (.seq (.region [oa 3 (.mov (.t 0)), oa 4 (.eql false .ptr (.t 3) (.c (.ptr none)))] (kp 13 [0,4]))
  (.cond (.t 4)
  (.seq (.region [oa 2 (.mov (ai 0))] (kp 13 [2]))
  (sr 13 [2]))
  (sk 13 [0])))
  (.seq (.region [oa 5 (.mov (.t 0)), oa 6 (.nilCheck (.t 5)), oa 7 (.fieldAddr 0 (.t 6)), oa 8 (.load none (.t 7)), oa 9 (.lenSlice (.t 8)), oa 10 (.mov (.t 0)), oa 11 (.call 37 [(.t 10)]), ob (.again 8 (.load none (.t 7))), oa 12 (.bin .sub (.t 9) (.t 11)), oa 2 (.mov (.t 12))] (kp 13 [2]))
  (sr 13 [2]))))⟩
theorem F20 : shutF Try.prog 20 = some c20 := by kernel_rfl

-- (*virgate/page.Pool).Used
def l21_0 : IC := (.seq (.seq (.region [oa 14 (.bin .lss (.t 13) (.t 12))] (kp 22 [3,11,12,13,14]))
  (.seq (.cond (.t 14)
  (sk 22 [3,11,12,13])
  (sx 22 [3] 0))
  (.seq (.block 1
  (.seq (.region [oa 15 (.indexAddr 1 (.t 11) (.t 13)), oa 16 (.load none (.t 15)), oa 5 (.mov (.t 16))] (kp 22 [3,5,11,12,13]))
  (.seq (.region [oa 17 (.mov (.t 5))] (kp 22 [3,11,12,13,17]))
  (.cond (.t 17)
  (.region [oa 18 (.mov (.t 3)), oa 19 (.bin .add (.t 18) (ai 1)), oa 3 (.mov (.t 19))] (kp 22 [3,11,12,13]))
  (sk 22 [3,11,12,13])))))
  (.region [oa 20 (.bin .add (.t 13) (ai 1)), oa 13 (.mov (.t 20))] (kp 22 [3,11,12,13])))))
  (sk 22 [3,11,12,13]))
def c21 : IFn := ⟨22, [(2, none)],
  (.seq (.region [oa 2 (.mov (ai 0))] (kp 22 [0]))
  (.seq (.seq (.region [oa 6 (.mov (.t 0)), oa 7 (.eql false .ptr (.t 6) (.c (.ptr none)))] (kp 22 [0,7]))
  (.cond (.t 7)
  (.seq (.region [oa 2 (.mov (ai 0))] (kp 22 [2]))
  (sr 22 [2]))
  (sk 22 [0])))
  (.seq (.region [oa 3 (.mov (ai 0))] (kp 22 [0,3]))
  (.seq (.seq (.region [oa 8 (.mov (.t 0)), oa 9 (.nilCheck (.t 8)), oa 10 (.fieldAddr 0 (.t 9)), oa 11 (.load none (.t 10)), oa 12 (.lenSlice (.t 11)), oa 13 (.mov (ai 0))] (kp 22 [3,11,12,13]))
  (.block 0
  (.seq (sk 22 [3,11,12,13])
  (.loop l21_0))))
  (.seq (.region [oa 21 (.mov (.t 3)), oa 2 (.mov (.t 21))] (kp 22 [2]))
  (sr 22 [2]))))))⟩
theorem F21 : shutF Try.prog 21 = some c21 := by kernel_rfl

-- (*virgate/virgateref15.Pool).Used
def l37_0 : IC := (.seq (.seq (.seq (.region [oa 7 (.mov (.t 4)), oa 8 (.mov (.t 0)), oa 9 (.nilCheck (.t 8)), oa 10 (.fieldAddr 0 (.t 9)), oa 11 (.load none (.t 10)), oa 12 (.lenSlice (.t 11)), oa 13 (.bin .lss (.t 7) (.t 12))] (kp 26 [0,3,4,13]))
  (.cond (.t 13)
  (sk 26 [0,3,4])
  (sx 26 [3] 0)))
  (.seq (.block 1
  (.seq (.region [oa 16 (.mov (.t 0)), oa 17 (.nilCheck (.t 16)), oa 18 (.fieldAddr 0 (.t 17)), oa 19 (.load none (.t 18)), oa 20 (.mov (.t 4)), oa 21 (.indexAddr 1 (.t 19) (.t 20)), oa 22 (.load none (.t 21))] (kp 26 [0,3,4,22]))
  (.cond (.t 22)
  (.region [oa 23 (.mov (.t 3)), oa 24 (.bin .add (.t 23) (ai 1)), oa 3 (.mov (.t 24))] (kp 26 [0,3,4]))
  (sk 26 [0,3,4]))))
  (.region [oa 14 (.mov (.t 4)), oa 15 (.bin .add (.t 14) (ai 1)), oa 4 (.mov (.t 15))] (kp 26 [0,3,4]))))
  (sk 26 [0,3,4]))
def c37 : IFn := ⟨26, [(2, none)],
  (.seq (.region [oa 2 (.mov (ai 0))] (kp 26 [0]))
  (.seq (.seq (.region [oa 5 (.mov (.t 0)), oa 6 (.eql false .ptr (.t 5) (.c (.ptr none)))] (kp 26 [0,6]))
  (.cond (.t 6)
  (.seq (.region [oa 2 (.mov (ai 0))] (kp 26 [2]))
  (sr 26 [2]))
  (sk 26 [0])))
  (.seq (.region [oa 3 (.mov (ai 0))] (kp 26 [0,3]))
  (.seq (.seq (.region [oa 4 (.mov (ai 0))] (kp 26 [0,3,4]))
  (.block 0
  (.seq (sk 26 [0,3,4])
  (.loop l37_0))))
  (.seq (.region [oa 25 (.mov (.t 3)), oa 2 (.mov (.t 25))] (kp 26 [2]))
  (sr 26 [2]))))))⟩
theorem F37 : shutF Try.prog 37 = some c37 := by kernel_rfl

-- virgate/page.New

def c22 : IFn := ⟨21, [(2, none), (3, none)],
  (.seq (.region [oa 2 (.mov (.c (.ptr none))), oa 3 (.mov (ai 0))] (kp 21 [0]))
  (.seq (.seq (.region [oa 5 (.mov (.t 0)), oa 6 (.eql false .ptr (.t 5) (.c (.ptr none))), oa 7 (.mov (.t 6)), oc 8 (.mov (.t 0)) 7 ff, oc 9 (.nilCheck (.t 8)) 7 ff, oc 10 (.fieldAddr 0 (.t 9)) 7 ff, oc 11 (.load none (.t 10)) 7 ff, oc 12 (.lenSlice (.t 11)) 7 ff, oc 13 (.bin .eql (.t 12) (ai 0)) 7 ff, oa 14 (.pick (.t 7) (.c (.bool true)) (.t 13))] (kp 21 [0,14]))
  (.cond (.t 14)
  (.seq (.region [oa 2 (.mov (.c (.ptr none))), oa 3 (.mov (ai 6))] (kp 21 [2,3]))
  (sr 21 [2,3]))
  (sk 21 [0])))
  (.seq (.region [oa 15 (.mov (.t 0)), oa 16 (.build [(.ptr none), (.slice none 0 (some 0)), (.int .i64 (0))] [(0, 1, (.t 15))]), oa 17 (.box (.t 16)), oa 4 (.mov (.t 17))] (kp 21 [4]))
  (.seq (.region [oa 18 (.mov (.t 4)), oa 19 (.call 57 [(.t 18), (ai 0)])] (kp 21 [4]))
  (.seq (.region [oa 20 (.mov (.t 4)), oa 2 (.mov (.t 20)), oa 3 (.mov (ai 0))] (kp 21 [2,3]))
  (sr 21 [2,3]))))))⟩
theorem F22 : shutF Try.prog 22 = some c22 := by kernel_rfl


noncomputable abbrev PF : Nat → Option IFn := shutF Try.prog

section
variable (s : St)
set_option maxRecDepth 10000

theorem s56 (a b c : Int) : call PF 56 [.int .i64 a, .int .i64 b, .int .i64 c] s = some (.bool (decide (a ≤ b) && decide (b ≤ c)), s) := by
  rw [call_run F56]
  by_cases h : a ≤ b
  · simp -implicitDefEqProofs only [↓GP, GR, GL, Nat.reduceAdd, Nat.reduceSub, Nat.reduceEqDiff, Nat.reduceMul, Nat.reduceLeDiff, Int.reduceBNe, Int.reduceBEq, Nat.reduceLT, reduceCtorEq, c56, h]
  · simp -implicitDefEqProofs only [↓GP, GR, GL, Nat.reduceAdd, Nat.reduceSub, Nat.reduceEqDiff, Nat.reduceMul, Nat.reduceLeDiff, Int.reduceBNe, Int.reduceBEq, Nat.reduceLT, reduceCtorEq, c56, h]

theorem s17_bad (n : Int) (h : ¬ (1 ≤ n ∧ n ≤ 400)) : call PF 17 [.int .i64 n] s = some (.tuple [.ptr none, .int .i64 2], s) := by
  rw [call_run F17]
  have h' : (decide (1 ≤ n) && decide (n ≤ 400)) = false := by simpa using h
  simp -implicitDefEqProofs only [↓GP, GR, GL, Nat.reduceAdd, Nat.reduceSub, Nat.reduceEqDiff, Nat.reduceMul, Nat.reduceLeDiff, Int.reduceBNe, Int.reduceBEq, Nat.reduceLT, reduceCtorEq, c17, s56, h']

theorem s17 (n : Int) (h1 : 1 ≤ n) (h2 : n ≤ 400) : call PF 17 [.int .i64 n] s = some (.tuple [.ptr (some ⟨.new (s.next + 1), 0⟩), .int .i64 0], (s.alloc (.cells (zeros [.bool false] n.toNat) none)).alloc (.cells [.slice (some ⟨.new s.next, 0⟩) n.toNat (some n.toNat)] none)) := by
  rw [call_run F17]
  have h' : (decide (1 ≤ n) && decide (n ≤ 400)) = true := by simp [h1, h2]
  have hm := mkV_int (s := s) (bytes := 1) (z := [.bool false]) (k := .i64) (k' := .i64) (l := n) (c := n) (by omega) (by omega) (by omega) (by omega)
  simp -implicitDefEqProofs only [↓GP, GR, GL, Nat.reduceAdd, Nat.reduceSub, Nat.reduceEqDiff, Nat.reduceMul, Nat.reduceLeDiff, Int.reduceBNe, Int.reduceBEq, Nat.reduceLT, reduceCtorEq, c17, s56, h', hm]

theorem s18_bad (n : Int) (h : ¬ (1 ≤ n ∧ n ≤ 400)) : call PF 18 [.int .i64 n] s = some (.tuple [.ptr none, .int .i64 2], s) := by
  rw [call_run F18]
  by_cases h1 : n < 1
  · simp -implicitDefEqProofs only [↓GP, GR, GL, Nat.reduceAdd, Nat.reduceSub, Nat.reduceEqDiff, Nat.reduceMul, Nat.reduceLeDiff, Int.reduceBNe, Int.reduceBEq, Nat.reduceLT, reduceCtorEq, c18, h1]
  · have h2 : n > 400 := by omega
    simp -implicitDefEqProofs only [↓GP, GR, GL, Nat.reduceAdd, Nat.reduceSub, Nat.reduceEqDiff, Nat.reduceMul, Nat.reduceLeDiff, Int.reduceBNe, Int.reduceBEq, Nat.reduceLT, reduceCtorEq, c18, h1, h2]

theorem s18 (n : Int) (h1 : 1 ≤ n) (h2 : n ≤ 400) : call PF 18 [.int .i64 n] s = some (.tuple [.ptr (some ⟨.new (s.next + 1), 0⟩), .int .i64 0], (s.alloc (.cells (zeros [.bool false] n.toNat) none)).alloc (.cells [.slice (some ⟨.new s.next, 0⟩) n.toNat (some n.toNat)] none)) := by
  rw [call_run F18]
  have h1' : ¬ n < 1 := by omega
  have h2' : ¬ n > 400 := by omega
  have hm := mkV_int (s := s) (bytes := 1) (z := [.bool false]) (k := .i64) (k' := .i64) (l := n) (c := n) (by omega) (by omega) (by omega) (by omega)
  simp -implicitDefEqProofs only [↓GP, GR, GL, Nat.reduceAdd, Nat.reduceSub, Nat.reduceEqDiff, Nat.reduceMul, Nat.reduceLeDiff, Int.reduceBNe, Int.reduceBEq, Nat.reduceLT, reduceCtorEq, c18, h1', h2', hm]

theorem count_both : ∀ bs : List Bool, bs.count true + bs.count false = bs.length
  | [] => rfl
  | b :: bs => by
    have := count_both bs
    cases b <;> simp <;> omega

/-- A pool: its object, its row, which pages are in use. -/
def PoolAt (s : St) (p r : Nat) (bs : List Bool) : Prop :=
  s.new p = some (.cells [.slice (some ⟨.new r, 0⟩) bs.length (some bs.length)] none) ∧ s.new r = some (.cells (bs.map .bool) none)

variable {s}
theorem used_loop {r : Nat} {bs : List Bool} {cp : Option Nat}  {K : Kt} (hr : s.new r = some (.cells (bs.map .bool) none)) (hb : bs.length ≤ 400) :
    ∀ (m i c : Nat), i + m = bs.length → c ≤ i →
    loop PF (.loop l21_0) (sp 22 [(3, .int .i64 c), (11, .slice (some ⟨.new r, 0⟩) bs.length cp), (12, .int .i64 bs.length), (13, .int .i64 i)]) s K =
      K (.exit 0) (sp 22 [(3, .int .i64 (c + (bs.drop i).count true : Nat))]) s
  | 0, i, c, hi, hc => by
    have hlt : ¬ ((i : Int) < (bs.length : Int)) := by omega
    refine round fun LL hLL => ?_
    simp -implicitDefEqProofs only [↓GP, GR, GL, Nat.reduceAdd, Nat.reduceSub, Nat.reduceEqDiff, Nat.reduceMul, Nat.reduceLeDiff, Int.reduceBNe, Int.reduceBEq, Nat.reduceLT, reduceCtorEq, l21_0, hlt]
    rw [List.drop_eq_nil_of_le (by omega)]
    rfl
  | m + 1, i, c, hi, hc => by
    have hlt : ((i : Int) < (bs.length : Int)) := by omega
    have hi' : i < bs.length := by omega
    have hix := ix_cell (sz := 1) (k := r) (off := 0) (c := cp) (kk := .i64) hi'
    have hld := load_cell (off := i) hr (v := .bool bs[i]) (by simp [hi'])
    have hw : wrapI .i64 ((i : Int) + 1) = .int .i64 ((i + 1 : Nat) : Int) := by rw [wrap64 (by omega) (by omega)]; rfl
    have hw2 : wrapI .i64 ((c : Int) + 1) = .int .i64 ((c + 1 : Nat) : Int) := by rw [wrap64 (by omega) (by omega)]; rfl
    refine round fun LL hLL => ?_
    have hd : bs.drop i = bs[i] :: bs.drop (i + 1) := List.drop_eq_getElem_cons hi'
    cases hbi : bs[i] with
    | false =>
      rw [hbi] at hld
      simp -implicitDefEqProofs only [↓GP, GR, GL, Nat.reduceAdd, Nat.reduceSub, Nat.reduceEqDiff, Nat.reduceMul, Nat.reduceLeDiff, Int.reduceBNe, Int.reduceBEq, Nat.reduceLT, reduceCtorEq, l21_0, hlt, hix, hld, hw]
      rw [hLL, used_loop hr hb m (i + 1) c (by omega) (by omega), hd, hbi]
      simp
    | true =>
      rw [hbi] at hld
      simp -implicitDefEqProofs only [↓GP, GR, GL, Nat.reduceAdd, Nat.reduceSub, Nat.reduceEqDiff, Nat.reduceMul, Nat.reduceLeDiff, Int.reduceBNe, Int.reduceBEq, Nat.reduceLT, reduceCtorEq, l21_0, hlt, hix, hld, hw, hw2]
      rw [hLL, used_loop hr hb m (i + 1) (c + 1) (by omega) (by omega), hd, hbi]
      simp only [List.count_cons_self, Nat.add_assoc, Nat.add_comm 1]

theorem s21_nil (s : St) : call PF 21 [.ptr none] s = some (.int .i64 0, s) := by
  rw [call_run F21]
  simp -implicitDefEqProofs only [↓GP, GR, GL, Nat.reduceAdd, Nat.reduceSub, Nat.reduceEqDiff, Nat.reduceMul, Nat.reduceLeDiff, Int.reduceBNe, Int.reduceBEq, Nat.reduceLT, reduceCtorEq, c21]

theorem s21 {p r : Nat} {bs : List Bool} (h : PoolAt s p r bs) (hb : bs.length ≤ 400) : call PF 21 [.ptr (some ⟨.new p, 0⟩)] s = some (.int .i64 (bs.count true : Nat), s) := by
  rw [call_run F21]
  have hld := load_cell (off := 0) h.1 rfl
  simp -implicitDefEqProofs only [↓GP, GR, GL, Nat.reduceAdd, Nat.reduceSub, Nat.reduceEqDiff, Nat.reduceMul, Nat.reduceLeDiff, Int.reduceBNe, Int.reduceBEq, Nat.reduceLT, reduceCtorEq, c21, hld]
  refine (used_loop h.2 hb bs.length 0 0 (by omega) (by omega)).trans ?_
  simp -implicitDefEqProofs only [↓GP, GR, GL, Nat.reduceAdd, Nat.reduceSub, Nat.reduceEqDiff, Nat.reduceMul, Nat.reduceLeDiff, Int.reduceBNe, Int.reduceBEq, Nat.reduceLT, reduceCtorEq]

theorem used2_loop {p r : Nat} {bs : List Bool}  {K : Kt} (h : PoolAt s p r bs) (hb : bs.length ≤ 400) :
    ∀ (m i c : Nat), i + m = bs.length → c ≤ i →
    loop PF (.loop l37_0) (sp 26 [(0, .ptr (some ⟨.new p, 0⟩)), (3, .int .i64 c), (4, .int .i64 i)]) s K =
      K (.exit 0) (sp 26 [(3, .int .i64 (c + (bs.drop i).count true : Nat))]) s
  | 0, i, c, hi, hc => by
    have hlt : ¬ ((i : Int) < (bs.length : Int)) := by omega
    have hl0 := load_cell (off := 0) h.1 rfl
    refine round fun LL hLL => ?_
    simp -implicitDefEqProofs only [↓GP, GR, GL, Nat.reduceAdd, Nat.reduceSub, Nat.reduceEqDiff, Nat.reduceMul, Nat.reduceLeDiff, Int.reduceBNe, Int.reduceBEq, Nat.reduceLT, reduceCtorEq, l37_0, hlt, hl0]
    rw [List.drop_eq_nil_of_le (by omega)]
    rfl
  | m + 1, i, c, hi, hc => by
    have hlt : ((i : Int) < (bs.length : Int)) := by omega
    have hi' : i < bs.length := by omega
    have hl0 := load_cell (off := 0) h.1 rfl
    have hix := ix_cell (sz := 1) (k := r) (off := 0) (c := some bs.length) (kk := .i64) hi'
    have hld := load_cell (off := i) h.2 (v := .bool bs[i]) (by simp [hi'])
    have hw : wrapI .i64 ((i : Int) + 1) = .int .i64 ((i + 1 : Nat) : Int) := by rw [wrap64 (by omega) (by omega)]; rfl
    have hw2 : wrapI .i64 ((c : Int) + 1) = .int .i64 ((c + 1 : Nat) : Int) := by rw [wrap64 (by omega) (by omega)]; rfl
    refine round fun LL hLL => ?_
    have hd : bs.drop i = bs[i] :: bs.drop (i + 1) := List.drop_eq_getElem_cons hi'
    cases hbi : bs[i] with
    | false =>
      rw [hbi] at hld
      simp -implicitDefEqProofs only [↓GP, GR, GL, Nat.reduceAdd, Nat.reduceSub, Nat.reduceEqDiff, Nat.reduceMul, Nat.reduceLeDiff, Int.reduceBNe, Int.reduceBEq, Nat.reduceLT, reduceCtorEq, l37_0, hlt, hl0, hix, hld, hw]
      rw [hLL, used2_loop h hb m (i + 1) c (by omega) (by omega), hd, hbi]
      simp
    | true =>
      rw [hbi] at hld
      simp -implicitDefEqProofs only [↓GP, GR, GL, Nat.reduceAdd, Nat.reduceSub, Nat.reduceEqDiff, Nat.reduceMul, Nat.reduceLeDiff, Int.reduceBNe, Int.reduceBEq, Nat.reduceLT, reduceCtorEq, l37_0, hlt, hl0, hix, hld, hw, hw2]
      rw [hLL, used2_loop h hb m (i + 1) (c + 1) (by omega) (by omega), hd, hbi]
      simp only [List.count_cons_self, Nat.add_assoc, Nat.add_comm 1]

theorem s37_nil (s : St) : call PF 37 [.ptr none] s = some (.int .i64 0, s) := by
  rw [call_run F37]
  simp -implicitDefEqProofs only [↓GP, GR, GL, Nat.reduceAdd, Nat.reduceSub, Nat.reduceEqDiff, Nat.reduceMul, Nat.reduceLeDiff, Int.reduceBNe, Int.reduceBEq, Nat.reduceLT, reduceCtorEq, c37]

theorem s37 {p r : Nat} {bs : List Bool} (h : PoolAt s p r bs) (hb : bs.length ≤ 400) : call PF 37 [.ptr (some ⟨.new p, 0⟩)] s = some (.int .i64 (bs.count true : Nat), s) := by
  rw [call_run F37]
  simp -implicitDefEqProofs only [↓GP, GR, GL, Nat.reduceAdd, Nat.reduceSub, Nat.reduceEqDiff, Nat.reduceMul, Nat.reduceLeDiff, Int.reduceBNe, Int.reduceBEq, Nat.reduceLT, reduceCtorEq, c37]
  refine (used2_loop h hb bs.length 0 0 (by omega) (by omega)).trans ?_
  simp -implicitDefEqProofs only [↓GP, GR, GL, Nat.reduceAdd, Nat.reduceSub, Nat.reduceEqDiff, Nat.reduceMul, Nat.reduceLeDiff, Int.reduceBNe, Int.reduceBEq, Nat.reduceLT, reduceCtorEq]

theorem s19_nil (s : St) : call PF 19 [.ptr none] s = some (.int .i64 0, s) := by
  rw [call_run F19]
  simp -implicitDefEqProofs only [↓GP, GR, GL, Nat.reduceAdd, Nat.reduceSub, Nat.reduceEqDiff, Nat.reduceMul, Nat.reduceLeDiff, Int.reduceBNe, Int.reduceBEq, Nat.reduceLT, reduceCtorEq, c19]

theorem s19 {p r : Nat} {bs : List Bool} (h : PoolAt s p r bs) (hb : bs.length ≤ 400) : call PF 19 [.ptr (some ⟨.new p, 0⟩)] s = some (.int .i64 (bs.count false : Nat), s) := by
  rw [call_run F19]
  have hl0 := load_cell (off := 0) h.1 rfl
  have hc : bs.count true + bs.count false = bs.length := count_both bs
  have hw : wrapI .i64 ((bs.length : Int) - (bs.count true : Nat)) = .int .i64 (bs.count false : Nat) := by rw [wrap64 (by omega) (by omega)]; congr 1; omega
  simp -implicitDefEqProofs only [↓GP, GR, GL, Nat.reduceAdd, Nat.reduceSub, Nat.reduceEqDiff, Nat.reduceMul, Nat.reduceLeDiff, Int.reduceBNe, Int.reduceBEq, Nat.reduceLT, reduceCtorEq, c19, hl0, s21 h hb, hw]

theorem s20_nil (s : St) : call PF 20 [.ptr none] s = some (.int .i64 0, s) := by
  rw [call_run F20]
  simp -implicitDefEqProofs only [↓GP, GR, GL, Nat.reduceAdd, Nat.reduceSub, Nat.reduceEqDiff, Nat.reduceMul, Nat.reduceLeDiff, Int.reduceBNe, Int.reduceBEq, Nat.reduceLT, reduceCtorEq, c20]

theorem s20 {p r : Nat} {bs : List Bool} (h : PoolAt s p r bs) (hb : bs.length ≤ 400) : call PF 20 [.ptr (some ⟨.new p, 0⟩)] s = some (.int .i64 (bs.count false : Nat), s) := by
  rw [call_run F20]
  have hl0 := load_cell (off := 0) h.1 rfl
  have hc : bs.count true + bs.count false = bs.length := count_both bs
  have hw : wrapI .i64 ((bs.length : Int) - (bs.count true : Nat)) = .int .i64 (bs.count false : Nat) := by rw [wrap64 (by omega) (by omega)]; congr 1; omega
  simp -implicitDefEqProofs only [↓GP, GR, GL, Nat.reduceAdd, Nat.reduceSub, Nat.reduceEqDiff, Nat.reduceMul, Nat.reduceLeDiff, Int.reduceBNe, Int.reduceBEq, Nat.reduceLT, reduceCtorEq, c20, hl0, s37 h hb, hw]

theorem s22_nil (s : St) : call PF 22 [.ptr none] s = some (.tuple [.ptr none, .int .i64 6], s) := by
  rw [call_run F22]
  simp -implicitDefEqProofs only [↓GP, GR, GL, Nat.reduceAdd, Nat.reduceSub, Nat.reduceEqDiff, Nat.reduceMul, Nat.reduceLeDiff, Int.reduceBNe, Int.reduceBEq, Nat.reduceLT, reduceCtorEq, c22]
end
end Go.Proofs.Ytoldkemimhebaaa
