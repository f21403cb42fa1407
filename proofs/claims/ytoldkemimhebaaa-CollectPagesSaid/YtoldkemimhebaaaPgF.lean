/- The functions of layer 15's reference, on the ideal machine: pools, making, opening, giving back, closing, resetting. -/
import Derived.Test.YtoldkemimhebaaaPgE
import Derived.Test.YtoldkemimhebaaaPg1
set_option linter.unusedSimpArgs false
set_option linter.unusedVariables false
namespace Go.Proofs.Ytoldkemimhebaaa
open Go Go.IM

-- (*virgate/virgateref15.Pool).take
def l121_0 : IC := (.seq (.seq (.seq (.region [oa 4 (.mov (.t 3)), oa 5 (.mov (.t 0)), oa 6 (.nilCheck (.t 5)), oa 7 (.fieldAddr 0 (.t 6)), oa 8 (.load none (.t 7)), oa 9 (.lenSlice (.t 8)), oa 10 (.bin .lss (.t 4) (.t 9))] (kp 28 [0,3,10]))
  (.cond (.t 10)
  (sk 28 [0,3])
  (sx 28 [] 0)))
  (.seq (.block 1
  (.seq (.region [oa 13 (.mov (.t 0)), oa 14 (.nilCheck (.t 13)), oa 15 (.fieldAddr 0 (.t 14)), oa 16 (.load none (.t 15)), oa 17 (.mov (.t 3)), oa 18 (.indexAddr 1 (.t 16) (.t 17)), oa 19 (.load none (.t 18)), oa 20 (.un .not (.t 19))] (kp 28 [0,3,20]))
  (.cond (.t 20)
  (.seq (.region [oa 21 (.mov (.t 0)), oa 22 (.nilCheck (.t 21)), oa 23 (.fieldAddr 0 (.t 22)), oa 24 (.load none (.t 23)), oa 25 (.mov (.t 3)), oa 26 (.indexAddr 1 (.t 24) (.t 25)), ob (.store 1 (.t 26) (.c (.bool true)))] (kp 28 [3]))
  (.seq (.region [oa 27 (.mov (.t 3)), oa 2 (.mov (.t 27))] (kp 28 [2]))
  (sr 28 [2])))
  (sk 28 [0,3]))))
  (.region [oa 11 (.mov (.t 3)), oa 12 (.bin .add (.t 11) (ai 1)), oa 3 (.mov (.t 12))] (kp 28 [0,3]))))
  (sk 28 [0,3]))
def c121 : IFn := ⟨28, [(2, none)],
  (.seq (.region [oa 2 (.mov (ai 0))] (kp 28 [0]))
  (.seq (.seq (.region [oa 3 (.mov (ai 0))] (kp 28 [0,3]))
  (.block 0
  (.seq (sk 28 [0,3])
  (.loop l121_0))))
  (.seq (.region [oa 2 (.mov (ai (-1)))] (kp 28 [2]))
  (sr 28 [2]))))⟩
theorem F121 : shutF Try.prog 121 = some c121 := by kernel_rfl

-- virgate/virgateref15.New

def c58 : IFn := ⟨19, [(2, none), (3, none)],
  (.seq (.region [oa 2 (.mov (.c (.ptr none))), oa 3 (.mov (ai 0))] (kp 19 [0]))
  (.seq (.seq (.region [oa 4 (.mov (.t 0)), oa 5 (.eql false .ptr (.t 4) (.c (.ptr none))), oa 6 (.mov (.t 5)), oc 7 (.mov (.t 0)) 6 ff, oc 8 (.nilCheck (.t 7)) 6 ff, oc 9 (.fieldAddr 0 (.t 8)) 6 ff, oc 10 (.load none (.t 9)) 6 ff, oc 11 (.lenSlice (.t 10)) 6 ff, oc 12 (.bin .eql (.t 11) (ai 0)) 6 ff, oa 13 (.pick (.t 6) (.c (.bool true)) (.t 12))] (kp 19 [0,13]))
  (.cond (.t 13)
  (.seq (.region [oa 2 (.mov (.c (.ptr none))), oa 3 (.mov (ai 6))] (kp 19 [2,3]))
  (sr 19 [2,3]))
  (sk 19 [0])))
  (.seq (.region [oa 14 (.mov (.t 0)), oa 15 (.build [(.int .i64 (0)), (.int .i64 (0)), (.slice none 0 (some 0)), (.int .i64 (0)), (.slice none 0 (some 0))] [(1, 1, (ai 1))]), oa 16 (.buildSlice 1 [(.int .i64 (0)), (.int .i64 (0)), (.slice none 0 (some 0)), (.int .i64 (0)), (.slice none 0 (some 0))] [(0, 5, (.t 15))]), oa 17 (.build [(.ptr none), (.slice none 0 (some 0)), (.int .i64 (0))] [(0, 1, (.t 14)), (1, 1, (.t 16)), (2, 1, (ai 1))]), oa 18 (.box (.t 17)), oa 2 (.mov (.t 18)), oa 3 (.mov (ai 0))] (kp 19 [2,3]))
  (sr 19 [2,3]))))⟩
theorem F58 : shutF Try.prog 58 = some c58 := by kernel_rfl

-- (*virgate/virgateref15.Heap).Open

def c60 : IFn := ⟨47, [(4, none), (5, none)],
  (.seq (.region [oa 4 (.mov (ai 0)), oa 5 (.mov (ai 0))] (kp 47 [0,1]))
  (.seq (.seq (.region [oa 6 (.mov (.t 0)), oa 7 (.call 87 [(.t 6)])] (kp 47 [0,1,7]))
  (.cond (.t 7)
  (.seq (.region [oa 4 (.mov (ai 0)), oa 5 (.mov (ai 6))] (kp 47 [4,5]))
  (sr 47 [4,5]))
  (sk 47 [0,1])))
  (.seq (.seq (.region [oa 8 (.mov (.t 1)), oa 9 (.bin .lss (.t 8) (ai 0)), oa 10 (.mov (.t 9)), oc 11 (.mov (.t 1)) 10 ff, oc 12 (.bin .gtr (.t 11) (ai 31)) 10 ff, oa 13 (.pick (.t 10) (.c (.bool true)) (.t 12))] (kp 47 [0,1,13]))
  (.cond (.t 13)
  (.seq (.region [oa 4 (.mov (ai 0)), oa 5 (.mov (ai 2))] (kp 47 [4,5]))
  (sr 47 [4,5]))
  (sk 47 [0,1])))
  (.seq (.seq (.region [oa 14 (.mov (.t 0)), oa 15 (.nilCheck (.t 14)), oa 16 (.fieldAddr 2 (.t 15)), oa 17 (.load none (.t 16)), oa 18 (.bin .geq (.t 17) (ai 100000))] (kp 47 [0,1,18]))
  (.cond (.t 18)
  (.seq (.region [oa 4 (.mov (ai 0)), oa 5 (.mov (ai 4))] (kp 47 [4,5]))
  (sr 47 [4,5]))
  (sk 47 [0,1])))
  (.seq (.region [oa 19 (.mov (.t 0)), oa 20 (.nilCheck (.t 19)), oa 21 (.fieldAddr 2 (.t 20)), oa 22 (.load none (.t 21)), oa 23 (.bin .add (.t 22) (ai 1)), oa 24 (.nilCheck (.t 19)), oa 25 (.fieldAddr 2 (.t 24)), ob (.store 1 (.t 25) (.t 23))] (kp 47 [0,1]))
  (.seq (.region [oa 26 (.mov (.t 0)), oa 27 (.mov (.t 0)), oa 28 (.nilCheck (.t 27)), oa 29 (.fieldAddr 1 (.t 28)), oa 30 (.load none (.t 29)), oa 31 (.mov (.t 1)), oa 32 (.mov (.t 0)), oa 33 (.nilCheck (.t 32)), oa 34 (.fieldAddr 2 (.t 33)), oa 35 (.load none (.t 34)), oa 36 (.build [(.int .i64 (0)), (.int .i64 (0)), (.slice none 0 (some 0)), (.int .i64 (0)), (.slice none 0 (some 0))] [(0, 1, (.t 31)), (1, 1, (.t 35))]), oa 37 (.buildSlice 1 [(.int .i64 (0)), (.int .i64 (0)), (.slice none 0 (some 0)), (.int .i64 (0)), (.slice none 0 (some 0))] [(0, 5, (.t 36))]), oa 38 (.append 5 72 (.t 30) (.t 37)), oa 39 (.nilCheck (.t 26)), oa 40 (.fieldAddr 1 (.t 39)), ob (.store 1 (.t 40) (.t 38))] (kp 47 [0]))
  (.seq (.region [oa 41 (.mov (.t 0)), oa 42 (.nilCheck (.t 41)), oa 43 (.fieldAddr 1 (.t 42)), oa 44 (.load none (.t 43)), oa 45 (.lenSlice (.t 44)), oa 46 (.bin .sub (.t 45) (ai 1)), oa 4 (.mov (.t 46)), oa 5 (.mov (ai 0))] (kp 47 [4,5]))
  (sr 47 [4,5]))))))))⟩
theorem F60 : shutF Try.prog 60 = some c60 := by kernel_rfl

-- (*virgate/virgateref15.Heap).release
def l88_0 : IC := (.seq (.seq (.seq (.region [oa 14 (.mov (.t 6)), oa 15 (.fieldAddr 2 (.t 5)), oa 16 (.load none (.t 15)), oa 17 (.lenSlice (.t 16)), oa 18 (.bin .lss (.t 14) (.t 17))] (kp 48 [0,1,5,6,18]))
  (.cond (.t 18)
  (sk 48 [0,1,5,6])
  (sx 48 [0,1,5] 0)))
  (.seq (.block 1
  (.region [oa 21 (.mov (.t 0)), oa 22 (.nilCheck (.t 21)), oa 23 (.fieldAddr 0 (.t 22)), oa 24 (.load none (.t 23)), oa 25 (.nilCheck (.t 24)), oa 26 (.fieldAddr 0 (.t 25)), oa 27 (.load none (.t 26)), oa 28 (.fieldAddr 2 (.t 5)), oa 29 (.load none (.t 28)), oa 30 (.mov (.t 6)), oa 31 (.indexAddr 1 (.t 29) (.t 30)), oa 32 (.load none (.t 31)), oa 33 (.indexAddr 1 (.t 27) (.t 32)), ob (.store 1 (.t 33) (.c (.bool false)))] (kp 48 [0,1,5,6])))
  (.region [oa 19 (.mov (.t 6)), oa 20 (.bin .add (.t 19) (ai 1)), oa 6 (.mov (.t 20))] (kp 48 [0,1,5,6]))))
  (sk 48 [0,1,5,6]))
def c88 : IFn := ⟨48, [(4, none)],
  (.seq (.region [oa 4 (.mov (ai 0))] (kp 48 [0,1]))
  (.seq (.region [oa 7 (.mov (.t 0)), oa 8 (.nilCheck (.t 7)), oa 9 (.fieldAddr 1 (.t 8)), oa 10 (.load none (.t 9)), oa 11 (.mov (.t 1)), oa 12 (.indexAddr 5 (.t 10) (.t 11)), oa 13 (.load (some 5) (.t 12)), oa 5 (.alloc [(.int .i64 (0)), (.int .i64 (0)), (.slice none 0 (some 0)), (.int .i64 (0)), (.slice none 0 (some 0))]), ob (.store 5 (.t 5) (.t 13))] (kp 48 [0,1,5]))
  (.seq (.seq (.region [oa 6 (.mov (ai 0))] (kp 48 [0,1,5,6]))
  (.block 0
  (.seq (sk 48 [0,1,5,6])
  (.loop l88_0))))
  (.seq (.region [oa 34 (.mov (.t 0)), oa 35 (.nilCheck (.t 34)), oa 36 (.fieldAddr 1 (.t 35)), oa 37 (.load none (.t 36)), oa 38 (.mov (.t 1)), oa 39 (.fieldAddr 0 (.t 5)), oa 40 (.load none (.t 39)), oa 41 (.fieldAddr 1 (.t 5)), oa 42 (.load none (.t 41)), oa 43 (.build [(.int .i64 (0)), (.int .i64 (0)), (.slice none 0 (some 0)), (.int .i64 (0)), (.slice none 0 (some 0))] [(0, 1, (.t 40)), (1, 1, (.t 42))]), oa 44 (.indexAddr 5 (.t 37) (.t 38)), ob (.store 5 (.t 44) (.t 43))] (kp 48 [5]))
  (.seq (.region [oa 45 (.fieldAddr 2 (.t 5)), oa 46 (.load none (.t 45)), oa 47 (.lenSlice (.t 46)), oa 4 (.mov (.t 47))] (kp 48 [4]))
  (sr 48 [4]))))))⟩
theorem F88 : shutF Try.prog 88 = some c88 := by kernel_rfl

-- (*virgate/virgateref15.Heap).Close

def c61 : IFn := ⟨29, [(2, none), (3, none)],
  (.seq (.region [oa 2 (.mov (ai 0)), oa 3 (.mov (ai 0))] (kp 29 [0]))
  (.seq (.seq (.region [oa 6 (.mov (.t 0)), oa 7 (.call 87 [(.t 6)])] (kp 29 [0,7]))
  (.cond (.t 7)
  (.seq (.region [oa 2 (.mov (ai 0)), oa 3 (.mov (ai 6))] (kp 29 [2,3]))
  (sr 29 [2,3]))
  (sk 29 [0])))
  (.seq (.region [oa 8 (.mov (.t 0)), oa 9 (.nilCheck (.t 8)), oa 10 (.fieldAddr 1 (.t 9)), oa 11 (.load none (.t 10)), oa 12 (.lenSlice (.t 11)), oa 13 (.bin .sub (.t 12) (ai 1)), oa 4 (.mov (.t 13))] (kp 29 [0,4]))
  (.seq (.seq (.region [oa 14 (.mov (.t 4)), oa 15 (.bin .eql (.t 14) (ai 0))] (kp 29 [0,4,15]))
  (.cond (.t 15)
  (.seq (.region [oa 2 (.mov (ai 0)), oa 3 (.mov (ai 5))] (kp 29 [2,3]))
  (sr 29 [2,3]))
  (sk 29 [0,4])))
  (.seq (.region [oa 16 (.mov (.t 0)), oa 17 (.mov (.t 4)), oa 18 (.call 88 [(.t 16), (.t 17)]), oa 5 (.mov (.t 18))] (kp 29 [0,4,5]))
  (.seq (.region [oa 19 (.mov (.t 0)), oa 20 (.mov (.t 0)), oa 21 (.nilCheck (.t 20)), oa 22 (.fieldAddr 1 (.t 21)), oa 23 (.load none (.t 22)), oa 24 (.mov (.t 4)), oa 25 (.slice 5 (.t 23) none (some (.t 24)) none), oa 26 (.nilCheck (.t 19)), oa 27 (.fieldAddr 1 (.t 26)), ob (.store 1 (.t 27) (.t 25))] (kp 29 [5]))
  (.seq (.region [oa 28 (.mov (.t 5)), oa 2 (.mov (.t 28)), oa 3 (.mov (ai 0))] (kp 29 [2,3]))
  (sr 29 [2,3]))))))))⟩
theorem F61 : shutF Try.prog 61 = some c61 := by kernel_rfl

-- (*virgate/virgateref15.Heap).Reset

def c62 : IFn := ⟨42, [(4, none), (5, none)],
  (.seq (.region [oa 4 (.mov (ai 0)), oa 5 (.mov (ai 0))] (kp 42 [0,1]))
  (.seq (.seq (.region [oa 6 (.mov (.t 0)), oa 7 (.call 87 [(.t 6)])] (kp 42 [0,1,7]))
  (.cond (.t 7)
  (.seq (.region [oa 4 (.mov (ai 0)), oa 5 (.mov (ai 6))] (kp 42 [4,5]))
  (sr 42 [4,5]))
  (sk 42 [0,1])))
  (.seq (.seq (.region [oa 8 (.mov (.t 0)), oa 9 (.mov (.t 1)), oa 10 (.call 106 [(.t 8), (.t 9)]), oa 11 (.un .not (.t 10))] (kp 42 [0,1,11]))
  (.cond (.t 11)
  (.seq (.region [oa 4 (.mov (ai 0)), oa 5 (.mov (ai 2))] (kp 42 [4,5]))
  (sr 42 [4,5]))
  (sk 42 [0,1])))
  (.seq (.seq (.region [oa 12 (.mov (.t 0)), oa 13 (.nilCheck (.t 12)), oa 14 (.fieldAddr 2 (.t 13)), oa 15 (.load none (.t 14)), oa 16 (.bin .geq (.t 15) (ai 100000))] (kp 42 [0,1,16]))
  (.cond (.t 16)
  (.seq (.region [oa 4 (.mov (ai 0)), oa 5 (.mov (ai 4))] (kp 42 [4,5]))
  (sr 42 [4,5]))
  (sk 42 [0,1])))
  (.seq (.region [oa 17 (.mov (.t 0)), oa 18 (.mov (.t 1)), oa 19 (.call 88 [(.t 17), (.t 18)])] (kp 42 [0,1]))
  (.seq (.region [oa 20 (.mov (.t 0)), oa 21 (.nilCheck (.t 20)), oa 22 (.fieldAddr 2 (.t 21)), oa 23 (.load none (.t 22)), oa 24 (.bin .add (.t 23) (ai 1)), oa 25 (.nilCheck (.t 20)), oa 26 (.fieldAddr 2 (.t 25)), ob (.store 1 (.t 26) (.t 24))] (kp 42 [0,1]))
  (.seq (.region [oa 27 (.mov (.t 0)), oa 28 (.nilCheck (.t 27)), oa 29 (.fieldAddr 1 (.t 28)), oa 30 (.load none (.t 29)), oa 31 (.mov (.t 1)), oa 32 (.mov (.t 0)), oa 33 (.nilCheck (.t 32)), oa 34 (.fieldAddr 2 (.t 33)), oa 35 (.load none (.t 34)), oa 36 (.indexAddr 5 (.t 30) (.t 31)), oa 37 (.fieldAddr 1 (.t 36)), ob (.store 1 (.t 37) (.t 35))] (kp 42 [0]))
  (.seq (.region [oa 38 (.mov (.t 0)), oa 39 (.nilCheck (.t 38)), oa 40 (.fieldAddr 2 (.t 39)), oa 41 (.load none (.t 40)), oa 4 (.mov (.t 41)), oa 5 (.mov (ai 0))] (kp 42 [4,5]))
  (sr 42 [4,5])))))))))⟩
theorem F62 : shutF Try.prog 62 = some c62 := by kernel_rfl

-- (*virgate/virgateref15.Heap).Drop
def l39_0 : IC := (.seq (.seq (.seq (.region [oa 3 (.mov (.t 0)), oa 4 (.call 87 [(.t 3)]), oa 5 (.un .not (.t 4)), oa 6 (.mov (.t 5)), oc 7 (.mov (.t 2)) 6 tt, oc 8 (.mov (.t 0)) 6 tt, oc 9 (.nilCheck (.t 8)) 6 tt, oc 10 (.fieldAddr 1 (.t 9)) 6 tt, oc 11 (.load none (.t 10)) 6 tt, oc 12 (.lenSlice (.t 11)) 6 tt, oc 13 (.bin .lss (.t 7) (.t 12)) 6 tt, oa 14 (.pick (.t 6) (.t 13) (.c (.bool false)))] (kp 25 [0,2,14]))
  (.cond (.t 14)
  (sk 25 [0,2])
  (sx 25 [0] 0)))
  (.seq (.block 1
  (.region [oa 17 (.mov (.t 0)), oa 18 (.mov (.t 2)), oa 19 (.call 88 [(.t 17), (.t 18)])] (kp 25 [0,2])))
  (.region [oa 15 (.mov (.t 2)), oa 16 (.bin .add (.t 15) (ai 1)), oa 2 (.mov (.t 16))] (kp 25 [0,2]))))
  (sk 25 [0,2]))
def c39 : IFn := ⟨25, [],
  (.seq (.seq (.region [oa 2 (.mov (ai 0))] (kp 25 [0,2]))
  (.block 0
  (.seq (sk 25 [0,2])
  (.loop l39_0))))
  (.seq (.region [oa 20 (.mov (.t 0)), oa 21 (.eql true .ptr (.t 20) (.c (.ptr none)))] (kp 25 [0,21]))
  (.cond (.t 21)
  (.region [oa 22 (.mov (.t 0)), oa 23 (.nilCheck (.t 22)), oa 24 (.fieldAddr 1 (.t 23)), ob (.store 1 (.t 24) (.c (.slice none 0 (some 0))))] (kp 25 []))
  (sk 25 []))))⟩
theorem F39 : shutF Try.prog 39 = some c39 := by kernel_rfl


theorem RHeap.againV (h : RHeap) (s : St) : againV h.rv h.rv s = some (.any, s) := by unfold RHeap.rv; split; exact againV_row _ _ _; exact againV_slice _ _ _ _
theorem set_mid {α : Type} (A B : List α) (x y : α) : (A ++ x :: B).set A.length y = A ++ y :: B := by simp
theorem rset5 {h : RHeap} {A B : List RReg} {g : RReg} (hr : h.regs = A ++ g :: B) (g' : RReg) (s : St) : stC 5 h.rowk (A.length * 5) (.agg g'.enc) s (some h.row) = some (s.set h.rowk ({ h with regs := A ++ g' :: B } : RHeap).row) := by
  have h1 := tab_set RReg.enc_len h.sl g' h.regs A.length 0 g'.enc g (by rw [hr]; simp) (Nat.le_refl _) (by
    unfold over; simp [RReg.enc])
  rw [Nat.add_zero, hr, set_mid] at h1
  have hle : A.length * 5 + 5 ≤ ((A ++ g :: B).flatMap RReg.enc ++ h.sl).length := by
    rw [List.length_append, tab_len RReg.enc_len]; simp; omega
  unfold RHeap.row
  rw [stC_some, cells_agg, hr, if_pos ⟨rfl, hle, RReg.enc_one g'⟩, h1]
theorem rset1 {h : RHeap} {A B : List RReg} {g : RReg} (hr : h.regs = A ++ g :: B) {f : Nat} {v : V} (hf : f < 5) (hv : v.one = true) {g' : RReg} (he : g.enc.set f v = g'.enc) (s : St) : stC1 h.rowk (A.length * 5 + f) [v] s (some h.row) = some (s.set h.rowk ({ h with regs := A ++ g' :: B } : RHeap).row) := by
  have h1 := tab_set RReg.enc_len h.sl g' h.regs A.length f [v] g (by rw [hr]; simp) (by simp; omega) (by rw [over_one _ _ _ (by rw [RReg.enc_len]; exact hf), he])
  rw [hr, set_mid] at h1
  have hle : A.length * 5 + f < ((A ++ g :: B).flatMap RReg.enc ++ h.sl).length := by
    rw [List.length_append, tab_len RReg.enc_len]; simp; omega
  unfold RHeap.row
  rw [stC1_some, hr, if_pos ⟨hle, hv⟩, ← over_one _ _ _ hle, h1]

section
variable {o : Nat → Option O} {s : St} {C F : Ch} {Q : V → St → Prop}
set_option maxRecDepth 10000

theorem rtake_loop {p r : Nat} {u : List Bool}  {K : Kt} (hb : u.length ≤ 400) :
    ∀ (m i : Nat) (s : St), i + m = u.length → Holds o s (poolC p r u ++ C) →
    (((u.drop i).findIdx? (! ·)) = none → WP (K (.exit 0) (sp 28 []) s) Q) →
    (∀ j, ((u.drop i).findIdx? (! ·)) = some j → ∀ s', Holds o s' (poolC p r (u.set (i + j) true) ++ C) → WP (K .ret (sp 28 [(2, I (i + j : Nat))]) s') Q) →
    WP (loop PF (.loop l121_0) (sp 28 [(0, ptrN p), (3, I i)]) s K) Q
  | 0, i, s, hi, H, qn, qs => by
    have hlt : ¬ ((i : Int) < (u.length : Int)) := by omega
    have f := Holds.f2 H
    refine wp_round fun LL hLL => ?_
    simp -implicitDefEqProofs only [↓GP, GB, GL, Nat.reduceAdd, Nat.reduceSub, Nat.reduceEqDiff, Nat.reduceMul, Nat.reduceLeDiff, Int.reduceBNe, Int.reduceBEq, Nat.reduceLT, reduceCtorEq, l121_0, hlt, f]
    exact qn (by rw [List.drop_eq_nil_of_le (by omega)]; rfl)
  | m + 1, i, s, hi, H, qn, qs => by
    have hlt : ((i : Int) < (u.length : Int)) := by omega
    have hi' : i < u.length := by omega
    have hd : u.drop i = u[i] :: u.drop (i + 1) := List.drop_eq_getElem_cons hi'
    have f := Holds.f2 H
    have hix := ix_cell (sz := 1) (k := r) (off := 0) (c := some u.length) (kk := .i64) hi'
    have hg : (u.map V.bool)[i]? = some (.bool u[i]) := by simp [hi']
    have hw := wrap_add1 (a := i) (by omega)
    have hl : i < (u.map V.bool).length := by simpa using hi'
    rw [hd, List.findIdx?_cons] at qn qs
    refine wp_round fun LL hLL => ?_
    cases hbi : u[i] with
    | false =>
      rw [hbi] at hg qs
      simp -implicitDefEqProofs only [↓GP, GB, GL, Nat.reduceAdd, Nat.reduceSub, Nat.reduceEqDiff, Nat.reduceMul, Nat.reduceLeDiff, Int.reduceBNe, Int.reduceBEq, Nat.reduceLT, reduceCtorEq, l121_0, hlt, f, hix, hg, hl, set_map]
      refine qs 0 (by simp) _ ?_
      have := Holds.set1 H (.cells ((u.set i true).map .bool) none)
      simpa [poolC] using this
    | true =>
      rw [hbi] at hg qn qs
      simp -implicitDefEqProofs only [↓GP, GB, GL, Nat.reduceAdd, Nat.reduceSub, Nat.reduceEqDiff, Nat.reduceMul, Nat.reduceLeDiff, Int.reduceBNe, Int.reduceBEq, Nat.reduceLT, reduceCtorEq, l121_0, hlt, f, hix, hg, hw]
      rw [hLL]
      refine rtake_loop hb m (i + 1) s (by omega) H (fun h => qn (by simp [h])) fun j hj s' h' => ?_
      have := qs (j + 1) (by simp [hj]) s' (by rw [show i + (j + 1) = i + 1 + j by omega]; exact h')
      rw [show i + 1 + j = i + (j + 1) by omega]
      exact this

theorem s121 {p r : Nat} {u : List Bool} (H : Holds o s (poolC p r u ++ F)) (hb : u.length ≤ 400)
    (qn : takeP u = none → ∀ s', Holds o s' (poolC p r u ++ F) → Q (I (-1)) s')
    (qs : ∀ n, takeP u = some n → ∀ s', Holds o s' (poolC p r (u.set n true) ++ F) → Q (I n) s') : WP (call PF 121 [ptrN p] s) Q := by
  rw [call_run F121]; simp -implicitDefEqProofs only [↓GP, GB, GL, Nat.reduceAdd, Nat.reduceSub, Nat.reduceEqDiff, Nat.reduceMul, Nat.reduceLeDiff, Int.reduceBNe, Int.reduceBEq, Nat.reduceLT, reduceCtorEq, c121]
  refine rtake_loop hb u.length 0 s (by omega) H (fun h => ?_) fun j hj s' h' => ?_
  · simp -implicitDefEqProofs only [↓GP, GB, GL, Nat.reduceAdd, Nat.reduceSub, Nat.reduceEqDiff, Nat.reduceMul, Nat.reduceLeDiff, Int.reduceBNe, Int.reduceBEq, Nat.reduceLT, reduceCtorEq]
    exact qn (by rw [List.drop_zero] at h; exact h) s H
  · simp -implicitDefEqProofs only [↓GP, GB, GL, Nat.reduceAdd, Nat.reduceSub, Nat.reduceEqDiff, Nat.reduceMul, Nat.reduceLeDiff, Int.reduceBNe, Int.reduceBEq, Nat.reduceLT, reduceCtorEq]
    rw [List.drop_zero] at hj
    rw [Nat.zero_add] at h'
    exact qs j hj s' h'

theorem s58 {p r : Nat} {u : List Bool} (H : Holds o s (poolC p r u ++ F)) (h0 : 0 < u.length)
    (q : ∀ s' id rk, Holds o s' (poolC p r u ++ (RHeap.ch p ⟨id, rk, false, 1, [⟨0, 0, 0, 1, 0, [], []⟩], []⟩ ++ F)) → Q (.tuple [ptrN id, I 0]) s') : WP (call PF 58 [ptrN p] s) Q := by
  have f := Holds.f2 H
  have hz : ((u.length : Int) == 0) = false := by rw [beq_eq_false_iff_ne]; omega
  rw [call_run F58]; simp -implicitDefEqProofs only [↓GP, GB, GL, Nat.reduceAdd, Nat.reduceSub, Nat.reduceEqDiff, Nat.reduceMul, Nat.reduceLeDiff, Int.reduceBNe, Int.reduceBEq, Nat.reduceLT, reduceCtorEq, c58, f, hz]
  have h1 := (H.alloc (.cells [I 0, I 1, .slice none 0 (some 0), I 0, .slice none 0 (some 0)] none)).alloc (.cells [ptrN p, slN s.next 1, I 1] none)
  refine q _ (s.next + 1) s.next (Holds.of (h1) (fun k => by simp +arith only [RHeap.hd, RHeap.row, RHeap.rv, RReg.enc, rowV_zero, List.length_nil, List.length_cons, Int.natCast_zero, Nat.zero_add, alloc_next, Bool.false_eq_true, if_false, Int.cast_ofNat_Int, HA, HB]) (fun k x => by simp only [RHeap.hd, RHeap.row, RHeap.rv, RReg.enc, rowV_zero, List.length_nil, List.length_cons, Int.natCast_zero, Nat.zero_add, alloc_next, Bool.false_eq_true, if_false, Int.cast_ofNat_Int, HA, HC]; grind only))

theorem s60_gone (hC : Holds o s C) {hv : V} {n : Int} (g : RGone C hv) : call PF 60 [hv, I n] s = some (.tuple [I 0, I 6], s) := by
  have e := s87_gone hC g
  rw [call_run F60]; simp -implicitDefEqProofs only [↓GP, GB, GL, Nat.reduceAdd, Nat.reduceSub, Nat.reduceEqDiff, Nat.reduceMul, Nat.reduceLeDiff, Int.reduceBNe, Int.reduceBEq, Nat.reduceLT, reduceCtorEq, c60, e]
theorem s60_bad (hC : Holds o s C) {hr : RHeap} {p : Nat} {n : Int} (hin : RIn C p hr) (h0 : hr.regs ≠ []) (hb : ¬ (0 ≤ n ∧ n ≤ 31)) : call PF 60 [ptrN hr.id, I n] s = some (.tuple [I 0, I 2], s) := by
  have e := s87 hC hin h0
  by_cases h1 : n < 0
  · rw [call_run F60]; simp -implicitDefEqProofs only [↓GP, GB, GL, Nat.reduceAdd, Nat.reduceSub, Nat.reduceEqDiff, Nat.reduceMul, Nat.reduceLeDiff, Int.reduceBNe, Int.reduceBEq, Nat.reduceLT, reduceCtorEq, c60, e, h1]
  · have h2 : (n > 31) := by omega
    rw [call_run F60]; simp -implicitDefEqProofs only [↓GP, GB, GL, Nat.reduceAdd, Nat.reduceSub, Nat.reduceEqDiff, Nat.reduceMul, Nat.reduceLeDiff, Int.reduceBNe, Int.reduceBEq, Nat.reduceLT, reduceCtorEq, c60, e, h1, h2]
theorem s60_full (hC : Holds o s C) {hr : RHeap} {p : Nat} {n : Int} (hin : RIn C p hr) (h0 : hr.regs ≠ []) (hb : 0 ≤ n ∧ n ≤ 31) (hl : 100000 ≤ hr.lives) : call PF 60 [ptrN hr.id, I n] s = some (.tuple [I 0, I 4], s) := by
  have e := s87 hC hin h0
  have f := hC.mem hin.id
  simp only [RHeap.hd] at f
  have h1 : ¬ n < 0 := by omega
  have h2 : ¬ (n > 31) := by omega
  have h3 : ((hr.lives : Int) ≥ 100000) := by omega
  rw [call_run F60]; simp -implicitDefEqProofs only [↓GP, GB, GL, Nat.reduceAdd, Nat.reduceSub, Nat.reduceEqDiff, Nat.reduceMul, Nat.reduceLeDiff, Int.reduceBNe, Int.reduceBEq, Nat.reduceLT, reduceCtorEq, c60, e, f, h1, h2, h3]
/-- What is grown is known. -/
def RGrown (hr : RHeap) : Prop := (hr.grown = false → hr.sl = []) ∧ ∃ j, hr.sl.length = j * 5
theorem s60 {hr : RHeap} {p words : Nat} (H : Holds o s (hr.ch p ++ F)) (h0 : hr.regs ≠ []) (hg : RGrown hr) (hlen : hr.regs.length < 100000) (hb : words ≤ 31) (hl : hr.lives < 100000)
    (q : ∀ s' rk sl, RGrown { hr with rowk := rk, grown := true, lives := hr.lives + 1, regs := hr.regs ++ [⟨0, 0, words, hr.lives + 1, 0, [], []⟩], sl := sl } →
      Holds o s' (({ hr with rowk := rk, grown := true, lives := hr.lives + 1, regs := hr.regs ++ [⟨0, 0, words, hr.lives + 1, 0, [], []⟩], sl := sl } : RHeap).ch p ++ F) → Q (.tuple [I hr.regs.length, I 0]) s') : WP (call PF 60 [ptrN hr.id, I words] s) Q := by
  have hin : RIn (hr.ch p ++ F) p hr := ⟨fun x hx => List.mem_append_left _ hx⟩
  have e := s87 H hin h0
  have f := H.mem hin.id
  simp only [RHeap.hd] at f
  have h1 : ¬ ((words : Int) < 0) := by omega
  have h2 : ¬ ((words : Int) > 31) := by omega
  have h3 : ¬ ((hr.lives : Int) ≥ 100000) := by omega
  have w1 := wrap_add1 (a := hr.lives) (by omega)
  have w2 : wrapI .i64 (((hr.regs.length + 1 : Nat) : Int) - 1) = I (hr.regs.length : Nat) := by rw [wrap_sub1 (by omega) (by omega)]; rfl
  have H1 : Holds o s ((hr.id, some (.cells [ptrN p, hr.rv, I hr.lives] none)) :: (hr.rowk, some hr.row) :: (hr.regs.flatMap RReg.ch ++ F)) := H
  have H2 := (H1.set0 (.cells [ptrN p, hr.rv, I (hr.lives + 1 : Nat)] none)).alloc (.cells [I words, I (hr.lives + 1 : Nat), .slice none 0 (some 0), I 0, .slice none 0 (some 0)] none)
  rw [call_run F60]; simp -implicitDefEqProofs only [↓GP, GB, GL, Nat.reduceAdd, Nat.reduceSub, Nat.reduceEqDiff, Nat.reduceMul, Nat.reduceLeDiff, Int.reduceBNe, Int.reduceBEq, Nat.reduceLT, reduceCtorEq, c60, e, f, h1, h2, h3, w1]
  have fin : ∀ rv rk s1 sl, (∃ j, sl.length = j * 5) → Holds o s1 ((rk, some (.cells ((hr.regs.flatMap RReg.enc ++ [I words, I (hr.lives + 1 : Nat), .slice none 0 (some 0), I 0, .slice none 0 (some 0)]) ++ sl) (some 5))) :: (hr.id, some (.cells [ptrN p, rv, I (hr.lives + 1 : Nat)] none)) :: (hr.regs.flatMap RReg.ch ++ F)) →
      Holds o (s1.set hr.id (.cells [ptrN p, rowV rk (hr.regs.length + 1), I (hr.lives + 1 : Nat)] none)) (({ hr with rowk := rk, grown := true, lives := hr.lives + 1, regs := hr.regs ++ [⟨0, 0, words, hr.lives + 1, 0, [], []⟩], sl := sl } : RHeap).ch p ++ F) ∧ RGrown { hr with rowk := rk, grown := true, lives := hr.lives + 1, regs := hr.regs ++ [⟨0, 0, words, hr.lives + 1, 0, [], []⟩], sl := sl } := by
    intro rv rk s1 sl hj h
    refine ⟨?_, (fun h => by cases h), hj⟩
    have h2 := h.set1 (.cells [ptrN p, rowV rk (hr.regs.length + 1), I (hr.lives + 1 : Nat)] none)
    exact (Holds.of (h2) (fun k => by simp +arith only [RHeap.hd, RHeap.row, RHeap.rv, RReg.enc, rowV_zero, List.length_nil, List.length_cons, List.length_append, Int.natCast_zero, Nat.zero_add, if_true, HA, HB]) (fun k x => by simp only [RHeap.hd, RHeap.row, RHeap.rv, RReg.enc, rowV_zero, List.length_nil, List.length_cons, List.length_append, Int.natCast_zero, Nat.zero_add, if_true, HA, HC]; grind only))
  cases hgr : hr.grown with
  | false =>
    have hsl := hg.1 hgr
    have hrv : hr.rv = slN hr.rowk hr.regs.length := by unfold RHeap.rv; rw [hgr]; rfl
    have hrow : hr.row = .cells (hr.regs.flatMap RReg.enc) none := by unfold RHeap.row; rw [hgr, hsl]; simp
    rw [hrow] at H2
    rw [hrv] at H2 ⊢
    refine wp_append_cap (cs := hr.regs.flatMap RReg.enc) (H2.r2) (by rw [tab_len RReg.enc_len]) (new_cells' (alloc_new_same _ _) rfl) (by omega) (by omega) (by unfold maxRow; omega) (by unfold maxRow; omega) fun rk s1 h => ?_
    have f := h.r2.f1
    simp -implicitDefEqProofs only [↓GP, GB, GL, Nat.reduceAdd, Nat.reduceSub, Nat.reduceEqDiff, Nat.reduceMul, Nat.reduceLeDiff, Int.reduceBNe, Int.reduceBEq, Nat.reduceLT, reduceCtorEq, f, w2]
    obtain ⟨k1, k2⟩ := fin _ rk s1 [] ⟨0, by simp⟩ (by rw [List.append_nil]; exact h.r1.tl)
    exact q _ rk [] k2 k1
  | true =>
    have hrv : hr.rv = rowV hr.rowk hr.regs.length := by unfold RHeap.rv; rw [hgr]; rfl
    have hrow : some hr.row = rowO 5 hr.regs.length (hr.regs.flatMap RReg.enc ++ hr.sl) := by unfold RHeap.row; rw [hgr, rowO_pos (List.length_pos_iff.2 h0)]; rfl
    rw [hrow] at H2
    rw [hrv] at H2 ⊢
    refine wp_append1 (cs := hr.regs.flatMap RReg.enc) (sl := hr.sl) (H2.r2) (by rw [tab_len RReg.enc_len]) hg.2 (fun h => absurd (List.length_eq_zero_iff.1 h) h0) (new_cells' (alloc_new_same _ _) rfl) rfl rfl (by omega) (by unfold maxRow; omega) (by unfold maxRow; omega) fun rk s1 sl hj h => ?_
    rw [rowO_pos (by omega)] at h
    have f := h.r2.f1
    simp -implicitDefEqProofs only [↓GP, GB, GL, Nat.reduceAdd, Nat.reduceSub, Nat.reduceEqDiff, Nat.reduceMul, Nat.reduceLeDiff, Int.reduceBNe, Int.reduceBEq, Nat.reduceLT, reduceCtorEq, f, w2]
    obtain ⟨k1, k2⟩ := fin _ rk s1 sl hj h.r1.tl
    exact q _ rk sl k2 k1

theorem release_loop {h p r t pgk : Nat} {pages : List Nat} {c d a0 a1 a3 a4 : V} {K : Kt} (mh : (h, some (.cells [ptrN p, c, d] none)) ∈ C) (mt : (t, some (.cells [a0, a1, rowV pgk pages.length, a3, a4] none)) ∈ C) (mp : (pgk, pagesO pages) ∈ C) (hpl : pages.length ≤ 400) {n : V} :
    ∀ (m i : Nat) (u : List Bool) (s : St), i + m = pages.length → u.length ≤ 400 → (∀ x ∈ pages, x < u.length) → Holds o s (poolC p r u ++ C) →
    (∀ s', Holds o s' (poolC p r (freeP u (pages.drop i)) ++ C) → WP (K (.exit 0) (sp 48 [(0, ptrN h), (1, n), (5, ptrN t)]) s') Q) →
    WP (loop PF (.loop l88_0) (sp 48 [(0, ptrN h), (1, n), (5, ptrN t), (6, I i)]) s K) Q
  | 0, i, u, s, hi, hu, hx, H, q => by
    have hlt : ¬ ((i : Int) < (pages.length : Int)) := by omega
    have ft := H.mem (List.mem_append_right _ mt)
    refine wp_round fun LL hLL => ?_
    simp -implicitDefEqProofs only [↓GP, GB, GL, Nat.reduceAdd, Nat.reduceSub, Nat.reduceEqDiff, Nat.reduceMul, Nat.reduceLeDiff, Int.reduceBNe, Int.reduceBEq, Nat.reduceLT, reduceCtorEq, l88_0, hlt, ft]
    refine q _ ?_
    rw [List.drop_eq_nil_of_le (by omega)]
    exact H
  | m + 1, i, u, s, hi, hu, hx, H, q => by
    have hlt : ((i : Int) < (pages.length : Int)) := by omega
    have hi' : i < pages.length := by omega
    have fh := H.mem (List.mem_append_right _ mh)
    have ft := H.mem (List.mem_append_right _ mt)
    rw [pagesO, rowO_pos (by omega)] at mp
    have fp := H.mem (List.mem_append_right _ mp)
    have f := Holds.f2 H
    have hpi : pages[i] < u.length := hx _ (List.getElem_mem hi')
    have hl : pages[i] < (u.map V.bool).length := by simpa using hpi
    have hw := wrap_add1 (a := i) (by omega)
    refine wp_round fun LL hLL => ?_
    simp -implicitDefEqProofs only [↓GP, GB, GL, Nat.reduceAdd, Nat.reduceSub, Nat.reduceEqDiff, Nat.reduceMul, Nat.reduceLeDiff, Int.reduceBNe, Int.reduceBEq, Nat.reduceLT, reduceCtorEq, l88_0, hlt, ix_row hi', fp, fh, ft, f, pages_get hi', ix_cell hpi, hl, set_map, hw]
    rw [hLL]
    refine release_loop (r := r) mh mt (by rw [pagesO, rowO_pos (by omega)]; exact mp) hpl m (i + 1) (u.set pages[i] false) _ (by omega) (by simpa using hu) (by simpa using hx) ?_ fun s' h' => q s' ?_
    · have := Holds.set1 H (.cells ((u.set pages[i] false).map .bool) none)
      simpa [poolC] using this
    · rw [List.drop_eq_getElem_cons hi']; exact h'

theorem s88 {hr : RHeap} {p r : Nat} {u : List Bool} {A B : List RReg} {g : RReg} (H : Holds o s (poolC p r u ++ (hr.ch p ++ F))) (hre : hr.regs = A ++ g :: B) (hu : u.length ≤ 400) (hp : ∀ x ∈ g.pages, x < u.length) (hpl : g.pages.length ≤ 400)
    (q : ∀ s', Holds o s' (poolC p r (freeP u g.pages) ++ (({ hr with regs := A ++ { g with fill := 0, pages := [], objs := [] } :: B } : RHeap).ch p ++ (g.objs.flatMap RObj.ch ++ F))) → Q (I g.pages.length) s') : WP (call PF 88 [ptrN hr.id, I A.length] s) Q := by
  have hin : RIn (poolC p r u ++ (hr.ch p ++ F)) p hr := ⟨fun x hx => List.mem_append_right _ (List.mem_append_left _ hx)⟩
  have f := H.mem hin.id
  have fr := H.mem hin.row
  simp only [RHeap.hd] at f
  have hg : hr.regs[A.length]? = some g := by rw [hre]; simp
  rw [call_run F88]; simp -implicitDefEqProofs only [↓GP, GB, GL, Nat.reduceAdd, Nat.reduceSub, Nat.reduceEqDiff, Nat.reduceMul, Nat.reduceLeDiff, Int.reduceBNe, Int.reduceBEq, Nat.reduceLT, reduceCtorEq, c88, f, fr, rreg hg, RReg.enc]
  have h1 := (H.alloc (.cells [I 0, I 0, .slice none 0 (some 0), I 0, .slice none 0 (some 0)] none)).set0 (.cells [I g.size, I g.life, rowV g.pgk g.pages.length, I g.fill, rowV g.obk g.objs.length] none)
  generalize (s.alloc (.cells [I 0, I 0, .slice none 0 (some 0), I 0, .slice none 0 (some 0)] none)).set s.next (.cells [I g.size, I g.life, rowV g.pgk g.pages.length, I g.fill, rowV g.obk g.objs.length] none) = S at h1 ⊢
  have h2 : Holds o S (poolC p r u ++ ((s.next, some (.cells [I g.size, I g.life, rowV g.pgk g.pages.length, I g.fill, rowV g.obk g.objs.length] none)) :: (hr.ch p ++ F))) := (Holds.of (h1) (fun k => by simp +arith only [HA, HB]) (fun k x => by simp only [HA, HC]; grind only))
  refine release_loop (r := r) (u := u) (c := hr.rv) (d := I hr.lives) (h := hr.id) (by simp [RHeap.ch, RHeap.hd]) (List.mem_cons_self ..) (by simp [RHeap.ch, hre, RReg.ch]) hpl g.pages.length 0 S (by omega) hu hp h2 fun s1 h3 => ?_
  rw [List.drop_zero] at h3
  have h4 : Holds o s1 ((s.next, some (.cells [I g.size, I g.life, rowV g.pgk g.pages.length, I g.fill, rowV g.obk g.objs.length] none)) :: (hr.rowk, some hr.row) :: (hr.id, some (hr.hd p)) :: (poolC p r (freeP u g.pages) ++ (hr.regs.flatMap RReg.ch ++ F))) := (Holds.of (h3) (fun k => by simp +arith only [HA, HB]) (fun k x => by simp only [HA, HC]; grind only))
  have f := h4.f3
  simp only [RHeap.hd] at f
  have hset := rset5 hre { g with fill := 0, pages := [], objs := [] }
  simp only [RReg.enc, List.length_nil, rowV_zero, Int.natCast_zero] at hset
  simp -implicitDefEqProofs only [↓GP, GB, GL, Nat.reduceAdd, Nat.reduceSub, Nat.reduceEqDiff, Nat.reduceMul, Nat.reduceLeDiff, Int.reduceBNe, Int.reduceBEq, Nat.reduceLT, reduceCtorEq, f, rreg hg, hset]
  refine q _ (Holds.of (h4.set1 _) (fun k => by simp +arith only [RHeap.hd, RHeap.rv, RHeap.row, hre, List.length_append, List.length_cons, HA, HB]) (fun k x => by simp only [RHeap.hd, RHeap.rv, RHeap.row, hre, List.length_append, List.length_cons, HA, HC]; grind only))

theorem s61_gone (hC : Holds o s C) {hv : V} (g : RGone C hv) : call PF 61 [hv] s = some (.tuple [I 0, I 6], s) := by
  have e := s87_gone hC g
  rw [call_run F61]; simp -implicitDefEqProofs only [↓GP, GB, GL, Nat.reduceAdd, Nat.reduceSub, Nat.reduceEqDiff, Nat.reduceMul, Nat.reduceLeDiff, Int.reduceBNe, Int.reduceBEq, Nat.reduceLT, reduceCtorEq, c61, e]
theorem s61_one (hC : Holds o s C) {hr : RHeap} {p : Nat} (hin : RIn C p hr) (h1 : hr.regs.length = 1) : call PF 61 [ptrN hr.id] s = some (.tuple [I 0, I 5], s) := by
  have e := s87 hC hin (List.length_pos_iff.1 (by omega))
  have f := hC.mem hin.id
  simp only [RHeap.hd] at f
  have w : wrapI .i64 (((1 : Nat) : Int) - 1) = I 0 := by rw [wrap64 (by omega) (by omega)]; rfl
  have w' : wrapI .i64 ((1 : Int) - 1) = I 0 := by rw [wrap64 (by omega) (by omega)]; rfl
  rw [call_run F61]; simp -implicitDefEqProofs only [↓GP, GB, GL, Nat.reduceAdd, Nat.reduceSub, Nat.reduceEqDiff, Nat.reduceMul, Nat.reduceLeDiff, Int.reduceBNe, Int.reduceBEq, Nat.reduceLT, reduceCtorEq, c61, e, f, hr.rv_len, h1, w, w', Int.cast_ofNat_Int]
theorem s61 {hr : RHeap} {p r : Nat} {u : List Bool} {A : List RReg} {g : RReg} (H : Holds o s (poolC p r u ++ (hr.ch p ++ F))) (hre : hr.regs = A ++ [g]) (hA : A ≠ []) (hgr : hr.grown = true) (hlen : hr.regs.length ≤ 100000) (hu : u.length ≤ 400)
    (hp : ∀ x ∈ g.pages, x < u.length) (hpl : g.pages.length ≤ 400)
    (q : ∀ s' sl, (∃ j, sl.length = hr.sl.length + j * 5) → Holds o s' (poolC p r (freeP u g.pages) ++ (({ hr with regs := A, sl := sl } : RHeap).ch p ++ F)) → Q (.tuple [I g.pages.length, I 0]) s') : WP (call PF 61 [ptrN hr.id] s) Q := by
  have hin : RIn (poolC p r u ++ (hr.ch p ++ F)) p hr := ⟨fun x hx => List.mem_append_right _ (List.mem_append_left _ hx)⟩
  have e := s87 H hin (by rw [hre]; simp)
  have f := H.mem hin.id
  have hrl : hr.regs.length = A.length + 1 := by rw [hre]; simp
  have hApos : 0 < A.length := List.length_pos_iff.2 hA
  simp only [RHeap.hd] at f
  have hw : wrapI .i64 (((A.length + 1 : Nat) : Int) - 1) = I (A.length : Nat) := by rw [wrap_sub1 (by omega) (by omega)]; rfl
  have hne : ((A.length : Int) == 0) = false := by rw [beq_eq_false_iff_ne]; omega
  rw [call_run F61]; simp -implicitDefEqProofs only [↓GP, GB, GL, Nat.reduceAdd, Nat.reduceSub, Nat.reduceEqDiff, Nat.reduceMul, Nat.reduceLeDiff, Int.reduceBNe, Int.reduceBEq, Nat.reduceLT, reduceCtorEq, c61, e, f, hr.rv_len, hrl, hw, hne]
  refine wp_in (s88 (g := g) (B := []) (A := A) H hre hu hp hpl fun s1 h1 => ?_)
  have hrv : RHeap.rv { hr with regs := A ++ [{ g with fill := 0, pages := [], objs := [] }] } = rowV hr.rowk (A.length + 1) := by unfold RHeap.rv; simp [hgr]
  have h2 : Holds o s1 ((hr.id, some (.cells [ptrN p, rowV hr.rowk (A.length + 1), I hr.lives] none)) :: (poolC p r (freeP u g.pages) ++ ((hr.rowk, some (.cells (A.flatMap RReg.enc ++ ([I g.size, I g.life, .slice none 0 (some 0), I 0, .slice none 0 (some 0)] ++ hr.sl)) (some 5))) :: (A.flatMap RReg.ch ++ F)))) :=
    (Holds.of (h1) (fun k => by simp +arith only [RHeap.hd, hrv, RHeap.row, RReg.enc, hgr, if_true, List.length_nil, rowV_zero, Int.natCast_zero, HA, HB]) (fun k x => by simp only [RHeap.hd, hrv, RHeap.row, RReg.enc, hgr, if_true, List.length_nil, rowV_zero, Int.natCast_zero, HA, HC]; grind only))
  have f := h2.f1
  simp -implicitDefEqProofs only [↓GP, GB, GL, Nat.reduceAdd, Nat.reduceSub, Nat.reduceEqDiff, Nat.reduceMul, Nat.reduceLeDiff, Int.reduceBNe, Int.reduceBEq, Nat.reduceLT, reduceCtorEq, f, slice_row hApos (show A.length ≤ A.length + 1 by omega), Option.map_none]
  refine q _ ([I g.size, I g.life, .slice none 0 (some 0), I 0, .slice none 0 (some 0)] ++ hr.sl) ⟨1, by simp only [List.length_append, List.length_cons, List.length_nil]; omega⟩ (Holds.of (h2.set0 (.cells [ptrN p, rowV hr.rowk A.length, I hr.lives] none)) (fun k => by simp +arith only [RHeap.hd, RHeap.rv, RHeap.row, hgr, if_true, HA, HB]) (fun k x => by simp only [RHeap.hd, RHeap.rv, RHeap.row, hgr, if_true, HA, HC]; grind only))

theorem s62_err (hC : Holds o s C) {hv : V} {n err : Int} (e : RAtErr C hv n err) : call PF 62 [hv, I n] s = some (.tuple [I 0, I err], s) := by
  rcases e with ⟨g, rfl⟩ | ⟨rfl, hr, p, rfl, hin, h0, hb⟩
  · have e := s87_gone hC g
    rw [call_run F62]; simp -implicitDefEqProofs only [↓GP, GB, GL, Nat.reduceAdd, Nat.reduceSub, Nat.reduceEqDiff, Nat.reduceMul, Nat.reduceLeDiff, Int.reduceBNe, Int.reduceBEq, Nat.reduceLT, reduceCtorEq, c62, e]
  · have e := s87 hC hin h0
    have e2 := s106 hC hin n
    rw [is_false hb] at e2
    rw [call_run F62]; simp -implicitDefEqProofs only [↓GP, GB, GL, Nat.reduceAdd, Nat.reduceSub, Nat.reduceEqDiff, Nat.reduceMul, Nat.reduceLeDiff, Int.reduceBNe, Int.reduceBEq, Nat.reduceLT, reduceCtorEq, c62, e, e2]
theorem s62_full (hC : Holds o s C) {hr : RHeap} {p i : Nat} (hin : RIn C p hr) (hi : i < hr.regs.length) (hl : 100000 ≤ hr.lives) : call PF 62 [ptrN hr.id, I i] s = some (.tuple [I 0, I 4], s) := by
  have e := s87 hC hin (List.length_pos_iff.1 (by omega))
  have e2 := s106 hC hin i
  rw [is_true hi] at e2
  have f := hC.mem hin.id
  simp only [RHeap.hd] at f
  have h3 : ((hr.lives : Int) ≥ 100000) := by omega
  rw [call_run F62]; simp -implicitDefEqProofs only [↓GP, GB, GL, Nat.reduceAdd, Nat.reduceSub, Nat.reduceEqDiff, Nat.reduceMul, Nat.reduceLeDiff, Int.reduceBNe, Int.reduceBEq, Nat.reduceLT, reduceCtorEq, c62, e, e2, f, h3]
theorem s62 {hr : RHeap} {p r : Nat} {u : List Bool} {A B : List RReg} {g : RReg} (H : Holds o s (poolC p r u ++ (hr.ch p ++ F))) (hre : hr.regs = A ++ g :: B) (hlen : hr.regs.length ≤ 100000) (hl : hr.lives < 100000) (hu : u.length ≤ 400) (hp : ∀ x ∈ g.pages, x < u.length) (hpl : g.pages.length ≤ 400)
    (q : ∀ s', Holds o s' (poolC p r (freeP u g.pages) ++ (({ hr with lives := hr.lives + 1, regs := A ++ { g with life := hr.lives + 1, fill := 0, pages := [], objs := [] } :: B } : RHeap).ch p ++ F)) → Q (.tuple [I (hr.lives + 1 : Nat), I 0]) s') : WP (call PF 62 [ptrN hr.id, I A.length] s) Q := by
  have hin : RIn (poolC p r u ++ (hr.ch p ++ F)) p hr := ⟨fun x hx => List.mem_append_right _ (List.mem_append_left _ hx)⟩
  have hi : A.length < hr.regs.length := by rw [hre]; simp
  have e := s87 H hin (by rw [hre]; simp)
  have e2 := s106 H hin A.length
  rw [is_true hi] at e2
  have f := H.mem hin.id
  simp only [RHeap.hd] at f
  have h3 : ¬ ((hr.lives : Int) ≥ 100000) := by omega
  have w1 := wrap_add1 (a := hr.lives) (by omega)
  rw [call_run F62]; simp -implicitDefEqProofs only [↓GP, GB, GL, Nat.reduceAdd, Nat.reduceSub, Nat.reduceEqDiff, Nat.reduceMul, Nat.reduceLeDiff, Int.reduceBNe, Int.reduceBEq, Nat.reduceLT, reduceCtorEq, c62, e, e2, f, h3]
  refine wp_in (s88 (g := g) (A := A) (B := B) H hre hu hp hpl fun s1 h1 => ?_)
  have hre' : ({ hr with regs := A ++ { g with fill := 0, pages := [], objs := [] } :: B } : RHeap).regs = A ++ { g with fill := 0, pages := [], objs := [] } :: B := rfl
  have h2 : Holds o s1 ((hr.id, some (.cells [ptrN p, RHeap.rv { hr with regs := A ++ { g with fill := 0, pages := [], objs := [] } :: B }, I hr.lives] none)) :: (hr.rowk, some (RHeap.row { hr with regs := A ++ { g with fill := 0, pages := [], objs := [] } :: B })) :: (poolC p r (freeP u g.pages) ++ (A.flatMap RReg.ch ++ (B.flatMap RReg.ch ++ F)))) :=
    (Holds.of (h1) (fun k => by simp +arith only [RHeap.hd, HA, HB]) (fun k x => by simp only [RHeap.hd, HA, HC]; grind only))
  have hset := rset1 hre' (f := 1) (v := I (hr.lives + 1 : Nat)) (by omega) rfl (g' := { g with life := hr.lives + 1, fill := 0, pages := [], objs := [] }) rfl
  have hrr := rreg (h := { hr with regs := A ++ { g with fill := 0, pages := [], objs := [] } :: B }) (i := A.length) (g := { g with fill := 0, pages := [], objs := [] }) (by simp)
  have f := h2.f2
  simp -implicitDefEqProofs only [↓GP, GB, GL, Nat.reduceAdd, Nat.reduceSub, Nat.reduceEqDiff, Nat.reduceMul, Nat.reduceLeDiff, Int.reduceBNe, Int.reduceBEq, Nat.reduceLT, reduceCtorEq, f, w1, hset, hrr]
  refine q _ (Holds.of ((h2.set0 (.cells [ptrN p, RHeap.rv { hr with regs := A ++ { g with fill := 0, pages := [], objs := [] } :: B }, I (hr.lives + 1 : Nat)] none)).set1 (RHeap.row { hr with regs := A ++ { g with life := hr.lives + 1, fill := 0, pages := [], objs := [] } :: B })) (fun k => by simp +arith only [RHeap.hd, RHeap.rv, RHeap.row, List.length_append, List.length_cons, HA, HB]) (fun k x => by simp only [RHeap.hd, RHeap.rv, RHeap.row, List.length_append, List.length_cons, HA, HC]; grind only))

theorem rdrop_loop {hr : RHeap} {p r : Nat} {K : Kt} (hlen : hr.regs.length ≤ 100000) (h0 : hr.regs ≠ []) :
    ∀ (m i : Nat) (u : List Bool) (s : St) (D : List RReg), i + m = hr.regs.length → D.length = i → u.length ≤ 400 → (∀ g ∈ hr.regs, (∀ x ∈ g.pages, x < u.length) ∧ g.pages.length ≤ 400) →
    Holds o s (poolC p r u ++ (({ hr with regs := D ++ hr.regs.drop i } : RHeap).ch p ++ C)) →
    (∀ s' D', D' ≠ [] → Holds o s' (poolC p r (freeAll u ((hr.regs.drop i).map (·.pages))) ++ (({ hr with regs := D' } : RHeap).ch p ++ C)) → WP (K (.exit 0) (sp 25 [(0, ptrN hr.id)]) s') Q) →
    WP (loop PF (.loop l39_0) (sp 25 [(0, ptrN hr.id), (2, I i)]) s K) Q
  | 0, i, u, s, D, hi, hD, hu, hx, H, q => by
    have hin : RIn (poolC p r u ++ (({ hr with regs := D ++ hr.regs.drop i } : RHeap).ch p ++ C)) p { hr with regs := D ++ hr.regs.drop i } := ⟨fun x hx => List.mem_append_right _ (List.mem_append_left _ hx)⟩
    have hpos := List.length_pos_iff.2 h0
    have hne : ({ hr with regs := D ++ hr.regs.drop i } : RHeap).regs ≠ [] := by
      have : D ≠ [] := by intro h; rw [h] at hD; simp at hD; omega
      exact List.append_ne_nil_of_left_ne_nil this _
    have e := s87 H hin hne
    have f := H.mem hin.id
    simp only [RHeap.hd] at f
    have hlt : ¬ ((i : Int) < ((D ++ hr.regs.drop i).length : Int)) := by simp; omega
    have hl := RHeap.rv_len { hr with regs := D ++ hr.regs.drop i }
    refine wp_round fun LL hLL => ?_
    simp only [List.length_append] at hlt hl
    simp -implicitDefEqProofs only [↓GP, GB, GL, Nat.reduceAdd, Nat.reduceSub, Nat.reduceEqDiff, Nat.reduceMul, Nat.reduceLeDiff, Int.reduceBNe, Int.reduceBEq, Nat.reduceLT, reduceCtorEq, l39_0, e, f, hl, hlt]
    refine q _ (D ++ hr.regs.drop i) hne ?_
    rw [show freeAll u ((hr.regs.drop i).map (·.pages)) = u by rw [List.drop_eq_nil_of_le (by omega)]; rfl]
    exact H
  | m + 1, i, u, s, D, hi, hD, hu, hx, H, q => by
    have hin : RIn (poolC p r u ++ (({ hr with regs := D ++ hr.regs.drop i } : RHeap).ch p ++ C)) p { hr with regs := D ++ hr.regs.drop i } := ⟨fun x hx => List.mem_append_right _ (List.mem_append_left _ hx)⟩
    have hi' : i < hr.regs.length := by omega
    have hd : hr.regs.drop i = hr.regs[i] :: hr.regs.drop (i + 1) := List.drop_eq_getElem_cons hi'
    have hne : ({ hr with regs := D ++ hr.regs.drop i } : RHeap).regs ≠ [] := by rw [hd]; exact List.append_ne_nil_of_right_ne_nil _ (List.cons_ne_nil _ _)
    have e := s87 H hin hne
    have f := H.mem hin.id
    simp only [RHeap.hd] at f
    have hlt : ((i : Int) < ((D ++ hr.regs.drop i).length : Int)) := by simp; omega
    have hl := RHeap.rv_len { hr with regs := D ++ hr.regs.drop i }
    have hw := wrap_add1 (a := i) (by omega)
    have hx' := hx hr.regs[i] (List.getElem_mem hi')
    refine wp_round fun LL hLL => ?_
    simp only [List.length_append] at hlt hl
    simp -implicitDefEqProofs only [↓GP, GB, GL, Nat.reduceAdd, Nat.reduceSub, Nat.reduceEqDiff, Nat.reduceMul, Nat.reduceLeDiff, Int.reduceBNe, Int.reduceBEq, Nat.reduceLT, reduceCtorEq, l39_0, e, f, hl, hlt]
    have h88 := fun Q' => s88 (o := o) (s := s) (F := C) (Q := Q') (hr := { hr with regs := D ++ hr.regs.drop i }) (p := p) (r := r) (u := u) (A := D) (B := hr.regs.drop (i + 1)) (g := hr.regs[i]) H (by rw [hd]) hu hx'.1 hx'.2
    rw [hD] at h88
    refine wp_in (h88 _ fun s1 h1 => ?_)
    simp -implicitDefEqProofs only [↓GP, GB, GL, Nat.reduceAdd, Nat.reduceSub, Nat.reduceEqDiff, Nat.reduceMul, Nat.reduceLeDiff, Int.reduceBNe, Int.reduceBEq, Nat.reduceLT, reduceCtorEq, hw]
    rw [hLL]
    refine rdrop_loop (p := p) (r := r) hlen h0 m (i + 1) (freeP u hr.regs[i].pages) s1 (D ++ [{ hr.regs[i] with fill := 0, pages := [], objs := [] }]) (by omega) (by simp; omega) (by rw [freeP_len]; exact hu) (by rw [freeP_len]; exact hx) ?_ fun s' D' hD' h' => q s' D' hD' ?_
    · rw [List.append_assoc]
      exact h1.dropMidR
    · rw [hd]; exact h'

theorem s39_gone (hC : Holds o s C) {hv : V} (g : RGone C hv) (hn : hv = .ptr none) : call PF 39 [hv] s = some (.tuple [], s) := by
  have e := s87_gone hC g
  subst hn
  rw [call_run F39]; simp -implicitDefEqProofs only [↓GP, GB, GL, Nat.reduceAdd, Nat.reduceSub, Nat.reduceEqDiff, Nat.reduceMul, Nat.reduceLeDiff, Int.reduceBNe, Int.reduceBEq, Nat.reduceLT, reduceCtorEq, c39]
  refine round fun LL hLL => ?_
  simp -implicitDefEqProofs only [↓GP, GB, GL, Nat.reduceAdd, Nat.reduceSub, Nat.reduceEqDiff, Nat.reduceMul, Nat.reduceLeDiff, Int.reduceBNe, Int.reduceBEq, Nat.reduceLT, reduceCtorEq, l39_0, e]
theorem s39 {hr : RHeap} {p r : Nat} {u : List Bool} (H : Holds o s (poolC p r u ++ (hr.ch p ++ F))) (h0 : hr.regs ≠ []) (hlen : hr.regs.length ≤ 100000) (hu : u.length ≤ 400)
    (hx : ∀ g ∈ hr.regs, (∀ x ∈ g.pages, x < u.length) ∧ g.pages.length ≤ 400)
    (q : ∀ s', Holds o s' (poolC p r (freeAll u (hr.regs.map (·.pages))) ++ ((hr.id, some (.cells [ptrN p, .slice none 0 (some 0), I hr.lives] none)) :: F)) → Q (.tuple []) s') : WP (call PF 39 [ptrN hr.id] s) Q := by
  rw [call_run F39]; simp -implicitDefEqProofs only [↓GP, GB, GL, Nat.reduceAdd, Nat.reduceSub, Nat.reduceEqDiff, Nat.reduceMul, Nat.reduceLeDiff, Int.reduceBNe, Int.reduceBEq, Nat.reduceLT, reduceCtorEq, c39]
  refine rdrop_loop (p := p) (r := r) hlen h0 hr.regs.length 0 u s [] (by omega) rfl hu hx (by simpa using H) fun s1 D' hD h1 => ?_
  rw [List.drop_zero] at h1
  have h2 : Holds o s1 ((hr.id, some (RHeap.hd p { hr with regs := D' })) :: (poolC p r (freeAll u (hr.regs.map (·.pages))) ++ F)) := (Holds.of (h1) (fun k => by simp +arith only [HA, HB]) (fun k x => by simp only [HA, HC]; grind only))
  have f := h2.f1
  simp only [RHeap.hd] at f
  simp -implicitDefEqProofs only [↓GP, GB, GL, Nat.reduceAdd, Nat.reduceSub, Nat.reduceEqDiff, Nat.reduceMul, Nat.reduceLeDiff, Int.reduceBNe, Int.reduceBEq, Nat.reduceLT, reduceCtorEq, f]
  exact q _ (Holds.of (h2.set0 (.cells [ptrN p, .slice none 0 (some 0), I hr.lives] none)) (fun k => by simp +arith only [HA, HB]) (fun k x => by simp only [HA, HC]; grind only))
end
end Go.Proofs.Ytoldkemimhebaaa
