/- Layer 16: heaps that are made by acts, and roots. -/
import Derived.Test.YtoldkemimhebaaaPg2
set_option linter.unusedSimpArgs false
set_option linter.unusedVariables false
namespace Go.Proofs.Ytoldkemimhebaaa
open Go Go.IM

-- virgate/virgatelaw16.Long

def c40 : IFn := ⟨19, [(6, none)],
  (.seq (.region [oa 6 (.mov (.c (.bool false)))] (kp 19 [0,1,2]))
  (.seq (.region [oa 7 (.mov (.t 0)), oa 8 (.call 24 [(.t 7)]), oa 9 (.mov (.t 8)), oc 10 (.mov (.t 1)) 9 ff, oc 11 (.lenSlice (.t 10)) 9 ff, oc 12 (.bin .gtr (.t 11) (ai 40)) 9 ff, oa 13 (.pick (.t 9) (.c (.bool true)) (.t 12)), oa 14 (.mov (.t 13)), oc 15 (.mov (.t 2)) 14 ff, oc 16 (.lenSlice (.t 15)) 14 ff, oc 17 (.bin .gtr (.t 16) (ai 20)) 14 ff, oa 18 (.pick (.t 14) (.c (.bool true)) (.t 17)), oa 6 (.mov (.t 18))] (kp 19 [6]))
  (sr 19 [6])))⟩
theorem F40 : shutF Try.prog 40 = some c40 := by kernel_rfl

-- virgate/virgatelaw16.Made
def l42_0 : IC := (.seq (.seq (.seq (.region [oa 17 (.mov (.t 8)), oa 18 (.mov (.t 0)), oa 19 (.lenSlice (.t 18)), oa 20 (.bin .lss (.t 17) (.t 19))] (kp 35 [0,4,8,20]))
  (.cond (.t 20)
  (sk 35 [0,4,8])
  (sx 35 [4] 0)))
  (.seq (.block 1
  (.seq (.region [oa 23 (.mov (.t 4)), oa 24 (.indexAddr 1 (.t 23) (ai 0)), oa 25 (.load none (.t 24)), oa 26 (.mov (.t 0)), oa 27 (.mov (.t 8)), oa 28 (.indexAddr 11 (.t 26) (.t 27)), oa 29 (.load (some 11) (.t 28)), oa 30 (.call 26 [(.t 25), (.t 29)]), oa 31 (.un .not (.t 30))] (kp 35 [0,4,8,31]))
  (.cond (.t 31)
  (.seq (.region [oa 2 (.mov (.c (.ptr none))), oa 3 (.mov (.c (.bool false)))] (kp 35 [2,3]))
  (sr 35 [2,3]))
  (sk 35 [0,4,8]))))
  (.region [oa 21 (.mov (.t 8)), oa 22 (.bin .add (.t 21) (ai 1)), oa 8 (.mov (.t 22))] (kp 35 [0,4,8]))))
  (sk 35 [0,4,8]))
def j42_bbbb : IC := (.seq (.region [oa 32 (.mov (.t 4)), oa 33 (.indexAddr 1 (.t 32) (ai 0)), oa 34 (.load none (.t 33)), oa 2 (.mov (.t 34)), oa 3 (.mov (.c (.bool true)))] (kp 35 [2,3]))
  (sr 35 [2,3]))
def c42 : IFn := ⟨35, [(2, none), (3, none)],
  (.seq (.region [oa 2 (.mov (.c (.ptr none))), oa 3 (.mov (.c (.bool false)))] (kp 35 [0]))
  (.seq (.region [oa 10 (.call 25 [(ai 30), (ai 1)]), oa 9 (.mov (.t 10)), oa 11 (.extract (.t 9) 0), oa 12 (.extract (.t 9) 1), oa 13 (.extract (.t 9) 2), oa 14 (.extract (.t 9) 3), oa 4 (.mov (.t 11)), oa 5 (.mov (.t 12)), oa 6 (.mov (.t 13)), oa 7 (.mov (.t 14))] (kp 35 [0,4,7]))
  (.seq (.seq (.region [oa 15 (.mov (.t 7)), oa 16 (.un .not (.t 15))] (kp 35 [0,4,16]))
  (.cond (.t 16)
  (.seq (.region [oa 2 (.mov (.c (.ptr none))), oa 3 (.mov (.c (.bool false)))] (kp 35 [2,3]))
  (sr 35 [2,3]))
  (sk 35 [0,4])))
  (.seq (.seq (.region [oa 8 (.mov (ai 0))] (kp 35 [0,4,8]))
  (.block 0
  (.seq (sk 35 [0,4,8])
  (.loop l42_0))))
  j42_bbbb))))⟩
theorem F42 : shutF Try.prog 42 = some c42 := by kernel_rfl

-- virgate/virgatelaw16.Roots
def l43_0 : IC := (.seq (.seq (.seq (.region [oa 9 (.mov (.t 8)), oa 10 (.mov (.t 1)), oa 11 (.lenSlice (.t 10)), oa 12 (.bin .lss (.t 9) (.t 11))] (kp 50 [0,1,2,7,8,12]))
  (.cond (.t 12)
  (sk 50 [0,1,2,7,8])
  (sx 50 [2,7] 0)))
  (.seq (.block 1
  (.seq (.region [oa 15 (.mov (.t 1)), oa 16 (.mov (.t 8)), oa 17 (.indexAddr 1 (.t 15) (.t 16)), oa 18 (.load none (.t 17)), oa 19 (.bin .geq (.t 18) (ai 0)), oa 20 (.mov (.t 19)), oc 21 (.mov (.t 0)) 20 tt, oc 22 (.nilCheck (.t 21)) 20 tt, oc 23 (.fieldAddr 2 (.t 22)) 20 tt, oc 24 (.load none (.t 23)) 20 tt, oc 25 (.lenSlice (.t 24)) 20 tt, oc 26 (.bin .gtr (.t 25) (ai 0)) 20 tt, oa 27 (.pick (.t 20) (.t 26) (.c (.bool false)))] (kp 50 [0,1,2,7,8,27]))
  (.cond (.t 27)
  (.region [oa 28 (.mov (.t 7)), oa 29 (.mov (.t 0)), oa 30 (.nilCheck (.t 29)), oa 31 (.fieldAddr 2 (.t 30)), oa 32 (.load none (.t 31)), oa 33 (.mov (.t 1)), oa 34 (.mov (.t 8)), oa 35 (.indexAddr 1 (.t 33) (.t 34)), oa 36 (.load none (.t 35)), oa 37 (.mov (.t 0)), oa 38 (.nilCheck (.t 37)), oa 39 (.fieldAddr 2 (.t 38)), oa 40 (.load none (.t 39)), oa 41 (.lenSlice (.t 40)), oa 42 (.bin .rem (.t 36) (.t 41)), oa 43 (.indexAddr 2 (.t 32) (.t 42)), oa 44 (.load (some 2) (.t 43)), oa 45 (.buildSlice 1 [(.int .i64 (0)), (.int .i64 (0))] [(0, 2, (.t 44))]), oa 46 (.append 2 16 (.t 28) (.t 45)), oa 7 (.mov (.t 46))] (kp 50 [0,1,2,7,8]))
  (sk 50 [0,1,2,7,8]))))
  (.region [oa 13 (.mov (.t 8)), oa 14 (.bin .add (.t 13) (ai 1)), oa 8 (.mov (.t 14))] (kp 50 [0,1,2,7,8]))))
  (sk 50 [0,1,2,7,8]))
def j43_bbb : IC := (.seq (.region [oa 47 (.mov (.t 7)), oa 48 (.mov (.t 2)), oa 49 (.append 2 16 (.t 47) (.t 48)), oa 6 (.mov (.t 49))] (kp 50 [6]))
  (sr 50 [6]))
def c43 : IFn := ⟨50, [(6, none)],
  (.seq (.region [oa 6 (.mov (.c (.slice none 0 (some 0))))] (kp 50 [0,1,2]))
  (.seq (.region [oa 7 (.mov (.c (.slice none 0 (some 0))))] (kp 50 [0,1,2,7]))
  (.seq (.seq (.region [oa 8 (.mov (ai 0))] (kp 50 [0,1,2,7,8]))
  (.block 0
  (.seq (sk 50 [0,1,2,7,8])
  (.loop l43_0))))
  j43_bbb)))⟩
theorem F43 : shutF Try.prog 43 = some c43 := by kernel_rfl


section
variable {o : Nat → Option O} {s : St} {C F : Ch} {Q : V → St → Prop} {p r q t : Nat} {u : List Bool} {others : List Nat} {G : PairG}
set_option maxRecDepth 10000
set_option maxHeartbeats 4000000

/-- Lists of numbers, of words, that were handed in. -/
structure OldI (o : Nat → Option O) (v : V) (l : List Int) : Prop where
  len : lenV v = some (I l.length)
  get : ∀ (i : Nat) (h : i < l.length), ∃ a, ixV 1 v (I (i : Nat)) = some (.ptr (some a)) ∧ ∀ s : St, s.old = o → loadV none (.ptr (some a)) s = some (I l[i])
structure OldW (o : Nat → Option O) (v : V) (l : List (Int × Int)) : Prop where
  len : lenV v = some (I l.length)
  new : ∀ s : St, s.old = o → newCells s 2 v = some (l.flatMap encW, l.length)
theorem oldW_nil : OldW o (.slice none 0 (some 0)) [] := ⟨rfl, fun _ _ => rfl⟩

def longR (l : List (ActG × List Bool)) (n m : Nat) : Bool := longB l || decide ((n : Int) > 40) || decide ((m : Int) > 20)
theorem s40 {v w1 w2 : V} {l : List (ActG × List Bool)} {n m : Nat} (hs : s.old = o) (h : ActsAt o v l) (hl : l.length < 2 ^ 61) (h1 : lenV w1 = some (I n)) (h2 : lenV w2 = some (I m)) :
    call PF 40 [v, w1, w2] s = some (.bool (longR l n m), s) := by
  have e := s24 hs h hl
  unfold longR
  cases hb : longB l with
  | true =>
    rw [hb] at e
    rw [call_run F40]; simp -implicitDefEqProofs only [↓GP, GB, GL, Nat.reduceAdd, Nat.reduceSub, Nat.reduceEqDiff, Nat.reduceMul, Nat.reduceLeDiff, Int.reduceBNe, Int.reduceBEq, Nat.reduceLT, reduceCtorEq, c40, e, Bool.true_or]
  | false =>
    rw [hb] at e
    by_cases hn : (n : Int) > 40
    · rw [call_run F40]; simp -implicitDefEqProofs only [↓GP, GB, GL, Nat.reduceAdd, Nat.reduceSub, Nat.reduceEqDiff, Nat.reduceMul, Nat.reduceLeDiff, Int.reduceBNe, Int.reduceBEq, Nat.reduceLT, reduceCtorEq, c40, e, h1, hn, Bool.true_or, Bool.or_true, Bool.false_or, decide_true]
    · by_cases hm : (m : Int) > 20
      · rw [call_run F40]; simp -implicitDefEqProofs only [↓GP, GB, GL, Nat.reduceAdd, Nat.reduceSub, Nat.reduceEqDiff, Nat.reduceMul, Nat.reduceLeDiff, Int.reduceBNe, Int.reduceBEq, Nat.reduceLT, reduceCtorEq, c40, e, h1, hn, h2, hm, Bool.true_or, Bool.or_true, Bool.false_or, decide_true, decide_false]
      · rw [call_run F40]; simp -implicitDefEqProofs only [↓GP, GB, GL, Nat.reduceAdd, Nat.reduceSub, Nat.reduceEqDiff, Nat.reduceMul, Nat.reduceLeDiff, Int.reduceBNe, Int.reduceBEq, Nat.reduceLT, reduceCtorEq, c40, e, h1, hn, h2, hm, Bool.true_or, Bool.or_true, Bool.false_or, decide_true, decide_false]

theorem made_loop {hk : Nat} {v : V} {l : List (ActG × List Bool)} {K : Kt} (hA : ActsAt o v l) (hl : l.length ≤ 150) :
    ∀ (m i : Nat) (s : St) (u : List Bool) (G : PairG), i + m = l.length → PairOk u others G → G.ws.length ≤ 1000 * i → Holds o s (World p r q t u G ((hk, rowO 1 1 [ptrN G.id]) :: F)) →
    (∀ s' u' G', PairOk u' others G' → G'.id = G.id → u'.length = u.length → G'.hp.lives ≤ G.hp.lives + m → G'.ws.length ≤ 1000 * l.length → Holds o s' (World p r q t u' G' ((hk, rowO 1 1 [ptrN G.id]) :: F)) → WP (K (.exit 0) (sp 35 [(4, rowV hk 1)]) s') Q) →
    WP (loop PF (.loop l42_0) (sp 35 [(0, v), (4, rowV hk 1), (8, I i)]) s K) Q
  | 0, i, s, u, G, hi, h, hw, H, k => by
    have hlt : ¬ ((i : Int) < (l.length : Int)) := by omega
    refine wp_round fun LL hLL => ?_
    simp -implicitDefEqProofs only [↓GP, GB, GL, Nat.reduceAdd, Nat.reduceSub, Nat.reduceEqDiff, Nat.reduceMul, Nat.reduceLeDiff, Int.reduceBNe, Int.reduceBEq, Nat.reduceLT, reduceCtorEq, l42_0, hA.len, hlt]
    exact k s u G h rfl rfl (by omega) (by omega) H
  | m + 1, i, s, u, G, hi, h, hw, H, k => by
    have hlt : ((i : Int) < (l.length : Int)) := by omega
    have hi' : i < l.length := by omega
    obtain ⟨ad, a1, a2⟩ := hA.get i hi'
    have a3 := (a2 s H.old).1
    have mi := List.getElem_mem hi'
    have fh := H.mem (World.fr (List.mem_cons_self ..) : (hk, some (.cells [ptrN G.id] (some 1))) ∈ World p r q t u G ((hk, rowO 1 1 [ptrN G.id]) :: F))
    have hix := ix_row (sz := 1) (k := hk) (n := 1) (i := 0) (kk := .i64) (by omega)
    have hw1 := wrap_add1 (a := i) (by omega)
    simp only [Int.natCast_zero, Nat.zero_mul] at hix
    refine wp_round fun LL hLL => ?_
    simp -implicitDefEqProofs only [↓GP, GB, GL, Nat.reduceAdd, Nat.reduceSub, Nat.reduceEqDiff, Nat.reduceMul, Nat.reduceLeDiff, Int.reduceBNe, Int.reduceBEq, Nat.reduceLT, reduceCtorEq, l42_0, hA.len, hlt, hix, fh, a1, a3]
    refine wp_in (s26 (bs := l[i].2) l[i].1 (hA.d _ mi).1 (hA.some_ _ mi) h (by omega) H fun s1 u1 G1 n1 h1 => ?_)
    simp -implicitDefEqProofs only [↓GP, GB, GL, Nat.reduceAdd, Nat.reduceSub, Nat.reduceEqDiff, Nat.reduceMul, Nat.reduceLeDiff, Int.reduceBNe, Int.reduceBEq, Nat.reduceLT, reduceCtorEq, hw1]
    rw [hLL]
    refine made_loop hA hl m (i + 1) s1 u1 G1 (by omega) n1.ok (by have := n1.ws; omega) (by rw [n1.id]; exact h1) fun s2 u2 G2 ok2 e1 e2 e3 e4 h2 => k s2 u2 G2 ok2 (e1.trans n1.id) (e2.trans n1.ul) (by have := n1.lv; omega) e4 (by rw [← n1.id]; exact h2)

/-- A heap that was made. -/
theorem s42 {v : V} {l : List (ActG × List Bool)} (hA : ActsAt o v l) (hl : l.length ≤ 150) (H : Holds o s F)
    (k : ∀ s' p r q t u' G', PairOk u' [] G' → u'.length = 30 → G'.hp.lives ≤ 151 → G'.ws.length ≤ 150000 → Holds o s' (World p r q t u' G' F) → Q (.tuple [ptrN G'.id, .bool true]) s') : WP (call PF 42 [v] s) Q := by
  rw [call_run F42]; simp -implicitDefEqProofs only [↓GP, GB, GL, Nat.reduceAdd, Nat.reduceSub, Nat.reduceEqDiff, Nat.reduceMul, Nat.reduceLeDiff, Int.reduceBNe, Int.reduceBEq, Nat.reduceLT, reduceCtorEq, c42]
  refine wp_in (s25 (n := 30) (by omega) (by omega) H fun s1 p r q t G hk ok hws hlv h1 => ?_)
  simp -implicitDefEqProofs only [↓GP, GB, GL, Nat.reduceAdd, Nat.reduceSub, Nat.reduceEqDiff, Nat.reduceMul, Nat.reduceLeDiff, Int.reduceBNe, Int.reduceBEq, Nat.reduceLT, reduceCtorEq]
  have h2 : Holds o s1 (World p r q t (List.replicate 30 false) G ((hk, rowO 1 1 [ptrN G.id]) :: F)) := (Holds.of (h1) (fun k => by simp +arith only [HA, HB]) (fun k x => by simp only [HA, HC]; grind only))
  have := made_loop (K := blockK 0 (seqK (loop PF) (call PF) j42_bbbb (finR [(2, none), (3, none)]))) (Q := Q) hA hl l.length 0 s1 (List.replicate 30 false) G (by omega) ok (by rw [hws]; simp) h2
  simp only [Int.natCast_zero] at this
  refine this fun s2 u2 G2 ok2 e1 e2 e3 e4 h3 => ?_
  have fh := h3.mem (World.fr (List.mem_cons_self ..) : (hk, some (.cells [ptrN G.id] (some 1))) ∈ World p r q t u2 G2 ((hk, rowO 1 1 [ptrN G.id]) :: F))
  have hix := ix_row (sz := 1) (k := hk) (n := 1) (i := 0) (kk := .i64) (by omega)
  simp only [Int.natCast_zero, Nat.zero_mul] at hix
  simp -implicitDefEqProofs only [↓GP, GB, GL, Nat.reduceAdd, Nat.reduceSub, Nat.reduceEqDiff, Nat.reduceMul, Nat.reduceLeDiff, Int.reduceBNe, Int.reduceBEq, Nat.reduceLT, reduceCtorEq, j42_bbbb, fh, hix]
  rw [← e1]
  have h4 : Holds o s2 ((hk, rowO 1 1 [ptrN G.id]) :: World p r q t u2 G2 F) := (Holds.of (h3) (fun k => by simp +arith only [HA, HB]) (fun k x => by simp only [HA, HC]; grind only))
  exact k s2 p r q t u2 G2 ok2 (e2.trans (by simp)) (by omega) (by omega) h4.tl

/-- The words that roots name. -/
def pickL (ws : List (Int × Int)) (is : List Int) : List (Int × Int) := is.filterMap fun x => if 0 ≤ x then ws[x.toNat % ws.length]? else none

theorem roots_loop {id wk : Nat} {hv rv v v2 : V} {is : List Int} {ws : List (Int × Int)} {K : Kt} (hI : OldI o v is) (hl : is.length ≤ 40) (hws : ws.length ≤ 1000000)
    (mid : (id, some (.cells [hv, rv, rowV wk ws.length] none)) ∈ C) (mw : (wk, rowO 2 ws.length (ws.flatMap encW)) ∈ C) :
    ∀ (m i k : Nat) (acc : List (Int × Int)) (s : St), i + m = is.length → acc.length ≤ i → Holds o s ((k, rowO 2 acc.length (acc.flatMap encW)) :: C) →
    (∀ s' k', Holds o s' ((k', rowO 2 (acc ++ pickL ws (is.drop i)).length ((acc ++ pickL ws (is.drop i)).flatMap encW)) :: C) → WP (K (.exit 0) (sp 50 [(2, v2), (7, rowV k' (acc ++ pickL ws (is.drop i)).length)]) s') Q) →
    WP (loop PF (.loop l43_0) (sp 50 [(0, ptrN id), (1, v), (2, v2), (7, rowV k acc.length), (8, I i)]) s K) Q
  | 0, i, k, acc, s, hi, ha, H, q => by
    have hlt : ¬ ((i : Int) < (is.length : Int)) := by omega
    rw [List.drop_eq_nil_of_le (by omega), show pickL ws [] = [] from rfl, List.append_nil] at q
    refine wp_round fun LL hLL => ?_
    simp -implicitDefEqProofs only [↓GP, GB, GL, Nat.reduceAdd, Nat.reduceSub, Nat.reduceEqDiff, Nat.reduceMul, Nat.reduceLeDiff, Int.reduceBNe, Int.reduceBEq, Nat.reduceLT, reduceCtorEq, l43_0, hI.len, hlt]
    exact q s k H
  | m + 1, i, k, acc, s, hi, ha, H, q => by
    have hlt : ((i : Int) < (is.length : Int)) := by omega
    have hi' : i < is.length := by omega
    obtain ⟨ad, a1, a2⟩ := hI.get i hi'
    have a3 := a2 s H.old
    have hw1 := wrap_add1 (a := i) (by omega)
    have f := H.mem (List.mem_cons_of_mem _ mid)
    rw [List.drop_eq_getElem_cons hi', show ∀ x l, pickL ws (x :: l) = (if 0 ≤ x then ws[x.toNat % ws.length]? else none).toList ++ pickL ws l from fun x l => by
      unfold pickL; rw [List.filterMap_cons]; cases (if 0 ≤ x then ws[x.toNat % ws.length]? else none) <;> rfl] at q
    generalize is[i] = x at q a3
    by_cases hx : 0 ≤ x
    · have hx' : (x ≥ 0) := hx
      by_cases hn : 0 < ws.length
      · have hn' : ((ws.length : Int) > 0) := by omega
        have hm : x.toNat % ws.length < ws.length := Nat.mod_lt _ hn
        have e1 := ix_row (sz := 2) (k := wk) (n := ws.length) (i := x.toNat % ws.length) (kk := .i64) hm
        have e2 : rowO 2 ws.length (ws.flatMap encW) = some (.cells (ws.flatMap encW) (some 2)) := by unfold rowO; rw [if_neg (by omega)]
        have fw := H.mem (List.mem_cons_of_mem _ (e2 ▸ mw))
        have e3 := ldN_tab (enc := encW) encW_len ws (some 2) (List.getElem?_eq_getElem hm)
        rw [if_pos hx, List.getElem?_eq_getElem hm, Option.toList_some, ← List.append_assoc] at q
        refine wp_round fun LL hLL => ?_
        simp -implicitDefEqProofs only [↓GP, GB, GL, Nat.reduceAdd, Nat.reduceSub, Nat.reduceEqDiff, Nat.reduceMul, Nat.reduceLeDiff, Int.reduceBNe, Int.reduceBEq, Nat.reduceLT, reduceCtorEq, l43_0, hI.len, hlt, a1, a3, hx', hn', f, rem_i64 hx hn, e1, fw, e3, encW]
        refine wp_append (cs := acc.flatMap encW) ((H.alloc _).r1) (by rw [tab_len encW_len]) (new_cells' (alloc_new_same _ _) rfl) rfl rfl (by omega) (by unfold maxRow; omega) (by unfold maxRow; omega) fun k' s1 h1 => ?_
        simp -implicitDefEqProofs only [↓GP, GB, GL, Nat.reduceAdd, Nat.reduceSub, Nat.reduceEqDiff, Nat.reduceMul, Nat.reduceLeDiff, Int.reduceBNe, Int.reduceBEq, Nat.reduceLT, reduceCtorEq, hw1]
        rw [hLL]
        have hl1 : (acc ++ [ws[x.toNat % ws.length]]).length = acc.length + 1 := by simp
        have := roots_loop (K := K) (v2 := v2) hI hl hws mid mw m (i + 1) k' (acc ++ [ws[x.toNat % ws.length]]) s1 (by omega) (by simp; omega) (by
          have h2 := h1.r1.tl
          rw [List.flatMap_append]; simpa [encW] using h2) q
        rw [hl1] at this
        exact this
      · have hn' : ¬ ((ws.length : Int) > 0) := by omega
        have hz : ws = [] := List.length_eq_zero_iff.1 (by omega)
        rw [if_pos hx, show ws[x.toNat % ws.length]? = none by rw [hz]; rfl, Option.toList_none, List.nil_append] at q
        refine wp_round fun LL hLL => ?_
        simp -implicitDefEqProofs only [↓GP, GB, GL, Nat.reduceAdd, Nat.reduceSub, Nat.reduceEqDiff, Nat.reduceMul, Nat.reduceLeDiff, Int.reduceBNe, Int.reduceBEq, Nat.reduceLT, reduceCtorEq, l43_0, hI.len, hlt, a1, a3, hx', hn', f, hw1]
        rw [hLL]
        exact roots_loop hI hl hws mid mw m (i + 1) k acc s (by omega) (by omega) H q
    · have hx' : ¬ (x ≥ 0) := hx
      rw [if_neg hx, Option.toList_none, List.nil_append] at q
      refine wp_round fun LL hLL => ?_
      simp -implicitDefEqProofs only [↓GP, GB, GL, Nat.reduceAdd, Nat.reduceSub, Nat.reduceEqDiff, Nat.reduceMul, Nat.reduceLeDiff, Int.reduceBNe, Int.reduceBEq, Nat.reduceLT, reduceCtorEq, l43_0, hI.len, hlt, a1, a3, hx', hw1]
      rw [hLL]
      exact roots_loop hI hl hws mid mw m (i + 1) k acc s (by omega) (by omega) H q

theorem s43 {id wk : Nat} {hv rv v v2 : V} {is : List Int} {ws os : List (Int × Int)} (hI : OldI o v is) (hl : is.length ≤ 40) (hO : OldW o v2 os) (hol : os.length ≤ 20) (hws : ws.length ≤ 1000000)
    (mid : (id, some (.cells [hv, rv, rowV wk ws.length] none)) ∈ C) (mw : (wk, rowO 2 ws.length (ws.flatMap encW)) ∈ C) (H : Holds o s C)
    (q : ∀ s' k', Holds o s' ((k', rowO 2 (pickL ws is ++ os).length ((pickL ws is ++ os).flatMap encW)) :: C) → Q (rowV k' (pickL ws is ++ os).length) s') : WP (call PF 43 [ptrN id, v, v2] s) Q := by
  rw [call_run F43]; simp -implicitDefEqProofs only [↓GP, GB, GL, Nat.reduceAdd, Nat.reduceSub, Nat.reduceEqDiff, Nat.reduceMul, Nat.reduceLeDiff, Int.reduceBNe, Int.reduceBEq, Nat.reduceLT, reduceCtorEq, c43]
  have h0 := H.nilEntry 0
  have hpl : (pickL ws is).length ≤ 40 := by unfold pickL; exact Nat.le_trans (List.length_filterMap_le ..) hl
  have := roots_loop (K := blockK 0 (seqK (loop PF) (call PF) j43_bbb (finR [(6, none)]))) (Q := Q) (v2 := v2) hI hl hws mid mw is.length 0 0 [] s (by omega) (by simp) h0
  simp only [List.drop_zero, List.nil_append, List.length_nil, Int.natCast_zero] at this
  refine this fun s1 k1 h1 => ?_
  simp -implicitDefEqProofs only [↓GP, GB, GL, Nat.reduceAdd, Nat.reduceSub, Nat.reduceEqDiff, Nat.reduceMul, Nat.reduceLeDiff, Int.reduceBNe, Int.reduceBEq, Nat.reduceLT, reduceCtorEq, j43_bbb]
  refine wp_append (cs := (pickL ws is).flatMap encW) h1 (by rw [tab_len encW_len]) (hO.new s1 h1.old) (by rw [tab_len encW_len]) (by rw [List.all_flatMap]; simp [encW, V.one]) (by omega) (by unfold maxRow; omega) (by unfold maxRow; omega) fun k2 s2 h2 => ?_
  simp -implicitDefEqProofs only [↓GP, GB, GL, Nat.reduceAdd, Nat.reduceSub, Nat.reduceEqDiff, Nat.reduceMul, Nat.reduceLeDiff, Int.reduceBNe, Int.reduceBEq, Nat.reduceLT, reduceCtorEq]
  have e := q s2 k2 (by rw [List.length_append, List.flatMap_append]; exact h2)
  rw [List.length_append] at e
  exact e
end
end Go.Proofs.Ytoldkemimhebaaa
