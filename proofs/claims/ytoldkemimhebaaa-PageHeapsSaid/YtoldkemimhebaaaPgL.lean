/- Layer 15: PageActs: all calls of a heap. -/
import Derived.Test.YtoldkemimhebaaaPgI
set_option linter.unusedSimpArgs false
set_option linter.unusedVariables false
namespace Go.Proofs.Ytoldkemimhebaaa
open Go Go.IM

-- virgate/virgatelaw15.PageActs
def l7_0 : IC := (.seq (.seq (.seq (.region [oa 25 (.mov (.t 9)), oa 26 (.mov (.t 1)), oa 27 (.lenSlice (.t 26)), oa 28 (.bin .lss (.t 25) (.t 27))] (kp 73 [1,5,6,7,9,28]))
  (.cond (.t 28)
  (sk 73 [1,5,6,7,9])
  (sx 73 [5] 0)))
  (.seq (.block 1
  (.seq (.region [oa 31 (.mov (.t 5)), oa 32 (.indexAddr 1 (.t 31) (ai 0)), oa 33 (.load none (.t 32)), oa 34 (.mov (.t 1)), oa 35 (.mov (.t 9)), oa 36 (.indexAddr 11 (.t 34) (.t 35)), oa 37 (.load (some 11) (.t 36)), oa 38 (.call 26 [(.t 33), (.t 37)]), oa 39 (.un .not (.t 38)), oa 40 (.mov (.t 39)), oc 41 (.mov (.t 6)) 40 ff, oc 43 (.mov (.t 7)) 40 ff, oc 42 (.call 19 [(.t 41)]) 40 ff, oc 44 (.call 20 [(.t 43)]) 40 ff, oc 45 (.bin .neq (.t 42) (.t 44)) 40 ff, oa 46 (.pick (.t 40) (.c (.bool true)) (.t 45)), oa 47 (.mov (.t 46)), oc 48 (.mov (.t 6)) 47 ff, oc 50 (.mov (.t 7)) 47 ff, oc 49 (.call 21 [(.t 48)]) 47 ff, oc 51 (.call 37 [(.t 50)]) 47 ff, oc 52 (.bin .neq (.t 49) (.t 51)) 47 ff, oa 53 (.pick (.t 47) (.c (.bool true)) (.t 52)), oa 54 (.mov (.t 53)), oc 55 (.mov (.t 9)) 54 ff, oc 56 (.bin .rem (.t 55) (ai 8)) 54 ff, oc 57 (.bin .eql (.t 56) (ai 7)) 54 ff, oc 58 (.mov (.t 57)) 54 ff, oc 59 (.mov (.t 5)) 58 tt, oc 60 (.indexAddr 1 (.t 59) (ai 0)) 58 tt, oc 61 (.load none (.t 60)) 58 tt, oc 62 (.call 38 [(.t 61)]) 58 tt, oc 63 (.un .not (.t 62)) 58 tt, oc 64 (.pick (.t 58) (.t 63) (.c (.bool false))) 54 ff, oa 65 (.pick (.t 54) (.c (.bool true)) (.t 64))] (kp 73 [1,5,6,7,9,65]))
  (.cond (.t 65)
  (.seq (.region [oa 4 (.mov (.c (.bool false)))] (kp 73 [4]))
  (sr 73 [4]))
  (sk 73 [1,5,6,7,9]))))
  (.region [oa 29 (.mov (.t 9)), oa 30 (.bin .add (.t 29) (ai 1)), oa 9 (.mov (.t 30))] (kp 73 [1,5,6,7,9]))))
  (sk 73 [1,5,6,7,9]))
def c7 : IFn := ⟨73, [(4, none)],
  (.seq (.region [oa 4 (.mov (.c (.bool false)))] (kp 73 [0,1]))
  (.seq (.seq (.region [oa 10 (.mov (.t 1)), oa 11 (.call 24 [(.t 10)])] (kp 73 [0,1,11]))
  (.cond (.t 11)
  (.seq (.region [oa 12 (.call 23 []), oa 4 (.mov (.t 12))] (kp 73 [4]))
  (sr 73 [4]))
  (sk 73 [0,1])))
  (.seq (.region [oa 14 (.mov (.t 0)), oa 15 (.bin .rem (.t 14) (.c (.int .u8 (12)))), oa 16 (.conv .i64 (.t 15)), oa 17 (.bin .add (ai 1) (.t 16)), oa 18 (.call 25 [(.t 17), (ai 1)]), oa 13 (.mov (.t 18)), oa 19 (.extract (.t 13) 0), oa 20 (.extract (.t 13) 1), oa 21 (.extract (.t 13) 2), oa 22 (.extract (.t 13) 3), oa 5 (.mov (.t 19)), oa 6 (.mov (.t 20)), oa 7 (.mov (.t 21)), oa 8 (.mov (.t 22))] (kp 73 [1,5,6,7,8]))
  (.seq (.seq (.region [oa 23 (.mov (.t 8)), oa 24 (.un .not (.t 23))] (kp 73 [1,5,6,7,24]))
  (.cond (.t 24)
  (.seq (.region [oa 4 (.mov (.c (.bool false)))] (kp 73 [4]))
  (sr 73 [4]))
  (sk 73 [1,5,6,7])))
  (.seq (.seq (.region [oa 9 (.mov (ai 0))] (kp 73 [1,5,6,7,9]))
  (.block 0
  (.seq (sk 73 [1,5,6,7,9])
  (.loop l7_0))))
  (.seq (.region [oa 66 (.mov (.t 5)), oa 67 (.indexAddr 1 (.t 66) (ai 0)), oa 68 (.load none (.t 67)), oa 69 (.call 38 [(.t 68)]), oa 70 (.mov (.t 69)), oc 71 (.call 23 []) 70 tt, oa 72 (.pick (.t 70) (.t 71) (.c (.bool false))), oa 4 (.mov (.t 72))] (kp 73 [4]))
  (sr 73 [4])))))))⟩
theorem F7 : shutF Try.prog 7 = some c7 := by kernel_rfl


section
variable {o : Nat → Option O} {s : St} {C F : Ch} {Q : V → St → Prop} {p r q t : Nat} {u : List Bool} {others : List Nat} {G : PairG}
set_option maxRecDepth 10000
set_option maxHeartbeats 4000000

theorem poolAt2 (H : Holds o s (World p r q t u G F)) : PoolAt s q t u := by
  have h : Holds o s (poolC q t u ++ (G.ch p q ++ F)) := H.dropL
  exact poolAt h
theorem rem8 {i : Nat} : intI .rem .i64 (i : Int) 8 = some (I ((i % 8 : Nat) : Int)) := by
  have := rem_i64 (a := (i : Int)) (n := 8) (by omega) (by omega)
  simpa using this
theorem world_is (h : PairOk u others G) (H : Holds o s (World p r q t u G F)) (q1 : ∀ s', Holds o s' (World p r q t u G F) → Q (.bool true) s') : WP (call PF 38 [ptrN G.id] s) Q :=
  pair_is h World.in_ World.rin World.id H q1

theorem acts7_loop {hk : Nat} {v : V} {l : List (ActG × List Bool)} {K : Kt} (hA : ActsAt o v l) (hl : l.length ≤ 150) :
    ∀ (m i : Nat) (s : St) (u : List Bool) (G : PairG), i + m = l.length → PairOk u others G → G.ws.length ≤ 1000 * i → Holds o s (World p r q t u G ((hk, rowO 1 1 [ptrN G.id]) :: F)) →
    (∀ s' u' G', PairOk u' others G' → G'.id = G.id → Holds o s' (World p r q t u' G' ((hk, rowO 1 1 [ptrN G.id]) :: F)) → WP (K (.exit 0) (sp 73 [(5, rowV hk 1)]) s') Q) →
    WP (loop PF (.loop l7_0) (sp 73 [(1, v), (5, rowV hk 1), (6, ptrN p), (7, ptrN q), (9, I i)]) s K) Q
  | 0, i, s, u, G, hi, h, hw, H, k => by
    have hlt : ¬ ((i : Int) < (l.length : Int)) := by omega
    refine wp_round fun LL hLL => ?_
    simp -implicitDefEqProofs only [↓GP, GB, GL, Nat.reduceAdd, Nat.reduceSub, Nat.reduceEqDiff, Nat.reduceMul, Nat.reduceLeDiff, Int.reduceBNe, Int.reduceBEq, Nat.reduceLT, reduceCtorEq, l7_0, hA.len, hlt]
    exact k s u G h rfl H
  | m + 1, i, s, u, G, hi, h, hw, H, k => by
    have hlt : ((i : Int) < (l.length : Int)) := by omega
    have hi' : i < l.length := by omega
    obtain ⟨ad, a1, a2⟩ := hA.get i hi'
    have a3 := (a2 s H.old).1
    have mi := List.getElem_mem hi'
    have fh := H.mem (World.fr (List.mem_cons_self ..) : (hk, some (.cells [ptrN G.id] (some 1))) ∈ World p r q t u G ((hk, rowO 1 1 [ptrN G.id]) :: F))
    have hix := ix_row (sz := 1) (k := hk) (n := 1) (i := 0) (kk := .i64) (by omega)
    have hw1 := wrap_add1 (a := i) (by omega)
    simp only [Int.natCast_zero, Nat.zero_mul] at hix
    refine wp_round fun LL hLL => ?_
    simp -implicitDefEqProofs only [↓GP, GB, GL, Nat.reduceAdd, Nat.reduceSub, Nat.reduceEqDiff, Nat.reduceMul, Nat.reduceLeDiff, Int.reduceBNe, Int.reduceBEq, Nat.reduceLT, reduceCtorEq, l7_0, hA.len, hlt, hix, fh, a1, a3]
    refine wp_in (s26 (bs := l[i].2) l[i].1 (hA.d _ mi).1 (hA.some_ _ mi) h (by omega) H fun s1 u1 G1 n1 h1 => ?_)
    have hu := n1.ok.ulen
    have e19 := s19 (poolAt h1) (by omega)
    have e20 := s20 (poolAt2 h1) (by omega)
    have e21 := s21 (poolAt h1) (by omega)
    have e37 := s37 (poolAt2 h1) (by omega)
    have fh1 := h1.mem (World.fr (List.mem_cons_self ..) : (hk, some (.cells [ptrN G.id] (some 1))) ∈ World p r q t u1 G1 ((hk, rowO 1 1 [ptrN G.id]) :: F))
    have more : ∀ s2, Holds o s2 (World p r q t u1 G1 ((hk, rowO 1 1 [ptrN G.id]) :: F)) → WP (loop PF (.loop l7_0) (sp 73 [(1, v), (5, rowV hk 1), (6, ptrN p), (7, ptrN q), (9, I (i + 1 : Nat))]) s2 K) Q := fun s2 h2 =>
      acts7_loop hA hl m (i + 1) s2 u1 G1 (by omega) n1.ok (by have := n1.ws; omega) (by rw [n1.id]; exact h2) fun s3 u3 G3 ok3 e3 h3 => k s3 u3 G3 ok3 (e3.trans n1.id) (by rw [← n1.id]; exact h3)
    by_cases h7 : i % 8 = 7
    · have hb7 : (((i % 8 : Nat) : Int) == 7) = true := by rw [h7]; rfl
      simp -implicitDefEqProofs only [↓GP, GB, GL, Nat.reduceAdd, Nat.reduceSub, Nat.reduceEqDiff, Nat.reduceMul, Nat.reduceLeDiff, Int.reduceBNe, Int.reduceBEq, Nat.reduceLT, reduceCtorEq, e19, e20, e21, e37, bne_self_eq_false, rem8, hb7, hix, fh1]
      rw [← n1.id]
      refine wp_in (world_is n1.ok h1 fun s2 h2 => ?_)
      simp -implicitDefEqProofs only [↓GP, GB, GL, Nat.reduceAdd, Nat.reduceSub, Nat.reduceEqDiff, Nat.reduceMul, Nat.reduceLeDiff, Int.reduceBNe, Int.reduceBEq, Nat.reduceLT, reduceCtorEq, hw1]
      rw [hLL]
      exact more s2 h2
    · have hb7 : (((i % 8 : Nat) : Int) == 7) = false := by rw [beq_eq_false_iff_ne]; omega
      simp -implicitDefEqProofs only [↓GP, GB, GL, Nat.reduceAdd, Nat.reduceSub, Nat.reduceEqDiff, Nat.reduceMul, Nat.reduceLeDiff, Int.reduceBNe, Int.reduceBEq, Nat.reduceLT, reduceCtorEq, e19, e20, e21, e37, bne_self_eq_false, rem8, hb7, hw1]
      rw [hLL]
      exact more s1 h1

/-- How many pages: one and what is left of a number. -/
theorem pages12 {n : Int} (h0 : 0 ≤ n) (h1 : n < 256) : ∃ k : Nat, 1 ≤ k ∧ k ≤ 12 ∧ intI .rem .u8 n 12 = some (.int .u8 (n % 12)) ∧ wrapI .i64 (n % 12) = I (n % 12) ∧ wrapI .i64 (1 + n % 12) = I k := by
  refine ⟨(1 + n % 12).toNat, by omega, by omega, ?_, ?_, ?_⟩
  · show (if (12 : Int) = 0 then none else some (V.int .u8 (n.tmod 12))) = _
    rw [if_neg (by omega), Int.tmod_eq_emod_of_nonneg h0]
  · exact wrap64 (by omega) (by omega)
  · rw [wrap64 (by omega) (by omega)]; show V.int _ _ = V.int _ _; congr 1; omega

/-- PageActs: it answers true. -/
theorem pageActs_im {v : V} {l : List (ActG × List Bool)} (hA : ActsAt o v l) (hll : l.length < 2 ^ 61) {n : Int} (hn0 : 0 ≤ n) (hn1 : n < 256) (s : St) (hs : s.old = o) : ∃ st, call PF 7 [.int .u8 n, v] s = some (.bool true, st) := by
  refine im_true ?_
  have e24 := s24 hs hA hll
  cases hlg : longB l with
  | true =>
    rw [hlg] at e24
    obtain ⟨t, ht, -⟩ := sane15 s
    rw [call_run F7]; simp -implicitDefEqProofs only [↓GP, GB, GL, Nat.reduceAdd, Nat.reduceSub, Nat.reduceEqDiff, Nat.reduceMul, Nat.reduceLeDiff, Int.reduceBNe, Int.reduceBEq, Nat.reduceLT, reduceCtorEq, c7, e24, ht]
  | false =>
    rw [hlg] at e24
    have hl := longB_len hlg
    obtain ⟨k, k1, k2, e1, e2, e3⟩ := pages12 hn0 hn1
    rw [call_run F7]; simp -implicitDefEqProofs only [↓GP, GB, GL, Nat.reduceAdd, Nat.reduceSub, Nat.reduceEqDiff, Nat.reduceMul, Nat.reduceLeDiff, Int.reduceBNe, Int.reduceBEq, Nat.reduceLT, reduceCtorEq, c7, e24, e1, e2, e3]
    refine wp_in (s25 (n := k) k1 (by omega) (H00 hs) fun s1 p r q t G hk ok hws hlv h1 => ?_)
    have h2 : Holds o s1 (World p r q t (List.replicate k false) G ((hk, rowO 1 1 [ptrN G.id]) :: [])) := (Holds.of (h1) (fun k => by simp +arith only [HA, HB]) (fun k x => by simp only [HA, HC]; grind only))
    simp -implicitDefEqProofs only [↓GP, GB, GL, Nat.reduceAdd, Nat.reduceSub, Nat.reduceEqDiff, Nat.reduceMul, Nat.reduceLeDiff, Int.reduceBNe, Int.reduceBEq, Nat.reduceLT, reduceCtorEq]
    refine acts7_loop (F := []) hA hl l.length 0 s1 (List.replicate k false) G (by omega) ok (by rw [hws]; simp) h2 fun s2 u2 G2 ok2 e4 h3 => ?_
    have fh := h3.mem (World.fr (List.mem_cons_self ..) : (hk, some (.cells [ptrN G.id] (some 1))) ∈ World p r q t u2 G2 ((hk, rowO 1 1 [ptrN G.id]) :: []))
    have hix := ix_row (sz := 1) (k := hk) (n := 1) (i := 0) (kk := .i64) (by omega)
    simp only [Int.natCast_zero, Nat.zero_mul] at hix
    simp -implicitDefEqProofs only [↓GP, GB, GL, Nat.reduceAdd, Nat.reduceSub, Nat.reduceEqDiff, Nat.reduceMul, Nat.reduceLeDiff, Int.reduceBNe, Int.reduceBEq, Nat.reduceLT, reduceCtorEq, hix, fh]
    rw [← e4]
    refine wp_in (world_is ok2 h3 fun s3 h4 => ?_)
    obtain ⟨t', ht', -⟩ := sane15 s3
    simp -implicitDefEqProofs only [↓GP, GB, GL, Nat.reduceAdd, Nat.reduceSub, Nat.reduceEqDiff, Nat.reduceMul, Nat.reduceLeDiff, Int.reduceBNe, Int.reduceBEq, Nat.reduceLT, reduceCtorEq, ht']
end
end Go.Proofs.Ytoldkemimhebaaa
