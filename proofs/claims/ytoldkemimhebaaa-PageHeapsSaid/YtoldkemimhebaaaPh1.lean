/- Layer 15: PageHeaps: several heaps on one pool. -/
import Derived.Test.YtoldkemimhebaaaPh0
set_option linter.unusedSimpArgs false
set_option linter.unusedVariables false
namespace Go.Proofs.Ytoldkemimhebaaa
open Go Go.IM

-- virgate/virgatelaw15.PageHeaps
def j8_0xabaabb : IC := (.seq (.region [oa 66 (.mov (.t 6)), oa 68 (.mov (.t 7)), oa 67 (.call 19 [(.t 66)]), oa 69 (.call 20 [(.t 68)]), oa 70 (.bin .neq (.t 67) (.t 69)), oa 71 (.mov (.t 70)), oc 72 (.mov (.t 6)) 71 ff, oc 74 (.mov (.t 5)) 71 ff, oc 75 (.indexAddr 1 (.t 74) (ai 0)) 71 ff, oc 76 (.load none (.t 75)) 71 ff, oc 77 (.nilCheck (.t 76)) 71 ff, oc 78 (.fieldAddr 0 (.t 77)) 71 ff, oc 79 (.load none (.t 78)) 71 ff, oc 81 (.mov (.t 5)) 71 ff, oc 82 (.indexAddr 1 (.t 81) (ai 1)) 71 ff, oc 83 (.load none (.t 82)) 71 ff, oc 84 (.nilCheck (.t 83)) 71 ff, oc 85 (.fieldAddr 0 (.t 84)) 71 ff, oc 86 (.load none (.t 85)) 71 ff, oc 89 (.mov (.t 5)) 71 ff, oc 90 (.indexAddr 1 (.t 89) (ai 2)) 71 ff, oc 91 (.load none (.t 90)) 71 ff, oc 92 (.nilCheck (.t 91)) 71 ff, oc 93 (.fieldAddr 0 (.t 92)) 71 ff, oc 94 (.load none (.t 93)) 71 ff, oc 73 (.call 21 [(.t 72)]) 71 ff, oe (.again 76 (.load none (.t 75))) 71 ff, oe (.again 79 (.load none (.t 78))) 71 ff, oe (.again 83 (.load none (.t 82))) 71 ff, oe (.again 86 (.load none (.t 85))) 71 ff, oe (.again 91 (.load none (.t 90))) 71 ff, oe (.again 94 (.load none (.t 93))) 71 ff, oc 80 (.call 36 [(.t 79)]) 71 ff, oe (.again 83 (.load none (.t 82))) 71 ff, oe (.again 86 (.load none (.t 85))) 71 ff, oe (.again 91 (.load none (.t 90))) 71 ff, oe (.again 94 (.load none (.t 93))) 71 ff, oc 87 (.call 36 [(.t 86)]) 71 ff, oe (.again 91 (.load none (.t 90))) 71 ff, oe (.again 94 (.load none (.t 93))) 71 ff, oc 88 (.bin .add (.t 80) (.t 87)) 71 ff, oc 95 (.call 36 [(.t 94)]) 71 ff, oc 96 (.bin .add (.t 88) (.t 95)) 71 ff, oc 97 (.bin .neq (.t 73) (.t 96)) 71 ff, oa 98 (.pick (.t 71) (.c (.bool true)) (.t 97))] (kp 112 [1,5,6,7,9,98]))
  (.cond (.t 98)
  (.seq (.region [oa 4 (.mov (.c (.bool false)))] (kp 112 [4]))
  (sr 112 [4]))
  (sk 112 [1,5,6,7,9])))
def l8_0 : IC := (.seq (.seq (.seq (.region [oa 27 (.mov (.t 9)), oa 28 (.mov (.t 1)), oa 29 (.lenSlice (.t 28)), oa 30 (.bin .lss (.t 27) (.t 29))] (kp 112 [1,5,6,7,9,30]))
  (.cond (.t 30)
  (sk 112 [1,5,6,7,9])
  (sx 112 [5] 0)))
  (.seq (.block 1
  (.seq (.region [oa 33 (.mov (.t 5)), oa 34 (.mov (.t 1)), oa 35 (.mov (.t 9)), oa 36 (.indexAddr 11 (.t 34) (.t 35)), oa 37 (.fieldAddr 1 (.t 36)), oa 38 (.load none (.t 37)), oa 39 (.bin .rem (.t 38) (.c (.int .u8 (3)))), oa 40 (.conv .i64 (.t 39)), oa 41 (.indexAddr 1 (.t 33) (.t 40)), oa 42 (.load none (.t 41)), oa 10 (.mov (.t 42))] (kp 112 [1,5,6,7,9,10]))
  (.seq (.seq (.region [oa 43 (.mov (.t 1)), oa 44 (.mov (.t 9)), oa 45 (.indexAddr 11 (.t 43) (.t 44)), oa 46 (.fieldAddr 0 (.t 45)), oa 47 (.load none (.t 46)), oa 48 (.bin .eql (.t 47) (.c (.int .u8 (255))))] (kp 112 [1,5,6,7,9,10,48]))
  (.cond (.t 48)
  (.seq (.region [oa 49 (.mov (.t 10)), oa 50 (.nilCheck (.t 49)), oa 51 (.fieldAddr 0 (.t 50)), oa 52 (.load none (.t 51)), oa 53 (.call 33 [(.t 52)])] (kp 112 [1,5,6,7,9,10]))
  (.region [oa 54 (.mov (.t 10)), oa 55 (.nilCheck (.t 54)), oa 56 (.fieldAddr 1 (.t 55)), oa 57 (.load none (.t 56)), oa 58 (.call 39 [(.t 57)])] (kp 112 [1,5,6,7,9])))
  (.seq (.region [oa 59 (.mov (.t 10)), oa 60 (.mov (.t 1)), oa 61 (.mov (.t 9)), oa 62 (.indexAddr 11 (.t 60) (.t 61)), oa 63 (.load (some 11) (.t 62)), oa 64 (.call 26 [(.t 59), (.t 63)]), oa 65 (.un .not (.t 64))] (kp 112 [1,5,6,7,9,65]))
  (.cond (.t 65)
  (.seq (.region [oa 4 (.mov (.c (.bool false)))] (kp 112 [4]))
  (sr 112 [4]))
  (sk 112 [1,5,6,7,9])))))
  j8_0xabaabb)))
  (.region [oa 31 (.mov (.t 9)), oa 32 (.bin .add (.t 31) (ai 1)), oa 9 (.mov (.t 32))] (kp 112 [1,5,6,7,9]))))
  (sk 112 [1,5,6,7,9]))
def l8_1 : IC := (.seq (.seq (.seq (.region [oa 99 (.mov (.t 11)), oa 100 (.mov (.t 5)), oa 101 (.lenSlice (.t 100)), oa 102 (.bin .lss (.t 99) (.t 101))] (kp 112 [5,11,102]))
  (.cond (.t 102)
  (sk 112 [5,11])
  (sx 112 [] 2)))
  (.seq (.block 3
  (.seq (.region [oa 105 (.mov (.t 5)), oa 106 (.mov (.t 11)), oa 107 (.indexAddr 1 (.t 105) (.t 106)), oa 108 (.load none (.t 107)), oa 109 (.call 38 [(.t 108)]), oa 110 (.un .not (.t 109))] (kp 112 [5,11,110]))
  (.cond (.t 110)
  (.seq (.region [oa 4 (.mov (.c (.bool false)))] (kp 112 [4]))
  (sr 112 [4]))
  (sk 112 [5,11]))))
  (.region [oa 103 (.mov (.t 11)), oa 104 (.bin .add (.t 103) (ai 1)), oa 11 (.mov (.t 104))] (kp 112 [5,11]))))
  (sk 112 [5,11]))
def c8 : IFn := ⟨112, [(4, none)],
  (.seq (.region [oa 4 (.mov (.c (.bool false)))] (kp 112 [0,1]))
  (.seq (.seq (.region [oa 12 (.mov (.t 1)), oa 13 (.call 24 [(.t 12)])] (kp 112 [0,1,13]))
  (.cond (.t 13)
  (.seq (.region [oa 14 (.call 23 []), oa 4 (.mov (.t 14))] (kp 112 [4]))
  (sr 112 [4]))
  (sk 112 [0,1])))
  (.seq (.region [oa 16 (.mov (.t 0)), oa 17 (.bin .rem (.t 16) (.c (.int .u8 (12)))), oa 18 (.conv .i64 (.t 17)), oa 19 (.bin .add (ai 1) (.t 18)), oa 20 (.call 25 [(.t 19), (ai 3)]), oa 15 (.mov (.t 20)), oa 21 (.extract (.t 15) 0), oa 22 (.extract (.t 15) 1), oa 23 (.extract (.t 15) 2), oa 24 (.extract (.t 15) 3), oa 5 (.mov (.t 21)), oa 6 (.mov (.t 22)), oa 7 (.mov (.t 23)), oa 8 (.mov (.t 24))] (kp 112 [1,5,6,7,8]))
  (.seq (.seq (.region [oa 25 (.mov (.t 8)), oa 26 (.un .not (.t 25))] (kp 112 [1,5,6,7,26]))
  (.cond (.t 26)
  (.seq (.region [oa 4 (.mov (.c (.bool false)))] (kp 112 [4]))
  (sr 112 [4]))
  (sk 112 [1,5,6,7])))
  (.seq (.seq (.region [oa 9 (.mov (ai 0))] (kp 112 [1,5,6,7,9]))
  (.block 0
  (.seq (sk 112 [1,5,6,7,9])
  (.loop l8_0))))
  (.seq (.seq (.region [oa 11 (.mov (ai 0))] (kp 112 [5,11]))
  (.block 2
  (.seq (sk 112 [5,11])
  (.loop l8_1))))
  (.seq (.region [oa 111 (.call 23 []), oa 4 (.mov (.t 111))] (kp 112 [4]))
  (sr 112 [4]))))))))⟩
theorem F8 : shutF Try.prog 8 = some c8 := by kernel_rfl


section
variable {o : Nat → Option O} {s : St} {C F : Ch} {Q : V → St → Prop} {p r q t : Nat} {u : List Bool} {L : List PSt}
set_option maxRecDepth 10000
set_option maxHeartbeats 4000000

/-- A field of an aggregate in memory. -/
theorem load_field {n f : Nat} {ad : Ad} {cs : List V} {v : V} (h : loadV (some n) (.ptr (some ad)) s = some (.agg cs)) (hf : cs[f]? = some v) : loadV none (.ptr (some ⟨ad.id, ad.off + f⟩)) s = some v := by
  rw [loadV_ptr] at h ⊢
  simp only [Option.getD_some, Option.bind_eq_some_iff, packI, Option.some.injEq, V.agg.injEq] at h
  obtain ⟨l, h, rfl⟩ := h
  unfold readCells at h ⊢
  simp only
  cases hr : s.row ad.id with
  | none => rw [hr] at h; cases h
  | some c =>
    obtain ⟨c, g⟩ := c
    rw [hr] at h
    simp only at h ⊢
    unfold cut at h
    split at h
    · cases h
      have hfn : f < n := by
        have := (List.getElem?_eq_some_iff.1 hf).1
        simp at this; omega
      rw [List.getElem?_take, if_pos hfn, List.getElem?_drop] at hf
      simp only [Option.getD_none, cut_one hf]
      rfl
    · cases h

theorem check8 {n i hk : Nat} {v : V} {K : Kt} (h : HsOk u L n) (hl : L.length = 3) (H : Holds o s (HW p r q t u L ((hk, rowO 1 3 (L.map fun x => ptrN x.pid)) :: F)))
    (k : WP (K .normal (sp 112 [(1, v), (5, rowV hk 3), (6, ptrN p), (7, ptrN q), (9, I i)]) s) Q) : WP (go (loop PF) (call PF) j8_0xabaabb (sp 112 [(1, v), (5, rowV hk 3), (6, ptrN p), (7, ptrN q), (9, I i)]) s K) Q := by
  match L, hl with
  | [x0, x1, x2], _ =>
    have hu := h.ulen
    have m0 : x0 ∈ [x0, x1, x2] := by simp
    have m1 : x1 ∈ [x0, x1, x2] := by simp
    have m2 : x2 ∈ [x0, x1, x2] := by simp
    have H' : Holds o s (poolC q t u ++ ([x0, x1, x2].flatMap (PSt.ch p q) ++ ((hk, rowO 1 3 ([x0, x1, x2].map fun x => ptrN x.pid)) :: F))) := Holds.dropL (C := poolC p r u) H
    have e19 := s19 (poolAt H) (by omega)
    have e20 := s20 (poolAt H') (by omega)
    have e21 := s21 (poolAt H) (by omega)
    have hc := h.pool.count
    simp only [List.flatMap_cons, List.flatMap_nil, List.append_nil, List.length_append] at hc
    rw [hc] at e21
    have hcl : u.count true ≤ u.length := List.count_le_length
    have fr := H.mem (HW.fr (List.mem_cons_self ..) : (hk, some (.cells [ptrN x0.pid, ptrN x1.pid, ptrN x2.pid] (some 1))) ∈ HW p r q t u [x0, x1, x2] ((hk, rowO 1 3 ([x0, x1, x2].map fun x => ptrN x.pid)) :: F))
    have ix := fun j (hj : j < 3) => ix_row (sz := 1) (k := hk) (n := 3) (i := j) (kk := .i64) hj
    have i0 := ix 0 (by omega)
    have i1 := ix 1 (by omega)
    have i2 := ix 2 (by omega)
    simp only [Int.natCast_zero, Nat.zero_mul, Int.cast_ofNat_Int, Nat.mul_one, Nat.one_mul, Int.natCast_one] at i0 i1 i2
    have w1 : wrapI .i64 ((x0.pages.length : Int) + (x1.pages.length : Int)) = I ((x0.pages.length + x1.pages.length : Nat) : Int) := wrap_add (by omega) (by omega)
    have w2 : wrapI .i64 (((x0.pages.length + x1.pages.length : Nat) : Int) + (x2.pages.length : Int)) = I ((x0.pages.length + (x1.pages.length + x2.pages.length) : Nat) : Int) := by rw [wrap_add (by omega) (by omega), Nat.add_assoc]
    simp -implicitDefEqProofs only [↓GP, GB, GL, Nat.reduceAdd, Nat.reduceSub, Nat.reduceEqDiff, Nat.reduceMul, Nat.reduceLeDiff, Int.reduceBNe, Int.reduceBEq, Nat.reduceLT, reduceCtorEq, j8_0xabaabb, e19, e20, bne_self_eq_false, fr, i0, i1, i2, H.mem (HW.id m0), H.mem (HW.id m1), H.mem (HW.id m2), e21, hs_inuse h H m0, hs_inuse h H m1, hs_inuse h H m2, w1, w2]
    exact k

theorem acts8_loop {hk : Nat} {v : V} {l : List (ActG × List Bool)} {ids : List Nat} {K : Kt} (hA : ActsAt o v l) (hl : l.length ≤ 150) (hi3 : ids.length = 3)
    (k : ∀ s' u' L', HsOk u' L' l.length → L'.map PSt.pid = ids → Holds o s' (HW p r q t u' L' ((hk, rowO 1 3 (ids.map ptrN)) :: F)) → WP (K (.exit 0) (sp 112 [(5, rowV hk 3)]) s') Q) :
    ∀ (m i : Nat) (s : St) (u : List Bool) (L : List PSt), i + m = l.length → HsOk u L i → L.map PSt.pid = ids → Holds o s (HW p r q t u L ((hk, rowO 1 3 (ids.map ptrN)) :: F)) →
    WP (loop PF (.loop l8_0) (sp 112 [(1, v), (5, rowV hk 3), (6, ptrN p), (7, ptrN q), (9, I i)]) s K) Q
  | 0, i, s, u, L, hi, h, hids, H => by
    have hlt : ¬ ((i : Int) < (l.length : Int)) := by omega
    have e : i = l.length := by omega
    subst e
    refine wp_round fun LL hLL => ?_
    simp -implicitDefEqProofs only [↓GP, GB, GL, Nat.reduceAdd, Nat.reduceSub, Nat.reduceEqDiff, Nat.reduceMul, Nat.reduceLeDiff, Int.reduceBNe, Int.reduceBEq, Nat.reduceLT, reduceCtorEq, l8_0, hA.len, hlt]
    exact k s u L h hids H
  | m + 1, i, s, u, L, hi, h, hids, H => by
    have hlt : ((i : Int) < (l.length : Int)) := by omega
    have hi' : i < l.length := by omega
    have hL3 : L.length = 3 := by have := congrArg List.length hids; simpa [hi3] using this
    obtain ⟨ad, a1, a2⟩ := hA.get i hi'
    have a3 := fun s1 (H : s1.old = o) => (a2 s1 H).1
    have mi := List.getElem_mem hi'
    obtain ⟨d1, d2, d3, d4⟩ := hA.d _ mi
    have f0 := fun s1 (H : s1.old = o) => load_field (f := 0) (a3 s1 H) rfl
    simp only [Nat.add_zero] at f0
    have f1 := fun s1 (H : s1.old = o) => load_field (f := 1) (a3 s1 H) rfl
    have hm : intI .rem .u8 l[i].1.hn 3 = some (.int .u8 (l[i].1.hn % 3)) := by
      show (if (3 : Int) = 0 then none else some (V.int .u8 (l[i].1.hn.tmod 3))) = _
      rw [if_neg (by omega), Int.tmod_eq_emod_of_nonneg d3]
    obtain ⟨j, hj, hj3⟩ : ∃ j : Nat, l[i].1.hn % 3 = (j : Int) ∧ j < 3 := ⟨(l[i].1.hn % 3).toNat, by omega, by omega⟩
    have hwj : wrapI .i64 (l[i].1.hn % 3) = I j := by rw [hj]; exact wrap64 (by omega) (by omega)
    have hjL : j < L.length := by omega
    have mx : L[j] ∈ L := List.getElem_mem hjL
    have hix := ix_row (sz := 1) (k := hk) (n := 3) (i := j) (kk := .i64) hj3
    have fr : ∀ s1 : St, s1.new hk = some (.cells (ids.map ptrN) (some 1)) ∧ hk < s1.next → ldC j (s1.new hk) = some (ptrN L[j].pid) := fun s1 e => by
      rw [e.1, ldC_some, ← hids]; simp [hjL]
    have fr0 := fr s (H.mem (HW.fr (List.mem_cons_self ..)))
    have hw1 := wrap_add1 (a := i) (by omega)
    have more : ∀ s2 u2 L2, HsOk u2 L2 (i + 1) → L2.map PSt.pid = ids → Holds o s2 (HW p r q t u2 L2 ((hk, rowO 1 3 (ids.map ptrN)) :: F)) → ∀ LL, LL = loop PF (.loop l8_0) →
        WP (go (loop PF) (call PF) j8_0xabaabb (sp 112 [(1, v), (5, rowV hk 3), (6, ptrN p), (7, ptrN q), (9, I i)]) s2 (blockK 1 (seqK (loop PF) (call PF) (.region [oa 31 (.mov (.t 9)), oa 32 (.bin .add (.t 31) (ai 1)), oa 9 (.mov (.t 32))] (kp 112 [1,5,6,7,9])) (seqK (loop PF) (call PF) (sk 112 [1,5,6,7,9]) (roundK LL K))))) Q := by
      intro s2 u2 L2 h2 e2 H2 LL hLL
      have e3 : ids.map ptrN = L2.map fun x => ptrN x.pid := by rw [← e2, List.map_map]; rfl
      refine check8 h2 (by have := congrArg List.length e2; simpa [hi3] using this) (by rw [← e3]; exact H2) ?_
      simp -implicitDefEqProofs only [↓GP, GB, GL, Nat.reduceAdd, Nat.reduceSub, Nat.reduceEqDiff, Nat.reduceMul, Nat.reduceLeDiff, Int.reduceBNe, Int.reduceBEq, Nat.reduceLT, reduceCtorEq, hw1]
      rw [hLL]
      exact acts8_loop hA hl hi3 k m (i + 1) s2 u2 L2 (by omega) h2 e2 H2
    refine wp_round fun LL hLL => ?_
    by_cases hd : l[i].1.d = 255
    · have hb : (l[i].1.d == 255) = true := by simpa using hd
      simp -implicitDefEqProofs only [↓GP, GB, GL, Nat.reduceAdd, Nat.reduceSub, Nat.reduceEqDiff, Nat.reduceMul, Nat.reduceLeDiff, Int.reduceBNe, Int.reduceBEq, Nat.reduceLT, reduceCtorEq, l8_0, hA.len, hlt, a1, f0 s H.old, f1 s H.old, hm, hwj, hix, fr0, hb, H.mem (HW.id mx)]
      refine wp_in (hs_drop h H mx fun s1 g1 g2 g3 g4 => ?_)
      simp -implicitDefEqProofs only [↓GP, GB, GL, Nat.reduceAdd, Nat.reduceSub, Nat.reduceEqDiff, Nat.reduceMul, Nat.reduceLeDiff, Int.reduceBNe, Int.reduceBEq, Nat.reduceLT, reduceCtorEq, g1]
      refine wp_in (g4.mono fun v2 s2 g5 => ?_)
      obtain ⟨rfl, u', L', h5, h6, h7, h8⟩ := g5
      simp -implicitDefEqProofs only [↓GP, GB, GL, Nat.reduceAdd, Nat.reduceSub, Nat.reduceEqDiff, Nat.reduceMul, Nat.reduceLeDiff, Int.reduceBNe, Int.reduceBEq, Nat.reduceLT, reduceCtorEq]
      exact more s2 u' L' (h5.mono (by omega)) (by rw [h6, hids]) h8 LL hLL
    · have hb : (l[i].1.d == 255) = false := by simpa using hd
      simp -implicitDefEqProofs only [↓GP, GB, GL, Nat.reduceAdd, Nat.reduceSub, Nat.reduceEqDiff, Nat.reduceMul, Nat.reduceLeDiff, Int.reduceBNe, Int.reduceBEq, Nat.reduceLT, reduceCtorEq, l8_0, hA.len, hlt, a1, f0 s H.old, f1 s H.old, a3 s H.old, hm, hwj, hix, fr0, hb]
      refine wp_in (hs_act (bs := l[i].2) l[i].1 d1 (hA.some_ _ mi) h (by omega) H mx fun s1 u1 L1 n1 n2 n3 h1 => ?_)
      simp -implicitDefEqProofs only [↓GP, GB, GL, Nat.reduceAdd, Nat.reduceSub, Nat.reduceEqDiff, Nat.reduceMul, Nat.reduceLeDiff, Int.reduceBNe, Int.reduceBEq, Nat.reduceLT, reduceCtorEq]
      exact more s1 u1 L1 n1 (by rw [n2, hids]) h1 LL hLL

theorem is8_loop {hk n : Nat} {K : Kt} (h : HsOk u L n) (hl : L.length = 3) (k : ∀ s', WP (K (.exit 2) (sp 112 []) s') Q) :
    ∀ (m j : Nat) (s : St), j + m = 3 → Holds o s (HW p r q t u L ((hk, rowO 1 3 (L.map fun x => ptrN x.pid)) :: F)) → WP (loop PF (.loop l8_1) (sp 112 [(5, rowV hk 3), (11, I j)]) s K) Q
  | 0, j, s, hj, H => by
    have hlt : ¬ ((j : Int) < ((3 : Nat) : Int)) := by omega
    refine wp_round fun LL hLL => ?_
    simp -implicitDefEqProofs only [↓GP, GB, GL, Nat.reduceAdd, Nat.reduceSub, Nat.reduceEqDiff, Nat.reduceMul, Nat.reduceLeDiff, Int.reduceBNe, Int.reduceBEq, Nat.reduceLT, reduceCtorEq, l8_1, hlt]
    exact k s
  | m + 1, j, s, hj, H => by
    have hlt : ((j : Int) < ((3 : Nat) : Int)) := by omega
    have hjL : j < L.length := by omega
    have mx : L[j] ∈ L := List.getElem_mem hjL
    have hix := ix_row (sz := 1) (k := hk) (n := 3) (i := j) (kk := .i64) (by omega)
    have fr0 : ldC j (s.new hk) = some (ptrN L[j].pid) := by
      rw [(H.mem (HW.fr (List.mem_cons_self ..))).1, ldC_some]; simp [hjL]
    have hw1 := wrap_add1 (a := j) (by omega)
    refine wp_round fun LL hLL => ?_
    simp -implicitDefEqProofs only [↓GP, GB, GL, Nat.reduceAdd, Nat.reduceSub, Nat.reduceEqDiff, Nat.reduceMul, Nat.reduceLeDiff, Int.reduceBNe, Int.reduceBEq, Nat.reduceLT, reduceCtorEq, l8_1, hlt, hix, fr0]
    refine wp_in (hs_is h H mx fun s1 h1 => ?_)
    simp -implicitDefEqProofs only [↓GP, GB, GL, Nat.reduceAdd, Nat.reduceSub, Nat.reduceEqDiff, Nat.reduceMul, Nat.reduceLeDiff, Int.reduceBNe, Int.reduceBEq, Nat.reduceLT, reduceCtorEq, hw1]
    rw [hLL]
    exact is8_loop h hl k m (j + 1) s1 (by omega) h1

/-- PageHeaps: it answers true. -/
theorem pageHeaps_im {v : V} {l : List (ActG × List Bool)} (hA : ActsAt o v l) (hll : l.length < 2 ^ 61) {n : Int} (hn0 : 0 ≤ n) (hn1 : n < 256) (s : St) (hs : s.old = o) : ∃ st, call PF 8 [.int .u8 n, v] s = some (.bool true, st) := by
  refine im_true ?_
  have e24 := s24 hs hA hll
  cases hlg : longB l with
  | true =>
    rw [hlg] at e24
    obtain ⟨t, ht, -⟩ := sane15 s
    rw [call_run F8]; simp -implicitDefEqProofs only [↓GP, GB, GL, Nat.reduceAdd, Nat.reduceSub, Nat.reduceEqDiff, Nat.reduceMul, Nat.reduceLeDiff, Int.reduceBNe, Int.reduceBEq, Nat.reduceLT, reduceCtorEq, c8, e24, ht]
  | false =>
    rw [hlg] at e24
    have hl := longB_len hlg
    obtain ⟨k, k1, k2, e1, e2, e3⟩ := pages12 hn0 hn1
    rw [call_run F8]; simp -implicitDefEqProofs only [↓GP, GB, GL, Nat.reduceAdd, Nat.reduceSub, Nat.reduceEqDiff, Nat.reduceMul, Nat.reduceLeDiff, Int.reduceBNe, Int.reduceBEq, Nat.reduceLT, reduceCtorEq, c8, e24, e1, e2, e3]
    refine wp_in (s25_many (n := k) (many := 3) k1 (by omega) (by omega) (H00 hs) fun s1 p r q t hk L h hL3 h1 => ?_)
    simp -implicitDefEqProofs only [↓GP, GB, GL, Nat.reduceAdd, Nat.reduceSub, Nat.reduceEqDiff, Nat.reduceMul, Nat.reduceLeDiff, Int.reduceBNe, Int.reduceBEq, Nat.reduceLT, reduceCtorEq]
    have e4 : (L.map PSt.pid).map ptrN = L.map fun x => ptrN x.pid := by rw [List.map_map]; rfl
    have h2 : Holds o s1 (HW p r q t (List.replicate k false) L ((hk, rowO 1 3 ((L.map PSt.pid).map ptrN)) :: [])) := (Holds.of (h1) (fun k => by simp +arith only [HW, e4, HA, HB]) (fun k x => by simp only [HW, e4, HA, HC]; grind only))
    refine acts8_loop (F := []) hA hl (by rw [List.length_map]; exact hL3) (fun s2 u2 L2 g1 g2 g3 => ?_) l.length 0 s1 (List.replicate k false) L (by omega) h rfl h2
    simp -implicitDefEqProofs only [↓GP, GB, GL, Nat.reduceAdd, Nat.reduceSub, Nat.reduceEqDiff, Nat.reduceMul, Nat.reduceLeDiff, Int.reduceBNe, Int.reduceBEq, Nat.reduceLT, reduceCtorEq]
    have e5 : (L.map PSt.pid).map ptrN = L2.map fun x => ptrN x.pid := by rw [← g2, List.map_map]; rfl
    rw [e5] at g3
    refine is8_loop g1 (by have := congrArg List.length g2; simpa [hL3] using this) (fun s3 => ?_) 3 0 s2 (by omega) g3
    obtain ⟨t', ht', -⟩ := sane15 s3
    simp -implicitDefEqProofs only [↓GP, GB, GL, Nat.reduceAdd, Nat.reduceSub, Nat.reduceEqDiff, Nat.reduceMul, Nat.reduceLeDiff, Int.reduceBNe, Int.reduceBEq, Nat.reduceLT, reduceCtorEq, ht']
end
end Go.Proofs.Ytoldkemimhebaaa
