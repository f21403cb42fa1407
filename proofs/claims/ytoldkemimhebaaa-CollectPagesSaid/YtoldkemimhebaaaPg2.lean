/- Layer 15: acts in old memory; making a pair. -/
import Derived.Test.YtoldkemimhebaaaPgW
import Derived.Test.YtoldkemimhebaaaPgB
set_option linter.unusedSimpArgs false
set_option linter.unusedVariables false
namespace Go.Proofs.Ytoldkemimhebaaa
open Go Go.IM

-- virgate/virgatelaw15.Long
def l24_0 : IC := (.seq (.seq (.seq (.region [oa 4 (.mov (.t 3)), oa 5 (.mov (.t 0)), oa 6 (.lenSlice (.t 5)), oa 7 (.bin .lss (.t 4) (.t 6))] (kp 20 [0,3,7]))
  (.cond (.t 7)
  (sk 20 [0,3])
  (sx 20 [0] 0)))
  (.seq (.block 1
  (.seq (.region [oa 10 (.mov (.t 0)), oa 11 (.mov (.t 3)), oa 12 (.indexAddr 11 (.t 10) (.t 11)), oa 13 (.fieldAddr 10 (.t 12)), oa 14 (.load none (.t 13)), oa 15 (.lenSlice (.t 14)), oa 16 (.bin .gtr (.t 15) (ai 200))] (kp 20 [0,3,16]))
  (.cond (.t 16)
  (.seq (.region [oa 2 (.mov (.c (.bool true)))] (kp 20 [2]))
  (sr 20 [2]))
  (sk 20 [0,3]))))
  (.region [oa 8 (.mov (.t 3)), oa 9 (.bin .add (.t 8) (ai 1)), oa 3 (.mov (.t 9))] (kp 20 [0,3]))))
  (sk 20 [0,3]))
def c24 : IFn := ⟨20, [(2, none)],
  (.seq (.region [oa 2 (.mov (.c (.bool false)))] (kp 20 [0]))
  (.seq (.seq (.region [oa 3 (.mov (ai 0))] (kp 20 [0,3]))
  (.block 0
  (.seq (sk 20 [0,3])
  (.loop l24_0))))
  (.seq (.region [oa 17 (.mov (.t 0)), oa 18 (.lenSlice (.t 17)), oa 19 (.bin .gtr (.t 18) (ai 150)), oa 2 (.mov (.t 19))] (kp 20 [2]))
  (sr 20 [2]))))⟩
theorem F24 : shutF Try.prog 24 = some c24 := by kernel_rfl

-- virgate/virgatelaw15.Heaps
def l25_0 : IC := (.seq (.seq (.seq (.region [oa 31 (.mov (.t 13)), oa 32 (.mov (.t 1)), oa 33 (.bin .lss (.t 31) (.t 32))] (kp 67 [1,8,10,12,13,33]))
  (.cond (.t 33)
  (sk 67 [1,8,10,12,13])
  (sx 67 [8,10,12] 0)))
  (.seq (.block 1
  (.seq (.region [oa 37 (.mov (.t 8)), oa 38 (.call 22 [(.t 37)]), oa 36 (.mov (.t 38)), oa 39 (.extract (.t 36) 0), oa 40 (.extract (.t 36) 1), oa 14 (.mov (.t 39)), oa 15 (.mov (.t 40))] (kp 67 [1,8,10,12,13,14,15]))
  (.seq (.region [oa 42 (.mov (.t 10)), oa 43 (.call 58 [(.t 42)]), oa 41 (.mov (.t 43)), oa 44 (.extract (.t 41) 0), oa 45 (.extract (.t 41) 1), oa 16 (.mov (.t 44)), oa 17 (.mov (.t 45))] (kp 67 [1,8,10,12,13,14,15,16,17]))
  (.seq (.seq (.region [oa 46 (.mov (.t 15)), oa 47 (.mov (.t 17)), oa 48 (.bin .neq (.t 46) (.t 47)), oa 49 (.mov (.t 48)), oc 50 (.mov (.t 14)) 49 ff, oc 51 (.eql false .ptr (.t 50) (.c (.ptr none))) 49 ff, oc 52 (.mov (.t 51)) 49 ff, oc 53 (.mov (.t 17)) 52 tt, oc 54 (.bin .eql (.t 53) (ai 0)) 52 tt, oc 55 (.pick (.t 52) (.t 54) (.c (.bool false))) 49 ff, oa 56 (.pick (.t 49) (.c (.bool true)) (.t 55))] (kp 67 [1,8,10,12,13,14,16,56]))
  (.cond (.t 56)
  (.seq (.region [oa 4 (.mov (.c (.slice none 0 (some 0)))), oa 5 (.mov (.c (.ptr none))), oa 6 (.mov (.c (.ptr none))), oa 7 (.mov (.c (.bool false)))] (kp 67 [4,5,6,7]))
  (sr 67 [4,5,6,7]))
  (sk 67 [1,8,10,12,13,14,16])))
  (.region [oa 57 (.mov (.t 12)), oa 58 (.mov (.t 14)), oa 59 (.mov (.t 16)), oa 60 (.build [(.ptr none), (.ptr none), (.slice none 0 (some 0))] [(0, 1, (.t 58)), (1, 1, (.t 59))]), oa 61 (.box (.t 60)), oa 62 (.buildSlice 1 [(.ptr none)] [(0, 1, (.t 61))]), oa 63 (.append 1 8 (.t 57) (.t 62)), oa 12 (.mov (.t 63))] (kp 67 [1,8,10,12,13]))))))
  (.region [oa 34 (.mov (.t 13)), oa 35 (.bin .add (.t 34) (ai 1)), oa 13 (.mov (.t 35))] (kp 67 [1,8,10,12,13]))))
  (sk 67 [1,8,10,12,13]))
def c25 : IFn := ⟨67, [(4, none), (5, none), (6, none), (7, none)],
  (.seq (.region [oa 4 (.mov (.c (.slice none 0 (some 0)))), oa 5 (.mov (.c (.ptr none))), oa 6 (.mov (.c (.ptr none))), oa 7 (.mov (.c (.bool false)))] (kp 67 [0,1]))
  (.seq (.region [oa 19 (.mov (.t 0)), oa 20 (.call 17 [(.t 19)]), oa 18 (.mov (.t 20)), oa 21 (.extract (.t 18) 0), oa 22 (.extract (.t 18) 1), oa 8 (.mov (.t 21)), oa 9 (.mov (.t 22))] (kp 67 [0,1,8,9]))
  (.seq (.region [oa 24 (.mov (.t 0)), oa 25 (.call 18 [(.t 24)]), oa 23 (.mov (.t 25)), oa 26 (.extract (.t 23) 0), oa 27 (.extract (.t 23) 1), oa 10 (.mov (.t 26)), oa 11 (.mov (.t 27))] (kp 67 [1,8,9,10,11]))
  (.seq (.seq (.region [oa 28 (.mov (.t 9)), oa 29 (.mov (.t 11)), oa 30 (.bin .neq (.t 28) (.t 29))] (kp 67 [1,8,10,30]))
  (.cond (.t 30)
  (.seq (.region [oa 4 (.mov (.c (.slice none 0 (some 0)))), oa 5 (.mov (.c (.ptr none))), oa 6 (.mov (.c (.ptr none))), oa 7 (.mov (.c (.bool false)))] (kp 67 [4,5,6,7]))
  (sr 67 [4,5,6,7]))
  (sk 67 [1,8,10])))
  (.seq (.region [oa 12 (.mov (.c (.slice none 0 (some 0))))] (kp 67 [1,8,10,12]))
  (.seq (.seq (.region [oa 13 (.mov (ai 0))] (kp 67 [1,8,10,12,13]))
  (.block 0
  (.seq (sk 67 [1,8,10,12,13])
  (.loop l25_0))))
  (.seq (.region [oa 64 (.mov (.t 12)), oa 65 (.mov (.t 8)), oa 66 (.mov (.t 10)), oa 4 (.mov (.t 64)), oa 5 (.mov (.t 65)), oa 6 (.mov (.t 66)), oa 7 (.mov (.c (.bool true)))] (kp 67 [4,5,6,7]))
  (sr 67 [4,5,6,7]))))))))⟩
theorem F25 : shutF Try.prog 25 = some c25 := by kernel_rfl


section
variable {o : Nat → Option O} {s : St} {C F : Ch} {Q : V → St → Prop} {p r q t : Nat} {u : List Bool} {others : List Nat} {G : PairG}
set_option maxRecDepth 10000
set_option maxHeartbeats 4000000

/-- Acts, in old memory. -/
structure ActsAt (o : Nat → Option O) (v : V) (l : List (ActG × List Bool)) : Prop where
  len : lenV v = some (.int .i64 l.length)
  get : ∀ (i : Nat) (h : i < l.length), ∃ ad : Ad, ixV 11 v (.int .i64 (i : Int)) = some (.ptr (some ad)) ∧ ∀ s : St, s.old = o → loadV (some 11) (.ptr (some ad)) s = some (.agg l[i].1.cells) ∧ loadV none (.ptr (some ⟨ad.id, ad.off + 10⟩)) s = some (.slice l[i].1.sa l[i].1.sn l[i].1.sc)
  some_ : ∀ x ∈ l, SomeAt o x.1 x.2
  d : ∀ x ∈ l, 0 ≤ x.1.d ∧ x.1.d < 256 ∧ 0 ≤ x.1.hn ∧ x.1.hn < 256

def longB (l : List (ActG × List Bool)) : Bool := l.any (fun x => decide (200 < x.2.length)) || decide (150 < l.length)
theorem long_loop {v : V} {l : List (ActG × List Bool)} {K : Kt} (hs : s.old = o) (h : ActsAt o v l) (hl : l.length < 2 ^ 61) : ∀ (m i : Nat), i + m = l.length →
    loop PF (.loop l24_0) (sp 20 [(0, v), (3, I i)]) s K = if (l.drop i).any (fun x => decide (200 < x.2.length)) then K .ret (sp 20 [(2, .bool true)]) s else K (.exit 0) (sp 20 [(0, v)]) s
  | 0, i, hi => by
    have hlt : ¬ ((i : Int) < (l.length : Int)) := by omega
    refine round fun LL hLL => ?_
    simp -implicitDefEqProofs only [↓GP, GB, GL, Nat.reduceAdd, Nat.reduceSub, Nat.reduceEqDiff, Nat.reduceMul, Nat.reduceLeDiff, Int.reduceBNe, Int.reduceBEq, Nat.reduceLT, reduceCtorEq, l24_0, h.len, hlt]
    rw [List.drop_eq_nil_of_le (by omega)]
    rfl
  | m + 1, i, hi => by
    have hlt : ((i : Int) < (l.length : Int)) := by omega
    have hi' : i < l.length := by omega
    have hd : l.drop i = l[i] :: l.drop (i + 1) := List.drop_eq_getElem_cons hi'
    obtain ⟨ad, a1, a2⟩ := h.get i hi'
    have a3 := (a2 s hs).2
    have hsn := (h.some_ l[i] (List.getElem_mem hi')).1
    have hw := wrap_add1 (a := i) (by omega)
    refine round fun LL hLL => ?_
    rw [hd, List.any_cons]
    by_cases hb : 200 < l[i].2.length
    · have hb' : ((l[i].1.sn : Int) > 200) := by omega
      simp -implicitDefEqProofs only [↓GP, GB, GL, Nat.reduceAdd, Nat.reduceSub, Nat.reduceEqDiff, Nat.reduceMul, Nat.reduceLeDiff, Int.reduceBNe, Int.reduceBEq, Nat.reduceLT, reduceCtorEq, l24_0, h.len, hlt, a1, a3, hb']
      simp [hb]
    · have hb' : ¬ ((l[i].1.sn : Int) > 200) := by omega
      simp -implicitDefEqProofs only [↓GP, GB, GL, Nat.reduceAdd, Nat.reduceSub, Nat.reduceEqDiff, Nat.reduceMul, Nat.reduceLeDiff, Int.reduceBNe, Int.reduceBEq, Nat.reduceLT, reduceCtorEq, l24_0, h.len, hlt, a1, a3, hb', hw]
      rw [hLL, long_loop hs h hl m (i + 1) (by omega)]
      have hf : decide (200 < l[i].2.length) = false := by simpa using hb
      rw [hf, Bool.false_or]
theorem s24 {v : V} {l : List (ActG × List Bool)} (hs : s.old = o) (h : ActsAt o v l) (hl : l.length < 2 ^ 61) : call PF 24 [v] s = some (.bool (longB l), s) := by
  rw [call_run F24]; simp -implicitDefEqProofs only [↓GP, GB, GL, Nat.reduceAdd, Nat.reduceSub, Nat.reduceEqDiff, Nat.reduceMul, Nat.reduceLeDiff, Int.reduceBNe, Int.reduceBEq, Nat.reduceLT, reduceCtorEq, c24]
  refine (long_loop hs h hl l.length 0 (by omega)).trans ?_
  rw [List.drop_zero]
  unfold longB
  cases l.any (fun x => decide (200 < x.2.length)) with
  | true => simp -implicitDefEqProofs only [↓GP, GB, GL, Nat.reduceAdd, Nat.reduceSub, Nat.reduceEqDiff, Nat.reduceMul, Nat.reduceLeDiff, Int.reduceBNe, Int.reduceBEq, Nat.reduceLT, reduceCtorEq]
  | false =>
    by_cases hb : 150 < l.length
    · have hb' : ((l.length : Int) > 150) := by omega
      simp -implicitDefEqProofs only [↓GP, GB, GL, Nat.reduceAdd, Nat.reduceSub, Nat.reduceEqDiff, Nat.reduceMul, Nat.reduceLeDiff, Int.reduceBNe, Int.reduceBEq, Nat.reduceLT, reduceCtorEq, h.len, hb', hb]
    · have hb' : ¬ ((l.length : Int) > 150) := by omega
      simp -implicitDefEqProofs only [↓GP, GB, GL, Nat.reduceAdd, Nat.reduceSub, Nat.reduceEqDiff, Nat.reduceMul, Nat.reduceLeDiff, Int.reduceBNe, Int.reduceBEq, Nat.reduceLT, reduceCtorEq, h.len, hb', hb]

theorem pool_init (n : Nat) : PoolInv (List.replicate n false) [] := ⟨List.nodup_nil, fun p => by simp [List.getElem?_replicate]⟩
theorem PairOk.init {n id wk pid prk k m rid rrk : Nat} {sl : List V} (hn : n ≤ 30) : PairOk (List.replicate n false) [] ⟨id, wk, ⟨pid, prk, 1, [⟨k, 0, 0, m, .map [] 0, 0, 1, 0, [], []⟩], sl⟩, ⟨rid, rrk, false, 1, [⟨0, 0, 0, 1, 0, [], []⟩], []⟩, []⟩ where
  ulen := by simpa using hn
  lives := rfl
  same := rfl
  inv := ⟨by simp, by simp, by simp, by simp, by simp [PReg.m], fun r hr => by
    simp [PReg.m] at hr; subst hr
    exact ⟨by simp, by simp, fun h => by simp at h, fun _ => Packed.nil⟩⟩
  pool := pool_init n
  pok := fun g hg => by simp at hg; subst hg; exact mapIs_nil
  grown := ⟨fun _ => rfl, 0, rfl⟩
  one := fun _ => rfl

/-- One pair on new pools. -/
theorem s25 {n : Nat} (h1 : 1 ≤ n) (h2 : n ≤ 30) (H : Holds o s F)
    (k : ∀ s' p r q t G hk, PairOk (List.replicate n false) [] G → G.ws = [] → G.hp.lives = 1 → Holds o s' ((hk, rowO 1 1 [ptrN G.id]) :: World p r q t (List.replicate n false) G F) → Q (.tuple [rowV hk 1, ptrN p, ptrN q, .bool true]) s') : WP (call PF 25 [I n, I 1] s) Q := by
  have e17 := s17 s (n : Int) (by omega) (by omega)
  have H1 := (H.alloc (.cells (zeros [.bool false] (n : Int).toNat) none)).alloc (.cells [slN s.next (n : Int).toNat] none)
  simp only [Int.toNat_natCast, alloc_next] at e17 H1
  generalize (s.alloc (.cells (zeros [.bool false] n) none)).alloc (.cells [slN s.next n] none) = s1 at e17 H1
  have e18 := s18 s1 (n : Int) (by omega) (by omega)
  have H2 := (H1.alloc (.cells (zeros [.bool false] (n : Int).toNat) none)).alloc (.cells [slN s1.next (n : Int).toNat] none)
  simp only [Int.toNat_natCast, alloc_next] at e18 H2
  generalize (s1.alloc (.cells (zeros [.bool false] n) none)).alloc (.cells [slN s1.next n] none) = s2 at e18 H2
  have H3 : Holds o s2 (poolC (s.next + 1) s.next (List.replicate n false) ++ (poolC (s1.next + 1) s1.next (List.replicate n false) ++ F)) := (Holds.of (H2) (fun k => by simp +arith only [zeros_bool, List.length_replicate, HA, HB]) (fun k x => by simp only [zeros_bool, List.length_replicate, HA, HC]; grind only))
  rw [call_run F25]; simp -implicitDefEqProofs only [↓GP, GB, GL, Nat.reduceAdd, Nat.reduceSub, Nat.reduceEqDiff, Nat.reduceMul, Nat.reduceLeDiff, Int.reduceBNe, Int.reduceBEq, Nat.reduceLT, reduceCtorEq, c25, e17, e18]
  refine wp_round fun LL hLL => ?_
  simp -implicitDefEqProofs only [↓GP, GB, GL, Nat.reduceAdd, Nat.reduceSub, Nat.reduceEqDiff, Nat.reduceMul, Nat.reduceLeDiff, Int.reduceBNe, Int.reduceBEq, Nat.reduceLT, reduceCtorEq, l25_0, Int.reduceLT]
  refine wp_in (s22 (F := poolC (s1.next + 1) s1.next (List.replicate n false) ++ F) H3 (by simp; omega) fun s3 id rk kk m sl H4 => ?_)
  simp -implicitDefEqProofs only [↓GP, GB, GL, Nat.reduceAdd, Nat.reduceSub, Nat.reduceEqDiff, Nat.reduceMul, Nat.reduceLeDiff, Int.reduceBNe, Int.reduceBEq, Nat.reduceLT, reduceCtorEq]
  refine wp_in (s58 (p := s1.next + 1) (r := s1.next) (u := List.replicate n false) (F := poolC (s.next + 1) s.next (List.replicate n false) ++ (PHeap.ch (s.next + 1) ⟨id, rk, 1, [⟨kk, 0, 0, m, .map [] 0, 0, 1, 0, [], []⟩], sl⟩ ++ F)) (Holds.of (H4) (fun k => by simp +arith only [HA, HB]) (fun k x => by simp only [HA, HC]; grind only)) (by simp; omega) fun s4 id' rk' H5 => ?_)
  simp -implicitDefEqProofs only [↓GP, GB, GL, Nat.reduceAdd, Nat.reduceSub, Nat.reduceEqDiff, Nat.reduceMul, Nat.reduceLeDiff, Int.reduceBNe, Int.reduceBEq, Nat.reduceLT, reduceCtorEq, Int.reduceBNe, Int.reduceBEq]
  have H6 := (H5.alloc (.cells [ptrN id, ptrN id', .slice none 0 (some 0)] none)).alloc (.cells [ptrN s4.next] none)
  refine wp_append (k := 0) (n := 0) (cs := []) (F := (s4.next + 1, some (.cells [ptrN s4.next] none)) :: (s4.next, some (.cells [ptrN id, ptrN id', .slice none 0 (some 0)] none)) :: (poolC (s1.next + 1) s1.next (List.replicate n false) ++ (RHeap.ch (s1.next + 1) ⟨id', rk', false, 1, [⟨0, 0, 0, 1, 0, [], []⟩], []⟩ ++ (poolC (s.next + 1) s.next (List.replicate n false) ++ (PHeap.ch (s.next + 1) ⟨id, rk, 1, [⟨kk, 0, 0, m, .map [] 0, 0, 1, 0, [], []⟩], sl⟩ ++ F)))))
    (Holds.of (H6.nilEntry 0) (fun k => by simp +arith only [rowO_zero, HA, HB]) (fun k x => by simp only [rowO_zero, HA, HC]; grind only)) rfl (new_cells' (alloc_new_same _ _) rfl) rfl rfl (by omega) (by unfold maxRow; omega) (by unfold maxRow; omega) fun hk s5 H7 => ?_
  have w : wrapI .i64 ((0 : Int) + 1) = I 1 := by rw [wrap64 (by omega) (by omega)]; rfl
  simp -implicitDefEqProofs only [↓GP, GB, GL, Nat.reduceAdd, Nat.reduceSub, Nat.reduceEqDiff, Nat.reduceMul, Nat.reduceLeDiff, Int.reduceBNe, Int.reduceBEq, Nat.reduceLT, reduceCtorEq, w]
  rw [hLL]
  refine wp_round fun LL hLL => ?_
  simp -implicitDefEqProofs only [↓GP, GB, GL, Nat.reduceAdd, Nat.reduceSub, Nat.reduceEqDiff, Nat.reduceMul, Nat.reduceLeDiff, Int.reduceBNe, Int.reduceBEq, Nat.reduceLT, reduceCtorEq, l25_0, Int.reduceLT]
  refine k _ (s.next + 1) s.next (s1.next + 1) s1.next ⟨s4.next, 0, ⟨id, rk, 1, [⟨kk, 0, 0, m, .map [] 0, 0, 1, 0, [], []⟩], sl⟩, ⟨id', rk', false, 1, [⟨0, 0, 0, 1, 0, [], []⟩], []⟩, []⟩ hk (PairOk.init h2) rfl rfl (Holds.of (H7) (fun k => by simp +arith only [rowV_zero, rowO_zero, List.length_nil, List.flatMap_nil, HA, HB]) (fun k x => by simp only [rowV_zero, rowO_zero, List.length_nil, List.flatMap_nil, HA, HC]; grind only))
end
end Go.Proofs.Ytoldkemimhebaaa
