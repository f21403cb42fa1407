/- Layer 15: acts in old memory; making a pair. -/
import Derived.Test.YtoldkemimhebaaaPgW
import Derived.Test.YtoldkemimhebaaaPgB
set_option linter.unusedSimpArgs false
set_option linter.unusedVariables false
namespace Go.Proofs.Ytoldkemimhebaaa
open Go Go.IM

-- virgate/virgatelaw15.Long
def k24_0 : List Bool := [tt,ff,tt,ff,ff,ff,ff,ff,ff,ff,ff,ff,ff,ff,ff,ff,ff,ff,ff,ff]
def k24_1 : List Bool := [tt,ff,tt,tt,ff,ff,ff,ff,ff,ff,ff,ff,ff,ff,ff,ff,ff,ff,ff,ff]
def k24_2 : List Bool := [tt,ff,tt,tt,ff,ff,ff,tt,ff,ff,ff,ff,ff,ff,ff,ff,ff,ff,ff,ff]
def k24_3 : List Bool := [tt,ff,ff,ff,ff,ff,ff,ff,ff,ff,ff,ff,ff,ff,ff,ff,ff,ff,ff,ff]
def k24_4 : List Bool := [tt,ff,tt,tt,ff,ff,ff,ff,ff,ff,ff,ff,ff,ff,ff,ff,tt,ff,ff,ff]
def k24_5 : List Bool := [ff,ff,tt,ff,ff,ff,ff,ff,ff,ff,ff,ff,ff,ff,ff,ff,ff,ff,ff,ff]
def l24_0 : IC := (.seq (.seq (.seq (.region [⟨(some 4), .mov (.t 3), none⟩,
    ⟨(some 5), .mov (.t 0), none⟩,
    ⟨(some 6), .lenSlice (.t 5), none⟩,
    ⟨(some 7), .bin .lss (.t 4) (.t 6), none⟩] k24_2)
  (.cond (.t 7)
  .skip
  (.seq (.region [] k24_3)
  (.exit 0))))
  (.seq (.block 1
  (.seq (.region [⟨(some 10), .mov (.t 0), none⟩,
    ⟨(some 11), .mov (.t 3), none⟩,
    ⟨(some 12), .indexAddr 11 (.t 10) (.t 11), none⟩,
    ⟨(some 13), .fieldAddr 10 (.t 12), none⟩,
    ⟨(some 14), .load none (.t 13), none⟩,
    ⟨(some 15), .lenSlice (.t 14), none⟩,
    ⟨(some 16), .bin .gtr (.t 15) (.c (.int .i64 (200))), none⟩] k24_4)
  (.cond (.t 16)
  (.seq (.region [⟨(some 2), .mov (.c (.bool true)), none⟩] k24_5)
  (.seq (.region [] k24_5)
  .ret))
  .skip)))
  (.region [⟨(some 8), .mov (.t 3), none⟩,
    ⟨(some 9), .bin .add (.t 8) (.c (.int .i64 (1))), none⟩,
    ⟨(some 3), .mov (.t 9), none⟩] k24_1)))
  (.region [] k24_1))
def c24 : IFn := ⟨20, [(2, none)],
  (.seq (.region [⟨(some 2), .mov (.c (.bool false)), none⟩] k24_0)
  (.seq (.seq (.region [⟨(some 3), .mov (.c (.int .i64 (0))), none⟩] k24_1)
  (.block 0
  (.seq (.region [] k24_1)
  (.loop l24_0))))
  (.seq (.region [⟨(some 17), .mov (.t 0), none⟩,
    ⟨(some 18), .lenSlice (.t 17), none⟩,
    ⟨(some 19), .bin .gtr (.t 18) (.c (.int .i64 (150))), none⟩,
    ⟨(some 2), .mov (.t 19), none⟩] k24_5)
  (.seq (.region [] k24_5)
  .ret))))⟩
theorem F24 : shutF Try.prog 24 = some c24 := by kernel_rfl

-- virgate/virgatelaw15.Heaps
def k25_0 : List Bool := [tt,tt,ff,ff,tt,tt,tt,tt,ff,ff,ff,ff,ff,ff,ff,ff,ff,ff,ff,ff,ff,ff,ff,ff,ff,ff,ff,ff,ff,ff,ff,ff,ff,ff,ff,ff,ff,ff,ff,ff,ff,ff,ff,ff,ff,ff,ff,ff,ff,ff,ff,ff,ff,ff,ff,ff,ff,ff,ff,ff,ff,ff,ff,ff,ff,ff,ff]
def k25_1 : List Bool := [tt,tt,ff,ff,tt,tt,tt,tt,tt,tt,ff,ff,ff,ff,ff,ff,ff,ff,ff,ff,ff,ff,ff,ff,ff,ff,ff,ff,ff,ff,ff,ff,ff,ff,ff,ff,ff,ff,ff,ff,ff,ff,ff,ff,ff,ff,ff,ff,ff,ff,ff,ff,ff,ff,ff,ff,ff,ff,ff,ff,ff,ff,ff,ff,ff,ff,ff]
def k25_2 : List Bool := [ff,tt,ff,ff,tt,tt,tt,tt,tt,tt,tt,tt,ff,ff,ff,ff,ff,ff,ff,ff,ff,ff,ff,ff,ff,ff,ff,ff,ff,ff,ff,ff,ff,ff,ff,ff,ff,ff,ff,ff,ff,ff,ff,ff,ff,ff,ff,ff,ff,ff,ff,ff,ff,ff,ff,ff,ff,ff,ff,ff,ff,ff,ff,ff,ff,ff,ff]
def k25_3 : List Bool := [ff,tt,ff,ff,tt,tt,tt,tt,tt,ff,tt,ff,ff,ff,ff,ff,ff,ff,ff,ff,ff,ff,ff,ff,ff,ff,ff,ff,ff,ff,tt,ff,ff,ff,ff,ff,ff,ff,ff,ff,ff,ff,ff,ff,ff,ff,ff,ff,ff,ff,ff,ff,ff,ff,ff,ff,ff,ff,ff,ff,ff,ff,ff,ff,ff,ff,ff]
def k25_4 : List Bool := [ff,ff,ff,ff,tt,tt,tt,tt,ff,ff,ff,ff,ff,ff,ff,ff,ff,ff,ff,ff,ff,ff,ff,ff,ff,ff,ff,ff,ff,ff,ff,ff,ff,ff,ff,ff,ff,ff,ff,ff,ff,ff,ff,ff,ff,ff,ff,ff,ff,ff,ff,ff,ff,ff,ff,ff,ff,ff,ff,ff,ff,ff,ff,ff,ff,ff,ff]
def k25_5 : List Bool := [ff,tt,ff,ff,tt,tt,tt,tt,tt,ff,tt,ff,tt,ff,ff,ff,ff,ff,ff,ff,ff,ff,ff,ff,ff,ff,ff,ff,ff,ff,ff,ff,ff,ff,ff,ff,ff,ff,ff,ff,ff,ff,ff,ff,ff,ff,ff,ff,ff,ff,ff,ff,ff,ff,ff,ff,ff,ff,ff,ff,ff,ff,ff,ff,ff,ff,ff]
def k25_6 : List Bool := [ff,tt,ff,ff,tt,tt,tt,tt,tt,ff,tt,ff,tt,tt,ff,ff,ff,ff,ff,ff,ff,ff,ff,ff,ff,ff,ff,ff,ff,ff,ff,ff,ff,ff,ff,ff,ff,ff,ff,ff,ff,ff,ff,ff,ff,ff,ff,ff,ff,ff,ff,ff,ff,ff,ff,ff,ff,ff,ff,ff,ff,ff,ff,ff,ff,ff,ff]
def k25_7 : List Bool := [ff,tt,ff,ff,tt,tt,tt,tt,tt,ff,tt,ff,tt,tt,ff,ff,ff,ff,ff,ff,ff,ff,ff,ff,ff,ff,ff,ff,ff,ff,ff,ff,ff,tt,ff,ff,ff,ff,ff,ff,ff,ff,ff,ff,ff,ff,ff,ff,ff,ff,ff,ff,ff,ff,ff,ff,ff,ff,ff,ff,ff,ff,ff,ff,ff,ff,ff]
def k25_8 : List Bool := [ff,ff,ff,ff,ff,ff,ff,ff,tt,ff,tt,ff,tt,ff,ff,ff,ff,ff,ff,ff,ff,ff,ff,ff,ff,ff,ff,ff,ff,ff,ff,ff,ff,ff,ff,ff,ff,ff,ff,ff,ff,ff,ff,ff,ff,ff,ff,ff,ff,ff,ff,ff,ff,ff,ff,ff,ff,ff,ff,ff,ff,ff,ff,ff,ff,ff,ff]
def k25_9 : List Bool := [ff,tt,ff,ff,tt,tt,tt,tt,tt,ff,tt,ff,tt,tt,tt,tt,ff,ff,ff,ff,ff,ff,ff,ff,ff,ff,ff,ff,ff,ff,ff,ff,ff,ff,ff,ff,ff,ff,ff,ff,ff,ff,ff,ff,ff,ff,ff,ff,ff,ff,ff,ff,ff,ff,ff,ff,ff,ff,ff,ff,ff,ff,ff,ff,ff,ff,ff]
def k25_10 : List Bool := [ff,tt,ff,ff,tt,tt,tt,tt,tt,ff,tt,ff,tt,tt,tt,tt,tt,tt,ff,ff,ff,ff,ff,ff,ff,ff,ff,ff,ff,ff,ff,ff,ff,ff,ff,ff,ff,ff,ff,ff,ff,ff,ff,ff,ff,ff,ff,ff,ff,ff,ff,ff,ff,ff,ff,ff,ff,ff,ff,ff,ff,ff,ff,ff,ff,ff,ff]
def k25_11 : List Bool := [ff,tt,ff,ff,tt,tt,tt,tt,tt,ff,tt,ff,tt,tt,tt,ff,tt,ff,ff,ff,ff,ff,ff,ff,ff,ff,ff,ff,ff,ff,ff,ff,ff,ff,ff,ff,ff,ff,ff,ff,ff,ff,ff,ff,ff,ff,ff,ff,ff,ff,ff,ff,ff,ff,ff,ff,tt,ff,ff,ff,ff,ff,ff,ff,ff,ff,ff]
def l25_0 : IC := (.seq (.seq (.seq (.region [⟨(some 31), .mov (.t 13), none⟩,
    ⟨(some 32), .mov (.t 1), none⟩,
    ⟨(some 33), .bin .lss (.t 31) (.t 32), none⟩] k25_7)
  (.cond (.t 33)
  .skip
  (.seq (.region [] k25_8)
  (.exit 0))))
  (.seq (.block 1
  (.seq (.region [⟨(some 37), .mov (.t 8), none⟩,
    ⟨(some 38), .call 22 [(.t 37)], none⟩,
    ⟨(some 36), .mov (.t 38), none⟩,
    ⟨(some 39), .extract (.t 36) 0, none⟩,
    ⟨(some 40), .extract (.t 36) 1, none⟩,
    ⟨(some 14), .mov (.t 39), none⟩,
    ⟨(some 15), .mov (.t 40), none⟩] k25_9)
  (.seq (.region [⟨(some 42), .mov (.t 10), none⟩,
    ⟨(some 43), .call 58 [(.t 42)], none⟩,
    ⟨(some 41), .mov (.t 43), none⟩,
    ⟨(some 44), .extract (.t 41) 0, none⟩,
    ⟨(some 45), .extract (.t 41) 1, none⟩,
    ⟨(some 16), .mov (.t 44), none⟩,
    ⟨(some 17), .mov (.t 45), none⟩] k25_10)
  (.seq (.seq (.region [⟨(some 46), .mov (.t 15), none⟩,
    ⟨(some 47), .mov (.t 17), none⟩,
    ⟨(some 48), .bin .neq (.t 46) (.t 47), none⟩,
    ⟨(some 49), .mov (.t 48), none⟩,
    ⟨(some 50), .mov (.t 14), (some (49, false))⟩,
    ⟨(some 51), .eql false .ptr (.t 50) (.c (.ptr none)), (some (49, false))⟩,
    ⟨(some 52), .mov (.t 51), (some (49, false))⟩,
    ⟨(some 53), .mov (.t 17), (some (52, true))⟩,
    ⟨(some 54), .bin .eql (.t 53) (.c (.int .i64 (0))), (some (52, true))⟩,
    ⟨(some 55), .pick (.t 52) (.t 54) (.c (.bool false)), (some (49, false))⟩,
    ⟨(some 56), .pick (.t 49) (.c (.bool true)) (.t 55), none⟩] k25_11)
  (.cond (.t 56)
  (.seq (.region [⟨(some 4), .mov (.c (.slice none 0 (some 0))), none⟩,
    ⟨(some 5), .mov (.c (.ptr none)), none⟩,
    ⟨(some 6), .mov (.c (.ptr none)), none⟩,
    ⟨(some 7), .mov (.c (.bool false)), none⟩] k25_4)
  (.seq (.region [] k25_4)
  .ret))
  .skip))
  (.region [⟨(some 57), .mov (.t 12), none⟩,
    ⟨(some 58), .mov (.t 14), none⟩,
    ⟨(some 59), .mov (.t 16), none⟩,
    ⟨(some 60), .build [(.ptr none), (.ptr none), (.slice none 0 (some 0))] [(0, 1, (.t 58)), (1, 1, (.t 59))], none⟩,
    ⟨(some 61), .box (.t 60), none⟩,
    ⟨(some 62), .buildSlice 1 [(.ptr none)] [(0, 1, (.t 61))], none⟩,
    ⟨(some 63), .append 1 8 (.t 57) (.t 62), none⟩,
    ⟨(some 12), .mov (.t 63), none⟩] k25_6)))))
  (.region [⟨(some 34), .mov (.t 13), none⟩,
    ⟨(some 35), .bin .add (.t 34) (.c (.int .i64 (1))), none⟩,
    ⟨(some 13), .mov (.t 35), none⟩] k25_6)))
  (.region [] k25_6))
def c25 : IFn := ⟨67, [(4, none), (5, none), (6, none), (7, none)],
  (.seq (.region [⟨(some 4), .mov (.c (.slice none 0 (some 0))), none⟩,
    ⟨(some 5), .mov (.c (.ptr none)), none⟩,
    ⟨(some 6), .mov (.c (.ptr none)), none⟩,
    ⟨(some 7), .mov (.c (.bool false)), none⟩] k25_0)
  (.seq (.region [⟨(some 19), .mov (.t 0), none⟩,
    ⟨(some 20), .call 17 [(.t 19)], none⟩,
    ⟨(some 18), .mov (.t 20), none⟩,
    ⟨(some 21), .extract (.t 18) 0, none⟩,
    ⟨(some 22), .extract (.t 18) 1, none⟩,
    ⟨(some 8), .mov (.t 21), none⟩,
    ⟨(some 9), .mov (.t 22), none⟩] k25_1)
  (.seq (.region [⟨(some 24), .mov (.t 0), none⟩,
    ⟨(some 25), .call 18 [(.t 24)], none⟩,
    ⟨(some 23), .mov (.t 25), none⟩,
    ⟨(some 26), .extract (.t 23) 0, none⟩,
    ⟨(some 27), .extract (.t 23) 1, none⟩,
    ⟨(some 10), .mov (.t 26), none⟩,
    ⟨(some 11), .mov (.t 27), none⟩] k25_2)
  (.seq (.seq (.region [⟨(some 28), .mov (.t 9), none⟩,
    ⟨(some 29), .mov (.t 11), none⟩,
    ⟨(some 30), .bin .neq (.t 28) (.t 29), none⟩] k25_3)
  (.cond (.t 30)
  (.seq (.region [⟨(some 4), .mov (.c (.slice none 0 (some 0))), none⟩,
    ⟨(some 5), .mov (.c (.ptr none)), none⟩,
    ⟨(some 6), .mov (.c (.ptr none)), none⟩,
    ⟨(some 7), .mov (.c (.bool false)), none⟩] k25_4)
  (.seq (.region [] k25_4)
  .ret))
  .skip))
  (.seq (.region [⟨(some 12), .mov (.c (.slice none 0 (some 0))), none⟩] k25_5)
  (.seq (.seq (.region [⟨(some 13), .mov (.c (.int .i64 (0))), none⟩] k25_6)
  (.block 0
  (.seq (.region [] k25_6)
  (.loop l25_0))))
  (.seq (.region [⟨(some 64), .mov (.t 12), none⟩,
    ⟨(some 65), .mov (.t 8), none⟩,
    ⟨(some 66), .mov (.t 10), none⟩,
    ⟨(some 4), .mov (.t 64), none⟩,
    ⟨(some 5), .mov (.t 65), none⟩,
    ⟨(some 6), .mov (.t 66), none⟩,
    ⟨(some 7), .mov (.c (.bool true)), none⟩] k25_4)
  (.seq (.region [] k25_4)
  .ret))))))))⟩
theorem F25 : shutF Try.prog 25 = some c25 := by kernel_rfl


section
variable {o : Nat → Option O} {s : St} {C F : Ch} {Q : V → St → Prop} {p r q t : Nat} {u : List Bool} {others : List Nat} {G : PairG}
set_option maxRecDepth 10000
set_option maxHeartbeats 4000000

/-- Acts, in old memory. -/
structure ActsAt (o : Nat → Option O) (v : V) (l : List (ActG × List Bool)) : Prop where
  len : lenV v = some (.int .i64 l.length)
  get : ∀ (i : Nat) (h : i < l.length), ∃ ad : Ad, ixV 11 v (.int .i64 (i : Int)) = some (.ptr (some ad)) ∧ ∀ s : St, s.old = o → loadV (some 11) (.ptr (some ad)) s = some (.agg l[i].1.cells) ∧ loadV none (.ptr (some ⟨ad.id, ad.off + 10⟩)) s = some (.slice l[i].1.sa l[i].1.sn l[i].1.sc)
  some_ : ∀ x ∈ l, SomeAt o x.1 x.2
  d : ∀ x ∈ l, 0 ≤ x.1.d ∧ x.1.d < 256 ∧ 0 ≤ x.1.hn ∧ x.1.hn < 256

def longB (l : List (ActG × List Bool)) : Bool := l.any (fun x => decide (200 < x.2.length)) || decide (150 < l.length)
theorem long_loop {v v2 : V} {l : List (ActG × List Bool)} {K : Kt} (hs : s.old = o) (h : ActsAt o v l) (hl : l.length < 2 ^ 61) : ∀ (m i : Nat), i + m = l.length →
    loop PF (.loop l24_0) (v :: .any :: v2 :: (I i) :: .any :: .any :: .any :: .any :: .any :: .any :: .any :: .any :: .any :: .any :: .any :: .any :: .any :: .any :: .any :: .any :: []) s K = if (l.drop i).any (fun x => decide (200 < x.2.length)) then K .ret (.any :: .any :: (.bool true) :: .any :: .any :: .any :: .any :: .any :: .any :: .any :: .any :: .any :: .any :: .any :: .any :: .any :: .any :: .any :: .any :: .any :: []) s else K (.exit 0) (v :: .any :: .any :: .any :: .any :: .any :: .any :: .any :: .any :: .any :: .any :: .any :: .any :: .any :: .any :: .any :: .any :: .any :: .any :: .any :: []) s
  | 0, i, hi => by
    have hlt : ¬ ((i : Int) < (l.length : Int)) := by omega
    refine round fun LL hLL => ?_
    simp -implicitDefEqProofs only [↓GP, GB, GL, Nat.reduceAdd, Nat.reduceSub, Nat.reduceEqDiff, Nat.reduceMul, Nat.reduceLeDiff, Int.reduceBNe, Int.reduceBEq, Nat.reduceLT, reduceCtorEq, k24_0, k24_1, k24_2, k24_3, k24_4, k24_5, l24_0, h.len, hlt]
    rw [List.drop_eq_nil_of_le (by omega)]
    rfl
  | m + 1, i, hi => by
    have hlt : ((i : Int) < (l.length : Int)) := by omega
    have hi' : i < l.length := by omega
    have hd : l.drop i = l[i] :: l.drop (i + 1) := List.drop_eq_getElem_cons hi'
    obtain ⟨ad, a1, a2⟩ := h.get i hi'
    have a3 := (a2 s hs).2
    have hsn := (h.some_ l[i] (List.getElem_mem hi')).1
    have hw := wrap_add1 (a := i) (by omega)
    refine round fun LL hLL => ?_
    rw [hd, List.any_cons]
    by_cases hb : 200 < l[i].2.length
    · have hb' : ((l[i].1.sn : Int) > 200) := by omega
      simp -implicitDefEqProofs only [↓GP, GB, GL, Nat.reduceAdd, Nat.reduceSub, Nat.reduceEqDiff, Nat.reduceMul, Nat.reduceLeDiff, Int.reduceBNe, Int.reduceBEq, Nat.reduceLT, reduceCtorEq, k24_0, k24_1, k24_2, k24_3, k24_4, k24_5, l24_0, h.len, hlt, a1, a3, hb']
      simp [hb]
    · have hb' : ¬ ((l[i].1.sn : Int) > 200) := by omega
      simp -implicitDefEqProofs only [↓GP, GB, GL, Nat.reduceAdd, Nat.reduceSub, Nat.reduceEqDiff, Nat.reduceMul, Nat.reduceLeDiff, Int.reduceBNe, Int.reduceBEq, Nat.reduceLT, reduceCtorEq, k24_0, k24_1, k24_2, k24_3, k24_4, k24_5, l24_0, h.len, hlt, a1, a3, hb', hw]
      rw [hLL, long_loop hs h hl m (i + 1) (by omega)]
      have hf : decide (200 < l[i].2.length) = false := by simpa using hb
      rw [hf, Bool.false_or]
theorem s24 {v : V} {l : List (ActG × List Bool)} (hs : s.old = o) (h : ActsAt o v l) (hl : l.length < 2 ^ 61) : call PF 24 [v] s = some (.bool (longB l), s) := by
  rw [call_run F24]; simp -implicitDefEqProofs only [↓GP, GB, GL, Nat.reduceAdd, Nat.reduceSub, Nat.reduceEqDiff, Nat.reduceMul, Nat.reduceLeDiff, Int.reduceBNe, Int.reduceBEq, Nat.reduceLT, reduceCtorEq, c24, k24_0, k24_1, k24_2, k24_3, k24_4, k24_5]
  refine (long_loop hs h hl l.length 0 (by omega)).trans ?_
  rw [List.drop_zero]
  unfold longB
  cases l.any (fun x => decide (200 < x.2.length)) with
  | true => simp -implicitDefEqProofs only [↓GP, GB, GL, Nat.reduceAdd, Nat.reduceSub, Nat.reduceEqDiff, Nat.reduceMul, Nat.reduceLeDiff, Int.reduceBNe, Int.reduceBEq, Nat.reduceLT, reduceCtorEq, k24_0, k24_1, k24_2, k24_3, k24_4, k24_5]
  | false =>
    by_cases hb : 150 < l.length
    · have hb' : ((l.length : Int) > 150) := by omega
      simp -implicitDefEqProofs only [↓GP, GB, GL, Nat.reduceAdd, Nat.reduceSub, Nat.reduceEqDiff, Nat.reduceMul, Nat.reduceLeDiff, Int.reduceBNe, Int.reduceBEq, Nat.reduceLT, reduceCtorEq, k24_0, k24_1, k24_2, k24_3, k24_4, k24_5, h.len, hb', hb]
    · have hb' : ¬ ((l.length : Int) > 150) := by omega
      simp -implicitDefEqProofs only [↓GP, GB, GL, Nat.reduceAdd, Nat.reduceSub, Nat.reduceEqDiff, Nat.reduceMul, Nat.reduceLeDiff, Int.reduceBNe, Int.reduceBEq, Nat.reduceLT, reduceCtorEq, k24_0, k24_1, k24_2, k24_3, k24_4, k24_5, h.len, hb', hb]

theorem pool_init (n : Nat) : PoolInv (List.replicate n false) [] := ⟨List.nodup_nil, fun p => by simp [List.getElem?_replicate]⟩
theorem PairOk.init {n id wk pid prk k m rid rrk : Nat} {sl : List V} (hn : n ≤ 30) : PairOk (List.replicate n false) [] ⟨id, wk, ⟨pid, prk, 1, [⟨k, 0, 0, m, .map [] 0, 0, 1, 0, [], []⟩], sl⟩, ⟨rid, rrk, false, 1, [⟨0, 0, 0, 1, 0, [], []⟩], []⟩, []⟩ where
  ulen := by simpa using hn
  lives := rfl
  same := rfl
  inv := ⟨by simp, by simp, by simp, by simp, by simp [PReg.m], fun r hr => by
    simp [PReg.m] at hr; subst hr
    exact ⟨by simp, by simp, fun h => by simp at h, fun _ => Packed.nil⟩⟩
  pool := pool_init n
  pok := fun g hg => by simp at hg; subst hg; exact mapIs_nil
  grown := ⟨fun _ => rfl, 0, rfl⟩
  one := fun _ => rfl

/-- One pair on new pools. -/
theorem s25 {n : Nat} (h1 : 1 ≤ n) (h2 : n ≤ 30) (H : Holds o s F)
    (k : ∀ s' p r q t G hk, PairOk (List.replicate n false) [] G → G.ws = [] → G.hp.lives = 1 → Holds o s' ((hk, rowO 1 1 [ptrN G.id]) :: World p r q t (List.replicate n false) G F) → Q (.tuple [rowV hk 1, ptrN p, ptrN q, .bool true]) s') : WP (call PF 25 [I n, I 1] s) Q := by
  have e17 := s17 s (n : Int) (by omega) (by omega)
  have H1 := (H.alloc (.cells (zeros [.bool false] (n : Int).toNat) none)).alloc (.cells [slN s.next (n : Int).toNat] none)
  simp only [Int.toNat_natCast, alloc_next] at e17 H1
  generalize (s.alloc (.cells (zeros [.bool false] n) none)).alloc (.cells [slN s.next n] none) = s1 at e17 H1
  have e18 := s18 s1 (n : Int) (by omega) (by omega)
  have H2 := (H1.alloc (.cells (zeros [.bool false] (n : Int).toNat) none)).alloc (.cells [slN s1.next (n : Int).toNat] none)
  simp only [Int.toNat_natCast, alloc_next] at e18 H2
  generalize (s1.alloc (.cells (zeros [.bool false] n) none)).alloc (.cells [slN s1.next n] none) = s2 at e18 H2
  have H3 : Holds o s2 (poolC (s.next + 1) s.next (List.replicate n false) ++ (poolC (s1.next + 1) s1.next (List.replicate n false) ++ F)) := (Holds.of (H2) (fun k => by simp +arith only [zeros_bool, List.length_replicate, I, ptrN, slN, alloc_next, set_next, World, PairG.ch, PairG.pc, PairG.hd, poolC, PReg.ch, PHeap.ch, PObj.ch, RReg.ch, RHeap.ch, RObj.ch, pagesO_nil, pObO_nil, rObO_nil, List.flatMap_append, List.flatMap_cons, List.flatMap_nil, List.append_eq, List.append_assoc, List.cons_append, List.nil_append, cnt_append, cnt_cons, cnt_nil, cnt1_ff, Option.isSome_some, Option.isSome_none]) (fun k x => by simp only [zeros_bool, List.length_replicate, I, ptrN, slN, alloc_next, set_next, World, PairG.ch, PairG.pc, PairG.hd, poolC, PReg.ch, PHeap.ch, PObj.ch, RReg.ch, RHeap.ch, RObj.ch, pagesO_nil, pObO_nil, rObO_nil, List.flatMap_append, List.flatMap_cons, List.flatMap_nil, List.append_eq, List.append_assoc, List.cons_append, List.nil_append, List.mem_append, List.mem_cons, List.not_mem_nil, mem_some_none, or_false, false_or]; grind only))
  rw [call_run F25]; simp -implicitDefEqProofs only [↓GP, GB, GL, Nat.reduceAdd, Nat.reduceSub, Nat.reduceEqDiff, Nat.reduceMul, Nat.reduceLeDiff, Int.reduceBNe, Int.reduceBEq, Nat.reduceLT, reduceCtorEq, c25, k25_0, k25_1, k25_2, k25_3, k25_4, k25_5, k25_6, k25_7, k25_8, k25_9, k25_10, k25_11, e17, e18]
  refine wp_round fun LL hLL => ?_
  simp -implicitDefEqProofs only [↓GP, GB, GL, Nat.reduceAdd, Nat.reduceSub, Nat.reduceEqDiff, Nat.reduceMul, Nat.reduceLeDiff, Int.reduceBNe, Int.reduceBEq, Nat.reduceLT, reduceCtorEq, k25_0, k25_1, k25_2, k25_3, k25_4, k25_5, k25_6, k25_7, k25_8, k25_9, k25_10, k25_11, l25_0, Int.reduceLT]
  refine wp_in (s22 (F := poolC (s1.next + 1) s1.next (List.replicate n false) ++ F) H3 (by simp; omega) fun s3 id rk kk m sl H4 => ?_)
  simp -implicitDefEqProofs only [↓GP, GB, GL, Nat.reduceAdd, Nat.reduceSub, Nat.reduceEqDiff, Nat.reduceMul, Nat.reduceLeDiff, Int.reduceBNe, Int.reduceBEq, Nat.reduceLT, reduceCtorEq, k25_0, k25_1, k25_2, k25_3, k25_4, k25_5, k25_6, k25_7, k25_8, k25_9, k25_10, k25_11]
  refine wp_in (s58 (p := s1.next + 1) (r := s1.next) (u := List.replicate n false) (F := poolC (s.next + 1) s.next (List.replicate n false) ++ (PHeap.ch (s.next + 1) ⟨id, rk, 1, [⟨kk, 0, 0, m, .map [] 0, 0, 1, 0, [], []⟩], sl⟩ ++ F)) (Holds.of (H4) (fun k => by simp +arith only [I, ptrN, slN, alloc_next, set_next, World, PairG.ch, PairG.pc, PairG.hd, poolC, PReg.ch, PHeap.ch, PObj.ch, RReg.ch, RHeap.ch, RObj.ch, pagesO_nil, pObO_nil, rObO_nil, List.flatMap_append, List.flatMap_cons, List.flatMap_nil, List.append_eq, List.append_assoc, List.cons_append, List.nil_append, cnt_append, cnt_cons, cnt_nil, cnt1_ff, Option.isSome_some, Option.isSome_none]) (fun k x => by simp only [I, ptrN, slN, alloc_next, set_next, World, PairG.ch, PairG.pc, PairG.hd, poolC, PReg.ch, PHeap.ch, PObj.ch, RReg.ch, RHeap.ch, RObj.ch, pagesO_nil, pObO_nil, rObO_nil, List.flatMap_append, List.flatMap_cons, List.flatMap_nil, List.append_eq, List.append_assoc, List.cons_append, List.nil_append, List.mem_append, List.mem_cons, List.not_mem_nil, mem_some_none, or_false, false_or]; grind only)) (by simp; omega) fun s4 id' rk' H5 => ?_)
  simp -implicitDefEqProofs only [↓GP, GB, GL, Nat.reduceAdd, Nat.reduceSub, Nat.reduceEqDiff, Nat.reduceMul, Nat.reduceLeDiff, Int.reduceBNe, Int.reduceBEq, Nat.reduceLT, reduceCtorEq, k25_0, k25_1, k25_2, k25_3, k25_4, k25_5, k25_6, k25_7, k25_8, k25_9, k25_10, k25_11, Int.reduceBNe, Int.reduceBEq]
  have H6 := (H5.alloc (.cells [ptrN id, ptrN id', .slice none 0 (some 0)] none)).alloc (.cells [ptrN s4.next] none)
  refine wp_append (k := 0) (n := 0) (cs := []) (F := (s4.next + 1, some (.cells [ptrN s4.next] none)) :: (s4.next, some (.cells [ptrN id, ptrN id', .slice none 0 (some 0)] none)) :: (poolC (s1.next + 1) s1.next (List.replicate n false) ++ (RHeap.ch (s1.next + 1) ⟨id', rk', false, 1, [⟨0, 0, 0, 1, 0, [], []⟩], []⟩ ++ (poolC (s.next + 1) s.next (List.replicate n false) ++ (PHeap.ch (s.next + 1) ⟨id, rk, 1, [⟨kk, 0, 0, m, .map [] 0, 0, 1, 0, [], []⟩], sl⟩ ++ F)))))
    (Holds.of (H6.nilEntry 0) (fun k => by simp +arith only [rowO_zero, I, ptrN, slN, alloc_next, set_next, World, PairG.ch, PairG.pc, PairG.hd, poolC, PReg.ch, PHeap.ch, PObj.ch, RReg.ch, RHeap.ch, RObj.ch, pagesO_nil, pObO_nil, rObO_nil, List.flatMap_append, List.flatMap_cons, List.flatMap_nil, List.append_eq, List.append_assoc, List.cons_append, List.nil_append, cnt_append, cnt_cons, cnt_nil, cnt1_ff, Option.isSome_some, Option.isSome_none]) (fun k x => by simp only [rowO_zero, I, ptrN, slN, alloc_next, set_next, World, PairG.ch, PairG.pc, PairG.hd, poolC, PReg.ch, PHeap.ch, PObj.ch, RReg.ch, RHeap.ch, RObj.ch, pagesO_nil, pObO_nil, rObO_nil, List.flatMap_append, List.flatMap_cons, List.flatMap_nil, List.append_eq, List.append_assoc, List.cons_append, List.nil_append, List.mem_append, List.mem_cons, List.not_mem_nil, mem_some_none, or_false, false_or]; grind only)) rfl (new_cells' (alloc_new_same _ _) rfl) rfl rfl (by omega) (by unfold maxRow; omega) (by unfold maxRow; omega) fun hk s5 H7 => ?_
  have w : wrapI .i64 ((0 : Int) + 1) = I 1 := by rw [wrap64 (by omega) (by omega)]; rfl
  simp -implicitDefEqProofs only [↓GP, GB, GL, Nat.reduceAdd, Nat.reduceSub, Nat.reduceEqDiff, Nat.reduceMul, Nat.reduceLeDiff, Int.reduceBNe, Int.reduceBEq, Nat.reduceLT, reduceCtorEq, k25_0, k25_1, k25_2, k25_3, k25_4, k25_5, k25_6, k25_7, k25_8, k25_9, k25_10, k25_11, w]
  rw [hLL]
  refine wp_round fun LL hLL => ?_
  simp -implicitDefEqProofs only [↓GP, GB, GL, Nat.reduceAdd, Nat.reduceSub, Nat.reduceEqDiff, Nat.reduceMul, Nat.reduceLeDiff, Int.reduceBNe, Int.reduceBEq, Nat.reduceLT, reduceCtorEq, k25_0, k25_1, k25_2, k25_3, k25_4, k25_5, k25_6, k25_7, k25_8, k25_9, k25_10, k25_11, l25_0, Int.reduceLT]
  refine k _ (s.next + 1) s.next (s1.next + 1) s1.next ⟨s4.next, 0, ⟨id, rk, 1, [⟨kk, 0, 0, m, .map [] 0, 0, 1, 0, [], []⟩], sl⟩, ⟨id', rk', false, 1, [⟨0, 0, 0, 1, 0, [], []⟩], []⟩, []⟩ hk (PairOk.init h2) rfl rfl (Holds.of (H7) (fun k => by simp +arith only [rowV_zero, rowO_zero, List.length_nil, List.flatMap_nil, I, ptrN, slN, alloc_next, set_next, World, PairG.ch, PairG.pc, PairG.hd, poolC, PReg.ch, PHeap.ch, PObj.ch, RReg.ch, RHeap.ch, RObj.ch, pagesO_nil, pObO_nil, rObO_nil, List.flatMap_append, List.flatMap_cons, List.flatMap_nil, List.append_eq, List.append_assoc, List.cons_append, List.nil_append, cnt_append, cnt_cons, cnt_nil, cnt1_ff, Option.isSome_some, Option.isSome_none]) (fun k x => by simp only [rowV_zero, rowO_zero, List.length_nil, List.flatMap_nil, I, ptrN, slN, alloc_next, set_next, World, PairG.ch, PairG.pc, PairG.hd, poolC, PReg.ch, PHeap.ch, PObj.ch, RReg.ch, RHeap.ch, RObj.ch, pagesO_nil, pObO_nil, rObO_nil, List.flatMap_append, List.flatMap_cons, List.flatMap_nil, List.append_eq, List.append_assoc, List.cons_append, List.nil_append, List.mem_append, List.mem_cons, List.not_mem_nil, mem_some_none, or_false, false_or]; grind only))
end
end Go.Proofs.Ytoldkemimhebaaa
