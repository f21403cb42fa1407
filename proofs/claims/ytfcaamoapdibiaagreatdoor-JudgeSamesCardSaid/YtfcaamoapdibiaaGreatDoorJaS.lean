/- Layer 11: its closed call: example 1 of the chapter. -/
import Derived.Test.YtfcaamoapdibiaaGreatDoorJa1
import Derived.Test.YtfcaamoapdibiaaGreatDoorJaT
import Derived.Test.YtfcaamoapdibiaaGreatDoorJaU
set_option linter.unusedSimpArgs false
set_option linter.unusedVariables false
set_option linter.defProp false
namespace Go.Proofs.YtfcaamoapdibiaaGreatDoor
open Go Go.IM

-- virgate/virgatelaw11.Sane

def c5 : IFn := ⟨36, [(0, none)],
  (.seq (.region [oa 0 (.mov (.c (.bool false)))] (kp 36 []))
  (.seq (.region [oa 6 (.call 10 [(.c (.str (ByteArray.mk #[97, 98]))), (ai 3)]), oa 7 (.buildSlice 1 [(.str (ByteArray.mk #[])), (.str (ByteArray.mk #[])), (.str (ByteArray.mk #[])), (.str (ByteArray.mk #[])), (.int .i64 (0)), (.int .i64 (0)), (.slice none 0 (some 0)), (.slice none 0 (some 0)), (.str (ByteArray.mk #[])), (.str (ByteArray.mk #[])), (.int .i64 (0)), (.slice none 0 (some 0)), (.slice none 0 (some 0)), (.slice none 0 (some 0)), (.slice none 0 (some 0)), (.slice none 0 (some 0)), (.slice none 0 (some 0))] [(0, 17, (.t 6))]), oa 8 (.build [(.str (ByteArray.mk #[])), (.str (ByteArray.mk #[])), (.str (ByteArray.mk #[])), (.str (ByteArray.mk #[])), (.int .i64 (0)), (.int .i64 (0)), (.slice none 0 (some 0)), (.slice none 0 (some 0)), (.str (ByteArray.mk #[])), (.str (ByteArray.mk #[])), (.int .i64 (0)), (.slice none 0 (some 0)), (.slice none 0 (some 0)), (.slice none 0 (some 0)), (.slice none 0 (some 0)), (.slice none 0 (some 0)), (.slice none 0 (some 0))] [(0, 1, (.c (.str (ByteArray.mk #[111, 112])))), (1, 1, (.c (.str (ByteArray.mk #[115, 105, 122, 101])))), (6, 1, (.t 7))]), oa 1 (.alloc [(.str (ByteArray.mk #[])), (.str (ByteArray.mk #[])), (.str (ByteArray.mk #[])), (.str (ByteArray.mk #[])), (.int .i64 (0)), (.int .i64 (0)), (.slice none 0 (some 0)), (.slice none 0 (some 0)), (.str (ByteArray.mk #[])), (.str (ByteArray.mk #[])), (.int .i64 (0)), (.slice none 0 (some 0)), (.slice none 0 (some 0)), (.slice none 0 (some 0)), (.slice none 0 (some 0)), (.slice none 0 (some 0)), (.slice none 0 (some 0))]), ob (.store 17 (.t 1) (.t 8))] (kp 36 [1]))
  (.seq (.region [oa 9 (.buildSlice 1 [(.int .i64 (0))] [(0, 1, (ai 3))]), oa 10 (.load (some 17) (.t 1)), oa 11 (.buildSlice 1 [(.str (ByteArray.mk #[])), (.str (ByteArray.mk #[])), (.str (ByteArray.mk #[])), (.str (ByteArray.mk #[])), (.int .i64 (0)), (.int .i64 (0)), (.slice none 0 (some 0)), (.slice none 0 (some 0)), (.str (ByteArray.mk #[])), (.str (ByteArray.mk #[])), (.int .i64 (0)), (.slice none 0 (some 0)), (.slice none 0 (some 0)), (.slice none 0 (some 0)), (.slice none 0 (some 0)), (.slice none 0 (some 0)), (.slice none 0 (some 0))] [(0, 17, (.t 10))]), oa 12 (.build [(.str (ByteArray.mk #[])), (.str (ByteArray.mk #[])), (.str (ByteArray.mk #[])), (.str (ByteArray.mk #[])), (.int .i64 (0)), (.int .i64 (0)), (.slice none 0 (some 0)), (.slice none 0 (some 0)), (.str (ByteArray.mk #[])), (.str (ByteArray.mk #[])), (.int .i64 (0)), (.slice none 0 (some 0)), (.slice none 0 (some 0)), (.slice none 0 (some 0)), (.slice none 0 (some 0)), (.slice none 0 (some 0)), (.slice none 0 (some 0))] [(0, 1, (.c (.str (ByteArray.mk #[114, 101, 103, 105, 111, 110])))), (13, 1, (.t 9)), (6, 1, (.t 11))]), oa 13 (.build [(.slice none 0 (some 0)), (.slice none 0 (some 0)), (.str (ByteArray.mk #[])), (.str (ByteArray.mk #[])), (.str (ByteArray.mk #[])), (.str (ByteArray.mk #[])), (.int .i64 (0)), (.int .i64 (0)), (.slice none 0 (some 0)), (.slice none 0 (some 0)), (.str (ByteArray.mk #[])), (.str (ByteArray.mk #[])), (.int .i64 (0)), (.slice none 0 (some 0)), (.slice none 0 (some 0)), (.slice none 0 (some 0)), (.slice none 0 (some 0)), (.slice none 0 (some 0)), (.slice none 0 (some 0))] [(2, 17, (.t 12))]), oa 2 (.alloc [(.slice none 0 (some 0)), (.slice none 0 (some 0)), (.str (ByteArray.mk #[])), (.str (ByteArray.mk #[])), (.str (ByteArray.mk #[])), (.str (ByteArray.mk #[])), (.int .i64 (0)), (.int .i64 (0)), (.slice none 0 (some 0)), (.slice none 0 (some 0)), (.str (ByteArray.mk #[])), (.str (ByteArray.mk #[])), (.int .i64 (0)), (.slice none 0 (some 0)), (.slice none 0 (some 0)), (.slice none 0 (some 0)), (.slice none 0 (some 0)), (.slice none 0 (some 0)), (.slice none 0 (some 0))]), ob (.store 19 (.t 2) (.t 13))] (kp 36 [2]))
  (.seq (.region [oa 14 (.buildSlice 1 [(.int .i64 (0))] [(0, 1, (ai 3))]), oa 15 (.call 10 [(.c (.str (ByteArray.mk #[97, 98]))), (ai 3)]), oa 16 (.buildSlice 1 [(.str (ByteArray.mk #[])), (.str (ByteArray.mk #[])), (.str (ByteArray.mk #[])), (.str (ByteArray.mk #[])), (.int .i64 (0)), (.int .i64 (0)), (.slice none 0 (some 0)), (.slice none 0 (some 0)), (.str (ByteArray.mk #[])), (.str (ByteArray.mk #[])), (.int .i64 (0)), (.slice none 0 (some 0)), (.slice none 0 (some 0)), (.slice none 0 (some 0)), (.slice none 0 (some 0)), (.slice none 0 (some 0)), (.slice none 0 (some 0))] [(0, 17, (.t 15))]), oa 17 (.build [(.str (ByteArray.mk #[])), (.str (ByteArray.mk #[])), (.str (ByteArray.mk #[])), (.str (ByteArray.mk #[])), (.int .i64 (0)), (.int .i64 (0)), (.slice none 0 (some 0)), (.slice none 0 (some 0)), (.str (ByteArray.mk #[])), (.str (ByteArray.mk #[])), (.int .i64 (0)), (.slice none 0 (some 0)), (.slice none 0 (some 0)), (.slice none 0 (some 0)), (.slice none 0 (some 0)), (.slice none 0 (some 0)), (.slice none 0 (some 0))] [(0, 1, (.c (.str (ByteArray.mk #[114, 101, 103, 105, 111, 110])))), (13, 1, (.t 14)), (6, 1, (.t 16))]), oa 18 (.build [(.slice none 0 (some 0)), (.slice none 0 (some 0)), (.str (ByteArray.mk #[])), (.str (ByteArray.mk #[])), (.str (ByteArray.mk #[])), (.str (ByteArray.mk #[])), (.int .i64 (0)), (.int .i64 (0)), (.slice none 0 (some 0)), (.slice none 0 (some 0)), (.str (ByteArray.mk #[])), (.str (ByteArray.mk #[])), (.int .i64 (0)), (.slice none 0 (some 0)), (.slice none 0 (some 0)), (.slice none 0 (some 0)), (.slice none 0 (some 0)), (.slice none 0 (some 0)), (.slice none 0 (some 0))] [(2, 17, (.t 17))]), oa 3 (.alloc [(.slice none 0 (some 0)), (.slice none 0 (some 0)), (.str (ByteArray.mk #[])), (.str (ByteArray.mk #[])), (.str (ByteArray.mk #[])), (.str (ByteArray.mk #[])), (.int .i64 (0)), (.int .i64 (0)), (.slice none 0 (some 0)), (.slice none 0 (some 0)), (.str (ByteArray.mk #[])), (.str (ByteArray.mk #[])), (.int .i64 (0)), (.slice none 0 (some 0)), (.slice none 0 (some 0)), (.slice none 0 (some 0)), (.slice none 0 (some 0)), (.slice none 0 (some 0)), (.slice none 0 (some 0))]), ob (.store 19 (.t 3) (.t 18))] (kp 36 [2,3]))
  (.seq (.region [oa 20 (.load (some 19) (.t 2)), oa 21 (.call 11 [(.t 20)]), oa 19 (.mov (.t 21)), oa 22 (.extract (.t 19) 0), oa 23 (.extract (.t 19) 1), oa 4 (.alloc [(.str (ByteArray.mk #[])), (.str (ByteArray.mk #[])), (.int .i64 (0)), (.slice none 0 (some 0)), (.slice none 0 (some 0))]), ob (.store 5 (.t 4) (.t 22)), oa 5 (.mov (.t 23))] (kp 36 [3,4,5]))
  (.seq (.region [oa 24 (.mov (.t 5)), oa 25 (.bin .eql (.t 24) (ai 0)), oa 26 (.mov (.t 25)), oc 27 (.fieldAddr 0 (.t 4)) 26 tt, oc 28 (.load none (.t 27)) 26 tt, oc 29 (.bin .eql (.t 28) (.c (.str (ByteArray.mk #[105, 110, 116])))) 26 tt, oa 30 (.pick (.t 26) (.t 29) (.c (.bool false))), oa 31 (.mov (.t 30)), oc 32 (.load (some 19) (.t 3)) 31 tt, oc 33 (.call 12 [(.t 32)]) 31 tt, oc 34 (.un .not (.t 33)) 31 tt, oa 35 (.pick (.t 31) (.t 34) (.c (.bool false))), oa 0 (.mov (.t 35))] (kp 36 [0]))
  (sr 36 [0])))))))⟩
theorem F5 : shutF Tryz.prog 5 = some c5 := by kernel_rfl

-- virgate/virgatelaw11.text

def c10 : IFn := ⟨8, [(4, (some (some 17)))],
  (.seq (.region [oa 4 (.alloc [(.str (ByteArray.mk #[])), (.str (ByteArray.mk #[])), (.str (ByteArray.mk #[])), (.str (ByteArray.mk #[])), (.int .i64 (0)), (.int .i64 (0)), (.slice none 0 (some 0)), (.slice none 0 (some 0)), (.str (ByteArray.mk #[])), (.str (ByteArray.mk #[])), (.int .i64 (0)), (.slice none 0 (some 0)), (.slice none 0 (some 0)), (.slice none 0 (some 0)), (.slice none 0 (some 0)), (.slice none 0 (some 0)), (.slice none 0 (some 0))])] (kp 8 [0,1,4]))
  (.seq (.region [oa 5 (.mov (.t 0)), oa 6 (.mov (.t 1)), oa 7 (.build [(.str (ByteArray.mk #[])), (.str (ByteArray.mk #[])), (.str (ByteArray.mk #[])), (.str (ByteArray.mk #[])), (.int .i64 (0)), (.int .i64 (0)), (.slice none 0 (some 0)), (.slice none 0 (some 0)), (.str (ByteArray.mk #[])), (.str (ByteArray.mk #[])), (.int .i64 (0)), (.slice none 0 (some 0)), (.slice none 0 (some 0)), (.slice none 0 (some 0)), (.slice none 0 (some 0)), (.slice none 0 (some 0)), (.slice none 0 (some 0))] [(0, 1, (.c (.str (ByteArray.mk #[116, 101, 120, 116])))), (3, 1, (.t 5)), (5, 1, (.t 6))]), ob (.store 17 (.t 4) (.t 7))] (kp 8 [4]))
  (sr 8 [4])))⟩
theorem F10 : shutF Tryz.prog 10 = some c10 := by kernel_rfl


section
variable {o : Nat → Option O}
set_option maxRecDepth 10000
set_option maxHeartbeats 4000000

/-- A closed call, in a store that has its small store, renamed. -/
theorem closed_in {n f : Nat} {a : List V} {v : V} {st small s : St} {C : Ch} {π : Nat → Nat} (hc : (LC (tabF sTab) n noY).2 f a small = some (v, st)) (hr : Ren π small s) (H : Holds o s C) (hout : ∀ k ∈ C.ids, ∀ j, π j ≠ k) (hf : f < yBase) :
    ∃ t, call PF f (a.map (V.ren π)) s = some (v.ren π, t) ∧ Holds o t C := by
  have hc' : call PF f a small = some (v, st) := call_some.2 ⟨n, (LC_monoF (tabF_le sTab_ok) n noY noY (Yle.no noY)).2 _ _ _ _ hc⟩
  obtain ⟨t, h1, h2, h3⟩ := call_frame (F := PF) shutF_shut hr hc' hf
  refine ⟨t, h1, ⟨h3.old.trans H.old, H.nodup, fun j x m => ?_, fun j m => Nat.lt_of_lt_of_le (H.lt j m) h3.next⟩⟩
  have hj := Holds.ids_mem.2 ⟨x, m⟩
  rw [h3.new j (fun k => hout j hj k)]
  exact H.at_ j x m

def HB := And.intro @cnt_append (And.intro @cnt_cons (And.intro @cnt_nil (And.intro @cnt1_ff (And.intro @Option.isSome_some.{0} (@Option.isSome_none.{0})))))
def HC := And.intro @List.mem_append.{0} (And.intro @List.mem_cons.{0} (And.intro @List.not_mem_nil.{0} (And.intro @mem_some_none (And.intro @or_false (@false_or)))))
def HA := And.intro @alloc_next @set_next
def pi3 (x0 x1 x2 nx k : Nat) : Nat := if k = 0 then x0 else if k = 1 then x1 else if k = 2 then x2 else nx + (k - 3)
def pi2 (x0 x1 nx k : Nat) : Nat := if k = 0 then x0 else if k = 1 then x1 else nx + (k - 2)

theorem type_at {C : Ch} {s : St} {Q : V → St → Prop} {x0 x1 x2 : Nat} (H : Holds o s ((x0, some (.cells txA none)) :: (x1, some (.cells (szA x0) none)) :: (x2, some (.cells [.int .i64 3] none)) :: C))
    (k : ∀ s' x a b p n c p' n' c', x.toList = [105, 110, 116] → Holds o s' C → Q (.tuple [.agg [.str x, .str a, .int .i64 b, .slice p n c, .slice p' n' c'], .int .i64 0]) s') : WP (call PF 11 [.agg (rgP x1 x2)] s) Q := by
  have h := type11
  split at h
  · rename_i x a b p n c p' n' c' y st hc
    simp only [Bool.and_eq_true, beq_iff_eq] at h
    obtain ⟨hx, rfl⟩ := h
    have f := H.f3
    have hr : Ren (pi3 x0 x1 x2 s.next) smP s := by
      refine ⟨fun k hk => ?_, fun k ob hk => ?_, fun b ob hb => (nomatch hb), fun k k' e => ?_⟩
      · have : 3 ≤ k := hk
        unfold pi3
        rw [if_neg (by omega), if_neg (by omega), if_neg (by omega)]
        rfl
      · match k, hk with
        | 0, hk => cases hk; exact f.1.1.1
        | 1, hk => cases hk; exact f.1.2.1.1
        | 2, hk => cases hk; exact f.2.1.1
      · unfold pi3 at e
        repeat' split at e
        all_goals omega
    have hC : Holds o s C := H.tl.tl.tl
    obtain ⟨t, h1, h2⟩ := closed_in hc hr hC (fun k hk j e => by
      have lt := hC.lt k hk
      have n0 := H.ne (b := k) (by simp [hk])
      have n1 := H.tl.ne (b := k) (by simp [hk])
      have n2 := H.tl.tl.ne (b := k) hk
      unfold pi3 at e
      repeat' split at e
      all_goals omega) (by decide)
    exact ⟨_, _, h1, k _ _ _ _ _ _ _ _ _ _ hx h2⟩
  · cases h
theorem acc_at {C : Ch} {s : St} {Q : V → St → Prop} {x0 x1 : Nat} (H : Holds o s ((x0, some (.cells txA none)) :: (x1, some (.cells [.int .i64 3] none)) :: C))
    (k : ∀ s', Holds o s' C → Q (.bool false) s') : WP (call PF 12 [.agg (rgP x0 x1)] s) Q := by
  have h := acc12
  split at h
  · rename_i b st hc
    cases b with
    | true => cases h
    | false =>
    have f := H.f2
    have hr : Ren (pi2 x0 x1 s.next) smQ s := by
      refine ⟨fun k hk => ?_, fun k ob hk => ?_, fun b ob hb => (nomatch hb), fun k k' e => ?_⟩
      · have : 2 ≤ k := hk
        unfold pi2
        rw [if_neg (by omega), if_neg (by omega)]
        rfl
      · match k, hk with
        | 0, hk => cases hk; exact f.1.1
        | 1, hk => cases hk; exact f.2.1.1
      · unfold pi2 at e
        repeat' split at e
        all_goals omega
    have hC : Holds o s C := H.tl.tl
    obtain ⟨t, h1, h2⟩ := closed_in hc hr hC (fun k hk j e => by
      have lt := hC.lt k hk
      have n0 := H.ne (b := k) (by simp [hk])
      have n1 := H.tl.ne (b := k) hk
      unfold pi2 at e
      repeat' split at e
      all_goals omega) (by decide)
    exact ⟨_, _, h1, k _ h2⟩
  · cases h

theorem s10 {C : Ch} {s : St} {Q : V → St → Prop} (H : Holds o s C) (k : ∀ s', Holds o s' C → Q (.agg txA) s') : WP (call PF 10 [.str (ByteArray.mk #[97, 98]), I 3] s) Q := by
  have h0 : Holds o ((s.alloc (.cells [.str (ByteArray.mk #[]), .str (ByteArray.mk #[]), .str (ByteArray.mk #[]), .str (ByteArray.mk #[]), .int .i64 (0), .int .i64 (0), .slice none 0 (some 0), .slice none 0 (some 0), .str (ByteArray.mk #[]), .str (ByteArray.mk #[]), .int .i64 (0), .slice none 0 (some 0), .slice none 0 (some 0), .slice none 0 (some 0), .slice none 0 (some 0), .slice none 0 (some 0), .slice none 0 (some 0)] none)).set s.next (.cells txA none)) ((s.next, some (.cells txA none)) :: C) := (H.alloc _).set0 _
  rw [call_run F10]; simp -implicitDefEqProofs only [↓GP, GB, GL, Nat.reduceAdd, Nat.reduceSub, Nat.reduceEqDiff, Nat.reduceMul, Nat.reduceLeDiff, Int.reduceBNe, Int.reduceBEq, Nat.reduceLT, reduceCtorEq, c10, st_new]
  exact k _ h0.tl
theorem cut_rg (k j : Nat) : cut (rgP k j) 0 19 = some (rgP k j) := rfl
theorem tx_eq : txB = txA := rfl
theorem int_eq {x : ByteArray} (h : x.toList = [105, 110, 116]) : (x.toList == (ByteArray.mk #[105, 110, 116]).toList) = true := by
  rw [h]; kernel_rfl
theorem sane11 {C : Ch} {s : St} {Q : V → St → Prop} (H : Holds o s C) (k : ∀ s', Holds o s' C → Q (.bool true) s') : WP (call PF 5 [] s) Q := by
  rw [call_run F5]; simp -implicitDefEqProofs only [↓GP, GB, GL, Nat.reduceAdd, Nat.reduceSub, Nat.reduceEqDiff, Nat.reduceMul, Nat.reduceLeDiff, Int.reduceBNe, Int.reduceBEq, Nat.reduceLT, reduceCtorEq, c5]
  refine wp_in (s10 H fun s1 h1 => ?_)
  simp -implicitDefEqProofs only [↓GP, GB, GL, Nat.reduceAdd, Nat.reduceSub, Nat.reduceEqDiff, Nat.reduceMul, Nat.reduceLeDiff, Int.reduceBNe, Int.reduceBEq, Nat.reduceLT, reduceCtorEq, txA, st_new]
  refine wp_in (s10 ((((((((h1.alloc _).alloc _).set0 _).alloc _).alloc _).alloc _).set0 _).alloc _) fun s2 h2 => ?_)
  have h2' : Holds o s2 ((s1.next + 5, some (.cells [.int .i64 3] none)) :: (s1.next + 4, some (.cells (rgP (s1.next + 3) (s1.next + 2)) none)) :: (s1.next + 3, some (.cells (szA s1.next) none)) :: (s1.next + 2, some (.cells [.int .i64 3] none)) ::
    (s1.next + 1, some (.cells (szA s1.next) none)) :: (s1.next, some (.cells txA none)) :: C) := h2
  have f2 := h2'.f4
  simp -implicitDefEqProofs only [↓GP, GB, GL, Nat.reduceAdd, Nat.reduceSub, Nat.reduceEqDiff, Nat.reduceMul, Nat.reduceLeDiff, Int.reduceBNe, Int.reduceBEq, Nat.reduceLT, reduceCtorEq, txA, st_new, f2, ldN_some, cut_rg]
  have h3 : Holds o (((s2.alloc (.cells txA none)).alloc (.cells [.slice none 0 (some 0), .slice none 0 (some 0), .str (ByteArray.mk #[]), .str (ByteArray.mk #[]), .str (ByteArray.mk #[]), .str (ByteArray.mk #[]), .int .i64 0, .int .i64 0, .slice none 0 (some 0), .slice none 0 (some 0), .str (ByteArray.mk #[]), .str (ByteArray.mk #[]), .int .i64 0, .slice none 0 (some 0), .slice none 0 (some 0), .slice none 0 (some 0), .slice none 0 (some 0), .slice none 0 (some 0), .slice none 0 (some 0)] none)).set (s2.next + 1) (.cells (rgP s2.next (s1.next + 5)) none)) ((s2.next + 1, some (.cells (rgP s2.next (s1.next + 5)) none)) :: (s2.next, some (.cells txA none)) :: (s1.next + 5, some (.cells [.int .i64 3] none)) :: (s1.next + 4, some (.cells (rgP (s1.next + 3) (s1.next + 2)) none)) :: (s1.next + 3, some (.cells (szA s1.next) none)) :: (s1.next + 2, some (.cells [.int .i64 3] none)) ::
    (s1.next + 1, some (.cells (szA s1.next) none)) :: (s1.next, some (.cells txA none)) :: C) := ((h2'.alloc _).alloc _).set0 _
  refine wp_in (type_at (x0 := s1.next) (x1 := s1.next + 3) (x2 := s1.next + 2) (C := (s2.next + 1, some (.cells (rgP s2.next (s1.next + 5)) none)) :: (s2.next, some (.cells txA none)) :: (s1.next + 5, some (.cells [.int .i64 3] none)) :: C) (Holds.of (h3) (fun k => by simp +arith only [HA, HB]) (fun k x => by simp only [HA, HC]; grind only)) fun s3 x a b p n c p' n' c' hx h4 => ?_)
  have f4 := h4.f3
  have hi := int_eq hx
  simp -implicitDefEqProofs only [↓GP, GB, GL, Nat.reduceAdd, Nat.reduceSub, Nat.reduceEqDiff, Nat.reduceMul, Nat.reduceLeDiff, Int.reduceBNe, Int.reduceBEq, Nat.reduceLT, reduceCtorEq, f4, st_new, ldN_some, cut_rg, b_seq, hi, beq_self_eq_true]
  have h5 := (h4.alloc (.cells [.str (ByteArray.mk #[]), .str (ByteArray.mk #[]), .int .i64 0, .slice none 0 (some 0), .slice none 0 (some 0)] none)).set0 (.cells [.str x, .str a, .int .i64 b, .slice p n c, .slice p' n' c'] none)
  refine wp_in (acc_at (C := C) (x0 := s2.next) (x1 := s1.next + 5) (Holds.of (h5) (fun k => by simp +arith only [HA, HB]) (fun k x => by simp only [HA, HC]; grind only)) fun s4 h6 => ?_)
  simp -implicitDefEqProofs only [↓GP, GB, GL, Nat.reduceAdd, Nat.reduceSub, Nat.reduceEqDiff, Nat.reduceMul, Nat.reduceLeDiff, Int.reduceBNe, Int.reduceBEq, Nat.reduceLT, reduceCtorEq]
  exact k _ h6
end
end Go.Proofs.YtfcaamoapdibiaaGreatDoor
