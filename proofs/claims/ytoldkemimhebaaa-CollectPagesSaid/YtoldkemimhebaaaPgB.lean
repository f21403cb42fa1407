/- PagePools. -/
import Derived.Test.YtoldkemimhebaaaPgA
import Derived.Test.YtoldkemimhebaaaIm13
set_option linter.unusedSimpArgs false
set_option linter.unusedVariables false
namespace Go.Proofs.Ytoldkemimhebaaa
open Go Go.IM

-- virgate/virgatelaw15.PagePools

def c3 : IFn := ⟨53, [(2, none)],
  (.seq (.region [oa 2 (.mov (.c (.bool false)))] (kp 53 [0]))
  (.seq (.region [oa 10 (.mov (.t 0)), oa 11 (.call 17 [(.t 10)]), oa 9 (.mov (.t 11)), oa 12 (.extract (.t 9) 0), oa 13 (.extract (.t 9) 1), oa 3 (.mov (.t 12)), oa 4 (.mov (.t 13))] (kp 53 [0,3,4]))
  (.seq (.region [oa 15 (.mov (.t 0)), oa 16 (.call 18 [(.t 15)]), oa 14 (.mov (.t 16)), oa 17 (.extract (.t 14) 0), oa 18 (.extract (.t 14) 1), oa 5 (.mov (.t 17)), oa 6 (.mov (.t 18))] (kp 53 [0,3,4,5,6]))
  (.seq (.seq (.region [oa 19 (.mov (.t 4)), oa 20 (.mov (.t 6)), oa 21 (.bin .neq (.t 19) (.t 20)), oa 22 (.mov (.t 21)), oc 23 (.mov (.t 3)) 22 ff, oc 24 (.call 19 [(.t 23)]) 22 ff, oc 25 (.mov (.t 5)) 22 ff, oc 26 (.call 20 [(.t 25)]) 22 ff, oc 27 (.bin .neq (.t 24) (.t 26)) 22 ff, oa 28 (.pick (.t 22) (.c (.bool true)) (.t 27)), oa 29 (.mov (.t 28)), oc 30 (.mov (.t 3)) 29 ff, oc 31 (.call 21 [(.t 30)]) 29 ff, oc 32 (.bin .neq (.t 31) (ai 0)) 29 ff, oa 33 (.pick (.t 29) (.c (.bool true)) (.t 32))] (kp 53 [0,3,4,33]))
  (.cond (.t 33)
  (.seq (.region [oa 2 (.mov (.c (.bool false)))] (kp 53 [2]))
  (sr 53 [2]))
  (sk 53 [0,3,4])))
  (.seq (.seq (.region [oa 34 (.mov (.t 4)), oa 35 (.bin .neq (.t 34) (ai 0))] (kp 53 [0,3,35]))
  (.cond (.t 35)
  (.seq (.region [oa 37 (.mov (.t 3)), oa 38 (.call 22 [(.t 37)]), oa 36 (.mov (.t 38)), oa 39 (.extract (.t 36) 0), oa 40 (.extract (.t 36) 1), oa 7 (.mov (.t 39)), oa 8 (.mov (.t 40))] (kp 53 [8]))
  (.seq (.region [oa 41 (.mov (.t 8)), oa 42 (.bin .eql (.t 41) (ai 6)), oa 43 (.mov (.t 42)), oc 44 (.call 23 []) 43 tt, oa 45 (.pick (.t 43) (.t 44) (.c (.bool false))), oa 2 (.mov (.t 45))] (kp 53 [2]))
  (sr 53 [2])))
  (sk 53 [0,3])))
  (.seq (.region [oa 46 (.mov (.t 3)), oa 47 (.call 19 [(.t 46)]), oa 48 (.mov (.t 0)), oa 49 (.bin .eql (.t 47) (.t 48)), oa 50 (.mov (.t 49)), oc 51 (.call 23 []) 50 tt, oa 52 (.pick (.t 50) (.t 51) (.c (.bool false))), oa 2 (.mov (.t 52))] (kp 53 [2]))
  (sr 53 [2])))))))⟩
theorem F3 : shutF Try.prog 3 = some c3 := by kernel_rfl


section
set_option maxRecDepth 10000

theorem sane15_0 : (match (LC PF 60 noY).2 23 [] ⟨fun _ => none, 0, fun _ => none⟩ with | some (.bool b, _) => b | _ => false) = true := by kernel_rfl

/-- A closed call, from any store. -/
theorem closed_at (n : Nat) {f : Nat} (h : (match (LC PF n noY).2 f [] ⟨fun _ => none, 0, fun _ => none⟩ with | some (.bool b, _) => b | _ => false) = true) (s : St) (h0 : f < yBase := by decide) :
    ∃ t, call PF f [] s = some (.bool true, t) ∧ (∀ j, j < s.next → t.new j = s.new j) ∧ t.old = s.old ∧ s.next ≤ t.next := by
  split at h
  · rename_i b st hc
    subst h
    have hc' : call PF f [] ⟨fun _ => none, 0, fun _ => none⟩ = some (.bool true, st) := call_some.2 ⟨n, hc⟩
    have hr : Ren (fun k => s.next + k) ⟨fun _ => none, 0, fun _ => none⟩ s := ⟨fun k _ => rfl, fun k o h => by simp at h, fun b o h => by simp at h, fun k k' h => by simpa using h⟩
    obtain ⟨t, h1, h2, h3⟩ := call_frame (F := PF) shutF_shut hr hc' h0
    exact ⟨t, h1, fun j hj => h3.new j (fun k hk => by have : s.next + k = j := hk; omega), h3.old, h3.next⟩
  · cases h

theorem sane15 (s : St) : ∃ t, call PF 23 [] s = some (.bool true, t) ∧ (∀ j, j < s.next → t.new j = s.new j) ∧ t.old = s.old ∧ s.next ≤ t.next := closed_at 60 sane15_0 s

theorem zeros_bool : ∀ k, zeros [.bool false] k = (List.replicate k false).map V.bool
  | 0 => rfl
  | k + 1 => by simp only [zeros, zeros_bool k, List.replicate_succ, List.map_cons]; rfl

theorem PoolAt.alloc {s : St} {p r : Nat} {bs : List Bool} (h : PoolAt s p r bs) (hp : p < s.next) (hr : r < s.next) (o : O) : PoolAt (s.alloc o) p r bs :=
  ⟨by rw [alloc_new s o (by omega)]; exact h.1, by rw [alloc_new s o (by omega)]; exact h.2⟩

theorem pool_new (s : St) (k : Nat) : PoolAt ((s.alloc (.cells (zeros [.bool false] k) none)).alloc (.cells [.slice (some ⟨.new s.next, 0⟩) k (some k)] none)) (s.next + 1) s.next (List.replicate k false) := by
  refine ⟨?_, ?_⟩
  · rw [show s.next + 1 = (s.alloc (.cells (zeros [.bool false] k) none)).next from rfl, alloc_new_same]
    simp
  · rw [alloc_new _ _ (by simp), alloc_new_same, zeros_bool]

theorem pagePools_im (n : Int) (s : St) : ∃ st, call PF 3 [.int .i64 n] s = some (.bool true, st) := by
  obtain ⟨t, ht, -⟩ := sane15 s
  by_cases h : 1 ≤ n ∧ n ≤ 400
  · obtain ⟨h1, h2⟩ := h
    obtain ⟨s1, h17, hp1, hn1⟩ : ∃ s1, call PF 17 [.int .i64 n] s = some (.tuple [.ptr (some ⟨.new (s.next + 1), 0⟩), .int .i64 0], s1) ∧ PoolAt s1 (s.next + 1) s.next (List.replicate n.toNat false) ∧ s1.next = s.next + 2 :=
      ⟨_, s17 s n h1 h2, pool_new s _, rfl⟩
    obtain ⟨s2, h18, hp2, hq2, hn2⟩ : ∃ s2, call PF 18 [.int .i64 n] s1 = some (.tuple [.ptr (some ⟨.new (s1.next + 1), 0⟩), .int .i64 0], s2) ∧ PoolAt s2 (s1.next + 1) s1.next (List.replicate n.toNat false) ∧ PoolAt s2 (s.next + 1) s.next (List.replicate n.toNat false) ∧ s2.next = s1.next + 2 :=
      ⟨_, s18 s1 n h1 h2, pool_new s1 _, (hp1.alloc (by omega) (by omega) _).alloc (by simp; omega) (by simp; omega) _, rfl⟩
    have hl : (List.replicate n.toNat false).length ≤ 400 := by simp; omega
    have e19 := s19 hq2 hl
    have e20 := s20 hp2 hl
    have e21 := s21 hq2 hl
    have hc0 : (List.replicate n.toNat false).count true = 0 := by simp [List.count_replicate]
    have hc1 : (List.replicate n.toNat false).count false = n.toNat := by simp
    rw [hc0] at e21
    rw [hc1] at e19 e20
    have en : ((n.toNat : Nat) : Int) = n := by omega
    rw [en] at e19 e20
    obtain ⟨t2, ht2, -⟩ := sane15 s2
    refine ⟨t2, ?_⟩
    rw [call_run F3]
    simp -implicitDefEqProofs only [↓GP, GR, GL, Nat.reduceAdd, Nat.reduceSub, Nat.reduceEqDiff, Nat.reduceMul, Nat.reduceLeDiff, Int.reduceBNe, Int.reduceBEq, Nat.reduceLT, reduceCtorEq, c3, h17, h18, e19, e20, e21, ht2, Int.natCast_zero, Int.cast_ofNat_Int]
  · have h17 := s17_bad s n h
    have h18 := s18_bad s n h
    refine ⟨t, ?_⟩
    rw [call_run F3]
    simp -implicitDefEqProofs only [↓GP, GR, GL, Nat.reduceAdd, Nat.reduceSub, Nat.reduceEqDiff, Nat.reduceMul, Nat.reduceLeDiff, Int.reduceBNe, Int.reduceBEq, Nat.reduceLT, reduceCtorEq, c3, h17, h18, s19_nil, s20_nil, s21_nil, s22_nil, ht]

end
end Go.Proofs.Ytoldkemimhebaaa
