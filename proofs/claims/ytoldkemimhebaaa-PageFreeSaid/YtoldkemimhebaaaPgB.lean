/- PagePools. -/
import Derived.Test.YtoldkemimhebaaaPgA
import Derived.Test.YtoldkemimhebaaaIm13
set_option linter.unusedSimpArgs false
set_option linter.unusedVariables false
namespace Go.Proofs.Ytoldkemimhebaaa
open Go Go.IM

-- virgate/virgatelaw15.PagePools
def k3_0 : List Bool := [true, false, false, false, false, false, false, false, false, false, false, false, false, false, false, false, false, false, false, false, false, false, false, false, false, false, false, false, false, false, false, false, false, false, false, false, false, false, false, false, false, false, false, false, false, false, false, false, false, false, false, false, false]
def k3_1 : List Bool := [true, false, false, true, true, false, false, false, false, false, false, false, false, false, false, false, false, false, false, false, false, false, false, false, false, false, false, false, false, false, false, false, false, false, false, false, false, false, false, false, false, false, false, false, false, false, false, false, false, false, false, false, false]
def k3_2 : List Bool := [true, false, false, true, true, true, true, false, false, false, false, false, false, false, false, false, false, false, false, false, false, false, false, false, false, false, false, false, false, false, false, false, false, false, false, false, false, false, false, false, false, false, false, false, false, false, false, false, false, false, false, false, false]
def k3_3 : List Bool := [true, false, false, true, true, false, false, false, false, false, false, false, false, false, false, false, false, false, false, false, false, false, false, false, false, false, false, false, false, false, false, false, false, true, false, false, false, false, false, false, false, false, false, false, false, false, false, false, false, false, false, false, false]
def k3_4 : List Bool := [false, false, true, false, false, false, false, false, false, false, false, false, false, false, false, false, false, false, false, false, false, false, false, false, false, false, false, false, false, false, false, false, false, false, false, false, false, false, false, false, false, false, false, false, false, false, false, false, false, false, false, false, false]
def k3_5 : List Bool := [true, false, false, true, false, false, false, false, false, false, false, false, false, false, false, false, false, false, false, false, false, false, false, false, false, false, false, false, false, false, false, false, false, false, false, true, false, false, false, false, false, false, false, false, false, false, false, false, false, false, false, false, false]
def k3_6 : List Bool := [false, false, false, false, false, false, false, false, true, false, false, false, false, false, false, false, false, false, false, false, false, false, false, false, false, false, false, false, false, false, false, false, false, false, false, false, false, false, false, false, false, false, false, false, false, false, false, false, false, false, false, false, false]
def c3 : IFn := ⟨53, [(2, none)],
  (.seq (.region [⟨(some 2), .mov (.c (.bool false)), none⟩] k3_0)
  (.seq (.region [⟨(some 10), .mov (.t 0), none⟩,
    ⟨(some 11), .call 17 [(.t 10)], none⟩,
    ⟨(some 9), .mov (.t 11), none⟩,
    ⟨(some 12), .extract (.t 9) 0, none⟩,
    ⟨(some 13), .extract (.t 9) 1, none⟩,
    ⟨(some 3), .mov (.t 12), none⟩,
    ⟨(some 4), .mov (.t 13), none⟩] k3_1)
  (.seq (.region [⟨(some 15), .mov (.t 0), none⟩,
    ⟨(some 16), .call 18 [(.t 15)], none⟩,
    ⟨(some 14), .mov (.t 16), none⟩,
    ⟨(some 17), .extract (.t 14) 0, none⟩,
    ⟨(some 18), .extract (.t 14) 1, none⟩,
    ⟨(some 5), .mov (.t 17), none⟩,
    ⟨(some 6), .mov (.t 18), none⟩] k3_2)
  (.seq (.seq (.region [⟨(some 19), .mov (.t 4), none⟩,
    ⟨(some 20), .mov (.t 6), none⟩,
    ⟨(some 21), .bin .neq (.t 19) (.t 20), none⟩,
    ⟨(some 22), .mov (.t 21), none⟩,
    ⟨(some 23), .mov (.t 3), (some (22, false))⟩,
    ⟨(some 24), .call 19 [(.t 23)], (some (22, false))⟩,
    ⟨(some 25), .mov (.t 5), (some (22, false))⟩,
    ⟨(some 26), .call 20 [(.t 25)], (some (22, false))⟩,
    ⟨(some 27), .bin .neq (.t 24) (.t 26), (some (22, false))⟩,
    ⟨(some 28), .pick (.t 22) (.c (.bool true)) (.t 27), none⟩,
    ⟨(some 29), .mov (.t 28), none⟩,
    ⟨(some 30), .mov (.t 3), (some (29, false))⟩,
    ⟨(some 31), .call 21 [(.t 30)], (some (29, false))⟩,
    ⟨(some 32), .bin .neq (.t 31) (.c (.int .i64 (0))), (some (29, false))⟩,
    ⟨(some 33), .pick (.t 29) (.c (.bool true)) (.t 32), none⟩] k3_3)
  (.cond (.t 33)
  (.seq (.region [⟨(some 2), .mov (.c (.bool false)), none⟩] k3_4)
  (.seq (.region [] k3_4)
  .ret))
  .skip))
  (.seq (.seq (.region [⟨(some 34), .mov (.t 4), none⟩,
    ⟨(some 35), .bin .neq (.t 34) (.c (.int .i64 (0))), none⟩] k3_5)
  (.cond (.t 35)
  (.seq (.region [⟨(some 37), .mov (.t 3), none⟩,
    ⟨(some 38), .call 22 [(.t 37)], none⟩,
    ⟨(some 36), .mov (.t 38), none⟩,
    ⟨(some 39), .extract (.t 36) 0, none⟩,
    ⟨(some 40), .extract (.t 36) 1, none⟩,
    ⟨(some 7), .mov (.t 39), none⟩,
    ⟨(some 8), .mov (.t 40), none⟩] k3_6)
  (.seq (.region [⟨(some 41), .mov (.t 8), none⟩,
    ⟨(some 42), .bin .eql (.t 41) (.c (.int .i64 (6))), none⟩,
    ⟨(some 43), .mov (.t 42), none⟩,
    ⟨(some 44), .call 23 [], (some (43, true))⟩,
    ⟨(some 45), .pick (.t 43) (.t 44) (.c (.bool false)), none⟩,
    ⟨(some 2), .mov (.t 45), none⟩] k3_4)
  (.seq (.region [] k3_4)
  .ret)))
  .skip))
  (.seq (.region [⟨(some 46), .mov (.t 3), none⟩,
    ⟨(some 47), .call 19 [(.t 46)], none⟩,
    ⟨(some 48), .mov (.t 0), none⟩,
    ⟨(some 49), .bin .eql (.t 47) (.t 48), none⟩,
    ⟨(some 50), .mov (.t 49), none⟩,
    ⟨(some 51), .call 23 [], (some (50, true))⟩,
    ⟨(some 52), .pick (.t 50) (.t 51) (.c (.bool false)), none⟩,
    ⟨(some 2), .mov (.t 52), none⟩] k3_4)
  (.seq (.region [] k3_4)
  .ret)))))))⟩
theorem F3 : shutF Try.prog 3 = some c3 := by kernel_rfl


section
set_option maxRecDepth 10000

theorem sane15_0 : (match (LC PF 60).2 23 [] ⟨fun _ => none, 0, fun _ => none⟩ with | some (.bool b, _) => b | _ => false) = true := by kernel_rfl

/-- A closed call, from any store. -/
theorem closed_call {f : Nat} (h : (match (LC PF 60).2 f [] ⟨fun _ => none, 0, fun _ => none⟩ with | some (.bool b, _) => b | _ => false) = true) (s : St) :
    ∃ t, call PF f [] s = some (.bool true, t) ∧ (∀ j, j < s.next → t.new j = s.new j) ∧ t.old = s.old ∧ s.next ≤ t.next := by
  split at h
  · rename_i b st hc
    subst h
    have hc' : call PF f [] ⟨fun _ => none, 0, fun _ => none⟩ = some (.bool true, st) := call_some.2 ⟨60, hc⟩
    have hr : Ren (fun k => s.next + k) ⟨fun _ => none, 0, fun _ => none⟩ s := ⟨fun k _ => rfl, fun k o h => by simp at h, fun b o h => by simp at h, fun k k' h => by simpa using h⟩
    obtain ⟨t, h1, h2, h3⟩ := call_frame (F := PF) shutF_shut hr hc'
    exact ⟨t, h1, fun j hj => h3.new j (fun k hk => by have : s.next + k = j := hk; omega), h3.old, h3.next⟩
  · cases h

theorem sane15 (s : St) : ∃ t, call PF 23 [] s = some (.bool true, t) ∧ (∀ j, j < s.next → t.new j = s.new j) ∧ t.old = s.old ∧ s.next ≤ t.next := closed_call sane15_0 s

theorem zeros_bool : ∀ k, zeros [.bool false] k = (List.replicate k false).map V.bool
  | 0 => rfl
  | k + 1 => by simp only [zeros, zeros_bool k, List.replicate_succ, List.map_cons]; rfl

theorem PoolAt.alloc {s : St} {p r : Nat} {bs : List Bool} (h : PoolAt s p r bs) (hp : p < s.next) (hr : r < s.next) (o : O) : PoolAt (s.alloc o) p r bs :=
  ⟨by rw [alloc_new s o (by omega)]; exact h.1, by rw [alloc_new s o (by omega)]; exact h.2⟩

theorem pool_new (s : St) (k : Nat) : PoolAt ((s.alloc (.cells (zeros [.bool false] k) none)).alloc (.cells [.slice (some ⟨.new s.next, 0⟩) k (some k)] none)) (s.next + 1) s.next (List.replicate k false) := by
  refine ⟨?_, ?_⟩
  · rw [show s.next + 1 = (s.alloc (.cells (zeros [.bool false] k) none)).next from rfl, alloc_new_same]
    simp
  · rw [alloc_new _ _ (by simp), alloc_new_same, zeros_bool]

theorem pagePools_im (n : Int) (s : St) : ∃ st, call PF 3 [.int .i64 n] s = some (.bool true, st) := by
  obtain ⟨t, ht, -⟩ := sane15 s
  by_cases h : 1 ≤ n ∧ n ≤ 400
  · obtain ⟨h1, h2⟩ := h
    obtain ⟨s1, h17, hp1, hn1⟩ : ∃ s1, call PF 17 [.int .i64 n] s = some (.tuple [.ptr (some ⟨.new (s.next + 1), 0⟩), .int .i64 0], s1) ∧ PoolAt s1 (s.next + 1) s.next (List.replicate n.toNat false) ∧ s1.next = s.next + 2 :=
      ⟨_, s17 s n h1 h2, pool_new s _, rfl⟩
    obtain ⟨s2, h18, hp2, hq2, hn2⟩ : ∃ s2, call PF 18 [.int .i64 n] s1 = some (.tuple [.ptr (some ⟨.new (s1.next + 1), 0⟩), .int .i64 0], s2) ∧ PoolAt s2 (s1.next + 1) s1.next (List.replicate n.toNat false) ∧ PoolAt s2 (s.next + 1) s.next (List.replicate n.toNat false) ∧ s2.next = s1.next + 2 :=
      ⟨_, s18 s1 n h1 h2, pool_new s1 _, (hp1.alloc (by omega) (by omega) _).alloc (by simp; omega) (by simp; omega) _, rfl⟩
    have hl : (List.replicate n.toNat false).length ≤ 400 := by simp; omega
    have e19 := s19 hq2 hl
    have e20 := s20 hp2 hl
    have e21 := s21 hq2 hl
    have hc0 : (List.replicate n.toNat false).count true = 0 := by simp [List.count_replicate]
    have hc1 : (List.replicate n.toNat false).count false = n.toNat := by simp
    rw [hc0] at e21
    rw [hc1] at e19 e20
    have en : ((n.toNat : Nat) : Int) = n := by omega
    rw [en] at e19 e20
    obtain ⟨t2, ht2, -⟩ := sane15 s2
    refine ⟨t2, ?_⟩
    rw [call_run F3]
    simp -implicitDefEqProofs only [↓go_skip, ↓go_seq, ↓go_region, ↓go_cond, ↓go_block, ↓go_exit, ↓go_ret, ↓go_loop, ↓goOps_plain, goOps_nil, ↓goOps_guard, MK_run, seqK_n, seqK_x, seqK_r, blockK_n, blockK_x, blockK_r, roundK_n, roundK_x, roundK_r, contO_some, guardO_tt, guardO_ff, guardO_tf, guardO_ft, guardO_tuple, condO_t, condO_f,
    x_mov, x_pick, x_build, x_bin, x_eql, x_un, x_conv, x_mkFunc, x_nilCheck, x_lenSlice, x_slice, x_fieldAddr, x_field, x_extract, x_indexAddr, x_load, x_again, look_load, look_lookup, look_len, x_alloc, x_box, x_buildSlice, x_mkMap, x_mkSlice, x_callv, x_lookup, x_lenMap, x_store, x_mapSet, x_append, execI_call,
    put_some, put_none, List.set_cons_succ, List.set_cons_zero, ev_t, ev_c, List.getD_cons_succ, List.getD_cons_zero, maskEnv_t, maskEnv_f, maskEnv_nil, List.map_cons, List.map_nil,
    binI_int, intI_add, intI_sub, intI_mul, intI_eql, intI_neq, intI_lss, intI_leq, intI_gtr, intI_geq, unI_not, eqI_nil, eqI_ptr, withS_some, pickV_bool, convV_int, nilV_ptr, nilV_func, lenV_slice, fldV_ptr, partV_agg, extV_tuple, callvV_func,
    Option.map_some, Option.bind_some, Option.isNone_none, Option.isNone_some, List.getElem?_cons_zero, List.getElem?_cons_succ, decide_true, decide_false, if_true, if_false, Bool.not_true, Bool.not_false, Bool.false_eq_true, ne_eq, reduceCtorEq, not_false_eq_true, not_true_eq_false, Bool.true_and, Bool.false_and, Bool.and_true, Bool.and_false, Bool.true_or, Bool.false_or, Bool.or_true, Bool.or_false,
    finR_n, finR_r, List.length_cons, List.length_nil, Nat.reduceAdd, Nat.reduceSub, List.replicate_succ, List.replicate_zero, List.cons_append, List.nil_append, resultsI, packRes, Option.getD_none, Option.getD_some, Nat.zero_add, Nat.add_zero, Nat.reduceEqDiff, Nat.reduceMul, Nat.mul_one, againV_slice, againV_ptr, againV_map, againV_int, againV_bool, fillI, over, boxV, V.cells, V.one, List.all_cons, List.all_nil, List.take_succ_cons, List.take_zero, List.drop_succ_cons, List.drop_zero, Nat.reduceLeDiff, Nat.le_refl, true_and, and_true, and_self, List.append_nil, alloc_next, set_next, kill_next, Int.reduceBNe, Int.reduceBEq, bne_self_eq_false, beq_self_eq_true, c3, k3_0, k3_1, k3_2, k3_3, k3_4, k3_5, k3_6, h17, h18, e19, e20, e21, ht2, Int.natCast_zero, Int.cast_ofNat_Int]
  · have h17 := s17_bad s n h
    have h18 := s18_bad s n h
    refine ⟨t, ?_⟩
    rw [call_run F3]
    simp -implicitDefEqProofs only [↓go_skip, ↓go_seq, ↓go_region, ↓go_cond, ↓go_block, ↓go_exit, ↓go_ret, ↓go_loop, ↓goOps_plain, goOps_nil, ↓goOps_guard, MK_run, seqK_n, seqK_x, seqK_r, blockK_n, blockK_x, blockK_r, roundK_n, roundK_x, roundK_r, contO_some, guardO_tt, guardO_ff, guardO_tf, guardO_ft, guardO_tuple, condO_t, condO_f,
    x_mov, x_pick, x_build, x_bin, x_eql, x_un, x_conv, x_mkFunc, x_nilCheck, x_lenSlice, x_slice, x_fieldAddr, x_field, x_extract, x_indexAddr, x_load, x_again, look_load, look_lookup, look_len, x_alloc, x_box, x_buildSlice, x_mkMap, x_mkSlice, x_callv, x_lookup, x_lenMap, x_store, x_mapSet, x_append, execI_call,
    put_some, put_none, List.set_cons_succ, List.set_cons_zero, ev_t, ev_c, List.getD_cons_succ, List.getD_cons_zero, maskEnv_t, maskEnv_f, maskEnv_nil, List.map_cons, List.map_nil,
    binI_int, intI_add, intI_sub, intI_mul, intI_eql, intI_neq, intI_lss, intI_leq, intI_gtr, intI_geq, unI_not, eqI_nil, eqI_ptr, withS_some, pickV_bool, convV_int, nilV_ptr, nilV_func, lenV_slice, fldV_ptr, partV_agg, extV_tuple, callvV_func,
    Option.map_some, Option.bind_some, Option.isNone_none, Option.isNone_some, List.getElem?_cons_zero, List.getElem?_cons_succ, decide_true, decide_false, if_true, if_false, Bool.not_true, Bool.not_false, Bool.false_eq_true, ne_eq, reduceCtorEq, not_false_eq_true, not_true_eq_false, Bool.true_and, Bool.false_and, Bool.and_true, Bool.and_false, Bool.true_or, Bool.false_or, Bool.or_true, Bool.or_false,
    finR_n, finR_r, List.length_cons, List.length_nil, Nat.reduceAdd, Nat.reduceSub, List.replicate_succ, List.replicate_zero, List.cons_append, List.nil_append, resultsI, packRes, Option.getD_none, Option.getD_some, Nat.zero_add, Nat.add_zero, Nat.reduceEqDiff, Nat.reduceMul, Nat.mul_one, againV_slice, againV_ptr, againV_map, againV_int, againV_bool, fillI, over, boxV, V.cells, V.one, List.all_cons, List.all_nil, List.take_succ_cons, List.take_zero, List.drop_succ_cons, List.drop_zero, Nat.reduceLeDiff, Nat.le_refl, true_and, and_true, and_self, List.append_nil, alloc_next, set_next, kill_next, Int.reduceBNe, Int.reduceBEq, bne_self_eq_false, beq_self_eq_true, c3, k3_0, k3_1, k3_2, k3_3, k3_4, k3_5, k3_6, h17, h18, s19_nil, s20_nil, s21_nil, s22_nil, ht]

end
end Go.Proofs.Ytoldkemimhebaaa
