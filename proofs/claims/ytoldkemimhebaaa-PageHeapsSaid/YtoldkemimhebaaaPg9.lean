/- Layer 15: what an act does to a pair whose heaps are gone: nothing; both refuse. -/
import Derived.Test.YtoldkemimhebaaaPg8
set_option linter.unusedSimpArgs false
set_option linter.unusedVariables false
namespace Go.Proofs.Ytoldkemimhebaaa
open Go Go.IM

section
variable {o : Nat → Option O} {s : St} {C F : Ch} {Q : V → St → Prop} {id wk : Nat} {hv rv : V} {ws : List (Int × Int)}
set_option maxRecDepth 10000
set_option maxHeartbeats 4000000

/-- A pair whose heaps are gone. -/
structure GoneP (C : Ch) (id wk : Nat) (hv rv : V) (ws : List (Int × Int)) : Prop where
  g : Gone C hv
  g' : RGone C rv
  mid : (id, some (.cells [hv, rv, rowV wk ws.length] none)) ∈ C
  mw : (wk, rowO 2 ws.length (ws.flatMap encW)) ∈ C
theorem GoneP.mono {D : Ch} (h : GoneP C id wk hv rv ws) (hs : ∀ x ∈ C, x ∈ D) : GoneP D id wk hv rv ws := ⟨h.g.mono hs, h.g'.mono hs, hs _ h.mid, hs _ h.mw⟩
theorem GoneP.cons (h : GoneP C id wk hv rv ws) (x : Nat × Option O) : GoneP (x :: C) id wk hv rv ws := h.mono fun _ h => List.mem_cons_of_mem _ h
theorem GoneP.v (h : GoneP C id wk hv rv ws) : hv.one = true ∧ hv.cells = [hv] := by rcases h.g with rfl | ⟨_, _, _, rfl, _⟩ <;> exact ⟨rfl, rfl⟩
theorem GoneP.a (h : GoneP C id wk hv rv ws) (s : St) : againV rv rv s = some (.any, s) := by rcases h.g' with rfl | ⟨_, _, _, rfl, _⟩ <;> exact againV_ptr _ s
theorem GoneP.ne {k : Nat} {x : O} (h : GoneP C id wk hv rv ws) (H : Holds o s ((k, some x) :: C)) : k ≠ id ∧ id ≠ k := H.ne (Holds.ids_mem.2 ⟨_, h.mid⟩)

theorem s63_gone (x : ActG) (h : GoneP C id wk hv rv ws) (H : Holds o s C) (k : ∀ s', Holds o s' C → Q (.bool true) s') : WP (call PF 63 [ptrN id, .agg x.cells] s) Q := by
  have h1 := (H.alloc (.cells x.cells none)).alloc (.cells [I 0, I 0] none)
  have hc := (h.cons (s.next, some (.cells x.cells none))).cons (s.next + 1, some (.cells [I 0, I 0] none))
  rw [call_run F63]; simp -implicitDefEqProofs only [↓GP, GB, GL, Nat.reduceAdd, Nat.reduceSub, Nat.reduceEqDiff, Nat.reduceMul, Nat.reduceLeDiff, Int.reduceBNe, Int.reduceBEq, Nat.reduceLT, reduceCtorEq, c63, H.mem h.mid]
  refine wp_in (s34_err h1 (.inl ⟨hc.g, rfl⟩) h.v.1 h.v.2 fun s1 h2 => ?_)
  simp only [alloc_next] at h2
  have f2 := h2.f2
  simp -implicitDefEqProofs only [↓GP, GB, GL, Nat.reduceAdd, Nat.reduceSub, Nat.reduceEqDiff, Nat.reduceMul, Nat.reduceLeDiff, Int.reduceBNe, Int.reduceBEq, Nat.reduceLT, reduceCtorEq, j63_bb, f2, h2.mem hc.mid, (h.cons _).ne h2]
  refine wp_in (s107_err ((h2.set0 (.cells [I 0, I 0] none)).alloc (.cells [I 0, I 0] none)) (.inl ⟨(((h.cons _).cons _).cons _).g', rfl⟩) fun s2 h4 => ?_)
  simp only [set_next] at h4
  have f4 := h4.f2
  simp -implicitDefEqProofs only [↓GP, GB, GL, Nat.reduceAdd, Nat.reduceSub, Nat.reduceEqDiff, Nat.reduceMul, Nat.reduceLeDiff, Int.reduceBNe, Int.reduceBEq, Nat.reduceLT, reduceCtorEq, f4, words_eq, Int.reduceBEq]
  exact k _ (h4.set0 _).tl.tl.tl

theorem s70_gone (x : ActG) {bs : List Bool} (hS : SomeAt o x bs) (h : GoneP C id wk hv rv ws) (H : Holds o s C) (k : ∀ s', Holds o s' C → Q (.bool true) s') : WP (call PF 70 [ptrN id, .agg x.cells] s) Q := by
  have h1 := H.alloc (.cells x.cells none)
  have hc := h.cons (s.next, some (.cells x.cells none))
  have tail : ∀ (s1 : St) (kk : Nat) (K : List (Int × Int)), Holds o s1 ((kk, rowO 2 K.length (K.flatMap encW)) :: (s.next, some (.cells x.cells none)) :: C) →
      WP (go (loop PF) (call PF) j70_bbbbb (sp 99 [(0, ptrN id), (3, ptrN s.next), (7, rowV kk K.length)]) s1 (finR [(4, none)])) Q := by
    intro s1 kk K h2
    have hc2 := hc.cons (kk, rowO 2 K.length (K.flatMap encW))
    simp -implicitDefEqProofs only [↓GP, GB, GL, Nat.reduceAdd, Nat.reduceSub, Nat.reduceEqDiff, Nat.reduceMul, Nat.reduceLeDiff, Int.reduceBNe, Int.reduceBEq, Nat.reduceLT, reduceCtorEq, j70_bbbbb, h2.mem hc2.mid, h2.tl.f1]
    refine wp_in (s109_err h2 (.inl ⟨hc2.g, rfl⟩) h.v.1 h.v.2 fun s2 h3 => ?_)
    have e := s97_err (n := x.a) (wv := rowV kk K.length) h3 (.inl ⟨hc2.g', rfl⟩)
    have e48 := s48 h3 (l := []) SlAt.nil SlAt.nil (by simp)
    simp -implicitDefEqProofs only [↓GP, GB, GL, Nat.reduceAdd, Nat.reduceSub, Nat.reduceEqDiff, Nat.reduceMul, Nat.reduceLeDiff, Int.reduceBNe, Int.reduceBEq, Nat.reduceLT, reduceCtorEq, h3.mem hc2.mid, h3.tl.f1, e, e48, Int.reduceBEq]
    exact k _ h3.tl.tl
  have e := s81_err (n := x.a) h1 (.inl ⟨hc.g', rfl⟩)
  rw [call_run F70]; simp -implicitDefEqProofs only [↓GP, GB, GL, Nat.reduceAdd, Nat.reduceSub, Nat.reduceEqDiff, Nat.reduceMul, Nat.reduceLeDiff, Int.reduceBNe, Int.reduceBEq, Nat.reduceLT, reduceCtorEq, c70, H.mem h.mid, e]
  refine keep_loop (id := id) (bx := s.next) (l := []) (bs := bs) hS (C := (s.next, some (.cells x.cells none)) :: C) (by simp) (.inl ⟨rfl, _, _, rfl⟩) (by simp) 0 0 0 [] (s.alloc (.cells x.cells none)) (by simp) (by simp) (h1.nilEntry 0) fun s2 kk h3 => ?_
  simp only [List.drop_zero, List.nil_append, keepL] at h3
  have fb := h3.tl.f1
  by_cases hb : x.b.tmod 5 = 4
  · have hbe : (x.b.tmod 5 == 4) = true := by simpa using hb
    simp -implicitDefEqProofs only [↓GP, GB, GL, Nat.reduceAdd, Nat.reduceSub, Nat.reduceEqDiff, Nat.reduceMul, Nat.reduceLeDiff, Int.reduceBNe, Int.reduceBEq, Nat.reduceLT, reduceCtorEq, j70_bbbb, fb, rem5, hbe, keepL, List.drop_nil]
    refine wp_in (s64 h3 (hc.cons _).mid (hc.cons _).mw x fun s3 h4 => ?_)
    generalize wordG ws x = w
    simp -implicitDefEqProofs only [↓GP, GB, GL, Nat.reduceAdd, Nat.reduceSub, Nat.reduceEqDiff, Nat.reduceMul, Nat.reduceLeDiff, Int.reduceBNe, Int.reduceBEq, Nat.reduceLT, reduceCtorEq, encW]
    refine wp_append (cs := []) ((h4.alloc _).r1) (by simp) (new_cells' (alloc_new_same _ _) rfl) rfl rfl (by omega) (by unfold maxRow; simp) (by unfold maxRow; simp) fun kk' s4 h5 => ?_
    simp -implicitDefEqProofs only [↓GP, GB, GL, Nat.reduceAdd, Nat.reduceSub, Nat.reduceEqDiff, Nat.reduceMul, Nat.reduceLeDiff, Int.reduceBNe, Int.reduceBEq, Nat.reduceLT, reduceCtorEq]
    have h6 := h5.r1.tl
    exact tail s4 kk' [w] (by simpa [encW] using h6)
  · have hbe : (x.b.tmod 5 == 4) = false := by simpa using hb
    simp -implicitDefEqProofs only [↓GP, GB, GL, Nat.reduceAdd, Nat.reduceSub, Nat.reduceEqDiff, Nat.reduceMul, Nat.reduceLeDiff, Int.reduceBNe, Int.reduceBEq, Nat.reduceLT, reduceCtorEq, j70_bbbb, fb, rem5, hbe, keepL, List.drop_nil]
    exact tail s2 kk [] (by simpa using h3)

theorem s26_gone {bs : List Bool} (x : ActG) (hd : 0 ≤ x.d) (hS : SomeAt o x bs) (h : GoneP C id wk hv rv ws) (H : Holds o s C) (k : ∀ s', Holds o s' C → Q (.bool true) s') : WP (call PF 26 [ptrN id, .agg x.cells] s) Q := by
  have hm : intI .rem .u8 x.d 8 = some (.int .u8 (x.d % 8)) := by
    show (if (8 : Int) = 0 then none else some (V.int .u8 (x.d.tmod 8))) = _
    rw [if_neg (by omega), Int.tmod_eq_emod_of_nonneg hd]
  have h0 := Int.emod_nonneg x.d (show (8 : Int) ≠ 0 by omega)
  have h8 := Int.emod_lt_of_pos x.d (show (0 : Int) < 8 by omega)
  have h1 := H.alloc (.cells x.cells none)
  have hc := h.cons (s.next, some (.cells x.cells none))
  have f0 := H.mem h.mid
  have fG := fun s1 (h1 : Holds o s1 ((s.next, some (.cells x.cells none)) :: C)) => h1.mem hc.mid
  rcases (show x.d % 8 = 0 ∨ x.d % 8 = 1 ∨ x.d % 8 = 2 ∨ x.d % 8 = 3 ∨ x.d % 8 = 4 ∨ x.d % 8 = 5 ∨ x.d % 8 = 6 ∨ x.d % 8 = 7 by omega) with e | e | e | e | e | e | e | e <;> rw [e] at hm
  · rw [call_run F26]; simp -implicitDefEqProofs only [↓GP, GB, GL, Nat.reduceAdd, Nat.reduceSub, Nat.reduceEqDiff, Nat.reduceMul, Nat.reduceLeDiff, Int.reduceBNe, Int.reduceBEq, Nat.reduceLT, reduceCtorEq, c26, hm, f0, Int.reduceBEq]
    refine wp_in (s59_gone h1 hc.g fun s1 h2 => ?_)
    have e := s60_gone (n := x.a) h2 hc.g'
    simp -implicitDefEqProofs only [↓GP, GB, GL, Nat.reduceAdd, Nat.reduceSub, Nat.reduceEqDiff, Nat.reduceMul, Nat.reduceLeDiff, Int.reduceBNe, Int.reduceBEq, Nat.reduceLT, reduceCtorEq, fG s1 h2, h2.f1, e]
    exact k _ h2.tl
  · have e := s32_gone h1 hc.g
    have e2 := s61_gone h1 hc.g'
    rw [call_run F26]; simp -implicitDefEqProofs only [↓GP, GB, GL, Nat.reduceAdd, Nat.reduceSub, Nat.reduceEqDiff, Nat.reduceMul, Nat.reduceLeDiff, Int.reduceBNe, Int.reduceBEq, Nat.reduceLT, reduceCtorEq, c26, hm, f0, e, e2, Int.reduceBEq]
    exact k _ h1.tl
  · rw [call_run F26]; simp -implicitDefEqProofs only [↓GP, GB, GL, Nat.reduceAdd, Nat.reduceSub, Nat.reduceEqDiff, Nat.reduceMul, Nat.reduceLeDiff, Int.reduceBNe, Int.reduceBEq, Nat.reduceLT, reduceCtorEq, c26, hm, f0, Int.reduceBEq]
    refine wp_in (s31_err h1 (.inl ⟨hc.g, rfl⟩) h.v.1 h.v.2 fun s1 h2 => ?_)
    have e := s62_err (n := x.a) h2 (.inl ⟨hc.g', rfl⟩)
    simp -implicitDefEqProofs only [↓GP, GB, GL, Nat.reduceAdd, Nat.reduceSub, Nat.reduceEqDiff, Nat.reduceMul, Nat.reduceLeDiff, Int.reduceBNe, Int.reduceBEq, Nat.reduceLT, reduceCtorEq, fG s1 h2, h2.f1, e]
    exact k _ h2.tl
  · rw [call_run F26]; simp -implicitDefEqProofs only [↓GP, GB, GL, Nat.reduceAdd, Nat.reduceSub, Nat.reduceEqDiff, Nat.reduceMul, Nat.reduceLeDiff, Int.reduceBNe, Int.reduceBEq, Nat.reduceLT, reduceCtorEq, c26, hm, Int.reduceBEq]
    refine wp_in (s63_gone x hc h1 fun s1 h2 => ?_)
    simp -implicitDefEqProofs only [↓GP, GB, GL, Nat.reduceAdd, Nat.reduceSub, Nat.reduceEqDiff, Nat.reduceMul, Nat.reduceLeDiff, Int.reduceBNe, Int.reduceBEq, Nat.reduceLT, reduceCtorEq]
    exact k _ h2.tl
  · rw [call_run F26]; simp -implicitDefEqProofs only [↓GP, GB, GL, Nat.reduceAdd, Nat.reduceSub, Nat.reduceEqDiff, Nat.reduceMul, Nat.reduceLeDiff, Int.reduceBNe, Int.reduceBEq, Nat.reduceLT, reduceCtorEq, c26, hm, Int.reduceBEq]
    refine wp_in (s64 h1 hc.mid hc.mw x fun s1 h2 => ?_)
    generalize wordG ws x = w
    simp -implicitDefEqProofs only [↓GP, GB, GL, Nat.reduceAdd, Nat.reduceSub, Nat.reduceEqDiff, Nat.reduceMul, Nat.reduceLeDiff, Int.reduceBNe, Int.reduceBEq, Nat.reduceLT, reduceCtorEq, h2.f1, fG s1 h2, encW, h.a]
    refine wp_in (s65_err (VN := x.v.1) (err := 6) ((h2.alloc (.cells [I 0, I 0] none)).set0 (.cells [I w.1, I w.2] none)) (.inl (.inl ⟨(hc.cons _).g, rfl⟩)) fun s2 h4 => ?_)
    simp -implicitDefEqProofs only [↓GP, GB, GL, Nat.reduceAdd, Nat.reduceSub, Nat.reduceEqDiff, Nat.reduceMul, Nat.reduceLeDiff, Int.reduceBNe, Int.reduceBEq, Nat.reduceLT, reduceCtorEq, h4.f2, h4.tl.mem hc.mid, hc.ne h4, h.a]
    refine wp_in (s66_err (err := 6) h4 (.inl ⟨(hc.cons _).g', rfl⟩) fun s3 h5 => ?_)
    simp -implicitDefEqProofs only [↓GP, GB, GL, Nat.reduceAdd, Nat.reduceSub, Nat.reduceEqDiff, Nat.reduceMul, Nat.reduceLeDiff, Int.reduceBNe, Int.reduceBEq, Nat.reduceLT, reduceCtorEq, Int.reduceBEq]
    exact k _ h5.tl.tl
  · rw [call_run F26]; simp -implicitDefEqProofs only [↓GP, GB, GL, Nat.reduceAdd, Nat.reduceSub, Nat.reduceEqDiff, Nat.reduceMul, Nat.reduceLeDiff, Int.reduceBNe, Int.reduceBEq, Nat.reduceLT, reduceCtorEq, c26, hm, Int.reduceBEq]
    refine wp_in (s64 h1 hc.mid hc.mw x fun s1 h2 => ?_)
    generalize wordG ws x = w
    have h3 := ((h2.alloc (.cells [I 0, I 0] none)).set0 (.cells [I w.1, I w.2] none)).alloc (.cells [I 0, I 0] none)
    simp only [set_next, alloc_next] at h3
    have hc3 := (hc.cons (s1.next, some (.cells [I w.1, I w.2] none))).cons (s1.next + 1, some (.cells [I 0, I 0] none))
    simp -implicitDefEqProofs only [↓GP, GB, GL, Nat.reduceAdd, Nat.reduceSub, Nat.reduceEqDiff, Nat.reduceMul, Nat.reduceLeDiff, Int.reduceBNe, Int.reduceBEq, Nat.reduceLT, reduceCtorEq, h2.f1, fG s1 h2, encW]
    refine wp_in (s67_err (err := 6) h3 (.inl (.inl ⟨hc3.g, rfl⟩)) fun s2 h4 => ?_)
    simp -implicitDefEqProofs only [↓GP, GB, GL, Nat.reduceAdd, Nat.reduceSub, Nat.reduceEqDiff, Nat.reduceMul, Nat.reduceLeDiff, Int.reduceBNe, Int.reduceBEq, Nat.reduceLT, reduceCtorEq, h4.f3, h4.mem hc3.mid, (hc.cons _).ne h4]
    refine wp_in (s68_err (err := 6) ((h4.set0 (.cells [I 0, I 0] none)).alloc (.cells [I 0, I 0] none)) (.inl (.inl ⟨(hc3.cons _).g', rfl⟩)) fun s3 h6 => ?_)
    simp only [set_next] at h6
    simp -implicitDefEqProofs only [↓GP, GB, GL, Nat.reduceAdd, Nat.reduceSub, Nat.reduceEqDiff, Nat.reduceMul, Nat.reduceLeDiff, Int.reduceBNe, Int.reduceBEq, Nat.reduceLT, reduceCtorEq, h6.f3, h6.mem (hc3.cons _).mid, hc3.ne h6]
    refine wp_in (s30_err (err := 6) (h6.set0 (.cells [I 0, I 0] none)) (.inl ⟨(hc3.cons _).g, rfl⟩) fun s4 h8 => ?_)
    simp -implicitDefEqProofs only [↓GP, GB, GL, Nat.reduceAdd, Nat.reduceSub, Nat.reduceEqDiff, Nat.reduceMul, Nat.reduceLeDiff, Int.reduceBNe, Int.reduceBEq, Nat.reduceLT, reduceCtorEq, h8.f3, h8.mem (hc3.cons _).mid]
    refine wp_in (s69_err (err := 6) h8 (.inl ⟨(hc3.cons _).g', rfl⟩) fun s5 h9 => ?_)
    simp -implicitDefEqProofs only [↓GP, GB, GL, Nat.reduceAdd, Nat.reduceSub, Nat.reduceEqDiff, Nat.reduceMul, Nat.reduceLeDiff, Int.reduceBNe, Int.reduceBEq, Nat.reduceLT, reduceCtorEq, h9.f2, words_eq, beq_refl_int]
    exact k _ h9.tl.tl.tl.tl
  · rw [call_run F26]; simp -implicitDefEqProofs only [↓GP, GB, GL, Nat.reduceAdd, Nat.reduceSub, Nat.reduceEqDiff, Nat.reduceMul, Nat.reduceLeDiff, Int.reduceBNe, Int.reduceBEq, Nat.reduceLT, reduceCtorEq, c26, hm, Int.reduceBEq]
    refine wp_in (s70_gone x hS hc h1 fun s1 h2 => ?_)
    simp -implicitDefEqProofs only [↓GP, GB, GL, Nat.reduceAdd, Nat.reduceSub, Nat.reduceEqDiff, Nat.reduceMul, Nat.reduceLeDiff, Int.reduceBNe, Int.reduceBEq, Nat.reduceLT, reduceCtorEq]
    exact k _ h2.tl
  · rw [call_run F26]; simp -implicitDefEqProofs only [↓GP, GB, GL, Nat.reduceAdd, Nat.reduceSub, Nat.reduceEqDiff, Nat.reduceMul, Nat.reduceLeDiff, Int.reduceBNe, Int.reduceBEq, Nat.reduceLT, reduceCtorEq, c26, hm, Int.reduceBEq]
    exact k _ h1.tl
end
end Go.Proofs.Ytoldkemimhebaaa
