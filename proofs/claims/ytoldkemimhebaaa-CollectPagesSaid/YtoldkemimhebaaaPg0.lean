/- The functions of layer 15, on the ideal machine: objects. -/
import Derived.Test.YtoldkemimhebaaaPgZ
set_option linter.unusedSimpArgs false
set_option linter.unusedVariables false
namespace Go.Proofs.Ytoldkemimhebaaa
open Go Go.IM

section
variable {o : Nat → Option O} {s : St} {C F : Ch} {Q : V → St → Prop}
set_option maxRecDepth 10000

/-- The object of an address, in a region of a life. -/
def pf (N L : Int) (r : PReg) : Option PObj := if (r.life : Int) = L then r.objs.find? (fun x => decide ((x.b.at_ : Int) = N)) else none
def pfind (N L : Int) (rs : List PReg) : Option PObj := rs.findSome? (pf N L)

theorem s111 {a b : Nat} {N L : Int} {t : Bool} (f : s.new a = some (.cells [I N, I L] none)) (f' : s.new b = some (.cells [.bool t] none)) : call PF 111 [ptrN a, ptrN b] s = some (.bool (decide (0 < L) && t), s) := by
  by_cases h : L > 0
  · rw [call_run F111]; simp -implicitDefEqProofs only [↓GP, GB, GL, Nat.reduceAdd, Nat.reduceSub, Nat.reduceEqDiff, Nat.reduceMul, Nat.reduceLeDiff, Int.reduceBNe, Int.reduceBEq, Nat.reduceLT, reduceCtorEq, c111, f, f', h]
  · rw [call_run F111]; simp -implicitDefEqProofs only [↓GP, GB, GL, Nat.reduceAdd, Nat.reduceSub, Nat.reduceEqDiff, Nat.reduceMul, Nat.reduceLeDiff, Int.reduceBNe, Int.reduceBEq, Nat.reduceLT, reduceCtorEq, c111, f, f', h]

theorem object_loop {t rk : Nat} {N L : Int} {rs : List PReg} {sl : List V}  {K : Kt} (hC : Holds o s C) (mt : (t, some (.cells [I N, I L] none)) ∈ C) (mr : (rk, some (.cells (rs.map (fun r => ptrN r.id) ++ sl) (some 1))) ∈ C)
    (mg : ∀ g ∈ rs, (g.id, some g.hd) ∈ C ∧ (g.plk, some g.pl) ∈ C ∧ g.ok) (hl : rs.length ≤ 100000) :
    ∀ (m i : Nat), i + m = rs.length →
    loop PF (.loop l75_0) (sp 50 [(4, ptrN t), (22, rowV rk rs.length), (23, I rs.length), (24, I i)]) s K =
      match pfind N L (rs.drop i) with
      | some x => K .ret (sp 50 [(6, ptrN x.id), (7, I 0)]) s
      | none => K (.exit 0) (sp 50 []) s
  | 0, i, hi => by
    have hlt : ¬ ((i : Int) < (rs.length : Int)) := by omega
    refine round fun LL hLL => ?_
    simp -implicitDefEqProofs only [↓GP, GB, GL, Nat.reduceAdd, Nat.reduceSub, Nat.reduceEqDiff, Nat.reduceMul, Nat.reduceLeDiff, Int.reduceBNe, Int.reduceBEq, Nat.reduceLT, reduceCtorEq, l75_0, hlt]
    rw [List.drop_eq_nil_of_le (by omega)]
    rfl
  | m + 1, i, hi => by
    have hlt : ((i : Int) < (rs.length : Int)) := by omega
    have hi' : i < rs.length := by omega
    have hd : rs.drop i = rs[i] :: rs.drop (i + 1) := List.drop_eq_getElem_cons hi'
    have fr := hC.mem mr
    have ft := hC.mem mt
    obtain ⟨mg1, mg2, hok⟩ := mg rs[i] (List.getElem_mem hi')
    have fg := hC.mem mg1
    simp only [PReg.hd] at fg
    have hg : (rs.map (fun r => ptrN r.id) ++ sl)[i]? = some (ptrN rs[i].id) := by rw [List.getElem?_append_left (by simpa using hi')]; simp [hi']
    have hlk := lookup_map (enc := fun n : Int => I n) keyOk_int hok (hC.mem mg2).1 (.ptr none) true N
    have hw := wrap_add1 (a := i) (by omega)
    refine round fun LL hLL => ?_
    have ih := object_loop (K := K) hC mt mr mg hl m (i + 1) (by omega)
    rw [hd]
    unfold pfind at ih ⊢
    rw [List.findSome?_cons]
    unfold pf at ih ⊢
    by_cases hL : (rs[i].life : Int) = L
    · have hb : ((rs[i].life : Int) == L) = true := by simpa using hL
      rw [if_pos hL]
      cases hfx : rs[i].objs.find? (fun x => decide ((x.b.at_ : Int) = N)) with
      | some x =>
        rw [hfx] at hlk
        simp only [Option.map_some, Option.getD_some, Option.isSome_some, if_true] at hlk
        simp -implicitDefEqProofs only [↓GP, GB, GL, Nat.reduceAdd, Nat.reduceSub, Nat.reduceEqDiff, Nat.reduceMul, Nat.reduceLeDiff, Int.reduceBNe, Int.reduceBEq, Nat.reduceLT, reduceCtorEq, l75_0, hlt, ix_row hi', fr, fg, ft, hg, hlk, hb]
      | none =>
        rw [hfx] at hlk
        simp only [Option.map_none, Option.getD_none, Option.isSome_none, if_true] at hlk
        simp -implicitDefEqProofs only [↓GP, GB, GL, Nat.reduceAdd, Nat.reduceSub, Nat.reduceEqDiff, Nat.reduceMul, Nat.reduceLeDiff, Int.reduceBNe, Int.reduceBEq, Nat.reduceLT, reduceCtorEq, l75_0, hlt, ix_row hi', fr, fg, ft, hg, hlk, hb, hw]
        rw [hLL]
        exact ih
    · have hb : ((rs[i].life : Int) == L) = false := by simpa using hL
      rw [if_neg hL]
      simp only [if_true] at hlk
      simp -implicitDefEqProofs only [↓GP, GB, GL, Nat.reduceAdd, Nat.reduceSub, Nat.reduceEqDiff, Nat.reduceMul, Nat.reduceLeDiff, Int.reduceBNe, Int.reduceBEq, Nat.reduceLT, reduceCtorEq, l75_0, hlt, ix_row hi', fr, fg, ft, hg, hlk, hb, hw]
      rw [hLL]
      exact ih

/-- When an object is asked for and is not: the error. -/
def ObjErr (C : Ch) (hv : V) (N L : Int) (oth : Bool) (err : Int) : Prop := (Gone C hv ∧ err = 6) ∨
  ∃ hp : PHeap, ∃ p, hv = ptrN hp.id ∧ In C p hp ∧ hp.regs ≠ [] ∧ hp.regs.length ≤ 100000 ∧ (∀ g ∈ hp.regs, g.ok) ∧ ((err = 2 ∧ ¬ (0 < L ∧ oth = true)) ∨ (err = 80 ∧ 0 < L ∧ oth = true ∧ pfind N L hp.regs = none))
theorem ObjErr.ne {hv : V} {N L err : Int} {oth : Bool} (h : ObjErr C hv N L oth err) : err = 6 ∨ err = 2 ∨ err = 80 := by
  rcases h with ⟨_, h⟩ | ⟨hp, p, _, _, _, _, _, h | h⟩
  · exact .inl h
  · exact .inr (.inl h.1)
  · exact .inr (.inr h.1)
theorem ObjErr.mono {D : Ch} {hv : V} {N L err : Int} {oth : Bool} (h : ObjErr C hv N L oth err) (hs : ∀ x ∈ C, x ∈ D) : ObjErr D hv N L oth err := by
  rcases h with ⟨g, h⟩ | ⟨hp, p, h1, h2, h3⟩
  · exact .inl ⟨g.mono hs, h⟩
  · exact .inr ⟨hp, p, h1, h2.mono hs, h3⟩

theorem s75_err (hC : Holds o s C) {hv : V} {N L err : Int} {oth : Bool} (e : ObjErr C hv N L oth err) (q : ∀ s', Holds o s' C → Q (.tuple [.ptr none, I err]) s') : WP (call PF 75 [hv, .agg [I N, I L], .bool oth] s) Q := by
  have h1 := (hC.alloc (.cells [I N, I L] none)).alloc (.cells [.bool oth] none)
  have hs : ∀ x ∈ C, x ∈ (s.next + 1, some (.cells [.bool oth] none)) :: (s.next, some (.cells [I N, I L] none)) :: C := fun x hx => List.mem_cons_of_mem _ (List.mem_cons_of_mem _ hx)
  rcases e with ⟨g, rfl⟩ | ⟨hp, p, rfl, hin, h0, hlen, hok, h | h⟩
  · have e := fun fv => s104_gone (fv := fv) h1 (hv := hv) (g.mono hs)
    rw [call_run F75]; simp -implicitDefEqProofs only [↓GP, GB, GL, Nat.reduceAdd, Nat.reduceSub, Nat.reduceEqDiff, Nat.reduceMul, Nat.reduceLeDiff, Int.reduceBNe, Int.reduceBEq, Nat.reduceLT, reduceCtorEq, c75, e, Int.reduceBNe]
    exact q _ h1.tl.tl
  · obtain ⟨rfl, hb⟩ := h
    have f := h1.f2
    have f' := h1.mem (hs _ hin.id)
    have e := s104 (g := 111) (caps := [ptrN s.next, ptrN (s.next + 1)]) f'.1 (s111 f.2.1.1 f.1.1)
    have hb' : (decide (0 < L) && oth) = false := by
      by_cases hh : 0 < L
      · have : oth = false := by
          cases ho : oth with
          | true => exact absurd ⟨hh, ho⟩ hb
          | false => rfl
        simp [this]
      · simp [hh]
    rw [hb'] at e
    rw [call_run F75]; simp -implicitDefEqProofs only [↓GP, GB, GL, Nat.reduceAdd, Nat.reduceSub, Nat.reduceEqDiff, Nat.reduceMul, Nat.reduceLeDiff, Int.reduceBNe, Int.reduceBEq, Nat.reduceLT, reduceCtorEq, c75, e, Int.reduceBNe]
    exact q _ h1.tl.tl
  · obtain ⟨rfl, hL, ho, hnone⟩ := h
    have f := h1.f2
    have f' := h1.mem (hs _ hin.id)
    have f0 := hC.mem hin.id
    simp only [PHeap.hd] at f0
    have e := s104 (g := 111) (caps := [ptrN s.next, ptrN (s.next + 1)]) f'.1 (s111 f.2.1.1 f.1.1)
    have hb' : (decide (0 < L) && oth) = true := by simp [hL, ho]
    rw [hb'] at e
    have mr := hin.row
    unfold PHeap.row at mr
    rw [rowO_pos (List.length_pos_iff.2 h0)] at mr
    have e2 := fun K => object_loop (K := K) h1 (List.mem_cons_of_mem _ (List.mem_cons_self ..)) (hs _ mr) (fun g mg => ⟨hs _ (hin.hd mg), hs _ (hin.pl mg), hok g mg⟩) hlen hp.regs.length 0 (by omega)
    rw [List.drop_zero, hnone] at e2
    simp only [Int.natCast_zero] at e2
    rw [call_run F75]; simp -implicitDefEqProofs only [↓GP, GB, GL, Nat.reduceAdd, Nat.reduceSub, Nat.reduceEqDiff, Nat.reduceMul, Nat.reduceLeDiff, Int.reduceBNe, Int.reduceBEq, Nat.reduceLT, reduceCtorEq, c75, e, f0, e2, Int.reduceBNe]
    exact q _ h1.tl.tl

theorem s75 (hC : Holds o s C) {hp : PHeap} {p : Nat} {N L : Int} (hin : In C p hp) (h0 : hp.regs ≠ []) (hlen : hp.regs.length ≤ 100000) (hok : ∀ g ∈ hp.regs, g.ok) (hL : 0 < L) {x : PObj} (hx : pfind N L hp.regs = some x)
    (q : ∀ s', Holds o s' C → Q (.tuple [ptrN x.id, I 0]) s') : WP (call PF 75 [ptrN hp.id, .agg [I N, I L], .bool true] s) Q := by
  have h1 := (hC.alloc (.cells [I N, I L] none)).alloc (.cells [.bool true] none)
  have hs : ∀ x ∈ C, x ∈ (s.next + 1, some (.cells [.bool true] none)) :: (s.next, some (.cells [I N, I L] none)) :: C := fun x hx => List.mem_cons_of_mem _ (List.mem_cons_of_mem _ hx)
  have f := h1.f2
  have f' := h1.mem (hs _ hin.id)
  have f0 := hC.mem hin.id
  simp only [PHeap.hd] at f0
  have e := s104 (g := 111) (caps := [ptrN s.next, ptrN (s.next + 1)]) f'.1 (s111 f.2.1.1 f.1.1)
  have hb' : (decide (0 < L) && true) = true := by simp [hL]
  rw [hb'] at e
  have mr := hin.row
  unfold PHeap.row at mr
  rw [rowO_pos (List.length_pos_iff.2 h0)] at mr
  have e2 := fun K => object_loop (K := K) h1 (List.mem_cons_of_mem _ (List.mem_cons_self ..)) (hs _ mr) (fun g mg => ⟨hs _ (hin.hd mg), hs _ (hin.pl mg), hok g mg⟩) hlen hp.regs.length 0 (by omega)
  rw [List.drop_zero, hx] at e2
  simp only [Int.natCast_zero] at e2
  rw [call_run F75]; simp -implicitDefEqProofs only [↓GP, GB, GL, Nat.reduceAdd, Nat.reduceSub, Nat.reduceEqDiff, Nat.reduceMul, Nat.reduceLeDiff, Int.reduceBNe, Int.reduceBEq, Nat.reduceLT, reduceCtorEq, c75, e, f0, e2, Int.reduceBNe]
  exact q _ h1.tl.tl

theorem pf_some {N L : Int} {r : PReg} {x : PObj} (h : pf N L r = some x) : (r.life : Int) = L ∧ x ∈ r.objs ∧ (x.b.at_ : Int) = N := by
  unfold pf at h
  split at h
  · rename_i hl
    exact ⟨hl, List.mem_of_find?_eq_some h, by simpa using List.find?_some h⟩
  · cases h
theorem pfind_mem {N L : Int} {rs : List PReg} {x : PObj} (h : pfind N L rs = some x) : ∃ g ∈ rs, x ∈ g.objs := by
  obtain ⟨g, h1, h2⟩ := List.exists_of_findSome?_eq_some h
  exact ⟨g, h1, (pf_some h2).2.1⟩

theorem s30_err (hC : Holds o s C) {hv : V} {N L err : Int} (e : ObjErr C hv N L true err) (q : ∀ s', Holds o s' C → Q (.tuple [I 0, I 0, I err]) s') : WP (call PF 30 [hv, .agg [I N, I L]] s) Q := by
  rw [call_run F30]; simp -implicitDefEqProofs only [↓GP, GB, GL, Nat.reduceAdd, Nat.reduceSub, Nat.reduceEqDiff, Nat.reduceMul, Nat.reduceLeDiff, Int.reduceBNe, Int.reduceBEq, Nat.reduceLT, reduceCtorEq, c30]
  refine wp_in (s75_err (hC.alloc (.cells [I N, I L] none)) (e.mono fun x hx => List.mem_cons_of_mem _ hx) fun s1 h1 => ?_)
  rcases e.ne with rfl | rfl | rfl
  · simp -implicitDefEqProofs only [↓GP, GB, GL, Nat.reduceAdd, Nat.reduceSub, Nat.reduceEqDiff, Nat.reduceMul, Nat.reduceLeDiff, Int.reduceBNe, Int.reduceBEq, Nat.reduceLT, reduceCtorEq, Int.reduceBNe]; exact q _ h1.tl
  · simp -implicitDefEqProofs only [↓GP, GB, GL, Nat.reduceAdd, Nat.reduceSub, Nat.reduceEqDiff, Nat.reduceMul, Nat.reduceLeDiff, Int.reduceBNe, Int.reduceBEq, Nat.reduceLT, reduceCtorEq, Int.reduceBNe]; exact q _ h1.tl
  · simp -implicitDefEqProofs only [↓GP, GB, GL, Nat.reduceAdd, Nat.reduceSub, Nat.reduceEqDiff, Nat.reduceMul, Nat.reduceLeDiff, Int.reduceBNe, Int.reduceBEq, Nat.reduceLT, reduceCtorEq, Int.reduceBNe]; exact q _ h1.tl
theorem s30 (hC : Holds o s C) {hp : PHeap} {p : Nat} {N L : Int} (hin : In C p hp) (h0 : hp.regs ≠ []) (hlen : hp.regs.length ≤ 100000) (hok : ∀ g ∈ hp.regs, g.ok) (hL : 0 < L) {x : PObj} (hx : pfind N L hp.regs = some x)
    (q : ∀ s', Holds o s' C → Q (.tuple [I x.b.kind, I x.b.ws.length, I 0]) s') : WP (call PF 30 [ptrN hp.id, .agg [I N, I L]] s) Q := by
  rw [call_run F30]; simp -implicitDefEqProofs only [↓GP, GB, GL, Nat.reduceAdd, Nat.reduceSub, Nat.reduceEqDiff, Nat.reduceMul, Nat.reduceLeDiff, Int.reduceBNe, Int.reduceBEq, Nat.reduceLT, reduceCtorEq, c30]
  refine wp_in (s75 (hC.alloc (.cells [I N, I L] none)) (hin.cons _) h0 hlen hok hL hx fun s1 h1 => ?_)
  obtain ⟨g, mg, mx⟩ := pfind_mem hx
  have f := h1.tl.mem (hin.obj mg mx)
  simp only [PObj.O] at f
  simp -implicitDefEqProofs only [↓GP, GB, GL, Nat.reduceAdd, Nat.reduceSub, Nat.reduceEqDiff, Nat.reduceMul, Nat.reduceLeDiff, Int.reduceBNe, Int.reduceBEq, Nat.reduceLT, reduceCtorEq, f, Int.reduceBNe]
  exact q _ h1.tl

/-- When a word is asked for and is not: the error. -/
def WordErr (C : Ch) (hv : V) (N L i : Int) (oth : Bool) (err : Int) : Prop := ObjErr C hv N L oth err ∨
  (err = 2 ∧ oth = true ∧ 0 < L ∧ ∃ hp : PHeap, ∃ p x, hv = ptrN hp.id ∧ In C p hp ∧ hp.regs ≠ [] ∧ hp.regs.length ≤ 100000 ∧ (∀ g ∈ hp.regs, g.ok) ∧ pfind N L hp.regs = some x ∧ x.b.ws.length ≤ 31 ∧ x.b.ws ≠ [] ∧ ¬ (0 ≤ i ∧ i < x.b.ws.length))
theorem WordErr.mono {D : Ch} {hv : V} {N L i err : Int} {oth : Bool} (h : WordErr C hv N L i oth err) (hs : ∀ x ∈ C, x ∈ D) : WordErr D hv N L i oth err := by
  rcases h with h | ⟨h0, h1, h2, hp, p, x, h3, h4, h5⟩
  · exact .inl (h.mono hs)
  · exact .inr ⟨h0, h1, h2, hp, p, x, h3, h4.mono hs, h5⟩
theorem WordErr.ne {hv : V} {N L i err : Int} {oth : Bool} (h : WordErr C hv N L i oth err) : err = 6 ∨ err = 2 ∨ err = 80 := by
  rcases h with h | ⟨h, _⟩
  · exact h.ne
  · exact .inr (.inl h)
theorem s108_err (hC : Holds o s C) {hv : V} {N L i err : Int} {oth : Bool} (e : WordErr C hv N L i oth err) (q : ∀ s', Holds o s' C → Q (.tuple [.ptr none, I err]) s') : WP (call PF 108 [hv, .agg [I N, I L], I i, .bool oth] s) Q := by
  rw [call_run F108]; simp -implicitDefEqProofs only [↓GP, GB, GL, Nat.reduceAdd, Nat.reduceSub, Nat.reduceEqDiff, Nat.reduceMul, Nat.reduceLeDiff, Int.reduceBNe, Int.reduceBEq, Nat.reduceLT, reduceCtorEq, c108]
  rcases e with e | ⟨rfl, rfl, hL, hp, p, x, rfl, hin, h0, hlen, hok, hx, hw, hw0, hi⟩
  · refine wp_in (s75_err (hC.alloc (.cells [I N, I L] none)) (e.mono fun x hx => List.mem_cons_of_mem _ hx) fun s1 h1 => ?_)
    rcases e.ne with rfl | rfl | rfl
    · simp -implicitDefEqProofs only [↓GP, GB, GL, Nat.reduceAdd, Nat.reduceSub, Nat.reduceEqDiff, Nat.reduceMul, Nat.reduceLeDiff, Int.reduceBNe, Int.reduceBEq, Nat.reduceLT, reduceCtorEq, Int.reduceBNe]; exact q _ h1.tl
    · simp -implicitDefEqProofs only [↓GP, GB, GL, Nat.reduceAdd, Nat.reduceSub, Nat.reduceEqDiff, Nat.reduceMul, Nat.reduceLeDiff, Int.reduceBNe, Int.reduceBEq, Nat.reduceLT, reduceCtorEq, Int.reduceBNe]; exact q _ h1.tl
    · simp -implicitDefEqProofs only [↓GP, GB, GL, Nat.reduceAdd, Nat.reduceSub, Nat.reduceEqDiff, Nat.reduceMul, Nat.reduceLeDiff, Int.reduceBNe, Int.reduceBEq, Nat.reduceLT, reduceCtorEq, Int.reduceBNe]; exact q _ h1.tl
  · refine wp_in (s75 (hC.alloc (.cells [I N, I L] none)) (hin.cons _) h0 hlen hok hL hx fun s1 h1 => ?_)
    obtain ⟨g, mg, mx⟩ := pfind_mem hx
    have f := h1.tl.mem (hin.obj mg mx)
    simp only [PObj.O] at f
    have hpos := List.length_pos_iff.2 hw0
    have w := wrap_sub1 (a := x.b.ws.length) (by omega) hpos
    have hb : (decide (0 ≤ i) && decide (i ≤ ((x.b.ws.length - 1 : Nat) : Int))) = false := by
      rw [Bool.and_eq_false_iff, decide_eq_false_iff_not, decide_eq_false_iff_not]; omega
    simp -implicitDefEqProofs only [↓GP, GB, GL, Nat.reduceAdd, Nat.reduceSub, Nat.reduceEqDiff, Nat.reduceMul, Nat.reduceLeDiff, Int.reduceBNe, Int.reduceBEq, Nat.reduceLT, reduceCtorEq, f, w, s56, hb, Int.reduceBNe]
    exact q _ h1.tl
theorem s108 (hC : Holds o s C) {hp : PHeap} {p i : Nat} {N L : Int} (hin : In C p hp) (h0 : hp.regs ≠ []) (hlen : hp.regs.length ≤ 100000) (hok : ∀ g ∈ hp.regs, g.ok) (hL : 0 < L) {x : PObj} (hx : pfind N L hp.regs = some x) (hi : i < x.b.ws.length) (hw : x.b.ws.length ≤ 31)
    (q : ∀ s', Holds o s' C → Q (.tuple [.ptr (some ⟨.new x.wid, i * 2⟩), I 0]) s') : WP (call PF 108 [ptrN hp.id, .agg [I N, I L], I i, .bool true] s) Q := by
  rw [call_run F108]; simp -implicitDefEqProofs only [↓GP, GB, GL, Nat.reduceAdd, Nat.reduceSub, Nat.reduceEqDiff, Nat.reduceMul, Nat.reduceLeDiff, Int.reduceBNe, Int.reduceBEq, Nat.reduceLT, reduceCtorEq, c108]
  refine wp_in (s75 (hC.alloc (.cells [I N, I L] none)) (hin.cons _) h0 hlen hok hL hx fun s1 h1 => ?_)
  obtain ⟨g, mg, mx⟩ := pfind_mem hx
  have f := h1.tl.mem (hin.obj mg mx)
  simp only [PObj.O] at f
  have w := wrap_sub1 (a := x.b.ws.length) (by omega) (by omega)
  have hb : (decide (0 ≤ (i : Int)) && decide ((i : Int) ≤ ((x.b.ws.length - 1 : Nat) : Int))) = true := by
    rw [Bool.and_eq_true, decide_eq_true_eq, decide_eq_true_eq]; omega
  simp -implicitDefEqProofs only [↓GP, GB, GL, Nat.reduceAdd, Nat.reduceSub, Nat.reduceEqDiff, Nat.reduceMul, Nat.reduceLeDiff, Int.reduceBNe, Int.reduceBEq, Nat.reduceLT, reduceCtorEq, f, w, s56, hb, ix_cell hi, Int.reduceBNe]
  exact q _ h1.tl

theorem s67_err (hC : Holds o s C) {hv : V} {N L i err : Int} (e : WordErr C hv N L i true err) (q : ∀ s', Holds o s' C → Q (.tuple [.agg [I 0, I 0], I err]) s') : WP (call PF 67 [hv, .agg [I N, I L], I i] s) Q := by
  have h0 := (hC.alloc (.cells [I N, I L] none)).alloc (.cells [I 0, I 0] none)
  rw [call_run F67]; simp -implicitDefEqProofs only [↓GP, GB, GL, Nat.reduceAdd, Nat.reduceSub, Nat.reduceEqDiff, Nat.reduceMul, Nat.reduceLeDiff, Int.reduceBNe, Int.reduceBEq, Nat.reduceLT, reduceCtorEq, c67]
  refine wp_in (s108_err h0 (e.mono fun x hx => List.mem_cons_of_mem _ (List.mem_cons_of_mem _ hx)) fun s1 h1 => ?_)
  have f := h1.f2
  simp only [alloc_next] at f
  rcases e.ne with rfl | rfl | rfl
  · simp -implicitDefEqProofs only [↓GP, GB, GL, Nat.reduceAdd, Nat.reduceSub, Nat.reduceEqDiff, Nat.reduceMul, Nat.reduceLeDiff, Int.reduceBNe, Int.reduceBEq, Nat.reduceLT, reduceCtorEq, f, Int.reduceBNe]; exact q _ (h1.set0 _).tl.tl
  · simp -implicitDefEqProofs only [↓GP, GB, GL, Nat.reduceAdd, Nat.reduceSub, Nat.reduceEqDiff, Nat.reduceMul, Nat.reduceLeDiff, Int.reduceBNe, Int.reduceBEq, Nat.reduceLT, reduceCtorEq, f, Int.reduceBNe]; exact q _ (h1.set0 _).tl.tl
  · simp -implicitDefEqProofs only [↓GP, GB, GL, Nat.reduceAdd, Nat.reduceSub, Nat.reduceEqDiff, Nat.reduceMul, Nat.reduceLeDiff, Int.reduceBNe, Int.reduceBEq, Nat.reduceLT, reduceCtorEq, f, Int.reduceBNe]; exact q _ (h1.set0 _).tl.tl
theorem s67 (hC : Holds o s C) {hp : PHeap} {p i : Nat} {N L : Int} (hin : In C p hp) (h0 : hp.regs ≠ []) (hlen : hp.regs.length ≤ 100000) (hok : ∀ g ∈ hp.regs, g.ok) (hL : 0 < L) {x : PObj} (hx : pfind N L hp.regs = some x) {w : Int × Int} (hi : x.b.ws[i]? = some w) (hw : x.b.ws.length ≤ 31)
    (q : ∀ s', Holds o s' C → Q (.tuple [.agg (encW w), I 0]) s') : WP (call PF 67 [ptrN hp.id, .agg [I N, I L], I i] s) Q := by
  have h2 := (hC.alloc (.cells [I N, I L] none)).alloc (.cells [I 0, I 0] none)
  rw [call_run F67]; simp -implicitDefEqProofs only [↓GP, GB, GL, Nat.reduceAdd, Nat.reduceSub, Nat.reduceEqDiff, Nat.reduceMul, Nat.reduceLeDiff, Int.reduceBNe, Int.reduceBEq, Nat.reduceLT, reduceCtorEq, c67]
  refine wp_in (s108 h2 ((hin.cons _).cons _) h0 hlen hok hL hx (List.getElem?_eq_some_iff.1 hi).1 hw fun s1 h1 => ?_)
  obtain ⟨g, mg, mx⟩ := pfind_mem hx
  have f := h1.f1
  simp only [alloc_next] at f
  have fw := h1.tl.tl.mem (hin.w mg mx)
  simp only [PObj.W] at fw
  have hld := ldN_tab encW_len x.b.ws none hi
  simp -implicitDefEqProofs only [↓GP, GB, GL, Nat.reduceAdd, Nat.reduceSub, Nat.reduceEqDiff, Nat.reduceMul, Nat.reduceLeDiff, Int.reduceBNe, Int.reduceBEq, Nat.reduceLT, reduceCtorEq, f, fw, hld, encW, Int.reduceBNe]
  exact q _ (h1.set0 _).tl.tl

theorem s65_err (hC : Holds o s C) {hv : V} {N L i err VN VL : Int} (e : WordErr C hv N L i (decide (0 ≤ VL) && decide (VL ≤ 100000)) err) (q : ∀ s', Holds o s' C → Q (I err) s') : WP (call PF 65 [hv, .agg [I N, I L], I i, .agg [I VN, I VL]] s) Q := by
  have h0 := (hC.alloc (.cells [I N, I L] none)).alloc (.cells [I VN, I VL] none)
  rw [call_run F65]; simp -implicitDefEqProofs only [↓GP, GB, GL, Nat.reduceAdd, Nat.reduceSub, Nat.reduceEqDiff, Nat.reduceMul, Nat.reduceLeDiff, Int.reduceBNe, Int.reduceBEq, Nat.reduceLT, reduceCtorEq, c65, s56]
  refine wp_in (s108_err h0 (e.mono fun x hx => List.mem_cons_of_mem _ (List.mem_cons_of_mem _ hx)) fun s1 h1 => ?_)
  have f := h1.f2
  simp only [alloc_next] at f
  rcases e.ne with rfl | rfl | rfl
  · simp -implicitDefEqProofs only [↓GP, GB, GL, Nat.reduceAdd, Nat.reduceSub, Nat.reduceEqDiff, Nat.reduceMul, Nat.reduceLeDiff, Int.reduceBNe, Int.reduceBEq, Nat.reduceLT, reduceCtorEq, f, Int.reduceBEq]; exact q _ h1.tl.tl
  · simp -implicitDefEqProofs only [↓GP, GB, GL, Nat.reduceAdd, Nat.reduceSub, Nat.reduceEqDiff, Nat.reduceMul, Nat.reduceLeDiff, Int.reduceBNe, Int.reduceBEq, Nat.reduceLT, reduceCtorEq, f, Int.reduceBEq]; exact q _ h1.tl.tl
  · simp -implicitDefEqProofs only [↓GP, GB, GL, Nat.reduceAdd, Nat.reduceSub, Nat.reduceEqDiff, Nat.reduceMul, Nat.reduceLeDiff, Int.reduceBNe, Int.reduceBEq, Nat.reduceLT, reduceCtorEq, f, Int.reduceBEq]; exact q _ h1.tl.tl
/-- Writing: x's words change. -/
theorem s65 {hp : PHeap} {p i : Nat} {N L : Int} {w : Int × Int} (hC : Holds o s C) (hin : In C p hp) (h0 : hp.regs ≠ []) (hlen : hp.regs.length ≤ 100000) (hok : ∀ g ∈ hp.regs, g.ok) (hL : 0 < L) (hv : 0 ≤ w.2 ∧ w.2 ≤ 100000) {x : PObj} (hx : pfind N L hp.regs = some x) (hi : i < x.b.ws.length) (hw : x.b.ws.length ≤ 31)
    (hp' : ∀ s1, Holds o s1 C → Holds o s1 ((x.wid, some x.W) :: F))
    (q : ∀ s', Holds o s' ((x.wid, some (.cells ((x.b.ws.set i w).flatMap encW) none)) :: F) → Q (I 0) s') : WP (call PF 65 [ptrN hp.id, .agg [I N, I L], I i, .agg (encW w)] s) Q := by
  have h2 := (hC.alloc (.cells [I N, I L] none)).alloc (.cells (encW w) none)
  have hb : (decide (0 ≤ w.2) && decide (w.2 ≤ 100000)) = true := by simpa using hv
  rw [call_run F65]; simp -implicitDefEqProofs only [↓GP, GB, GL, Nat.reduceAdd, Nat.reduceSub, Nat.reduceEqDiff, Nat.reduceMul, Nat.reduceLeDiff, Int.reduceBNe, Int.reduceBEq, Nat.reduceLT, reduceCtorEq, c65, encW, s56, hb]
  refine wp_in (s108 h2 ((hin.cons _).cons _) h0 hlen hok hL hx hi hw fun s1 h1 => ?_)
  obtain ⟨g, mg, mx⟩ := pfind_mem hx
  have f := h1.f1
  simp only [alloc_next] at f
  have h3 := hp' _ h1.tl.tl
  have fw := h3.f1
  simp only [encW] at f
  simp only [PObj.W] at fw h3
  have hst := fun s => stC_tab encW_len (fun _ => rfl) x.b.ws none hi w x.wid s
  simp only [encW] at hst fw h3
  simp -implicitDefEqProofs only [↓GP, GB, GL, Nat.reduceAdd, Nat.reduceSub, Nat.reduceEqDiff, Nat.reduceMul, Nat.reduceLeDiff, Int.reduceBNe, Int.reduceBEq, Nat.reduceLT, reduceCtorEq, f, fw, hst, Int.reduceBEq]
  exact q _ (h3.set0 _)
end
end Go.Proofs.Ytoldkemimhebaaa
