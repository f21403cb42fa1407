/- The functions of layer 15, on the ideal machine: looking at regions and objects. -/
import Derived.Test.YtoldkemimhebaaaPgY
set_option linter.unusedSimpArgs false
set_option linter.unusedVariables false
namespace Go.Proofs.Ytoldkemimhebaaa
open Go Go.IM

section
variable {o : Nat → Option O} {s : St} {C F : Ch} {Q : V → St → Prop}
set_option maxRecDepth 10000

theorem s22 {p r : Nat} {u : List Bool} (H : Holds o s (poolC p r u ++ F)) (h0 : 0 < u.length)
    (q : ∀ s' id rk k m sl, Holds o s' (poolC p r u ++ (PHeap.ch p ⟨id, rk, 1, [⟨k, 0, 0, m, .map [] 0, 0, 1, 0, [], []⟩], sl⟩ ++ F)) → Q (.tuple [ptrN id, I 0]) s') : WP (call PF 22 [ptrN p] s) Q := by
  have f := Holds.f2 H
  have hz : ((u.length : Int) == 0) = false := by rw [beq_eq_false_iff_ne]; omega
  rw [call_run F22]; simp -implicitDefEqProofs only [↓GP, GB, GL, Nat.reduceAdd, Nat.reduceSub, Nat.reduceEqDiff, Nat.reduceMul, Nat.reduceLeDiff, Int.reduceBNe, Int.reduceBEq, Nat.reduceLT, reduceCtorEq, c22, f, hz]
  refine wp_in (s57 (h := s.next) (rk := 0) (n := 0) (pv := ptrN p) (lives := 0) (cs := []) (sl := []) (F := poolC p r u ++ F) (by omega) (by omega) (Holds.of (H.alloc (.cells [ptrN p, .slice none 0 (some 0), I 0] none)) (fun k => by simp +arith only [rowV_zero, rowO_zero, Int.natCast_zero, HA, HB]) (fun k x => by simp only [rowV_zero, rowO_zero, Int.natCast_zero, HA, HC]; grind only)) rfl (fun _ => rfl) fun s1 rk k m sl h2 => ?_)
  simp -implicitDefEqProofs only [↓GP, GB, GL, Nat.reduceAdd, Nat.reduceSub, Nat.reduceEqDiff, Nat.reduceMul, Nat.reduceLeDiff, Int.reduceBNe, Int.reduceBEq, Nat.reduceLT, reduceCtorEq]
  exact q _ s.next rk k m sl (Holds.of (h2) (fun k => by simp +arith only [PHeap.hd, PReg.hd, PHeap.row, rowV_zero, List.length_append, List.length_cons, List.length_nil, Nat.zero_add, List.map_append, List.map_cons, List.map_nil, Int.natCast_zero, HA, HB]) (fun k x => by simp only [PHeap.hd, PReg.hd, PHeap.row, rowV_zero, List.length_append, List.length_cons, List.length_nil, Nat.zero_add, List.map_append, List.map_cons, List.map_nil, Int.natCast_zero, HA, HC]; grind only))

/-- What a heap has, in a list of chunks. -/
structure In (C : Ch) (p : Nat) (hp : PHeap) : Prop where
  sub : ∀ x ∈ hp.ch p, x ∈ C
theorem In.id {hp : PHeap} {p : Nat} (h : In C p hp) : (hp.id, some (hp.hd p)) ∈ C := h.sub _ (List.mem_cons_self ..)
theorem In.row {hp : PHeap} {p : Nat} (h : In C p hp) : (hp.rowk, hp.row) ∈ C := h.sub _ (List.mem_cons_of_mem _ (List.mem_cons_self ..))
theorem In.reg {hp : PHeap} {p : Nat} (h : In C p hp) {g : PReg} (m : g ∈ hp.regs) {x : Nat × Option O} (hx : x ∈ g.ch) : x ∈ C := h.sub _ (List.mem_cons_of_mem _ (List.mem_cons_of_mem _ (List.mem_flatMap.2 ⟨g, m, hx⟩)))
theorem In.hd {hp : PHeap} {p : Nat} (h : In C p hp) {g : PReg} (m : g ∈ hp.regs) : (g.id, some g.hd) ∈ C := h.reg m (List.mem_cons_self ..)
theorem In.pg {hp : PHeap} {p : Nat} (h : In C p hp) {g : PReg} (m : g ∈ hp.regs) : (g.pgk, pagesO g.pages) ∈ C := h.reg m (by simp [PReg.ch])
theorem In.ob {hp : PHeap} {p : Nat} (h : In C p hp) {g : PReg} (m : g ∈ hp.regs) : (g.obk, PReg.obO g.objs) ∈ C := h.reg m (by simp [PReg.ch])
theorem In.pl {hp : PHeap} {p : Nat} (h : In C p hp) {g : PReg} (m : g ∈ hp.regs) : (g.plk, some g.pl) ∈ C := h.reg m (by simp [PReg.ch])
theorem In.obj {hp : PHeap} {p : Nat} (h : In C p hp) {g : PReg} (m : g ∈ hp.regs) {x : PObj} (mx : x ∈ g.objs) : (x.id, some x.O) ∈ C := h.reg m (by simp [PReg.ch, PObj.ch]; exact .inr (.inr (.inr (.inr ⟨x, mx, .inl ⟨rfl, rfl⟩⟩))))
theorem In.w {hp : PHeap} {p : Nat} (h : In C p hp) {g : PReg} (m : g ∈ hp.regs) {x : PObj} (mx : x ∈ g.objs) : (x.wid, some x.W) ∈ C := h.reg m (by simp [PReg.ch, PObj.ch]; exact .inr (.inr (.inr (.inr ⟨x, mx, .inr ⟨rfl, rfl⟩⟩))))
theorem In.mono {D : Ch} {hp : PHeap} {p : Nat} (h : In C p hp) (hs : ∀ x ∈ C, x ∈ D) : In D p hp := ⟨fun x hx => hs x (h.sub x hx)⟩
theorem In.cons {hp : PHeap} {p : Nat} (h : In C p hp) (x : Nat × Option O) : In (x :: C) p hp := h.mono fun _ h => List.mem_cons_of_mem _ h

theorem s27_gone (hC : Holds o s C) {hv : V} (g : Gone C hv) : call PF 27 [hv] s = some (I 0, s) := by
  have e := s71_gone hC g
  rw [call_run F27]; simp -implicitDefEqProofs only [↓GP, GB, GL, Nat.reduceAdd, Nat.reduceSub, Nat.reduceEqDiff, Nat.reduceMul, Nat.reduceLeDiff, Int.reduceBNe, Int.reduceBEq, Nat.reduceLT, reduceCtorEq, c27, e]
theorem s27 (hC : Holds o s C) {hp : PHeap} {p : Nat} (hin : In C p hp) : call PF 27 [ptrN hp.id] s = some (I hp.regs.length, s) := by
  have f := hC.mem hin.id
  have e := s71 f.1
  simp only [PHeap.hd] at f
  rw [call_run F27]; simp -implicitDefEqProofs only [↓GP, GB, GL, Nat.reduceAdd, Nat.reduceSub, Nat.reduceEqDiff, Nat.reduceMul, Nat.reduceLeDiff, Int.reduceBNe, Int.reduceBEq, Nat.reduceLT, reduceCtorEq, c27, e, f]

theorem s35_err (hC : Holds o s C) {hv : V} {n err : Int} (e : AtErr C hv n err) (hone : hv.one = true) (hcl : hv.cells = [hv]) (q : ∀ s', Holds o s' C → Q (.tuple [I 0, I err]) s') : WP (call PF 35 [hv, I n] s) Q := by
  rw [call_run F35]; simp -implicitDefEqProofs only [↓GP, GB, GL, Nat.reduceAdd, Nat.reduceSub, Nat.reduceEqDiff, Nat.reduceMul, Nat.reduceLeDiff, Int.reduceBNe, Int.reduceBEq, Nat.reduceLT, reduceCtorEq, c35]
  refine wp_in (s72_err hC e hone hcl fun s1 h1 => ?_)
  rcases e.ne with rfl | rfl
  · simp -implicitDefEqProofs only [↓GP, GB, GL, Nat.reduceAdd, Nat.reduceSub, Nat.reduceEqDiff, Nat.reduceMul, Nat.reduceLeDiff, Int.reduceBNe, Int.reduceBEq, Nat.reduceLT, reduceCtorEq, Int.reduceBNe]; exact q _ h1
  · simp -implicitDefEqProofs only [↓GP, GB, GL, Nat.reduceAdd, Nat.reduceSub, Nat.reduceEqDiff, Nat.reduceMul, Nat.reduceLeDiff, Int.reduceBNe, Int.reduceBEq, Nat.reduceLT, reduceCtorEq, Int.reduceBNe]; exact q _ h1
theorem s35 (hC : Holds o s C) {hp : PHeap} {p i : Nat} (hin : In C p hp) (hlen : hp.regs.length ≤ 100000) {g : PReg} (hr : hp.regs[i]? = some g) (q : ∀ s', Holds o s' C → Q (.tuple [I g.life, I 0]) s') : WP (call PF 35 [ptrN hp.id, I i] s) Q := by
  rw [call_run F35]; simp -implicitDefEqProofs only [↓GP, GB, GL, Nat.reduceAdd, Nat.reduceSub, Nat.reduceEqDiff, Nat.reduceMul, Nat.reduceLeDiff, Int.reduceBNe, Int.reduceBEq, Nat.reduceLT, reduceCtorEq, c35]
  refine wp_in (s72 hC hin.id hin.row (by omega) hr fun s1 h1 => ?_)
  have f := h1.mem (hin.hd (List.mem_of_getElem? hr))
  simp only [PReg.hd] at f
  simp -implicitDefEqProofs only [↓GP, GB, GL, Nat.reduceAdd, Nat.reduceSub, Nat.reduceEqDiff, Nat.reduceMul, Nat.reduceLeDiff, Int.reduceBNe, Int.reduceBEq, Nat.reduceLT, reduceCtorEq, f, Int.reduceBNe]
  exact q _ h1

theorem s74 (hC : Holds o s C) {k : Nat} {l : List Nat} (hl : l.length ≤ 400) (m : (k, pagesO l) ∈ C) (q : ∀ s' k', Holds o s' ((k', pagesO l) :: C) → Q (rowV k' l.length) s') : WP (call PF 74 [rowV k l.length] s) Q := by
  by_cases h : l.length = 0
  · have : l = [] := List.length_eq_zero_iff.1 h
    subst this
    rw [call_run F74]; simp -implicitDefEqProofs only [↓GP, GB, GL, Nat.reduceAdd, Nat.reduceSub, Nat.reduceEqDiff, Nat.reduceMul, Nat.reduceLeDiff, Int.reduceBNe, Int.reduceBEq, Nat.reduceLT, reduceCtorEq, c74, eqI, Option.isNone_none, List.length_nil, rowV_zero]
    exact q s 0 (hC.nilEntry 0)
  · rw [pagesO, rowO_pos (by omega)] at m
    rw [call_run F74]; simp -implicitDefEqProofs only [↓GP, GB, GL, Nat.reduceAdd, Nat.reduceSub, Nat.reduceEqDiff, Nat.reduceMul, Nat.reduceLeDiff, Int.reduceBNe, Int.reduceBEq, Nat.reduceLT, reduceCtorEq, c74, h]
    refine wp_append0 (hC.alloc _) (new_row (.inr ((hC.alloc _).mem (List.mem_cons_of_mem _ m)).1) (by simp)) (by omega) (by omega) (by unfold maxRow; omega) (by unfold maxRow; omega) fun k' s1 h1 => ?_
    simp -implicitDefEqProofs only [↓GP, GB, GL, Nat.reduceAdd, Nat.reduceSub, Nat.reduceEqDiff, Nat.reduceMul, Nat.reduceLeDiff, Int.reduceBNe, Int.reduceBEq, Nat.reduceLT, reduceCtorEq]
    exact q s1 k' (by rw [pagesO, rowO_pos (by omega)]; exact h1)

theorem s29_err (hC : Holds o s C) {hv : V} {n err : Int} (e : AtErr C hv n err) (hone : hv.one = true) (hcl : hv.cells = [hv]) (q : ∀ s', Holds o s' C → Q (.tuple [.slice none 0 (some 0), I err]) s') : WP (call PF 29 [hv, I n] s) Q := by
  rw [call_run F29]; simp -implicitDefEqProofs only [↓GP, GB, GL, Nat.reduceAdd, Nat.reduceSub, Nat.reduceEqDiff, Nat.reduceMul, Nat.reduceLeDiff, Int.reduceBNe, Int.reduceBEq, Nat.reduceLT, reduceCtorEq, c29]
  refine wp_in (s72_err hC e hone hcl fun s1 h1 => ?_)
  rcases e.ne with rfl | rfl
  · simp -implicitDefEqProofs only [↓GP, GB, GL, Nat.reduceAdd, Nat.reduceSub, Nat.reduceEqDiff, Nat.reduceMul, Nat.reduceLeDiff, Int.reduceBNe, Int.reduceBEq, Nat.reduceLT, reduceCtorEq, Int.reduceBNe]; exact q _ h1
  · simp -implicitDefEqProofs only [↓GP, GB, GL, Nat.reduceAdd, Nat.reduceSub, Nat.reduceEqDiff, Nat.reduceMul, Nat.reduceLeDiff, Int.reduceBNe, Int.reduceBEq, Nat.reduceLT, reduceCtorEq, Int.reduceBNe]; exact q _ h1
theorem s29 (hC : Holds o s C) {hp : PHeap} {p i : Nat} (hin : In C p hp) (hlen : hp.regs.length ≤ 100000) {g : PReg} (hr : hp.regs[i]? = some g) (hpl : g.pages.length ≤ 400) (q : ∀ s' k, Holds o s' ((k, pagesO g.pages) :: C) → Q (.tuple [rowV k g.pages.length, I 0]) s') : WP (call PF 29 [ptrN hp.id, I i] s) Q := by
  rw [call_run F29]; simp -implicitDefEqProofs only [↓GP, GB, GL, Nat.reduceAdd, Nat.reduceSub, Nat.reduceEqDiff, Nat.reduceMul, Nat.reduceLeDiff, Int.reduceBNe, Int.reduceBEq, Nat.reduceLT, reduceCtorEq, c29]
  refine wp_in (s72 hC hin.id hin.row (by omega) hr fun s1 h1 => ?_)
  have f := h1.mem (hin.hd (List.mem_of_getElem? hr))
  simp only [PReg.hd] at f
  simp -implicitDefEqProofs only [↓GP, GB, GL, Nat.reduceAdd, Nat.reduceSub, Nat.reduceEqDiff, Nat.reduceMul, Nat.reduceLeDiff, Int.reduceBNe, Int.reduceBEq, Nat.reduceLT, reduceCtorEq, f, Int.reduceBNe]
  refine wp_in (s74 h1 hpl (hin.pg (List.mem_of_getElem? hr)) fun s2 k h2 => ?_)
  simp -implicitDefEqProofs only [↓GP, GB, GL, Nat.reduceAdd, Nat.reduceSub, Nat.reduceEqDiff, Nat.reduceMul, Nat.reduceLeDiff, Int.reduceBNe, Int.reduceBEq, Nat.reduceLT, reduceCtorEq]
  exact q _ k h2

/-- Pointers to objects. -/
def encP (life : Nat) (x : PObj) : List V := [I x.b.at_, I life]
theorem pointers_loop {gid obk life : Nat} {l : List PObj} {rest : List V}  {K : Kt} (mg : (gid, some (.cells (I life :: rest) none)) ∈ C) (mo : (obk, rowO 1 l.length (l.map fun x => ptrN x.id)) ∈ C) (mx : ∀ x ∈ l, (x.id, some x.O) ∈ C) (hl : l.length ≤ 100000) :
    ∀ (m i k : Nat) (s : St), i + m = l.length → Holds o s ((k, rowO 2 i ((l.take i).flatMap (encP life))) :: C) →
    (∀ s' k', Holds o s' ((k', rowO 2 l.length (l.flatMap (encP life))) :: C) → WP (K (.exit 0) (sp 28 [(5, rowV k' l.length)]) s') Q) →
    WP (loop PF (.loop l73_0) (sp 28 [(0, ptrN gid), (5, rowV k i), (8, rowV obk l.length), (9, I l.length), (10, I i)]) s K) Q
  | 0, i, k, s, hi, H, q => by
    have hlt : ¬ ((i : Int) < (l.length : Int)) := by omega
    refine wp_round fun LL hLL => ?_
    simp -implicitDefEqProofs only [↓GP, GB, GL, Nat.reduceAdd, Nat.reduceSub, Nat.reduceEqDiff, Nat.reduceMul, Nat.reduceLeDiff, Int.reduceBNe, Int.reduceBEq, Nat.reduceLT, reduceCtorEq, l73_0, hlt]
    have e : i = l.length := by omega
    subst e
    rw [List.take_length] at H
    exact q s k H
  | m + 1, i, k, s, hi, H, q => by
    have hlt : ((i : Int) < (l.length : Int)) := by omega
    have hi' : i < l.length := by omega
    have fg := H.mem (List.mem_cons_of_mem _ mg)
    have mo' := mo
    rw [rowO_pos (by omega)] at mo'
    have fo := H.mem (List.mem_cons_of_mem _ mo')
    have fx := H.mem (List.mem_cons_of_mem _ (mx l[i] (List.getElem_mem hi')))
    have hg : (l.map fun x => ptrN x.id)[i]? = some (ptrN l[i].id) := by simp [hi']
    simp only [PObj.O] at fx
    refine wp_round fun LL hLL => ?_
    simp -implicitDefEqProofs only [↓GP, GB, GL, Nat.reduceAdd, Nat.reduceSub, Nat.reduceEqDiff, Nat.reduceMul, Nat.reduceLeDiff, Int.reduceBNe, Int.reduceBEq, Nat.reduceLT, reduceCtorEq, l73_0, hlt, ix_row hi', fg, fo, fx, hg]
    refine wp_append (cs := (l.take i).flatMap (encP life)) ((H.alloc _).r1) (by rw [tab_len (sz := 2) (fun _ => rfl)]; simp; omega) (new_cells' (alloc_new_same _ _) rfl) rfl rfl (by omega) (by unfold maxRow; omega) (by unfold maxRow; omega) fun k' s1 h1 => ?_
    have hw := wrap_add1 (a := i) (by omega)
    simp -implicitDefEqProofs only [↓GP, GB, GL, Nat.reduceAdd, Nat.reduceSub, Nat.reduceEqDiff, Nat.reduceMul, Nat.reduceLeDiff, Int.reduceBNe, Int.reduceBEq, Nat.reduceLT, reduceCtorEq, hw]
    rw [hLL]
    refine pointers_loop mg mo mx hl m (i + 1) k' s1 (by omega) ?_ q
    have e : (l.take (i + 1)).flatMap (encP life) = (l.take i).flatMap (encP life) ++ [I l[i].b.at_, I life] := by
      rw [List.take_succ_eq_append_getElem hi', List.flatMap_append]; simp [encP]
    rw [e]
    exact h1.r1.tl

theorem s73 (hC : Holds o s C) {gid obk life : Nat} {l : List PObj} {rest : List V} (mg : (gid, some (.cells (I life :: rest) none)) ∈ C) (mo : (obk, rowO 1 l.length (l.map fun x => ptrN x.id)) ∈ C) (mx : ∀ x ∈ l, (x.id, some x.O) ∈ C) (hl : l.length ≤ 100000)
    (q : ∀ s' k', Holds o s' ((k', rowO 2 l.length (l.flatMap (encP life))) :: C) → Q (rowV k' l.length) s') : WP (call PF 73 [ptrN gid, rowV obk l.length] s) Q := by
  rw [call_run F73]; simp -implicitDefEqProofs only [↓GP, GB, GL, Nat.reduceAdd, Nat.reduceSub, Nat.reduceEqDiff, Nat.reduceMul, Nat.reduceLeDiff, Int.reduceBNe, Int.reduceBEq, Nat.reduceLT, reduceCtorEq, c73]
  refine pointers_loop mg mo mx hl l.length 0 0 s (by omega) (by simpa using hC.nilEntry 0) fun s1 k h1 => ?_
  simp -implicitDefEqProofs only [↓GP, GB, GL, Nat.reduceAdd, Nat.reduceSub, Nat.reduceEqDiff, Nat.reduceMul, Nat.reduceLeDiff, Int.reduceBNe, Int.reduceBEq, Nat.reduceLT, reduceCtorEq]
  exact q s1 k h1

theorem s28_err (hC : Holds o s C) {hv : V} {n err : Int} (e : AtErr C hv n err) (hone : hv.one = true) (hcl : hv.cells = [hv]) (q : ∀ s', Holds o s' C → Q (.tuple [.slice none 0 (some 0), I err]) s') : WP (call PF 28 [hv, I n] s) Q := by
  rw [call_run F28]; simp -implicitDefEqProofs only [↓GP, GB, GL, Nat.reduceAdd, Nat.reduceSub, Nat.reduceEqDiff, Nat.reduceMul, Nat.reduceLeDiff, Int.reduceBNe, Int.reduceBEq, Nat.reduceLT, reduceCtorEq, c28]
  refine wp_in (s72_err hC e hone hcl fun s1 h1 => ?_)
  rcases e.ne with rfl | rfl
  · simp -implicitDefEqProofs only [↓GP, GB, GL, Nat.reduceAdd, Nat.reduceSub, Nat.reduceEqDiff, Nat.reduceMul, Nat.reduceLeDiff, Int.reduceBNe, Int.reduceBEq, Nat.reduceLT, reduceCtorEq, Int.reduceBNe]; exact q _ h1
  · simp -implicitDefEqProofs only [↓GP, GB, GL, Nat.reduceAdd, Nat.reduceSub, Nat.reduceEqDiff, Nat.reduceMul, Nat.reduceLeDiff, Int.reduceBNe, Int.reduceBEq, Nat.reduceLT, reduceCtorEq, Int.reduceBNe]; exact q _ h1
theorem s28 (hC : Holds o s C) {hp : PHeap} {p i : Nat} (hin : In C p hp) (hlen : hp.regs.length ≤ 100000) {g : PReg} (hr : hp.regs[i]? = some g) (hol : g.objs.length ≤ 100000) (q : ∀ s' k, Holds o s' ((k, rowO 2 g.objs.length (g.objs.flatMap (encP g.life))) :: C) → Q (.tuple [rowV k g.objs.length, I 0]) s') : WP (call PF 28 [ptrN hp.id, I i] s) Q := by
  rw [call_run F28]; simp -implicitDefEqProofs only [↓GP, GB, GL, Nat.reduceAdd, Nat.reduceSub, Nat.reduceEqDiff, Nat.reduceMul, Nat.reduceLeDiff, Int.reduceBNe, Int.reduceBEq, Nat.reduceLT, reduceCtorEq, c28]
  refine wp_in (s72 hC hin.id hin.row (by omega) hr fun s1 h1 => ?_)
  have mg := List.mem_of_getElem? hr
  have f := h1.mem (hin.hd mg)
  have m0 := hin.hd mg
  simp only [PReg.hd] at f m0
  simp -implicitDefEqProofs only [↓GP, GB, GL, Nat.reduceAdd, Nat.reduceSub, Nat.reduceEqDiff, Nat.reduceMul, Nat.reduceLeDiff, Int.reduceBNe, Int.reduceBEq, Nat.reduceLT, reduceCtorEq, f, Int.reduceBNe]
  refine wp_in (s73 h1 m0 (hin.ob mg) (fun x hx => hin.obj mg hx) hol fun s2 k h2 => ?_)
  simp -implicitDefEqProofs only [↓GP, GB, GL, Nat.reduceAdd, Nat.reduceSub, Nat.reduceEqDiff, Nat.reduceMul, Nat.reduceLeDiff, Int.reduceBNe, Int.reduceBEq, Nat.reduceLT, reduceCtorEq]
  exact q _ k h2

/-- The words of objects, with their headers. -/
def wordsM (l : List Obj) : Nat := (l.map fun x => x.ws.length + 1).sum
theorem words_loop {obk : Nat} {l : List PObj}  {K : Kt} (hC : Holds o s C) (mo : (obk, rowO 1 l.length (l.map fun x => ptrN x.id)) ∈ C) (mx : ∀ x ∈ l, (x.id, some x.O) ∈ C) (hw : ∀ x ∈ l, x.b.ws.length ≤ 31) (hl : l.length ≤ 100000) :
    ∀ (m i c : Nat), i + m = l.length → c ≤ 32 * i →
    loop PF (.loop l83_0) (sp 39 [(8, I c), (23, rowV obk l.length), (24, I l.length), (25, I i)]) s K = K (.exit 0) (sp 39 [(8, I (c + wordsM ((l.drop i).map (·.b)) : Nat))]) s
  | 0, i, c, hi, hc => by
    have hlt : ¬ ((i : Int) < (l.length : Int)) := by omega
    refine round fun LL hLL => ?_
    simp -implicitDefEqProofs only [↓GP, GB, GL, Nat.reduceAdd, Nat.reduceSub, Nat.reduceEqDiff, Nat.reduceMul, Nat.reduceLeDiff, Int.reduceBNe, Int.reduceBEq, Nat.reduceLT, reduceCtorEq, l83_0, hlt]
    rw [List.drop_eq_nil_of_le (by omega)]
    rfl
  | m + 1, i, c, hi, hc => by
    have hlt : ((i : Int) < (l.length : Int)) := by omega
    have hi' : i < l.length := by omega
    have mo' := mo
    rw [rowO_pos (by omega)] at mo'
    have fo := hC.mem mo'
    have fx := hC.mem (mx l[i] (List.getElem_mem hi'))
    have hg : (l.map fun x => ptrN x.id)[i]? = some (ptrN l[i].id) := by simp [hi']
    have hwi := hw l[i] (List.getElem_mem hi')
    simp only [PObj.O] at fx
    have w1 := wrap_add1 (a := l[i].b.ws.length) (by omega)
    have w2 : wrapI .i64 ((c : Int) + ((l[i].b.ws.length + 1 : Nat) : Int)) = I ((c + (l[i].b.ws.length + 1) : Nat) : Int) := wrap_add (by omega) (by omega)
    have w3 := wrap_add1 (a := i) (by omega)
    refine round fun LL hLL => ?_
    simp -implicitDefEqProofs only [↓GP, GB, GL, Nat.reduceAdd, Nat.reduceSub, Nat.reduceEqDiff, Nat.reduceMul, Nat.reduceLeDiff, Int.reduceBNe, Int.reduceBEq, Nat.reduceLT, reduceCtorEq, l83_0, hlt, ix_row hi', fo, fx, hg, w1, w2, w3]
    rw [hLL, words_loop hC mo mx hw hl m (i + 1) _ (by omega) (by omega)]
    have e : wordsM ((l.drop i).map (·.b)) = (l[i].b.ws.length + 1) + wordsM ((l.drop (i + 1)).map (·.b)) := by
      rw [List.drop_eq_getElem_cons hi']; simp only [wordsM, List.map_cons, List.sum_cons]
    rw [e, Nat.add_assoc c]

theorem s83_err (hC : Holds o s C) {hv : V} {n err : Int} (e : AtErr C hv n err) (hone : hv.one = true) (hcl : hv.cells = [hv]) (q : ∀ s', Holds o s' C → Q (.tuple [I 0, I err]) s') : WP (call PF 83 [hv, I n] s) Q := by
  rw [call_run F83]; simp -implicitDefEqProofs only [↓GP, GB, GL, Nat.reduceAdd, Nat.reduceSub, Nat.reduceEqDiff, Nat.reduceMul, Nat.reduceLeDiff, Int.reduceBNe, Int.reduceBEq, Nat.reduceLT, reduceCtorEq, c83]
  refine wp_in (s72_err hC e hone hcl fun s1 h1 => ?_)
  rcases e.ne with rfl | rfl
  · simp -implicitDefEqProofs only [↓GP, GB, GL, Nat.reduceAdd, Nat.reduceSub, Nat.reduceEqDiff, Nat.reduceMul, Nat.reduceLeDiff, Int.reduceBNe, Int.reduceBEq, Nat.reduceLT, reduceCtorEq, Int.reduceBNe]; exact q _ h1
  · simp -implicitDefEqProofs only [↓GP, GB, GL, Nat.reduceAdd, Nat.reduceSub, Nat.reduceEqDiff, Nat.reduceMul, Nat.reduceLeDiff, Int.reduceBNe, Int.reduceBEq, Nat.reduceLT, reduceCtorEq, Int.reduceBNe]; exact q _ h1
theorem s83 (hC : Holds o s C) {hp : PHeap} {p i : Nat} (hin : In C p hp) (hlen : hp.regs.length ≤ 100000) {g : PReg} (hr : hp.regs[i]? = some g) (hol : g.objs.length ≤ 100000) (hw : ∀ x ∈ g.objs, x.b.ws.length ≤ 31) (q : ∀ s', Holds o s' C → Q (.tuple [I (wordsM g.m.objs), I 0]) s') : WP (call PF 83 [ptrN hp.id, I i] s) Q := by
  rw [call_run F83]; simp -implicitDefEqProofs only [↓GP, GB, GL, Nat.reduceAdd, Nat.reduceSub, Nat.reduceEqDiff, Nat.reduceMul, Nat.reduceLeDiff, Int.reduceBNe, Int.reduceBEq, Nat.reduceLT, reduceCtorEq, c83]
  refine wp_in (s72 hC hin.id hin.row (by omega) hr fun s1 h1 => ?_)
  have mg := List.mem_of_getElem? hr
  have f := h1.mem (hin.hd mg)
  simp only [PReg.hd] at f
  have e := fun K => words_loop (K := K) h1 (hin.ob mg) (fun x hx => hin.obj mg hx) hw hol g.objs.length 0 0 (by omega) (by omega)
  simp only [Nat.zero_add, List.drop_zero, Int.natCast_zero] at e
  simp -implicitDefEqProofs only [↓GP, GB, GL, Nat.reduceAdd, Nat.reduceSub, Nat.reduceEqDiff, Nat.reduceMul, Nat.reduceLeDiff, Int.reduceBNe, Int.reduceBEq, Nat.reduceLT, reduceCtorEq, f, e, Int.reduceBNe]
  exact q _ h1

/-- The pages of all regions. -/
def inUseM (l : List (List Nat)) : Nat := (l.map (·.length)).sum
theorem inUse_loop {rk : Nat} {rs : List PReg} {sl : List V}  {K : Kt} (hC : Holds o s C) (mr : (rk, some (.cells (rs.map (fun r => ptrN r.id) ++ sl) (some 1))) ∈ C) (mg : ∀ g ∈ rs, (g.id, some g.hd) ∈ C) (hw : ∀ g ∈ rs, g.pages.length ≤ 400) (hl : rs.length ≤ 100000) :
    ∀ (m i c : Nat), i + m = rs.length → c ≤ 400 * i →
    loop PF (.loop l36_0) (sp 27 [(3, I c), (12, rowV rk rs.length), (13, I rs.length), (14, I i)]) s K = K (.exit 0) (sp 27 [(3, I (c + inUseM ((rs.drop i).map (·.pages)) : Nat))]) s
  | 0, i, c, hi, hc => by
    have hlt : ¬ ((i : Int) < (rs.length : Int)) := by omega
    refine round fun LL hLL => ?_
    simp -implicitDefEqProofs only [↓GP, GB, GL, Nat.reduceAdd, Nat.reduceSub, Nat.reduceEqDiff, Nat.reduceMul, Nat.reduceLeDiff, Int.reduceBNe, Int.reduceBEq, Nat.reduceLT, reduceCtorEq, l36_0, hlt]
    rw [List.drop_eq_nil_of_le (by omega)]
    rfl
  | m + 1, i, c, hi, hc => by
    have hlt : ((i : Int) < (rs.length : Int)) := by omega
    have hi' : i < rs.length := by omega
    have fr := hC.mem mr
    have fg := hC.mem (mg rs[i] (List.getElem_mem hi'))
    have hg : (rs.map (fun r => ptrN r.id) ++ sl)[i]? = some (ptrN rs[i].id) := by rw [List.getElem?_append_left (by simpa using hi')]; simp [hi']
    have hwi := hw rs[i] (List.getElem_mem hi')
    simp only [PReg.hd] at fg
    have w2 : wrapI .i64 ((c : Int) + (rs[i].pages.length : Int)) = I ((c + rs[i].pages.length : Nat) : Int) := wrap_add (by omega) (by omega)
    have w3 := wrap_add1 (a := i) (by omega)
    refine round fun LL hLL => ?_
    simp -implicitDefEqProofs only [↓GP, GB, GL, Nat.reduceAdd, Nat.reduceSub, Nat.reduceEqDiff, Nat.reduceMul, Nat.reduceLeDiff, Int.reduceBNe, Int.reduceBEq, Nat.reduceLT, reduceCtorEq, l36_0, hlt, ix_row hi', fr, fg, hg, w2, w3]
    rw [hLL, inUse_loop hC mr mg hw hl m (i + 1) _ (by omega) (by omega)]
    have e : inUseM ((rs.drop i).map (·.pages)) = rs[i].pages.length + inUseM ((rs.drop (i + 1)).map (·.pages)) := by
      rw [List.drop_eq_getElem_cons hi']; simp only [inUseM, List.map_cons, List.sum_cons]
    rw [e, Nat.add_assoc c]

theorem s36_gone (hC : Holds o s C) {hv : V} (g : Gone C hv) : call PF 36 [hv] s = some (I 0, s) := by
  have e := s71_gone hC g
  rw [call_run F36]; simp -implicitDefEqProofs only [↓GP, GB, GL, Nat.reduceAdd, Nat.reduceSub, Nat.reduceEqDiff, Nat.reduceMul, Nat.reduceLeDiff, Int.reduceBNe, Int.reduceBEq, Nat.reduceLT, reduceCtorEq, c36, e]
theorem s36 (hC : Holds o s C) {hp : PHeap} {p : Nat} (hin : In C p hp) (h0 : hp.regs ≠ []) (hlen : hp.regs.length ≤ 100000) (hw : ∀ g ∈ hp.regs, g.pages.length ≤ 400) : call PF 36 [ptrN hp.id] s = some (I (inUseM (hp.regs.map (·.pages))), s) := by
  have f := hC.mem hin.id
  have e := s71 f.1
  have mr := hin.row
  unfold PHeap.row at mr
  rw [rowO_pos (List.length_pos_iff.2 h0)] at mr
  simp only [PHeap.hd] at f
  have e2 := fun K => inUse_loop (K := K) hC mr (fun g mg => hin.hd mg) hw hlen hp.regs.length 0 0 (by omega) (by omega)
  simp only [Nat.zero_add, List.drop_zero, Int.natCast_zero] at e2
  rw [call_run F36]; simp -implicitDefEqProofs only [↓GP, GB, GL, Nat.reduceAdd, Nat.reduceSub, Nat.reduceEqDiff, Nat.reduceMul, Nat.reduceLeDiff, Int.reduceBNe, Int.reduceBEq, Nat.reduceLT, reduceCtorEq, c36, e, f, e2]
end
end Go.Proofs.Ytoldkemimhebaaa
