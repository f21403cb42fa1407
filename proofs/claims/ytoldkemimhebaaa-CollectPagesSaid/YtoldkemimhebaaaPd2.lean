/- Pc9, Pca, Pcb, Pcc, in one text. -/
import Derived.Test.YtoldkemimhebaaaPd1
import Derived.Test.YtoldkemimhebaaaPgU
/- Layer 16: words that are changed. -/
set_option linter.unusedSimpArgs false
set_option linter.unusedVariables false
namespace Go.Proofs.Ytoldkemimhebaaa
open Go Go.IM

/-- The words of one object, changed. -/
def Obj.wr (x : Obj) (ws : List (Int × Int)) : Obj := { x with ws := ws }
def PObj.wr (x : PObj) (ws : List (Int × Int)) : PObj := { x with b := x.b.wr ws }
def setObj1 (w : Int × Int) (f : List (Int × Int) → List (Int × Int)) (x : Obj) : Obj := if (x.at_ : Int) = w.1 then x.wr (f x.ws) else x
def setReg1 (w : Int × Int) (f : List (Int × Int) → List (Int × Int)) (g : Reg) : Reg := if (g.life : Int) = w.2 then { g with objs := g.objs.map (setObj1 w f) } else g
def setM (w : Int × Int) (f : List (Int × Int) → List (Int × Int)) (rs : List Reg) : List Reg := rs.map (setReg1 w f)

theorem setReg1_life (w : Int × Int) (f) (g : Reg) : (setReg1 w f g).life = g.life := by unfold setReg1; split <;> rfl
theorem setReg1_pages (w : Int × Int) (f) (g : Reg) : (setReg1 w f g).pages = g.pages := by unfold setReg1; split <;> rfl
theorem setReg1_size (w : Int × Int) (f) (g : Reg) : (setReg1 w f g).size = g.size := by unfold setReg1; split <;> rfl
theorem setReg1_fill (w : Int × Int) (f) (g : Reg) : (setReg1 w f g).fill = g.fill := by unfold setReg1; split <;> rfl
theorem setObj1_at (w : Int × Int) (f) (x : Obj) : (setObj1 w f x).at_ = x.at_ := by unfold setObj1; split <;> rfl
theorem setObj1_kind (w : Int × Int) (f) (x : Obj) : (setObj1 w f x).kind = x.kind := by unfold setObj1; split <;> rfl
theorem setObj1_len (w : Int × Int) {f : List (Int × Int) → List (Int × Int)} (hf : ∀ l, (f l).length = l.length) (x : Obj) : (setObj1 w f x).ws.length = x.ws.length := by
  unfold setObj1; split
  · exact hf _
  · rfl
/-- What a region is but for words. -/
def shapeR (g : Reg) : Nat × Nat × Nat × List Nat × List (Nat × Nat × Nat) := (g.size, g.life, g.fill, g.pages, g.objs.map fun x => (x.at_, x.kind, x.ws.length))
theorem setReg1_shape (w : Int × Int) {f : List (Int × Int) → List (Int × Int)} (hf : ∀ l, (f l).length = l.length) (g : Reg) : shapeR (setReg1 w f g) = shapeR g := by
  unfold shapeR
  rw [setReg1_size, setReg1_life, setReg1_fill, setReg1_pages]
  unfold setReg1
  split
  · simp only [List.map_map]
    congr 4
    exact List.map_congr_left fun x _ => by simp only [Function.comp, setObj1_at, setObj1_kind, setObj1_len w hf]
  · rfl
theorem RInv.ofShape {g g' : Reg} (h : RInv g) (e : shapeR g' = shapeR g) : RInv g' := by
  unfold shapeR at e
  simp only [Prod.mk.injEq] at e
  obtain ⟨e1, e2, e3, e4, e5⟩ := e
  exact h.congr e1 e2 e3 e4 e5
theorem RsOk.ofShape {lv : Nat} {u : List Bool} {rs rs' : List Reg} (h : RsOk lv u rs) (e : rs'.map shapeR = rs.map shapeR) : RsOk lv u rs' := by
  have el : rs'.map (·.life) = rs.map (·.life) := by
    have := congrArg (List.map fun t : Nat × Nat × Nat × List Nat × List (Nat × Nat × Nat) => t.2.1) e
    simpa [List.map_map, Function.comp_def, shapeR] using this
  have ep : rs'.map (·.pages) = rs.map (·.pages) := by
    have := congrArg (List.map fun t : Nat × Nat × Nat × List Nat × List (Nat × Nat × Nat) => t.2.2.2.1) e
    simpa [List.map_map, Function.comp_def, shapeR] using this
  have hl : rs'.length = rs.length := by have := congrArg List.length e; simpa using this
  have hx : ∀ r ∈ rs', ∃ r0 ∈ rs, shapeR r = shapeR r0 := fun r hr => by
    have : shapeR r ∈ rs.map shapeR := e ▸ List.mem_map.2 ⟨r, hr, rfl⟩
    obtain ⟨y, hy, e⟩ := List.mem_map.1 this
    exact ⟨y, hy, e.symm⟩
  have hI := h.inv
  refine ⟨h.ulen, ⟨hI.lives, fun e => hI.ne (List.length_eq_zero_iff.1 (by rw [← hl, e]; rfl)), by rw [hl]; exact hI.len, by rw [el]; exact hI.nodup, fun r hr => ?_, fun r hr => ?_⟩, ?_⟩
  · obtain ⟨r0, h0, e0⟩ := hx r hr
    have : r.life = r0.life := by unfold shapeR at e0; simp only [Prod.mk.injEq] at e0; exact e0.2.1
    rw [this]; exact hI.life r0 h0
  · obtain ⟨r0, h0, e0⟩ := hx r hr
    exact (hI.reg r0 h0).ofShape e0
  · have e1 : ∀ l : List Reg, l.flatMap (·.pages) = (l.map (·.pages)).flatten := fun l => by rw [List.flatMap_def]
    have := h.pool
    rw [e1] at this ⊢
    rw [ep]; exact this

theorem setM_shape (w : Int × Int) {f : List (Int × Int) → List (Int × Int)} (hf : ∀ l, (f l).length = l.length) (rs : List Reg) : (setM w f rs).map shapeR = rs.map shapeR := by
  unfold setM
  rw [List.map_map]
  exact List.map_congr_left fun g _ => setReg1_shape w hf g

/-- Finding an object, on models. -/
def mfind (N L : Int) (rs : List Reg) : Option Obj := rs.findSome? fun r => if (r.life : Int) = L then r.objs.find? (fun x => decide ((x.at_ : Int) = N)) else none
theorem pfind_m (N L : Int) : ∀ rs : List PReg, (pfind N L rs).map (·.b) = mfind N L (rs.map PReg.m)
  | [] => rfl
  | r :: rs => by
    have ih := pfind_m N L rs
    unfold pfind mfind at *
    simp only [List.map_cons, List.findSome?_cons]
    have e : (pf N L r).map (·.b) = (if (r.m.life : Int) = L then r.m.objs.find? (fun x => decide ((x.at_ : Int) = N)) else none) := by
      unfold pf
      split
      · rename_i h; rw [if_pos (show (r.m.life : Int) = L from h)]; simp only [PReg.m, List.find?_map]; rfl
      · rename_i h; rw [if_neg (show ¬ (r.m.life : Int) = L from h)]; rfl
    rw [← e]
    cases pf N L r with
    | some x => rfl
    | none => exact ih
theorem mfind_set (N L : Int) (w : Int × Int) (f) : ∀ rs : List Reg, (mfind N L (setM w f rs)).isSome = (mfind N L rs).isSome
  | [] => rfl
  | r :: rs => by
    have ih := mfind_set N L w f rs
    unfold mfind setM at *
    simp only [List.map_cons, List.findSome?_cons, setReg1_life]
    by_cases h : (r.life : Int) = L
    · simp only [if_pos h]
      have e : ((setReg1 w f r).objs.find? fun x => decide ((x.at_ : Int) = N)).isSome = (r.objs.find? fun x => decide ((x.at_ : Int) = N)).isSome := by
        unfold setReg1
        split
        · rw [List.find?_map]
          simp only [Option.isSome_map]
          congr 1
          have : ((fun x : Obj => decide ((x.at_ : Int) = N)) ∘ setObj1 w f) = fun x => decide ((x.at_ : Int) = N) := by funext x; simp only [Function.comp, setObj1_at]
          rw [this]
        · rfl
      cases h1 : (setReg1 w f r).objs.find? fun x => decide ((x.at_ : Int) = N) with
      | some a =>
        rw [h1] at e
        cases h2 : r.objs.find? fun x => decide ((x.at_ : Int) = N) with
        | some b => rfl
        | none => rw [h2] at e; cases e
      | none =>
        rw [h1] at e
        cases h2 : r.objs.find? fun x => decide ((x.at_ : Int) = N) with
        | some b => rw [h2] at e; cases e
        | none => exact ih
    · simp only [if_neg h]
      exact ih

/-- Where it is. -/
theorem pf_split {N L : Int} {r : PReg} {x : PObj} (h : pf N L r = some x) : ∃ X Y, r.objs = X ++ x :: Y ∧ ∀ y ∈ X, ¬ ((y.b.at_ : Int) = N) := by
  unfold pf at h
  split at h
  · obtain ⟨_, X, Y, e, hX⟩ := List.find?_eq_some_iff_append.1 h
    exact ⟨X, Y, e, fun y hy => by have := hX y hy; simpa using this⟩
  · cases h
theorem pfind_split {N L : Int} : ∀ {rs : List PReg} {x : PObj}, pfind N L rs = some x → ∃ A g B X Y, rs = A ++ g :: B ∧ g.objs = X ++ x :: Y ∧ (∀ a ∈ A, pf N L a = none) ∧ (g.life : Int) = L ∧ (x.b.at_ : Int) = N ∧ ∀ y ∈ X, ¬ ((y.b.at_ : Int) = N)
  | [], x, h => by simp [pfind] at h
  | r :: rs, x, h => by
    unfold pfind at h
    rw [List.findSome?_cons] at h
    cases hr : pf N L r with
    | some y =>
      rw [hr] at h
      cases h
      obtain ⟨X, Y, e, hX⟩ := pf_split hr
      obtain ⟨e1, e2, e3⟩ := pf_some hr
      exact ⟨[], r, rs, X, Y, rfl, e, (fun a ha => by cases ha), e1, e3, hX⟩
    | none =>
      rw [hr] at h
      obtain ⟨A, g, B, X, Y, e1, e2, e3, e4⟩ := pfind_split h
      exact ⟨r :: A, g, B, X, Y, by rw [e1]; rfl, e2, (fun a ha => by
        rcases List.mem_cons.1 ha with rfl | ha
        · exact hr
        · exact e3 a ha), e4⟩

theorem ok_wr {g : PReg} {X Y : List PObj} {x : PObj} (e : g.objs = X ++ x :: Y) (h : g.ok) (ws : List (Int × Int)) : PReg.ok { g with objs := X ++ x.wr ws :: Y } := by
  obtain ⟨l, c, e1, hl⟩ := h
  refine ⟨l, c, e1, fun a => (hl a).trans ?_⟩
  simp only [e, List.find?_append, List.find?_cons]
  have : (x.wr ws).b.at_ = x.b.at_ := rfl
  rw [this]
  cases List.find? (fun x => decide ((x.b.at_ : Int) = a)) X with
  | some _ => rfl
  | none => simp only [Option.none_or]; cases decide ((x.b.at_ : Int) = a) <;> rfl
theorem pfind_wr {N L : Int} {A B : List PReg} {g : PReg} {X Y : List PObj} {x : PObj} (hA : ∀ a ∈ A, pf N L a = none) (hg : (g.life : Int) = L) (hx : (x.b.at_ : Int) = N) (hX : ∀ y ∈ X, ¬ ((y.b.at_ : Int) = N)) (ws : List (Int × Int)) :
    pfind N L (A ++ { g with objs := X ++ x.wr ws :: Y } :: B) = some (x.wr ws) := by
  unfold pfind
  rw [List.findSome?_append, List.findSome?_eq_none_iff.2 hA, List.findSome?_cons]
  have : pf N L { g with objs := X ++ x.wr ws :: Y } = some (x.wr ws) := by
    unfold pf
    rw [if_pos hg]
    show (X ++ x.wr ws :: Y).find? _ = _
    rw [List.find?_append, List.find?_eq_none.2 (fun y hy => by simpa using hX y hy), List.find?_cons_of_pos (by show decide ((x.b.at_ : Int) = N) = true; simpa using hx)]
    rfl
  rw [this]
  rfl
theorem setP_m {lv : Nat} {u : List Bool} {A B : List PReg} {g : PReg} {X Y : List PObj} {x : PObj} {w : Int × Int} (h : RsOk lv u ((A ++ g :: B).map PReg.m)) (ex : g.objs = X ++ x :: Y) (hg : (g.life : Int) = w.2) (hx : (x.b.at_ : Int) = w.1) (f : List (Int × Int) → List (Int × Int)) :
    (A ++ { g with objs := X ++ x.wr (f x.b.ws) :: Y } :: B).map PReg.m = setM w f ((A ++ g :: B).map PReg.m) := by
  have hn := h.inv.nodup
  rw [List.map_map, List.map_append, List.map_cons, List.nodup_append] at hn
  obtain ⟨_, hn2, hn3⟩ := hn
  rw [List.nodup_cons] at hn2
  have hat := (h.inv.reg g.m (by simp)).nodup
  simp only [PReg.m, ex, List.map_append, List.map_cons, List.nodup_append] at hat
  obtain ⟨_, ha2, ha3⟩ := hat
  rw [List.nodup_cons] at ha2
  have same : ∀ a : PReg, ¬ ((a.life : Int) = w.2) → setReg1 w f a.m = a.m := fun a ha => if_neg ha
  have sameO : ∀ l : List PObj, (∀ y ∈ l, ¬ ((y.b.at_ : Int) = w.1)) → (l.map (·.b)).map (setObj1 w f) = l.map (·.b) := fun l hl => by
    rw [List.map_map]
    exact List.map_congr_left fun y hy => if_neg (hl y hy)
  unfold setM
  rw [List.map_append, List.map_append, List.map_cons, List.map_cons, List.map_append, List.map_cons]
  congr 1
  · rw [List.map_map]
    exact (List.map_congr_left fun a ha => same a fun e => hn3 _ (List.mem_map.2 ⟨a, ha, rfl⟩) _ (List.mem_cons_self ..) (by simp only [Function.comp, PReg.m]; omega)).symm
  · congr 1
    · unfold setReg1
      rw [if_pos (show (g.m.life : Int) = w.2 from hg)]
      simp only [PReg.m, ex, List.map_append, List.map_cons]
      congr 1
      rw [sameO X fun y hy e => ha3 _ (List.mem_map.2 ⟨y.b, List.mem_map.2 ⟨y, hy, rfl⟩, rfl⟩) _ (List.mem_cons_self ..) (by omega),
        sameO Y fun y hy e => ha2.1 (List.mem_map.2 ⟨y.b, List.mem_map.2 ⟨y, hy, rfl⟩, by omega⟩)]
      congr 2
      exact (if_pos hx).symm
    · rw [List.map_map]
      exact (List.map_congr_left fun a ha => same a fun e => hn2.1 (List.mem_map.2 ⟨a, ha, by simp only [Function.comp, PReg.m]; omega⟩)).symm

/-- A word, as it is set. -/
def fixF (mv : ToF) (fx : List (Int × Int)) (v : Int × Int) : Int × Int := if 0 ≤ (nowW mv fx v).2 ∧ (nowW mv fx v).2 ≤ 100000 then nowW mv fx v else v
end Go.Proofs.Ytoldkemimhebaaa

/- Layer 16: Collect: words are changed. -/
set_option linter.unusedSimpArgs false
set_option linter.unusedVariables false
namespace Go.Proofs.Ytoldkemimhebaaa
open Go Go.IM

section
variable {o : Nat → Option O} {s : St} {C F : Ch} {Q : V → St → Prop} {p r : Nat} {u : List Bool}
set_option maxRecDepth 10000
set_option maxHeartbeats 4000000

theorem upd_get {α : Type} (f : α → α) (l : List α) (j : Nat) : ((l.take j).map f ++ l.drop j)[j]? = l[j]? := by
  by_cases h : j < l.length
  · rw [List.getElem?_append_right (by simp; omega)]
    simp [List.length_take, Nat.min_eq_left (Nat.le_of_lt h)]
  · rw [List.getElem?_eq_none (by simp; omega), List.getElem?_eq_none (by omega)]
theorem upd_step {α : Type} (f : α → α) {l : List α} {j : Nat} {v : α} (h : l[j]? = some v) : ((l.take j).map f ++ l.drop j).set j (f v) = (l.take (j + 1)).map f ++ l.drop (j + 1) := by
  obtain ⟨hj, e⟩ := List.getElem?_eq_some_iff.1 h
  rw [List.set_append_right _ _ (by simp; omega), List.length_map, List.length_take, Nat.min_eq_left (Nat.le_of_lt hj), Nat.sub_self, List.drop_eq_getElem_cons hj, List.set_cons_zero, List.take_add_one, h, Option.toList_some, List.map_append, List.append_assoc]
  rfl
theorem upd_same {α : Type} (f : α → α) {l : List α} {j : Nat} {v : α} (h : l[j]? = some v) (hf : f v = v) : (l.take j).map f ++ l.drop j = (l.take (j + 1)).map f ++ l.drop (j + 1) := by
  rw [← upd_step f h]
  refine (List.ext_getElem? fun i => ?_)
  rw [List.getElem?_set]
  split
  · rename_i e; subst e; rw [upd_get, h, hf]
    obtain ⟨hj, _⟩ := List.getElem?_eq_some_iff.1 h
    rw [if_pos (by simp; omega)]
  · rfl
theorem word_eq (a b : Int × Int) : eqI (.key (.agg [.i, .i])) (.agg [I a.1, I a.2]) (.agg [I b.1, I b.2]) = some (decide (a = b)) := keyA a b

/-- A heap with one object's words changed. -/
abbrev hpW (hp : PHeap) (A : List PReg) (g : PReg) (B : List PReg) (X : List PObj) (x : PObj) (Y : List PObj) (ws : List (Int × Int)) : PHeap := { hp with regs := A ++ { g with objs := X ++ x.wr ws :: Y } :: B }

/-- One round: a word is looked at, and changed. -/
theorem fix_round {hp : PHeap} {A B : List PReg} {g : PReg} {X Y : List PObj} {x : PObj} {w v : Int × Int} {c t tk fk hb cb wb ib kr j : Nat} {mt mf : O} {mv : ToF} {fx ws : List (Int × Int)} {v1 v4 v5 v94 v95 v96 v102 : V} {E : Ch}
    (hL : Look (PHeap.ch p (hpW hp A g B X x Y ws) ++ E) p (hpW hp A g B X x Y ws)) (hx : pfind w.1 w.2 (hpW hp A g B X x Y ws).regs = some (x.wr ws)) (hw0 : 0 < w.2) (hv : ws[j]? = some v) (hn : ws.length ≤ 31)
    (hs : ∀ y ∈ colC c t tk fk mt mf, y ∈ E) (mhb : (hb, some (.cells [ptrN hp.id] none)) ∈ E) (mcb : (cb, some (.cells [ptrN c] none)) ∈ E)
    (hmt : MapIs encA (fun w => (mv w).map encA) mt) (hmf : MapIs encA (seenF fx) mf)
    (H : Holds o s ((kr, some (.loop .ready)) :: (ib, some (.cells [I j] none)) :: (wb, some (.cells (encW w) none)) :: (PHeap.ch p (hpW hp A g B X x Y ws) ++ E)))
    (q : ∀ s' ws', ws' = (if fixF mv fx v = v then ws else ws.set j (fixF mv fx v)) → Holds o s' ((kr, some (.loop .ready)) :: (ib, some (.cells [I ((j + 1 : Nat) : Int)] none)) :: (wb, some (.cells (encW w) none)) :: (PHeap.ch p (hpW hp A g B X x Y ws') ++ E)) → Q (.bool true) s') :
    WP (roundI (loop PF, call PF) [103] a46_3 b46_3 (sp 132 [(1, v1), (2, ptrN hb), (4, v4), (5, v5), (6, ptrN cb), (16, ptrN wb), (17, ptrN ib), (94, v94), (95, v95), (96, v96), (102, v102)]) kr [.agg (encW v)] s) Q := by
  refine wp_roundI H.g0 rfl ?_
  rw [putAll_one]
  simp -implicitDefEqProofs only [↓GP, GB, GL, Nat.reduceAdd, Nat.reduceSub, Nat.reduceEqDiff, Nat.reduceMul, Nat.reduceLeDiff, Int.reduceBNe, Int.reduceBEq, Nat.reduceLT, reduceCtorEq, a46_3, encW]
  have h1 := (H.alloc (.cells [I 0, I 0] none)).set0 (.cells (encW v) none)
  refine wp_roundMid h1.tl.g0 ?_
  have h2 := h1.set1 (.loop .busy)
  have hb0 := s.next
  generalize hkb : s.next = kb at h2 ⊢
  simp only [encW] at h2
  generalize ((s.alloc (.cells [I 0, I 0] none)).set kb (.cells [I v.1, I v.2] none)).set kr (.loop .busy) = S at h2 ⊢
  have inE : ∀ (a : Nat × Option O) (C2 : Ch), ∀ y ∈ E, y ∈ C2 ++ (PHeap.ch p (hpW hp A g B X x Y ws) ++ E) := fun a C2 y hy => List.mem_append_right _ (List.mem_append_right _ hy)
  have fc := h2.mem (List.mem_cons_of_mem _ (List.mem_cons_of_mem _ (List.mem_cons_of_mem _ (List.mem_cons_of_mem _ (List.mem_append_right _ mcb)))))
  have f4 := h2.f4
  simp -implicitDefEqProofs only [↓GP, GB, GL, Nat.reduceAdd, Nat.reduceSub, Nat.reduceEqDiff, Nat.reduceMul, Nat.reduceLeDiff, Int.reduceBNe, Int.reduceBEq, Nat.reduceLT, reduceCtorEq, b46_3, fc, f4, encW]
  refine wp_in (s94 (w := v) h2 (fun y hy => List.mem_cons_of_mem _ (List.mem_cons_of_mem _ (List.mem_cons_of_mem _ (List.mem_cons_of_mem _ (List.mem_append_right _ (hs y hy)))))) hmt hmf fun s1 h3 => ?_)
  generalize hnw : nowW mv fx v = n at *
  have h4 := (h3.alloc (.cells [I 0, I 0] none)).set0 (.cells (encW n) none)
  have f5 := h3.f4
  have fh := h3.mem (List.mem_cons_of_mem _ (List.mem_cons_of_mem _ (List.mem_cons_of_mem _ (List.mem_cons_of_mem _ (List.mem_append_right _ mhb)))))
  have hweq := word_eq n v
  have hw1 := wrap_add1 (a := j) (by have := (List.getElem?_eq_some_iff.1 hv).1; omega)
  by_cases hnv : n = v
  · rw [decide_eq_true hnv] at hweq
    simp -implicitDefEqProofs only [↓GP, GB, GL, Nat.reduceAdd, Nat.reduceSub, Nat.reduceEqDiff, Nat.reduceMul, Nat.reduceLeDiff, Int.reduceBNe, Int.reduceBEq, Nat.reduceLT, reduceCtorEq, f5, encW, hweq, hw1]
    have h5 := h4.set3 (.cells [I ((j + 1 : Nat) : Int)] none)
    have hfx : fixF mv fx v = v := by unfold fixF; rw [hnw, hnv]; split <;> rfl
    refine wp_roundEnd h5.tl.tl.g0 ?_
    exact q _ ws (by rw [if_pos hfx]) (h5.set2 (.loop .ready)).tl.tl
  · rw [decide_eq_false hnv] at hweq
    simp -implicitDefEqProofs only [↓GP, GB, GL, Nat.reduceAdd, Nat.reduceSub, Nat.reduceEqDiff, Nat.reduceMul, Nat.reduceLeDiff, Int.reduceBNe, Int.reduceBEq, Nat.reduceLT, reduceCtorEq, f5, fh, encW, hweq]
    have hjl : j < ws.length := (List.getElem?_eq_some_iff.1 hv).1
    have hin : In ((s1.next, some (.cells (encW n) none)) :: (kb, some (.cells [I v.1, I v.2] none)) :: (kr, some (.loop .busy)) :: (ib, some (.cells [I j] none)) :: (wb, some (.cells [I w.1, I w.2] none)) :: (PHeap.ch p (hpW hp A g B X x Y ws) ++ E)) p (hpW hp A g B X x Y ws) :=
      ⟨fun y hy => List.mem_cons_of_mem _ (List.mem_cons_of_mem _ (List.mem_cons_of_mem _ (List.mem_cons_of_mem _ (List.mem_cons_of_mem _ (List.mem_append_left _ hy)))))⟩
    by_cases hvl : 0 ≤ n.2 ∧ n.2 ≤ 100000
    · have hfx : fixF mv fx v = n := by unfold fixF; rw [hnw, if_pos hvl]
      refine wp_in (s65 (hp := hpW hp A g B X x Y ws) (x := x.wr ws) (w := n) (F := (kr, some (.loop .busy)) :: (ib, some (.cells [I j] none)) :: (wb, some (.cells [I w.1, I w.2] none)) :: (x.id, some (x.wr ws).O) :: (g.id, some (PReg.hd { g with objs := X ++ x.wr ws :: Y })) :: (g.pgk, pagesO g.pages) :: (g.obk, PReg.obO (X ++ x.wr ws :: Y)) :: (g.plk, some g.pl) ::
          (X.flatMap PObj.ch ++ (Y.flatMap PObj.ch ++ ((hp.id, some ((hpW hp A g B X x Y ws).hd p)) :: (hp.rowk, (hpW hp A g B X x Y ws).row) :: (A.flatMap PReg.ch ++ (B.flatMap PReg.ch ++ E))))))
        h4 hin hL.ne hL.len hL.ok hw0 hvl hx hjl hn (fun s1 h => (Holds.of (h) (fun k => by simp +arith only [PObj.wr, PReg.hd, PReg.obO, HA, HB]) (fun k x => by simp only [PObj.wr, PReg.hd, PReg.obO, HA, HC]; grind only))) fun s2 h6 => ?_)
      have h7 : Holds o s2 ((kr, some (.loop .busy)) :: (ib, some (.cells [I j] none)) :: (wb, some (.cells [I w.1, I w.2] none)) :: (PHeap.ch p (hpW hp A g B X x Y (ws.set j n)) ++ E)) :=
        (Holds.of (h6) (fun k => by simp +arith only [PObj.wr, Obj.wr, PReg.hd, PReg.obO, PObj.O, PObj.W, PHeap.hd, PHeap.row, List.length_append, List.length_cons, List.map_append, List.map_cons, List.length_set, HA, HB]) (fun k x => by simp only [PObj.wr, Obj.wr, PReg.hd, PReg.obO, PObj.O, PObj.W, PHeap.hd, PHeap.row, List.length_append, List.length_cons, List.map_append, List.map_cons, List.length_set, HA, HC]; grind only))
      have f7 := h7.f3
      simp -implicitDefEqProofs only [↓GP, GB, GL, Nat.reduceAdd, Nat.reduceSub, Nat.reduceEqDiff, Nat.reduceMul, Nat.reduceLeDiff, Int.reduceBNe, Int.reduceBEq, Nat.reduceLT, reduceCtorEq, f7, hw1]
      have h8 := h7.set1 (.cells [I ((j + 1 : Nat) : Int)] none)
      refine wp_roundEnd h8.g0 ?_
      exact q _ (ws.set j n) (by rw [hfx, if_neg hnv]) (h8.set0 (.loop .ready))
    · have hfx : fixF mv fx v = v := by unfold fixF; rw [hnw, if_neg hvl]
      have hbf : (decide (0 ≤ n.2) && decide (n.2 ≤ 100000)) = false := by simpa using hvl
      refine wp_in (s65_err (VN := n.1) (VL := n.2) (err := 2) h4 (.inl (.inr ⟨hpW hp A g B X x Y ws, p, rfl, hin, hL.ne, hL.len, hL.ok, .inl ⟨rfl, fun hh => by rw [hbf] at hh; cases hh.2⟩⟩)) fun s2 h6 => ?_)
      have f6 := h6.tl.f4
      simp -implicitDefEqProofs only [↓GP, GB, GL, Nat.reduceAdd, Nat.reduceSub, Nat.reduceEqDiff, Nat.reduceMul, Nat.reduceLeDiff, Int.reduceBNe, Int.reduceBEq, Nat.reduceLT, reduceCtorEq, f6, hw1]
      have h7 := h6.set3 (.cells [I ((j + 1 : Nat) : Int)] none)
      refine wp_roundEnd h7.tl.tl.g0 ?_
      exact q _ ws (by rw [if_pos hfx]) (h7.set2 (.loop .ready)).tl.tl

/-- All words of some objects are changed. -/
def fixM (mv : ToF) (fx : List (Int × Int)) (rs : List Reg) (w : Int × Int) : List Reg := setM w (List.map (fixF mv fx)) rs
theorem map_len (f : Int × Int → Int × Int) : ∀ l : List (Int × Int), (l.map f).length = l.length := fun l => by simp

theorem cwords_loop {c t tk fk hb cb ko id lv : Nat} {v1 v4 v5 : V} {mt mf : O} {mv : ToF} {fx Os : List (Int × Int)} {E : Ch} {K : Kt} (hs : ∀ y ∈ colC c t tk fk mt mf, y ∈ E) (mhb : (hb, some (.cells [ptrN id] none)) ∈ E) (mcb : (cb, some (.cells [ptrN c] none)) ∈ E)
    (mo : (ko, rowO 2 Os.length (Os.flatMap encW)) ∈ E) (hmt : MapIs encA (fun w => (mv w).map encA) mt) (hmf : MapIs encA (seenF fx) mf) (hl : Os.length ≤ 1000000) :
    ∀ (n i : Nat) (hp : PHeap) (s : St), i + n = Os.length → hp.id = id → hp.lives = lv → RsOk lv u (hp.regs.map PReg.m) → (∀ g ∈ hp.regs, g.ok) → (∀ w ∈ Os, 0 < w.2 ∧ (mfind w.1 w.2 (hp.regs.map PReg.m)).isSome = true) → Holds o s (hp.ch p ++ E) →
    (∀ s' (hp' : PHeap), hp'.id = id → hp'.lives = lv → hp'.regs.length = hp.regs.length → hp'.regs.map PReg.m = (Os.drop i).foldl (fixM mv fx) (hp.regs.map PReg.m) → RsOk lv u (hp'.regs.map PReg.m) → (∀ g ∈ hp'.regs, g.ok) → Holds o s' (hp'.ch p ++ E) → WP (K (.exit 6) (sp 132 [(1, v1), (6, ptrN cb)]) s') Q) →
    WP (loop PF (.loop l46_4) (sp 132 [(1, v1), (2, ptrN hb), (4, v4), (5, v5), (6, ptrN cb), (94, rowV ko Os.length), (95, I Os.length), (96, I i)]) s K) Q := by
  intro n
  induction n with
  | zero =>
    intro i hp s hi hid hlv hR hok hfd H q
    have hlt : ¬ ((i : Int) < (Os.length : Int)) := by omega
    rw [List.drop_eq_nil_of_le (by omega), List.foldl_nil] at q
    refine wp_round fun LL hLL => ?_
    simp -implicitDefEqProofs only [↓GP, GB, GL, Nat.reduceAdd, Nat.reduceSub, Nat.reduceEqDiff, Nat.reduceMul, Nat.reduceLeDiff, Int.reduceBNe, Int.reduceBEq, Nat.reduceLT, reduceCtorEq, l46_4, hlt]
    exact q s hp hid hlv rfl rfl hR hok H
  | succ n ih =>
    intro i hp s hi hid hlv hR hok hfd H q
    have hlt : ((i : Int) < (Os.length : Int)) := by omega
    have hi' : i < Os.length := by omega
    have hw1 := wrap_add1 (a := i) (by omega)
    have hix := ix_row (sz := 2) (k := ko) (n := Os.length) (i := i) (kk := .i64) hi'
    have er : rowO 2 Os.length (Os.flatMap encW) = some (.cells (Os.flatMap encW) (some 2)) := by unfold rowO; rw [if_neg (by omega)]
    have fr := H.mem (List.mem_append_right _ (er ▸ mo))
    have fh := H.mem (List.mem_append_right _ mhb)
    have hld := ldN_tab (enc := encW) encW_len Os (some 2) (List.getElem?_eq_getElem hi')
    obtain ⟨hw0, hfi⟩ := hfd _ (List.getElem_mem hi')
    rw [List.drop_eq_getElem_cons hi', List.foldl_cons] at q
    generalize Os[i] = w at q hld hw0 hfi
    have h1 := (H.alloc (.cells [I 0, I 0] none)).set0 (.cells (encW w) none)
    have h2 := (h1.alloc (.cells [I 0] none)).set0 (.cells [I 0] none)
    refine wp_round fun LL hLL => ?_
    simp -implicitDefEqProofs only [↓GP, GB, GL, Nat.reduceAdd, Nat.reduceSub, Nat.reduceEqDiff, Nat.reduceMul, Nat.reduceLeDiff, Int.reduceBNe, Int.reduceBEq, Nat.reduceLT, reduceCtorEq, l46_4, hlt, hix, fr, fh, hld, encW]
    refine wp_in (s93 (id := id) (w := w) h2 fun s1 a b h3 => ?_)
    simp -implicitDefEqProofs only [↓GP, GB, GL, Nat.reduceAdd, Nat.reduceSub, Nat.reduceEqDiff, Nat.reduceMul, Nat.reduceLeDiff, Int.reduceBNe, Int.reduceBEq, Nat.reduceLT, reduceCtorEq]
    rw [← pfind_m, Option.isSome_map] at hfi
    obtain ⟨x, hx⟩ := Option.isSome_iff_exists.1 hfi
    obtain ⟨A, g, B, X, Y, hr, ex, k1, k2, k3, k4⟩ := pfind_split hx
    have hlen : hp.regs.length ≤ 100000 := by have h1 := hR.inv.len; have h2 := hR.inv.lives; rw [List.length_map] at h1; omega
    have hri : ∀ g0 ∈ hp.regs, ∀ y ∈ g0.objs, y.b.ws.length ≤ 31 := fun g0 m0 y my => ((hR.inv.reg g0.m (List.mem_map.2 ⟨g0, m0, rfl⟩)).ws y.b (List.mem_map.2 ⟨y, my, rfl⟩)).2.1
    have mg : g ∈ hp.regs := by rw [hr]; simp
    have hxl : x.b.ws.length ≤ 31 := hri g mg x (by rw [ex]; simp)
    have hpe : hpW hp A g B X x Y x.b.ws = hp := by
      have e1 : ({ g with objs := X ++ x.wr x.b.ws :: Y } : PReg) = g := by rw [show x.wr x.b.ws = x from rfl, ← ex]
      show ({ hp with regs := A ++ { g with objs := X ++ x.wr x.b.ws :: Y } :: B } : PHeap) = hp
      rw [e1, ← hr]
    simp only [set_next, alloc_next] at h3
    generalize s.next + 1 = ib at h3 ⊢
    generalize s.next = wb at h3 ⊢
    have h4 := h3.alloc (.loop .ready)
    subst hid
    have h5 : Holds o (s1.alloc (.loop .ready)) ((s1.next, some (.loop .ready)) :: (ib, some (.cells [I 0] none)) :: (wb, some (.cells (encW w) none)) :: (PHeap.ch p (hpW hp A g B X x Y x.b.ws) ++ ((a, some (.cells [ptrN hp.id] none)) :: (b, some (.cells (encW w) none)) :: E))) := by
      rw [hpe]; exact (Holds.of (h4) (fun k => by simp +arith only [HA, HB]) (fun k x => by simp only [HA, HC]; grind only))
    have lookW : ∀ (ws : List (Int × Int)) (D : Ch), ws.length = x.b.ws.length → (∀ y ∈ PHeap.ch p (hpW hp A g B X x Y ws), y ∈ D) → Look D p (hpW hp A g B X x Y ws) := fun ws D hwsl hD => by
      refine ⟨⟨hD⟩, by simp, by have := hlen; rw [hr] at this; simpa using this, fun g0 m0 => ?_, fun g0 m0 y my => ?_⟩
      · rcases List.mem_append.1 m0 with m0 | m0
        · exact hok g0 (by rw [hr]; exact List.mem_append_left _ m0)
        · rcases List.mem_cons.1 m0 with rfl | m0
          · exact ok_wr ex (hok g mg) ws
          · exact hok g0 (by rw [hr]; simp [m0])
      · rcases List.mem_append.1 m0 with m0 | m0
        · exact hri g0 (by rw [hr]; exact List.mem_append_left _ m0) y my
        · rcases List.mem_cons.1 m0 with rfl | m0
          · rcases List.mem_append.1 my with my | my
            · exact hri g mg y (by rw [ex]; exact List.mem_append_left _ my)
            · rcases List.mem_cons.1 my with rfl | my
              · show ws.length ≤ 31; omega
              · exact hri g mg y (by rw [ex]; simp [my])
          · exact hri g0 (by rw [hr]; simp [m0]) y my
    have hlenw : ∀ (j : Nat) (ws : List (Int × Int)), ws = (x.b.ws.take j).map (fixF mv fx) ++ x.b.ws.drop j → ws.length = x.b.ws.length := fun j ws e => by
      rw [e]; simp; omega
    rw [go_range]
    refine wp_range (g := 116) (pre := []) (caps := [ptrN a, ptrN b]) (by simp -implicitDefEqProofs only [↓GP, GB, GL, Nat.reduceAdd, Nat.reduceSub, Nat.reduceEqDiff, Nat.reduceMul, Nat.reduceLeDiff, Int.reduceBNe, Int.reduceBEq, Nat.reduceLT, reduceCtorEq]) ?_
    refine s116 (γ := List (Int × Int) × Nat) (fun g2 => (s1.next, some (.loop .ready)) :: (ib, some (.cells [I g2.2] none)) :: (wb, some (.cells (encW w) none)) :: (PHeap.ch p (hpW hp A g B X x Y g2.1) ++ ((a, some (.cells [ptrN hp.id] none)) :: (b, some (.cells (encW w) none)) :: E)))
      (fun j g2 => g2.2 = j ∧ g2.1 = (x.b.ws.take j).map (fixF mv fx) ++ x.b.ws.drop j) (fun g2 => hpW hp A g B X x Y g2.1) (fun g2 => x.wr g2.1) (n := x.b.ws.length) (id := hp.id) (p := p) hxl hw0
      (fun j g2 hP => ⟨lookW _ _ (hlenw j _ hP.2) (fun y hy => List.mem_cons_of_mem _ (List.mem_cons_of_mem _ (List.mem_cons_of_mem _ (List.mem_append_left _ hy)))), rfl, pfind_wr k1 k2 k3 k4 g2.1, hlenw j _ hP.2⟩)
      (fun g2 => List.mem_cons_of_mem _ (List.mem_cons_of_mem _ (List.mem_cons_of_mem _ (List.mem_append_right _ (List.mem_cons_self ..)))))
      (fun g2 => List.mem_cons_of_mem _ (List.mem_cons_of_mem _ (List.mem_cons_of_mem _ (List.mem_append_right _ (List.mem_cons_of_mem _ (List.mem_cons_self ..)))))) ?_ (g := (x.b.ws, 0)) ⟨rfl, by simp⟩ h5 fun s2 g2 hP h6 => ?_
    · intro j g2 s2 v hP H2 hv
      obtain ⟨ws, jj⟩ := g2
      obtain ⟨rfl, hws⟩ := hP
      simp only at hws H2 hv
      have hvx : x.b.ws[jj]? = some v := by rw [← upd_get (fixF mv fx), ← hws]; exact hv
      refine fix_round (w := w) (t := t) (tk := tk) (fk := fk) (mt := mt) (mf := mf) (mv := mv) (fx := fx) (lookW ws _ (hlenw jj _ hws) (fun y hy => List.mem_append_left _ hy)) (pfind_wr k1 k2 k3 k4 ws) hw0 hv (by rw [hlenw jj _ hws]; exact hxl)
        (fun y hy => List.mem_cons_of_mem _ (List.mem_cons_of_mem _ (hs y hy))) (List.mem_cons_of_mem _ (List.mem_cons_of_mem _ mhb)) (List.mem_cons_of_mem _ (List.mem_cons_of_mem _ mcb)) hmt hmf H2 fun s3 ws' e h7 => ?_
      refine ⟨rfl, (ws', jj + 1), ⟨rfl, ?_⟩, h7⟩
      show ws' = _
      rw [e]
      split
      · rename_i hfv; rw [hws]; exact upd_same _ hvx hfv
      · rw [hws]; exact upd_step _ hvx
    · obtain ⟨ws, jj⟩ := g2
      obtain ⟨rfl, hws⟩ := hP
      simp only at hws h6
      rw [List.take_length, List.drop_length, List.append_nil] at hws
      have hm1 : (hpW hp A g B X x Y ws).regs.map PReg.m = fixM mv fx (hp.regs.map PReg.m) w := by
        have := setP_m (f := List.map (fixF mv fx)) (w := w) (by rw [← hr]; exact hR) ex k2 k3
        rw [← hws, ← hr] at this
        exact this
      have hR1 : RsOk lv u ((hpW hp A g B X x Y ws).regs.map PReg.m) := by
        rw [hm1]; exact hR.ofShape (setM_shape w (map_len _) _)
      have hlr : (hpW hp A g B X x Y ws).regs.length = hp.regs.length := by rw [hr]; simp
      refine wp_rangeEnd h6.g0 ?_
      simp -implicitDefEqProofs only [↓GP, GB, GL, Nat.reduceAdd, Nat.reduceSub, Nat.reduceEqDiff, Nat.reduceMul, Nat.reduceLeDiff, Int.reduceBNe, Int.reduceBEq, Nat.reduceLT, reduceCtorEq, hw1]
      rw [hLL]
      refine ih (i + 1) (hpW hp A g B X x Y ws) (s2.kill s1.next) (by omega) rfl hlv hR1 (lookW ws _ (by rw [hws]; simp) (fun y hy => hy)).ok (fun w' hw' => ?_) (Holds.of (h6.kill) (fun k => by simp +arith only [HA, HB]) (fun k x => by simp only [HA, HC]; grind only)) ?_
      · obtain ⟨q1, q2⟩ := hfd w' hw'
        rw [hm1]
        exact ⟨q1, by unfold fixM; rw [mfind_set]; exact q2⟩
      · intro s' hp' e1 e2 e3 e4
        rw [hlr] at e3
        rw [hm1] at e4
        exact q s' hp' e1 e2 e3 e4
end
end Go.Proofs.Ytoldkemimhebaaa

/- Layer 16: Collect, on models: what is looked up is there. -/
set_option linter.unusedSimpArgs false
set_option linter.unusedVariables false
namespace Go.Proofs.Ytoldkemimhebaaa
open Go Go.IM

theorem updF_other : ∀ (ps : List ((Int × Int) × (Int × Int))) (f : ToF) (w : Int × Int), (∀ x ∈ ps, x.1 ≠ w) → (ps.foldl updF f) w = f w
  | [], _, _, _ => rfl
  | x :: ps, f, w, h => by
    rw [List.foldl_cons, updF_other ps _ w fun y hy => h y (List.mem_cons_of_mem _ hy)]
    unfold updF
    rw [if_neg (fun e => h x (List.mem_cons_self ..) e.symm)]
theorem updF_mem : ∀ (ks ns : List (Int × Int)) (f : ToF) (w : Int × Int), ns.length = ks.length → w ∈ ks → ∃ n ∈ ns, ((ks.zip ns).foldl updF f) w = some n
  | [], _, _, _, _, h => by cases h
  | _ :: _, [], _, _, h, _ => by simp at h
  | k :: ks, n :: ns, f, w, hl, h => by
    rw [List.zip_cons_cons, List.foldl_cons]
    by_cases hw : w ∈ ks
    · obtain ⟨m, h1, h2⟩ := updF_mem ks ns (updF f (k, n)) w (by simpa using hl) hw
      exact ⟨m, List.mem_cons_of_mem _ h1, h2⟩
    · have e : w = k := by rcases List.mem_cons.1 h with h | h; exact h; exact absurd h hw
      refine ⟨n, List.mem_cons_self .., ?_⟩
      rw [updF_other]
      · unfold updF; rw [if_pos e]
      · intro x hx e2
        exact hw (e2 ▸ (List.of_mem_zip hx).1)

/-- A word points to an object. -/
def Points (rs : List Reg) (w : Int × Int) : Prop := 0 < w.2 ∧ ∃ r ∈ rs, (r.life : Int) = w.2 ∧ ∃ x ∈ r.objs, (x.at_ : Int) = w.1
theorem Points.find {rs : List Reg} {w : Int × Int} (h : Points rs w) : 0 < w.2 ∧ (mfind w.1 w.2 rs).isSome = true := by
  obtain ⟨h0, r, hr, h1, x, hx, h2⟩ := h
  refine ⟨h0, ?_⟩
  unfold mfind
  rw [List.findSome?_isSome_iff]
  refine ⟨r, hr, ?_⟩
  rw [if_pos h1, List.find?_isSome]
  exact ⟨x, hx, by simpa using h2⟩
theorem Points.mono {rs rs' : List Reg} {w : Int × Int} (h : Points rs w) (hs : ∀ r ∈ rs, r ∈ rs') : Points rs' w := by
  obtain ⟨h0, r, hr, h1⟩ := h
  exact ⟨h0, r, hs r hr, h1⟩
theorem layObj_at : ∀ (ys : List Obj) (ats : List Nat), ats.length = ys.length → ∀ a ∈ ats, ∃ y ∈ layObj ys ats, y.at_ = a
  | [], [], _, a, h => by cases h
  | [], _ :: _, h, _, _ => by simp at h
  | _ :: _, [], h, _, _ => by simp at h
  | y :: ys, b :: ats, hl, a, h => by
    simp only [layObj, List.zipWith_cons_cons]
    rcases List.mem_cons.1 h with rfl | h
    · exact ⟨_, List.mem_cons_self .., rfl⟩
    · obtain ⟨z, h1, h2⟩ := layObj_at ys ats (by simpa using hl) a h
      exact ⟨z, List.mem_cons_of_mem _ h1, h2⟩

/-- What holds while regions are collected: A are those that have been. -/
structure ColInv (L : List (Int × Int)) (lv : Nat) (A B : List Reg) (S : ColS) : Prop where
  ok : RsOk lv S.u (S.regs ++ B)
  lives : S.regs.map (·.life) = A.map (·.life)
  objs : ∀ w ∈ S.objs, Points S.regs w
  fx : ∀ g ∈ A, ¬ 0 < g.pages.length → ∀ w ∈ wordsR g, w ∈ S.fx
  mv : ∀ g ∈ A, 0 < g.pages.length → ∀ x ∈ g.objs, ((x.at_ : Int), (g.life : Int)) ∈ L → ∃ n, S.mv ((x.at_ : Int), (g.life : Int)) = some n ∧ Points S.regs n

theorem ColInv.step {L : List (Int × Int)} {lv : Nat} {A B : List Reg} {S : ColS} {g : Reg} (h : ColInv L lv A (g :: B) S) : ColInv L lv (A ++ [g]) B (colStep L S g) := by
  have hI := h.ok.inv
  have hri := hI.reg g (by simp)
  have hlf := hI.life g (by simp)
  unfold colStep
  by_cases hp : 0 < g.pages.length
  · rw [if_pos hp]
    have hs : g.size = 0 := by
      rcases Nat.eq_zero_or_pos g.size with h | h
      · exact h
      · have := (hri.fin h).1; rw [this] at hp; simp at hp
    obtain ⟨ats, u', fill', pages', hlay, hnd, hpl, hal, hul, hR⟩ := h.ok.turn hs (ys := keptM L g) (List.filter_sublist ..)
    rw [hlay]
    simp only
    have hsub : ∀ r ∈ S.regs, r ∈ S.regs ++ [({ g with fill := fill', pages := pages', objs := layObj (keptM L g) ats } : Reg)] := fun r hr => List.mem_append_left _ hr
    have hnew : ∀ x ∈ keptM L g, ∃ n, (((keptM L g).map fun x => ((x.at_ : Int), (g.life : Int))).zip (ats.map fun a : Nat => ((a : Int), (g.life : Int)))).foldl updF S.mv ((x.at_ : Int), (g.life : Int)) = some n ∧ Points (S.regs ++ [({ g with fill := fill', pages := pages', objs := layObj (keptM L g) ats } : Reg)]) n := by
      intro x hx
      obtain ⟨n, h1, h2⟩ := updF_mem ((keptM L g).map fun x => ((x.at_ : Int), (g.life : Int))) (ats.map fun a : Nat => ((a : Int), (g.life : Int))) S.mv ((x.at_ : Int), (g.life : Int)) (by simp [hal]) (List.mem_map.2 ⟨x, hx, rfl⟩)
      obtain ⟨a, ha, rfl⟩ := List.mem_map.1 h1
      obtain ⟨y, hy, hya⟩ := layObj_at (keptM L g) ats hal a ha
      exact ⟨_, h2, by simp only; omega, _, List.mem_append_right _ (List.mem_cons_self ..), rfl, y, hy, by rw [hya]⟩
    refine ⟨by simpa using hR, by rw [List.map_append, List.map_append, h.lives]; rfl, fun w hw => (h.objs w hw).mono hsub, fun g0 m0 h0 w hw => ?_, fun g0 m0 h0 x hx hL => ?_⟩
    · rcases List.mem_append.1 m0 with m0 | m0
      · exact h.fx g0 m0 h0 w hw
      · simp at m0; subst m0; exact absurd hp h0
    · rcases List.mem_append.1 m0 with m0 | m0
      · obtain ⟨n, h1, h2⟩ := h.mv g0 m0 h0 x hx hL
        refine ⟨n, ?_, h2.mono hsub⟩
        show (List.foldl updF S.mv _) _ = some n
        rw [updF_other, h1]
        intro y hy e
        obtain ⟨hy1, _⟩ := List.of_mem_zip hy
        obtain ⟨z, _, hz⟩ := List.mem_map.1 hy1
        rw [← hz] at e
        simp only [Prod.mk.injEq] at e
        -- two regions of one life
        have hn := hI.nodup
        rw [List.map_append, List.map_cons, h.lives, List.nodup_append] at hn
        exact hn.2.2 _ (List.mem_map.2 ⟨g0, m0, rfl⟩) _ (List.mem_cons_self ..) (by omega)
      · simp at m0; subst m0
        exact hnew x (by unfold keptM; exact List.mem_filter.2 ⟨hx, by simpa using hL⟩)
  · rw [if_neg hp]
    have hsub : ∀ r ∈ S.regs, r ∈ S.regs ++ [g] := fun r hr => List.mem_append_left _ hr
    refine ⟨by simpa using h.ok, by rw [List.map_append, List.map_append, h.lives], fun w hw => ?_, fun g0 m0 h0 w hw => ?_, fun g0 m0 h0 x hx hL => ?_⟩
    · rcases List.mem_append.1 hw with hw | hw
      · exact (h.objs w hw).mono hsub
      · obtain ⟨x, hx, rfl⟩ := List.mem_map.1 hw
        exact ⟨by simp only; omega, g, by simp, rfl, x, hx, rfl⟩
    · rcases List.mem_append.1 m0 with m0 | m0
      · exact List.mem_append_left _ (h.fx g0 m0 h0 w hw)
      · simp at m0; subst m0; exact List.mem_append_right _ hw
    · rcases List.mem_append.1 m0 with m0 | m0
      · obtain ⟨n, h1, h2⟩ := h.mv g0 m0 h0 x hx hL
        exact ⟨n, h1, h2.mono hsub⟩
      · simp at m0; subst m0; exact absurd h0 hp
theorem ColInv.all {L : List (Int × Int)} {lv : Nat} : ∀ {B A : List Reg} {S : ColS}, ColInv L lv A B S → ColInv L lv (A ++ B) [] (B.foldl (colStep L) S)
  | [], A, S, h => by simpa using h
  | g :: B, A, S, h => by
    have := (h.step).all
    rw [List.append_assoc] at this
    exact this
theorem ColInv.start {L : List (Int × Int)} {lv : Nat} {u : List Bool} {B : List Reg} (h : RsOk lv u B) : ColInv L lv [] B ⟨[], u, fun _ => none, [], []⟩ :=
  ⟨h, rfl, fun w hw => (by cases hw), fun g hg => (by cases hg), fun g hg => (by cases hg)⟩

/-- A collection, on models. -/
def colAll (L : List (Int × Int)) (u : List Bool) (rs : List Reg) : ColS := rs.foldl (colStep L) ⟨[], u, fun _ => none, [], []⟩
def colObjs (L : List (Int × Int)) (S : ColS) : List (Int × Int) := S.objs ++ (L.filter fun w => !decide (w ∈ S.fx)).map (toD S.mv)
def colRegs (L : List (Int × Int)) (S : ColS) : List Reg := (colObjs L S).foldl (fixM S.mv S.fx) S.regs

theorem thereB_m {hp : PHeap} {w : Int × Int} (h : thereB hp w = true) : Points (hp.regs.map PReg.m) w := by
  unfold thereB at h
  simp only [Bool.and_eq_true, decide_eq_true_eq] at h
  obtain ⟨x, hx⟩ := Option.isSome_iff_exists.1 h.2
  obtain ⟨A, g, B, X, Y, hr, ex, k1, k2, k3, k4⟩ := pfind_split hx
  exact ⟨h.1, g.m, List.mem_map.2 ⟨g, by rw [hr]; simp, rfl⟩, k2, x.b, List.mem_map.2 ⟨x, by rw [ex]; simp, rfl⟩, k3⟩

theorem colObjs_points {lv : Nat} {u : List Bool} {hp : PHeap} {L : List (Int × Int)} (h : RsOk lv u (hp.regs.map PReg.m)) (hL : ∀ w ∈ L, thereB hp w = true) :
    ∀ w ∈ colObjs L (colAll L u (hp.regs.map PReg.m)), Points (colAll L u (hp.regs.map PReg.m)).regs w := by
  have hI := (ColInv.start (L := L) h).all
  rw [List.nil_append] at hI
  intro w hw
  rcases List.mem_append.1 hw with hw | hw
  · exact hI.objs w hw
  · obtain ⟨v, hv, rfl⟩ := List.mem_map.1 hw
    obtain ⟨hvL, hvf⟩ := List.mem_filter.1 hv
    obtain ⟨h0, g, hg, h1, x, hx, h2⟩ := thereB_m (hL v hvL)
    have ev : v = ((x.at_ : Int), (g.life : Int)) := Prod.ext h2.symm h1.symm
    by_cases hp0 : 0 < g.pages.length
    · obtain ⟨n, q1, q2⟩ := hI.mv g hg hp0 x hx (ev ▸ hvL)
      unfold toD
      rw [ev]
      rw [show (colAll L u (hp.regs.map PReg.m)).mv ((x.at_ : Int), (g.life : Int)) = some n from q1]
      exact q2
    · have := hI.fx g hg hp0 v (by rw [ev]; exact List.mem_map.2 ⟨x, hx, rfl⟩)
      simp only [Bool.not_eq_true', decide_eq_false_iff_not] at hvf
      exact absurd this hvf
end Go.Proofs.Ytoldkemimhebaaa

/- Layer 16: Collect, on the program's side. -/
set_option linter.unusedSimpArgs false
set_option linter.unusedVariables false
namespace Go.Proofs.Ytoldkemimhebaaa
open Go Go.IM

section
variable {o : Nat → Option O} {s : St} {C F : Ch} {Q : V → St → Prop} {p r : Nat} {u : List Bool}
set_option maxRecDepth 10000
set_option maxHeartbeats 4000000

theorem RsOk.look {hp : PHeap} {D : Ch} {lv : Nat} (h : RsOk lv u (hp.regs.map PReg.m)) (hok : ∀ g ∈ hp.regs, g.ok) (hD : ∀ y ∈ hp.ch p, y ∈ D) : Look D p hp := by
  refine ⟨⟨hD⟩, fun e => h.inv.ne (by rw [e]; rfl), by have h1 := h.inv.len; have h2 := h.inv.lives; rw [List.length_map] at h1; omega, hok, fun g0 m0 y my => ?_⟩
  exact ((h.inv.reg g0.m (List.mem_map.2 ⟨g0, m0, rfl⟩)).ws y.b (List.mem_map.2 ⟨y, my, rfl⟩)).2.1

theorem s46 {hp : PHeap} {kr : Nat} {roots : List (Int × Int)} (H : Holds o s (poolC p r u ++ (hp.ch p ++ F))) (hR : RsOk hp.lives u (hp.regs.map PReg.m)) (hok : ∀ g ∈ hp.regs, g.ok) (hr : (kr, rowO 2 roots.length (roots.flatMap encW)) ∈ F) (hrl : roots.length ≤ 1000) (hall : (allW hp).length ≤ 90000)
    (q : ∀ s' (hp' : PHeap) kout, hp'.id = hp.id → hp'.lives = hp.lives → hp'.regs.length = hp.regs.length → hp'.regs.map PReg.m = colRegs (reachW hp roots) (colAll (reachW hp roots) u (hp.regs.map PReg.m)) → RsOk hp.lives (colAll (reachW hp roots) u (hp.regs.map PReg.m)).u (hp'.regs.map PReg.m) → (∀ g ∈ hp'.regs, g.ok) →
      Holds o s' ((kout, rowO 2 roots.length ((roots.map (nowW (colAll (reachW hp roots) u (hp.regs.map PReg.m)).mv (colAll (reachW hp roots) u (hp.regs.map PReg.m)).fx)).flatMap encW)) :: (poolC p r (colAll (reachW hp roots) u (hp.regs.map PReg.m)).u ++ (hp'.ch p ++ F))) →
      Q (.tuple [rowV kout roots.length, I 0]) s') : WP (call PF 46 [ptrN hp.id, rowV kr roots.length] s) Q := by
  have h1 := H.alloc (.cells [ptrN hp.id] none)
  have inH : ∀ y ∈ hp.ch p, y ∈ (s.next, some (O.cells [ptrN hp.id] none)) :: (poolC p r u ++ (hp.ch p ++ F)) := fun y hy => List.mem_cons_of_mem _ (List.mem_append_right _ (List.mem_append_left _ hy))
  have lk1 := hR.look hok inH
  have e89 := s89 h1 lk1.hin lk1.ne lk1.len
  have hfound := Found.reach hp roots
  have hLl := hfound.len
  have hpts := colObjs_points hR hfound.there
  rw [call_run F46]; simp -implicitDefEqProofs only [↓GP, GB, GL, Nat.reduceAdd, Nat.reduceSub, Nat.reduceEqDiff, Nat.reduceMul, Nat.reduceLeDiff, Int.reduceBNe, Int.reduceBEq, Nat.reduceLT, reduceCtorEq, c46, e89]
  refine wp_in (s90 h1 lk1 (List.mem_cons_of_mem _ (List.mem_append_right _ (List.mem_append_right _ hr))) (by omega) hall fun s1 t lk mk m hm h2 => ?_)
  generalize hL : reachW hp roots = L at *
  generalize hhb : s.next = hb at h2 ⊢
  have h3 := ((((h2.alloc (.map [] 0)).alloc (.map [] 0)).alloc (.cells [ptrN t, .map (some (.new s1.next)), .map (some (.new (s1.next + 1)))] none)).alloc (.cells [.ptr none] none)).set0 (.cells [ptrN (s1.next + 2)] none)
  have fhb := h2.mem (List.mem_append_right _ (List.mem_cons_self ..))
  simp -implicitDefEqProofs only [↓GP, GB, GL, Nat.reduceAdd, Nat.reduceSub, Nat.reduceEqDiff, Nat.reduceMul, Nat.reduceLeDiff, Int.reduceBNe, Int.reduceBEq, Nat.reduceLT, reduceCtorEq, fhb]
  simp only [alloc_next, Nat.add_assoc, Nat.reduceAdd] at h3
  generalize ((((s1.alloc (.map [] 0)).alloc (.map [] 0)).alloc (.cells [ptrN t, .map (some (.new s1.next)), .map (some (.new (s1.next + 1)))] none)).alloc (.cells [.ptr none] none)).set (s1.next + 3) (.cells [ptrN (s1.next + 2)] none) = S2 at h3 ⊢
  generalize s1.next + 3 = cb at h3 ⊢
  generalize s1.next + 2 = c at h3 ⊢
  generalize s1.next + 1 = fk at h3 ⊢
  generalize s1.next = tk at h3 ⊢
  have h4 : Holds o S2 ((0, rowO 2 ([] : List (Int × Int)).length (([] : List (Int × Int)).flatMap encW)) :: (poolC p r u ++ (hp.ch p ++ (colC c t tk fk (.map [] 0) (.map [] 0) ++ (huntC t lk mk (ptrN hp.id) L m ++ ((hb, some (.cells [ptrN hp.id] none)) :: (cb, some (.cells [ptrN c] none)) :: F)))))) :=
    (Holds.of (h3.nilEntry 0) (fun k => by simp +arith only [colC, List.length_nil, List.flatMap_nil, rowO_z, HA, HB]) (fun k x => by simp only [colC, List.length_nil, List.flatMap_nil, rowO_z, HA, HC]; grind only))
  have e27 := s27 h4 (hp := hp) (p := p) ⟨fun y hy => List.mem_cons_of_mem _ (List.mem_append_right _ (List.mem_append_left _ hy))⟩
  simp -implicitDefEqProofs only [↓GP, GB, GL, Nat.reduceAdd, Nat.reduceSub, Nat.reduceEqDiff, Nat.reduceMul, Nat.reduceLeDiff, Int.reduceBNe, Int.reduceBEq, Nat.reduceLT, reduceCtorEq, e27]
  have hcl := col_loop (K := blockK 0 (seqK (loop PF) (call PF) j46_bbbbb (finR [(4, none), (5, none)]))) (Q := Q) (v1 := rowV kr roots.length) (v4 := .slice none 0 (some 0)) (v5 := I 0) (List.mem_cons_self ..) (List.mem_cons_of_mem _ (List.mem_cons_self ..)) hm hp.regs [] hp ⟨[], u, fun _ => none, [], []⟩ 0 (.map [] 0) (.map [] 0) S2 rfl rfl rfl rfl hR hok (by simp) mapIs_nil seenF_nil h4
  simp only [List.length_nil, Int.natCast_zero] at hcl
  refine hcl fun s3 hp1 ko mt mf e1 e2 e3 e4 hR1 hok1 hob hmt hmf h5 => ?_
  clear hcl
  rw [show (hp.regs.map PReg.m).foldl (colStep L) ⟨[], u, fun _ => none, [], []⟩ = colAll L u (hp.regs.map PReg.m) from rfl] at e4 hR1 hob hmt hmf h5 ⊢
  generalize hS : colAll L u (hp.regs.map PReg.m) = S at *
  have inC : ∀ y ∈ colC c t tk fk mt mf, y ∈ poolC p r S.u ++ (hp1.ch p ++ (colC c t tk fk mt mf ++ (huntC t lk mk (ptrN hp.id) L m ++ ((hb, some (O.cells [ptrN hp.id] none)) :: (cb, some (O.cells [ptrN c] none)) :: F)))) := fun y hy => List.mem_append_right _ (List.mem_append_right _ (List.mem_append_left _ hy))
  have inT : ∀ y ∈ huntC t lk mk (ptrN hp.id) L m, y ∈ poolC p r S.u ++ (hp1.ch p ++ (colC c t tk fk mt mf ++ (huntC t lk mk (ptrN hp.id) L m ++ ((hb, some (O.cells [ptrN hp.id] none)) :: (cb, some (O.cells [ptrN c] none)) :: F)))) := fun y hy => List.mem_append_right _ (List.mem_append_right _ (List.mem_append_right _ (List.mem_append_left _ hy)))
  have inF : ∀ y ∈ (hb, some (O.cells [ptrN hp.id] none)) :: (cb, some (O.cells [ptrN c] none)) :: F, y ∈ poolC p r S.u ++ (hp1.ch p ++ (colC c t tk fk mt mf ++ (huntC t lk mk (ptrN hp.id) L m ++ ((hb, some (O.cells [ptrN hp.id] none)) :: (cb, some (O.cells [ptrN c] none)) :: F)))) := fun y hy => List.mem_append_right _ (List.mem_append_right _ (List.mem_append_right _ (List.mem_append_right _ hy)))
  have fcb := h5.mem (List.mem_cons_of_mem _ (inF _ (List.mem_cons_of_mem _ (List.mem_cons_self ..))))
  have fc := h5.mem (List.mem_cons_of_mem _ (inC (c, some (.cells [ptrN t, .map (some (.new tk)), .map (some (.new fk))] none)) (List.mem_cons_self ..)))
  have ft := h5.mem (List.mem_cons_of_mem _ (inT (t, some (.cells [ptrN hp.id, rowV lk L.length, .map (some (.new mk))] none)) (List.mem_cons_self ..)))
  simp -implicitDefEqProofs only [↓GP, GB, GL, Nat.reduceAdd, Nat.reduceSub, Nat.reduceEqDiff, Nat.reduceMul, Nat.reduceLeDiff, Int.reduceBNe, Int.reduceBEq, Nat.reduceLT, reduceCtorEq, j46_bbbbb, fcb, fc, ft]
  have hol := obj_loop (K := blockK 4 (seqK (loop PF) (call PF) j46_bbbbbb (finR [(4, none), (5, none)]))) (Q := Q) (v1 := rowV kr roots.length) (v2 := ptrN hb) (v4 := .slice none 0 (some 0)) (v5 := I 0) inC (inF _ (List.mem_cons_of_mem _ (List.mem_cons_self ..))) (inT _ (List.mem_cons_of_mem _ (List.mem_cons_self ..))) hmt hmf (by omega) L.length 0 ko S.objs s3 (by omega) (by have := lk1.len; omega) h5
  simp only [List.drop_zero, Int.natCast_zero] at hol
  refine hol fun s4 ko' h6 => ?_
  clear hol
  rw [show S.objs ++ (L.filter fun w => !decide (w ∈ S.fx)).map (toD S.mv) = colObjs L S from rfl] at h6 ⊢
  have hOl : (colObjs L S).length ≤ 200000 := by
    unfold colObjs
    have := List.length_filter_le (fun w => !decide (w ∈ S.fx)) L
    have := lk1.len
    simp; omega
  simp -implicitDefEqProofs only [↓GP, GB, GL, Nat.reduceAdd, Nat.reduceSub, Nat.reduceEqDiff, Nat.reduceMul, Nat.reduceLeDiff, Int.reduceBNe, Int.reduceBEq, Nat.reduceLT, reduceCtorEq, j46_bbbbbb]
  have h7 : Holds o s4 (hp1.ch p ++ ((ko', rowO 2 (colObjs L S).length ((colObjs L S).flatMap encW)) :: (poolC p r S.u ++ (colC c t tk fk mt mf ++ (huntC t lk mk (ptrN hp.id) L m ++ ((hb, some (.cells [ptrN hp.id] none)) :: (cb, some (.cells [ptrN c] none)) :: F)))))) := (Holds.of (h6) (fun k => by simp +arith only [HA, HB]) (fun k x => by simp only [HA, HC]; grind only))
  have inC2 : ∀ y ∈ colC c t tk fk mt mf, y ∈ (ko', rowO 2 (colObjs L S).length ((colObjs L S).flatMap encW)) :: (poolC p r S.u ++ (colC c t tk fk mt mf ++ (huntC t lk mk (ptrN hp.id) L m ++ ((hb, some (O.cells [ptrN hp.id] none)) :: (cb, some (O.cells [ptrN c] none)) :: F)))) := fun y hy => List.mem_cons_of_mem _ (List.mem_append_right _ (List.mem_append_left _ hy))
  have inF2 : ∀ y ∈ (hb, some (O.cells [ptrN hp.id] none)) :: (cb, some (O.cells [ptrN c] none)) :: F, y ∈ (ko', rowO 2 (colObjs L S).length ((colObjs L S).flatMap encW)) :: (poolC p r S.u ++ (colC c t tk fk mt mf ++ (huntC t lk mk (ptrN hp.id) L m ++ ((hb, some (O.cells [ptrN hp.id] none)) :: (cb, some (O.cells [ptrN c] none)) :: F)))) := fun y hy => List.mem_cons_of_mem _ (List.mem_append_right _ (List.mem_append_right _ (List.mem_append_right _ hy)))
  have hwl := cwords_loop (K := blockK 6 (seqK (loop PF) (call PF) j46_bbbbbbb (finR [(4, none), (5, none)]))) (Q := Q) (u := S.u) (id := hp.id) (lv := hp.lives) (v1 := rowV kr roots.length) (v4 := .slice none 0 (some 0)) (v5 := I 0) inC2 (inF2 _ (List.mem_cons_self ..)) (inF2 _ (List.mem_cons_of_mem _ (List.mem_cons_self ..))) (List.mem_cons_self ..) hmt hmf (by omega) (colObjs L S).length 0 hp1 s4 (by omega) e1 e2 hR1 hok1
    (fun w hw => by rw [e4]; exact (hpts w hw).find) h7
  simp only [List.drop_zero, Int.natCast_zero] at hwl
  refine hwl fun s5 hp2 d1 d2 d3 d4 hR2 hok2 h8 => ?_
  clear hwl
  rw [e4] at d4
  simp -implicitDefEqProofs only [↓GP, GB, GL, Nat.reduceAdd, Nat.reduceSub, Nat.reduceEqDiff, Nat.reduceMul, Nat.reduceLeDiff, Int.reduceBNe, Int.reduceBEq, Nat.reduceLT, reduceCtorEq, j46_bbbbbbb]
  have hot := out_loop (K := blockK 10 (seqK (loop PF) (call PF) j46_bbbbbbbbb (finR [(4, none), (5, none)]))) (Q := Q) (kr := kr) (roots := roots) (c := c) (t := t) (tk := tk) (fk := fk) (cb := cb) (fun y hy => List.mem_append_right (hp2.ch p) (inC2 y hy)) (List.mem_append_right _ (inF2 _ (List.mem_cons_of_mem _ (List.mem_cons_self ..)))) (List.mem_append_right _ (inF2 _ (List.mem_cons_of_mem _ (List.mem_cons_of_mem _ hr)))) hmt hmf (by omega) roots.length 0 0 [] s5 (by omega) (by simp) (h8.nilEntry 0)
  simp only [List.drop_zero, List.nil_append, List.length_nil, Int.natCast_zero, List.length_map] at hot
  refine hot fun s6 kout h9 => ?_
  simp -implicitDefEqProofs only [↓GP, GB, GL, Nat.reduceAdd, Nat.reduceSub, Nat.reduceEqDiff, Nat.reduceMul, Nat.reduceLeDiff, Int.reduceBNe, Int.reduceBEq, Nat.reduceLT, reduceCtorEq, j46_bbbbbbbbb]
  exact q s6 hp2 kout d1 d2 (d3.trans e3) d4 hR2 hok2 (Holds.of (h9) (fun k => by simp +arith only [HA, HB]) (fun k x => by simp only [HA, HC]; grind only))
end
end Go.Proofs.Ytoldkemimhebaaa
