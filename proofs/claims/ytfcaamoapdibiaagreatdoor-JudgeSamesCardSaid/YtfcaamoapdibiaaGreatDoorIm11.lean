/- Code, functions, calls: what the ideal machine returns is what Go's call returns. -/
import Derived.Test.YtfcaamoapdibiaaGreatDoorIm10
set_option linter.unusedSimpArgs false
set_option linter.unusedVariables false
namespace Go.IM
open Go.RowKit (Below)

/-- Minimal numbers. -/
theorem exists_least {p : Nat → Prop} (h : ∃ n, p n) : ∃ n, p n ∧ ∀ m, m < n → ¬ p m := by
  obtain ⟨n, hn⟩ := h
  induction n using Nat.strongRecOn with
  | _ n ih =>
    by_cases hm : ∃ m, m < n ∧ p m
    · obtain ⟨m, h1, h2⟩ := hm
      exact ih m h1 h2
    · exact ⟨n, hn, fun m h1 h2 => hm ⟨m, h1, h2⟩⟩

noncomputable def least (p : Nat → Prop) : Nat := open Classical in if h : ∃ n, p n then Classical.choose (exists_least h) else 0
theorem least_spec {p : Nat → Prop} (h : ∃ n, p n) : p (least p) ∧ ∀ m, p m → least p ≤ m := by
  have hs := Classical.choose_spec (exists_least h)
  have he : least p = Classical.choose (exists_least h) := by unfold least; rw [dif_pos h]
  rw [he]
  exact ⟨hs.1, fun m hm => Nat.le_of_not_lt fun hlt => hs.2 m hlt hm⟩

section
variable {P : Program} {B N : Nat} {base : List Deferred}

/-- An exit of the machine and one of Go's. -/
def XR : Xt → Exit → Prop
  | .normal, .normal => True
  | .exit i, .exit j => i = j
  | .ret, .ret => True
  | _, _ => False

/-- Calls that are put off: the marks of loops over functions; their blocks lie as they were laid. -/
def Marks (l : List Nat) : List Deferred := l.map fun r => { target := .collected r, args := #[] }
def Kept (N : Nat) (ρ : Rn) (w : World) (l : List Nat) : Prop := l.Nodup ∧ ∀ r ∈ l, N ≤ r ∧ r < w.heap.size ∧ (∀ k p, ρ k = some p → p.blk ≠ r) ∧ w.heap[r]? = some (.deferred (some []))
def ActOk (N : Nat) (base : List Deferred) (ρ : Rn) (w : World) (a : Act) : Prop := N ≤ w.heap.size ∧ ∃ l, a.defers = Marks l ++ base ∧ Kept N ρ w l

theorem Kept.step {ρ ρ' : Rn} {s s' : St} {w w' : World} {l : List Nat} (h : Kept N ρ w l) (hs : Step B ρ s w ρ' s' w') : Kept N ρ' w' l := by
  refine ⟨h.1, fun r hr => ?_⟩
  obtain ⟨h0, h1, h2, h3⟩ := h.2 r hr
  obtain ⟨k1, k2⟩ := hs.keep r h1 h2
  exact ⟨h0, Nat.lt_of_lt_of_le h1 hs.size, k2, k1.trans h3⟩
theorem ActOk.step {ρ ρ' : Rn} {s s' : St} {w w' : World} {a a' : Act} (h : ActOk N base ρ w a) (hs : Step B ρ s w ρ' s' w') (hd : a'.defers = a.defers) : ActOk N base ρ' w' a' := by
  obtain ⟨h0, l, h1, h2⟩ := h
  exact ⟨Nat.le_trans h0 hs.size, l, hd.trans h1, h2.step hs⟩
theorem ActOk.nil {ρ : Rn} {w : World} {tmps : Array Value} (h0 : N ≤ w.heap.size) : ActOk N [] ρ w { tmps := tmps, defers := [] } := ⟨h0, [], rfl, List.nodup_nil, fun r hr => by cases hr⟩

/-- What is known behind code. -/
def AfterC (B N : Nat) (base : List Deferred) (ρ : Rn) (s : St) (w : World) (e' : Env) (s' : St) (a' : Act) (w' : World) : Prop :=
  ∃ ρ', VRs ρ' e' a'.tmps.toList ∧ Sim B ρ' s' w' ∧ Step B ρ s w ρ' s' w' ∧ ActOk N base ρ' w' a'
theorem AfterC.trans {ρ ρ1 : Rn} {s s1 : St} {w w1 : World} {e2 : Env} {s2 : St} {a2 : Act} {w2 : World} (h : Step B ρ s w ρ1 s1 w1) (k : AfterC B N base ρ1 s1 w1 e2 s2 a2 w2) : AfterC B N base ρ s w e2 s2 a2 w2 := by
  obtain ⟨ρ', h1, h2, h3, h4⟩ := k
  exact ⟨ρ', h1, h2, h.trans h3, h4⟩
theorem After.c {ρ : Rn} {s s' : St} {w w' : World} {a a' : Act} {e' : Env} (h : After B ρ s w a e' s' a' w') (ha : ActOk N base ρ w a) : AfterC B N base ρ s w e' s' a' w' := by
  obtain ⟨ρ', h1, h2, h3, h4⟩ := h
  exact ⟨ρ', h1, h2, h3, ha.step h3 h4⟩

/-- What is behind code: the machine has come there too, and goes on to its result. -/
def QK (B N : Nat) (base : List Deferred) (K : Kt) (r : V × St) (ρ : Rn) (s : St) (w : World) (X : Exit) (a' : Act) (w' : World) : Prop :=
  ∃ x e' s', XR x X ∧ AfterC B N base ρ s w e' s' a' w' ∧ K x e' s' = some r

theorem compC_region {nt : Nat} {rg : Bool} {ex : List (Nat × Nat)} {rt out : Nat} {id : Nat} {ops : Array Oper} {draw : Bool} {ic : IC × Nat} (h : compC P nt rg ex rt out (.region id ops draw) = some ic) :
    ∃ iis, ops.toList.mapM (compII P ops.toList) = some iis ∧
      ((draw = false ∧ ic.1 = .region iis (keepOf nt out)) ∨ (draw = true ∧ (drawnOf ops.toList iis).ok = true ∧ ic.1 = .region (drawnOf ops.toList iis).canon (keepOf nt out)) ∨ ic.1 = .dead) := by
  simp only [compC, Option.bind_eq_bind, Option.pure_def, Option.bind_eq_some_iff] at h
  obtain ⟨iis, h1, h⟩ := h
  refine ⟨iis, h1, ?_⟩
  cases draw with
  | false => simp at h; exact .inl ⟨rfl, by rw [← h]⟩
  | true =>
    simp only [if_true] at h
    split at h
    · rename_i hok; cases h; exact .inr (.inl ⟨rfl, hok, rfl⟩)
    · cases h; exact .inr (.inr rfl)

variable {F : Nat → Option IFn} (hm : P.follows .mixedOrders = true)

/-- What calls of yield do. -/
def YOk (P : Program) (B : Nat) (ρ0 : Rn) (Y : Yt) : Prop := ∀ j args s v s', Y j args s = some (v, s') → ∀ ρ w (cargs : Array Value) p, Le ρ0 ρ → VRs ρ args cargs.toList → Sim B ρ s w → ρ j = some p →
  ∃ fn tmps assign body, (Instr.yield p.blk cargs).run P w = .ok (.round p.blk fn tmps assign body) w ∧ RoundIn Fence.wide 0 P p.blk fn tmps assign body w (Left B ρ s w v s')
theorem YOk.mono {ρ0 ρ1 : Rn} {Y : Yt} (h : YOk P B ρ0 Y) (hle : Le ρ0 ρ1) : YOk P B ρ1 Y := fun j args s v s' hy ρ w cargs p hl => h j args s v s' hy ρ w cargs p (hle.trans hl)
theorem YOk.no {ρ0 : Rn} : YOk P B ρ0 noY := fun j args s v s' h => by cases h

/-- Code at one depth of the machine. -/
def GoOk (P : Program) (F : Nat → Option IFn) (n : Nat) : Prop := ∀ (nt : Nat) (rg : Bool) (c : Code) (ex : List (Nat × Nat)) (rt out : Nat) (ic : IC × Nat), compC P nt rg ex rt out c = some ic →
  ∀ B N base ρ0 Y, YOk P B ρ0 Y → ∀ ro, (ro = none ∨ rg = false) → ∀ e s (K : Kt) r, go (LC F n Y).1 (LC F n Y).2 ic.1 e s K = some r →
  ∀ ρ a w, Le ρ0 ρ → ActOk N base ρ w a → VRs ρ e a.tmps.toList → Sim B ρ s w → c.wpIn (fen ro) 0 P (QK B N base K r ρ s w) a w

theorem QK_then {K' : Kt} {r : V × St} {ρ : Rn} {s : St} {w : World} {next : Act → World → Prop} {Q : Exit → Act → World → Prop}
    (hn : ∀ e' s' a' w', AfterC B N base ρ s w e' s' a' w' → K' .normal e' s' = some r → next a' w')
    (hx : ∀ i e' s' a' w', AfterC B N base ρ s w e' s' a' w' → K' (.exit i) e' s' = some r → Q (.exit i) a' w')
    (hr : ∀ e' s' a' w', AfterC B N base ρ s w e' s' a' w' → K' .ret e' s' = some r → Q .ret a' w') :
    ∀ X a' w', QK B N base K' r ρ s w X a' w' → Exit.then next Q X a' w' := by
  rintro X a' w' ⟨x, e', s', hxr, hA, hK⟩
  cases x <;> cases X <;> first | (cases hxr; done) | skip
  · exact hn _ _ _ _ hA hK
  · cases (show _ = _ from hxr); exact hx _ _ _ _ _ hA hK
  · exact hr _ _ _ _ hA hK

theorem QK_trans {K : Kt} {r : V × St} {ρ ρ1 : Rn} {s s1 : St} {w w1 : World} (h : Step B ρ s w ρ1 s1 w1) {X : Exit} {a' : Act} {w' : World}
    (k : QK B N base K r ρ1 s1 w1 X a' w') : QK B N base K r ρ s w X a' w' := by
  obtain ⟨x, e', s', hx, hA, hK⟩ := k
  exact ⟨x, e', s', hx, AfterC.trans h hA, hK⟩

/-- A block of Go's alone that changes. -/
theorem Sim.other {ρ : Rn} {s : St} {w w' : World} (hs : Sim B ρ s w) {b : Nat} (hb : B ≤ b) (hsz : w'.heap.size = w.heap.size) (hoth : ∀ j, j ≠ b → w'.heap[j]? = w.heap[j]?) (hfree : ∀ k p, ρ k = some p → s.new k ≠ none → p.blk ≠ b) : Sim B ρ s w' := by
  refine ⟨by rw [hsz]; exact hs.base, fun c o h => ?_, fun k p h => by rw [hsz]; exact hs.dom k p h, fun k p o h1 h2 => ?_, hs.inj, hs.fresh⟩
  · obtain ⟨h1, h2⟩ := hs.old c o h
    exact ⟨h1, by rw [hoth c (by omega)]; exact h2⟩
  · rw [hoth _ (hfree k p h1 (by rw [h2]; simp))]
    exact hs.obj k p o h1 h2
/-- A block of Go's alone. -/
theorem Sim.allocM {ρ : Rn} {s : St} {w : World} (hs : Sim B ρ s w) (ob : Obj) : Sim B ρ s (w.alloc ob) ∧ Step B ρ s w ρ s (w.alloc ob) := by
  have hsz : (w.alloc ob).heap.size = w.heap.size + 1 := by show (w.heap.push ob).size = _; simp
  have hold : ∀ j, j < w.heap.size → (w.alloc ob).heap[j]? = w.heap[j]? := fun j hj => Below.heap_alloc w ob j hj
  have hbase := hs.base
  refine ⟨⟨by omega, fun b o h => ?_, fun k p h => ?_, fun k p o h1 h2 => ?_, hs.inj, hs.fresh⟩, Le.refl ρ, (Below.refl B w).alloc hs.base ob, Nat.le_refl _, rfl, fun _ _ h => ⟨h, rfl⟩, fun b hb hn => ⟨hold b hb, hn⟩, by omega⟩
  · obtain ⟨h1, h2⟩ := hs.old b o h
    exact ⟨h1, by rw [hold b (by omega)]; exact h2⟩
  · obtain ⟨a, b, c⟩ := hs.dom k p h
    exact ⟨a, b, by omega⟩
  · rw [hold _ (hs.dom k p h1).2.2]; exact hs.obj k p o h1 h2

/-- A world in which one block is another. -/
def putB (w : World) (l : Nat) (o : Obj) : World := { w with heap := w.heap.setIfInBounds l o }
theorem putB_other (w : World) (l : Nat) (o : Obj) {j : Nat} (h : j ≠ l) : (putB w l o).heap[j]? = w.heap[j]? := by
  show (w.heap.setIfInBounds l o)[j]? = _
  rw [Array.getElem?_setIfInBounds, if_neg (fun e => h e.symm)]
theorem putB_same (w : World) (l : Nat) (o : Obj) (h : l < w.heap.size) : (putB w l o).heap[l]? = some o := by
  show (w.heap.setIfInBounds l o)[l]? = _
  rw [Array.getElem?_setIfInBounds]; simp [h]
theorem putB_size (w : World) (l : Nat) (o : Obj) : (putB w l o).heap.size = w.heap.size := by show (w.heap.setIfInBounds l o).size = _; simp
theorem putB_below {w : World} {l : Nat} (o : Obj) (h : B ≤ l) : Below B w (putB w l o) := ⟨rfl, rfl, rfl, by rw [putB_size]; exact Nat.le_refl _, fun j hj => putB_other w l o (by omega)⟩

/-- A loop's record that changes its state. -/
theorem Sim.loopSet {ρ : Rn} {s : St} {w : World} (hs : Sim B ρ s w) {k : Nat} {p : Pl} (hk : ρ k = some p) {st st' : LoopSt} (ho : s.new k = some (.loop st)) :
    ∃ r : Loop, w.heap[p.blk]? = some (.loop r) ∧ p.rc = some ⟨r.fn, r.tmps, r.params, r.assign, r.body⟩ ∧ LoopR st r ∧
      ∀ (x : LoopState) (c : Option Code), LoopR st' { r with state := x, pending := c } → Sim B ρ (s.set k (.loop st')) (putB w p.blk (.loop { r with state := x, pending := c })) ∧ Step B ρ s w ρ (s.set k (.loop st')) (putB w p.blk (.loop { r with state := x, pending := c })) := by
  obtain ⟨r, h1, h2, h3⟩ := hs.obj k p _ hk ho
  obtain ⟨hkn, hB, hlt⟩ := hs.dom k p hk
  refine ⟨r, h1, h2, h3, fun x c hx => ⟨hs.upd hk ho (putB_size ..) (fun j hj => putB_other _ _ _ hj) ⟨_, putB_same _ _ _ hlt, h2, hx⟩, Step.upd hk (putB_below _ hB) (putB_size ..) (fun j hj => putB_other _ _ _ hj)⟩⟩

theorem run_getObj {w : World} {l : Nat} {o : Obj} (h : w.heap[l]? = some o) (hc : ∀ c e f, o ≠ .cells c e f) : (getObj l).run P w = .ok o w := by
  cases o <;> first | (exact absurd rfl (hc _ _ _)) | simp only [getObj, Sem.run, h]
theorem run_setObj {w : World} {l : Nat} {o : Obj} (h : w.heap[l]? = some o) (hc : ∀ c e f, o ≠ .cells c e f) (o' : Obj) : (setObj l o').run P w = .ok () (putB w l o') := by
  cases o <;> first | (exact absurd rfl (hc _ _ _)) | simp only [setObj, Sem.run, h, putB]
theorem run_getLoop {w : World} {l : Nat} {r : Loop} (h : w.heap[l]? = some (.loop r)) : (Instr.getLoop l).run P w = .ok r w := by
  simp only [Instr.getLoop, Sem.run_bind, run_getObj h (by simp), Result.andThen_ok, Sem.run_pure]
theorem run_beginRound {w : World} {l : Nat} {r : Loop} (h : w.heap[l]? = some (.loop r)) (hr : r.state = .ready) : (Instr.beginRound l).run P w = .ok () (putB w l (.loop { r with state := .busy })) := by
  simp only [Instr.beginRound, Sem.run_bind, run_getLoop h, Result.andThen_ok, run_setObj h (by simp), hr, Sem.run_pure]
theorem run_endRound {w : World} {l : Nat} {r : Loop} (h : w.heap[l]? = some (.loop r)) (j : Option Code) : (Instr.endRound l j).run P w = .ok (.bool j.isNone) (putB w l (.loop { r with state := if j.isNone then .ready else .done, pending := j })) := by
  simp only [Instr.endRound, Sem.run_bind, run_getLoop h, Result.andThen_ok, run_setObj h (by simp), Sem.run_pure]
theorem run_endLoop {w : World} {l : Nat} {r : Loop} (h : w.heap[l]? = some (.loop r)) (hr : r.state ≠ .busy) : (Instr.endLoop l).run P w = .ok r.pending (putB w l (.loop { r with state := .exhausted })) := by
  have hb : (r.state == .busy) = false := by cases hs : r.state <;> first | rfl | exact absurd hs hr
  simp only [Instr.endLoop, Sem.run_bind, run_getLoop h, Result.andThen_ok, hb, Bool.false_eq_true, if_false, run_setObj h (by simp), Sem.run_pure]
theorem run_takeDeferred {w : World} {l : Nat} (h : w.heap[l]? = some (.deferred (some []))) : (Instr.takeDeferred l).run P w = .ok [] (putB w l (.deferred none)) := by
  simp only [Instr.takeDeferred, Sem.run_bind, run_getObj h (by simp), Result.andThen_ok, run_setObj h (by simp), Sem.run_pure]

/-- A record that has done its work. -/
theorem Step.killPut {ρ : Rn} {s : St} {w : World} {k : Nat} {p : Pl} (hk : ρ k = some p) (hB : B ≤ p.blk) (o : Obj) : Step B ρ s w ρ (s.kill k) (putB w p.blk o) := by
  refine ⟨Le.refl ρ, putB_below o hB, Nat.le_refl _, rfl, fun j _ hj => ⟨hj, ?_⟩, fun b _ hn => ⟨putB_other _ _ _ (fun e => hn k p hk e.symm), hn⟩, by rw [putB_size]; exact Nat.le_refl _⟩
  simp only [St.kill]
  rw [if_neg]; rintro rfl; rw [hk] at hj; cases hj
theorem Sim.killPut {ρ : Rn} {s : St} {w : World} (hs : Sim B ρ s w) {k : Nat} {p : Pl} {o0 : O} (hk : ρ k = some p) (ho : s.new k = some o0) (o : Obj) : Sim B ρ (s.kill k) (putB w p.blk o) := by
  refine (hs.kill (k := k)).other (hs.dom k p hk).2.1 (putB_size ..) (fun j hj => putB_other _ _ _ hj) fun j q hj hn e => ?_
  have hjk : j ≠ k := by rintro rfl; exact hn (by simp [St.kill])
  have hn' : s.new j ≠ none := by simpa [St.kill, hjk] using hn
  exact hjk (hs.inj j k q p hj hk hn' (by rw [ho]; simp) e)

theorem VRs_putAll {ρ : Rn} : ∀ (ps : List Nat) {e : Env} {args : List V} {l : List Value} {cargs : List Value}, VRs ρ e l → VRs ρ args cargs →
    VRs ρ (putAll e ps args) ((ps.zip cargs).foldl (fun (t : List Value) (x : Nat × Value) => t.set x.1 x.2) l)
  | [], e, args, l, cargs, he, ha => by simpa [putAll] using he
  | p :: ps, e, [], l, cargs, he, ha => by cases (show cargs = [] from ha); simpa [putAll] using he
  | p :: ps, e, v :: vs, l, cargs, he, ha => by
    obtain ⟨y, ys, rfl, h1, h2⟩ := ha
    simp only [putAll, List.zip_cons_cons, List.foldl_cons]
    exact VRs_putAll ps (VRs_set he p h1) h2
theorem foldl_set_list (ps : List (Nat × Value)) : ∀ t : Array Value, (ps.foldl (fun (t : Array Value) (x : Nat × Value) => t.setIfInBounds x.1 x.2) t).toList = ps.foldl (fun (t : List Value) (x : Nat × Value) => t.set x.1 x.2) t.toList := by
  induction ps with
  | nil => intro t; rfl
  | cons x ps ih => intro t; simp only [List.foldl_cons, ih, Array.toList_setIfInBounds]

theorem fen_wide : fen none = Fence.wide := rfl
theorem fen_in (l : Nat) : Fence.wide.inRound l = fen (some l) := rfl

/-- One round. -/
theorem round_ok {m : Nat} (ihG : GoOk P F m) {nt : Nat} {exa exb : List (Nat × Nat)} {rta outa rtb outb : Nat} {assign body : Code} {ix iy : IC × Nat}
    (hx : compC P nt false exa rta outa assign = some ix) (hy : compC P nt false exb rtb outb body = some iy) {ρ0 : Rn} {Y : Yt} (hY : YOk P B ρ0 Y)
    {fn : FuncId} {tmps : Array Value} {ps : Array Tmp} {e : Env} {k : Nat} {pl : Pl} (hrc : pl.rc = some ⟨fn, tmps, ps, assign, body⟩)
    {args : List V} {t : St} {v : V} {t' : St} (h : roundI (LC F m Y) ps.toList ix.1 iy.1 e k args t = some (v, t'))
    {ρ : Rn} {w : World} {cargs : Array Value} (hle : Le ρ0 ρ) (he : VRs ρ e tmps.toList) (ha : VRs ρ args cargs.toList) (hs : Sim B ρ t w) (hk : ρ k = some pl) :
    ∃ fn tmps assign body, (Instr.yield pl.blk cargs).run P w = .ok (.round pl.blk fn tmps assign body) w ∧ RoundIn Fence.wide 0 P pl.blk fn tmps assign body w (Left B ρ t w v t') := by
  unfold roundI at h
  split at h
  · rename_i hlen
    split at h
    · rename_i hst
      obtain ⟨r, h1, h2, -⟩ := hs.loopSet (st' := .ready) hk hst
      rw [hrc] at h2
      simp only [Option.some.injEq, RcS.mk.injEq] at h2
      obtain ⟨rfl, rfl, rfl, rfl, rfl⟩ := h2
      have hal := VRs_length ha
      refine ⟨r.fn, (r.params.zip cargs).foldl (fun tmps (x : Nat × Value) => tmps.setIfInBounds x.1 x.2) r.tmps, r.assign, r.body, ?_, roundIn_of_wpIn trivial ?_⟩
      · simp only [Instr.yield, Sem.run_bind, run_getLoop h1, Result.andThen_ok]
        rw [if_neg (by simp at hal hlen; omega)]
        rfl
      · rw [fen_in]
        refine Code.wpIn_mono ?_ (ihG nt false r.assign exa rta outa ix hx B w.heap.size [] ρ0 Y hY (some pl.blk) (.inr rfl) _ t _ _ h ρ { tmps := (r.params.zip cargs).foldl (fun tmps (x : Nat × Value) => tmps.setIfInBounds x.1 x.2) r.tmps, defers := [] } w hle (ActOk.nil (Nat.le_refl _)) ?_ hs)
        · rintro X a1 w1 ⟨x, e1, s1, hxr, ⟨ρ1, k1, k2, k3, k4⟩, hK⟩
          cases x with
          | exit i => cases hK
          | ret => cases hK
          | normal =>
            cases X <;> first | (cases hxr; done) | skip
            simp only [roundMid] at hK
            split at hK
            · rename_i hst1
              have hk1 := k3.le k pl hk
              obtain ⟨r1, q1, q2, q3, q4⟩ := k2.loopSet (st' := .busy) hk1 hst1
              have q5 := q4 .busy r1.pending rfl
              refine ⟨_, run_beginRound q1 q3.1, ?_⟩
              refine Code.wpIn_mono ?_ (ihG nt false r.body exb rtb outb iy hy B w.heap.size [] ρ0 Y hY (some pl.blk) (.inr rfl) _ _ _ _ hK ρ1 a1 _ (hle.trans k3.le) (k4.step q5.2 rfl) k1 q5.1)
              rintro X2 a2 w2 ⟨x2, e2, s2, hxr2, ⟨ρ2, l1, l2, l3, l4⟩, hK2⟩
              simp only [roundEnd] at hK2
              split at hK2
              · rename_i hst2
                simp only [Option.some.injEq, Prod.mk.injEq] at hK2
                obtain ⟨rfl, rfl⟩ := hK2
                have hk2 := l3.le k pl hk1
                obtain ⟨r2, n1, n2, n3, n4⟩ := l2.loopSet (st' := endSt x2) hk2 hst2
                have hfin : Step B ρ t w ρ2 s2 w2 := k3.trans (q5.2.trans l3)
                cases x2 with
                | normal =>
                  cases X2 <;> first | (cases hxr2; done) | skip
                  obtain ⟨m1, m2⟩ := n4 .ready none ⟨rfl, rfl⟩
                  exact ⟨_, _, run_endRound n1 none, ρ2, _, rfl, rfl, m1, hfin.trans m2⟩
                | exit i =>
                  cases X2 <;> first | (cases hxr2; done) | skip
                  cases (show i = _ from hxr2)
                  obtain ⟨m1, m2⟩ := n4 .done (some (.exit i)) ⟨rfl, _, rfl, rfl⟩
                  exact ⟨_, _, run_endRound n1 _, ρ2, _, rfl, rfl, m1, hfin.trans m2⟩
                | ret =>
                  cases X2 <;> first | (cases hxr2; done) | skip
                  obtain ⟨m1, m2⟩ := n4 .done (some .ret) ⟨rfl, _, rfl, rfl⟩
                  exact ⟨_, _, run_endRound n1 _, ρ2, _, rfl, rfl, m1, hfin.trans m2⟩
              · cases hK2
            · cases hK
        · have := VRs_putAll r.params.toList he ha
          rw [← Array.foldl_toList, Array.toList_zip, foldl_set_list]
          exact this
    · cases h
  · cases h

/-- A loop over a function. -/
theorem range_ok {m : Nat} (ihG : GoOk P F m) (hC : ∀ ρ0 Y, YOk P B ρ0 Y → CallsOk P B ρ0 (LC F m Y).2) {nt : Nat} {exa exb : List (Nat × Nat)} {rta outa rtb outb : Nat} {assign body : Code} {ix iy : IC × Nat}
    (hx : compC P nt false exa rta outa assign = some ix) (hy : compC P nt false exb rtb outb body = some iy) {ρ0 : Rn} {Y : Yt} (hY : YOk P B ρ0 Y)
    {g : Operand} {ps : Array Tmp} {e : Env} {s : St} {K : Kt} {r : V × St} (h : rangeI (LC F m) Y (argOf g) ps.toList ix.1 iy.1 e s K = some r)
    {ρ : Rn} {a : Act} {w : World} (hle : Le ρ0 ρ) (hact : ActOk N base ρ w a) (he : VRs ρ e a.tmps.toList) (hs : Sim B ρ s w) :
    (Code.rangeFunc g ps assign body).wpIn (fen none) 0 P (QK B N base K r ρ s w) a w := by
  unfold rangeI at h
  split at h
  · rename_i gf pre caps hg
    split at h
    · rename_i h0
      simp only [Option.bind_eq_some_iff] at h
      obtain ⟨⟨v, s2⟩, hcall, hend⟩ := h
      have hgv := eval_VR he g
      rw [hg] at hgv
      obtain ⟨p', c', hfe, hp, hcp⟩ : ∃ p' c', a.eval g = .func (.func gf) p' c' ∧ VRs ρ pre p'.toList ∧ VRs ρ caps c'.toList := by
        rcases hgv with ⟨_, p', c', h1, h2, h3⟩ | ⟨h1, _⟩
        · exact ⟨p', c', h1, h2, h3⟩
        · omega
      refine wpIn_rangeFunc fun fn _ => ?_
      have hsz : (w.alloc (.deferred (some []))).heap.size = w.heap.size + 1 := by show (w.heap.push _).size = _; simp
      let pl : Pl := ⟨w.heap.size + 1, 0, 0, 0, some ⟨fn, a.tmps, ps, assign, body⟩⟩
      let rec_ : Loop := { state := .ready, pending := none, fn := fn, tmps := a.tmps, params := ps, assign := assign, body := body, defers := w.heap.size }
      obtain ⟨d1, d2⟩ := hs.allocM (.deferred (some []))
      have a1 := d1.alloc (.loop .ready) (.loop rec_) pl hsz.symm ⟨rec_, rfl, rfl, rfl, rfl⟩
      have a2 := d2.trans (Step.alloc d1 (.loop .ready) (.loop rec_) pl hsz.symm)
      have hk1 : (ρ.put s.next pl) s.next = some pl := by simp [Rn.put]
      have hY1 : YOk P B (ρ.put s.next pl) (withY Y s.next (roundI (LC F m Y) ps.toList ix.1 iy.1 e s.next)) := by
        intro j args t v t' hyj ρ2 w2 cargs p hle2 ha2 hs2 hp2
        unfold withY at hyj
        split at hyj
        · rename_i hj
          subst hj
          have hp3 := hle2 _ _ hk1
          rw [hp3] at hp2
          cases hp2
          exact round_ok ihG hx hy hY rfl hyj ((hle.trans a2.le).trans hle2) (VRs_mono (a2.le.trans hle2) _ _ he) ha2 hs2 hp3
        · exact hY j args t v t' hyj ρ2 w2 cargs p ((hle.trans a2.le).trans hle2) ha2 hs2 hp2
      obtain ⟨hent, hcs⟩ := (hC _ _ hY1 gf _ _ v s2 hcall).1 h0
      refine ⟨w.heap.size + 1, [{ target := .collected w.heap.size, args := #[] }], (w.alloc (.deferred (some []))).alloc (.loop rec_), { target := .fn (.func gf) c', args := p' ++ #[Value.func (.yield (w.heap.size + 1)) #[] #[]] }, (w.alloc (.deferred (some []))).alloc (.loop rec_), gf,
        (p' ++ #[Value.func (.yield (w.heap.size + 1)) #[] #[]]) ++ c', (w.alloc (.deferred (some []))).alloc (.loop rec_), ?_, ?_, fun _ _ => trivial, ?_, fun hd => by simp [fen, Fence.wide] at hd, ?_⟩
      · rw [← hsz]; rfl
      · simp only [resolve, rangeCall, hfe, Sem.run_bind, Deferred.ofValue, Sem.run_pure, Result.andThen_ok]
        simp [Act.eval]
      · exact callFunc_enters hent _ _
      · have hargs : VRs (ρ.put s.next pl) (pre ++ [.func (yBase + s.next) [] []] ++ caps) ((p' ++ #[Value.func (.yield (w.heap.size + 1)) #[] #[]]) ++ c').toList := by
          simp only [Array.toList_append]
          refine VRs_append (VRs_append (VRs_mono a2.le _ _ hp) (VRs_cons (.inr ⟨by omega, rfl, rfl, pl, ?_, rfl⟩) VRs_nil)) (VRs_mono a2.le _ _ hcp)
          rw [show yBase + s.next - yBase = s.next from by omega]; exact hk1
        have hcl := hcs (ρ.put s.next pl) _ _ (Le.refl _) hargs a1
        refine CallsIn.mono (F := fen none) hcl.1 ?_
        rintro en w3 ⟨ρ4, v', rfl, hv, k2, k3⟩
        have hk4 := k3.le _ _ hk1
        have hB4 := (k2.dom _ _ hk4).2.1
        have hfull : Step B ρ s w ρ4 s2 w3 := a2.trans k3
        have hmark : ∀ o, Kept N ρ4 (putB w3 pl.blk o) [w.heap.size] := by
          intro o
          have hk0 : Kept N (ρ.put s.next pl) ((w.alloc (.deferred (some []))).alloc (.loop rec_)) [w.heap.size] := by
            refine ⟨by simp, fun r hr => ?_⟩
            simp only [List.mem_singleton] at hr; subst hr
            refine ⟨hact.1, ?_, fun k p hkp => ?_, ?_⟩
            · have : ((w.alloc (.deferred (some []))).alloc (.loop rec_)).heap.size = w.heap.size + 2 := by show ((w.heap.push _).push _).size = _; simp
              omega
            · unfold Rn.put at hkp
              split at hkp
              · cases hkp; show w.heap.size + 1 ≠ w.heap.size; omega
              · have := (hs.dom k p hkp).2.2; omega
            · show ((w.heap.push _).push _)[w.heap.size]? = _
              rw [Array.getElem?_push_lt (by simp)]; simp
          exact (hk0.step k3).step (Step.killPut (s := s2) hk4 hB4 o)
        have hactf : ∀ o, ActOk N base ρ4 (putB w3 pl.blk o) { a with defers := [{ target := .collected w.heap.size, args := #[] }] ++ a.defers } := by
          intro o
          obtain ⟨hN, l, hl1, hl2⟩ := hact
          have hl3 := hl2.step (hfull.trans (Step.killPut hk4 hB4 o))
          have hm := hmark o
          refine ⟨by rw [putB_size]; exact Nat.le_trans hN hfull.size, w.heap.size :: l, by simp [Marks, hl1], List.nodup_cons.2 ⟨fun hin => ?_, hl3.1⟩, fun r hr => ?_⟩
          · have := (hl2.2 _ hin).2.1; omega
          · rcases List.mem_cons.1 hr with rfl | hr
            · exact hm.2 _ (List.mem_singleton.2 rfl)
            · exact hl3.2 r hr
        unfold rangeEnd at hend
        split at hend
        · rename_i hst
          obtain ⟨r2, n1, n2, n3, -⟩ := k2.loopSet (st' := .ready) hk4 hst
          refine ⟨_, _, run_endLoop n1 (by rw [n3.1]; simp), ?_⟩
          rw [n3.2]
          exact ⟨.normal, e, _, trivial, ⟨ρ4, VRs_mono hfull.le _ _ he, k2.killPut hk4 hst _, hfull.trans (Step.killPut hk4 hB4 _), hactf _⟩, hend⟩
        · rename_i i hst
          obtain ⟨r2, n1, n2, n3, -⟩ := k2.loopSet (st' := .ready) hk4 hst
          obtain ⟨n3, c, n5, n4⟩ := n3
          cases n5
          refine ⟨_, _, run_endLoop n1 (by rw [n3]; simp), ?_⟩
          rw [n4]
          exact wpIn_exit ⟨.exit i, e, _, rfl, ⟨ρ4, VRs_mono hfull.le _ _ he, k2.killPut hk4 hst _, hfull.trans (Step.killPut hk4 hB4 _), hactf _⟩, hend⟩
        · rename_i hst
          obtain ⟨r2, n1, n2, n3, -⟩ := k2.loopSet (st' := .ready) hk4 hst
          obtain ⟨n3, c, n5, n4⟩ := n3
          cases n5
          refine ⟨_, _, run_endLoop n1 (by rw [n3]; simp), ?_⟩
          rw [n4]
          exact wpIn_ret ⟨.ret, e, _, trivial, ⟨ρ4, VRs_mono hfull.le _ _ he, k2.killPut hk4 hst _, hfull.trans (Step.killPut hk4 hB4 _), hactf _⟩, hend⟩
        · cases hend
    · cases h
  · cases h

include hm in
theorem go_ok (n : Nat) (hC : ∀ m, m ≤ n → ∀ B ρ0 Y, YOk P B ρ0 Y → CallsOk P B ρ0 (LC F m Y).2) (ih : ∀ m, m < n → GoOk P F m) : GoOk P F n := by
  intro nt rg c
  induction c with
  | skip =>
    intro ex rt out ic hc B N base ρ0 Y hY ro hro e s K r hg ρ a w hle hact he hs
    simp only [compC, Option.some.injEq] at hc; subst hc
    simp only [go, goOps] at hg
    exact wpIn_skip ⟨.normal, _, s, trivial, ⟨ρ, VRs_mask _ he, hs, Step.refl _ _ _ _, hact⟩, hg⟩
  | region id ops draw =>
    intro ex rt out ic hc B N base ρ0 Y hY ro hro e s K r hg ρ a w hle hact he hs
    obtain ⟨iis, hi, ⟨rfl, hic⟩ | ⟨rfl, hok, hic⟩ | hic⟩ := compC_region hc
    rotate_right
    · rw [hic] at hg; simp [go] at hg
    · rw [hic] at hg
      simp only [go, goOps_run, Option.bind_eq_some_iff] at hg
      obtain ⟨⟨e', s'⟩, hr, hK⟩ := hg
      refine wpIn_region_list ?_
      refine runOps_ok (hC n (Nat.le_refl n) B ρ0 Y hY) ops.toList iis hi hr hle he hs ?_
      intro a' w' hA
      obtain ⟨ρ', h1, h2, h3, h4⟩ := hA.c hact
      exact ⟨.normal, _, s', trivial, ⟨ρ', VRs_mask _ h1, h2, h3, h4⟩, hK⟩
    · rw [hic] at hg
      simp only [go, goOps_run, Option.bind_eq_some_iff] at hg
      obtain ⟨⟨e', s'⟩, hr, hK⟩ := hg
      refine draw_ok hm (hC n (Nat.le_refl n) B ρ0 Y hY) hi hok hle hr he hs ?_
      intro a' w' hA
      obtain ⟨ρ', h1, h2, h3, h4⟩ := hA.c hact
      exact ⟨.normal, _, s', trivial, ⟨ρ', VRs_mask _ h1, h2, h3, h4⟩, hK⟩
  | seq x y ihx ihy =>
    intro ex rt out ic hc B N base ρ0 Y hY ro hro e s K r hg ρ a w hle hact he hs
    simp only [compC, Option.bind_eq_bind, Option.pure_def, Option.bind_eq_some_iff, Option.some.injEq] at hc
    obtain ⟨iy, hy, ix, hx, rfl⟩ := hc
    simp only [go] at hg
    refine wpIn_seq (Code.wpIn_mono ?_ (ihx _ _ _ ix hx B N base ρ0 Y hY ro hro e s _ r hg ρ a w hle hact he hs))
    refine QK_then (fun e' s' a' w' hA hK => ?_) (fun i e' s' a' w' hA hK => ?_) (fun e' s' a' w' hA hK => ?_)
    · obtain ⟨ρ', h1, h2, h3, h4⟩ := hA
      exact Code.wpIn_mono (fun X a2 w2 h => QK_trans h3 h) (ihy _ _ _ iy hy B N base ρ0 Y hY ro hro e' s' K r hK ρ' a' w' (hle.trans h3.le) h4 h1 h2)
    · exact ⟨.exit i, e', s', rfl, hA, hK⟩
    · exact ⟨.ret, e', s', trivial, hA, hK⟩
  | cond c x y ihx ihy =>
    intro ex rt out ic hc B N base ρ0 Y hY ro hro e s K r hg ρ a w hle hact he hs
    simp only [compC, Option.bind_eq_bind, Option.pure_def, Option.bind_eq_some_iff, Option.some.injEq] at hc
    obtain ⟨ix, hx, iy, hy, rfl⟩ := hc
    simp only [go] at hg
    have hcv := eval_VR he c
    split at hg
    · rename_i hb
      rw [hb] at hcv
      exact wpIn_cond_true (VR_bool hcv) (ihx _ _ _ ix hx B N base ρ0 Y hY ro hro e s K r hg ρ a w hle hact he hs)
    · rename_i hb
      rw [hb] at hcv
      exact wpIn_cond_false (VR_bool hcv) (ihy _ _ _ iy hy B N base ρ0 Y hY ro hro e s K r hg ρ a w hle hact he hs)
    · cases hg
  | block id x ihx =>
    intro ex rt out ic hc B N base ρ0 Y hY ro hro e s K r hg ρ a w hle hact he hs
    simp only [compC, Option.bind_eq_bind, Option.pure_def, Option.bind_eq_some_iff, Option.some.injEq] at hc
    obtain ⟨ix, hx, rfl⟩ := hc
    simp only [go] at hg
    refine wpIn_block (Code.wpIn_mono ?_ (ihx _ _ _ ix hx B N base ρ0 Y hY ro hro e s _ r hg ρ a w hle hact he hs))
    rintro X a' w' ⟨x, e', s', hxr, hA, hK⟩
    cases x <;> cases X <;> first | (cases hxr; done) | skip
    · exact ⟨.normal, e', s', trivial, hA, hK⟩
    · rename_i i j
      cases (show i = j from hxr)
      simp only [Exit.inBlock]
      simp only at hK
      split at hK
      · rename_i hid; rw [if_pos hid]; exact ⟨.normal, e', s', trivial, hA, hK⟩
      · rename_i hid; rw [if_neg hid]; exact ⟨.exit i, e', s', rfl, hA, hK⟩
    · exact ⟨.ret, e', s', trivial, hA, hK⟩
  | loop x ihx =>
    intro ex rt out ic hc B N base ρ0 Y hY ro hro e s K r hg ρ a w hle hact he hs
    simp only [compC, Option.bind_eq_bind, Option.pure_def, Option.bind_eq_some_iff, Option.some.injEq] at hc
    obtain ⟨i0, h0, ix, hx, rfl⟩ := hc
    change go (LC F n Y).1 (LC F n Y).2 (.loop (.seq ix.1 (.region [] (keepOf nt i0.2)))) (maskEnv (keepOf nt i0.2) e) s K = some r at hg
    generalize keepOf nt i0.2 = keep at hg
    generalize hbd : IC.seq ix.1 (.region [] keep) = body at hg
    let J : Nat → Act → World → Prop := fun m a' w' => m ≤ n ∧ ∃ e' s', AfterC B N base ρ s w e' s' a' w' ∧ go (LC F m Y).1 (LC F m Y).2 (.loop body) e' s' K = some r
    refine wpIn_loop (fun a' w' => ∃ m, J m a' w') (fun a' w' => least fun m => J m a' w') ⟨n, Nat.le_refl n, _, s, ⟨ρ, VRs_mask keep he, hs, Step.refl _ _ _ _, hact⟩, hg⟩ ?_
    intro a1 w1 hex
    obtain ⟨hJ, hmin⟩ := least_spec hex
    generalize hmm : (least fun m => J m a1 w1) = m at hJ hmin
    obtain ⟨hmn, e1, s1, ⟨ρ1, h1, h2, h3, h4⟩, hg1⟩ := hJ
    rw [← hbd] at hg1
    simp only [go, goOps] at hg1
    rw [hbd] at hg1
    let K1 : Kt := fun
      | .normal, e, s => (LC F m Y).1 (.loop body) (maskEnv keep e) s K
      | .exit i, e, s => K (.exit i) e s
      | .ret, e, s => K .ret e s
    have hbody : x.wpIn (fen ro) 0 P (QK B N base K1 r ρ1 s1 w1) a1 w1 := by
      rcases Nat.lt_or_ge m n with hlt | hge
      · exact ih m hlt nt rg x _ _ _ ix hx B N base ρ0 Y hY ro hro e1 s1 _ r hg1 ρ1 a1 w1 (hle.trans h3.le) h4 h1 h2
      · have : m = n := by omega
        subst this
        exact ihx _ _ _ ix hx B N base ρ0 Y hY ro hro e1 s1 _ r hg1 ρ1 a1 w1 (hle.trans h3.le) h4 h1 h2
    refine Code.wpIn_mono ?_ hbody
    refine QK_then (fun e' s' a' w' hA hK => ?_) (fun i e' s' a' w' hA hK => ?_) (fun e' s' a' w' hA hK => ?_)
    · cases m with
      | zero => exact absurd (show (none : Res) = some r from hK) (by simp)
      | succ j =>
        have hA' : AfterC B N base ρ1 s1 w1 (maskEnv keep e') s' a' w' := by
          obtain ⟨ρ', q1, q2⟩ := hA
          exact ⟨ρ', VRs_mask _ q1, q2⟩
        have hJ' : J j a' w' := ⟨by omega, _, s', AfterC.trans h3 hA', hK⟩
        have := (least_spec (p := fun m => J m a' w') ⟨j, hJ'⟩).2 j hJ'
        exact ⟨⟨j, hJ'⟩, by omega⟩
    · exact ⟨.exit i, e', s', rfl, AfterC.trans h3 hA, hK⟩
    · exact ⟨.ret, e', s', trivial, AfterC.trans h3 hA, hK⟩
  | rangeFunc g ps x y ihx ihy =>
    intro ex rt out ic hc B N base ρ0 Y hY ro hro e s K r hg ρ a w hle hact he hs
    simp only [compC] at hc
    split at hc
    · rename_i hrg
      have hro' : ro = none := hro.resolve_right (by rw [hrg]; simp)
      subst hro'
      simp only [Option.bind_eq_bind, Option.pure_def, Option.bind_eq_some_iff, Option.some.injEq] at hc
      obtain ⟨iy, hy, ix, hx, rfl⟩ := hc
      simp only [go, goOps] at hg
      cases n with
      | zero => exact absurd hg (by simp [LC])
      | succ m =>
        have hg' : rangeI (LC F m) Y (argOf g) ps.toList ix.1 iy.1 _ s _ = some r := hg
        refine Code.wpIn_mono ?_ (range_ok (ih m (by omega)) (hC m (by omega) B) hx hy hY hg' hle hact (VRs_mask _ he) hs)
        rintro X a' w' ⟨x, e', s', hxr, hA, hK⟩
        cases x <;> cases X <;> first | (cases hxr; done) | skip
        · obtain ⟨ρ', h1, h2, h3, h4⟩ := hA
          exact ⟨.normal, _, s', trivial, ⟨ρ', VRs_mask _ h1, h2, h3, h4⟩, hK⟩
        · exact ⟨.exit _, _, s', hxr, hA, hK⟩
        · exact ⟨.ret, _, s', trivial, hA, hK⟩
    · simp only [Option.pure_def, Option.some.injEq] at hc
      subst hc
      simp [go] at hg
  | exit id =>
    intro ex rt out ic hc B N base ρ0 Y hY ro hro e s K r hg ρ a w hle hact he hs
    simp only [compC, Option.some.injEq] at hc; subst hc
    simp only [go, goOps] at hg
    exact wpIn_exit ⟨.exit id, _, s, rfl, ⟨ρ, VRs_mask _ he, hs, Step.refl _ _ _ _, hact⟩, hg⟩
  | ret =>
    intro ex rt out ic hc B N base ρ0 Y hY ro hro e s K r hg ρ a w hle hact he hs
    simp only [compC, Option.some.injEq] at hc; subst hc
    simp only [go, goOps] at hg
    exact wpIn_ret ⟨.ret, _, s, trivial, ⟨ρ, VRs_mask _ he, hs, Step.refl _ _ _ _, hact⟩, hg⟩
  | _ =>
    intro ex rt out ic hc B N base ρ0 Y hY ro hro e s K r hg
    simp only [compC, Option.some.injEq] at hc
    subst hc
    simp [go] at hg
def readRes (tmps : Array Value) : ResultVar → Sem Value
  | .tmp t => pure (tmps.getD t undef)
  | .cell a t => do loadVar t (← asAddr (tmps.getD a undef))

theorem results_eq (fn : Func) (tmps : Array Value) : results fn tmps = (do
    let vs ← fn.results.mapM (readRes tmps)
    pure (if h : vs.size = 1 then vs[0] else .tuple vs)) := by
  unfold results
  congr 1

theorem resultsI_ok {ρ : Rn} {s : St} {w : World} {tmps : Array Value} {e : Env} (he : VRs ρ e tmps.toList) (hs : Sim B ρ s w) : ∀ (l : List ResultVar) (rs : List (Nat × Option (Option Nat))) (vs : List V),
    l.mapM (resOf P) = some rs → resultsI e s rs = some vs →
    ∃ L : List Value, (l.mapM (readRes tmps)).run P w = .ok L w ∧ VRs ρ vs L
  | [], rs, vs, h, hr => by
    simp at h; subst h
    simp only [resultsI, Option.some.injEq] at hr; subst hr
    exact ⟨[], rfl, rfl⟩
  | .tmp t :: l, rs, vs, h, hr => by
    simp only [List.mapM_cons, resOf, Option.bind_eq_bind, Option.pure_def, Option.bind_some, Option.bind_eq_some_iff, Option.some.injEq] at h
    obtain ⟨rs', h2, rfl⟩ := h
    simp only [resultsI, Option.map_eq_some_iff] at hr
    obtain ⟨vs', h3, rfl⟩ := hr
    obtain ⟨L, h4, h5⟩ := resultsI_ok he hs l rs' vs' h2 h3
    refine ⟨tmps.getD t undef :: L, ?_, VRs_cons (eval_VR (a := ⟨tmps, []⟩) he (.tmp t)) h5⟩
    simp only [List.mapM_cons, readRes, Sem.run_bind, Sem.run_pure, Result.andThen_ok, h4]
  | .cell t ty :: l, rs, vs, h, hr => by
    simp only [List.mapM_cons, resOf, Option.bind_eq_bind, Option.pure_def, Option.bind_eq_some_iff, Option.map_eq_some_iff, Option.some.injEq] at h
    obtain ⟨_, ⟨n, hn, rfl⟩, rs', h2, rfl⟩ := h
    simp only [resultsI, Option.bind_eq_some_iff, Option.map_eq_some_iff] at hr
    obtain ⟨v, hv, vs', h3, rfl⟩ := hr
    obtain ⟨L, h4, h5⟩ := resultsI_ok he hs l rs' vs' h2 h3
    simp only [evalLook] at hv
    have ht := eval_VR (a := ⟨tmps, []⟩) he (.tmp t)
    simp only [argOf] at ht
    split at hv
    · rename_i ad had
      rw [had] at ht
      obtain ⟨c, hc, hp⟩ := ht
      simp only [Option.bind_eq_some_iff] at hv
      obtain ⟨cs, hcs, hv⟩ := hv
      obtain ⟨v', h6, h7⟩ := run_loadVar_ok hn hs hcs hv hp
      refine ⟨v' :: L, ?_, VRs_cons h7 h5⟩
      have hc' : tmps.getD t undef = .pointer (some c) := hc
      simp only [List.mapM_cons, readRes, Sem.run_bind, hc', asAddr, Sem.run_pure, Result.andThen_ok, h6, h4]
    · cases hv

theorem compF_ok {f : Nat} {fn' : IFn} (h : compF P f = some fn') : ∃ fn c nt rt b, P.funcs[f]? = some fn ∧ fn.body = some c ∧ (fn.name == "runtime.NumGoroutine") = false ∧ compTop P nt rt c = some b ∧ b.1 = fn'.body ∧ fn'.ntmps = fn.ntmps ∧
    fn.results.toList.mapM (resOf P) = some fn'.results := by
  simp only [compF, Option.bind_eq_bind, Option.pure_def, Option.bind_eq_some_iff] at h
  obtain ⟨fn, h1, h⟩ := h
  split at h
  · cases h
  · rename_i hname
    simp only [Option.bind_eq_some_iff, Option.some.injEq] at h
    obtain ⟨c, h2, rs, h3, b, h4, rfl⟩ := h
    exact ⟨fn, c, _, _, b, h1, h2, by simpa using hname, h4, rfl, rfl, h3⟩

/-- The marks are taken off one by one. -/
theorem leave_marks (hBN : B ≤ N) {fn : Func} {tmps : Array Value} {R : Ending → World → Prop} {D : List Deferred} {ρ : Rn} {s : St} : ∀ (l : List Nat) {w : World}, Kept N ρ w l → Sim B ρ s w →
    (∀ w', Sim B ρ s w' → Below N w w' → w'.heap.size = w.heap.size → LeavesInM Fence.wide 0 P fn tmps R D .returning w') → LeavesInM Fence.wide 0 P fn tmps R (Marks l ++ D) .returning w
  | [], w, hk, hs, h => h w hs (Below.refl N w) rfl
  | r :: l, w, hk, hs, h => by
    obtain ⟨h1, h2, h3, h4⟩ := hk.2 r (List.mem_cons_self ..)
    refine ⟨by simp, .inl ⟨r, _, rfl, run_takeDeferred h4, ?_⟩⟩
    have hb : Below N w (putB w r (.deferred none)) := putB_below _ h1
    refine leave_marks hBN l ⟨(List.nodup_cons.1 hk.1).2, fun q hq => ?_⟩ (hs.other (Nat.le_trans hBN h1) (putB_size ..) (fun j hj => putB_other _ _ _ hj) fun k p hkp _ => h3 k p hkp) fun w' k1 k2 k3 => h w' k1 (hb.trans k2) (k3.trans (putB_size ..))
    obtain ⟨g1, g2, g3, g4⟩ := hk.2 q (List.mem_cons_of_mem _ hq)
    exact ⟨g1, by rw [putB_size]; exact g2, g3, by rw [putB_other _ _ _ (fun e => by subst e; exact (List.nodup_cons.1 hk.1).1 hq)]; exact g4⟩

/-- A frame that has been entered as a deferred call, on its way out. -/
theorem leaves_goingM {G : Fence} {n : Nat} {fn : Func} {tmps : Array Value} {R : Ending → World → Prop} : ∀ (ds : List Deferred) (u : FrameMode) (w : World) (fr : Frame)
    (cs : List Frame), fr.mode = u → fr.defers = ds → fr.tmps = tmps → P.funcs[fr.fn]? = some fn → fr.kind = .deferred → G.fn fr.fn → G.room (cs.length + 1 + n) → LeavesInM G n P fn tmps R ds u w →
    ∃ e w' fr', R e w' ∧ ComesIn (Machine.fenced P G) P (lone fr cs w) (lone fr' cs w') e ∧ fr'.fn = fr.fn ∧ fr'.kind = .deferred ∧ fr'.going P w' e := by
  intro ds
  induction ds with
  | nil =>
    intro u w fr cs hu hd ht hf hk _ _ h
    cases u with
    | run => exact h.elim
    | returning =>
      obtain ⟨v, hr, hR⟩ := h
      exact ⟨.returned v, w, fr, hR, StepsIn.refl _, rfl, hk, hu, hd, fn, hf, ht ▸ hr⟩
    | panicking chain => exact ⟨.panicked chain, w, fr, h, StepsIn.refl _, rfl, hk, hu, hd, fn, hf⟩
  | cons d ds ih =>
    intro u w fr cs hu hd ht hf hk hb hroom h
    obtain ⟨hrun, h⟩ := h
    rcases h with ⟨r, w', htar, htake, hrest⟩ | ⟨hn, fv, cap, f, args, htar, hinv, hlead, hFf, hcall⟩
    · have h1 := step_collected (cs := cs) (hu ▸ hrun) hd htar htake
      have i1 : (lone fr cs w).fenced P G := fenced_out hb hroom (hu ▸ hrun) hd (fun g hg => by rw [htar] at hg; simp [Target.leads] at hg)
      obtain ⟨e', w'', fr', hR', hs', hfn', hk', hl'⟩ := ih u w' { fr with defers := [] ++ ds } cs hu rfl ht hf hk hb hroom hrest
      exact ⟨e', w'', fr', hR', ComesIn.of_steps (.one i1 h1) hs', hfn', hk', hl'⟩
    · have h1 := step_defer (cs := cs) (hu ▸ hrun) hd htar hinv
      have i1 : (lone fr cs w).fenced P G := fenced_out hb hroom (hu ▸ hrun) hd hlead
      have hroom' : G.room (({ fr with defers := ds } :: cs).length + 1 + (n - 1)) := Fence.room_enter hroom hn
      obtain ⟨e, u', w', frX, hR, hsteps, hkX, hfX, hgo⟩ := hcall { fr with defers := ds } cs hu hroom'
      cases e with
      | outgrown => exact ⟨.outgrown, w', fr, hR, Outgrown.of_steps (.one h1) hsteps, rfl, hk, trivial⟩
      | returned v =>
        have i2 : (lone frX ({ { fr with defers := ds } with mode := u' } :: cs) w').fenced P G := fenced_going (n := n - 1) (hfX ▸ hFf) hroom' hgo
        have h2 := step_going_returned (c := { { fr with defers := ds } with mode := u' }) (cs := cs) hkX hgo
        obtain ⟨e', w'', fr', hR', hs', hfn', hk', hl'⟩ := ih (settle u') w' { { { fr with defers := ds } with mode := u' } with mode := settle u' } cs rfl rfl ht hf hk hb hroom hR
        exact ⟨e', w'', fr', hR', ComesIn.of_steps (.head i1 h1 (StepsIn.trans hsteps (.one i2 h2))) hs', hfn', hk', hl'⟩
      | panicked chain =>
        have i2 : (lone frX ({ { fr with defers := ds } with mode := u' } :: cs) w').fenced P G := fenced_going (n := n - 1) (hfX ▸ hFf) hroom' hgo
        have h2 := step_going_panicked (c := { { fr with defers := ds } with mode := u' }) (cs := cs) hgo
        obtain ⟨e', w'', fr', hR', hs', hfn', hk', hl'⟩ := ih (raised u' chain) w' { { { fr with defers := ds } with mode := u' } with mode := raised u' chain } cs rfl rfl ht hf hk hb hroom hR
        exact ⟨e', w'', fr', hR', ComesIn.of_steps (.head i1 h1 (StepsIn.trans hsteps (.one i2 h2))) hs', hfn', hk', hl'⟩

/-- A function that is called behind another one's end. -/
theorem callsDIn_of_wp_marks {G : Fence} {n : Nat} {f : FuncId} {fn : Func} {c : Code} {args : Array Value} {u : FrameMode} {w : World} {R : Ending → World → Prop}
    (hf : P.funcs[f]? = some fn) (hb : fn.body = some c) (hF : G.fn f)
    (h : c.wpIn G n P (bodyPostM G n P fn R) { tmps := args ++ Array.replicate (fn.ntmps - args.size) undef, defers := [] } w) (hro : G.round = none := by rfl) :
    CallsDIn G n P f args u w fun e u' w' => u' = u ∧ R e w' := by
  refine ⟨hF, fun c₀ cs hu hr => ?_⟩
  let b : Frame := { (default : Frame) with fn := f, kind := .deferred, roundOf := none }
  have henter : Frame.enter P f args .deferred =
      b.atR { tmps := args ++ Array.replicate (fn.ntmps - args.size) undef, defers := [] } [.code c] := by
    simp [Frame.enter, Frame.atR, hf, hb, b]
  have hc : ({ c₀ with mode := u } : Frame) = c₀ := by subst hu; rfl
  obtain ⟨e, a', w', hq, harr⟩ := h b [] (c₀ :: cs) hro.symm hF hr
  rw [← henter] at harr
  cases e with
  | normal =>
    obtain ⟨e', w'', fr', hR, hs, hfn, hk, hl⟩ := leaves_goingM a'.defers .returning w' { b.atR a' [] with mode := .returning } (c₀ :: cs) rfl rfl rfl hf rfl hF hr hq
    exact ⟨e', u, w'', fr', ⟨rfl, hR⟩, (by rw [hc]; exact ComesIn.of_steps (StepsIn.trans harr (.one (fenced_calm (fr := b.atR a' []) hF hr rfl) (stepR_end rfl))) hs), hk, hfn, hl⟩
  | ret =>
    obtain ⟨todo, hs₀⟩ := harr.1 rfl
    obtain ⟨e', w'', fr', hR, hs, hfn, hk, hl⟩ := leaves_goingM a'.defers .returning w' { b.atR a' todo with mode := .returning } (c₀ :: cs) rfl rfl rfl hf rfl hF hr hq
    exact ⟨e', u, w'', fr', ⟨rfl, hR⟩, (by rw [hc]; exact ComesIn.of_steps hs₀ hs), hk, hfn, hl⟩
  | panic chain =>
    obtain ⟨todo, hs₀⟩ := harr
    obtain ⟨e', w'', fr', hR, hs, hfn, hk, hl⟩ := leaves_goingM a'.defers (.panicking chain) w' { b.atR a' todo with mode := .panicking chain } (c₀ :: cs) rfl rfl rfl hf rfl hF hr hq
    exact ⟨e', u, w'', fr', ⟨rfl, hR⟩, (by rw [hc]; exact ComesIn.of_steps hs₀ hs), hk, hfn, hl⟩
  | exit id => exact hq.elim
  | goto l => exact hq.elim
  | outgrown => exact ⟨.outgrown, u, w', b, ⟨rfl, hq⟩, harr.resolve_left (by simp [b]), rfl, rfl, trivial⟩

/-- What a function's end must find. -/
def EndOk (P : Program) (fn : Func) (R : Ending → World → Prop) (B N : Nat) (base : List Deferred) (K : Kt) (r : V × St) (ρ : Rn) (s : St) (w : World) : Prop :=
  ∀ (x : Xt) (e' : Env) (s' : St) (ρ' : Rn) (tmps : Array Value) (w' : World) (l : List Nat), (x = .normal ∨ x = .ret) → VRs ρ' e' tmps.toList → Sim B ρ' s' w' → Step B ρ s w ρ' s' w' → K x e' s' = some r → Kept N ρ' w' l →
    LeavesInM Fence.wide 0 P fn tmps R (Marks l ++ base) .returning w'
theorem EndOk.step {fn : Func} {R : Ending → World → Prop} {K : Kt} {r : V × St} {ρ ρ1 : Rn} {s s1 : St} {w w1 : World} (h : EndOk P fn R B N base K r ρ s w) (hs : Step B ρ s w ρ1 s1 w1) : EndOk P fn R B N base K r ρ1 s1 w1 :=
  fun x e' s' ρ' tmps w' l hx he hs' hst hK hk => h x e' s' ρ' tmps w' l hx he hs' (hs.trans hst) hK hk

theorem deferOf_ok {ops l : List Oper} {c : Call} (h : deferOf ops = some (l, c)) : ∃ o, ops = l ++ [o] ∧ o.op = .defer c ∧ o.guard = none ∧ o.dst = none := by
  unfold deferOf at h
  split at h
  · rename_i o ho
    split at h
    · rename_i c' h1 h2 h3
      simp only [Option.some.injEq, Prod.mk.injEq] at h
      obtain ⟨rfl, rfl⟩ := h
      refine ⟨o, ?_, h1, h2, h3⟩
      obtain ⟨hne, ho⟩ := List.getLast?_eq_some_iff.1 ho
      rw [ho]; simp
    · cases h
  · cases h

omit hm in
theorem top_base {n : Nat} (hG : GoOk P F n) {ρ0 : Rn} {Y : Yt} (hY : YOk P B ρ0 Y) {fn : Func} {R : Ending → World → Prop} {nt rt : Nat} {c : Code} {ic : IC × Nat} (hc : compC P nt true [] rt rt c = some ic)
    {K : Kt} {r : V × St} {e : Env} {s : St} {ρ : Rn} {a : Act} {w : World} (hx : ∀ i e s, K (.exit i) e s ≠ some r) (hend : EndOk P fn R B N base K r ρ s w) (hg : go (LC F n Y).1 (LC F n Y).2 ic.1 e s K = some r)
    (hle : Le ρ0 ρ) (hact : ActOk N base ρ w a) (he : VRs ρ e a.tmps.toList) (hs : Sim B ρ s w) : c.wpIn (fen none) 0 P (bodyPostM Fence.wide 0 P fn R) a w := by
  refine Code.wpIn_mono ?_ (hG nt true c [] rt rt ic hc B N base ρ0 Y hY none (.inl rfl) e s K r hg ρ a w hle hact he hs)
  rintro X a' w' ⟨x, e', s1, hxr, ⟨ρ', k1, k2, k3, hN, l, k4, k5⟩, hK⟩
  cases x with
  | exit i => exact absurd hK (hx _ _ _)
  | normal =>
    cases X <;> first | (cases hxr; done) | skip
    show LeavesInM _ _ _ _ _ _ _ _ _
    rw [k4]; exact hend .normal e' s1 ρ' a'.tmps w' l (.inl rfl) k1 k2 k3 hK k5
  | ret =>
    cases X <;> first | (cases hxr; done) | skip
    show LeavesInM _ _ _ _ _ _ _ _ _
    rw [k4]; exact hend .ret e' s1 ρ' a'.tmps w' l (.inr rfl) k1 k2 k3 hK k5

omit hm in
theorem top_seq {n : Nat} (hG : GoOk P F n) {ρ0 : Rn} {Y : Yt} (hY : YOk P B ρ0 Y) {fn : Func} {R : Ending → World → Prop} {nt rt : Nat} {x y : Code} {ix iy : IC × Nat} (hc : compC P nt true [] rt iy.2 x = some ix)
    {K : Kt} {r : V × St} {e : Env} {s : St} {ρ : Rn} {a : Act} {w : World} (hx : ∀ i e s, K (.exit i) e s ≠ some r) (hend : EndOk P fn R B N base K r ρ s w) (hg : go (LC F n Y).1 (LC F n Y).2 (.seq ix.1 iy.1) e s K = some r)
    (hle : Le ρ0 ρ) (hact : ActOk N base ρ w a) (he : VRs ρ e a.tmps.toList) (hs : Sim B ρ s w)
    (ih : ∀ {e1 s1 ρ1 a1 w1}, EndOk P fn R B N base K r ρ1 s1 w1 → go (LC F n Y).1 (LC F n Y).2 iy.1 e1 s1 K = some r → Le ρ0 ρ1 → ActOk N base ρ1 w1 a1 → VRs ρ1 e1 a1.tmps.toList → Sim B ρ1 s1 w1 → y.wpIn (fen none) 0 P (bodyPostM Fence.wide 0 P fn R) a1 w1) :
    (Code.seq x y).wpIn (fen none) 0 P (bodyPostM Fence.wide 0 P fn R) a w := by
  simp only [go] at hg
  refine wpIn_seq (Code.wpIn_mono ?_ (hG nt true x [] rt iy.2 ix hc B N base ρ0 Y hY none (.inl rfl) e s _ r hg ρ a w hle hact he hs))
  refine QK_then (fun e' s' a' w' hA hK => ?_) (fun i e' s' a' w' hA hK => ?_) (fun e' s' a' w' hA hK => ?_)
  · obtain ⟨ρ', h1, h2, h3, h4⟩ := hA
    exact ih (hend.step h3) hK (hle.trans h3.le) h4 h1 h2
  · exact absurd hK (hx _ _ _)
  · obtain ⟨ρ', h1, h2, h3, hN, l, k4, k5⟩ := hA
    show LeavesInM _ _ _ _ _ _ _ _ _
    rw [k4]; exact hend .ret e' s' ρ' a'.tmps w' l (.inr rfl) h1 h2 h3 hK k5

omit hm in
theorem top_defer {n : Nat} (hG : GoOk P F n) {ρ0 : Rn} {Y : Yt} (hC : CallsOk P B ρ0 (LC F n Y).2) {fn : Func} {R : Ending → World → Prop} {id : Nat} {ops : Array Oper} {y : Code} {iis : List II} {keep : List Bool} {f : Operand} {iy : IC} {l : List Oper} {c : Call}
    (hd : deferOf ops.toList = some (l, c)) (hf : c.callee = .value f) (hi : l.mapM (compII P ops.toList) = some iis)
    {K : Kt} {r : V × St} {e : Env} {s : St} {ρ : Rn} {a : Act} {w : World} (hend : EndOk P fn R B N base K r ρ s w) (hg : go (LC F n Y).1 (LC F n Y).2 (.seq (.region iis keep) (.dfr (argOf f) (c.args.toList.map argOf) iy)) e s K = some r)
    (hle : Le ρ0 ρ) (hact : ActOk N base ρ w a) (he : VRs ρ e a.tmps.toList) (hs : Sim B ρ s w)
    (ih : ∀ {N base K e1 s1 ρ1 a1 w1}, (∀ i e s, K (.exit i) e s ≠ some r) → EndOk P fn R B N base K r ρ1 s1 w1 → go (LC F n Y).1 (LC F n Y).2 iy e1 s1 K = some r → Le ρ0 ρ1 → ActOk N base ρ1 w1 a1 → VRs ρ1 e1 a1.tmps.toList → Sim B ρ1 s1 w1 → y.wpIn (fen none) 0 P (bodyPostM Fence.wide 0 P fn R) a1 w1) :
    (Code.seq (.region id ops false) y).wpIn (fen none) 0 P (bodyPostM Fence.wide 0 P fn R) a w := by
  obtain ⟨o, hops, ho, hog, hod⟩ := deferOf_ok hd
  simp only [go, goOps_run, Option.bind_eq_some_iff] at hg
  obtain ⟨⟨e1, s1⟩, hr, hK⟩ := hg
  refine wpIn_seq (wpIn_region_list ?_)
  rw [hops]
  refine runOps_ok2 hC (ops := ops) l iis hi hr hle he hs ?_
  rintro a1 w1 hA
  obtain ⟨ρ1, k1, k2, k3, hN, l1, k4, k5⟩ := hA.c hact
  have k1m : VRs ρ1 (maskEnv keep e1) a1.tmps.toList := VRs_mask _ k1
  have hfv := eval_VR k1m f
  split at hK
  · rename_i g pre caps hge
    rw [hge] at hfv
    split at hK
    · rename_i h0
      obtain ⟨p', c', hfe, hp, hcp⟩ : ∃ p' c', a1.eval f = .func (.func g) p' c' ∧ VRs ρ1 pre p'.toList ∧ VRs ρ1 caps c'.toList := by
        rcases hfv with ⟨_, p', c', h1, h2, h3⟩ | ⟨h1, _⟩
        · exact ⟨p', c', h1, h2, h3⟩
        · omega
      have hargs : VRs ρ1 ((c.args.toList.map argOf).map (ev (maskEnv keep e1))) (c.args.map a1.eval).toList := by
        rw [Array.toList_map]; exact VRs_map k1m
      have hcargs : VRs ρ1 (pre ++ (c.args.toList.map argOf).map (ev (maskEnv keep e1)) ++ caps) ((p' ++ c.args.map a1.eval) ++ c').toList := by
        simp only [Array.toList_append]
        exact VRs_append (VRs_append hp hargs) hcp
      unfold wpListIn
      have hw : Region.wanted o (yielded ops a1.tmps) = true := by simp [Region.wanted, hog]
      rw [hw, if_pos rfl]
      refine ⟨fun _ _ => trivial, ?_⟩
      have hrun : (o.semAt (fen none).round a1.eval).run P w1 = .ok (.defer { target := .fn (.func g) c', args := p' ++ c.args.map a1.eval }) w1 := by
        show (execOp a1.eval o).run P w1 = _
        simp only [execOp, ho, resolve, hf, hfe, Deferred.ofValue, Sem.run_bind, Sem.run_pure, Result.andThen_ok]
      rw [hrun, Oper.uponIn_defer, hod]
      show y.wpIn (fen none) 0 P (bodyPostM Fence.wide 0 P fn R) { a1 with defers := { target := .fn (.func g) c', args := p' ++ c.args.map a1.eval } :: a1.defers } w1
      refine ih (N := w1.heap.size) (base := { target := .fn (.func g) c', args := p' ++ c.args.map a1.eval } :: (Marks l1 ++ base)) (K := dfrK (LC F n Y).2 g (pre ++ (c.args.toList.map argOf).map (ev (maskEnv keep e1)) ++ caps) K)
        (fun i e s h => by cases h) ?_ hK (hle.trans k3.le) ⟨Nat.le_refl _, [], by rw [k4]; rfl, List.nodup_nil, fun r hr => by cases hr⟩ k1m k2
      intro x e' s' ρ' tmps w' l2 hx he' hs' hst hK2 hk2
      have hK3 : ∃ v s2, (LC F n Y).2 g (pre ++ (c.args.toList.map argOf).map (ev (maskEnv keep e1)) ++ caps) s' = some (v, s2) ∧ K x e' s2 = some r := by
        rcases hx with rfl | rfl
        · simp only [dfrK, Option.bind_eq_some_iff] at hK2
          obtain ⟨⟨v, s2⟩, h1, h2⟩ := hK2
          exact ⟨v, s2, h1, h2⟩
        · simp only [dfrK, Option.bind_eq_some_iff] at hK2
          obtain ⟨⟨v, s2⟩, h1, h2⟩ := hK2
          exact ⟨v, s2, h1, h2⟩
      obtain ⟨v, s2, hcall, hK4⟩ := hK3
      obtain ⟨hent, hcs⟩ := (hC g _ s' v s2 hcall).1 h0
      refine leave_marks (N := w1.heap.size) k2.base l2 hk2 hs' fun w2 q1 q2 q3 => ?_
      have hst2 : Step B ρ1 s1 w1 ρ' s' w2 := ⟨hst.le, hst.below.trans (q2.mono k2.base), hst.next, hst.old, hst.ghost, fun b hb hn => ⟨(q2.block b hb).trans (hst.keep b hb hn).1, (hst.keep b hb hn).2⟩, by rw [q3]; exact hst.size⟩
      have hcd := (hcs ρ' w2 ((p' ++ c.args.map a1.eval) ++ c') ((hle.trans k3.le).trans hst.le) (VRs_mono hst.le _ _ hcargs) q1).2
      refine ⟨by simp, .inr ⟨fun h => absurd h (by simp [Fence.wide]), .func g, c', g, (p' ++ c.args.map a1.eval) ++ c', rfl, callFunc_enters hent _ _, fun _ _ => trivial, ?_⟩⟩
      refine CallsDIn.mono hcd ?_
      rintro en u' w3 ⟨rfl, ρ3, v', rfl, hv, m1, m2⟩
      show LeavesInM Fence.wide 0 P fn tmps R (Marks l1 ++ base) .returning w3
      exact hend x e' s2 ρ3 tmps w3 l1 hx (VRs_mono m2.le _ _ he') m1 (k3.trans (hst2.trans m2)) hK4 ((k5.step hst2).step m2)
    · cases hK
  · cases hK

omit hm in
theorem top_ok {n : Nat} (hG : GoOk P F n) {ρ0 : Rn} {Y : Yt} (hY : YOk P B ρ0 Y) (hC : CallsOk P B ρ0 (LC F n Y).2) {fn : Func} {R : Ending → World → Prop} {nt rt : Nat} {r : V × St} : ∀ (c : Code) {ic : IC × Nat}, compTop P nt rt c = some ic →
    ∀ {N : Nat} {base : List Deferred} {K : Kt} {e : Env} {s : St} {ρ : Rn} {a : Act} {w : World}, (∀ i e s, K (.exit i) e s ≠ some r) → EndOk P fn R B N base K r ρ s w → go (LC F n Y).1 (LC F n Y).2 ic.1 e s K = some r →
    Le ρ0 ρ → ActOk N base ρ w a → VRs ρ e a.tmps.toList → Sim B ρ s w → c.wpIn (fen none) 0 P (bodyPostM Fence.wide 0 P fn R) a w := by
  intro c
  induction c with
  | seq x y _ ihy =>
    intro ic hc N base K e s ρ a w hx hend hg hle hact he hs
    simp only [compTop, Option.bind_eq_bind, Option.bind_eq_some_iff] at hc
    obtain ⟨iy, hy, hc⟩ := hc
    split at hc
    · rename_i id ops draw
      split at hc
      · rename_i l c hd
        split at hc
        · rename_i f hf
          simp only [Option.pure_def, Option.bind_eq_some_iff, Option.some.injEq] at hc
          obtain ⟨iis, hi, rfl⟩ := hc
          exact top_defer hG hC hd hf hi hend hg hle hact he hs (fun h1 h2 h3 h4 h5 h6 h7 => ihy hy h1 h2 h3 h4 h5 h6 h7)
        · cases hc
      · simp only [Option.pure_def, Option.bind_eq_some_iff, Option.some.injEq] at hc
        obtain ⟨ix, hx', rfl⟩ := hc
        exact top_seq hG hY hx' hx hend hg hle hact he hs (fun h2 h3 h4 h5 h6 h7 => ihy hy hx h2 h3 h4 h5 h6 h7)
    · simp only [Option.pure_def, Option.bind_eq_some_iff, Option.some.injEq] at hc
      obtain ⟨ix, hx', rfl⟩ := hc
      exact top_seq hG hY hx' hx hend hg hle hact he hs (fun h2 h3 h4 h5 h6 h7 => ihy hy hx h2 h3 h4 h5 h6 h7)
  | _ =>
    intro ic hc N base K e s ρ a w hx hend hg hle hact he hs
    exact top_base hG hY (by simpa only [compTop] using hc) hx hend hg hle hact he hs

omit hm in
theorem calls_ok (hF : ∀ f fn, F f = some fn → compF P f = some fn) (n : Nat) (hG : GoOk P F n) {ρ0 : Rn} {Y : Yt} (hY : YOk P B ρ0 Y) (hC : CallsOk P B ρ0 (LC F n Y).2) : CallsOk P B ρ0 (LC F (n + 1) Y).2 := by
  intro f args s v s' hcall
  simp only [LC] at hcall
  refine ⟨fun hf0 => ?_, fun hf0 ρ w cargs p hle ha hs hp => ?_⟩
  · rw [if_pos hf0] at hcall
    split at hcall
    · rename_i fn' hf
      obtain ⟨fn, c, nt, rt, b, h1, h2, h3, h4, hb, h5, h6⟩ := compF_ok (hF f fn' hf)
      refine ⟨⟨fn, h1, h3, by rw [h2]; rfl⟩, fun ρ w cargs hle hargs hs => ?_⟩
      have hl := VRs_length hargs
      have he : VRs ρ (initEnv fn' args) (cargs ++ Array.replicate (fn.ntmps - cargs.size) undef).toList := by
        simp only [initEnv, Array.toList_append, Array.toList_replicate]
        refine VRs_append hargs ?_
        rw [h5, hl, Array.length_toList]
        exact VRs_any _ _ (by simp)
      have hwp : c.wpIn Fence.wide 0 P (bodyPostM Fence.wide 0 P fn (Left B ρ s w v s')) { tmps := cargs ++ Array.replicate (fn.ntmps - cargs.size) undef, defers := [] } w := by
        refine top_ok hG hY hC c h4 (N := w.heap.size) (base := []) (K := fin fn') (r := (v, s')) (fun i e s h => by simp [fin] at h) ?_ (by rw [hb]; exact hcall) hle (ActOk.nil (Nat.le_refl _)) he hs
        intro x e' s1 ρ' tmps w' l hx k1 k2 k3 hK k5
        have hfin : ∃ vs, resultsI e' s1 fn'.results = some vs ∧ s1 = s' ∧ packRes vs = v := by
          rcases hx with rfl | rfl
          · simp only [fin, Option.map_eq_some_iff, Prod.mk.injEq] at hK
            obtain ⟨vs, hv, rfl, rfl⟩ := hK
            exact ⟨vs, hv, rfl, rfl⟩
          · simp only [fin, Option.map_eq_some_iff, Prod.mk.injEq] at hK
            obtain ⟨vs, hv, rfl, rfl⟩ := hK
            exact ⟨vs, hv, rfl, rfl⟩
        obtain ⟨vs, hv, rfl, hvv⟩ := hfin
        refine leave_marks hs.base l k5 k2 fun w2 q1 q2 q3 => ?_
        obtain ⟨L, hL, hLV⟩ := resultsI_ok (P := P) k1 q1 fn.results.toList fn'.results vs h6 hv
        have hLl := VRs_length hLV
        have hst : Step B ρ s w ρ' s1 w2 := ⟨k3.le, k3.below.trans (q2.mono hs.base), k3.next, k3.old, k3.ghost, fun b hb hn => ⟨(q2.block b hb).trans (k3.keep b hb hn).1, (k3.keep b hb hn).2⟩, by rw [q3]; exact k3.size⟩
        have hres : ∃ v', (results fn tmps).run P w2 = .ok v' w2 ∧ VR ρ' v v' := by
          have hmap : (fn.results.mapM (readRes tmps)).run P w2 = .ok L.toArray w2 := by
            rw [Array.mapM_eq_mapM_toList]
            simp [hL]
          rw [results_eq]
          simp only [Sem.run_bind, hmap, Result.andThen_ok, Sem.run_pure]
          refine ⟨_, rfl, ?_⟩
          subst hvv
          cases L with
          | nil =>
            cases vs with
            | nil => exact ⟨_, rfl, rfl⟩
            | cons _ _ => simp at hLl
          | cons y L =>
            cases vs with
            | nil => simp at hLl
            | cons u vs =>
              cases L with
              | nil =>
                cases vs with
                | nil => exact (VRs_cons_iff.1 hLV).1
                | cons _ _ => simp at hLl
              | cons z L =>
                cases vs with
                | nil => simp at hLl
                | cons u2 vs => exact ⟨_, rfl, hLV⟩
        obtain ⟨v', hr, hvr⟩ := hres
        exact ⟨v', hr, ρ', v', rfl, hvr, q1, hst⟩
      exact ⟨callsIn_of_wp_marks h1 h2 trivial hwp, callsDIn_of_wp_marks h1 h2 trivial hwp⟩
    · cases hcall
  · rw [if_neg (by omega)] at hcall
    exact hY _ _ _ _ _ hcall ρ w cargs p hle ha hs hp

include hm in
/-- The machine's calls, however deep, are Go's. -/
theorem sound (hF : ∀ f fn, F f = some fn → compF P f = some fn) : ∀ n, (∀ B ρ0 Y, YOk P B ρ0 Y → CallsOk P B ρ0 (LC F n Y).2) ∧ GoOk P F n := by
  intro n
  induction n using Nat.strongRecOn with
  | _ n ih =>
    have hC : ∀ B ρ0 Y, YOk P B ρ0 Y → CallsOk P B ρ0 (LC F n Y).2 := by
      intro B ρ0 Y hY
      cases n with
      | zero => intro f args s v s' h; simp [LC] at h
      | succ n => exact calls_ok hF n (ih n (by omega)).2 hY ((ih n (by omega)).1 B ρ0 Y hY)
    exact ⟨hC, go_ok hm n (fun m hm' => by
      rcases Nat.lt_or_ge m n with h | h
      · exact (ih m h).1
      · have : m = n := by omega
        subst this; exact hC) (fun m hm' => (ih m hm').2)⟩
end
end Go.IM
