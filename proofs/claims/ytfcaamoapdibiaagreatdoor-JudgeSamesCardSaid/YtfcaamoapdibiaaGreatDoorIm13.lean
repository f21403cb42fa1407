/- From an answer of the ideal machine to a row that says 'true; the input reads as it did'. -/
import Derived.Test.YtfcaamoapdibiaaGreatDoorIm15
import Derived.ProofKit
import Derived.SizedLaws
set_option linter.unusedSimpArgs false
set_option linter.unusedVariables false
namespace Go.IM
open Go.RowKit Go.ChangeShapes

/-- An object that was there. -/
def oldO : Obj → Option O
  | .cells C _ _ => some (.cells (ofVals C.toList) none)
  | .map M _ => if M.size = 0 then some (.map [] 0) else none
  | _ => none

/-- The store of what was there when the call began (no maps with entries). -/
def oldSt (W : World) : St :=
  ⟨fun b => match W.heap[b]? with
    | some (.cells C _ _) => some (.cells (ofVals C.toList) none)
    | _ => none, 0, fun _ => none⟩

theorem oldSt_sim (W : World) : Sim W.heap.size none0 (oldSt W) W where
  base := Nat.le_refl _
  old := fun b o h => by
    simp only [oldSt] at h
    split at h
    · rename_i C el fr hb
      cases h
      refine ⟨?_, rfl, C, el, fr, hb, ofVals_VRs _ _⟩
      rcases Nat.lt_or_ge b W.heap.size with h | h
      · exact h
      · rw [Array.getElem?_eq_none h] at hb; cases hb
    · cases h
  dom := fun k p h => by simp [none0] at h
  obj := fun k p o h => by simp [none0] at h
  inj := fun k k' p p' h => by simp [none0] at h
  fresh := fun _ _ => rfl

section
variable {P : Program} {H : Type} {enc : TypeId × Value → H}

theorem trodAll_below (hl : laidOutB P = true) {W W' : World} (hb : Below W.heap.size W W') :
    ∀ {ts : List TypeId} {vs : List Value} {ds : List (DataW H)} {ps : List MemPlace}, ts.all (fun t => P.readableRec t && decide (t < P.types.size)) = true →
      DataW.TrodAll enc P W 0 (fun _ => true) true ts vs ds ps → (∀ x ∈ ps, x.block < W.heap.size) → DataW.TrodAll enc P W' 0 (fun b => decide (b < W.heap.size)) true ts vs ds ps
  | [], [], [], _, _, h, _ => h
  | t :: ts, v :: vs, d :: ds, ps, hr, ⟨p, q, h1, h2, e⟩, hlt => by
    subst e
    simp only [List.all_cons, Bool.and_eq_true, decide_eq_true_eq] at hr
    exact ⟨p, q, Below.trod hl hr.1.1 hr.1.2 h1 hb (fun x hx => hlt x (List.mem_append_left _ hx)),
      trodAll_below hl hb hr.2 h2 (fun x hx => hlt x (List.mem_append_right _ hx)), rfl⟩
  | [], _ :: _, _, _, _, h, _ => h.elim
  | [], [], _ :: _, _, _, h, _ => h.elim
  | _ :: _, [], _, _, _, h, _ => h.elim
  | _ :: _, _ :: _, [], _, _, h, _ => h.elim

/-- The conclusion of a row that says 'true; the input reads as it did'. -/
theorem post_true {fn : Func} {s : ChangeSpec} {apart fresh handsOn : Bool} {W W' : World} {args : Array Value} {ds gs : List (DataW H)} {before : List MemPlace} {bt : TypeId}
    (hl : laidOutB P = true) (hW : DataW.Whole enc P fn.params.toList s.vars apart W args.toList ds gs before) (hb : Below W.heap.size W W')
    (hr : fn.params.toList.all (fun t => P.readableRec t && decide (t < P.types.size)) = true)
    (hres : fn.resultTypes = #[bt]) (hbt : P.underlying bt = some .bool) (hv : s.vars = [])
    (hs : s.fn H (ds ++ gs) = { results := [.lit (.bool true)], args := ds }) :
    s.post enc P fn apart fresh handsOn false W args (.bool true) W' := by
  have hW0 := hW
  obtain ⟨p, q, hA, hV, e, hz, hn⟩ := hW
  rw [hv] at hV
  have hq : q = [] := by
    cases gs with
    | nil => exact hV
    | cons _ _ => exact hV.elim
  subst hq
  have hlt : ∀ x ∈ before, x.block < W.heap.size := fun x hx => hW0.lt x hx
  refine ⟨ds, gs, before, [], before, [], hW0, ?_, ?_, ?_, hb.frame _, fun h => by cases h⟩
  · rw [hs, hres]
    refine ⟨[], [], ⟨1, ?_⟩, rfl, rfl⟩
    show DataW.trod enc P W' _ _ _ 1 bt [.bool true] = _
    simp only [DataW.trod, hbt]
  · rw [hs]
    have : before = p := by simp [e]
    rw [this] at hlt ⊢
    exact trodAll_below hl hb hr hA hlt
  · rw [hs, hv]
    cases gs with
    | nil => exact rfl
    | cons _ _ => exact hV.elim

/-- A call that the ideal machine answers with 'true', from any start: what the row asks. -/
theorem lifted_true {a : Assume} {C : Checked} {os : Os} {f : FuncId} {fn : Func} {s : ChangeSpec} {conds : List PathCond} {apart fresh handsOn : Bool} {bt : TypeId}
    (own : ownKnob C.prog.godebug = none) (started : os.Started) (noInit : C.prog.inits.idxOf? f = none) (hfn : C.prog.funcs[f]? = some fn)
    (hl : laidOutB C.prog = true) (hm : C.prog.follows .mixedOrders = true)
    (hr : fn.params.toList.all (fun t => C.prog.readableRec t && decide (t < C.prog.types.size)) = true)
    (hres : fn.resultTypes = #[bt]) (hbt : C.prog.underlying bt = some .bool) (hv : s.vars = [])
    (witness : ∃ (w : World) (tape : Tape) (i : Input), w.os = os ∧ (w.forCall tape i).Shaped C.prog ∧ i.vars = [] ∧ Input.okWide C.prog (w.forCall tape i) .any w.heap.size f i ∧
      s.pre6 enc C.prog fn conds apart (w.forCall tape i).memory i.args ∧ a.holds C.prog (lone (Frame.enter C.prog f i.args .normal) [] (w.forCall tape i)))
    (hs : ∀ ds : List (DataW H), ds.length = fn.params.size → s.fn H ds = { results := [.lit (.bool true)], args := ds })
    (contract : ∀ (W : World) (base : Nat) (args : Array Value) (ds : List (DataW H)) (before : List MemPlace),
      (∀ (j : Nat) t v, fn.params[j]? = some t → args[j]? = some v → Value.okWide C.prog W .any base t v) →
      DataW.TrodAll enc C.prog W 0 (fun _ => true) true fn.params.toList args.toList ds before →
      (DataW.weightsEach C.prog fn.params.toList ds).all (· ≤ reachBytes) = true →
      ∃ st, call (shutF C.prog) f (ofVals args.toList) (oldSt W) = some (.bool true, st)) (h0 : f < yBase := by decide) :
    ReturnsInHanded a C os f .any (s.pre6 enc C.prog fn conds apart) (s.post enc C.prog fn apart fresh handsOn false) := by
  refine returnsInHanded_of_change_sized own started noInit hfn witness ?_
  intro W base args ds gs before hval hW _ hw _
  have hW0 := hW
  obtain ⟨p, q, hA, hV, e, hz, hn⟩ := hW
  rw [hv] at hV
  have hg : gs = [] := by
    cases gs with
    | nil => rfl
    | cons _ _ => exact hV.elim
  subst hg
  have hvt : s.plain.varTypes C.prog = [] := by
    simp [ChangeSpec.plain, DataSpec.varTypes, hv]
  rw [hvt, List.append_nil, List.append_nil] at hw
  obtain ⟨st, hc⟩ := contract W base args ds p hval hA hw
  have hds : ds.length = fn.params.size := by
    have : ∀ {ts : List TypeId} {vs : List Value} {ds : List (DataW H)} {ps : List MemPlace}, DataW.TrodAll enc C.prog W 0 (fun _ => true) true ts vs ds ps → ds.length = ts.length := by
      intro ts
      induction ts with
      | nil => intro vs ds ps h; cases vs <;> cases ds <;> first | rfl | exact h.elim
      | cons t ts ih => intro vs ds ps h; cases vs <;> cases ds <;> first | exact h.elim | (obtain ⟨_, _, _, h2, _⟩ := h; simp [ih h2])
    rw [this hA]; simp
  obtain ⟨henter, hcalls⟩ := (shut_sound hm W.heap.size none0 f _ _ _ _ hc).1 h0
  have hcl : Calls C.prog f args W _ := callsIn_wide.1 (hcalls none0 W args (Le.refl _) (ofVals_VRs _ _) (oldSt_sim W)).1
  refine hcl.mono fun en W' h => ?_
  obtain ⟨ρ', v', rfl, hv', hsim, hstep⟩ := h
  have hv'' : v' = .bool true := hv'
  subst hv''
  exact ⟨_, rfl, post_true hl hW0 hstep.below hr hres hbt hv (by rw [List.append_nil]; exact hs ds hds)⟩
end
end Go.IM
