/- From an answer of the ideal machine to a row that lists package variables and says 'true; the input reads as it did'. -/
import Derived.Test.YtfcaamoapdibiaaGreatDoorIm13
import Derived.Handed
import Derived.LaidMore
set_option linter.unusedSimpArgs false
set_option linter.unusedVariables false
namespace Go.IM
open Go.RowKit Go.ChangeShapes

section
variable {P : Program} {H : Type} {enc : TypeId × Value → H}

/-- A call that the ideal machine answers with 'true', from any start: what a row with listed variables asks. -/
theorem lifted_true_and {a : Assume} {C : Checked} {os : Os} {f : FuncId} {fn : Func} {s : ChangeSpec} {conds : List PathCond} {apart fresh handsOn : Bool} {bt : TypeId} {X : World → Array Value → Prop}
    (hX : ∀ (w w' : World) (args : Array Value), w.heap = w'.heap → X w args → X w' args)
    (own : ownKnob C.prog.godebug = none) (started : os.Started) (noInit : C.prog.inits.idxOf? f = none) (hfn : C.prog.funcs[f]? = some fn)
    (hl : laidOutB C.prog = true) (hm : C.prog.follows .mixedOrders = true)
    (hr : fn.params.toList.all (fun t => C.prog.readableRec t && decide (t < C.prog.types.size)) = true)
    (hres : fn.resultTypes = #[bt]) (hbt : C.prog.underlying bt = some .bool) (hv : s.vars = [])
    (witness : ∃ (w : World) (tape : Tape) (i : Input), w.os = os ∧ (w.forCall tape i).Shaped C.prog ∧ i.vars = [] ∧ Input.okWide C.prog (w.forCall tape i) .any w.heap.size f i ∧
      ((s.pre enc C.prog fn conds apart (w.forCall tape i).memory i.args ∧ X (w.forCall tape i).memory i.args) ∧ sizedMet enc C.prog fn (OpenSpec.ofChange s) apart (w.forCall tape i).memory i.args) ∧ a.holds C.prog (lone (Frame.enter C.prog f i.args .normal) [] (w.forCall tape i)))
    (hs : ∀ ds : List (DataW H), ds.length = fn.params.size → s.fn H ds = { results := [.lit (.bool true)], args := ds })
    (contract : ∀ (W : World) (base : Nat) (args : Array Value) (ds : List (DataW H)) (before : List MemPlace),
      (∀ (j : Nat) t v, fn.params[j]? = some t → args[j]? = some v → Value.okWide C.prog W .any base t v) →
      DataW.TrodAll enc C.prog W 0 (fun _ => true) true fn.params.toList args.toList ds before →
      (DataW.weightsEach C.prog fn.params.toList ds).all (· ≤ reachBytes) = true →
      ∃ st, call (shutF C.prog) f (ofVals args.toList) (oldSt W) = some (.bool true, st)) (h0 : f < yBase := by decide) :
    ReturnsInHanded a C os f .any (fun w args => (s.pre enc C.prog fn conds apart w args ∧ X w args) ∧ sizedMet enc C.prog fn (OpenSpec.ofChange s) apart w args) (s.post enc C.prog fn apart fresh handsOn false) := by
  refine returnsInHanded_of_change_and hX own started noInit hfn witness ?_
  intro W base args ds gs before hval hW _ hw _ _
  have hW0 := hW
  obtain ⟨p, q, hA, hV, e, hz, hn⟩ := hW
  rw [hv] at hV
  have hg : gs = [] := by
    cases gs with
    | nil => rfl
    | cons _ _ => exact hV.elim
  subst hg
  have hvt : s.plain.varTypes C.prog = [] := by
    simp [ChangeSpec.plain, DataSpec.varTypes, hv]
  rw [hvt, List.append_nil, List.append_nil] at hw
  obtain ⟨st, hc⟩ := contract W base args ds p hval hA hw
  have hds : ds.length = fn.params.size := by
    have : ∀ {ts : List TypeId} {vs : List Value} {ds : List (DataW H)} {ps : List MemPlace}, DataW.TrodAll enc C.prog W 0 (fun _ => true) true ts vs ds ps → ds.length = ts.length := by
      intro ts
      induction ts with
      | nil => intro vs ds ps h; cases vs <;> cases ds <;> first | rfl | exact h.elim
      | cons t ts ih => intro vs ds ps h; cases vs <;> cases ds <;> first | exact h.elim | (obtain ⟨_, _, _, h2, _⟩ := h; simp [ih h2])
    rw [this hA]; simp
  obtain ⟨henter, hcalls⟩ := (shut_sound hm W.heap.size none0 f _ _ _ _ hc).1 h0
  have hcl : Calls C.prog f args W _ := callsIn_wide.1 (hcalls none0 W args (Le.refl _) (ofVals_VRs _ _) (oldSt_sim W)).1
  refine hcl.mono fun en W' h => ?_
  obtain ⟨ρ', v', rfl, hv', hsim, hstep⟩ := h
  have hv'' : v' = .bool true := hv'
  subst hv''
  exact ⟨_, rfl, post_true hl hW0 hstep.below hr hres hbt hv (by rw [List.append_nil]; exact hs ds hds)⟩
end
end Go.IM
