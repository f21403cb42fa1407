/- Code, functions, calls: what the ideal machine returns is what Go's call returns. -/
import Derived.Test.YtoldkemimhebaaaIm10
set_option linter.unusedSimpArgs false
set_option linter.unusedVariables false
namespace Go.IM
open Go.RowKit (Below)

/-- Minimal numbers. -/
theorem exists_least {p : Nat → Prop} (h : ∃ n, p n) : ∃ n, p n ∧ ∀ m, m < n → ¬ p m := by
  obtain ⟨n, hn⟩ := h
  induction n using Nat.strongRecOn with
  | _ n ih =>
    by_cases hm : ∃ m, m < n ∧ p m
    · obtain ⟨m, h1, h2⟩ := hm
      exact ih m h1 h2
    · exact ⟨n, hn, fun m h1 h2 => hm ⟨m, h1, h2⟩⟩

noncomputable def least (p : Nat → Prop) : Nat := open Classical in if h : ∃ n, p n then Classical.choose (exists_least h) else 0
theorem least_spec {p : Nat → Prop} (h : ∃ n, p n) : p (least p) ∧ ∀ m, p m → least p ≤ m := by
  have hs := Classical.choose_spec (exists_least h)
  have he : least p = Classical.choose (exists_least h) := by unfold least; rw [dif_pos h]
  rw [he]
  exact ⟨hs.1, fun m hm => Nat.le_of_not_lt fun hlt => hs.2 m hlt hm⟩

section
variable {P : Program} {B : Nat}

/-- An exit of the machine and one of Go's. -/
def XR : Xt → Exit → Prop
  | .normal, .normal => True
  | .exit i, .exit j => i = j
  | .ret, .ret => True
  | _, _ => False

/-- What is behind code: the machine has come there too, and goes on to its result. -/
def QK (B : Nat) (K : Kt) (r : V × St) (ρ : Rn) (s : St) (w : World) (a : Act) (X : Exit) (a' : Act) (w' : World) : Prop :=
  ∃ x e' s', XR x X ∧ After B ρ s w a e' s' a' w' ∧ K x e' s' = some r

theorem compC_region {nt : Nat} {ex : List (Nat × Nat)} {rt out : Nat} {id : Nat} {ops : Array Oper} {draw : Bool} {ic : IC × Nat} (h : compC P nt ex rt out (.region id ops draw) = some ic) :
    ∃ iis, ops.toList.mapM (compII P ops.toList) = some iis ∧
      ((draw = false ∧ ic.1 = .region iis (keepOf nt out)) ∨ (draw = true ∧ (drawnOf ops.toList iis).ok = true ∧ ic.1 = .region (drawnOf ops.toList iis).canon (keepOf nt out))) := by
  simp only [compC, Option.bind_eq_bind, Option.pure_def, Option.bind_eq_some_iff] at h
  obtain ⟨iis, h1, h⟩ := h
  refine ⟨iis, h1, ?_⟩
  cases draw with
  | false => simp at h; exact .inl ⟨rfl, by rw [← h]⟩
  | true =>
    simp only [if_true] at h
    split at h
    · rename_i hok; cases h; exact .inr ⟨rfl, hok, rfl⟩
    · cases h

variable {F : Nat → Option IFn} (hm : P.follows .mixedOrders = true)

/-- Code at one depth of the machine. -/
def GoOk (P : Program) (F : Nat → Option IFn) (n : Nat) : Prop := ∀ (nt : Nat) (c : Code) (ex : List (Nat × Nat)) (rt out : Nat) (ic : IC × Nat), compC P nt ex rt out c = some ic → ∀ B e s (K : Kt) r, go (LC F n).1 (LC F n).2 ic.1 e s K = some r →
  ∀ ρ a w, VRs ρ e a.tmps.toList → Sim B ρ s w → c.wp P (QK B K r ρ s w a) a w

theorem QK_then {K' : Kt} {r : V × St} {ρ : Rn} {s : St} {w : World} {a : Act} {next : Act → World → Prop} {Q : Exit → Act → World → Prop}
    (hn : ∀ e' s' a' w', After B ρ s w a e' s' a' w' → K' .normal e' s' = some r → next a' w')
    (hx : ∀ i e' s' a' w', After B ρ s w a e' s' a' w' → K' (.exit i) e' s' = some r → Q (.exit i) a' w')
    (hr : ∀ e' s' a' w', After B ρ s w a e' s' a' w' → K' .ret e' s' = some r → Q .ret a' w') :
    ∀ X a' w', QK B K' r ρ s w a X a' w' → Exit.then next Q X a' w' := by
  rintro X a' w' ⟨x, e', s', hxr, hA, hK⟩
  cases x <;> cases X <;> first | (cases hxr; done) | skip
  · exact hn _ _ _ _ hA hK
  · cases (show _ = _ from hxr); exact hx _ _ _ _ _ hA hK
  · exact hr _ _ _ _ hA hK

theorem After.left {ρ ρ1 : Rn} {s s1 : St} {w w1 : World} {a a1 : Act} {e1 e2 : Env} {s2 : St} {a2 : Act} {w2 : World} (h : After B ρ s w a e1 s1 a1 w1) (k : ∀ ρ1, VRs ρ1 e1 a1.tmps.toList → Sim B ρ1 s1 w1 → After B ρ1 s1 w1 a1 e2 s2 a2 w2) :
    After B ρ s w a e2 s2 a2 w2 := by
  obtain ⟨ρ', h1, h2, h3, h4⟩ := h
  exact After.trans h3 h4 (k ρ' h1 h2)

theorem QK_trans {K : Kt} {r : V × St} {ρ ρ1 : Rn} {s s1 : St} {w w1 : World} {a a1 : Act} (h : Step B ρ s w ρ1 s1 w1) (hd : a1.defers = a.defers) {X : Exit} {a' : Act} {w' : World}
    (k : QK B K r ρ1 s1 w1 a1 X a' w') : QK B K r ρ s w a X a' w' := by
  obtain ⟨x, e', s', hx, hA, hK⟩ := k
  exact ⟨x, e', s', hx, After.trans h hd hA, hK⟩

include hm in
theorem go_ok (n : Nat) (hC : ∀ m, m ≤ n → CallsOk P (LC F m).2) (ih : ∀ m, m < n → GoOk P F m) : GoOk P F n := by
  intro nt c
  induction c with
  | skip =>
    intro ex rt out ic hc B e s K r hg ρ a w he hs
    simp only [compC, Option.some.injEq] at hc; subst hc
    simp only [go, goOps] at hg
    exact wp_skip ⟨.normal, _, s, trivial, ⟨ρ, VRs_mask _ he, hs, Step.refl _ _ _ _, rfl⟩, hg⟩
  | region id ops draw =>
    intro ex rt out ic hc B e s K r hg ρ a w he hs
    obtain ⟨iis, hi, ⟨rfl, hic⟩ | ⟨rfl, hok, hic⟩⟩ := compC_region hc
    · rw [hic] at hg
      simp only [go, goOps_run, Option.bind_eq_some_iff] at hg
      obtain ⟨⟨e', s'⟩, hr, hK⟩ := hg
      refine wp_region_list ?_
      refine runOps_ok (hC n (Nat.le_refl n)) ops.toList iis hi hr he hs ?_
      rintro a' w' ⟨ρ', h1, h2, h3, h4⟩
      exact ⟨.normal, _, s', trivial, ⟨ρ', VRs_mask _ h1, h2, h3, h4⟩, hK⟩
    · rw [hic] at hg
      simp only [go, goOps_run, Option.bind_eq_some_iff] at hg
      obtain ⟨⟨e', s'⟩, hr, hK⟩ := hg
      refine draw_ok hm (hC n (Nat.le_refl n)) hi hok hr he hs ?_
      rintro a' w' ⟨ρ', h1, h2, h3, h4⟩
      exact ⟨.normal, _, s', trivial, ⟨ρ', VRs_mask _ h1, h2, h3, h4⟩, hK⟩
  | seq x y ihx ihy =>
    intro ex rt out ic hc B e s K r hg ρ a w he hs
    simp only [compC, Option.bind_eq_bind, Option.pure_def, Option.bind_eq_some_iff, Option.some.injEq] at hc
    obtain ⟨iy, hy, ix, hx, rfl⟩ := hc
    simp only [go] at hg
    refine wp_seq (Code.wp_mono ?_ (ihx _ _ _ ix hx B e s _ r hg ρ a w he hs))
    refine QK_then (fun e' s' a' w' hA hK => ?_) (fun i e' s' a' w' hA hK => ?_) (fun e' s' a' w' hA hK => ?_)
    · obtain ⟨ρ', h1, h2, h3, h4⟩ := hA
      exact Code.wp_mono (fun X a2 w2 h => QK_trans h3 h4 h) (ihy _ _ _ iy hy B e' s' K r hK ρ' a' w' h1 h2)
    · exact ⟨.exit i, e', s', rfl, hA, hK⟩
    · exact ⟨.ret, e', s', trivial, hA, hK⟩
  | cond c x y ihx ihy =>
    intro ex rt out ic hc B e s K r hg ρ a w he hs
    simp only [compC, Option.bind_eq_bind, Option.pure_def, Option.bind_eq_some_iff, Option.some.injEq] at hc
    obtain ⟨ix, hx, iy, hy, rfl⟩ := hc
    simp only [go] at hg
    have hcv := eval_VR he c
    split at hg
    · rename_i hb
      rw [hb] at hcv
      exact wp_cond_true (VR_bool hcv) (ihx _ _ _ ix hx B e s K r hg ρ a w he hs)
    · rename_i hb
      rw [hb] at hcv
      exact wp_cond_false (VR_bool hcv) (ihy _ _ _ iy hy B e s K r hg ρ a w he hs)
    · cases hg
  | block id x ihx =>
    intro ex rt out ic hc B e s K r hg ρ a w he hs
    simp only [compC, Option.bind_eq_bind, Option.pure_def, Option.bind_eq_some_iff, Option.some.injEq] at hc
    obtain ⟨ix, hx, rfl⟩ := hc
    simp only [go] at hg
    refine wp_block (Code.wp_mono ?_ (ihx _ _ _ ix hx B e s _ r hg ρ a w he hs))
    rintro X a' w' ⟨x, e', s', hxr, hA, hK⟩
    cases x <;> cases X <;> first | (cases hxr; done) | skip
    · exact ⟨.normal, e', s', trivial, hA, hK⟩
    · rename_i i j
      cases (show i = j from hxr)
      simp only [Exit.inBlock]
      simp only at hK
      split at hK
      · rename_i hid; rw [if_pos hid]; exact ⟨.normal, e', s', trivial, hA, hK⟩
      · rename_i hid; rw [if_neg hid]; exact ⟨.exit i, e', s', rfl, hA, hK⟩
    · exact ⟨.ret, e', s', trivial, hA, hK⟩
  | loop x ihx =>
    intro ex rt out ic hc B e s K r hg ρ a w he hs
    simp only [compC, Option.bind_eq_bind, Option.pure_def, Option.bind_eq_some_iff, Option.some.injEq] at hc
    obtain ⟨i0, h0, ix, hx, rfl⟩ := hc
    change go (LC F n).1 (LC F n).2 (.loop (.seq ix.1 (.region [] (keepOf nt i0.2)))) (maskEnv (keepOf nt i0.2) e) s K = some r at hg
    generalize keepOf nt i0.2 = keep at hg
    generalize hbd : IC.seq ix.1 (.region [] keep) = body at hg
    let J : Nat → Act → World → Prop := fun m a' w' => m ≤ n ∧ ∃ e' s', After B ρ s w a e' s' a' w' ∧ go (LC F m).1 (LC F m).2 (.loop body) e' s' K = some r
    refine wp_loop (fun a' w' => ∃ m, J m a' w') (fun a' w' => least fun m => J m a' w') ⟨n, Nat.le_refl n, _, s, ⟨ρ, VRs_mask keep he, hs, Step.refl _ _ _ _, rfl⟩, hg⟩ ?_
    intro a1 w1 hex
    obtain ⟨hJ, hmin⟩ := least_spec hex
    generalize hmm : (least fun m => J m a1 w1) = m at hJ hmin
    obtain ⟨hmn, e1, s1, ⟨ρ1, h1, h2, h3, h4⟩, hg1⟩ := hJ
    rw [← hbd] at hg1
    simp only [go, goOps] at hg1
    rw [hbd] at hg1
    let K1 : Kt := fun
      | .normal, e, s => (LC F m).1 (.loop body) (maskEnv keep e) s K
      | .exit i, e, s => K (.exit i) e s
      | .ret, e, s => K .ret e s
    have hbody : x.wp P (QK B K1 r ρ1 s1 w1 a1) a1 w1 := by
      rcases Nat.lt_or_ge m n with hlt | hge
      · exact ih m hlt nt x _ _ _ ix hx B e1 s1 _ r hg1 ρ1 a1 w1 h1 h2
      · have : m = n := by omega
        subst this
        exact ihx _ _ _ ix hx B e1 s1 _ r hg1 ρ1 a1 w1 h1 h2
    refine Code.wp_mono ?_ hbody
    refine QK_then (fun e' s' a' w' hA hK => ?_) (fun i e' s' a' w' hA hK => ?_) (fun e' s' a' w' hA hK => ?_)
    · cases m with
      | zero => exact absurd (show (none : Res) = some r from hK) (by simp)
      | succ j =>
        have hA' : After B ρ1 s1 w1 a1 (maskEnv keep e') s' a' w' := by
          obtain ⟨ρ', q1, q2⟩ := hA
          exact ⟨ρ', VRs_mask _ q1, q2⟩
        have hJ' : J j a' w' := ⟨by omega, _, s', After.trans h3 h4 hA', hK⟩
        have := (least_spec (p := fun m => J m a' w') ⟨j, hJ'⟩).2 j hJ'
        exact ⟨⟨j, hJ'⟩, by omega⟩
    · exact ⟨.exit i, e', s', rfl, After.trans h3 h4 hA, hK⟩
    · exact ⟨.ret, e', s', trivial, After.trans h3 h4 hA, hK⟩
  | exit id =>
    intro ex rt out ic hc B e s K r hg ρ a w he hs
    simp only [compC, Option.some.injEq] at hc; subst hc
    simp only [go, goOps] at hg
    exact wp_exit ⟨.exit id, _, s, rfl, ⟨ρ, VRs_mask _ he, hs, Step.refl _ _ _ _, rfl⟩, hg⟩
  | ret =>
    intro ex rt out ic hc B e s K r hg ρ a w he hs
    simp only [compC, Option.some.injEq] at hc; subst hc
    simp only [go, goOps] at hg
    exact wp_ret ⟨.ret, _, s, trivial, ⟨ρ, VRs_mask _ he, hs, Step.refl _ _ _ _, rfl⟩, hg⟩
  | _ => intro ex rt out ic hc; simp [compC] at hc

def readRes (tmps : Array Value) : ResultVar → Sem Value
  | .tmp t => pure (tmps.getD t undef)
  | .cell a t => do loadVar t (← asAddr (tmps.getD a undef))

theorem results_eq (fn : Func) (tmps : Array Value) : results fn tmps = (do
    let vs ← fn.results.mapM (readRes tmps)
    pure (if h : vs.size = 1 then vs[0] else .tuple vs)) := by
  unfold results
  congr 1

theorem resultsI_ok {ρ : Rn} {s : St} {w : World} {tmps : Array Value} {e : Env} (he : VRs ρ e tmps.toList) (hs : Sim B ρ s w) : ∀ (l : List ResultVar) (rs : List (Nat × Option (Option Nat))) (vs : List V),
    l.mapM (resOf P) = some rs → resultsI e s rs = some vs →
    ∃ L : List Value, (l.mapM (readRes tmps)).run P w = .ok L w ∧ VRs ρ vs L
  | [], rs, vs, h, hr => by
    simp at h; subst h
    simp only [resultsI, Option.some.injEq] at hr; subst hr
    exact ⟨[], rfl, rfl⟩
  | .tmp t :: l, rs, vs, h, hr => by
    simp only [List.mapM_cons, resOf, Option.bind_eq_bind, Option.pure_def, Option.bind_some, Option.bind_eq_some_iff, Option.some.injEq] at h
    obtain ⟨rs', h2, rfl⟩ := h
    simp only [resultsI, Option.map_eq_some_iff] at hr
    obtain ⟨vs', h3, rfl⟩ := hr
    obtain ⟨L, h4, h5⟩ := resultsI_ok he hs l rs' vs' h2 h3
    refine ⟨tmps.getD t undef :: L, ?_, VRs_cons (eval_VR (a := ⟨tmps, []⟩) he (.tmp t)) h5⟩
    simp only [List.mapM_cons, readRes, Sem.run_bind, Sem.run_pure, Result.andThen_ok, h4]
  | .cell t ty :: l, rs, vs, h, hr => by
    simp only [List.mapM_cons, resOf, Option.bind_eq_bind, Option.pure_def, Option.bind_eq_some_iff, Option.map_eq_some_iff, Option.some.injEq] at h
    obtain ⟨_, ⟨n, hn, rfl⟩, rs', h2, rfl⟩ := h
    simp only [resultsI, Option.bind_eq_some_iff, Option.map_eq_some_iff] at hr
    obtain ⟨v, hv, vs', h3, rfl⟩ := hr
    obtain ⟨L, h4, h5⟩ := resultsI_ok he hs l rs' vs' h2 h3
    simp only [evalLook] at hv
    have ht := eval_VR (a := ⟨tmps, []⟩) he (.tmp t)
    simp only [argOf] at ht
    split at hv
    · rename_i ad had
      rw [had] at ht
      obtain ⟨c, hc, hp⟩ := ht
      simp only [Option.bind_eq_some_iff] at hv
      obtain ⟨cs, hcs, hv⟩ := hv
      obtain ⟨v', h6, h7⟩ := run_loadVar_ok hn hs hcs hv hp
      refine ⟨v' :: L, ?_, VRs_cons h7 h5⟩
      have hc' : tmps.getD t undef = .pointer (some c) := hc
      simp only [List.mapM_cons, readRes, Sem.run_bind, hc', asAddr, Sem.run_pure, Result.andThen_ok, h6, h4]
    · cases hv

theorem compF_ok {f : Nat} {fn' : IFn} (h : compF P f = some fn') : ∃ fn c nt rt b, P.funcs[f]? = some fn ∧ fn.body = some c ∧ (fn.name == "runtime.NumGoroutine") = false ∧ compC P nt [] rt rt c = some b ∧ b.1 = fn'.body ∧ fn'.ntmps = fn.ntmps ∧
    fn.results.toList.mapM (resOf P) = some fn'.results := by
  simp only [compF, Option.bind_eq_bind, Option.pure_def, Option.bind_eq_some_iff] at h
  obtain ⟨fn, h1, h⟩ := h
  split at h
  · cases h
  · rename_i hname
    simp only [Option.bind_eq_some_iff, Option.some.injEq] at h
    obtain ⟨c, h2, rs, h3, b, h4, rfl⟩ := h
    exact ⟨fn, c, _, _, b, h1, h2, by simpa using hname, h4, rfl, rfl, h3⟩

omit hm in
theorem calls_ok (hF : ∀ f fn, F f = some fn → compF P f = some fn) (n : Nat) (hG : GoOk P F n) : CallsOk P (LC F (n + 1)).2 := by
  intro f args s v s' hcall
  simp only [LC] at hcall
  split at hcall
  · rename_i fn' hf
    obtain ⟨fn, c, nt, rt, b, h1, h2, h3, h4, hb, h5, h6⟩ := compF_ok (hF f fn' hf)
    refine ⟨⟨fn, h1, h3, by rw [h2]; rfl⟩, fun B ρ w cargs hargs hs => ?_⟩
    refine calls_of_wp h1 h2 ?_
    have hl := VRs_length hargs
    have he : VRs ρ (initEnv fn' args) (cargs ++ Array.replicate (fn.ntmps - cargs.size) undef).toList := by
      simp only [initEnv, Array.toList_append, Array.toList_replicate]
      refine VRs_append hargs ?_
      rw [h5, hl, Array.length_toList]
      exact VRs_any _ _ (by simp)
    refine Code.wp_mono ?_ (hG nt c [] rt rt b h4 B (initEnv fn' args) s (fin fn') (v, s') (by rw [hb]; exact hcall) ρ _ w he hs)
    rintro X a' w' ⟨x, e', s1, hxr, ⟨ρ', k1, k2, k3, k4⟩, hK⟩
    have hfin : ∃ vs, resultsI e' s1 fn'.results = some vs ∧ s1 = s' ∧ packRes vs = v ∧ (X = .normal ∨ X = .ret) := by
      cases x with
      | exit i => simp [fin] at hK
      | normal =>
        simp only [fin, Option.map_eq_some_iff, Prod.mk.injEq] at hK
        obtain ⟨vs, hv, rfl, rfl⟩ := hK
        cases X <;> first | (cases hxr; done) | skip
        exact ⟨vs, hv, rfl, rfl, .inl rfl⟩
      | ret =>
        simp only [fin, Option.map_eq_some_iff, Prod.mk.injEq] at hK
        obtain ⟨vs, hv, rfl, rfl⟩ := hK
        cases X <;> first | (cases hxr; done) | skip
        exact ⟨vs, hv, rfl, rfl, .inr rfl⟩
    obtain ⟨vs, hv, rfl, hvv, hX⟩ := hfin
    obtain ⟨L, hL, hLV⟩ := resultsI_ok (P := P) k1 k2 fn.results.toList fn'.results vs h6 hv
    have hLl := VRs_length hLV
    have hres : ∃ v', (results fn a'.tmps).run P w' = .ok v' w' ∧ VR ρ' v v' := by
      have hmap : (fn.results.mapM (readRes a'.tmps)).run P w' = .ok L.toArray w' := by
        rw [Array.mapM_eq_mapM_toList]
        simp [hL]
      rw [results_eq]
      simp only [Sem.run_bind, hmap, Result.andThen_ok, Sem.run_pure]
      refine ⟨_, rfl, ?_⟩
      subst hvv
      cases L with
      | nil =>
        cases vs with
        | nil => exact ⟨_, rfl, rfl⟩
        | cons _ _ => simp at hLl
      | cons y L =>
        cases vs with
        | nil => simp at hLl
        | cons u vs =>
          cases L with
          | nil =>
            cases vs with
            | nil => exact (VRs_cons_iff.1 hLV).1
            | cons _ _ => simp at hLl
          | cons z L =>
            cases vs with
            | nil => simp at hLl
            | cons u2 vs => exact ⟨_, rfl, hLV⟩
    obtain ⟨v', hr, hvr⟩ := hres
    rcases hX with rfl | rfl
    · exact ⟨k4, v', hr, ρ', v', rfl, hvr, k2, k3⟩
    · exact ⟨k4, v', hr, ρ', v', rfl, hvr, k2, k3⟩
  · cases hcall

include hm in
/-- The machine's calls, however deep, are Go's. -/
theorem sound (hF : ∀ f fn, F f = some fn → compF P f = some fn) : ∀ n, CallsOk P (LC F n).2 ∧ GoOk P F n := by
  intro n
  induction n using Nat.strongRecOn with
  | _ n ih =>
    have hC : CallsOk P (LC F n).2 := by
      cases n with
      | zero => intro f args s v s' h; simp [LC] at h
      | succ n => exact calls_ok hF n (ih n (by omega)).2
    exact ⟨hC, go_ok hm n (fun m hm' => by
      rcases Nat.lt_or_ge m n with h | h
      · exact (ih m h).1
      · have : m = n := by omega
        subst this; exact hC) (fun m hm' => (ih m hm').2)⟩
end
end Go.IM
