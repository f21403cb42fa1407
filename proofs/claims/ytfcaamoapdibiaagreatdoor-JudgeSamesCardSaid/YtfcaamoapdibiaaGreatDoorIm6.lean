/- Operations that look into the store; that make; that act. -/
import Derived.Test.YtfcaamoapdibiaaGreatDoorIm5
set_option linter.unusedSimpArgs false
set_option linter.unusedVariables false
namespace Go.IM
open Go.RowKit (Below)
section
variable {P : Program} {B : Nat} {ρ : Rn} {s : St} {w : World} {a : Act} {e : Env}

theorem run_loadVar_ok {t : TypeId} {n : Option Nat} (ht : aggN P t = some n) (hs : Sim B ρ s w) {ad : Ad} {l : List V} {v : V} {c : Addr}
    (hr : readCells s ad (n.getD 1) = some l) (hv : packI n l = some v) (hp : place ρ ad = some c) : ∃ v', (loadVar t c).run P w = .ok v' w ∧ VR ρ v v' := by
  obtain ⟨hagg, hsz⟩ := aggN_ok ht
  obtain ⟨hlen, L, hL, hcell⟩ := hs.read hr hp
  have hl := VRs_length hL
  cases n with
  | none =>
    simp only [Option.getD_none] at hlen
    cases l with
    | nil => simp at hlen
    | cons x xs =>
      simp only [packI, List.head?_cons, Option.some.injEq] at hv
      subst hv
      obtain ⟨y, ys, rfl, hxy, _⟩ := hL
      have h0 := hcell 0 y rfl
      have h0' : w.cell? c = some y := by simpa [Addr.add] using h0
      exact ⟨y, by simp [loadVar, hagg, run_load, h0'], hxy⟩
  | some n =>
    simp only [Option.getD_some] at hlen
    simp only [packI, Option.some.injEq] at hv
    subst hv
    refine ⟨.agg L.toArray, ?_, _, rfl, by simpa using hL⟩
    have h1 := run_loadCells_list (P := P) w c L hcell
    rw [← hl, hlen] at h1
    simp [loadVar, hagg, hsz n rfl, h1]

/-- The entry of a key. -/
theorem find_ok {t : TypeId} {kt : KT} (ht : ktOf P t = some kt) {k : V} {k' : Value} (hk : VR ρ k k') : ∀ {es : List (V × V × Nat)} {M : List MapEntry} {i : Nat} {r : Option (Nat × V)},
    ERs ρ es M → findI kt k es i = some r → ∀ w, ∃ r', (Instr.findAsking t k' M i).run P w = .ok r' w ∧
      (match r, r' with | none, none => True | some (j, v), some (j', v') => j = j' ∧ VR ρ v v' ∧ i ≤ j ∧ j < i + es.length | _, _ => False)
  | [], _, i, r, .nil, h, w => by
    simp only [findI, Option.some.injEq] at h; subst h
    exact ⟨none, by simp [Instr.findAsking], trivial⟩
  | (x, v, b) :: es, m :: M, i, r, .cons he hes, h, w => by
    simp only [findI, Option.bind_eq_some_iff] at h
    obtain ⟨c, hc, h⟩ := h
    have heq : (Op.equal t k' m.key).run P w = .ok c w := keyEq_ok (ρ := ρ) ht hc hk he.1 9998 w
    cases c with
    | true =>
      simp only [if_true, Option.some.injEq] at h; subst h
      exact ⟨some (i, m.val), by simp [Instr.findAsking, heq], rfl, he.2.1, Nat.le_refl _, by simp⟩
    | false =>
      simp only [Bool.false_eq_true, if_false] at h
      obtain ⟨r', h1, h2⟩ := find_ok ht hk hes h w
      refine ⟨r', by simp [Instr.findAsking, heq, h1], ?_⟩
      split at h2
      · trivial
      · exact ⟨h2.1, h2.2.1, by omega, by simp; omega⟩
      · exact h2

theorem sameNow_ok {t : TypeId} {kt : KT} (ht : ktOf P t = some kt) {d : TypeDesc} (hd : P.underlying t = some d) {x y : V} {b : Bool} {x' y' : Value} (h : keyEq kt x y = some b) (hx : VR ρ x x') (hy : VR ρ y y') :
    Instr.sameNow d x' y' = some b ∨ Instr.sameNow d x' y' = none := by
  unfold ktOf at ht
  split at ht
  · rename_i fields hu
    rw [hu] at hd; cases hd
    right
    simp [Instr.sameNow]
  · simp only [Option.map_eq_some_iff] at ht
    obtain ⟨c, hc, rfl⟩ := ht
    left
    unfold ckOf at hc
    simp only [keyEq] at h
    unfold cellEq at h
    split at h
    · cases VR_bool hx; cases VR_bool hy; cases h
      rw [hd] at hc
      cases d <;> simp at hc <;> rfl
    · cases VR_int hx; cases VR_int hy
      split at h
      · rename_i hk
        cases h
        rw [hd] at hc
        cases d <;> simp at hc <;> simp [Instr.sameNow, hk]
      · cases h
    · cases VR_str hx; cases VR_str hy; cases h
      rw [hd] at hc
      cases d <;> simp at hc <;> rfl
    · cases h

theorem findNow_ok {t : TypeId} {kt : KT} (ht : ktOf P t = some kt) {d : TypeDesc} (hd : P.underlying t = some d) {k : V} {k' : Value} (hk : VR ρ k k') : ∀ {es : List (V × V × Nat)} {M : List MapEntry} {i : Nat} {r : Option (Nat × V)},
    ERs ρ es M → findI kt k es i = some r → Instr.findNow d k' M i = none ∨ ∃ r', Instr.findNow d k' M i = some r' ∧
      (match r, r' with | none, none => True | some (j, v), some (j', v') => j = j' ∧ VR ρ v v' ∧ i ≤ j ∧ j < i + es.length | _, _ => False)
  | [], _, i, r, .nil, h => by
    simp only [findI, Option.some.injEq] at h; subst h
    exact .inr ⟨none, rfl, trivial⟩
  | (x, v, b) :: es, m :: M, i, r, .cons he hes, h => by
    simp only [findI, Option.bind_eq_some_iff] at h
    obtain ⟨c, hc, h⟩ := h
    rcases sameNow_ok ht hd hc hk he.1 with hs | hs
    · cases c with
      | true =>
        simp only [if_true, Option.some.injEq] at h; subst h
        exact .inr ⟨some (i, m.val), by simp [Instr.findNow, hs], rfl, he.2.1, Nat.le_refl _, by simp⟩
      | false =>
        simp only [Bool.false_eq_true, if_false] at h
        rcases findNow_ok ht hd hk hes h with h1 | ⟨r', h1, h2⟩
        · exact .inl (by simp [Instr.findNow, hs, h1])
        · refine .inr ⟨r', by simp [Instr.findNow, hs, h1], ?_⟩
          split at h2
          · trivial
          · exact ⟨h2.1, h2.2.1, by omega, by simp; omega⟩
          · exact h2
    · exact .inl (by simp [Instr.findNow, hs])

theorem findKey_ok {t : TypeId} {kt : KT} (ht : ktOf P t = some kt) {k : V} {k' : Value} (hk : VR ρ k k') {es : List (V × V × Nat)} {M : List MapEntry} {r : Option (Nat × V)}
    (he : ERs ρ es M) (h : findI kt k es 0 = some r) (w : World) : ∃ r', (Instr.findKey t k' M).run P w = .ok r' w ∧
      (match r, r' with | none, none => True | some (j, v), some (j', v') => j = j' ∧ VR ρ v v' ∧ j < es.length | _, _ => False) := by
  have hu : ∃ d, P.underlying t = some d := by
    unfold ktOf at ht
    split at ht
    · exact ⟨_, by assumption⟩
    · simp only [Option.map_eq_some_iff] at ht
      obtain ⟨c, hc, _⟩ := ht
      unfold ckOf at hc
      split at hc <;> first | exact ⟨_, by assumption⟩ | cases hc
  obtain ⟨d, hd⟩ := hu
  rcases findNow_ok ht hd hk he h with h1 | ⟨r', h1, h2⟩
  · obtain ⟨r', h3, h4⟩ := find_ok ht hk he h w
    refine ⟨r', by simp [Instr.findKey, run_underlying hd, h1, h3], ?_⟩
    cases r with
    | none => cases r' <;> exact h4
    | some r =>
      cases r' with
      | none => exact h4
      | some r' => exact ⟨h4.1, h4.2.1, by have := h4.2.2.2; omega⟩
  · refine ⟨r', by simp [Instr.findKey, run_underlying hd, h1], ?_⟩
    cases r with
    | none => cases r' <;> exact h2
    | some r =>
      cases r' with
      | none => exact h2
      | some r' => exact ⟨h2.1, h2.2.1, by have := h2.2.2.2; omega⟩

theorem ckOf_checkKey {t : TypeId} {c : CK} (h : ckOf P t = some c) (em : Bool) (d : Nat) (v : Value) (w : World) : (Instr.checkKey em (d + 1) t v).run P w = .ok () w := by
  unfold ckOf at h
  split at h
  · rename_i hu; simp only [Instr.checkKey, Sem.run_bind, run_underlying hu, Result.andThen_ok]; rfl
  · rename_i hu; simp only [Instr.checkKey, Sem.run_bind, run_underlying hu, Result.andThen_ok]; rfl
  · rename_i hu; simp only [Instr.checkKey, Sem.run_bind, run_underlying hu, Result.andThen_ok]; rfl
  · cases h

theorem cellEq_self {k : CK} {x : V} {b : Bool} (h : cellEq k x x = some b) : b = true := by
  unfold cellEq at h
  split at h
  · simp_all
  · simp_all
  · rename_i a
    cases h
    obtain ⟨d⟩ := a
    exact beq_self_eq_true (α := Array UInt8) d
  · cases h

theorem cellsEq_self : ∀ {ks : List CK} {xs : List V} {b : Bool}, cellsEq ks xs xs = some b → ks.length = xs.length
  | [], [], _, _ => rfl
  | [], _ :: _, _, h => by simp [cellsEq] at h
  | _ :: _, [], _, h => by simp [cellsEq] at h
  | k :: ks, x :: xs, b, h => by
    simp only [cellsEq, Option.bind_eq_some_iff] at h
    obtain ⟨c, hc, h⟩ := h
    have := cellEq_self hc
    subst this
    simp only [if_true] at h
    simp [cellsEq_self h]

theorem mapM_len {α β : Type} {f : α → Option β} : ∀ {l : List α} {r : List β}, l.mapM f = some r → r.length = l.length
  | [], r, h => by simp at h; subst h; rfl
  | x :: l, r, h => by
    simp only [List.mapM_cons, Option.bind_eq_bind, Option.pure_def, Option.bind_eq_some_iff, Option.some.injEq] at h
    obtain ⟨_, _, r', h2, rfl⟩ := h
    simp [mapM_len h2]

/-- A key of a plain type is in order. -/
theorem checkKey_ok {t : TypeId} {kt : KT} (ht : ktOf P t = some kt) {k : V} {b : Bool} (hkx : keyEq kt k k = some b) {k' : Value} (hk : VR ρ k k') (em : Bool) (d : Nat) (w : World) :
    (Instr.checkKey em (d + 2) t k').run P w = .ok () w := by
  unfold ktOf at ht
  split at ht
  · rename_i fields hu
    split at ht
    · rename_i hcond
      simp only [Bool.and_eq_true, Bool.not_eq_true'] at hcond
      obtain ⟨⟨hall, hst⟩, hg⟩ := hcond
      simp only [Option.map_eq_some_iff] at ht
      obtain ⟨ks, hks, rfl⟩ := ht
      unfold keyEq at hkx
      split at hkx
      · rename_i e; cases e
      · rename_i xs ys e1 e2
        cases e1
        cases e2
        obtain ⟨X, rfl, hX⟩ := hk
        have hlen := VRs_length hX
        have hsl := cellsEq_self hkx
        have key : ∀ (fs : List Field) (ks : List CK) (i : Nat), (∀ j f, fs[j]? = some f → f.offset = i + j ∧ f.name ≠ "_") → fs.mapM (fun f => ckOf P f.type) = some ks → i + fs.length ≤ X.size →
            ∀ w, (forIn fs PUnit.unit fun f (_ : PUnit) =>
              if f.name ≠ "_" then (do
                let p ← part f.type X f.offset
                Instr.checkKey em (d + 1) f.type p
                pure (ForInStep.yield PUnit.unit) : Sem (ForInStep PUnit))
              else pure (ForInStep.yield PUnit.unit)).run P w = .ok PUnit.unit w := by
          intro fs
          induction fs with
          | nil => intro ks i _ _ _ w; rfl
          | cons f fs ih =>
            intro ks i hf hk hsz w
            simp only [List.mapM_cons, Option.bind_eq_bind, Option.pure_def, Option.bind_eq_some_iff, Option.some.injEq] at hk
            obtain ⟨k, hk1, ks', hk2, rfl⟩ := hk
            obtain ⟨ho, hn⟩ := hf 0 f rfl
            simp only [List.length_cons] at hsz
            have hc : X[f.offset]? = some (X[f.offset]'(by omega)) := Array.getElem?_eq_getElem (by omega)
            have px : ∀ w, (part f.type X f.offset).run P w = .ok (X[f.offset]'(by omega)) w := fun w => by simp [part, ckOf_agg hk1, hc]
            have := ih ks' (i + 1) (fun j g hg => by
              obtain ⟨h1, h2⟩ := hf (j + 1) g (by simpa using hg)
              exact ⟨by omega, h2⟩) hk2 (by omega)
            simp only [List.forIn_cons, if_pos hn, Sem.run_bind, px, Result.andThen_ok, ckOf_checkKey hk1, Sem.run_pure, this]
        have hxl : fields.size ≤ X.size := by
          have hl1 := mapM_len hks
          simp at hl1 hlen
          omega
        have hk' := key fields.toList _ 0 (fun j f hj => by
          have := List.all_eq_true.1 hall (f, j) (by
            rw [List.mem_iff_getElem?]
            exact ⟨j, by simp [List.getElem?_zipIdx, hj]⟩)
          simpa using this) hks (by simpa using hxl) w
        rw [Instr.checkKey]
        simp only [Sem.run_bind, run_underlying hu, Result.andThen_ok]
        rw [← Array.forIn_toList]
        rw [hk']
        rfl
      · cases hkx
    · cases ht
  · simp only [Option.map_eq_some_iff] at ht
    obtain ⟨c, hc, rfl⟩ := ht
    exact ckOf_checkKey hc em (d + 1) k' w
end
end Go.IM
