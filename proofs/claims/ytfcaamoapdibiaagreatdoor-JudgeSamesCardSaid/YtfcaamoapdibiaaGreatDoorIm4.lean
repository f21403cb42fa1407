/- Operations that have nothing to do with the store: what the ideal machine reckons is what Go's operation gives. -/
import Derived.Test.YtfcaamoapdibiaaGreatDoorIm3
import Derived.ChangeKeysEq
set_option linter.unusedSimpArgs false
set_option linter.unusedVariables false
namespace Go.IM
section
variable {P : Program} {ρ : Rn} {a : Act} {e : Env}

theorem wit_int {s : Sem Value} {k : IntKind} {n : Int} (h : ∀ w, s.run P w = .ok (.int k n) w) : ∃ v', (∀ w, s.run P w = .ok v' w) ∧ VR ρ (.int k n) v' := ⟨_, h, rfl⟩
theorem wit_bool {s : Sem Value} {b : Bool} (h : ∀ w, s.run P w = .ok (.bool b) w) : ∃ v', (∀ w, s.run P w = .ok v' w) ∧ VR ρ (.bool b) v' := ⟨_, h, rfl⟩
theorem wit_str {s : Sem Value} {b : ByteArray} (h : ∀ w, s.run P w = .ok (.string b) w) : ∃ v', (∀ w, s.run P w = .ok v' w) ∧ VR ρ (.str b) v' := ⟨_, h, rfl⟩

theorem VR_bool {b : Bool} {v : Value} (h : VR ρ (.bool b) v) : v = .bool b := h
theorem VR_int {k : IntKind} {n : Int} {v : Value} (h : VR ρ (.int k n) v) : v = .int k n := h
theorem VR_str {s : ByteArray} {v : Value} (h : VR ρ (.str s) v) : v = .string s := h

/-- Two numbers. -/
theorem intI_ok {op : BinOp} {k : IntKind} {x y : Int} {v : V} (h : intI op k x y = some v) (t : TypeId) :
    ∃ v', (∀ w, (binOp op t (.int k x) (.int k y)).run P w = .ok v' w) ∧ VR ρ v v' := by
  cases op <;> simp only [intI, wrapI] at h <;> first
    | (cases h; exact wit_int fun w => by simp [binOp, Op.intArith, Op.intBits])
    | (cases h; exact wit_bool fun w => by simp [binOp, Op.intCmp])
    | (split at h
       · cases h
       · rename_i hy
         cases h
         exact wit_int fun w => by simp [binOp, Op.intDiv, hy])
    | cases h

theorem binI_ok {op : BinOp} {x y : V} {v : V} (h : binI op x y = some v) (t : TypeId) {x' y' : Value} (hx : VR ρ x x') (hy : VR ρ y y') :
    ∃ v', (∀ w, (binOp op t x' y').run P w = .ok v' w) ∧ VR ρ v v' := by
  unfold binI at h
  split at h
  · rename_i k n k' m
    cases VR_int hx
    cases VR_int hy
    split at h
    · split at h
      · cases h
      · rename_i hm
        cases h
        exact wit_int fun w => by simp [binOp, Op.shift, hm]
    · split at h
      · cases h
      · rename_i hm
        cases h
        exact wit_int fun w => by simp [binOp, Op.shift, hm]
    · split at h
      · rename_i hk
        subst hk
        exact intI_ok h t
      · cases h
  · rename_i s1 s2
    cases VR_str hx
    cases VR_str hy
    cases op <;> simp only at h <;> first
      | (cases h; exact wit_bool fun w => by simp [binOp, Op.stringOp])
      | (split at h
         · cases h
         · rename_i hm
           cases h
           exact wit_str fun w => by simp only [binOp, Op.stringOp, hm, if_false]; rfl)
      | cases h
  · cases h

theorem eqGuard_plain (op : BinOp) (t : TypeId) (x y : Operand) {u v : Value} (h1 : u ≠ .nilIface) (h2 : ∀ c, u ≠ .agg c) (w : World) : (eqGuard op t x y u v).run P w = .ok () w := by
  cases u <;> first
    | exact absurd rfl h1
    | exact absurd rfl (h2 _)
    | (cases op <;> simp [eqGuard])

theorem ckOf_agg {t : TypeId} {k : CK} (h : ckOf P t = some k) (w : World) : (isAgg t).run P w = .ok false w := by
  unfold ckOf at h
  cases hu : P.underlying t with
  | none => simp [hu] at h
  | some d => cases d <;> simp [hu] at h <;> simp [isAgg, run_underlying hu]

theorem cellEq_ok {t : TypeId} {k : CK} {x y : V} {b : Bool} {x' y' : Value} (ht : ckOf P t = some k) (h : cellEq k x y = some b) (hx : VR ρ x x') (hy : VR ρ y y')
    (d : Nat) (w : World) : (Op.equalIn (d + 1) t x' y').run P w = .ok b w := by
  unfold ckOf at ht
  cases hu : P.underlying t with
  | none => simp [hu] at ht
  | some td =>
    unfold cellEq at h
    split at h
    · cases VR_bool hx; cases VR_bool hy; cases h
      cases td <;> simp [hu] at ht <;> simp [Op.equalIn, run_underlying hu]
    · cases VR_int hx; cases VR_int hy
      split at h
      · rename_i hk
        cases h
        cases td <;> simp [hu] at ht <;> simp [Op.equalIn, run_underlying hu, hk]
      · cases h
    · cases VR_str hx; cases VR_str hy; cases h
      cases td <;> simp [hu] at ht <;> simp [Op.equalIn, run_underlying hu]
    · cases h

/-- '==' on the cells of a struct. -/
theorem eqFields_ok (d : Nat) : ∀ (fs : List Field) (ks : List CK) (xs ys : List V) (X Y : Array Value) (i : Nat) (b : Bool),
    (∀ j f, fs[j]? = some f → f.offset = i + j ∧ f.name ≠ "_") → fs.mapM (fun f => ckOf P f.type) = some ks →
    cellsEq ks xs ys = some b → VRs ρ xs (X.toList.drop i) → VRs ρ ys (Y.toList.drop i) →
    ∀ w, (Op.eqFields (d + 1) X Y fs).run P w = .ok b w
  | [], ks, xs, ys, _, _, _, b, _, hk, h, _, _, w => by
    simp at hk; subst hk
    cases xs <;> cases ys <;> simp [cellsEq] at h
    subst h; simp [Op.eqFields]
  | f :: fs, ks, xs, ys, X, Y, i, b, hf, hk, h, hx, hy, w => by
    simp only [List.mapM_cons, Option.bind_eq_bind, Option.pure_def, Option.bind_eq_some_iff, Option.some.injEq] at hk
    obtain ⟨k, hk1, ks', hk2, rfl⟩ := hk
    cases xs with
    | nil => simp [cellsEq] at h
    | cons x xs =>
      cases ys with
      | nil => simp [cellsEq] at h
      | cons y ys =>
        obtain ⟨ho, hn⟩ := hf 0 f rfl
        obtain ⟨x', X', ex, hx1, hx2⟩ := hx
        obtain ⟨y', Y', ey, hy1, hy2⟩ := hy
        have cx : X[i]? = some x' := by
          have h0 : (X.toList.drop i)[0]? = some x' := by rw [ex]; rfl
          simpa using h0
        have cy : Y[i]? = some y' := by
          have h0 : (Y.toList.drop i)[0]? = some y' := by rw [ey]; rfl
          simpa using h0
        have dx : X' = X.toList.drop (i + 1) := by simpa using (congrArg List.tail ex).symm
        have dy : Y' = Y.toList.drop (i + 1) := by simpa using (congrArg List.tail ey).symm
        subst dx dy
        simp only [cellsEq, Option.bind_eq_some_iff] at h
        obtain ⟨c, hc, h⟩ := h
        simp only [Nat.add_zero] at ho
        have px : ∀ w, (part f.type X f.offset).run P w = .ok x' w := fun w => by
          rw [ho]; simp [part, ckOf_agg hk1, cx]
        have py : ∀ w, (part f.type Y f.offset).run P w = .ok y' w := fun w => by
          rw [ho]; simp [part, ckOf_agg hk1, cy]
        have heq := cellEq_ok (ρ := ρ) hk1 hc hx1 hy1 d
        simp only [Op.eqFields, if_pos hn, Sem.run_bind, px, py, heq, Result.andThen_ok]
        cases c with
        | false => simp at h; subst h; simp
        | true =>
          simp only [if_true] at h
          simpa using eqFields_ok d fs ks' xs ys X Y (i + 1) b (fun j g hg => by
            obtain ⟨h1, h2⟩ := hf (j + 1) g (by simpa using hg)
            exact ⟨by omega, h2⟩) hk2 h hx2 hy2 w

theorem keyEq_ok {t : TypeId} {k : KT} {x y : V} {b : Bool} {x' y' : Value} (ht : ktOf P t = some k) (h : keyEq k x y = some b) (hx : VR ρ x x') (hy : VR ρ y y')
    (d : Nat) (w : World) : (Op.equalIn (d + 2) t x' y').run P w = .ok b w := by
  unfold ktOf at ht
  split at ht
  · rename_i fields hu
    split at ht
    · rename_i hcond
      simp only [Bool.and_eq_true, Bool.not_eq_true'] at hcond
      obtain ⟨⟨hall, hst⟩, hg⟩ := hcond
      simp only [Option.map_eq_some_iff] at ht
      obtain ⟨ks, hks, rfl⟩ := ht
      unfold keyEq at h
      split at h
      · rename_i e; cases e
      · rename_i ks' xs ys e
        cases e
        obtain ⟨X, rfl, hX⟩ := hx
        obtain ⟨Y, rfl, hY⟩ := hy
        have hfo : P.fieldsOf t = fields := by simp [Program.fieldsOf, hu]
        rw [run_equalIn_struct w (d + 1) t X Y (by rw [hfo]; exact hu) hst, hfo]
        refine eqFields_ok d fields.toList ks xs ys X Y 0 b (fun j f hj => ?_) hks h (by simpa using hX) (by simpa using hY) w
        have := List.all_eq_true.1 hall (f, j) (by
          rw [List.mem_iff_getElem?]
          exact ⟨j, by simp [List.getElem?_zipIdx, hj]⟩)
        simpa using this
      · cases h
    · cases ht
  · simp only [Option.map_eq_some_iff] at ht
    obtain ⟨c, hc, rfl⟩ := ht
    exact cellEq_ok hc h hx hy (d + 1) w

/-- '==' on the cells of an array. -/
theorem eqItems_ok (d : Nat) {e : TypeId} {k : CK} (hk : ckOf P e = some k) (X Y : Array Value) : ∀ (n i : Nat) (xs ys : List V) (b : Bool), cellsEq (List.replicate n k) xs ys = some b → VRs ρ xs (X.toList.drop i) → VRs ρ ys (Y.toList.drop i) →
    ∀ w, (Op.eqItems (d + 1) e 1 X Y (List.range' i n)).run P w = .ok b w
  | 0, i, xs, ys, b, h, _, _, w => by
    cases xs <;> cases ys <;> simp [cellsEq] at h
    subst h; simp [Op.eqItems]
  | n + 1, i, xs, ys, b, h, hx, hy, w => by
    cases xs with
    | nil => simp [cellsEq, List.replicate_succ] at h
    | cons x xs =>
      cases ys with
      | nil => simp [cellsEq, List.replicate_succ] at h
      | cons y ys =>
        obtain ⟨x', X', ex, hx1, hx2⟩ := hx
        obtain ⟨y', Y', ey, hy1, hy2⟩ := hy
        have cx : X[i]? = some x' := by
          have h0 : (X.toList.drop i)[0]? = some x' := by rw [ex]; rfl
          simpa using h0
        have cy : Y[i]? = some y' := by
          have h0 : (Y.toList.drop i)[0]? = some y' := by rw [ey]; rfl
          simpa using h0
        have dx : X' = X.toList.drop (i + 1) := by simpa using (congrArg List.tail ex).symm
        have dy : Y' = Y.toList.drop (i + 1) := by simpa using (congrArg List.tail ey).symm
        subst dx dy
        rw [List.replicate_succ] at h
        simp only [cellsEq, Option.bind_eq_some_iff] at h
        obtain ⟨c, hc, h⟩ := h
        have px : ∀ w, (part e X (i * 1)).run P w = .ok x' w := fun w => by
          rw [Nat.mul_one]; simp [part, ckOf_agg hk, cx]
        have py : ∀ w, (part e Y (i * 1)).run P w = .ok y' w := fun w => by
          rw [Nat.mul_one]; simp [part, ckOf_agg hk, cy]
        have heq := cellEq_ok (ρ := ρ) hk hc hx1 hy1 d
        rw [List.range'_succ]
        simp only [Op.eqItems, Sem.run_bind, px, py, heq, Result.andThen_ok]
        cases c with
        | false => simp at h; subst h; simp
        | true =>
          simp only [if_true] at h
          simpa using eqItems_ok d hk X Y n (i + 1) xs ys b h hx2 hy2 w

theorem ekOf_cases {t : TypeId} {k : EK} (h : ekOf P t = some k) :
    (∃ e, k = .ptr ∧ P.underlying t = some (.pointer e)) ∨ (∃ e, k = .slice ∧ P.underlying t = some (.slice e)) ∨ (∃ a b, k = .map ∧ P.underlying t = some (.map a b)) ∨
    (∃ a b c, k = .func ∧ P.underlying t = some (.func a b c)) ∨ (∃ k', k = .key k' ∧ ktOf P t = some k') ∨
    (∃ n el c, k = .key (.agg (List.replicate n c)) ∧ P.underlying t = some (.array n el) ∧ ckOf P el = some c ∧ P.cellsOf el = 1 ∧ (P.info? el).isSome = true ∧ P.eqGuardType P.depth t = false) := by
  unfold ekOf at h
  split at h
  · cases h; exact .inl ⟨_, rfl, by assumption⟩
  · cases h; exact .inr (.inl ⟨_, rfl, by assumption⟩)
  · cases h; exact .inr (.inr (.inl ⟨_, _, rfl, by assumption⟩))
  · cases h; exact .inr (.inr (.inr (.inl ⟨_, _, _, rfl, by assumption⟩)))
  · rename_i n el hu
    split at h
    · rename_i hc
      simp only [Bool.and_eq_true, beq_iff_eq, Bool.not_eq_true'] at hc
      simp only [Option.map_eq_some_iff] at h
      obtain ⟨c, h1, rfl⟩ := h
      exact .inr (.inr (.inr (.inr (.inr ⟨n, el, c, rfl, hu, h1, hc.1.1, hc.1.2, hc.2⟩))))
    · cases h
  · simp only [Option.map_eq_some_iff] at h
    obtain ⟨k', h1, rfl⟩ := h
    exact .inr (.inr (.inr (.inr (.inl ⟨k', rfl, h1⟩))))

section
variable {t : TypeId} {w : World} (d : Nat)
theorem eqIn_ptr0 {e : TypeId} (hu : P.underlying t = some (.pointer e)) (b : Option Addr) : (Op.equalIn (d + 1) t (.pointer none) (.pointer b)).run P w = .ok b.isNone w := by
  simp only [Op.equalIn, Sem.run_bind, run_underlying hu, Result.andThen_ok]; rfl
theorem eqIn_ptr1 {e : TypeId} (hu : P.underlying t = some (.pointer e)) (b : Addr) : (Op.equalIn (d + 1) t (.pointer (some b)) (.pointer none)).run P w = .ok false w := by
  simp only [Op.equalIn, Sem.run_bind, run_underlying hu, Result.andThen_ok]; rfl
theorem eqIn_slice0 {e : TypeId} (hu : P.underlying t = some (.slice e)) (b : Option Addr) (n c n' c' : Nat) : (Op.equalIn (d + 1) t (.slice none n c) (.slice b n' c')).run P w = .ok b.isNone w := by
  simp only [Op.equalIn, Sem.run_bind, run_underlying hu, Result.andThen_ok]; rfl
theorem eqIn_slice1 {e : TypeId} (hu : P.underlying t = some (.slice e)) (b : Addr) (n c n' c' : Nat) : (Op.equalIn (d + 1) t (.slice (some b) n c) (.slice none n' c')).run P w = .ok false w := by
  simp only [Op.equalIn, Sem.run_bind, run_underlying hu, Result.andThen_ok]; rfl
theorem eqIn_map0 {e e' : TypeId} (hu : P.underlying t = some (.map e e')) (b : Option Nat) : (Op.equalIn (d + 1) t (.map none) (.map b)).run P w = .ok b.isNone w := by
  simp only [Op.equalIn, Sem.run_bind, run_underlying hu, Result.andThen_ok]; rfl
theorem eqIn_map1 {e e' : TypeId} (hu : P.underlying t = some (.map e e')) (b : Nat) : (Op.equalIn (d + 1) t (.map (some b)) (.map none)).run P w = .ok false w := by
  simp only [Op.equalIn, Sem.run_bind, run_underlying hu, Result.andThen_ok]; rfl
theorem eqIn_func0 {e e' : Array TypeId} {v : Bool} (hu : P.underlying t = some (.func e e' v)) : (Op.equalIn (d + 1) t .nilFunc .nilFunc).run P w = .ok true w := by
  simp only [Op.equalIn, Sem.run_bind, run_underlying hu, Result.andThen_ok]; rfl
theorem eqIn_func1 {e e' : Array TypeId} {v : Bool} (hu : P.underlying t = some (.func e e' v)) (f : Fn) (p c : Array Value) : (Op.equalIn (d + 1) t .nilFunc (.func f p c)).run P w = .ok false w := by
  simp only [Op.equalIn, Sem.run_bind, run_underlying hu, Result.andThen_ok]; rfl
theorem eqIn_func2 {e e' : Array TypeId} {v : Bool} (hu : P.underlying t = some (.func e e' v)) (f : Fn) (p c : Array Value) : (Op.equalIn (d + 1) t (.func f p c) .nilFunc).run P w = .ok false w := by
  simp only [Op.equalIn, Sem.run_bind, run_underlying hu, Result.andThen_ok]; rfl
end

/-- The operation '==', '!=' on two values, from '==' at its type. -/
def Eqs (P : Program) (op : BinOp) (neg : Bool) (t : TypeId) (xo yo : Operand) (x y : Value) (b : Bool) (w : World) : Prop :=
  (do eqGuard op t xo yo x y; binOp op t x y : Sem Value).run P w = .ok (.bool (if neg then !b else b)) w

theorem Eqs_of {op : BinOp} {neg : Bool} (hop : (op = .eql ∧ neg = false) ∨ (op = .neq ∧ neg = true)) {t : TypeId} {xo yo : Operand} {x y : Value} {b : Bool} {w : World}
    (hg : (eqGuard op t xo yo x y).run P w = .ok () w)
    (h1 : binOp .eql t x y = do pure (.bool (← Op.equal t x y))) (h2 : binOp .neq t x y = do pure (.bool (!(← Op.equal t x y))))
    (he : (Op.equalIn (9998 + 2) t x y).run P w = .ok b w) : Eqs P op neg t xo yo x y b w := by
  unfold Eqs
  have he' : (Op.equal t x y).run P w = .ok b w := he
  rcases hop with ⟨rfl, rfl⟩ | ⟨rfl, rfl⟩
  · simp only [Sem.run_bind, hg, Result.andThen_ok, h1, he', Sem.run_pure]; rfl
  · simp only [Sem.run_bind, hg, Result.andThen_ok, h2, he', Sem.run_pure]; rfl

theorem eqlOp_ok {op : BinOp} {neg : Bool} (hop : (op = .eql ∧ neg = false) ∨ (op = .neq ∧ neg = true)) {t : TypeId} {k : EK} {x y : V} {b : Bool} {x' y' : Value}
    (hni : ∀ k, P.underlying t ≠ some (.int k)) (hns : P.underlying t ≠ some .string)
    (ht : ekOf P t = some k) (h : eqI k x y = some b) (hx : VR ρ x x') (hy : VR ρ y y') (xo yo : Operand) (w : World) : Eqs P op neg t xo yo x' y' b w := by
  rcases ekOf_cases ht with ⟨e, rfl, hu⟩ | ⟨e, rfl, hu⟩ | ⟨e, e', rfl, hu⟩ | ⟨e, e', e'', rfl, hu⟩ | ⟨k', rfl, hk⟩ | ⟨n, el, c, rfl, hu, hck, hcl, hin, hgd⟩
  · simp only [eqI] at h
    split at h
    · rename_i bb
      cases h
      cases (show x' = .pointer none from hx)
      cases bb with
      | none => cases (show y' = .pointer none from hy); exact Eqs_of hop (eqGuard_plain _ _ _ _ (by simp) (by simp) w) rfl rfl (eqIn_ptr0 _ hu _)
      | some c => obtain ⟨c', rfl, _⟩ := hy; exact Eqs_of hop (eqGuard_plain _ _ _ _ (by simp) (by simp) w) rfl rfl (eqIn_ptr0 _ hu _)
    · cases h
      obtain ⟨c', rfl, _⟩ := hx
      cases (show y' = .pointer none from hy)
      exact Eqs_of hop (eqGuard_plain _ _ _ _ (by simp) (by simp) w) rfl rfl (eqIn_ptr1 _ hu _)
    · cases h
  · simp only [eqI] at h
    split at h
    · rename_i bb _ _
      cases h
      obtain ⟨_, _, rfl⟩ := hx
      cases bb with
      | none => obtain ⟨_, _, rfl⟩ := hy; exact Eqs_of hop (eqGuard_plain _ _ _ _ (by simp) (by simp) w) rfl rfl (eqIn_slice0 _ hu _ _ _ _ _)
      | some c => obtain ⟨c', _, rfl, _⟩ := hy; exact Eqs_of hop (eqGuard_plain _ _ _ _ (by simp) (by simp) w) rfl rfl (eqIn_slice0 _ hu _ _ _ _ _)
    · cases h
      obtain ⟨c', _, rfl, _⟩ := hx
      obtain ⟨_, _, rfl⟩ := hy
      exact Eqs_of hop (eqGuard_plain _ _ _ _ (by simp) (by simp) w) rfl rfl (eqIn_slice1 _ hu _ _ _ _ _)
    · cases h
  · simp only [eqI] at h
    split at h
    · rename_i bb
      cases h
      cases (show x' = .map none from hx)
      cases bb with
      | none => cases (show y' = .map none from hy); exact Eqs_of hop (eqGuard_plain _ _ _ _ (by simp) (by simp) w) rfl rfl (eqIn_map0 _ hu _)
      | some c => obtain ⟨c', rfl, _⟩ := hy; exact Eqs_of hop (eqGuard_plain _ _ _ _ (by simp) (by simp) w) rfl rfl (eqIn_map0 _ hu _)
    · cases h
      obtain ⟨c', rfl, _⟩ := hx
      cases (show y' = .map none from hy)
      exact Eqs_of hop (eqGuard_plain _ _ _ _ (by simp) (by simp) w) rfl rfl (eqIn_map1 _ hu _)
    · cases h
  · simp only [eqI] at h
    split at h
    · cases h
      cases (show x' = .nilFunc from hx)
      cases (show y' = .nilFunc from hy)
      exact Eqs_of hop (eqGuard_plain _ _ _ _ (by simp) (by simp) w) rfl rfl (eqIn_func0 _ hu)
    · cases h
      cases (show x' = .nilFunc from hx)
      obtain ⟨_, _, _, rfl⟩ := VR_func hy
      exact Eqs_of hop (eqGuard_plain _ _ _ _ (by simp) (by simp) w) rfl rfl (eqIn_func1 _ hu _ _ _)
    · cases h
      obtain ⟨_, _, _, rfl⟩ := VR_func hx
      cases (show y' = .nilFunc from hy)
      exact Eqs_of hop (eqGuard_plain _ _ _ _ (by simp) (by simp) w) rfl rfl (eqIn_func2 _ hu _ _ _)
    · cases h
  · have he := keyEq_ok hk h hx hy 9998 w
    unfold ktOf at hk
    split at hk
    · split at hk
      · rename_i hcond
        simp only [Bool.and_eq_true, Bool.not_eq_true'] at hcond
        simp only [Option.map_eq_some_iff] at hk
        obtain ⟨ks, hks, rfl⟩ := hk
        simp only [eqI, keyEq] at h
        split at h
        · rename_i e; cases e
        · obtain ⟨X, rfl, hX⟩ := hx
          obtain ⟨Y, rfl, hY⟩ := hy
          exact Eqs_of hop (run_eqGuard_agg w op t xo yo X Y hcond.2) rfl rfl he
        · cases h
      · cases hk
    · simp only [Option.map_eq_some_iff] at hk
      obtain ⟨c, hc, rfl⟩ := hk
      have hcb : c = .b := by
        unfold ckOf at hc
        split at hc
        · exact absurd (by assumption) (hni _)
        · cases hc; rfl
        · exact absurd (by assumption) hns
        · cases hc
      subst hcb
      simp only [eqI, keyEq] at h
      unfold cellEq at h
      split at h
      · cases VR_bool hx
        cases VR_bool hy
        exact Eqs_of hop (eqGuard_plain _ _ _ _ (by simp) (by simp) w) rfl rfl he
      · rename_i e; cases e
      · rename_i e; cases e
      · cases h
  · simp only [eqI, keyEq] at h
    split at h
    · rename_i e; cases e
    · rename_i ks' xs ys e
      cases e
      obtain ⟨X, rfl, hX⟩ := hx
      obtain ⟨Y, rfl, hY⟩ := hy
      obtain ⟨i, hi⟩ := Option.isSome_iff_exists.1 hin
      refine Eqs_of hop (run_eqGuard_agg w op t xo yo X Y hgd) rfl rfl ?_
      rw [run_equalIn_array w (9998 + 1) X Y hu hi, hcl, List.range_eq_range']
      exact eqItems_ok 9998 hck X Y n 0 xs ys b h (by simpa using hX) (by simpa using hY) w
    · cases h
end
end Go.IM
