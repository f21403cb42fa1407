/- The machine without a depth: its limit, and the equations that it keeps. -/
import Derived.Test.YtoldkemimhebaaaIm11
set_option linter.unusedSimpArgs false
set_option linter.unusedVariables false
namespace Go.IM

def Cle (C C' : CallT) : Prop := ∀ f a s r, C f a s = some r → C' f a s = some r
def Lle (L L' : IC → Env → St → Kt → Res) : Prop := ∀ c e s (K K' : Kt) r, (∀ x e s r, K x e s = some r → K' x e s = some r) → L c e s K = some r → L' c e s K' = some r

theorem stepI_mono {C C' : CallT} (hC : Cle C C') {i : II} {e : Env} {s : St} {p : Env × St} (h : stepI C i e s = some p) : stepI C' i e s = some p := by
  unfold stepI at h ⊢
  split at h
  · rename_i hw
    simp only [Option.map_eq_some_iff] at h ⊢
    obtain ⟨q, h, rfl⟩ := h
    refine ⟨q, ?_, rfl⟩
    unfold execI at h ⊢
    split at h
    · exact hC _ _ _ _ h
    · split at h
      · exact hC _ _ _ _ h
      · cases h
    · exact h
  · exact h
  · cases h

theorem goOps_mono {C C' : CallT} (hC : Cle C C') {K K' : Env → St → Res} (hK : ∀ e s r, K e s = some r → K' e s = some r) {r : V × St} :
    ∀ (l : List II) (e : Env) (s : St), goOps C l e s K = some r → goOps C' l e s K' = some r
  | [], e, s, h => hK _ _ _ h
  | i :: l, e, s, h => by
    simp only [goOps, Option.bind_eq_some_iff] at h ⊢
    obtain ⟨p, h1, h2⟩ := h
    exact ⟨p, stepI_mono hC h1, goOps_mono hC hK l _ _ h2⟩

theorem go_mono {L L' : IC → Env → St → Kt → Res} {C C' : CallT} (hL : Lle L L') (hC : Cle C C') {r : V × St} :
    ∀ (c : IC) (e : Env) (s : St) (K K' : Kt), (∀ x e s r, K x e s = some r → K' x e s = some r) → go L C c e s K = some r → go L' C' c e s K' = some r
  | .skip, e, s, K, K', hK, h => hK _ _ _ _ h
  | .region ops keep, e, s, K, K', hK, h => goOps_mono hC (fun _ _ _ h => hK _ _ _ _ h) ops _ _ h
  | .seq a b, e, s, K, K', hK, h => by
    refine go_mono hL hC a e s _ _ (fun x e s r h => ?_) h
    cases x with
    | normal => exact go_mono hL hC b _ _ _ _ hK h
    | exit i => exact hK _ _ _ _ h
    | ret => exact hK _ _ _ _ h
  | .cond c a b, e, s, K, K', hK, h => by
    simp only [go] at h ⊢
    split at h
    · exact go_mono hL hC a _ _ _ _ hK h
    · exact go_mono hL hC b _ _ _ _ hK h
    · cases h
  | .block id a, e, s, K, K', hK, h => by
    refine go_mono hL hC a e s _ _ (fun x e s r h => ?_) h
    cases x with
    | normal => exact hK _ _ _ _ h
    | exit i =>
      simp only at h ⊢
      split at h
      · rename_i hi; rw [if_pos hi]; exact hK _ _ _ _ h
      · rename_i hi; rw [if_neg hi]; exact hK _ _ _ _ h
    | ret => exact hK _ _ _ _ h
  | .loop a, e, s, K, K', hK, h => by
    refine go_mono hL hC a e s _ _ (fun x e s r h => ?_) h
    cases x with
    | normal => exact hL _ _ _ _ _ _ hK h
    | exit i => exact hK _ _ _ _ h
    | ret => exact hK _ _ _ _ h
  | .exit i, e, s, K, K', hK, h => hK _ _ _ _ h
  | .ret, e, s, K, K', hK, h => hK _ _ _ _ h

theorem LC_succ (F : Nat → Option IFn) : ∀ n, Lle (LC F n).1 (LC F (n + 1)).1 ∧ Cle (LC F n).2 (LC F (n + 1)).2
  | 0 => ⟨fun _ _ _ _ _ _ _ h => by simp [LC] at h, fun _ _ _ _ h => by simp [LC] at h⟩
  | n + 1 => by
    obtain ⟨h1, h2⟩ := LC_succ F n
    refine ⟨fun c e s K K' r hK h => ?_, fun f a s r h => ?_⟩
    · exact go_mono h1 h2 c e s K K' hK h
    · simp only [LC] at h
      show (match F f with | some fn => go (LC F (n + 1)).1 (LC F (n + 1)).2 fn.body (initEnv fn a) s (fin fn) | none => none) = some r
      cases hF : F f with
      | none => rw [hF] at h; cases h
      | some fn => rw [hF] at h; exact go_mono h1 h2 _ _ _ _ _ (fun _ _ _ _ h => h) h

theorem Lle.trans {L L' L'' : IC → Env → St → Kt → Res} (h : Lle L L') (k : Lle L' L'') : Lle L L'' := fun c e s K K' r hK hr => k _ _ _ _ _ _ hK (h _ _ _ K K r (fun _ _ _ _ h => h) hr)
theorem LC_Lrefl (F : Nat → Option IFn) : ∀ n, Lle (LC F n).1 (LC F n).1
  | 0 => fun _ _ _ _ _ _ _ h => by simp [LC] at h
  | n + 1 => fun c e s K K' r hK h => go_mono (LC_Lrefl F n) (fun _ _ _ _ h => h) c e s K K' hK h

theorem LC_le (F : Nat → Option IFn) {n m : Nat} (h : n ≤ m) : Lle (LC F n).1 (LC F m).1 ∧ Cle (LC F n).2 (LC F m).2 := by
  induction h with
  | refl => exact ⟨LC_Lrefl F n, fun _ _ _ _ h => h⟩
  | step _ ih => exact ⟨ih.1.trans (LC_succ F _).1, fun f a s r h => (LC_succ F _).2 _ _ _ _ (ih.2 _ _ _ _ h)⟩

open Classical in
/-- A call, however deep. -/
noncomputable def call (F : Nat → Option IFn) : CallT := fun f a s =>
  if h : ∃ n, ((LC F n).2 f a s).isSome then (LC F (Classical.choose h)).2 f a s else none

open Classical in
/-- Code, however deep. -/
noncomputable def loop (F : Nat → Option IFn) : IC → Env → St → Kt → Res := fun c e s K =>
  if h : ∃ n, ((LC F n).1 c e s K).isSome then (LC F (Classical.choose h)).1 c e s K else none

theorem call_some {F : Nat → Option IFn} {f : Nat} {a : List V} {s : St} {r : V × St} : call F f a s = some r ↔ ∃ n, (LC F n).2 f a s = some r := by
  unfold call
  constructor
  · intro h
    split at h
    · exact ⟨_, h⟩
    · cases h
  · rintro ⟨n, h⟩
    have hx : ∃ n, ((LC F n).2 f a s).isSome := ⟨n, by rw [h]; rfl⟩
    rw [dif_pos hx]
    have h2 := Classical.choose_spec hx
    obtain ⟨r', h3⟩ := Option.isSome_iff_exists.1 h2
    rw [h3]
    have e1 := (LC_le F (Nat.le_max_left n (Classical.choose hx))).2 _ _ _ _ h
    have e2 := (LC_le F (Nat.le_max_right n (Classical.choose hx))).2 _ _ _ _ h3
    rw [e1] at e2
    exact e2.symm

theorem loop_some {F : Nat → Option IFn} {c : IC} {e : Env} {s : St} {K : Kt} {r : V × St} : loop F c e s K = some r ↔ ∃ n, (LC F n).1 c e s K = some r := by
  unfold loop
  constructor
  · intro h
    split at h
    · exact ⟨_, h⟩
    · cases h
  · rintro ⟨n, h⟩
    have hx : ∃ n, ((LC F n).1 c e s K).isSome := ⟨n, by rw [h]; rfl⟩
    rw [dif_pos hx]
    have h2 := Classical.choose_spec hx
    obtain ⟨r', h3⟩ := Option.isSome_iff_exists.1 h2
    rw [h3]
    have e1 := (LC_le F (Nat.le_max_left n (Classical.choose hx))).1 _ _ _ _ _ _ (fun _ _ _ _ h => h) h
    have e2 := (LC_le F (Nat.le_max_right n (Classical.choose hx))).1 _ _ _ _ _ _ (fun _ _ _ _ h => h) h3
    rw [e1] at e2
    exact e2.symm

def Ev (p : Nat → Prop) : Prop := ∃ n, ∀ m, n ≤ m → p m
def KC (K : Kt) (Kn : Nat → Kt) : Prop := ∀ x e s r, K x e s = some r → Ev fun m => Kn m x e s = some r

theorem Ev.and {p q : Nat → Prop} (h : Ev p) (k : Ev q) : Ev fun m => p m ∧ q m := by
  obtain ⟨a, h⟩ := h; obtain ⟨b, k⟩ := k
  exact ⟨max a b, fun m hm => ⟨h m (by omega), k m (by omega)⟩⟩
theorem Ev.mono {p q : Nat → Prop} (h : Ev p) (k : ∀ m, p m → q m) : Ev q := by
  obtain ⟨a, h⟩ := h
  exact ⟨a, fun m hm => k m (h m hm)⟩

theorem stepI_cont {C : CallT} {Cn : Nat → CallT} (hC : ∀ f a s r, C f a s = some r → Ev fun m => Cn m f a s = some r) {i : II} {e : Env} {s : St} {p : Env × St} (h : stepI C i e s = some p) :
    Ev fun m => stepI (Cn m) i e s = some p := by
  unfold stepI at h ⊢
  split at h
  · simp only [Option.map_eq_some_iff] at h
    obtain ⟨q, h, rfl⟩ := h
    unfold execI at h ⊢
    split at h
    · exact (hC _ _ _ _ h).mono fun m hm => by simp only [hm, Option.map_some]
    · split at h
      · exact (hC _ _ _ _ h).mono fun m hm => by simp only [hm, Option.map_some]
      · cases h
    · exact ⟨0, fun m _ => by simp only [h, Option.map_some]⟩
  · exact ⟨0, fun _ _ => h⟩
  · cases h

theorem goOps_cont {C : CallT} {Cn : Nat → CallT} (hC : ∀ f a s r, C f a s = some r → Ev fun m => Cn m f a s = some r) {K : Env → St → Res} {Kn : Nat → Env → St → Res}
    (hK : ∀ e s r, K e s = some r → Ev fun m => Kn m e s = some r) {r : V × St} :
    ∀ (l : List II) (e : Env) (s : St), goOps C l e s K = some r → Ev fun m => goOps (Cn m) l e s (Kn m) = some r
  | [], e, s, h => hK _ _ _ h
  | i :: l, e, s, h => by
    simp only [goOps, Option.bind_eq_some_iff] at h ⊢
    obtain ⟨p, h1, h2⟩ := h
    exact ((stepI_cont hC h1).and (goOps_cont hC hK l _ _ h2)).mono fun m hm => ⟨p, hm.1, hm.2⟩

theorem go_cont {L : IC → Env → St → Kt → Res} {Ln : Nat → IC → Env → St → Kt → Res} {C : CallT} {Cn : Nat → CallT}
    (hL : ∀ c e s K Kn r, KC K Kn → L c e s K = some r → Ev fun m => Ln m c e s (Kn m) = some r)
    (hC : ∀ f a s r, C f a s = some r → Ev fun m => Cn m f a s = some r) {r : V × St} :
    ∀ (c : IC) (e : Env) (s : St) (K : Kt) (Kn : Nat → Kt), KC K Kn → go L C c e s K = some r → Ev fun m => go (Ln m) (Cn m) c e s (Kn m) = some r
  | .skip, e, s, K, K', hK, h => hK _ _ _ _ h
  | .region ops keep, e, s, K, K', hK, h => goOps_cont hC (fun _ _ _ h => hK _ _ _ _ h) ops _ _ h
  | .seq a b, e, s, K, K', hK, h => by
    refine go_cont hL hC a e s _ _ (fun x e s r h => ?_) h
    cases x with
    | normal => exact go_cont hL hC b _ _ _ _ hK h
    | exit i => exact hK _ _ _ _ h
    | ret => exact hK _ _ _ _ h
  | .cond c a b, e, s, K, K', hK, h => by
    simp only [go] at h ⊢
    split at h
    · exact go_cont hL hC a _ _ _ _ hK h
    · exact go_cont hL hC b _ _ _ _ hK h
    · cases h
  | .block id a, e, s, K, K', hK, h => by
    refine go_cont hL hC a e s _ _ (fun x e s r h => ?_) h
    cases x with
    | normal => exact hK _ _ _ _ h
    | exit i =>
      simp only at h ⊢
      split at h
      · rename_i hi; simp only [if_pos hi]; exact hK _ _ _ _ h
      · rename_i hi; simp only [if_neg hi]; exact hK _ _ _ _ h
    | ret => exact hK _ _ _ _ h
  | .loop a, e, s, K, K', hK, h => by
    refine go_cont hL hC a e s _ _ (fun x e s r h => ?_) h
    cases x with
    | normal => exact hL _ _ _ _ _ _ hK h
    | exit i => exact hK _ _ _ _ h
    | ret => exact hK _ _ _ _ h
  | .exit i, e, s, K, K', hK, h => hK _ _ _ _ h
  | .ret, e, s, K, K', hK, h => hK _ _ _ _ h

theorem C_cont (F : Nat → Option IFn) (k : Nat) : ∀ f a s r, (LC F k).2 f a s = some r → Ev fun m => (LC F m).2 f a s = some r :=
  fun f a s r h => ⟨k, fun m hm => (LC_le F hm).2 _ _ _ _ h⟩

theorem L_cont (F : Nat → Option IFn) : ∀ (k : Nat) c e s K Kn r, KC K Kn → (LC F k).1 c e s K = some r → Ev fun m => (LC F m).1 c e s (Kn m) = some r
  | 0, _, _, _, _, _, _, _, h => by simp [LC] at h
  | k + 1, c, e, s, K, Kn, r, hK, h => by
    have hK' : KC K (fun m => Kn (m + 1)) := fun x e s r h => by
      obtain ⟨n, hn⟩ := hK x e s r h
      exact ⟨n, fun m hm => hn (m + 1) (by omega)⟩
    obtain ⟨n, hn⟩ := go_cont (Ln := fun m => (LC F m).1) (Cn := fun m => (LC F m).2) (L_cont F k) (C_cont F k) c e s K _ hK' h
    refine ⟨n + 1, fun m hm => ?_⟩
    obtain ⟨m, rfl⟩ : ∃ m', m = m' + 1 := ⟨m - 1, by omega⟩
    exact hn m (by omega)

theorem KC.const (K : Kt) : KC K (fun _ => K) := fun _ _ _ _ h => ⟨0, fun _ _ => h⟩

theorem go_limit (F : Nat → Option IFn) (c : IC) (e : Env) (s : St) (K : Kt) (r : V × St) : go (loop F) (call F) c e s K = some r ↔ ∃ n, go (LC F n).1 (LC F n).2 c e s K = some r := by
  constructor
  · intro h
    obtain ⟨n, hn⟩ := go_cont (Ln := fun m => (LC F m).1) (Cn := fun m => (LC F m).2)
      (fun c e s K Kn r hK h => by obtain ⟨k, hk⟩ := loop_some.1 h; exact L_cont F k _ _ _ _ _ _ hK hk)
      (fun f a s r h => by obtain ⟨k, hk⟩ := call_some.1 h; exact C_cont F k _ _ _ _ hk) c e s K _ (KC.const K) h
    exact ⟨n, hn n (Nat.le_refl _)⟩
  · rintro ⟨n, h⟩
    exact go_mono (L := (LC F n).1) (C := (LC F n).2) (fun c e s K K' r hK h => loop_some.2 ⟨n, LC_Lrefl F n _ _ _ _ _ _ hK h⟩) (fun f a s r h => call_some.2 ⟨n, h⟩) c e s K K (fun _ _ _ _ h => h) h

/-- A loop, one round further. -/
theorem loop_eq (F : Nat → Option IFn) (c : IC) (e : Env) (s : St) (K : Kt) : loop F c e s K = go (loop F) (call F) c e s K := by
  apply Option.ext
  intro r
  rw [loop_some, go_limit]
  constructor
  · rintro ⟨n, h⟩
    cases n with
    | zero => simp [LC] at h
    | succ n => exact ⟨n, h⟩
  · rintro ⟨n, h⟩
    exact ⟨n + 1, h⟩

/-- A call: the function's code. -/
theorem call_eq (F : Nat → Option IFn) (f : Nat) (fn : IFn) (hf : F f = some fn) (args : List V) (s : St) : call F f args s = go (loop F) (call F) fn.body (initEnv fn args) s (fin fn) := by
  apply Option.ext
  intro r
  rw [call_some, go_limit]
  constructor
  · rintro ⟨n, h⟩
    cases n with
    | zero => simp [LC] at h
    | succ n => simp only [LC, hf] at h; exact ⟨n, h⟩
  · rintro ⟨n, h⟩
    exact ⟨n + 1, by simp only [LC, hf]; exact h⟩

/-- What the machine answers, Go answers. -/
theorem call_sound {P : Program} (hm : P.follows .mixedOrders = true) : CallsOk P (call (compF P)) := by
  intro f args s v s' h
  obtain ⟨n, h⟩ := call_some.1 h
  exact (sound hm (fun _ _ h => h) n).1 f args s v s' h
#print axioms call_sound
end Go.IM
