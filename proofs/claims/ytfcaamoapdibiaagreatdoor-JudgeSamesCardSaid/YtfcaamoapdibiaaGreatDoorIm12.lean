/- The machine without a depth: its limit, and the equations that it keeps. -/
import Derived.Test.YtfcaamoapdibiaaGreatDoorIm11
set_option linter.unusedSimpArgs false
set_option linter.unusedVariables false
namespace Go.IM

def Cle (C C' : CallT) : Prop := ∀ f a s r, C f a s = some r → C' f a s = some r
def Lle (L L' : IC → Env → St → Kt → Res) : Prop := ∀ c e s (K K' : Kt) r, (∀ x e s r, K x e s = some r → K' x e s = some r) → L c e s K = some r → L' c e s K' = some r

theorem stepI_mono {C C' : CallT} (hC : Cle C C') {i : II} {e : Env} {s : St} {p : Env × St} (h : stepI C i e s = some p) : stepI C' i e s = some p := by
  unfold stepI at h ⊢
  split at h
  · rename_i hw
    simp only [Option.map_eq_some_iff] at h ⊢
    obtain ⟨q, h, rfl⟩ := h
    refine ⟨q, ?_, rfl⟩
    unfold execI at h ⊢
    split at h
    · exact hC _ _ _ _ h
    · split at h
      · exact hC _ _ _ _ h
      · cases h
    · exact h
  · exact h
  · cases h

theorem goOps_mono {C C' : CallT} (hC : Cle C C') {K K' : Env → St → Res} (hK : ∀ e s r, K e s = some r → K' e s = some r) {r : V × St} :
    ∀ (l : List II) (e : Env) (s : St), goOps C l e s K = some r → goOps C' l e s K' = some r
  | [], e, s, h => hK _ _ _ h
  | i :: l, e, s, h => by
    simp only [goOps, Option.bind_eq_some_iff] at h ⊢
    obtain ⟨p, h1, h2⟩ := h
    exact ⟨p, stepI_mono hC h1, goOps_mono hC hK l _ _ h2⟩

theorem dfrK_mono {C C' : CallT} (hC : Cle C C') {g : Nat} {as : List V} {K K' : Kt} (hK : ∀ x e s r, K x e s = some r → K' x e s = some r) : ∀ x e s r, dfrK C g as K x e s = some r → dfrK C' g as K' x e s = some r := by
  intro x e s r h
  cases x with
  | exit i => cases h
  | normal =>
    simp only [dfrK, Option.bind_eq_some_iff] at h ⊢
    obtain ⟨p, h1, h2⟩ := h
    exact ⟨p, hC _ _ _ _ h1, hK _ _ _ _ h2⟩
  | ret =>
    simp only [dfrK, Option.bind_eq_some_iff] at h ⊢
    obtain ⟨p, h1, h2⟩ := h
    exact ⟨p, hC _ _ _ _ h1, hK _ _ _ _ h2⟩
theorem go_mono {L L' : IC → Env → St → Kt → Res} {C C' : CallT} (hL : Lle L L') (hC : Cle C C') {r : V × St} :
    ∀ (c : IC) (e : Env) (s : St) (K K' : Kt), (∀ x e s r, K x e s = some r → K' x e s = some r) → go L C c e s K = some r → go L' C' c e s K' = some r
  | .skip, e, s, K, K', hK, h => hK _ _ _ _ h
  | .region ops keep, e, s, K, K', hK, h => goOps_mono hC (fun _ _ _ h => hK _ _ _ _ h) ops _ _ h
  | .seq a b, e, s, K, K', hK, h => by
    refine go_mono hL hC a e s _ _ (fun x e s r h => ?_) h
    cases x with
    | normal => exact go_mono hL hC b _ _ _ _ hK h
    | exit i => exact hK _ _ _ _ h
    | ret => exact hK _ _ _ _ h
  | .cond c a b, e, s, K, K', hK, h => by
    simp only [go] at h ⊢
    split at h
    · exact go_mono hL hC a _ _ _ _ hK h
    · exact go_mono hL hC b _ _ _ _ hK h
    · cases h
  | .block id a, e, s, K, K', hK, h => by
    refine go_mono hL hC a e s _ _ (fun x e s r h => ?_) h
    cases x with
    | normal => exact hK _ _ _ _ h
    | exit i =>
      simp only at h ⊢
      split at h
      · rename_i hi; rw [if_pos hi]; exact hK _ _ _ _ h
      · rename_i hi; rw [if_neg hi]; exact hK _ _ _ _ h
    | ret => exact hK _ _ _ _ h
  | .loop a, e, s, K, K', hK, h => by
    refine go_mono hL hC a e s _ _ (fun x e s r h => ?_) h
    cases x with
    | normal => exact hL _ _ _ _ _ _ hK h
    | exit i => exact hK _ _ _ _ h
    | ret => exact hK _ _ _ _ h
  | .range f ps a b, e, s, K, K', hK, h => hL _ _ _ _ _ _ hK h
  | .exit i, e, s, K, K', hK, h => hK _ _ _ _ h
  | .ret, e, s, K, K', hK, h => hK _ _ _ _ h
  | .dead, _, _, _, _, _, h => by cases h
  | .dfr f args a, e, s, K, K', hK, h => by
    simp only [go] at h ⊢
    split at h
    · split at h
      · rename_i h0; rw [if_pos h0]; exact go_mono hL hC a _ _ _ _ (dfrK_mono hC hK) h
      · cases h
    · cases h

def Yle (Y Y' : Yt) : Prop := ∀ j a s r, Y j a s = some r → Y' j a s = some r
theorem Yle.refl (Y : Yt) : Yle Y Y := fun _ _ _ _ h => h
theorem Yle.no (Y : Yt) : Yle noY Y := fun _ _ _ _ h => by cases h
theorem Yle.withY {Y Y' : Yt} (h : Yle Y Y') {k : Nat} {f f' : List V → St → Res} (hf : ∀ a s r, f a s = some r → f' a s = some r) : Yle (withY Y k f) (withY Y' k f') := by
  intro j a s r hj
  unfold IM.withY at hj ⊢
  split at hj
  · rename_i e; rw [if_pos e]; exact hf _ _ _ hj
  · rename_i e; rw [if_neg e]; exact h _ _ _ _ hj

theorem roundEnd_mono (k : Nat) : ∀ x e s r, roundEnd k x e s = some r → roundEnd k x e s = some r := fun _ _ _ _ h => h
theorem roundMid_mono {M M' : LT × CallT} (hL : Lle M.1 M'.1) (hC : Cle M.2 M'.2) (b : IC) (k : Nat) : ∀ x e s r, roundMid M b k x e s = some r → roundMid M' b k x e s = some r := by
  intro x e s r h
  cases x with
  | exit i => cases h
  | ret => cases h
  | normal =>
    simp only [roundMid] at h ⊢
    split at h
    · exact go_mono hL hC _ _ _ _ _ (fun _ _ _ _ h => h) h
    · cases h
theorem roundI_mono {M M' : LT × CallT} (hL : Lle M.1 M'.1) (hC : Cle M.2 M'.2) {ps : List Nat} {a b : IC} {e : Env} {k : Nat} : ∀ args t r, roundI M ps a b e k args t = some r → roundI M' ps a b e k args t = some r := by
  intro args t r h
  unfold roundI at h ⊢
  split at h
  · rename_i hl; rw [if_pos hl]
    split at h
    · exact go_mono hL hC _ _ _ _ _ (roundMid_mono hL hC b k) h
    · cases h
  · cases h
theorem rangeEnd_mono {K K' : Kt} (hK : ∀ x e s r, K x e s = some r → K' x e s = some r) {k : Nat} {e : Env} {p : V × St} {r : V × St} (h : rangeEnd k e K p = some r) : rangeEnd k e K' p = some r := by
  unfold rangeEnd at h ⊢
  split at h <;> first | exact hK _ _ _ _ h | cases h

def Mle (M M' : Yt → LT × CallT) : Prop := ∀ Y Y', Yle Y Y' → Lle (M Y).1 (M' Y').1 ∧ Cle (M Y).2 (M' Y').2
theorem rangeI_mono {M M' : Yt → LT × CallT} (hM : Mle M M') {Y Y' : Yt} (hY : Yle Y Y') {f : Arg} {ps : List Nat} {a b : IC} {e : Env} {s : St} {K K' : Kt} {r : V × St} (hK : ∀ x e s r, K x e s = some r → K' x e s = some r)
    (h : rangeI M Y f ps a b e s K = some r) : rangeI M' Y' f ps a b e s K' = some r := by
  unfold rangeI at h ⊢
  split at h
  · split at h
    · rename_i h0
      rw [if_pos h0]
      simp only [Option.bind_eq_some_iff] at h ⊢
      obtain ⟨p, h1, h2⟩ := h
      obtain ⟨m1, m2⟩ := hM Y Y' hY
      exact ⟨p, (hM _ _ (hY.withY (roundI_mono m1 m2))).2 _ _ _ _ h1, rangeEnd_mono hK h2⟩
    · cases h
  · cases h

theorem LC_mle (F : Nat → Option IFn) : ∀ {n m : Nat}, n ≤ m → Mle (LC F n) (LC F m)
  | 0, _, _ => fun _ _ _ => ⟨fun _ _ _ _ _ _ _ h => by simp [LC] at h, fun _ _ _ _ h => by simp [LC] at h⟩
  | n + 1, 0, h => absurd h (by omega)
  | n + 1, m + 1, h => fun Y Y' hY => by
    have hM := LC_mle F (show n ≤ m by omega)
    obtain ⟨h1, h2⟩ := hM Y Y' hY
    refine ⟨fun c e s K K' r hK h => ?_, fun f a s r h => ?_⟩
    · cases c with
      | range f ps a b => exact rangeI_mono hM hY hK h
      | _ => exact go_mono h1 h2 _ e s K K' hK h
    · simp only [LC] at h ⊢
      split at h
      · rename_i h0
        rw [if_pos h0]
        split at h
        · exact go_mono h1 h2 _ _ _ _ _ (fun _ _ _ _ h => h) h
        · cases h
      · rename_i h0
        rw [if_neg h0]
        exact hY _ _ _ _ h

theorem LC_Lrefl (F : Nat → Option IFn) (n : Nat) (Y : Yt) : Lle (LC F n Y).1 (LC F n Y).1 := (LC_mle F (Nat.le_refl n) Y Y (Yle.refl Y)).1
theorem LC_le (F : Nat → Option IFn) {n m : Nat} (h : n ≤ m) (Y : Yt) : Lle (LC F n Y).1 (LC F m Y).1 ∧ Cle (LC F n Y).2 (LC F m Y).2 := LC_mle F h Y Y (Yle.refl Y)

open Classical in
/-- A call, however deep. -/
noncomputable def callY (F : Nat → Option IFn) (Y : Yt) : CallT := fun f a s =>
  if h : ∃ n, ((LC F n Y).2 f a s).isSome then (LC F (Classical.choose h) Y).2 f a s else none

open Classical in
/-- Code, however deep. -/
noncomputable def loopY (F : Nat → Option IFn) (Y : Yt) : IC → Env → St → Kt → Res := fun c e s K =>
  if h : ∃ n, ((LC F n Y).1 c e s K).isSome then (LC F (Classical.choose h) Y).1 c e s K else none

/-- Outside of loops over functions. -/
noncomputable abbrev call (F : Nat → Option IFn) : CallT := callY F noY
noncomputable abbrev loop (F : Nat → Option IFn) : IC → Env → St → Kt → Res := loopY F noY

theorem call_some {F : Nat → Option IFn} {Y : Yt} {f : Nat} {a : List V} {s : St} {r : V × St} : callY F Y f a s = some r ↔ ∃ n, (LC F n Y).2 f a s = some r := by
  unfold callY
  constructor
  · intro h
    split at h
    · exact ⟨_, h⟩
    · cases h
  · rintro ⟨n, h⟩
    have hx : ∃ n, ((LC F n Y).2 f a s).isSome := ⟨n, by rw [h]; rfl⟩
    rw [dif_pos hx]
    have h2 := Classical.choose_spec hx
    obtain ⟨r', h3⟩ := Option.isSome_iff_exists.1 h2
    rw [h3]
    have e1 := (LC_le F (Nat.le_max_left n (Classical.choose hx)) Y).2 _ _ _ _ h
    have e2 := (LC_le F (Nat.le_max_right n (Classical.choose hx)) Y).2 _ _ _ _ h3
    rw [e1] at e2
    exact e2.symm

theorem loop_some {F : Nat → Option IFn} {Y : Yt} {c : IC} {e : Env} {s : St} {K : Kt} {r : V × St} : loopY F Y c e s K = some r ↔ ∃ n, (LC F n Y).1 c e s K = some r := by
  unfold loopY
  constructor
  · intro h
    split at h
    · exact ⟨_, h⟩
    · cases h
  · rintro ⟨n, h⟩
    have hx : ∃ n, ((LC F n Y).1 c e s K).isSome := ⟨n, by rw [h]; rfl⟩
    rw [dif_pos hx]
    have h2 := Classical.choose_spec hx
    obtain ⟨r', h3⟩ := Option.isSome_iff_exists.1 h2
    rw [h3]
    have e1 := (LC_le F (Nat.le_max_left n (Classical.choose hx)) Y).1 _ _ _ _ _ _ (fun _ _ _ _ h => h) h
    have e2 := (LC_le F (Nat.le_max_right n (Classical.choose hx)) Y).1 _ _ _ _ _ _ (fun _ _ _ _ h => h) h3
    rw [e1] at e2
    exact e2.symm

/-- A call that answers answers the same within a loop over a function. -/
theorem callY_mono {F : Nat → Option IFn} {Y Y' : Yt} (hY : Yle Y Y') : Cle (callY F Y) (callY F Y') := by
  intro f a s r h
  obtain ⟨n, h⟩ := call_some.1 h
  exact call_some.2 ⟨n, (LC_mle F (Nat.le_refl n) Y Y' hY).2 _ _ _ _ h⟩
theorem loopY_mono {F : Nat → Option IFn} {Y Y' : Yt} (hY : Yle Y Y') : Lle (loopY F Y) (loopY F Y') := by
  intro c e s K K' r hK h
  obtain ⟨n, h⟩ := loop_some.1 h
  exact loop_some.2 ⟨n, (LC_mle F (Nat.le_refl n) Y Y' hY).1 _ _ _ _ _ _ hK h⟩
theorem lim_mle (F : Nat → Option IFn) (n : Nat) : Mle (LC F n) (fun Y => (loopY F Y, callY F Y)) := fun Y Y' hY =>
  ⟨fun _ _ _ K K' r hK h => loop_some.2 ⟨n, (LC_mle F (Nat.le_refl n) Y Y' hY).1 _ _ _ _ _ _ hK h⟩, fun _ _ _ r h => call_some.2 ⟨n, (LC_mle F (Nat.le_refl n) Y Y' hY).2 _ _ _ _ h⟩⟩

def Ev (p : Nat → Prop) : Prop := ∃ n, ∀ m, n ≤ m → p m
def KC (K : Kt) (Kn : Nat → Kt) : Prop := ∀ x e s r, K x e s = some r → Ev fun m => Kn m x e s = some r

theorem Ev.and {p q : Nat → Prop} (h : Ev p) (k : Ev q) : Ev fun m => p m ∧ q m := by
  obtain ⟨a, h⟩ := h; obtain ⟨b, k⟩ := k
  exact ⟨max a b, fun m hm => ⟨h m (by omega), k m (by omega)⟩⟩
theorem Ev.mono {p q : Nat → Prop} (h : Ev p) (k : ∀ m, p m → q m) : Ev q := by
  obtain ⟨a, h⟩ := h
  exact ⟨a, fun m hm => k m (h m hm)⟩

theorem stepI_cont {C : CallT} {Cn : Nat → CallT} (hC : ∀ f a s r, C f a s = some r → Ev fun m => Cn m f a s = some r) {i : II} {e : Env} {s : St} {p : Env × St} (h : stepI C i e s = some p) :
    Ev fun m => stepI (Cn m) i e s = some p := by
  unfold stepI at h ⊢
  split at h
  · simp only [Option.map_eq_some_iff] at h
    obtain ⟨q, h, rfl⟩ := h
    unfold execI at h ⊢
    split at h
    · exact (hC _ _ _ _ h).mono fun m hm => by simp only [hm, Option.map_some]
    · split at h
      · exact (hC _ _ _ _ h).mono fun m hm => by simp only [hm, Option.map_some]
      · cases h
    · exact ⟨0, fun m _ => by simp only [h, Option.map_some]⟩
  · exact ⟨0, fun _ _ => h⟩
  · cases h

theorem goOps_cont {C : CallT} {Cn : Nat → CallT} (hC : ∀ f a s r, C f a s = some r → Ev fun m => Cn m f a s = some r) {K : Env → St → Res} {Kn : Nat → Env → St → Res}
    (hK : ∀ e s r, K e s = some r → Ev fun m => Kn m e s = some r) {r : V × St} :
    ∀ (l : List II) (e : Env) (s : St), goOps C l e s K = some r → Ev fun m => goOps (Cn m) l e s (Kn m) = some r
  | [], e, s, h => hK _ _ _ h
  | i :: l, e, s, h => by
    simp only [goOps, Option.bind_eq_some_iff] at h ⊢
    obtain ⟨p, h1, h2⟩ := h
    exact ((stepI_cont hC h1).and (goOps_cont hC hK l _ _ h2)).mono fun m hm => ⟨p, hm.1, hm.2⟩

theorem dfrK_cont {C : CallT} {Cn : Nat → CallT} (hC : ∀ f a s r, C f a s = some r → Ev fun m => Cn m f a s = some r) {g : Nat} {as : List V} {K : Kt} {Kn : Nat → Kt} (hK : KC K Kn) : KC (dfrK C g as K) (fun m => dfrK (Cn m) g as (Kn m)) := by
  intro x e s r h
  cases x with
  | exit i => cases h
  | normal =>
    simp only [dfrK, Option.bind_eq_some_iff] at h ⊢
    obtain ⟨p, h1, h2⟩ := h
    exact ((hC _ _ _ _ h1).and (hK _ _ _ _ h2)).mono fun m hm => ⟨p, hm.1, hm.2⟩
  | ret =>
    simp only [dfrK, Option.bind_eq_some_iff] at h ⊢
    obtain ⟨p, h1, h2⟩ := h
    exact ((hC _ _ _ _ h1).and (hK _ _ _ _ h2)).mono fun m hm => ⟨p, hm.1, hm.2⟩
theorem go_cont {L : IC → Env → St → Kt → Res} {Ln : Nat → IC → Env → St → Kt → Res} {C : CallT} {Cn : Nat → CallT}
    (hL : ∀ c e s K Kn r, KC K Kn → L c e s K = some r → Ev fun m => Ln m c e s (Kn m) = some r)
    (hC : ∀ f a s r, C f a s = some r → Ev fun m => Cn m f a s = some r) {r : V × St} :
    ∀ (c : IC) (e : Env) (s : St) (K : Kt) (Kn : Nat → Kt), KC K Kn → go L C c e s K = some r → Ev fun m => go (Ln m) (Cn m) c e s (Kn m) = some r
  | .skip, e, s, K, K', hK, h => hK _ _ _ _ h
  | .region ops keep, e, s, K, K', hK, h => goOps_cont hC (fun _ _ _ h => hK _ _ _ _ h) ops _ _ h
  | .seq a b, e, s, K, K', hK, h => by
    refine go_cont hL hC a e s _ _ (fun x e s r h => ?_) h
    cases x with
    | normal => exact go_cont hL hC b _ _ _ _ hK h
    | exit i => exact hK _ _ _ _ h
    | ret => exact hK _ _ _ _ h
  | .cond c a b, e, s, K, K', hK, h => by
    simp only [go] at h ⊢
    split at h
    · exact go_cont hL hC a _ _ _ _ hK h
    · exact go_cont hL hC b _ _ _ _ hK h
    · cases h
  | .block id a, e, s, K, K', hK, h => by
    refine go_cont hL hC a e s _ _ (fun x e s r h => ?_) h
    cases x with
    | normal => exact hK _ _ _ _ h
    | exit i =>
      simp only at h ⊢
      split at h
      · rename_i hi; simp only [if_pos hi]; exact hK _ _ _ _ h
      · rename_i hi; simp only [if_neg hi]; exact hK _ _ _ _ h
    | ret => exact hK _ _ _ _ h
  | .loop a, e, s, K, K', hK, h => by
    refine go_cont hL hC a e s _ _ (fun x e s r h => ?_) h
    cases x with
    | normal => exact hL _ _ _ _ _ _ hK h
    | exit i => exact hK _ _ _ _ h
    | ret => exact hK _ _ _ _ h
  | .range f ps a b, e, s, K, K', hK, h => hL _ _ _ _ _ _ hK h
  | .exit i, e, s, K, K', hK, h => hK _ _ _ _ h
  | .ret, e, s, K, K', hK, h => hK _ _ _ _ h
  | .dead, _, _, _, _, _, h => by cases h
  | .dfr f args a, e, s, K, K', hK, h => by
    simp only [go] at h ⊢
    split at h
    · split at h
      · rename_i h0; simp only [if_pos h0]; exact go_cont hL hC a _ _ _ _ (dfrK_cont hC hK) h
      · cases h
    · cases h

def YC (Y : Yt) (Yn : Nat → Yt) : Prop := ∀ j a s r, Y j a s = some r → Ev fun m => Yn m j a s = some r
theorem YC.const (Y : Yt) : YC Y (fun _ => Y) := fun _ _ _ _ h => ⟨0, fun _ _ => h⟩
theorem Ev.shift {p : Nat → Prop} (h : Ev p) : Ev fun m => p (m + 1) := by
  obtain ⟨n, hn⟩ := h
  exact ⟨n, fun m hm => hn (m + 1) (by omega)⟩
theorem Ev.unshift {p : Nat → Prop} (h : Ev fun m => p (m + 1)) : Ev p := by
  obtain ⟨n, hn⟩ := h
  refine ⟨n + 1, fun m hm => ?_⟩
  obtain ⟨m, rfl⟩ : ∃ m', m = m' + 1 := ⟨m - 1, by omega⟩
  exact hn m (by omega)
theorem KC.const (K : Kt) : KC K (fun _ => K) := fun _ _ _ _ h => ⟨0, fun _ _ => h⟩

/-- Machines that come near a machine. -/
def MC (M : LT × CallT) (Mn : Nat → LT × CallT) : Prop :=
  (∀ c e s K Kn r, KC K Kn → M.1 c e s K = some r → Ev fun m => (Mn m).1 c e s (Kn m) = some r) ∧ (∀ f a s r, M.2 f a s = some r → Ev fun m => (Mn m).2 f a s = some r)

theorem MC.go {M : LT × CallT} {Mn : Nat → LT × CallT} (h : MC M Mn) {r : V × St} {c : IC} {e : Env} {s : St} {K : Kt} {Kn : Nat → Kt} (hK : KC K Kn) (hg : go M.1 M.2 c e s K = some r) :
    Ev fun m => go (Mn m).1 (Mn m).2 c e s (Kn m) = some r := go_cont h.1 h.2 c e s K Kn hK hg

theorem roundMid_cont {M : LT × CallT} {Mn : Nat → LT × CallT} (h : MC M Mn) (b : IC) (k : Nat) : KC (roundMid M b k) (fun m => roundMid (Mn m) b k) := by
  intro x e s r hr
  cases x with
  | exit i => cases hr
  | ret => cases hr
  | normal =>
    simp only [roundMid] at hr ⊢
    split at hr
    · rename_i hs; exact (h.go (KC.const _) hr)
    · cases hr
theorem roundI_cont {M : LT × CallT} {Mn : Nat → LT × CallT} (h : MC M Mn) {ps : List Nat} {a b : IC} {e : Env} {k : Nat} {args : List V} {t : St} {r : V × St} (hr : roundI M ps a b e k args t = some r) :
    Ev fun m => roundI (Mn m) ps a b e k args t = some r := by
  unfold roundI at hr ⊢
  split at hr
  · rename_i hl; simp only [if_pos hl]
    split at hr
    · rename_i hs; exact (h.go (roundMid_cont h b k) hr)
    · cases hr
  · cases hr
theorem YC.withY {Y : Yt} {Yn : Nat → Yt} (h : YC Y Yn) {k : Nat} {f : List V → St → Res} {fn : Nat → List V → St → Res} (hf : ∀ a s r, f a s = some r → Ev fun m => fn m a s = some r) : YC (withY Y k f) (fun m => withY (Yn m) k (fn m)) := by
  intro j a s r hj
  unfold IM.withY at hj ⊢
  split at hj
  · rename_i e; simp only [if_pos e]; exact hf _ _ _ hj
  · rename_i e; simp only [if_neg e]; exact h _ _ _ _ hj
theorem rangeEnd_cont {K : Kt} {Kn : Nat → Kt} (hK : KC K Kn) {k : Nat} {e : Env} {p : V × St} {r : V × St} (h : rangeEnd k e K p = some r) : Ev fun m => rangeEnd k e (Kn m) p = some r := by
  unfold rangeEnd at h ⊢
  split at h
  · rename_i hs; exact (hK _ _ _ _ h)
  · rename_i hs; exact (hK _ _ _ _ h)
  · rename_i hs; exact (hK _ _ _ _ h)
  · cases h
theorem rangeI_cont {M : Yt → LT × CallT} {Mn : Nat → Yt → LT × CallT} {Y : Yt} {Yn : Nat → Yt} (hY : YC Y Yn) (hM : ∀ Y Yn, YC Y Yn → MC (M Y) (fun m => Mn m (Yn m))) {f : Arg} {ps : List Nat} {a b : IC} {e : Env} {s : St} {K : Kt} {Kn : Nat → Kt} (hK : KC K Kn) {r : V × St}
    (h : rangeI M Y f ps a b e s K = some r) : Ev fun m => rangeI (Mn m) (Yn m) f ps a b e s (Kn m) = some r := by
  unfold rangeI at h ⊢
  split at h
  · rename_i g pre caps hg
    split at h
    · rename_i h0
      simp only [Option.bind_eq_some_iff] at h
      obtain ⟨p, h1, h2⟩ := h
      have hY' := hY.withY (k := s.next) (f := roundI (M Y) ps a b e s.next) (fn := fun m => roundI (Mn m (Yn m)) ps a b e s.next) (fun _ _ _ h => roundI_cont (hM Y Yn hY) h)
      exact (((hM _ _ hY').2 _ _ _ _ h1).and (rangeEnd_cont hK h2)).mono fun m hm => by
        simp only [if_pos h0, Option.bind_eq_some_iff]
        exact ⟨p, hm.1, hm.2⟩
    · cases h
  · cases h

theorem LC_cont (F : Nat → Option IFn) : ∀ (k : Nat) (Y : Yt) (Yn : Nat → Yt), YC Y Yn → MC (LC F k Y) (fun m => LC F m (Yn m))
  | 0, _, _, _ => ⟨fun _ _ _ _ _ _ _ h => by simp [LC] at h, fun _ _ _ _ h => by simp [LC] at h⟩
  | k + 1, Y, Yn, hY => by
    have hYs : YC Y (fun m => Yn (m + 1)) := fun j a s r h => (hY j a s r h).shift
    have ih := LC_cont F k Y _ hYs
    refine ⟨fun c e s K Kn r hK h => ?_, fun f a s r h => ?_⟩
    · have hKs : KC K (fun m => Kn (m + 1)) := fun x e s r h => (hK x e s r h).shift
      cases c with
      | range f ps a b => exact Ev.unshift (rangeI_cont (M := LC F k) (Mn := fun m => LC F m) hYs (LC_cont F k) hKs h)
      | _ => exact Ev.unshift (ih.go hKs h)
    · simp only [LC] at h
      split at h
      · rename_i h0
        split at h
        · rename_i fn hf
          refine Ev.unshift ((ih.go (KC.const _) h).mono fun m hm => ?_)
          simp only [LC, if_pos h0, hf]
          exact hm
        · cases h
      · rename_i h0
        refine Ev.unshift ((hYs _ _ _ _ h).mono fun m hm => ?_)
        simp only [LC, if_neg h0]
        exact hm

theorem lim_cont (F : Nat → Option IFn) (Y : Yt) (Yn : Nat → Yt) (hY : YC Y Yn) : MC (loopY F Y, callY F Y) (fun m => LC F m (Yn m)) :=
  ⟨fun _ _ _ _ _ _ hK h => by obtain ⟨k, hk⟩ := loop_some.1 h; exact (LC_cont F k Y Yn hY).1 _ _ _ _ _ _ hK hk,
    fun _ _ _ _ h => by obtain ⟨k, hk⟩ := call_some.1 h; exact (LC_cont F k Y Yn hY).2 _ _ _ _ hk⟩

theorem go_limit (F : Nat → Option IFn) (Y : Yt) (c : IC) (e : Env) (s : St) (K : Kt) (r : V × St) : go (loopY F Y) (callY F Y) c e s K = some r ↔ ∃ n, go (LC F n Y).1 (LC F n Y).2 c e s K = some r := by
  constructor
  · intro h
    obtain ⟨n, hn⟩ := (lim_cont F Y _ (YC.const Y)).go (KC.const K) h
    exact ⟨n, hn n (Nat.le_refl _)⟩
  · rintro ⟨n, h⟩
    obtain ⟨h1, h2⟩ := lim_mle F n Y Y (Yle.refl Y)
    exact go_mono h1 h2 c e s K K (fun _ _ _ _ h => h) h

/-- A loop over a function. -/
theorem range_eq (F : Nat → Option IFn) (Y : Yt) (f : Arg) (ps : List Nat) (a b : IC) (e : Env) (s : St) (K : Kt) :
    loopY F Y (.range f ps a b) e s K = rangeI (fun Y => (loopY F Y, callY F Y)) Y f ps a b e s K := by
  apply Option.ext
  intro r
  rw [loop_some]
  constructor
  · rintro ⟨n, h⟩
    cases n with
    | zero => simp [LC] at h
    | succ n => exact rangeI_mono (lim_mle F n) (Yle.refl Y) (fun _ _ _ _ h => h) h
  · intro h
    obtain ⟨n, hn⟩ := rangeI_cont (Mn := fun m => LC F m) (YC.const Y) (lim_cont F) (KC.const K) h
    exact ⟨n + 1, hn n (Nat.le_refl _)⟩

def IC.isRange : IC → Bool
  | .range .. => true
  | _ => false
/-- A loop, one round further. -/
theorem loop_eq (F : Nat → Option IFn) (Y : Yt) (c : IC) (e : Env) (s : St) (K : Kt) (hc : c.isRange = false := by rfl) : loopY F Y c e s K = go (loopY F Y) (callY F Y) c e s K := by
  apply Option.ext
  intro r
  rw [loop_some, go_limit]
  have hn : ∀ n, (LC F (n + 1) Y).1 c e s K = go (LC F n Y).1 (LC F n Y).2 c e s K := by
    intro n
    cases c <;> first | rfl | cases hc
  constructor
  · rintro ⟨n, h⟩
    cases n with
    | zero => simp [LC] at h
    | succ n => exact ⟨n, (hn n) ▸ h⟩
  · rintro ⟨n, h⟩
    exact ⟨n + 1, (hn n).trans h⟩

/-- A call: the function's code. -/
theorem call_eq (F : Nat → Option IFn) (Y : Yt) (f : Nat) (fn : IFn) (hf : F f = some fn) (args : List V) (s : St) (h0 : f < yBase := by decide) : callY F Y f args s = go (loopY F Y) (callY F Y) fn.body (initEnv fn args) s (fin fn) := by
  apply Option.ext
  intro r
  rw [call_some, go_limit]
  constructor
  · rintro ⟨n, h⟩
    cases n with
    | zero => simp [LC] at h
    | succ n => simp only [LC, if_pos h0, hf] at h; exact ⟨n, h⟩
  · rintro ⟨n, h⟩
    exact ⟨n + 1, by simp only [LC, if_pos h0, hf]; exact h⟩

/-- A call of yield. -/
theorem call_yield (F : Nat → Option IFn) (Y : Yt) (k : Nat) (args : List V) (s : St) : callY F Y (yBase + k) args s = Y k args s := by
  apply Option.ext
  intro r
  rw [call_some]
  have h0 : ¬ yBase + k < yBase := by omega
  have h1 : yBase + k - yBase = k := by omega
  constructor
  · rintro ⟨n, h⟩
    cases n with
    | zero => simp [LC] at h
    | succ n => simp only [LC, if_neg h0, h1] at h; exact h
  · intro h
    exact ⟨1, by simp only [LC, if_neg h0, h1]; exact h⟩

/-- What the machine answers, Go answers. -/
theorem call_sound {P : Program} (hm : P.follows .mixedOrders = true) (B : Nat) (ρ0 : Rn) : CallsOk P B ρ0 (call (compF P)) := by
  intro f args s v s' h
  obtain ⟨n, h⟩ := call_some.1 h
  exact (sound hm (fun _ _ h => h) n).1 B ρ0 noY YOk.no f args s v s' h
#print axioms call_sound
end Go.IM
