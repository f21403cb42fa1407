/- The ideal machine's values and stores against Go's: what it is that they stand for each other, and what keeps it. -/
import Derived.Test.YtfcaamoapdibiaaGreatDoorIm1
set_option linter.unusedSimpArgs false
set_option linter.unusedVariables false
namespace Go.IM
open Go.RowKit (Below)

/-- Where a new object lies: its block, where it begins there, the size of its elements (0: it has not grown), how many cells the block has; of a loop over a function: what does not change. -/
structure RcS where
  fn : FuncId
  tmps : Array Value
  params : Array Tmp
  assign : Code
  body : Code
structure Pl where
  blk : Nat
  off : Nat
  sz : Nat
  cells : Nat
  rc : Option RcS

abbrev Rn := Nat → Option Pl

def place (ρ : Rn) (a : Ad) : Option Addr :=
  match a.id with
  | .old b => some ⟨b, a.off, none⟩
  | .new k => (ρ k).map fun p => ⟨p.blk, p.off + a.off, none⟩

def mplace (ρ : Rn) : Id → Option Nat
  | .old b => some b
  | .new k => (ρ k).map (·.blk)

def reach (ρ : Rn) (a : Ad) (c : Addr) (cap : Nat) (known : Option Nat) : Prop :=
  match a.id with
  | .old _ => True
  | .new k => a.off = 0 → ∀ p, ρ k = some p → 0 < p.sz → c.off + cap * p.sz ≤ p.cells ∧ (known = none → p.cells ≤ c.off + cap * p.sz)

mutual
def VR (ρ : Rn) : V → Value → Prop
  | .any, _ => True
  | .bool b, v => v = .bool b
  | .int k n, v => v = .int k n
  | .str s, v => v = .string s
  | .ptr none, v => v = .pointer none
  | .ptr (some a), v => ∃ c, v = .pointer (some c) ∧ place ρ a = some c
  | .slice none n c, v => n = 0 ∧ c = some 0 ∧ v = .slice none 0 0
  | .slice (some a) n c, v => ∃ c' cap, v = .slice (some c') n cap ∧ n ≤ cap ∧ (∀ m, c = some m → m = cap) ∧ (0 < cap → place ρ a = some c' ∧ reach ρ a c' cap c) ∧ (∃ c0, place ρ a = some c0) ∧ (c = none → a.off = 0 → 0 < cap)
  | .map none, v => v = .map none
  | .map (some i), v => ∃ b, v = .map (some b) ∧ mplace ρ i = some b
  | .func f pre caps, v => (f < yBase ∧ ∃ p c, v = .func (.func f) p c ∧ VRs ρ pre p.toList ∧ VRs ρ caps c.toList) ∨ (yBase ≤ f ∧ pre = [] ∧ caps = [] ∧ ∃ p, ρ (f - yBase) = some p ∧ v = .func (.yield p.blk) #[] #[])
  | .nilFunc, v => v = .nilFunc
  | .iface t x, v => ∃ y, v = .iface t y ∧ VR ρ x y
  | .nilIface, v => v = .nilIface
  | .agg cs, v => ∃ c, v = .agg c ∧ VRs ρ cs c.toList
  | .tuple cs, v => ∃ c, v = .tuple c ∧ VRs ρ cs c.toList
  | .junk x, v => v = x
def VRs (ρ : Rn) : List V → List Value → Prop
  | [], l => l = []
  | x :: xs, l => ∃ y ys, l = y :: ys ∧ VR ρ x y ∧ VRs ρ xs ys
end

def Le (ρ ρ' : Rn) : Prop := ∀ k p, ρ k = some p → ρ' k = some p

theorem Le.refl (ρ : Rn) : Le ρ ρ := fun _ _ h => h
theorem Le.trans {a b c : Rn} (h : Le a b) (k : Le b c) : Le a c := fun i p e => k i p (h i p e)

section
variable {ρ ρ' : Rn}

theorem place_mono (h : Le ρ ρ') {a : Ad} {c : Addr} (hp : place ρ a = some c) : place ρ' a = some c := by
  obtain ⟨i, o⟩ := a
  cases i with
  | old b => exact hp
  | new k =>
    simp only [place, Option.map_eq_some_iff] at hp ⊢
    obtain ⟨p, e, rfl⟩ := hp
    exact ⟨p, h k p e, rfl⟩

theorem mplace_mono (h : Le ρ ρ') {a : Id} {c : Nat} (hp : mplace ρ a = some c) : mplace ρ' a = some c := by
  cases a with
  | old b => exact hp
  | new k =>
    simp only [mplace, Option.map_eq_some_iff] at hp ⊢
    obtain ⟨p, e, rfl⟩ := hp
    exact ⟨p, h k p e, rfl⟩

theorem reach_mono (h : Le ρ ρ') {a : Ad} {c c' : Addr} {cap : Nat} {known : Option Nat} (hp : place ρ a = some c') (hr : reach ρ a c cap known) : reach ρ' a c cap known := by
  obtain ⟨i, o⟩ := a
  cases i with
  | old b => trivial
  | new k =>
    simp only [place, Option.map_eq_some_iff] at hp
    obtain ⟨p, e, _⟩ := hp
    intro h0 q hq
    have : q = p := by have := h k p e; rw [this] at hq; exact (Option.some.inj hq).symm
    subst this
    exact hr h0 q e

mutual
theorem VR_mono (h : Le ρ ρ') : ∀ (x : V) (v : Value), VR ρ x v → VR ρ' x v
  | .any, _, _ => trivial
  | .bool _, _, hv => hv
  | .int _ _, _, hv => hv
  | .str _, _, hv => hv
  | .ptr none, _, hv => hv
  | .ptr (some _), _, ⟨c, e, hp⟩ => ⟨c, e, place_mono h hp⟩
  | .slice none _ _, _, hv => hv
  | .slice (some _) _ _, _, ⟨c, cap, e, h1, h2, h3, ⟨c0, h4⟩, h5⟩ => ⟨c, cap, e, h1, h2, fun hc => ⟨place_mono h (h3 hc).1, reach_mono h (h3 hc).1 (h3 hc).2⟩, ⟨c0, place_mono h h4⟩, h5⟩
  | .map none, _, hv => hv
  | .map (some _), _, ⟨b, e, hp⟩ => ⟨b, e, mplace_mono h hp⟩
  | .func _ pre caps, _, .inl ⟨h0, p, c, e, h1, h2⟩ => .inl ⟨h0, p, c, e, VRs_mono h pre _ h1, VRs_mono h caps _ h2⟩
  | .func _ _ _, _, .inr ⟨h0, h1, h2, p, h3, e⟩ => .inr ⟨h0, h1, h2, p, h _ _ h3, e⟩
  | .nilFunc, _, hv => hv
  | .iface _ x, _, ⟨y, e, h1⟩ => ⟨y, e, VR_mono h x _ h1⟩
  | .nilIface, _, hv => hv
  | .agg cs, _, ⟨c, e, h1⟩ => ⟨c, e, VRs_mono h cs _ h1⟩
  | .tuple cs, _, ⟨c, e, h1⟩ => ⟨c, e, VRs_mono h cs _ h1⟩
  | .junk _, _, hv => hv
theorem VRs_mono (h : Le ρ ρ') : ∀ (xs : List V) (l : List Value), VRs ρ xs l → VRs ρ' xs l
  | [], _, hv => hv
  | x :: xs, _, ⟨y, ys, e, h1, h2⟩ => ⟨y, ys, e, VR_mono h x _ h1, VRs_mono h xs _ h2⟩
end

theorem VRs_nil : VRs ρ [] [] := rfl
theorem VRs_cons {x : V} {y : Value} {xs : List V} {ys : List Value} (h : VR ρ x y) (hs : VRs ρ xs ys) : VRs ρ (x :: xs) (y :: ys) := ⟨y, ys, rfl, h, hs⟩

theorem VRs_cons_iff {x : V} {y : Value} {xs : List V} {ys : List Value} : VRs ρ (x :: xs) (y :: ys) ↔ VR ρ x y ∧ VRs ρ xs ys := by
  constructor
  · rintro ⟨y', ys', e, h1, h2⟩
    simp only [List.cons.injEq] at e
    obtain ⟨rfl, rfl⟩ := e
    exact ⟨h1, h2⟩
  · rintro ⟨h1, h2⟩
    exact VRs_cons h1 h2

theorem VRs_iff : ∀ {xs : List V} {l : List Value}, VRs ρ xs l ↔ xs.length = l.length ∧ ∀ (i : Nat) (x : V) (y : Value), xs[i]? = some x → l[i]? = some y → VR ρ x y
  | [], l => by
    simp only [VRs]
    constructor
    · rintro rfl; simp
    · rintro ⟨h, _⟩; exact List.eq_nil_of_length_eq_zero (by simpa using h.symm)
  | x :: xs, [] => by
    constructor
    · rintro ⟨_, _, e, _⟩; cases e
    · rintro ⟨h, _⟩; simp at h
  | x :: xs, y :: ys => by
    rw [VRs_cons_iff, VRs_iff]
    constructor
    · rintro ⟨h1, h2, h3⟩
      refine ⟨by simpa using h2, fun i a b ha hb => ?_⟩
      cases i with
      | zero => simp at ha hb; subst ha hb; exact h1
      | succ i => exact h3 i a b (by simpa using ha) (by simpa using hb)
    · rintro ⟨h1, h2⟩
      exact ⟨h2 0 x y rfl rfl, by simpa using h1, fun i a b ha hb => h2 (i + 1) a b (by simpa using ha) (by simpa using hb)⟩

theorem VRs_length {xs : List V} {l : List Value} (h : VRs ρ xs l) : xs.length = l.length := (VRs_iff.1 h).1

theorem VRs_get {xs : List V} {l : List Value} (h : VRs ρ xs l) {i : Nat} {x : V} (hx : xs[i]? = some x) : ∃ y, l[i]? = some y ∧ VR ρ x y := by
  have hl := VRs_length h
  have hi : i < xs.length := (List.getElem?_eq_some_iff.1 hx).1
  exact ⟨l[i]'(by omega), List.getElem?_eq_getElem (by omega), (VRs_iff.1 h).2 i _ _ hx (List.getElem?_eq_getElem (by omega))⟩

theorem VRs_take {xs : List V} {l : List Value} (h : VRs ρ xs l) (n : Nat) : VRs ρ (xs.take n) (l.take n) := by
  obtain ⟨h1, h2⟩ := VRs_iff.1 h
  refine VRs_iff.2 ⟨by simp [h1], fun i x y hx hy => ?_⟩
  rw [List.getElem?_take] at hx hy
  split at hx
  · rename_i hi
    rw [if_pos hi] at hy
    exact h2 i x y hx hy
  · cases hx

theorem VRs_drop {xs : List V} {l : List Value} (h : VRs ρ xs l) (n : Nat) : VRs ρ (xs.drop n) (l.drop n) := by
  obtain ⟨h1, h2⟩ := VRs_iff.1 h
  exact VRs_iff.2 ⟨by simp [h1], fun i x y hx hy => h2 (n + i) x y (by simpa using hx) (by simpa using hy)⟩

theorem VRs_append {xs ys : List V} {l m : List Value} (h : VRs ρ xs l) (k : VRs ρ ys m) : VRs ρ (xs ++ ys) (l ++ m) := by
  induction xs generalizing l with
  | nil => cases (show l = [] from h); exact k
  | cons x xs ih =>
    obtain ⟨y, ys', rfl, h1, h2⟩ := h
    exact VRs_cons h1 (ih h2)

theorem VRs_set {xs : List V} {l : List Value} (h : VRs ρ xs l) (i : Nat) {x : V} {y : Value} (hv : VR ρ x y) : VRs ρ (xs.set i x) (l.set i y) := by
  obtain ⟨h1, h2⟩ := VRs_iff.1 h
  refine VRs_iff.2 ⟨by simpa using h1, fun j a b ha hb => ?_⟩
  rw [List.getElem?_set] at ha hb
  split at ha
  · rename_i hij
    subst hij
    rw [if_pos rfl] at hb
    split at ha
    · rename_i hl
      rw [if_pos (by omega)] at hb
      cases ha; cases hb; exact hv
    · cases ha
  · rename_i hij
    rw [if_neg hij] at hb
    exact h2 j a b ha hb

theorem VRs_mask : ∀ (keep : List Bool) {e : List V} {l : List Value}, VRs ρ e l → VRs ρ (maskEnv keep e) l
  | [], _, _, h => by unfold maskEnv; exact h
  | _ :: _, [], _, h => by simpa [maskEnv] using h
  | b :: bs, v :: e, _, ⟨y, ys, e1, h1, h2⟩ => by
    subst e1
    simp only [maskEnv]
    refine VRs_cons ?_ (VRs_mask bs h2)
    cases b
    · trivial
    · exact h1

theorem VRs_any (n : Nat) (l : List Value) (h : l.length = n) : VRs ρ (List.replicate n .any) l := by
  refine VRs_iff.2 ⟨by simp [h], fun i x y hx _ => ?_⟩
  rw [List.getElem?_replicate] at hx
  split at hx
  · cases hx; trivial
  · cases hx

/-- The empty placing. -/
def none0 : Rn := fun _ => none
theorem none0_le (ρ : Rn) : Le none0 ρ := fun _ _ h => by cases h

mutual
theorem ofVal_VR (ρ : Rn) : ∀ v : Value, VR ρ (ofVal v) v
  | .bool _ => rfl
  | .int _ _ => rfl
  | .string _ => rfl
  | .pointer none => rfl
  | .pointer (some ⟨_, _, none⟩) => ⟨_, rfl, rfl⟩
  | .pointer (some ⟨_, _, some _⟩) => rfl
  | .slice none 0 0 => ⟨rfl, rfl, rfl⟩
  | .slice none 0 (_ + 1) => rfl
  | .slice none (_ + 1) _ => rfl
  | .slice (some ⟨b, o, none⟩) n c => by
    unfold ofVal
    split
    · rename_i h
      exact ⟨_, c, rfl, h, fun m hm => (Option.some.inj hm).symm, fun _ => ⟨rfl, trivial⟩, ⟨_, rfl⟩, fun h => by cases h⟩
    · rfl
  | .slice (some ⟨_, _, some sp⟩) 0 0 => ⟨⟨_, _, some sp⟩, 0, rfl, Nat.le_refl _, fun m hm => (Option.some.inj hm).symm, fun h => absurd h (Nat.lt_irrefl _), ⟨_, rfl⟩, fun h => by cases h⟩
  | .slice (some ⟨_, _, some _⟩) 0 (_ + 1) => rfl
  | .slice (some ⟨_, _, some _⟩) (_ + 1) _ => rfl
  | .map none => rfl
  | .map (some _) => ⟨_, rfl, rfl⟩
  | .nilFunc => rfl
  | .nilIface => rfl
  | .agg ⟨l⟩ => ⟨_, rfl, ofVals_VRs ρ l⟩
  | .tuple ⟨l⟩ => ⟨_, rfl, ofVals_VRs ρ l⟩
  | .float _ _ => rfl
  | .complex _ _ _ => rfl
  | .chan _ => rfl
  | .func _ _ _ => rfl
  | .iface _ _ => rfl
theorem ofVals_VRs (ρ : Rn) : ∀ l : List Value, VRs ρ (ofVals l) l
  | [] => rfl
  | v :: l => ⟨v, l, rfl, ofVal_VR ρ v, ofVals_VRs ρ l⟩
end

theorem VR_func {f : Nat} {pre caps : List V} {v : Value} (h : VR ρ (.func f pre caps) v) : ∃ fn p c, v = .func fn p c := by
  rcases h with ⟨_, p, c, e, _⟩ | ⟨_, _, _, p, _, e⟩
  · exact ⟨_, _, _, e⟩
  · exact ⟨_, _, _, e⟩
/-- A value of one cell. -/
theorem VR_one {x : V} {v : Value} (h : VR ρ x v) (h1 : x.one = true) : v.oneCell' = true ∧ v.cells = #[v] := by
  match x, h, h1 with
  | .bool _, h, _ => cases (show v = _ from h); exact ⟨rfl, rfl⟩
  | .int _ _, h, _ => cases (show v = _ from h); exact ⟨rfl, rfl⟩
  | .str _, h, _ => cases (show v = _ from h); exact ⟨rfl, rfl⟩
  | .ptr none, h, _ => cases (show v = _ from h); exact ⟨rfl, rfl⟩
  | .ptr (some _), ⟨_, e, _⟩, _ => cases e; exact ⟨rfl, rfl⟩
  | .slice none _ _, ⟨_, _, e⟩, _ => cases e; exact ⟨rfl, rfl⟩
  | .slice (some _) _ _, ⟨_, _, e, _⟩, _ => cases e; exact ⟨rfl, rfl⟩
  | .map none, h, _ => cases (show v = _ from h); exact ⟨rfl, rfl⟩
  | .map (some _), ⟨_, e, _⟩, _ => cases e; exact ⟨rfl, rfl⟩
  | .func _ _ _, .inl ⟨_, _, _, e, _⟩, _ => cases e; exact ⟨rfl, rfl⟩
  | .func _ _ _, .inr ⟨_, _, _, _, _, e⟩, _ => cases e; exact ⟨rfl, rfl⟩
  | .nilFunc, h, _ => cases (show v = _ from h); exact ⟨rfl, rfl⟩
  | .iface _ _, ⟨_, e, _⟩, _ => cases e; exact ⟨rfl, rfl⟩
  | .nilIface, h, _ => cases (show v = _ from h); exact ⟨rfl, rfl⟩

theorem VRs_one {xs : List V} {l : List Value} (h : VRs ρ xs l) (h1 : xs.all V.one = true) : ∀ u ∈ l, u.oneCell' = true := by
  induction xs generalizing l with
  | nil => cases (show l = [] from h); simp
  | cons x xs ih =>
    obtain ⟨y, ys, rfl, h2, h3⟩ := h
    simp only [List.all_cons, Bool.and_eq_true] at h1
    intro u hu
    rcases List.mem_cons.1 hu with rfl | hu
    · exact (VR_one h2 h1.1).1
    · exact ih h3 h1.2 u hu

/-- The cells of a value. -/
theorem VR_cells {x : V} {v : Value} (h : VR ρ x v) (h1 : x.cells.all V.one = true) : VRs ρ x.cells v.cells.toList := by
  by_cases ho : x.one = true
  · have hc : x.cells = [x] := by cases x <;> first | rfl | simp [V.one] at ho
    rw [hc, (VR_one h ho).2]
    exact VRs_cons h VRs_nil
  · cases x with
    | agg cs => obtain ⟨c, rfl, hc⟩ := h; exact hc
    | any => simp [V.cells, V.one] at h1
    | tuple => simp [V.cells, V.one] at h1
    | junk => simp [V.cells, V.one] at h1
    | _ => simp [V.one] at ho

/-- Entries of a map. -/
def ER (ρ : Rn) (e : V × V × Nat) (m : MapEntry) : Prop := VR ρ e.1 m.key ∧ VR ρ e.2.1 m.val ∧ e.2.2 = m.born

inductive ERs (ρ : Rn) : List (V × V × Nat) → List MapEntry → Prop
  | nil : ERs ρ [] []
  | cons {e es m ms} : ER ρ e m → ERs ρ es ms → ERs ρ (e :: es) (m :: ms)

theorem ER_mono (h : Le ρ ρ') {e m} (he : ER ρ e m) : ER ρ' e m := ⟨VR_mono h _ _ he.1, VR_mono h _ _ he.2.1, he.2.2⟩
theorem ERs_mono (h : Le ρ ρ') {es ms} (he : ERs ρ es ms) : ERs ρ' es ms := by
  induction he with
  | nil => exact .nil
  | cons a _ ih => exact .cons (ER_mono h a) ih
theorem ERs_length {es ms} (h : ERs ρ es ms) : es.length = ms.length := by
  induction h with
  | nil => rfl
  | cons _ _ ih => simp [ih]

/-- A loop's state. -/
def xtCode : Xt → Option Code
  | .exit i => some (.exit i)
  | .ret => some .ret
  | .normal => none
def LoopR (st : LoopSt) (r : Loop) : Prop :=
  match st with
  | .ready => r.state = .ready ∧ r.pending = none
  | .busy => r.state = .busy
  | .done x => r.state = .done ∧ ∃ c, xtCode x = some c ∧ r.pending = some c
/-- An object against a block. -/
def ObjR (ρ : Rn) (o : O) (p : Pl) (b : Option Obj) : Prop :=
  match o with
  | .cells cs g => ∃ C el, b = some (.cells C el (0, 0)) ∧ p.off + cs.length ≤ C.size ∧ VRs ρ cs ((C.toList.drop p.off).take cs.length) ∧
      (match g with | none => p.sz = 0 | some z => p.sz = z ∧ 0 < z ∧ p.cells = C.size)
  | .map es clock => ∃ M, b = some (.map M clock) ∧ ERs ρ es M.toList
  | .loop st => ∃ r : Loop, b = some (.loop r) ∧ p.rc = some ⟨r.fn, r.tmps, r.params, r.assign, r.body⟩ ∧ LoopR st r
  | .iter m => p.off = 0 ∧ ∃ m' since c0, b = some (.mapIter m' since #[] c0) ∧ (match m with | none => m' = none | some i => ∃ b', m' = some b' ∧ mplace ρ i = some b')

/-- An old object against its block. -/
def OldR (o : O) (b : Option Obj) : Prop :=
  match o with
  | .cells cs g => g = none ∧ ∃ C el fr, b = some (.cells C el fr) ∧ VRs none0 cs C.toList
  | .map es clock => ∃ M, b = some (.map M clock) ∧ ERs none0 es M.toList
  | .loop _ => False
  | .iter _ => False

structure Sim (B : Nat) (ρ : Rn) (s : St) (w : World) : Prop where
  base : B ≤ w.heap.size
  old : ∀ b o, s.old b = some o → b < B ∧ OldR o w.heap[b]?
  dom : ∀ k p, ρ k = some p → k < s.next ∧ B ≤ p.blk ∧ p.blk < w.heap.size
  obj : ∀ k p o, ρ k = some p → s.new k = some o → ObjR ρ o p w.heap[p.blk]?
  inj : ∀ k k' p p', ρ k = some p → ρ k' = some p' → s.new k ≠ none → s.new k' ≠ none → p.blk = p'.blk → k = k'
  fresh : ∀ k, s.next ≤ k → s.new k = none

/-- What a step leaves. -/
structure Step (B : Nat) (ρ : Rn) (s : St) (w : World) (ρ' : Rn) (s' : St) (w' : World) : Prop where
  le : Le ρ ρ'
  below : Below B w w'
  next : s.next ≤ s'.next
  old : s'.old = s.old
  ghost : ∀ k, k < s.next → ρ k = none → ρ' k = none ∧ s'.new k = s.new k
  keep : ∀ b, b < w.heap.size → (∀ k p, ρ k = some p → p.blk ≠ b) → w'.heap[b]? = w.heap[b]? ∧ ∀ k p, ρ' k = some p → p.blk ≠ b
  size : w.heap.size ≤ w'.heap.size

theorem Step.refl (B : Nat) (ρ : Rn) (s : St) (w : World) : Step B ρ s w ρ s w := ⟨Le.refl ρ, Below.refl B w, Nat.le_refl _, rfl, fun _ _ h => ⟨h, rfl⟩, fun _ _ h => ⟨rfl, h⟩, Nat.le_refl _⟩
theorem Step.trans {B : Nat} {ρ ρ1 ρ2 : Rn} {s s1 s2 : St} {w w1 w2 : World} (h : Step B ρ s w ρ1 s1 w1) (k : Step B ρ1 s1 w1 ρ2 s2 w2) : Step B ρ s w ρ2 s2 w2 :=
  ⟨h.le.trans k.le, h.below.trans k.below, Nat.le_trans h.next k.next, k.old.trans h.old, fun i hi hn => by
    obtain ⟨a, b⟩ := h.ghost i hi hn
    obtain ⟨c, d⟩ := k.ghost i (Nat.lt_of_lt_of_le hi h.next) a
    exact ⟨c, d.trans b⟩, fun b hb hn => by
    obtain ⟨a, c⟩ := h.keep b hb hn
    obtain ⟨d, e⟩ := k.keep b (Nat.lt_of_lt_of_le hb h.size) c
    exact ⟨d.trans a, e⟩, Nat.le_trans h.size k.size⟩
end
end Go.IM
