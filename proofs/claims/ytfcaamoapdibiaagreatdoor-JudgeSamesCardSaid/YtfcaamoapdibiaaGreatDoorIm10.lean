/- Regions whose order is open: whatever the order, what comes is what the machine's own order gives. -/
import Derived.Test.YtfcaamoapdibiaaGreatDoorIm9
set_option linter.unusedSimpArgs false
set_option linter.unusedVariables false
namespace Go.IM
open Go.RowKit (Below)

section congr
variable {X Y : Env} {s : St}

theorem fillI_congr : ∀ (ps : List (Nat × Nat × Arg)) (cells : List V), (∀ x ∈ ps.map fun p => p.2.2, ev X x = ev Y x) → fillI X cells ps = fillI Y cells ps
  | [], _, _ => rfl
  | (o, n, x) :: ps, cells, h => by
    have h0 : ev X x = ev Y x := h x (by simp)
    simp only [fillI, h0]
    split
    · exact fillI_congr ps _ fun y hy => h y (by simp at hy ⊢; exact .inr hy)
    · rfl

theorem map_congr' {l : List Arg} (h : ∀ x ∈ l, ev X x = ev Y x) : l.map (ev X) = l.map (ev Y) := List.map_congr_left h
theorem omap_congr {l : Option Arg} (h : ∀ x ∈ l.toList, ev X x = ev Y x) : l.map (ev X) = l.map (ev Y) := by
  cases l with
  | none => rfl
  | some x => simp [h x (by simp)]

theorem evalP_congr (op : IOp) (h : ∀ x ∈ op.args, ev X x = ev Y x) : evalP op X = evalP op Y := by
  cases op with
  | build z ps => simp only [IOp.args] at h; simp only [evalP, fillI_congr ps z h]
  | mkFunc f p c =>
    simp only [IOp.args, List.mem_append] at h
    simp only [evalP, map_congr' (fun x hx => h x (.inl hx)), map_congr' (fun x hx => h x (.inr hx))]
  | slice n x a b c =>
    simp only [IOp.args, List.mem_cons, List.mem_append] at h
    simp only [evalP, h x (.inl rfl), omap_congr (fun y hy => h y (.inr (.inl (.inl hy)))), omap_congr (fun y hy => h y (.inr (.inl (.inr hy)))), omap_congr (fun y hy => h y (.inr (.inr hy)))]
  | sliceStr x a b =>
    simp only [IOp.args, List.mem_cons, List.mem_append] at h
    simp only [evalP, h x (.inl rfl), omap_congr (fun y hy => h y (.inr (.inl hy))), omap_congr (fun y hy => h y (.inr (.inr hy)))]
  | _ => simp [IOp.args] at h <;> simp [evalP, h]

theorem evalLook_congr (op : IOp) (h : ∀ x ∈ op.args, ev X x = ev Y x) : evalLook op X s = evalLook op Y s := by
  cases op <;> first | rfl | (simp [IOp.args] at h; simp [evalLook, h])

theorem evalA_congr (op : IOp) (h : ∀ x ∈ op.args, ev X x = ev Y x) : evalA op X = evalA op Y := by
  cases op with
  | buildSlice n z ps => simp only [IOp.args] at h; simp only [evalA, fillI_congr ps z h]
  | _ => first | rfl | (simp [IOp.args] at h; simp [evalA, h])

theorem evalS_congr (op : IOp) (h : ∀ x ∈ op.args, ev X x = ev Y x) : evalS op X s = evalS op Y s := by
  cases op <;> first | rfl | (simp [IOp.args] at h; simp [evalS, h])

theorem evalL_congr (op : IOp) (h : ∀ x ∈ op.args, ev X x = ev Y x) : evalL op X s = evalL op Y s := by
  cases op with
  | again t q =>
    simp only [IOp.args, List.mem_cons] at h
    simp only [evalL, h _ (.inl rfl), evalLook_congr q (fun x hx => h x (.inr hx))]
  | _ => exact evalLook_congr (s := s) _ h

theorem execI_congr {C : CallT} (op : IOp) (h : ∀ x ∈ op.args, ev X x = ev Y x) : execI C op X s = execI C op Y s := by
  cases op with
  | call f l => simp only [IOp.args] at h; simp only [execI, map_congr' h]
  | callv f l =>
    simp only [IOp.args, List.mem_cons] at h
    simp only [execI, h _ (.inl rfl), map_congr' (fun x hx => h x (.inr hx))]
  | _ => simp only [execI, evalOp, evalP_congr _ h, evalL_congr _ h, evalA_congr _ h, evalS_congr _ h]

theorem reads_args {i : II} (h : ∀ t ∈ i.reads, X.getD t .any = Y.getD t .any) : ∀ x ∈ i.op.args, ev X x = ev Y x := by
  intro x hx
  cases x with
  | c v => rfl
  | t t => exact h t (by
      unfold II.reads
      exact List.mem_append_left _ (List.mem_filterMap.2 ⟨_, hx, rfl⟩))

theorem reads_guard {i : II} (h : ∀ t ∈ i.reads, X.getD t .any = Y.getD t .any) : wantedI X i.guard = wantedI Y i.guard := by
  cases hg : i.guard with
  | none => rfl
  | some g =>
    obtain ⟨t, b⟩ := g
    have := h t (by unfold II.reads; rw [hg]; exact List.mem_append_right _ (by simp))
    simp only [wantedI, this]
end congr

mutual
theorem beqV_eq : ∀ (x y : V), beqV x y = true → x = y
  | .bool _, y, h => by cases y <;> simp [beqV] at h; subst h; rfl
  | .int _ _, y, h => by cases y <;> simp [beqV] at h; obtain ⟨rfl, rfl⟩ := h; rfl
  | .str a, y, h => by
    cases y with
    | str b =>
      obtain ⟨a⟩ := a; obtain ⟨b⟩ := b
      have h' : (a == b) = true := h
      rw [eq_of_beq h']
    | _ => simp [beqV] at h
  | .ptr _, y, h => by cases y <;> simp [beqV] at h; subst h; rfl
  | .slice _ _ _, y, h => by cases y <;> simp [beqV] at h; obtain ⟨⟨rfl, rfl⟩, rfl⟩ := h; rfl
  | .map _, y, h => by cases y <;> simp [beqV] at h; subst h; rfl
  | .func _ p c, y, h => by
    cases y with
    | func f' p' c' =>
      simp only [beqV, Bool.and_eq_true, beq_iff_eq] at h
      obtain ⟨⟨rfl, h1⟩, h2⟩ := h
      rw [beqVs_eq p p' h1, beqVs_eq c c' h2]
    | _ => simp [beqV] at h
  | .nilFunc, y, h => by cases y <;> simp [beqV] at h; rfl
  | .iface _ x, y, h => by
    cases y with
    | iface t' y =>
      simp only [beqV, Bool.and_eq_true, beq_iff_eq] at h
      obtain ⟨rfl, h1⟩ := h
      rw [beqV_eq x y h1]
    | _ => simp [beqV] at h
  | .nilIface, y, h => by cases y <;> simp [beqV] at h; rfl
  | .agg a, y, h => by
    cases y with
    | agg b => simp only [beqV] at h; rw [beqVs_eq a b h]
    | _ => simp [beqV] at h
  | .tuple a, y, h => by
    cases y with
    | tuple b => simp only [beqV] at h; rw [beqVs_eq a b h]
    | _ => simp [beqV] at h
  | .any, y, h => by cases y <;> simp [beqV] at h
  | .junk _, y, h => by cases y <;> simp [beqV] at h
theorem beqVs_eq : ∀ (x y : List V), beqVs x y = true → x = y
  | [], y, h => by cases y <;> simp [beqVs] at h; rfl
  | a :: x, y, h => by
    cases y with
    | nil => simp [beqVs] at h
    | cons b y =>
      simp only [beqVs, Bool.and_eq_true] at h
      rw [beqV_eq a b h.1, beqVs_eq x y h.2]
end

section
variable {P : Program} {B : Nat} {ρ : Rn} {s : St} {w : World} {a : Act} {e : Env}

/-- A new object of which Go's memory has nothing yet. -/
theorem Sim.ghost (hs : Sim B ρ s w) (o : O) : Sim B ρ (s.alloc o) w := by
  have hne : ∀ {k p}, ρ k = some p → k ≠ s.next := fun h e => by have := (hs.dom _ _ h).1; omega
  refine ⟨hs.base, hs.old, fun k p h => ?_, fun k p o h1 h2 => ?_, fun k1 k2 p1 p2 h1 h2 h3 h4 he => ?_, fun j hj => ?_⟩
  · obtain ⟨a, b, c⟩ := hs.dom k p h; exact ⟨by simp only [St.alloc]; omega, b, c⟩
  · simp only [St.alloc, if_neg (hne h1)] at h2; exact hs.obj k p o h1 h2
  · simp only [St.alloc, if_neg (hne h1)] at h3
    simp only [St.alloc, if_neg (hne h2)] at h4
    exact hs.inj k1 k2 p1 p2 h1 h2 h3 h4 he
  · simp only [St.alloc] at hj ⊢
    rw [if_neg (by omega)]
    exact hs.fresh j (by omega)

theorem Step.ghost' (B : Nat) (ρ : Rn) (s : St) (w : World) (o : O) : Step B ρ s w ρ (s.alloc o) w :=
  ⟨Le.refl ρ, Below.refl B w, by simp [St.alloc], rfl, fun k hk hn => ⟨hn, by simp only [St.alloc]; rw [if_neg (by omega)]⟩, fun _ _ h => ⟨rfl, h⟩, Nat.le_refl _⟩

/-- A ghost that is made in Go's memory at last. -/
theorem Sim.realize (hs : Sim B ρ s w) {k : Nat} {o : O} {ob : Obj} (hk : ρ k = none) (hkn : k < s.next) (ho : s.new k = some o) {p : Pl} (hp : p.blk = w.heap.size) (hob : ObjR ρ o p (some ob)) :
    Sim B (ρ.put k p) s (w.alloc ob) := by
  have hle := Rn.put_le (p := p) hk
  have hsz : (w.alloc ob).heap.size = w.heap.size + 1 := by show (w.heap.push ob).size = _; simp
  have hold : ∀ j, j < w.heap.size → (w.alloc ob).heap[j]? = w.heap[j]? := fun j hj => Below.heap_alloc w ob j hj
  have hbase := hs.base
  refine ⟨by omega, fun b o h => ?_, fun j q h => ?_, fun j q o1 h1 h2 => ?_, fun k1 k2 p1 p2 h1 h2 h3 h4 he => ?_, hs.fresh⟩
  · obtain ⟨h1, h2⟩ := hs.old b o h
    exact ⟨h1, by rw [hold b (by omega)]; exact h2⟩
  · unfold Rn.put at h
    split at h
    · cases h; rename_i e; subst e; exact ⟨hkn, by omega, by omega⟩
    · obtain ⟨a, b, c⟩ := hs.dom j q h
      exact ⟨a, b, by omega⟩
  · unfold Rn.put at h1
    split at h1
    · rename_i e; subst e
      cases h1
      rw [ho] at h2; cases h2
      rw [hp, heap_alloc_new]
      exact ObjR_mono hle hob
    · rw [hold _ (hs.dom j q h1).2.2]
      exact ObjR_mono hle (hs.obj j q o1 h1 h2)
  · unfold Rn.put at h1 h2
    split at h1 <;> split at h2
    · rename_i a b; rw [a, b]
    · cases h1; have := (hs.dom _ _ h2).2.2; omega
    · cases h2; have := (hs.dom _ _ h1).2.2; omega
    · exact hs.inj k1 k2 p1 p2 h1 h2 h3 h4 he

/-- What is looked at is as it was where objects have been made. -/
theorem row_alloc {i : Id} {r : List V × Option Nat} (hf : ∀ k, s.next ≤ k → s.new k = none) (h : s.row i = some r) (o : O) : (s.alloc o).row i = some r := by
  unfold St.row St.get at h ⊢
  cases i with
  | old b => exact h
  | new k =>
    by_cases hk : k = s.next
    · subst hk; simp [hf _ (Nat.le_refl _)] at h
    · simpa [St.alloc, hk] using h

theorem get_alloc {i : Id} {x : O} (hf : ∀ k, s.next ≤ k → s.new k = none) (h : s.get i = some x) (o : O) : (s.alloc o).get i = some x := by
  unfold St.get at h ⊢
  cases i with
  | old b => exact h
  | new k =>
    by_cases hk : k = s.next
    · subst hk; simp [hf _ (Nat.le_refl _)] at h
    · simpa [St.alloc, hk] using h

theorem evalLook_alloc {op : IOp} {v : V} (hf : ∀ k, s.next ≤ k → s.new k = none) (h : evalLook op e s = some v) (o : O) : evalLook op e (s.alloc o) = some v := by
  unfold evalLook at h ⊢
  cases op <;> simp only at h ⊢ <;> first | (cases h; done) | skip
  · split at h
    · simp only [Option.bind_eq_some_iff] at h ⊢
      obtain ⟨l, h1, h2⟩ := h
      refine ⟨l, ?_, h2⟩
      unfold readCells at h1 ⊢
      cases hr : s.row (‹Ad›).id with
      | none => simp [hr] at h1
      | some r => rw [row_alloc hf hr o]; simpa [hr] using h1
    · cases h
  · unfold lookupI at h ⊢
    simp only [Option.bind_eq_some_iff] at h ⊢
    obtain ⟨es, h1, h2⟩ := h
    refine ⟨es, ?_, h2⟩
    split at h1 <;> first | exact h1 | skip
    · rename_i id hid
      cases hg : s.get id with
      | none => simp [hg] at h1
      | some x => rw [get_alloc hf hg o]; simpa [hg] using h1
  · unfold lenMapI at h ⊢
    split at h <;> first | exact h | skip
    · rename_i id hid
      cases hg : s.get id with
      | none => simp [hg] at h
      | some x => simp only [get_alloc hf hg o]; simpa [hg] using h
end

namespace Drawn
variable (d : Drawn)

/-- Who writes a slot. -/
def writer (t : Nat) : Option Nat := (List.range d.n).find? fun i => d.dst i == some t

structure Ok (d : Drawn) : Prop where
  deps : ∀ i, i < d.n → ∀ x ∈ d.deps.getD i [], d.before x i = true
  lt : ∀ i x, i < d.n → d.before x i = true → x < i
  trans : ∀ i x y, i < d.n → d.before x i = true → d.before y x = true → d.before y i = true
  gen : ∀ i x, i < d.n → d.before x i = true → x ∈ d.deps.getD i [] ∨ ∃ y ∈ d.deps.getD i [], d.before x y = true
  inOrd : ∀ i, i < d.n → i ∈ d.ord
  pair : ∀ i j, i < d.n → j < d.n → d.okPair i j = true
  ord : d.okOrd d.ord = true

theorem ok_of {d : Drawn} (h : d.ok = true) : Ok d := by
  unfold ok at h
  simp only [Bool.and_eq_true, List.all_eq_true, List.mem_range] at h
  obtain ⟨h, ho⟩ := h
  refine ⟨fun i hi x hx => (h i hi).1.1.1 x hx, fun i x hi hx => ?_, fun i x y hi hx hy => ?_, fun i x hi hx => ?_, fun i hi => ?_, fun i j hi hj => (h i hi).2 j hj, ho⟩
  · have hm : x ∈ d.an.getD i [] := by simpa [before] using hx
    exact of_decide_eq_true ((h i hi).1.1.2 x hm).1.1
  · have hm : x ∈ d.an.getD i [] := by simpa [before] using hx
    have hm' : y ∈ d.an.getD x [] := by simpa [before] using hy
    exact ((h i hi).1.1.2 x hm).1.2 y hm'
  · have hm : x ∈ d.an.getD i [] := by simpa [before] using hx
    have := ((h i hi).1.1.2 x hm).2
    simp only [Bool.or_eq_true, List.contains_iff_mem, List.any_eq_true] at this
    exact this
  · simpa using (h i hi).1.2

theorem okOrd_app {pre l : List Nat} (h : d.okOrd (pre ++ l) = true) : d.okOrd l = true ∧ ∀ x ∈ pre, x < d.n ∧ ∀ j ∈ l, x ≠ j ∧ d.before j x = false ∧ (d.acts x = true → d.before x j = true) := by
  induction pre with
  | nil => exact ⟨h, by simp⟩
  | cons x pre ih =>
    simp only [List.cons_append, okOrd, Bool.and_eq_true, List.all_eq_true, decide_eq_true_eq] at h
    obtain ⟨⟨⟨h1, h2⟩, h3⟩, h4⟩ := h
    obtain ⟨i1, i2⟩ := ih h4
    refine ⟨i1, fun y hy => ?_⟩
    rcases List.mem_cons.1 hy with rfl | hy
    · refine ⟨h1, fun j hj => ?_⟩
      have hj' : j ∈ pre ++ l := List.mem_append_right _ hj
      have := h3 j hj'
      refine ⟨?_, by simpa using this.1, fun ha => by simpa [ha] using this.2⟩
      rintro rfl
      simp at h2
      exact h2.2 hj
    · exact i2 y hy

variable {d}
theorem writer_some {t j : Nat} (hok : Ok d) : d.writer t = some j ↔ j < d.n ∧ d.dst j = some t := by
  constructor
  · intro h
    have h1 := List.find?_some h
    have h2 := List.mem_of_find?_eq_some h
    exact ⟨by simpa using h2, by simpa using h1⟩
  · rintro ⟨h1, h2⟩
    cases hw : d.writer t with
    | none =>
      unfold writer at hw
      rw [List.find?_eq_none] at hw
      exact absurd (by simpa using h2) (hw j (by simpa using h1))
    | some i =>
      have h3 := List.find?_some hw
      have h4 := List.mem_of_find?_eq_some hw
      have hi : i < d.n := by simpa using h4
      have hd : d.dst i = some t := by simpa using h3
      have := hok.pair i j hi h1
      unfold okPair at this
      simp only [hd, h2, Bool.and_eq_true] at this
      have h5 := this.2.1
      simp at h5
      rw [h5]

theorem reads_order {i j t : Nat} (hok : Ok d) (hi : i < d.n) (hj : j < d.n) (hd : d.dst i = some t) (hr : d.reads j t = true) :
    d.before i j = true ∨ (d.before j i = true ∧ ∀ x, x < d.n → d.open_ j x = false) := by
  have := hok.pair i j hi hj
  unfold okPair at this
  simp only [hd, hr, Bool.and_eq_true, Bool.not_true, Bool.false_or, Bool.or_eq_true] at this
  rcases this.2.2 with h | h
  · exact .inl h
  · refine .inr ⟨h.1, fun x hx => ?_⟩
    have h2 := h.2
    simp only [Bool.not_eq_true', List.any_eq_false, List.mem_range] at h2
    simpa using h2 x hx

/-- The slots in the middle of a region. -/
def mix (d : Drawn) (D : Nat → Bool) (E e0 : Env) : Env := (List.range e0.length).map fun t => if (d.writer t).any D then E.getD t .any else e0.getD t .any

/-- What an operation finds in a slot. -/
def pat (d : Drawn) (i : Nat) (E e0 : Env) (t : Nat) : V := if (d.writer t).any (fun j => d.before j i) then E.getD t .any else e0.getD t .any

theorem mix_getD {D : Nat → Bool} {E e0 : Env} (hl : E.length = e0.length) (t : Nat) : (d.mix D E e0).getD t .any = if (d.writer t).any D then E.getD t .any else e0.getD t .any := by
  by_cases ht : t < e0.length
  · simp [mix, List.getD, ht]
  · simp [mix, List.getD, ht, hl]

theorem mix_length {D : Nat → Bool} {E e0 : Env} : (d.mix D E e0).length = e0.length := by simp [mix]

theorem env_ext {X Y : Env} (hl : X.length = Y.length) (h : ∀ t, X.getD t .any = Y.getD t .any) : X = Y := by
  apply List.ext_getElem? 
  intro t
  by_cases ht : t < X.length
  · have := h t
    simp only [List.getD, List.getElem?_eq_getElem ht, List.getElem?_eq_getElem (show t < Y.length by omega), Option.getD_some] at this ⊢
    rw [this]
  · rw [List.getElem?_eq_none (by omega), List.getElem?_eq_none (by omega)]

theorem put_getD (X : Env) (dst : Option Nat) (v : V) (t : Nat) : (put X dst v).getD t .any = if dst = some t ∧ t < X.length then v else X.getD t .any := by
  cases dst with
  | none => simp [put]
  | some u =>
    simp only [put, List.getD, List.getElem?_set, Option.some.injEq]
    by_cases hu : u = t
    · subst hu
      by_cases hl : u < X.length
      · simp [hl]
      · simp [hl]
    · simp [hu]

theorem put_length (X : Env) (dst : Option Nat) (v : V) : (put X dst v).length = X.length := by cases dst <;> simp [put]

/-- What is known of an operation that the machine has run and Go has not. -/
def Fact (d : Drawn) (e0 : Env) (s0 : St) (i : Nat) (E : Env) (Z : St) (ρ : Rn) (κ : Nat → Option Nat) : Prop :=
  ∃ x, d.iis[i]? = some x ∧ ∀ X : Env, (∀ t ∈ x.reads, X.getD t .any = d.pat i E e0 t) →
    (wantedI X x.guard = some false ∧ ∀ t, x.dst = some t → t < E.length → E.getD t .any = skipV) ∨
    (wantedI X x.guard = some true ∧ ∃ v, (∀ t, x.dst = some t → t < E.length → E.getD t .any = v) ∧
      ((x.op.kind = .p ∧ evalP x.op X = some v) ∨ (x.op.kind = .l ∧ evalL x.op X Z = some v) ∨
       (x.op.kind = .a ∧ ∃ o f k, evalA x.op X = some (o, f) ∧ κ i = some k ∧ v = f k ∧ Z.new k = some o ∧ ρ k = none ∧ k < Z.next ∧ s0.next ≤ k)))

end Drawn

/-- How far it has come. -/
structure Mid (B : Nat) (d : Drawn) (C : CallT) (e0 : Env) (s0 : St) (ρ0 : Rn) (w0 : World) (a0 : Act) (e' : Env) (s' : St) (pre post : List Nat) (D : Nat → Bool) (E : Env) (Z : St) (κ : Nat → Option Nat) (ρ : Rn) (a : Act) (w : World) : Prop where
  split : d.ord = pre ++ post
  run : runOps C (post.flatMap d.items) E Z = some (e', s')
  len : E.length = e0.length
  unwritten : ∀ t, (∀ i ∈ pre, d.dst i ≠ some t) → E.getD t .any = e0.getD t .any
  sub : ∀ i, D i = true → i ∈ pre
  acts : ∀ i ∈ pre, d.acts i = true → D i = true
  down : ∀ i j, D j = true → d.before i j = true → D i = true
  tmps : VRs ρ (d.mix D E e0) a.tmps.toList
  sim : Sim B ρ Z w
  step : Step B ρ0 s0 w0 ρ Z w
  defers : a.defers = a0.defers
  fact : ∀ i ∈ pre, D i = false → d.Fact e0 s0 i E Z ρ κ
  kinj : ∀ i j k, i ∈ pre → j ∈ pre → D i = false → D j = false → κ i = some k → κ j = some k → i = j
  kbound : ∀ i k, i ∈ pre → D i = false → κ i = some k → k < Z.next

section
variable {P : Program} {B : Nat} {d : Drawn} {C : CallT} {e0 e' : Env} {s0 s' : St} {ρ0 : Rn} {w0 : World} {a0 : Act}
open Drawn

theorem dst_of {i : Nat} {x : II} (h : d.iis[i]? = some x) : d.dst i = x.dst := by simp [Drawn.dst, h]
theorem acts_of {i : Nat} {x : II} (h : d.iis[i]? = some x) : d.acts i = decide (x.op.kind = .s) := by simp [Drawn.acts, h, IOp.acts]
theorem reads_of {i t : Nat} {x : II} (h : d.iis[i]? = some x) (ht : t ∈ x.reads) : d.reads i t = true := by simp [Drawn.reads, h, ht]

/-- The machine runs one operation more that does not act. -/
theorem Mid.advance (hok : Ok d) (hnag : ∀ (j : Nat) (y : II), d.iis[j]? = some y → ∀ t q, y.op ≠ .again t q) {i : Nat} {pre post : List Nat} {D : Nat → Bool} {E : Env} {Z : St} {κ : Nat → Option Nat} {ρ : Rn} {a : Act} {w : World}
    (h : Mid B d C e0 s0 ρ0 w0 a0 e' s' pre (i :: post) D E Z κ ρ a w) (hi : d.acts i = false) :
    ∃ E1 Z1 κ1, Mid B d C e0 s0 ρ0 w0 a0 e' s' (pre ++ [i]) post D E1 Z1 κ1 ρ a w := by
  have hord := hok.ord
  rw [h.split] at hord
  obtain ⟨ho1, ho2⟩ := d.okOrd_app hord
  have hin : i < d.n := by simp only [okOrd, Bool.and_eq_true, decide_eq_true_eq] at ho1; exact ho1.1.1.1
  obtain ⟨x, hx⟩ : ∃ x, d.iis[i]? = some x := ⟨_, List.getElem?_eq_getElem hin⟩
  have hDi : D i = false := by
    cases hD : D i with
    | false => rfl
    | true => exact absurd rfl ((ho2 i (h.sub i hD)).2 i (by simp)).1
  have hk : x.op.kind ≠ .s := by rw [acts_of hx] at hi; simpa using hi
  have hitems : d.items i = [x] := by simp [Drawn.items, hx, hi]
  have hrun := h.run
  simp only [List.flatMap_cons, hitems, List.singleton_append, runOps, Option.bind_eq_some_iff] at hrun
  obtain ⟨⟨E1, Z1⟩, hst, hrun⟩ := hrun
  -- what the operation reads
  have hpat : ∀ t ∈ x.reads, E.getD t .any = d.pat i E e0 t := by
    intro t ht
    unfold pat
    cases hw : d.writer t with
    | none => simp only [Option.any_none, Bool.false_eq_true, if_false]; exact h.unwritten t (fun j hj hd => by
        have hjn := (ho2 j hj).1
        have := (writer_some hok).2 ⟨hjn, hd⟩
        rw [hw] at this; cases this)
    | some j =>
      obtain ⟨hjn, hd⟩ := (writer_some hok).1 hw
      simp only [Option.any_some]
      split
      · rfl
      · rename_i hb
        rcases reads_order hok hjn hin hd (reads_of hx ht) with h1 | ⟨h1, _⟩
        · exact absurd h1 hb
        · refine h.unwritten t (fun k hk hdk => ?_)
          have hkj : k = j := by
            have h3 := (writer_some hok).2 ⟨(ho2 k hk).1, hdk⟩
            rw [hw] at h3; exact (Option.some.inj h3).symm
          subst hkj
          have := ((ho2 k hk).2 i (by simp)).2.1
          rw [h1] at this; cases this
  -- facts go on
  have hE : ∀ (E1 : Env), (∀ t, x.dst ≠ some t → E1.getD t .any = E.getD t .any) → ∀ j ∈ pre, ∀ y, d.iis[j]? = some y → ∀ X : Env, (∀ t ∈ y.reads, X.getD t .any = d.pat j E1 e0 t) → ∀ t ∈ y.reads, X.getD t .any = d.pat j E e0 t := by
    intro E1 hE1 j hj y hy X hX t ht
    rw [hX t ht]
    unfold pat
    cases hw : d.writer t with
    | none => rfl
    | some k =>
      obtain ⟨hkn, hd⟩ := (writer_some hok).1 hw
      simp only [Option.any_some]
      split
      · rename_i hb
        refine hE1 t (fun he => ?_)
        have hik : i = k := by
          have h3 := (writer_some hok).2 ⟨hin, (dst_of hx).trans he⟩
          rw [hw] at h3; exact (Option.some.inj h3).symm
        subst hik
        have := ((ho2 j hj).2 i (by simp)).2.1
        rw [hb] at this; cases this
      · rfl
  have hdst : ∀ (E1 : Env), (∀ t, x.dst ≠ some t → E1.getD t .any = E.getD t .any) → ∀ j ∈ pre, ∀ y, d.iis[j]? = some y → ∀ t, y.dst = some t → E1.getD t .any = E.getD t .any := by
    intro E1 hE1 j hj y hy t ht
    refine hE1 t (fun he => ?_)
    have h1 := (writer_some hok).2 ⟨hin, (dst_of hx).trans he⟩
    have h2 := (writer_some hok).2 ⟨(ho2 j hj).1, (dst_of hy).trans ht⟩
    rw [h1] at h2
    exact ((ho2 j hj).2 i (by simp)).1 (Option.some.inj h2).symm
  have mkMid : ∀ (v : V) (Z1 : St) (κ1 : Nat → Option Nat), E1 = put E x.dst v → runOps C (post.flatMap d.items) E1 Z1 = some (e', s') → Sim B ρ Z1 w → Step B ρ0 s0 w0 ρ Z1 w →
      (∀ j ∈ pre, κ1 j = κ j) → (∀ op X v, evalL op X Z = some v → (∀ t q, op ≠ .again t q) → evalL op X Z1 = some v) → (∀ k o, Z.new k = some o → Z1.new k = some o) → Z.next ≤ Z1.next →
      d.Fact e0 s0 i E1 Z1 ρ κ1 → (∀ k, κ1 i = some k → Z.next ≤ k ∧ k < Z1.next) →
      Mid B d C e0 s0 ρ0 w0 a0 e' s' (pre ++ [i]) post D E1 Z1 κ1 ρ a w := by
    intro v Z1 κ1 hE1 hrun1 hsim1 hstep1 hκ hL hnew hnext hfact hkne
    have hEo : ∀ t, x.dst ≠ some t → E1.getD t .any = E.getD t .any := by
      intro t ht; rw [hE1, put_getD]; simp [ht]
    refine ⟨by rw [h.split]; simp, hrun1, by rw [hE1, put_length]; exact h.len, fun t ht => ?_, fun j hj => List.mem_append_left _ (h.sub j hj), fun j hj ha => ?_, h.down, ?_, hsim1, hstep1, h.defers, fun j hj hD => ?_, fun j k q hj hk hDj hDk hja hka => ?_, fun j k hj hDj hja => ?_⟩
    · rw [hEo t (fun he => ht i (by simp) ((dst_of hx).trans he))]
      exact h.unwritten t (fun j hj => ht j (List.mem_append_left _ hj))
    · rcases List.mem_append.1 hj with hj | hj
      · exact h.acts j hj ha
      · simp at hj; subst hj; rw [hi] at ha; cases ha
    · have : d.mix D E1 e0 = d.mix D E e0 := by
        apply env_ext (by simp [mix_length])
        intro t
        rw [mix_getD (by rw [hE1, put_length]; exact h.len), mix_getD h.len]
        cases hw : d.writer t with
        | none => rfl
        | some j =>
          simp only [Option.any_some]
          split
          · rename_i hDj
            refine hEo t (fun he => ?_)
            have h3 := (writer_some hok).2 ⟨hin, (dst_of hx).trans he⟩
            rw [hw] at h3
            have := Option.some.inj h3
            subst this
            rw [hDi] at hDj; cases hDj
          · rfl
      rw [this]; exact h.tmps
    · rcases List.mem_append.1 hj with hj | hj
      · obtain ⟨y, hy, hf⟩ := h.fact j hj hD
        refine ⟨y, hy, fun X hX => ?_⟩
        have hX' := hE E1 hEo j hj y hy X hX
        have hd' := hdst E1 hEo j hj y hy
        rcases hf X hX' with ⟨h1, h2⟩ | ⟨h1, v', h2, h3⟩
        · exact .inl ⟨h1, fun t ht htl => by rw [hd' t ht]; exact h2 t ht (by rw [hE1, put_length] at htl; exact htl)⟩
        · refine .inr ⟨h1, v', fun t ht htl => by rw [hd' t ht]; exact h2 t ht (by rw [hE1, put_length] at htl; exact htl), ?_⟩
          rcases h3 with h3 | ⟨h3, h4⟩ | ⟨h3, o, f, k, h4, h5, h6, h7, h8, h9, h10⟩
          · exact .inl h3
          · exact .inr (.inl ⟨h3, hL _ _ _ h4 (hnag j y hy)⟩)
          · exact .inr (.inr ⟨h3, o, f, k, h4, by rw [hκ j hj]; exact h5, h6, hnew _ _ h7, h8, by omega, h10⟩)
      · simp at hj; subst hj; exact hfact
    · rcases List.mem_append.1 hj with hj1 | hj1 <;> rcases List.mem_append.1 hk with hk1 | hk1
      · rw [hκ j hj1] at hja; rw [hκ k hk1] at hka
        exact h.kinj j k q hj1 hk1 hDj hDk hja hka
      · have hki : k = i := by simpa using hk1
        rw [hκ j hj1] at hja
        rw [hki] at hka
        have h1 := h.kbound j q hj1 hDj hja
        have h2 := (hkne q hka).1
        omega
      · have hki : j = i := by simpa using hj1
        rw [hκ k hk1] at hka
        rw [hki] at hja
        have h1 := h.kbound k q hk1 hDk hka
        have h2 := (hkne q hja).1
        omega
      · simp at hj1 hk1; rw [hj1, hk1]
    · rcases List.mem_append.1 hj with hj1 | hj1
      · rw [hκ j hj1] at hja
        have := h.kbound j k hj1 hDj hja
        omega
      · have hki : j = i := by simpa using hj1
        rw [hki] at hja
        exact (hkne k hja).2
  -- what the operation itself finds
  have hself : ∀ (v : V), ∀ X : Env, (∀ t ∈ x.reads, X.getD t .any = d.pat i (put E x.dst v) e0 t) → ∀ t ∈ x.reads, X.getD t .any = E.getD t .any := by
    intro v X hX t ht
    rw [hX t ht, hpat t ht]
    unfold pat
    cases hw : d.writer t with
    | none => rfl
    | some j =>
      simp only [Option.any_some]
      split
      · rename_i hb
        rw [put_getD, if_neg]
        rintro ⟨he, _⟩
        have h3 := (writer_some hok).2 ⟨hin, (dst_of hx).trans he⟩
        rw [hw] at h3
        have h4 := Option.some.inj h3
        subst h4
        have := hok.lt _ _ hin hb
        omega
      · rfl
  have hputd : ∀ (v : V) t, x.dst = some t → t < (put E x.dst v).length → (put E x.dst v).getD t .any = v := by
    intro v t ht hl
    rw [put_getD, if_pos ⟨ht, by rwa [put_length] at hl⟩]
  let κ0 : Nat → Option Nat := fun j => if j = i then none else κ j
  have hκ0 : ∀ j ∈ pre, κ0 j = κ j := by
    intro j hj
    have : j ≠ i := ((ho2 j hj).2 i (by simp)).1
    simp [κ0, this]
  simp only at hrun
  unfold stepI at hst
  split at hst
  · rename_i hw
    simp only [Option.map_eq_some_iff, Prod.mk.injEq] at hst
    obtain ⟨⟨v, Z2⟩, hev, hE1, rfl⟩ := hst
    have hev' : evalOp x.op E Z = some (v, Z2) := by
      unfold execI at hev
      split at hev
      · rename_i he; rw [he] at hk; simp [IOp.kind] at hk
      · rename_i he; rw [he] at hk; simp [IOp.kind] at hk
      · exact hev
    have hnx := hnag i x hx
    unfold evalOp at hev'
    split at hev'
    · rename_i hkp
      simp only [Option.map_eq_some_iff, Prod.mk.injEq] at hev'
      obtain ⟨v0, hv, rfl, rfl⟩ := hev'
      refine ⟨E1, Z, κ0, mkMid v0 Z κ0 hE1.symm hrun h.sim h.step hκ0 (fun _ _ _ he _ => he) (fun _ _ he => he) (Nat.le_refl _) ⟨x, hx, fun X hX => ?_⟩ (fun k hk => by simp [κ0] at hk)⟩
      rw [← hE1] at hX
      have hXE := hself v0 X hX
      refine .inr ⟨by rw [reads_guard hXE]; exact hw, v0, fun t ht hl => by rw [← hE1] at hl ⊢; exact hputd v0 t ht hl, .inl ⟨hkp, by rw [evalP_congr _ (reads_args hXE)]; exact hv⟩⟩
    · rename_i hkp
      simp only [Option.map_eq_some_iff, Prod.mk.injEq] at hev'
      obtain ⟨v0, hv, rfl, rfl⟩ := hev'
      refine ⟨E1, Z, κ0, mkMid v0 Z κ0 hE1.symm hrun h.sim h.step hκ0 (fun _ _ _ he _ => he) (fun _ _ he => he) (Nat.le_refl _) ⟨x, hx, fun X hX => ?_⟩ (fun k hk => by simp [κ0] at hk)⟩
      rw [← hE1] at hX
      have hXE := hself v0 X hX
      refine .inr ⟨by rw [reads_guard hXE]; exact hw, v0, fun t ht hl => by rw [← hE1] at hl ⊢; exact hputd v0 t ht hl, .inr (.inl ⟨hkp, by rw [evalL_congr _ (reads_args hXE)]; exact hv⟩)⟩
    · rename_i hkp
      simp only [Option.map_eq_some_iff, Prod.mk.injEq] at hev'
      obtain ⟨⟨o, f⟩, hv, rfl, rfl⟩ := hev'
      have hfr := h.sim.fresh
      have hold : ∀ k o', Z.new k = some o' → (Z.alloc o).new k = some o' := by
        intro k o' hk'
        simp only [St.alloc]
        rw [if_neg]
        · exact hk'
        · rintro rfl; rw [hfr _ (Nat.le_refl _)] at hk'; cases hk'
      let κ1 : Nat → Option Nat := fun j => if j = i then some Z.next else κ j
      have hκ1 : ∀ j ∈ pre, κ1 j = κ j := by
        intro j hj
        have : j ≠ i := ((ho2 j hj).2 i (by simp)).1
        simp [κ1, this]
      refine ⟨E1, Z.alloc o, κ1, mkMid (f Z.next) (Z.alloc o) κ1 hE1.symm hrun (h.sim.ghost o) (h.step.trans (Step.ghost' B ρ Z w o)) hκ1 (fun op X v he hn => ?_) hold (by simp [St.alloc]) ⟨x, hx, fun X hX => ?_⟩ (fun k hk => ?_)⟩
      · have he' : evalLook op X Z = some v := by
          unfold evalL at he
          split at he
          · exact absurd rfl (hn _ _)
          · exact he
        have := evalLook_alloc hfr he' o
        unfold evalL
        split
        · exact absurd rfl (hn _ _)
        · exact this
      · rw [← hE1] at hX
        have hXE := hself _ X hX
        refine .inr ⟨by rw [reads_guard hXE]; exact hw, f Z.next, fun t ht hl => by rw [← hE1] at hl ⊢; exact hputd _ t ht hl, .inr (.inr ⟨hkp, o, f, Z.next, by rw [evalA_congr _ (reads_args hXE)]; exact hv, by simp [κ1], rfl, by simp [St.alloc], h.sim.nextNone, by simp [St.alloc], h.step.next⟩)⟩
      · simp only [κ1, if_true, Option.some.injEq] at hk
        subst hk
        exact ⟨Nat.le_refl _, by simp [St.alloc]⟩
    · rename_i hkp; exact absurd hkp hk
  · rename_i hw
    simp only [Option.some.injEq, Prod.mk.injEq] at hst
    obtain ⟨hE1, rfl⟩ := hst
    refine ⟨E1, Z, κ0, mkMid skipV Z κ0 hE1.symm hrun h.sim h.step hκ0 (fun _ _ _ he _ => he) (fun _ _ he => he) (Nat.le_refl _) ⟨x, hx, fun X hX => ?_⟩ (fun k hk => by simp [κ0] at hk)⟩
    · rw [← hE1] at hX
      have hXE := hself skipV X hX
      refine .inl ⟨by rw [reads_guard hXE]; exact hw, fun t ht hl => by rw [← hE1] at hl ⊢; exact hputd _ t ht hl⟩
  · cases hst

theorem mix_put (hok : Ok d) {i : Nat} {x : II} (hx : d.iis[i]? = some x) {D : Nat → Bool} {E E1 : Env} (hl : E.length = e0.length) (hl1 : E1.length = e0.length) {v : V}
    (hv : ∀ t, x.dst = some t → t < E1.length → E1.getD t .any = v) (ho : ∀ t, x.dst ≠ some t → E1.getD t .any = E.getD t .any) :
    d.mix (fun j => j == i || D j) E1 e0 = put (d.mix D E e0) x.dst v := by
  have hin : i < d.n := (List.getElem?_eq_some_iff.1 hx).1
  apply env_ext (by simp [mix_length, put_length])
  intro t
  rw [mix_getD hl1, put_getD, mix_getD hl, mix_length]
  by_cases hd : x.dst = some t
  · have hw := (writer_some hok).2 ⟨hin, (dst_of hx).trans hd⟩
    simp only [hw, Option.any_some, beq_self_eq_true, Bool.true_or, if_true]
    by_cases ht : t < e0.length
    · rw [if_pos ⟨hd, ht⟩]; exact hv t hd (by omega)
    · rw [if_neg (by omega)]
      have h1 : E1.getD t .any = .any := by simp [List.getD, show ¬ t < E1.length by omega]
      have h2 : E.getD t .any = .any := by simp [List.getD, show ¬ t < E.length by omega]
      have h3 : e0.getD t .any = .any := by simp [List.getD, ht]
      rw [h1, h2, h3]; simp
  · have e1 : ¬ (x.dst = some t ∧ t < e0.length) := fun h => hd h.1
    simp only [if_neg e1, ho t hd]
    cases hw : d.writer t with
    | none => rfl
    | some j =>
      have hji : j ≠ i := by
        rintro rfl
        have := ((writer_some hok).1 hw).2
        rw [dst_of hx] at this
        exact hd this
      simp [hji]

theorem mapM_get {α β : Type} {f : α → Option β} : ∀ {l : List α} {r : List β}, l.mapM f = some r → ∀ {i : Nat} {a : α}, l[i]? = some a → ∃ b, r[i]? = some b ∧ f a = some b
  | [], r, h, i, a, ha => by simp at ha
  | x :: l, r, h, i, a, ha => by
    simp only [List.mapM_cons, Option.bind_eq_bind, Option.pure_def, Option.bind_eq_some_iff, Option.some.injEq] at h
    obtain ⟨y, hy, r', hr, rfl⟩ := h
    cases i with
    | zero => simp at ha; subst ha; exact ⟨y, rfl, hy⟩
    | succ i => simpa using mapM_get hr (by simpa using ha)

/-- Go runs one that the machine has run. -/
theorem Mid.take (hok : Ok d) (hnag : ∀ (j : Nat) (y : II), d.iis[j]? = some y → ∀ t q, y.op ≠ .again t q) {ops : Array Oper} (hi : ops.toList.mapM (compII P ops.toList) = some d.iis)
    {i : Nat} {pre post : List Nat} {D : Nat → Bool} {E : Env} {Z : St} {κ : Nat → Option Nat} {ρ : Rn} {a : Act} {w : World} (h : Mid B d C e0 s0 ρ0 w0 a0 e' s' pre post D E Z κ ρ a w)
    (hip : i ∈ pre) (hDi : D i = false) (hanc : ∀ j, d.before j i = true → D j = true) {K : Act → World → Prop} {Q : Exit → Act → World → Prop}
    (hK : ∀ ρ' a' w', Mid B d C e0 s0 ρ0 w0 a0 e' s' pre post (fun j => j == i || D j) E Z κ ρ' a' w' → K a' w') {ro : Option Nat} : wpOpIn (fen ro) 0 P ops Q i K a w := by
  have hord := hok.ord
  rw [h.split] at hord
  obtain ⟨_, ho2⟩ := d.okOrd_app hord
  have hin := (ho2 i hip).1
  obtain ⟨x, hx, hf⟩ := h.fact i hip hDi
  have hsz : d.n = ops.size := by
    have := mapM_len hi
    simpa [Drawn.n] using this
  obtain ⟨o, ho⟩ : ∃ o, ops[i]? = some o := ⟨_, Array.getElem?_eq_getElem (by omega)⟩
  obtain ⟨x', hx', hcomp⟩ := mapM_get hi (a := o) (i := i) (by simpa using ho)
  rw [hx] at hx'; cases hx'
  obtain ⟨hop, hdst⟩ := compII_op hcomp
  -- the slots as Go has them
  have hX : ∀ t ∈ x.reads, (d.mix D E e0).getD t .any = d.pat i E e0 t := by
    intro t ht
    rw [mix_getD h.len]
    unfold pat
    cases hw : d.writer t with
    | none => rfl
    | some j =>
      obtain ⟨hjn, hd⟩ := (writer_some hok).1 hw
      simp only [Option.any_some]
      by_cases hb : d.before j i = true
      · rw [if_pos hb, if_pos (hanc j hb)]
      · rw [if_neg hb]
        rcases reads_order hok hjn hin hd (reads_of hx ht) with h1 | ⟨h1, _⟩
        · exact absurd h1 hb
        · have hDj : D j = false := by
            cases hD : D j with
            | false => rfl
            | true => have := h.down i j hD h1; rw [hDi] at this; cases this
          simp [hDj]
  have next : ∀ (v : V) (v' : Value) (ρ' : Rn) (w' : World), (∀ t, x.dst = some t → t < E.length → E.getD t .any = v) → VR ρ' v v' → Le ρ ρ' → Sim B ρ' Z w' → Step B ρ0 s0 w0 ρ' Z w' →
      (∀ j k, j ∈ pre → j ≠ i → D j = false → κ j = some k → ρ k = none → ρ' k = none) → K (a.put o.dst v') w' := by
    intro v v' ρ' w' hv hvr hle hsim hstep hgh
    refine hK ρ' _ w' ⟨h.split, h.run, h.len, h.unwritten, fun j hj => ?_, fun j hj ha => ?_, fun j k hk hb => ?_, ?_, hsim, hstep, (put_defers _ _).trans h.defers, fun j hj hD => ?_, fun j k q hj hk hDj hDk h1 h2 => ?_, fun j k hj hDj h1 => ?_⟩
    · simp only [Bool.or_eq_true, beq_iff_eq] at hj
      rcases hj with rfl | hj
      · exact hip
      · exact h.sub j hj
    · simp [h.acts j hj ha]
    · simp only [Bool.or_eq_true, beq_iff_eq] at hk ⊢
      rcases hk with rfl | hk
      · exact .inr (hanc j hb)
      · exact .inr (h.down j k hk hb)
    · rw [mix_put hok hx h.len h.len hv (fun _ _ => rfl), ← hdst]
      exact put_VRs (VRs_mono hle _ _ h.tmps) _ hvr
    · simp only [Bool.or_eq_false_iff, beq_eq_false_iff_ne] at hD
      obtain ⟨y, hy, hfy⟩ := h.fact j hj hD.2
      refine ⟨y, hy, fun X hXj => ?_⟩
      rcases hfy X hXj with h1 | ⟨h1, u, h2, h3⟩
      · exact .inl h1
      · refine .inr ⟨h1, u, h2, ?_⟩
        rcases h3 with h3 | h3 | ⟨h3, ob, f, k, h4, h5, h6, h7, h8, h9⟩
        · exact .inl h3
        · exact .inr (.inl h3)
        · exact .inr (.inr ⟨h3, ob, f, k, h4, h5, h6, h7, hgh j k hj hD.1 hD.2 h5 h8, h9⟩)
    · simp only [Bool.or_eq_false_iff] at hDj hDk
      exact h.kinj j k q hj hk hDj.2 hDk.2 h1 h2
    · simp only [Bool.or_eq_false_iff] at hDj
      exact h.kbound j k hj hDj.2 h1
  unfold wpOpIn
  simp only [ho]
  rcases hf _ hX with ⟨hw, hany⟩ | ⟨hw, v, hv, hcase⟩
  · rw [wanted_ok hcomp h.tmps hw]
    simp only [Bool.false_eq_true, if_false]
    exact ⟨fun _ _ => trivial, next skipV undef ρ w (fun t ht hl => hany t ht hl) ⟨#[], rfl, rfl⟩ (Le.refl ρ) h.sim h.step (fun _ _ _ _ _ _ h => h)⟩
  · rw [wanted_ok hcomp h.tmps hw, if_pos rfl]
    refine uponIn_mono ?_ (compOpD_defer hop) rfl
    have hop' : x.op.kind ≠ .s → compOp P o = some x.op := fun hk => (compOpD_or hop).resolve_right (fun e => hk (by rw [e]; rfl))
    rcases hcase with ⟨hk, hev⟩ | ⟨hk, hev⟩ | ⟨hk, ob, f, k, hev, hκ, rfl, hnew, hρ, hkn, hs0⟩
    · obtain ⟨v', h1, h2⟩ := evalP_ok (hop' (by rw [hk]; simp)) hk hev h.tmps
      rw [h1 w, Oper.uponIn_value]
      exact next v v' ρ w hv h2 (Le.refl ρ) h.sim h.step (fun _ _ _ _ _ _ h => h)
    · have hlook : evalLook x.op (d.mix D E e0) Z = some v := by
        unfold evalL at hev
        split at hev
        · rename_i he; exact absurd he (hnag i x hx _ _)
        · exact hev
      obtain ⟨v', h1, h2⟩ := evalLook_ok (hop' (by rw [hk]; simp)) hlook h.tmps h.sim
      rw [h1, Oper.uponIn_value]
      exact next v v' ρ w hv h2 (Le.refl ρ) h.sim h.step (fun _ _ _ _ _ _ h => h)
    · obtain ⟨gob, mk, h1, h2, h3⟩ := evalA_ok (ρ := ρ) (hop' (by rw [hk]; simp)) hk hev h.tmps
      rw [h1 w, Oper.uponIn_value]
      refine next _ _ (ρ.put k ⟨w.heap.size, 0, 0, 0, none⟩) (w.alloc gob) hv (h3 _ k ⟨w.heap.size, 0, 0, 0, none⟩ (by simp [Rn.put]) rfl rfl) (Rn.put_le hρ) (h.sim.realize hρ hkn hnew rfl (h2 _ _)) ?_ ?_
      · refine ⟨h.step.le.trans (Rn.put_le hρ), h.step.below.trans ((Below.refl B w).alloc h.sim.base gob), h.step.next, h.step.old, fun j hj hn => ?_, fun b hb hn => ?_, Nat.le_trans h.step.size (by show _ ≤ (w.heap.push gob).size; simp)⟩
        · obtain ⟨g1, g2⟩ := h.step.ghost j hj hn
          refine ⟨?_, g2⟩
          unfold Rn.put
          rw [if_neg (by omega)]
          exact g1
        · obtain ⟨g1, g2⟩ := h.step.keep b hb hn
          have hbw : b < w.heap.size := Nat.lt_of_lt_of_le hb h.step.size
          refine ⟨(Below.heap_alloc w gob b hbw).trans g1, fun j q hq => ?_⟩
          unfold Rn.put at hq
          split at hq
          · cases hq; simp only; omega
          · exact g2 j q hq
      · intro j q hj hji hDj hq hn
        unfold Rn.put
        rw [if_neg]
        · exact hn
        · rintro rfl
          exact hji (h.kinj j i q hj hip hDj hDi hq hκ)

theorem runOps_append (C : CallT) : ∀ (l1 l2 : List II) (e : Env) (s : St), runOps C (l1 ++ l2) e s = (runOps C l1 e s).bind fun p => runOps C l2 p.1 p.2
  | [], l2, e, s => rfl
  | i :: l1, l2, e, s => by
    simp only [List.cons_append, runOps, Option.bind_assoc]
    congr 1
    funext p
    exact runOps_append C l1 l2 p.1 p.2

/-- Looking again changes nothing. -/
theorem recheck_run (C : CallT) : ∀ (l : List II), (∀ r ∈ l, r.dst = none ∧ ∃ t q, r.op = .again t q) → ∀ {E E2 : Env} {Z Z2 : St}, runOps C l E Z = some (E2, Z2) →
    E2 = E ∧ Z2 = Z ∧ ∀ r ∈ l, ∀ t q, r.op = .again t q → wantedI E r.guard = some false ∨ (wantedI E r.guard = some true ∧ evalLook q E Z = some (E.getD t .any) ∧ E.getD t .any ≠ .any)
  | [], _, E, E2, Z, Z2, h => by
    simp only [runOps, Option.some.injEq, Prod.mk.injEq] at h
    exact ⟨h.1.symm, h.2.symm, by simp⟩
  | r :: l, hl, E, E2, Z, Z2, h => by
    simp only [runOps, Option.bind_eq_some_iff] at h
    obtain ⟨⟨E1, Z1⟩, h1, h⟩ := h
    obtain ⟨hd, t, q, hop⟩ := hl r (by simp)
    have hone : E1 = E ∧ Z1 = Z ∧ (wantedI E r.guard = some false ∨ (wantedI E r.guard = some true ∧ evalLook q E Z = some (E.getD t .any) ∧ E.getD t .any ≠ .any)) := by
      unfold stepI at h1
      split at h1
      · rename_i hw
        simp only [Option.map_eq_some_iff, Prod.mk.injEq] at h1
        obtain ⟨⟨v, Z3⟩, hev, rfl, rfl⟩ := h1
        rw [hop] at hev
        simp only [execI, evalOp, IOp.kind, Option.map_eq_some_iff, Prod.mk.injEq, evalL, Option.bind_eq_some_iff] at hev
        obtain ⟨u, ⟨v', h2, h3⟩, rfl, rfl⟩ := hev
        split at h3
        · rename_i hb
          have he := beqV_eq _ _ hb
          refine ⟨by rw [hd]; rfl, rfl, .inr ⟨hw, by rw [h2, he]; rfl, fun ha => ?_⟩⟩
          simp only [ev] at hb he
          rw [he, ha] at hb
          simp [beqV] at hb
        · cases h3
      · rename_i hw
        simp only [Option.some.injEq, Prod.mk.injEq] at h1
        exact ⟨by rw [← h1.1, hd]; rfl, h1.2.symm, .inl hw⟩
      · cases h1
    obtain ⟨rfl, rfl, hx⟩ := hone
    obtain ⟨g1, g2, g3⟩ := recheck_run C l (fun r hr => hl r (by simp [hr])) h
    refine ⟨g1, g2, fun r' hr t' q' hop' => ?_⟩
    rcases List.mem_cons.1 hr with rfl | hr
    · rw [hop] at hop'; cases hop'; exact hx
    · exact g3 r' hr t' q' hop'

/-- Go runs one that acts, and the machine too. -/
theorem Mid.act (hok : Ok d) {ρb : Rn} (hC : CallsOk P B ρb C) (hle : Le ρb ρ0) {ops : Array Oper} (hi : ops.toList.mapM (compII P ops.toList) = some d.iis)
    {i : Nat} {pre post : List Nat} {D : Nat → Bool} {E : Env} {Z : St} {κ : Nat → Option Nat} {ρ : Rn} {a : Act} {w : World} (h : Mid B d C e0 s0 ρ0 w0 a0 e' s' pre (i :: post) D E Z κ ρ a w)
    (hai : d.acts i = true) (hanc : ∀ j, d.before j i = true → D j = true) {K : Act → World → Prop} {Q : Exit → Act → World → Prop}
    (hK : ∀ E1 Z1 ρ' a' w', Mid B d C e0 s0 ρ0 w0 a0 e' s' (pre ++ [i]) post (fun j => j == i || D j) E1 Z1 κ ρ' a' w' → K a' w') {ro : Option Nat} : wpOpIn (fen ro) 0 P ops Q i K a w := by
  have hord := hok.ord
  rw [h.split] at hord
  obtain ⟨ho1, ho2⟩ := d.okOrd_app hord
  have hin : i < d.n := by simp only [okOrd, Bool.and_eq_true, decide_eq_true_eq] at ho1; exact ho1.1.1.1
  obtain ⟨x, hx⟩ : ∃ x, d.iis[i]? = some x := ⟨_, List.getElem?_eq_getElem hin⟩
  have hDi : D i = false := by
    cases hD : D i with
    | false => rfl
    | true => exact absurd rfl ((ho2 i (h.sub i hD)).2 i (by simp)).1
  have hsz : d.n = ops.size := by
    have := mapM_len hi
    simpa [Drawn.n] using this
  obtain ⟨o, ho⟩ : ∃ o, ops[i]? = some o := ⟨_, Array.getElem?_eq_getElem (by omega)⟩
  obtain ⟨x', hx', hcomp⟩ := mapM_get hi (a := o) (i := i) (by simpa using ho)
  rw [hx] at hx'; cases hx'
  obtain ⟨hop, hdst⟩ := compII_op hcomp
  -- the machine's own run
  have hrun := h.run
  have hitems : d.items i = x :: d.rechecks i := by simp [Drawn.items, hx, hai]
  simp only [List.flatMap_cons, hitems, List.cons_append, runOps, Option.bind_eq_some_iff] at hrun
  obtain ⟨⟨E1, Z1⟩, hst, hrun⟩ := hrun
  rw [runOps_append, Option.bind_eq_some_iff] at hrun
  obtain ⟨⟨E2, Z2⟩, hre, hrun⟩ := hrun
  have hrl : ∀ r ∈ d.rechecks i, r.dst = none ∧ ∃ t q, r.op = .again t q := by
    intro r hr
    simp only [Drawn.rechecks, List.mem_filterMap, Option.bind_eq_some_iff, Option.map_eq_some_iff] at hr
    obtain ⟨j, _, y, _, t, _, rfl⟩ := hr
    exact ⟨rfl, t, y.op, rfl⟩
  obtain ⟨rfl, rfl, hrech⟩ := recheck_run C _ hrl hre
  simp only at hrun hst
  -- the slots
  have hXE : ∀ t ∈ x.reads, (d.mix D E e0).getD t .any = E.getD t .any := by
    intro t ht
    rw [mix_getD h.len]
    have hun : (∀ j ∈ pre, d.dst j ≠ some t) → (if (d.writer t).any D = true then E.getD t V.any else e0.getD t V.any) = E.getD t .any := by
      intro hno
      rw [h.unwritten t hno]; simp
    cases hw : d.writer t with
    | none =>
      rw [hw] at hun
      exact hun (fun j hj hd => by
        have := (writer_some hok).2 ⟨(ho2 j hj).1, hd⟩
        rw [hw] at this; cases this)
    | some j =>
      obtain ⟨hjn, hd⟩ := (writer_some hok).1 hw
      rcases reads_order hok hjn hin hd (reads_of hx ht) with h1 | ⟨h1, _⟩
      · simp [hanc j h1]
      · rw [hw] at hun
        refine hun (fun k hk hdk => ?_)
        have hkj : k = j := by
          have h3 := (writer_some hok).2 ⟨(ho2 k hk).1, hdk⟩
          rw [hw] at h3; exact (Option.some.inj h3).symm
        subst hkj
        have := ((ho2 k hk).2 i (by simp)).2.1
        rw [h1] at this; cases this
  have next : ∀ (v : V) (ρ' : Rn) (a' : Act) (w' : World), E2 = put E x.dst v → After B ρ Z w a (put (d.mix D E e0) x.dst v) Z2 a' w' → K a' w' := by
    rintro v ρ'' a' w' hE2 ⟨ρ', k1, k2, k3, k4⟩
    have hEo : ∀ t, x.dst ≠ some t → E2.getD t .any = E.getD t .any := by
      intro t ht; rw [hE2, put_getD]; simp [ht]
    have hl2 : E2.length = e0.length := by rw [hE2, put_length]; exact h.len
    refine hK E2 Z2 ρ' a' w' ⟨by rw [h.split]; simp, hrun, hl2, fun t ht => ?_, fun j hj => ?_, fun j hj ha => ?_, fun j k hk hb => ?_, ?_, k2, h.step.trans k3, k4.trans h.defers, fun j hj hD => ?_, fun j k q hj hk hDj hDk h1 h2 => ?_, fun j k hj hDj h1 => ?_⟩
    · rw [hEo t (fun he => ht i (by simp) ((dst_of hx).trans he))]
      exact h.unwritten t (fun j hj => ht j (List.mem_append_left _ hj))
    · simp only [Bool.or_eq_true, beq_iff_eq] at hj
      rcases hj with rfl | hj
      · simp
      · exact List.mem_append_left _ (h.sub j hj)
    · rcases List.mem_append.1 hj with hj1 | hj1
      · simp [h.acts j hj1 ha]
      · have : j = i := by simpa using hj1
        simp [this]
    · simp only [Bool.or_eq_true, beq_iff_eq] at hk ⊢
      rcases hk with rfl | hk
      · exact .inr (hanc j hb)
      · exact .inr (h.down j k hk hb)
    · rw [mix_put hok hx h.len hl2 (fun t ht hl => by rw [hE2, put_length] at hl; rw [hE2, put_getD, if_pos ⟨ht, hl⟩]) hEo]
      exact k1
    · simp only [Bool.or_eq_false_iff, beq_eq_false_iff_ne] at hD
      have hj1 : j ∈ pre := by
        rcases List.mem_append.1 hj with hj1 | hj1
        · exact hj1
        · exact absurd (by simpa using hj1) hD.1
      obtain ⟨hjn, hjp⟩ := ho2 j hj1
      have hji := hjp i (by simp)
      obtain ⟨y, hy, hfy⟩ := h.fact j hj1 hD.2
      refine ⟨y, hy, fun X hX => ?_⟩
      have hpe : ∀ t ∈ y.reads, d.pat j E2 e0 t = d.pat j E e0 t := by
        intro t ht
        unfold pat
        cases hw : d.writer t with
        | none => rfl
        | some k =>
          simp only [Option.any_some]
          split
          · rename_i hb
            refine hEo t (fun he => ?_)
            have h3 := (writer_some hok).2 ⟨hin, (dst_of hx).trans he⟩
            rw [hw] at h3
            have := Option.some.inj h3
            subst this
            rw [hji.2.1] at hb; cases hb
          · rfl
      have hdj : ∀ t, y.dst = some t → E2.getD t .any = E.getD t .any := by
        intro t ht
        refine hEo t (fun he => ?_)
        have h1 := (writer_some hok).2 ⟨hin, (dst_of hx).trans he⟩
        have h2 := (writer_some hok).2 ⟨hjn, (dst_of hy).trans ht⟩
        rw [h1] at h2
        exact hji.1 (Option.some.inj h2).symm
      rcases hfy X (fun t ht => by rw [hX t ht, hpe t ht]) with ⟨h1, h2⟩ | ⟨h1, u, h2, h3⟩
      · exact .inl ⟨h1, fun t ht hl => by rw [hdj t ht]; exact h2 t ht (by rw [hl2] at hl; rw [h.len]; exact hl)⟩
      · refine .inr ⟨h1, u, fun t ht hl => by rw [hdj t ht]; exact h2 t ht (by rw [hl2] at hl; rw [h.len]; exact hl), ?_⟩
        rcases h3 with h3 | ⟨h3, h4⟩ | ⟨h3, ob, f, k, h4, h5, h6, h7, h8, h9, h10⟩
        · exact .inl h3
        · refine .inr (.inl ⟨h3, ?_⟩)
          -- it is looked at again
          have hnb : d.before i j = false := by
            cases hb : d.before i j with
            | false => rfl
            | true =>
              exfalso
              have := h.fact j hj1 hD.2
              have h5 := hji.2.1
              rw [hb] at h5; cases h5
          have hbj : d.before j i = false := by
            cases hb : d.before j i with
            | false => rfl
            | true => have := hanc j hb; rw [hD.2] at this; cases this
          have hlk : d.looks j = true := by simp [Drawn.looks, hy, IOp.looks, h3]
          have hop' : d.open_ j i = true := by simp [Drawn.open_, hlk, hai, hnb, hbj]
          have hpr := hok.pair i j hin hjn
          unfold okPair at hpr
          simp only [hop', Bool.not_true, Bool.false_or, Bool.and_eq_true, Option.isSome_iff_exists] at hpr
          obtain ⟨⟨t, ht⟩, _⟩ := hpr
          rw [dst_of hy] at ht
          have hmem : ({ dst := none, op := .again t y.op, guard := y.guard } : II) ∈ d.rechecks i := by
            simp only [Drawn.rechecks, List.mem_filterMap, Option.bind_eq_some_iff, Option.map_eq_some_iff, List.mem_filter, List.mem_range]
            exact ⟨j, ⟨hjn, hop'⟩, y, hy, t, ht, rfl⟩
          have hXE2 : ∀ q ∈ y.reads, X.getD q .any = E2.getD q .any := by
            intro q hq
            rw [hX q hq]
            unfold pat
            cases hw : d.writer q with
            | none =>
              simp only [Option.any_none, Bool.false_eq_true, if_false]
              rw [hEo q (fun he => by
                have := (writer_some hok).2 ⟨hin, (dst_of hx).trans he⟩
                rw [hw] at this; cases this)]
              exact (h.unwritten q (fun k hk hd => by
                have := (writer_some hok).2 ⟨(ho2 k hk).1, hd⟩
                rw [hw] at this; cases this)).symm
            | some k =>
              obtain ⟨hkn, hd⟩ := (writer_some hok).1 hw
              simp only [Option.any_some]
              rcases reads_order hok hkn hjn hd (reads_of hy hq) with g1 | ⟨_, g2⟩
              · rw [if_pos g1]
              · rw [g2 i hin] at hop'; cases hop'
          rcases hrech _ hmem t y.op rfl with g1 | ⟨g1, g2, g3⟩
          · have g1' : wantedI E2 y.guard = some false := g1
            rw [← reads_guard hXE2, h1] at g1'; cases g1'
          · have hlook : evalLook y.op X Z2 = some (E2.getD t .any) := by rw [evalLook_congr _ (reads_args hXE2)]; exact g2
            have htl : t < E.length := by
              rcases Nat.lt_or_ge t E.length with g | g
              · exact g
              · exfalso
                -- a slot that is none holds nothing that can be the same
                exact g3 (by simp [List.getD, show ¬ t < E2.length by rw [hl2, ← h.len]; omega])
            have huv : E2.getD t .any = u := by rw [hdj t ht]; exact h2 t ht htl
            rw [huv] at hlook
            unfold evalL at h4 ⊢
            split at h4
            · rename_i t' q' he
              rw [he] at hlook; simp [evalLook] at hlook
            · exact hlook
        · obtain ⟨g1, g2⟩ := k3.ghost k h9 h8
          exact .inr (.inr ⟨h3, ob, f, k, h4, h5, h6, g2.trans h7, g1, Nat.lt_of_lt_of_le h9 k3.next, h10⟩)
    · simp only [Bool.or_eq_false_iff, beq_eq_false_iff_ne] at hDj hDk
      have hj1 : j ∈ pre := (List.mem_append.1 hj).resolve_right (fun h => hDj.1 (by simpa using h))
      have hk1 : k ∈ pre := (List.mem_append.1 hk).resolve_right (fun h => hDk.1 (by simpa using h))
      exact h.kinj j k q hj1 hk1 hDj.2 hDk.2 h1 h2
    · simp only [Bool.or_eq_false_iff, beq_eq_false_iff_ne] at hDj
      have hj1 : j ∈ pre := (List.mem_append.1 hj).resolve_right (fun h => hDj.1 (by simpa using h))
      exact Nat.lt_of_lt_of_le (h.kbound j k hj1 hDj.2 h1) k3.next
  unfold wpOpIn
  simp only [ho]
  unfold stepI at hst
  rw [← reads_guard hXE] at hst
  split at hst
  · rename_i hw
    rw [wanted_ok hcomp h.tmps hw, if_pos rfl]
    simp only [Option.map_eq_some_iff, Prod.mk.injEq] at hst
    obtain ⟨⟨v, Z3⟩, hev, hE2, rfl⟩ := hst
    rw [← execI_congr _ (reads_args hXE)] at hev
    refine execI_ok hC (hle.trans h.step.le) hop hev h.tmps h.sim (fun a' w' hA => ?_)
    rw [← hdst] at hA
    exact next v ρ a' w' hE2.symm hA
  · rename_i hw
    rw [wanted_ok hcomp h.tmps hw]
    simp only [Bool.false_eq_true, if_false]
    simp only [Option.some.injEq, Prod.mk.injEq] at hst
    obtain ⟨hE2, rfl⟩ := hst
    refine ⟨fun _ _ => trivial, next skipV ρ _ w hE2.symm ⟨ρ, ?_, h.sim, Step.refl _ _ _ _, put_defers _ _⟩⟩
    rw [← hdst]
    exact put_VRs h.tmps _ ⟨#[], rfl, rfl⟩
  · cases hst

/-- How many are still to come. -/
def left (n : Nat) (listed : Array Bool) : Nat := ((List.range n).filter fun i => !listed.getD i false).length

theorem left_set {n : Nat} {listed : Array Bool} (hsz : listed.size = n) {i : Nat} (hi : i < n) (h : listed.getD i false = false) : left n (listed.setIfInBounds i true) < left n listed := by
  unfold left
  have hlt : (List.range n).filter (fun j => !(listed.setIfInBounds i true).getD j false) = ((List.range n).filter fun j => !listed.getD j false).filter (fun j => j != i) := by
    rw [List.filter_filter]
    apply List.filter_congr
    intro j hj
    simp only [List.mem_range] at hj
    by_cases hji : j = i
    · subst hji
      simp [Array.getD_eq_getD_getElem?, hsz, hi]
    · have : (listed.setIfInBounds i true).getD j false = listed.getD j false := by
        simp [Array.getD_eq_getD_getElem?, Array.getElem?_setIfInBounds, Ne.symm hji]
      rw [this]; simp [hji]
  rw [hlt]
  have hmem : i ∈ (List.range n).filter fun j => !listed.getD j false := by
    rw [List.mem_filter]
    exact ⟨by simpa using hi, by rw [h]; rfl⟩
  generalize (List.range n).filter (fun j => !listed.getD j false) = l at hmem
  induction l with
  | nil => simp at hmem
  | cons y l ih =>
    by_cases hy : y = i
    · subst hy
      simp only [List.filter_cons, bne_self_eq_false, Bool.false_eq_true, if_false, List.length_cons]
      exact Nat.lt_succ_of_le (List.length_filter_le _ _)
    · have hm : i ∈ l := by
        rcases List.mem_cons.1 hmem with h | h
        · exact absurd h.symm hy
        · exact h
      simp only [List.filter_cons, bne_iff_ne, ne_eq, hy, not_false_eq_true, if_true, List.length_cons]
      exact Nat.succ_lt_succ (ih hm)

theorem left_zero {n : Nat} {listed : Array Bool} (h : left n listed = 0) : ∀ i, i < n → listed.getD i false = true := by
  intro i hi
  unfold left at h
  have := List.eq_nil_of_length_eq_zero h
  rw [List.filter_eq_nil_iff] at this
  have := this i (by simpa using hi)
  simpa using this

theorem Mid.norm (hok : Ok d) (hnag : ∀ (j : Nat) (y : II), d.iis[j]? = some y → ∀ t q, y.op ≠ .again t q) : ∀ (post pre : List Nat) {D : Nat → Bool} {E : Env} {Z : St} {κ : Nat → Option Nat} {ρ : Rn} {a : Act} {w : World},
    Mid B d C e0 s0 ρ0 w0 a0 e' s' pre post D E Z κ ρ a w → ∃ pre' post' E' Z' κ', Mid B d C e0 s0 ρ0 w0 a0 e' s' pre' post' D E' Z' κ' ρ a w ∧ (post' = [] ∨ ∃ i l, post' = i :: l ∧ d.acts i = true)
  | [], pre, D, E, Z, κ, ρ, a, w, h => ⟨pre, [], E, Z, κ, h, .inl rfl⟩
  | i :: post, pre, D, E, Z, κ, ρ, a, w, h => by
    cases ha : d.acts i with
    | true => exact ⟨pre, i :: post, E, Z, κ, h, .inr ⟨i, post, rfl, ha⟩⟩
    | false =>
      obtain ⟨E1, Z1, κ1, h1⟩ := h.advance hok hnag ha
      exact Mid.norm hok hnag post (pre ++ [i]) h1

theorem mem_ready {ops : Array Oper} {listed : Array Bool} (hls : listed.size = ops.size) {i : Nat} : i ∈ Region.ready .any ops listed ↔
    ∃ o, ops[i]? = some o ∧ listed.getD i false = false ∧ ∀ x ∈ depsOf o, listed.getD x false = true := by
  unfold Region.ready
  simp only [List.mem_filter, List.mem_range, Bool.and_eq_true, Bool.not_eq_true']
  constructor
  · rintro ⟨hi, h1, h2⟩
    refine ⟨ops[i], Array.getElem?_eq_getElem hi, ?_, fun x hx => ?_⟩
    · have : i < listed.size := by omega
      simp only [Array.getD_eq_getD_getElem?, Array.getElem?_eq_getElem this, Option.getD_some] at h1 ⊢
      exact h1
    · simp only [Array.getElem?_eq_getElem hi, Option.map_some, Option.getD_some, Array.all_eq_true_iff_forall_mem] at h2
      simp only [depsOf, List.mem_map, List.mem_filter] at hx
      obtain ⟨ed, ⟨h3, h4⟩, rfl⟩ := hx
      have := h2 ed (by simpa using h3)
      simpa [h4] using this
  · rintro ⟨o, ho, h1, h2⟩
    have hi : i < ops.size := (Array.getElem?_eq_some_iff.1 ho).1
    refine ⟨hi, ?_, ?_⟩
    · have : i < listed.size := by omega
      simp only [Array.getD_eq_getD_getElem?, Array.getElem?_eq_getElem this, Option.getD_some] at h1 ⊢
      exact h1
    · simp only [ho, Option.map_some, Option.getD_some, Array.all_eq_true_iff_forall_mem]
      intro ed hed
      cases hb : Region.binds .any ed with
      | false => rfl
      | true =>
        simp only [Bool.not_true, Bool.false_or]
        exact h2 ed.on (by
          simp only [depsOf, List.mem_map, List.mem_filter]
          exact ⟨ed, ⟨by simpa using hed, hb⟩, rfl⟩)

theorem draw_any (hok : Ok d) {ρb : Rn} (hC : CallsOk P B ρb C) (hle : Le ρb ρ0) {ro : Option Nat} (hnag : ∀ (j : Nat) (y : II), d.iis[j]? = some y → ∀ t q, y.op ≠ .again t q) {ops : Array Oper} (hi : ops.toList.mapM (compII P ops.toList) = some d.iis)
    (hdeps : ∀ i o, ops[i]? = some o → d.deps.getD i [] = depsOf o) {Q : Exit → Act → World → Prop} (hq : ∀ a' w', After B ρ0 s0 w0 a0 e' s' a' w' → Q .normal a' w') :
    ∀ (fuel : Nat) (listed : Array Bool) (pre post : List Nat) (E : Env) (Z : St) (κ : Nat → Option Nat) (ρ : Rn) (a : Act) (w : World), listed.size = ops.size → left ops.size listed ≤ fuel →
      Mid B d C e0 s0 ρ0 w0 a0 e' s' pre post (fun i => listed.getD i false) E Z κ ρ a w → wpAnyIn (fen ro) 0 P .any ops Q fuel listed a w := by
  have hsz : d.n = ops.size := by
    have := mapM_len hi
    simpa [Drawn.n] using this
  -- when nothing is ready all has been run
  have hend : ∀ (listed : Array Bool) (pre post : List Nat) (E : Env) (Z : St) (κ : Nat → Option Nat) (ρ : Rn) (a : Act) (w : World), listed.size = ops.size →
      Mid B d C e0 s0 ρ0 w0 a0 e' s' pre post (fun i => listed.getD i false) E Z κ ρ a w → Region.ready .any ops listed = [] → Q .normal a w := by
    intro listed pre post E Z κ ρ a w hls h hr
    have hall : ∀ i, i < d.n → listed.getD i false = true := by
      intro i
      induction i using Nat.strongRecOn with
      | _ i ihi =>
        intro hin
        cases hl : listed.getD i false with
        | true => rfl
        | false =>
          exfalso
          obtain ⟨o, ho⟩ : ∃ o, ops[i]? = some o := ⟨_, Array.getElem?_eq_getElem (by omega)⟩
          have : i ∈ Region.ready .any ops listed := (mem_ready hls).2 ⟨o, ho, hl, fun x hx => by
            rw [← hdeps i o ho] at hx
            have hb := hok.deps i hin x hx
            have hlt := hok.lt i x hin hb
            exact ihi x hlt (by omega)⟩
          rw [hr] at this; cases this
    obtain ⟨pre', post', E', Z', κ', h', hp⟩ := h.norm hok hnag
    have hpost : post' = [] := by
      rcases hp with h1 | ⟨i, l, rfl, _⟩
      · exact h1
      · exfalso
        have hord := hok.ord
        rw [h'.split] at hord
        obtain ⟨ho1, ho2⟩ := d.okOrd_app hord
        have hin : i < d.n := by simp only [okOrd, Bool.and_eq_true, decide_eq_true_eq] at ho1; exact ho1.1.1.1
        have := h'.sub i (hall i hin)
        exact ((ho2 i this).2 i (by simp)).1 rfl
    subst hpost
    have hrun := h'.run
    simp only [List.flatMap_nil, runOps, Option.some.injEq, Prod.mk.injEq] at hrun
    obtain ⟨rfl, rfl⟩ := hrun
    have hmix : d.mix (fun i => listed.getD i false) E' e0 = E' := by
      apply env_ext (by rw [mix_length]; exact h'.len.symm)
      intro t
      rw [mix_getD h'.len]
      cases hw : d.writer t with
      | none =>
        simp only [Option.any_none, Bool.false_eq_true, if_false]
        refine (h'.unwritten t (fun k hk hd => ?_)).symm
        have hord := hok.ord
        rw [h'.split] at hord
        have := (writer_some hok).2 ⟨((d.okOrd_app hord).2 k hk).1, hd⟩
        rw [hw] at this; cases this
      | some k =>
        have hk := hall k ((writer_some hok).1 hw).1
        simp only [Option.any_some, hk, if_true]
    have ht := h'.tmps
    rw [hmix] at ht
    exact hq _ _ ⟨ρ, ht, h'.sim, h'.step, h'.defers⟩
  intro fuel
  induction fuel with
  | zero =>
    intro listed pre post E Z κ ρ a w hls hleft h
    have hr : Region.ready .any ops listed = [] := by
      apply List.eq_nil_iff_forall_not_mem.2
      intro i hm
      obtain ⟨o, ho, hl, _⟩ := (mem_ready hls).1 hm
      have := left_zero (Nat.le_zero.1 hleft) i (Array.getElem?_eq_some_iff.1 ho).1
      rw [hl] at this; cases this
    exact ⟨hr, hend listed pre post E Z κ ρ a w hls h hr⟩
  | succ fuel ih =>
    intro listed pre post E Z κ ρ a w hls hleft h
    refine ⟨hend listed pre post E Z κ ρ a w hls h, fun i hm => ?_⟩
    obtain ⟨o, ho, hl, hdl⟩ := (mem_ready hls).1 hm
    have hin : i < d.n := by have := (Array.getElem?_eq_some_iff.1 ho).1; omega
    obtain ⟨pre', post', E', Z', κ', h', hp⟩ := h.norm hok hnag
    have hanc : ∀ j, d.before j i = true → listed.getD j false = true := by
      intro j hb
      rcases hok.gen i j hin hb with h1 | ⟨y, h1, h2⟩
      · rw [hdeps i o ho] at h1; exact hdl j h1
      · rw [hdeps i o ho] at h1
        exact h'.down j y (hdl y h1) h2
    have hset : (fun j => (listed.setIfInBounds i true).getD j false) = fun j => j == i || listed.getD j false := by
      funext j
      by_cases hji : j = i
      · subst hji
        simp [Array.getD_eq_getD_getElem?, show j < listed.size by omega]
      · simp [Array.getD_eq_getD_getElem?, Array.getElem?_setIfInBounds, Ne.symm hji, hji]
    have hleft' : left ops.size (listed.setIfInBounds i true) ≤ fuel := by
      have := left_set hls (by omega) hl
      omega
    have hgo : ∀ pre1 post1 E1 Z1 κ1 ρ1 a1 w1, Mid B d C e0 s0 ρ0 w0 a0 e' s' pre1 post1 (fun j => j == i || listed.getD j false) E1 Z1 κ1 ρ1 a1 w1 → wpAnyIn (fen ro) 0 P .any ops Q fuel (listed.setIfInBounds i true) a1 w1 := by
      intro pre1 post1 E1 Z1 κ1 ρ1 a1 w1 hM
      rw [← hset] at hM
      exact ih _ pre1 post1 E1 Z1 κ1 ρ1 a1 w1 (by simpa using hls) hleft' hM
    have hio := hok.inOrd i hin
    rw [h'.split, List.mem_append] at hio
    by_cases hip : i ∈ pre'
    · exact h'.take hok hnag hi hip hl hanc (fun ρ' a' w' hM => hgo _ _ _ _ _ _ _ _ hM)
    · have hipost := hio.resolve_left hip
      rcases hp with rfl | ⟨σ, l, rfl, hσ⟩
      · simp at hipost
      · rcases List.mem_cons.1 hipost with rfl | hil
        · exact h'.act hok hC hle hi hσ hanc (fun E1 Z1 ρ' a' w' hM => hgo _ _ _ _ _ _ _ _ hM)
        · exfalso
          have hord := hok.ord
          rw [h'.split] at hord
          obtain ⟨ho1, ho2⟩ := d.okOrd_app hord
          simp only [okOrd, Bool.and_eq_true, List.all_eq_true] at ho1
          have hb := (ho1.1.2 i hil).2
          simp only [hσ, Bool.not_true, Bool.false_or] at hb
          have := h'.sub σ (hanc σ hb)
          exact ((ho2 σ this).2 σ (by simp)).1 rfl

theorem draw_ok (hm : P.follows .mixedOrders = true) {ρb : Rn} {C : CallT} (hC : CallsOk P B ρb C) {ro : Option Nat} {ops : Array Oper} {iis : List II} (hi : ops.toList.mapM (compII P ops.toList) = some iis) (hok : (drawnOf ops.toList iis).ok = true)
    {e e' : Env} {s s' : St} {ρ : Rn} {a : Act} {w : World} (hle : Le ρb ρ) (hr : runOps C (drawnOf ops.toList iis).canon e s = some (e', s')) (he : VRs ρ e a.tmps.toList) (hs : Sim B ρ s w) {id : Nat} {Q : Exit → Act → World → Prop}
    (hq : ∀ a' w', After B ρ s w a e' s' a' w' → Q .normal a' w') : (Code.region id ops true).wpIn (fen ro) 0 P Q a w := by
  have hO := ok_of hok
  have hs' : Sim B ρ s { w with drawn := w.drawn + 1 } := hs.heap rfl
  have hst : Step B ρ s w ρ s { w with drawn := w.drawn + 1 } := ⟨Le.refl ρ, (Below.refl B w).drew, Nat.le_refl _, rfl, fun _ _ h => ⟨h, rfl⟩, fun _ _ h => ⟨rfl, h⟩, Nat.le_refl _⟩
  refine wpIn_region_any hm ?_
  have hnag : ∀ (j : Nat) (y : II), (drawnOf ops.toList iis).iis[j]? = some y → ∀ t q, y.op ≠ .again t q := by
    intro j y hy
    have hlen := mapM_len hi
    have hj : j < ops.toList.length := by
      have : j < iis.length := (List.getElem?_eq_some_iff.1 hy).1
      omega
    obtain ⟨x', hx', hcomp⟩ := mapM_get hi (List.getElem?_eq_getElem hj)
    have : iis[j]? = some y := hy
    rw [this] at hx'; cases hx'
    exact compOpD_again (compII_op hcomp).1
  refine draw_any (B := B) (d := drawnOf ops.toList iis) (e0 := e) (e' := e') (s0 := s) (s' := s') (ρ0 := ρ) (w0 := w) (a0 := a) hO hC hle hnag hi (fun i o ho => ?_) hq ops.size _ [] (drawnOf ops.toList iis).ord e s (fun _ => none) ρ a _ (by simp) ?_ ?_
  · show (ops.toList.map depsOf).getD i [] = depsOf o
    have : ops.toList[i]? = some o := by simpa using ho
    simp [List.getD, this]
  · unfold left
    exact Nat.le_trans (List.length_filter_le _ _) (by simp)
  · have hfalse : ∀ i, (Array.replicate ops.size false).getD i false = false := by
      intro i
      by_cases h : i < ops.size <;> simp [Array.getD_eq_getD_getElem?, Array.getElem?_replicate, h]
    refine ⟨rfl, hr, rfl, fun _ _ => rfl, fun i h => ?_, fun i h => by simp at h, fun i j h => ?_, ?_, hs', hst, rfl, fun i h => by simp at h, fun i j k h => by simp at h, fun i k h => by simp at h⟩
    · simp only [hfalse] at h; cases h
    · simp only [hfalse] at h; cases h
    · have : (drawnOf ops.toList iis).mix (fun i => (Array.replicate ops.size false).getD i false) e e = e := by
        apply env_ext (by simp [mix_length])
        intro t
        rw [mix_getD rfl]
        simp
      rw [this]; exact he
end
end Go.IM
