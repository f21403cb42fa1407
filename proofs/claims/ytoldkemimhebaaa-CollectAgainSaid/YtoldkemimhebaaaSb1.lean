/- Texts Im10, Im11, Im12, Im14, Im15, Im16. -/
import Derived.Test.YtoldkemimhebaaaSb0

set_option linter.unusedSimpArgs false
set_option linter.unusedVariables false
namespace Go.IM
open Go.RowKit (Below)
section congr
variable {X Y : Env} {s : St}
theorem fillI_congr : ∀ (ps : List (Nat × Nat × Arg)) (cells : List V), (∀ x ∈ ps.map fun p => p.2.2, ev X x = ev Y x) → fillI X cells ps = fillI Y cells ps
  | [], _, _ => rfl
  | (o, n, x) :: ps, cells, h => by
    have h0 : ev X x = ev Y x := h x (by simp)
    simp only [fillI, h0]
    split
    · exact fillI_congr ps _ fun y hy => h y (by simp at hy ⊢; exact .inr hy)
    · rfl
theorem map_congr' {l : List Arg} (h : ∀ x ∈ l, ev X x = ev Y x) : l.map (ev X) = l.map (ev Y) := List.map_congr_left h
theorem omap_congr {l : Option Arg} (h : ∀ x ∈ l.toList, ev X x = ev Y x) : l.map (ev X) = l.map (ev Y) := by
  cases l with
  | none => rfl
  | some x => simp [h x (by simp)]
theorem evalP_congr (op : IOp) (h : ∀ x ∈ op.args, ev X x = ev Y x) : evalP op X = evalP op Y := by
  cases op with
  | build z ps => simp only [IOp.args] at h; simp only [evalP, fillI_congr ps z h]
  | mkFunc f p c =>
    simp only [IOp.args, List.mem_append] at h
    simp only [evalP, map_congr' (fun x hx => h x (.inl hx)), map_congr' (fun x hx => h x (.inr hx))]
  | slice n x a b c =>
    simp only [IOp.args, List.mem_cons, List.mem_append] at h
    simp only [evalP, h x (.inl rfl), omap_congr (fun y hy => h y (.inr (.inl (.inl hy)))), omap_congr (fun y hy => h y (.inr (.inl (.inr hy)))), omap_congr (fun y hy => h y (.inr (.inr hy)))]
  | sliceStr x a b =>
    simp only [IOp.args, List.mem_cons, List.mem_append] at h
    simp only [evalP, h x (.inl rfl), omap_congr (fun y hy => h y (.inr (.inl hy))), omap_congr (fun y hy => h y (.inr (.inr hy)))]
  | _ => simp [IOp.args] at h <;> simp [evalP, h]
theorem evalLook_congr (op : IOp) (h : ∀ x ∈ op.args, ev X x = ev Y x) : evalLook op X s = evalLook op Y s := by
  cases op <;> first | rfl | (simp [IOp.args] at h; simp [evalLook, h])
theorem evalA_congr (op : IOp) (h : ∀ x ∈ op.args, ev X x = ev Y x) : evalA op X = evalA op Y := by
  cases op with
  | buildSlice n z ps => simp only [IOp.args] at h; simp only [evalA, fillI_congr ps z h]
  | _ => first | rfl | (simp [IOp.args] at h; simp [evalA, h])
theorem evalS_congr (op : IOp) (h : ∀ x ∈ op.args, ev X x = ev Y x) : evalS op X s = evalS op Y s := by
  cases op <;> first | rfl | (simp [IOp.args] at h; simp [evalS, h])
theorem evalL_congr (op : IOp) (h : ∀ x ∈ op.args, ev X x = ev Y x) : evalL op X s = evalL op Y s := by
  cases op with
  | again t q =>
    simp only [IOp.args, List.mem_cons] at h
    simp only [evalL, h _ (.inl rfl), evalLook_congr q (fun x hx => h x (.inr hx))]
  | _ => exact evalLook_congr (s := s) _ h
theorem execI_congr {C : CallT} (op : IOp) (h : ∀ x ∈ op.args, ev X x = ev Y x) : execI C op X s = execI C op Y s := by
  cases op with
  | call f l => simp only [IOp.args] at h; simp only [execI, map_congr' h]
  | callv f l =>
    simp only [IOp.args, List.mem_cons] at h
    simp only [execI, h _ (.inl rfl), map_congr' (fun x hx => h x (.inr hx))]
  | _ => simp only [execI, evalOp, evalP_congr _ h, evalL_congr _ h, evalA_congr _ h, evalS_congr _ h]
theorem reads_args {i : II} (h : ∀ t ∈ i.reads, X.getD t .any = Y.getD t .any) : ∀ x ∈ i.op.args, ev X x = ev Y x := by
  intro x hx
  cases x with
  | c v => rfl
  | t t => exact h t (by
      unfold II.reads
      exact List.mem_append_left _ (List.mem_filterMap.2 ⟨_, hx, rfl⟩))
theorem reads_guard {i : II} (h : ∀ t ∈ i.reads, X.getD t .any = Y.getD t .any) : wantedI X i.guard = wantedI Y i.guard := by
  cases hg : i.guard with
  | none => rfl
  | some g =>
    obtain ⟨t, b⟩ := g
    have := h t (by unfold II.reads; rw [hg]; exact List.mem_append_right _ (by simp))
    simp only [wantedI, this]
end congr
mutual
theorem beqV_eq : ∀ (x y : V), beqV x y = true → x = y
  | .bool _, y, h => by cases y <;> simp [beqV] at h; subst h; rfl
  | .int _ _, y, h => by cases y <;> simp [beqV] at h; obtain ⟨rfl, rfl⟩ := h; rfl
  | .str a, y, h => by
    cases y with
    | str b =>
      obtain ⟨a⟩ := a; obtain ⟨b⟩ := b
      have h' : (a == b) = true := h
      rw [eq_of_beq h']
    | _ => simp [beqV] at h
  | .ptr _, y, h => by cases y <;> simp [beqV] at h; subst h; rfl
  | .slice _ _ _, y, h => by cases y <;> simp [beqV] at h; obtain ⟨⟨rfl, rfl⟩, rfl⟩ := h; rfl
  | .map _, y, h => by cases y <;> simp [beqV] at h; subst h; rfl
  | .func _ p c, y, h => by
    cases y with
    | func f' p' c' =>
      simp only [beqV, Bool.and_eq_true, beq_iff_eq] at h
      obtain ⟨⟨rfl, h1⟩, h2⟩ := h
      rw [beqVs_eq p p' h1, beqVs_eq c c' h2]
    | _ => simp [beqV] at h
  | .nilFunc, y, h => by cases y <;> simp [beqV] at h; rfl
  | .iface _ x, y, h => by
    cases y with
    | iface t' y =>
      simp only [beqV, Bool.and_eq_true, beq_iff_eq] at h
      obtain ⟨rfl, h1⟩ := h
      rw [beqV_eq x y h1]
    | _ => simp [beqV] at h
  | .nilIface, y, h => by cases y <;> simp [beqV] at h; rfl
  | .agg a, y, h => by
    cases y with
    | agg b => simp only [beqV] at h; rw [beqVs_eq a b h]
    | _ => simp [beqV] at h
  | .tuple a, y, h => by
    cases y with
    | tuple b => simp only [beqV] at h; rw [beqVs_eq a b h]
    | _ => simp [beqV] at h
  | .any, y, h => by cases y <;> simp [beqV] at h
  | .junk _, y, h => by cases y <;> simp [beqV] at h
theorem beqVs_eq : ∀ (x y : List V), beqVs x y = true → x = y
  | [], y, h => by cases y <;> simp [beqVs] at h; rfl
  | a :: x, y, h => by
    cases y with
    | nil => simp [beqVs] at h
    | cons b y =>
      simp only [beqVs, Bool.and_eq_true] at h
      rw [beqV_eq a b h.1, beqVs_eq x y h.2]
end

section
variable {P : Program} {B : Nat} {ρ : Rn} {s : St} {w : World} {a : Act} {e : Env}
theorem Sim.ghost (hs : Sim B ρ s w) (o : O) : Sim B ρ (s.alloc o) w := by
  have hne : ∀ {k p}, ρ k = some p → k ≠ s.next := fun h e => by have := (hs.dom _ _ h).1; omega
  refine ⟨hs.base, hs.old, fun k p h => ?_, fun k p o h1 h2 => ?_, fun k1 k2 p1 p2 h1 h2 h3 h4 he => ?_, fun j hj => ?_⟩
  · obtain ⟨a, b, c⟩ := hs.dom k p h; exact ⟨by simp only [St.alloc]; omega, b, c⟩
  · simp only [St.alloc, if_neg (hne h1)] at h2; exact hs.obj k p o h1 h2
  · simp only [St.alloc, if_neg (hne h1)] at h3
    simp only [St.alloc, if_neg (hne h2)] at h4
    exact hs.inj k1 k2 p1 p2 h1 h2 h3 h4 he
  · simp only [St.alloc] at hj ⊢
    rw [if_neg (by omega)]
    exact hs.fresh j (by omega)
theorem Step.ghost' (B : Nat) (ρ : Rn) (s : St) (w : World) (o : O) : Step B ρ s w ρ (s.alloc o) w :=
  ⟨Le.refl ρ, Below.refl B w, by simp [St.alloc], rfl, fun k hk hn => ⟨hn, by simp only [St.alloc]; rw [if_neg (by omega)]⟩, fun _ _ h => ⟨rfl, h⟩, Nat.le_refl _⟩
theorem Sim.realize (hs : Sim B ρ s w) {k : Nat} {o : O} {ob : Obj} (hk : ρ k = none) (hkn : k < s.next) (ho : s.new k = some o) {p : Pl} (hp : p.blk = w.heap.size) (hob : ObjR ρ o p (some ob)) :
    Sim B (ρ.put k p) s (w.alloc ob) := by
  have hle := Rn.put_le (p := p) hk
  have hsz : (w.alloc ob).heap.size = w.heap.size + 1 := by show (w.heap.push ob).size = _; simp
  have hold : ∀ j, j < w.heap.size → (w.alloc ob).heap[j]? = w.heap[j]? := fun j hj => Below.heap_alloc w ob j hj
  have hbase := hs.base
  refine ⟨by omega, fun b o h => ?_, fun j q h => ?_, fun j q o1 h1 h2 => ?_, fun k1 k2 p1 p2 h1 h2 h3 h4 he => ?_, hs.fresh⟩
  · obtain ⟨h1, h2⟩ := hs.old b o h
    exact ⟨h1, by rw [hold b (by omega)]; exact h2⟩
  · unfold Rn.put at h
    split at h
    · cases h; rename_i e; subst e; exact ⟨hkn, by omega, by omega⟩
    · obtain ⟨a, b, c⟩ := hs.dom j q h
      exact ⟨a, b, by omega⟩
  · unfold Rn.put at h1
    split at h1
    · rename_i e; subst e
      cases h1
      rw [ho] at h2; cases h2
      rw [hp, heap_alloc_new]
      exact ObjR_mono hle hob
    · rw [hold _ (hs.dom j q h1).2.2]
      exact ObjR_mono hle (hs.obj j q o1 h1 h2)
  · unfold Rn.put at h1 h2
    split at h1 <;> split at h2
    · rename_i a b; rw [a, b]
    · cases h1; have := (hs.dom _ _ h2).2.2; omega
    · cases h2; have := (hs.dom _ _ h1).2.2; omega
    · exact hs.inj k1 k2 p1 p2 h1 h2 h3 h4 he
theorem row_alloc {i : Id} {r : List V × Option Nat} (hf : ∀ k, s.next ≤ k → s.new k = none) (h : s.row i = some r) (o : O) : (s.alloc o).row i = some r := by
  unfold St.row St.get at h ⊢
  cases i with
  | old b => exact h
  | new k =>
    by_cases hk : k = s.next
    · subst hk; simp [hf _ (Nat.le_refl _)] at h
    · simpa [St.alloc, hk] using h
theorem get_alloc {i : Id} {x : O} (hf : ∀ k, s.next ≤ k → s.new k = none) (h : s.get i = some x) (o : O) : (s.alloc o).get i = some x := by
  unfold St.get at h ⊢
  cases i with
  | old b => exact h
  | new k =>
    by_cases hk : k = s.next
    · subst hk; simp [hf _ (Nat.le_refl _)] at h
    · simpa [St.alloc, hk] using h
theorem evalLook_alloc {op : IOp} {v : V} (hf : ∀ k, s.next ≤ k → s.new k = none) (h : evalLook op e s = some v) (o : O) : evalLook op e (s.alloc o) = some v := by
  unfold evalLook at h ⊢
  cases op <;> simp only at h ⊢ <;> first | (cases h; done) | skip
  · split at h
    · simp only [Option.bind_eq_some_iff] at h ⊢
      obtain ⟨l, h1, h2⟩ := h
      refine ⟨l, ?_, h2⟩
      unfold readCells at h1 ⊢
      cases hr : s.row (‹Ad›).id with
      | none => simp [hr] at h1
      | some r => rw [row_alloc hf hr o]; simpa [hr] using h1
    · cases h
  · unfold lookupI at h ⊢
    simp only [Option.bind_eq_some_iff] at h ⊢
    obtain ⟨es, h1, h2⟩ := h
    refine ⟨es, ?_, h2⟩
    split at h1 <;> first | exact h1 | skip
    · rename_i id hid
      cases hg : s.get id with
      | none => simp [hg] at h1
      | some x => rw [get_alloc hf hg o]; simpa [hg] using h1
  · unfold lenMapI at h ⊢
    split at h <;> first | exact h | skip
    · rename_i id hid
      cases hg : s.get id with
      | none => simp [hg] at h
      | some x => simp only [get_alloc hf hg o]; simpa [hg] using h
end
namespace Drawn
variable (d : Drawn)
def writer (t : Nat) : Option Nat := (List.range d.n).find? fun i => d.dst i == some t
structure Ok (d : Drawn) : Prop where
  deps : ∀ i, i < d.n → ∀ x ∈ d.deps.getD i [], d.before x i = true
  lt : ∀ i x, i < d.n → d.before x i = true → x < i
  trans : ∀ i x y, i < d.n → d.before x i = true → d.before y x = true → d.before y i = true
  gen : ∀ i x, i < d.n → d.before x i = true → x ∈ d.deps.getD i [] ∨ ∃ y ∈ d.deps.getD i [], d.before x y = true
  inOrd : ∀ i, i < d.n → i ∈ d.ord
  pair : ∀ i j, i < d.n → j < d.n → d.okPair i j = true
  ord : d.okOrd d.ord = true
theorem ok_of {d : Drawn} (h : d.ok = true) : Ok d := by
  unfold ok at h
  simp only [Bool.and_eq_true, List.all_eq_true, List.mem_range] at h
  obtain ⟨h, ho⟩ := h
  refine ⟨fun i hi x hx => (h i hi).1.1.1 x hx, fun i x hi hx => ?_, fun i x y hi hx hy => ?_, fun i x hi hx => ?_, fun i hi => ?_, fun i j hi hj => (h i hi).2 j hj, ho⟩
  · have hm : x ∈ d.an.getD i [] := by simpa [before] using hx
    exact of_decide_eq_true ((h i hi).1.1.2 x hm).1.1
  · have hm : x ∈ d.an.getD i [] := by simpa [before] using hx
    have hm' : y ∈ d.an.getD x [] := by simpa [before] using hy
    exact ((h i hi).1.1.2 x hm).1.2 y hm'
  · have hm : x ∈ d.an.getD i [] := by simpa [before] using hx
    have := ((h i hi).1.1.2 x hm).2
    simp only [Bool.or_eq_true, List.contains_iff_mem, List.any_eq_true] at this
    exact this
  · simpa using (h i hi).1.2
theorem okOrd_app {pre l : List Nat} (h : d.okOrd (pre ++ l) = true) : d.okOrd l = true ∧ ∀ x ∈ pre, x < d.n ∧ ∀ j ∈ l, x ≠ j ∧ d.before j x = false ∧ (d.acts x = true → d.before x j = true) := by
  induction pre with
  | nil => exact ⟨h, by simp⟩
  | cons x pre ih =>
    simp only [List.cons_append, okOrd, Bool.and_eq_true, List.all_eq_true, decide_eq_true_eq] at h
    obtain ⟨⟨⟨h1, h2⟩, h3⟩, h4⟩ := h
    obtain ⟨i1, i2⟩ := ih h4
    refine ⟨i1, fun y hy => ?_⟩
    rcases List.mem_cons.1 hy with rfl | hy
    · refine ⟨h1, fun j hj => ?_⟩
      have hj' : j ∈ pre ++ l := List.mem_append_right _ hj
      have := h3 j hj'
      refine ⟨?_, by simpa using this.1, fun ha => by simpa [ha] using this.2⟩
      rintro rfl
      simp at h2
      exact h2.2 hj
    · exact i2 y hy
variable {d}
theorem writer_some {t j : Nat} (hok : Ok d) : d.writer t = some j ↔ j < d.n ∧ d.dst j = some t := by
  constructor
  · intro h
    have h1 := List.find?_some h
    have h2 := List.mem_of_find?_eq_some h
    exact ⟨by simpa using h2, by simpa using h1⟩
  · rintro ⟨h1, h2⟩
    cases hw : d.writer t with
    | none =>
      unfold writer at hw
      rw [List.find?_eq_none] at hw
      exact absurd (by simpa using h2) (hw j (by simpa using h1))
    | some i =>
      have h3 := List.find?_some hw
      have h4 := List.mem_of_find?_eq_some hw
      have hi : i < d.n := by simpa using h4
      have hd : d.dst i = some t := by simpa using h3
      have := hok.pair i j hi h1
      unfold okPair at this
      simp only [hd, h2, Bool.and_eq_true] at this
      have h5 := this.2.1
      simp at h5
      rw [h5]
theorem reads_order {i j t : Nat} (hok : Ok d) (hi : i < d.n) (hj : j < d.n) (hd : d.dst i = some t) (hr : d.reads j t = true) :
    d.before i j = true ∨ (d.before j i = true ∧ ∀ x, x < d.n → d.open_ j x = false) := by
  have := hok.pair i j hi hj
  unfold okPair at this
  simp only [hd, hr, Bool.and_eq_true, Bool.not_true, Bool.false_or, Bool.or_eq_true] at this
  rcases this.2.2 with h | h
  · exact .inl h
  · refine .inr ⟨h.1, fun x hx => ?_⟩
    have h2 := h.2
    simp only [Bool.not_eq_true', List.any_eq_false, List.mem_range] at h2
    simpa using h2 x hx
def mix (d : Drawn) (D : Nat → Bool) (E e0 : Env) : Env := (List.range e0.length).map fun t => if (d.writer t).any D then E.getD t .any else e0.getD t .any
def pat (d : Drawn) (i : Nat) (E e0 : Env) (t : Nat) : V := if (d.writer t).any (fun j => d.before j i) then E.getD t .any else e0.getD t .any
theorem mix_getD {D : Nat → Bool} {E e0 : Env} (hl : E.length = e0.length) (t : Nat) : (d.mix D E e0).getD t .any = if (d.writer t).any D then E.getD t .any else e0.getD t .any := by
  by_cases ht : t < e0.length
  · simp [mix, List.getD, ht]
  · simp [mix, List.getD, ht, hl]
theorem mix_length {D : Nat → Bool} {E e0 : Env} : (d.mix D E e0).length = e0.length := by simp [mix]
theorem env_ext {X Y : Env} (hl : X.length = Y.length) (h : ∀ t, X.getD t .any = Y.getD t .any) : X = Y := by
  apply List.ext_getElem? 
  intro t
  by_cases ht : t < X.length
  · have := h t
    simp only [List.getD, List.getElem?_eq_getElem ht, List.getElem?_eq_getElem (show t < Y.length by omega), Option.getD_some] at this ⊢
    rw [this]
  · rw [List.getElem?_eq_none (by omega), List.getElem?_eq_none (by omega)]
theorem put_getD (X : Env) (dst : Option Nat) (v : V) (t : Nat) : (put X dst v).getD t .any = if dst = some t ∧ t < X.length then v else X.getD t .any := by
  cases dst with
  | none => simp [put]
  | some u =>
    simp only [put, List.getD, List.getElem?_set, Option.some.injEq]
    by_cases hu : u = t
    · subst hu
      by_cases hl : u < X.length
      · simp [hl]
      · simp [hl]
    · simp [hu]
theorem put_length (X : Env) (dst : Option Nat) (v : V) : (put X dst v).length = X.length := by cases dst <;> simp [put]
def Fact (d : Drawn) (e0 : Env) (s0 : St) (i : Nat) (E : Env) (Z : St) (ρ : Rn) (κ : Nat → Option Nat) : Prop :=
  ∃ x, d.iis[i]? = some x ∧ ∀ X : Env, (∀ t ∈ x.reads, X.getD t .any = d.pat i E e0 t) →
    (wantedI X x.guard = some false ∧ ∀ t, x.dst = some t → t < E.length → E.getD t .any = skipV) ∨
    (wantedI X x.guard = some true ∧ ∃ v, (∀ t, x.dst = some t → t < E.length → E.getD t .any = v) ∧
      ((x.op.kind = .p ∧ evalP x.op X = some v) ∨ (x.op.kind = .l ∧ evalL x.op X Z = some v) ∨
       (x.op.kind = .a ∧ ∃ o f k, evalA x.op X = some (o, f) ∧ κ i = some k ∧ v = f k ∧ Z.new k = some o ∧ ρ k = none ∧ k < Z.next ∧ s0.next ≤ k)))
end Drawn
structure Mid (B : Nat) (d : Drawn) (C : CallT) (e0 : Env) (s0 : St) (ρ0 : Rn) (w0 : World) (a0 : Act) (e' : Env) (s' : St) (pre post : List Nat) (D : Nat → Bool) (E : Env) (Z : St) (κ : Nat → Option Nat) (ρ : Rn) (a : Act) (w : World) : Prop where
  split : d.ord = pre ++ post
  run : runOps C (post.flatMap d.items) E Z = some (e', s')
  len : E.length = e0.length
  unwritten : ∀ t, (∀ i ∈ pre, d.dst i ≠ some t) → E.getD t .any = e0.getD t .any
  sub : ∀ i, D i = true → i ∈ pre
  acts : ∀ i ∈ pre, d.acts i = true → D i = true
  down : ∀ i j, D j = true → d.before i j = true → D i = true
  tmps : VRs ρ (d.mix D E e0) a.tmps.toList
  sim : Sim B ρ Z w
  step : Step B ρ0 s0 w0 ρ Z w
  defers : a.defers = a0.defers
  fact : ∀ i ∈ pre, D i = false → d.Fact e0 s0 i E Z ρ κ
  kinj : ∀ i j k, i ∈ pre → j ∈ pre → D i = false → D j = false → κ i = some k → κ j = some k → i = j
  kbound : ∀ i k, i ∈ pre → D i = false → κ i = some k → k < Z.next
section
variable {P : Program} {B : Nat} {d : Drawn} {C : CallT} {e0 e' : Env} {s0 s' : St} {ρ0 : Rn} {w0 : World} {a0 : Act}
open Drawn
theorem dst_of {i : Nat} {x : II} (h : d.iis[i]? = some x) : d.dst i = x.dst := by simp [Drawn.dst, h]
theorem acts_of {i : Nat} {x : II} (h : d.iis[i]? = some x) : d.acts i = decide (x.op.kind = .s) := by simp [Drawn.acts, h, IOp.acts]
theorem reads_of {i t : Nat} {x : II} (h : d.iis[i]? = some x) (ht : t ∈ x.reads) : d.reads i t = true := by simp [Drawn.reads, h, ht]
theorem Mid.advance (hok : Ok d) (hnag : ∀ (j : Nat) (y : II), d.iis[j]? = some y → ∀ t q, y.op ≠ .again t q) {i : Nat} {pre post : List Nat} {D : Nat → Bool} {E : Env} {Z : St} {κ : Nat → Option Nat} {ρ : Rn} {a : Act} {w : World}
    (h : Mid B d C e0 s0 ρ0 w0 a0 e' s' pre (i :: post) D E Z κ ρ a w) (hi : d.acts i = false) :
    ∃ E1 Z1 κ1, Mid B d C e0 s0 ρ0 w0 a0 e' s' (pre ++ [i]) post D E1 Z1 κ1 ρ a w := by
  have hord := hok.ord
  rw [h.split] at hord
  obtain ⟨ho1, ho2⟩ := d.okOrd_app hord
  have hin : i < d.n := by simp only [okOrd, Bool.and_eq_true, decide_eq_true_eq] at ho1; exact ho1.1.1.1
  obtain ⟨x, hx⟩ : ∃ x, d.iis[i]? = some x := ⟨_, List.getElem?_eq_getElem hin⟩
  have hDi : D i = false := by
    cases hD : D i with
    | false => rfl
    | true => exact absurd rfl ((ho2 i (h.sub i hD)).2 i (by simp)).1
  have hk : x.op.kind ≠ .s := by rw [acts_of hx] at hi; simpa using hi
  have hitems : d.items i = [x] := by simp [Drawn.items, hx, hi]
  have hrun := h.run
  simp only [List.flatMap_cons, hitems, List.singleton_append, runOps, Option.bind_eq_some_iff] at hrun
  obtain ⟨⟨E1, Z1⟩, hst, hrun⟩ := hrun
  have hpat : ∀ t ∈ x.reads, E.getD t .any = d.pat i E e0 t := by
    intro t ht
    unfold pat
    cases hw : d.writer t with
    | none => simp only [Option.any_none, Bool.false_eq_true, if_false]; exact h.unwritten t (fun j hj hd => by
        have hjn := (ho2 j hj).1
        have := (writer_some hok).2 ⟨hjn, hd⟩
        rw [hw] at this; cases this)
    | some j =>
      obtain ⟨hjn, hd⟩ := (writer_some hok).1 hw
      simp only [Option.any_some]
      split
      · rfl
      · rename_i hb
        rcases reads_order hok hjn hin hd (reads_of hx ht) with h1 | ⟨h1, _⟩
        · exact absurd h1 hb
        · refine h.unwritten t (fun k hk hdk => ?_)
          have hkj : k = j := by
            have h3 := (writer_some hok).2 ⟨(ho2 k hk).1, hdk⟩
            rw [hw] at h3; exact (Option.some.inj h3).symm
          subst hkj
          have := ((ho2 k hk).2 i (by simp)).2.1
          rw [h1] at this; cases this
  have hE : ∀ (E1 : Env), (∀ t, x.dst ≠ some t → E1.getD t .any = E.getD t .any) → ∀ j ∈ pre, ∀ y, d.iis[j]? = some y → ∀ X : Env, (∀ t ∈ y.reads, X.getD t .any = d.pat j E1 e0 t) → ∀ t ∈ y.reads, X.getD t .any = d.pat j E e0 t := by
    intro E1 hE1 j hj y hy X hX t ht
    rw [hX t ht]
    unfold pat
    cases hw : d.writer t with
    | none => rfl
    | some k =>
      obtain ⟨hkn, hd⟩ := (writer_some hok).1 hw
      simp only [Option.any_some]
      split
      · rename_i hb
        refine hE1 t (fun he => ?_)
        have hik : i = k := by
          have h3 := (writer_some hok).2 ⟨hin, (dst_of hx).trans he⟩
          rw [hw] at h3; exact (Option.some.inj h3).symm
        subst hik
        have := ((ho2 j hj).2 i (by simp)).2.1
        rw [hb] at this; cases this
      · rfl
  have hdst : ∀ (E1 : Env), (∀ t, x.dst ≠ some t → E1.getD t .any = E.getD t .any) → ∀ j ∈ pre, ∀ y, d.iis[j]? = some y → ∀ t, y.dst = some t → E1.getD t .any = E.getD t .any := by
    intro E1 hE1 j hj y hy t ht
    refine hE1 t (fun he => ?_)
    have h1 := (writer_some hok).2 ⟨hin, (dst_of hx).trans he⟩
    have h2 := (writer_some hok).2 ⟨(ho2 j hj).1, (dst_of hy).trans ht⟩
    rw [h1] at h2
    exact ((ho2 j hj).2 i (by simp)).1 (Option.some.inj h2).symm
  have mkMid : ∀ (v : V) (Z1 : St) (κ1 : Nat → Option Nat), E1 = put E x.dst v → runOps C (post.flatMap d.items) E1 Z1 = some (e', s') → Sim B ρ Z1 w → Step B ρ0 s0 w0 ρ Z1 w →
      (∀ j ∈ pre, κ1 j = κ j) → (∀ op X v, evalL op X Z = some v → (∀ t q, op ≠ .again t q) → evalL op X Z1 = some v) → (∀ k o, Z.new k = some o → Z1.new k = some o) → Z.next ≤ Z1.next →
      d.Fact e0 s0 i E1 Z1 ρ κ1 → (∀ k, κ1 i = some k → Z.next ≤ k ∧ k < Z1.next) →
      Mid B d C e0 s0 ρ0 w0 a0 e' s' (pre ++ [i]) post D E1 Z1 κ1 ρ a w := by
    intro v Z1 κ1 hE1 hrun1 hsim1 hstep1 hκ hL hnew hnext hfact hkne
    have hEo : ∀ t, x.dst ≠ some t → E1.getD t .any = E.getD t .any := by
      intro t ht; rw [hE1, put_getD]; simp [ht]
    refine ⟨by rw [h.split]; simp, hrun1, by rw [hE1, put_length]; exact h.len, fun t ht => ?_, fun j hj => List.mem_append_left _ (h.sub j hj), fun j hj ha => ?_, h.down, ?_, hsim1, hstep1, h.defers, fun j hj hD => ?_, fun j k q hj hk hDj hDk hja hka => ?_, fun j k hj hDj hja => ?_⟩
    · rw [hEo t (fun he => ht i (by simp) ((dst_of hx).trans he))]
      exact h.unwritten t (fun j hj => ht j (List.mem_append_left _ hj))
    · rcases List.mem_append.1 hj with hj | hj
      · exact h.acts j hj ha
      · simp at hj; subst hj; rw [hi] at ha; cases ha
    · have : d.mix D E1 e0 = d.mix D E e0 := by
        apply env_ext (by simp [mix_length])
        intro t
        rw [mix_getD (by rw [hE1, put_length]; exact h.len), mix_getD h.len]
        cases hw : d.writer t with
        | none => rfl
        | some j =>
          simp only [Option.any_some]
          split
          · rename_i hDj
            refine hEo t (fun he => ?_)
            have h3 := (writer_some hok).2 ⟨hin, (dst_of hx).trans he⟩
            rw [hw] at h3
            have := Option.some.inj h3
            subst this
            rw [hDi] at hDj; cases hDj
          · rfl
      rw [this]; exact h.tmps
    · rcases List.mem_append.1 hj with hj | hj
      · obtain ⟨y, hy, hf⟩ := h.fact j hj hD
        refine ⟨y, hy, fun X hX => ?_⟩
        have hX' := hE E1 hEo j hj y hy X hX
        have hd' := hdst E1 hEo j hj y hy
        rcases hf X hX' with ⟨h1, h2⟩ | ⟨h1, v', h2, h3⟩
        · exact .inl ⟨h1, fun t ht htl => by rw [hd' t ht]; exact h2 t ht (by rw [hE1, put_length] at htl; exact htl)⟩
        · refine .inr ⟨h1, v', fun t ht htl => by rw [hd' t ht]; exact h2 t ht (by rw [hE1, put_length] at htl; exact htl), ?_⟩
          rcases h3 with h3 | ⟨h3, h4⟩ | ⟨h3, o, f, k, h4, h5, h6, h7, h8, h9, h10⟩
          · exact .inl h3
          · exact .inr (.inl ⟨h3, hL _ _ _ h4 (hnag j y hy)⟩)
          · exact .inr (.inr ⟨h3, o, f, k, h4, by rw [hκ j hj]; exact h5, h6, hnew _ _ h7, h8, by omega, h10⟩)
      · simp at hj; subst hj; exact hfact
    · rcases List.mem_append.1 hj with hj1 | hj1 <;> rcases List.mem_append.1 hk with hk1 | hk1
      · rw [hκ j hj1] at hja; rw [hκ k hk1] at hka
        exact h.kinj j k q hj1 hk1 hDj hDk hja hka
      · have hki : k = i := by simpa using hk1
        rw [hκ j hj1] at hja
        rw [hki] at hka
        have h1 := h.kbound j q hj1 hDj hja
        have h2 := (hkne q hka).1
        omega
      · have hki : j = i := by simpa using hj1
        rw [hκ k hk1] at hka
        rw [hki] at hja
        have h1 := h.kbound k q hk1 hDk hka
        have h2 := (hkne q hja).1
        omega
      · simp at hj1 hk1; rw [hj1, hk1]
    · rcases List.mem_append.1 hj with hj1 | hj1
      · rw [hκ j hj1] at hja
        have := h.kbound j k hj1 hDj hja
        omega
      · have hki : j = i := by simpa using hj1
        rw [hki] at hja
        exact (hkne k hja).2
  have hself : ∀ (v : V), ∀ X : Env, (∀ t ∈ x.reads, X.getD t .any = d.pat i (put E x.dst v) e0 t) → ∀ t ∈ x.reads, X.getD t .any = E.getD t .any := by
    intro v X hX t ht
    rw [hX t ht, hpat t ht]
    unfold pat
    cases hw : d.writer t with
    | none => rfl
    | some j =>
      simp only [Option.any_some]
      split
      · rename_i hb
        rw [put_getD, if_neg]
        rintro ⟨he, _⟩
        have h3 := (writer_some hok).2 ⟨hin, (dst_of hx).trans he⟩
        rw [hw] at h3
        have h4 := Option.some.inj h3
        subst h4
        have := hok.lt _ _ hin hb
        omega
      · rfl
  have hputd : ∀ (v : V) t, x.dst = some t → t < (put E x.dst v).length → (put E x.dst v).getD t .any = v := by
    intro v t ht hl
    rw [put_getD, if_pos ⟨ht, by rwa [put_length] at hl⟩]
  let κ0 : Nat → Option Nat := fun j => if j = i then none else κ j
  have hκ0 : ∀ j ∈ pre, κ0 j = κ j := by
    intro j hj
    have : j ≠ i := ((ho2 j hj).2 i (by simp)).1
    simp [κ0, this]
  simp only at hrun
  unfold stepI at hst
  split at hst
  · rename_i hw
    simp only [Option.map_eq_some_iff, Prod.mk.injEq] at hst
    obtain ⟨⟨v, Z2⟩, hev, hE1, rfl⟩ := hst
    have hev' : evalOp x.op E Z = some (v, Z2) := by
      unfold execI at hev
      split at hev
      · rename_i he; rw [he] at hk; simp [IOp.kind] at hk
      · rename_i he; rw [he] at hk; simp [IOp.kind] at hk
      · exact hev
    have hnx := hnag i x hx
    unfold evalOp at hev'
    split at hev'
    · rename_i hkp
      simp only [Option.map_eq_some_iff, Prod.mk.injEq] at hev'
      obtain ⟨v0, hv, rfl, rfl⟩ := hev'
      refine ⟨E1, Z, κ0, mkMid v0 Z κ0 hE1.symm hrun h.sim h.step hκ0 (fun _ _ _ he _ => he) (fun _ _ he => he) (Nat.le_refl _) ⟨x, hx, fun X hX => ?_⟩ (fun k hk => by simp [κ0] at hk)⟩
      rw [← hE1] at hX
      have hXE := hself v0 X hX
      refine .inr ⟨by rw [reads_guard hXE]; exact hw, v0, fun t ht hl => by rw [← hE1] at hl ⊢; exact hputd v0 t ht hl, .inl ⟨hkp, by rw [evalP_congr _ (reads_args hXE)]; exact hv⟩⟩
    · rename_i hkp
      simp only [Option.map_eq_some_iff, Prod.mk.injEq] at hev'
      obtain ⟨v0, hv, rfl, rfl⟩ := hev'
      refine ⟨E1, Z, κ0, mkMid v0 Z κ0 hE1.symm hrun h.sim h.step hκ0 (fun _ _ _ he _ => he) (fun _ _ he => he) (Nat.le_refl _) ⟨x, hx, fun X hX => ?_⟩ (fun k hk => by simp [κ0] at hk)⟩
      rw [← hE1] at hX
      have hXE := hself v0 X hX
      refine .inr ⟨by rw [reads_guard hXE]; exact hw, v0, fun t ht hl => by rw [← hE1] at hl ⊢; exact hputd v0 t ht hl, .inr (.inl ⟨hkp, by rw [evalL_congr _ (reads_args hXE)]; exact hv⟩)⟩
    · rename_i hkp
      simp only [Option.map_eq_some_iff, Prod.mk.injEq] at hev'
      obtain ⟨⟨o, f⟩, hv, rfl, rfl⟩ := hev'
      have hfr := h.sim.fresh
      have hold : ∀ k o', Z.new k = some o' → (Z.alloc o).new k = some o' := by
        intro k o' hk'
        simp only [St.alloc]
        rw [if_neg]
        · exact hk'
        · rintro rfl; rw [hfr _ (Nat.le_refl _)] at hk'; cases hk'
      let κ1 : Nat → Option Nat := fun j => if j = i then some Z.next else κ j
      have hκ1 : ∀ j ∈ pre, κ1 j = κ j := by
        intro j hj
        have : j ≠ i := ((ho2 j hj).2 i (by simp)).1
        simp [κ1, this]
      refine ⟨E1, Z.alloc o, κ1, mkMid (f Z.next) (Z.alloc o) κ1 hE1.symm hrun (h.sim.ghost o) (h.step.trans (Step.ghost' B ρ Z w o)) hκ1 (fun op X v he hn => ?_) hold (by simp [St.alloc]) ⟨x, hx, fun X hX => ?_⟩ (fun k hk => ?_)⟩
      · have he' : evalLook op X Z = some v := by
          unfold evalL at he
          split at he
          · exact absurd rfl (hn _ _)
          · exact he
        have := evalLook_alloc hfr he' o
        unfold evalL
        split
        · exact absurd rfl (hn _ _)
        · exact this
      · rw [← hE1] at hX
        have hXE := hself _ X hX
        refine .inr ⟨by rw [reads_guard hXE]; exact hw, f Z.next, fun t ht hl => by rw [← hE1] at hl ⊢; exact hputd _ t ht hl, .inr (.inr ⟨hkp, o, f, Z.next, by rw [evalA_congr _ (reads_args hXE)]; exact hv, by simp [κ1], rfl, by simp [St.alloc], h.sim.nextNone, by simp [St.alloc], h.step.next⟩)⟩
      · simp only [κ1, if_true, Option.some.injEq] at hk
        subst hk
        exact ⟨Nat.le_refl _, by simp [St.alloc]⟩
    · rename_i hkp; exact absurd hkp hk
  · rename_i hw
    simp only [Option.some.injEq, Prod.mk.injEq] at hst
    obtain ⟨hE1, rfl⟩ := hst
    refine ⟨E1, Z, κ0, mkMid skipV Z κ0 hE1.symm hrun h.sim h.step hκ0 (fun _ _ _ he _ => he) (fun _ _ he => he) (Nat.le_refl _) ⟨x, hx, fun X hX => ?_⟩ (fun k hk => by simp [κ0] at hk)⟩
    · rw [← hE1] at hX
      have hXE := hself skipV X hX
      refine .inl ⟨by rw [reads_guard hXE]; exact hw, fun t ht hl => by rw [← hE1] at hl ⊢; exact hputd _ t ht hl⟩
  · cases hst
theorem mix_put (hok : Ok d) {i : Nat} {x : II} (hx : d.iis[i]? = some x) {D : Nat → Bool} {E E1 : Env} (hl : E.length = e0.length) (hl1 : E1.length = e0.length) {v : V}
    (hv : ∀ t, x.dst = some t → t < E1.length → E1.getD t .any = v) (ho : ∀ t, x.dst ≠ some t → E1.getD t .any = E.getD t .any) :
    d.mix (fun j => j == i || D j) E1 e0 = put (d.mix D E e0) x.dst v := by
  have hin : i < d.n := (List.getElem?_eq_some_iff.1 hx).1
  apply env_ext (by simp [mix_length, put_length])
  intro t
  rw [mix_getD hl1, put_getD, mix_getD hl, mix_length]
  by_cases hd : x.dst = some t
  · have hw := (writer_some hok).2 ⟨hin, (dst_of hx).trans hd⟩
    simp only [hw, Option.any_some, beq_self_eq_true, Bool.true_or, if_true]
    by_cases ht : t < e0.length
    · rw [if_pos ⟨hd, ht⟩]; exact hv t hd (by omega)
    · rw [if_neg (by omega)]
      have h1 : E1.getD t .any = .any := by simp [List.getD, show ¬ t < E1.length by omega]
      have h2 : E.getD t .any = .any := by simp [List.getD, show ¬ t < E.length by omega]
      have h3 : e0.getD t .any = .any := by simp [List.getD, ht]
      rw [h1, h2, h3]; simp
  · have e1 : ¬ (x.dst = some t ∧ t < e0.length) := fun h => hd h.1
    simp only [if_neg e1, ho t hd]
    cases hw : d.writer t with
    | none => rfl
    | some j =>
      have hji : j ≠ i := by
        rintro rfl
        have := ((writer_some hok).1 hw).2
        rw [dst_of hx] at this
        exact hd this
      simp [hji]
theorem mapM_get {α β : Type} {f : α → Option β} : ∀ {l : List α} {r : List β}, l.mapM f = some r → ∀ {i : Nat} {a : α}, l[i]? = some a → ∃ b, r[i]? = some b ∧ f a = some b
  | [], r, h, i, a, ha => by simp at ha
  | x :: l, r, h, i, a, ha => by
    simp only [List.mapM_cons, Option.bind_eq_bind, Option.pure_def, Option.bind_eq_some_iff, Option.some.injEq] at h
    obtain ⟨y, hy, r', hr, rfl⟩ := h
    cases i with
    | zero => simp at ha; subst ha; exact ⟨y, rfl, hy⟩
    | succ i => simpa using mapM_get hr (by simpa using ha)
theorem Mid.take (hok : Ok d) (hnag : ∀ (j : Nat) (y : II), d.iis[j]? = some y → ∀ t q, y.op ≠ .again t q) {ops : Array Oper} (hi : ops.toList.mapM (compII P ops.toList) = some d.iis)
    {i : Nat} {pre post : List Nat} {D : Nat → Bool} {E : Env} {Z : St} {κ : Nat → Option Nat} {ρ : Rn} {a : Act} {w : World} (h : Mid B d C e0 s0 ρ0 w0 a0 e' s' pre post D E Z κ ρ a w)
    (hip : i ∈ pre) (hDi : D i = false) (hanc : ∀ j, d.before j i = true → D j = true) {K : Act → World → Prop} {Q : Exit → Act → World → Prop}
    (hK : ∀ ρ' a' w', Mid B d C e0 s0 ρ0 w0 a0 e' s' pre post (fun j => j == i || D j) E Z κ ρ' a' w' → K a' w') {ro : Option Nat} : wpOpIn (fen ro) 0 P ops Q i K a w := by
  have hord := hok.ord
  rw [h.split] at hord
  obtain ⟨_, ho2⟩ := d.okOrd_app hord
  have hin := (ho2 i hip).1
  obtain ⟨x, hx, hf⟩ := h.fact i hip hDi
  have hsz : d.n = ops.size := by
    have := mapM_len hi
    simpa [Drawn.n] using this
  obtain ⟨o, ho⟩ : ∃ o, ops[i]? = some o := ⟨_, Array.getElem?_eq_getElem (by omega)⟩
  obtain ⟨x', hx', hcomp⟩ := mapM_get hi (a := o) (i := i) (by simpa using ho)
  rw [hx] at hx'; cases hx'
  obtain ⟨hop, hdst⟩ := compII_op hcomp
  have hX : ∀ t ∈ x.reads, (d.mix D E e0).getD t .any = d.pat i E e0 t := by
    intro t ht
    rw [mix_getD h.len]
    unfold pat
    cases hw : d.writer t with
    | none => rfl
    | some j =>
      obtain ⟨hjn, hd⟩ := (writer_some hok).1 hw
      simp only [Option.any_some]
      by_cases hb : d.before j i = true
      · rw [if_pos hb, if_pos (hanc j hb)]
      · rw [if_neg hb]
        rcases reads_order hok hjn hin hd (reads_of hx ht) with h1 | ⟨h1, _⟩
        · exact absurd h1 hb
        · have hDj : D j = false := by
            cases hD : D j with
            | false => rfl
            | true => have := h.down i j hD h1; rw [hDi] at this; cases this
          simp [hDj]
  have next : ∀ (v : V) (v' : Value) (ρ' : Rn) (w' : World), (∀ t, x.dst = some t → t < E.length → E.getD t .any = v) → VR ρ' v v' → Le ρ ρ' → Sim B ρ' Z w' → Step B ρ0 s0 w0 ρ' Z w' →
      (∀ j k, j ∈ pre → j ≠ i → D j = false → κ j = some k → ρ k = none → ρ' k = none) → K (a.put o.dst v') w' := by
    intro v v' ρ' w' hv hvr hle hsim hstep hgh
    refine hK ρ' _ w' ⟨h.split, h.run, h.len, h.unwritten, fun j hj => ?_, fun j hj ha => ?_, fun j k hk hb => ?_, ?_, hsim, hstep, (put_defers _ _).trans h.defers, fun j hj hD => ?_, fun j k q hj hk hDj hDk h1 h2 => ?_, fun j k hj hDj h1 => ?_⟩
    · simp only [Bool.or_eq_true, beq_iff_eq] at hj
      rcases hj with rfl | hj
      · exact hip
      · exact h.sub j hj
    · simp [h.acts j hj ha]
    · simp only [Bool.or_eq_true, beq_iff_eq] at hk ⊢
      rcases hk with rfl | hk
      · exact .inr (hanc j hb)
      · exact .inr (h.down j k hk hb)
    · rw [mix_put hok hx h.len h.len hv (fun _ _ => rfl), ← hdst]
      exact put_VRs (VRs_mono hle _ _ h.tmps) _ hvr
    · simp only [Bool.or_eq_false_iff, beq_eq_false_iff_ne] at hD
      obtain ⟨y, hy, hfy⟩ := h.fact j hj hD.2
      refine ⟨y, hy, fun X hXj => ?_⟩
      rcases hfy X hXj with h1 | ⟨h1, u, h2, h3⟩
      · exact .inl h1
      · refine .inr ⟨h1, u, h2, ?_⟩
        rcases h3 with h3 | h3 | ⟨h3, ob, f, k, h4, h5, h6, h7, h8, h9⟩
        · exact .inl h3
        · exact .inr (.inl h3)
        · exact .inr (.inr ⟨h3, ob, f, k, h4, h5, h6, h7, hgh j k hj hD.1 hD.2 h5 h8, h9⟩)
    · simp only [Bool.or_eq_false_iff] at hDj hDk
      exact h.kinj j k q hj hk hDj.2 hDk.2 h1 h2
    · simp only [Bool.or_eq_false_iff] at hDj
      exact h.kbound j k hj hDj.2 h1
  unfold wpOpIn
  simp only [ho]
  rcases hf _ hX with ⟨hw, hany⟩ | ⟨hw, v, hv, hcase⟩
  · rw [wanted_ok hcomp h.tmps hw]
    simp only [Bool.false_eq_true, if_false]
    exact ⟨fun _ _ => trivial, next skipV undef ρ w (fun t ht hl => hany t ht hl) ⟨#[], rfl, rfl⟩ (Le.refl ρ) h.sim h.step (fun _ _ _ _ _ _ h => h)⟩
  · rw [wanted_ok hcomp h.tmps hw, if_pos rfl]
    refine uponIn_mono ?_ (compOp_defer hop) rfl
    rcases hcase with ⟨hk, hev⟩ | ⟨hk, hev⟩ | ⟨hk, ob, f, k, hev, hκ, rfl, hnew, hρ, hkn, hs0⟩
    · obtain ⟨v', h1, h2⟩ := evalP_ok hop hk hev h.tmps
      rw [h1 w, Oper.uponIn_value]
      exact next v v' ρ w hv h2 (Le.refl ρ) h.sim h.step (fun _ _ _ _ _ _ h => h)
    · have hlook : evalLook x.op (d.mix D E e0) Z = some v := by
        unfold evalL at hev
        split at hev
        · rename_i he; exact absurd he (hnag i x hx _ _)
        · exact hev
      obtain ⟨v', h1, h2⟩ := evalLook_ok hop hlook h.tmps h.sim
      rw [h1, Oper.uponIn_value]
      exact next v v' ρ w hv h2 (Le.refl ρ) h.sim h.step (fun _ _ _ _ _ _ h => h)
    · obtain ⟨gob, mk, h1, h2, h3⟩ := evalA_ok (ρ := ρ) hop hk hev h.tmps
      rw [h1 w, Oper.uponIn_value]
      refine next _ _ (ρ.put k ⟨w.heap.size, 0, 0, 0, none⟩) (w.alloc gob) hv (h3 _ k ⟨w.heap.size, 0, 0, 0, none⟩ (by simp [Rn.put]) rfl rfl) (Rn.put_le hρ) (h.sim.realize hρ hkn hnew rfl (h2 _ _)) ?_ ?_
      · refine ⟨h.step.le.trans (Rn.put_le hρ), h.step.below.trans ((Below.refl B w).alloc h.sim.base gob), h.step.next, h.step.old, fun j hj hn => ?_, fun b hb hn => ?_, Nat.le_trans h.step.size (by show _ ≤ (w.heap.push gob).size; simp)⟩
        · obtain ⟨g1, g2⟩ := h.step.ghost j hj hn
          refine ⟨?_, g2⟩
          unfold Rn.put
          rw [if_neg (by omega)]
          exact g1
        · obtain ⟨g1, g2⟩ := h.step.keep b hb hn
          have hbw : b < w.heap.size := Nat.lt_of_lt_of_le hb h.step.size
          refine ⟨(Below.heap_alloc w gob b hbw).trans g1, fun j q hq => ?_⟩
          unfold Rn.put at hq
          split at hq
          · cases hq; simp only; omega
          · exact g2 j q hq
      · intro j q hj hji hDj hq hn
        unfold Rn.put
        rw [if_neg]
        · exact hn
        · rintro rfl
          exact hji (h.kinj j i q hj hip hDj hDi hq hκ)
theorem runOps_append (C : CallT) : ∀ (l1 l2 : List II) (e : Env) (s : St), runOps C (l1 ++ l2) e s = (runOps C l1 e s).bind fun p => runOps C l2 p.1 p.2
  | [], l2, e, s => rfl
  | i :: l1, l2, e, s => by
    simp only [List.cons_append, runOps, Option.bind_assoc]
    congr 1
    funext p
    exact runOps_append C l1 l2 p.1 p.2
theorem recheck_run (C : CallT) : ∀ (l : List II), (∀ r ∈ l, r.dst = none ∧ ∃ t q, r.op = .again t q) → ∀ {E E2 : Env} {Z Z2 : St}, runOps C l E Z = some (E2, Z2) →
    E2 = E ∧ Z2 = Z ∧ ∀ r ∈ l, ∀ t q, r.op = .again t q → wantedI E r.guard = some false ∨ (wantedI E r.guard = some true ∧ evalLook q E Z = some (E.getD t .any) ∧ E.getD t .any ≠ .any)
  | [], _, E, E2, Z, Z2, h => by
    simp only [runOps, Option.some.injEq, Prod.mk.injEq] at h
    exact ⟨h.1.symm, h.2.symm, by simp⟩
  | r :: l, hl, E, E2, Z, Z2, h => by
    simp only [runOps, Option.bind_eq_some_iff] at h
    obtain ⟨⟨E1, Z1⟩, h1, h⟩ := h
    obtain ⟨hd, t, q, hop⟩ := hl r (by simp)
    have hone : E1 = E ∧ Z1 = Z ∧ (wantedI E r.guard = some false ∨ (wantedI E r.guard = some true ∧ evalLook q E Z = some (E.getD t .any) ∧ E.getD t .any ≠ .any)) := by
      unfold stepI at h1
      split at h1
      · rename_i hw
        simp only [Option.map_eq_some_iff, Prod.mk.injEq] at h1
        obtain ⟨⟨v, Z3⟩, hev, rfl, rfl⟩ := h1
        rw [hop] at hev
        simp only [execI, evalOp, IOp.kind, Option.map_eq_some_iff, Prod.mk.injEq, evalL, Option.bind_eq_some_iff] at hev
        obtain ⟨u, ⟨v', h2, h3⟩, rfl, rfl⟩ := hev
        split at h3
        · rename_i hb
          have he := beqV_eq _ _ hb
          refine ⟨by rw [hd]; rfl, rfl, .inr ⟨hw, by rw [h2, he]; rfl, fun ha => ?_⟩⟩
          simp only [ev] at hb he
          rw [he, ha] at hb
          simp [beqV] at hb
        · cases h3
      · rename_i hw
        simp only [Option.some.injEq, Prod.mk.injEq] at h1
        exact ⟨by rw [← h1.1, hd]; rfl, h1.2.symm, .inl hw⟩
      · cases h1
    obtain ⟨rfl, rfl, hx⟩ := hone
    obtain ⟨g1, g2, g3⟩ := recheck_run C l (fun r hr => hl r (by simp [hr])) h
    refine ⟨g1, g2, fun r' hr t' q' hop' => ?_⟩
    rcases List.mem_cons.1 hr with rfl | hr
    · rw [hop] at hop'; cases hop'; exact hx
    · exact g3 r' hr t' q' hop'
theorem Mid.act (hok : Ok d) {ρb : Rn} (hC : CallsOk P B ρb C) (hle : Le ρb ρ0) {ops : Array Oper} (hi : ops.toList.mapM (compII P ops.toList) = some d.iis)
    {i : Nat} {pre post : List Nat} {D : Nat → Bool} {E : Env} {Z : St} {κ : Nat → Option Nat} {ρ : Rn} {a : Act} {w : World} (h : Mid B d C e0 s0 ρ0 w0 a0 e' s' pre (i :: post) D E Z κ ρ a w)
    (hai : d.acts i = true) (hanc : ∀ j, d.before j i = true → D j = true) {K : Act → World → Prop} {Q : Exit → Act → World → Prop}
    (hK : ∀ E1 Z1 ρ' a' w', Mid B d C e0 s0 ρ0 w0 a0 e' s' (pre ++ [i]) post (fun j => j == i || D j) E1 Z1 κ ρ' a' w' → K a' w') {ro : Option Nat} : wpOpIn (fen ro) 0 P ops Q i K a w := by
  have hord := hok.ord
  rw [h.split] at hord
  obtain ⟨ho1, ho2⟩ := d.okOrd_app hord
  have hin : i < d.n := by simp only [okOrd, Bool.and_eq_true, decide_eq_true_eq] at ho1; exact ho1.1.1.1
  obtain ⟨x, hx⟩ : ∃ x, d.iis[i]? = some x := ⟨_, List.getElem?_eq_getElem hin⟩
  have hDi : D i = false := by
    cases hD : D i with
    | false => rfl
    | true => exact absurd rfl ((ho2 i (h.sub i hD)).2 i (by simp)).1
  have hsz : d.n = ops.size := by
    have := mapM_len hi
    simpa [Drawn.n] using this
  obtain ⟨o, ho⟩ : ∃ o, ops[i]? = some o := ⟨_, Array.getElem?_eq_getElem (by omega)⟩
  obtain ⟨x', hx', hcomp⟩ := mapM_get hi (a := o) (i := i) (by simpa using ho)
  rw [hx] at hx'; cases hx'
  obtain ⟨hop, hdst⟩ := compII_op hcomp
  have hrun := h.run
  have hitems : d.items i = x :: d.rechecks i := by simp [Drawn.items, hx, hai]
  simp only [List.flatMap_cons, hitems, List.cons_append, runOps, Option.bind_eq_some_iff] at hrun
  obtain ⟨⟨E1, Z1⟩, hst, hrun⟩ := hrun
  rw [runOps_append, Option.bind_eq_some_iff] at hrun
  obtain ⟨⟨E2, Z2⟩, hre, hrun⟩ := hrun
  have hrl : ∀ r ∈ d.rechecks i, r.dst = none ∧ ∃ t q, r.op = .again t q := by
    intro r hr
    simp only [Drawn.rechecks, List.mem_filterMap, Option.bind_eq_some_iff, Option.map_eq_some_iff] at hr
    obtain ⟨j, _, y, _, t, _, rfl⟩ := hr
    exact ⟨rfl, t, y.op, rfl⟩
  obtain ⟨rfl, rfl, hrech⟩ := recheck_run C _ hrl hre
  simp only at hrun hst
  have hXE : ∀ t ∈ x.reads, (d.mix D E e0).getD t .any = E.getD t .any := by
    intro t ht
    rw [mix_getD h.len]
    have hun : (∀ j ∈ pre, d.dst j ≠ some t) → (if (d.writer t).any D = true then E.getD t V.any else e0.getD t V.any) = E.getD t .any := by
      intro hno
      rw [h.unwritten t hno]; simp
    cases hw : d.writer t with
    | none =>
      rw [hw] at hun
      exact hun (fun j hj hd => by
        have := (writer_some hok).2 ⟨(ho2 j hj).1, hd⟩
        rw [hw] at this; cases this)
    | some j =>
      obtain ⟨hjn, hd⟩ := (writer_some hok).1 hw
      rcases reads_order hok hjn hin hd (reads_of hx ht) with h1 | ⟨h1, _⟩
      · simp [hanc j h1]
      · rw [hw] at hun
        refine hun (fun k hk hdk => ?_)
        have hkj : k = j := by
          have h3 := (writer_some hok).2 ⟨(ho2 k hk).1, hdk⟩
          rw [hw] at h3; exact (Option.some.inj h3).symm
        subst hkj
        have := ((ho2 k hk).2 i (by simp)).2.1
        rw [h1] at this; cases this
  have next : ∀ (v : V) (ρ' : Rn) (a' : Act) (w' : World), E2 = put E x.dst v → After B ρ Z w a (put (d.mix D E e0) x.dst v) Z2 a' w' → K a' w' := by
    rintro v ρ'' a' w' hE2 ⟨ρ', k1, k2, k3, k4⟩
    have hEo : ∀ t, x.dst ≠ some t → E2.getD t .any = E.getD t .any := by
      intro t ht; rw [hE2, put_getD]; simp [ht]
    have hl2 : E2.length = e0.length := by rw [hE2, put_length]; exact h.len
    refine hK E2 Z2 ρ' a' w' ⟨by rw [h.split]; simp, hrun, hl2, fun t ht => ?_, fun j hj => ?_, fun j hj ha => ?_, fun j k hk hb => ?_, ?_, k2, h.step.trans k3, k4.trans h.defers, fun j hj hD => ?_, fun j k q hj hk hDj hDk h1 h2 => ?_, fun j k hj hDj h1 => ?_⟩
    · rw [hEo t (fun he => ht i (by simp) ((dst_of hx).trans he))]
      exact h.unwritten t (fun j hj => ht j (List.mem_append_left _ hj))
    · simp only [Bool.or_eq_true, beq_iff_eq] at hj
      rcases hj with rfl | hj
      · simp
      · exact List.mem_append_left _ (h.sub j hj)
    · rcases List.mem_append.1 hj with hj1 | hj1
      · simp [h.acts j hj1 ha]
      · have : j = i := by simpa using hj1
        simp [this]
    · simp only [Bool.or_eq_true, beq_iff_eq] at hk ⊢
      rcases hk with rfl | hk
      · exact .inr (hanc j hb)
      · exact .inr (h.down j k hk hb)
    · rw [mix_put hok hx h.len hl2 (fun t ht hl => by rw [hE2, put_length] at hl; rw [hE2, put_getD, if_pos ⟨ht, hl⟩]) hEo]
      exact k1
    · simp only [Bool.or_eq_false_iff, beq_eq_false_iff_ne] at hD
      have hj1 : j ∈ pre := by
        rcases List.mem_append.1 hj with hj1 | hj1
        · exact hj1
        · exact absurd (by simpa using hj1) hD.1
      obtain ⟨hjn, hjp⟩ := ho2 j hj1
      have hji := hjp i (by simp)
      obtain ⟨y, hy, hfy⟩ := h.fact j hj1 hD.2
      refine ⟨y, hy, fun X hX => ?_⟩
      have hpe : ∀ t ∈ y.reads, d.pat j E2 e0 t = d.pat j E e0 t := by
        intro t ht
        unfold pat
        cases hw : d.writer t with
        | none => rfl
        | some k =>
          simp only [Option.any_some]
          split
          · rename_i hb
            refine hEo t (fun he => ?_)
            have h3 := (writer_some hok).2 ⟨hin, (dst_of hx).trans he⟩
            rw [hw] at h3
            have := Option.some.inj h3
            subst this
            rw [hji.2.1] at hb; cases hb
          · rfl
      have hdj : ∀ t, y.dst = some t → E2.getD t .any = E.getD t .any := by
        intro t ht
        refine hEo t (fun he => ?_)
        have h1 := (writer_some hok).2 ⟨hin, (dst_of hx).trans he⟩
        have h2 := (writer_some hok).2 ⟨hjn, (dst_of hy).trans ht⟩
        rw [h1] at h2
        exact hji.1 (Option.some.inj h2).symm
      rcases hfy X (fun t ht => by rw [hX t ht, hpe t ht]) with ⟨h1, h2⟩ | ⟨h1, u, h2, h3⟩
      · exact .inl ⟨h1, fun t ht hl => by rw [hdj t ht]; exact h2 t ht (by rw [hl2] at hl; rw [h.len]; exact hl)⟩
      · refine .inr ⟨h1, u, fun t ht hl => by rw [hdj t ht]; exact h2 t ht (by rw [hl2] at hl; rw [h.len]; exact hl), ?_⟩
        rcases h3 with h3 | ⟨h3, h4⟩ | ⟨h3, ob, f, k, h4, h5, h6, h7, h8, h9, h10⟩
        · exact .inl h3
        · refine .inr (.inl ⟨h3, ?_⟩)
          have hnb : d.before i j = false := by
            cases hb : d.before i j with
            | false => rfl
            | true =>
              exfalso
              have := h.fact j hj1 hD.2
              have h5 := hji.2.1
              rw [hb] at h5; cases h5
          have hbj : d.before j i = false := by
            cases hb : d.before j i with
            | false => rfl
            | true => have := hanc j hb; rw [hD.2] at this; cases this
          have hlk : d.looks j = true := by simp [Drawn.looks, hy, IOp.looks, h3]
          have hop' : d.open_ j i = true := by simp [Drawn.open_, hlk, hai, hnb, hbj]
          have hpr := hok.pair i j hin hjn
          unfold okPair at hpr
          simp only [hop', Bool.not_true, Bool.false_or, Bool.and_eq_true, Option.isSome_iff_exists] at hpr
          obtain ⟨⟨t, ht⟩, _⟩ := hpr
          rw [dst_of hy] at ht
          have hmem : ({ dst := none, op := .again t y.op, guard := y.guard } : II) ∈ d.rechecks i := by
            simp only [Drawn.rechecks, List.mem_filterMap, Option.bind_eq_some_iff, Option.map_eq_some_iff, List.mem_filter, List.mem_range]
            exact ⟨j, ⟨hjn, hop'⟩, y, hy, t, ht, rfl⟩
          have hXE2 : ∀ q ∈ y.reads, X.getD q .any = E2.getD q .any := by
            intro q hq
            rw [hX q hq]
            unfold pat
            cases hw : d.writer q with
            | none =>
              simp only [Option.any_none, Bool.false_eq_true, if_false]
              rw [hEo q (fun he => by
                have := (writer_some hok).2 ⟨hin, (dst_of hx).trans he⟩
                rw [hw] at this; cases this)]
              exact (h.unwritten q (fun k hk hd => by
                have := (writer_some hok).2 ⟨(ho2 k hk).1, hd⟩
                rw [hw] at this; cases this)).symm
            | some k =>
              obtain ⟨hkn, hd⟩ := (writer_some hok).1 hw
              simp only [Option.any_some]
              rcases reads_order hok hkn hjn hd (reads_of hy hq) with g1 | ⟨_, g2⟩
              · rw [if_pos g1]
              · rw [g2 i hin] at hop'; cases hop'
          rcases hrech _ hmem t y.op rfl with g1 | ⟨g1, g2, g3⟩
          · have g1' : wantedI E2 y.guard = some false := g1
            rw [← reads_guard hXE2, h1] at g1'; cases g1'
          · have hlook : evalLook y.op X Z2 = some (E2.getD t .any) := by rw [evalLook_congr _ (reads_args hXE2)]; exact g2
            have htl : t < E.length := by
              rcases Nat.lt_or_ge t E.length with g | g
              · exact g
              · exfalso
                exact g3 (by simp [List.getD, show ¬ t < E2.length by rw [hl2, ← h.len]; omega])
            have huv : E2.getD t .any = u := by rw [hdj t ht]; exact h2 t ht htl
            rw [huv] at hlook
            unfold evalL at h4 ⊢
            split at h4
            · rename_i t' q' he
              rw [he] at hlook; simp [evalLook] at hlook
            · exact hlook
        · obtain ⟨g1, g2⟩ := k3.ghost k h9 h8
          exact .inr (.inr ⟨h3, ob, f, k, h4, h5, h6, g2.trans h7, g1, Nat.lt_of_lt_of_le h9 k3.next, h10⟩)
    · simp only [Bool.or_eq_false_iff, beq_eq_false_iff_ne] at hDj hDk
      have hj1 : j ∈ pre := (List.mem_append.1 hj).resolve_right (fun h => hDj.1 (by simpa using h))
      have hk1 : k ∈ pre := (List.mem_append.1 hk).resolve_right (fun h => hDk.1 (by simpa using h))
      exact h.kinj j k q hj1 hk1 hDj.2 hDk.2 h1 h2
    · simp only [Bool.or_eq_false_iff, beq_eq_false_iff_ne] at hDj
      have hj1 : j ∈ pre := (List.mem_append.1 hj).resolve_right (fun h => hDj.1 (by simpa using h))
      exact Nat.lt_of_lt_of_le (h.kbound j k hj1 hDj.2 h1) k3.next
  unfold wpOpIn
  simp only [ho]
  unfold stepI at hst
  rw [← reads_guard hXE] at hst
  split at hst
  · rename_i hw
    rw [wanted_ok hcomp h.tmps hw, if_pos rfl]
    simp only [Option.map_eq_some_iff, Prod.mk.injEq] at hst
    obtain ⟨⟨v, Z3⟩, hev, hE2, rfl⟩ := hst
    rw [← execI_congr _ (reads_args hXE)] at hev
    refine execI_ok hC (hle.trans h.step.le) hop hev h.tmps h.sim (fun a' w' hA => ?_)
    rw [← hdst] at hA
    exact next v ρ a' w' hE2.symm hA
  · rename_i hw
    rw [wanted_ok hcomp h.tmps hw]
    simp only [Bool.false_eq_true, if_false]
    simp only [Option.some.injEq, Prod.mk.injEq] at hst
    obtain ⟨hE2, rfl⟩ := hst
    refine ⟨fun _ _ => trivial, next skipV ρ _ w hE2.symm ⟨ρ, ?_, h.sim, Step.refl _ _ _ _, put_defers _ _⟩⟩
    rw [← hdst]
    exact put_VRs h.tmps _ ⟨#[], rfl, rfl⟩
  · cases hst
def left (n : Nat) (listed : Array Bool) : Nat := ((List.range n).filter fun i => !listed.getD i false).length
theorem left_set {n : Nat} {listed : Array Bool} (hsz : listed.size = n) {i : Nat} (hi : i < n) (h : listed.getD i false = false) : left n (listed.setIfInBounds i true) < left n listed := by
  unfold left
  have hlt : (List.range n).filter (fun j => !(listed.setIfInBounds i true).getD j false) = ((List.range n).filter fun j => !listed.getD j false).filter (fun j => j != i) := by
    rw [List.filter_filter]
    apply List.filter_congr
    intro j hj
    simp only [List.mem_range] at hj
    by_cases hji : j = i
    · subst hji
      simp [Array.getD_eq_getD_getElem?, hsz, hi]
    · have : (listed.setIfInBounds i true).getD j false = listed.getD j false := by
        simp [Array.getD_eq_getD_getElem?, Array.getElem?_setIfInBounds, Ne.symm hji]
      rw [this]; simp [hji]
  rw [hlt]
  have hmem : i ∈ (List.range n).filter fun j => !listed.getD j false := by
    rw [List.mem_filter]
    exact ⟨by simpa using hi, by rw [h]; rfl⟩
  generalize (List.range n).filter (fun j => !listed.getD j false) = l at hmem
  induction l with
  | nil => simp at hmem
  | cons y l ih =>
    by_cases hy : y = i
    · subst hy
      simp only [List.filter_cons, bne_self_eq_false, Bool.false_eq_true, if_false, List.length_cons]
      exact Nat.lt_succ_of_le (List.length_filter_le _ _)
    · have hm : i ∈ l := by
        rcases List.mem_cons.1 hmem with h | h
        · exact absurd h.symm hy
        · exact h
      simp only [List.filter_cons, bne_iff_ne, ne_eq, hy, not_false_eq_true, if_true, List.length_cons]
      exact Nat.succ_lt_succ (ih hm)
theorem left_zero {n : Nat} {listed : Array Bool} (h : left n listed = 0) : ∀ i, i < n → listed.getD i false = true := by
  intro i hi
  unfold left at h
  have := List.eq_nil_of_length_eq_zero h
  rw [List.filter_eq_nil_iff] at this
  have := this i (by simpa using hi)
  simpa using this
theorem Mid.norm (hok : Ok d) (hnag : ∀ (j : Nat) (y : II), d.iis[j]? = some y → ∀ t q, y.op ≠ .again t q) : ∀ (post pre : List Nat) {D : Nat → Bool} {E : Env} {Z : St} {κ : Nat → Option Nat} {ρ : Rn} {a : Act} {w : World},
    Mid B d C e0 s0 ρ0 w0 a0 e' s' pre post D E Z κ ρ a w → ∃ pre' post' E' Z' κ', Mid B d C e0 s0 ρ0 w0 a0 e' s' pre' post' D E' Z' κ' ρ a w ∧ (post' = [] ∨ ∃ i l, post' = i :: l ∧ d.acts i = true)
  | [], pre, D, E, Z, κ, ρ, a, w, h => ⟨pre, [], E, Z, κ, h, .inl rfl⟩
  | i :: post, pre, D, E, Z, κ, ρ, a, w, h => by
    cases ha : d.acts i with
    | true => exact ⟨pre, i :: post, E, Z, κ, h, .inr ⟨i, post, rfl, ha⟩⟩
    | false =>
      obtain ⟨E1, Z1, κ1, h1⟩ := h.advance hok hnag ha
      exact Mid.norm hok hnag post (pre ++ [i]) h1
theorem mem_ready {ops : Array Oper} {listed : Array Bool} (hls : listed.size = ops.size) {i : Nat} : i ∈ Region.ready .any ops listed ↔
    ∃ o, ops[i]? = some o ∧ listed.getD i false = false ∧ ∀ x ∈ depsOf o, listed.getD x false = true := by
  unfold Region.ready
  simp only [List.mem_filter, List.mem_range, Bool.and_eq_true, Bool.not_eq_true']
  constructor
  · rintro ⟨hi, h1, h2⟩
    refine ⟨ops[i], Array.getElem?_eq_getElem hi, ?_, fun x hx => ?_⟩
    · have : i < listed.size := by omega
      simp only [Array.getD_eq_getD_getElem?, Array.getElem?_eq_getElem this, Option.getD_some] at h1 ⊢
      exact h1
    · simp only [Array.getElem?_eq_getElem hi, Option.map_some, Option.getD_some, Array.all_eq_true_iff_forall_mem] at h2
      simp only [depsOf, List.mem_map, List.mem_filter] at hx
      obtain ⟨ed, ⟨h3, h4⟩, rfl⟩ := hx
      have := h2 ed (by simpa using h3)
      simpa [h4] using this
  · rintro ⟨o, ho, h1, h2⟩
    have hi : i < ops.size := (Array.getElem?_eq_some_iff.1 ho).1
    refine ⟨hi, ?_, ?_⟩
    · have : i < listed.size := by omega
      simp only [Array.getD_eq_getD_getElem?, Array.getElem?_eq_getElem this, Option.getD_some] at h1 ⊢
      exact h1
    · simp only [ho, Option.map_some, Option.getD_some, Array.all_eq_true_iff_forall_mem]
      intro ed hed
      cases hb : Region.binds .any ed with
      | false => rfl
      | true =>
        simp only [Bool.not_true, Bool.false_or]
        exact h2 ed.on (by
          simp only [depsOf, List.mem_map, List.mem_filter]
          exact ⟨ed, ⟨by simpa using hed, hb⟩, rfl⟩)
theorem draw_any (hok : Ok d) {ρb : Rn} (hC : CallsOk P B ρb C) (hle : Le ρb ρ0) {ro : Option Nat} (hnag : ∀ (j : Nat) (y : II), d.iis[j]? = some y → ∀ t q, y.op ≠ .again t q) {ops : Array Oper} (hi : ops.toList.mapM (compII P ops.toList) = some d.iis)
    (hdeps : ∀ i o, ops[i]? = some o → d.deps.getD i [] = depsOf o) {Q : Exit → Act → World → Prop} (hq : ∀ a' w', After B ρ0 s0 w0 a0 e' s' a' w' → Q .normal a' w') :
    ∀ (fuel : Nat) (listed : Array Bool) (pre post : List Nat) (E : Env) (Z : St) (κ : Nat → Option Nat) (ρ : Rn) (a : Act) (w : World), listed.size = ops.size → left ops.size listed ≤ fuel →
      Mid B d C e0 s0 ρ0 w0 a0 e' s' pre post (fun i => listed.getD i false) E Z κ ρ a w → wpAnyIn (fen ro) 0 P .any ops Q fuel listed a w := by
  have hsz : d.n = ops.size := by
    have := mapM_len hi
    simpa [Drawn.n] using this
  have hend : ∀ (listed : Array Bool) (pre post : List Nat) (E : Env) (Z : St) (κ : Nat → Option Nat) (ρ : Rn) (a : Act) (w : World), listed.size = ops.size →
      Mid B d C e0 s0 ρ0 w0 a0 e' s' pre post (fun i => listed.getD i false) E Z κ ρ a w → Region.ready .any ops listed = [] → Q .normal a w := by
    intro listed pre post E Z κ ρ a w hls h hr
    have hall : ∀ i, i < d.n → listed.getD i false = true := by
      intro i
      induction i using Nat.strongRecOn with
      | _ i ihi =>
        intro hin
        cases hl : listed.getD i false with
        | true => rfl
        | false =>
          exfalso
          obtain ⟨o, ho⟩ : ∃ o, ops[i]? = some o := ⟨_, Array.getElem?_eq_getElem (by omega)⟩
          have : i ∈ Region.ready .any ops listed := (mem_ready hls).2 ⟨o, ho, hl, fun x hx => by
            rw [← hdeps i o ho] at hx
            have hb := hok.deps i hin x hx
            have hlt := hok.lt i x hin hb
            exact ihi x hlt (by omega)⟩
          rw [hr] at this; cases this
    obtain ⟨pre', post', E', Z', κ', h', hp⟩ := h.norm hok hnag
    have hpost : post' = [] := by
      rcases hp with h1 | ⟨i, l, rfl, _⟩
      · exact h1
      · exfalso
        have hord := hok.ord
        rw [h'.split] at hord
        obtain ⟨ho1, ho2⟩ := d.okOrd_app hord
        have hin : i < d.n := by simp only [okOrd, Bool.and_eq_true, decide_eq_true_eq] at ho1; exact ho1.1.1.1
        have := h'.sub i (hall i hin)
        exact ((ho2 i this).2 i (by simp)).1 rfl
    subst hpost
    have hrun := h'.run
    simp only [List.flatMap_nil, runOps, Option.some.injEq, Prod.mk.injEq] at hrun
    obtain ⟨rfl, rfl⟩ := hrun
    have hmix : d.mix (fun i => listed.getD i false) E' e0 = E' := by
      apply env_ext (by rw [mix_length]; exact h'.len.symm)
      intro t
      rw [mix_getD h'.len]
      cases hw : d.writer t with
      | none =>
        simp only [Option.any_none, Bool.false_eq_true, if_false]
        refine (h'.unwritten t (fun k hk hd => ?_)).symm
        have hord := hok.ord
        rw [h'.split] at hord
        have := (writer_some hok).2 ⟨((d.okOrd_app hord).2 k hk).1, hd⟩
        rw [hw] at this; cases this
      | some k =>
        have hk := hall k ((writer_some hok).1 hw).1
        simp only [Option.any_some, hk, if_true]
    have ht := h'.tmps
    rw [hmix] at ht
    exact hq _ _ ⟨ρ, ht, h'.sim, h'.step, h'.defers⟩
  intro fuel
  induction fuel with
  | zero =>
    intro listed pre post E Z κ ρ a w hls hleft h
    have hr : Region.ready .any ops listed = [] := by
      apply List.eq_nil_iff_forall_not_mem.2
      intro i hm
      obtain ⟨o, ho, hl, _⟩ := (mem_ready hls).1 hm
      have := left_zero (Nat.le_zero.1 hleft) i (Array.getElem?_eq_some_iff.1 ho).1
      rw [hl] at this; cases this
    exact ⟨hr, hend listed pre post E Z κ ρ a w hls h hr⟩
  | succ fuel ih =>
    intro listed pre post E Z κ ρ a w hls hleft h
    refine ⟨hend listed pre post E Z κ ρ a w hls h, fun i hm => ?_⟩
    obtain ⟨o, ho, hl, hdl⟩ := (mem_ready hls).1 hm
    have hin : i < d.n := by have := (Array.getElem?_eq_some_iff.1 ho).1; omega
    obtain ⟨pre', post', E', Z', κ', h', hp⟩ := h.norm hok hnag
    have hanc : ∀ j, d.before j i = true → listed.getD j false = true := by
      intro j hb
      rcases hok.gen i j hin hb with h1 | ⟨y, h1, h2⟩
      · rw [hdeps i o ho] at h1; exact hdl j h1
      · rw [hdeps i o ho] at h1
        exact h'.down j y (hdl y h1) h2
    have hset : (fun j => (listed.setIfInBounds i true).getD j false) = fun j => j == i || listed.getD j false := by
      funext j
      by_cases hji : j = i
      · subst hji
        simp [Array.getD_eq_getD_getElem?, show j < listed.size by omega]
      · simp [Array.getD_eq_getD_getElem?, Array.getElem?_setIfInBounds, Ne.symm hji, hji]
    have hleft' : left ops.size (listed.setIfInBounds i true) ≤ fuel := by
      have := left_set hls (by omega) hl
      omega
    have hgo : ∀ pre1 post1 E1 Z1 κ1 ρ1 a1 w1, Mid B d C e0 s0 ρ0 w0 a0 e' s' pre1 post1 (fun j => j == i || listed.getD j false) E1 Z1 κ1 ρ1 a1 w1 → wpAnyIn (fen ro) 0 P .any ops Q fuel (listed.setIfInBounds i true) a1 w1 := by
      intro pre1 post1 E1 Z1 κ1 ρ1 a1 w1 hM
      rw [← hset] at hM
      exact ih _ pre1 post1 E1 Z1 κ1 ρ1 a1 w1 (by simpa using hls) hleft' hM
    have hio := hok.inOrd i hin
    rw [h'.split, List.mem_append] at hio
    by_cases hip : i ∈ pre'
    · exact h'.take hok hnag hi hip hl hanc (fun ρ' a' w' hM => hgo _ _ _ _ _ _ _ _ hM)
    · have hipost := hio.resolve_left hip
      rcases hp with rfl | ⟨σ, l, rfl, hσ⟩
      · simp at hipost
      · rcases List.mem_cons.1 hipost with rfl | hil
        · exact h'.act hok hC hle hi hσ hanc (fun E1 Z1 ρ' a' w' hM => hgo _ _ _ _ _ _ _ _ hM)
        · exfalso
          have hord := hok.ord
          rw [h'.split] at hord
          obtain ⟨ho1, ho2⟩ := d.okOrd_app hord
          simp only [okOrd, Bool.and_eq_true, List.all_eq_true] at ho1
          have hb := (ho1.1.2 i hil).2
          simp only [hσ, Bool.not_true, Bool.false_or] at hb
          have := h'.sub σ (hanc σ hb)
          exact ((ho2 σ this).2 σ (by simp)).1 rfl
theorem draw_ok (hm : P.follows .mixedOrders = true) {ρb : Rn} {C : CallT} (hC : CallsOk P B ρb C) {ro : Option Nat} {ops : Array Oper} {iis : List II} (hi : ops.toList.mapM (compII P ops.toList) = some iis) (hok : (drawnOf ops.toList iis).ok = true)
    {e e' : Env} {s s' : St} {ρ : Rn} {a : Act} {w : World} (hle : Le ρb ρ) (hr : runOps C (drawnOf ops.toList iis).canon e s = some (e', s')) (he : VRs ρ e a.tmps.toList) (hs : Sim B ρ s w) {id : Nat} {Q : Exit → Act → World → Prop}
    (hq : ∀ a' w', After B ρ s w a e' s' a' w' → Q .normal a' w') : (Code.region id ops true).wpIn (fen ro) 0 P Q a w := by
  have hO := ok_of hok
  have hs' : Sim B ρ s { w with drawn := w.drawn + 1 } := hs.heap rfl
  have hst : Step B ρ s w ρ s { w with drawn := w.drawn + 1 } := ⟨Le.refl ρ, (Below.refl B w).drew, Nat.le_refl _, rfl, fun _ _ h => ⟨h, rfl⟩, fun _ _ h => ⟨rfl, h⟩, Nat.le_refl _⟩
  refine wpIn_region_any hm ?_
  have hnag : ∀ (j : Nat) (y : II), (drawnOf ops.toList iis).iis[j]? = some y → ∀ t q, y.op ≠ .again t q := by
    intro j y hy
    have hlen := mapM_len hi
    have hj : j < ops.toList.length := by
      have : j < iis.length := (List.getElem?_eq_some_iff.1 hy).1
      omega
    obtain ⟨x', hx', hcomp⟩ := mapM_get hi (List.getElem?_eq_getElem hj)
    have : iis[j]? = some y := hy
    rw [this] at hx'; cases hx'
    exact (compOp_shape (compII_op hcomp).1).1
  refine draw_any (B := B) (d := drawnOf ops.toList iis) (e0 := e) (e' := e') (s0 := s) (s' := s') (ρ0 := ρ) (w0 := w) (a0 := a) hO hC hle hnag hi (fun i o ho => ?_) hq ops.size _ [] (drawnOf ops.toList iis).ord e s (fun _ => none) ρ a _ (by simp) ?_ ?_
  · show (ops.toList.map depsOf).getD i [] = depsOf o
    have : ops.toList[i]? = some o := by simpa using ho
    simp [List.getD, this]
  · unfold left
    exact Nat.le_trans (List.length_filter_le _ _) (by simp)
  · have hfalse : ∀ i, (Array.replicate ops.size false).getD i false = false := by
      intro i
      by_cases h : i < ops.size <;> simp [Array.getD_eq_getD_getElem?, Array.getElem?_replicate, h]
    refine ⟨rfl, hr, rfl, fun _ _ => rfl, fun i h => ?_, fun i h => by simp at h, fun i j h => ?_, ?_, hs', hst, rfl, fun i h => by simp at h, fun i j k h => by simp at h, fun i k h => by simp at h⟩
    · simp only [hfalse] at h; cases h
    · simp only [hfalse] at h; cases h
    · have : (drawnOf ops.toList iis).mix (fun i => (Array.replicate ops.size false).getD i false) e e = e := by
        apply env_ext (by simp [mix_length])
        intro t
        rw [mix_getD rfl]
        simp
      rw [this]; exact he
end
end Go.IM

set_option linter.unusedSimpArgs false
set_option linter.unusedVariables false
namespace Go.IM
open Go.RowKit (Below)
theorem exists_least {p : Nat → Prop} (h : ∃ n, p n) : ∃ n, p n ∧ ∀ m, m < n → ¬ p m := by
  obtain ⟨n, hn⟩ := h
  induction n using Nat.strongRecOn with
  | _ n ih =>
    by_cases hm : ∃ m, m < n ∧ p m
    · obtain ⟨m, h1, h2⟩ := hm
      exact ih m h1 h2
    · exact ⟨n, hn, fun m h1 h2 => hm ⟨m, h1, h2⟩⟩
noncomputable def least (p : Nat → Prop) : Nat := open Classical in if h : ∃ n, p n then Classical.choose (exists_least h) else 0
theorem least_spec {p : Nat → Prop} (h : ∃ n, p n) : p (least p) ∧ ∀ m, p m → least p ≤ m := by
  have hs := Classical.choose_spec (exists_least h)
  have he : least p = Classical.choose (exists_least h) := by unfold least; rw [dif_pos h]
  rw [he]
  exact ⟨hs.1, fun m hm => Nat.le_of_not_lt fun hlt => hs.2 m hlt hm⟩
section
variable {P : Program} {B N : Nat}
def XR : Xt → Exit → Prop
  | .normal, .normal => True
  | .exit i, .exit j => i = j
  | .ret, .ret => True
  | _, _ => False
def Marks (l : List Nat) : List Deferred := l.map fun r => { target := .collected r, args := #[] }
def Kept (N : Nat) (ρ : Rn) (w : World) (l : List Nat) : Prop := l.Nodup ∧ ∀ r ∈ l, N ≤ r ∧ r < w.heap.size ∧ (∀ k p, ρ k = some p → p.blk ≠ r) ∧ w.heap[r]? = some (.deferred (some []))
def ActOk (N : Nat) (ρ : Rn) (w : World) (a : Act) : Prop := N ≤ w.heap.size ∧ ∃ l, a.defers = Marks l ∧ Kept N ρ w l
theorem Kept.step {ρ ρ' : Rn} {s s' : St} {w w' : World} {l : List Nat} (h : Kept N ρ w l) (hs : Step B ρ s w ρ' s' w') : Kept N ρ' w' l := by
  refine ⟨h.1, fun r hr => ?_⟩
  obtain ⟨h0, h1, h2, h3⟩ := h.2 r hr
  obtain ⟨k1, k2⟩ := hs.keep r h1 h2
  exact ⟨h0, Nat.lt_of_lt_of_le h1 hs.size, k2, k1.trans h3⟩
theorem ActOk.step {ρ ρ' : Rn} {s s' : St} {w w' : World} {a a' : Act} (h : ActOk N ρ w a) (hs : Step B ρ s w ρ' s' w') (hd : a'.defers = a.defers) : ActOk N ρ' w' a' := by
  obtain ⟨h0, l, h1, h2⟩ := h
  exact ⟨Nat.le_trans h0 hs.size, l, hd.trans h1, h2.step hs⟩
theorem ActOk.nil {ρ : Rn} {w : World} {tmps : Array Value} (h0 : N ≤ w.heap.size) : ActOk N ρ w { tmps := tmps, defers := [] } := ⟨h0, [], rfl, List.nodup_nil, fun r hr => by cases hr⟩
def AfterC (B N : Nat) (ρ : Rn) (s : St) (w : World) (e' : Env) (s' : St) (a' : Act) (w' : World) : Prop :=
  ∃ ρ', VRs ρ' e' a'.tmps.toList ∧ Sim B ρ' s' w' ∧ Step B ρ s w ρ' s' w' ∧ ActOk N ρ' w' a'
theorem AfterC.trans {ρ ρ1 : Rn} {s s1 : St} {w w1 : World} {e2 : Env} {s2 : St} {a2 : Act} {w2 : World} (h : Step B ρ s w ρ1 s1 w1) (k : AfterC B N ρ1 s1 w1 e2 s2 a2 w2) : AfterC B N ρ s w e2 s2 a2 w2 := by
  obtain ⟨ρ', h1, h2, h3, h4⟩ := k
  exact ⟨ρ', h1, h2, h.trans h3, h4⟩
theorem After.c {ρ : Rn} {s s' : St} {w w' : World} {a a' : Act} {e' : Env} (h : After B ρ s w a e' s' a' w') (ha : ActOk N ρ w a) : AfterC B N ρ s w e' s' a' w' := by
  obtain ⟨ρ', h1, h2, h3, h4⟩ := h
  exact ⟨ρ', h1, h2, h3, ha.step h3 h4⟩
def QK (B N : Nat) (K : Kt) (r : V × St) (ρ : Rn) (s : St) (w : World) (X : Exit) (a' : Act) (w' : World) : Prop :=
  ∃ x e' s', XR x X ∧ AfterC B N ρ s w e' s' a' w' ∧ K x e' s' = some r
theorem compC_region {nt : Nat} {rg : Bool} {ex : List (Nat × Nat)} {rt out : Nat} {id : Nat} {ops : Array Oper} {draw : Bool} {ic : IC × Nat} (h : compC P nt rg ex rt out (.region id ops draw) = some ic) :
    ∃ iis, ops.toList.mapM (compII P ops.toList) = some iis ∧
      ((draw = false ∧ ic.1 = .region iis (keepOf nt out)) ∨ (draw = true ∧ (drawnOf ops.toList iis).ok = true ∧ ic.1 = .region (drawnOf ops.toList iis).canon (keepOf nt out))) := by
  simp only [compC, Option.bind_eq_bind, Option.pure_def, Option.bind_eq_some_iff] at h
  obtain ⟨iis, h1, h⟩ := h
  refine ⟨iis, h1, ?_⟩
  cases draw with
  | false => simp at h; exact .inl ⟨rfl, by rw [← h]⟩
  | true =>
    simp only [if_true] at h
    split at h
    · rename_i hok; cases h; exact .inr ⟨rfl, hok, rfl⟩
    · cases h
variable {F : Nat → Option IFn} (hm : P.follows .mixedOrders = true)
def YOk (P : Program) (B : Nat) (ρ0 : Rn) (Y : Yt) : Prop := ∀ j args s v s', Y j args s = some (v, s') → ∀ ρ w (cargs : Array Value) p, Le ρ0 ρ → VRs ρ args cargs.toList → Sim B ρ s w → ρ j = some p →
  ∃ fn tmps assign body, (Instr.yield p.blk cargs).run P w = .ok (.round p.blk fn tmps assign body) w ∧ RoundIn Fence.wide 0 P p.blk fn tmps assign body w (Left B ρ s w v s')
theorem YOk.mono {ρ0 ρ1 : Rn} {Y : Yt} (h : YOk P B ρ0 Y) (hle : Le ρ0 ρ1) : YOk P B ρ1 Y := fun j args s v s' hy ρ w cargs p hl => h j args s v s' hy ρ w cargs p (hle.trans hl)
theorem YOk.no {ρ0 : Rn} : YOk P B ρ0 noY := fun j args s v s' h => by cases h
def GoOk (P : Program) (F : Nat → Option IFn) (n : Nat) : Prop := ∀ (nt : Nat) (rg : Bool) (c : Code) (ex : List (Nat × Nat)) (rt out : Nat) (ic : IC × Nat), compC P nt rg ex rt out c = some ic →
  ∀ B N ρ0 Y, YOk P B ρ0 Y → ∀ ro, (ro = none ∨ rg = false) → ∀ e s (K : Kt) r, go (LC F n Y).1 (LC F n Y).2 ic.1 e s K = some r →
  ∀ ρ a w, Le ρ0 ρ → ActOk N ρ w a → VRs ρ e a.tmps.toList → Sim B ρ s w → c.wpIn (fen ro) 0 P (QK B N K r ρ s w) a w
theorem QK_then {K' : Kt} {r : V × St} {ρ : Rn} {s : St} {w : World} {next : Act → World → Prop} {Q : Exit → Act → World → Prop}
    (hn : ∀ e' s' a' w', AfterC B N ρ s w e' s' a' w' → K' .normal e' s' = some r → next a' w')
    (hx : ∀ i e' s' a' w', AfterC B N ρ s w e' s' a' w' → K' (.exit i) e' s' = some r → Q (.exit i) a' w')
    (hr : ∀ e' s' a' w', AfterC B N ρ s w e' s' a' w' → K' .ret e' s' = some r → Q .ret a' w') :
    ∀ X a' w', QK B N K' r ρ s w X a' w' → Exit.then next Q X a' w' := by
  rintro X a' w' ⟨x, e', s', hxr, hA, hK⟩
  cases x <;> cases X <;> first | (cases hxr; done) | skip
  · exact hn _ _ _ _ hA hK
  · cases (show _ = _ from hxr); exact hx _ _ _ _ _ hA hK
  · exact hr _ _ _ _ hA hK
theorem QK_trans {K : Kt} {r : V × St} {ρ ρ1 : Rn} {s s1 : St} {w w1 : World} (h : Step B ρ s w ρ1 s1 w1) {X : Exit} {a' : Act} {w' : World}
    (k : QK B N K r ρ1 s1 w1 X a' w') : QK B N K r ρ s w X a' w' := by
  obtain ⟨x, e', s', hx, hA, hK⟩ := k
  exact ⟨x, e', s', hx, AfterC.trans h hA, hK⟩
theorem Sim.other {ρ : Rn} {s : St} {w w' : World} (hs : Sim B ρ s w) {b : Nat} (hb : B ≤ b) (hsz : w'.heap.size = w.heap.size) (hoth : ∀ j, j ≠ b → w'.heap[j]? = w.heap[j]?) (hfree : ∀ k p, ρ k = some p → s.new k ≠ none → p.blk ≠ b) : Sim B ρ s w' := by
  refine ⟨by rw [hsz]; exact hs.base, fun c o h => ?_, fun k p h => by rw [hsz]; exact hs.dom k p h, fun k p o h1 h2 => ?_, hs.inj, hs.fresh⟩
  · obtain ⟨h1, h2⟩ := hs.old c o h
    exact ⟨h1, by rw [hoth c (by omega)]; exact h2⟩
  · rw [hoth _ (hfree k p h1 (by rw [h2]; simp))]
    exact hs.obj k p o h1 h2
theorem Sim.allocM {ρ : Rn} {s : St} {w : World} (hs : Sim B ρ s w) (ob : Obj) : Sim B ρ s (w.alloc ob) ∧ Step B ρ s w ρ s (w.alloc ob) := by
  have hsz : (w.alloc ob).heap.size = w.heap.size + 1 := by show (w.heap.push ob).size = _; simp
  have hold : ∀ j, j < w.heap.size → (w.alloc ob).heap[j]? = w.heap[j]? := fun j hj => Below.heap_alloc w ob j hj
  have hbase := hs.base
  refine ⟨⟨by omega, fun b o h => ?_, fun k p h => ?_, fun k p o h1 h2 => ?_, hs.inj, hs.fresh⟩, Le.refl ρ, (Below.refl B w).alloc hs.base ob, Nat.le_refl _, rfl, fun _ _ h => ⟨h, rfl⟩, fun b hb hn => ⟨hold b hb, hn⟩, by omega⟩
  · obtain ⟨h1, h2⟩ := hs.old b o h
    exact ⟨h1, by rw [hold b (by omega)]; exact h2⟩
  · obtain ⟨a, b, c⟩ := hs.dom k p h
    exact ⟨a, b, by omega⟩
  · rw [hold _ (hs.dom k p h1).2.2]; exact hs.obj k p o h1 h2
def putB (w : World) (l : Nat) (o : Obj) : World := { w with heap := w.heap.setIfInBounds l o }
theorem putB_other (w : World) (l : Nat) (o : Obj) {j : Nat} (h : j ≠ l) : (putB w l o).heap[j]? = w.heap[j]? := by
  show (w.heap.setIfInBounds l o)[j]? = _
  rw [Array.getElem?_setIfInBounds, if_neg (fun e => h e.symm)]
theorem putB_same (w : World) (l : Nat) (o : Obj) (h : l < w.heap.size) : (putB w l o).heap[l]? = some o := by
  show (w.heap.setIfInBounds l o)[l]? = _
  rw [Array.getElem?_setIfInBounds]; simp [h]
theorem putB_size (w : World) (l : Nat) (o : Obj) : (putB w l o).heap.size = w.heap.size := by show (w.heap.setIfInBounds l o).size = _; simp
theorem putB_below {w : World} {l : Nat} (o : Obj) (h : B ≤ l) : Below B w (putB w l o) := ⟨rfl, rfl, rfl, by rw [putB_size]; exact Nat.le_refl _, fun j hj => putB_other w l o (by omega)⟩
theorem Sim.loopSet {ρ : Rn} {s : St} {w : World} (hs : Sim B ρ s w) {k : Nat} {p : Pl} (hk : ρ k = some p) {st st' : LoopSt} (ho : s.new k = some (.loop st)) :
    ∃ r : Loop, w.heap[p.blk]? = some (.loop r) ∧ p.rc = some ⟨r.fn, r.tmps, r.params, r.assign, r.body⟩ ∧ LoopR st r ∧
      ∀ (x : LoopState) (c : Option Code), LoopR st' { r with state := x, pending := c } → Sim B ρ (s.set k (.loop st')) (putB w p.blk (.loop { r with state := x, pending := c })) ∧ Step B ρ s w ρ (s.set k (.loop st')) (putB w p.blk (.loop { r with state := x, pending := c })) := by
  obtain ⟨r, h1, h2, h3⟩ := hs.obj k p _ hk ho
  obtain ⟨hkn, hB, hlt⟩ := hs.dom k p hk
  refine ⟨r, h1, h2, h3, fun x c hx => ⟨hs.upd hk ho (putB_size ..) (fun j hj => putB_other _ _ _ hj) ⟨_, putB_same _ _ _ hlt, h2, hx⟩, Step.upd hk (putB_below _ hB) (putB_size ..) (fun j hj => putB_other _ _ _ hj)⟩⟩
theorem run_getObj {w : World} {l : Nat} {o : Obj} (h : w.heap[l]? = some o) (hc : ∀ c e f, o ≠ .cells c e f) : (getObj l).run P w = .ok o w := by
  cases o <;> first | (exact absurd rfl (hc _ _ _)) | simp only [getObj, Sem.run, h]
theorem run_setObj {w : World} {l : Nat} {o : Obj} (h : w.heap[l]? = some o) (hc : ∀ c e f, o ≠ .cells c e f) (o' : Obj) : (setObj l o').run P w = .ok () (putB w l o') := by
  cases o <;> first | (exact absurd rfl (hc _ _ _)) | simp only [setObj, Sem.run, h, putB]
theorem run_getLoop {w : World} {l : Nat} {r : Loop} (h : w.heap[l]? = some (.loop r)) : (Instr.getLoop l).run P w = .ok r w := by
  simp only [Instr.getLoop, Sem.run_bind, run_getObj h (by simp), Result.andThen_ok, Sem.run_pure]
theorem run_beginRound {w : World} {l : Nat} {r : Loop} (h : w.heap[l]? = some (.loop r)) (hr : r.state = .ready) : (Instr.beginRound l).run P w = .ok () (putB w l (.loop { r with state := .busy })) := by
  simp only [Instr.beginRound, Sem.run_bind, run_getLoop h, Result.andThen_ok, run_setObj h (by simp), hr, Sem.run_pure]
theorem run_endRound {w : World} {l : Nat} {r : Loop} (h : w.heap[l]? = some (.loop r)) (j : Option Code) : (Instr.endRound l j).run P w = .ok (.bool j.isNone) (putB w l (.loop { r with state := if j.isNone then .ready else .done, pending := j })) := by
  simp only [Instr.endRound, Sem.run_bind, run_getLoop h, Result.andThen_ok, run_setObj h (by simp), Sem.run_pure]
theorem run_endLoop {w : World} {l : Nat} {r : Loop} (h : w.heap[l]? = some (.loop r)) (hr : r.state ≠ .busy) : (Instr.endLoop l).run P w = .ok r.pending (putB w l (.loop { r with state := .exhausted })) := by
  have hb : (r.state == .busy) = false := by cases hs : r.state <;> first | rfl | exact absurd hs hr
  simp only [Instr.endLoop, Sem.run_bind, run_getLoop h, Result.andThen_ok, hb, Bool.false_eq_true, if_false, run_setObj h (by simp), Sem.run_pure]
theorem run_takeDeferred {w : World} {l : Nat} (h : w.heap[l]? = some (.deferred (some []))) : (Instr.takeDeferred l).run P w = .ok [] (putB w l (.deferred none)) := by
  simp only [Instr.takeDeferred, Sem.run_bind, run_getObj h (by simp), Result.andThen_ok, run_setObj h (by simp), Sem.run_pure]
theorem Step.killPut {ρ : Rn} {s : St} {w : World} {k : Nat} {p : Pl} (hk : ρ k = some p) (hB : B ≤ p.blk) (o : Obj) : Step B ρ s w ρ (s.kill k) (putB w p.blk o) := by
  refine ⟨Le.refl ρ, putB_below o hB, Nat.le_refl _, rfl, fun j _ hj => ⟨hj, ?_⟩, fun b _ hn => ⟨putB_other _ _ _ (fun e => hn k p hk e.symm), hn⟩, by rw [putB_size]; exact Nat.le_refl _⟩
  simp only [St.kill]
  rw [if_neg]; rintro rfl; rw [hk] at hj; cases hj
theorem Sim.killPut {ρ : Rn} {s : St} {w : World} (hs : Sim B ρ s w) {k : Nat} {p : Pl} {o0 : O} (hk : ρ k = some p) (ho : s.new k = some o0) (o : Obj) : Sim B ρ (s.kill k) (putB w p.blk o) := by
  refine (hs.kill (k := k)).other (hs.dom k p hk).2.1 (putB_size ..) (fun j hj => putB_other _ _ _ hj) fun j q hj hn e => ?_
  have hjk : j ≠ k := by rintro rfl; exact hn (by simp [St.kill])
  have hn' : s.new j ≠ none := by simpa [St.kill, hjk] using hn
  exact hjk (hs.inj j k q p hj hk hn' (by rw [ho]; simp) e)
theorem VRs_putAll {ρ : Rn} : ∀ (ps : List Nat) {e : Env} {args : List V} {l : List Value} {cargs : List Value}, VRs ρ e l → VRs ρ args cargs →
    VRs ρ (putAll e ps args) ((ps.zip cargs).foldl (fun (t : List Value) (x : Nat × Value) => t.set x.1 x.2) l)
  | [], e, args, l, cargs, he, ha => by simpa [putAll] using he
  | p :: ps, e, [], l, cargs, he, ha => by cases (show cargs = [] from ha); simpa [putAll] using he
  | p :: ps, e, v :: vs, l, cargs, he, ha => by
    obtain ⟨y, ys, rfl, h1, h2⟩ := ha
    simp only [putAll, List.zip_cons_cons, List.foldl_cons]
    exact VRs_putAll ps (VRs_set he p h1) h2
theorem foldl_set_list (ps : List (Nat × Value)) : ∀ t : Array Value, (ps.foldl (fun (t : Array Value) (x : Nat × Value) => t.setIfInBounds x.1 x.2) t).toList = ps.foldl (fun (t : List Value) (x : Nat × Value) => t.set x.1 x.2) t.toList := by
  induction ps with
  | nil => intro t; rfl
  | cons x ps ih => intro t; simp only [List.foldl_cons, ih, Array.toList_setIfInBounds]
theorem fen_in (l : Nat) : Fence.wide.inRound l = fen (some l) := rfl
theorem round_ok {m : Nat} (ihG : GoOk P F m) {nt : Nat} {exa exb : List (Nat × Nat)} {rta outa rtb outb : Nat} {assign body : Code} {ix iy : IC × Nat}
    (hx : compC P nt false exa rta outa assign = some ix) (hy : compC P nt false exb rtb outb body = some iy) {ρ0 : Rn} {Y : Yt} (hY : YOk P B ρ0 Y)
    {fn : FuncId} {tmps : Array Value} {ps : Array Tmp} {e : Env} {k : Nat} {pl : Pl} (hrc : pl.rc = some ⟨fn, tmps, ps, assign, body⟩)
    {args : List V} {t : St} {v : V} {t' : St} (h : roundI (LC F m Y) ps.toList ix.1 iy.1 e k args t = some (v, t'))
    {ρ : Rn} {w : World} {cargs : Array Value} (hle : Le ρ0 ρ) (he : VRs ρ e tmps.toList) (ha : VRs ρ args cargs.toList) (hs : Sim B ρ t w) (hk : ρ k = some pl) :
    ∃ fn tmps assign body, (Instr.yield pl.blk cargs).run P w = .ok (.round pl.blk fn tmps assign body) w ∧ RoundIn Fence.wide 0 P pl.blk fn tmps assign body w (Left B ρ t w v t') := by
  unfold roundI at h
  split at h
  · rename_i hlen
    split at h
    · rename_i hst
      obtain ⟨r, h1, h2, -⟩ := hs.loopSet (st' := .ready) hk hst
      rw [hrc] at h2
      simp only [Option.some.injEq, RcS.mk.injEq] at h2
      obtain ⟨rfl, rfl, rfl, rfl, rfl⟩ := h2
      have hal := VRs_length ha
      refine ⟨r.fn, (r.params.zip cargs).foldl (fun tmps (x : Nat × Value) => tmps.setIfInBounds x.1 x.2) r.tmps, r.assign, r.body, ?_, roundIn_of_wpIn trivial ?_⟩
      · simp only [Instr.yield, Sem.run_bind, run_getLoop h1, Result.andThen_ok]
        rw [if_neg (by simp at hal hlen; omega)]
        rfl
      · rw [fen_in]
        refine Code.wpIn_mono ?_ (ihG nt false r.assign exa rta outa ix hx B w.heap.size ρ0 Y hY (some pl.blk) (.inr rfl) _ t _ _ h ρ { tmps := (r.params.zip cargs).foldl (fun tmps (x : Nat × Value) => tmps.setIfInBounds x.1 x.2) r.tmps, defers := [] } w hle (ActOk.nil (Nat.le_refl _)) ?_ hs)
        · rintro X a1 w1 ⟨x, e1, s1, hxr, ⟨ρ1, k1, k2, k3, k4⟩, hK⟩
          cases x with
          | exit i => cases hK
          | ret => cases hK
          | normal =>
            cases X <;> first | (cases hxr; done) | skip
            simp only [roundMid] at hK
            split at hK
            · rename_i hst1
              have hk1 := k3.le k pl hk
              obtain ⟨r1, q1, q2, q3, q4⟩ := k2.loopSet (st' := .busy) hk1 hst1
              have q5 := q4 .busy r1.pending rfl
              refine ⟨_, run_beginRound q1 q3.1, ?_⟩
              refine Code.wpIn_mono ?_ (ihG nt false r.body exb rtb outb iy hy B w.heap.size ρ0 Y hY (some pl.blk) (.inr rfl) _ _ _ _ hK ρ1 a1 _ (hle.trans k3.le) (k4.step q5.2 rfl) k1 q5.1)
              rintro X2 a2 w2 ⟨x2, e2, s2, hxr2, ⟨ρ2, l1, l2, l3, l4⟩, hK2⟩
              simp only [roundEnd] at hK2
              split at hK2
              · rename_i hst2
                simp only [Option.some.injEq, Prod.mk.injEq] at hK2
                obtain ⟨rfl, rfl⟩ := hK2
                have hk2 := l3.le k pl hk1
                obtain ⟨r2, n1, n2, n3, n4⟩ := l2.loopSet (st' := endSt x2) hk2 hst2
                have hfin : Step B ρ t w ρ2 s2 w2 := k3.trans (q5.2.trans l3)
                cases x2 with
                | normal =>
                  cases X2 <;> first | (cases hxr2; done) | skip
                  obtain ⟨m1, m2⟩ := n4 .ready none ⟨rfl, rfl⟩
                  exact ⟨_, _, run_endRound n1 none, ρ2, _, rfl, rfl, m1, hfin.trans m2⟩
                | exit i =>
                  cases X2 <;> first | (cases hxr2; done) | skip
                  cases (show i = _ from hxr2)
                  obtain ⟨m1, m2⟩ := n4 .done (some (.exit i)) ⟨rfl, _, rfl, rfl⟩
                  exact ⟨_, _, run_endRound n1 _, ρ2, _, rfl, rfl, m1, hfin.trans m2⟩
                | ret =>
                  cases X2 <;> first | (cases hxr2; done) | skip
                  obtain ⟨m1, m2⟩ := n4 .done (some .ret) ⟨rfl, _, rfl, rfl⟩
                  exact ⟨_, _, run_endRound n1 _, ρ2, _, rfl, rfl, m1, hfin.trans m2⟩
              · cases hK2
            · cases hK
        · have := VRs_putAll r.params.toList he ha
          rw [← Array.foldl_toList, Array.toList_zip, foldl_set_list]
          exact this
    · cases h
  · cases h
theorem range_ok {m : Nat} (ihG : GoOk P F m) (hC : ∀ ρ0 Y, YOk P B ρ0 Y → CallsOk P B ρ0 (LC F m Y).2) {nt : Nat} {exa exb : List (Nat × Nat)} {rta outa rtb outb : Nat} {assign body : Code} {ix iy : IC × Nat}
    (hx : compC P nt false exa rta outa assign = some ix) (hy : compC P nt false exb rtb outb body = some iy) {ρ0 : Rn} {Y : Yt} (hY : YOk P B ρ0 Y)
    {g : Operand} {ps : Array Tmp} {e : Env} {s : St} {K : Kt} {r : V × St} (h : rangeI (LC F m) Y (argOf g) ps.toList ix.1 iy.1 e s K = some r)
    {ρ : Rn} {a : Act} {w : World} (hle : Le ρ0 ρ) (hact : ActOk N ρ w a) (he : VRs ρ e a.tmps.toList) (hs : Sim B ρ s w) :
    (Code.rangeFunc g ps assign body).wpIn (fen none) 0 P (QK B N K r ρ s w) a w := by
  unfold rangeI at h
  split at h
  · rename_i gf pre caps hg
    split at h
    · rename_i h0
      simp only [Option.bind_eq_some_iff] at h
      obtain ⟨⟨v, s2⟩, hcall, hend⟩ := h
      have hgv := eval_VR he g
      rw [hg] at hgv
      obtain ⟨p', c', hfe, hp, hcp⟩ : ∃ p' c', a.eval g = .func (.func gf) p' c' ∧ VRs ρ pre p'.toList ∧ VRs ρ caps c'.toList := by
        rcases hgv with ⟨_, p', c', h1, h2, h3⟩ | ⟨h1, _⟩
        · exact ⟨p', c', h1, h2, h3⟩
        · omega
      refine wpIn_rangeFunc fun fn _ => ?_
      have hsz : (w.alloc (.deferred (some []))).heap.size = w.heap.size + 1 := by show (w.heap.push _).size = _; simp
      let pl : Pl := ⟨w.heap.size + 1, 0, 0, 0, some ⟨fn, a.tmps, ps, assign, body⟩⟩
      let rec_ : Loop := { state := .ready, pending := none, fn := fn, tmps := a.tmps, params := ps, assign := assign, body := body, defers := w.heap.size }
      obtain ⟨d1, d2⟩ := hs.allocM (.deferred (some []))
      have a1 := d1.alloc (.loop .ready) (.loop rec_) pl hsz.symm ⟨rec_, rfl, rfl, rfl, rfl⟩
      have a2 := d2.trans (Step.alloc d1 (.loop .ready) (.loop rec_) pl hsz.symm)
      have hk1 : (ρ.put s.next pl) s.next = some pl := by simp [Rn.put]
      have hY1 : YOk P B (ρ.put s.next pl) (withY Y s.next (roundI (LC F m Y) ps.toList ix.1 iy.1 e s.next)) := by
        intro j args t v t' hyj ρ2 w2 cargs p hle2 ha2 hs2 hp2
        unfold withY at hyj
        split at hyj
        · rename_i hj
          subst hj
          have hp3 := hle2 _ _ hk1
          rw [hp3] at hp2
          cases hp2
          exact round_ok ihG hx hy hY rfl hyj ((hle.trans a2.le).trans hle2) (VRs_mono (a2.le.trans hle2) _ _ he) ha2 hs2 hp3
        · exact hY j args t v t' hyj ρ2 w2 cargs p ((hle.trans a2.le).trans hle2) ha2 hs2 hp2
      obtain ⟨hent, hcs⟩ := (hC _ _ hY1 gf _ _ v s2 hcall).1 h0
      refine ⟨w.heap.size + 1, [{ target := .collected w.heap.size, args := #[] }], (w.alloc (.deferred (some []))).alloc (.loop rec_), { target := .fn (.func gf) c', args := p' ++ #[Value.func (.yield (w.heap.size + 1)) #[] #[]] }, (w.alloc (.deferred (some []))).alloc (.loop rec_), gf,
        (p' ++ #[Value.func (.yield (w.heap.size + 1)) #[] #[]]) ++ c', (w.alloc (.deferred (some []))).alloc (.loop rec_), ?_, ?_, fun _ _ => trivial, ?_, fun hd => by simp [fen, Fence.wide] at hd, ?_⟩
      · rw [← hsz]; rfl
      · simp only [resolve, rangeCall, hfe, Sem.run_bind, Deferred.ofValue, Sem.run_pure, Result.andThen_ok]
        simp [Act.eval]
      · exact callFunc_enters hent _ _
      · have hargs : VRs (ρ.put s.next pl) (pre ++ [.func (yBase + s.next) [] []] ++ caps) ((p' ++ #[Value.func (.yield (w.heap.size + 1)) #[] #[]]) ++ c').toList := by
          simp only [Array.toList_append]
          refine VRs_append (VRs_append (VRs_mono a2.le _ _ hp) (VRs_cons (.inr ⟨by omega, rfl, rfl, pl, ?_, rfl⟩) VRs_nil)) (VRs_mono a2.le _ _ hcp)
          rw [show yBase + s.next - yBase = s.next from by omega]; exact hk1
        have hcl := hcs (ρ.put s.next pl) _ _ (Le.refl _) hargs a1
        refine CallsIn.mono (F := fen none) hcl ?_
        rintro en w3 ⟨ρ4, v', rfl, hv, k2, k3⟩
        have hk4 := k3.le _ _ hk1
        have hB4 := (k2.dom _ _ hk4).2.1
        have hfull : Step B ρ s w ρ4 s2 w3 := a2.trans k3
        have hmark : ∀ o, Kept N ρ4 (putB w3 pl.blk o) [w.heap.size] := by
          intro o
          have hk0 : Kept N (ρ.put s.next pl) ((w.alloc (.deferred (some []))).alloc (.loop rec_)) [w.heap.size] := by
            refine ⟨by simp, fun r hr => ?_⟩
            simp only [List.mem_singleton] at hr; subst hr
            refine ⟨hact.1, ?_, fun k p hkp => ?_, ?_⟩
            · have : ((w.alloc (.deferred (some []))).alloc (.loop rec_)).heap.size = w.heap.size + 2 := by show ((w.heap.push _).push _).size = _; simp
              omega
            · unfold Rn.put at hkp
              split at hkp
              · cases hkp; show w.heap.size + 1 ≠ w.heap.size; omega
              · have := (hs.dom k p hkp).2.2; omega
            · show ((w.heap.push _).push _)[w.heap.size]? = _
              rw [Array.getElem?_push_lt (by simp)]; simp
          exact (hk0.step k3).step (Step.killPut (s := s2) hk4 hB4 o)
        have hactf : ∀ o, ActOk N ρ4 (putB w3 pl.blk o) { a with defers := [{ target := .collected w.heap.size, args := #[] }] ++ a.defers } := by
          intro o
          obtain ⟨hN, l, hl1, hl2⟩ := hact
          have hl3 := hl2.step (hfull.trans (Step.killPut hk4 hB4 o))
          have hm := hmark o
          refine ⟨by rw [putB_size]; exact Nat.le_trans hN hfull.size, w.heap.size :: l, by simp [Marks, hl1], List.nodup_cons.2 ⟨fun hin => ?_, hl3.1⟩, fun r hr => ?_⟩
          · have := (hl2.2 _ hin).2.1; omega
          · rcases List.mem_cons.1 hr with rfl | hr
            · exact hm.2 _ (List.mem_singleton.2 rfl)
            · exact hl3.2 r hr
        unfold rangeEnd at hend
        split at hend
        · rename_i hst
          obtain ⟨r2, n1, n2, n3, -⟩ := k2.loopSet (st' := .ready) hk4 hst
          refine ⟨_, _, run_endLoop n1 (by rw [n3.1]; simp), ?_⟩
          rw [n3.2]
          exact ⟨.normal, e, _, trivial, ⟨ρ4, VRs_mono hfull.le _ _ he, k2.killPut hk4 hst _, hfull.trans (Step.killPut hk4 hB4 _), hactf _⟩, hend⟩
        · rename_i i hst
          obtain ⟨r2, n1, n2, n3, -⟩ := k2.loopSet (st' := .ready) hk4 hst
          obtain ⟨n3, c, n5, n4⟩ := n3
          cases n5
          refine ⟨_, _, run_endLoop n1 (by rw [n3]; simp), ?_⟩
          rw [n4]
          exact wpIn_exit ⟨.exit i, e, _, rfl, ⟨ρ4, VRs_mono hfull.le _ _ he, k2.killPut hk4 hst _, hfull.trans (Step.killPut hk4 hB4 _), hactf _⟩, hend⟩
        · rename_i hst
          obtain ⟨r2, n1, n2, n3, -⟩ := k2.loopSet (st' := .ready) hk4 hst
          obtain ⟨n3, c, n5, n4⟩ := n3
          cases n5
          refine ⟨_, _, run_endLoop n1 (by rw [n3]; simp), ?_⟩
          rw [n4]
          exact wpIn_ret ⟨.ret, e, _, trivial, ⟨ρ4, VRs_mono hfull.le _ _ he, k2.killPut hk4 hst _, hfull.trans (Step.killPut hk4 hB4 _), hactf _⟩, hend⟩
        · cases hend
    · cases h
  · cases h
include hm in
theorem go_ok (n : Nat) (hC : ∀ m, m ≤ n → ∀ B ρ0 Y, YOk P B ρ0 Y → CallsOk P B ρ0 (LC F m Y).2) (ih : ∀ m, m < n → GoOk P F m) : GoOk P F n := by
  intro nt rg c
  induction c with
  | skip =>
    intro ex rt out ic hc B N ρ0 Y hY ro hro e s K r hg ρ a w hle hact he hs
    simp only [compC, Option.some.injEq] at hc; subst hc
    simp only [go, goOps] at hg
    exact wpIn_skip ⟨.normal, _, s, trivial, ⟨ρ, VRs_mask _ he, hs, Step.refl _ _ _ _, hact⟩, hg⟩
  | region id ops draw =>
    intro ex rt out ic hc B N ρ0 Y hY ro hro e s K r hg ρ a w hle hact he hs
    obtain ⟨iis, hi, ⟨rfl, hic⟩ | ⟨rfl, hok, hic⟩⟩ := compC_region hc
    · rw [hic] at hg
      simp only [go, goOps_run, Option.bind_eq_some_iff] at hg
      obtain ⟨⟨e', s'⟩, hr, hK⟩ := hg
      refine wpIn_region_list ?_
      refine runOps_ok (hC n (Nat.le_refl n) B ρ0 Y hY) ops.toList iis hi hr hle he hs ?_
      intro a' w' hA
      obtain ⟨ρ', h1, h2, h3, h4⟩ := hA.c hact
      exact ⟨.normal, _, s', trivial, ⟨ρ', VRs_mask _ h1, h2, h3, h4⟩, hK⟩
    · rw [hic] at hg
      simp only [go, goOps_run, Option.bind_eq_some_iff] at hg
      obtain ⟨⟨e', s'⟩, hr, hK⟩ := hg
      refine draw_ok hm (hC n (Nat.le_refl n) B ρ0 Y hY) hi hok hle hr he hs ?_
      intro a' w' hA
      obtain ⟨ρ', h1, h2, h3, h4⟩ := hA.c hact
      exact ⟨.normal, _, s', trivial, ⟨ρ', VRs_mask _ h1, h2, h3, h4⟩, hK⟩
  | seq x y ihx ihy =>
    intro ex rt out ic hc B N ρ0 Y hY ro hro e s K r hg ρ a w hle hact he hs
    simp only [compC, Option.bind_eq_bind, Option.pure_def, Option.bind_eq_some_iff, Option.some.injEq] at hc
    obtain ⟨iy, hy, ix, hx, rfl⟩ := hc
    simp only [go] at hg
    refine wpIn_seq (Code.wpIn_mono ?_ (ihx _ _ _ ix hx B N ρ0 Y hY ro hro e s _ r hg ρ a w hle hact he hs))
    refine QK_then (fun e' s' a' w' hA hK => ?_) (fun i e' s' a' w' hA hK => ?_) (fun e' s' a' w' hA hK => ?_)
    · obtain ⟨ρ', h1, h2, h3, h4⟩ := hA
      exact Code.wpIn_mono (fun X a2 w2 h => QK_trans h3 h) (ihy _ _ _ iy hy B N ρ0 Y hY ro hro e' s' K r hK ρ' a' w' (hle.trans h3.le) h4 h1 h2)
    · exact ⟨.exit i, e', s', rfl, hA, hK⟩
    · exact ⟨.ret, e', s', trivial, hA, hK⟩
  | cond c x y ihx ihy =>
    intro ex rt out ic hc B N ρ0 Y hY ro hro e s K r hg ρ a w hle hact he hs
    simp only [compC, Option.bind_eq_bind, Option.pure_def, Option.bind_eq_some_iff, Option.some.injEq] at hc
    obtain ⟨ix, hx, iy, hy, rfl⟩ := hc
    simp only [go] at hg
    have hcv := eval_VR he c
    split at hg
    · rename_i hb
      rw [hb] at hcv
      exact wpIn_cond_true (VR_bool hcv) (ihx _ _ _ ix hx B N ρ0 Y hY ro hro e s K r hg ρ a w hle hact he hs)
    · rename_i hb
      rw [hb] at hcv
      exact wpIn_cond_false (VR_bool hcv) (ihy _ _ _ iy hy B N ρ0 Y hY ro hro e s K r hg ρ a w hle hact he hs)
    · cases hg
  | block id x ihx =>
    intro ex rt out ic hc B N ρ0 Y hY ro hro e s K r hg ρ a w hle hact he hs
    simp only [compC, Option.bind_eq_bind, Option.pure_def, Option.bind_eq_some_iff, Option.some.injEq] at hc
    obtain ⟨ix, hx, rfl⟩ := hc
    simp only [go] at hg
    refine wpIn_block (Code.wpIn_mono ?_ (ihx _ _ _ ix hx B N ρ0 Y hY ro hro e s _ r hg ρ a w hle hact he hs))
    rintro X a' w' ⟨x, e', s', hxr, hA, hK⟩
    cases x <;> cases X <;> first | (cases hxr; done) | skip
    · exact ⟨.normal, e', s', trivial, hA, hK⟩
    · rename_i i j
      cases (show i = j from hxr)
      simp only [Exit.inBlock]
      simp only at hK
      split at hK
      · rename_i hid; rw [if_pos hid]; exact ⟨.normal, e', s', trivial, hA, hK⟩
      · rename_i hid; rw [if_neg hid]; exact ⟨.exit i, e', s', rfl, hA, hK⟩
    · exact ⟨.ret, e', s', trivial, hA, hK⟩
  | loop x ihx =>
    intro ex rt out ic hc B N ρ0 Y hY ro hro e s K r hg ρ a w hle hact he hs
    simp only [compC, Option.bind_eq_bind, Option.pure_def, Option.bind_eq_some_iff, Option.some.injEq] at hc
    obtain ⟨i0, h0, ix, hx, rfl⟩ := hc
    change go (LC F n Y).1 (LC F n Y).2 (.loop (.seq ix.1 (.region [] (keepOf nt i0.2)))) (maskEnv (keepOf nt i0.2) e) s K = some r at hg
    generalize keepOf nt i0.2 = keep at hg
    generalize hbd : IC.seq ix.1 (.region [] keep) = body at hg
    let J : Nat → Act → World → Prop := fun m a' w' => m ≤ n ∧ ∃ e' s', AfterC B N ρ s w e' s' a' w' ∧ go (LC F m Y).1 (LC F m Y).2 (.loop body) e' s' K = some r
    refine wpIn_loop (fun a' w' => ∃ m, J m a' w') (fun a' w' => least fun m => J m a' w') ⟨n, Nat.le_refl n, _, s, ⟨ρ, VRs_mask keep he, hs, Step.refl _ _ _ _, hact⟩, hg⟩ ?_
    intro a1 w1 hex
    obtain ⟨hJ, hmin⟩ := least_spec hex
    generalize hmm : (least fun m => J m a1 w1) = m at hJ hmin
    obtain ⟨hmn, e1, s1, ⟨ρ1, h1, h2, h3, h4⟩, hg1⟩ := hJ
    rw [← hbd] at hg1
    simp only [go, goOps] at hg1
    rw [hbd] at hg1
    let K1 : Kt := fun
      | .normal, e, s => (LC F m Y).1 (.loop body) (maskEnv keep e) s K
      | .exit i, e, s => K (.exit i) e s
      | .ret, e, s => K .ret e s
    have hbody : x.wpIn (fen ro) 0 P (QK B N K1 r ρ1 s1 w1) a1 w1 := by
      rcases Nat.lt_or_ge m n with hlt | hge
      · exact ih m hlt nt rg x _ _ _ ix hx B N ρ0 Y hY ro hro e1 s1 _ r hg1 ρ1 a1 w1 (hle.trans h3.le) h4 h1 h2
      · have : m = n := by omega
        subst this
        exact ihx _ _ _ ix hx B N ρ0 Y hY ro hro e1 s1 _ r hg1 ρ1 a1 w1 (hle.trans h3.le) h4 h1 h2
    refine Code.wpIn_mono ?_ hbody
    refine QK_then (fun e' s' a' w' hA hK => ?_) (fun i e' s' a' w' hA hK => ?_) (fun e' s' a' w' hA hK => ?_)
    · cases m with
      | zero => exact absurd (show (none : Res) = some r from hK) (by simp)
      | succ j =>
        have hA' : AfterC B N ρ1 s1 w1 (maskEnv keep e') s' a' w' := by
          obtain ⟨ρ', q1, q2⟩ := hA
          exact ⟨ρ', VRs_mask _ q1, q2⟩
        have hJ' : J j a' w' := ⟨by omega, _, s', AfterC.trans h3 hA', hK⟩
        have := (least_spec (p := fun m => J m a' w') ⟨j, hJ'⟩).2 j hJ'
        exact ⟨⟨j, hJ'⟩, by omega⟩
    · exact ⟨.exit i, e', s', rfl, AfterC.trans h3 hA, hK⟩
    · exact ⟨.ret, e', s', trivial, AfterC.trans h3 hA, hK⟩
  | rangeFunc g ps x y ihx ihy =>
    intro ex rt out ic hc B N ρ0 Y hY ro hro e s K r hg ρ a w hle hact he hs
    simp only [compC] at hc
    split at hc
    · rename_i hrg
      have hro' : ro = none := hro.resolve_right (by rw [hrg]; simp)
      subst hro'
      simp only [Option.bind_eq_bind, Option.pure_def, Option.bind_eq_some_iff, Option.some.injEq] at hc
      obtain ⟨iy, hy, ix, hx, rfl⟩ := hc
      simp only [go, goOps] at hg
      cases n with
      | zero => exact absurd hg (by simp [LC])
      | succ m =>
        have hg' : rangeI (LC F m) Y (argOf g) ps.toList ix.1 iy.1 _ s _ = some r := hg
        refine Code.wpIn_mono ?_ (range_ok (ih m (by omega)) (hC m (by omega) B) hx hy hY hg' hle hact (VRs_mask _ he) hs)
        rintro X a' w' ⟨x, e', s', hxr, hA, hK⟩
        cases x <;> cases X <;> first | (cases hxr; done) | skip
        · obtain ⟨ρ', h1, h2, h3, h4⟩ := hA
          exact ⟨.normal, _, s', trivial, ⟨ρ', VRs_mask _ h1, h2, h3, h4⟩, hK⟩
        · exact ⟨.exit _, _, s', hxr, hA, hK⟩
        · exact ⟨.ret, _, s', trivial, hA, hK⟩
    · cases hc
  | exit id =>
    intro ex rt out ic hc B N ρ0 Y hY ro hro e s K r hg ρ a w hle hact he hs
    simp only [compC, Option.some.injEq] at hc; subst hc
    simp only [go, goOps] at hg
    exact wpIn_exit ⟨.exit id, _, s, rfl, ⟨ρ, VRs_mask _ he, hs, Step.refl _ _ _ _, hact⟩, hg⟩
  | ret =>
    intro ex rt out ic hc B N ρ0 Y hY ro hro e s K r hg ρ a w hle hact he hs
    simp only [compC, Option.some.injEq] at hc; subst hc
    simp only [go, goOps] at hg
    exact wpIn_ret ⟨.ret, _, s, trivial, ⟨ρ, VRs_mask _ he, hs, Step.refl _ _ _ _, hact⟩, hg⟩
  | _ => intro ex rt out ic hc; simp [compC] at hc
def readRes (tmps : Array Value) : ResultVar → Sem Value
  | .tmp t => pure (tmps.getD t undef)
  | .cell a t => do loadVar t (← asAddr (tmps.getD a undef))
theorem results_eq (fn : Func) (tmps : Array Value) : results fn tmps = (do
    let vs ← fn.results.mapM (readRes tmps)
    pure (if h : vs.size = 1 then vs[0] else .tuple vs)) := by
  unfold results
  congr 1
theorem resultsI_ok {ρ : Rn} {s : St} {w : World} {tmps : Array Value} {e : Env} (he : VRs ρ e tmps.toList) (hs : Sim B ρ s w) : ∀ (l : List ResultVar) (rs : List (Nat × Option (Option Nat))) (vs : List V),
    l.mapM (resOf P) = some rs → resultsI e s rs = some vs →
    ∃ L : List Value, (l.mapM (readRes tmps)).run P w = .ok L w ∧ VRs ρ vs L
  | [], rs, vs, h, hr => by
    simp at h; subst h
    simp only [resultsI, Option.some.injEq] at hr; subst hr
    exact ⟨[], rfl, rfl⟩
  | .tmp t :: l, rs, vs, h, hr => by
    simp only [List.mapM_cons, resOf, Option.bind_eq_bind, Option.pure_def, Option.bind_some, Option.bind_eq_some_iff, Option.some.injEq] at h
    obtain ⟨rs', h2, rfl⟩ := h
    simp only [resultsI, Option.map_eq_some_iff] at hr
    obtain ⟨vs', h3, rfl⟩ := hr
    obtain ⟨L, h4, h5⟩ := resultsI_ok he hs l rs' vs' h2 h3
    refine ⟨tmps.getD t undef :: L, ?_, VRs_cons (eval_VR (a := ⟨tmps, []⟩) he (.tmp t)) h5⟩
    simp only [List.mapM_cons, readRes, Sem.run_bind, Sem.run_pure, Result.andThen_ok, h4]
  | .cell t ty :: l, rs, vs, h, hr => by
    simp only [List.mapM_cons, resOf, Option.bind_eq_bind, Option.pure_def, Option.bind_eq_some_iff, Option.map_eq_some_iff, Option.some.injEq] at h
    obtain ⟨_, ⟨n, hn, rfl⟩, rs', h2, rfl⟩ := h
    simp only [resultsI, Option.bind_eq_some_iff, Option.map_eq_some_iff] at hr
    obtain ⟨v, hv, vs', h3, rfl⟩ := hr
    obtain ⟨L, h4, h5⟩ := resultsI_ok he hs l rs' vs' h2 h3
    simp only [evalLook] at hv
    have ht := eval_VR (a := ⟨tmps, []⟩) he (.tmp t)
    simp only [argOf] at ht
    split at hv
    · rename_i ad had
      rw [had] at ht
      obtain ⟨c, hc, hp⟩ := ht
      simp only [Option.bind_eq_some_iff] at hv
      obtain ⟨cs, hcs, hv⟩ := hv
      obtain ⟨v', h6, h7⟩ := run_loadVar_ok hn hs hcs hv hp
      refine ⟨v' :: L, ?_, VRs_cons h7 h5⟩
      have hc' : tmps.getD t undef = .pointer (some c) := hc
      simp only [List.mapM_cons, readRes, Sem.run_bind, hc', asAddr, Sem.run_pure, Result.andThen_ok, h6, h4]
    · cases hv
theorem compF_ok {f : Nat} {fn' : IFn} (h : compF P f = some fn') : ∃ fn c nt rt b, P.funcs[f]? = some fn ∧ fn.body = some c ∧ (fn.name == "runtime.NumGoroutine") = false ∧ compC P nt true [] rt rt c = some b ∧ b.1 = fn'.body ∧ fn'.ntmps = fn.ntmps ∧
    fn.results.toList.mapM (resOf P) = some fn'.results := by
  simp only [compF, Option.bind_eq_bind, Option.pure_def, Option.bind_eq_some_iff] at h
  obtain ⟨fn, h1, h⟩ := h
  split at h
  · cases h
  · rename_i hname
    simp only [Option.bind_eq_some_iff, Option.some.injEq] at h
    obtain ⟨c, h2, rs, h3, b, h4, rfl⟩ := h
    exact ⟨fn, c, _, _, b, h1, h2, by simpa using hname, h4, rfl, rfl, h3⟩
theorem leave_marks (hBN : B ≤ N) {fn : Func} {tmps : Array Value} {R : Ending → World → Prop} {ρ : Rn} {s : St} : ∀ (l : List Nat) {w : World}, Kept N ρ w l → Sim B ρ s w →
    (∀ w', Sim B ρ s w' → Below N w w' → w'.heap.size = w.heap.size → ∃ v, (results fn tmps).run P w' = .ok v w' ∧ R (.returned v) w') → LeavesInM Fence.wide 0 P fn tmps R (Marks l) .returning w
  | [], w, hk, hs, h => h w hs (Below.refl N w) rfl
  | r :: l, w, hk, hs, h => by
    obtain ⟨h1, h2, h3, h4⟩ := hk.2 r (List.mem_cons_self ..)
    refine ⟨by simp, .inl ⟨r, _, rfl, run_takeDeferred h4, ?_⟩⟩
    have hb : Below N w (putB w r (.deferred none)) := putB_below _ h1
    refine leave_marks hBN l ⟨(List.nodup_cons.1 hk.1).2, fun q hq => ?_⟩ (hs.other (Nat.le_trans hBN h1) (putB_size ..) (fun j hj => putB_other _ _ _ hj) fun k p hkp _ => h3 k p hkp) fun w' k1 k2 k3 => h w' k1 (hb.trans k2) (k3.trans (putB_size ..))
    obtain ⟨g1, g2, g3, g4⟩ := hk.2 q (List.mem_cons_of_mem _ hq)
    exact ⟨g1, by rw [putB_size]; exact g2, g3, by rw [putB_other _ _ _ (fun e => by subst e; exact (List.nodup_cons.1 hk.1).1 hq)]; exact g4⟩
omit hm in
theorem calls_ok (hF : ∀ f fn, F f = some fn → compF P f = some fn) (n : Nat) (hG : GoOk P F n) {ρ0 : Rn} {Y : Yt} (hY : YOk P B ρ0 Y) : CallsOk P B ρ0 (LC F (n + 1) Y).2 := by
  intro f args s v s' hcall
  simp only [LC] at hcall
  refine ⟨fun hf0 => ?_, fun hf0 ρ w cargs p hle ha hs hp => ?_⟩
  · rw [if_pos hf0] at hcall
    split at hcall
    · rename_i fn' hf
      obtain ⟨fn, c, nt, rt, b, h1, h2, h3, h4, hb, h5, h6⟩ := compF_ok (hF f fn' hf)
      refine ⟨⟨fn, h1, h3, by rw [h2]; rfl⟩, fun ρ w cargs hle hargs hs => ?_⟩
      refine callsIn_of_wp_marks h1 h2 trivial ?_
      have hl := VRs_length hargs
      have he : VRs ρ (initEnv fn' args) (cargs ++ Array.replicate (fn.ntmps - cargs.size) undef).toList := by
        simp only [initEnv, Array.toList_append, Array.toList_replicate]
        refine VRs_append hargs ?_
        rw [h5, hl, Array.length_toList]
        exact VRs_any _ _ (by simp)
      refine Code.wpIn_mono ?_ (hG nt true c [] rt rt b h4 B w.heap.size ρ0 Y hY none (.inl rfl) (initEnv fn' args) s (fin fn') (v, s') (by rw [hb]; exact hcall) ρ _ w hle (ActOk.nil (Nat.le_refl _)) he hs)
      rintro X a' w' ⟨x, e', s1, hxr, ⟨ρ', k1, k2, k3, hN, l, k4, k5⟩, hK⟩
      have hfin : ∃ vs, resultsI e' s1 fn'.results = some vs ∧ s1 = s' ∧ packRes vs = v ∧ (X = .normal ∨ X = .ret) := by
        cases x with
        | exit i => simp [fin] at hK
        | normal =>
          simp only [fin, Option.map_eq_some_iff, Prod.mk.injEq] at hK
          obtain ⟨vs, hv, rfl, rfl⟩ := hK
          cases X <;> first | (cases hxr; done) | skip
          exact ⟨vs, hv, rfl, rfl, .inl rfl⟩
        | ret =>
          simp only [fin, Option.map_eq_some_iff, Prod.mk.injEq] at hK
          obtain ⟨vs, hv, rfl, rfl⟩ := hK
          cases X <;> first | (cases hxr; done) | skip
          exact ⟨vs, hv, rfl, rfl, .inr rfl⟩
      obtain ⟨vs, hv, rfl, hvv, hX⟩ := hfin
      have hlv : LeavesInM Fence.wide 0 P fn a'.tmps (Left B ρ s w v s1) (Marks l) .returning w' := by
        refine leave_marks hs.base l k5 k2 fun w2 q1 q2 q3 => ?_
        obtain ⟨L, hL, hLV⟩ := resultsI_ok (P := P) k1 q1 fn.results.toList fn'.results vs h6 hv
        have hLl := VRs_length hLV
        have hst : Step B ρ s w ρ' s1 w2 := ⟨k3.le, k3.below.trans (q2.mono hs.base), k3.next, k3.old, k3.ghost, fun b hb hn => ⟨(q2.block b hb).trans (k3.keep b hb hn).1, (k3.keep b hb hn).2⟩, by rw [q3]; exact k3.size⟩
        have hres : ∃ v', (results fn a'.tmps).run P w2 = .ok v' w2 ∧ VR ρ' v v' := by
          have hmap : (fn.results.mapM (readRes a'.tmps)).run P w2 = .ok L.toArray w2 := by
            rw [Array.mapM_eq_mapM_toList]
            simp [hL]
          rw [results_eq]
          simp only [Sem.run_bind, hmap, Result.andThen_ok, Sem.run_pure]
          refine ⟨_, rfl, ?_⟩
          subst hvv
          cases L with
          | nil =>
            cases vs with
            | nil => exact ⟨_, rfl, rfl⟩
            | cons _ _ => simp at hLl
          | cons y L =>
            cases vs with
            | nil => simp at hLl
            | cons u vs =>
              cases L with
              | nil =>
                cases vs with
                | nil => exact (VRs_cons_iff.1 hLV).1
                | cons _ _ => simp at hLl
              | cons z L =>
                cases vs with
                | nil => simp at hLl
                | cons u2 vs => exact ⟨_, rfl, hLV⟩
        obtain ⟨v', hr, hvr⟩ := hres
        exact ⟨v', hr, ρ', v', rfl, hvr, q1, hst⟩
      rcases hX with rfl | rfl
      · show LeavesInM _ _ _ _ _ _ _ _ _; rw [k4]; exact hlv
      · show LeavesInM _ _ _ _ _ _ _ _ _; rw [k4]; exact hlv
    · cases hcall
  · rw [if_neg (by omega)] at hcall
    exact hY _ _ _ _ _ hcall ρ w cargs p hle ha hs hp
include hm in
theorem sound (hF : ∀ f fn, F f = some fn → compF P f = some fn) : ∀ n, (∀ B ρ0 Y, YOk P B ρ0 Y → CallsOk P B ρ0 (LC F n Y).2) ∧ GoOk P F n := by
  intro n
  induction n using Nat.strongRecOn with
  | _ n ih =>
    have hC : ∀ B ρ0 Y, YOk P B ρ0 Y → CallsOk P B ρ0 (LC F n Y).2 := by
      intro B ρ0 Y hY
      cases n with
      | zero => intro f args s v s' h; simp [LC] at h
      | succ n => exact calls_ok hF n (ih n (by omega)).2 hY
    exact ⟨hC, go_ok hm n (fun m hm' => by
      rcases Nat.lt_or_ge m n with h | h
      · exact (ih m h).1
      · have : m = n := by omega
        subst this; exact hC) (fun m hm' => (ih m hm').2)⟩
end
end Go.IM

set_option linter.unusedSimpArgs false
set_option linter.unusedVariables false
namespace Go.IM
def Cle (C C' : CallT) : Prop := ∀ f a s r, C f a s = some r → C' f a s = some r
def Lle (L L' : IC → Env → St → Kt → Res) : Prop := ∀ c e s (K K' : Kt) r, (∀ x e s r, K x e s = some r → K' x e s = some r) → L c e s K = some r → L' c e s K' = some r
theorem stepI_mono {C C' : CallT} (hC : Cle C C') {i : II} {e : Env} {s : St} {p : Env × St} (h : stepI C i e s = some p) : stepI C' i e s = some p := by
  unfold stepI at h ⊢
  split at h
  · rename_i hw
    simp only [Option.map_eq_some_iff] at h ⊢
    obtain ⟨q, h, rfl⟩ := h
    refine ⟨q, ?_, rfl⟩
    unfold execI at h ⊢
    split at h
    · exact hC _ _ _ _ h
    · split at h
      · exact hC _ _ _ _ h
      · cases h
    · exact h
  · exact h
  · cases h
theorem goOps_mono {C C' : CallT} (hC : Cle C C') {K K' : Env → St → Res} (hK : ∀ e s r, K e s = some r → K' e s = some r) {r : V × St} :
    ∀ (l : List II) (e : Env) (s : St), goOps C l e s K = some r → goOps C' l e s K' = some r
  | [], e, s, h => hK _ _ _ h
  | i :: l, e, s, h => by
    simp only [goOps, Option.bind_eq_some_iff] at h ⊢
    obtain ⟨p, h1, h2⟩ := h
    exact ⟨p, stepI_mono hC h1, goOps_mono hC hK l _ _ h2⟩
theorem go_mono {L L' : IC → Env → St → Kt → Res} {C C' : CallT} (hL : Lle L L') (hC : Cle C C') {r : V × St} :
    ∀ (c : IC) (e : Env) (s : St) (K K' : Kt), (∀ x e s r, K x e s = some r → K' x e s = some r) → go L C c e s K = some r → go L' C' c e s K' = some r
  | .skip, e, s, K, K', hK, h => hK _ _ _ _ h
  | .region ops keep, e, s, K, K', hK, h => goOps_mono hC (fun _ _ _ h => hK _ _ _ _ h) ops _ _ h
  | .seq a b, e, s, K, K', hK, h => by
    refine go_mono hL hC a e s _ _ (fun x e s r h => ?_) h
    cases x with
    | normal => exact go_mono hL hC b _ _ _ _ hK h
    | exit i => exact hK _ _ _ _ h
    | ret => exact hK _ _ _ _ h
  | .cond c a b, e, s, K, K', hK, h => by
    simp only [go] at h ⊢
    split at h
    · exact go_mono hL hC a _ _ _ _ hK h
    · exact go_mono hL hC b _ _ _ _ hK h
    · cases h
  | .block id a, e, s, K, K', hK, h => by
    refine go_mono hL hC a e s _ _ (fun x e s r h => ?_) h
    cases x with
    | normal => exact hK _ _ _ _ h
    | exit i =>
      simp only at h ⊢
      split at h
      · rename_i hi; rw [if_pos hi]; exact hK _ _ _ _ h
      · rename_i hi; rw [if_neg hi]; exact hK _ _ _ _ h
    | ret => exact hK _ _ _ _ h
  | .loop a, e, s, K, K', hK, h => by
    refine go_mono hL hC a e s _ _ (fun x e s r h => ?_) h
    cases x with
    | normal => exact hL _ _ _ _ _ _ hK h
    | exit i => exact hK _ _ _ _ h
    | ret => exact hK _ _ _ _ h
  | .range f ps a b, e, s, K, K', hK, h => hL _ _ _ _ _ _ hK h
  | .exit i, e, s, K, K', hK, h => hK _ _ _ _ h
  | .ret, e, s, K, K', hK, h => hK _ _ _ _ h
def Yle (Y Y' : Yt) : Prop := ∀ j a s r, Y j a s = some r → Y' j a s = some r
theorem Yle.refl (Y : Yt) : Yle Y Y := fun _ _ _ _ h => h
theorem Yle.no (Y : Yt) : Yle noY Y := fun _ _ _ _ h => by cases h
theorem Yle.withY {Y Y' : Yt} (h : Yle Y Y') {k : Nat} {f f' : List V → St → Res} (hf : ∀ a s r, f a s = some r → f' a s = some r) : Yle (withY Y k f) (withY Y' k f') := by
  intro j a s r hj
  unfold IM.withY at hj ⊢
  split at hj
  · rename_i e; rw [if_pos e]; exact hf _ _ _ hj
  · rename_i e; rw [if_neg e]; exact h _ _ _ _ hj
theorem roundMid_mono {M M' : LT × CallT} (hL : Lle M.1 M'.1) (hC : Cle M.2 M'.2) (b : IC) (k : Nat) : ∀ x e s r, roundMid M b k x e s = some r → roundMid M' b k x e s = some r := by
  intro x e s r h
  cases x with
  | exit i => cases h
  | ret => cases h
  | normal =>
    simp only [roundMid] at h ⊢
    split at h
    · exact go_mono hL hC _ _ _ _ _ (fun _ _ _ _ h => h) h
    · cases h
theorem roundI_mono {M M' : LT × CallT} (hL : Lle M.1 M'.1) (hC : Cle M.2 M'.2) {ps : List Nat} {a b : IC} {e : Env} {k : Nat} : ∀ args t r, roundI M ps a b e k args t = some r → roundI M' ps a b e k args t = some r := by
  intro args t r h
  unfold roundI at h ⊢
  split at h
  · rename_i hl; rw [if_pos hl]
    split at h
    · exact go_mono hL hC _ _ _ _ _ (roundMid_mono hL hC b k) h
    · cases h
  · cases h
theorem rangeEnd_mono {K K' : Kt} (hK : ∀ x e s r, K x e s = some r → K' x e s = some r) {k : Nat} {e : Env} {p : V × St} {r : V × St} (h : rangeEnd k e K p = some r) : rangeEnd k e K' p = some r := by
  unfold rangeEnd at h ⊢
  split at h <;> first | exact hK _ _ _ _ h | cases h
def Mle (M M' : Yt → LT × CallT) : Prop := ∀ Y Y', Yle Y Y' → Lle (M Y).1 (M' Y').1 ∧ Cle (M Y).2 (M' Y').2
theorem rangeI_mono {M M' : Yt → LT × CallT} (hM : Mle M M') {Y Y' : Yt} (hY : Yle Y Y') {f : Arg} {ps : List Nat} {a b : IC} {e : Env} {s : St} {K K' : Kt} {r : V × St} (hK : ∀ x e s r, K x e s = some r → K' x e s = some r)
    (h : rangeI M Y f ps a b e s K = some r) : rangeI M' Y' f ps a b e s K' = some r := by
  unfold rangeI at h ⊢
  split at h
  · split at h
    · rename_i h0
      rw [if_pos h0]
      simp only [Option.bind_eq_some_iff] at h ⊢
      obtain ⟨p, h1, h2⟩ := h
      obtain ⟨m1, m2⟩ := hM Y Y' hY
      exact ⟨p, (hM _ _ (hY.withY (roundI_mono m1 m2))).2 _ _ _ _ h1, rangeEnd_mono hK h2⟩
    · cases h
  · cases h
theorem LC_mle (F : Nat → Option IFn) : ∀ {n m : Nat}, n ≤ m → Mle (LC F n) (LC F m)
  | 0, _, _ => fun _ _ _ => ⟨fun _ _ _ _ _ _ _ h => by simp [LC] at h, fun _ _ _ _ h => by simp [LC] at h⟩
  | n + 1, 0, h => absurd h (by omega)
  | n + 1, m + 1, h => fun Y Y' hY => by
    have hM := LC_mle F (show n ≤ m by omega)
    obtain ⟨h1, h2⟩ := hM Y Y' hY
    refine ⟨fun c e s K K' r hK h => ?_, fun f a s r h => ?_⟩
    · cases c with
      | range f ps a b => exact rangeI_mono hM hY hK h
      | _ => exact go_mono h1 h2 _ e s K K' hK h
    · simp only [LC] at h ⊢
      split at h
      · rename_i h0
        rw [if_pos h0]
        split at h
        · exact go_mono h1 h2 _ _ _ _ _ (fun _ _ _ _ h => h) h
        · cases h
      · rename_i h0
        rw [if_neg h0]
        exact hY _ _ _ _ h
theorem LC_le (F : Nat → Option IFn) {n m : Nat} (h : n ≤ m) (Y : Yt) : Lle (LC F n Y).1 (LC F m Y).1 ∧ Cle (LC F n Y).2 (LC F m Y).2 := LC_mle F h Y Y (Yle.refl Y)
open Classical in
noncomputable def callY (F : Nat → Option IFn) (Y : Yt) : CallT := fun f a s =>
  if h : ∃ n, ((LC F n Y).2 f a s).isSome then (LC F (Classical.choose h) Y).2 f a s else none
open Classical in
noncomputable def loopY (F : Nat → Option IFn) (Y : Yt) : IC → Env → St → Kt → Res := fun c e s K =>
  if h : ∃ n, ((LC F n Y).1 c e s K).isSome then (LC F (Classical.choose h) Y).1 c e s K else none
noncomputable abbrev call (F : Nat → Option IFn) : CallT := callY F noY
noncomputable abbrev loop (F : Nat → Option IFn) : IC → Env → St → Kt → Res := loopY F noY
theorem call_some {F : Nat → Option IFn} {Y : Yt} {f : Nat} {a : List V} {s : St} {r : V × St} : callY F Y f a s = some r ↔ ∃ n, (LC F n Y).2 f a s = some r := by
  unfold callY
  constructor
  · intro h
    split at h
    · exact ⟨_, h⟩
    · cases h
  · rintro ⟨n, h⟩
    have hx : ∃ n, ((LC F n Y).2 f a s).isSome := ⟨n, by rw [h]; rfl⟩
    rw [dif_pos hx]
    have h2 := Classical.choose_spec hx
    obtain ⟨r', h3⟩ := Option.isSome_iff_exists.1 h2
    rw [h3]
    have e1 := (LC_le F (Nat.le_max_left n (Classical.choose hx)) Y).2 _ _ _ _ h
    have e2 := (LC_le F (Nat.le_max_right n (Classical.choose hx)) Y).2 _ _ _ _ h3
    rw [e1] at e2
    exact e2.symm
theorem loop_some {F : Nat → Option IFn} {Y : Yt} {c : IC} {e : Env} {s : St} {K : Kt} {r : V × St} : loopY F Y c e s K = some r ↔ ∃ n, (LC F n Y).1 c e s K = some r := by
  unfold loopY
  constructor
  · intro h
    split at h
    · exact ⟨_, h⟩
    · cases h
  · rintro ⟨n, h⟩
    have hx : ∃ n, ((LC F n Y).1 c e s K).isSome := ⟨n, by rw [h]; rfl⟩
    rw [dif_pos hx]
    have h2 := Classical.choose_spec hx
    obtain ⟨r', h3⟩ := Option.isSome_iff_exists.1 h2
    rw [h3]
    have e1 := (LC_le F (Nat.le_max_left n (Classical.choose hx)) Y).1 _ _ _ _ _ _ (fun _ _ _ _ h => h) h
    have e2 := (LC_le F (Nat.le_max_right n (Classical.choose hx)) Y).1 _ _ _ _ _ _ (fun _ _ _ _ h => h) h3
    rw [e1] at e2
    exact e2.symm
theorem callY_mono {F : Nat → Option IFn} {Y Y' : Yt} (hY : Yle Y Y') : Cle (callY F Y) (callY F Y') := by
  intro f a s r h
  obtain ⟨n, h⟩ := call_some.1 h
  exact call_some.2 ⟨n, (LC_mle F (Nat.le_refl n) Y Y' hY).2 _ _ _ _ h⟩
theorem lim_mle (F : Nat → Option IFn) (n : Nat) : Mle (LC F n) (fun Y => (loopY F Y, callY F Y)) := fun Y Y' hY =>
  ⟨fun _ _ _ K K' r hK h => loop_some.2 ⟨n, (LC_mle F (Nat.le_refl n) Y Y' hY).1 _ _ _ _ _ _ hK h⟩, fun _ _ _ r h => call_some.2 ⟨n, (LC_mle F (Nat.le_refl n) Y Y' hY).2 _ _ _ _ h⟩⟩
def Ev (p : Nat → Prop) : Prop := ∃ n, ∀ m, n ≤ m → p m
def KC (K : Kt) (Kn : Nat → Kt) : Prop := ∀ x e s r, K x e s = some r → Ev fun m => Kn m x e s = some r
theorem Ev.and {p q : Nat → Prop} (h : Ev p) (k : Ev q) : Ev fun m => p m ∧ q m := by
  obtain ⟨a, h⟩ := h; obtain ⟨b, k⟩ := k
  exact ⟨max a b, fun m hm => ⟨h m (by omega), k m (by omega)⟩⟩
theorem Ev.mono {p q : Nat → Prop} (h : Ev p) (k : ∀ m, p m → q m) : Ev q := by
  obtain ⟨a, h⟩ := h
  exact ⟨a, fun m hm => k m (h m hm)⟩
theorem stepI_cont {C : CallT} {Cn : Nat → CallT} (hC : ∀ f a s r, C f a s = some r → Ev fun m => Cn m f a s = some r) {i : II} {e : Env} {s : St} {p : Env × St} (h : stepI C i e s = some p) :
    Ev fun m => stepI (Cn m) i e s = some p := by
  unfold stepI at h ⊢
  split at h
  · simp only [Option.map_eq_some_iff] at h
    obtain ⟨q, h, rfl⟩ := h
    unfold execI at h ⊢
    split at h
    · exact (hC _ _ _ _ h).mono fun m hm => by simp only [hm, Option.map_some]
    · split at h
      · exact (hC _ _ _ _ h).mono fun m hm => by simp only [hm, Option.map_some]
      · cases h
    · exact ⟨0, fun m _ => by simp only [h, Option.map_some]⟩
  · exact ⟨0, fun _ _ => h⟩
  · cases h
theorem goOps_cont {C : CallT} {Cn : Nat → CallT} (hC : ∀ f a s r, C f a s = some r → Ev fun m => Cn m f a s = some r) {K : Env → St → Res} {Kn : Nat → Env → St → Res}
    (hK : ∀ e s r, K e s = some r → Ev fun m => Kn m e s = some r) {r : V × St} :
    ∀ (l : List II) (e : Env) (s : St), goOps C l e s K = some r → Ev fun m => goOps (Cn m) l e s (Kn m) = some r
  | [], e, s, h => hK _ _ _ h
  | i :: l, e, s, h => by
    simp only [goOps, Option.bind_eq_some_iff] at h ⊢
    obtain ⟨p, h1, h2⟩ := h
    exact ((stepI_cont hC h1).and (goOps_cont hC hK l _ _ h2)).mono fun m hm => ⟨p, hm.1, hm.2⟩
theorem go_cont {L : IC → Env → St → Kt → Res} {Ln : Nat → IC → Env → St → Kt → Res} {C : CallT} {Cn : Nat → CallT}
    (hL : ∀ c e s K Kn r, KC K Kn → L c e s K = some r → Ev fun m => Ln m c e s (Kn m) = some r)
    (hC : ∀ f a s r, C f a s = some r → Ev fun m => Cn m f a s = some r) {r : V × St} :
    ∀ (c : IC) (e : Env) (s : St) (K : Kt) (Kn : Nat → Kt), KC K Kn → go L C c e s K = some r → Ev fun m => go (Ln m) (Cn m) c e s (Kn m) = some r
  | .skip, e, s, K, K', hK, h => hK _ _ _ _ h
  | .region ops keep, e, s, K, K', hK, h => goOps_cont hC (fun _ _ _ h => hK _ _ _ _ h) ops _ _ h
  | .seq a b, e, s, K, K', hK, h => by
    refine go_cont hL hC a e s _ _ (fun x e s r h => ?_) h
    cases x with
    | normal => exact go_cont hL hC b _ _ _ _ hK h
    | exit i => exact hK _ _ _ _ h
    | ret => exact hK _ _ _ _ h
  | .cond c a b, e, s, K, K', hK, h => by
    simp only [go] at h ⊢
    split at h
    · exact go_cont hL hC a _ _ _ _ hK h
    · exact go_cont hL hC b _ _ _ _ hK h
    · cases h
  | .block id a, e, s, K, K', hK, h => by
    refine go_cont hL hC a e s _ _ (fun x e s r h => ?_) h
    cases x with
    | normal => exact hK _ _ _ _ h
    | exit i =>
      simp only at h ⊢
      split at h
      · rename_i hi; simp only [if_pos hi]; exact hK _ _ _ _ h
      · rename_i hi; simp only [if_neg hi]; exact hK _ _ _ _ h
    | ret => exact hK _ _ _ _ h
  | .loop a, e, s, K, K', hK, h => by
    refine go_cont hL hC a e s _ _ (fun x e s r h => ?_) h
    cases x with
    | normal => exact hL _ _ _ _ _ _ hK h
    | exit i => exact hK _ _ _ _ h
    | ret => exact hK _ _ _ _ h
  | .range f ps a b, e, s, K, K', hK, h => hL _ _ _ _ _ _ hK h
  | .exit i, e, s, K, K', hK, h => hK _ _ _ _ h
  | .ret, e, s, K, K', hK, h => hK _ _ _ _ h
def YC (Y : Yt) (Yn : Nat → Yt) : Prop := ∀ j a s r, Y j a s = some r → Ev fun m => Yn m j a s = some r
theorem YC.const (Y : Yt) : YC Y (fun _ => Y) := fun _ _ _ _ h => ⟨0, fun _ _ => h⟩
theorem Ev.shift {p : Nat → Prop} (h : Ev p) : Ev fun m => p (m + 1) := by
  obtain ⟨n, hn⟩ := h
  exact ⟨n, fun m hm => hn (m + 1) (by omega)⟩
theorem Ev.unshift {p : Nat → Prop} (h : Ev fun m => p (m + 1)) : Ev p := by
  obtain ⟨n, hn⟩ := h
  refine ⟨n + 1, fun m hm => ?_⟩
  obtain ⟨m, rfl⟩ : ∃ m', m = m' + 1 := ⟨m - 1, by omega⟩
  exact hn m (by omega)
theorem KC.const (K : Kt) : KC K (fun _ => K) := fun _ _ _ _ h => ⟨0, fun _ _ => h⟩
def MC (M : LT × CallT) (Mn : Nat → LT × CallT) : Prop :=
  (∀ c e s K Kn r, KC K Kn → M.1 c e s K = some r → Ev fun m => (Mn m).1 c e s (Kn m) = some r) ∧ (∀ f a s r, M.2 f a s = some r → Ev fun m => (Mn m).2 f a s = some r)
theorem MC.go {M : LT × CallT} {Mn : Nat → LT × CallT} (h : MC M Mn) {r : V × St} {c : IC} {e : Env} {s : St} {K : Kt} {Kn : Nat → Kt} (hK : KC K Kn) (hg : go M.1 M.2 c e s K = some r) :
    Ev fun m => go (Mn m).1 (Mn m).2 c e s (Kn m) = some r := go_cont h.1 h.2 c e s K Kn hK hg
theorem roundMid_cont {M : LT × CallT} {Mn : Nat → LT × CallT} (h : MC M Mn) (b : IC) (k : Nat) : KC (roundMid M b k) (fun m => roundMid (Mn m) b k) := by
  intro x e s r hr
  cases x with
  | exit i => cases hr
  | ret => cases hr
  | normal =>
    simp only [roundMid] at hr ⊢
    split at hr
    · rename_i hs; exact (h.go (KC.const _) hr)
    · cases hr
theorem roundI_cont {M : LT × CallT} {Mn : Nat → LT × CallT} (h : MC M Mn) {ps : List Nat} {a b : IC} {e : Env} {k : Nat} {args : List V} {t : St} {r : V × St} (hr : roundI M ps a b e k args t = some r) :
    Ev fun m => roundI (Mn m) ps a b e k args t = some r := by
  unfold roundI at hr ⊢
  split at hr
  · rename_i hl; simp only [if_pos hl]
    split at hr
    · rename_i hs; exact (h.go (roundMid_cont h b k) hr)
    · cases hr
  · cases hr
theorem YC.withY {Y : Yt} {Yn : Nat → Yt} (h : YC Y Yn) {k : Nat} {f : List V → St → Res} {fn : Nat → List V → St → Res} (hf : ∀ a s r, f a s = some r → Ev fun m => fn m a s = some r) : YC (withY Y k f) (fun m => withY (Yn m) k (fn m)) := by
  intro j a s r hj
  unfold IM.withY at hj ⊢
  split at hj
  · rename_i e; simp only [if_pos e]; exact hf _ _ _ hj
  · rename_i e; simp only [if_neg e]; exact h _ _ _ _ hj
theorem rangeEnd_cont {K : Kt} {Kn : Nat → Kt} (hK : KC K Kn) {k : Nat} {e : Env} {p : V × St} {r : V × St} (h : rangeEnd k e K p = some r) : Ev fun m => rangeEnd k e (Kn m) p = some r := by
  unfold rangeEnd at h ⊢
  split at h
  · rename_i hs; exact (hK _ _ _ _ h)
  · rename_i hs; exact (hK _ _ _ _ h)
  · rename_i hs; exact (hK _ _ _ _ h)
  · cases h
theorem rangeI_cont {M : Yt → LT × CallT} {Mn : Nat → Yt → LT × CallT} {Y : Yt} {Yn : Nat → Yt} (hY : YC Y Yn) (hM : ∀ Y Yn, YC Y Yn → MC (M Y) (fun m => Mn m (Yn m))) {f : Arg} {ps : List Nat} {a b : IC} {e : Env} {s : St} {K : Kt} {Kn : Nat → Kt} (hK : KC K Kn) {r : V × St}
    (h : rangeI M Y f ps a b e s K = some r) : Ev fun m => rangeI (Mn m) (Yn m) f ps a b e s (Kn m) = some r := by
  unfold rangeI at h ⊢
  split at h
  · rename_i g pre caps hg
    split at h
    · rename_i h0
      simp only [Option.bind_eq_some_iff] at h
      obtain ⟨p, h1, h2⟩ := h
      have hY' := hY.withY (k := s.next) (f := roundI (M Y) ps a b e s.next) (fn := fun m => roundI (Mn m (Yn m)) ps a b e s.next) (fun _ _ _ h => roundI_cont (hM Y Yn hY) h)
      exact (((hM _ _ hY').2 _ _ _ _ h1).and (rangeEnd_cont hK h2)).mono fun m hm => by
        simp only [if_pos h0, Option.bind_eq_some_iff]
        exact ⟨p, hm.1, hm.2⟩
    · cases h
  · cases h
theorem LC_cont (F : Nat → Option IFn) : ∀ (k : Nat) (Y : Yt) (Yn : Nat → Yt), YC Y Yn → MC (LC F k Y) (fun m => LC F m (Yn m))
  | 0, _, _, _ => ⟨fun _ _ _ _ _ _ _ h => by simp [LC] at h, fun _ _ _ _ h => by simp [LC] at h⟩
  | k + 1, Y, Yn, hY => by
    have hYs : YC Y (fun m => Yn (m + 1)) := fun j a s r h => (hY j a s r h).shift
    have ih := LC_cont F k Y _ hYs
    refine ⟨fun c e s K Kn r hK h => ?_, fun f a s r h => ?_⟩
    · have hKs : KC K (fun m => Kn (m + 1)) := fun x e s r h => (hK x e s r h).shift
      cases c with
      | range f ps a b => exact Ev.unshift (rangeI_cont (M := LC F k) (Mn := fun m => LC F m) hYs (LC_cont F k) hKs h)
      | _ => exact Ev.unshift (ih.go hKs h)
    · simp only [LC] at h
      split at h
      · rename_i h0
        split at h
        · rename_i fn hf
          refine Ev.unshift ((ih.go (KC.const _) h).mono fun m hm => ?_)
          simp only [LC, if_pos h0, hf]
          exact hm
        · cases h
      · rename_i h0
        refine Ev.unshift ((hYs _ _ _ _ h).mono fun m hm => ?_)
        simp only [LC, if_neg h0]
        exact hm
theorem lim_cont (F : Nat → Option IFn) (Y : Yt) (Yn : Nat → Yt) (hY : YC Y Yn) : MC (loopY F Y, callY F Y) (fun m => LC F m (Yn m)) :=
  ⟨fun _ _ _ _ _ _ hK h => by obtain ⟨k, hk⟩ := loop_some.1 h; exact (LC_cont F k Y Yn hY).1 _ _ _ _ _ _ hK hk,
    fun _ _ _ _ h => by obtain ⟨k, hk⟩ := call_some.1 h; exact (LC_cont F k Y Yn hY).2 _ _ _ _ hk⟩
theorem go_limit (F : Nat → Option IFn) (Y : Yt) (c : IC) (e : Env) (s : St) (K : Kt) (r : V × St) : go (loopY F Y) (callY F Y) c e s K = some r ↔ ∃ n, go (LC F n Y).1 (LC F n Y).2 c e s K = some r := by
  constructor
  · intro h
    obtain ⟨n, hn⟩ := (lim_cont F Y _ (YC.const Y)).go (KC.const K) h
    exact ⟨n, hn n (Nat.le_refl _)⟩
  · rintro ⟨n, h⟩
    obtain ⟨h1, h2⟩ := lim_mle F n Y Y (Yle.refl Y)
    exact go_mono h1 h2 c e s K K (fun _ _ _ _ h => h) h
theorem range_eq (F : Nat → Option IFn) (Y : Yt) (f : Arg) (ps : List Nat) (a b : IC) (e : Env) (s : St) (K : Kt) :
    loopY F Y (.range f ps a b) e s K = rangeI (fun Y => (loopY F Y, callY F Y)) Y f ps a b e s K := by
  apply Option.ext
  intro r
  rw [loop_some]
  constructor
  · rintro ⟨n, h⟩
    cases n with
    | zero => simp [LC] at h
    | succ n => exact rangeI_mono (lim_mle F n) (Yle.refl Y) (fun _ _ _ _ h => h) h
  · intro h
    obtain ⟨n, hn⟩ := rangeI_cont (Mn := fun m => LC F m) (YC.const Y) (lim_cont F) (KC.const K) h
    exact ⟨n + 1, hn n (Nat.le_refl _)⟩
def IC.isRange : IC → Bool
  | .range .. => true
  | _ => false
theorem loop_eq (F : Nat → Option IFn) (Y : Yt) (c : IC) (e : Env) (s : St) (K : Kt) (hc : c.isRange = false := by rfl) : loopY F Y c e s K = go (loopY F Y) (callY F Y) c e s K := by
  apply Option.ext
  intro r
  rw [loop_some, go_limit]
  have hn : ∀ n, (LC F (n + 1) Y).1 c e s K = go (LC F n Y).1 (LC F n Y).2 c e s K := by
    intro n
    cases c <;> first | rfl | cases hc
  constructor
  · rintro ⟨n, h⟩
    cases n with
    | zero => simp [LC] at h
    | succ n => exact ⟨n, (hn n) ▸ h⟩
  · rintro ⟨n, h⟩
    exact ⟨n + 1, (hn n).trans h⟩
theorem call_eq (F : Nat → Option IFn) (Y : Yt) (f : Nat) (fn : IFn) (hf : F f = some fn) (args : List V) (s : St) (h0 : f < yBase := by decide) : callY F Y f args s = go (loopY F Y) (callY F Y) fn.body (initEnv fn args) s (fin fn) := by
  apply Option.ext
  intro r
  rw [call_some, go_limit]
  constructor
  · rintro ⟨n, h⟩
    cases n with
    | zero => simp [LC] at h
    | succ n => simp only [LC, if_pos h0, hf] at h; exact ⟨n, h⟩
  · rintro ⟨n, h⟩
    exact ⟨n + 1, by simp only [LC, if_pos h0, hf]; exact h⟩
theorem call_yield (F : Nat → Option IFn) (Y : Yt) (k : Nat) (args : List V) (s : St) : callY F Y (yBase + k) args s = Y k args s := by
  apply Option.ext
  intro r
  rw [call_some]
  have h0 : ¬ yBase + k < yBase := by omega
  have h1 : yBase + k - yBase = k := by omega
  constructor
  · rintro ⟨n, h⟩
    cases n with
    | zero => simp [LC] at h
    | succ n => simp only [LC, if_neg h0, h1] at h; exact h
  · intro h
    exact ⟨1, by simp only [LC, if_neg h0, h1]; exact h⟩
theorem call_sound {P : Program} (hm : P.follows .mixedOrders = true) (B : Nat) (ρ0 : Rn) : CallsOk P B ρ0 (call (compF P)) := by
  intro f args s v s' h
  obtain ⟨n, h⟩ := call_some.1 h
  exact (sound hm (fun _ _ h => h) n).1 B ρ0 noY YOk.no f args s v s' h
#print axioms call_sound
end Go.IM

set_option linter.unusedSimpArgs false
set_option linter.unusedVariables false
namespace Go.IM
section
variable (π : Nat → Nat)
def Id.ren : Id → Id
  | .old b => .old b
  | .new k => .new (π k)
def Ad.ren (a : Ad) : Ad := ⟨a.id.ren π, a.off⟩
def fren (f : Nat) : Nat := if f < yBase then f else yBase + π (f - yBase)
theorem fren_low {f : Nat} (h : f < yBase) : fren π f = f := if_pos h
theorem fren_yield (k : Nat) : fren π (yBase + k) = yBase + π k := by
  unfold fren
  rw [if_neg (by omega), show yBase + k - yBase = k from by omega]
mutual
def V.ren : V → V
  | .ptr a => .ptr (a.map (Ad.ren π))
  | .slice a n c => .slice (a.map (Ad.ren π)) n c
  | .map r => .map (r.map (Id.ren π))
  | .func f p c => .func (fren π f) (renL p) (renL c)
  | .iface t v => .iface t (V.ren v)
  | .agg cs => .agg (renL cs)
  | .tuple cs => .tuple (renL cs)
  | v => v
def renL : List V → List V
  | [] => []
  | v :: l => V.ren v :: renL l
end

theorem renL_eq : ∀ l : List V, renL π l = l.map (V.ren π)
  | [] => rfl
  | v :: l => by simp [renL, renL_eq l]
def O.ren : O → O
  | .cells cs g => .cells (cs.map (V.ren π)) g
  | .map es c => .map (es.map fun e => (e.1.ren π, e.2.1.ren π, e.2.2)) c
  | .loop st => .loop st
end
mutual
def V.shut : V → Bool
  | .ptr (some ⟨.new _, _⟩) => false
  | .slice (some ⟨.new _, _⟩) _ _ => false
  | .map (some (.new _)) => false
  | .func f p c => decide (f < yBase) && shutL p && shutL c
  | .iface _ v => V.shut v
  | .agg cs => shutL cs
  | .tuple cs => shutL cs
  | _ => true
def shutL : List V → Bool
  | [] => true
  | v :: l => V.shut v && shutL l
end

def Arg.shut : Arg → Bool
  | .t _ => true
  | .c v => v.shut
def IOp.zeros : IOp → List V
  | .alloc z | .build z _ | .buildSlice _ z _ | .mkSlice _ z _ _ => z
  | .lookup _ z _ _ _ | .mapEnt _ z _ _ => [z]
  | .again _ op => op.zeros
  | _ => []
def IOp.low : IOp → Bool
  | .call f _ | .mkFunc f _ _ => decide (f < yBase)
  | .again _ op => op.low
  | _ => true
def IOp.shut (o : IOp) : Bool := (o.args.all Arg.shut && shutL o.zeros) && o.low
def IC.shut : IC → Bool
  | .region ops _ => ops.all fun i => i.op.shut
  | .seq a b => a.shut && b.shut
  | .cond c a b => c.shut && a.shut && b.shut
  | .block _ a | .loop a => a.shut
  | .range f _ a b => f.shut && a.shut && b.shut
  | _ => true
section
variable {π : Nat → Nat} {s t : St}
mutual
theorem V.ren_shut : ∀ {v : V}, v.shut = true → v.ren π = v
  | .ptr none, _ => rfl
  | .ptr (some ⟨.old _, _⟩), _ => rfl
  | .ptr (some ⟨.new _, _⟩), h => by simp [V.shut] at h
  | .slice none _ _, _ => rfl
  | .slice (some ⟨.old _, _⟩) _ _, _ => rfl
  | .slice (some ⟨.new _, _⟩) _ _, h => by simp [V.shut] at h
  | .map none, _ => rfl
  | .map (some (.old _)), _ => rfl
  | .map (some (.new _)), h => by simp [V.shut] at h
  | .func f p c, h => by
    simp only [V.shut, Bool.and_eq_true, decide_eq_true_eq] at h
    simp only [V.ren, fren_low π h.1.1, renL_shut h.1.2, renL_shut h.2]
  | .iface t v, h => by simp only [V.shut] at h; simp only [V.ren, V.ren_shut h]
  | .agg cs, h => by simp only [V.shut] at h; simp only [V.ren, renL_shut h]
  | .tuple cs, h => by simp only [V.shut] at h; simp only [V.ren, renL_shut h]
  | .any, _ | .bool _, _ | .int _ _, _ | .str _, _ | .nilFunc, _ | .nilIface, _ | .junk _, _ => by simp [V.ren]
theorem renL_shut : ∀ {l : List V}, shutL l = true → renL π l = l
  | [], _ => rfl
  | v :: l, h => by
    simp only [shutL, Bool.and_eq_true] at h
    simp only [renL, V.ren_shut h.1, renL_shut h.2]
end

theorem map_shut {l : List V} (h : shutL l = true) : l.map (V.ren π) = l := by rw [← renL_eq]; exact renL_shut h
@[simp] theorem ren_any : V.ren π .any = .any := rfl
@[simp] theorem ren_bool (b : Bool) : V.ren π (.bool b) = .bool b := rfl
@[simp] theorem ren_int (k : IntKind) (n : Int) : V.ren π (.int k n) = .int k n := rfl
@[simp] theorem ren_str (s : ByteArray) : V.ren π (.str s) = .str s := rfl
@[simp] theorem ren_wrapI (k : IntKind) (n : Int) : V.ren π (wrapI k n) = wrapI k n := rfl
theorem ren_cells (v : V) : (v.ren π).cells = v.cells.map (V.ren π) := by
  cases v <;> simp [V.ren, V.cells, renL_eq]
theorem ren_one (v : V) : (v.ren π).one = v.one := by
  cases v <;> simp [V.ren, V.one]
theorem ren_all_one (l : List V) : (l.map (V.ren π)).all V.one = l.all V.one := by
  induction l with
  | nil => rfl
  | cons v l ih => simp only [List.map_cons, List.all_cons, ren_one, ih]
def rE (π : Nat → Nat) (e : Env) : Env := e.map (V.ren π)
theorem ev_ren {e : Env} {x : Arg} (h : x.shut = true) : ev (rE π e) x = (ev e x).ren π := by
  cases x with
  | t i =>
    simp only [ev, rE, List.getD, List.getElem?_map]
    cases e[i]? <;> simp
  | c v => exact (V.ren_shut h).symm
theorem put_ren (e : Env) (d : Option Nat) (v : V) : rE π (put e d v) = put (rE π e) d (v.ren π) := by
  cases d with
  | none => rfl
  | some d => simp [put, rE, List.map_set]
theorem mask_ren : ∀ (bs : List Bool) (e : Env), rE π (maskEnv bs e) = maskEnv bs (rE π e)
  | [], _ => rfl
  | _ :: _, [] => rfl
  | b :: bs, v :: e => by
    have := mask_ren bs e
    simp only [rE] at this
    cases b <;> simp [maskEnv, rE, this]
theorem wanted_ren (e : Env) (g : Option (Nat × Bool)) {b : Bool} (h : wantedI e g = some b) : wantedI (rE π e) g = some b := by
  cases g with
  | none => exact h
  | some p =>
    obtain ⟨t, want⟩ := p
    have := ev_ren (π := π) (e := e) (x := .t t) rfl
    simp only [ev] at this
    simp only [wantedI, this] at h ⊢
    cases hv : e.getD t .any <;> simp_all [V.ren]
theorem asNat_ren (v : V) : asNat (v.ren π) = asNat v := by cases v <;> rfl
theorem intI_ren {op : BinOp} {k : IntKind} {a b : Int} {v : V} (h : intI op k a b = some v) : v.ren π = v := by
  unfold intI at h
  split at h <;> first | (split at h <;> first | (cases h; rfl) | cases h) | (cases h; rfl) | cases h
theorem binI_ren {op : BinOp} {x y v : V} (h : binI op x y = some v) : binI op (x.ren π) (y.ren π) = some (v.ren π) := by
  unfold binI at h
  split at h
  · rename_i k a k' b
    have hv : v.ren π = v := by
      split at h
      · split at h
        · cases h
        · cases h; rfl
      · split at h
        · cases h
        · cases h; rfl
      · split at h
        · exact intI_ren h
        · cases h
    rw [hv]
    exact h
  · have hv : v.ren π = v := by
      split at h <;> first | (split at h <;> first | (cases h; rfl) | cases h) | (cases h; rfl) | cases h
    rw [hv]
    exact h
  · cases h
theorem cellEq_ren (k : CK) (x y : V) : cellEq k (x.ren π) (y.ren π) = cellEq k x y := by
  cases k <;> cases x <;> cases y <;> rfl
theorem cellsEq_ren : ∀ (ks : List CK) (xs ys : List V), cellsEq ks (xs.map (V.ren π)) (ys.map (V.ren π)) = cellsEq ks xs ys
  | [], [], [] => rfl
  | [], [], _ :: _ => rfl
  | [], _ :: _, _ => rfl
  | _ :: _, [], _ => rfl
  | _ :: _, _ :: _, [] => rfl
  | k :: ks, x :: xs, y :: ys => by simp only [List.map_cons, cellsEq, cellEq_ren, cellsEq_ren ks xs ys]
theorem keyEq_ren (k : KT) (x y : V) : keyEq k (x.ren π) (y.ren π) = keyEq k x y := by
  cases k with
  | one k => exact cellEq_ren k x y
  | agg ks =>
    cases x <;> cases y <;> simp only [V.ren, keyEq, renL_eq]
    exact cellsEq_ren _ _ _
theorem eqI_ren (k : EK) (x y : V) : eqI k (x.ren π) (y.ren π) = eqI k x y := by
  cases k with
  | key k => exact keyEq_ren k x y
  | ptr => cases x with
    | ptr a => cases a <;> cases y <;> simp [V.ren, eqI]
               all_goals (rename_i b; cases b <;> simp)
    | _ => cases y <;> simp [V.ren, eqI]
  | func => cases x <;> cases y <;> simp [V.ren, eqI]
  | slice => cases x with
    | slice a n c => cases a <;> cases y <;> simp [V.ren, eqI]
                     all_goals (rename_i b _ _; cases b <;> simp)
    | _ => cases y <;> simp [V.ren, eqI]
  | map => cases x with
    | map a => cases a <;> cases y <;> simp [V.ren, eqI]
               all_goals (rename_i b; cases b <;> simp)
    | _ => cases y <;> simp [V.ren, eqI]
theorem unI_ren {op : UnOp} {x v : V} (h : unI op x = some v) : unI op (x.ren π) = some (v.ren π) := by
  unfold unI at h
  split at h
  · cases h; rfl
  · cases h; rfl
  · cases h
theorem over_ren (cs : List V) (off : Nat) (vs : List V) : (over cs off vs).map (V.ren π) = over (cs.map (V.ren π)) off (vs.map (V.ren π)) := by
  simp [over, List.map_take, List.map_drop]
theorem cut_ren (cs : List V) (off n : Nat) : cut (cs.map (V.ren π)) off n = (cut cs off n).map (List.map (V.ren π)) := by
  unfold cut
  simp only [List.length_map]
  split <;> simp [List.map_take, List.map_drop]
theorem fillI_ren (e : Env) : ∀ (ps : List (Nat × Nat × Arg)) (cells cs : List V), (ps.all fun p => p.2.2.shut) = true → fillI e cells ps = some cs → fillI (rE π e) (cells.map (V.ren π)) ps = some (cs.map (V.ren π))
  | [], cells, cs, _, h => by simp only [fillI, Option.some.injEq] at h ⊢; rw [h]
  | (off, size, x) :: ps, cells, cs, hs, h => by
    simp only [List.all_cons, Bool.and_eq_true] at hs
    simp only [fillI] at h ⊢
    split at h
    · rename_i hc
      rw [ev_ren hs.1, ren_cells, ren_all_one, List.length_map, List.length_map, if_pos hc, ← over_ren]
      exact fillI_ren e ps _ _ hs.2 h
    · cases h
theorem partI_ren {n : Option Nat} {cs : List V} {off : Nat} {v : V} (h : partI n cs off = some v) : partI n (cs.map (V.ren π)) off = some (v.ren π) := by
  cases n with
  | none => simp only [partI, List.getElem?_map] at h ⊢; rw [h]; rfl
  | some n =>
    simp only [partI, cut_ren, Option.map_eq_some_iff] at h ⊢
    obtain ⟨c, h, rfl⟩ := h
    exact ⟨_, ⟨c, h, rfl⟩, by simp [V.ren, renL_eq]⟩
theorem packI_ren {n : Option Nat} {cs : List V} {v : V} (h : packI n cs = some v) : packI n (cs.map (V.ren π)) = some (v.ren π) := by
  cases n with
  | none => simp only [packI, List.head?_map] at h ⊢; rw [h]; rfl
  | some n => simp only [packI, Option.some.injEq] at h ⊢; subst h; simp [V.ren, renL_eq]
theorem sliceStrI_ren {x v : V} {lo hi : Option V} (h : sliceStrI x lo hi = some v) : sliceStrI (x.ren π) (lo.map (V.ren π)) (hi.map (V.ren π)) = some (v.ren π) := by
  cases x with
  | str s =>
    have e1 : ∀ o : Option V, sliceStrI (.str s) (lo.map (V.ren π)) (hi.map (V.ren π)) = sliceStrI (.str s) lo hi := fun _ => by
      cases lo <;> cases hi <;> simp [sliceStrI, asNat_ren]
    rw [show V.ren π (.str s) = .str s from rfl, e1 none, h]
    simp only [sliceStrI, Option.bind_eq_some_iff] at h
    obtain ⟨_, _, _, _, h⟩ := h
    cases h; rfl
  | _ => simp [sliceStrI] at h
theorem sliceI_ren {sz : Nat} {x v : V} {lo hi mx : Option V} (h : sliceI sz x lo hi mx = some v) : sliceI sz (x.ren π) (lo.map (V.ren π)) (hi.map (V.ren π)) (mx.map (V.ren π)) = some (v.ren π) := by
  cases x with
  | slice a len cap =>
    cases cap with
    | some cap =>
      simp only [sliceI, Option.bind_eq_some_iff] at h
      obtain ⟨m, hm, h', hh, l, hl, h⟩ := h
      split at h
      · rename_i hc
        cases h
        simp only [V.ren, sliceI, Option.bind_eq_some_iff]
        refine ⟨m, by cases mx <;> simpa [asNat_ren] using hm, h', by cases hi <;> cases mx <;> first | (simp at hh; done) | simpa [asNat_ren] using hh, l, by cases lo <;> simpa [asNat_ren] using hl, ?_⟩
        rw [if_pos hc]
        split <;> cases a <;> simp [V.ren, Ad.ren]
      · cases h
    | none =>
      cases a with
      | none => simp [sliceI] at h
      | some a =>
        simp only [sliceI, Option.bind_eq_some_iff] at h
        obtain ⟨m, hm, h', hh, l, hl, h⟩ := h
        split at h
        · rename_i hc
          cases h
          simp only [V.ren, sliceI, Option.map_some, Option.bind_eq_some_iff]
          refine ⟨m, by cases mx <;> simpa [asNat_ren] using hm, h', by cases hi <;> cases mx <;> first | (simp at hh; done) | simpa [asNat_ren] using hh, l, by cases lo <;> simpa [asNat_ren] using hl, ?_⟩
          rw [if_pos hc]
          cases mx <;> simp [V.ren, Ad.ren]
        · cases h
  | _ => simp [sliceI] at h
theorem map_ev_ren {e : Env} {l : List Arg} (h : l.all Arg.shut = true) : l.map (ev (rE π e)) = (l.map (ev e)).map (V.ren π) := by
  induction l with
  | nil => rfl
  | cons x l ih =>
    simp only [List.all_cons, Bool.and_eq_true] at h
    simp only [List.map_cons, ev_ren h.1, ih h.2]
theorem omap_ev_ren {e : Env} {o : Option Arg} (h : o.toList.all Arg.shut = true) : o.map (ev (rE π e)) = (o.map (ev e)).map (V.ren π) := by
  cases o with
  | none => rfl
  | some x => simp only [Option.toList_some, List.all_cons, List.all_nil, Bool.and_true] at h; simp only [Option.map_some, ev_ren h]
theorem ofFill {e : Env} {ps : List (Nat × Nat × Arg)} (h : (ps.map fun p => p.2.2).all Arg.shut = true) : (ps.all fun p => p.2.2.shut) = true := by
  simpa [List.all_map, Function.comp_def] using h
theorem evalP_ren {op : IOp} {e : Env} {v : V} (hs : op.shut = true) (h : evalP op e = some v) : evalP op (rE π e) = some (v.ren π) := by
  simp only [IOp.shut, Bool.and_eq_true] at hs
  obtain ⟨⟨ha, hz⟩, hlow⟩ := hs
  cases op <;> simp only [IOp.args, IOp.zeros, List.all_cons, List.all_nil, List.all_append, Bool.and_eq_true, Bool.and_true, and_true] at ha hz <;> simp only [evalP, reduceCtorEq] at h ⊢
  case mov x => cases h; rw [ev_ren ha]
  case pick c a b =>
    obtain ⟨h1, h2, h3⟩ := ha
    rw [ev_ren h1, ev_ren h2, ev_ren h3]
    cases hc : ev e c <;> rw [hc] at h <;> simp only [Option.some.injEq, reduceCtorEq] at h
    subst h
    rename_i b'
    cases b' <;> rfl
  case build z ps =>
    simp only [Option.map_eq_some_iff] at h ⊢
    obtain ⟨cs, h, rfl⟩ := h
    refine ⟨_, by have := fillI_ren (π := π) e ps z cs (ofFill (e := e) ha) h; rwa [map_shut hz] at this, by simp [V.ren, renL_eq]⟩
  case nilCheck x =>
    rw [ev_ren ha]
    cases hx : ev e x <;> rw [hx] at h <;> (try simp only [reduceCtorEq] at h)
    · rename_i a; cases a <;> simp only [Option.some.injEq, reduceCtorEq] at h; subst h; rfl
    · simp only [Option.some.injEq] at h; subst h; simp [V.ren]
  case bin op x y => rw [ev_ren ha.1, ev_ren ha.2]; exact binI_ren h
  case eql neg k x y =>
    rw [ev_ren ha.1, ev_ren ha.2, eqI_ren]
    simp only [Option.map_eq_some_iff] at h ⊢
    obtain ⟨b, h, rfl⟩ := h
    exact ⟨b, h, rfl⟩
  case un op x => rw [ev_ren ha]; exact unI_ren h
  case conv k x =>
    rw [ev_ren ha]
    cases hx : ev e x <;> rw [hx] at h <;> simp only [Option.some.injEq, reduceCtorEq] at h
    subst h; rfl
  case mkFunc f pre caps =>
    cases h
    simp only [IOp.low, decide_eq_true_eq] at hlow
    simp only [V.ren, fren_low π hlow, renL_eq, map_ev_ren ha.1, map_ev_ren ha.2]
  case sliceStr x lo hi =>
    rw [ev_ren ha.1, omap_ev_ren ha.2.1, omap_ev_ren ha.2.2]
    exact sliceStrI_ren h
  case lenStr x =>
    rw [ev_ren ha]
    cases hx : ev e x <;> rw [hx] at h <;> simp only [Option.some.injEq, reduceCtorEq] at h
    subst h; rfl
  case lenSlice x =>
    rw [ev_ren ha]
    cases hx : ev e x <;> rw [hx] at h <;> simp only [Option.some.injEq, reduceCtorEq] at h
    subst h; rfl
  case slice sz x lo hi mx =>
    rw [ev_ren ha.1, omap_ev_ren ha.2.1.1, omap_ev_ren ha.2.1.2, omap_ev_ren ha.2.2]
    exact sliceI_ren h
  case fieldAddr off x =>
    rw [ev_ren ha]
    cases hx : ev e x <;> rw [hx] at h <;> (try simp only [reduceCtorEq] at h)
    rename_i a; cases a <;> simp only [Option.some.injEq, reduceCtorEq] at h; subst h; rfl
  case field off n x =>
    rw [ev_ren ha]
    cases hx : ev e x <;> rw [hx] at h <;> (try simp only [reduceCtorEq] at h)
    simp only [V.ren, renL_eq]
    exact partI_ren h
  case indexAddr sz x i =>
    rw [ev_ren ha.1, ev_ren ha.2]
    cases hx : ev e x <;> rw [hx] at h <;> (try simp only [reduceCtorEq] at h)
    rename_i a n c
    cases a <;> simp only [reduceCtorEq] at h
    simp only [V.ren, Option.map_some, asNat_ren, Option.bind_eq_some_iff] at h ⊢
    obtain ⟨m, h1, h2⟩ := h
    refine ⟨m, h1, ?_⟩
    split at h2
    · rename_i hm; rw [if_pos hm]; cases h2; rfl
    · cases h2
  case indexStr x i =>
    rw [ev_ren ha.1, ev_ren ha.2]
    cases hx : ev e x <;> rw [hx] at h <;> (try simp only [reduceCtorEq] at h)
    simp only [V.ren, asNat_ren, Option.bind_eq_some_iff, Option.map_eq_some_iff] at h ⊢
    obtain ⟨m, h1, c, h2, rfl⟩ := h
    exact ⟨m, h1, c, h2, rfl⟩
  case extract x i =>
    rw [ev_ren ha]
    cases hx : ev e x <;> rw [hx] at h <;> (try simp only [reduceCtorEq] at h)
    simp only [V.ren, renL_eq, List.getElem?_map, h, Option.map_some]
  all_goals cases h
structure Ren (π : Nat → Nat) (s t : St) : Prop where
  next : ∀ k, s.next ≤ k → π k = t.next + (k - s.next)
  obj : ∀ k o, s.new k = some o → t.new (π k) = some (o.ren π)
  old : ∀ b o, s.old b = some o → t.old b = some (o.ren π)
  inj : ∀ k k', π k = π k' → k = k'
theorem Ren.get (h : Ren π s t) {i : Id} {o : O} (hg : s.get i = some o) : t.get (i.ren π) = some (o.ren π) := by
  cases i with
  | old b => exact h.old b o hg
  | new k => exact h.obj k o hg
theorem Ren.row (h : Ren π s t) {i : Id} {cs : List V} {g : Option Nat} (hr : s.row i = some (cs, g)) : t.row (i.ren π) = some (cs.map (V.ren π), g) := by
  unfold St.row at hr ⊢
  split at hr
  · rename_i cs' g' hg
    cases hr
    rw [h.get hg]; rfl
  · cases hr
theorem Ren.readCells (h : Ren π s t) {a : Ad} {n : Nat} {cs : List V} (hr : readCells s a n = some cs) : readCells t (a.ren π) n = some (cs.map (V.ren π)) := by
  unfold IM.readCells at hr ⊢
  split at hr
  · rename_i c g hg
    have := h.row hg
    simp only [Ad.ren, this, cut_ren, hr, Option.map_some]
  · cases hr
theorem findI_ren (kt : KT) (k : V) : ∀ (es : List (V × V × Nat)) (i : Nat), findI kt (k.ren π) (es.map fun e => (e.1.ren π, e.2.1.ren π, e.2.2)) i = (findI kt k es i).map fun r => r.map fun q => (q.1, q.2.ren π)
  | [], i => rfl
  | (x, v, n) :: es, i => by
    simp only [List.map_cons, findI, keyEq_ren]
    cases hb : keyEq kt k x with
    | none => rfl
    | some b =>
      simp only [Option.bind_some]
      cases b with
      | false => simpa using findI_ren kt k es (i + 1)
      | true => simp
theorem lookupI_ren (h : Ren π s t) {kt : KT} {z : V} {ok : Bool} {m k v : V} (hz : z.ren π = z) (hl : lookupI kt z ok m k s = some v) : lookupI kt z ok (m.ren π) (k.ren π) t = some (v.ren π) := by
  unfold lookupI at hl ⊢
  simp only [Option.bind_eq_some_iff] at hl ⊢
  obtain ⟨es, he, hl⟩ := hl
  refine ⟨es.map fun e => (e.1.ren π, e.2.1.ren π, e.2.2), ?_, ?_⟩
  · cases m <;> (try simp only [reduceCtorEq] at he)
    rename_i r
    cases r with
    | none => simp only [Option.some.injEq] at he; subst he; rfl
    | some i =>
      simp only [V.ren, Option.map_some] at he ⊢
      split at he
      · rename_i es' c hg
        cases he
        rw [h.get hg]; rfl
      · cases he
  · rw [keyEq_ren]
    split at hl
    · cases hl
    · rename_i hk
      rw [if_neg hk]
      simp only [Option.bind_eq_some_iff] at hl ⊢
      obtain ⟨r, hr, hl⟩ := hl
      refine ⟨_, by rw [findI_ren, hr]; rfl, ?_⟩
      cases hl
      cases r <;> cases ok <;> simp [V.ren, renL, hz]
theorem lenMapI_ren (h : Ren π s t) {x v : V} (hl : lenMapI x s = some v) : lenMapI (x.ren π) t = some (v.ren π) := by
  cases x <;> simp only [lenMapI, reduceCtorEq] at hl
  rename_i r
  cases r with
  | none => simp only [Option.some.injEq] at hl; subst hl; rfl
  | some i =>
    simp only at hl
    simp only [V.ren, Option.map_some, lenMapI]
    split at hl
    · rename_i es' c hg
      cases hl
      rw [h.get hg]
      simp [O.ren]
    · cases hl
theorem evalLook_ren (h : Ren π s t) {op : IOp} {e : Env} {v : V} (hs : op.shut = true) (hl : evalLook op e s = some v) : evalLook op (rE π e) t = some (v.ren π) := by
  simp only [IOp.shut, Bool.and_eq_true] at hs
  obtain ⟨⟨ha, hz⟩, hlow⟩ := hs
  cases op <;> simp only [IOp.args, IOp.zeros, List.all_cons, List.all_nil, List.all_append, Bool.and_eq_true, Bool.and_true, and_true] at ha hz <;> simp only [evalLook, reduceCtorEq] at hl ⊢
  case load n a =>
    rw [ev_ren ha]
    cases hx : ev e a <;> rw [hx] at hl <;> (try simp only [reduceCtorEq] at hl)
    rename_i r
    cases r <;> simp only [reduceCtorEq] at hl
    simp only [Option.bind_eq_some_iff] at hl
    obtain ⟨cs, h1, h2⟩ := hl
    simp only [V.ren, Option.map_some, h.readCells h1, Option.bind_some]
    exact packI_ren h2
  case lookup kt z ok m k =>
    rw [ev_ren ha.1, ev_ren ha.2]
    exact lookupI_ren h (by simp only [shutL, Bool.and_true] at hz; exact V.ren_shut hz) hl
  case lenMap x => rw [ev_ren ha]; exact lenMapI_ren h hl
mutual
theorem beqV_ren : ∀ {a b : V}, beqV a b = true → beqV (a.ren π) (b.ren π) = true := by
  intro a b h
  match a, b with
  | .bool _, .bool _ | .int _ _, .int _ _ | .str _, .str _ | .nilFunc, .nilFunc | .nilIface, .nilIface => exact h
  | .ptr _, .ptr _ => simp only [beqV, beq_iff_eq] at h; subst h; simp [beqV, V.ren]
  | .slice _ _ _, .slice _ _ _ => simp only [beqV, Bool.and_eq_true, beq_iff_eq] at h; obtain ⟨⟨rfl, rfl⟩, rfl⟩ := h; simp [beqV, V.ren]
  | .map _, .map _ => simp only [beqV, beq_iff_eq] at h; subst h; simp [beqV, V.ren]
  | .func f p c, .func f' p' c' =>
    simp only [beqV, Bool.and_eq_true, beq_iff_eq] at h
    simp only [beqV, V.ren, Bool.and_eq_true, beq_iff_eq]
    exact ⟨⟨by rw [h.1.1], beqVs_ren h.1.2⟩, beqVs_ren h.2⟩
  | .iface t x, .iface t' y =>
    simp only [beqV, Bool.and_eq_true, beq_iff_eq] at h
    simp only [beqV, V.ren, Bool.and_eq_true, beq_iff_eq]
    exact ⟨h.1, beqV_ren h.2⟩
  | .agg x, .agg y => simp only [beqV] at h; simp only [beqV, V.ren]; exact beqVs_ren h
  | .tuple x, .tuple y => simp only [beqV] at h; simp only [beqV, V.ren]; exact beqVs_ren h
theorem beqVs_ren : ∀ {a b : List V}, beqVs a b = true → beqVs (renL π a) (renL π b) = true := by
  intro a b h
  match a, b with
  | [], [] => rfl
  | x :: xs, y :: ys =>
    simp only [beqVs, Bool.and_eq_true] at h
    simp only [beqVs, renL, Bool.and_eq_true]
    exact ⟨beqV_ren h.1, beqVs_ren h.2⟩
end
end
end Go.IM

set_option linter.unusedSimpArgs false
set_option linter.unusedVariables false
namespace Go.IM
section
variable {π : Nat → Nat} {s t : St}
structure Out (π : Nat → Nat) (t t' : St) : Prop where
  new : ∀ j, (∀ k, π k ≠ j) → t'.new j = t.new j
  old : t'.old = t.old
  next : t.next ≤ t'.next
theorem Out.refl (π : Nat → Nat) (t : St) : Out π t t := ⟨fun _ _ => rfl, rfl, Nat.le_refl _⟩
theorem Out.trans {t t' t'' : St} (h : Out π t t') (k : Out π t' t'') : Out π t t'' :=
  ⟨fun j hj => (k.new j hj).trans (h.new j hj), k.old.trans h.old, Nat.le_trans h.next k.next⟩
theorem Ren.at (h : Ren π s t) : π s.next = t.next := by
  have := h.next s.next (Nat.le_refl _); simpa using this
theorem Ren.alloc (h : Ren π s t) (o : O) : Ren π (s.alloc o) (t.alloc (o.ren π)) where
  next := fun k hk => by
    have hk' : s.next + 1 ≤ k := hk
    have := h.next k (by omega)
    show π k = t.next + 1 + (k - (s.next + 1))
    omega
  obj := fun k o' hk => by
    simp only [St.alloc] at hk ⊢
    by_cases e : k = s.next
    · subst e
      rw [if_pos rfl] at hk
      cases hk
      rw [if_pos h.at]
    · rw [if_neg e] at hk
      have : π k ≠ t.next := fun hh => e (h.inj _ _ (hh.trans h.at.symm))
      rw [if_neg this]
      exact h.obj k o' hk
  old := h.old
  inj := h.inj
theorem Out.alloc (h : Ren π s t) (o : O) : Out π t (t.alloc o) :=
  ⟨fun j hj => by simp only [St.alloc]; rw [if_neg (fun e => hj s.next (h.at.trans e.symm))], rfl, by simp [St.alloc]⟩
theorem Ren.set (h : Ren π s t) (k : Nat) (o : O) : Ren π (s.set k o) (t.set (π k) (o.ren π)) where
  next := h.next
  obj := fun k' o' hk => by
    simp only [St.set] at hk ⊢
    by_cases e : k' = k
    · subst e
      rw [if_pos rfl] at hk
      cases hk
      rw [if_pos rfl]
    · rw [if_neg e] at hk
      rw [if_neg (fun hh => e (h.inj _ _ hh))]
      exact h.obj k' o' hk
  old := h.old
  inj := h.inj
theorem Out.set (t : St) (k : Nat) (o : O) : Out π t (t.set (π k) o) :=
  ⟨fun j hj => by simp only [St.set]; rw [if_neg (fun e => hj k e.symm)], rfl, Nat.le_refl _⟩
theorem Ren.kill (h : Ren π s t) (k : Nat) : Ren π (s.kill k) (t.kill (π k)) where
  next := h.next
  obj := fun k' o' hk => by
    simp only [St.kill] at hk ⊢
    by_cases e : k' = k
    · subst e
      rw [if_pos rfl] at hk
      cases hk
    · rw [if_neg e] at hk
      rw [if_neg (fun hh => e (h.inj _ _ hh))]
      exact h.obj k' o' hk
  old := h.old
  inj := h.inj
theorem Out.kill (t : St) (k : Nat) : Out π t (t.kill (π k)) :=
  ⟨fun j hj => by simp only [St.kill]; rw [if_neg (fun e => hj k e.symm)], rfl, Nat.le_refl _⟩
theorem zeros_ren {z : List V} (h : shutL z = true) : ∀ n, (zeros z n).map (V.ren π) = zeros z n
  | 0 => rfl
  | n + 1 => by simp only [zeros, List.map_append, map_shut h, zeros_ren h n]
theorem evalA_ren {op : IOp} {e : Env} {o : O} {f : Nat → V} (hs : op.shut = true) (h : evalA op e = some (o, f)) :
    ∃ g, evalA op (rE π e) = some (o.ren π, g) ∧ ∀ k, g (π k) = (f k).ren π := by
  simp only [IOp.shut, Bool.and_eq_true] at hs
  obtain ⟨⟨ha, hz⟩, hlow⟩ := hs
  cases op <;> simp only [IOp.args, IOp.zeros, List.all_cons, List.all_nil, List.all_append, Bool.and_eq_true, Bool.and_true, and_true] at ha hz <;> simp only [evalA, reduceCtorEq] at h ⊢
  case alloc z =>
    cases h
    exact ⟨_, by simp only [O.ren, map_shut hz]; rfl, fun _ => rfl⟩
  case box x =>
    rw [ev_ren ha, ren_cells, ren_all_one]
    split at h
    · rename_i hc
      cases h
      rw [if_pos hc]
      exact ⟨_, rfl, fun _ => rfl⟩
    · cases h
  case buildSlice len z ps =>
    simp only [Option.map_eq_some_iff, Prod.mk.injEq] at h
    obtain ⟨cs, h, rfl, rfl⟩ := h
    have h2 := fillI_ren (π := π) e ps z cs (ofFill (e := e) ha) h
    rw [map_shut hz] at h2
    exact ⟨_, by rw [h2]; rfl, fun _ => rfl⟩
  case mkMap => cases h; exact ⟨_, rfl, fun _ => rfl⟩
  case mkSlice bytes z len cap =>
    rw [ev_ren ha.1, ev_ren ha.2, asNat_ren, asNat_ren]
    simp only [Option.bind_eq_some_iff] at h
    obtain ⟨l, h1, c, h2, h⟩ := h
    rw [h1, h2]
    split at h
    · rename_i hc
      cases h
      refine ⟨_, by simp only [Option.bind_some, if_pos hc, O.ren, zeros_ren hz]; rfl, fun _ => rfl⟩
    · cases h
theorem Ren.writeCells (h : Ren π s t) {a : Ad} {vs : List V} {s' : St} (hw : writeCells s a vs = some s') :
    ∃ t', writeCells t (a.ren π) (vs.map (V.ren π)) = some t' ∧ Ren π s' t' ∧ Out π t t' := by
  obtain ⟨i, off⟩ := a
  cases i with
  | old b => simp [IM.writeCells] at hw
  | new k =>
    simp only [IM.writeCells, Ad.ren, Id.ren] at hw ⊢
    split at hw
    · rename_i cs g hk
      split at hw
      · rename_i hc
        cases hw
        rw [h.obj k _ hk]
        simp only [O.ren, List.length_map, ren_all_one]
        rw [if_pos hc]
        refine ⟨_, rfl, ?_, Out.set _ _ _⟩
        have := h.set k (.cells (over cs off vs) g)
        simpa only [O.ren, over_ren] using this
      · cases hw
    · cases hw
theorem Ren.storeI (h : Ren π s t) {n : Nat} {x y : V} {s' : St} (hw : storeI n x y s = some s') :
    ∃ t', storeI n (x.ren π) (y.ren π) t = some t' ∧ Ren π s' t' ∧ Out π t t' := by
  unfold IM.storeI at hw
  split at hw
  · rename_i a
    split at hw
    · rename_i hn
      obtain ⟨t', h1, h2⟩ := h.writeCells hw
      exact ⟨t', by simp only [V.ren, Option.map_some, IM.storeI, ren_cells, List.length_map, if_pos hn, h1], h2⟩
    · cases hw
  · cases hw
theorem Ren.mapSetI (h : Ren π s t) {kt : KT} {m k v : V} {s' : St} (hw : mapSetI kt m k v s = some s') :
    ∃ t', mapSetI kt (m.ren π) (k.ren π) (v.ren π) t = some t' ∧ Ren π s' t' ∧ Out π t t' := by
  unfold IM.mapSetI at hw
  split at hw
  · rename_i b
    split at hw
    · rename_i es clock hb
      split at hw
      · cases hw
      · rename_i hk
        simp only [Option.map_eq_some_iff] at hw
        obtain ⟨r, hr, hw⟩ := hw
        have hb' := h.obj b _ hb
        simp only [O.ren] at hb'
        simp only [V.ren, Option.map_some, Id.ren, IM.mapSetI, hb', keyEq_ren, if_neg hk, findI_ren, hr, Option.map_some]
        cases r with
        | none =>
          simp only at hw
          subst hw
          refine ⟨_, rfl, ?_, Out.set _ _ _⟩
          have := h.set b (.map (es ++ [(k, v, clock)]) (clock + 1))
          simpa [O.ren] using this
        | some q =>
          simp only at hw
          subst hw
          refine ⟨_, rfl, ?_, Out.set _ _ _⟩
          have := h.set b (.map (es.modify q.1 fun e => (k, v, e.2.2)) clock)
          have e1 : (es.modify q.1 fun e => (k, v, e.2.2)).map (fun e => (e.1.ren π, e.2.1.ren π, e.2.2)) = (es.map fun e => (e.1.ren π, e.2.1.ren π, e.2.2)).modify q.1 fun e => (k.ren π, v.ren π, e.2.2) := by
            apply List.ext_getElem?
            intro i
            simp only [List.getElem?_map, List.getElem?_modify]
            cases es[i]? <;> simp
            split <;> simp_all
          simpa [O.ren, e1] using this
    · cases hw
  · cases hw
theorem Ren.mapEntI (h : Ren π s t) {kt : KT} {z m k v : V} (hz : z.ren π = z) {s' : St} (hw : mapEntI kt z m k s = some (v, s')) :
    ∃ t', mapEntI kt z (m.ren π) (k.ren π) t = some (v.ren π, t') ∧ Ren π s' t' ∧ Out π t t' := by
  unfold IM.mapEntI at hw
  split at hw
  · rename_i b
    split at hw
    · rename_i es clock hb
      split at hw
      · cases hw
      · rename_i hk
        simp only [Option.map_eq_some_iff] at hw
        obtain ⟨r, hr, hw⟩ := hw
        have hb' := h.obj b _ hb
        simp only [O.ren] at hb'
        simp only [V.ren, Option.map_some, Id.ren, IM.mapEntI, hb', keyEq_ren, if_neg hk, findI_ren, hr, Option.map_some]
        cases r with
        | none =>
          simp only [Prod.mk.injEq] at hw
          obtain ⟨rfl, rfl⟩ := hw
          refine ⟨t.set (π b) (.map ((es.map fun e => (e.1.ren π, e.2.1.ren π, e.2.2)) ++ [(k.ren π, z, clock)]) (clock + 1)), by simp [V.ren, renL, hz], ?_, Out.set _ _ _⟩
          have := h.set b (.map (es ++ [(k, z, clock)]) (clock + 1))
          simpa [O.ren, hz] using this
        | some q =>
          simp only [Prod.mk.injEq] at hw
          obtain ⟨rfl, rfl⟩ := hw
          have e0 : (((es.map fun e => (e.1.ren π, e.2.1.ren π, e.2.2))[q.1]?).map (·.2.2)).getD 0 = ((es[q.1]?).map (·.2.2)).getD 0 := by
            rw [List.getElem?_map]; cases es[q.1]? <;> rfl
          refine ⟨t.set (π b) (.map ((es.map fun e => (e.1.ren π, e.2.1.ren π, e.2.2)).modify q.1 fun e => (k.ren π, e.2.1, e.2.2)) clock), by simp only [Option.map_some, e0, V.ren, renL], ?_, Out.set _ _ _⟩
          have := h.set b (.map (es.modify q.1 fun e => (k, e.2.1, e.2.2)) clock)
          have e1 : (es.modify q.1 fun e => (k, e.2.1, e.2.2)).map (fun e => (e.1.ren π, e.2.1.ren π, e.2.2)) = (es.map fun e => (e.1.ren π, e.2.1.ren π, e.2.2)).modify q.1 fun e => (k.ren π, e.2.1, e.2.2) := by
            apply List.ext_getElem?
            intro i
            simp only [List.getElem?_map, List.getElem?_modify]
            cases es[i]? <;> simp
            split <;> simp_all
          simpa [O.ren, e1] using this
    · cases hw
  · cases hw
theorem Ren.entSetI (h : Ren π s t) {m st v : V} {s' : St} (hw : entSetI m st v s = some s') :
    ∃ t', entSetI (m.ren π) (st.ren π) (v.ren π) t = some t' ∧ Ren π s' t' ∧ Out π t t' := by
  unfold IM.entSetI at hw
  split at hw
  · rename_i b kd born
    split at hw
    · rename_i es clock hb
      simp only [Option.map_eq_some_iff] at hw
      obtain ⟨i, hi, rfl⟩ := hw
      have hb' := h.obj b _ hb
      simp only [O.ren] at hb'
      have hi' : (es.map fun e => (e.1.ren π, e.2.1.ren π, e.2.2)).findIdx? (fun e => (e.2.2 : Int) == born) = some i := by
        rw [List.findIdx?_map]; exact hi
      simp only [V.ren, Option.map_some, Id.ren, IM.entSetI, hb', hi', Option.map_some]
      refine ⟨_, rfl, ?_, Out.set _ _ _⟩
      have := h.set b (.map (es.modify i fun e => (e.1, v, e.2.2)) clock)
      have e1 : (es.modify i fun e => (e.1, v, e.2.2)).map (fun e => (e.1.ren π, e.2.1.ren π, e.2.2)) = (es.map fun e => (e.1.ren π, e.2.1.ren π, e.2.2)).modify i fun e => (e.1, v.ren π, e.2.2) := by
        apply List.ext_getElem?
        intro i
        simp only [List.getElem?_map, List.getElem?_modify]
        cases es[i]? <;> simp
        split <;> simp_all
      simpa [O.ren, e1] using this
    · cases hw
  · cases hw
theorem Ren.newCells (h : Ren π s t) {sz : Nat} {y : V} {p : List V × Nat} (hn : newCells s sz y = some p) : newCells t sz (y.ren π) = some (p.1.map (V.ren π), p.2) := by
  unfold IM.newCells at hn
  split at hn
  · cases hn; rfl
  · split at hn
    · rename_i h0
      cases hn
      simp only [V.ren, Option.map_some, IM.newCells, if_pos h0, List.map_nil]
    · rename_i h0
      simp only [Option.map_eq_some_iff] at hn
      obtain ⟨cs, hn, rfl⟩ := hn
      simp only [V.ren, Option.map_some, IM.newCells, if_neg h0, h.readCells hn]
  · split at hn
    · rename_i hz
      cases hn
      simp only [V.ren, IM.newCells, if_pos hz, List.map_map]
      congr 2
    · cases hn
  · cases hn
theorem Ren.appendI (h : Ren π s t) {sz bytes : Nat} {x y v : V} {s' : St} (ha : appendI sz bytes x y s = some (v, s')) :
    ∃ t', appendI sz bytes (x.ren π) (y.ren π) t = some (v.ren π, t') ∧ Ren π s' t' ∧ Out π t t' := by
  unfold IM.appendI at ha
  simp only [Option.bind_eq_some_iff] at ha
  obtain ⟨p, hp, ha⟩ := ha
  unfold IM.appendI
  simp only [h.newCells hp, Option.bind_some]
  split at ha
  · split at ha
    · rename_i hz
      cases ha
      exact ⟨t, by simp [V.ren, hz], h, Out.refl _ _⟩
    · rename_i hz
      split at ha
      · rename_i hc
        cases ha
        refine ⟨t.alloc (O.ren π (.cells p.1 (some sz))), by simp only [V.ren, Option.map_none, if_neg hz, if_pos hc, Option.map_some, Ad.ren, Id.ren, h.at, O.ren], ?_, Out.alloc h _⟩
        exact h.alloc (.cells p.1 (some sz))
      · cases ha
  · rename_i a len cap
    split at ha
    · rename_i hz
      cases ha
      exact ⟨t, by simp [V.ren, hz], h, Out.refl _ _⟩
    · rename_i hz
      split at ha
      · rename_i hc
        simp only [Option.map_eq_some_iff, Prod.mk.injEq] at ha
        obtain ⟨s1, hw, rfl, rfl⟩ := ha
        obtain ⟨t', h1, h2⟩ := h.writeCells hw
        exact ⟨t', by simp only [V.ren, Option.map_some, if_neg hz, if_pos hc]; simp only [Ad.ren] at h1 ⊢; rw [h1]; rfl, h2⟩
      · rename_i hc
        split at ha
        · rename_i hb
          simp only [Option.map_eq_some_iff, Prod.mk.injEq] at ha
          obtain ⟨was, hw, rfl, rfl⟩ := ha
          refine ⟨t.alloc (O.ren π (.cells (was ++ p.1) (some sz))), by simp only [V.ren, Option.map_some, if_neg hz, if_neg hc, if_pos hb, h.readCells hw]; simp only [Ad.ren, Id.ren, h.at, O.ren, List.map_append], ?_, Out.alloc h _⟩
          exact h.alloc (.cells (was ++ p.1) (some sz))
        · cases ha
  · rename_i a len
    split at ha
    · rename_i hz
      cases ha
      exact ⟨t, by simp [V.ren, hz], h, Out.refl _ _⟩
    · rename_i hz
      obtain ⟨i, off⟩ := a
      cases i with
      | old b => simp at ha
      | new k =>
        simp only at ha
        split at ha
        · rename_i cs g hk
          split at ha
          · rename_i hc
            simp only [Option.map_eq_some_iff, Prod.mk.injEq] at ha
            obtain ⟨s1, hw, rfl, rfl⟩ := ha
            obtain ⟨t', h1, h2⟩ := h.writeCells hw
            simp only [Ad.ren, Id.ren] at h1
            exact ⟨t', by simp only [V.ren, Option.map_some, if_neg hz, Ad.ren, Id.ren, h.obj k _ hk, O.ren, List.length_map, if_pos hc, h1], h2⟩
          · rename_i hc0
            split at ha
            · rename_i hc
              cases ha
              refine ⟨_, by simp only [V.ren, Option.map_some, if_neg hz, Ad.ren, Id.ren, h.obj k _ hk, O.ren, List.length_map, ren_all_one, if_neg hc0, if_pos hc]; rw [h.at], ?_, ?_⟩
              · have := (h.kill k).alloc (.cells (cs ++ p.1) (some sz))
                simpa [O.ren] using this
              · exact (Out.kill _ _).trans (Out.alloc (h.kill k) _)
            · cases ha
        · cases ha
  · cases ha
theorem evalS_ren (h : Ren π s t) {op : IOp} {e : Env} {v : V} {s' : St} (hs : op.shut = true) (hl : evalS op e s = some (v, s')) :
    ∃ t', evalS op (rE π e) t = some (v.ren π, t') ∧ Ren π s' t' ∧ Out π t t' := by
  simp only [IOp.shut, Bool.and_eq_true] at hs
  obtain ⟨⟨ha, hz⟩, hlow⟩ := hs
  cases op <;> simp only [IOp.args, IOp.zeros, List.all_cons, List.all_nil, List.all_append, Bool.and_eq_true, Bool.and_true, and_true] at ha hz <;> simp only [evalS, reduceCtorEq] at hl ⊢
  case store n a x =>
    simp only [Option.map_eq_some_iff, Prod.mk.injEq] at hl
    obtain ⟨s1, hl, rfl, rfl⟩ := hl
    obtain ⟨t', h1, h2⟩ := h.storeI hl
    exact ⟨t', by rw [ev_ren ha.1, ev_ren ha.2, h1]; rfl, h2⟩
  case mapSet kt m k x =>
    simp only [Option.map_eq_some_iff, Prod.mk.injEq] at hl
    obtain ⟨s1, hl, rfl, rfl⟩ := hl
    obtain ⟨t', h1, h2⟩ := h.mapSetI hl
    exact ⟨t', by rw [ev_ren ha.1, ev_ren ha.2.1, ev_ren ha.2.2, h1]; rfl, h2⟩
  case mapEnt kt z m k =>
    have hzz : z.ren π = z := V.ren_shut (by simpa [shutL] using hz)
    obtain ⟨t', h1, h2⟩ := h.mapEntI hzz hl
    exact ⟨t', by rw [ev_ren ha.1, ev_ren ha.2, h1], h2⟩
  case entSet m st x =>
    simp only [Option.map_eq_some_iff, Prod.mk.injEq] at hl
    obtain ⟨s1, hl, rfl, rfl⟩ := hl
    obtain ⟨t', h1, h2⟩ := h.entSetI hl
    exact ⟨t', by rw [ev_ren ha.1, ev_ren ha.2.1, ev_ren ha.2.2, h1]; rfl, h2⟩
  case append sz bytes x y =>
    rw [ev_ren ha.1, ev_ren ha.2]
    exact h.appendI hl
theorem evalL_ren (h : Ren π s t) {op : IOp} {e : Env} {v : V} (hs : op.shut = true) (hl : evalL op e s = some v) : evalL op (rE π e) t = some (v.ren π) := by
  unfold evalL at hl ⊢
  split at hl
  · rename_i i op'
    have hs' : op'.shut = true := by
      simp only [IOp.shut, IOp.args, IOp.zeros, IOp.low, List.all_cons, Bool.and_eq_true] at hs ⊢
      exact ⟨⟨hs.1.1.2, hs.1.2⟩, hs.2⟩
    simp only [Option.bind_eq_some_iff] at hl
    obtain ⟨u, h1, h2⟩ := hl
    split at h2
    · rename_i hb
      cases h2
      simp only [evalLook_ren h hs' h1, Option.bind_some, ev_ren (π := π) (e := e) (x := .t i) rfl, beqV_ren hb, if_true, ren_any]
    · cases h2
  · exact evalLook_ren h hs hl
theorem evalOp_ren (h : Ren π s t) {op : IOp} {e : Env} {v : V} {s' : St} (hs : op.shut = true) (hl : evalOp op e s = some (v, s')) :
    ∃ t', evalOp op (rE π e) t = some (v.ren π, t') ∧ Ren π s' t' ∧ Out π t t' := by
  unfold evalOp at hl ⊢
  split at hl
  · simp only [Option.map_eq_some_iff, Prod.mk.injEq] at hl
    obtain ⟨u, hl, rfl, rfl⟩ := hl
    exact ⟨t, by simp only [evalP_ren hs hl, Option.map_some], h, Out.refl _ _⟩
  · simp only [Option.map_eq_some_iff, Prod.mk.injEq] at hl
    obtain ⟨u, hl, rfl, rfl⟩ := hl
    exact ⟨t, by simp only [evalL_ren h hs hl, Option.map_some], h, Out.refl _ _⟩
  · simp only [Option.map_eq_some_iff, Prod.mk.injEq] at hl
    obtain ⟨⟨o, f⟩, hl, rfl, rfl⟩ := hl
    obtain ⟨g, h1, h2⟩ := evalA_ren (π := π) hs hl
    exact ⟨_, by simp only [h1, Option.map_some, ← h.at, h2], h.alloc o, Out.alloc h _⟩
  · exact evalS_ren h hs hl
def CRen (π : Nat → Nat) (C C' : CallT) : Prop := ∀ f a s t v s', Ren π s t → C f a s = some (v, s') → ∃ t', C' (fren π f) (a.map (V.ren π)) t = some (v.ren π, t') ∧ Ren π s' t' ∧ Out π t t'
theorem execI_ren {C C' : CallT} (hC : CRen π C C') (h : Ren π s t) {op : IOp} {e : Env} {v : V} {s' : St} (hs : op.shut = true) (hl : execI C op e s = some (v, s')) :
    ∃ t', execI C' op (rE π e) t = some (v.ren π, t') ∧ Ren π s' t' ∧ Out π t t' := by
  unfold execI at hl ⊢
  split at hl
  · simp only [IOp.shut, IOp.args, IOp.low, Bool.and_eq_true, decide_eq_true_eq] at hs
    simp only [map_ev_ren hs.1.1]
    have := hC _ _ _ _ _ _ h hl
    rwa [fren_low π hs.2] at this
  · simp only [IOp.shut, IOp.args, List.all_cons, Bool.and_eq_true] at hs
    simp only [map_ev_ren hs.1.1.2, ev_ren hs.1.1.1]
    split at hl
    · rename_i g pre caps hg
      rw [hg]
      simp only [V.ren, renL_eq, ← List.map_append]
      exact hC _ _ _ _ _ _ h hl
    · cases hl
  · rename_i h1 h2
    exact evalOp_ren h hs hl
theorem stepI_ren {C C' : CallT} (hC : CRen π C C') (h : Ren π s t) {i : II} {e e' : Env} {s' : St} (hs : i.op.shut = true) (hl : stepI C i e s = some (e', s')) :
    ∃ t', stepI C' i (rE π e) t = some (rE π e', t') ∧ Ren π s' t' ∧ Out π t t' := by
  unfold stepI at hl ⊢
  split at hl
  · rename_i hw
    rw [wanted_ren e i.guard hw]
    simp only [Option.map_eq_some_iff, Prod.mk.injEq] at hl
    obtain ⟨⟨v, s1⟩, hl, rfl, rfl⟩ := hl
    obtain ⟨t', h1, h2⟩ := execI_ren hC h hs hl
    exact ⟨t', by simp only [h1, Option.map_some, put_ren], h2⟩
  · rename_i hw
    rw [wanted_ren e i.guard hw]
    cases hl
    exact ⟨t, by simp only [put_ren]; rfl, h, Out.refl _ _⟩
  · cases hl
def ERen (π : Nat → Nat) (t0 : St) (K K' : Env → St → Res) : Prop := ∀ e s t v s', Ren π s t → Out π t0 t → K e s = some (v, s') → ∃ t', K' (rE π e) t = some (v.ren π, t') ∧ Ren π s' t' ∧ Out π t0 t'
theorem goOps_ren {C C' : CallT} (hC : CRen π C C') {t0 : St} {K K' : Env → St → Res} (hK : ERen π t0 K K') {v : V} {s' : St} :
    ∀ (l : List II) (e : Env) (s t : St), (l.all fun i => i.op.shut) = true → Ren π s t → Out π t0 t → goOps C l e s K = some (v, s') →
      ∃ t', goOps C' l (rE π e) t K' = some (v.ren π, t') ∧ Ren π s' t' ∧ Out π t0 t'
  | [], e, s, t, _, h, ho, hl => hK e s t v s' h ho hl
  | i :: l, e, s, t, hs, h, ho, hl => by
    simp only [List.all_cons, Bool.and_eq_true] at hs
    simp only [goOps, Option.bind_eq_some_iff] at hl
    obtain ⟨⟨e1, s1⟩, h1, h2⟩ := hl
    obtain ⟨t1, h3, h4, h5⟩ := stepI_ren hC h hs.1 h1
    simp only [goOps, h3, Option.bind_some]
    exact goOps_ren hC hK l e1 s1 t1 hs.2 h4 (ho.trans h5) h2
def KRen (π : Nat → Nat) (t0 : St) (K K' : Kt) : Prop := ∀ x, ERen π t0 (K x) (K' x)
def LRen (π : Nat → Nat) (L L' : IC → Env → St → Kt → Res) : Prop := ∀ t0 c e s t K K' v s', c.shut = true → KRen π t0 K K' → Ren π s t → Out π t0 t → L c e s K = some (v, s') →
  ∃ t', L' c (rE π e) t K' = some (v.ren π, t') ∧ Ren π s' t' ∧ Out π t0 t'
theorem go_ren {L L' : IC → Env → St → Kt → Res} {C C' : CallT} (hL : LRen π L L') (hC : CRen π C C') {t0 : St} {v : V} {s' : St} :
    ∀ (c : IC) (e : Env) (s t : St) (K K' : Kt), c.shut = true → KRen π t0 K K' → Ren π s t → Out π t0 t → go L C c e s K = some (v, s') →
      ∃ t', go L' C' c (rE π e) t K' = some (v.ren π, t') ∧ Ren π s' t' ∧ Out π t0 t'
  | .skip, e, s, t, K, K', _, hK, h, ho, hl => hK _ _ _ _ _ _ h ho hl
  | .region ops keep, e, s, t, K, K', hs, hK, h, ho, hl => by
    refine goOps_ren hC (fun e s t v s' h ho hl => ?_) ops e s t hs h ho hl
    have := hK .normal _ _ _ _ _ h ho hl
    rwa [mask_ren] at this
  | .seq a b, e, s, t, K, K', hs, hK, h, ho, hl => by
    simp only [IC.shut, Bool.and_eq_true] at hs
    refine go_ren hL hC a e s t _ _ hs.1 (fun x e s t v s' h ho hl => ?_) h ho hl
    cases x with
    | normal => exact go_ren hL hC b e s t K K' hs.2 hK h ho hl
    | exit i => exact hK _ _ _ _ _ _ h ho hl
    | ret => exact hK _ _ _ _ _ _ h ho hl
  | .cond c a b, e, s, t, K, K', hs, hK, h, ho, hl => by
    simp only [IC.shut, Bool.and_eq_true] at hs
    simp only [go, ev_ren hs.1.1] at hl ⊢
    split at hl
    · rename_i hc; rw [hc]; exact go_ren hL hC a e s t K K' hs.1.2 hK h ho hl
    · rename_i hc; rw [hc]; exact go_ren hL hC b e s t K K' hs.2 hK h ho hl
    · cases hl
  | .block id a, e, s, t, K, K', hs, hK, h, ho, hl => by
    refine go_ren hL hC a e s t _ _ hs (fun x e s t v s' h ho hl => ?_) h ho hl
    cases x with
    | normal => exact hK _ _ _ _ _ _ h ho hl
    | exit i =>
      simp only at hl ⊢
      split at hl
      · rename_i hi; rw [if_pos hi]; exact hK _ _ _ _ _ _ h ho hl
      · rename_i hi; rw [if_neg hi]; exact hK _ _ _ _ _ _ h ho hl
    | ret => exact hK _ _ _ _ _ _ h ho hl
  | .loop a, e, s, t, K, K', hs, hK, h, ho, hl => by
    refine go_ren hL hC a e s t _ _ hs (fun x e s t v s' h ho hl => ?_) h ho hl
    cases x with
    | normal => exact hL t0 _ _ _ _ _ _ _ _ hs hK h ho hl
    | exit i => exact hK _ _ _ _ _ _ h ho hl
    | ret => exact hK _ _ _ _ _ _ h ho hl
  | .range f ps a b, e, s, t, K, K', hs, hK, h, ho, hl => hL t0 _ _ _ _ _ _ _ _ hs hK h ho hl
  | .exit i, e, s, t, K, K', _, hK, h, ho, hl => hK _ _ _ _ _ _ h ho hl
  | .ret, e, s, t, K, K', _, hK, h, ho, hl => hK _ _ _ _ _ _ h ho hl
theorem resultsI_ren (h : Ren π s t) {e : Env} : ∀ (l : List (Nat × Option (Option Nat))) {vs : List V}, resultsI e s l = some vs → resultsI (rE π e) t l = some (vs.map (V.ren π))
  | [], vs, hl => by cases hl; rfl
  | (i, none) :: l, vs, hl => by
    simp only [resultsI, Option.map_eq_some_iff] at hl
    obtain ⟨us, hl, rfl⟩ := hl
    have := ev_ren (π := π) (e := e) (x := .t i) rfl
    simp only [ev] at this
    simp only [resultsI, resultsI_ren h l hl, Option.map_some, this, List.map_cons]
  | (i, some n) :: l, vs, hl => by
    simp only [resultsI, Option.bind_eq_some_iff, Option.map_eq_some_iff] at hl
    obtain ⟨u, h1, us, hl, rfl⟩ := hl
    simp only [resultsI, evalLook_ren h (op := .load n (.t i)) rfl h1, Option.bind_some, resultsI_ren h l hl, Option.map_some, List.map_cons]
theorem packRes_ren : ∀ l : List V, packRes (l.map (V.ren π)) = (packRes l).ren π
  | [] => rfl
  | [v] => rfl
  | _ :: _ :: _ => by simp [packRes, V.ren, renL_eq]
theorem fin_ren (fn : IFn) (t0 : St) : KRen π t0 (fin fn) (fin fn) := by
  intro x e s t v s' h ho hl
  have key : (resultsI e s fn.results).map (fun vs => (packRes vs, s)) = some (v, s') → ∃ t', (resultsI (rE π e) t fn.results).map (fun vs => (packRes vs, t)) = some (v.ren π, t') ∧ Ren π s' t' ∧ Out π t0 t' := by
    intro hl
    simp only [Option.map_eq_some_iff, Prod.mk.injEq] at hl
    obtain ⟨vs, hr, rfl, rfl⟩ := hl
    exact ⟨t, by simp only [resultsI_ren h _ hr, Option.map_some, packRes_ren], h, ho⟩
  cases x with
  | exit i => simp [fin] at hl
  | normal => exact key hl
  | ret => exact key hl
theorem initEnv_ren (fn : IFn) (a : List V) : rE π (initEnv fn a) = initEnv fn (a.map (V.ren π)) := by
  simp [rE, initEnv]
def YRen (π : Nat → Nat) (Y Y' : Yt) : Prop := ∀ j a s t v s', Ren π s t → Y j a s = some (v, s') → ∃ t', Y' (π j) (a.map (V.ren π)) t = some (v.ren π, t') ∧ Ren π s' t' ∧ Out π t t'
theorem YRen.no : YRen π noY noY := fun _ _ _ _ _ _ _ h => by cases h
theorem putAll_ren : ∀ (ps : List Nat) (e : Env) (a : List V), rE π (putAll e ps a) = putAll (rE π e) ps (a.map (V.ren π))
  | [], _, _ => by simp [putAll]
  | _ :: _, _, [] => by simp [putAll]
  | p :: ps, e, v :: vs => by
    have h1 : rE π (e.set p v) = (rE π e).set p (v.ren π) := by simp [rE, List.map_set]
    simp only [putAll, List.map_cons, putAll_ren ps, h1]
theorem roundEnd_ren (k : Nat) (t0 : St) : KRen π t0 (roundEnd k) (roundEnd (π k)) := by
  intro x e s t v s' h ho hl
  simp only [roundEnd] at hl ⊢
  split at hl
  · rename_i hs
    rw [h.obj _ _ hs]
    simp only [Option.some.injEq, Prod.mk.injEq] at hl
    obtain ⟨rfl, rfl⟩ := hl
    exact ⟨_, rfl, h.set k _, ho.trans (Out.set t k _)⟩
  · cases hl
theorem roundMid_ren {M M' : LT × CallT} (hL : LRen π M.1 M'.1) (hC : CRen π M.2 M'.2) {b : IC} (hb : b.shut = true) (k : Nat) (t0 : St) : KRen π t0 (roundMid M b k) (roundMid M' b (π k)) := by
  intro x e s t v s' h ho hl
  cases x with
  | exit i => cases hl
  | ret => cases hl
  | normal =>
    simp only [roundMid] at hl ⊢
    split at hl
    · rename_i hs
      rw [h.obj _ _ hs]
      exact go_ren hL hC b _ _ _ _ _ hb (roundEnd_ren k t0) (h.set k _) (ho.trans (Out.set t k _)) hl
    · cases hl
theorem roundI_ren {M M' : LT × CallT} (hL : LRen π M.1 M'.1) (hC : CRen π M.2 M'.2) {ps : List Nat} {a b : IC} (ha : a.shut = true) (hb : b.shut = true) {e : Env} {k : Nat} {args : List V} {s t : St} {v : V} {s' : St}
    (h : Ren π s t) (hl : roundI M ps a b e k args s = some (v, s')) : ∃ t', roundI M' ps a b (rE π e) (π k) (args.map (V.ren π)) t = some (v.ren π, t') ∧ Ren π s' t' ∧ Out π t t' := by
  unfold roundI at hl ⊢
  rw [List.length_map]
  split at hl
  · rename_i hlen
    rw [if_pos hlen]
    split at hl
    · rename_i hs
      rw [h.obj _ _ hs]
      rw [← putAll_ren]
      exact go_ren hL hC a _ _ _ _ _ ha (roundMid_ren hL hC hb k t) h (Out.refl _ _) hl
    · cases hl
  · cases hl
theorem YRen.withY {Y Y' : Yt} (hY : YRen π Y Y') {k : Nat} {f f' : List V → St → Res} (hf : ∀ a s t v s', Ren π s t → f a s = some (v, s') → ∃ t', f' (a.map (V.ren π)) t = some (v.ren π, t') ∧ Ren π s' t' ∧ Out π t t') :
    YRen π (withY Y k f) (withY Y' (π k) f') := by
  intro j a s t v s' h hl
  unfold IM.withY at hl ⊢
  split at hl
  · rename_i e; subst e; rw [if_pos rfl]; exact hf _ _ _ _ _ h hl
  · rename_i e; rw [if_neg (fun hh => e (h.inj _ _ hh))]; exact hY _ _ _ _ _ _ h hl
theorem rangeEnd_ren (h : Ren π s t) {t0 : St} (ho : Out π t0 t) {k : Nat} {e : Env} {K K' : Kt} (hK : KRen π t0 K K') {u v : V} {s' : St} (hl : rangeEnd k e K (u, s) = some (v, s')) :
    ∃ t', rangeEnd (π k) (rE π e) K' (u.ren π, t) = some (v.ren π, t') ∧ Ren π s' t' ∧ Out π t0 t' := by
  unfold rangeEnd at hl ⊢
  split at hl
  · rename_i hs; simp only [h.obj _ _ hs, O.ren]; exact hK _ _ _ _ _ _ (h.kill k) (ho.trans (Out.kill t k)) hl
  · rename_i hs; simp only [h.obj _ _ hs, O.ren]; exact hK _ _ _ _ _ _ (h.kill k) (ho.trans (Out.kill t k)) hl
  · rename_i hs; simp only [h.obj _ _ hs, O.ren]; exact hK _ _ _ _ _ _ (h.kill k) (ho.trans (Out.kill t k)) hl
  · cases hl
theorem rangeI_ren {M : Yt → LT × CallT} (hM : ∀ Y Y', YRen π Y Y' → LRen π (M Y).1 (M Y').1 ∧ CRen π (M Y).2 (M Y').2) {Y Y' : Yt} (hY : YRen π Y Y') {f : Arg} {ps : List Nat} {a b : IC} (hf : f.shut = true) (ha : a.shut = true) (hb : b.shut = true)
    {t0 : St} {e : Env} {K K' : Kt} (hK : KRen π t0 K K') {v : V} {s' : St} (h : Ren π s t) (ho : Out π t0 t) (hl : rangeI M Y f ps a b e s K = some (v, s')) :
    ∃ t', rangeI M Y' f ps a b (rE π e) t K' = some (v.ren π, t') ∧ Ren π s' t' ∧ Out π t0 t' := by
  unfold rangeI at hl ⊢
  rw [ev_ren hf]
  split at hl
  · rename_i g pre caps hg
    rw [hg]
    split at hl
    · rename_i h0
      simp only [V.ren, fren_low π h0, if_pos h0]
      simp only [Option.bind_eq_some_iff] at hl
      obtain ⟨⟨u, s2⟩, hc, hend⟩ := hl
      obtain ⟨h1, h2⟩ := hM Y Y' hY
      have hY2 := hY.withY (k := s.next) (f := roundI (M Y) ps a b e s.next) (f' := roundI (M Y') ps a b (rE π e) (π s.next)) (fun _ _ _ _ _ h hl => roundI_ren h1 h2 ha hb h hl)
      obtain ⟨t2, q1, q2, q3⟩ := (hM _ _ hY2).2 _ _ _ _ _ _ (h.alloc (.loop .ready)) hc
      have e1 : (pre ++ [V.func (yBase + s.next) [] []] ++ caps).map (V.ren π) = renL π pre ++ [V.func (yBase + t.next) [] []] ++ renL π caps := by
        simp [V.ren, renL_eq, fren_yield, h.at]
      rw [e1, fren_low π h0, h.at] at q1
      rw [show t.alloc (O.loop .ready) = t.alloc (O.ren π (.loop .ready)) from rfl, q1]
      obtain ⟨t3, q4, q5⟩ := rangeEnd_ren q2 ((ho.trans (Out.alloc h _)).trans q3) hK hend
      rw [h.at] at q4
      exact ⟨t3, q4, q5⟩
    · cases hl
  · cases hl
theorem LC_ren {F : Nat → Option IFn} (hF : ∀ f fn, F f = some fn → fn.body.shut = true) : ∀ (n : Nat) (Y Y' : Yt), YRen π Y Y' → LRen π (LC F n Y).1 (LC F n Y').1 ∧ CRen π (LC F n Y).2 (LC F n Y').2
  | 0, _, _, _ => ⟨fun _ _ _ _ _ _ _ _ _ _ _ _ _ h => by simp [LC] at h, fun _ _ _ _ _ _ _ h => by simp [LC] at h⟩
  | n + 1, Y, Y', hY => by
    have ih := LC_ren hF n
    obtain ⟨h1, h2⟩ := ih Y Y' hY
    refine ⟨fun t0 c e s t K K' v s' hs hK h ho hl => ?_, fun f a s t v s' h hl => ?_⟩
    · cases c with
      | range f ps a b =>
        simp only [IC.shut, Bool.and_eq_true] at hs
        exact rangeI_ren ih hY hs.1.1 hs.1.2 hs.2 hK h ho hl
      | _ => exact go_ren h1 h2 _ e s t K K' hs hK h ho hl
    · simp only [LC] at hl ⊢
      split at hl
      · rename_i h0
        rw [fren_low π h0, if_pos h0]
        cases hf : F f with
        | none => rw [hf] at hl; cases hl
        | some fn =>
          rw [hf] at hl
          simp only at hl ⊢
          rw [← initEnv_ren]
          exact go_ren h1 h2 fn.body _ _ _ _ _ (hF f fn hf) (fin_ren fn t) h (Out.refl _ _) hl
      · rename_i h0
        have e1 : ¬ fren π f < yBase := by unfold fren; rw [if_neg h0]; omega
        have e2 : fren π f - yBase = π (f - yBase) := by unfold fren; rw [if_neg h0]; omega
        rw [if_neg e1, e2]
        exact hY _ _ _ _ _ _ h hl
theorem call_frame {F : Nat → Option IFn} (hF : ∀ f fn, F f = some fn → fn.body.shut = true) {f : Nat} {a : List V} {v : V} {s' : St} (h : Ren π s t) (hc : call F f a s = some (v, s')) (h0 : f < yBase := by decide) :
    ∃ t', call F f (a.map (V.ren π)) t = some (v.ren π, t') ∧ Ren π s' t' ∧ Out π t t' := by
  obtain ⟨n, hn⟩ := call_some.1 hc
  obtain ⟨t', h1, h2⟩ := (LC_ren hF n noY noY YRen.no).2 _ _ _ _ _ _ h hn
  rw [fren_low π h0] at h1
  exact ⟨t', call_some.2 ⟨n, h1⟩, h2⟩
def shutF (P : Program) (f : Nat) : Option IFn :=
  match compF P f with
  | some fn => if fn.body.shut then some fn else none
  | none => none
theorem shutF_comp {P : Program} {f : Nat} {fn : IFn} (h : shutF P f = some fn) : compF P f = some fn := by
  unfold shutF at h
  split at h
  · rename_i fn' hf
    split at h
    · cases h; exact hf
    · cases h
  · cases h
theorem shutF_shut {P : Program} : ∀ f fn, shutF P f = some fn → fn.body.shut = true := by
  intro f fn h
  unfold shutF at h
  split at h
  · split at h
    · rename_i hb; cases h; exact hb
    · cases h
  · cases h
theorem shut_sound {P : Program} (hm : P.follows .mixedOrders = true) (B : Nat) (ρ0 : Rn) : CallsOk P B ρ0 (call (shutF P)) := by
  intro f args s v s' h
  obtain ⟨n, h⟩ := call_some.1 h
  exact (sound hm (fun _ _ h => shutF_comp h) n).1 B ρ0 noY YOk.no f args s v s' h
end
#print axioms call_frame
end Go.IM

set_option linter.unusedSimpArgs false
set_option linter.unusedVariables false
namespace Go.IM
theorem via {α : Type} {a b : α} (h : a = b) : a = b := h
section
variable {F : Nat → Option IFn} {L : IC → Env → St → Kt → Res} {C : CallT} {e : Env} {s : St} {K : Kt}
def seqK (L : IC → Env → St → Kt → Res) (C : CallT) (b : IC) (K : Kt) : Kt := fun
  | .normal, e, s => go L C b e s K
  | .exit i, e, s => K (.exit i) e s
  | .ret, e, s => K .ret e s
def blockK (id : Nat) (K : Kt) : Kt := fun
  | .normal, e, s => K .normal e s
  | .exit i, e, s => if i = id then K .normal e s else K (.exit i) e s
  | .ret, e, s => K .ret e s
def roundK (LL : Env → St → Kt → Res) (K : Kt) : Kt := fun
  | .normal, e, s => LL e s K
  | .exit i, e, s => K (.exit i) e s
  | .ret, e, s => K .ret e s
def contO (C : CallT) (d : Option Nat) (r : List II) (e : Env) (Q : Env → St → Res) (x : Res) : Res := match x with
  | some p => goOps C r (put e d p.1) p.2 Q
  | none => none
def guardO (C : CallT) (d : Option Nat) (op : IOp) (r : List II) (e : Env) (s : St) (Q : Env → St → Res) (b : Bool) (v : V) : Res := match v with
  | .bool c => if c = b then goOps C (⟨d, op, none⟩ :: r) e s Q else goOps C r (put e d skipV) s Q
  | .tuple _ => goOps C r (put e d skipV) s Q
  | _ => none
def condO (L : IC → Env → St → Kt → Res) (C : CallT) (a b : IC) (e : Env) (s : St) (K : Kt) (v : V) : Res := match v with
  | .bool true => go L C a e s K
  | .bool false => go L C b e s K
  | _ => none
def MK (keep : List Bool) (K : Kt) : Env → St → Res := fun e s => K .normal (maskEnv keep e) s
theorem seqK_n (b : IC) : seqK L C b K .normal e s = go L C b e s K := rfl
theorem seqK_x (b : IC) (i : Nat) : seqK L C b K (.exit i) e s = K (.exit i) e s := rfl
theorem seqK_r (b : IC) : seqK L C b K .ret e s = K .ret e s := rfl
theorem blockK_n (id : Nat) : blockK id K .normal e s = K .normal e s := rfl
theorem blockK_x (id i : Nat) : blockK id K (.exit i) e s = if i = id then K .normal e s else K (.exit i) e s := rfl
theorem blockK_r (id : Nat) : blockK id K .ret e s = K .ret e s := rfl
theorem roundK_n (LL : Env → St → Kt → Res) : roundK LL K .normal e s = LL e s K := rfl
theorem roundK_x (LL : Env → St → Kt → Res) (i : Nat) : roundK LL K (.exit i) e s = K (.exit i) e s := rfl
theorem roundK_r (LL : Env → St → Kt → Res) : roundK LL K .ret e s = K .ret e s := rfl
theorem contO_some (d : Option Nat) (r : List II) (Q : Env → St → Res) (v : V) : contO C d r e Q (some (v, s)) = goOps C r (put e d v) s Q := rfl
section
variable (d : Option Nat) (op : IOp) (r : List II) (Q : Env → St → Res)
theorem guardO_tt : guardO C d op r e s Q true (.bool true) = goOps C (⟨d, op, none⟩ :: r) e s Q := rfl
theorem guardO_ff : guardO C d op r e s Q false (.bool false) = goOps C (⟨d, op, none⟩ :: r) e s Q := rfl
theorem guardO_tf : guardO C d op r e s Q true (.bool false) = goOps C r (put e d skipV) s Q := rfl
theorem guardO_ft : guardO C d op r e s Q false (.bool true) = goOps C r (put e d skipV) s Q := rfl
theorem guardO_tuple (b : Bool) (l : List V) : guardO C d op r e s Q b (.tuple l) = goOps C r (put e d skipV) s Q := rfl
theorem goOps_nil : goOps C [] e s Q = Q e s := rfl
theorem goOps_plain : goOps C (⟨d, op, none⟩ :: r) e s Q = contO C d r e Q (execI C op e s) := by
  simp only [goOps, stepI, wantedI, contO]
  cases execI C op e s <;> rfl
theorem goOps_guard (t : Nat) (b : Bool) : goOps C (⟨d, op, some (t, b)⟩ :: r) e s Q = guardO C d op r e s Q b (ev e (.t t)) := by
  simp only [goOps, stepI, wantedI, guardO, ev]
  cases e.getD t .any <;> try rfl
  rename_i c
  cases b <;> cases c <;> rfl
end
theorem condO_t (a b : IC) : condO L C a b e s K (.bool true) = go L C a e s K := rfl
theorem condO_f (a b : IC) : condO L C a b e s K (.bool false) = go L C b e s K := rfl
theorem MK_run (keep : List Bool) (K : Kt) (e : Env) (s : St) : MK keep K e s = K .normal (maskEnv keep e) s := rfl
theorem go_skip : go L C .skip e s K = K .normal e s := rfl
theorem go_region (ops : List II) (keep : List Bool) : go L C (.region ops keep) e s K = goOps C ops e s (MK keep K) := rfl
theorem go_seq (a b : IC) : go L C (.seq a b) e s K = go L C a e s (seqK L C b K) := rfl
theorem go_cond (c : Arg) (a b : IC) : go L C (.cond c a b) e s K = condO L C a b e s K (ev e c) := by
  simp only [go, condO]
  rfl
theorem go_block (id : Nat) (a : IC) : go L C (.block id a) e s K = go L C a e s (blockK id K) := rfl
theorem go_exit (i : Nat) : go L C (.exit i) e s K = K (.exit i) e s := rfl
theorem go_ret : go L C .ret e s K = K .ret e s := rfl
theorem go_loop (a : IC) : go (loop F) (call F) (.loop a) e s K = loop F (.loop a) e s K := (loop_eq F noY _ _ _ _).symm
theorem go_loopY (Y : Yt) (a : IC) : go (loopY F Y) (callY F Y) (.loop a) e s K = loopY F Y (.loop a) e s K := (loop_eq F Y _ _ _ _).symm
theorem go_range (f : Arg) (ps : List Nat) (a b : IC) : go L C (.range f ps a b) e s K = L (.range f ps a b) e s K := rfl
def finR (rs : List (Nat × Option (Option Nat))) : Kt
  | .exit _, _, _ => none
  | _, e, s => (resultsI e s rs).map fun vs => (packRes vs, s)
theorem finR_n (rs : List (Nat × Option (Option Nat))) : finR rs .normal e s = (resultsI e s rs).map fun vs => (packRes vs, s) := rfl
theorem finR_r (rs : List (Nat × Option (Option Nat))) : finR rs .ret e s = (resultsI e s rs).map fun vs => (packRes vs, s) := rfl
abbrev SE := List (Nat × V)
def look : SE → Nat → V
  | [], _ => .any
  | (k, v) :: e, i => if i = k then v else if i < k then .any else look e i
def sp (n : Nat) (e : SE) : Env := (List.range n).map (look e)
def ins (d : Nat) (v : V) : SE → SE
  | [] => [(d, v)]
  | (k, w) :: e => if d = k then (d, v) :: e else if d < k then (d, v) :: (k, w) :: e else (k, w) :: ins d v e
def memO : List Nat → Nat → Bool
  | [], _ => false
  | k :: ks, i => if i = k then true else if i < k then false else memO ks i
def mrg : List Nat → SE → SE
  | [], _ => []
  | k :: ks, [] => (k, .any) :: mrg ks []
  | k :: ks, (j, v) :: e => if j = k then (k, v) :: mrg ks e else if j < k then mrg (k :: ks) e else (k, .any) :: mrg ks ((j, v) :: e)
def ixs : Nat → List V → SE
  | _, [] => []
  | i, v :: l => (i, v) :: ixs (i + 1) l
def srt : List Nat → Bool
  | [] => true
  | [_] => true
  | a :: b :: l => Nat.blt a b && srt (b :: l)
def bitsL : List Nat → Nat
  | [] => 0
  | k :: ks => (1 <<< k) ||| bitsL ks
def kp (n : Nat) (ks : List Nat) : List Bool := cond (srt ks) (keepOf n (bitsL ks)) ((List.range n).map (memO ks))
def initS (n : Nat) (args : List V) : Env := args ++ List.replicate (n - args.length) .any
theorem look_nil (i : Nat) : look [] i = .any := rfl
theorem look_eq (i : Nat) (v : V) (e : SE) : look ((i, v) :: e) i = v := by simp [look]
theorem look_gt {k i : Nat} (h : k < i) (v : V) (e : SE) : look ((k, v) :: e) i = look e i := by
  simp only [look]; rw [if_neg (by omega), if_neg (by omega)]
theorem look_lt {k i : Nat} (h : i < k) (v : V) (e : SE) : look ((k, v) :: e) i = .any := by
  simp only [look]; rw [if_neg (by omega), if_pos h]
theorem ins_nil (d : Nat) (v : V) : ins d v [] = [(d, v)] := rfl
theorem ins_eq (d : Nat) (v w : V) (e : SE) : ins d v ((d, w) :: e) = (d, v) :: e := by simp [ins]
theorem ins_gt {k d : Nat} (h : k < d) (v w : V) (e : SE) : ins d v ((k, w) :: e) = (k, w) :: ins d v e := by
  simp only [ins]; rw [if_neg (by omega), if_neg (by omega)]
theorem ins_lt {k d : Nat} (h : d < k) (v w : V) (e : SE) : ins d v ((k, w) :: e) = (d, v) :: (k, w) :: e := by
  simp only [ins]; rw [if_neg (by omega), if_pos h]
theorem mrg_nil (e : SE) : mrg [] e = [] := by unfold mrg; rfl
theorem mrg_any (k : Nat) (ks : List Nat) : mrg (k :: ks) [] = (k, .any) :: mrg ks [] := by rw [mrg]
theorem mrg_eq (k : Nat) (ks : List Nat) (v : V) (e : SE) : mrg (k :: ks) ((k, v) :: e) = (k, v) :: mrg ks e := by rw [mrg]; simp
theorem mrg_gt {j k : Nat} (h : j < k) (ks : List Nat) (v : V) (e : SE) : mrg (k :: ks) ((j, v) :: e) = mrg (k :: ks) e := by
  rw [mrg, if_neg (by omega), if_pos h]
theorem mrg_lt {j k : Nat} (h : k < j) (ks : List Nat) (v : V) (e : SE) : mrg (k :: ks) ((j, v) :: e) = (k, .any) :: mrg ks ((j, v) :: e) := by
  rw [mrg, if_neg (by omega), if_neg (by omega)]
theorem ixs_nil (i : Nat) : ixs i [] = [] := rfl
theorem ixs_cons (i : Nat) (v : V) (l : List V) : ixs i (v :: l) = (i, v) :: ixs (i + 1) l := rfl
theorem getD_sp {i n : Nat} (h : i < n) (e : SE) : (sp n e).getD i .any = look e i := by simp [sp, List.getD, h]
theorem look_ins (d : Nat) (v : V) (i : Nat) : ∀ e : SE, look (ins d v e) i = if i = d then v else look e i
  | [] => by
    simp only [ins, look]
    by_cases h : i = d <;> simp [h]
  | (k, w) :: e => by
    have ih := look_ins d v i e
    rcases Nat.lt_trichotomy k d with h | h | h
    · rw [ins_gt h]
      by_cases h1 : i = k
      · subst h1; rw [look_eq, look_eq, if_neg (by omega)]
      · by_cases h2 : i < k
        · rw [look_lt h2, look_lt h2, if_neg (by omega)]
        · rw [look_gt (by omega), look_gt (by omega), ih]
    · subst h
      rw [ins_eq]
      by_cases h1 : i = k
      · subst h1; rw [look_eq, if_pos rfl]
      · rw [if_neg h1]
        by_cases h2 : i < k
        · rw [look_lt h2, look_lt h2]
        · rw [look_gt (by omega), look_gt (by omega)]
    · rw [ins_lt h]
      by_cases h1 : i = d
      · subst h1; rw [look_eq, if_pos rfl]
      · rw [if_neg h1]
        by_cases h2 : i < d
        · rw [look_lt h2, look_lt (by omega)]
        · rw [look_gt (by omega)]
theorem set_sp (n d : Nat) (v : V) (e : SE) : (sp n e).set d v = sp n (ins d v e) := by
  apply List.ext_getElem (by simp [sp])
  intro i h1 h2
  simp only [sp, List.getElem_set, List.getElem_map, List.getElem_range, look_ins]
  by_cases h : d = i
  · subst h; simp
  · rw [if_neg h, if_neg (fun x => h x.symm)]
theorem look_mrg (i : Nat) : ∀ (ks : List Nat) (e : SE), look (mrg ks e) i = if memO ks i then look e i else .any
  | [], e => by rw [mrg_nil]; rfl
  | k :: ks, [] => by
    rw [mrg_any]
    have ih := look_mrg i ks []
    simp only [look_nil, ite_self] at ih ⊢
    by_cases h1 : i = k
    · subst h1; rw [look_eq]
    · by_cases h2 : i < k
      · rw [look_lt h2]
      · rw [look_gt (by omega), ih]
  | k :: ks, (j, v) :: e => by
    have hm1 : i = k → memO (k :: ks) i = true := fun h => by simp [memO, h]
    have hm2 : i < k → memO (k :: ks) i = false := fun h => by simp only [memO]; rw [if_neg (by omega), if_pos h]
    have hm3 : k < i → memO (k :: ks) i = memO ks i := fun h => by simp only [memO]; rw [if_neg (by omega), if_neg (by omega)]
    rcases Nat.lt_trichotomy j k with h | h | h
    · rw [mrg_gt h, look_mrg i (k :: ks) e]
      by_cases h2 : i < k
      · rw [hm2 h2]; rfl
      · rw [look_gt (by omega)]
    · subst h
      rw [mrg_eq]
      have ih := look_mrg i ks e
      rcases Nat.lt_trichotomy i j with h2 | h2 | h2
      · rw [hm2 h2, look_lt h2]; rfl
      · rw [hm1 h2, h2, look_eq, look_eq]; rfl
      · rw [hm3 h2, look_gt h2, look_gt h2, ih]
    · rw [mrg_lt h]
      have ih := look_mrg i ks ((j, v) :: e)
      rcases Nat.lt_trichotomy i k with h2 | h2 | h2
      · rw [hm2 h2, look_lt h2]; rfl
      · rw [hm1 h2, h2, look_eq, look_lt h]; rfl
      · rw [hm3 h2, look_gt h2, ih]
  termination_by ks e => ks.length + e.length
theorem bitsL_contains (i : Nat) : ∀ ks : List Nat, (bitsL ks).testBit i = ks.contains i
  | [] => by simp [bitsL]
  | k :: ks => by
    rw [bitsL, Nat.testBit_or, bitsL_contains i ks, List.contains_cons]
    congr 1
    rw [Nat.one_shiftLeft, Nat.testBit_two_pow]
    by_cases h : k = i
    · subst h; simp
    · rw [decide_eq_false h]; symm; rw [beq_eq_false_iff_ne]; exact fun x => h x.symm
theorem srt_lt : ∀ {l : List Nat} {a : Nat}, srt (a :: l) = true → ∀ x ∈ l, a < x
  | [], _, _, x, hx => by cases hx
  | b :: l, a, h, x, hx => by
    rw [srt, Bool.and_eq_true] at h
    have h1 : a < b := by simpa using h.1
    rcases List.mem_cons.1 hx with rfl | hx
    · exact h1
    · exact Nat.lt_trans h1 (srt_lt h.2 x hx)
theorem srt_tl {l : List Nat} {a : Nat} (h : srt (a :: l) = true) : srt l = true := by
  cases l with
  | nil => rfl
  | cons b l => rw [srt, Bool.and_eq_true] at h; exact h.2
theorem memO_contains (i : Nat) : ∀ ks : List Nat, srt ks = true → memO ks i = ks.contains i
  | [], _ => rfl
  | k :: ks, h => by
    rw [List.contains_cons, memO]
    by_cases h1 : i = k
    · subst h1; simp
    · rw [if_neg h1, show (i == k) = false by simpa using h1, Bool.false_or]
      by_cases h2 : i < k
      · rw [if_pos h2]; symm
        rw [List.contains_eq_mem, decide_eq_false_iff_not]
        intro hm
        have := srt_lt h i hm
        omega
      · rw [if_neg h2]; exact memO_contains i ks (srt_tl h)
theorem kp_eq (n : Nat) (ks : List Nat) : kp n ks = (List.range n).map (memO ks) := by
  unfold kp
  cases h : srt ks with
  | false => rfl
  | true =>
    show keepOf n (bitsL ks) = _
    unfold keepOf
    refine List.map_congr_left fun i _ => ?_
    rw [bitsL_contains, memO_contains i ks h]
theorem maskEnv_map (f : Nat → Bool) (g : Nat → V) : ∀ l : List Nat, maskEnv (l.map f) (l.map g) = l.map fun i => if f i then g i else .any
  | [] => rfl
  | i :: l => by simp only [List.map_cons, maskEnv, maskEnv_map f g l]
theorem mask_sp (n : Nat) (ks : List Nat) (e : SE) : maskEnv (kp n ks) (sp n e) = sp n (mrg ks e) := by
  rw [kp_eq, sp, maskEnv_map, sp]
  exact List.map_congr_left fun i _ => (look_mrg i ks e).symm
theorem look_ixs : ∀ (l : List V) (j i : Nat), look (ixs j l) (j + i) = l.getD i .any
  | [], j, i => by simp [ixs, look]
  | v :: l, j, 0 => look_eq j v _
  | v :: l, j, i + 1 => by
    rw [ixs_cons, look_gt (by omega), show j + (i + 1) = (j + 1) + i by omega, look_ixs l (j + 1) i]; rfl
theorem initS_sp {n : Nat} {args : List V} (h : args.length ≤ n) : initS n args = sp n (ixs 0 args) := by
  unfold initS sp
  apply List.ext_getElem (by simp; omega)
  intro i h1 h2
  have e := look_ixs args 0 i
  rw [Nat.zero_add] at e
  simp only [List.getElem_map, List.getElem_range, e, List.getD, List.getElem_append, List.getElem_replicate]
  split
  · rename_i hl; simp [hl]
  · rename_i hl; rw [List.getElem?_eq_none (by omega)]; rfl
theorem call_runY (Y : Yt) {f : Nat} {fn : IFn} (hf : F f = some fn) (args : List V) (s : St) (h0 : f < yBase := by decide) : callY F Y f args s = go (loopY F Y) (callY F Y) fn.body (initS fn.ntmps args) s (finR fn.results) := by
  rw [call_eq F Y f fn hf args s h0]
  unfold initEnv
  rfl
theorem call_run {f : Nat} {fn : IFn} (hf : F f = some fn) (args : List V) (s : St) (h0 : f < yBase := by decide) : call F f args s = go (loop F) (call F) fn.body (initS fn.ntmps args) s (finR fn.results) := call_runY noY hf args s h0

def oa (d : Nat) (op : IOp) : II := ⟨some d, op, none⟩
def ob (op : IOp) : II := ⟨none, op, none⟩
def oc (d : Nat) (op : IOp) (t : Nat) (b : Bool) : II := ⟨some d, op, some (t, b)⟩
def oe (op : IOp) (t : Nat) (b : Bool) : II := ⟨none, op, some (t, b)⟩
def ai (n : Int) : Arg := .c (.int .i64 n)
def sk (n : Nat) (ks : List Nat) : IC := .region [] (kp n ks)
def sx (n : Nat) (ks : List Nat) (i : Nat) : IC := .seq (.region [] (kp n ks)) (.exit i)
def sr (n : Nat) (ks : List Nat) : IC := .seq (.region [] (kp n ks)) .ret
theorem go_sk (n : Nat) (ks : List Nat) : go L C (sk n ks) e s K = K .normal (maskEnv (kp n ks) e) s := rfl
theorem go_sx (n : Nat) (ks : List Nat) (i : Nat) : go L C (sx n ks i) e s K = K (.exit i) (maskEnv (kp n ks) e) s := rfl
theorem go_sr (n : Nat) (ks : List Nat) : go L C (sr n ks) e s K = K .ret (maskEnv (kp n ks) e) s := rfl
theorem go_oa (d : Nat) (op : IOp) (r : List II) (Q : Env → St → Res) : goOps C (oa d op :: r) e s Q = contO C (some d) r e Q (execI C op e s) := goOps_plain ..
theorem go_ob (op : IOp) (r : List II) (Q : Env → St → Res) : goOps C (ob op :: r) e s Q = contO C none r e Q (execI C op e s) := goOps_plain ..
theorem go_oc (d : Nat) (op : IOp) (r : List II) (Q : Env → St → Res) (t : Nat) (b : Bool) : goOps C (oc d op t b :: r) e s Q = guardO C (some d) op r e s Q b (e.getD t .any) := goOps_guard ..
theorem go_oe (op : IOp) (r : List II) (Q : Env → St → Res) (t : Nat) (b : Bool) : goOps C (oe op t b :: r) e s Q = guardO C none op r e s Q b (e.getD t .any) := goOps_guard ..
theorem ev_ai (e : Env) (n : Int) : ev e (ai n) = .int .i64 n := rfl
theorem round {F : Nat → Option IFn} {a : IC} {e : Env} {s : St} {K : Kt} {R : Res}
    (h : ∀ LL : Env → St → Kt → Res, LL = loop F (.loop a) → go (loop F) (call F) a e s (roundK LL K) = R) : loop F (.loop a) e s K = R := by
  rw [loop, loop_eq F noY (.loop a)]; exact h _ rfl
@[simp] theorem put_some (e : Env) (d : Nat) (v : V) : put e (some d) v = e.set d v := via rfl
@[simp] theorem put_none (e : Env) (v : V) : put e none v = e := via rfl
@[simp] theorem ev_t (e : Env) (i : Nat) : ev e (.t i) = e.getD i .any := via rfl
@[simp] theorem ev_c (e : Env) (v : V) : ev e (.c v) = v := via rfl
@[simp] theorem execI_call (f : Nat) (args : List Arg) : execI C (.call f args) e s = C f (args.map (ev e)) s := via rfl
section
variable (e s)
def pickV (c a b : V) : Option V := match c with | .bool t => some (if t then a else b) | _ => none
def convV (k : IntKind) (v : V) : Option V := match v with | .int _ n => some (wrapI k n) | _ => none
def nilV (v : V) : Option V := match v with | .ptr (some a) => some (.ptr (some a)) | .func f p c => some (.func f p c) | _ => none
def lenV (v : V) : Option V := match v with | .slice _ n _ => some (.int .i64 n) | _ => none
def fldV (off : Nat) (v : V) : Option V := match v with | .ptr (some a) => some (.ptr (some ⟨a.id, a.off + off⟩)) | _ => none
def partV (off : Nat) (n : Option Nat) (v : V) : Option V := match v with | .agg cs => partI n cs off | _ => none
def extV (i : Nat) (v : V) : Option V := match v with | .tuple vs => vs[i]? | _ => none
def ixV (sz : Nat) (v i : V) : Option V := match v with
  | .slice (some a) len _ => (asNat i).bind fun n => if n < len then some (.ptr (some ⟨a.id, a.off + n * sz⟩)) else none
  | _ => none
def loadV (n : Option Nat) (v : V) (s : St) : Option V := match v with | .ptr (some a) => (readCells s a (n.getD 1)).bind (packI n) | _ => none
def boxV (v : V) (s : St) : Res := if v.cells.all V.one then some (.ptr (some ⟨.new s.next, 0⟩), s.alloc (.cells v.cells none)) else none
def mkV (bytes : Nat) (z : List V) (len cap : V) (s : St) : Res :=
  (asNat len).bind fun l => (asNat cap).bind fun c =>
    if l ≤ c ∧ c * bytes ≤ maxRow ∧ c ≤ maxRow then some (.slice (some ⟨.new s.next, 0⟩) l (some c), s.alloc (.cells (zeros z c) none)) else none
def callvV (C : CallT) (g : V) (args : List V) (s : St) : Res := match g with | .func f pre caps => C f (pre ++ args ++ caps) s | _ => none
def againV (v w : V) (s : St) : Res := if beqV v w then some (.any, s) else none
def withS (s : St) : Option V → Res := Option.map fun v => (v, s)
@[simp] theorem withS_some (v : V) : withS s (some v) = some (v, s) := rfl
@[simp] theorem withS_none : withS s none = none := rfl
@[simp] theorem pickV_bool (t : Bool) (a b : V) : pickV (.bool t) a b = some (if t then a else b) := rfl
@[simp] theorem convV_int (k k' : IntKind) (n : Int) : convV k (.int k' n) = some (wrapI k n) := rfl
@[simp] theorem nilV_ptr (a : Ad) : nilV (.ptr (some a)) = some (.ptr (some a)) := rfl
@[simp] theorem nilV_func (f : Nat) (p c : List V) : nilV (.func f p c) = some (.func f p c) := rfl
@[simp] theorem lenV_slice (a : Option Ad) (n : Nat) (c : Option Nat) : lenV (.slice a n c) = some (.int .i64 n) := rfl
@[simp] theorem fldV_ptr (off : Nat) (a : Ad) : fldV off (.ptr (some a)) = some (.ptr (some ⟨a.id, a.off + off⟩)) := rfl
@[simp] theorem partV_agg (off : Nat) (n : Option Nat) (cs : List V) : partV off n (.agg cs) = partI n cs off := rfl
@[simp] theorem extV_tuple (i : Nat) (vs : List V) : extV i (.tuple vs) = vs[i]? := rfl
@[simp] theorem loadV_ptr (n : Option Nat) (a : Ad) : loadV n (.ptr (some a)) s = (readCells s a (n.getD 1)).bind (packI n) := rfl
@[simp] theorem callvV_func (C : CallT) (f : Nat) (pre caps args : List V) : callvV C (.func f pre caps) args s = C f (pre ++ args ++ caps) s := rfl
theorem ixV_int {sz len : Nat} {a : Ad} {c : Option Nat} {k : IntKind} {n : Int} (h0 : 0 ≤ n) (h1 : n < len) : ixV sz (.slice (some a) len c) (.int k n) = some (.ptr (some ⟨a.id, a.off + n.toNat * sz⟩)) := by
  have : n.toNat < len := by omega
  simp [ixV, asNat, h0, this]
theorem mkV_int {bytes : Nat} {z : List V} {k k' : IntKind} {l c : Int} (h0 : 0 ≤ l) (h1 : l ≤ c) (h2 : c * bytes ≤ 2 ^ 47) (h3 : c ≤ 2 ^ 47) :
    mkV bytes z (.int k l) (.int k' c) s = some (.slice (some ⟨.new s.next, 0⟩) l.toNat (some c.toNat), s.alloc (.cells (zeros z c.toNat) none)) := by
  have g2 : c.toNat * bytes ≤ maxRow := by
    have : ((c.toNat * bytes : Nat) : Int) = c * bytes := by push_cast; rw [Int.toNat_of_nonneg (by omega)]
    have h4 : ((c.toNat * bytes : Nat) : Int) ≤ ((2 ^ 47 : Nat) : Int) := by rw [this]; exact_mod_cast h2
    exact_mod_cast h4
  have g3 : c.toNat ≤ maxRow := by unfold maxRow; omega
  simp [mkV, asNat, h0, show (0:Int) ≤ c by omega, g2, g3]
  omega
@[simp] theorem x_mov (x : Arg) : execI C (.mov x) e s = some (ev e x, s) := via rfl
@[simp] theorem x_pick (c a b : Arg) : execI C (.pick c a b) e s = withS s (pickV (ev e c) (ev e a) (ev e b)) := via rfl
@[simp] theorem x_build (z : List V) (ps : List (Nat × Nat × Arg)) : execI C (.build z ps) e s = withS s ((fillI e z ps).map .agg) := via rfl
@[simp] theorem x_bin (op : BinOp) (x y : Arg) : execI C (.bin op x y) e s = withS s (binI op (ev e x) (ev e y)) := via rfl
@[simp] theorem x_eql (neg : Bool) (k : EK) (x y : Arg) : execI C (.eql neg k x y) e s = withS s ((eqI k (ev e x) (ev e y)).map fun b => .bool (if neg then !b else b)) := via rfl
@[simp] theorem x_un (op : UnOp) (x : Arg) : execI C (.un op x) e s = withS s (unI op (ev e x)) := via rfl
@[simp] theorem x_conv (k : IntKind) (x : Arg) : execI C (.conv k x) e s = withS s (convV k (ev e x)) := via rfl
@[simp] theorem x_mkFunc (f : Nat) (pre caps : List Arg) : execI C (.mkFunc f pre caps) e s = some (.func f (pre.map (ev e)) (caps.map (ev e)), s) := via rfl
@[simp] theorem x_nilCheck (x : Arg) : execI C (.nilCheck x) e s = withS s (nilV (ev e x)) := via rfl
@[simp] theorem x_lenSlice (x : Arg) : execI C (.lenSlice x) e s = withS s (lenV (ev e x)) := via rfl
@[simp] theorem x_fieldAddr (off : Nat) (x : Arg) : execI C (.fieldAddr off x) e s = withS s (fldV off (ev e x)) := via rfl
@[simp] theorem x_field (off : Nat) (n : Option Nat) (x : Arg) : execI C (.field off n x) e s = withS s (partV off n (ev e x)) := via rfl
@[simp] theorem x_extract (x : Arg) (i : Nat) : execI C (.extract x i) e s = withS s (extV i (ev e x)) := via rfl
@[simp] theorem x_indexAddr (sz : Nat) (x i : Arg) : execI C (.indexAddr sz x i) e s = withS s (ixV sz (ev e x) (ev e i)) := via rfl
@[simp] theorem x_load (n : Option Nat) (x : Arg) : execI C (.load n x) e s = withS s (loadV n (ev e x) s) := via rfl
@[simp] theorem x_again (t : Nat) (op : IOp) : execI C (.again t op) e s = (evalLook op e s).bind fun v => againV v (e.getD t .any) s := by
  simp only [execI, evalOp, IOp.kind, evalL, ev]
  cases evalLook op e s with
  | none => rfl
  | some v => simp only [Option.bind_some, againV]; by_cases hb : beqV v (e.getD t .any) = true <;> simp [hb]
@[simp] theorem look_load (n : Option Nat) (x : Arg) : evalLook (.load n x) e s = loadV n (ev e x) s := rfl
@[simp] theorem look_lookup (kt : KT) (z : V) (ok : Bool) (m k : Arg) : evalLook (.lookup kt z ok m k) e s = lookupI kt z ok (ev e m) (ev e k) s := rfl
@[simp] theorem look_len (x : Arg) : evalLook (.lenMap x) e s = lenMapI (ev e x) s := rfl
@[simp] theorem x_alloc (z : List V) : execI C (.alloc z) e s = some (.ptr (some ⟨.new s.next, 0⟩), s.alloc (.cells z none)) := via rfl
@[simp] theorem x_box (x : Arg) : execI C (.box x) e s = boxV (ev e x) s := by
  simp only [execI, evalOp, IOp.kind, evalA, boxV]
  split <;> rfl
@[simp] theorem x_buildSlice (len : Nat) (z : List V) (ps : List (Nat × Nat × Arg)) : execI C (.buildSlice len z ps) e s = (fillI e z ps).bind fun cs => some (.slice (some ⟨.new s.next, 0⟩) len (some len), s.alloc (.cells cs none)) := by
  simp only [execI, evalOp, IOp.kind, evalA]; cases fillI e z ps <;> rfl
@[simp] theorem x_mkMap : execI C .mkMap e s = some (.map (some (.new s.next)), s.alloc (.map [] 0)) := via rfl
@[simp] theorem x_mkSlice (bytes : Nat) (z : List V) (len cap : Arg) : execI C (.mkSlice bytes z len cap) e s = mkV bytes z (ev e len) (ev e cap) s := by
  simp only [execI, evalOp, IOp.kind, evalA, mkV]
  cases asNat (ev e len) with
  | none => rfl
  | some l => cases asNat (ev e cap) with
    | none => rfl
    | some c => simp only [Option.bind_some]; split <;> rfl
@[simp] theorem x_callv (g : Arg) (args : List Arg) : execI C (.callv g args) e s = callvV C (ev e g) (args.map (ev e)) s := via rfl
@[simp] theorem x_slice (sz : Nat) (x : Arg) (lo hi mx : Option Arg) : execI C (.slice sz x lo hi mx) e s = (sliceI sz (ev e x) (lo.map (ev e)) (hi.map (ev e)) (mx.map (ev e))).bind fun v => some (v, s) := by
  simp only [execI, evalOp, IOp.kind, evalP]; cases sliceI sz (ev e x) (lo.map (ev e)) (hi.map (ev e)) (mx.map (ev e)) <;> rfl
@[simp] theorem x_lookup (kt : KT) (z : V) (ok : Bool) (m k : Arg) : execI C (.lookup kt z ok m k) e s = withS s (lookupI kt z ok (ev e m) (ev e k) s) := via rfl
@[simp] theorem x_lenMap (x : Arg) : execI C (.lenMap x) e s = withS s (lenMapI (ev e x) s) := via rfl
@[simp] theorem x_store (n : Nat) (a v : Arg) : execI C (.store n a v) e s = (storeI n (ev e a) (ev e v) s).map fun s1 => (.any, s1) := by
  simp only [execI, evalOp, IOp.kind, evalS]
@[simp] theorem x_mapSet (kt : KT) (m k v : Arg) : execI C (.mapSet kt m k v) e s = (mapSetI kt (ev e m) (ev e k) (ev e v) s).map fun s1 => (.any, s1) := by
  simp only [execI, evalOp, IOp.kind, evalS]
@[simp] theorem x_mapEnt (kt : KT) (z : V) (m k : Arg) : execI C (.mapEnt kt z m k) e s = mapEntI kt z (ev e m) (ev e k) s := via rfl
@[simp] theorem x_entSet (m st v : Arg) : execI C (.entSet m st v) e s = (entSetI (ev e m) (ev e st) (ev e v) s).map fun s1 => (.any, s1) := by
  simp only [execI, evalOp, IOp.kind, evalS]
@[simp] theorem x_append (sz bytes : Nat) (x y : Arg) : execI C (.append sz bytes x y) e s = appendI sz bytes (ev e x) (ev e y) s := via rfl
end
@[simp] theorem maskEnv_nil (e : Env) : maskEnv [] e = e := by cases e <;> rfl
@[simp] theorem maskEnv_t (bs : List Bool) (v : V) (e : Env) : maskEnv (true :: bs) (v :: e) = v :: maskEnv bs e := via rfl
@[simp] theorem maskEnv_f (bs : List Bool) (v : V) (e : Env) : maskEnv (false :: bs) (v :: e) = .any :: maskEnv bs e := via rfl
@[simp] theorem binI_int (op : BinOp) (k : IntKind) (a b : Int) (h1 : op ≠ .shl) (h2 : op ≠ .shr) : binI op (.int k a) (.int k b) = intI op k a b := by
  cases op <;> simp_all [binI]
@[simp] theorem eqI_nil (b : Option Ad) : eqI .ptr (.ptr none) (.ptr b) = some b.isNone := rfl
@[simp] theorem eqI_ptr (a : Ad) : eqI .ptr (.ptr (some a)) (.ptr none) = some false := rfl
@[simp] theorem unI_not (b : Bool) : unI .not (.bool b) = some (.bool !b) := rfl
@[simp] theorem intI_add (k : IntKind) (a b : Int) : intI .add k a b = some (wrapI k (a + b)) := rfl
@[simp] theorem intI_sub (k : IntKind) (a b : Int) : intI .sub k a b = some (wrapI k (a - b)) := rfl
@[simp] theorem intI_mul (k : IntKind) (a b : Int) : intI .mul k a b = some (wrapI k (a * b)) := rfl
@[simp] theorem intI_eql (k : IntKind) (a b : Int) : intI .eql k a b = some (.bool (a == b)) := rfl
@[simp] theorem intI_neq (k : IntKind) (a b : Int) : intI .neq k a b = some (.bool (a != b)) := rfl
@[simp] theorem intI_lss (k : IntKind) (a b : Int) : intI .lss k a b = some (.bool (a < b)) := rfl
@[simp] theorem intI_leq (k : IntKind) (a b : Int) : intI .leq k a b = some (.bool (a ≤ b)) := rfl
@[simp] theorem intI_gtr (k : IntKind) (a b : Int) : intI .gtr k a b = some (.bool (a > b)) := rfl
@[simp] theorem intI_geq (k : IntKind) (a b : Int) : intI .geq k a b = some (.bool (a ≥ b)) := rfl
theorem wrap64 {n : Int} (h : -9223372036854775808 ≤ n) (h' : n < 9223372036854775808) : wrapI .i64 n = .int .i64 n := by
  have e : IntKind.i64.wrap n = n := by
    show (if (true && decide (n % 18446744073709551616 ≥ 9223372036854775808)) = true then n % 18446744073709551616 - 18446744073709551616 else n % 18446744073709551616) = n
    simp only [Bool.true_and, decide_eq_true_eq]
    split <;> omega
  unfold wrapI
  rw [e]
@[simp] theorem alloc_next (s : St) (o : O) : (s.alloc o).next = s.next + 1 := rfl
@[simp] theorem set_next (s : St) (k : Nat) (o : O) : (s.set k o).next = s.next := rfl
@[simp] theorem kill_next (s : St) (k : Nat) : (s.kill k).next = s.next := rfl
@[simp] theorem alloc_new_same (s : St) (o : O) : (s.alloc o).new s.next = some o := by simp [St.alloc]
theorem alloc_new (s : St) (o : O) {k : Nat} (h : k ≠ s.next) : (s.alloc o).new k = s.new k := by simp [St.alloc, h]
@[simp] theorem set_new_same (s : St) (k : Nat) (o : O) : (s.set k o).new k = some o := by simp [St.set]
theorem set_new (s : St) (o : O) {j k : Nat} (h : k ≠ j) : (s.set j o).new k = s.new k := by simp [St.set, h]
theorem kill_new (s : St) {j k : Nat} (h : k ≠ j) : (s.kill j).new k = s.new k := by simp [St.kill, h]
theorem readCells_new {s : St} {k off n : Nat} {cs : List V} {g : Option Nat} (h : s.new k = some (.cells cs g)) : readCells s ⟨.new k, off⟩ n = cut cs off n := by
  simp [readCells, St.row, St.get, h]
theorem writeCells_new {s : St} {k off : Nat} {cs vs : List V} {g : Option Nat} (h : s.new k = some (.cells cs g)) (h1 : off + vs.length ≤ cs.length) (h2 : vs.all V.one = true) : writeCells s ⟨.new k, off⟩ vs = some (s.set k (.cells (over cs off vs) g)) := by
  simp [writeCells, h, h1, h2]
theorem cut_one {cs : List V} {i : Nat} {v : V} (h : cs[i]? = some v) : cut cs i 1 = some [v] := by
  have hl : i < cs.length := (List.getElem?_eq_some_iff.1 h).1
  have e : (cs.drop i).take 1 = [v] := by
    rw [List.drop_eq_getElem_cons hl]
    simp [(List.getElem?_eq_some_iff.1 h).2]
  simp [cut, show i + 1 ≤ cs.length by omega, e]
end
theorem againV_slice (a : Option Ad) (n : Nat) (c : Option Nat) (s : St) : againV (.slice a n c) (.slice a n c) s = some (.any, s) := by simp [againV, beqV]
theorem againV_ptr (a : Option Ad) (s : St) : againV (.ptr a) (.ptr a) s = some (.any, s) := by simp [againV, beqV]
theorem againV_map (a : Option Id) (s : St) : againV (.map a) (.map a) s = some (.any, s) := by simp [againV, beqV]
theorem againV_int (k : IntKind) (n : Int) (s : St) : againV (.int k n) (.int k n) s = some (.any, s) := by simp [againV, beqV]
theorem againV_bool (b : Bool) (s : St) : againV (.bool b) (.bool b) s = some (.any, s) := by simp [againV, beqV]
theorem ix_cell {sz len : Nat} {k : Nat} {off : Nat} {c : Option Nat} {kk : IntKind} {i : Nat} (h1 : i < len) : ixV sz (.slice (some ⟨.new k, off⟩) len c) (.int kk (i : Int)) = some (.ptr (some ⟨.new k, off + i * sz⟩)) := by
  rw [ixV_int (by omega) (by omega)]
  simp
end Go.IM