/- Layer 15, the plain law: packing, pools, finding. -/
import Derived.Test.YtoldkemimhebaaaPgH
set_option linter.unusedSimpArgs false
set_option linter.unusedVariables false
namespace Go.Proofs.Ytoldkemimhebaaa
open Go Go.IM

/-- Objects (address, words with header) that were laid one behind the other in pages. -/
inductive Packed : List (Nat × Nat) → List Nat → Nat → Prop
  | nil : Packed [] [] 0
  | fit {os ps f p n} : Packed os ps f → ps.getLast? = some p → f + n ≤ 32 → Packed (os ++ [(p * 32 + f, n)]) ps (f + n)
  | page {os ps f q n} : Packed os ps f → (ps = [] ∨ ¬ f + n ≤ 32) → q ∉ ps → Packed (os ++ [(q * 32, n)]) (ps ++ [q]) n

/-- Pages so far, how full the last one is. -/
def step (st : Nat × Nat) (n : Nat) : Nat × Nat := if 0 < st.1 ∧ st.2 + n ≤ 32 then (st.1, st.2 + n) else (st.1 + 1, n)

theorem Packed.fold {os : List (Nat × Nat)} {ps : List Nat} {f : Nat} (h : Packed os ps f) : (os.map (·.2)).foldl step (0, 0) = (ps.length, f) := by
  induction h with
  | nil => rfl
  | @fit os ps f p n h hp hf ih =>
    rw [List.map_append, List.foldl_append, ih]
    have : 0 < ps.length := by cases ps with | nil => simp at hp | cons => simp
    simp [step, this, hf]
  | @page os ps f q n h hc hq ih =>
    rw [List.map_append, List.foldl_append, ih]
    have : ¬ (0 < ps.length ∧ f + n ≤ 32) := by
      rintro ⟨h1, h2⟩
      rcases hc with rfl | hc
      · simp at h1
      · exact hc h2
    simp [step, this]

def Le2 (a b : Nat × Nat) : Prop := a.1 < b.1 ∨ a.1 = b.1 ∧ a.2 ≤ b.2
theorem step_mono {a b : Nat × Nat} (h : Le2 a b) (n : Nat) : Le2 (step a n) (step b n) := by
  obtain ⟨c, f⟩ := a
  obtain ⟨d, g⟩ := b
  unfold step Le2 at *
  simp only at *
  split <;> split <;> simp only <;> omega
theorem step_inc (b : Nat × Nat) (n : Nat) : Le2 b (step b n) := by
  unfold step Le2
  split <;> simp <;> omega
theorem Le2.trans {a b c : Nat × Nat} (h : Le2 a b) (k : Le2 b c) : Le2 a c := by unfold Le2 at *; omega
theorem Le2.refl (a : Nat × Nat) : Le2 a a := by unfold Le2; omega
theorem fold_mono : ∀ (ns : List Nat) {a b : Nat × Nat}, Le2 a b → Le2 (ns.foldl step a) (ns.foldl step b)
  | [], _, _, h => h
  | n :: ns, _, _, h => fold_mono ns (step_mono h n)
theorem fold_inc : ∀ (ns : List Nat) (a : Nat × Nat), Le2 a (ns.foldl step a)
  | [], a => Le2.refl a
  | n :: ns, a => (step_inc a n).trans (fold_inc ns _)
theorem fold_sub {xs ys : List Nat} (h : xs.Sublist ys) : ∀ {a b : Nat × Nat}, Le2 a b → Le2 (xs.foldl step a) (ys.foldl step b) := by
  induction h with
  | slnil => exact fun h => h
  | cons y _ ih => exact fun h => ih (h.trans (step_inc _ y))
  | cons_cons y _ ih => exact fun h => ih (step_mono h y)

theorem Packed.facts {os : List (Nat × Nat)} {ps : List Nat} {f : Nat} (h : Packed os ps f) (hn : ∀ x ∈ os, 1 ≤ x.2 ∧ x.2 ≤ 32) :
    f ≤ 32 ∧ (∀ x ∈ os, ∃ p ∈ ps, p * 32 ≤ x.1 ∧ x.1 + x.2 ≤ p * 32 + 32 ∧ (ps.getLast? = some p → x.1 + x.2 ≤ p * 32 + f)) ∧ os.length ≤ 32 * ps.length ∧ (ps ≠ [] → os.length + 32 ≤ 32 * ps.length + f) ∧ ps.Nodup ∧
    os.Pairwise (fun x y => x.1 + x.2 ≤ y.1 ∨ y.1 + y.2 ≤ x.1) := by
  induction h with
  | nil => simp
  | @fit os ps f p n h hp hf ih =>
    obtain ⟨h1, h2, h3, h4, h5, h6⟩ := ih fun x hx => hn x (List.mem_append_left _ hx)
    have hn' := hn _ (List.mem_append_right _ (List.mem_singleton.2 rfl))
    simp only at hn'
    have hne : ps ≠ [] := by intro e; rw [e] at hp; simp at hp
    have h4' := h4 hne
    have hpm := List.mem_of_getLast? hp
    refine ⟨hf, ?_, ?_, ?_, h5, ?_⟩
    · intro x hx
      rcases List.mem_append.1 hx with hx | hx
      · obtain ⟨q, hq, k1, k2, k3⟩ := h2 x hx
        exact ⟨q, hq, k1, k2, fun e => by have := k3 e; omega⟩
      · simp at hx; subst hx
        exact ⟨p, hpm, by simp, by simp; omega, fun _ => by simp; omega⟩
    · simp; omega
    · intro _; simp; omega
    · rw [List.pairwise_append]
      refine ⟨h6, by simp, fun x hx y hy => ?_⟩
      simp at hy; subst hy
      obtain ⟨q, hq, k1, k2, k3⟩ := h2 x hx
      by_cases e : q = p
      · subst e; have := k3 hp; simp; omega
      · simp only; omega
  | @page os ps f q n h hc hq ih =>
    obtain ⟨h1, h2, h3, h4, h5, h6⟩ := ih fun x hx => hn x (List.mem_append_left _ hx)
    have hn' := hn _ (List.mem_append_right _ (List.mem_singleton.2 rfl))
    simp only at hn'
    refine ⟨by omega, ?_, ?_, ?_, ?_, ?_⟩
    · intro x hx
      rcases List.mem_append.1 hx with hx | hx
      · obtain ⟨p, hp, k1, k2, k3⟩ := h2 x hx
        refine ⟨p, List.mem_append_left _ hp, k1, k2, fun e => ?_⟩
        simp at e; subst e; exact absurd hp hq
      · simp at hx; subst hx
        exact ⟨q, by simp, by simp, by simp; omega, fun _ => by simp⟩
    · simp; omega
    · intro _; simp
      by_cases e : ps = []
      · subst e; simp at h3 ⊢; subst h3; simp; omega
      · have := h4 e; omega
    · rw [List.nodup_append]
      exact ⟨h5, by simp, fun x hx y hy => by simp at hy; subst hy; intro e; exact hq (e ▸ hx)⟩
    · rw [List.pairwise_append]
      refine ⟨h6, by simp, fun x hx y hy => ?_⟩
      simp at hy; subst hy
      obtain ⟨p, hp, k1, k2, k3⟩ := h2 x hx
      have : p ≠ q := fun e => hq (e ▸ hp)
      simp only; omega

theorem Packed.nodup {os : List (Nat × Nat)} {ps : List Nat} {f : Nat} (h : Packed os ps f) (hn : ∀ x ∈ os, 1 ≤ x.2 ∧ x.2 ≤ 32) : (os.map (·.1)).Nodup := by
  have h6 := (h.facts hn).2.2.2.2.2
  rw [List.Nodup, List.pairwise_map]
  exact List.Pairwise.imp_of_mem (fun {x y} hx hy h => by have := hn x hx; have := hn y hy; omega) h6

/-- Which pages are in use: these, and no others. -/
structure PoolInv (u : List Bool) (all : List Nat) : Prop where
  nodup : all.Nodup
  iff : ∀ p, p ∈ all ↔ u[p]? = some true
theorem PoolInv.perm {u : List Bool} {a b : List Nat} (h : PoolInv u a) (p : a.Perm b) : PoolInv u b := ⟨p.nodup_iff.1 h.nodup, fun x => by rw [← p.mem_iff]; exact h.iff x⟩
theorem PoolInv.lt {u : List Bool} {a : List Nat} (h : PoolInv u a) {p : Nat} (hp : p ∈ a) : p < u.length := (List.getElem?_eq_some_iff.1 ((h.iff p).1 hp)).1
theorem takeP_free {u : List Bool} {n : Nat} (h : takeP u = some n) : u[n]? = some false := by
  obtain ⟨h1, h2, _⟩ := List.findIdx?_eq_some_iff_getElem.1 h
  rw [List.getElem?_eq_getElem h1]; simpa using h2
theorem PoolInv.take {u : List Bool} {a : List Nat} (h : PoolInv u a) {n : Nat} (ht : takeP u = some n) : PoolInv (u.set n true) (n :: a) ∧ n ∉ a := by
  have hn := takeP_free ht
  have hlt := takeP_lt ht
  have hna : n ∉ a := fun m => by rw [(h.iff n).1 m] at hn; cases hn
  refine ⟨⟨List.nodup_cons.2 ⟨hna, h.nodup⟩, fun p => ?_⟩, hna⟩
  rw [List.mem_cons, List.getElem?_set]
  by_cases e : n = p
  · subst e; simp [hlt]
  · have : ¬ p = n := fun x => e x.symm
    simp [e, this, h.iff p]
theorem PoolInv.free1 {u : List Bool} {n : Nat} {a : List Nat} (h : PoolInv u (n :: a)) : PoolInv (u.set n false) a := by
  obtain ⟨h1, h2⟩ := List.nodup_cons.1 h.nodup
  refine ⟨h2, fun p => ?_⟩
  rw [List.getElem?_set]
  by_cases e : n = p
  · subst e; simp [h1]
  · have := h.iff p
    have e' : ¬ p = n := fun x => e x.symm
    simp only [List.mem_cons, e', false_or] at this
    simp [e, this]
theorem PoolInv.free : ∀ {ps : List Nat} {u : List Bool} {a : List Nat}, PoolInv u (ps ++ a) → PoolInv (freeP u ps) a
  | [], _, _, h => h
  | n :: ps, u, a, h => PoolInv.free (ps := ps) (u := u.set n false) (PoolInv.free1 h)
theorem PoolInv.count : ∀ {a : List Nat} {u : List Bool}, PoolInv u a → u.count true = a.length
  | [], u, h => by
    show u.count true = 0
    rw [List.count_eq_zero]
    intro hm
    obtain ⟨i, hi⟩ := List.mem_iff_getElem?.1 hm
    have := (h.iff i).2 hi
    cases this
  | n :: a, u, h => by
    have h1 := h.free1
    have ih := h1.count
    have hn := (h.iff n).1 (List.mem_cons_self ..)
    have hlt := (List.getElem?_eq_some_iff.1 hn).1
    have e : u = (u.set n false).set n true := by
      rw [List.set_set]
      apply List.ext_getElem?
      intro i
      rw [List.getElem?_set]
      by_cases e : n = i
      · subst e; simp [hlt]; exact (List.getElem?_eq_some_iff.1 hn).2
      · simp [e]
    have hc := List.count_set (l := u) (a := false) (b := true) hlt
    rw [(List.getElem?_eq_some_iff.1 hn).2] at hc
    have hpos : 0 < u.count true := List.count_pos_iff.2 (List.mem_of_getElem? hn)
    rw [ih] at hc
    simp at hc
    simp; omega
theorem PoolInv.len {u : List Bool} {a : List Nat} (h : PoolInv u a) : a.length ≤ u.length := by rw [← h.count]; exact List.count_le_length
theorem PoolInv.sub_len {u : List Bool} {a b : List Nat} (h : PoolInv u a) (hb : b.Sublist a) : b.length ≤ u.length := Nat.le_trans hb.length_le h.len

theorem takeP_some {u : List Bool} (h : 0 < u.count false) : ∃ n, takeP u = some n := by
  cases ht : takeP u with
  | some n => exact ⟨n, rfl⟩
  | none =>
    have := List.findIdx?_eq_none_iff.1 ht
    have hm := List.count_pos_iff.1 h
    have := this false hm
    simp at this
theorem count_take {u : List Bool} {n : Nat} (h : takeP u = some n) : (u.set n true).count false + 1 = u.count false := by
  have hlt := takeP_lt h
  have hn := takeP_free h
  have hc := List.count_set (l := u) (a := true) (b := false) hlt
  rw [(List.getElem?_eq_some_iff.1 hn).2] at hc
  have hpos : 0 < u.count false := List.count_pos_iff.2 (List.mem_of_getElem? hn)
  simp at hc
  omega

/-- Laying does not fail where there are pages enough. -/
theorem layM_some {life : Nat} : ∀ (ns : List Nat) (u : List Bool) (fill : Nat) (pages : List Nat), (ns.foldl step (pages.length, fill)).1 ≤ pages.length + u.count false →
    ∃ r, layM 0 life ns u fill pages = some r ∧ r.2.2.2.length = (ns.foldl step (pages.length, fill)).1
  | [], u, fill, pages, _ => ⟨_, rfl, rfl⟩
  | n :: ns, u, fill, pages, h => by
    rw [List.foldl_cons] at h ⊢
    have key : ∃ p, putM u 0 life fill pages n = some p ∧ (p.2.2.2.length, p.2.2.1) = step (pages.length, fill) n ∧ p.2.2.2.length + p.2.1.count false = pages.length + u.count false := by
      unfold putM
      rw [if_neg (by omega)]
      have newp : ¬ (0 < pages.length ∧ fill + n ≤ 32) → ∃ p, ((takeP u).map fun q => (q * 32, u.set q true, n, pages ++ [q])) = some p ∧ (p.2.2.2.length, p.2.2.1) = step (pages.length, fill) n ∧ p.2.2.2.length + p.2.1.count false = pages.length + u.count false := by
        intro hc
        have hs : step (pages.length, fill) n = (pages.length + 1, n) := by simp only [step]; rw [if_neg hc]
        rw [hs] at h
        have h1 := fold_inc ns (pages.length + 1, n)
        have : 0 < u.count false := by unfold Le2 at h1; simp only at h1; omega
        obtain ⟨q, hq⟩ := takeP_some this
        refine ⟨_, by rw [hq]; rfl, ?_, ?_⟩
        · rw [hs]; simp
        · have := count_take hq; simp; omega
      split
      · rename_i p hp
        have hpos : 0 < pages.length := by cases pages with | nil => simp at hp | cons => simp
        split
        · rename_i hf
          refine ⟨_, rfl, ?_, rfl⟩
          simp [step, hpos, hf]
        · rename_i hf
          exact newp fun hc => hf hc.2
      · rename_i hp
        exact newp fun hc => by rw [List.getLast?_eq_none_iff] at hp; rw [hp] at hc; simp at hc
    obtain ⟨⟨at_, u', fill', pages'⟩, h1, h2, h3⟩ := key
    simp only at h2 h3
    rw [← h2] at h ⊢
    obtain ⟨r, h4, h5⟩ := layM_some ns u' fill' pages' (by omega)
    refine ⟨(at_ :: r.1, r.2), ?_, h5⟩
    simp only [layM, h1, Option.bind_some]
    rw [h4]; rfl

theorem put_packed {os : List (Nat × Nat)} {u : List Bool} {ps rest : List Nat} {f n life : Nat} (h : Packed os ps f) (hp : PoolInv u (ps ++ rest)) {at_ f' : Nat} {u' : List Bool} {ps' : List Nat} (e : putM u 0 life f ps n = some (at_, u', f', ps')) :
    Packed (os ++ [(at_, n)]) ps' f' ∧ PoolInv u' (ps' ++ rest) := by
  unfold putM at e
  rw [if_neg (by omega)] at e
  have newp : (ps = [] ∨ ¬ f + n ≤ 32) → ((takeP u).map fun q => (q * 32, u.set q true, n, ps ++ [q])) = some (at_, u', f', ps') → Packed (os ++ [(at_, n)]) ps' f' ∧ PoolInv u' (ps' ++ rest) := by
    intro hc e
    simp only [Option.map_eq_some_iff] at e
    obtain ⟨q, hq, e⟩ := e
    cases e
    obtain ⟨k1, k2⟩ := hp.take hq
    refine ⟨h.page hc fun m => k2 (List.mem_append_left _ m), k1.perm ?_⟩
    rw [List.append_assoc]
    exact List.perm_middle.symm
  split at e
  · rename_i p hpg
    split at e
    · rename_i hf
      cases e
      exact ⟨h.fit hpg hf, hp⟩
    · rename_i hf
      exact newp (.inr hf) e
  · rename_i hpg
    exact newp (.inl (List.getLast?_eq_none_iff.1 hpg)) e
theorem lay_packed {life : Nat} : ∀ {ns : List Nat} {os : List (Nat × Nat)} {u : List Bool} {ps rest : List Nat} {f : Nat}, Packed os ps f → PoolInv u (ps ++ rest) → ∀ {r}, layM 0 life ns u f ps = some r →
    Packed (os ++ r.1.zip ns) r.2.2.2 r.2.2.1 ∧ PoolInv r.2.1 (r.2.2.2 ++ rest)
  | [], os, u, ps, rest, f, h, hp, r, e => by cases e; simpa using ⟨h, hp⟩
  | n :: ns, os, u, ps, rest, f, h, hp, r, e => by
    simp only [layM, Option.bind_eq_some_iff, Option.map_eq_some_iff] at e
    obtain ⟨⟨at_, u1, f1, ps1⟩, e1, q, e2, rfl⟩ := e
    obtain ⟨k1, k2⟩ := put_packed h hp e1
    obtain ⟨k3, k4⟩ := lay_packed k1 k2 e2
    exact ⟨by simpa using k3, k4⟩
theorem put_len {u : List Bool} {size life f n : Nat} {ps : List Nat} {at_ f' : Nat} {u' : List Bool} {ps' : List Nat} (e : putM u size life f ps n = some (at_, u', f', ps')) : u'.length = u.length := putM_len e

/-- A region. -/
structure RInv (r : Reg) : Prop where
  size : r.size ≤ 31
  ws : ∀ x ∈ r.objs, 1 ≤ x.ws.length ∧ x.ws.length ≤ 31 ∧ x.kind < 256
  fin : 0 < r.size → r.pages = [] ∧ r.fill = 0 ∧ r.objs.length ≤ 1 ∧ ∀ x ∈ r.objs, x.at_ = 1000000 + r.life
  inf : r.size = 0 → Packed (r.objs.map fun x => (x.at_, x.ws.length + 1)) r.pages r.fill
theorem RInv.os {r : Reg} (h : RInv r) : ∀ x ∈ r.objs.map (fun x => (x.at_, x.ws.length + 1)), 1 ≤ x.2 ∧ x.2 ≤ 32 := by
  intro x hx
  obtain ⟨y, hy, rfl⟩ := List.mem_map.1 hx
  have := h.ws y hy
  simp only; omega
theorem RInv.nodup {r : Reg} (h : RInv r) : (r.objs.map (·.at_)).Nodup := by
  by_cases hs : r.size = 0
  · have := (h.inf hs).nodup h.os
    rw [List.map_map] at this
    exact this
  · obtain ⟨_, _, h1, _⟩ := h.fin (by omega)
    match ho : r.objs with
    | [] => simp
    | [x] => simp
    | x :: y :: l => rw [ho] at h1; simp at h1
theorem RInv.nobjs {r : Reg} (h : RInv r) : r.objs.length ≤ 32 * r.pages.length + 1 := by
  by_cases hs : r.size = 0
  · have := ((h.inf hs).facts h.os).2.2.1
    simp at this; omega
  · have := (h.fin (by omega)).2.2.1; omega
theorem RInv.ok {n : Nat} {r : Reg} (h : RInv r) (hl : r.life ≤ 100000) (hp : ∀ p ∈ r.pages, p < n) (hn : n ≤ 400) (hpl : r.pages.length ≤ 400) : RegOk n r where
  size := h.size
  life := hl
  fill := by
    by_cases hs : r.size = 0
    · exact ((h.inf hs).facts h.os).1
    · have := (h.fin (by omega)).2.1; omega
  pages := hp
  npages := hpl
  nobjs := by have := h.nobjs; omega
  ws := fun x hx => (h.ws x hx).2.1
  at_ := fun x hx => by
    by_cases hs : r.size = 0
    · obtain ⟨p, hp', k1, k2, _⟩ := ((h.inf hs).facts h.os).2.1 (x.at_, x.ws.length + 1) (List.mem_map.2 ⟨x, hx, rfl⟩)
      have := hp p hp'
      simp only at k2; omega
    · have := (h.fin (by omega)).2.2.2 x hx; omega
  kind := fun x hx => (h.ws x hx).2.2

/-- The regions of a heap. -/
structure HInv (lv : Nat) (L : List Reg) : Prop where
  lives : lv ≤ 100000
  ne : L ≠ []
  len : L.length ≤ lv
  nodup : (L.map (·.life)).Nodup
  life : ∀ r ∈ L, 1 ≤ r.life ∧ r.life ≤ lv
  reg : ∀ r ∈ L, RInv r

/-- Finding, in both. -/
theorem find_same {N L : Int} (hL : 1 ≤ L) : ∀ (rs : List PReg) (rs' : List RReg) (i : Nat), rs.map PReg.m = rs'.map RReg.m →
    match rfind N L rs' i with
    | some (a, b) => ∃ g g' x x', i ≤ a ∧ rs[a - i]? = some g ∧ rs'[a - i]? = some g' ∧ g.objs[b]? = some x ∧ g'.objs[b]? = some x' ∧ x.b = x'.b ∧ g.m = g'.m ∧ pfind N L rs = some x ∧ (x.b.at_ : Int) = N ∧ (g.life : Int) = L
    | none => pfind N L rs = none
  | [], [], i, _ => rfl
  | [], _ :: _, _, h => by simp at h
  | _ :: _, [], _, h => by simp at h
  | g :: rs, g' :: rs', i, h => by
    simp only [List.map_cons, List.cons.injEq] at h
    obtain ⟨hg, hrs⟩ := h
    have ih := find_same (N := N) hL rs rs' (i + 1) hrs
    have e1 : g.life = g'.life := congrArg Reg.life hg
    have e2 : g.objs.map (·.b) = g'.objs.map (·.b) := congrArg Reg.objs hg
    have lift : pf N L g = none → (match rfind N L rs' (i + 1) with
        | some (a, b) => ∃ g0 g0' x x', i ≤ a ∧ (g :: rs)[a - i]? = some g0 ∧ (g' :: rs')[a - i]? = some g0' ∧ g0.objs[b]? = some x ∧ g0'.objs[b]? = some x' ∧ x.b = x'.b ∧ g0.m = g0'.m ∧ pfind N L (g :: rs) = some x ∧ (x.b.at_ : Int) = N ∧ (g0.life : Int) = L
        | none => pfind N L (g :: rs) = none) := by
      intro hn
      have hpf : pfind N L (g :: rs) = pfind N L rs := by unfold pfind; rw [List.findSome?_cons, hn]
      cases hr : rfind N L rs' (i + 1) with
      | none => rw [hr] at ih; simp only at ih ⊢; rw [hpf]; exact ih
      | some ab =>
        obtain ⟨a, b⟩ := ab
        rw [hr] at ih
        obtain ⟨g0, g0', x, x', k1, k2, k3, k4⟩ := ih
        refine ⟨g0, g0', x, x', by omega, ?_, ?_, ?_⟩
        · rw [show a - i = (a - (i + 1)) + 1 by omega, List.getElem?_cons_succ]; exact k2
        · rw [show a - i = (a - (i + 1)) + 1 by omega, List.getElem?_cons_succ]; exact k3
        · rw [hpf]; exact k4
    rw [rfind]
    by_cases hl : (g'.life : Int) = L
    · rw [if_pos ⟨hl, hL⟩]
      have hfi : g'.objs.findIdx? (fun x => decide ((x.b.at_ : Int) = N)) = g.objs.findIdx? (fun x => decide ((x.b.at_ : Int) = N)) := by
        have a1 := List.findIdx?_map (f := fun x : RObj => x.b) (p := fun y : Obj => decide ((y.at_ : Int) = N)) (l := g'.objs)
        have a2 := List.findIdx?_map (f := fun x : PObj => x.b) (p := fun y : Obj => decide ((y.at_ : Int) = N)) (l := g.objs)
        rw [e2] at a2
        exact a1.symm.trans a2
      have hpf : pf N L g = g.objs.find? (fun x => decide ((x.b.at_ : Int) = N)) := by unfold pf; rw [e1, if_pos hl]
      rw [hfi]
      cases hk : g.objs.findIdx? (fun x => decide ((x.b.at_ : Int) = N)) with
      | none =>
        simp only
        refine lift ?_
        rw [hpf, find_idx, hk]; rfl
      | some k =>
        obtain ⟨h1, h2, _⟩ := List.findIdx?_eq_some_iff_getElem.1 hk
        have hx : g.objs[k]? = some g.objs[k] := by simp [h1]
        have hlen : g.objs.length = g'.objs.length := by have := congrArg List.length e2; simpa using this
        have hx' : g'.objs[k]? = some (g'.objs[k]'(by omega)) := by simp [show k < g'.objs.length by omega]
        have hb : g.objs[k].b = (g'.objs[k]'(by omega)).b := by
          have := congrArg (fun l => l[k]?) e2
          simp only [List.getElem?_map, hx, hx', Option.map_some, Option.some.injEq] at this
          exact this
        refine ⟨g, g', g.objs[k], _, Nat.le_refl _, by simp, by simp, hx, hx', hb, hg, ?_, by simpa using h2, by rw [e1]; exact hl⟩
        unfold pfind
        rw [List.findSome?_cons, hpf, find_idx, hk]
        simp [h1]
    · rw [if_neg (fun h => hl h.1)]
      refine lift ?_
      unfold pf
      rw [e1, if_neg hl]

theorem rfind_skip {N L : Int} {R : List RReg} : ∀ (A : List RReg) (i : Nat), (∀ r ∈ A, (r.life : Int) ≠ L) → rfind N L (A ++ R) i = rfind N L R (i + A.length)
  | [], i, _ => rfl
  | g :: A, i, h => by
    rw [List.cons_append, rfind, if_neg (fun k => h g (List.mem_cons_self ..) k.1), rfind_skip A (i + 1) (fun r hr => h r (List.mem_cons_of_mem _ hr))]
    rw [show i + 1 + A.length = i + (g :: A).length by simp; omega]
theorem rfind_none {N L : Int} (A : List RReg) (i : Nat) (h : ∀ r ∈ A, (r.life : Int) ≠ L) : rfind N L A i = none := by
  have := rfind_skip (N := N) (R := []) A i h
  rw [List.append_nil] at this
  exact this
theorem rfind_at {N : Int} {A B : List RReg} {g : RReg} (hn : ((A ++ g :: B).map (·.life)).Nodup) (h1 : 1 ≤ g.life) : rfind N g.life (A ++ g :: B) 0 = (g.objs.findIdx? fun x => decide ((x.b.at_ : Int) = N)).map fun k => (A.length, k) := by
  rw [List.map_append, List.map_cons, List.nodup_append] at hn
  obtain ⟨_, h2, h3⟩ := hn
  obtain ⟨h4, _⟩ := List.nodup_cons.1 h2
  rw [rfind_skip A 0 fun r hr e => h3 r.life (List.mem_map.2 ⟨r, hr, rfl⟩) g.life (List.mem_cons_self ..) (by omega), rfind, if_pos ⟨rfl, by omega⟩, Nat.zero_add]
  cases g.objs.findIdx? fun x => decide ((x.b.at_ : Int) = N) with
  | some k => rfl
  | none => exact rfind_none B _ fun r hr e => h4 (List.mem_map.2 ⟨r, hr, by omega⟩)

theorem pick_same {A : List RReg} {B : List RReg} {g : PReg} {g' : RReg} (hn : ((A ++ g' :: B).map (·.life)).Nodup) (h1 : 1 ≤ g'.life) (hm : g.m = g'.m) (hd : (g.objs.map (·.b.at_)).Nodup) :
    ∀ (ws : List (Int × Int)) (nx : Nat), match pickM g.life (g.objs.drop nx) ws, rpick (A ++ g' :: B) A.length nx ws with
      | some xs, some xs' => xs.map (·.b) = xs'.map (·.b)
      | none, none => True
      | _, _ => False
  | [], nx => rfl
  | w :: ws, nx => by
    have e1 : g.life = g'.life := congrArg Reg.life hm
    have e2 : g.objs.map (·.b) = g'.objs.map (·.b) := congrArg Reg.objs hm
    have hlen : g.objs.length = g'.objs.length := by have := congrArg List.length e2; simpa using this
    have hgn : (A ++ g' :: B)[A.length]? = some g' := by simp
    simp only [pickM, rpick]
    by_cases hl : w.2 = (g'.life : Int)
    · rw [hl, rfind_at hn h1]
      have hfi : g'.objs.findIdx? (fun x => decide ((x.b.at_ : Int) = w.1)) = g.objs.findIdx? (fun x => decide ((x.b.at_ : Int) = w.1)) := by
        have a1 := List.findIdx?_map (f := fun x : RObj => x.b) (p := fun y : Obj => decide ((y.at_ : Int) = w.1)) (l := g'.objs)
        have a2 := List.findIdx?_map (f := fun x : PObj => x.b) (p := fun y : Obj => decide ((y.at_ : Int) = w.1)) (l := g.objs)
        rw [e2] at a2
        exact a1.symm.trans a2
      rw [hfi]
      cases hk : g.objs.findIdx? (fun x => decide ((x.b.at_ : Int) = w.1)) with
      | none =>
        have hnone : (g.objs.drop nx).findIdx (fun x => decide ((x.b.at_ : Int) = w.1)) = (g.objs.drop nx).length := by
          rw [List.findIdx_eq_length]
          intro x hx
          exact List.findIdx?_eq_none_iff.1 hk x (List.mem_of_mem_drop hx)
        rw [hnone, List.drop_length]
        simp
      | some b =>
        obtain ⟨hb, hpb, hmin⟩ := List.findIdx?_eq_some_iff_getElem.1 hk
        simp only [Option.map_some, true_and]
        by_cases hbn : nx ≤ b
        · have hfd : (g.objs.drop nx).findIdx (fun x => decide ((x.b.at_ : Int) = w.1)) = b - nx := by
            have hlt : b - nx < (g.objs.drop nx).length := by simp; omega
            rw [List.findIdx_eq hlt]
            refine ⟨by simp only [List.getElem_drop, show nx + (b - nx) = b by omega]; exact hpb, fun j hj => ?_⟩
            have := hmin (nx + j) (by omega)
            simp only [List.getElem_drop]; simpa using this
          have hdd : (g.objs.drop nx).drop (b - nx) = g.objs[b] :: g.objs.drop (b + 1) := by
            rw [List.drop_drop, show nx + (b - nx) = b by omega, List.drop_eq_getElem_cons hb]
          rw [hfd, hdd, if_pos hbn, hgn]
          simp only [e1, if_true, Option.bind_some]
          have hx' : g'.objs[b]? = some (g'.objs[b]'(by omega)) := by simp [show b < g'.objs.length by omega]
          rw [hx']
          simp only [Option.bind_some]
          have hbb : g.objs[b].b = (g'.objs[b]'(by omega)).b := by
            have := congrArg (fun l => l[b]?) e2
            simp only [List.getElem?_map, hx', List.getElem?_eq_getElem hb, Option.map_some, Option.some.injEq] at this
            exact this
          have ih := pick_same hn h1 hm hd ws (b + 1)
          rw [e1] at ih
          cases hp : pickM g'.life (g.objs.drop (b + 1)) ws with
          | none => rw [hp] at ih; cases hr : rpick (A ++ g' :: B) A.length (b + 1) ws with
            | none => trivial
            | some _ => rw [hr] at ih; exact ih.elim
          | some xs => rw [hp] at ih; cases hr : rpick (A ++ g' :: B) A.length (b + 1) ws with
            | none => rw [hr] at ih; exact ih.elim
            | some xs' =>
              rw [hr] at ih
              show (g.objs[b] :: xs).map (·.b) = (_ :: xs').map (·.b)
              rw [List.map_cons, List.map_cons, hbb, ih]
        · have hnone : (g.objs.drop nx).findIdx (fun x => decide ((x.b.at_ : Int) = w.1)) = (g.objs.drop nx).length := by
            rw [List.findIdx_eq_length]
            intro x hx
            obtain ⟨j, hj, rfl⟩ := List.mem_iff_getElem.1 hx
            simp only [List.length_drop] at hj
            simp only [List.getElem_drop]
            rw [decide_eq_false_iff_not]
            intro he
            have hpb' : (g.objs[b].b.at_ : Int) = w.1 := by simpa using hpb
            have hne : g.objs[b].b.at_ = (g.objs[nx + j]'(by omega)).b.at_ := by omega
            have h9 := (List.getElem_inj (xs := g.objs.map (·.b.at_)) (h₀ := by simp; omega) (h₁ := by simp; omega) hd (i := b) (j := nx + j)).1 (by simpa using hne)
            omega
          rw [hnone, List.drop_length, if_neg hbn]
          trivial
    · have hr : ∀ a b, rfind w.1 w.2 (A ++ g' :: B) 0 = some (a, b) → a ≠ A.length := by
        intro a b h e
        obtain ⟨g0, x, _, h2, _, h4, _⟩ := rfind_some h
        rw [Nat.sub_zero, e, hgn] at h2
        cases h2
        exact hl h4.symm
      cases hdr : (g.objs.drop nx).drop ((g.objs.drop nx).findIdx fun x => decide ((x.b.at_ : Int) = w.1)) with
      | nil =>
        cases hf : rfind w.1 w.2 (A ++ g' :: B) 0 with
        | none => trivial
        | some ab =>
          obtain ⟨a, b⟩ := ab
          simp only
          rw [if_neg (fun h => hr a b hf h.1)]
          trivial
      | cons x rest =>
        simp only
        rw [if_neg (show ¬ w.2 = (g.life : Int) by rw [e1]; exact hl)]
        cases hf : rfind w.1 w.2 (A ++ g' :: B) 0 with
        | none => trivial
        | some ab =>
          obtain ⟨a, b⟩ := ab
          simp only
          rw [if_neg (fun h => hr a b hf h.1)]
          trivial
end Go.Proofs.Ytoldkemimhebaaa
