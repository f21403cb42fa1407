/- The frame, to the end: acts, calls, code. -/
import Derived.Test.YtfcaamoapdibiaaGreatDoorIm14
set_option linter.unusedSimpArgs false
set_option linter.unusedVariables false
namespace Go.IM

section
variable {π : Nat → Nat} {s t : St}

/-- What has no number in the small store stays. -/
structure Out (π : Nat → Nat) (t t' : St) : Prop where
  new : ∀ j, (∀ k, π k ≠ j) → t'.new j = t.new j
  old : t'.old = t.old
  next : t.next ≤ t'.next

theorem Out.refl (π : Nat → Nat) (t : St) : Out π t t := ⟨fun _ _ => rfl, rfl, Nat.le_refl _⟩
theorem Out.trans {t t' t'' : St} (h : Out π t t') (k : Out π t' t'') : Out π t t'' :=
  ⟨fun j hj => (k.new j hj).trans (h.new j hj), k.old.trans h.old, Nat.le_trans h.next k.next⟩

theorem Ren.at (h : Ren π s t) : π s.next = t.next := by
  have := h.next s.next (Nat.le_refl _); simpa using this

theorem Ren.alloc (h : Ren π s t) (o : O) : Ren π (s.alloc o) (t.alloc (o.ren π)) where
  next := fun k hk => by
    have hk' : s.next + 1 ≤ k := hk
    have := h.next k (by omega)
    show π k = t.next + 1 + (k - (s.next + 1))
    omega
  obj := fun k o' hk => by
    simp only [St.alloc] at hk ⊢
    by_cases e : k = s.next
    · subst e
      rw [if_pos rfl] at hk
      cases hk
      rw [if_pos h.at]
    · rw [if_neg e] at hk
      have : π k ≠ t.next := fun hh => e (h.inj _ _ (hh.trans h.at.symm))
      rw [if_neg this]
      exact h.obj k o' hk
  old := h.old
  inj := h.inj

theorem Out.alloc (h : Ren π s t) (o : O) : Out π t (t.alloc o) :=
  ⟨fun j hj => by simp only [St.alloc]; rw [if_neg (fun e => hj s.next (h.at.trans e.symm))], rfl, by simp [St.alloc]⟩

theorem Ren.set (h : Ren π s t) (k : Nat) (o : O) : Ren π (s.set k o) (t.set (π k) (o.ren π)) where
  next := h.next
  obj := fun k' o' hk => by
    simp only [St.set] at hk ⊢
    by_cases e : k' = k
    · subst e
      rw [if_pos rfl] at hk
      cases hk
      rw [if_pos rfl]
    · rw [if_neg e] at hk
      rw [if_neg (fun hh => e (h.inj _ _ hh))]
      exact h.obj k' o' hk
  old := h.old
  inj := h.inj

theorem Out.set (t : St) (k : Nat) (o : O) : Out π t (t.set (π k) o) :=
  ⟨fun j hj => by simp only [St.set]; rw [if_neg (fun e => hj k e.symm)], rfl, Nat.le_refl _⟩

theorem Ren.kill (h : Ren π s t) (k : Nat) : Ren π (s.kill k) (t.kill (π k)) where
  next := h.next
  obj := fun k' o' hk => by
    simp only [St.kill] at hk ⊢
    by_cases e : k' = k
    · subst e
      rw [if_pos rfl] at hk
      cases hk
    · rw [if_neg e] at hk
      rw [if_neg (fun hh => e (h.inj _ _ hh))]
      exact h.obj k' o' hk
  old := h.old
  inj := h.inj

theorem Out.kill (t : St) (k : Nat) : Out π t (t.kill (π k)) :=
  ⟨fun j hj => by simp only [St.kill]; rw [if_neg (fun e => hj k e.symm)], rfl, Nat.le_refl _⟩

theorem zeros_ren {z : List V} (h : shutL z = true) : ∀ n, (zeros z n).map (V.ren π) = zeros z n
  | 0 => rfl
  | n + 1 => by simp only [zeros, List.map_append, map_shut h, zeros_ren h n]

theorem evalA_ren {op : IOp} {e : Env} {o : O} {f : Nat → V} (hs : op.shut = true) (h : evalA op e = some (o, f)) :
    ∃ g, evalA op (rE π e) = some (o.ren π, g) ∧ ∀ k, g (π k) = (f k).ren π := by
  simp only [IOp.shut, Bool.and_eq_true] at hs
  obtain ⟨⟨ha, hz⟩, hlow⟩ := hs
  cases op <;> simp only [IOp.args, IOp.zeros, List.all_cons, List.all_nil, List.all_append, Bool.and_eq_true, Bool.and_true, and_true] at ha hz <;> simp only [evalA, reduceCtorEq] at h ⊢
  case alloc z =>
    cases h
    exact ⟨_, by simp only [O.ren, map_shut hz]; rfl, fun _ => rfl⟩
  case box x =>
    rw [ev_ren ha, ren_cells, ren_all_one]
    split at h
    · rename_i hc
      cases h
      rw [if_pos hc]
      exact ⟨_, rfl, fun _ => rfl⟩
    · cases h
  case buildSlice len z ps =>
    simp only [Option.map_eq_some_iff, Prod.mk.injEq] at h
    obtain ⟨cs, h, rfl, rfl⟩ := h
    have h2 := fillI_ren (π := π) e ps z cs (ofFill (e := e) ha) h
    rw [map_shut hz] at h2
    exact ⟨_, by rw [h2]; rfl, fun _ => rfl⟩
  case mkMap => cases h; exact ⟨_, rfl, fun _ => rfl⟩
  case mkSlice bytes z len cap =>
    rw [ev_ren ha.1, ev_ren ha.2, asNat_ren, asNat_ren]
    simp only [Option.bind_eq_some_iff] at h
    obtain ⟨l, h1, c, h2, h⟩ := h
    rw [h1, h2]
    split at h
    · rename_i hc
      cases h
      refine ⟨_, by simp only [Option.bind_some, if_pos hc, O.ren, zeros_ren hz]; rfl, fun _ => rfl⟩
    · cases h

theorem Ren.writeCells (h : Ren π s t) {a : Ad} {vs : List V} {s' : St} (hw : writeCells s a vs = some s') :
    ∃ t', writeCells t (a.ren π) (vs.map (V.ren π)) = some t' ∧ Ren π s' t' ∧ Out π t t' := by
  obtain ⟨i, off⟩ := a
  cases i with
  | old b => simp [IM.writeCells] at hw
  | new k =>
    simp only [IM.writeCells, Ad.ren, Id.ren] at hw ⊢
    split at hw
    · rename_i cs g hk
      split at hw
      · rename_i hc
        cases hw
        rw [h.obj k _ hk]
        simp only [O.ren, List.length_map, ren_all_one]
        rw [if_pos hc]
        refine ⟨_, rfl, ?_, Out.set _ _ _⟩
        have := h.set k (.cells (over cs off vs) g)
        simpa only [O.ren, over_ren] using this
      · cases hw
    · cases hw

theorem Ren.storeI (h : Ren π s t) {n : Nat} {x y : V} {s' : St} (hw : storeI n x y s = some s') :
    ∃ t', storeI n (x.ren π) (y.ren π) t = some t' ∧ Ren π s' t' ∧ Out π t t' := by
  unfold IM.storeI at hw
  split at hw
  · rename_i a
    split at hw
    · rename_i hn
      obtain ⟨t', h1, h2⟩ := h.writeCells hw
      exact ⟨t', by simp only [V.ren, Option.map_some, IM.storeI, ren_cells, List.length_map, if_pos hn, h1], h2⟩
    · cases hw
  · cases hw

theorem Ren.mapSetI (h : Ren π s t) {kt : KT} {m k v : V} {s' : St} (hw : mapSetI kt m k v s = some s') :
    ∃ t', mapSetI kt (m.ren π) (k.ren π) (v.ren π) t = some t' ∧ Ren π s' t' ∧ Out π t t' := by
  unfold IM.mapSetI at hw
  split at hw
  · rename_i b
    split at hw
    · rename_i es clock hb
      split at hw
      · cases hw
      · rename_i hk
        simp only [Option.map_eq_some_iff] at hw
        obtain ⟨r, hr, hw⟩ := hw
        have hb' := h.obj b _ hb
        simp only [O.ren] at hb'
        simp only [V.ren, Option.map_some, Id.ren, IM.mapSetI, hb', keyEq_ren, if_neg hk, findI_ren, hr, Option.map_some]
        cases r with
        | none =>
          simp only at hw
          subst hw
          refine ⟨_, rfl, ?_, Out.set _ _ _⟩
          have := h.set b (.map (es ++ [(k, v, clock)]) (clock + 1))
          simpa [O.ren] using this
        | some q =>
          simp only at hw
          subst hw
          refine ⟨_, rfl, ?_, Out.set _ _ _⟩
          have := h.set b (.map (es.modify q.1 fun e => (k, v, e.2.2)) clock)
          have e1 : (es.modify q.1 fun e => (k, v, e.2.2)).map (fun e => (e.1.ren π, e.2.1.ren π, e.2.2)) = (es.map fun e => (e.1.ren π, e.2.1.ren π, e.2.2)).modify q.1 fun e => (k.ren π, v.ren π, e.2.2) := by
            apply List.ext_getElem?
            intro i
            simp only [List.getElem?_map, List.getElem?_modify]
            cases es[i]? <;> simp
            split <;> simp_all
          simpa [O.ren, e1] using this
    · cases hw
  · cases hw

theorem Ren.mapEntI (h : Ren π s t) {kt : KT} {z m k v : V} (hz : z.ren π = z) {s' : St} (hw : mapEntI kt z m k s = some (v, s')) :
    ∃ t', mapEntI kt z (m.ren π) (k.ren π) t = some (v.ren π, t') ∧ Ren π s' t' ∧ Out π t t' := by
  unfold IM.mapEntI at hw
  split at hw
  · rename_i b
    split at hw
    · rename_i es clock hb
      split at hw
      · cases hw
      · rename_i hk
        simp only [Option.map_eq_some_iff] at hw
        obtain ⟨r, hr, hw⟩ := hw
        have hb' := h.obj b _ hb
        simp only [O.ren] at hb'
        simp only [V.ren, Option.map_some, Id.ren, IM.mapEntI, hb', keyEq_ren, if_neg hk, findI_ren, hr, Option.map_some]
        cases r with
        | none =>
          simp only [Prod.mk.injEq] at hw
          obtain ⟨rfl, rfl⟩ := hw
          refine ⟨t.set (π b) (.map ((es.map fun e => (e.1.ren π, e.2.1.ren π, e.2.2)) ++ [(k.ren π, z, clock)]) (clock + 1)), by simp [V.ren, renL, hz], ?_, Out.set _ _ _⟩
          have := h.set b (.map (es ++ [(k, z, clock)]) (clock + 1))
          simpa [O.ren, hz] using this
        | some q =>
          simp only [Prod.mk.injEq] at hw
          obtain ⟨rfl, rfl⟩ := hw
          have e0 : (((es.map fun e => (e.1.ren π, e.2.1.ren π, e.2.2))[q.1]?).map (·.2.2)).getD 0 = ((es[q.1]?).map (·.2.2)).getD 0 := by
            rw [List.getElem?_map]; cases es[q.1]? <;> rfl
          refine ⟨t.set (π b) (.map ((es.map fun e => (e.1.ren π, e.2.1.ren π, e.2.2)).modify q.1 fun e => (k.ren π, e.2.1, e.2.2)) clock), by simp only [Option.map_some, e0, V.ren, renL], ?_, Out.set _ _ _⟩
          have := h.set b (.map (es.modify q.1 fun e => (k, e.2.1, e.2.2)) clock)
          have e1 : (es.modify q.1 fun e => (k, e.2.1, e.2.2)).map (fun e => (e.1.ren π, e.2.1.ren π, e.2.2)) = (es.map fun e => (e.1.ren π, e.2.1.ren π, e.2.2)).modify q.1 fun e => (k.ren π, e.2.1, e.2.2) := by
            apply List.ext_getElem?
            intro i
            simp only [List.getElem?_map, List.getElem?_modify]
            cases es[i]? <;> simp
            split <;> simp_all
          simpa [O.ren, e1] using this
    · cases hw
  · cases hw

theorem Ren.entSetI (h : Ren π s t) {m st v : V} {s' : St} (hw : entSetI m st v s = some s') :
    ∃ t', entSetI (m.ren π) (st.ren π) (v.ren π) t = some t' ∧ Ren π s' t' ∧ Out π t t' := by
  unfold IM.entSetI at hw
  split at hw
  · rename_i b kd born
    split at hw
    · rename_i es clock hb
      simp only [Option.map_eq_some_iff] at hw
      obtain ⟨i, hi, rfl⟩ := hw
      have hb' := h.obj b _ hb
      simp only [O.ren] at hb'
      have hi' : (es.map fun e => (e.1.ren π, e.2.1.ren π, e.2.2)).findIdx? (fun e => (e.2.2 : Int) == born) = some i := by
        rw [List.findIdx?_map]; exact hi
      simp only [V.ren, Option.map_some, Id.ren, IM.entSetI, hb', hi', Option.map_some]
      refine ⟨_, rfl, ?_, Out.set _ _ _⟩
      have := h.set b (.map (es.modify i fun e => (e.1, v, e.2.2)) clock)
      have e1 : (es.modify i fun e => (e.1, v, e.2.2)).map (fun e => (e.1.ren π, e.2.1.ren π, e.2.2)) = (es.map fun e => (e.1.ren π, e.2.1.ren π, e.2.2)).modify i fun e => (e.1, v.ren π, e.2.2) := by
        apply List.ext_getElem?
        intro i
        simp only [List.getElem?_map, List.getElem?_modify]
        cases es[i]? <;> simp
        split <;> simp_all
      simpa [O.ren, e1] using this
    · cases hw
  · cases hw

theorem Ren.newCells (h : Ren π s t) {sz : Nat} {y : V} {p : List V × Nat} (hn : newCells s sz y = some p) : newCells t sz (y.ren π) = some (p.1.map (V.ren π), p.2) := by
  unfold IM.newCells at hn
  split at hn
  · cases hn; rfl
  · split at hn
    · rename_i h0
      cases hn
      simp only [V.ren, Option.map_some, IM.newCells, if_pos h0, List.map_nil]
    · rename_i h0
      simp only [Option.map_eq_some_iff] at hn
      obtain ⟨cs, hn, rfl⟩ := hn
      simp only [V.ren, Option.map_some, IM.newCells, if_neg h0, h.readCells hn]
  · split at hn
    · rename_i hz
      cases hn
      simp only [V.ren, IM.newCells, if_pos hz, List.map_map]
      congr 2
    · cases hn
  · cases hn

theorem Ren.appendC (h : Ren π s t) {sz bytes : Nat} {x v : V} {p : List V × Nat} {s' : St} (ha : appendC sz bytes x p s = some (v, s')) :
    ∃ t', appendC sz bytes (x.ren π) (p.1.map (V.ren π), p.2) t = some (v.ren π, t') ∧ Ren π s' t' ∧ Out π t t' := by
  unfold IM.appendC at ha
  unfold IM.appendC
  split at ha
  · split at ha
    · rename_i hz
      cases ha
      exact ⟨t, by simp [V.ren, hz], h, Out.refl _ _⟩
    · rename_i hz
      split at ha
      · rename_i hc
        cases ha
        refine ⟨t.alloc (O.ren π (.cells p.1 (some sz))), by simp only [V.ren, Option.map_none, if_neg hz, if_pos hc, Option.map_some, Ad.ren, Id.ren, h.at, O.ren], ?_, Out.alloc h _⟩
        exact h.alloc (.cells p.1 (some sz))
      · cases ha
  · rename_i a len cap
    split at ha
    · rename_i hz
      cases ha
      exact ⟨t, by simp [V.ren, hz], h, Out.refl _ _⟩
    · rename_i hz
      split at ha
      · rename_i hc
        simp only [Option.map_eq_some_iff, Prod.mk.injEq] at ha
        obtain ⟨s1, hw, rfl, rfl⟩ := ha
        obtain ⟨t', h1, h2⟩ := h.writeCells hw
        exact ⟨t', by simp only [V.ren, Option.map_some, if_neg hz, if_pos hc]; simp only [Ad.ren] at h1 ⊢; rw [h1]; rfl, h2⟩
      · rename_i hc
        split at ha
        · rename_i hb
          simp only [Option.map_eq_some_iff, Prod.mk.injEq] at ha
          obtain ⟨was, hw, rfl, rfl⟩ := ha
          refine ⟨t.alloc (O.ren π (.cells (was ++ p.1) (some sz))), by simp only [V.ren, Option.map_some, if_neg hz, if_neg hc, if_pos hb, h.readCells hw]; simp only [Ad.ren, Id.ren, h.at, O.ren, List.map_append], ?_, Out.alloc h _⟩
          exact h.alloc (.cells (was ++ p.1) (some sz))
        · cases ha
  · rename_i a len
    split at ha
    · rename_i hz
      cases ha
      exact ⟨t, by simp [V.ren, hz], h, Out.refl _ _⟩
    · rename_i hz
      obtain ⟨i, off⟩ := a
      cases i with
      | old b => simp at ha
      | new k =>
        simp only at ha
        split at ha
        · rename_i cs g hk
          split at ha
          · rename_i hc
            simp only [Option.map_eq_some_iff, Prod.mk.injEq] at ha
            obtain ⟨s1, hw, rfl, rfl⟩ := ha
            obtain ⟨t', h1, h2⟩ := h.writeCells hw
            simp only [Ad.ren, Id.ren] at h1
            exact ⟨t', by simp only [V.ren, Option.map_some, if_neg hz, Ad.ren, Id.ren, h.obj k _ hk, O.ren, List.length_map, if_pos hc, h1], h2⟩
          · rename_i hc0
            split at ha
            · rename_i hc
              cases ha
              refine ⟨_, by simp only [V.ren, Option.map_some, if_neg hz, Ad.ren, Id.ren, h.obj k _ hk, O.ren, List.length_map, ren_all_one, if_neg hc0, if_pos hc]; rw [h.at], ?_, ?_⟩
              · have := (h.kill k).alloc (.cells (cs ++ p.1) (some sz))
                simpa [O.ren] using this
              · exact (Out.kill _ _).trans (Out.alloc (h.kill k) _)
            · cases ha
        · cases ha
  · cases ha

theorem Ren.appendI (h : Ren π s t) {sz bytes : Nat} {x y v : V} {s' : St} (ha : appendI sz bytes x y s = some (v, s')) :
    ∃ t', appendI sz bytes (x.ren π) (y.ren π) t = some (v.ren π, t') ∧ Ren π s' t' ∧ Out π t t' := by
  change (IM.newCells s sz y).bind (fun p => IM.appendC sz bytes x p s) = _ at ha
  simp only [Option.bind_eq_some_iff] at ha
  obtain ⟨p, hp, ha⟩ := ha
  obtain ⟨t', h1, h2⟩ := h.appendC ha
  refine ⟨t', ?_, h2⟩
  show (IM.newCells t sz (y.ren π)).bind (fun p => IM.appendC sz bytes (x.ren π) p t) = _
  rw [h.newCells hp, Option.bind_some, h1]
theorem Ren.appendZI (h : Ren π s t) {sz bytes : Nat} {z : List V} (hz : shutL z = true) {x n v : V} {s' : St} (ha : appendZI sz bytes z x n s = some (v, s')) :
    ∃ t', appendZI sz bytes z (x.ren π) (n.ren π) t = some (v.ren π, t') ∧ Ren π s' t' ∧ Out π t t' := by
  unfold IM.appendZI at ha
  simp only [Option.bind_eq_some_iff] at ha
  obtain ⟨k, hk, ha⟩ := ha
  split at ha
  · rename_i hc
    obtain ⟨t', h1, h2⟩ := h.appendC ha
    rw [zeros_ren hz] at h1
    exact ⟨t', by unfold IM.appendZI; rw [asNat_ren, hk, Option.bind_some, if_pos hc, h1], h2⟩
  · cases ha
theorem Ren.clearI (h : Ren π s t) {z : List V} (hz : shutL z = true) {x : V} {s' : St} (ha : clearI z x s = some s') :
    ∃ t', clearI z (x.ren π) t = some t' ∧ Ren π s' t' ∧ Out π t t' := by
  unfold IM.clearI at ha
  split at ha
  · cases ha
    exact ⟨t, rfl, h, Out.refl _ _⟩
  · rename_i a n c hn
    obtain ⟨t', h1, h2⟩ := h.writeCells ha
    rw [zeros_ren hz] at h1
    refine ⟨t', ?_, h2⟩
    simp only [V.ren, Option.map_some]
    unfold IM.clearI
    split
    · rename_i heq
      simp only [V.slice.injEq] at heq
      exact (hn heq.2.1).elim
    · rename_i heq
      simp only [V.slice.injEq, Option.some.injEq] at heq
      obtain ⟨rfl, rfl, rfl⟩ := heq
      exact h1
    · rename_i h3 h4
      exact absurd rfl (h4 _ _ _)
  · cases ha
theorem Ren.iterI (h : Ren π s t) {m v : V} {s' : St} (ha : iterI m s = some (v, s')) :
    ∃ t', iterI (m.ren π) t = some (v.ren π, t') ∧ Ren π s' t' ∧ Out π t t' := by
  unfold IM.iterI at ha
  split at ha
  · cases ha
    exact ⟨t.alloc (O.ren π (.iter none)), by simp only [V.ren, Option.map_none, Option.map_some, Ad.ren, Id.ren, h.at, IM.iterI]; rfl, h.alloc _, Out.alloc h _⟩
  · rename_i i
    split at ha
    · rename_i es cl hg
      cases ha
      have hg' := h.get hg
      exact ⟨t.alloc (O.ren π (.iter (some i))), by
        show IM.iterI (.map (some (i.ren π))) t = some (.ptr (some ⟨.new (π s.next), 0⟩), _)
        simp only [IM.iterI, hg', O.ren, h.at, Option.map_some], h.alloc _, Out.alloc h _⟩
    · cases ha
  · cases ha
theorem Ren.nextI (h : Ren π s t) {x v : V} (ha : nextI x s = some v) : nextI (x.ren π) t = some (v.ren π) := by
  unfold IM.nextI at ha
  split at ha
  · rename_i k
    split at ha
    · rename_i hn
      cases ha
      have := h.obj k _ hn
      simp only [V.ren, Option.map_some, Ad.ren, Id.ren, IM.nextI, this, O.ren, Option.map_none]
      rfl
    · rename_i i hn
      split at ha
      · rename_i cl hg
        cases ha
        have := h.obj k _ hn
        have hg' := h.get hg
        show IM.nextI (.ptr (some ⟨.new (π k), 0⟩)) t = some (.tuple [.bool false])
        simp only [IM.nextI, this, O.ren, Option.map_some, hg', List.map_nil]
      · cases ha
    · cases ha
  · cases ha

theorem evalS_ren (h : Ren π s t) {op : IOp} {e : Env} {v : V} {s' : St} (hs : op.shut = true) (hl : evalS op e s = some (v, s')) :
    ∃ t', evalS op (rE π e) t = some (v.ren π, t') ∧ Ren π s' t' ∧ Out π t t' := by
  simp only [IOp.shut, Bool.and_eq_true] at hs
  obtain ⟨⟨ha, hz⟩, hlow⟩ := hs
  cases op <;> simp only [IOp.args, IOp.zeros, List.all_cons, List.all_nil, List.all_append, Bool.and_eq_true, Bool.and_true, and_true] at ha hz <;> simp only [evalS, reduceCtorEq] at hl ⊢
  case store n a x =>
    simp only [Option.map_eq_some_iff, Prod.mk.injEq] at hl
    obtain ⟨s1, hl, rfl, rfl⟩ := hl
    obtain ⟨t', h1, h2⟩ := h.storeI hl
    exact ⟨t', by rw [ev_ren ha.1, ev_ren ha.2, h1]; rfl, h2⟩
  case mapSet kt m k x =>
    simp only [Option.map_eq_some_iff, Prod.mk.injEq] at hl
    obtain ⟨s1, hl, rfl, rfl⟩ := hl
    obtain ⟨t', h1, h2⟩ := h.mapSetI hl
    exact ⟨t', by rw [ev_ren ha.1, ev_ren ha.2.1, ev_ren ha.2.2, h1]; rfl, h2⟩
  case mapEnt kt z m k =>
    have hzz : z.ren π = z := V.ren_shut (by simpa [shutL] using hz)
    obtain ⟨t', h1, h2⟩ := h.mapEntI hzz hl
    exact ⟨t', by rw [ev_ren ha.1, ev_ren ha.2, h1], h2⟩
  case entSet m st x =>
    simp only [Option.map_eq_some_iff, Prod.mk.injEq] at hl
    obtain ⟨s1, hl, rfl, rfl⟩ := hl
    obtain ⟨t', h1, h2⟩ := h.entSetI hl
    exact ⟨t', by rw [ev_ren ha.1, ev_ren ha.2.1, ev_ren ha.2.2, h1]; rfl, h2⟩
  case append sz bytes x y =>
    rw [ev_ren ha.1, ev_ren ha.2]
    exact h.appendI hl
  case appendZ sz bytes z x n =>
    rw [ev_ren ha.1, ev_ren ha.2]
    exact h.appendZI hz hl
  case clearSlice z x =>
    simp only [Option.map_eq_some_iff, Prod.mk.injEq] at hl
    obtain ⟨s1, hl, rfl, rfl⟩ := hl
    obtain ⟨t', h1, h2⟩ := h.clearI hz hl
    exact ⟨t', by rw [ev_ren ha, h1]; rfl, h2⟩
  case rangeMap m =>
    rw [ev_ren ha]
    exact h.iterI hl
  case nextMap x =>
    simp only [Option.map_eq_some_iff, Prod.mk.injEq] at hl
    obtain ⟨u, hl, rfl, rfl⟩ := hl
    exact ⟨t, by rw [ev_ren ha, h.nextI hl]; rfl, h, Out.refl _ _⟩

theorem evalL_ren (h : Ren π s t) {op : IOp} {e : Env} {v : V} (hs : op.shut = true) (hl : evalL op e s = some v) : evalL op (rE π e) t = some (v.ren π) := by
  unfold evalL at hl ⊢
  split at hl
  · rename_i i op'
    have hs' : op'.shut = true := by
      simp only [IOp.shut, IOp.args, IOp.zeros, IOp.low, List.all_cons, Bool.and_eq_true] at hs ⊢
      exact ⟨⟨hs.1.1.2, hs.1.2⟩, hs.2⟩
    simp only [Option.bind_eq_some_iff] at hl
    obtain ⟨u, h1, h2⟩ := hl
    split at h2
    · rename_i hb
      cases h2
      simp only [evalLook_ren h hs' h1, Option.bind_some, ev_ren (π := π) (e := e) (x := .t i) rfl, beqV_ren hb, if_true, ren_any]
    · cases h2
  · exact evalLook_ren h hs hl

theorem evalOp_ren (h : Ren π s t) {op : IOp} {e : Env} {v : V} {s' : St} (hs : op.shut = true) (hl : evalOp op e s = some (v, s')) :
    ∃ t', evalOp op (rE π e) t = some (v.ren π, t') ∧ Ren π s' t' ∧ Out π t t' := by
  unfold evalOp at hl ⊢
  split at hl
  · simp only [Option.map_eq_some_iff, Prod.mk.injEq] at hl
    obtain ⟨u, hl, rfl, rfl⟩ := hl
    exact ⟨t, by simp only [evalP_ren hs hl, Option.map_some], h, Out.refl _ _⟩
  · simp only [Option.map_eq_some_iff, Prod.mk.injEq] at hl
    obtain ⟨u, hl, rfl, rfl⟩ := hl
    exact ⟨t, by simp only [evalL_ren h hs hl, Option.map_some], h, Out.refl _ _⟩
  · simp only [Option.map_eq_some_iff, Prod.mk.injEq] at hl
    obtain ⟨⟨o, f⟩, hl, rfl, rfl⟩ := hl
    obtain ⟨g, h1, h2⟩ := evalA_ren (π := π) hs hl
    exact ⟨_, by simp only [h1, Option.map_some, ← h.at, h2], h.alloc o, Out.alloc h _⟩
  · exact evalS_ren h hs hl

/-- Calls that keep the frame. -/
def CRen (π : Nat → Nat) (C C' : CallT) : Prop := ∀ f a s t v s', Ren π s t → C f a s = some (v, s') → ∃ t', C' (fren π f) (a.map (V.ren π)) t = some (v.ren π, t') ∧ Ren π s' t' ∧ Out π t t'

theorem execI_ren {C C' : CallT} (hC : CRen π C C') (h : Ren π s t) {op : IOp} {e : Env} {v : V} {s' : St} (hs : op.shut = true) (hl : execI C op e s = some (v, s')) :
    ∃ t', execI C' op (rE π e) t = some (v.ren π, t') ∧ Ren π s' t' ∧ Out π t t' := by
  unfold execI at hl ⊢
  split at hl
  · simp only [IOp.shut, IOp.args, IOp.low, Bool.and_eq_true, decide_eq_true_eq] at hs
    simp only [map_ev_ren hs.1.1]
    have := hC _ _ _ _ _ _ h hl
    rwa [fren_low π hs.2] at this
  · simp only [IOp.shut, IOp.args, List.all_cons, Bool.and_eq_true] at hs
    simp only [map_ev_ren hs.1.1.2, ev_ren hs.1.1.1]
    split at hl
    · rename_i g pre caps hg
      rw [hg]
      simp only [V.ren, renL_eq, ← List.map_append]
      exact hC _ _ _ _ _ _ h hl
    · cases hl
  · rename_i h1 h2
    exact evalOp_ren h hs hl

theorem stepI_ren {C C' : CallT} (hC : CRen π C C') (h : Ren π s t) {i : II} {e e' : Env} {s' : St} (hs : i.op.shut = true) (hl : stepI C i e s = some (e', s')) :
    ∃ t', stepI C' i (rE π e) t = some (rE π e', t') ∧ Ren π s' t' ∧ Out π t t' := by
  unfold stepI at hl ⊢
  split at hl
  · rename_i hw
    rw [wanted_ren e i.guard hw]
    simp only [Option.map_eq_some_iff, Prod.mk.injEq] at hl
    obtain ⟨⟨v, s1⟩, hl, rfl, rfl⟩ := hl
    obtain ⟨t', h1, h2⟩ := execI_ren hC h hs hl
    exact ⟨t', by simp only [h1, Option.map_some, put_ren], h2⟩
  · rename_i hw
    rw [wanted_ren e i.guard hw]
    cases hl
    exact ⟨t, by simp only [put_ren]; rfl, h, Out.refl _ _⟩
  · cases hl

/-- Continuations that keep the frame, since t0. -/
def ERen (π : Nat → Nat) (t0 : St) (K K' : Env → St → Res) : Prop := ∀ e s t v s', Ren π s t → Out π t0 t → K e s = some (v, s') → ∃ t', K' (rE π e) t = some (v.ren π, t') ∧ Ren π s' t' ∧ Out π t0 t'

theorem goOps_ren {C C' : CallT} (hC : CRen π C C') {t0 : St} {K K' : Env → St → Res} (hK : ERen π t0 K K') {v : V} {s' : St} :
    ∀ (l : List II) (e : Env) (s t : St), (l.all fun i => i.op.shut) = true → Ren π s t → Out π t0 t → goOps C l e s K = some (v, s') →
      ∃ t', goOps C' l (rE π e) t K' = some (v.ren π, t') ∧ Ren π s' t' ∧ Out π t0 t'
  | [], e, s, t, _, h, ho, hl => hK e s t v s' h ho hl
  | i :: l, e, s, t, hs, h, ho, hl => by
    simp only [List.all_cons, Bool.and_eq_true] at hs
    simp only [goOps, Option.bind_eq_some_iff] at hl
    obtain ⟨⟨e1, s1⟩, h1, h2⟩ := hl
    obtain ⟨t1, h3, h4, h5⟩ := stepI_ren hC h hs.1 h1
    simp only [goOps, h3, Option.bind_some]
    exact goOps_ren hC hK l e1 s1 t1 hs.2 h4 (ho.trans h5) h2

def KRen (π : Nat → Nat) (t0 : St) (K K' : Kt) : Prop := ∀ x, ERen π t0 (K x) (K' x)

def LRen (π : Nat → Nat) (L L' : IC → Env → St → Kt → Res) : Prop := ∀ t0 c e s t K K' v s', c.shut = true → KRen π t0 K K' → Ren π s t → Out π t0 t → L c e s K = some (v, s') →
  ∃ t', L' c (rE π e) t K' = some (v.ren π, t') ∧ Ren π s' t' ∧ Out π t0 t'

theorem dfrK_ren {C C' : CallT} (hC : CRen π C C') {g : Nat} (h0 : g < yBase) {as : List V} {t0 : St} {K K' : Kt} (hK : KRen π t0 K K') : KRen π t0 (dfrK C g as K) (dfrK C' g (as.map (V.ren π)) K') := by
  intro x e s t v s' h ho hl
  cases x with
  | exit i => cases hl
  | normal =>
    simp only [dfrK, Option.bind_eq_some_iff] at hl
    obtain ⟨⟨u, s1⟩, h1, h2⟩ := hl
    obtain ⟨t1, k1, k2, k3⟩ := hC _ _ _ _ _ _ h h1
    rw [fren_low π h0] at k1
    simp only [dfrK, k1, Option.bind_some]
    exact hK .normal _ _ _ _ _ k2 (ho.trans k3) h2
  | ret =>
    simp only [dfrK, Option.bind_eq_some_iff] at hl
    obtain ⟨⟨u, s1⟩, h1, h2⟩ := hl
    obtain ⟨t1, k1, k2, k3⟩ := hC _ _ _ _ _ _ h h1
    rw [fren_low π h0] at k1
    simp only [dfrK, k1, Option.bind_some]
    exact hK .ret _ _ _ _ _ k2 (ho.trans k3) h2
theorem go_ren {L L' : IC → Env → St → Kt → Res} {C C' : CallT} (hL : LRen π L L') (hC : CRen π C C') {t0 : St} {v : V} {s' : St} :
    ∀ (c : IC) (e : Env) (s t : St) (K K' : Kt), c.shut = true → KRen π t0 K K' → Ren π s t → Out π t0 t → go L C c e s K = some (v, s') →
      ∃ t', go L' C' c (rE π e) t K' = some (v.ren π, t') ∧ Ren π s' t' ∧ Out π t0 t'
  | .skip, e, s, t, K, K', _, hK, h, ho, hl => hK _ _ _ _ _ _ h ho hl
  | .region ops keep, e, s, t, K, K', hs, hK, h, ho, hl => by
    refine goOps_ren hC (fun e s t v s' h ho hl => ?_) ops e s t hs h ho hl
    have := hK .normal _ _ _ _ _ h ho hl
    rwa [mask_ren] at this
  | .seq a b, e, s, t, K, K', hs, hK, h, ho, hl => by
    simp only [IC.shut, Bool.and_eq_true] at hs
    refine go_ren hL hC a e s t _ _ hs.1 (fun x e s t v s' h ho hl => ?_) h ho hl
    cases x with
    | normal => exact go_ren hL hC b e s t K K' hs.2 hK h ho hl
    | exit i => exact hK _ _ _ _ _ _ h ho hl
    | ret => exact hK _ _ _ _ _ _ h ho hl
  | .cond c a b, e, s, t, K, K', hs, hK, h, ho, hl => by
    simp only [IC.shut, Bool.and_eq_true] at hs
    simp only [go, ev_ren hs.1.1] at hl ⊢
    split at hl
    · rename_i hc; rw [hc]; exact go_ren hL hC a e s t K K' hs.1.2 hK h ho hl
    · rename_i hc; rw [hc]; exact go_ren hL hC b e s t K K' hs.2 hK h ho hl
    · cases hl
  | .block id a, e, s, t, K, K', hs, hK, h, ho, hl => by
    refine go_ren hL hC a e s t _ _ hs (fun x e s t v s' h ho hl => ?_) h ho hl
    cases x with
    | normal => exact hK _ _ _ _ _ _ h ho hl
    | exit i =>
      simp only at hl ⊢
      split at hl
      · rename_i hi; rw [if_pos hi]; exact hK _ _ _ _ _ _ h ho hl
      · rename_i hi; rw [if_neg hi]; exact hK _ _ _ _ _ _ h ho hl
    | ret => exact hK _ _ _ _ _ _ h ho hl
  | .loop a, e, s, t, K, K', hs, hK, h, ho, hl => by
    refine go_ren hL hC a e s t _ _ hs (fun x e s t v s' h ho hl => ?_) h ho hl
    cases x with
    | normal => exact hL t0 _ _ _ _ _ _ _ _ hs hK h ho hl
    | exit i => exact hK _ _ _ _ _ _ h ho hl
    | ret => exact hK _ _ _ _ _ _ h ho hl
  | .range f ps a b, e, s, t, K, K', hs, hK, h, ho, hl => hL t0 _ _ _ _ _ _ _ _ hs hK h ho hl
  | .exit i, e, s, t, K, K', _, hK, h, ho, hl => hK _ _ _ _ _ _ h ho hl
  | .ret, e, s, t, K, K', _, hK, h, ho, hl => hK _ _ _ _ _ _ h ho hl
  | .dead, e, s, t, K, K', _, hK, h, ho, hl => by cases hl
  | .dfr f args a, e, s, t, K, K', hs, hK, h, ho, hl => by
    simp only [IC.shut, Bool.and_eq_true] at hs
    simp only [go, ev_ren hs.1.1] at hl ⊢
    split at hl
    · rename_i g pre caps hg
      split at hl
      · rename_i h0
        rw [hg]
        simp only [V.ren, renL_eq, fren_low π h0, if_pos h0]
        have := dfrK_ren hC h0 (as := pre ++ args.map (ev e) ++ caps) hK
        rw [List.map_append, List.map_append, ← map_ev_ren hs.1.2] at this
        exact go_ren hL hC a e s t _ _ hs.2 this h ho hl
      · cases hl
    · cases hl

theorem resultsI_ren (h : Ren π s t) {e : Env} : ∀ (l : List (Nat × Option (Option Nat))) {vs : List V}, resultsI e s l = some vs → resultsI (rE π e) t l = some (vs.map (V.ren π))
  | [], vs, hl => by cases hl; rfl
  | (i, none) :: l, vs, hl => by
    simp only [resultsI, Option.map_eq_some_iff] at hl
    obtain ⟨us, hl, rfl⟩ := hl
    have := ev_ren (π := π) (e := e) (x := .t i) rfl
    simp only [ev] at this
    simp only [resultsI, resultsI_ren h l hl, Option.map_some, this, List.map_cons]
  | (i, some n) :: l, vs, hl => by
    simp only [resultsI, Option.bind_eq_some_iff, Option.map_eq_some_iff] at hl
    obtain ⟨u, h1, us, hl, rfl⟩ := hl
    simp only [resultsI, evalLook_ren h (op := .load n (.t i)) rfl h1, Option.bind_some, resultsI_ren h l hl, Option.map_some, List.map_cons]

theorem packRes_ren : ∀ l : List V, packRes (l.map (V.ren π)) = (packRes l).ren π
  | [] => rfl
  | [v] => rfl
  | _ :: _ :: _ => by simp [packRes, V.ren, renL_eq]

theorem fin_ren (fn : IFn) (t0 : St) : KRen π t0 (fin fn) (fin fn) := by
  intro x e s t v s' h ho hl
  have key : (resultsI e s fn.results).map (fun vs => (packRes vs, s)) = some (v, s') → ∃ t', (resultsI (rE π e) t fn.results).map (fun vs => (packRes vs, t)) = some (v.ren π, t') ∧ Ren π s' t' ∧ Out π t0 t' := by
    intro hl
    simp only [Option.map_eq_some_iff, Prod.mk.injEq] at hl
    obtain ⟨vs, hr, rfl, rfl⟩ := hl
    exact ⟨t, by simp only [resultsI_ren h _ hr, Option.map_some, packRes_ren], h, ho⟩
  cases x with
  | exit i => simp [fin] at hl
  | normal => exact key hl
  | ret => exact key hl

theorem initEnv_ren (fn : IFn) (a : List V) : rE π (initEnv fn a) = initEnv fn (a.map (V.ren π)) := by
  simp [rE, initEnv]

/-- Yields that keep the frame. -/
def YRen (π : Nat → Nat) (Y Y' : Yt) : Prop := ∀ j a s t v s', Ren π s t → Y j a s = some (v, s') → ∃ t', Y' (π j) (a.map (V.ren π)) t = some (v.ren π, t') ∧ Ren π s' t' ∧ Out π t t'
theorem YRen.no : YRen π noY noY := fun _ _ _ _ _ _ _ h => by cases h

theorem putAll_ren : ∀ (ps : List Nat) (e : Env) (a : List V), rE π (putAll e ps a) = putAll (rE π e) ps (a.map (V.ren π))
  | [], _, _ => by simp [putAll]
  | _ :: _, _, [] => by simp [putAll]
  | p :: ps, e, v :: vs => by
    have h1 : rE π (e.set p v) = (rE π e).set p (v.ren π) := by simp [rE, List.map_set]
    simp only [putAll, List.map_cons, putAll_ren ps, h1]

theorem roundEnd_ren (k : Nat) (t0 : St) : KRen π t0 (roundEnd k) (roundEnd (π k)) := by
  intro x e s t v s' h ho hl
  simp only [roundEnd] at hl ⊢
  split at hl
  · rename_i hs
    rw [h.obj _ _ hs]
    simp only [Option.some.injEq, Prod.mk.injEq] at hl
    obtain ⟨rfl, rfl⟩ := hl
    exact ⟨_, rfl, h.set k _, ho.trans (Out.set t k _)⟩
  · cases hl

theorem roundMid_ren {M M' : LT × CallT} (hL : LRen π M.1 M'.1) (hC : CRen π M.2 M'.2) {b : IC} (hb : b.shut = true) (k : Nat) (t0 : St) : KRen π t0 (roundMid M b k) (roundMid M' b (π k)) := by
  intro x e s t v s' h ho hl
  cases x with
  | exit i => cases hl
  | ret => cases hl
  | normal =>
    simp only [roundMid] at hl ⊢
    split at hl
    · rename_i hs
      rw [h.obj _ _ hs]
      exact go_ren hL hC b _ _ _ _ _ hb (roundEnd_ren k t0) (h.set k _) (ho.trans (Out.set t k _)) hl
    · cases hl

theorem roundI_ren {M M' : LT × CallT} (hL : LRen π M.1 M'.1) (hC : CRen π M.2 M'.2) {ps : List Nat} {a b : IC} (ha : a.shut = true) (hb : b.shut = true) {e : Env} {k : Nat} {args : List V} {s t : St} {v : V} {s' : St}
    (h : Ren π s t) (hl : roundI M ps a b e k args s = some (v, s')) : ∃ t', roundI M' ps a b (rE π e) (π k) (args.map (V.ren π)) t = some (v.ren π, t') ∧ Ren π s' t' ∧ Out π t t' := by
  unfold roundI at hl ⊢
  rw [List.length_map]
  split at hl
  · rename_i hlen
    rw [if_pos hlen]
    split at hl
    · rename_i hs
      rw [h.obj _ _ hs]
      rw [← putAll_ren]
      exact go_ren hL hC a _ _ _ _ _ ha (roundMid_ren hL hC hb k t) h (Out.refl _ _) hl
    · cases hl
  · cases hl

theorem YRen.withY {Y Y' : Yt} (hY : YRen π Y Y') {k : Nat} {f f' : List V → St → Res} (hf : ∀ a s t v s', Ren π s t → f a s = some (v, s') → ∃ t', f' (a.map (V.ren π)) t = some (v.ren π, t') ∧ Ren π s' t' ∧ Out π t t') :
    YRen π (withY Y k f) (withY Y' (π k) f') := by
  intro j a s t v s' h hl
  unfold IM.withY at hl ⊢
  split at hl
  · rename_i e; subst e; rw [if_pos rfl]; exact hf _ _ _ _ _ h hl
  · rename_i e; rw [if_neg (fun hh => e (h.inj _ _ hh))]; exact hY _ _ _ _ _ _ h hl

theorem rangeEnd_ren (h : Ren π s t) {t0 : St} (ho : Out π t0 t) {k : Nat} {e : Env} {K K' : Kt} (hK : KRen π t0 K K') {u v : V} {s' : St} (hl : rangeEnd k e K (u, s) = some (v, s')) :
    ∃ t', rangeEnd (π k) (rE π e) K' (u.ren π, t) = some (v.ren π, t') ∧ Ren π s' t' ∧ Out π t0 t' := by
  unfold rangeEnd at hl ⊢
  split at hl
  · rename_i hs; simp only [h.obj _ _ hs, O.ren]; exact hK _ _ _ _ _ _ (h.kill k) (ho.trans (Out.kill t k)) hl
  · rename_i hs; simp only [h.obj _ _ hs, O.ren]; exact hK _ _ _ _ _ _ (h.kill k) (ho.trans (Out.kill t k)) hl
  · rename_i hs; simp only [h.obj _ _ hs, O.ren]; exact hK _ _ _ _ _ _ (h.kill k) (ho.trans (Out.kill t k)) hl
  · cases hl

theorem rangeI_ren {M : Yt → LT × CallT} (hM : ∀ Y Y', YRen π Y Y' → LRen π (M Y).1 (M Y').1 ∧ CRen π (M Y).2 (M Y').2) {Y Y' : Yt} (hY : YRen π Y Y') {f : Arg} {ps : List Nat} {a b : IC} (hf : f.shut = true) (ha : a.shut = true) (hb : b.shut = true)
    {t0 : St} {e : Env} {K K' : Kt} (hK : KRen π t0 K K') {v : V} {s' : St} (h : Ren π s t) (ho : Out π t0 t) (hl : rangeI M Y f ps a b e s K = some (v, s')) :
    ∃ t', rangeI M Y' f ps a b (rE π e) t K' = some (v.ren π, t') ∧ Ren π s' t' ∧ Out π t0 t' := by
  unfold rangeI at hl ⊢
  rw [ev_ren hf]
  split at hl
  · rename_i g pre caps hg
    rw [hg]
    split at hl
    · rename_i h0
      simp only [V.ren, fren_low π h0, if_pos h0]
      simp only [Option.bind_eq_some_iff] at hl
      obtain ⟨⟨u, s2⟩, hc, hend⟩ := hl
      obtain ⟨h1, h2⟩ := hM Y Y' hY
      have hY2 := hY.withY (k := s.next) (f := roundI (M Y) ps a b e s.next) (f' := roundI (M Y') ps a b (rE π e) (π s.next)) (fun _ _ _ _ _ h hl => roundI_ren h1 h2 ha hb h hl)
      obtain ⟨t2, q1, q2, q3⟩ := (hM _ _ hY2).2 _ _ _ _ _ _ (h.alloc (.loop .ready)) hc
      have e1 : (pre ++ [V.func (yBase + s.next) [] []] ++ caps).map (V.ren π) = renL π pre ++ [V.func (yBase + t.next) [] []] ++ renL π caps := by
        simp [V.ren, renL_eq, fren_yield, h.at]
      rw [e1, fren_low π h0, h.at] at q1
      rw [show t.alloc (O.loop .ready) = t.alloc (O.ren π (.loop .ready)) from rfl, q1]
      obtain ⟨t3, q4, q5⟩ := rangeEnd_ren q2 ((ho.trans (Out.alloc h _)).trans q3) hK hend
      rw [h.at] at q4
      exact ⟨t3, q4, q5⟩
    · cases hl
  · cases hl

theorem LC_ren {F : Nat → Option IFn} (hF : ∀ f fn, F f = some fn → fn.body.shut = true) : ∀ (n : Nat) (Y Y' : Yt), YRen π Y Y' → LRen π (LC F n Y).1 (LC F n Y').1 ∧ CRen π (LC F n Y).2 (LC F n Y').2
  | 0, _, _, _ => ⟨fun _ _ _ _ _ _ _ _ _ _ _ _ _ h => by simp [LC] at h, fun _ _ _ _ _ _ _ h => by simp [LC] at h⟩
  | n + 1, Y, Y', hY => by
    have ih := LC_ren hF n
    obtain ⟨h1, h2⟩ := ih Y Y' hY
    refine ⟨fun t0 c e s t K K' v s' hs hK h ho hl => ?_, fun f a s t v s' h hl => ?_⟩
    · cases c with
      | range f ps a b =>
        simp only [IC.shut, Bool.and_eq_true] at hs
        exact rangeI_ren ih hY hs.1.1 hs.1.2 hs.2 hK h ho hl
      | _ => exact go_ren h1 h2 _ e s t K K' hs hK h ho hl
    · simp only [LC] at hl ⊢
      split at hl
      · rename_i h0
        rw [fren_low π h0, if_pos h0]
        cases hf : F f with
        | none => rw [hf] at hl; cases hl
        | some fn =>
          rw [hf] at hl
          simp only at hl ⊢
          rw [← initEnv_ren]
          exact go_ren h1 h2 fn.body _ _ _ _ _ (hF f fn hf) (fin_ren fn t) h (Out.refl _ _) hl
      · rename_i h0
        have e1 : ¬ fren π f < yBase := by unfold fren; rw [if_neg h0]; omega
        have e2 : fren π f - yBase = π (f - yBase) := by unfold fren; rw [if_neg h0]; omega
        rw [if_neg e1, e2]
        exact hY _ _ _ _ _ _ h hl

/-- THE FRAME: what a call does in a small store it does in a greater one. -/
theorem call_frame {F : Nat → Option IFn} (hF : ∀ f fn, F f = some fn → fn.body.shut = true) {f : Nat} {a : List V} {v : V} {s' : St} (h : Ren π s t) (hc : call F f a s = some (v, s')) (h0 : f < yBase := by decide) :
    ∃ t', call F f (a.map (V.ren π)) t = some (v.ren π, t') ∧ Ren π s' t' ∧ Out π t t' := by
  obtain ⟨n, hn⟩ := call_some.1 hc
  obtain ⟨t', h1, h2⟩ := (LC_ren hF n noY noY YRen.no).2 _ _ _ _ _ _ h hn
  rw [fren_low π h0] at h1
  exact ⟨t', call_some.2 ⟨n, h1⟩, h2⟩

/-- The functions of a program, those alone whose code has no number of a new object in it. -/
def shutF (P : Program) (f : Nat) : Option IFn :=
  match compF P f with
  | some fn => if fn.body.shut then some fn else none
  | none => none

theorem shutF_comp {P : Program} {f : Nat} {fn : IFn} (h : shutF P f = some fn) : compF P f = some fn := by
  unfold shutF at h
  split at h
  · rename_i fn' hf
    split at h
    · cases h; exact hf
    · cases h
  · cases h

theorem shutF_shut {P : Program} : ∀ f fn, shutF P f = some fn → fn.body.shut = true := by
  intro f fn h
  unfold shutF at h
  split at h
  · split at h
    · rename_i hb; cases h; exact hb
    · cases h
  · cases h

theorem shut_sound {P : Program} (hm : P.follows .mixedOrders = true) (B : Nat) (ρ0 : Rn) : CallsOk P B ρ0 (call (shutF P)) := by
  intro f args s v s' h
  obtain ⟨n, h⟩ := call_some.1 h
  exact (sound hm (fun _ _ h => shutF_comp h) n).1 B ρ0 noY YOk.no f args s v s' h
end
#print axioms call_frame
end Go.IM
