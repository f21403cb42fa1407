/- What one operation of the ideal machine does is what Go's own does. -/
import Derived.Test.YtfcaamoapdibiaaGreatDoorIm2
import Derived.WalkKit
import Derived.Laws.CopyRow
import Derived.Laws.Append
import Derived.Laws.CopyOwn
set_option linter.unusedSimpArgs false
set_option linter.unusedVariables false
namespace Go.IM
open Go.RowKit (Below)
section
variable {P : Program} {B : Nat} {ρ : Rn} {s : St} {w : World}

theorem cut_some {cs l : List V} {off n : Nat} (h : cut cs off n = some l) : off + n ≤ cs.length ∧ l = (cs.drop off).take n ∧ l.length = n := by
  unfold cut at h
  split at h
  · rename_i hn
    cases h
    exact ⟨hn, rfl, by simp; omega⟩
  · cases h

theorem eval_VR {e : Env} {a : Act} (he : VRs ρ e a.tmps.toList) (x : Operand) : VR ρ (ev e (argOf x)) (a.eval x) := by
  cases x with
  | tmp t =>
    simp only [argOf, ev, Act.eval]
    cases h : e[t]? with
    | none => simp only [List.getD, h, Option.getD_none]; trivial
    | some v =>
      obtain ⟨y, hy, hv⟩ := VRs_get he h
      have : a.tmps[t]? = some y := by simpa using hy
      simpa [List.getD, h, Array.getD_eq_getD_getElem?, this] using hv
  | const v => exact ofVal_VR ρ v
  | global g => exact ⟨_, rfl, rfl⟩
  | func f =>
    simp only [argOf, ev]
    split
    · rename_i h; exact .inl ⟨h, #[], #[], rfl, rfl, rfl⟩
    · trivial

theorem cells_at {C : Array Value} {b : Nat} {el : TypeId} {fr : Nat × Nat} (hb : w.heap[b]? = some (.cells C el fr)) (off n : Nat) :
    ∀ j v, ((C.toList.drop off).take n)[j]? = some v → w.cell? ((⟨b, off, none⟩ : Addr).add j) = some v := by
  intro j v h
  rw [List.getElem?_take] at h
  split at h
  · rw [Addr.add_lit]
    simpa [World.cell?, hb] using h
  · cases h

theorem Sim.read (hs : Sim B ρ s w) {a : Ad} {n : Nat} {l : List V} (hr : readCells s a n = some l) {c : Addr} (hp : place ρ a = some c) :
    l.length = n ∧ ∃ L, VRs ρ l L ∧ ∀ j v, L[j]? = some v → w.cell? (c.add j) = some v := by
  obtain ⟨i, off⟩ := a
  simp only [readCells] at hr
  cases hrow : s.row i with
  | none => simp [hrow] at hr
  | some r =>
    obtain ⟨cs, g⟩ := r
    simp only [hrow] at hr
    obtain ⟨h1, rfl, h3⟩ := cut_some hr
    refine ⟨h3, ?_⟩
    cases i with
    | old b =>
      cases (show some _ = some c from hp)
      have ho : s.old b = some (.cells cs g) := by
        unfold St.row St.get at hrow
        split at hrow <;> simp_all
      obtain ⟨_, _, C, el, fr, hb, hv⟩ := hs.old b _ ho
      exact ⟨_, VRs_take (VRs_drop (VRs_mono (none0_le ρ) _ _ hv) off) n, cells_at hb off n⟩
    | new k =>
      simp only [place, Option.map_eq_some_iff] at hp
      obtain ⟨p, hk, rfl⟩ := hp
      have ho : s.new k = some (.cells cs g) := by
        unfold St.row St.get at hrow
        split at hrow <;> simp_all
      obtain ⟨C, el, hb, hsz, hv, _⟩ := hs.obj k p _ hk ho
      refine ⟨((C.toList.drop (p.off + off)).take n), ?_, cells_at hb _ n⟩
      have h := VRs_take (VRs_drop hv off) n
      rwa [List.drop_take, List.drop_drop, List.take_take, Nat.min_eq_left (by omega)] at h

theorem Sim.upd {k : Nat} {p : Pl} {o o' : O} {w' : World} (hs : Sim B ρ s w) (hk : ρ k = some p) (ho : s.new k = some o) (hsz : w'.heap.size = w.heap.size)
    (hoth : ∀ j, j ≠ p.blk → w'.heap[j]? = w.heap[j]?) (hob : ObjR ρ o' p w'.heap[p.blk]?) : Sim B ρ (s.set k o') w' := by
  obtain ⟨hkn, hB, hlt⟩ := hs.dom k p hk
  refine ⟨by rw [hsz]; exact hs.base, fun b o h => ?_, fun k p h => by rw [hsz]; exact hs.dom k p h, fun k1 p1 o1 h1 h2 => ?_, fun k1 k2 p1 p2 h1 h2 h3 h4 he => ?_, fun j hj => ?_⟩
  · obtain ⟨h1, h2⟩ := hs.old b o h
    exact ⟨h1, by rw [hoth b (by omega)]; exact h2⟩
  · simp only [St.set] at h2
    split at h2
    · rename_i e
      subst e
      rw [hk] at h1; cases h1; cases h2
      exact hob
    · rename_i e
      have hne : p1.blk ≠ p.blk := fun he => e (hs.inj k1 k p1 p h1 hk (by rw [h2]; simp) (by rw [ho]; simp) he)
      rw [hoth _ hne]
      exact hs.obj k1 p1 o1 h1 h2
  · refine hs.inj k1 k2 p1 p2 h1 h2 ?_ ?_ he
    · intro hn; apply h3; simp only [St.set]; split
      · rename_i e; subst e; rw [ho] at hn; cases hn
      · exact hn
    · intro hn; apply h4; simp only [St.set]; split
      · rename_i e; subst e; rw [ho] at hn; cases hn
      · exact hn
  · simp only [St.set]
    split
    · rename_i e; subst e; exact absurd hkn (by simp only [St.set] at hj; omega)
    · exact hs.fresh j hj

theorem Step.upd {k : Nat} {p : Pl} {o' : O} {w' : World} (hk : ρ k = some p) (hb : Below B w w') (hsz : w'.heap.size = w.heap.size) (hoth : ∀ j, j ≠ p.blk → w'.heap[j]? = w.heap[j]?) : Step B ρ s w ρ (s.set k o') w' :=
  ⟨Le.refl ρ, hb, Nat.le_refl _, rfl, fun j _ hn => ⟨hn, by simp only [St.set]; rw [if_neg]; rintro rfl; rw [hk] at hn; cases hn⟩, fun b _ h => ⟨hoth b (fun e => h k p hk e.symm), h⟩, by omega⟩

/-- One more new object placed. -/
def Rn.put (ρ : Rn) (k : Nat) (p : Pl) : Rn := fun j => if j = k then some p else ρ j

theorem Sim.nextNone (hs : Sim B ρ s w) : ρ s.next = none := by
  cases h : ρ s.next with
  | none => rfl
  | some p => exact absurd (hs.dom _ _ h).1 (by omega)

theorem Rn.put_le {k : Nat} {p : Pl} (h : ρ k = none) : Le ρ (ρ.put k p) := by
  intro j q hq
  unfold Rn.put
  rw [if_neg]
  · exact hq
  · rintro rfl; rw [h] at hq; cases hq

theorem ObjR_mono {ρ' : Rn} (h : Le ρ ρ') {o : O} {p : Pl} {b : Option Obj} (ho : ObjR ρ o p b) : ObjR ρ' o p b := by
  cases o with
  | cells cs g => obtain ⟨C, el, h1, h2, h3, h4⟩ := ho; exact ⟨C, el, h1, h2, VRs_mono h _ _ h3, h4⟩
  | map es c => obtain ⟨M, h1, h2⟩ := ho; exact ⟨M, h1, ERs_mono h h2⟩
  | loop st => exact ho
  | iter m =>
    obtain ⟨h0, m', since, c0, h1, h2⟩ := ho
    refine ⟨h0, m', since, c0, h1, ?_⟩
    cases m with
    | none => exact h2
    | some i => obtain ⟨b', h3, h4⟩ := h2; exact ⟨b', h3, mplace_mono h h4⟩

theorem Sim.alloc (hs : Sim B ρ s w) (o : O) (ob : Obj) (p : Pl) (hp : p.blk = w.heap.size) (ho : ObjR ρ o p (some ob)) :
    Sim B (ρ.put s.next p) (s.alloc o) (w.alloc ob) := by
  have hn := hs.nextNone
  have hle := Rn.put_le (p := p) hn
  have hsz : (w.alloc ob).heap.size = w.heap.size + 1 := by show (w.heap.push ob).size = _; simp
  have hold : ∀ j, j < w.heap.size → (w.alloc ob).heap[j]? = w.heap[j]? := fun j hj => Below.heap_alloc w ob j hj
  have hbase := hs.base
  refine ⟨by omega, fun b o h => ?_, fun k q h => ?_, fun k q o1 h1 h2 => ?_, fun k1 k2 p1 p2 h1 h2 h3 h4 he => ?_, fun j hj => ?_⟩
  · obtain ⟨h1, h2⟩ := hs.old b o h
    exact ⟨h1, by rw [hold b (by omega)]; exact h2⟩
  · unfold Rn.put at h
    split at h
    · cases h; rename_i e; subst e; exact ⟨by simp [St.alloc], by omega, by omega⟩
    · obtain ⟨a, b, c⟩ := hs.dom k q h
      exact ⟨by simp only [St.alloc]; omega, b, by omega⟩
  · unfold Rn.put at h1
    simp only [St.alloc] at h2
    split at h1
    · rename_i e
      rw [if_pos e] at h2
      cases h1; cases h2
      rw [hp, heap_alloc_new]
      exact ObjR_mono hle ho
    · rename_i e
      rw [if_neg e] at h2
      rw [hold _ (hs.dom k q h1).2.2]
      exact ObjR_mono hle (hs.obj k q o1 h1 h2)
  · unfold Rn.put at h1 h2
    simp only [St.alloc] at h3 h4
    split at h1 <;> split at h2
    · rename_i a b; rw [a, b]
    · cases h1; have := (hs.dom _ _ h2).2.2; omega
    · cases h2; have := (hs.dom _ _ h1).2.2; omega
    · rename_i a b
      rw [if_neg a] at h3
      rw [if_neg b] at h4
      exact hs.inj k1 k2 p1 p2 h1 h2 h3 h4 he
  · simp only [St.alloc] at hj ⊢
    rw [if_neg (by omega)]
    exact hs.fresh j (by omega)

theorem Step.alloc (hs : Sim B ρ s w) (o : O) (ob : Obj) (p : Pl) (hp : p.blk = w.heap.size) : Step B ρ s w (ρ.put s.next p) (s.alloc o) (w.alloc ob) := by
  refine ⟨Rn.put_le hs.nextNone, (Below.refl B w).alloc hs.base ob, by simp [St.alloc], rfl, fun k hk hn => ?_, fun b hb hn => ?_, by show _ ≤ (w.heap.push ob).size; simp⟩
  · have : k ≠ s.next := by omega
    exact ⟨by simp [Rn.put, this, hn], by simp [St.alloc, this]⟩
  · refine ⟨Below.heap_alloc w ob b hb, fun k q hq => ?_⟩
    unfold Rn.put at hq
    split at hq
    · cases hq; omega
    · exact hn k q hq

theorem Sim.heap {w' : World} (hs : Sim B ρ s w) (h : w'.heap = w.heap) : Sim B ρ s w' :=
  ⟨by rw [h]; exact hs.base, fun b o e => by rw [h]; exact hs.old b o e, fun k p e => by rw [h]; exact hs.dom k p e, fun k p o a b => by rw [h]; exact hs.obj k p o a b, hs.inj, hs.fresh⟩

theorem Sim.kill {k : Nat} (hs : Sim B ρ s w) : Sim B ρ (s.kill k) w := by
  have hk : ∀ j, (s.kill k).new j ≠ none → s.new j ≠ none ∧ (s.kill k).new j = s.new j := by
    intro j hj
    simp only [St.kill] at hj ⊢
    split at hj
    · exact absurd rfl hj
    · rename_i e; rw [if_neg e]; exact ⟨hj, rfl⟩
  refine ⟨hs.base, hs.old, hs.dom, fun j p o h1 h2 => ?_, fun k1 k2 p1 p2 h1 h2 h3 h4 he => hs.inj k1 k2 p1 p2 h1 h2 (hk k1 h3).1 (hk k2 h4).1 he, fun j hj => ?_⟩
  · have := (hk j (by rw [h2]; simp)).2
    rw [h2] at this
    exact hs.obj j p o h1 this.symm
  · simp only [St.kill]
    split
    · rfl
    · exact hs.fresh j hj

/-- Cells written. -/
theorem Sim.write (hs : Sim B ρ s w) {a : Ad} {vs : List V} {s' : St} (hw : writeCells s a vs = some s') {c : Addr} (hp : place ρ a = some c) {L : List Value} (hL : VRs ρ vs L) :
    ∃ C el, w.heap[c.block]? = some (.cells C el (0, 0)) ∧ c.spot = none ∧ c.off + L.length ≤ C.size ∧ (∀ u ∈ L, u.oneCell' = true) ∧
      Sim B ρ s' (w.setRow c.block (C.toList.take c.off ++ L ++ C.toList.drop (c.off + L.length)).toArray) ∧
      Step B ρ s w ρ s' (w.setRow c.block (C.toList.take c.off ++ L ++ C.toList.drop (c.off + L.length)).toArray) := by
  obtain ⟨i, off⟩ := a
  unfold writeCells at hw
  cases i with
  | old b => simp at hw
  | new k =>
    simp only at hw
    simp only [place, Option.map_eq_some_iff] at hp
    obtain ⟨p, hk, rfl⟩ := hp
    cases ho : s.new k with
    | none => simp [ho] at hw
    | some o =>
      cases o with
      | map es cl => simp [ho] at hw
      | loop st => simp [ho] at hw
      | iter m => simp [ho] at hw
      | cells cs g =>
        simp only [ho] at hw
        split at hw
        · rename_i hcond
          obtain ⟨hfit, hone⟩ := hcond
          cases hw
          obtain ⟨C, el, hb, hsz, hv, hg⟩ := hs.obj k p _ hk ho
          have hlen := VRs_length hL
          obtain ⟨hkn, hB, hlt⟩ := hs.dom k p hk
          have hb' := setRow_heap w p.blk C (C.toList.take (p.off + off) ++ L ++ C.toList.drop (p.off + off + L.length)).toArray el (0, 0) hb
          have hnew : ObjR ρ (.cells (over cs off vs) g) p (w.setRow p.blk (C.toList.take (p.off + off) ++ L ++ C.toList.drop (p.off + off + L.length)).toArray).heap[p.blk]? := by
            rw [hb']
            have hcl : C.toList.length = C.size := by simp
            have hol : (over cs off vs).length = cs.length := by
              simp only [over, List.length_append, List.length_take, List.length_drop]; omega
            refine ⟨_, el, rfl, ?_, ?_, ?_⟩
            · rw [hol]
              simp only [List.size_toArray, List.length_append, List.length_take, List.length_drop, hcl]
              omega
            · rw [hol]
              refine VRs_iff.2 ⟨?_, fun j x y hx hy => ?_⟩
              · rw [hol]
                simp only [List.length_take, List.length_drop, List.length_append, hcl]
                omega
              · have hj : j < cs.length := by
                  have := (List.getElem?_eq_some_iff.1 hx).1
                  omega
                rw [List.getElem?_take, if_pos hj, List.getElem?_drop] at hy
                simp only [over] at hx
                have key : ∀ j' z, cs[j']? = some z → ∀ y', C.toList[p.off + j']? = some y' → j' < cs.length → VR ρ z y' := by
                  intro j' z hz y' hy' hj'
                  exact (VRs_iff.1 hv).2 j' z y' hz (by rw [List.getElem?_take, if_pos hj', List.getElem?_drop]; exact hy')
                by_cases h1 : j < off
                · rw [List.append_assoc, List.getElem?_append_left (by simp only [List.length_take]; omega), List.getElem?_take, if_pos h1] at hx
                  rw [List.append_assoc, List.getElem?_append_left (by simp only [List.length_take, hcl]; omega), List.getElem?_take, if_pos (by omega)] at hy
                  exact key j x hx y hy hj
                · by_cases h2 : j < off + vs.length
                  · rw [List.append_assoc, List.getElem?_append_right (by simp only [List.length_take]; omega), List.getElem?_append_left (by simp only [List.length_take]; omega)] at hx
                    rw [List.append_assoc, List.getElem?_append_right (by simp only [List.length_take, hcl]; omega), List.getElem?_append_left (by simp only [List.length_take, hcl]; omega)] at hy
                    have e1 : j - (cs.take off).length = j - off := by simp only [List.length_take]; omega
                    have e2 : p.off + j - (C.toList.take (p.off + off)).length = j - off := by simp only [List.length_take, hcl]; omega
                    rw [e1] at hx
                    rw [e2] at hy
                    exact (VRs_iff.1 hL).2 _ x y hx hy
                  · rw [List.getElem?_append_right (by simp only [List.length_append, List.length_take]; omega), List.getElem?_drop] at hx
                    rw [List.getElem?_append_right (by simp only [List.length_append, List.length_take, hcl]; omega), List.getElem?_drop] at hy
                    have e1 : off + vs.length + (j - (cs.take off ++ vs).length) = j := by simp only [List.length_append, List.length_take]; omega
                    have e2 : p.off + off + L.length + (p.off + j - (C.toList.take (p.off + off) ++ L).length) = p.off + j := by simp only [List.length_append, List.length_take, hcl]; omega
                    rw [e1] at hx
                    rw [e2] at hy
                    exact key j x hx y hy hj
            · cases g with
              | none => exact hg
              | some z =>
                refine ⟨hg.1, hg.2.1, ?_⟩
                rw [hg.2.2]
                simp only [List.size_toArray, List.length_append, List.length_take, List.length_drop, hcl]
                omega
          exact ⟨C, el, hb, rfl, by simp only; omega, VRs_one hL hone,
            hs.upd hk ho (by simp) (fun j hj => setRow_other w p.blk j _ hj) hnew,
            Step.upd hk (below_setRow (Below.refl B w) hB _) (by simp) (fun j hj => setRow_other w p.blk j _ hj)⟩
        · cases hw

end
end Go.IM
