/- Stores, entries of maps, appends. -/
import Derived.Test.YtfcaamoapdibiaaGreatDoorIm7
set_option linter.unusedSimpArgs false
set_option linter.unusedVariables false
namespace Go.IM
open Go.RowKit (Below)
section
variable {P : Program} {B : Nat} {ρ : Rn} {s : St} {w : World} {a : Act} {e : Env}

/-- What an operation that acts leaves. -/
def ActsOk (P : Program) (B : Nat) (ρ : Rn) (s : St) (w : World) (r : Result Next) (v : V) (s' : St) : Prop :=
  ∃ ρ' w', Sim B ρ' s' w' ∧ Step B ρ s w ρ' s' w' ∧ ((∃ v', r = .ok (.value v') w' ∧ VR ρ' v v') ∨ (r = .ok .skip w' ∧ v = .any))

theorem store_ok {t : TypeId} {n : Nat} (hn : sizeOfT P t = some n) (hs : Sim B ρ s w) {x y : V} {x' y' : Value} (hx : VR ρ x x') (hy : VR ρ y y') {s' : St}
    (h : storeI n x y s = some s') :
    ∃ w', (Instr.storeAt t x' y').run P w = .ok () w' ∧ Sim B ρ s' w' ∧ Step B ρ s w ρ s' w' := by
  unfold storeI at h
  split at h
  · rename_i ad
    split at h
    · rename_i hl
      have hw := h
      obtain ⟨c, rfl, hp⟩ := hx
      have hone : y.cells.all V.one = true := by
        unfold writeCells at hw
        split at hw
        · cases hw
        · split at hw
          · split at hw
            · rename_i hc; exact hc.2
            · cases hw
          · cases hw
      have hcells := VR_cells hy hone
      obtain ⟨C, el, hb, hsp, hfit, h1, hsim, hstep⟩ := hs.write hw hp hcells
      obtain ⟨cb, co, cs⟩ := c
      simp only at hsp hb hfit hsim hstep
      subst hsp
      obtain ⟨i, hi, rfl⟩ := Option.map_eq_some_iff.1 hn
      have hlen := VRs_length hcells
      have hr := run_storeCells_at P cb co el y'.cells.toList 0 C w hb (by simpa using hfit) h1
      simp only [Nat.add_zero] at hr
      refine ⟨_, ?_, hsim, hstep⟩
      have hsz : y'.cells.size = i.size := by simp at hlen; omega
      simp [Instr.storeAt, Instr.sureAddr, storeVar, sizeOf, typeInfo, hi, hsz, hr]
    · cases h
  · cases h

theorem ERs_append {es fs : List (V × V × Nat)} {M N : List MapEntry} (h : ERs ρ es M) (k : ERs ρ fs N) : ERs ρ (es ++ fs) (M ++ N) := by
  induction h with
  | nil => exact k
  | cons a _ ih => exact .cons a ih

theorem ERs_get {es : List (V × V × Nat)} {M : List MapEntry} (h : ERs ρ es M) : ∀ {i : Nat} {x}, es[i]? = some x → ∃ m, M[i]? = some m ∧ ER ρ x m := by
  induction h with
  | nil => intro i x h; simp at h
  | cons a _ ih =>
    intro i x h
    cases i with
    | zero => simp at h; subst h; exact ⟨_, rfl, a⟩
    | succ i => simpa using ih (by simpa using h)

theorem ERs_modify {es : List (V × V × Nat)} {M : List MapEntry} (h : ERs ρ es M) {f : V × V × Nat → V × V × Nat} {g : MapEntry → MapEntry} (hfg : ∀ x m, ER ρ x m → ER ρ (f x) (g m)) : ∀ i, ERs ρ (es.modify i f) (M.modify i g) := by
  induction h with
  | nil => intro i; cases i <;> exact .nil
  | cons a k ih =>
    intro i
    cases i with
    | zero => exact .cons (hfg _ _ a) k
    | succ i => exact .cons a (ih i)

theorem beq_bytes (a : ByteArray) : (a == a) = true := by
  obtain ⟨d⟩ := a
  exact beq_self_eq_true (α := Array UInt8) d

theorem cellEq_bits {k : CK} {x y : V} (h : cellEq k x y = some true) {x' y' : Value} (hx : VR ρ x x') (hy : VR ρ y y') (n : Nat) : x' = y' ∧ Instr.sameBits n y' x' = true := by
  unfold cellEq at h
  split at h
  · cases VR_bool hx; cases VR_bool hy
    simp only [Option.some.injEq, beq_iff_eq] at h; subst h
    exact ⟨rfl, by cases n <;> simp [Instr.sameBits]⟩
  · cases VR_int hx; cases VR_int hy
    split at h
    · rename_i hk; subst hk
      simp only [Option.some.injEq, beq_iff_eq] at h; subst h
      exact ⟨rfl, by cases n <;> simp [Instr.sameBits]⟩
    · cases h
  · rename_i a b
    cases VR_str hx; cases VR_str hy
    simp only [Option.some.injEq] at h
    have hab : a = b := by
      obtain ⟨a⟩ := a; obtain ⟨b⟩ := b
      have : (a == b) = true := h
      rw [eq_of_beq this]
    subst hab
    exact ⟨rfl, by cases n <;> simp [Instr.sameBits, beq_bytes]⟩
  · cases h

theorem cellsEq_bits : ∀ {ks : List CK} {xs ys : List V}, cellsEq ks xs ys = some true → ∀ {X Y : List Value}, VRs ρ xs X → VRs ρ ys Y → ∀ n, X = Y ∧ ((Y.zip X).all fun p => Instr.sameBits n p.1 p.2) = true
  | [], [], [], _, X, Y, hx, hy, n => by cases (show X = [] from hx); cases (show Y = [] from hy); exact ⟨rfl, rfl⟩
  | [], [], _ :: _, h, _, _, _, _, _ => by simp [cellsEq] at h
  | [], _ :: _, _, h, _, _, _, _, _ => by simp [cellsEq] at h
  | _ :: _, [], _, h, _, _, _, _, _ => by simp [cellsEq] at h
  | _ :: _, _ :: _, [], h, _, _, _, _, _ => by simp [cellsEq] at h
  | k :: ks, x :: xs, y :: ys, h, _, _, ⟨x', X, rfl, hx1, hx2⟩, ⟨y', Y, rfl, hy1, hy2⟩, n => by
    simp only [cellsEq, Option.bind_eq_some_iff] at h
    obtain ⟨c, hc, h⟩ := h
    cases c with
    | false => simp at h
    | true =>
      simp only [if_true] at h
      obtain ⟨h1, h2⟩ := cellEq_bits hc hx1 hy1 n
      obtain ⟨h3, h4⟩ := cellsEq_bits h hx2 hy2 n
      subst h1 h3
      exact ⟨rfl, by simp only [List.zip_cons_cons, List.all_cons, h2, h4, Bool.and_self]⟩

/-- Two keys that are the same are the same bit by bit. -/
theorem keyEq_bits {kt : KT} {x y : V} (h : keyEq kt x y = some true) {x' y' : Value} (hx : VR ρ x x') (hy : VR ρ y y') (n : Nat) : x' = y' ∧ Instr.sameBits (n + 1) y' x' = true := by
  unfold keyEq at h
  split at h
  · exact cellEq_bits h hx hy (n + 1)
  · obtain ⟨X, rfl, hX⟩ := hx
    obtain ⟨Y, rfl, hY⟩ := hy
    obtain ⟨h1, h2⟩ := cellsEq_bits h hX hY n
    have : X = Y := Array.ext' h1
    subst this
    exact ⟨rfl, by simp only [Instr.sameBits, beq_self_eq_true, Bool.true_and]; exact h2⟩
  · cases h

theorem findI_key {kt : KT} {k : V} : ∀ {es : List (V × V × Nat)} {i j : Nat} {v : V}, findI kt k es i = some (some (j, v)) → i ≤ j ∧ ∃ x b, es[j - i]? = some (x, v, b) ∧ keyEq kt k x = some true
  | [], i, j, v, h => by simp [findI] at h
  | (x, u, b) :: es, i, j, v, h => by
    simp only [findI, Option.bind_eq_some_iff] at h
    obtain ⟨c, hc, h⟩ := h
    cases c with
    | true =>
      simp only [if_true, Option.some.injEq, Prod.mk.injEq] at h
      obtain ⟨rfl, rfl⟩ := h
      exact ⟨Nat.le_refl _, x, b, by simp, hc⟩
    | false =>
      simp only [Bool.false_eq_true, if_false] at h
      obtain ⟨h1, x', b', h2, h3⟩ := findI_key h
      refine ⟨by omega, x', b', ?_, h3⟩
      rw [show j - i = (j - (i + 1)) + 1 from by omega]
      simpa using h2

theorem setObj_ok {b : Nat} {M : Array MapEntry} {cl : Nat} (h : w.heap[b]? = some (.map M cl)) (o : Obj) : (setObj b o).run P w = .ok () { w with heap := w.heap.setIfInBounds b o } := by
  simp [setObj, Sem.run, h]

theorem Sim.setMap (hs : Sim B ρ s w) {k : Nat} {p : Pl} {es es' : List (V × V × Nat)} {cl cl' : Nat} (hk : ρ k = some p) (ho : s.new k = some (.map es cl)) {M' : Array MapEntry}
    (hM : ERs ρ es' M'.toList) : Sim B ρ (s.set k (.map es' cl')) { w with heap := w.heap.setIfInBounds p.blk (.map M' cl') } ∧
      Step B ρ s w ρ (s.set k (.map es' cl')) { w with heap := w.heap.setIfInBounds p.blk (.map M' cl') } := by
  obtain ⟨hkn, hB, hlt⟩ := hs.dom k p hk
  refine ⟨hs.upd hk ho (by simp) (fun j hj => ?_) ⟨M', ?_, hM⟩, Step.upd hk ⟨rfl, rfl, rfl, by simp, fun j hj => ?_⟩ (by simp) (fun j hj => by simp only [Array.getElem?_setIfInBounds]; rw [if_neg (by omega)])⟩
  · simp only [Array.getElem?_setIfInBounds]; rw [if_neg (by omega)]
  · simp only [Array.getElem?_setIfInBounds]; simp [hlt]
  · simp only [Array.getElem?_setIfInBounds]; rw [if_neg (by omega)]

theorem mapSet_ok {t kt0 el : TypeId} {kt : KT} (hu : P.underlying t = some (.map kt0 el)) (hkt : ktOf P kt0 = some kt) (hs : Sim B ρ s w) {m k v : V} {m' k' v' : Value}
    (hm : VR ρ m m') (hk : VR ρ k k') (hv : VR ρ v v') {s' : St} (h : mapSetI kt m k v s = some s') :
    ∃ w', (Instr.mapUpdate t m' k' v').run P w = .ok () w' ∧ Sim B ρ s' w' ∧ Step B ρ s w ρ s' w' := by
  unfold mapSetI at h
  split at h
  · rename_i b
    split at h
    · rename_i es cl hnew
      split at h
      · cases h
      · rename_i hkk
        obtain ⟨c0, hc0⟩ : ∃ b, keyEq kt k k = some b := by
          cases h : keyEq kt k k with
          | none => simp [h] at hkk
          | some b => exact ⟨b, rfl⟩
        obtain ⟨blk, rfl, hp⟩ := hm
        simp only [mplace, Option.map_eq_some_iff] at hp
        obtain ⟨p, hρ, rfl⟩ := hp
        obtain ⟨M, hheap, hER⟩ := hs.obj b p _ hρ hnew
        simp only [Option.map_eq_some_iff] at h
        obtain ⟨r, hr, h⟩ := h
        obtain ⟨r', hf, hrr⟩ := findKey_ok hkt hk hER hr w
        have hg : (getObj p.blk).run P w = .ok (.map M cl) w := by simp [getObj, Sem.run, hheap]
        have hck := checkKey_ok (P := P) hkt hc0 hk false 9998 w
        cases r with
        | none =>
          cases r' with
          | some _ => exact hrr.elim
          | none =>
            simp only at h; subst h
            obtain ⟨h1, h2⟩ := hs.setMap (cl' := cl + 1) hρ hnew (es' := es ++ [(k, v, cl)]) (M' := M.push { key := k', val := v', born := cl })
              (by rw [Array.toList_push]; exact ERs_append hER (.cons ⟨hk, hv, rfl⟩ .nil))
            refine ⟨_, ?_, h1, h2⟩
            have hso := setObj_ok (P := P) hheap (.map (M.push { key := k', val := v', born := cl }) (cl + 1))
            simp only [Instr.mapUpdate, Sem.run_bind, run_underlying hu, Result.andThen_ok, hg, hck, hf, hso]
        | some r =>
          cases r' with
          | none => exact hrr.elim
          | some r' =>
            obtain ⟨j, u⟩ := r
            obtain ⟨j', u'⟩ := r'
            obtain ⟨rfl, _, hjlt⟩ := hrr
            simp only at h; subst h
            obtain ⟨_, x, bn, hx, hkx⟩ := findI_key hr
            simp only [Nat.sub_zero] at hx
            obtain ⟨me, hme, hxe⟩ := ERs_get hER hx
            have hme' : M[j]? = some me := by simpa using hme
            obtain ⟨heq, hbits⟩ := keyEq_bits hkx hk hxe.1 9999
            have hks : (Instr.keyThatStays me.key k').run P w = .ok k' w := by
              simp [Instr.keyThatStays, hbits]
            obtain ⟨h1, h2⟩ := hs.setMap (cl' := cl) hρ hnew (es' := es.modify j fun e => (k, v, e.2.2)) (M' := M.modify j fun e => { e with key := k', val := v' })
              (by rw [Array.toList_modify]; exact ERs_modify (f := fun e => (k, v, e.2.2)) (g := fun e => { e with key := k', val := v' }) hER (fun x m hm => ⟨hk, hv, hm.2.2⟩) j)
            refine ⟨_, ?_, h1, h2⟩
            have hso := setObj_ok (P := P) hheap (.map (M.modify j fun e => { e with key := k', val := v' }) cl)
            simp only [Instr.mapUpdate, Sem.run_bind, run_underlying hu, Result.andThen_ok, hg, hck, hf, hme', Option.map_some, Option.getD_some, hks, hso]
    · cases h
  · cases h

theorem ERs_born {es : List (V × V × Nat)} {M : List MapEntry} (h : ERs ρ es M) : es.map (·.2.2) = M.map (·.born) := by
  induction h with
  | nil => rfl
  | cons a _ ih => simp only [List.map_cons, ih, a.2.2]
theorem mapEnt_ok {t kt0 el : TypeId} {kt : KT} {z : Value} (hu : P.underlying t = some (.map kt0 el)) (hkt : ktOf P kt0 = some kt) (hz : ∀ w, (zeroValue el).run P w = .ok z w) (hs : Sim B ρ s w) {m k : V} {m' k' : Value}
    (hm : VR ρ m m') (hk : VR ρ k k') {v : V} {s' : St} (h : mapEntI kt (ofVal z) m k s = some (v, s')) :
    ∃ w' v', (Instr.mapEntry t m' k').run P w = .ok v' w' ∧ Sim B ρ s' w' ∧ Step B ρ s w ρ s' w' ∧ VR ρ v v' := by
  unfold mapEntI at h
  split at h
  · rename_i b
    split at h
    · rename_i es cl hnew
      split at h
      · cases h
      · rename_i hkk
        obtain ⟨c0, hc0⟩ : ∃ b, keyEq kt k k = some b := by
          cases h : keyEq kt k k with
          | none => simp [h] at hkk
          | some b => exact ⟨b, rfl⟩
        obtain ⟨blk, rfl, hp⟩ := hm
        simp only [mplace, Option.map_eq_some_iff] at hp
        obtain ⟨p, hρ, rfl⟩ := hp
        obtain ⟨M, hheap, hER⟩ := hs.obj b p _ hρ hnew
        simp only [Option.map_eq_some_iff] at h
        obtain ⟨r, hr, h⟩ := h
        obtain ⟨r', hf, hrr⟩ := findKey_ok hkt hk hER hr w
        have hg : (getObj p.blk).run P w = .ok (.map M cl) w := by simp [getObj, Sem.run, hheap]
        have hck := checkKey_ok (P := P) hkt hc0 hk false 9998 w
        cases r with
        | none =>
          cases r' with
          | some _ => exact hrr.elim
          | none =>
            simp only [Prod.mk.injEq] at h
            obtain ⟨rfl, rfl⟩ := h
            obtain ⟨h1, h2⟩ := hs.setMap (cl' := cl + 1) hρ hnew (es' := es ++ [(k, ofVal z, cl)]) (M' := M.push { key := k', val := z, born := cl })
              (by rw [Array.toList_push]; exact ERs_append hER (.cons ⟨hk, ofVal_VR ρ z, rfl⟩ .nil))
            have hso := setObj_ok (P := P) hheap (.map (M.push { key := k', val := z, born := cl }) (cl + 1))
            refine ⟨_, .tuple #[z, goInt cl], ?_, h1, h2, ⟨_, rfl, VRs_cons (ofVal_VR ρ z) (VRs_cons rfl VRs_nil)⟩⟩
            simp only [Instr.mapEntry, Sem.run_bind, run_underlying hu, Result.andThen_ok, hg, hck, hf, hz, hso, Sem.run_pure]
        | some r =>
          cases r' with
          | none => exact hrr.elim
          | some r' =>
            obtain ⟨j, u⟩ := r
            obtain ⟨j', u'⟩ := r'
            obtain ⟨rfl, huv, hjlt⟩ := hrr
            simp only [Prod.mk.injEq] at h
            obtain ⟨rfl, rfl⟩ := h
            obtain ⟨_, x, bn, hx, hkx⟩ := findI_key hr
            simp only [Nat.sub_zero] at hx
            obtain ⟨me, hme, hxe⟩ := ERs_get hER hx
            have hme' : M[j]? = some me := by simpa using hme
            obtain ⟨heq, hbits⟩ := keyEq_bits hkx hk hxe.1 9999
            have hks : (Instr.keyThatStays me.key k').run P w = .ok k' w := by
              simp [Instr.keyThatStays, hbits]
            obtain ⟨h1, h2⟩ := hs.setMap (cl' := cl) hρ hnew (es' := es.modify j fun e => (k, e.2.1, e.2.2)) (M' := M.modify j fun e => { e with key := k' })
              (by rw [Array.toList_modify]; exact ERs_modify (f := fun e => (k, e.2.1, e.2.2)) (g := fun e => { e with key := k' }) hER (fun x m hm => ⟨hk, hm.2.1, hm.2.2⟩) j)
            have hso := setObj_ok (P := P) hheap (.map (M.modify j fun e => { e with key := k' }) cl)
            refine ⟨_, .tuple #[u', goInt me.born], ?_, h1, h2, ⟨_, rfl, VRs_cons huv (VRs_cons ?_ VRs_nil)⟩⟩
            · simp only [Instr.mapEntry, Sem.run_bind, run_underlying hu, Result.andThen_ok, hg, hck, hf, hme', Option.map_some, Option.getD_some, hks, hso, Sem.run_pure]
            · rw [hx]
              show goInt me.born = _
              rw [Option.map_some, Option.getD_some, ← hxe.2.2]
              rfl
    · cases h
  · cases h

theorem entSet_ok {t : TypeId} (hs : Sim B ρ s w) {m st v : V} {m' st' v' : Value} (hm : VR ρ m m') (hst : VR ρ st st') (hv : VR ρ v v') {s' : St} (h : entSetI m st v s = some s') :
    ∃ w', (Instr.entryStore t m' st' v').run P w = .ok () w' ∧ Sim B ρ s' w' ∧ Step B ρ s w ρ s' w' := by
  unfold entSetI at h
  split at h
  · rename_i b kd born
    split at h
    · rename_i es cl hnew
      obtain ⟨blk, rfl, hp⟩ := hm
      simp only [mplace, Option.map_eq_some_iff] at hp
      obtain ⟨p, hρ, rfl⟩ := hp
      obtain ⟨M, hheap, hER⟩ := hs.obj b p _ hρ hnew
      simp only [Option.map_eq_some_iff] at h
      obtain ⟨i, hi, rfl⟩ := h
      have hst' : st' = .int kd born := hst
      subst hst'
      have hg : (getObj p.blk).run P w = .ok (.map M cl) w := by simp [getObj, Sem.run, hheap]
      have hfi : M.findIdx? (fun e => (e.born : Int) == born) = some i := by
        have e1 : es.findIdx? (fun e => (e.2.2 : Int) == born) = (es.map (·.2.2)).findIdx? (fun n : Nat => (n : Int) == born) := by rw [List.findIdx?_map]; rfl
        have e2 : M.findIdx? (fun e => (e.born : Int) == born) = (M.toList.map (·.born)).findIdx? (fun n : Nat => (n : Int) == born) := by rw [List.findIdx?_map, ← List.findIdx?_toArray]; rfl
        rw [e2, ← ERs_born hER, ← e1]; exact hi
      obtain ⟨h1, h2⟩ := hs.setMap (cl' := cl) hρ hnew (es' := es.modify i fun e => (e.1, v, e.2.2)) (M' := M.modify i fun e => { e with val := v' })
        (by rw [Array.toList_modify]; exact ERs_modify (f := fun e => (e.1, v, e.2.2)) (g := fun e => { e with val := v' }) hER (fun x m hm => ⟨hm.1, hv, hm.2.2⟩) i)
      have hso := setObj_ok (P := P) hheap (.map (M.modify i fun e => { e with val := v' }) cl)
      refine ⟨_, ?_, h1, h2⟩
      simp only [Instr.entryStore, asInt, asIntOf, Sem.run_bind, Result.andThen_ok, hg, Sem.run_pure, hfi, hso]
    · cases h
  · cases h

/-- The cells that are appended. -/
theorem newCells_ok (hs : Sim B ρ s w) {sz : Nat} {y : V} {y' : Value} {r : List V × Nat} (h : newCells s sz y = some r) (hy : VR ρ y y') :
    ∃ N : List Value, VRs ρ r.1 N ∧ N.length = r.2 * sz ∧ (∀ w, (Builtin.lenOf y').run P w = .ok r.2 w) ∧
      ∀ w', w'.heap = w.heap → (Builtin.firstCells sz r.2 y').run P w' = .ok N.toArray w' := by
  unfold newCells at h
  split at h
  · cases h
    obtain ⟨_, _, rfl⟩ := hy
    exact ⟨[], rfl, by simp, fun w => rfl, fun w' _ => by simp [Builtin.firstCells]⟩
  · rename_i ad n cp
    obtain ⟨c, cap, rfl, hlc, _, hpl, _⟩ := hy
    split at h
    · rename_i h0
      subst h0
      cases h
      exact ⟨[], rfl, by simp, fun w => rfl, fun w' _ => by simp [Builtin.firstCells, loadCells, loadCellsFrom]⟩
    · rename_i h0
      simp only [Option.map_eq_some_iff] at h
      obtain ⟨l, hl, rfl⟩ := h
      have hp := (hpl (by omega)).1
      obtain ⟨hlen, L, hL, hcell⟩ := hs.read hl hp
      have hLl := VRs_length hL
      refine ⟨L, hL, by simp only; omega, fun w => rfl, fun w' hw' => ?_⟩
      exact run_firstCells_some (P := P) w' sz n c n cap L (by omega) (fun j v hj => by
        have := hcell j v hj
        unfold World.cell? at this ⊢
        rw [hw']; exact this)
  · rename_i b
    split at h
    · rename_i h1
      cases h
      cases VR_str hy
      subst h1
      refine ⟨b.data.toList.map (fun x => Value.int .u8 x.toNat), ?_, ?_, fun w => rfl, fun w' _ => ?_⟩
      · refine VRs_iff.2 ⟨by simp, fun i x y hx hy => ?_⟩
        simp only [List.getElem?_map, Option.map_eq_some_iff] at hx hy
        obtain ⟨u, hu, rfl⟩ := hx
        obtain ⟨v, hv, rfl⟩ := hy
        rw [hu] at hv; cases hv
        rfl
      · rw [List.length_map, Array.length_toList, Nat.mul_one]; rfl
      · simp only [Builtin.firstCells, Sem.run_pure]
        congr 1
        apply Array.ext'
        have : (b.extract 0 b.size).data = b.data := by
          rw [ByteArray.data_extract]
          exact Array.extract_size
        simp [this]
    · cases h
  · cases h

theorem appendsT_ok {u : TypeId} (h : appendsT P u = true) : (∃ e, P.underlying u = some (.slice e)) ∨ P.underlying u = some .string := by
  unfold appendsT at h
  split at h
  · exact .inl ⟨_, by assumption⟩
  · exact .inr (by assumption)
  · cases h

/-- An append within the capacity. -/
theorem run_append_in {t u ty el : TypeId} {i : TypeInfo} (ht : P.underlying t = some (.slice el)) (hi : P.info? el = some i) (hu : appendsT P u = true) {y' : Value} {n : Nat} {N : List Value}
    (hlen : ∀ w, (Builtin.lenOf y').run P w = .ok n w) (hf : (Builtin.firstCells i.size n y').run P w = .ok N.toArray w) {base : Option Addr} {l c : Nat} (hfit : l + n ≤ c) {w1 : World}
    (hst : ∀ b, base = some b → (storeCells (b.add (l * i.size)) N).run P w = .ok () w1) (hb : base = none → w1 = w) :
    (Builtin.append_ #[t, u] ty #[.slice base l c, y']).run P w = .ok (.slice base (l + n) c) w1 := by
  rcases appendsT_ok hu with ⟨d, hd⟩ | hd <;> cases base with
  | none =>
    cases hb rfl
    simp [Builtin.append_, run_underlying ht, run_underlying hd, sizeOf, typeInfo, hi, hlen, hfit, hf]
  | some b =>
    simp [Builtin.append_, run_underlying ht, run_underlying hd, sizeOf, typeInfo, hi, hlen, hfit, hf, hst b rfl]

/-- An append that makes a new row. -/
theorem run_append_out {t u ty el : TypeId} {i : TypeInfo} {z : Value} (ht : P.underlying t = some (.slice el)) (hi : P.info? el = some i) (hz : i.zero = some z) (hu : appendsT P u = true) {y' : Value} {n : Nat} {N O : List Value}
    (hlen : ∀ w, (Builtin.lenOf y').run P w = .ok n w) (hf : ∀ w', w'.heap = w.heap → (Builtin.firstCells i.size n y').run P w' = .ok N.toArray w') {base : Option Addr} {l c : Nat} (hfit : c < l + n)
    (ho : ∀ w', w'.heap = w.heap → (Builtin.firstCells i.size l (.slice base l c)).run P w' = .ok O.toArray w') (h63 : l + n ≤ maxRow) (h48 : (l + n) * i.bytes ≤ maxRow) :
    ∃ C c', (Builtin.append_ #[t, u] ty #[.slice base l c, y']).run P w = .ok (.slice (some ⟨w.heap.size, 0, none⟩) (l + n) c') (w.drew.alloc (.cells (O ++ N ++ C).toArray el)) ∧
      l + n ≤ c' ∧ C.length = (c' - (l + n)) * z.cells.size := by
  unfold maxRow at h63 h48
  have hn : ¬ (l + n ≤ c) := by omega
  have h63' : ¬ (9223372036854775807 < ((l : Int) + (n : Int))) := by omega
  have hcap := nextslicecap_le hfit
  have h48' : ¬ (281474976710656 < Builtin.nextslicecap (l + n) c * i.bytes) := by
    have h1 : Builtin.nextslicecap (l + n) c * i.bytes ≤ 2 * (l + n) * i.bytes := Nat.mul_le_mul_right _ hcap
    have h2 : 2 * (l + n) * i.bytes = 2 * ((l + n) * i.bytes) := Nat.mul_assoc _ _ _
    omega
  have hf1 := hf w.drew rfl
  have ho1 := ho w.drew rfl
  refine ⟨(Builtin.zeroCells z.cells (grownCap w (l + n) c el - (l + n))).toList, grownCap w (l + n) c el, ?_, ?_, by simp [Builtin.zeroCells]⟩
  · rcases appendsT_ok hu with ⟨d, hd⟩ | hd
    all_goals
      simp [Builtin.append_, run_underlying ht, run_underlying hd, sizeOf, typeInfo, zeroValue, hi, hz, hlen, hn, h63', h48', Question.forced, hf1, ho1, newRow, grownCap]
      congr 2
      apply Array.ext'
      simp [List.append_assoc]
  · simp [grownCap, Question.cut]

theorem ObjR_grown {cs : List V} {L C : List Value} (h : VRs ρ cs L) (el : TypeId) (b sz : Nat) (h0 : 0 < sz) :
    ObjR ρ (.cells cs (some sz)) ⟨b, 0, sz, (L ++ C).length, none⟩ (some (.cells (L ++ C).toArray el)) := by
  have hl := VRs_length h
  refine ⟨_, el, rfl, by simp; omega, ?_, rfl, h0, by simp⟩
  simp only [List.drop_zero]
  rw [hl, List.take_left]
  exact h

/-- A new row that has come of an append. -/
theorem Sim.grown (hs : Sim B ρ s w) {cs : List V} {L C : List Value} (h : VRs ρ cs L) (el : TypeId) (sz : Nat) (h0 : 0 < sz) {l c' : Nat} (hl0 : 0 < l) (hc : l ≤ c') (hL : L.length = l * sz) (hC : C.length = (c' - l) * sz) :
    ∃ ρ', Sim B ρ' (s.alloc (.cells cs (some sz))) (w.drew.alloc (.cells (L ++ C).toArray el)) ∧ Step B ρ s w ρ' (s.alloc (.cells cs (some sz))) (w.drew.alloc (.cells (L ++ C).toArray el)) ∧
      VR ρ' (.slice (some ⟨.new s.next, 0⟩) l none) (.slice (some ⟨w.heap.size, 0, none⟩) l c') := by
  have hs' : Sim B ρ s w.drew := hs.heap rfl
  have ho := ObjR_grown (ρ := ρ) h (C := C) el w.heap.size sz h0
  have h1 := hs'.alloc (.cells cs (some sz)) (.cells (L ++ C).toArray el) ⟨w.heap.size, 0, sz, (L ++ C).length, none⟩ rfl ho
  have h2 := Step.alloc hs' (.cells cs (some sz)) (.cells (L ++ C).toArray el) ⟨w.heap.size, 0, sz, (L ++ C).length, none⟩ rfl
  refine ⟨_, h1, ⟨h2.le, ((Below.refl B w).drew).trans h2.below, h2.next, h2.old, h2.ghost, h2.keep, h2.size⟩, _, _, rfl, hc, fun m hm => by simp at hm, fun hc0 => ⟨?_, ?_⟩, ⟨⟨w.heap.size, 0 + 0, none⟩, by simp [place, Rn.put]⟩, fun _ _ => by omega⟩
  · simp [place, Rn.put]
  · intro _ p hp _
    simp only [Rn.put, if_true] at hp
    cases hp
    simp only [List.length_append, hL, hC, ← Nat.add_mul]
    rw [Nat.zero_add]
    have e : l + (c' - l) = c' := by omega
    rw [e]
    exact ⟨Nat.le_refl _, fun _ => Nat.le_refl _⟩

theorem new_regrow (s : St) (k : Nat) (o : O) (j : Nat) : ((s.kill k).alloc o).new j = if j = s.next then some o else if j = k then none else s.new j := rfl

/-- A row that has grown where it lay. -/
theorem Sim.regrow (hs : Sim B ρ s w) {k : Nat} {q : Pl} {cs new : List V} {sz : Nat} (hk : ρ k = some q) (ho : s.new k = some (.cells cs (some sz))) {N : List Value} (hN : VRs ρ new N)
    {C : Array Value} {el : TypeId} (hb : w.heap[q.blk]? = some (.cells C el (0, 0))) (hfit : q.off + cs.length + N.length ≤ C.size) :
    Sim B (ρ.put s.next ⟨q.blk, q.off, sz, q.cells, none⟩) ((s.kill k).alloc (.cells (cs ++ new) (some sz))) (w.setRow q.blk (C.toList.take (q.off + cs.length) ++ N ++ C.toList.drop (q.off + cs.length + N.length)).toArray) ∧
    Step B ρ s w (ρ.put s.next ⟨q.blk, q.off, sz, q.cells, none⟩) ((s.kill k).alloc (.cells (cs ++ new) (some sz))) (w.setRow q.blk (C.toList.take (q.off + cs.length) ++ N ++ C.toList.drop (q.off + cs.length + N.length)).toArray) := by
  have hn := hs.nextNone
  have hle := Rn.put_le (p := ⟨q.blk, q.off, sz, q.cells, none⟩) hn
  obtain ⟨hkn, hB, hlt⟩ := hs.dom k q hk
  obtain ⟨C1, el1, hb1, hsz1, hv1, hz1, hz2, hz3⟩ := hs.obj k q _ hk ho
  rw [hb] at hb1
  cases hb1
  have hcl : C.toList.length = C.size := by simp
  have hoth : ∀ j, j ≠ q.blk → (w.setRow q.blk (C.toList.take (q.off + cs.length) ++ N ++ C.toList.drop (q.off + cs.length + N.length)).toArray).heap[j]? = w.heap[j]? := fun j hj => setRow_other w q.blk j _ hj
  have hal : ∀ j, ((s.kill k).alloc (.cells (cs ++ new) (some sz))).new j ≠ none → j ≠ s.next → j ≠ k ∧ s.new j ≠ none ∧ ((s.kill k).alloc (.cells (cs ++ new) (some sz))).new j = s.new j := by
    intro j hj hjn
    rw [new_regrow] at hj ⊢
    rw [if_neg hjn] at hj ⊢
    by_cases hjk : j = k
    · rw [if_pos hjk] at hj; exact absurd rfl hj
    · rw [if_neg hjk] at hj ⊢; exact ⟨hjk, hj, rfl⟩
  refine ⟨⟨by simpa using hs.base, fun b o h => ?_, fun j p h => ?_, fun j p o h1 h2 => ?_, fun k1 k2 p1 p2 h1 h2 h3 h4 he => ?_, fun j hj => ?_⟩, hle, below_setRow (Below.refl B w) hB _, by simp [St.alloc, St.kill], rfl, fun j hj hjn => ?_, fun b hb' hnb => ⟨hoth b (fun e => hnb k q hk e.symm), fun j p h => by
    unfold Rn.put at h
    split at h
    · cases h; exact hnb k q hk
    · exact hnb j p h⟩, by simp⟩
  · obtain ⟨h1, h2⟩ := hs.old b o h
    exact ⟨h1, by rw [hoth b (by omega)]; exact h2⟩
  · unfold Rn.put at h
    split at h
    · cases h; rename_i e; subst e; exact ⟨by simp [St.alloc, St.kill], hB, by simpa using hlt⟩
    · obtain ⟨x, y, z⟩ := hs.dom j p h
      exact ⟨by simp only [St.alloc, St.kill]; omega, y, by simpa using z⟩
  · by_cases hj : j = s.next
    · subst hj
      simp only [Rn.put, if_true, Option.some.injEq] at h1; subst h1
      rw [new_regrow, if_pos rfl, Option.some.injEq] at h2; subst h2
      simp only
      rw [setRow_heap w q.blk C _ el (0, 0) hb]
      have hNl := VRs_length hN
      refine ⟨_, el, rfl, ?_, ?_, rfl, hz2, ?_⟩
      · simp only [List.size_toArray, List.length_append, List.length_take, List.length_drop, hcl]; omega
      · have e1 : ((C.toList.take (q.off + cs.length) ++ N ++ C.toList.drop (q.off + cs.length + N.length)).drop q.off).take (cs ++ new).length = (C.toList.drop q.off).take cs.length ++ N := by
          rw [List.append_assoc, List.drop_append_of_le_length (by simp only [List.length_take, hcl]; omega), List.drop_take, show q.off + cs.length - q.off = cs.length from by omega, ← List.append_assoc]
          have e2 : (cs ++ new).length = ((C.toList.drop q.off).take cs.length ++ N).length := by
            simp only [List.length_append, List.length_take, List.length_drop, hcl]; omega
          rw [e2, List.take_left]
        show VRs _ _ _
        simp only [List.toList_toArray]
        rw [e1]
        exact VRs_append (VRs_mono hle _ _ hv1) (VRs_mono hle _ _ hN)
      · simp only [List.size_toArray, List.length_append, List.length_take, List.length_drop, hcl]; omega
    · have h1' : ρ j = some p := by simpa [Rn.put, hj] using h1
      obtain ⟨hjk, hjn, heq⟩ := hal j (by rw [h2]; simp) hj
      rw [heq] at h2
      have hne : p.blk ≠ q.blk := fun he => hjk (hs.inj j k p q h1' hk hjn (by rw [ho]; simp) he)
      rw [hoth _ hne]
      exact ObjR_mono hle (hs.obj j p o h1' h2)
  · by_cases e1 : k1 = s.next <;> by_cases e2 : k2 = s.next
    · rw [e1, e2]
    · exfalso
      have h2' : ρ k2 = some p2 := by simpa [Rn.put, e2] using h2
      obtain ⟨hjk, hjn, _⟩ := hal k2 h4 e2
      simp only [Rn.put, e1, if_true, Option.some.injEq] at h1; subst h1
      exact hjk (hs.inj k2 k p2 q h2' hk hjn (by rw [ho]; simp) he.symm)
    · exfalso
      have h1' : ρ k1 = some p1 := by simpa [Rn.put, e1] using h1
      obtain ⟨hjk, hjn, _⟩ := hal k1 h3 e1
      simp only [Rn.put, e2, if_true, Option.some.injEq] at h2; subst h2
      exact hjk (hs.inj k1 k p1 q h1' hk hjn (by rw [ho]; simp) he)
    · have h1' : ρ k1 = some p1 := by simpa [Rn.put, e1] using h1
      have h2' : ρ k2 = some p2 := by simpa [Rn.put, e2] using h2
      exact hs.inj k1 k2 p1 p2 h1' h2' (hal k1 h3 e1).2.1 (hal k2 h4 e2).2.1 he
  · have hj' : s.next + 1 ≤ j := hj
    rw [new_regrow, if_neg (by omega)]
    split
    · rfl
    · exact hs.fresh j (by omega)
  · have h1 : j ≠ s.next := by omega
    have h2 : j ≠ k := by rintro rfl; rw [hk] at hjn; cases hjn
    exact ⟨by simp [Rn.put, h1, hjn], by rw [new_regrow, if_neg h1, if_neg h2]⟩

theorem newCells_len {sz : Nat} {y : V} {r : List V × Nat} (h : newCells s sz y = some r) : r.1.length = r.2 * sz := by
  unfold newCells at h
  split at h
  · cases h; simp
  · split at h
    · cases h; simp
    · simp only [Option.map_eq_some_iff] at h
      obtain ⟨l, hl, rfl⟩ := h
      unfold readCells at hl
      split at hl
      · exact (cut_some hl).2.2
      · cases hl
  · split at h
    · rename_i h1; cases h; subst h1; rw [List.length_map, Array.length_toList, Nat.mul_one]; rfl
    · cases h
  · cases h

/-- What an append of known cells does. -/
structure AppR (P : Program) (w : World) (t u ty el : TypeId) (i : TypeInfo) (z y' : Value) (n : Nat) (N : List Value) : Prop where
  in_ : ∀ {base : Option Addr} {l c : Nat}, l + n ≤ c → ∀ {w1 : World}, (∀ b, base = some b → (storeCells (b.add (l * i.size)) N).run P w = .ok () w1) → (base = none → w1 = w) →
    (Builtin.append_ #[t, u] ty #[.slice base l c, y']).run P w = .ok (.slice base (l + n) c) w1
  out : ∀ {base : Option Addr} {l c : Nat} {O : List Value}, c < l + n → (∀ w', w'.heap = w.heap → (Builtin.firstCells i.size l (.slice base l c)).run P w' = .ok O.toArray w') → l + n ≤ maxRow → (l + n) * i.bytes ≤ maxRow →
    ∃ C c', (Builtin.append_ #[t, u] ty #[.slice base l c, y']).run P w = .ok (.slice (some ⟨w.heap.size, 0, none⟩) (l + n) c') (w.drew.alloc (.cells (O ++ N ++ C).toArray el)) ∧
      l + n ≤ c' ∧ C.length = (c' - (l + n)) * z.cells.size

theorem appendC_ok {t u ty el : TypeId} {i : TypeInfo} {z : Value} (hzs : z.cells.size = i.size) (hs : Sim B ρ s w) {x : V} {x' y' : Value} (hx : VR ρ x x') {p : List V × Nat} {N : List Value} (hA : AppR P w t u ty el i z y' p.2 N) (hN : VRs ρ p.1 N) (hNl : N.length = p.2 * i.size) (hpl : p.1.length = p.2 * i.size)
    {v : V} {s' : St} (h : appendC i.size i.bytes x p s = some (v, s')) :
    ∃ ρ' w' v', (Builtin.append_ #[t, u] ty #[x', y']).run P w = .ok v' w' ∧ Sim B ρ' s' w' ∧ Step B ρ s w ρ' s' w' ∧ VR ρ' v v' := by
  unfold appendC at h
  split at h
  · -- a nil slice
    obtain ⟨_, _, rfl⟩ := hx
    split at h
    · rename_i h0
      cases h
      refine ⟨ρ, w, _, hA.in_ (by omega) (fun b hb => by cases hb) (fun _ => rfl), hs, Step.refl _ _ _ _, ?_⟩
      rw [h0]; exact ⟨rfl, rfl, rfl⟩
    · rename_i h0
      split at h
      · rename_i hc
        obtain ⟨hb, hm, hsz⟩ := hc
        cases h
        obtain ⟨C, c', hr, hcc, hC⟩ := hA.out (base := none) (l := 0) (c := 0) (O := []) (by omega) (fun w' _ => by simp [Builtin.firstCells]) (by simpa using hm) (by simpa using hb)
        simp only [Nat.zero_add, List.nil_append] at hr hcc hC
        obtain ⟨ρ', h1, h2, h3⟩ := hs.grown hN el i.size hsz (C := C) (by omega) hcc hNl (by rw [hC, hzs])
        exact ⟨ρ', _, _, hr, h1, h2, h3⟩
      · cases h
  · -- a slice whose capacity is known
    rename_i ad l cap
    obtain ⟨c, cap', rfl, hlc, hcap, hpl', ⟨cz, hcz⟩, hz5⟩ := hx
    have := hcap cap rfl
    subst this
    split at h
    · rename_i h0
      cases h
      refine ⟨ρ, w, _, hA.in_ (by omega) (w1 := w) (fun b hb => ?_) (fun _ => rfl), hs, Step.refl _ _ _ _, ?_⟩
      · have : N = [] := List.eq_nil_of_length_eq_zero (by rw [hNl, h0]; simp)
        subst this; rfl
      · rw [h0]; exact ⟨c, _, rfl, hlc, hcap, hpl', ⟨cz, hcz⟩, hz5⟩
    · rename_i h0
      split at h
      · rename_i hfit
        simp only [Option.map_eq_some_iff, Prod.mk.injEq] at h
        obtain ⟨s1, hw, rfl, rfl⟩ := h
        obtain ⟨hpc, hrc⟩ := hpl' (by omega)
        have hpo := place_off hpc (l * i.size)
        obtain ⟨C, el', hb, hsp, hfit', h1, hsim, hstep⟩ := hs.write hw hpo hN
        have hcs := place_spot hpc
        obtain ⟨cb, co, cs⟩ := c
        simp only at hcs; subst hcs
        rw [Addr.add_lit] at hb hfit' hsim hstep
        have hr := run_storeCells_at P cb (co + l * i.size) el' N 0 C w hb (by simpa using hfit') h1
        simp only [Nat.add_zero] at hr
        refine ⟨ρ, _, _, hA.in_ hfit (fun b hb => ?_) (fun hn => by cases hn), hsim, hstep, ?_⟩
        · cases hb; rw [Addr.add_lit]; exact hr
        · exact ⟨_, _, rfl, hfit, fun m hm => (Option.some.inj hm).symm, hpl', ⟨cz, hcz⟩, hz5⟩
      · rename_i hfit
        split at h
        · rename_i hc
          obtain ⟨hb, hm, hsz⟩ := hc
          simp only [Option.map_eq_some_iff, Prod.mk.injEq] at h
          obtain ⟨was, hwas, rfl, rfl⟩ := h
          have hold : ∃ O, VRs ρ was O ∧ O.length = l * i.size ∧ ∀ w', w'.heap = w.heap → (Builtin.firstCells i.size l (.slice (some c) l cap)).run P w' = .ok O.toArray w' := by
            rcases Nat.eq_zero_or_pos l with h00 | h00
            · subst h00
              have hl0 : was = [] := by
                have : was.length = 0 := by
                  unfold readCells at hwas
                  split at hwas
                  · have := (cut_some hwas).2.2; simpa using this
                  · cases hwas
                exact List.eq_nil_of_length_eq_zero this
              subst hl0
              exact ⟨[], rfl, by simp, fun w' _ => by simp [Builtin.firstCells, loadCells, loadCellsFrom]⟩
            · obtain ⟨hlw, L, hL, hcell⟩ := hs.read hwas (hpl' (by omega)).1
              have hLl := VRs_length hL
              refine ⟨L, hL, by omega, fun w' hw' => ?_⟩
              exact run_firstCells_some (P := P) w' i.size l c l cap L (by omega) (fun j v hj => by
                have := hcell j v hj
                unfold World.cell? at this ⊢
                rw [hw']; exact this)
          obtain ⟨O, hO, hOl, hof⟩ := hold
          obtain ⟨C, c', hr, hcc, hC⟩ := hA.out (base := some c) (l := l) (c := cap) (O := O) (by omega) hof hm hb
          obtain ⟨ρ', h1, h2, h3⟩ := hs.grown (VRs_append hO hN) el i.size hsz (C := C) (by omega) hcc (by simp [hOl, hNl, Nat.add_mul]) (by rw [hC, hzs])
          exact ⟨ρ', _, _, hr, h1, h2, h3⟩
        · cases h
  · -- a slice that goes on to its row's end
    rename_i ad l
    obtain ⟨c, cap', rfl, hlc, hcap, hpl', ⟨cz, hcz⟩, hz5⟩ := hx
    split at h
    · rename_i h0
      cases h
      refine ⟨ρ, w, _, hA.in_ (by omega) (w1 := w) (fun b hb => ?_) (fun _ => rfl), hs, Step.refl _ _ _ _, ?_⟩
      · have : N = [] := List.eq_nil_of_length_eq_zero (by rw [hNl, h0]; simp)
        subst this; rfl
      · rw [h0]; exact ⟨c, _, rfl, hlc, hcap, hpl', ⟨cz, hcz⟩, hz5⟩
    · rename_i h0
      split at h
      · cases h
      · rename_i k hid
        split at h
        · rename_i cs g hnew
          split at h
          · -- within what is known of the row
            rename_i hc
            obtain ⟨rfl, hoff, hin⟩ := hc
            have hz6 := hz5 rfl hoff
            simp only [Option.map_eq_some_iff, Prod.mk.injEq] at h
            obtain ⟨s1, hw, rfl, rfl⟩ := h
            obtain ⟨adi, ado⟩ := ad
            simp only at hid hoff
            subst hid hoff
            obtain ⟨hpc, hrc⟩ := hpl' (by omega)
            have hpc0 := hpc
            simp only [place, Option.map_eq_some_iff] at hpc0
            obtain ⟨q, hq, hqc⟩ := hpc0
            obtain ⟨C0, el0, hbq, hszq, hvq, hq1, hq2, hq3⟩ := hs.obj k q _ hq hnew
            obtain ⟨hr1, hr2⟩ := hrc rfl q hq (by omega)
            have hr2 := hr2 rfl
            have hfit : l + p.2 ≤ cap' := by
              have h5 : c.off = q.off := by rw [← hqc]; simp
              have h6 : (l + p.2) * i.size ≤ cap' * i.size := by rw [hq1] at hr2; omega
              exact Nat.le_of_mul_le_mul_right h6 hq2
            have hpo := place_off hpc (l * i.size)
            simp only [Nat.zero_add] at hpo
            obtain ⟨C, el', hb, hsp, hfit', h1, hsim, hstep⟩ := hs.write hw hpo hN
            have hcs := place_spot hpc
            obtain ⟨cb, co, cs'⟩ := c
            simp only at hcs; subst hcs
            rw [Addr.add_lit] at hb hfit' hsim hstep
            have hr := run_storeCells_at P cb (co + l * i.size) el' N 0 C w hb (by simpa using hfit') h1
            simp only [Nat.add_zero] at hr
            refine ⟨ρ, _, _, hA.in_ hfit (fun b hb => ?_) (fun hn => by cases hn), hsim, hstep, ?_⟩
            · cases hb; rw [Addr.add_lit]; exact hr
            · exact ⟨_, _, rfl, hfit, (fun m hm => by simp at hm), hpl', ⟨cz, hcz⟩, hz5⟩
          split at h
          · rename_i hnin hc
            obtain ⟨rfl, hoff, hlcs, hb, hm, hone⟩ := hc
            cases h
            obtain ⟨adi, ado⟩ := ad
            simp only at hid hoff
            subst hid hoff
            have hq : ∃ q, ρ k = some q := by
              simp only [place, Option.map_eq_some_iff] at hcz
              obtain ⟨q, h1, _⟩ := hcz
              exact ⟨q, h1⟩
            obtain ⟨q, hq⟩ := hq
            obtain ⟨C, el', hbq, hszq, hvq, hq1, hq2, hq3⟩ := hs.obj k q _ hq hnew
            by_cases hfit : l + p.2 ≤ cap'
            · obtain ⟨hpc, hrc⟩ := hpl' (by omega)
              simp only [place, hq, Option.map_some, Option.some.injEq] at hpc
              subst hpc
              obtain ⟨hr1, hr2⟩ := hrc rfl q hq (by omega)
              have hr2 := hr2 rfl
              simp only at hr1
              have hmul : (l + p.2) * i.size ≤ cap' * q.sz := by rw [hq1]; exact Nat.mul_le_mul_right _ hfit
              rw [Nat.add_mul] at hmul
              have hfitN : q.off + cs.length + N.length ≤ C.size := by omega
              obtain ⟨h1, h2⟩ := hs.regrow hq hnew hN hbq hfitN
              have hr := run_storeCells_at P q.blk (q.off + cs.length) el' N 0 C w hbq (by simpa using hfitN) (VRs_one hN hone)
              simp only [Nat.add_zero] at hr
              refine ⟨_, _, _, hA.in_ hfit (fun b hb => ?_) (fun hn => by cases hn), h1, h2, ?_⟩
              · cases hb; rw [Addr.add_lit, Nat.add_zero, hlcs]; exact hr
              · refine ⟨_, _, rfl, hfit, (fun m hm => by simp at hm), (fun _ => ⟨?_, ?_⟩), ⟨⟨q.blk, q.off + 0, none⟩, ?_⟩, fun _ _ => by omega⟩
                · simp [place, Rn.put]
                rotate_left
                · simp [place, Rn.put]
                intro _ p' hp' _
                simp only [Rn.put, if_true, Option.some.injEq] at hp'
                subst hp'
                simp only
                rw [← hq1]; exact ⟨hr1, fun _ => hr2⟩
            · have hold : ∃ O, VRs ρ cs O ∧ O.length = l * i.size ∧ ∀ w', w'.heap = w.heap → (Builtin.firstCells i.size l (.slice (some c) l cap')).run P w' = .ok O.toArray w' := by
                rcases Nat.eq_zero_or_pos l with h00 | h00
                · subst h00
                  have hl0 : cs = [] := List.eq_nil_of_length_eq_zero (by omega)
                  subst hl0
                  exact ⟨[], rfl, by simp, fun w' _ => by simp [Builtin.firstCells, loadCells, loadCellsFrom]⟩
                · have hrd : readCells s ⟨.new k, 0⟩ (l * i.size) = some cs := by
                    simp only [readCells, St.row, St.get, hnew, cut]
                    rw [hlcs]; simp
                  obtain ⟨hlw, L, hL, hcell⟩ := hs.read hrd (hpl' (by omega)).1
                  have hLl := VRs_length hL
                  refine ⟨L, hL, by omega, fun w' hw' => ?_⟩
                  exact run_firstCells_some (P := P) w' i.size l c l cap' L (by omega) (fun j v hj => by
                    have := hcell j v hj
                    unfold World.cell? at this ⊢
                    rw [hw']; exact this)
              obtain ⟨O, hO, hOl, hof⟩ := hold
              obtain ⟨C2, c', hr, hcc, hC⟩ := hA.out (base := some c) (l := l) (c := cap') (O := O) (by omega) hof hm hb
              obtain ⟨ρ', h1, h2, h3⟩ := (hs.kill (k := k)).grown (VRs_append hO hN) el i.size hq2 (C := C2) (by omega) hcc (by simp [hOl, hNl, Nat.add_mul]) (by rw [hC, hzs])
              refine ⟨ρ', _, _, hr, h1, ⟨h2.le, h2.below, h2.next, h2.old, fun j hj hjn => ?_, h2.keep, h2.size⟩, h3⟩
              obtain ⟨g1, g2⟩ := h2.ghost j hj hjn
              refine ⟨g1, g2.trans ?_⟩
              simp only [St.kill]
              rw [if_neg]
              rintro rfl
              rw [hq] at hjn; cases hjn
          · cases h
        · cases h
  · cases h


theorem append_ok {t u ty el : TypeId} {i : TypeInfo} {z : Value} (ht : P.underlying t = some (.slice el)) (hi : P.info? el = some i) (hz : i.zero = some z) (hzs : z.cells.size = i.size) (hu : appendsT P u = true)
    (hs : Sim B ρ s w) {x y : V} {x' y' : Value} (hx : VR ρ x x') (hy : VR ρ y y') {v : V} {s' : St} (h : appendI i.size i.bytes x y s = some (v, s')) :
    ∃ ρ' w' v', (Builtin.append_ #[t, u] ty #[x', y']).run P w = .ok v' w' ∧ Sim B ρ' s' w' ∧ Step B ρ s w ρ' s' w' ∧ VR ρ' v v' := by
  change (newCells s i.size y).bind (fun p => appendC i.size i.bytes x p s) = some (v, s') at h
  simp only [Option.bind_eq_some_iff] at h
  obtain ⟨p, hp, h⟩ := h
  obtain ⟨N, hN, hNl, hlen, hfirst⟩ := newCells_ok (P := P) hs hp hy
  refine appendC_ok (z := z) (el := el) hzs hs hx ⟨fun hfit _ hst hb => run_append_in ht hi hu hlen (hfirst w rfl) hfit hst hb, fun hfit ho h63 h48 => run_append_out ht hi hz hu hlen hfirst hfit ho h63 h48⟩ hN hNl (newCells_len hp) h

/-- So many zeros appended. -/
theorem wrap_n {n : Nat} (hn : n ≤ maxRow) : IntKind.i64.wrap (n : Int) = (n : Int) := by
  unfold maxRow at hn
  have := wrap_small (n : Int) (by omega) (by omega)
  exact this
theorem bytes_n {n b : Nat} (h : n * b ≤ maxRow) : ¬ (281474976710656 < (n : Int) * (b : Int)) := by
  unfold maxRow at h
  rw [← Int.natCast_mul]
  omega
theorem zeros_toArray {z : Value} (n : Nat) (hp : 0 < z.cells.size) : (Builtin.zeroCells z.cells n) = ((List.replicate n z.cells.toList).flatten).toArray := by
  have := zeroCells_flat z.cells n hp
  apply Array.ext'
  simpa [Builtin.zeroCells] using this
theorem run_zeros_in {t u ty el : TypeId} {i : TypeInfo} {z : Value} {k : IntKind} (ht : P.underlying t = some (.slice el)) (hi : P.info? el = some i) (hz : i.zero = some z) (hu : P.underlying u = some (.int k)) (hzs : z.cells.size = i.size) (hp : 0 < i.size) {kk : IntKind} {n : Nat}
    (hn : n ≤ maxRow) (hnb : n * i.bytes ≤ maxRow) {base : Option Addr} {l c : Nat} (hfit : l + n ≤ c) {w1 : World}
    (hst : ∀ b, base = some b → (storeCells (b.add (l * i.size)) (List.replicate n z.cells.toList).flatten).run P w = .ok () w1) (hb : base = none → w1 = w) :
    (Builtin.append_ #[t, u] ty #[.slice base l c, .int kk n]).run P w = .ok (.slice base (l + n) c) w1 := by
  have hw := wrap_n hn
  have h1 := bytes_n hnb
  have h2 : ¬ ((n : Int) < 0) := by omega
  have hz0 := zeros_toArray (z := z) n (by omega)
  rcases Nat.eq_zero_or_pos n with h0 | h0
  · subst h0
    have hw0 : IntKind.i64.wrap 0 = 0 := by simpa using hw
    have hfit0 : l ≤ c := by omega
    cases base with
    | none => cases hb rfl; simp [Builtin.append_, run_underlying ht, run_underlying hu, sizeOf, typeInfo, hi, asInt, asIntOf, hw0, hfit0]
    | some b =>
      have hs := hst b rfl
      simp at hs
      simp [Builtin.append_, run_underlying ht, run_underlying hu, sizeOf, typeInfo, hi, asInt, asIntOf, hw0, hfit0, hs]
  · have h3 : ¬ (n * i.size = 0) := by intro h; rcases Nat.mul_eq_zero.1 h with h | h <;> omega
    have h4 : ¬ (n = 0 ∨ i.size = 0) := by omega
    cases base with
    | none => cases hb rfl; simp [Builtin.append_, run_underlying ht, run_underlying hu, sizeOf, typeInfo, zeroValue, hi, hz, asInt, asIntOf, hw, h1, h2, h3, hfit, hz0]
    | some b => simp [Builtin.append_, run_underlying ht, run_underlying hu, sizeOf, typeInfo, zeroValue, hi, hz, asInt, asIntOf, hw, h1, h2, h3, hfit, hz0, hst b rfl]
theorem run_zeros_out {t u ty el : TypeId} {i : TypeInfo} {z : Value} {k : IntKind} (ht : P.underlying t = some (.slice el)) (hi : P.info? el = some i) (hz : i.zero = some z) (hu : P.underlying u = some (.int k)) (hzs : z.cells.size = i.size) (hp : 0 < i.size) {kk : IntKind} {n : Nat}
    (hn : n ≤ maxRow) (hnb : n * i.bytes ≤ maxRow) {base : Option Addr} {l c : Nat} {O : List Value} (hfit : c < l + n)
    (ho : ∀ w', w'.heap = w.heap → (Builtin.firstCells i.size l (.slice base l c)).run P w' = .ok O.toArray w') (h63 : l + n ≤ maxRow) (h48 : (l + n) * i.bytes ≤ maxRow) :
    ∃ C c', (Builtin.append_ #[t, u] ty #[.slice base l c, .int kk n]).run P w = .ok (.slice (some ⟨w.heap.size, 0, none⟩) (l + n) c') (w.drew.alloc (.cells (O ++ (List.replicate n z.cells.toList).flatten ++ C).toArray el)) ∧
      l + n ≤ c' ∧ C.length = (c' - (l + n)) * z.cells.size := by
  have hw := wrap_n hn
  have h1 := bytes_n hnb
  have h2 : ¬ ((n : Int) < 0) := by omega
  have hz0 := zeros_toArray (z := z) n (by omega)
  unfold maxRow at h63 h48
  have hnf : ¬ (l + n ≤ c) := by omega
  have h63' : ¬ (9223372036854775807 < ((l : Int) + (n : Int))) := by omega
  have hcap := nextslicecap_le hfit
  have h48' : ¬ (281474976710656 < Builtin.nextslicecap (l + n) c * i.bytes) := by
    have h1 : Builtin.nextslicecap (l + n) c * i.bytes ≤ 2 * (l + n) * i.bytes := Nat.mul_le_mul_right _ hcap
    have h2 : 2 * (l + n) * i.bytes = 2 * ((l + n) * i.bytes) := Nat.mul_assoc _ _ _
    omega
  have ho1 := ho w.drew rfl
  refine ⟨(Builtin.zeroCells z.cells (grownCap w (l + n) c el - (l + n))).toList, grownCap w (l + n) c el, ?_, ?_, by simp [Builtin.zeroCells]⟩
  · rcases Nat.eq_zero_or_pos n with h0 | h0
    · subst h0
      have hw0 : IntKind.i64.wrap 0 = 0 := by simpa using hw
      have h5 : ¬ (9223372036854775807 < (l : Int)) := by omega
      have h6 : ¬ (l ≤ c) := by omega
      have h7 : ¬ (281474976710656 < Builtin.nextslicecap l c * i.bytes) := h48'
      simp [Builtin.append_, run_underlying ht, run_underlying hu, sizeOf, typeInfo, zeroValue, hi, hz, asInt, asIntOf, hw0, h5, h6, h7, Question.forced, ho1, newRow, grownCap]
      congr 2
      apply Array.ext'
      simp
    · have h4 : ¬ (n * i.size = 0) := by intro h; rcases Nat.mul_eq_zero.1 h with h | h <;> omega
      simp [Builtin.append_, run_underlying ht, run_underlying hu, sizeOf, typeInfo, zeroValue, hi, hz, asInt, asIntOf, hw, h1, h2, h4, hnf, h63', h48', Question.forced, ho1, newRow, grownCap, hz0]
      congr 2
      apply Array.ext'
      simp [List.append_assoc]
  · simp [grownCap, Question.cut]

theorem appendZ_ok {t u ty el : TypeId} {i : TypeInfo} {z : Value} {k : IntKind} (ht : P.underlying t = some (.slice el)) (hi : P.info? el = some i) (hz : i.zero = some z) (hu : P.underlying u = some (.int k)) (hzs : z.cells.size = i.size) (hp : 0 < i.size)
    (hs : Sim B ρ s w) {x y : V} {x' y' : Value} (hx : VR ρ x x') (hy : VR ρ y y') {v : V} {s' : St} (h : appendZI i.size i.bytes (ofVals z.cells.toList) x y s = some (v, s')) :
    ∃ ρ' w' v', (Builtin.append_ #[t, u] ty #[x', y']).run P w = .ok v' w' ∧ Sim B ρ' s' w' ∧ Step B ρ s w ρ' s' w' ∧ VR ρ' v v' := by
  unfold appendZI at h
  simp only [Option.bind_eq_some_iff] at h
  obtain ⟨n, hn, h⟩ := h
  split at h
  · rename_i hc
    obtain ⟨k', j, hj, hj0, rfl⟩ := asNat_ok hn hy
    have hjn : j = ((j.toNat : Nat) : Int) := by omega
    have hzl : (ofVals z.cells.toList).length = i.size := by have := VRs_length (ofVals_VRs ρ z.cells.toList); rw [this]; simpa using hzs
    have hVz := VRs_zeros (ofVals_VRs ρ z.cells.toList) j.toNat
    have hl := VRs_length hVz
    have hNl : ((List.replicate j.toNat z.cells.toList).flatten).length = j.toNat * i.size := by simp [hzs]
    rw [hj, hjn]
    exact appendC_ok (z := z) (el := el) hzs hs hx ⟨fun hfit _ hst hb => run_zeros_in ht hi hz hu hzs hp hc.1 hc.2 hfit hst hb, fun hfit ho h63 h48 => run_zeros_out ht hi hz hu hzs hp hc.1 hc.2 hfit ho h63 h48⟩ hVz hNl (by rw [hl, hNl]) h
  · cases h

/-- A slice cleared. -/
theorem clear_ok {t el : TypeId} {i : TypeInfo} {z : Value} (ht : P.underlying t = some (.slice el)) (hi : P.info? el = some i) (hz : i.zero = some z) (hp : 0 < z.cells.size) {ty : TypeId}
    (hs : Sim B ρ s w) {x : V} {x' : Value} (hx : VR ρ x x') {s' : St} (h : clearI (ofVals z.cells.toList) x s = some s') :
    ∃ w', (Builtin.clear_ #[t] ty #[x']).run P w = .ok (.tuple #[]) w' ∧ Sim B ρ s' w' ∧ Step B ρ s w ρ s' w' := by
  unfold clearI at h
  split at h
  · rename_i ad c
    cases h
    have hx0 : ∃ b c', x' = .slice b 0 c' := by
      cases ad with
      | none => obtain ⟨_, _, rfl⟩ := hx; exact ⟨none, 0, rfl⟩
      | some ad => obtain ⟨b, c', rfl, _⟩ := hx; exact ⟨some b, c', rfl⟩
    obtain ⟨b, c', rfl⟩ := hx0
    refine ⟨w, ?_, hs, Step.refl _ _ _ _⟩
    cases b <;> simp [Builtin.clear_, run_underlying ht]
  · rename_i ad n c hn0
    obtain ⟨b, cap, rfl, hnc, _, hpl, _⟩ := hx
    have hn : 0 < n := by
      rcases Nat.eq_zero_or_pos n with h0 | h0
      · exact (hn0 h0).elim
      · exact h0
    have hpc := (hpl (by omega)).1
    have hVz := VRs_zeros (ofVals_VRs ρ z.cells.toList) n
    obtain ⟨C, el', hb, hsp, hfit', h1, hsim, hstep⟩ := hs.write h hpc hVz
    obtain ⟨cb, co, cs⟩ := b
    simp only at hsp hb hfit' hsim hstep
    subst hsp
    have hr := run_storeCells_at P cb co el' _ 0 C w hb (by simpa using hfit') h1
    simp only [Nat.add_zero] at hr
    refine ⟨_, ?_, hsim, hstep⟩
    obtain ⟨m, rfl⟩ : ∃ m, n = m + 1 := ⟨n - 1, by omega⟩
    simp [Builtin.clear_, run_underlying ht, zeroValue, typeInfo, hi, hz, zeros_toArray (z := z) (m + 1) hp, hr]
  · cases h

theorem run_newObj' (o : Obj) (w : World) : (newObj o).run P w = .ok w.heap.size (w.alloc o) := rfl
/-- An iterator over a map is made. -/
theorem iter_ok {t kt el : TypeId} (ht : P.underlying t = some (.map kt el)) (hs : Sim B ρ s w) {m : V} {m' : Value} (hm : VR ρ m m') {v : V} {s' : St} (h : iterI m s = some (v, s')) :
    ∃ ρ' w' v', (Instr.range t m').run P w = .ok v' w' ∧ Sim B ρ' s' w' ∧ Step B ρ s w ρ' s' w' ∧ VR ρ' v v' := by
  have mk : ∀ (i : Option Id) (m' : Option Nat) (c0 c1 : Nat), (match i with | none => m' = none | some i => ∃ b', m' = some b' ∧ mplace ρ i = some b') →
      ∃ ρ', Sim B ρ' (s.alloc (.iter i)) (w.alloc (.mapIter m' c0 #[] c1)) ∧ Step B ρ s w ρ' (s.alloc (.iter i)) (w.alloc (.mapIter m' c0 #[] c1)) ∧ VR ρ' (.ptr (some ⟨.new s.next, 0⟩)) (.pointer (some ⟨w.heap.size, 0, none⟩)) := by
    intro i m' c0 c1 hi
    have h1 := hs.alloc (.iter i) (.mapIter m' c0 #[] c1) ⟨w.heap.size, 0, 0, 0, none⟩ rfl ⟨rfl, m', c0, c1, rfl, hi⟩
    have h2 := Step.alloc hs (.iter i) (.mapIter m' c0 #[] c1) ⟨w.heap.size, 0, 0, 0, none⟩ rfl
    exact ⟨_, h1, h2, _, rfl, by simp [place, Rn.put]⟩
  unfold iterI at h
  split at h
  · cases h
    cases (show m' = .map none from hm)
    obtain ⟨ρ', h1, h2, h3⟩ := mk none none 0 0 rfl
    exact ⟨ρ', _, _, by simp only [Instr.range, Sem.run_bind, run_underlying ht, Result.andThen_ok, Sem.run_pure, run_newObj'], h1, h2, h3⟩
  · rename_i i
    split at h
    · rename_i es cl hg
      cases h
      obtain ⟨b, rfl, hp⟩ := hm
      obtain ⟨M, h1, h2⟩ := hs.map hg hp
      have hgo : (getObj b).run P w = .ok (.map M cl) w := by simp [getObj, Sem.run, h1]
      obtain ⟨ρ', k1, k2, k3⟩ := mk (some i) (some b) cl cl ⟨b, rfl, hp⟩
      refine ⟨ρ', _, _, ?_, k1, k2, k3⟩
      simp only [Instr.range, Sem.run_bind, run_underlying ht, Result.andThen_ok, Sem.run_pure, hgo, run_newObj']
    · cases h
  · cases h

/-- Its first step over an empty map. -/
theorem next_ok (hs : Sim B ρ s w) {x v : V} {x' : Value} (hx : VR ρ x x') (h : nextI x s = some v) {ty : TypeId} :
    ∃ v', (Instr.next x' false ty).run P w = .ok v' w ∧ VR ρ v v' := by
  unfold nextI at h
  split at h
  · rename_i k
    obtain ⟨c, rfl, hp⟩ := hx
    simp only [place, Option.map_eq_some_iff] at hp
    obtain ⟨p, hk, rfl⟩ := hp
    have key : ∀ i, s.new k = some (.iter i) → p.off = 0 := by
      intro i hi; exact (hs.obj k p _ hk hi).1
    split at h
    · rename_i hn
      cases h
      obtain ⟨_, m', since, c0, hb, rfl⟩ := hs.obj k p _ hk hn
      have hgo : (getObj p.blk).run P w = .ok (.mapIter none since #[] c0) w := by simp [getObj, Sem.run, hb]
      refine ⟨.tuple #[.bool false], ?_, ⟨_, rfl, VRs_cons rfl VRs_nil⟩⟩
      have := key _ hn
      simp [Instr.next, hgo, this]
    · rename_i i hn
      split at h
      · rename_i cl hg
        cases h
        obtain ⟨_, m', since, c0, hb, b', rfl, hp⟩ := hs.obj k p _ hk hn
        obtain ⟨M, h1, h2⟩ := hs.map hg hp
        have hM : M = #[] := by cases hM : M.toList with
          | nil => exact Array.ext' hM
          | cons a l => rw [hM] at h2; cases h2
        subst hM
        have hgo : (getObj p.blk).run P w = .ok (.mapIter (some b') since #[] c0) w := by simp [getObj, Sem.run, hb]
        have hgm : (getObj b').run P w = .ok (.map #[] cl) w := by simp [getObj, Sem.run, h1]
        refine ⟨.tuple #[.bool false], ?_, ⟨_, rfl, VRs_cons rfl VRs_nil⟩⟩
        have := key _ hn
        simp [Instr.next, hgo, hgm, this, Question.forced]
      · cases h
    · cases h
  · cases h

/-- What acts, and is no call. -/
theorem evalS_ok {o : Oper} {op : IOp} {v : V} {s' : St} (hc : compOp P o = some op) (hev : evalS op e s = some (v, s')) (he : VRs ρ e a.tmps.toList) (hs : Sim B ρ s w) :
    ActsOk P B ρ s w ((execOp a.eval o).run P w) v s' := by
  obtain ⟨dst, opp, ty, pos, after, guard⟩ := o
  cases opp with
  | store t x y =>
    simp only [compOp, Option.bind_eq_bind, Option.pure_def, Option.bind_eq_some_iff] at hc
    obtain ⟨n, hn, hc⟩ := hc
    cases hc
    simp only [evalS] at hev
    have hx := eval_VR he x
    have hy := eval_VR he y
    simp only [Option.map_eq_some_iff, Prod.mk.injEq] at hev
    obtain ⟨s1, hev, rfl, rfl⟩ := hev
    obtain ⟨w', h1, h2, h3⟩ := store_ok (P := P) hn hs hx hy hev
    exact ⟨ρ, w', h2, h3, .inr ⟨by simp [execOp, h1], rfl⟩⟩
  | mapEntry t m k =>
    simp only [compOp, Option.bind_eq_bind, Option.pure_def, Option.bind_eq_some_iff] at hc
    obtain ⟨⟨kt, el⟩, hm, k', hk', i, hi, z, hz, hc⟩ := hc
    cases hc
    simp only [evalS] at hev
    have zv : ∀ w, (zeroValue el).run P w = .ok z w := fun w => by simp [zeroValue, typeInfo, hi, hz]
    obtain ⟨w', v', h1, h2, h3, h4⟩ := mapEnt_ok (P := P) (mapOfT_ok hm) hk' zv hs (eval_VR he m) (eval_VR he k) hev
    exact ⟨ρ, w', h2, h3, .inl ⟨v', by simp [execOp, h1], h4⟩⟩
  | entryStore t m st u =>
    simp only [compOp] at hc
    cases hc
    simp only [evalS, Option.map_eq_some_iff, Prod.mk.injEq] at hev
    obtain ⟨s1, hev, rfl, rfl⟩ := hev
    obtain ⟨w', h1, h2, h3⟩ := entSet_ok (P := P) (t := t) hs (eval_VR he m) (eval_VR he st) (eval_VR he u) hev
    exact ⟨ρ, w', h2, h3, .inr ⟨by simp [execOp, h1], rfl⟩⟩
  | mapUpdate t m k u =>
    simp only [compOp, Option.bind_eq_bind, Option.pure_def, Option.bind_eq_some_iff] at hc
    obtain ⟨⟨kt, el⟩, hm, k', hk', hc⟩ := hc
    cases hc
    simp only [evalS, Option.map_eq_some_iff, Prod.mk.injEq] at hev
    obtain ⟨s1, hev, rfl, rfl⟩ := hev
    obtain ⟨w', h1, h2, h3⟩ := mapSet_ok (P := P) (mapOfT_ok hm) hk' hs (eval_VR he m) (eval_VR he k) (eval_VR he u) hev
    exact ⟨ρ, w', h2, h3, .inr ⟨by simp [execOp, h1], rfl⟩⟩
  | insert t m k u =>
    simp only [compOp, Option.bind_eq_bind, Option.pure_def, Option.bind_eq_some_iff] at hc
    obtain ⟨⟨kt, el⟩, hm, k', hk', hc⟩ := hc
    cases hc
    simp only [evalS, Option.map_eq_some_iff, Prod.mk.injEq] at hev
    obtain ⟨s1, hev, rfl, rfl⟩ := hev
    obtain ⟨w', h1, h2, h3⟩ := mapSet_ok (P := P) (mapOfT_ok hm) hk' hs (eval_VR he m) (eval_VR he k) (eval_VR he u) hev
    exact ⟨ρ, w', h2, h3, .inr ⟨by simp [execOp, h1], rfl⟩⟩
  | call c =>
    simp only [compOp] at hc
    unfold compCall at hc
    simp only at hc
    split at hc
    · split at hc
      · cases hc; simp [evalS] at hev
      · cases hc
    · cases hc; simp [evalS] at hev
    · split at hc
      · split at hc
        · cases hc; simp [evalS] at hev
        · cases hc; simp [evalS] at hev
        · cases hc; simp [evalS] at hev
        · cases hc
      · cases hc
    · rename_i hcal
      split at hc
      · rename_i t u x y hat hag
        have hargs : ∃ x1 y1, c.args = #[x1, y1] ∧ x = argOf x1 ∧ y = argOf y1 := by
          cases hl : c.args.toList with
          | nil => simp [hl] at hag
          | cons x1 r =>
            cases r with
            | nil => simp [hl] at hag
            | cons y1 r =>
              cases r with
              | nil => simp [hl] at hag; exact ⟨x1, y1, by rw [← Array.toArray_toList (xs := c.args), hl], hag.1.symm, hag.2.symm⟩
              | cons z zs => simp [hl] at hag
        obtain ⟨x1, y1, hargs, rfl, rfl⟩ := hargs
        have hat' : c.argTypes = #[t, u] := by rw [← Array.toArray_toList (xs := c.argTypes), hat]
        rcases compAppend_or hc with hc | hc
        · obtain ⟨el, i, z, hel, hi, hz, hzs, hu, rfl⟩ := compAppend_form hc
          simp only [evalS] at hev
          obtain ⟨ρ', w', v', h1, h2, h3, h4⟩ := append_ok (P := P) (ty := ty) hel hi hz hzs hu hs (eval_VR he x1) (eval_VR he y1) hev
          exact ⟨ρ', w', h2, h3, .inl ⟨v', by simp [execOp, resolve, hcal, invoke, builtin, hargs, hat', h1], h4⟩⟩
        · obtain ⟨el, i, z, k, hel, hi, hz, hu, hzs, hp, rfl⟩ := compAppendZ_form hc
          simp only [evalS] at hev
          obtain ⟨ρ', w', v', h1, h2, h3, h4⟩ := appendZ_ok (P := P) (ty := ty) hel hi hz hu hzs hp hs (eval_VR he x1) (eval_VR he y1) hev
          exact ⟨ρ', w', h2, h3, .inl ⟨v', by simp [execOp, resolve, hcal, invoke, builtin, hargs, hat', h1], h4⟩⟩
      · cases hc
    · split at hc
      · split at hc
        · cases hc; simp [evalS] at hev
        · cases hc
      · cases hc
    · rename_i hcal
      split at hc
      · rename_i t x hat hag
        obtain ⟨y, hy, rfl⟩ := args_one hag
        have hat' := types_one hat
        obtain ⟨el, i, z, hel, hi, hz, hp, rfl⟩ := compClear_form hc
        simp only [evalS, Option.map_eq_some_iff, Prod.mk.injEq] at hev
        obtain ⟨s1, hev, rfl, rfl⟩ := hev
        obtain ⟨w', h1, h2, h3⟩ := clear_ok (P := P) (ty := ty) hel hi hz hp hs (eval_VR he y) hev
        exact ⟨ρ, w', h2, h3, .inl ⟨.tuple #[], by simp [execOp, resolve, hcal, invoke, builtin, hy, hat', h1], trivial⟩⟩
      · cases hc
    · split at hc
      · cases hc; simp [evalS] at hev
      · cases hc
    · split at hc
      · cases hc; simp [evalS] at hev
      · cases hc
    · cases hc
  | range t x =>
    simp only [compOp] at hc
    split at hc
    · rename_i kt el hu
      cases hc
      simp only [evalS] at hev
      obtain ⟨ρ', w', v', h1, h2, h3, h4⟩ := iter_ok (P := P) hu hs (eval_VR he x) hev
      exact ⟨ρ', w', h2, h3, .inl ⟨v', by simp [execOp, h1], h4⟩⟩
    · cases hc
  | next it str =>
    simp only [compOp] at hc
    split at hc
    · cases hc
    · rename_i hstr
      cases hc
      simp only [evalS, Option.map_eq_some_iff, Prod.mk.injEq] at hev
      obtain ⟨v0, hev, rfl, rfl⟩ := hev
      obtain ⟨v', h1, h2⟩ := next_ok (P := P) (ty := ty) hs (eval_VR he it) hev
      have : str = false := by simpa using hstr
      subst this
      exact ⟨ρ, w, hs, Step.refl _ _ _ _, .inl ⟨v', by simp [execOp, h1], h2⟩⟩
  | load t x => simp only [compOp, Option.bind_eq_bind, Option.pure_def, Option.bind_eq_some_iff] at hc; obtain ⟨n, _, hc⟩ := hc; cases hc; simp [evalS] at hev
  | move x => simp only [compOp] at hc; cases hc; simp [evalS] at hev
  | assign x => simp only [compOp] at hc; cases hc; simp [evalS] at hev
  | pick c x y => simp only [compOp] at hc; cases hc; simp [evalS] at hev
  | nilCheck x => simp only [compOp] at hc; cases hc; simp [evalS] at hev
  | unOp op t x => simp only [compOp] at hc; cases hc; simp [evalS] at hev
  | extract x i => simp only [compOp] at hc; cases hc; simp [evalS] at hev
  | box t x => simp only [compOp] at hc; cases hc; simp [evalS] at hev
  | alloc t => simp only [compOp, Option.map_eq_some_iff] at hc; obtain ⟨n, _, rfl⟩ := hc; simp [evalS] at hev
  | build t parts =>
    simp only [compOp, Option.bind_eq_bind, Option.pure_def, Option.bind_eq_some_iff] at hc
    obtain ⟨_, _, _, _, _, _, hc⟩ := hc; cases hc; simp [evalS] at hev
  | buildSlice t len parts =>
    simp only [compOp, Option.bind_eq_bind, Option.pure_def, Option.bind_eq_some_iff] at hc
    obtain ⟨_, _, _, _, _, _, hc⟩ := hc
    split at hc
    · cases hc
    · simp only [Option.bind_eq_some_iff] at hc; obtain ⟨_, _, hc⟩ := hc; cases hc; simp [evalS] at hev
  | makeMap t r =>
    simp only [compOp] at hc
    split at hc
    · cases hc; simp [evalS] at hev
    · cases hc
  | makeSlice t l c =>
    simp only [compOp, Option.bind_eq_bind, Option.pure_def, Option.bind_eq_some_iff] at hc
    obtain ⟨_, _, _, _, _, _, hc⟩ := hc
    split at hc
    · cases hc
    · cases hc; simp [evalS] at hev
  | lookup t m k ok =>
    simp only [compOp, Option.bind_eq_bind, Option.pure_def, Option.bind_eq_some_iff] at hc
    obtain ⟨_, _, _, _, _, _, _, _, hc⟩ := hc
    cases hc; simp [evalS] at hev
  | binOp op t x y yt =>
    simp only [compOp, compBin] at hc
    split at hc
    · cases hc; simp [evalS] at hev
    · cases hc; simp [evalS] at hev
    · simp only [Option.map_eq_some_iff] at hc; obtain ⟨_, _, rfl⟩ := hc; simp [evalS] at hev
    · simp only [Option.map_eq_some_iff] at hc; obtain ⟨_, _, rfl⟩ := hc; simp [evalS] at hev
    · cases hc
  | convert t u x =>
    simp only [compOp] at hc
    split at hc
    · cases hc; simp [evalS] at hev
    · cases hc
  | makeFunc f p c =>
    simp only [compOp] at hc
    cases f <;> simp at hc
    obtain ⟨_, rfl⟩ := hc; simp [evalS] at hev
  | slice t x lo hi mx =>
    simp only [compOp] at hc
    split at hc
    · split at hc
      · cases hc
      · cases hc; simp [evalS] at hev
    · simp only [Option.map_eq_some_iff] at hc; obtain ⟨_, _, rfl⟩ := hc; simp [evalS] at hev
    · cases hc
  | fieldAddr t x i =>
    simp only [compOp, Option.bind_eq_bind, Option.pure_def, Option.bind_eq_some_iff] at hc
    obtain ⟨_, _, _, _, hc⟩ := hc
    split at hc
    · cases hc
    · cases hc; simp [evalS] at hev
  | field t x i =>
    simp only [compOp, Option.bind_eq_bind, Option.pure_def, Option.bind_eq_some_iff] at hc
    obtain ⟨_, _, _, _, hc⟩ := hc
    cases hc; simp [evalS] at hev
  | indexAddr t x i =>
    simp only [compOp, Option.bind_eq_bind, Option.pure_def, Option.bind_eq_some_iff] at hc
    obtain ⟨_, _, _, _, hc⟩ := hc
    cases hc; simp [evalS] at hev
  | index t x i =>
    simp only [compOp] at hc
    split at hc
    · cases hc; simp [evalS] at hev
    · cases hc
  | _ => simp [compOp] at hc
end
end Go.IM
