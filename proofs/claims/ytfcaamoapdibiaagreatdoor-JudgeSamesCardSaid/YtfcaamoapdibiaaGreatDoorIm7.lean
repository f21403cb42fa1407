/- Looking; making; acting. -/
import Derived.Test.YtfcaamoapdibiaaGreatDoorIm6
set_option linter.unusedSimpArgs false
set_option linter.unusedVariables false
namespace Go.IM
open Go.RowKit (Below)
section
variable {P : Program} {B : Nat} {ρ : Rn} {s : St} {w : World} {a : Act} {e : Env}

/-- A map that is looked into. -/
theorem Sim.map (hs : Sim B ρ s w) {i : Id} {es : List (V × V × Nat)} {cl : Nat} (h : s.get i = some (.map es cl)) {b : Nat} (hp : mplace ρ i = some b) :
    ∃ M, w.heap[b]? = some (.map M cl) ∧ ERs ρ es M.toList := by
  cases i with
  | old k =>
    cases hp
    obtain ⟨_, M, h1, h2⟩ := hs.old _ _ h
    exact ⟨M, h1, ERs_mono (none0_le ρ) h2⟩
  | new k =>
    simp only [mplace, Option.map_eq_some_iff] at hp
    obtain ⟨p, hk, rfl⟩ := hp
    obtain ⟨M, h1, h2⟩ := hs.obj k p _ hk h
    exact ⟨M, h1, h2⟩

theorem evalLook_ok {o : Oper} {op : IOp} {v : V} (hc : compOp P o = some op) (hev : evalLook op e s = some v) (he : VRs ρ e a.tmps.toList) (hs : Sim B ρ s w) :
    ∃ v', (execOp a.eval o).run P w = .ok (.value v') w ∧ VR ρ v v' := by
  obtain ⟨dst, opp, ty, pos, after, guard⟩ := o
  cases opp with
  | load t x =>
    simp only [compOp, Option.bind_eq_bind, Option.pure_def, Option.bind_eq_some_iff] at hc
    obtain ⟨n, hn, hc⟩ := hc
    cases hc
    simp only [evalLook] at hev
    have hx := eval_VR he x
    split at hev
    · rename_i ad had
      rw [had] at hx
      obtain ⟨c, hxe, hp⟩ := hx
      simp only [Option.bind_eq_some_iff] at hev
      obtain ⟨l, hl, hv⟩ := hev
      obtain ⟨v', h1, h2⟩ := run_loadVar_ok hn hs hl hv hp
      exact ⟨v', by simp [execOp, hxe, Instr.loadAt, Instr.sureAddr, h1], h2⟩
    · cases hev
  | lookup t m k ok =>
    simp only [compOp, Option.bind_eq_bind, Option.pure_def, Option.bind_eq_some_iff] at hc
    obtain ⟨⟨kt, el⟩, hm, k', hk', i, hi, z, hz, hc⟩ := hc
    have hu := mapOfT_ok hm
    cases hc
    simp only [evalLook] at hev
    have hmv := eval_VR he m
    have hkv := eval_VR he k
    have zv : ∀ w, (zeroValue el).run P w = .ok z w := fun w => by simp [zeroValue, typeInfo, hi, hz]
    unfold lookupI at hev
    simp only [Option.bind_eq_some_iff] at hev
    obtain ⟨es, hes, hev⟩ := hev
    split at hev
    · cases hev
    · rename_i hkk
      simp only [Option.bind_eq_some_iff] at hev
      obtain ⟨r, hr, hev⟩ := hev
      have hself : ∃ b, keyEq k' (ev e (argOf k)) (ev e (argOf k)) = some b := by
        cases h : keyEq k' (ev e (argOf k)) (ev e (argOf k)) with
        | none => simp [h] at hkk
        | some b => exact ⟨b, rfl⟩
      obtain ⟨b0, hb0⟩ := hself
      have hM : ∃ M : Array MapEntry, ERs ρ es M.toList ∧ ((a.eval m = .map none ∧ M = #[]) ∨ ∃ b cl, a.eval m = .map (some b) ∧ w.heap[b]? = some (.map M cl)) := by
        split at hes
        · rename_i had
          rw [had] at hmv
          cases hes
          exact ⟨#[], .nil, .inl ⟨hmv, rfl⟩⟩
        · rename_i id had
          rw [had] at hmv
          obtain ⟨b, hme, hp⟩ := hmv
          split at hes
          · rename_i cl hget
            cases hes
            obtain ⟨M, h1, h2⟩ := hs.map hget hp
            exact ⟨M, h2, .inr ⟨b, _, hme, h1⟩⟩
          · cases hes
        · cases hes
      obtain ⟨M, hER, hME⟩ := hM
      obtain ⟨r', hf, hrr⟩ := findKey_ok hk' hkv hER hr w
      have hck : ∀ em, (Instr.checkKey em 10000 kt (a.eval k)).run P w = .ok () w := fun em => checkKey_ok hk' hb0 hkv em 9998 w
      have hfin : ∃ x y, (match r' with | some (_, v) => (v, true) | none => (z, false)) = (x, y) ∧ VR ρ v (if ok then .tuple #[x, .bool y] else x) := by
        cases r with
        | none =>
          cases r' with
          | none =>
            refine ⟨z, false, rfl, ?_⟩
            cases ok
            · simp only [Bool.false_eq_true, if_false, Option.some.injEq] at hev ⊢; subst hev; exact ofVal_VR ρ z
            · simp only [if_true, Option.some.injEq] at hev ⊢; subst hev; exact ⟨_, rfl, VRs_cons (ofVal_VR ρ z) (VRs_cons rfl VRs_nil)⟩
          | some r' => exact hrr.elim
        | some r =>
          cases r' with
          | none => exact hrr.elim
          | some r' =>
            refine ⟨r'.2, true, rfl, ?_⟩
            cases ok
            · simp only [Bool.false_eq_true, if_false, Option.some.injEq] at hev ⊢; subst hev; exact hrr.2.1
            · simp only [if_true, Option.some.injEq] at hev ⊢; subst hev; exact ⟨_, rfl, VRs_cons hrr.2.1 (VRs_cons rfl VRs_nil)⟩
      obtain ⟨x, y, hxy, hv⟩ := hfin
      refine ⟨_, ?_, hv⟩
      rcases hME with ⟨h1, rfl⟩ | ⟨b, cl, h1, h2⟩
      · simp only [execOp, h1, Instr.lookup, Sem.run_bind, run_underlying hu, Result.andThen_ok, Sem.run_pure, hck, hf]
        cases r' with
        | none => simp only [Sem.run_bind, zv, Result.andThen_ok, Sem.run_pure]; cases hxy; cases ok <;> rfl
        | some r' => simp only [Sem.run_pure, Result.andThen_ok]; cases hxy; cases ok <;> rfl
      · have hg : (getObj b).run P w = .ok (.map M cl) w := by simp [getObj, Sem.run, h2]
        simp only [execOp, h1, Instr.lookup, Sem.run_bind, run_underlying hu, Result.andThen_ok, Sem.run_pure, hck, hf, hg]
        cases r' with
        | none => simp only [Sem.run_bind, zv, Result.andThen_ok, Sem.run_pure]; cases hxy; cases ok <;> rfl
        | some r' => simp only [Sem.run_pure, Result.andThen_ok]; cases hxy; cases ok <;> rfl
  | call c =>
    simp only [compOp] at hc
    unfold compCall at hc
    simp only at hc
    split at hc
    · split at hc
      · cases hc; simp [evalLook] at hev
      · cases hc
    · cases hc; simp [evalLook] at hev
    · rename_i hcal
      split at hc
      · rename_i t x hat hag
        have hargs : ∃ y, c.args = #[y] ∧ x = argOf y := by
          cases hl : c.args.toList with
          | nil => simp [hl] at hag
          | cons y ys =>
            cases ys with
            | nil => simp [hl] at hag; exact ⟨y, by rw [← Array.toArray_toList (xs := c.args), hl], hag.symm⟩
            | cons z zs => simp [hl] at hag
        obtain ⟨y, hy, rfl⟩ := hargs
        have hat' : c.argTypes = #[t] := by rw [← Array.toArray_toList (xs := c.argTypes), hat]
        have hx := eval_VR he y
        split at hc
        · cases hc; simp [evalLook] at hev
        · cases hc; simp [evalLook] at hev
        · rename_i kt el hu
          cases hc
          simp only [evalLook, lenMapI] at hev
          split at hev
          · rename_i had
            rw [had] at hx
            cases hev
            exact ⟨.int .i64 0, by simp [execOp, resolve, hcal, invoke, builtin, hy, hat', Builtin.len_, run_underlying hu, (show a.eval y = .map none from hx), goInt], rfl⟩
          · rename_i id had
            rw [had] at hx
            obtain ⟨b, hxe, hp⟩ := hx
            split at hev
            · rename_i es cl hget
              cases hev
              obtain ⟨M, h1, h2⟩ := hs.map hget hp
              have hg : (getObj b).run P w = .ok (.map M cl) w := by simp [getObj, Sem.run, h1]
              have hl := ERs_length h2
              refine ⟨.int .i64 es.length, ?_, rfl⟩
              simp [execOp, resolve, hcal, invoke, builtin, hy, hat', Builtin.len_, run_underlying hu, hxe, hg, goInt, hl]
            · cases hev
          · cases hev
        · cases hc
      · cases hc
    · split at hc
      · rcases compAppend_or hc with hc | hc
        · obtain ⟨_, _, _, _, _, _, _, _, rfl⟩ := compAppend_form hc; simp [evalLook] at hev
        · obtain ⟨_, _, _, _, _, _, _, _, _, _, rfl⟩ := compAppendZ_form hc; simp [evalLook] at hev
      · cases hc
    · split at hc
      · split at hc
        · cases hc; simp [evalLook] at hev
        · cases hc
      · cases hc
    · split at hc
      · obtain ⟨_, _, _, _, _, _, _, rfl⟩ := compClear_form hc; simp [evalLook] at hev
      · cases hc
    · split at hc
      · cases hc; simp [evalLook] at hev
      · cases hc
    · split at hc
      · cases hc; simp [evalLook] at hev
      · cases hc
    · cases hc
  | move x => simp only [compOp] at hc; cases hc; simp [evalLook] at hev
  | assign x => simp only [compOp] at hc; cases hc; simp [evalLook] at hev
  | pick c x y => simp only [compOp] at hc; cases hc; simp [evalLook] at hev
  | nilCheck x => simp only [compOp] at hc; cases hc; simp [evalLook] at hev
  | unOp op t x => simp only [compOp] at hc; cases hc; simp [evalLook] at hev
  | extract x i => simp only [compOp] at hc; cases hc; simp [evalLook] at hev
  | box t x => simp only [compOp] at hc; cases hc; simp [evalLook] at hev
  | alloc t => simp only [compOp, Option.map_eq_some_iff] at hc; obtain ⟨n, _, rfl⟩ := hc; simp [evalLook] at hev
  | store t x y => simp only [compOp, Option.bind_eq_bind, Option.pure_def, Option.bind_eq_some_iff] at hc; obtain ⟨n, _, hc⟩ := hc; cases hc; simp [evalLook] at hev
  | build t parts =>
    simp only [compOp, Option.bind_eq_bind, Option.pure_def, Option.bind_eq_some_iff] at hc
    obtain ⟨_, _, _, _, _, _, hc⟩ := hc; cases hc; simp [evalLook] at hev
  | buildSlice t len parts =>
    simp only [compOp, Option.bind_eq_bind, Option.pure_def, Option.bind_eq_some_iff] at hc
    obtain ⟨_, _, _, _, _, _, hc⟩ := hc
    split at hc
    · cases hc
    · simp only [Option.bind_eq_some_iff] at hc; obtain ⟨_, _, hc⟩ := hc; cases hc; simp [evalLook] at hev
  | makeMap t r =>
    simp only [compOp] at hc
    split at hc
    · cases hc; simp [evalLook] at hev
    · cases hc
  | makeSlice t l c =>
    simp only [compOp, Option.bind_eq_bind, Option.pure_def, Option.bind_eq_some_iff] at hc
    obtain ⟨_, _, _, _, _, _, hc⟩ := hc
    split at hc
    · cases hc
    · cases hc; simp [evalLook] at hev
  | mapEntry t m k =>
    simp only [compOp, Option.bind_eq_bind, Option.pure_def, Option.bind_eq_some_iff] at hc
    obtain ⟨_, _, _, _, _, _, _, _, hc⟩ := hc
    cases hc; simp [evalLook] at hev
  | entryStore t m st v => simp only [compOp] at hc; cases hc; simp [evalLook] at hev
  | mapUpdate t m k v =>
    simp only [compOp, Option.bind_eq_bind, Option.pure_def, Option.bind_eq_some_iff] at hc
    obtain ⟨_, _, _, _, hc⟩ := hc
    cases hc; simp [evalLook] at hev
  | insert t m k v =>
    simp only [compOp, Option.bind_eq_bind, Option.pure_def, Option.bind_eq_some_iff] at hc
    obtain ⟨_, _, _, _, hc⟩ := hc
    cases hc; simp [evalLook] at hev
  | binOp op t x y yt =>
    simp only [compOp, compBin] at hc
    split at hc
    · cases hc; simp [evalLook] at hev
    · cases hc; simp [evalLook] at hev
    · simp only [Option.map_eq_some_iff] at hc; obtain ⟨_, _, rfl⟩ := hc; simp [evalLook] at hev
    · simp only [Option.map_eq_some_iff] at hc; obtain ⟨_, _, rfl⟩ := hc; simp [evalLook] at hev
    · cases hc
  | convert t u x =>
    simp only [compOp] at hc
    split at hc
    · cases hc; simp [evalLook] at hev
    · cases hc
  | makeFunc f p c =>
    simp only [compOp] at hc
    cases f <;> simp at hc
    obtain ⟨_, rfl⟩ := hc; simp [evalLook] at hev
  | slice t x lo hi mx =>
    simp only [compOp] at hc
    split at hc
    · split at hc
      · cases hc
      · cases hc; simp [evalLook] at hev
    · simp only [Option.map_eq_some_iff] at hc; obtain ⟨_, _, rfl⟩ := hc; simp [evalLook] at hev
    · cases hc
  | fieldAddr t x i =>
    simp only [compOp, Option.bind_eq_bind, Option.pure_def, Option.bind_eq_some_iff] at hc
    obtain ⟨_, _, _, _, hc⟩ := hc
    split at hc
    · cases hc
    · cases hc; simp [evalLook] at hev
  | field t x i =>
    simp only [compOp, Option.bind_eq_bind, Option.pure_def, Option.bind_eq_some_iff] at hc
    obtain ⟨_, _, _, _, hc⟩ := hc
    cases hc; simp [evalLook] at hev
  | indexAddr t x i =>
    simp only [compOp, Option.bind_eq_bind, Option.pure_def, Option.bind_eq_some_iff] at hc
    obtain ⟨_, _, _, _, hc⟩ := hc
    cases hc; simp [evalLook] at hev
  | index t x i =>
    simp only [compOp] at hc
    split at hc
    · cases hc; simp [evalLook] at hev
    · cases hc
  | range t x =>
    simp only [compOp] at hc
    split at hc
    · cases hc; simp [evalLook] at hev
    · cases hc
  | next it str =>
    simp only [compOp] at hc
    split at hc
    · cases hc
    · cases hc; simp [evalLook] at hev
  | _ => simp [compOp] at hc

/-- What an object's maker gives, whatever its number: the value, and that it stands for the machine's. -/
def MadeR (f : Nat → V) (mk : Nat → Value) : Prop := ∀ (ρ : Rn) k p, ρ k = some p → p.off = 0 → p.sz = 0 → VR ρ (f k) (mk p.blk)

theorem made_ptr : MadeR (fun k => .ptr (some ⟨.new k, 0⟩)) (fun b => .pointer (some ⟨b, 0, none⟩)) := by
  intro ρ k p h h0 _
  exact ⟨_, rfl, by simp [place, h, h0]⟩
theorem made_slice (l c : Nat) (h : l ≤ c) : MadeR (fun k => .slice (some ⟨.new k, 0⟩) l (some c)) (fun b => .slice (some ⟨b, 0, none⟩) l c) := by
  intro ρ k p hk h0 hz
  refine ⟨_, _, rfl, h, fun m hm => (Option.some.inj hm).symm, fun _ => ⟨by simp [place, hk, h0], ?_⟩, ⟨⟨p.blk, p.off + 0, none⟩, by simp [place, hk]⟩, fun h => by cases h⟩
  intro _ q hq hz'
  rw [hk] at hq; cases hq
  omega
theorem made_map : MadeR (fun k => .map (some (.new k))) (fun b => .map (some b)) := by
  intro ρ k p h _ _
  exact ⟨_, rfl, by simp [mplace, h]⟩

theorem ObjR_row {cs : List V} {C : Array Value} (h : VRs ρ cs C.toList) (el : TypeId) (b c : Nat) : ObjR ρ (.cells cs none) ⟨b, 0, 0, c, none⟩ (some (.cells C el)) := by
  have hl := VRs_length h
  refine ⟨C, el, rfl, by simp at hl ⊢; omega, ?_, rfl⟩
  rw [List.drop_zero, hl, List.take_length]
  exact h

theorem VRs_zeros {z : List V} {Z : List Value} (h : VRs ρ z Z) : ∀ n, VRs ρ (zeros z n) ((List.replicate n Z).flatten)
  | 0 => rfl
  | n + 1 => by
    simp only [zeros, List.replicate_succ, List.flatten_cons]
    exact VRs_append h (VRs_zeros h n)

theorem flat_getElem (Z : List Value) (hz : 0 < Z.length) : ∀ (n i : Nat), i < n * Z.length → ((List.replicate n Z).flatten)[i]? = Z[i % Z.length]?
  | 0, i, h => by simp at h
  | n + 1, i, h => by
    simp only [List.replicate_succ, List.flatten_cons]
    by_cases hi : i < Z.length
    · rw [List.getElem?_append_left hi, Nat.mod_eq_of_lt hi]
    · rw [List.getElem?_append_right (by omega), flat_getElem Z hz n _ (by rw [Nat.add_mul] at h; omega)]
      congr 1
      exact (Nat.mod_eq_sub_mod (by omega)).symm

/-- The zero cells as Go lays them. -/
theorem zeroCells_flat (Z : Array Value) (n : Nat) (hz : 0 < Z.size) : ((Array.range (n * Z.size)).map (Z[· % Z.size]!)).toList = (List.replicate n Z.toList).flatten := by
  apply List.ext_getElem?
  intro i
  by_cases hi : i < n * Z.size
  · rw [flat_getElem Z.toList (by simpa using hz) n i (by simpa using hi)]
    have hm : i % Z.size < Z.size := Nat.mod_lt _ hz
    simp [hi, hm, getElem!_pos]
  · rw [List.getElem?_eq_none (by simp; omega), List.getElem?_eq_none (by simp; omega)]


theorem run_newRow' (el : TypeId) (C : Array Value) (w : World) : (newRow el C).run P w = .ok ⟨w.heap.size, 0, none⟩ (w.alloc (.cells C el)) := rfl

theorem fillI_one : ∀ {ps : List (Nat × Nat × Arg)} {cells out : List V}, fillI e cells ps = some out → out.length = cells.length
  | [], cells, out, h => by simp only [fillI, Option.some.injEq] at h; rw [h]
  | (off, size, x) :: ps, cells, out, h => by
    simp only [fillI] at h
    split at h
    · rename_i hc
      rw [fillI_one h]
      simp only [over, List.length_append, List.length_take, List.length_drop]
      omega
    · cases h

/-- What makes an object. -/
theorem evalA_ok {o : Oper} {op : IOp} {x : O × (Nat → V)} (hc : compOp P o = some op) (hk : op.kind = .a) (hev : evalA op e = some x) (he : VRs ρ e a.tmps.toList) :
    ∃ (ob : Obj) (mk : Nat → Value), (∀ w, (execOp a.eval o).run P w = .ok (.value (mk w.heap.size)) (w.alloc ob)) ∧ (∀ b c, ObjR ρ x.1 ⟨b, 0, 0, c, none⟩ (some ob)) ∧ MadeR x.2 mk := by
  obtain ⟨dst, opp, ty, pos, after, guard⟩ := o
  cases opp with
  | alloc t =>
    simp only [compOp, Option.map_eq_some_iff] at hc
    obtain ⟨z, hz, rfl⟩ := hc
    obtain ⟨i, zv, hi, hzv, rfl⟩ := zeroOf_ok hz
    simp only [evalA, Option.some.injEq] at hev; subst hev
    refine ⟨.cells zv.cells t, fun b => .pointer (some ⟨b, 0, none⟩), fun w => ?_, fun b c => ObjR_row (ofVals_VRs ρ _) _ _ _, made_ptr⟩
    simp [execOp, Instr.alloc, zeroValue, typeInfo, hi, hzv, newVar, run_newRow']
  | box t x =>
    simp only [compOp] at hc; cases hc
    simp only [evalA] at hev
    split at hev
    · rename_i h1
      cases hev
      refine ⟨.cells (a.eval x).cells t, fun b => .pointer (some ⟨b, 0, none⟩), fun w => ?_, fun b c => ObjR_row (VR_cells (eval_VR he x) h1) _ _ _, made_ptr⟩
      simp [execOp, Instr.box, newVar, run_newRow']
    · cases hev
  | buildSlice t len parts =>
    simp only [compOp, Option.bind_eq_bind, Option.pure_def, Option.bind_eq_some_iff] at hc
    obtain ⟨el, hel, n, hn, z, hz, hc⟩ := hc
    have hu := elemOfT_ok hel
    obtain ⟨i, zv, hi, hzv, rfl⟩ := zeroOf_ok hz
    obtain ⟨i', hi', rfl⟩ := Option.map_eq_some_iff.1 hn
    rw [hi] at hi'; cases hi'
    split at hc
    · cases hc
    · rename_i hcond
      simp only [not_or, Decidable.not_not] at hcond
      obtain ⟨hsz, hlen⟩ := hcond
      simp only [Option.bind_eq_some_iff] at hc
      obtain ⟨ps, hps, hc⟩ := hc
      cases hc
      simp only [evalA, Option.map_eq_some_iff] at hev
      obtain ⟨cs, hf, rfl⟩ := hev
      have hzl : zv.cells.size = i.size := by
        have := VRs_length (ofVals_VRs ρ zv.cells.toList)
        simp at this; omega
      have hZ : VRs ρ (zeros (ofVals zv.cells.toList) len) ((Array.range (len * i.size)).map ((if len * i.size = 0 then #[] else zv.cells)[· % (if len * i.size = 0 then (#[] : Array Value) else zv.cells).size]!)).toList := by
        have h := VRs_zeros (ofVals_VRs ρ zv.cells.toList) len
        by_cases h0 : len * i.size = 0
        · simp only [h0, if_true]
          have : (List.replicate len zv.cells.toList).flatten = [] := by
            apply List.eq_nil_of_length_eq_zero
            simp [hzl, h0]
          rw [this] at h
          simpa using h
        · simp only [h0, if_false]
          have hp : 0 < zv.cells.size := by
            rcases Nat.eq_zero_or_pos i.size with h1 | h1
            · rw [h1] at h0; simp at h0
            · omega
          rw [← hzl, zeroCells_flat _ _ hp]
          exact h
      obtain ⟨C, hC, hV⟩ := fill_ok (ρ := ρ) he (fun j => some (j * i.size, i.size)) parts.toList ps _ cs _ hps hf hZ
      refine ⟨.cells C el, fun b => .slice (some ⟨b, 0, none⟩) len len, fun w => ?_, fun b c => ObjR_row hV _ _ _, made_slice len len (Nat.le_refl _)⟩
      have hC' : Instr.fill (fun j => some (j * i.size, i.size)) ((Array.range (len * i.size)).map ((if len * i.size = 0 then #[] else zv.cells)[· % (if len * i.size = 0 then (#[] : Array Value) else zv.cells).size]!)) (parts.map fun (j, x) => (j, a.eval x)).toList = some C := by
        simpa using hC
      have hsz' : ¬ (2 ^ 24 < len * i.size) := by omega
      by_cases h0 : len * i.size = 0
      · simp only [h0, if_true] at hC'
        have hC3 : Instr.fill (fun j => some (j * i.size, i.size)) (Array.map (fun x => (default : Value)) (Array.range 0)) (List.map (fun x => (x.1, a.eval x.2)) parts.toList) = some C := by simpa using hC'
        simp [execOp, Instr.buildSlice, run_underlying hu, sizeOf, typeInfo, hi, h0, hC3, run_newRow']
      · simp only [h0, if_false] at hC'
        simp only [execOp, Instr.buildSlice, Sem.run_bind, run_underlying hu, Result.andThen_ok, sizeOf, typeInfo, run_program, hi, Sem.run_pure, gt_iff_lt, hsz', if_false, h0, zeroValue, hzv, hC']
        simp [run_newRow']
  | makeMap t r =>
    simp only [compOp] at hc
    split at hc
    · cases hc
      simp only [evalA, Option.some.injEq] at hev; subst hev
      refine ⟨.map #[] 0, fun b => .map (some b), fun w => ?_, fun b c => ⟨#[], rfl, .nil⟩, made_map⟩
      rfl
    · cases hc
  | makeSlice t l c =>
    simp only [compOp, Option.bind_eq_bind, Option.pure_def, Option.bind_eq_some_iff] at hc
    obtain ⟨el, hel, i, hi, z, hz, hc⟩ := hc
    have hu := elemOfT_ok hel
    obtain ⟨i', zv, hi', hzv, rfl⟩ := zeroOf_ok hz
    rw [hi] at hi'; cases hi'
    split at hc
    · cases hc
    · rename_i hzl
      cases hc
      simp only [evalA, Option.bind_eq_some_iff] at hev
      obtain ⟨ln, hln, cn, hcn, hev⟩ := hev
      split at hev
      · rename_i hcond
        obtain ⟨hlc, hb, hm⟩ := hcond
        cases hev
        obtain ⟨kl, li, hl1, hl0, rfl⟩ := asNat_ok hln (eval_VR he l)
        obtain ⟨kc, ci, hc1, hc0, rfl⟩ := asNat_ok hcn (eval_VR he c)
        simp only [maxRow] at hb hm
        have hzl' : zv.cells.size = i.size := by
          have := VRs_length (ofVals_VRs ρ zv.cells.toList)
          simp at this
          simp only [ne_eq, Decidable.not_not] at hzl
          omega
        have hbc : (i.bytes : Int) * ci ≤ 281474976710656 := by
          have h1 : ((ci.toNat * i.bytes : Nat) : Int) ≤ ((2 ^ 47 : Nat) : Int) := Int.ofNat_le.2 hb
          have h2 : ((ci.toNat * i.bytes : Nat) : Int) = ci * i.bytes := by push_cast; rw [Int.toNat_of_nonneg hc0]
          rw [Int.mul_comm, ← h2]
          omega
        refine ⟨.cells (madeCells zv.cells (ci.toNat * i.size)) el, fun b => .slice (some ⟨b, 0, none⟩) li.toNat ci.toNat, fun w => ?_, fun b c => ObjR_row ?_ _ _ _, made_slice _ _ hlc⟩
        · have h := run_make (P := P) w t el i zv hu hi hzv kl kc li ci hl0 (by omega) hbc (by omega)
          simp only [execOp, hl1, hc1, Sem.run_bind, h, Result.andThen_ok]; rfl
        · have h := VRs_zeros (ofVals_VRs ρ zv.cells.toList) ci.toNat
          rcases Nat.eq_zero_or_pos zv.cells.size with h0 | h0
          · have e1 : (List.replicate ci.toNat zv.cells.toList).flatten = [] := by
              apply List.eq_nil_of_length_eq_zero
              simp [h0]
            rw [e1] at h
            have e2 : (madeCells zv.cells (ci.toNat * i.size)).toList = [] := by
              rw [← hzl', h0]; simp [madeCells]
            rw [e2]; exact h
          · have e2 : (madeCells zv.cells (ci.toNat * i.size)).toList = (List.replicate ci.toNat zv.cells.toList).flatten := by
              rw [← hzl', ← zeroCells_flat _ _ h0]; rfl
            rw [e2]; exact h
      · cases hev
  | load t x => simp only [compOp, Option.bind_eq_bind, Option.pure_def, Option.bind_eq_some_iff] at hc; obtain ⟨n, _, hc⟩ := hc; cases hc; simp [evalA] at hev
  | move x => simp only [compOp] at hc; cases hc; simp [evalA] at hev
  | assign x => simp only [compOp] at hc; cases hc; simp [evalA] at hev
  | pick c x y => simp only [compOp] at hc; cases hc; simp [evalA] at hev
  | nilCheck x => simp only [compOp] at hc; cases hc; simp [evalA] at hev
  | unOp op t x => simp only [compOp] at hc; cases hc; simp [evalA] at hev
  | extract x i => simp only [compOp] at hc; cases hc; simp [evalA] at hev
  | store t x y => simp only [compOp, Option.bind_eq_bind, Option.pure_def, Option.bind_eq_some_iff] at hc; obtain ⟨n, _, hc⟩ := hc; cases hc; simp [evalA] at hev
  | build t parts =>
    simp only [compOp, Option.bind_eq_bind, Option.pure_def, Option.bind_eq_some_iff] at hc
    obtain ⟨_, _, _, _, _, _, hc⟩ := hc; cases hc; simp [evalA] at hev
  | lookup t m k ok =>
    simp only [compOp, Option.bind_eq_bind, Option.pure_def, Option.bind_eq_some_iff] at hc
    obtain ⟨_, _, _, _, _, _, _, _, hc⟩ := hc
    cases hc; simp [evalA] at hev
  | mapEntry t m k =>
    simp only [compOp, Option.bind_eq_bind, Option.pure_def, Option.bind_eq_some_iff] at hc
    obtain ⟨_, _, _, _, _, _, _, _, hc⟩ := hc
    cases hc; simp [evalA] at hev
  | entryStore t m st v => simp only [compOp] at hc; cases hc; simp [evalA] at hev
  | mapUpdate t m k v =>
    simp only [compOp, Option.bind_eq_bind, Option.pure_def, Option.bind_eq_some_iff] at hc
    obtain ⟨_, _, _, _, hc⟩ := hc
    cases hc; simp [evalA] at hev
  | insert t m k v =>
    simp only [compOp, Option.bind_eq_bind, Option.pure_def, Option.bind_eq_some_iff] at hc
    obtain ⟨_, _, _, _, hc⟩ := hc
    cases hc; simp [evalA] at hev
  | binOp op t x y yt =>
    simp only [compOp, compBin] at hc
    split at hc
    · cases hc; simp [evalA] at hev
    · cases hc; simp [evalA] at hev
    · simp only [Option.map_eq_some_iff] at hc; obtain ⟨_, _, rfl⟩ := hc; simp [evalA] at hev
    · simp only [Option.map_eq_some_iff] at hc; obtain ⟨_, _, rfl⟩ := hc; simp [evalA] at hev
    · cases hc
  | convert t u x =>
    simp only [compOp] at hc
    split at hc
    · cases hc; simp [evalA] at hev
    · cases hc
  | makeFunc f p c =>
    simp only [compOp] at hc
    cases f <;> simp at hc
    obtain ⟨_, rfl⟩ := hc; simp [evalA] at hev
  | slice t x lo hi mx =>
    simp only [compOp] at hc
    split at hc
    · split at hc
      · cases hc
      · cases hc; simp [evalA] at hev
    · simp only [Option.map_eq_some_iff] at hc; obtain ⟨_, _, rfl⟩ := hc; simp [evalA] at hev
    · cases hc
  | fieldAddr t x i =>
    simp only [compOp, Option.bind_eq_bind, Option.pure_def, Option.bind_eq_some_iff] at hc
    obtain ⟨_, _, _, _, hc⟩ := hc
    split at hc
    · cases hc
    · cases hc; simp [evalA] at hev
  | field t x i =>
    simp only [compOp, Option.bind_eq_bind, Option.pure_def, Option.bind_eq_some_iff] at hc
    obtain ⟨_, _, _, _, hc⟩ := hc
    cases hc; simp [evalA] at hev
  | indexAddr t x i =>
    simp only [compOp, Option.bind_eq_bind, Option.pure_def, Option.bind_eq_some_iff] at hc
    obtain ⟨_, _, _, _, hc⟩ := hc
    cases hc; simp [evalA] at hev
  | index t x i =>
    simp only [compOp] at hc
    split at hc
    · cases hc; simp [evalA] at hev
    · cases hc
  | call c =>
    simp only [compOp] at hc
    unfold compCall at hc
    simp only at hc
    split at hc
    · split at hc
      · cases hc; simp [evalA] at hev
      · cases hc
    · cases hc; simp [evalA] at hev
    · split at hc
      · split at hc
        · cases hc; simp [evalA] at hev
        · cases hc; simp [evalA] at hev
        · cases hc; simp [evalA] at hev
        · cases hc
      · cases hc
    · split at hc
      · rcases compAppend_or hc with hc | hc
        · obtain ⟨_, _, _, _, _, _, _, _, rfl⟩ := compAppend_form hc; simp [evalA] at hev
        · obtain ⟨_, _, _, _, _, _, _, _, _, _, rfl⟩ := compAppendZ_form hc; simp [evalA] at hev
      · cases hc
    · split at hc
      · split at hc
        · cases hc; simp [evalA] at hev
        · cases hc
      · cases hc
    · split at hc
      · obtain ⟨_, _, _, _, _, _, _, rfl⟩ := compClear_form hc; simp [evalA] at hev
      · cases hc
    · split at hc
      · cases hc; simp [evalA] at hev
      · cases hc
    · split at hc
      · cases hc; simp [evalA] at hev
      · cases hc
    · cases hc
  | range t x =>
    simp only [compOp] at hc
    split at hc
    · cases hc; simp [evalA] at hev
    · cases hc
  | next it str =>
    simp only [compOp] at hc
    split at hc
    · cases hc
    · cases hc; simp [evalA] at hev
  | _ => simp [compOp] at hc
end
end Go.IM
