/- Operations that have nothing to do with the store, on. -/
import Derived.Test.YtfcaamoapdibiaaGreatDoorIm4
set_option linter.unusedSimpArgs false
set_option linter.unusedVariables false
namespace Go.IM
section
variable {P : Program} {ρ : Rn} {a : Act} {e : Env}

/-- Cells laid one by one. -/
theorem foldl_sets (off : Nat) : ∀ (L : List Value) (k : Nat) (C : Array Value), off + k + L.length ≤ C.size →
    ((L.zipIdx k).foldl (fun (cs : Array Value) (p : Value × Nat) => cs.setIfInBounds (off + p.2) p.1) C).toList = C.toList.take (off + k) ++ L ++ C.toList.drop (off + k + L.length)
  | [], k, C, h => by simp
  | x :: L, k, C, h => by
    simp only [List.length_cons] at h
    simp only [List.zipIdx_cons, List.foldl_cons]
    rw [foldl_sets off L (k + 1) _ (by simp; omega)]
    simp only [Array.toList_setIfInBounds, List.length_cons]
    have h1 : off + k < C.toList.length := by simp; omega
    rw [show off + (k + 1) = off + k + 1 from by omega, show off + k + 1 + L.length = off + k + (L.length + 1) from by omega]
    rw [List.drop_set_of_lt (by omega)]
    congr 1
    rw [← List.take_append_getElem (i := off + k) (by simp; omega : off + k < (C.toList.set (off + k) x).length)]
    rw [List.take_set_of_le (Nat.le_refl _)]
    simp

theorem fill_ok (he : VRs ρ e a.tmps.toList) (place : Nat → Option (Nat × Nat)) : ∀ (parts : List (Nat × Operand)) (ps : List (Nat × Nat × Arg)) (cells out : List V) (C : Array Value),
    partsOf place parts = some ps → fillI e cells ps = some out → VRs ρ cells C.toList →
    ∃ C', Instr.fill place C (parts.map fun p => (p.1, a.eval p.2)) = some C' ∧ VRs ρ out C'.toList
  | [], ps, cells, out, C, hp, hf, hc => by
    simp [partsOf] at hp; subst hp
    simp only [fillI] at hf; cases hf
    exact ⟨C, rfl, hc⟩
  | (i, x) :: parts, ps, cells, out, C, hp, hf, hc => by
    simp only [partsOf, List.mapM_cons, Option.bind_eq_bind, Option.pure_def, Option.bind_eq_some_iff, Option.some.injEq] at hp
    obtain ⟨_, ⟨⟨off, size⟩, hpl, rfl⟩, ps', hps, rfl⟩ := hp
    simp only [fillI] at hf
    split at hf
    · rename_i hcond
      obtain ⟨h1, h2, h3⟩ := hcond
      have hv := eval_VR he x
      have hcv := VR_cells hv h3
      have hl := VRs_length hcv
      have hlc := VRs_length hc
      simp only [Array.length_toList] at hl hlc
      have hcond' : (decide ((a.eval x).cells.size ≠ size) || decide (off + (a.eval x).cells.size > C.size)) = false := by
        simp; omega
      simp only [List.map_cons, Instr.fill, hpl, hcond', Bool.false_eq_true, if_false]
      refine fill_ok he place parts ps' _ out _ hps hf ?_
      have hset := foldl_sets off (a.eval x).cells.toList 0 C (by simp; omega)
      rw [← Array.foldl_toList, Array.toList_zipIdx]
      simp only [Nat.add_zero] at hset
      rw [hset]
      unfold over
      rw [hl, ← Array.length_toList]
      exact VRs_append (VRs_append (VRs_take hc _) hcv) (VRs_drop hc _)
    · cases hf

/-- A natural number in a slot. -/
def NatV (v : Value) (n : Nat) : Prop := ∃ k i, v = .int k i ∧ 0 ≤ i ∧ i.toNat = n

theorem asNat_ok {v : V} {n : Nat} {v' : Value} (h : asNat v = some n) (hv : VR ρ v v') : NatV v' n := by
  unfold asNat at h
  split at h
  · split at h
    · rename_i hn
      cases h
      exact ⟨_, _, hv, hn, rfl⟩
    · cases h
  · cases h

theorem bounds_ok {b : Bool} {len cap m h l : Nat} {lo hi mx : Option Value} (hm : (∃ v, mx = some v ∧ NatV v m ∧ m ≤ cap) ∨ (mx = none ∧ m = cap))
    (hh : (∃ v, hi = some v ∧ NatV v h ∧ h ≤ m) ∨ (hi = none ∧ mx = none ∧ h = len)) (hl : (∃ v, lo = some v ∧ NatV v l ∧ l ≤ h) ∨ (lo = none ∧ l = 0)) (w : World) :
    (Instr.sliceBounds b len cap lo hi mx).run P w = .ok (l, h, m) w := by
  have key : ∀ {v : Value} {n y : Nat} (c : BoundsCode), NatV v n → n ≤ y → ∀ w, (Instr.sliceBound v y c).run P w = .ok n w := by
    intro v n y c hv hn w
    obtain ⟨k, i, rfl, h0, rfl⟩ := hv
    exact run_sliceBound w k i y c h0 (by omega)
  rcases hm with ⟨vm, rfl, hvm, hm⟩ | ⟨rfl, rfl⟩
  · rcases hh with ⟨vh, rfl, hvh, hh⟩ | ⟨_, h0, _⟩
    · rcases hl with ⟨vl, rfl, hvl, hl⟩ | ⟨rfl, rfl⟩
      · simp [Instr.sliceBounds, key _ hvm hm, key _ hvh hh, key _ hvl hl]
      · simp [Instr.sliceBounds, key _ hvm hm, key _ hvh hh]
    · cases h0
  · rcases hh with ⟨vh, rfl, hvh, hh⟩ | ⟨rfl, _, rfl⟩
    · rcases hl with ⟨vl, rfl, hvl, hl⟩ | ⟨rfl, rfl⟩
      · simp [Instr.sliceBounds, key _ hvh hh, key _ hvl hl]
      · simp [Instr.sliceBounds, key _ hvh hh]
    · rcases hl with ⟨vl, rfl, hvl, hl⟩ | ⟨rfl, rfl⟩
      · simp [Instr.sliceBounds, key _ hvl hl]
      · simp [Instr.sliceBounds]

/-- An operand that may be there. -/
theorem opt_lo {x : Option Operand} {l h : Nat} (he : VRs ρ e a.tmps.toList)
    (hx : (match (x.map argOf).map (ev e) with | some v => (asNat v).bind fun l => if l ≤ h then some l else none | none => some 0) = some l) :
    (∃ v, x.map a.eval = some v ∧ NatV v l ∧ l ≤ h) ∨ (x.map a.eval = none ∧ l = 0) := by
  cases x with
  | none => simp at hx; exact .inr ⟨rfl, hx.symm⟩
  | some o =>
    simp only [Option.map_some, Option.bind_eq_some_iff] at hx
    obtain ⟨n, hn, hx⟩ := hx
    split at hx
    · rename_i hle
      cases hx
      exact .inl ⟨_, rfl, asNat_ok hn (eval_VR he o), hle⟩
    · cases hx

theorem opt_hi {x y : Option Operand} {len m h : Nat} (he : VRs ρ e a.tmps.toList)
    (hx : (match (x.map argOf).map (ev e) with | some v => (asNat v).bind fun h => if h ≤ m then some h else none | none => if ((y.map argOf).map (ev e)).isSome then none else some len) = some h) :
    (∃ v, x.map a.eval = some v ∧ NatV v h ∧ h ≤ m) ∨ (x.map a.eval = none ∧ y.map a.eval = none ∧ h = len) := by
  cases x with
  | none =>
    cases y with
    | none => simp at hx; exact .inr ⟨rfl, rfl, hx.symm⟩
    | some o => simp at hx
  | some o =>
    simp only [Option.map_some, Option.bind_eq_some_iff] at hx
    obtain ⟨n, hn, hx⟩ := hx
    split at hx
    · rename_i hle
      cases hx
      exact .inl ⟨_, rfl, asNat_ok hn (eval_VR he o), hle⟩
    · cases hx

theorem Addr_add_spot (b o n : Nat) : (⟨b, o, none⟩ : Addr).add n = ⟨b, o + n, none⟩ := Addr.add_lit b o n

theorem place_off {ad : Ad} {c : Addr} (h : place ρ ad = some c) (n : Nat) : place ρ ⟨ad.id, ad.off + n⟩ = some (c.add n) := by
  obtain ⟨i, o⟩ := ad
  cases i with
  | old b => cases h; simp [place, Addr.add_lit]
  | new k =>
    simp only [place, Option.map_eq_some_iff] at h ⊢
    obtain ⟨p, hp, rfl⟩ := h
    exact ⟨p, hp, by simp [Addr.add_lit]; omega⟩

theorem place_spot {ad : Ad} {c : Addr} (h : place ρ ad = some c) : c.spot = none := by
  obtain ⟨i, o⟩ := ad
  cases i with
  | old b => cases h; rfl
  | new k =>
    simp only [place, Option.map_eq_some_iff] at h
    obtain ⟨p, _, rfl⟩ := h
    rfl

theorem reach_off {ad : Ad} {c : Addr} {cap : Nat} {known known' : Option Nat} (h : reach ρ ad c cap known) (n m : Nat) (hm : m ≤ cap) (hk : n = 0 → known' = none → known = none ∧ m = cap) : reach ρ ⟨ad.id, ad.off + n⟩ (c.add n) m known' := by
  obtain ⟨i, o⟩ := ad
  cases i with
  | old b => trivial
  | new k =>
    intro h0 p hp hp0
    simp only at h0
    have hn : n = 0 := by omega
    have ho : o = 0 := by omega
    subst hn ho
    obtain ⟨h1, h2⟩ := h rfl p hp hp0
    have h4 : m * p.sz ≤ cap * p.sz := Nat.mul_le_mul_right _ hm
    have : c.add 0 = c := by simp [Addr.add]
    rw [this]
    refine ⟨by omega, fun hn => ?_⟩
    obtain ⟨g1, g2⟩ := hk rfl hn
    rw [g2]; exact h2 g1

theorem sliceStr_ok (he : VRs ρ e a.tmps.toList) {x : Operand} {lo hi : Option Operand} {v : V} {t : TypeId} (hu : P.underlying t = some .string)
    (h : sliceStrI (ev e (argOf x)) ((lo.map argOf).map (ev e)) ((hi.map argOf).map (ev e)) = some v) :
    ∃ v', (∀ w, (Instr.sliceAt t (a.eval x) (lo.map a.eval) (hi.map a.eval) none).run P w = .ok v' w) ∧ VR ρ v v' := by
  have hx := eval_VR he x
  unfold sliceStrI at h
  split at h
  · rename_i s hev
    rw [hev] at hx
    have hx := VR_str hx
    simp only [Option.bind_eq_some_iff] at h
    obtain ⟨hh, h1, l, h2, h3⟩ := h
    cases h3
    have b2 := opt_lo he h2
    have b1 : (∃ v, hi.map a.eval = some v ∧ NatV v hh ∧ hh ≤ s.size) ∨ (hi.map a.eval = none ∧ (none : Option Value) = none ∧ hh = s.size) := by
      cases hi with
      | none => simp at h1; exact .inr ⟨rfl, rfl, h1.symm⟩
      | some o =>
        simp only [Option.map_some, Option.bind_eq_some_iff] at h1
        obtain ⟨n, hn, h1⟩ := h1
        split at h1
        · rename_i hle
          cases h1
          exact .inl ⟨_, rfl, asNat_ok hn (eval_VR he o), hle⟩
        · cases h1
    refine wit_str fun w => ?_
    rw [hx]
    have hb := bounds_ok (P := P) (b := false) (len := s.size) (cap := s.size) (m := s.size) (mx := none) (.inr ⟨rfl, rfl⟩) b1 b2 w
    simp [Instr.sliceAt, Instr.slice, run_underlying hu, hb]
  · cases h

theorem opt_mx {x : Option Operand} {m cap : Nat} (he : VRs ρ e a.tmps.toList)
    (hx : (match (x.map argOf).map (ev e) with | some v => (asNat v).bind fun l => if l ≤ cap then some l else none | none => some cap) = some m) :
    (∃ v, x.map a.eval = some v ∧ NatV v m ∧ m ≤ cap) ∨ (x.map a.eval = none ∧ m = cap) := by
  cases x with
  | none => simp at hx; exact .inr ⟨rfl, hx.symm⟩
  | some o =>
    simp only [Option.map_some, Option.bind_eq_some_iff] at hx
    obtain ⟨n, hn, hx⟩ := hx
    split at hx
    · rename_i hle
      cases hx
      exact .inl ⟨_, rfl, asNat_ok hn (eval_VR he o), hle⟩
    · cases hx

theorem run_sliceAt {t el : TypeId} {sz len cap l h m : Nat} {ad : Option Addr} {lo hi mx : Option Value} (hu : P.underlying t = some (.slice el)) (hs : sizeOfT P el = some sz)
    {w : World} (hb : (Instr.sliceBounds true len cap lo hi mx).run P w = .ok (l, h, m) w) :
    (Instr.sliceAt t (.slice ad len cap) lo hi mx).run P w = .ok (.slice (if m = l then ad else ad.map (·.add (l * sz))) (h - l) (m - l)) w := by
  obtain ⟨i, hi, rfl⟩ := Option.map_eq_some_iff.1 hs
  simp [Instr.sliceAt, Instr.slice, run_underlying hu, hb, sizeOf, typeInfo, hi]

/-- A slice of a slice. -/
theorem slice_ok (he : VRs ρ e a.tmps.toList) {x : Operand} {lo hi mx : Option Operand} {sz : Nat} {v : V} {t el : TypeId}
    (hu : P.underlying t = some (.slice el)) (hs : sizeOfT P el = some sz)
    (h : sliceI sz (ev e (argOf x)) ((lo.map argOf).map (ev e)) ((hi.map argOf).map (ev e)) ((mx.map argOf).map (ev e)) = some v) :
    ∃ v', (∀ w, (Instr.sliceAt t (a.eval x) (lo.map a.eval) (hi.map a.eval) (mx.map a.eval)).run P w = .ok v' w) ∧ VR ρ v v' := by
  have hx := eval_VR he x
  unfold sliceI at h
  split at h
  · -- a slice whose capacity is known
    rename_i ad len cap hev
    rw [hev] at hx
    simp only [Option.bind_eq_some_iff] at h
    obtain ⟨m, h0, hh, h1, l, h2, h3⟩ := h
    split at h3
    case isFalse => cases h3
    rename_i hhm
    cases h3
    have b0 := opt_mx he h0
    have b1 := opt_hi he h1
    have b2 := opt_lo he h2
    have hmc : m ≤ cap := by rcases b0 with ⟨_, _, _, h⟩ | ⟨_, rfl⟩; exact h; exact Nat.le_refl _
    have hlh : l ≤ hh := by rcases b2 with ⟨_, _, _, h⟩ | ⟨_, rfl⟩; exact h; exact Nat.zero_le _
    cases ad with
    | none =>
      obtain ⟨rfl, hc, hxv⟩ := hx
      cases hc
      refine ⟨.slice none 0 0, fun w => ?_, ?_⟩
      · rw [hxv, run_sliceAt hu hs (bounds_ok b0 b1 b2 w)]
        have : m = 0 := by omega
        have : hh = 0 := by omega
        have : l = 0 := by omega
        subst_vars
        simp
      · have h1 : m = 0 := by omega
        have h2 : hh = 0 := by omega
        have h3 : l = 0 := by omega
        subst h1 h2 h3
        simp [VR]
    | some ad =>
      obtain ⟨c, cap', hxv, hlc, hcap, hpl, ⟨c0, hc0⟩, hz⟩ := hx
      have := hcap cap rfl
      subst this
      refine ⟨_, fun w => by rw [hxv, run_sliceAt hu hs (bounds_ok b0 b1 b2 w)], ?_⟩
      by_cases hml : m = l
      · simp only [hml, if_true]
        exact ⟨c, _, rfl, by omega, fun k hk => by simpa using hk.symm, fun h0 => by omega, ⟨c0, hc0⟩, fun h => by cases h⟩
      · simp only [hml, if_false, Option.map_some]
        exact ⟨_, _, rfl, by omega, fun k hk => by simpa using hk.symm, fun h0 => by
          obtain ⟨h1, h2⟩ := hpl (by omega)
          exact ⟨place_off h1 _, reach_off h2 _ _ (by omega) (fun _ hn => by cases hn)⟩, ⟨_, place_off hc0 _⟩, fun h => by cases h⟩
  · -- a slice that goes on to its row's end
    rename_i ad len hev
    rw [hev] at hx
    simp only [Option.bind_eq_some_iff] at h
    obtain ⟨m, h0, hh, h1, l, h2, h3⟩ := h
    split at h3
    case isFalse => cases h3
    rename_i hhm
    obtain ⟨hhm, hlsz⟩ := hhm
    cases h3
    have b0 := opt_mx he h0
    have b1 := opt_hi he h1
    have b2 := opt_lo he h2
    obtain ⟨c, cap', hxv, hlc, hcap, hpl, ⟨c0, hc0⟩, hz⟩ := hx
    have hml : m ≤ len := by rcases b0 with ⟨_, _, _, h⟩ | ⟨_, rfl⟩; exact h; exact Nat.le_refl _
    have hlh : l ≤ hh := by rcases b2 with ⟨_, _, _, h⟩ | ⟨_, rfl⟩; exact h; exact Nat.zero_le _
    -- the third index, as Go has it
    have hm' : ∃ m', ((∃ v, mx.map a.eval = some v ∧ NatV v m' ∧ m' ≤ cap') ∨ (mx.map a.eval = none ∧ m' = cap')) ∧ m ≤ m' ∧ m' ≤ cap' ∧ (((mx.map argOf).map (ev e)).isSome = true → m' = m) := by
      rcases b0 with ⟨v, h1, h2, h3⟩ | ⟨h1, h2⟩
      · exact ⟨m, .inl ⟨v, h1, h2, by omega⟩, Nat.le_refl _, by omega, fun _ => rfl⟩
      · cases mx with
        | none => exact ⟨cap', .inr ⟨rfl, rfl⟩, by omega, Nat.le_refl _, by simp⟩
        | some o => simp at h1
    obtain ⟨m', b0', hmm, hmc, hms⟩ := hm'
    have b1' : (∃ v, hi.map a.eval = some v ∧ NatV v hh ∧ hh ≤ m') ∨ (hi.map a.eval = none ∧ mx.map a.eval = none ∧ hh = len) := by
      rcases b1 with ⟨v, h1, h2, h3⟩ | h
      · exact .inl ⟨v, h1, h2, by omega⟩
      · exact .inr h
    refine ⟨_, fun w => by rw [hxv, run_sliceAt hu hs (bounds_ok b0' b1' b2 w)], ?_⟩
    have hcapR : ∀ k, (if ((mx.map argOf).map (ev e)).isSome = true then some (m - l) else none) = some k → k = m' - l := by
      intro k hk
      split at hk
      · rename_i hs; cases hk; rw [hms hs]
      · cases hk
    have hpos : (if ((mx.map argOf).map (ev e)).isSome = true then some (m - l) else none) = none → ad.off + l * sz = 0 → 0 < m' - l := by
      intro hn h00
      have hl0 : l = 0 := by
        rcases hlsz with h | h
        · exact h
        · rcases Nat.mul_eq_zero.1 (show l * sz = 0 by omega) with h | h <;> omega
      have hmx : ((mx.map argOf).map (ev e)).isSome = false := by
        cases hmx : ((mx.map argOf).map (ev e)).isSome with
        | false => rfl
        | true => rw [hmx] at hn; simp at hn
      have hz' := hz rfl (by omega)
      rcases b0' with ⟨v, hv, _⟩ | ⟨_, hv⟩
      · cases mx <;> simp at hmx hv
      · omega
    by_cases hml : m' = l
    · simp only [hml, if_true]
      exact ⟨c, _, rfl, by omega, fun k hk => by have := hcapR k hk; omega, fun h0 => by omega, ⟨_, place_off hc0 _⟩, fun h1 h2 => by have := hpos h1 h2; omega⟩
    · simp only [hml, if_false, Option.map_some]
      exact ⟨_, _, rfl, by omega, hcapR, fun h0 => by
        obtain ⟨h1, h2⟩ := hpl (by omega)
        refine ⟨place_off h1 _, reach_off h2 _ _ (by omega) (fun h00 hn => ⟨rfl, ?_⟩)⟩
        have hl0 : l = 0 := by
          rcases hlsz with h | h
          · exact h
          · rcases Nat.mul_eq_zero.1 h00 with h | h <;> omega
        have hmx : ((mx.map argOf).map (ev e)).isSome = false := by
          cases hmx : ((mx.map argOf).map (ev e)).isSome with
          | false => rfl
          | true => rw [hmx] at hn; simp at hn
        rcases b0' with ⟨v, hv, _⟩ | ⟨_, hv⟩
        · cases mx <;> simp at hmx hv
        · omega, ⟨_, place_off hc0 _⟩, hpos⟩
  · cases h

theorem aggN_ok {t : TypeId} {n : Option Nat} (ht : aggN P t = some n) : (∀ w, (isAgg t).run P w = .ok n.isSome w) ∧ (∀ k, n = some k → ∀ w, (sizeOf t).run P w = .ok k w) := by
  simp only [aggN, isAggT, sizeOfT, Option.bind_eq_bind, Option.pure_def, Option.bind_eq_some_iff, Option.map_eq_some_iff, Option.some.injEq] at ht
  obtain ⟨b, ⟨d, hu, rfl⟩, m, ⟨i, hi, rfl⟩, rfl⟩ := ht
  refine ⟨fun w => ?_, fun k hk w => ?_⟩
  · have : (isAgg t).run P w = .ok (aggD d) w := by cases d <;> simp [isAgg, run_underlying hu, aggD]
    rw [this]
    cases aggD d <;> rfl
  · split at hk
    · cases hk; simp [sizeOf, typeInfo, hi]
    · cases hk

/-- So many cells out of an aggregate. -/
theorem part_ok {t : TypeId} {n : Option Nat} (ht : aggN P t = some n) {cs : List V} {C : Array Value} (hc : VRs ρ cs C.toList) {off : Nat} {v : V}
    (h : partI n cs off = some v) : ∃ v', (∀ w, (part t C off).run P w = .ok v' w) ∧ VR ρ v v' := by
  obtain ⟨hagg, hsz⟩ := aggN_ok ht
  cases n with
  | none =>
    obtain ⟨y, hy, hv⟩ := VRs_get hc h
    have hy' : C[off]? = some y := by simpa using hy
    exact ⟨y, fun w => by simp [part, hagg, hy'], hv⟩
  | some n =>
    simp only [partI, Option.map_eq_some_iff] at h
    obtain ⟨l, hl, rfl⟩ := h
    obtain ⟨h1, rfl, h3⟩ := cut_some hl
    refine ⟨.agg (C.extract off (off + n)), fun w => by simp [part, hagg, hsz n rfl], _, rfl, ?_⟩
    have := VRs_take (VRs_drop hc off) n
    simpa [Array.toList_extract, List.extract_eq_take_drop] using this

theorem elemOfT_ok {t el : TypeId} (h : elemOfT P t = some el) : P.underlying t = some (.slice el) := by
  unfold elemOfT at h
  split at h
  · cases h; assumption
  · cases h
theorem compAppend_or {t u : TypeId} {x y : Arg} {op : IOp} (h : (compAppend P t u x y).or (compAppendZ P t u x y) = some op) : compAppend P t u x y = some op ∨ compAppendZ P t u x y = some op := by
  cases h1 : compAppend P t u x y with
  | some o => rw [h1] at h; left; simpa using h
  | none => rw [h1] at h; right; simpa using h
theorem compAppend_form {t u : TypeId} {x y : Arg} {op : IOp} (h : compAppend P t u x y = some op) : ∃ el i z, P.underlying t = some (.slice el) ∧ P.info? el = some i ∧ i.zero = some z ∧ z.cells.size = i.size ∧ appendsT P u = true ∧ op = .append i.size i.bytes x y := by
  simp only [compAppend, Option.bind_eq_bind, Option.pure_def, Option.bind_eq_some_iff] at h
  obtain ⟨el, h1, i, h2, z, h3, h⟩ := h
  split at h
  · rename_i hc; cases h; exact ⟨el, i, z, elemOfT_ok h1, h2, h3, hc.1, hc.2, rfl⟩
  · cases h
theorem compAppendZ_form {t u : TypeId} {x y : Arg} {op : IOp} (h : compAppendZ P t u x y = some op) : ∃ el i z k, P.underlying t = some (.slice el) ∧ P.info? el = some i ∧ i.zero = some z ∧ P.underlying u = some (.int k) ∧ z.cells.size = i.size ∧ 0 < i.size ∧ op = .appendZ i.size i.bytes (ofVals z.cells.toList) x y := by
  simp only [compAppendZ, Option.bind_eq_bind, Option.pure_def, Option.bind_eq_some_iff] at h
  obtain ⟨el, h1, i, h2, z, h3, h⟩ := h
  split at h
  · rename_i k hu
    split at h
    · rename_i hc; cases h; exact ⟨el, i, z, k, elemOfT_ok h1, h2, h3, hu, hc.1, hc.2, rfl⟩
    · cases h
  · cases h
theorem compClear_form {t : TypeId} {x : Arg} {op : IOp} (h : compClear P t x = some op) : ∃ el i z, P.underlying t = some (.slice el) ∧ P.info? el = some i ∧ i.zero = some z ∧ 0 < z.cells.size ∧ op = .clearSlice (ofVals z.cells.toList) x := by
  simp only [compClear, Option.bind_eq_bind, Option.pure_def, Option.bind_eq_some_iff] at h
  obtain ⟨el, h1, i, h2, z, h3, h⟩ := h
  split at h
  · rename_i hc; cases h; exact ⟨el, i, z, elemOfT_ok h1, h2, h3, hc, rfl⟩
  · cases h
/-- One operand, two. -/
theorem args_one {l : Array Operand} {x : Arg} (h : l.toList.map argOf = [x]) : ∃ y, l = #[y] ∧ x = argOf y := by
  cases hl : l.toList with
  | nil => simp [hl] at h
  | cons y ys =>
    cases ys with
    | nil => simp [hl] at h; exact ⟨y, by rw [← Array.toArray_toList (xs := l), hl], h.symm⟩
    | cons z zs => simp [hl] at h
theorem args_two {l : Array Operand} {x y : Arg} (h : l.toList.map argOf = [x, y]) : ∃ x' y', l = #[x', y'] ∧ x = argOf x' ∧ y = argOf y' := by
  cases hl : l.toList with
  | nil => simp [hl] at h
  | cons a as =>
    cases as with
    | nil => simp [hl] at h
    | cons b bs =>
      cases bs with
      | nil => simp [hl] at h; exact ⟨a, b, by rw [← Array.toArray_toList (xs := l), hl], h.1.symm, h.2.symm⟩
      | cons c cs => simp [hl] at h
theorem types_one {l : Array TypeId} {t : TypeId} (h : l.toList = [t]) : l = #[t] := by rw [← Array.toArray_toList (xs := l), h]
theorem types_two {l : Array TypeId} {t u : TypeId} (h : l.toList = [t, u]) : l = #[t, u] := by rw [← Array.toArray_toList (xs := l), h]

theorem fieldOfT_ok {t : TypeId} {i : Nat} {f : Field} (h : fieldOfT P t i = some f) : ∃ fields, P.underlying t = some (.struct fields) ∧ fields[i]? = some f := by
  unfold fieldOfT at h
  split at h
  · exact ⟨_, by assumption, h⟩
  · cases h
theorem mapOfT_ok {t k el : TypeId} (h : mapOfT P t = some (k, el)) : P.underlying t = some (.map k el) := by
  unfold mapOfT at h
  split at h
  · cases h; assumption
  · cases h

theorem VRs_map {xs : List Operand} (he : VRs ρ e a.tmps.toList) : VRs ρ ((xs.map argOf).map (ev e)) (xs.map a.eval) := by
  induction xs with
  | nil => rfl
  | cons x xs ih => exact VRs_cons (eval_VR he x) ih

theorem zeroOf_ok {t : TypeId} {z : List V} (h : zeroOf P t = some z) : ∃ i v, P.info? t = some i ∧ i.zero = some v ∧ z = ofVals v.cells.toList := by
  simp only [zeroOf, Option.bind_eq_bind, Option.pure_def, Option.bind_eq_some_iff, Option.some.injEq] at h
  obtain ⟨i, hi, v, hv, rfl⟩ := h
  exact ⟨i, v, hi, hv, rfl⟩

theorem placesOf_mapM (l : List Field) : (l.mapM fun f => do pure (f.offset, ← sizeOfT P f.type) : Option _) = l.mapM (fun f => (P.info? f.type).map fun i => (f.offset, i.size)) := by
  congr 1
  funext f
  simp only [sizeOfT]
  cases P.info? f.type <;> rfl

/-- What has nothing to do with the store. -/
theorem evalP_ok {o : Oper} {op : IOp} {v : V} (hc : compOp P o = some op) (hk : op.kind = .p) (hev : evalP op e = some v) (he : VRs ρ e a.tmps.toList) :
    ∃ v', (∀ w, (execOp a.eval o).run P w = .ok (.value v') w) ∧ VR ρ v v' := by
  obtain ⟨dst, opp, ty, pos, after, guard⟩ := o
  cases opp with
  | move x =>
    simp only [compOp] at hc; cases hc
    simp only [evalP, Option.some.injEq] at hev; subst hev
    exact ⟨_, fun w => rfl, eval_VR he x⟩
  | assign x =>
    simp only [compOp] at hc; cases hc
    simp only [evalP, Option.some.injEq] at hev; subst hev
    exact ⟨_, fun w => rfl, eval_VR he x⟩
  | pick c x y =>
    simp only [compOp] at hc; cases hc
    simp only [evalP] at hev
    have hcv := eval_VR he c
    split at hev
    · rename_i t ht
      rw [ht] at hcv
      cases hev
      refine ⟨if t then a.eval x else a.eval y, fun w => by simp [execOp, VR_bool hcv, asBool], ?_⟩
      cases t
      · exact eval_VR he y
      · exact eval_VR he x
    · cases hev
  | build t parts =>
    simp only [compOp, Option.bind_eq_bind, Option.pure_def, Option.bind_eq_some_iff, Option.some.injEq] at hc
    obtain ⟨z, hz, pl, hpl, ps, hps, rfl⟩ := hc
    obtain ⟨i, zv, hi, hzv, rfl⟩ := zeroOf_ok hz
    simp only [evalP, Option.map_eq_some_iff] at hev
    obtain ⟨cs, hf, rfl⟩ := hev
    obtain ⟨C, hC, hV⟩ := fill_ok (ρ := ρ) he pl parts.toList ps _ cs zv.cells hps hf (ofVals_VRs ρ _)
    have hb : P.built t (parts.map fun (i, x) => (i, a.eval x)).toList = some C := by
      unfold Program.built
      unfold placesOf at hpl
      cases hu : P.underlying t with
      | none => simp [hu] at hpl
      | some d =>
        cases d <;> simp only [hu] at hpl <;> first | (cases hpl; done) | skip
        · rename_i n el
          simp only [Option.bind_eq_bind, Option.pure_def, Option.bind_eq_some_iff, Option.some.injEq, sizeOfT, Option.map_eq_some_iff] at hpl
          obtain ⟨m, ⟨ie, hie, rfl⟩, rfl⟩ := hpl
          simp only [hi, hzv, hie]
          simpa using hC
        · rename_i fields
          rw [placesOf_mapM] at hpl
          simp only [Option.bind_eq_bind, Option.pure_def, Option.bind_eq_some_iff, Option.some.injEq] at hpl
          obtain ⟨l, hl, rfl⟩ := hpl
          simp only [hi, hzv, hl]
          simpa using hC
    exact ⟨.agg C, fun w => by simp only [execOp, Sem.run_bind, run_build w t _ C hb, Result.andThen_ok]; rfl, C, rfl, hV⟩
  | nilCheck x =>
    simp only [compOp] at hc; cases hc
    simp only [evalP] at hev
    have hx := eval_VR he x
    split at hev
    · rename_i ad had
      rw [had] at hx
      cases hev
      obtain ⟨c, hxe, hp⟩ := hx
      exact ⟨_, fun w => by simp only [execOp, hxe]; rfl, c, rfl, hp⟩
    · rename_i f p c had
      rw [had] at hx
      cases hev
      rcases hx with ⟨h0, p', c', hxe, h1, h2⟩ | ⟨h0, h1, h2, q, h3, hxe⟩
      · exact ⟨_, fun w => by simp only [execOp, hxe]; rfl, .inl ⟨h0, p', c', rfl, h1, h2⟩⟩
      · exact ⟨_, fun w => by simp only [execOp, hxe]; rfl, .inr ⟨h0, h1, h2, q, h3, rfl⟩⟩
    · cases hev
  | binOp op t x y yt =>
    simp only [compOp] at hc
    have hx := eval_VR he x
    have hy := eval_VR he y
    have plain : ∀ {iop : IOp}, iop = .bin op (argOf x) (argOf y) → some iop = some (IOp.bin op (argOf x) (argOf y)) → evalP iop e = some v →
        ∃ v', (∀ w, (execOp a.eval { dst, op := .binOp op t x y yt, type := ty, pos, after, guard }).run P w = .ok (.value v') w) ∧ VR ρ v v' := by
      intro iop h1 _ h2
      subst h1
      simp only [evalP] at h2
      obtain ⟨v', hr, hv⟩ := binI_ok (P := P) h2 t hx hy
      refine ⟨v', fun w => ?_, hv⟩
      have hg : (eqGuard op t x y (a.eval x) (a.eval y)).run P w = .ok () w := by
        unfold binI at h2
        split at h2
        · rename_i h3 _; rw [h3] at hx; rw [VR_int hx]; exact eqGuard_plain _ _ _ _ (by simp) (by simp) w
        · rename_i h3 _; rw [h3] at hx; rw [VR_str hx]; exact eqGuard_plain _ _ _ _ (by simp) (by simp) w
        · cases h2
      simp only [execOp, Sem.run_bind, hg, Result.andThen_ok, hr w]; rfl
    have eqs : ∀ {k : EK} {neg : Bool}, ((op = .eql ∧ neg = false) ∨ (op = .neq ∧ neg = true)) → (∀ k, P.underlying t ≠ some (.int k)) → P.underlying t ≠ some .string → ekOf P t = some k →
        evalP (.eql neg k (argOf x) (argOf y)) e = some v →
        ∃ v', (∀ w, (execOp a.eval { dst, op := .binOp op t x y yt, type := ty, pos, after, guard }).run P w = .ok (.value v') w) ∧ VR ρ v v' := by
      intro k neg hop hni hns hek h2
      simp only [evalP, Option.map_eq_some_iff] at h2
      obtain ⟨b, hb, rfl⟩ := h2
      refine ⟨.bool (if neg then !b else b), fun w => ?_, rfl⟩
      have h := eqlOp_ok hop hni hns hek hb hx hy x y w
      unfold Eqs at h
      simp only [execOp, Sem.run_bind] at h ⊢
      rw [h]; rfl
    unfold compBin at hc
    split at hc
    · cases hc; exact plain rfl rfl hev
    · cases hc; exact plain rfl rfl hev
    · rename_i h1 h2
      simp only [Option.map_eq_some_iff] at hc
      obtain ⟨k, hek, rfl⟩ := hc
      exact eqs (.inl ⟨rfl, rfl⟩) (fun k hh => h1 k hh) (fun hh => h2 hh) hek hev
    · rename_i h1 h2
      simp only [Option.map_eq_some_iff] at hc
      obtain ⟨k, hek, rfl⟩ := hc
      exact eqs (.inr ⟨rfl, rfl⟩) (fun k hh => h1 k hh) (fun hh => h2 hh) hek hev
    · cases hc
  | unOp op xt x =>
    simp only [compOp] at hc; cases hc
    simp only [evalP] at hev
    have hx := eval_VR he x
    unfold unI at hev
    split at hev
    · rename_i had
      rw [had] at hx
      cases hev
      exact ⟨.int _ _, fun w => by simp [execOp, VR_int hx, Op.unary, Op.intArith], rfl⟩
    · rename_i had
      rw [had] at hx
      cases hev
      exact ⟨.bool _, fun w => by simp [execOp, VR_bool hx, Op.unary], rfl⟩
    · cases hev
  | convert src dstT x =>
    simp only [compOp] at hc
    split at hc
    · rename_i k1 k2 h1 h2
      cases hc
      simp only [evalP] at hev
      have hx := eval_VR he x
      split at hev
      · rename_i had
        rw [had] at hx
        cases hev
        exact ⟨.int _ _, fun w => by simp [execOp, VR_int hx, convert, run_underlying h1, run_underlying h2, Conv.intToInt], rfl⟩
      · cases hev
    · cases hc
  | makeFunc f pre caps =>
    cases f with
    | func f =>
      simp only [compOp] at hc
      split at hc
      · rename_i h0
        cases hc
        simp only [evalP, Option.some.injEq] at hev; subst hev
        exact ⟨_, fun w => by simp only [execOp, Instr.makeFunc, Sem.run_bind, Sem.run_pure, Result.andThen_ok]; rfl, .inl ⟨h0, _, _, rfl, by simpa using VRs_map he, by simpa using VRs_map he⟩⟩
      · cases hc
    | _ => simp [compOp] at hc
  | slice t x lo hi mx =>
    simp only [compOp] at hc
    split at hc
    · rename_i hu
      split at hc
      · cases hc
      · rename_i hmx
        cases hc
        have : mx = none := by cases mx <;> simp_all
        subst this
        obtain ⟨v', h1, h2⟩ := sliceStr_ok (ρ := ρ) he hu hev
        exact ⟨v', fun w => by simp only [execOp, Sem.run_bind, Option.map_none, h1 w, Result.andThen_ok]; rfl, h2⟩
    · rename_i el hu
      simp only [Option.map_eq_some_iff] at hc
      obtain ⟨n, hn, rfl⟩ := hc
      obtain ⟨v', h1, h2⟩ := slice_ok (ρ := ρ) he hu hn hev
      exact ⟨v', fun w => by simp only [execOp, Sem.run_bind, h1 w, Result.andThen_ok]; rfl, h2⟩
    · cases hc
  | fieldAddr t x i =>
    simp only [compOp, Option.bind_eq_bind, Option.pure_def, Option.bind_eq_some_iff] at hc
    obtain ⟨f, hf, n, hn, hc⟩ := hc
    obtain ⟨fields, hu, hf⟩ := fieldOfT_ok hf
    split at hc
    · cases hc
    · rename_i hn0
      cases hc
      obtain ⟨inf, hi, rfl⟩ := Option.map_eq_some_iff.1 hn
      simp only [evalP] at hev
      have hx := eval_VR he x
      split at hev
      · rename_i ad had
        rw [had] at hx
        cases hev
        obtain ⟨c, hxe, hp⟩ := hx
        refine ⟨.pointer (some (c.add f.offset)), fun w => ?_, _, rfl, place_off hp _⟩
        simp [execOp, hxe, Instr.fieldAt, run_underlying hu, hf, Instr.sureAddr, fieldPlace, sizeOf, typeInfo, hi, hn0]
      · cases hev
  | field t x i =>
    simp only [compOp, Option.bind_eq_bind, Option.pure_def, Option.bind_eq_some_iff] at hc
    obtain ⟨f, hf, n, hn, hc⟩ := hc
    obtain ⟨fields, hu, hf⟩ := fieldOfT_ok hf
    cases hc
    have hx := eval_VR he x
    simp only [evalP] at hev
    split at hev
    · rename_i cs had
      rw [had] at hx
      obtain ⟨C, hxe, hC⟩ := hx
      obtain ⟨v', h1, h2⟩ := part_ok hn hC hev
      exact ⟨v', fun w => by simp [execOp, hxe, Instr.field, run_underlying hu, hf, asAgg, h1], h2⟩
    · cases hev
  | indexAddr t x i =>
    simp only [compOp, Option.bind_eq_bind, Option.pure_def, Option.bind_eq_some_iff] at hc
    obtain ⟨el, hel, n, hn, hc⟩ := hc
    have hu := elemOfT_ok hel
    cases hc
    obtain ⟨inf, hi, rfl⟩ := Option.map_eq_some_iff.1 hn
    simp only [evalP] at hev
    have hx := eval_VR he x
    split at hev
    · rename_i ad len cap had
      rw [had] at hx
      simp only [Option.bind_eq_some_iff] at hev
      obtain ⟨m, hm, hev⟩ := hev
      split at hev
      · rename_i hlt
        cases hev
        obtain ⟨c, cap', hxe, hlc, _, hpl, _⟩ := hx
        obtain ⟨k, j, hj, h0, rfl⟩ := asNat_ok hm (eval_VR he i)
        have hp := (hpl (by omega)).1
        refine ⟨.pointer (some (c.add (j.toNat * inf.size))), fun w => ?_, _, rfl, place_off hp _⟩
        have hl : j < len := by omega
        simp [execOp, hxe, hj, Instr.indexAt, asIntOf, run_underlying hu, h0, hl, sizeOf, typeInfo, hi]
      · cases hev
    · cases hev
  | index t x i =>
    simp only [compOp] at hc
    split at hc
    · rename_i hu
      cases hc
      simp only [evalP] at hev
      have hx := eval_VR he x
      split at hev
      · rename_i s had
        rw [had] at hx
        simp only [Option.bind_eq_some_iff, Option.map_eq_some_iff] at hev
        obtain ⟨m, hm, c, hc, rfl⟩ := hev
        obtain ⟨k, j, hj, h0, rfl⟩ := asNat_ok hm (eval_VR he i)
        exact ⟨.int .u8 c.toNat, fun w => by simp [execOp, VR_str hx, hj, Instr.index, asIntOf, run_underlying hu, h0, hc], rfl⟩
      · cases hev
    · cases hc
  | extract x i =>
    simp only [compOp] at hc; cases hc
    simp only [evalP] at hev
    have hx := eval_VR he x
    split at hev
    · rename_i vs had
      rw [had] at hx
      obtain ⟨C, hxe, hC⟩ := hx
      obtain ⟨y, hy, hv⟩ := VRs_get hC hev
      have hy' : C[i]? = some y := by simpa using hy
      exact ⟨y, fun w => by simp [execOp, hxe, Instr.extract, hy'], hv⟩
    · cases hev
  | call c =>
    simp only [compOp] at hc
    unfold compCall at hc
    simp only at hc
    split at hc
    · split at hc
      · cases hc; simp [IOp.kind] at hk
      · cases hc
    · cases hc; simp [IOp.kind] at hk
    · rename_i hcal
      split at hc
      · rename_i t x hat hag
        have hargs : ∃ y, c.args = #[y] ∧ x = argOf y := by
          have := congrArg List.length hag
          simp at this
          obtain ⟨l⟩ : Nonempty Unit := ⟨()⟩
          cases hl : c.args.toList with
          | nil => simp [hl] at hag
          | cons y ys =>
            cases ys with
            | nil => simp [hl] at hag; exact ⟨y, by rw [← Array.toArray_toList (xs := c.args), hl], hag.symm⟩
            | cons z zs => simp [hl] at hag
        obtain ⟨y, hy, rfl⟩ := hargs
        have hat' : c.argTypes = #[t] := by rw [← Array.toArray_toList (xs := c.argTypes), hat]
        have hx := eval_VR he y
        split at hc
        · rename_i hu
          cases hc
          simp only [evalP] at hev
          split at hev
          · rename_i s had
            rw [had] at hx
            cases hev
            exact ⟨.int .i64 s.size, fun w => by simp [execOp, resolve, hcal, invoke, builtin, hy, hat', Builtin.len_, run_underlying hu, VR_str hx, goInt], rfl⟩
          · cases hev
        · rename_i el hu
          cases hc
          simp only [evalP] at hev
          split at hev
          · rename_i ad n cp had
            rw [had] at hx
            cases hev
            cases ad with
            | none =>
              obtain ⟨rfl, _, hxe⟩ := hx
              exact ⟨.int .i64 0, fun w => by simp [execOp, resolve, hcal, invoke, builtin, hy, hat', Builtin.len_, run_underlying hu, hxe, goInt], rfl⟩
            | some ad =>
              obtain ⟨_, _, hxe, _⟩ := hx
              exact ⟨.int .i64 n, fun w => by simp [execOp, resolve, hcal, invoke, builtin, hy, hat', Builtin.len_, run_underlying hu, hxe, goInt], rfl⟩
          · cases hev
        · cases hc; simp [IOp.kind] at hk
        · cases hc
      · cases hc
    · split at hc
      · rcases compAppend_or hc with hc | hc
        · obtain ⟨_, _, _, _, _, _, _, _, rfl⟩ := compAppend_form hc; simp [IOp.kind] at hk
        · obtain ⟨_, _, _, _, _, _, _, _, _, _, rfl⟩ := compAppendZ_form hc; simp [IOp.kind] at hk
      · cases hc
    · rename_i hcal
      split at hc
      · rename_i t x hat hag
        obtain ⟨y, hy, rfl⟩ := args_one hag
        have hat' := types_one hat
        have hx := eval_VR he y
        split at hc
        · rename_i el hu
          cases hc
          simp only [evalP] at hev
          split at hev
          · rename_i ad n cp had
            rw [had] at hx
            cases hev
            cases ad with
            | none =>
              obtain ⟨rfl, hcp, hxe⟩ := hx
              cases hcp
              exact ⟨.int .i64 0, fun w => by simp [execOp, resolve, hcal, invoke, builtin, hy, hat', Builtin.cap_, run_underlying hu, hxe, goInt], rfl⟩
            | some ad =>
              obtain ⟨_, cap', hxe, _, hcp, _⟩ := hx
              have := hcp cp rfl
              subst this
              exact ⟨.int .i64 cp, fun w => by simp [execOp, resolve, hcal, invoke, builtin, hy, hat', Builtin.cap_, run_underlying hu, hxe, goInt], rfl⟩
          · cases hev
        · cases hc
      · cases hc
    · split at hc
      · obtain ⟨_, _, _, _, _, _, _, rfl⟩ := compClear_form hc; simp [IOp.kind] at hk
      · cases hc
    · rename_i hcal
      split at hc
      · rename_i x y hag
        obtain ⟨x', y', hxy, rfl, rfl⟩ := args_two hag
        cases hc
        simp only [evalP] at hev
        have hx := eval_VR he x'
        have hy := eval_VR he y'
        split at hev
        · rename_i k m k' m' h1 h2
          rw [h1] at hx
          rw [h2] at hy
          split at hev
          · cases hev
            refine ⟨_, fun w => ?_, rfl⟩
            simp [execOp, resolve, hcal, invoke, builtin, hxy, Builtin.max_, VR_int hx, VR_int hy, Builtin.max2]
          · cases hev
        · cases hev
      · cases hc
    · rename_i hcal
      split at hc
      · rename_i x y hag
        obtain ⟨x', y', hxy, rfl, rfl⟩ := args_two hag
        cases hc
        simp only [evalP] at hev
        have hx := eval_VR he x'
        have hy := eval_VR he y'
        split at hev
        · rename_i k m k' m' h1 h2
          rw [h1] at hx
          rw [h2] at hy
          split at hev
          · cases hev
            refine ⟨_, fun w => ?_, rfl⟩
            simp [execOp, resolve, hcal, invoke, builtin, hxy, Builtin.min_, VR_int hx, VR_int hy, Builtin.min2]
          · cases hev
        · cases hev
      · cases hc
    · cases hc
  | range t x =>
    simp only [compOp] at hc
    split at hc
    · cases hc; simp [IOp.kind] at hk
    · cases hc
  | next it str =>
    simp only [compOp] at hc
    split at hc
    · cases hc
    · cases hc; simp [IOp.kind] at hk
  | load t x => simp only [compOp, Option.bind_eq_bind, Option.pure_def, Option.bind_eq_some_iff] at hc; obtain ⟨n, _, hc⟩ := hc; cases hc; simp [IOp.kind] at hk
  | store t x y => simp only [compOp, Option.bind_eq_bind, Option.pure_def, Option.bind_eq_some_iff] at hc; obtain ⟨n, _, hc⟩ := hc; cases hc; simp [IOp.kind] at hk
  | alloc t => simp only [compOp, Option.map_eq_some_iff] at hc; obtain ⟨n, _, rfl⟩ := hc; simp [IOp.kind] at hk
  | box t x => simp only [compOp] at hc; cases hc; simp [IOp.kind] at hk
  | buildSlice t len parts =>
    simp only [compOp, Option.bind_eq_bind, Option.pure_def, Option.bind_eq_some_iff] at hc
    obtain ⟨_, _, _, _, _, _, hc⟩ := hc
    split at hc
    · cases hc
    · simp only [Option.bind_eq_some_iff] at hc; obtain ⟨_, _, hc⟩ := hc; cases hc; simp [IOp.kind] at hk
  | makeMap t r =>
    simp only [compOp] at hc
    split at hc
    · cases hc; simp [IOp.kind] at hk
    · cases hc
  | makeSlice t l c =>
    simp only [compOp, Option.bind_eq_bind, Option.pure_def, Option.bind_eq_some_iff] at hc
    obtain ⟨_, _, _, _, _, _, hc⟩ := hc
    split at hc
    · cases hc
    · cases hc; simp [IOp.kind] at hk
  | lookup t m k ok =>
    simp only [compOp, Option.bind_eq_bind, Option.pure_def, Option.bind_eq_some_iff] at hc
    obtain ⟨_, _, _, _, _, _, _, _, hc⟩ := hc
    cases hc; simp [IOp.kind] at hk
  | mapEntry t m k =>
    simp only [compOp, Option.bind_eq_bind, Option.pure_def, Option.bind_eq_some_iff] at hc
    obtain ⟨_, _, _, _, _, _, _, _, hc⟩ := hc
    cases hc; simp [IOp.kind] at hk
  | entryStore t m st v =>
    simp only [compOp] at hc
    cases hc; simp [IOp.kind] at hk
  | mapUpdate t m k v =>
    simp only [compOp, Option.bind_eq_bind, Option.pure_def, Option.bind_eq_some_iff] at hc
    obtain ⟨_, _, _, _, hc⟩ := hc
    cases hc; simp [IOp.kind] at hk
  | insert t m k v =>
    simp only [compOp, Option.bind_eq_bind, Option.pure_def, Option.bind_eq_some_iff] at hc
    obtain ⟨_, _, _, _, hc⟩ := hc
    cases hc; simp [IOp.kind] at hk
  | _ => simp [compOp] at hc
end
end Go.IM
