/- The frame: what the ideal machine does in a small store it does in any greater one, under other numbers; what it does not know of stays. -/
import Derived.Test.YtfcaamoapdibiaaGreatDoorIm12
set_option linter.unusedSimpArgs false
set_option linter.unusedVariables false
namespace Go.IM

section
variable (π : Nat → Nat)

def Id.ren : Id → Id
  | .old b => .old b
  | .new k => .new (π k)

def Ad.ren (a : Ad) : Ad := ⟨a.id.ren π, a.off⟩

/-- A function's number; that of a yield. -/
def fren (f : Nat) : Nat := if f < yBase then f else yBase + π (f - yBase)
theorem fren_low {f : Nat} (h : f < yBase) : fren π f = f := if_pos h
theorem fren_yield (k : Nat) : fren π (yBase + k) = yBase + π k := by
  unfold fren
  rw [if_neg (by omega), show yBase + k - yBase = k from by omega]

mutual
def V.ren : V → V
  | .ptr a => .ptr (a.map (Ad.ren π))
  | .slice a n c => .slice (a.map (Ad.ren π)) n c
  | .map r => .map (r.map (Id.ren π))
  | .func f p c => .func (fren π f) (renL p) (renL c)
  | .iface t v => .iface t (V.ren v)
  | .agg cs => .agg (renL cs)
  | .tuple cs => .tuple (renL cs)
  | v => v
def renL : List V → List V
  | [] => []
  | v :: l => V.ren v :: renL l
end

theorem renL_eq : ∀ l : List V, renL π l = l.map (V.ren π)
  | [] => rfl
  | v :: l => by simp [renL, renL_eq l]

def O.ren : O → O
  | .cells cs g => .cells (cs.map (V.ren π)) g
  | .map es c => .map (es.map fun e => (e.1.ren π, e.2.1.ren π, e.2.2)) c
  | .loop st => .loop st
  | .iter m => .iter (m.map (Id.ren π))
end

mutual
/-- No number of a new object in it. -/
def V.shut : V → Bool
  | .ptr (some ⟨.new _, _⟩) => false
  | .slice (some ⟨.new _, _⟩) _ _ => false
  | .map (some (.new _)) => false
  | .func f p c => decide (f < yBase) && shutL p && shutL c
  | .iface _ v => V.shut v
  | .agg cs => shutL cs
  | .tuple cs => shutL cs
  | _ => true
def shutL : List V → Bool
  | [] => true
  | v :: l => V.shut v && shutL l
end

def Arg.shut : Arg → Bool
  | .t _ => true
  | .c v => v.shut

/-- The zero values in an operation. -/
def IOp.zeros : IOp → List V
  | .alloc z | .build z _ | .buildSlice _ z _ | .mkSlice _ z _ _ | .appendZ _ _ z _ _ | .clearSlice z _ => z
  | .lookup _ z _ _ _ | .mapEnt _ z _ _ => [z]
  | .again _ op => op.zeros
  | _ => []

/-- No yield is named. -/
def IOp.low : IOp → Bool
  | .call f _ | .mkFunc f _ _ => decide (f < yBase)
  | .again _ op => op.low
  | _ => true

def IOp.shut (o : IOp) : Bool := (o.args.all Arg.shut && shutL o.zeros) && o.low

def IC.shut : IC → Bool
  | .region ops _ => ops.all fun i => i.op.shut
  | .seq a b => a.shut && b.shut
  | .cond c a b => c.shut && a.shut && b.shut
  | .block _ a | .loop a => a.shut
  | .range f _ a b => f.shut && a.shut && b.shut
  | .dfr f l a => f.shut && l.all Arg.shut && a.shut
  | _ => true

section
variable {π : Nat → Nat} {s t : St}

mutual
theorem V.ren_shut : ∀ {v : V}, v.shut = true → v.ren π = v
  | .ptr none, _ => rfl
  | .ptr (some ⟨.old _, _⟩), _ => rfl
  | .ptr (some ⟨.new _, _⟩), h => by simp [V.shut] at h
  | .slice none _ _, _ => rfl
  | .slice (some ⟨.old _, _⟩) _ _, _ => rfl
  | .slice (some ⟨.new _, _⟩) _ _, h => by simp [V.shut] at h
  | .map none, _ => rfl
  | .map (some (.old _)), _ => rfl
  | .map (some (.new _)), h => by simp [V.shut] at h
  | .func f p c, h => by
    simp only [V.shut, Bool.and_eq_true, decide_eq_true_eq] at h
    simp only [V.ren, fren_low π h.1.1, renL_shut h.1.2, renL_shut h.2]
  | .iface t v, h => by simp only [V.shut] at h; simp only [V.ren, V.ren_shut h]
  | .agg cs, h => by simp only [V.shut] at h; simp only [V.ren, renL_shut h]
  | .tuple cs, h => by simp only [V.shut] at h; simp only [V.ren, renL_shut h]
  | .any, _ | .bool _, _ | .int _ _, _ | .str _, _ | .nilFunc, _ | .nilIface, _ | .junk _, _ => by simp [V.ren]
theorem renL_shut : ∀ {l : List V}, shutL l = true → renL π l = l
  | [], _ => rfl
  | v :: l, h => by
    simp only [shutL, Bool.and_eq_true] at h
    simp only [renL, V.ren_shut h.1, renL_shut h.2]
end

theorem map_shut {l : List V} (h : shutL l = true) : l.map (V.ren π) = l := by rw [← renL_eq]; exact renL_shut h

@[simp] theorem ren_any : V.ren π .any = .any := rfl
@[simp] theorem ren_bool (b : Bool) : V.ren π (.bool b) = .bool b := rfl
@[simp] theorem ren_int (k : IntKind) (n : Int) : V.ren π (.int k n) = .int k n := rfl
@[simp] theorem ren_str (s : ByteArray) : V.ren π (.str s) = .str s := rfl
@[simp] theorem ren_wrapI (k : IntKind) (n : Int) : V.ren π (wrapI k n) = wrapI k n := rfl

theorem ren_cells (v : V) : (v.ren π).cells = v.cells.map (V.ren π) := by
  cases v <;> simp [V.ren, V.cells, renL_eq]

theorem ren_one (v : V) : (v.ren π).one = v.one := by
  cases v <;> simp [V.ren, V.one]

theorem ren_all_one (l : List V) : (l.map (V.ren π)).all V.one = l.all V.one := by
  induction l with
  | nil => rfl
  | cons v l ih => simp only [List.map_cons, List.all_cons, ren_one, ih]

def rE (π : Nat → Nat) (e : Env) : Env := e.map (V.ren π)

theorem ev_ren {e : Env} {x : Arg} (h : x.shut = true) : ev (rE π e) x = (ev e x).ren π := by
  cases x with
  | t i =>
    simp only [ev, rE, List.getD, List.getElem?_map]
    cases e[i]? <;> simp
  | c v => exact (V.ren_shut h).symm

theorem put_ren (e : Env) (d : Option Nat) (v : V) : rE π (put e d v) = put (rE π e) d (v.ren π) := by
  cases d with
  | none => rfl
  | some d => simp [put, rE, List.map_set]

theorem mask_ren : ∀ (bs : List Bool) (e : Env), rE π (maskEnv bs e) = maskEnv bs (rE π e)
  | [], _ => rfl
  | _ :: _, [] => rfl
  | b :: bs, v :: e => by
    have := mask_ren bs e
    simp only [rE] at this
    cases b <;> simp [maskEnv, rE, this]

theorem wanted_ren (e : Env) (g : Option (Nat × Bool)) {b : Bool} (h : wantedI e g = some b) : wantedI (rE π e) g = some b := by
  cases g with
  | none => exact h
  | some p =>
    obtain ⟨t, want⟩ := p
    have := ev_ren (π := π) (e := e) (x := .t t) rfl
    simp only [ev] at this
    simp only [wantedI, this] at h ⊢
    cases hv : e.getD t .any <;> simp_all [V.ren]

theorem asNat_ren (v : V) : asNat (v.ren π) = asNat v := by cases v <;> rfl

theorem intI_ren {op : BinOp} {k : IntKind} {a b : Int} {v : V} (h : intI op k a b = some v) : v.ren π = v := by
  unfold intI at h
  split at h <;> first | (split at h <;> first | (cases h; rfl) | cases h) | (cases h; rfl) | cases h

theorem binI_ren {op : BinOp} {x y v : V} (h : binI op x y = some v) : binI op (x.ren π) (y.ren π) = some (v.ren π) := by
  unfold binI at h
  split at h
  · rename_i k a k' b
    have hv : v.ren π = v := by
      split at h
      · split at h
        · cases h
        · cases h; rfl
      · split at h
        · cases h
        · cases h; rfl
      · split at h
        · exact intI_ren h
        · cases h
    rw [hv]
    exact h
  · have hv : v.ren π = v := by
      split at h <;> first | (split at h <;> first | (cases h; rfl) | cases h) | (cases h; rfl) | cases h
    rw [hv]
    exact h
  · cases h

theorem cellEq_ren (k : CK) (x y : V) : cellEq k (x.ren π) (y.ren π) = cellEq k x y := by
  cases k <;> cases x <;> cases y <;> rfl

theorem cellsEq_ren : ∀ (ks : List CK) (xs ys : List V), cellsEq ks (xs.map (V.ren π)) (ys.map (V.ren π)) = cellsEq ks xs ys
  | [], [], [] => rfl
  | [], [], _ :: _ => rfl
  | [], _ :: _, _ => rfl
  | _ :: _, [], _ => rfl
  | _ :: _, _ :: _, [] => rfl
  | k :: ks, x :: xs, y :: ys => by simp only [List.map_cons, cellsEq, cellEq_ren, cellsEq_ren ks xs ys]

theorem keyEq_ren (k : KT) (x y : V) : keyEq k (x.ren π) (y.ren π) = keyEq k x y := by
  cases k with
  | one k => exact cellEq_ren k x y
  | agg ks =>
    cases x <;> cases y <;> simp only [V.ren, keyEq, renL_eq]
    exact cellsEq_ren _ _ _

theorem eqI_ren (k : EK) (x y : V) : eqI k (x.ren π) (y.ren π) = eqI k x y := by
  cases k with
  | key k => exact keyEq_ren k x y
  | ptr => cases x with
    | ptr a => cases a <;> cases y <;> simp [V.ren, eqI]
               all_goals (rename_i b; cases b <;> simp)
    | _ => cases y <;> simp [V.ren, eqI]
  | func => cases x <;> cases y <;> simp [V.ren, eqI]
  | slice => cases x with
    | slice a n c => cases a <;> cases y <;> simp [V.ren, eqI]
                     all_goals (rename_i b _ _; cases b <;> simp)
    | _ => cases y <;> simp [V.ren, eqI]
  | map => cases x with
    | map a => cases a <;> cases y <;> simp [V.ren, eqI]
               all_goals (rename_i b; cases b <;> simp)
    | _ => cases y <;> simp [V.ren, eqI]

theorem unI_ren {op : UnOp} {x v : V} (h : unI op x = some v) : unI op (x.ren π) = some (v.ren π) := by
  unfold unI at h
  split at h
  · cases h; rfl
  · cases h; rfl
  · cases h

theorem over_ren (cs : List V) (off : Nat) (vs : List V) : (over cs off vs).map (V.ren π) = over (cs.map (V.ren π)) off (vs.map (V.ren π)) := by
  simp [over, List.map_take, List.map_drop]

theorem cut_ren (cs : List V) (off n : Nat) : cut (cs.map (V.ren π)) off n = (cut cs off n).map (List.map (V.ren π)) := by
  unfold cut
  simp only [List.length_map]
  split <;> simp [List.map_take, List.map_drop]

theorem fillI_ren (e : Env) : ∀ (ps : List (Nat × Nat × Arg)) (cells cs : List V), (ps.all fun p => p.2.2.shut) = true → fillI e cells ps = some cs → fillI (rE π e) (cells.map (V.ren π)) ps = some (cs.map (V.ren π))
  | [], cells, cs, _, h => by simp only [fillI, Option.some.injEq] at h ⊢; rw [h]
  | (off, size, x) :: ps, cells, cs, hs, h => by
    simp only [List.all_cons, Bool.and_eq_true] at hs
    simp only [fillI] at h ⊢
    split at h
    · rename_i hc
      rw [ev_ren hs.1, ren_cells, ren_all_one, List.length_map, List.length_map, if_pos hc, ← over_ren]
      exact fillI_ren e ps _ _ hs.2 h
    · cases h

theorem partI_ren {n : Option Nat} {cs : List V} {off : Nat} {v : V} (h : partI n cs off = some v) : partI n (cs.map (V.ren π)) off = some (v.ren π) := by
  cases n with
  | none => simp only [partI, List.getElem?_map] at h ⊢; rw [h]; rfl
  | some n =>
    simp only [partI, cut_ren, Option.map_eq_some_iff] at h ⊢
    obtain ⟨c, h, rfl⟩ := h
    exact ⟨_, ⟨c, h, rfl⟩, by simp [V.ren, renL_eq]⟩

theorem packI_ren {n : Option Nat} {cs : List V} {v : V} (h : packI n cs = some v) : packI n (cs.map (V.ren π)) = some (v.ren π) := by
  cases n with
  | none => simp only [packI, List.head?_map] at h ⊢; rw [h]; rfl
  | some n => simp only [packI, Option.some.injEq] at h ⊢; subst h; simp [V.ren, renL_eq]

theorem sliceStrI_ren {x v : V} {lo hi : Option V} (h : sliceStrI x lo hi = some v) : sliceStrI (x.ren π) (lo.map (V.ren π)) (hi.map (V.ren π)) = some (v.ren π) := by
  cases x with
  | str s =>
    have e1 : ∀ o : Option V, sliceStrI (.str s) (lo.map (V.ren π)) (hi.map (V.ren π)) = sliceStrI (.str s) lo hi := fun _ => by
      cases lo <;> cases hi <;> simp [sliceStrI, asNat_ren]
    rw [show V.ren π (.str s) = .str s from rfl, e1 none, h]
    simp only [sliceStrI, Option.bind_eq_some_iff] at h
    obtain ⟨_, _, _, _, h⟩ := h
    cases h; rfl
  | _ => simp [sliceStrI] at h

theorem sliceI_ren {sz : Nat} {x v : V} {lo hi mx : Option V} (h : sliceI sz x lo hi mx = some v) : sliceI sz (x.ren π) (lo.map (V.ren π)) (hi.map (V.ren π)) (mx.map (V.ren π)) = some (v.ren π) := by
  cases x with
  | slice a len cap =>
    cases cap with
    | some cap =>
      simp only [sliceI, Option.bind_eq_some_iff] at h
      obtain ⟨m, hm, h', hh, l, hl, h⟩ := h
      split at h
      · rename_i hc
        cases h
        simp only [V.ren, sliceI, Option.bind_eq_some_iff]
        refine ⟨m, by cases mx <;> simpa [asNat_ren] using hm, h', by cases hi <;> cases mx <;> first | (simp at hh; done) | simpa [asNat_ren] using hh, l, by cases lo <;> simpa [asNat_ren] using hl, ?_⟩
        rw [if_pos hc]
        split <;> cases a <;> simp [V.ren, Ad.ren]
      · cases h
    | none =>
      cases a with
      | none => simp [sliceI] at h
      | some a =>
        simp only [sliceI, Option.bind_eq_some_iff] at h
        obtain ⟨m, hm, h', hh, l, hl, h⟩ := h
        split at h
        · rename_i hc
          cases h
          simp only [V.ren, sliceI, Option.map_some, Option.bind_eq_some_iff]
          refine ⟨m, by cases mx <;> simpa [asNat_ren] using hm, h', by cases hi <;> cases mx <;> first | (simp at hh; done) | simpa [asNat_ren] using hh, l, by cases lo <;> simpa [asNat_ren] using hl, ?_⟩
          rw [if_pos hc]
          cases mx <;> simp [V.ren, Ad.ren]
        · cases h
  | _ => simp [sliceI] at h

theorem map_ev_ren {e : Env} {l : List Arg} (h : l.all Arg.shut = true) : l.map (ev (rE π e)) = (l.map (ev e)).map (V.ren π) := by
  induction l with
  | nil => rfl
  | cons x l ih =>
    simp only [List.all_cons, Bool.and_eq_true] at h
    simp only [List.map_cons, ev_ren h.1, ih h.2]

theorem omap_ev_ren {e : Env} {o : Option Arg} (h : o.toList.all Arg.shut = true) : o.map (ev (rE π e)) = (o.map (ev e)).map (V.ren π) := by
  cases o with
  | none => rfl
  | some x => simp only [Option.toList_some, List.all_cons, List.all_nil, Bool.and_true] at h; simp only [Option.map_some, ev_ren h]

theorem ofFill {e : Env} {ps : List (Nat × Nat × Arg)} (h : (ps.map fun p => p.2.2).all Arg.shut = true) : (ps.all fun p => p.2.2.shut) = true := by
  simpa [List.all_map, Function.comp_def] using h

theorem evalP_ren {op : IOp} {e : Env} {v : V} (hs : op.shut = true) (h : evalP op e = some v) : evalP op (rE π e) = some (v.ren π) := by
  simp only [IOp.shut, Bool.and_eq_true] at hs
  obtain ⟨⟨ha, hz⟩, hlow⟩ := hs
  cases op <;> simp only [IOp.args, IOp.zeros, List.all_cons, List.all_nil, List.all_append, Bool.and_eq_true, Bool.and_true, and_true] at ha hz <;> simp only [evalP, reduceCtorEq] at h ⊢
  case mov x => cases h; rw [ev_ren ha]
  case pick c a b =>
    obtain ⟨h1, h2, h3⟩ := ha
    rw [ev_ren h1, ev_ren h2, ev_ren h3]
    cases hc : ev e c <;> rw [hc] at h <;> simp only [Option.some.injEq, reduceCtorEq] at h
    subst h
    rename_i b'
    cases b' <;> rfl
  case build z ps =>
    simp only [Option.map_eq_some_iff] at h ⊢
    obtain ⟨cs, h, rfl⟩ := h
    refine ⟨_, by have := fillI_ren (π := π) e ps z cs (ofFill (e := e) ha) h; rwa [map_shut hz] at this, by simp [V.ren, renL_eq]⟩
  case nilCheck x =>
    rw [ev_ren ha]
    cases hx : ev e x <;> rw [hx] at h <;> (try simp only [reduceCtorEq] at h)
    · rename_i a; cases a <;> simp only [Option.some.injEq, reduceCtorEq] at h; subst h; rfl
    · simp only [Option.some.injEq] at h; subst h; simp [V.ren]
  case bin op x y => rw [ev_ren ha.1, ev_ren ha.2]; exact binI_ren h
  case eql neg k x y =>
    rw [ev_ren ha.1, ev_ren ha.2, eqI_ren]
    simp only [Option.map_eq_some_iff] at h ⊢
    obtain ⟨b, h, rfl⟩ := h
    exact ⟨b, h, rfl⟩
  case un op x => rw [ev_ren ha]; exact unI_ren h
  case conv k x =>
    rw [ev_ren ha]
    cases hx : ev e x <;> rw [hx] at h <;> simp only [Option.some.injEq, reduceCtorEq] at h
    subst h; rfl
  case mkFunc f pre caps =>
    cases h
    simp only [IOp.low, decide_eq_true_eq] at hlow
    simp only [V.ren, fren_low π hlow, renL_eq, map_ev_ren ha.1, map_ev_ren ha.2]
  case sliceStr x lo hi =>
    rw [ev_ren ha.1, omap_ev_ren ha.2.1, omap_ev_ren ha.2.2]
    exact sliceStrI_ren h
  case lenStr x =>
    rw [ev_ren ha]
    cases hx : ev e x <;> rw [hx] at h <;> simp only [Option.some.injEq, reduceCtorEq] at h
    subst h; rfl
  case lenSlice x =>
    rw [ev_ren ha]
    cases hx : ev e x <;> rw [hx] at h <;> simp only [Option.some.injEq, reduceCtorEq] at h
    subst h; rfl
  case slice sz x lo hi mx =>
    rw [ev_ren ha.1, omap_ev_ren ha.2.1.1, omap_ev_ren ha.2.1.2, omap_ev_ren ha.2.2]
    exact sliceI_ren h
  case fieldAddr off x =>
    rw [ev_ren ha]
    cases hx : ev e x <;> rw [hx] at h <;> (try simp only [reduceCtorEq] at h)
    rename_i a; cases a <;> simp only [Option.some.injEq, reduceCtorEq] at h; subst h; rfl
  case field off n x =>
    rw [ev_ren ha]
    cases hx : ev e x <;> rw [hx] at h <;> (try simp only [reduceCtorEq] at h)
    simp only [V.ren, renL_eq]
    exact partI_ren h
  case indexAddr sz x i =>
    rw [ev_ren ha.1, ev_ren ha.2]
    cases hx : ev e x <;> rw [hx] at h <;> (try simp only [reduceCtorEq] at h)
    rename_i a n c
    cases a <;> simp only [reduceCtorEq] at h
    simp only [V.ren, Option.map_some, asNat_ren, Option.bind_eq_some_iff] at h ⊢
    obtain ⟨m, h1, h2⟩ := h
    refine ⟨m, h1, ?_⟩
    split at h2
    · rename_i hm; rw [if_pos hm]; cases h2; rfl
    · cases h2
  case indexStr x i =>
    rw [ev_ren ha.1, ev_ren ha.2]
    cases hx : ev e x <;> rw [hx] at h <;> (try simp only [reduceCtorEq] at h)
    simp only [V.ren, asNat_ren, Option.bind_eq_some_iff, Option.map_eq_some_iff] at h ⊢
    obtain ⟨m, h1, c, h2, rfl⟩ := h
    exact ⟨m, h1, c, h2, rfl⟩
  case extract x i =>
    rw [ev_ren ha]
    cases hx : ev e x <;> rw [hx] at h <;> (try simp only [reduceCtorEq] at h)
    simp only [V.ren, renL_eq, List.getElem?_map, h, Option.map_some]
  case capSlice x =>
    rw [ev_ren ha]
    cases hx : ev e x <;> rw [hx] at h <;> (try simp only [reduceCtorEq] at h)
    rename_i a n c
    cases c <;> simp only [reduceCtorEq, Option.some.injEq] at h
    subst h
    rfl
  case minmax mx x y =>
    rw [ev_ren ha.1, ev_ren ha.2]
    cases hx : ev e x <;> rw [hx] at h <;> (try simp only [reduceCtorEq] at h)
    cases hy : ev e y <;> rw [hy] at h <;> (try simp only [reduceCtorEq] at h)
    simp only [V.ren]
    split at h
    · rename_i hk
      cases h
      rw [if_pos hk]; rfl
    · cases h
  all_goals cases h

/-- A store in a greater one. -/
structure Ren (π : Nat → Nat) (s t : St) : Prop where
  next : ∀ k, s.next ≤ k → π k = t.next + (k - s.next)
  obj : ∀ k o, s.new k = some o → t.new (π k) = some (o.ren π)
  old : ∀ b o, s.old b = some o → t.old b = some (o.ren π)
  inj : ∀ k k', π k = π k' → k = k'

theorem Ren.get (h : Ren π s t) {i : Id} {o : O} (hg : s.get i = some o) : t.get (i.ren π) = some (o.ren π) := by
  cases i with
  | old b => exact h.old b o hg
  | new k => exact h.obj k o hg

theorem Ren.row (h : Ren π s t) {i : Id} {cs : List V} {g : Option Nat} (hr : s.row i = some (cs, g)) : t.row (i.ren π) = some (cs.map (V.ren π), g) := by
  unfold St.row at hr ⊢
  split at hr
  · rename_i cs' g' hg
    cases hr
    rw [h.get hg]; rfl
  · cases hr

theorem Ren.readCells (h : Ren π s t) {a : Ad} {n : Nat} {cs : List V} (hr : readCells s a n = some cs) : readCells t (a.ren π) n = some (cs.map (V.ren π)) := by
  unfold IM.readCells at hr ⊢
  split at hr
  · rename_i c g hg
    have := h.row hg
    simp only [Ad.ren, this, cut_ren, hr, Option.map_some]
  · cases hr

theorem findI_ren (kt : KT) (k : V) : ∀ (es : List (V × V × Nat)) (i : Nat), findI kt (k.ren π) (es.map fun e => (e.1.ren π, e.2.1.ren π, e.2.2)) i = (findI kt k es i).map fun r => r.map fun q => (q.1, q.2.ren π)
  | [], i => rfl
  | (x, v, n) :: es, i => by
    simp only [List.map_cons, findI, keyEq_ren]
    cases hb : keyEq kt k x with
    | none => rfl
    | some b =>
      simp only [Option.bind_some]
      cases b with
      | false => simpa using findI_ren kt k es (i + 1)
      | true => simp

theorem lookupI_ren (h : Ren π s t) {kt : KT} {z : V} {ok : Bool} {m k v : V} (hz : z.ren π = z) (hl : lookupI kt z ok m k s = some v) : lookupI kt z ok (m.ren π) (k.ren π) t = some (v.ren π) := by
  unfold lookupI at hl ⊢
  simp only [Option.bind_eq_some_iff] at hl ⊢
  obtain ⟨es, he, hl⟩ := hl
  refine ⟨es.map fun e => (e.1.ren π, e.2.1.ren π, e.2.2), ?_, ?_⟩
  · cases m <;> (try simp only [reduceCtorEq] at he)
    rename_i r
    cases r with
    | none => simp only [Option.some.injEq] at he; subst he; rfl
    | some i =>
      simp only [V.ren, Option.map_some] at he ⊢
      split at he
      · rename_i es' c hg
        cases he
        rw [h.get hg]; rfl
      · cases he
  · rw [keyEq_ren]
    split at hl
    · cases hl
    · rename_i hk
      rw [if_neg hk]
      simp only [Option.bind_eq_some_iff] at hl ⊢
      obtain ⟨r, hr, hl⟩ := hl
      refine ⟨_, by rw [findI_ren, hr]; rfl, ?_⟩
      cases hl
      cases r <;> cases ok <;> simp [V.ren, renL, hz]

theorem lenMapI_ren (h : Ren π s t) {x v : V} (hl : lenMapI x s = some v) : lenMapI (x.ren π) t = some (v.ren π) := by
  cases x <;> simp only [lenMapI, reduceCtorEq] at hl
  rename_i r
  cases r with
  | none => simp only [Option.some.injEq] at hl; subst hl; rfl
  | some i =>
    simp only at hl
    simp only [V.ren, Option.map_some, lenMapI]
    split at hl
    · rename_i es' c hg
      cases hl
      rw [h.get hg]
      simp [O.ren]
    · cases hl

theorem evalLook_ren (h : Ren π s t) {op : IOp} {e : Env} {v : V} (hs : op.shut = true) (hl : evalLook op e s = some v) : evalLook op (rE π e) t = some (v.ren π) := by
  simp only [IOp.shut, Bool.and_eq_true] at hs
  obtain ⟨⟨ha, hz⟩, hlow⟩ := hs
  cases op <;> simp only [IOp.args, IOp.zeros, List.all_cons, List.all_nil, List.all_append, Bool.and_eq_true, Bool.and_true, and_true] at ha hz <;> simp only [evalLook, reduceCtorEq] at hl ⊢
  case load n a =>
    rw [ev_ren ha]
    cases hx : ev e a <;> rw [hx] at hl <;> (try simp only [reduceCtorEq] at hl)
    rename_i r
    cases r <;> simp only [reduceCtorEq] at hl
    simp only [Option.bind_eq_some_iff] at hl
    obtain ⟨cs, h1, h2⟩ := hl
    simp only [V.ren, Option.map_some, h.readCells h1, Option.bind_some]
    exact packI_ren h2
  case lookup kt z ok m k =>
    rw [ev_ren ha.1, ev_ren ha.2]
    exact lookupI_ren h (by simp only [shutL, Bool.and_true] at hz; exact V.ren_shut hz) hl
  case lenMap x => rw [ev_ren ha]; exact lenMapI_ren h hl

mutual
theorem beqV_ren : ∀ {a b : V}, beqV a b = true → beqV (a.ren π) (b.ren π) = true := by
  intro a b h
  match a, b with
  | .bool _, .bool _ | .int _ _, .int _ _ | .str _, .str _ | .nilFunc, .nilFunc | .nilIface, .nilIface => exact h
  | .ptr _, .ptr _ => simp only [beqV, beq_iff_eq] at h; subst h; simp [beqV, V.ren]
  | .slice _ _ _, .slice _ _ _ => simp only [beqV, Bool.and_eq_true, beq_iff_eq] at h; obtain ⟨⟨rfl, rfl⟩, rfl⟩ := h; simp [beqV, V.ren]
  | .map _, .map _ => simp only [beqV, beq_iff_eq] at h; subst h; simp [beqV, V.ren]
  | .func f p c, .func f' p' c' =>
    simp only [beqV, Bool.and_eq_true, beq_iff_eq] at h
    simp only [beqV, V.ren, Bool.and_eq_true, beq_iff_eq]
    exact ⟨⟨by rw [h.1.1], beqVs_ren h.1.2⟩, beqVs_ren h.2⟩
  | .iface t x, .iface t' y =>
    simp only [beqV, Bool.and_eq_true, beq_iff_eq] at h
    simp only [beqV, V.ren, Bool.and_eq_true, beq_iff_eq]
    exact ⟨h.1, beqV_ren h.2⟩
  | .agg x, .agg y => simp only [beqV] at h; simp only [beqV, V.ren]; exact beqVs_ren h
  | .tuple x, .tuple y => simp only [beqV] at h; simp only [beqV, V.ren]; exact beqVs_ren h
theorem beqVs_ren : ∀ {a b : List V}, beqVs a b = true → beqVs (renL π a) (renL π b) = true := by
  intro a b h
  match a, b with
  | [], [] => rfl
  | x :: xs, y :: ys =>
    simp only [beqVs, Bool.and_eq_true] at h
    simp only [beqVs, renL, Bool.and_eq_true]
    exact ⟨beqV_ren h.1, beqVs_ren h.2⟩
end
end
end Go.IM
