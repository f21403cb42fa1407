/- Acts that are handed in, read on the ideal machine. -/
import Derived.Test.YtoldkemimhebaaaPg3
import Derived.Deep.Grids
set_option linter.unusedSimpArgs false
set_option linter.unusedVariables false
namespace Go.Proofs.Ytoldkemimhebaaa
open Go Go.IM Go.ChangeShapes Go.WideShapes Go.RowKit

section
variable {H : Type} {enc : TypeId × Value → H} {W : Go.World}
set_option maxRecDepth 10000

theorem ofVals_map : ∀ l : List Value, ofVals l = l.map ofVal
  | [] => rfl
  | v :: l => by rw [ofVals, ofVals_map l]; rfl

/-- Cells of old memory, on the ideal machine. -/
theorem rd {base n : Nat} {a : Addr} {cs : List Value} (hn : 0 < n) (h : W.cells? base a n = some cs) : a.spot = none ∧ ∃ C, (oldSt W).old a.block = some (.cells C none) ∧ cut C a.off n = some (ofVals cs) := by
  obtain ⟨_, hlen, hc⟩ := Go.World.cells?_some h
  have h0 := hc 0 hn
  rw [show a.add 0 = a from rfl, List.getElem?_eq_getElem (by omega)] at h0
  unfold Go.World.cell? at h0
  split at h0
  · rename_i c el fr hb
    split at h0
    · cases h0
    · rename_i hs
      refine ⟨by simpa using hs, ofVals c.toList, by simp [oldSt, hb], ?_⟩
      have hget : ∀ i, i < n → c[a.off + i]? = cs[i]? := by
        intro i hi
        have := hc i hi
        rw [← this]
        unfold Go.World.cell? Addr.add
        by_cases h0 : i = 0
        · subst h0; simp [hb, hs]
        · simp [h0, hb]
      have hsz : a.off + n ≤ c.size := by
        have := hget (n - 1) (by omega)
        rw [List.getElem?_eq_getElem (by omega)] at this
        have := (Array.getElem?_eq_some_iff.1 this).1
        omega
      rw [ofVals_map, ofVals_map]
      unfold cut
      rw [if_pos (by simp; exact hsz)]
      congr 1
      apply List.ext_getElem?
      intro i
      by_cases hi : i < n
      · rw [List.getElem?_take, if_pos hi, List.getElem?_drop, List.getElem?_map, List.getElem?_map, Array.getElem?_toList, hget i hi]
      · rw [List.getElem?_eq_none (by simp; omega), List.getElem?_eq_none (by simp; omega)]
  · cases h0

theorem cut_get {l cs : List V} {off n : Nat} (h : cut l off n = some cs) {i : Nat} (hi : i < n) : l[off + i]? = cs[i]? := by
  unfold cut at h
  split at h
  · cases h
    rw [List.getElem?_take, if_pos hi, List.getElem?_drop]
  · cases h

theorem old_load {o : Nat → Option O} {s : St} {b off n : Nat} {C cs : List V} {g : Option Nat} (hs : s.old = o) (hb : o b = some (.cells C g)) (hc : cut C off n = some cs) : loadV (some n) (.ptr (some ⟨.old b, off⟩)) s = some (.agg cs) := by
  rw [loadV_ptr]
  show (readCells s ⟨.old b, off⟩ n).bind (packI (some n)) = _
  simp only [readCells, St.row, St.get, hs, hb, hc]
  rfl
theorem old_load1 {o : Nat → Option O} {s : St} {b off : Nat} {C : List V} {g : Option Nat} {v : V} (hs : s.old = o) (hb : o b = some (.cells C g)) (hc : C[off]? = some v) : loadV none (.ptr (some ⟨.old b, off⟩)) s = some v := by
  rw [loadV_ptr]
  show (readCells s ⟨.old b, off⟩ 1).bind (packI none) = _
  simp only [readCells, St.row, St.get, hs, hb]
  rw [cut_one', hc]

theorem ix_old {sz len cap i : Nat} {b off : Nat} {kk : IntKind} (h : i < len) : ixV sz (.slice (some ⟨.old b, off⟩) len (some cap)) (.int kk (i : Int)) = some (.ptr (some ⟨.old b, off + i * sz⟩)) := by
  rw [ixV_int (by omega) (by omega)]
  simp

/-- A slice's value. -/
theorem ofVal_slice {a : Addr} {len cap : Nat} (hl : len ≤ cap) (hsp : 0 < cap → a.spot = none) : ofVal (.slice (some a) len cap) = .slice (some ⟨.old a.block, a.off⟩) len (some cap) := by
  obtain ⟨b, off, sp⟩ := a
  cases sp with
  | none => simp [ofVal, hl]
  | some x =>
    have hc : cap = 0 := by
      rcases Nat.eq_zero_or_pos cap with h | h
      · exact h
      · have := hsp h; simp at this
    subst hc
    have : len = 0 := by omega
    subst this
    rfl

/-- Flags. -/
theorem someAt_of {fuel : Nat} {cs : List Value} {x : DataW H × List MemPlace} (h : DataW.trod enc Try.prog W 0 (fun _ => true) true fuel 48 cs = some x) :
    ∃ sa sn sc bs, ofVals cs = [.slice sa sn sc] ∧ ∀ y : ActG, y.sa = sa → y.sn = sn → y.sc = sc → SomeAt (oldSt W).old y bs := by
  rcases Go.Deep.open_bools (P := Try.prog) (t := 48) (e := 4) (by kernel_rfl) (by kernel_rfl) (by kernel_rfl) h with ⟨rfl, _⟩ | ⟨a, len, cap, B, rfl, hb, hl, hm, _, hB⟩
  · exact ⟨none, 0, some 0, [], rfl, fun y _ e _ => ⟨by rw [e]; rfl, fun i hi => by simp at hi⟩⟩
  · have hsp : 0 < cap → a.spot = none := by
      intro hc
      have := hB 0 hc
      rw [show a.add 0 = a from rfl] at this
      unfold Go.World.cell? at this
      split at this
      · split at this
        · cases this
        · rename_i h; simpa using h
      · cases this
    refine ⟨some ⟨.old a.block, a.off⟩, len, some cap, (List.range len).map B, by rw [ofVals, ofVal_slice hl hsp]; rfl, fun y e1 e2 e3 => ⟨by rw [e2]; simp, fun i hi => ?_⟩⟩
    simp at hi
    have hi' : i < y.sn := by omega
    rw [e1, e2, e3]
    refine ⟨⟨.old a.block, a.off + i * 1⟩, ix_old (by omega), fun s hs => ?_⟩
    have hc := hB i (by omega)
    unfold Go.World.cell? at hc
    split at hc
    · rename_i c el fr hbk
      split at hc
      · cases hc
      · have hbk' : W.heap[a.block]? = some (.cells c el fr) := by
          have : (a.add i).block = a.block := by unfold Addr.add; split <;> rfl
          rw [this] at hbk; exact hbk
        have hoff : (a.add i).off = a.off + i := by unfold Addr.add; split <;> simp_all
        rw [hoff] at hc
        refine old_load1 (C := ofVals c.toList) (g := none) hs (by simp [oldSt, hbk']) ?_
        rw [Nat.mul_one, ofVals_map, List.getElem?_map, Array.getElem?_toList, hc]
        simp [ofVal]
    · cases hc

theorem fields_of {fuel T : Nat} {cs : List Value} {x : DataW H × List MemPlace} {L : List (Nat × Nat)} (hL : (match Try.prog.underlying T with | some (.struct fs) => some (fs.toList.map fun f => (f.type, f.offset)) | _ => none) = some L)
    (h : DataW.trod enc Try.prog W 0 (fun _ => true) true fuel T cs = some x) : cs.length = Try.prog.cellsOf T ∧ ∃ n, ∀ (i T' off : Nat), L[i]? = some (T', off) → ∃ y, DataW.trod enc Try.prog W 0 (fun _ => true) true n T' ((cs.drop off).take (Try.prog.cellsOf T')) = some y := by
  split at hL
  · rename_i fs hu
    cases hL
    obtain ⟨xs, n, _, _, hlen, hxl, hf⟩ := DataW.trod_struct hu h
    refine ⟨hlen, n, fun i T' off hi => ?_⟩
    rw [List.getElem?_map] at hi
    cases hfi : fs.toList[i]? with
    | none => rw [hfi] at hi; cases hi
    | some f =>
      rw [hfi] at hi
      simp only [Option.map_some, Option.some.injEq, Prod.mk.injEq] at hi
      obtain ⟨rfl, rfl⟩ := hi
      have hfs : fs[i]? = some f := by rw [← Array.getElem?_toList]; exact hfi
      have := hf i f hfs
      have hix : i < xs.length := by rw [hxl]; exact (Array.getElem?_eq_some_iff.1 hfs).1
      rw [List.getElem?_eq_getElem hix] at this
      exact ⟨_, this⟩
  · cases hL

theorem u5 : Try.prog.underlying 5 = some (.int .u8) := by kernel_rfl
theorem u3 : Try.prog.underlying 3 = some (.int .i64) := by kernel_rfl
theorem word_of {fuel : Nat} {cs : List Value} {x : DataW H × List MemPlace} (h : DataW.trod enc Try.prog W 0 (fun _ => true) true fuel 47 cs = some x) : ∃ a b : Int, cs = [.int .i64 a, .int .i64 b] := by
  obtain ⟨hlen, n, hf⟩ := fields_of (L := [(3, 0), (3, 1)]) (by kernel_rfl) h
  rw [show Try.prog.cellsOf 47 = 2 by kernel_rfl] at hlen
  have c3 : Try.prog.cellsOf 3 = 1 := by kernel_rfl
  match cs, hlen with
  | [v0, v1], _ =>
    obtain ⟨y0, h0⟩ := hf 0 3 0 rfl
    obtain ⟨y1, h1⟩ := hf 1 3 1 rfl
    rw [c3] at h0 h1
    obtain ⟨a, e0, _⟩ := DataW.trod_int u3 h0
    obtain ⟨b, e1, _⟩ := DataW.trod_int u3 h1
    simp at e0 e1
    exact ⟨a, b, by rw [e0, e1]⟩

theorem act_of {fuel : Nat} {cs : List Value} {x : DataW H × List MemPlace} (h : DataW.trod enc Try.prog W 0 (fun _ => true) true fuel 50 cs = some x) :
    ∃ (y : ActG) (bs : List Bool), ofVals cs = y.cells ∧ SomeAt (oldSt W).old y bs ∧ (0 ≤ y.d ∧ y.d < 256 ∧ 0 ≤ y.hn ∧ y.hn < 256) := by
  obtain ⟨hlen, n, hf⟩ := fields_of (L := [(5, 0), (5, 1), (3, 2), (3, 3), (3, 4), (3, 5), (47, 6), (47, 8), (48, 10)]) (by kernel_rfl) h
  rw [show Try.prog.cellsOf 50 = 11 by kernel_rfl] at hlen
  have c3 : Try.prog.cellsOf 3 = 1 := by kernel_rfl
  have c5 : Try.prog.cellsOf 5 = 1 := by kernel_rfl
  have c47 : Try.prog.cellsOf 47 = 2 := by kernel_rfl
  have c48 : Try.prog.cellsOf 48 = 1 := by kernel_rfl
  match cs, hlen with
  | [v0, v1, v2, v3, v4, v5, v6, v7, v8, v9, v10], _ =>
    obtain ⟨y0, h0⟩ := hf 0 5 0 rfl
    obtain ⟨y1, h1⟩ := hf 1 5 1 rfl
    obtain ⟨y2, h2⟩ := hf 2 3 2 rfl
    obtain ⟨y3, h3⟩ := hf 3 3 3 rfl
    obtain ⟨y4, h4⟩ := hf 4 3 4 rfl
    obtain ⟨y5, h5⟩ := hf 5 3 5 rfl
    obtain ⟨y6, h6⟩ := hf 6 47 6 rfl
    obtain ⟨y7, h7⟩ := hf 7 47 8 rfl
    obtain ⟨y8, h8⟩ := hf 8 48 10 rfl
    rw [c5] at h0 h1
    rw [c3] at h2 h3 h4 h5
    rw [c47] at h6 h7
    rw [c48] at h8
    obtain ⟨d, e0, _, w0⟩ := DataW.trod_int u5 h0
    obtain ⟨hn, e1, _, w1⟩ := DataW.trod_int u5 h1
    obtain ⟨a, e2, _⟩ := DataW.trod_int u3 h2
    obtain ⟨b, e3, _⟩ := DataW.trod_int u3 h3
    obtain ⟨c, e4, _⟩ := DataW.trod_int u3 h4
    obtain ⟨wh, e5, _⟩ := DataW.trod_int u3 h5
    obtain ⟨w1', w2', e6⟩ := word_of h6
    obtain ⟨z1, z2, e7⟩ := word_of h7
    obtain ⟨sa, sn, sc, bs, e8, hS⟩ := someAt_of h8
    simp only [List.drop_zero, List.drop_succ_cons, List.take_succ_cons, List.take_zero, List.cons.injEq, and_true] at e0 e1 e2 e3 e4 e5 e6 e7 e8
    obtain ⟨rfl, rfl⟩ := e6
    obtain ⟨rfl, rfl⟩ := e7
    subst e0 e1 e2 e3 e4 e5
    refine ⟨⟨d, hn, a, b, c, wh, (w1', w2'), (z1, z2), sa, sn, sc⟩, bs, ?_, hS _ rfl rfl rfl, ?_⟩
    · simp only [ofVals, List.cons.injEq, and_true] at e8
      simp only [ofVals, e8]
      rfl
    · have m : ∀ n : Int, (Lit.int .u8 n).wf = true → 0 ≤ n ∧ n < 256 := by
        intro n hw
        simp only [Lit.wf, Bool.and_eq_true, decide_eq_true_eq] at hw
        have e1 : IntKind.u8.min = 0 := by decide
        have e2 : IntKind.u8.max = 255 := by decide
        rw [e1, e2] at hw
        omega
      have := m d w0
      have := m hn w1
      simp only; omega

instance : Inhabited (ActG × List Bool) := ⟨⟨⟨0, 0, 0, 0, 0, 0, (0, 0), (0, 0), none, 0, none⟩, []⟩⟩
theorem acts_of {fuel : Nat} {v : Value} {x : DataW H × List MemPlace} (hw : ∀ es sp, x.1 = .slice es sp → es.length < 2 ^ 61) (h : DataW.trod enc Try.prog W 0 (fun _ => true) true fuel 35 [v] = some x) : ∃ l : List (ActG × List Bool), ActsAt (oldSt W).old (ofVal v) l ∧ l.length < 2 ^ 61 := by
  rcases Go.Deep.open_slice (P := Try.prog) (t := 35) (e := 50) (by kernel_rfl) h with ⟨e, _⟩ | ⟨a, len, cap, m, n, D, Pl, e, hb, hl, hm, hmm, hxe, hx⟩
  · cases e
    exact ⟨[], ⟨rfl, fun i hi => by simp at hi, fun x hx => (by cases hx), fun x hx => (by cases hx)⟩, by simp⟩
  · cases e
    have c50 : Try.prog.cellsOf 50 = 11 := by kernel_rfl
    rw [c50] at hx
    have hm' : m = cap := by simpa using hmm
    have hsp : 0 < cap → a.spot = none := fun hc => by
      obtain ⟨cs, h1, _⟩ := hx 0 (by omega)
      exact (rd (by omega) h1).1
    have each : ∀ i, i < len → ∃ (y : ActG) (bs : List Bool), (∃ C, (oldSt W).old a.block = some (.cells C none) ∧ cut C (a.off + i * 11) 11 = some y.cells) ∧ SomeAt (oldSt W).old y bs ∧ (0 ≤ y.d ∧ y.d < 256 ∧ 0 ≤ y.hn ∧ y.hn < 256) := by
      intro i hi
      obtain ⟨cs, h1, h2⟩ := hx i (by omega)
      obtain ⟨y, bs, e1, e2, e3⟩ := act_of h2
      obtain ⟨_, C, k1, k2⟩ := rd (by omega) h1
      rw [e1] at k2
      have b1 : (a.add (i * 11)).block = a.block := by unfold Addr.add; split <;> rfl
      have b2 : (a.add (i * 11)).off = a.off + i * 11 := by unfold Addr.add; split <;> simp_all
      rw [b1] at k1
      rw [b2] at k2
      exact ⟨y, bs, ⟨C, k1, k2⟩, e2, e3⟩
    obtain ⟨f, hf⟩ := Go.Deep.choose_lt (α := ActG × List Bool) (p := fun i q => (∃ C, (oldSt W).old a.block = some (.cells C none) ∧ cut C (a.off + i * 11) 11 = some q.1.cells) ∧ SomeAt (oldSt W).old q.1 q.2 ∧ (0 ≤ q.1.d ∧ q.1.d < 256 ∧ 0 ≤ q.1.hn ∧ q.1.hn < 256)) (fun i hi => by
      obtain ⟨y, bs, h⟩ := each i hi
      exact ⟨(y, bs), h⟩)
    refine ⟨(List.range len).map f, ⟨?_, fun i hi => ?_, ?_, ?_⟩, ?_⟩
    · rw [ofVal_slice hl hsp, lenV_slice]; simp
    · simp at hi
      obtain ⟨⟨C, k1, k2⟩, _⟩ := hf i hi
      rw [ofVal_slice hl hsp]
      refine ⟨⟨.old a.block, a.off + i * 11⟩, ix_old hi, fun s hs => ?_⟩
      simp only [List.getElem_map, List.getElem_range]
      refine ⟨old_load hs k1 k2, old_load1 hs k1 ?_⟩
      rw [show a.off + i * 11 + 10 = (a.off + i * 11) + 10 from rfl, cut_get k2 (by omega)]
      rfl
    · intro x hx
      obtain ⟨i, hi, rfl⟩ := List.mem_map.1 hx
      exact (hf i (List.mem_range.1 hi)).2.1
    · intro x hx
      obtain ⟨i, hi, rfl⟩ := List.mem_map.1 hx
      exact (hf i (List.mem_range.1 hi)).2.2
    · have := hw _ _ (by rw [hxe])
      simpa using this
end
open Go.ChangeAt
theorem Try.own' : ownKnob Try.prog.godebug = none := by kernel_rfl
theorem Try.laidOut' : laidOutB Try.prog = true := by kernel_rfl
theorem Try.mixed' : Try.prog.follows .mixedOrders = true := by kernel_rfl

theorem sized_acts {H : Type} {ts : List TypeId} {ds : List (DataW H)} (h : (DataW.weightsEach Try.prog ts ds).all (· ≤ reachBytes) = true) {j : Nat} (ht : ts[j]? = some 35) {d : DataW H} (hd : ds[j]? = some d) :
    ∀ es sp, d = .slice es sp → es.length < 2 ^ 61 := by
  intro es sp e
  subst e
  have h1 := sized_slice (e := 50) h ht hd (by kernel_rfl)
  have hb : (decide (0 < Try.prog.bytesOf 50)) = true := by kernel_rfl
  have hb' : 0 < Try.prog.bytesOf 50 := of_decide_eq_true hb
  have h2 : es.length ≤ (es.length + sp.length) * Try.prog.bytesOf 50 := Nat.le_trans (Nat.le_add_right _ _) (Nat.le_mul_of_pos_right _ hb')
  have h3 : reachBytes < 2 ^ 61 := by decide
  omega

theorem u8_range {n : Int} (h : (Lit.int .u8 n).wf = true) : 0 ≤ n ∧ n < 256 := by
  have h1 : (decide (IntKind.u8.min ≤ n) && decide (n ≤ IntKind.u8.max)) = true := h
  rw [Bool.and_eq_true, decide_eq_true_eq, decide_eq_true_eq] at h1
  have e1 : IntKind.u8.min = 0 := rfl
  have e2 : IntKind.u8.max = 255 := rfl
  omega
end Go.Proofs.Ytoldkemimhebaaa
